/- What the functions compute, and that they do (printed by wip/gen/gen.py), part 1. -/
import Derived.Test.YtnpemocpfdgaoaaWlH2
import Derived.Test.YtnpemocpfdgaoaaRows
import Derived.Test.YtnpemocpfdgaoaaGenTr
set_option linter.unusedVariables false
set_option linter.unusedSimpArgs false
namespace Go.Proofs.Ytnpemocpfdgaoaa
open Go Go.Ab
set_option maxRecDepth 20000
set_option maxHeartbeats 2000000
def c2Y : FC := (.seq (.reg [oO 2 (.mv (.v .nils))] []) (.seq (.seq (.reg [oO 3 (.mv (.t 0)), oO 4 (.bin .flat .eql (.t 3) (.v .nils))] []) (.cond (.t 4) (.seq (.reg [oO 2 (.mv (.v .nils))] []) .ret) .skip)) (.seq (.reg [oO 5 (.bsl none [(.int .u64 0)] 0 []), oO 6 (.mv (.t 0)), oO 7 (.app none 8 (.t 5) (.t 6)), oO 2 (.mv (.t 7))] []) .ret)))
theorem c4F : Fn3 Try.prog 66 8 [(2, none)] c2Y := ⟨_, _, Try.func66, rfl, rfl, rfl, by kernel_rfl⟩
def t7 (s00 : List Int) : Option (List Int) :=
  ((a2q 8 [] s00).bind fun l1 => (some l1))
theorem a2u {s00 : List Int} {r : List Int} (h : t7 s00 = some r) : PureEv Try.prog 66 [.sl false 1 (List.map (avI .u64) s00)] (.sl false 1 (List.map (avI .u64) r)) := by
 unfold t7 at h
 obtain ⟨l1, hl1, h2⟩ := f6 h
 clear h
 refine a4i (fun hx => ?_) (fun hx => ?_) (fun hx => ?_)
 {
 obtain rfl : s00 = [] := by simpa using hx
 have e : l1 = [] := by unfold a2q at hl1; split at hl1 <;> simp_all
 subst e
 refine j4 mixed c4F zS [5] 6 ?_
 unfold c2Y
 refine d6 (c7 (oM .nils (b9 (d8 (w4 (d6 (c7 (oM .nils (oP (.bool true) (b9 (d8 (d6 ?_))))))))))))
 refine d9 (t := true) rfl (fun hb => ?_) (fun hb => ?_)
 {
 refine d6 (c7 (oM .nils (b9 (d8 (f9 (d7 ?_))))))
 cases h2
 exact ⟨trivial, _, rfl, (j8 rfl .nil)⟩
 }
 {
 cases hb
 }
 }
 {
 obtain rfl : s00 = [] := by simpa using hx
 refine j4 mixed c4F zS [5] 6 ?_
 unfold c2Y
 refine d6 (c7 (oM .nils (b9 (d8 (w4 (d6 (c7 (oM (.snn 1) (oP (.bool false) (b9 (d8 (d6 ?_))))))))))))
 refine d9 (t := false) rfl (fun hb => ?_) (fun hb => ?_)
 {
 cases hb
 }
 {
 refine i8 (d8 (d6 (c7 (a0C (v' := .ref 0 0 0 0 none) (S' := [.arr 0 []]) rfl rfl rfl (oM (.snn 1) (a1w (S' := [.arr 1 (flat (avI .u64) l1)]) (f4 .u64) (l := []) rfl (rfl) rfl hl1 rfl (oM (.ref 0 1 0 (List.length l1) none) (b9 (d8 (f9 ?_))))))))))
 cases h2
 exact ⟨trivial, _, rfl, (a1t (f4 .u64) (Nat.zero_le _) rfl)⟩
 }
 }
 {
 obtain ⟨x, xs, rfl⟩ : ∃ x xs, s00 = x :: xs := by cases s00 with | nil => exact (hx rfl).elim | cons x xs => exact ⟨x, xs, rfl⟩
 refine j4 mixed c4F zS [5] 6 ?_
 unfold c2Y
 refine d6 (c7 (oM .nils (b9 (d8 (w4 (d6 (c7 (oM (.sl false 1 (List.map (avI .u64) (x :: xs))) (oP (.bool false) (b9 (d8 (d6 ?_))))))))))))
 refine d9 (t := false) rfl (fun hb => ?_) (fun hb => ?_)
 {
 cases hb
 }
 {
 refine i8 (d8 (d6 (c7 (a0C (v' := .ref 0 0 0 0 none) (S' := [.arr 0 []]) rfl rfl rfl (oM (.sl false 1 (List.map (avI .u64) (x :: xs))) (a1w (S' := [.arr 1 (flat (avI .u64) l1)]) (f4 .u64) (l := []) rfl (u9 (x :: xs)) rfl hl1 rfl (oM (.ref 0 1 0 (List.length l1) none) (b9 (d8 (f9 ?_))))))))))
 cases h2
 exact ⟨trivial, _, rfl, (a1t (f4 .u64) (Nat.zero_le _) rfl)⟩
 }
 }
def c2Z : FC := (.seq (.reg [oO 2 (.mv (.v .nils))] []) (.seq (.seq (.reg [oO 3 (.mv (.t 0)), oO 4 (.bin .flat .eql (.t 3) (.v .nils))] []) (.cond (.t 4) (.seq (.reg [oO 2 (.mv (.v .nils))] []) .ret) .skip)) (.seq (.reg [oO 5 (.bsl (some 2) [(.int .i64 0), (.int .u64 0)] 0 []), oO 6 (.mv (.t 0)), oO 7 (.app (some 2) 16 (.t 5) (.t 6)), oO 2 (.mv (.t 7))] []) .ret)))
theorem c4G : Fn3 Try.prog 68 8 [(2, none)] c2Z := ⟨_, _, Try.func68, rfl, rfl, rfl, by kernel_rfl⟩
def t8 (s00 : List j7) : Option (List j7) :=
  ((a2q 16 [] s00).bind fun l1 => (some l1))
theorem a2v {s00 : List j7} {r : List j7} (h : t8 s00 = some r) : PureEv Try.prog 68 [.sl false 2 (List.map j7.av s00)] (.sl false 2 (List.map j7.av r)) := by
 unfold t8 at h
 obtain ⟨l1, hl1, h2⟩ := f6 h
 clear h
 refine a4i (fun hx => ?_) (fun hx => ?_) (fun hx => ?_)
 {
 obtain rfl : s00 = [] := by simpa using hx
 have e : l1 = [] := by unfold a2q at hl1; split at hl1 <;> simp_all
 subst e
 refine j4 mixed c4G zS [5] 6 ?_
 unfold c2Z
 refine d6 (c7 (oM .nils (b9 (d8 (w4 (d6 (c7 (oM .nils (oP (.bool true) (b9 (d8 (d6 ?_))))))))))))
 refine d9 (t := true) rfl (fun hb => ?_) (fun hb => ?_)
 {
 refine d6 (c7 (oM .nils (b9 (d8 (f9 (d7 ?_))))))
 cases h2
 exact ⟨trivial, _, rfl, (j8 rfl .nil)⟩
 }
 {
 cases hb
 }
 }
 {
 obtain rfl : s00 = [] := by simpa using hx
 refine j4 mixed c4G zS [5] 6 ?_
 unfold c2Z
 refine d6 (c7 (oM .nils (b9 (d8 (w4 (d6 (c7 (oM (.snn 2) (oP (.bool false) (b9 (d8 (d6 ?_))))))))))))
 refine d9 (t := false) rfl (fun hb => ?_) (fun hb => ?_)
 {
 cases hb
 }
 {
 refine i8 (d8 (d6 (c7 (a0C (v' := .ref 0 0 0 0 (some 2)) (S' := [.arr 0 []]) rfl rfl rfl (oM (.snn 2) (a1w (S' := [.arr 1 (flat j7.av l1)]) j7.enc (l := []) rfl (rfl) rfl hl1 rfl (oM (.ref 0 1 0 (List.length l1) (some 2)) (b9 (d8 (f9 ?_))))))))))
 cases h2
 exact ⟨trivial, _, rfl, (a1t j7.enc (Nat.zero_le _) rfl)⟩
 }
 }
 {
 obtain ⟨x, xs, rfl⟩ : ∃ x xs, s00 = x :: xs := by cases s00 with | nil => exact (hx rfl).elim | cons x xs => exact ⟨x, xs, rfl⟩
 refine j4 mixed c4G zS [5] 6 ?_
 unfold c2Z
 refine d6 (c7 (oM .nils (b9 (d8 (w4 (d6 (c7 (oM (.sl false 2 (List.map j7.av (x :: xs))) (oP (.bool false) (b9 (d8 (d6 ?_))))))))))))
 refine d9 (t := false) rfl (fun hb => ?_) (fun hb => ?_)
 {
 cases hb
 }
 {
 refine i8 (d8 (d6 (c7 (a0C (v' := .ref 0 0 0 0 (some 2)) (S' := [.arr 0 []]) rfl rfl rfl (oM (.sl false 2 (List.map j7.av (x :: xs))) (a1w (S' := [.arr 1 (flat j7.av l1)]) j7.enc (l := []) rfl (u9 (x :: xs)) rfl hl1 rfl (oM (.ref 0 1 0 (List.length l1) (some 2)) (b9 (d8 (f9 ?_))))))))))
 cases h2
 exact ⟨trivial, _, rfl, (a1t j7.enc (Nat.zero_le _) rfl)⟩
 }
 }
end Go.Proofs.Ytnpemocpfdgaoaa

