/- What the functions compute, and that they do (printed by wip/gen/gen.py), part 1. -/
import Derived.Test.YtnpemocpfdgaoaaWlH2
import Derived.Test.YtnpemocpfdgaoaaRows
import Derived.Test.YtnpemocpfdgaoaaGenTr
set_option linter.unusedVariables false
set_option linter.unusedSimpArgs false
namespace Go.Proofs.Ytnpemocpfdgaoaa
open Go Go.Ab
set_option maxRecDepth 20000
set_option maxHeartbeats 2000000
def c2A : FC := (.seq (.reg [oO 2 (.mv (.v .nils))] []) (.seq (.seq (.reg [oO 3 (.mv (.t 0)), oO 4 (.bin .flat .eql (.t 3) (.v .nils))] []) (.cond (.t 4) (.seq (.reg [oO 2 (.mv (.v .nils))] []) .ret) .skip)) (.seq (.reg [oO 5 (.bsl none [(.int .u64 0)] 0 []), oO 6 (.mv (.t 0)), oO 7 (.app none 8 (.t 5) (.t 6)), oO 2 (.mv (.t 7))] []) .ret)))
theorem c4i : Fn3 Try.prog 66 8 [(2, none)] c2A := ⟨_, _, Try.func66, rfl, rfl, rfl, by kernel_rfl⟩
def u1 (s00 : List Int) : Option (List Int) :=
  ((a2n 8 [] s00).bind fun l1 => (some l1))
theorem a2r {s00 : List Int} {r : List Int} (h : u1 s00 = some r) : m5 Try.prog 66 [.sl false 1 (List.map (avI .u64) s00)] (.sl false 1 (List.map (avI .u64) r)) := by
 unfold u1 at h
 obtain ⟨l1, hl1, h2⟩ := f7 h
 clear h
 refine a3X (fun hx => ?_) (fun hx => ?_) (fun hx => ?_)
 {
 obtain rfl : s00 = [] := by simpa using hx
 have e : l1 = [] := by unfold a2n at hl1; split at hl1 <;> simp_all
 subst e
 refine i9 mixed c4i zS [5] 6 ?_
 unfold c2A
 refine c9 (c7 (oM .nils (b9 (d8 (w7 (c9 (c7 (oM .nils (oP (.bool true) (b9 (d8 (c9 ?_))))))))))))
 refine f5 (t := true) rfl (fun hb => ?_) (fun hb => ?_)
 {
 refine c9 (c7 (oM .nils (b9 (d8 (f8 (d9 ?_))))))
 cases h2
 exact ⟨trivial, _, rfl, (j9 rfl .nil)⟩
 }
 {
 cases hb
 }
 }
 {
 obtain rfl : s00 = [] := by simpa using hx
 refine i9 mixed c4i zS [5] 6 ?_
 unfold c2A
 refine c9 (c7 (oM .nils (b9 (d8 (w7 (c9 (c7 (oM (.snn 1) (oP (.bool false) (b9 (d8 (c9 ?_))))))))))))
 refine f5 (t := false) rfl (fun hb => ?_) (fun hb => ?_)
 {
 cases hb
 }
 {
 refine i7 (d8 (c9 (c7 (a0n (v' := .ref 0 0 0 0 none) (S' := [.arr 0 []]) rfl rfl rfl (oM (.snn 1) (a1t (S' := [.arr 1 (flat (avI .u64) l1)]) (f4 .u64) (l := []) rfl (rfl) rfl hl1 rfl (oM (.ref 0 1 0 (List.length l1) none) (b9 (d8 (f8 ?_))))))))))
 cases h2
 exact ⟨trivial, _, rfl, (a1r (f4 .u64) (Nat.zero_le _) rfl)⟩
 }
 }
 {
 obtain ⟨x, xs, rfl⟩ : ∃ x xs, s00 = x :: xs := by cases s00 with | nil => exact (hx rfl).elim | cons x xs => exact ⟨x, xs, rfl⟩
 refine i9 mixed c4i zS [5] 6 ?_
 unfold c2A
 refine c9 (c7 (oM .nils (b9 (d8 (w7 (c9 (c7 (oM (.sl false 1 (List.map (avI .u64) (x :: xs))) (oP (.bool false) (b9 (d8 (c9 ?_))))))))))))
 refine f5 (t := false) rfl (fun hb => ?_) (fun hb => ?_)
 {
 cases hb
 }
 {
 refine i7 (d8 (c9 (c7 (a0n (v' := .ref 0 0 0 0 none) (S' := [.arr 0 []]) rfl rfl rfl (oM (.sl false 1 (List.map (avI .u64) (x :: xs))) (a1t (S' := [.arr 1 (flat (avI .u64) l1)]) (f4 .u64) (l := []) rfl (x9 (x :: xs)) rfl hl1 rfl (oM (.ref 0 1 0 (List.length l1) none) (b9 (d8 (f8 ?_))))))))))
 cases h2
 exact ⟨trivial, _, rfl, (a1r (f4 .u64) (Nat.zero_le _) rfl)⟩
 }
 }
def c2B : FC := (.seq (.reg [oO 2 (.mv (.v .nils))] []) (.seq (.seq (.reg [oO 3 (.mv (.t 0)), oO 4 (.bin .flat .eql (.t 3) (.v .nils))] []) (.cond (.t 4) (.seq (.reg [oO 2 (.mv (.v .nils))] []) .ret) .skip)) (.seq (.reg [oO 5 (.bsl (some 2) [(.int .i64 0), (.int .u64 0)] 0 []), oO 6 (.mv (.t 0)), oO 7 (.app (some 2) 16 (.t 5) (.t 6)), oO 2 (.mv (.t 7))] []) .ret)))
theorem c4j : Fn3 Try.prog 68 8 [(2, none)] c2B := ⟨_, _, Try.func68, rfl, rfl, rfl, by kernel_rfl⟩
def u2 (s00 : List j4) : Option (List j4) :=
  ((a2n 16 [] s00).bind fun l1 => (some l1))
theorem a2s {s00 : List j4} {r : List j4} (h : u2 s00 = some r) : m5 Try.prog 68 [.sl false 2 (List.map j4.av s00)] (.sl false 2 (List.map j4.av r)) := by
 unfold u2 at h
 obtain ⟨l1, hl1, h2⟩ := f7 h
 clear h
 refine a3X (fun hx => ?_) (fun hx => ?_) (fun hx => ?_)
 {
 obtain rfl : s00 = [] := by simpa using hx
 have e : l1 = [] := by unfold a2n at hl1; split at hl1 <;> simp_all
 subst e
 refine i9 mixed c4j zS [5] 6 ?_
 unfold c2B
 refine c9 (c7 (oM .nils (b9 (d8 (w7 (c9 (c7 (oM .nils (oP (.bool true) (b9 (d8 (c9 ?_))))))))))))
 refine f5 (t := true) rfl (fun hb => ?_) (fun hb => ?_)
 {
 refine c9 (c7 (oM .nils (b9 (d8 (f8 (d9 ?_))))))
 cases h2
 exact ⟨trivial, _, rfl, (j9 rfl .nil)⟩
 }
 {
 cases hb
 }
 }
 {
 obtain rfl : s00 = [] := by simpa using hx
 refine i9 mixed c4j zS [5] 6 ?_
 unfold c2B
 refine c9 (c7 (oM .nils (b9 (d8 (w7 (c9 (c7 (oM (.snn 2) (oP (.bool false) (b9 (d8 (c9 ?_))))))))))))
 refine f5 (t := false) rfl (fun hb => ?_) (fun hb => ?_)
 {
 cases hb
 }
 {
 refine i7 (d8 (c9 (c7 (a0n (v' := .ref 0 0 0 0 (some 2)) (S' := [.arr 0 []]) rfl rfl rfl (oM (.snn 2) (a1t (S' := [.arr 1 (flat j4.av l1)]) j4.enc (l := []) rfl (rfl) rfl hl1 rfl (oM (.ref 0 1 0 (List.length l1) (some 2)) (b9 (d8 (f8 ?_))))))))))
 cases h2
 exact ⟨trivial, _, rfl, (a1r j4.enc (Nat.zero_le _) rfl)⟩
 }
 }
 {
 obtain ⟨x, xs, rfl⟩ : ∃ x xs, s00 = x :: xs := by cases s00 with | nil => exact (hx rfl).elim | cons x xs => exact ⟨x, xs, rfl⟩
 refine i9 mixed c4j zS [5] 6 ?_
 unfold c2B
 refine c9 (c7 (oM .nils (b9 (d8 (w7 (c9 (c7 (oM (.sl false 2 (List.map j4.av (x :: xs))) (oP (.bool false) (b9 (d8 (c9 ?_))))))))))))
 refine f5 (t := false) rfl (fun hb => ?_) (fun hb => ?_)
 {
 cases hb
 }
 {
 refine i7 (d8 (c9 (c7 (a0n (v' := .ref 0 0 0 0 (some 2)) (S' := [.arr 0 []]) rfl rfl rfl (oM (.sl false 2 (List.map j4.av (x :: xs))) (a1t (S' := [.arr 1 (flat j4.av l1)]) j4.enc (l := []) rfl (x9 (x :: xs)) rfl hl1 rfl (oM (.ref 0 1 0 (List.length l1) (some 2)) (b9 (d8 (f8 ?_))))))))))
 cases h2
 exact ⟨trivial, _, rfl, (a1r j4.enc (Nat.zero_le _) rfl)⟩
 }
 }
end Go.Proofs.Ytnpemocpfdgaoaa

