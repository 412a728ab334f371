/- What the functions compute, and that they do (printed by wip/gen/gen.py), part 1. -/
import Derived.Test.YtnpemocpfdgaoaaWlK8
import Derived.Test.YtnpemocpfdgaoaaRows
import Derived.Test.YtnpemocpfdgaoaaGenTr
set_option linter.unusedVariables false
set_option linter.unusedSimpArgs false
namespace Go.Proofs.Ytnpemocpfdgaoaa
open Go Go.Ab
set_option maxRecDepth 20000
set_option maxHeartbeats 2000000
def c2D : FC := (.seq (.reg [oO 2 (.mv (.v .nils))] []) (.seq (.seq (.reg [oO 3 (.mv (.t 0)), oO 4 (.bin .flat .eql (.t 3) (.v .nils))] []) (.cond (.t 4) (.seq (.reg [oO 2 (.mv (.v .nils))] []) .ret) .skip)) (.seq (.reg [oO 5 (.bsl none [(.int .u64 0)] 0 []), oO 6 (.mv (.t 0)), oO 7 (.app none 8 (.t 5) (.t 6)), oO 2 (.mv (.t 7))] []) .ret)))
theorem c3k : Fn3 Try.prog 66 8 [(2, none)] c2D := ⟨_, _, Try.func66, rfl, rfl, rfl, by kernel_rfl⟩
def v5 (s00 : List Int) : Option (List Int) :=
  ((b0W 8 [] s00).bind fun l1 => (some l1))
theorem a2f {s00 : List Int} {r : List Int} (h : v5 s00 = some r) : n0 Try.prog 66 [.sl false 1 (List.map (avI .u64) s00)] (.sl false 1 (List.map (avI .u64) r)) := by
 unfold v5 at h
 obtain ⟨l1, hl1, h2⟩ := f7 h
 clear h
 refine a5y (fun hx => ?_) (fun hx => ?_) (fun hx => ?_)
 {
 obtain rfl : s00 = [] := by simpa using hx
 have e : l1 = [] := by unfold b0W at hl1; split at hl1 <;> simp_all
 subst e
 refine k9 mixed c3k zS [5] 6 ?_
 unfold c2D
 refine g9 (d6 (oM .nils (c7 (j1 (a1P (g9 (d6 (oM .nils (oP (.bool true) (c7 (j1 (g9 ?_))))))))))))
 refine f9 (t := true) rfl (fun hb => ?_) (fun hb => ?_)
 {
 refine g9 (d6 (oM .nils (c7 (j1 (g8 (f6 ?_))))))
 cases h2
 exact ⟨trivial, _, rfl, (y1 rfl .nil)⟩
 }
 {
 cases hb
 }
 }
 {
 obtain rfl : s00 = [] := by simpa using hx
 refine k9 mixed c3k zS [5] 6 ?_
 unfold c2D
 refine g9 (d6 (oM .nils (c7 (j1 (a1P (g9 (d6 (oM (.snn 1) (oP (.bool false) (c7 (j1 (g9 ?_))))))))))))
 refine f9 (t := false) rfl (fun hb => ?_) (fun hb => ?_)
 {
 cases hb
 }
 {
 refine m0 (j1 (g9 (d6 (a0H (v' := .ref 0 0 0 0 none) (S' := [.arr 0 []]) rfl rfl rfl (oM (.snn 1) (b0Z (S' := [.arr 1 (flat (avI .u64) l1)]) (m9 .u64) (l := []) rfl (rfl) rfl hl1 rfl (oM (.ref 0 1 0 (List.length l1) none) (c7 (j1 (g8 ?_))))))))))
 cases h2
 exact ⟨trivial, _, rfl, (a6X (m9 .u64) (Nat.zero_le _) rfl)⟩
 }
 }
 {
 obtain ⟨x, xs, rfl⟩ : ∃ x xs, s00 = x :: xs := by cases s00 with | nil => exact (hx rfl).elim | cons x xs => exact ⟨x, xs, rfl⟩
 refine k9 mixed c3k zS [5] 6 ?_
 unfold c2D
 refine g9 (d6 (oM .nils (c7 (j1 (a1P (g9 (d6 (oM (.sl false 1 (List.map (avI .u64) (x :: xs))) (oP (.bool false) (c7 (j1 (g9 ?_))))))))))))
 refine f9 (t := false) rfl (fun hb => ?_) (fun hb => ?_)
 {
 cases hb
 }
 {
 refine m0 (j1 (g9 (d6 (a0H (v' := .ref 0 0 0 0 none) (S' := [.arr 0 []]) rfl rfl rfl (oM (.sl false 1 (List.map (avI .u64) (x :: xs))) (b0Z (S' := [.arr 1 (flat (avI .u64) l1)]) (m9 .u64) (l := []) rfl (a4l (x :: xs)) rfl hl1 rfl (oM (.ref 0 1 0 (List.length l1) none) (c7 (j1 (g8 ?_))))))))))
 cases h2
 exact ⟨trivial, _, rfl, (a6X (m9 .u64) (Nat.zero_le _) rfl)⟩
 }
 }
def c2E : FC := (.seq (.reg [oO 2 (.mv (.v .nils))] []) (.seq (.seq (.reg [oO 3 (.mv (.t 0)), oO 4 (.bin .flat .eql (.t 3) (.v .nils))] []) (.cond (.t 4) (.seq (.reg [oO 2 (.mv (.v .nils))] []) .ret) .skip)) (.seq (.reg [oO 5 (.bsl (some 2) [(.int .i64 0), (.int .u64 0)] 0 []), oO 6 (.mv (.t 0)), oO 7 (.app (some 2) 16 (.t 5) (.t 6)), oO 2 (.mv (.t 7))] []) .ret)))
theorem c3l : Fn3 Try.prog 68 8 [(2, none)] c2E := ⟨_, _, Try.func68, rfl, rfl, rfl, by kernel_rfl⟩
def v6 (s00 : List k6) : Option (List k6) :=
  ((b0W 16 [] s00).bind fun l1 => (some l1))
theorem a2g {s00 : List k6} {r : List k6} (h : v6 s00 = some r) : n0 Try.prog 68 [.sl false 2 (List.map k6.av s00)] (.sl false 2 (List.map k6.av r)) := by
 unfold v6 at h
 obtain ⟨l1, hl1, h2⟩ := f7 h
 clear h
 refine a5y (fun hx => ?_) (fun hx => ?_) (fun hx => ?_)
 {
 obtain rfl : s00 = [] := by simpa using hx
 have e : l1 = [] := by unfold b0W at hl1; split at hl1 <;> simp_all
 subst e
 refine k9 mixed c3l zS [5] 6 ?_
 unfold c2E
 refine g9 (d6 (oM .nils (c7 (j1 (a1P (g9 (d6 (oM .nils (oP (.bool true) (c7 (j1 (g9 ?_))))))))))))
 refine f9 (t := true) rfl (fun hb => ?_) (fun hb => ?_)
 {
 refine g9 (d6 (oM .nils (c7 (j1 (g8 (f6 ?_))))))
 cases h2
 exact ⟨trivial, _, rfl, (y1 rfl .nil)⟩
 }
 {
 cases hb
 }
 }
 {
 obtain rfl : s00 = [] := by simpa using hx
 refine k9 mixed c3l zS [5] 6 ?_
 unfold c2E
 refine g9 (d6 (oM .nils (c7 (j1 (a1P (g9 (d6 (oM (.snn 2) (oP (.bool false) (c7 (j1 (g9 ?_))))))))))))
 refine f9 (t := false) rfl (fun hb => ?_) (fun hb => ?_)
 {
 cases hb
 }
 {
 refine m0 (j1 (g9 (d6 (a0H (v' := .ref 0 0 0 0 (some 2)) (S' := [.arr 0 []]) rfl rfl rfl (oM (.snn 2) (b0Z (S' := [.arr 1 (flat k6.av l1)]) k6.enc (l := []) rfl (rfl) rfl hl1 rfl (oM (.ref 0 1 0 (List.length l1) (some 2)) (c7 (j1 (g8 ?_))))))))))
 cases h2
 exact ⟨trivial, _, rfl, (a6X k6.enc (Nat.zero_le _) rfl)⟩
 }
 }
 {
 obtain ⟨x, xs, rfl⟩ : ∃ x xs, s00 = x :: xs := by cases s00 with | nil => exact (hx rfl).elim | cons x xs => exact ⟨x, xs, rfl⟩
 refine k9 mixed c3l zS [5] 6 ?_
 unfold c2E
 refine g9 (d6 (oM .nils (c7 (j1 (a1P (g9 (d6 (oM (.sl false 2 (List.map k6.av (x :: xs))) (oP (.bool false) (c7 (j1 (g9 ?_))))))))))))
 refine f9 (t := false) rfl (fun hb => ?_) (fun hb => ?_)
 {
 cases hb
 }
 {
 refine m0 (j1 (g9 (d6 (a0H (v' := .ref 0 0 0 0 (some 2)) (S' := [.arr 0 []]) rfl rfl rfl (oM (.sl false 2 (List.map k6.av (x :: xs))) (b0Z (S' := [.arr 1 (flat k6.av l1)]) k6.enc (l := []) rfl (a4l (x :: xs)) rfl hl1 rfl (oM (.ref 0 1 0 (List.length l1) (some 2)) (c7 (j1 (g8 ?_))))))))))
 cases h2
 exact ⟨trivial, _, rfl, (a6X k6.enc (Nat.zero_le _) rfl)⟩
 }
 }
end Go.Proofs.Ytnpemocpfdgaoaa

