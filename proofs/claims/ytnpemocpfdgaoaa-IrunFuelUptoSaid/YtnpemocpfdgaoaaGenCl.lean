/- What the functions compute, and that they do (printed by wip/gen/gen.py), part 1. -/
import Derived.Test.YtnpemocpfdgaoaaWlK8
import Derived.Test.YtnpemocpfdgaoaaRows
import Derived.Test.YtnpemocpfdgaoaaGenTr
set_option linter.unusedVariables false
set_option linter.unusedSimpArgs false
namespace Go.Proofs.Ytnpemocpfdgaoaa
open Go Go.Ab
set_option maxRecDepth 20000
set_option maxHeartbeats 2000000
def c2M : FC := (.seq (.reg [oO 2 (.mv (.v .nils))] []) (.seq (.seq (.reg [oO 3 (.mv (.t 0)), oO 4 (.bin .flat .eql (.t 3) (.v .nils))] []) (.cond (.t 4) (.seq (.reg [oO 2 (.mv (.v .nils))] []) .ret) .skip)) (.seq (.reg [oO 5 (.bsl none [(.int .u64 0)] 0 []), oO 6 (.mv (.t 0)), oO 7 (.app none 8 (.t 5) (.t 6)), oO 2 (.mv (.t 7))] []) .ret)))
theorem c3s : Fn3 Try.prog 66 8 [(2, none)] c2M := ⟨_, _, Try.func66, rfl, rfl, rfl, by kernel_rfl⟩
def v8 (s00 : List Int) : Option (List Int) :=
  ((b1n 8 [] s00).bind fun l1 => (some l1))
theorem a2m {s00 : List Int} {r : List Int} (h : v8 s00 = some r) : n0 Try.prog 66 [.sl false 1 (List.map (avI .u64) s00)] (.sl false 1 (List.map (avI .u64) r)) := by
 unfold v8 at h
 obtain ⟨l1, hl1, h2⟩ := f7 h
 clear h
 refine a5Q (fun hx => ?_) (fun hx => ?_) (fun hx => ?_)
 {
 obtain rfl : s00 = [] := by simpa using hx
 have e : l1 = [] := by unfold b1n at hl1; split at hl1 <;> simp_all
 subst e
 refine k9 mixed c3s zS [5] 6 ?_
 unfold c2M
 refine g9 (d6 (oM .nils (c7 (i9 (a1k (g9 (d6 (oM .nils (oP (.bool true) (c7 (i9 (g9 ?_))))))))))))
 refine g5 (t := true) rfl (fun hb => ?_) (fun hb => ?_)
 {
 refine g9 (d6 (oM .nils (c7 (i9 (g7 (f5 ?_))))))
 cases h2
 exact ⟨trivial, _, rfl, (x7 rfl .nil)⟩
 }
 {
 cases hb
 }
 }
 {
 obtain rfl : s00 = [] := by simpa using hx
 refine k9 mixed c3s zS [5] 6 ?_
 unfold c2M
 refine g9 (d6 (oM .nils (c7 (i9 (a1k (g9 (d6 (oM (.snn 1) (oP (.bool false) (c7 (i9 (g9 ?_))))))))))))
 refine g5 (t := false) rfl (fun hb => ?_) (fun hb => ?_)
 {
 cases hb
 }
 {
 refine m0 (i9 (g9 (d6 (a0m (v' := .ref 0 0 0 0 none) (S' := [.arr 0 []]) rfl rfl rfl (oM (.snn 1) (b1p (S' := [.arr 1 (flat (avI .u64) l1)]) (p4 .u64) (l := []) rfl (rfl) rfl hl1 rfl (oM (.ref 0 1 0 (List.length l1) none) (c7 (i9 (g7 ?_))))))))))
 cases h2
 exact ⟨trivial, _, rfl, (a7u (p4 .u64) (Nat.zero_le _) rfl)⟩
 }
 }
 {
 obtain ⟨x, xs, rfl⟩ : ∃ x xs, s00 = x :: xs := by cases s00 with | nil => exact (hx rfl).elim | cons x xs => exact ⟨x, xs, rfl⟩
 refine k9 mixed c3s zS [5] 6 ?_
 unfold c2M
 refine g9 (d6 (oM .nils (c7 (i9 (a1k (g9 (d6 (oM (.sl false 1 (List.map (avI .u64) (x :: xs))) (oP (.bool false) (c7 (i9 (g9 ?_))))))))))))
 refine g5 (t := false) rfl (fun hb => ?_) (fun hb => ?_)
 {
 cases hb
 }
 {
 refine m0 (i9 (g9 (d6 (a0m (v' := .ref 0 0 0 0 none) (S' := [.arr 0 []]) rfl rfl rfl (oM (.sl false 1 (List.map (avI .u64) (x :: xs))) (b1p (S' := [.arr 1 (flat (avI .u64) l1)]) (p4 .u64) (l := []) rfl (a4v (x :: xs)) rfl hl1 rfl (oM (.ref 0 1 0 (List.length l1) none) (c7 (i9 (g7 ?_))))))))))
 cases h2
 exact ⟨trivial, _, rfl, (a7u (p4 .u64) (Nat.zero_le _) rfl)⟩
 }
 }
def c2N : FC := (.seq (.reg [oO 2 (.mv (.v .nils))] []) (.seq (.seq (.reg [oO 3 (.mv (.t 0)), oO 4 (.bin .flat .eql (.t 3) (.v .nils))] []) (.cond (.t 4) (.seq (.reg [oO 2 (.mv (.v .nils))] []) .ret) .skip)) (.seq (.reg [oO 5 (.bsl (some 2) [(.int .i64 0), (.int .u64 0)] 0 []), oO 6 (.mv (.t 0)), oO 7 (.app (some 2) 16 (.t 5) (.t 6)), oO 2 (.mv (.t 7))] []) .ret)))
theorem c3t : Fn3 Try.prog 68 8 [(2, none)] c2N := ⟨_, _, Try.func68, rfl, rfl, rfl, by kernel_rfl⟩
def v9 (s00 : List f6) : Option (List f6) :=
  ((b1n 16 [] s00).bind fun l1 => (some l1))
theorem a2n {s00 : List f6} {r : List f6} (h : v9 s00 = some r) : n0 Try.prog 68 [.sl false 2 (List.map f6.av s00)] (.sl false 2 (List.map f6.av r)) := by
 unfold v9 at h
 obtain ⟨l1, hl1, h2⟩ := f7 h
 clear h
 refine a5Q (fun hx => ?_) (fun hx => ?_) (fun hx => ?_)
 {
 obtain rfl : s00 = [] := by simpa using hx
 have e : l1 = [] := by unfold b1n at hl1; split at hl1 <;> simp_all
 subst e
 refine k9 mixed c3t zS [5] 6 ?_
 unfold c2N
 refine g9 (d6 (oM .nils (c7 (i9 (a1k (g9 (d6 (oM .nils (oP (.bool true) (c7 (i9 (g9 ?_))))))))))))
 refine g5 (t := true) rfl (fun hb => ?_) (fun hb => ?_)
 {
 refine g9 (d6 (oM .nils (c7 (i9 (g7 (f5 ?_))))))
 cases h2
 exact ⟨trivial, _, rfl, (x7 rfl .nil)⟩
 }
 {
 cases hb
 }
 }
 {
 obtain rfl : s00 = [] := by simpa using hx
 refine k9 mixed c3t zS [5] 6 ?_
 unfold c2N
 refine g9 (d6 (oM .nils (c7 (i9 (a1k (g9 (d6 (oM (.snn 2) (oP (.bool false) (c7 (i9 (g9 ?_))))))))))))
 refine g5 (t := false) rfl (fun hb => ?_) (fun hb => ?_)
 {
 cases hb
 }
 {
 refine m0 (i9 (g9 (d6 (a0m (v' := .ref 0 0 0 0 (some 2)) (S' := [.arr 0 []]) rfl rfl rfl (oM (.snn 2) (b1p (S' := [.arr 1 (flat f6.av l1)]) f6.enc (l := []) rfl (rfl) rfl hl1 rfl (oM (.ref 0 1 0 (List.length l1) (some 2)) (c7 (i9 (g7 ?_))))))))))
 cases h2
 exact ⟨trivial, _, rfl, (a7u f6.enc (Nat.zero_le _) rfl)⟩
 }
 }
 {
 obtain ⟨x, xs, rfl⟩ : ∃ x xs, s00 = x :: xs := by cases s00 with | nil => exact (hx rfl).elim | cons x xs => exact ⟨x, xs, rfl⟩
 refine k9 mixed c3t zS [5] 6 ?_
 unfold c2N
 refine g9 (d6 (oM .nils (c7 (i9 (a1k (g9 (d6 (oM (.sl false 2 (List.map f6.av (x :: xs))) (oP (.bool false) (c7 (i9 (g9 ?_))))))))))))
 refine g5 (t := false) rfl (fun hb => ?_) (fun hb => ?_)
 {
 cases hb
 }
 {
 refine m0 (i9 (g9 (d6 (a0m (v' := .ref 0 0 0 0 (some 2)) (S' := [.arr 0 []]) rfl rfl rfl (oM (.sl false 2 (List.map f6.av (x :: xs))) (b1p (S' := [.arr 1 (flat f6.av l1)]) f6.enc (l := []) rfl (a4v (x :: xs)) rfl hl1 rfl (oM (.ref 0 1 0 (List.length l1) (some 2)) (c7 (i9 (g7 ?_))))))))))
 cases h2
 exact ⟨trivial, _, rfl, (a7u f6.enc (Nat.zero_le _) rfl)⟩
 }
 }
end Go.Proofs.Ytnpemocpfdgaoaa

