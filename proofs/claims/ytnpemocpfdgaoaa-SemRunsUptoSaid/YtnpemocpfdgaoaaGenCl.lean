/- What the functions compute, and that they do (printed by wip/gen/gen.py), part 1. -/
import Derived.Test.YtnpemocpfdgaoaaWlK9
import Derived.Test.YtnpemocpfdgaoaaRows
import Derived.Test.YtnpemocpfdgaoaaGenTr
set_option linter.unusedVariables false
set_option linter.unusedSimpArgs false
namespace Go.Proofs.Ytnpemocpfdgaoaa
open Go Go.Ab
set_option maxRecDepth 20000
set_option maxHeartbeats 2000000
noncomputable def c1j : FC := fcO 66
theorem c2u : Fn3 Try.prog 66 8 [(2, none)] c1j := ⟨_, _, Try.func66, rfl, rfl, rfl, by kernel_rfl⟩
def a0m (s00 : List Int) : Option (List Int) :=
  ((a1d 8 [] s00).bind fun l1 => (some l1))
theorem a4q {s00 : List Int} {r : List Int} (h : a0m s00 = some r) : PureEv Try.prog 66 [.sl false 1 (List.map (avI .u64) s00)] (.sl false 1 (List.map (avI .u64) r)) := by
 unfold a0m at h
 obtain ⟨l1, hl1, h2⟩ := b9 h
 clear h
 refine a6r (fun hx => ?_) (fun hx => ?_) (fun hx => ?_)
 {
 obtain rfl : s00 = [] := by simpa using hx
 have e : l1 = [] := by unfold a1d at hl1; split at hl1 <;> simp_all
 subst e
 refine f9 mixed c2u zS [5] 6 ?_
 unfold c1j
 refine aU ?_
 refine E_cs (t := true) rfl (fun hb => ?_) (fun hb => ?_)
 {
 refine aU ?_
 refine d8 (f8 ?_)
 cases h2
 exact ⟨trivial, _, rfl, (a0p rfl .nil)⟩
 }
 {
 cases hb
 }
 }
 {
 obtain rfl : s00 = [] := by simpa using hx
 refine f9 mixed c2u zS [5] 6 ?_
 unfold c1j
 refine aU ?_
 refine E_cs (t := false) rfl (fun hb => ?_) (fun hb => ?_)
 {
 cases hb
 }
 {
 refine aU ?_
 refine t8 (v' := .ref 0 0 0 0 none) (S' := [.arr 0 []]) rfl rfl rfl (oM (.snn 1) (a0U (S' := [.arr 1 (flat (avI .u64) l1)]) (f7 .u64) (l := []) rfl (rfl) rfl hl1 rfl ?_))
 refine aU ?_
 refine d8 ?_
 cases h2
 exact ⟨trivial, _, rfl, (a1a (f7 .u64) (Nat.zero_le _) rfl)⟩
 }
 }
 {
 obtain ⟨x, xs, rfl⟩ : ∃ x xs, s00 = x :: xs := by cases s00 with | nil => exact (hx rfl).elim | cons x xs => exact ⟨x, xs, rfl⟩
 refine f9 mixed c2u zS [5] 6 ?_
 unfold c1j
 refine aU ?_
 refine E_cs (t := false) rfl (fun hb => ?_) (fun hb => ?_)
 {
 cases hb
 }
 {
 refine aU ?_
 refine t8 (v' := .ref 0 0 0 0 none) (S' := [.arr 0 []]) rfl rfl rfl (oM (sV 1 (avI .u64) (x :: xs)) (a0U (S' := [.arr 1 (flat (avI .u64) l1)]) (f7 .u64) (l := []) rfl (s4 (x :: xs)) rfl hl1 rfl ?_))
 refine aU ?_
 refine d8 ?_
 cases h2
 exact ⟨trivial, _, rfl, (a1a (f7 .u64) (Nat.zero_le _) rfl)⟩
 }
 }
noncomputable def c1k : FC := fcO 68
theorem c2v : Fn3 Try.prog 68 8 [(2, none)] c1k := ⟨_, _, Try.func68, rfl, rfl, rfl, by kernel_rfl⟩
def a0n (s00 : List i9) : Option (List i9) :=
  ((a1d 16 [] s00).bind fun l1 => (some l1))
theorem a4r {s00 : List i9} {r : List i9} (h : a0n s00 = some r) : PureEv Try.prog 68 [.sl false 2 (List.map i9.av s00)] (.sl false 2 (List.map i9.av r)) := by
 unfold a0n at h
 obtain ⟨l1, hl1, h2⟩ := b9 h
 clear h
 refine a6r (fun hx => ?_) (fun hx => ?_) (fun hx => ?_)
 {
 obtain rfl : s00 = [] := by simpa using hx
 have e : l1 = [] := by unfold a1d at hl1; split at hl1 <;> simp_all
 subst e
 refine f9 mixed c2v zS [5] 6 ?_
 unfold c1k
 refine aU ?_
 refine E_cs (t := true) rfl (fun hb => ?_) (fun hb => ?_)
 {
 refine aU ?_
 refine d8 (f8 ?_)
 cases h2
 exact ⟨trivial, _, rfl, (a0p rfl .nil)⟩
 }
 {
 cases hb
 }
 }
 {
 obtain rfl : s00 = [] := by simpa using hx
 refine f9 mixed c2v zS [5] 6 ?_
 unfold c1k
 refine aU ?_
 refine E_cs (t := false) rfl (fun hb => ?_) (fun hb => ?_)
 {
 cases hb
 }
 {
 refine aU ?_
 refine t8 (v' := .ref 0 0 0 0 (some 2)) (S' := [.arr 0 []]) rfl rfl rfl (oM (.snn 2) (a0U (S' := [.arr 1 (flat i9.av l1)]) i9.enc (l := []) rfl (rfl) rfl hl1 rfl ?_))
 refine aU ?_
 refine d8 ?_
 cases h2
 exact ⟨trivial, _, rfl, (a1a i9.enc (Nat.zero_le _) rfl)⟩
 }
 }
 {
 obtain ⟨x, xs, rfl⟩ : ∃ x xs, s00 = x :: xs := by cases s00 with | nil => exact (hx rfl).elim | cons x xs => exact ⟨x, xs, rfl⟩
 refine f9 mixed c2v zS [5] 6 ?_
 unfold c1k
 refine aU ?_
 refine E_cs (t := false) rfl (fun hb => ?_) (fun hb => ?_)
 {
 cases hb
 }
 {
 refine aU ?_
 refine t8 (v' := .ref 0 0 0 0 (some 2)) (S' := [.arr 0 []]) rfl rfl rfl (oM (sV 2 i9.av (x :: xs)) (a0U (S' := [.arr 1 (flat i9.av l1)]) i9.enc (l := []) rfl (s4 (x :: xs)) rfl hl1 rfl ?_))
 refine aU ?_
 refine d8 ?_
 cases h2
 exact ⟨trivial, _, rfl, (a1a i9.enc (Nat.zero_le _) rfl)⟩
 }
 }
end Go.Proofs.Ytnpemocpfdgaoaa

