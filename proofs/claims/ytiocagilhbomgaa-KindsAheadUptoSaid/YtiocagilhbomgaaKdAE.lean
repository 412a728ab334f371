/- KindsAhead holds: for all arguments, as the statement reads them. -/
import Derived.Test.YtiocagilhbomgaaKdA2
namespace Go.Proofs.Ytiocagilhbomgaa
open Go Go.Ab Go.RowKit
set_option maxRecDepth 20000
set_option linter.unusedVariables false
set_option linter.unusedSimpArgs false
namespace kindsAhead
open Go.ChangeShapes Go.WideShapes Go.ChangeAt
theorem contract (H : Type) (enc : TypeId × Value → H) (W : World) (base : Nat) (args : Array Value) (ds gs : List (DataW H)) (before : List MemPlace)
    (hval : ∀ (j : Nat) t v, Try.f5.params[j]? = some t → args[j]? = some v → Value.okWide Try.prog W .any base t v)
    (hW : DataW.Whole enc Try.prog Try.f5.params.toList Rows.kindsAheadSpec.vars false W args.toList ds gs before) (hk : Rows.uptoSmall H (ds ++ gs) = true) :
    Calls Try.prog 5 args W fun e W' => ∃ v, e = .returned v ∧ Rows.kindsAheadSpec.post enc Try.prog Try.f5 false true false false W args v W' := by
  have hW' := hW
  have hlt := hW.lt
  obtain ⟨p, q, hA0, hV, rfl, hfz, hnd⟩ := hW
  have hA : DataW.TrodAll enc Try.prog W 0 (fun _ => true) true Try.f5.params.toList args.toList ds p := hA0
  rw [Try.params5] at hA hval
  obtain ⟨v0, vs0, d0, ds0, p0, q0, hargs0, rfl, rfl, h0, r0⟩ := trodAll_cons hA
  obtain ⟨v1, vs1, d1, ds1, p1, q1, hargs1, rfl, rfl, h1, r1⟩ := trodAll_cons r0
  obtain ⟨rfl, rfl, rfl⟩ := trodAll_nil r1
  subst hargs1
  obtain rfl : args = #[v0, v1] := by cases args; simp_all
  obtain ⟨rfl, rfl⟩ := trodVars_none hV
  have hbk0 : Rows.uptoBulk d0 ≤ 1048576 := by simp [Rows.uptoSmall, Rows.uptoBulkAll] at hk; omega
  obtain ⟨x0, hx0, hvr0⟩ := arg_av (m := 12) bulk (hval 0 24 v0 rfl rfl) h0 (by kernel_rfl) (by kernel_rfl) hbk0
  obtain ⟨a0, rfl, ha0⟩ := arg_rd Program.enc ⟨_, Try.underlying24⟩ Program.rd hx0
  have hbk1 : Rows.uptoBulk d1 ≤ 1048576 := by simp [Rows.uptoSmall, Rows.uptoBulkAll] at hk; omega
  obtain ⟨x1, hx1, hvr1⟩ := arg_av (m := 12) bulk (hval 1 3 v1 rfl rfl) h1 (by kernel_rfl) (by kernel_rfl) hbk1
  obtain ⟨a1, rfl, ha1⟩ := arg_rd (encI .i64) (fun fs h => by rw [Try.underlying3] at h; cases h) (rdI Try.underlying3) hx1
  refine (law_true (W := W) (tabOK_none _ _) (windlasslaw05_KindsAhead_ev (ahead_law a0 a1 ha0 ha1)) (VRs2 hvr0 hvr1)).mono fun e W' ⟨he, hb⟩ => ?_
  subst he
  refine ⟨_, rfl, post_true (pa := p0 ++ (p1 ++ [])) hW' rfl rfl rfl rfl rfl rfl Try.underlying4 hb ?_⟩
  rw [Try.params5]
  exact ⟨p0, _, Below.trod laidOut (by kernel_rfl) (of_decide_eq_true (by kernel_rfl)) h0 hb (fun y hy => hlt y (by simp [hy])), ⟨p1, [], Below.trod laidOut (by kernel_rfl) (of_decide_eq_true (by kernel_rfl)) h1 hb (fun y hy => hlt y (by simp [hy])), rfl, rfl⟩, rfl⟩

set_option maxRecDepth 100000 in
theorem lifted (os : Os) (started : os.Started) (H : Type) (enc : TypeId × Value → H) (F : Stop.Interp) :
    ReturnsInHanded {} Try.checked os 5 .any ((Rows.OpenSpec.upto Rows.kindsAheadSpec).pre6 enc Try.prog Try.f5 Rows.kindsAheadUptoRow.domain false) (((Rows.OpenSpec.upto Rows.kindsAheadSpec).at F).post enc Try.prog Try.f5 false true false false) := by
  refine returnsInHanded_of_cond (C := Try.checked) (s := Rows.OpenSpec.upto Rows.kindsAheadSpec) (k := Rows.uptoSmall) rfl own started (by kernel_rfl) Try.func5
    (OpenSpec.witness (enc := enc) (C := Try.checked) (s := Rows.OpenSpec.upto Rows.kindsAheadSpec) (k := Rows.uptoSmall) rfl false ⟨#[], #[(.agg #[(.slice none 0 0)]), (.int .i64 0)], []⟩ 8 (by kernel_rfl) (by kernel_rfl) (by kernel_rfl)
      (x := ([.agg [.nil], .lit (.int .i64 0)], [], [])) (by kernel_rfl) rfl (by kernel_rfl)) ?_
  intro W base args ds gs before hval hW _ hk _
  exact contract H enc W base args ds gs before hval hW hk

theorem over : Rows.kindsAheadUptoRow.holds Try.pinned (Rows.OpenSpec.upto Rows.kindsAheadSpec) :=
  OpenClaim.holds_of_cond 5 Try.f5 rfl rfl rfl rfl rfl rfl rfl ⟨rfl, rfl, rfl, rfl, rfl⟩ rfl rfl rfl rfl rfl (by kernel_rfl) Try.func5 (by kernel_rfl)
    (of_decide_eq_true (by kernel_rfl)) (by unfold Func.isWrapper; first | (rw [if_pos (by decide +kernel)]; kernel_rfl) | (rw [if_neg (by decide +kernel)]; exact ⟨rfl, rfl⟩))
    (fun os started H enc _ F => lifted os started H enc F)
theorem proved : Rows.KindsAheadUptoSaid := over
end kindsAhead
end Go.Proofs.Ytiocagilhbomgaa
