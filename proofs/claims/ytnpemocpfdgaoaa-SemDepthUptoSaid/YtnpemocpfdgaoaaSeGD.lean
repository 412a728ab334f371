/- SemDepth holds: for all arguments, as the statement reads them. -/
import Derived.Test.YtnpemocpfdgaoaaSeD
set_option linter.unusedVariables false
set_option linter.unusedSimpArgs false
namespace Go.Proofs.Ytnpemocpfdgaoaa
open Go Go.Ab Go.RowKit
set_option maxRecDepth 20000
namespace semDepth
open Go.ChangeShapes Go.WideShapes Go.ChangeAt
theorem contract (H : Type) (enc : TypeId × Value → H) (W : World) (base : Nat) (args : Array Value) (ds gs : List (DataW H)) (before : List MemPlace)
  (hval : ∀ (j : Nat) t v, Try.f9.params[j]? = some t → args[j]? = some v → Value.okWide Try.prog W .any base t v)
  (hW : DataW.Whole enc Try.prog Try.f9.params.toList Rows.semDepthSpec.vars false W args.toList ds gs before) (hk : Rows.uptoSmall H (ds ++ gs) = true) :
  Calls Try.prog 9 args W fun e W' => ∃ v, e = .returned v ∧ Rows.semDepthSpec.post enc Try.prog Try.f9 false true false false W args v W' := by
 have hW' := hW
 have hlt := hW.lt
 obtain ⟨p, q, hA0, hV, rfl, hfz, hnd⟩ := hW
 have hA : DataW.TrodAll enc Try.prog W 0 (fun _ => true) true Try.f9.params.toList args.toList ds p := hA0
 rw [Try.params9] at hA hval
 obtain ⟨v0, vs0, d0, ds0, p0, q0, hargs0, rfl, rfl, h0, r0⟩ := trodAll_cons hA
 obtain ⟨rfl, rfl, rfl⟩ := trodAll_nil r0
 obtain rfl : args = #[v0] := by cases args; simp_all
 obtain ⟨rfl, rfl⟩ := trodVars_none hV
 have hbk0 : Rows.uptoBulk d0 ≤ 1048576 := by simp [Rows.uptoSmall, Rows.uptoBulkAll] at hk; omega
 obtain ⟨x0, hx0, hvr0⟩ := b8e (m := 12) c5u (hval 0 3 v0 rfl rfl) h0 zK zK hbk0
 obtain ⟨a0, rfl, ha0⟩ := b8u (f4 .i64) (fun fs h => by rw [Try.underlying3] at h; cases h) (rdI Try.underlying3) hx0
 refine (b1J (W := W) (a8m _ _) (a0U (a6E a0 ha0)) (b3o hvr0)).mono fun e W' ⟨he, hb⟩ => ?_
 subst he
 refine ⟨_, rfl, a9N (pa := p0 ++ []) hW' rfl rfl rfl rfl rfl rfl Try.underlying4 hb ?_⟩
 rw [Try.params9]
 exact ⟨p0, [], Below.trod b7D zK (of_decide_eq_true zK) h0 hb (fun y hy => hlt y (by simp [hy])), rfl, rfl⟩

set_option maxRecDepth 100000 in
theorem c2m (os : Os) (started : os.Started) (H : Type) (enc : TypeId × Value → H) (F : Stop.Interp) :
  ReturnsInHanded {} Try.checked os 9 .any ((Rows.OpenSpec.upto Rows.semDepthSpec).pre6 enc Try.prog Try.f9 Rows.semDepthUptoRow.domain false) (((Rows.OpenSpec.upto Rows.semDepthSpec).at F).post enc Try.prog Try.f9 false true false false) := by
 refine returnsInHanded_of_cond (C := Try.checked) (s := Rows.OpenSpec.upto Rows.semDepthSpec) (k := Rows.uptoSmall) rfl own started zK Try.func9
  (OpenSpec.witness (enc := enc) (C := Try.checked) (s := Rows.OpenSpec.upto Rows.semDepthSpec) (k := Rows.uptoSmall) rfl false ⟨#[], #[(.int .i64 0)], []⟩ 8 zK zK zK
   (x := ([.lit (.int .i64 0)], [], [])) zK rfl zK) ?_
 intro W base args ds gs before hval hW _ hk _
 exact contract H enc W base args ds gs before hval hW hk

theorem over : Rows.semDepthUptoRow.holds Try.pinned (Rows.OpenSpec.upto Rows.semDepthSpec) :=
 OpenClaim.holds_of_cond 9 Try.f9 rfl rfl rfl rfl rfl rfl rfl ⟨rfl, rfl, rfl, rfl, rfl⟩ rfl rfl rfl rfl rfl zK Try.func9 zK
  (of_decide_eq_true zK) (by unfold Func.isWrapper; first | (rw [if_pos (by decide +kernel)]; kernel_rfl) | (rw [if_neg (by decide +kernel)]; exact ⟨rfl, rfl⟩))
  (fun os started H enc _ F => c2m os started H enc F)
theorem proved : Rows.SemDepthUptoSaid := over
end semDepth
end Go.Proofs.Ytnpemocpfdgaoaa

