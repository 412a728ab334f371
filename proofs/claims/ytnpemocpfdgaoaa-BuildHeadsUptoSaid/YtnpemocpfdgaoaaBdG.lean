/- BuildHeads holds: for all arguments, as the statement reads them. -/
import Derived.Test.YtnpemocpfdgaoaaBdH1
set_option linter.unusedVariables false
set_option linter.unusedSimpArgs false
namespace Go.Proofs.Ytnpemocpfdgaoaa
open Go Go.Ab Go.RowKit
set_option maxRecDepth 20000
namespace buildHeads
open Go.ChangeShapes Go.WideShapes Go.ChangeAt
theorem contract (H : Type) (enc : TypeId × Value -> H) (W : World) (base : Nat) (args : Array Value) (ds gs : List (DataW H)) (before : List MemPlace)
  (hval : ∀ (j : Nat) t v, Try.f4.params[j]? = some t -> args[j]? = some v -> Value.okWide Try.prog W .any base t v)
  (hW : DataW.Whole enc Try.prog Try.f4.params.toList Rows.buildHeadsSpec.vars false W args.toList ds gs before) (hk : Rows.uptoSmall H (ds ++ gs) = true) :
  Calls Try.prog 4 args W fun e W' => ∃ v, e = .returned v /\ Rows.buildHeadsSpec.post enc Try.prog Try.f4 false true false false W args v W' := by
 have hW' := hW
 have hlt := hW.lt
 obtain ⟨p, q, hA0, hV, rfl, hfz, hnd⟩ := hW
 have hA : DataW.TrodAll enc Try.prog W 0 (fun _ => true) true Try.f4.params.toList args.toList ds p := hA0
 rw [Try.params4] at hA hval
 obtain ⟨v0, vs0, d0, ds0, p0, q0, hargs0, rfl, rfl, h0, r0⟩ := trodAll_cons hA
 obtain ⟨rfl, rfl, rfl⟩ := trodAll_nil r0
 obtain rfl : args = #[v0] := by cases args; simp_all
 obtain ⟨rfl, rfl⟩ := trodVars_none hV
 have hbk0 : Rows.uptoBulk d0 <= 1048576 := by simp [Rows.uptoSmall, Rows.uptoBulkAll] at hk; omega
 obtain ⟨x0, hx0, hvr0⟩ := b7o (m := 12) c7D (hval 0 24 v0 rfl rfl) h0 zK zK hbk0
 obtain ⟨a0, rfl, ha0⟩ := b7K Program.enc ⟨_, Try.underlying24⟩ Program.rd hx0
 refine (b2U (W := W) (a9s _ _) (a1K (b2m a0 ha0)) (b4I hvr0)).mono fun e W' ⟨he, hb⟩ => ?_
 subst he
 refine ⟨_, rfl, b0P (pa := p0 ++ []) hW' rfl rfl rfl rfl rfl rfl Try.underlying4 hb ?_⟩
 rw [Try.params4]
 exact ⟨p0, [], Below.trod b6G zK (of_decide_eq_true zK) h0 hb (fun y hy => hlt y (by simp [hy])), rfl, rfl⟩

set_option maxRecDepth 100000 in
theorem c2F (os : Os) (started : os.Started) (H : Type) (enc : TypeId × Value -> H) (F : Stop.Interp) :
  ReturnsInHanded {} Try.checked os 4 .any ((Rows.OpenSpec.upto Rows.buildHeadsSpec).pre6 enc Try.prog Try.f4 Rows.buildHeadsUptoRow.domain false) (((Rows.OpenSpec.upto Rows.buildHeadsSpec).at F).post enc Try.prog Try.f4 false true false false) := by
 refine returnsInHanded_of_cond (C := Try.checked) (s := Rows.OpenSpec.upto Rows.buildHeadsSpec) (k := Rows.uptoSmall) rfl own started zK Try.func4
  (OpenSpec.witness (enc := enc) (C := Try.checked) (s := Rows.OpenSpec.upto Rows.buildHeadsSpec) (k := Rows.uptoSmall) rfl false ⟨#[], #[(.agg #[(.slice none 0 0)])], []⟩ 8 zK zK zK
   (x := ([.agg [.nil]], [], [])) zK rfl zK) ?_
 intro W base args ds gs before hval hW _ hk _
 exact contract H enc W base args ds gs before hval hW hk

theorem over : Rows.buildHeadsUptoRow.holds Try.pinned (Rows.OpenSpec.upto Rows.buildHeadsSpec) :=
 OpenClaim.holds_of_cond 4 Try.f4 rfl rfl rfl rfl rfl rfl rfl ⟨rfl, rfl, rfl, rfl, rfl⟩ rfl rfl rfl rfl rfl zK Try.func4 zK
  (of_decide_eq_true zK) (by unfold Func.isWrapper; first | (rw [if_pos (by decide +kernel)]; kernel_rfl) | (rw [if_neg (by decide +kernel)]; exact ⟨rfl, rfl⟩))
  (fun os started H enc _ F => c2F os started H enc F)
theorem proved : Rows.BuildHeadsUptoSaid := over
end buildHeads
end Go.Proofs.Ytnpemocpfdgaoaa

