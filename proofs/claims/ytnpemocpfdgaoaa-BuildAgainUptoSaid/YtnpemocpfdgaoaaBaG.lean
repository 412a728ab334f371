/- BuildAgain holds: for all arguments, as the statement reads them. -/
import Derived.Test.YtnpemocpfdgaoaaBaE1
set_option linter.unusedVariables false
set_option linter.unusedSimpArgs false
namespace Go.Proofs.Ytnpemocpfdgaoaa
open Go Go.Ab Go.RowKit
set_option maxRecDepth 20000
namespace buildAgain
open Go.ChangeShapes Go.WideShapes Go.ChangeAt
theorem contract (H : Type) (enc : TypeId × Value -> H) (W : World) (base : Nat) (args : Array Value) (ds gs : List (DataW H)) (before : List MemPlace)
  (hval : ∀ (j : Nat) t v, Try.f5.params[j]? = some t -> args[j]? = some v -> Value.okWide Try.prog W .any base t v)
  (hW : DataW.Whole enc Try.prog Try.f5.params.toList Rows.buildAgainSpec.vars false W args.toList ds gs before) (hk : Rows.uptoSmall H (ds ++ gs) = true) :
  Calls Try.prog 5 args W fun e W' => ∃ v, e = .returned v /\ Rows.buildAgainSpec.post enc Try.prog Try.f5 false true false false W args v W' := by
 have hW' := hW
 have hlt := hW.lt
 obtain ⟨p, q, hA0, hV, rfl, hfz, hnd⟩ := hW
 have hA : DataW.TrodAll enc Try.prog W 0 (fun _ => true) true Try.f5.params.toList args.toList ds p := hA0
 rw [Try.params5] at hA hval
 obtain ⟨v0, vs0, d0, ds0, p0, q0, hargs0, rfl, rfl, h0, r0⟩ := trodAll_cons hA
 obtain ⟨v1, vs1, d1, ds1, p1, q1, hargs1, rfl, rfl, h1, r1⟩ := trodAll_cons r0
 obtain ⟨rfl, rfl, rfl⟩ := trodAll_nil r1
 subst hargs1
 obtain rfl : args = #[v0, v1] := by cases args; simp_all
 obtain ⟨rfl, rfl⟩ := trodVars_none hV
 have hbk0 : Rows.uptoBulk d0 <= 1048576 := by simp [Rows.uptoSmall, Rows.uptoBulkAll] at hk; omega
 obtain ⟨x0, hx0, hvr0⟩ := b2Z (m := 12) c6G (hval 0 24 v0 rfl rfl) h0 zK zK hbk0
 obtain ⟨a0, rfl, ha0⟩ := b3f Program.enc ⟨_, Try.underlying24⟩ Program.rd hx0
 have hbk1 : Rows.uptoBulk d1 <= 1048576 := by simp [Rows.uptoSmall, Rows.uptoBulkAll] at hk; omega
 obtain ⟨x1, hx1, hvr1⟩ := b2Z (m := 12) c6G (hval 1 24 v1 rfl rfl) h1 zK zK hbk1
 obtain ⟨a1, rfl, ha1⟩ := b3f Program.enc ⟨_, Try.underlying24⟩ Program.rd hx1
 refine (b2i (W := W) (a8O _ _) (b1D a0 ha0 a1 ha1) (c6M hvr0 hvr1)).mono fun e W' ⟨he, hb⟩ => ?_
 subst he
 refine ⟨_, rfl, b0n (pa := p0 ++ (p1 ++ [])) hW' rfl rfl rfl rfl rfl rfl Try.underlying4 hb ?_⟩
 rw [Try.params5]
 exact ⟨p0, _, Below.trod b1B zK (of_decide_eq_true zK) h0 hb (fun y hy => hlt y (by simp [hy])), ⟨p1, [], Below.trod b1B zK (of_decide_eq_true zK) h1 hb (fun y hy => hlt y (by simp [hy])), rfl, rfl⟩, rfl⟩

set_option maxRecDepth 100000 in
theorem c1R (os : Os) (started : os.Started) (H : Type) (enc : TypeId × Value -> H) (F : Stop.Interp) :
  ReturnsInHanded {} Try.checked os 5 .any ((Rows.OpenSpec.upto Rows.buildAgainSpec).pre6 enc Try.prog Try.f5 Rows.buildAgainUptoRow.domain false) (((Rows.OpenSpec.upto Rows.buildAgainSpec).at F).post enc Try.prog Try.f5 false true false false) := by
 refine returnsInHanded_of_cond (C := Try.checked) (s := Rows.OpenSpec.upto Rows.buildAgainSpec) (k := Rows.uptoSmall) rfl own started zK Try.func5
  (OpenSpec.witness (enc := enc) (C := Try.checked) (s := Rows.OpenSpec.upto Rows.buildAgainSpec) (k := Rows.uptoSmall) rfl false ⟨#[], #[(.agg #[(.slice none 0 0)]), (.agg #[(.slice none 0 0)])], []⟩ 8 zK zK zK
   (x := ([.agg [.nil], .agg [.nil]], [], [])) zK rfl zK) ?_
 intro W base args ds gs before hval hW _ hk _
 exact contract H enc W base args ds gs before hval hW hk

theorem over : Rows.buildAgainUptoRow.holds Try.pinned (Rows.OpenSpec.upto Rows.buildAgainSpec) :=
 OpenClaim.holds_of_cond 5 Try.f5 rfl rfl rfl rfl rfl rfl rfl ⟨rfl, rfl, rfl, rfl, rfl⟩ rfl rfl rfl rfl rfl zK Try.func5 zK
  (of_decide_eq_true zK) (by unfold Func.isWrapper; first | (rw [if_pos (by decide +kernel)]; kernel_rfl) | (rw [if_neg (by decide +kernel)]; exact ⟨rfl, rfl⟩))
  (fun os started H enc _ F => c1R os started H enc F)
theorem proved : Rows.BuildAgainUptoSaid := over
end buildAgain
end Go.Proofs.Ytnpemocpfdgaoaa

