/- IrunFuel holds: for all arguments, as the statement reads them. -/
import Derived.Test.YtnpemocpfdgaoaaIrF
set_option linter.unusedVariables false
set_option linter.unusedSimpArgs false
namespace Go.Proofs.Ytnpemocpfdgaoaa
open Go Go.Ab Go.RowKit
set_option maxRecDepth 20000
namespace irunFuel
open Go.ChangeShapes Go.WideShapes Go.ChangeAt
theorem contract (H : Type) (enc : TypeId × Value → H) (W : World) (base : Nat) (args : Array Value) (ds gs : List (DataW H)) (before : List MemPlace)
  (hval : ∀ (j : Nat) t v, Try.f10.params[j]? = some t → args[j]? = some v → Value.okWide Try.prog W .any base t v)
  (hW : DataW.Whole enc Try.prog Try.f10.params.toList Rows.irunFuelSpec.vars false W args.toList ds gs before) (hk : Rows.uptoSmall H (ds ++ gs) = true) :
  Calls Try.prog 10 args W fun e W' => ∃ v, e = .returned v ∧ Rows.irunFuelSpec.post enc Try.prog Try.f10 false true false false W args v W' := by
 have hW' := hW
 have hlt := hW.lt
 obtain ⟨p, q, hA0, hV, rfl, hfz, hnd⟩ := hW
 have hA : DataW.TrodAll enc Try.prog W 0 (fun _ => true) true Try.f10.params.toList args.toList ds p := hA0
 rw [Try.params10] at hA hval
 obtain ⟨v0, vs0, d0, ds0, p0, q0, hargs0, rfl, rfl, h0, r0⟩ := trodAll_cons hA
 obtain ⟨v1, vs1, d1, ds1, p1, q1, hargs1, rfl, rfl, h1, r1⟩ := trodAll_cons r0
 obtain ⟨v2, vs2, d2, ds2, p2, q2, hargs2, rfl, rfl, h2, r2⟩ := trodAll_cons r1
 obtain ⟨rfl, rfl, rfl⟩ := trodAll_nil r2
 subst hargs2
 subst hargs1
 obtain rfl : args = #[v0, v1, v2] := by cases args; simp_all
 obtain ⟨rfl, rfl⟩ := trodVars_none hV
 have hbk0 : Rows.uptoBulk d0 ≤ 1048576 := by simp [Rows.uptoSmall, Rows.uptoBulkAll] at hk; omega
 obtain ⟨x0, hx0, hvr0⟩ := b1Y (m := 12) c5n (hval 0 30 v0 rfl rfl) h0 zK zK hbk0
 obtain ⟨a0, rfl, ha0⟩ := b2f i7.enc ⟨_, Try.underlying30⟩ i7.rd hx0
 have hbk1 : Rows.uptoBulk d1 ≤ 1048576 := by simp [Rows.uptoSmall, Rows.uptoBulkAll] at hk; omega
 obtain ⟨x1, hx1, hvr1⟩ := b1Y (m := 12) c5n (hval 1 25 v1 rfl rfl) h1 zK zK hbk1
 obtain ⟨a1, rfl, ha1⟩ := b2f (a7t (p4 .u64) 1) (fun fs h => by rw [Try.underlying25] at h; cases h) (rdL (p4 .u64) (fun fs h => by rw [Try.underlying55] at h; cases h) Try.underlying25 b0A (rdI Try.underlying55)) hx1
 have hbk2 : Rows.uptoBulk d2 ≤ 1048576 := by simp [Rows.uptoSmall, Rows.uptoBulkAll] at hk; omega
 obtain ⟨a2, ha2, hvr2⟩ := a3Y.arg (hval 2 74 v2 rfl rfl) h2 hbk2
 refine (b1j (W := W) (a7H _ _) (a0L (a6n a0 a1 a2 ha0 ha1 ha2)) (c5M hvr0 hvr1 hvr2)).mono fun e W' ⟨he, hb⟩ => ?_
 subst he
 refine ⟨_, rfl, a9f (pa := p0 ++ (p1 ++ (p2 ++ []))) hW' rfl rfl rfl rfl rfl rfl Try.underlying4 hb ?_⟩
 rw [Try.params10]
 exact ⟨p0, _, Below.trod a6U zK (of_decide_eq_true zK) h0 hb (fun y hy => hlt y (by simp [hy])), ⟨p1, _, Below.trod a6U zK (of_decide_eq_true zK) h1 hb (fun y hy => hlt y (by simp [hy])), ⟨p2, [], Below.trod a6U zK (of_decide_eq_true zK) h2 hb (fun y hy => hlt y (by simp [hy])), rfl, rfl⟩, rfl⟩, rfl⟩

set_option maxRecDepth 100000 in
theorem c2A (os : Os) (started : os.Started) (H : Type) (enc : TypeId × Value → H) (F : Stop.Interp) :
  ReturnsInHanded {} Try.checked os 10 .any ((Rows.OpenSpec.upto Rows.irunFuelSpec).pre6 enc Try.prog Try.f10 Rows.irunFuelUptoRow.domain false) (((Rows.OpenSpec.upto Rows.irunFuelSpec).at F).post enc Try.prog Try.f10 false true false false) := by
 refine returnsInHanded_of_cond (C := Try.checked) (s := Rows.OpenSpec.upto Rows.irunFuelSpec) (k := Rows.uptoSmall) rfl own started zK Try.func10
  (OpenSpec.witness (enc := enc) (C := Try.checked) (s := Rows.OpenSpec.upto Rows.irunFuelSpec) (k := Rows.uptoSmall) rfl false ⟨#[], #[(.agg #[(.slice none 0 0)]), (.slice none 0 0), (.agg #[(.int .i64 0), (.int .i64 0)])], []⟩ 8 zK zK zK
   (x := ([.agg [.nil], .nil, .agg [(.lit (.int .i64 0)), (.lit (.int .i64 0))]], [], [])) zK rfl zK) ?_
 intro W base args ds gs before hval hW _ hk _
 exact contract H enc W base args ds gs before hval hW hk

theorem over : Rows.irunFuelUptoRow.holds Try.pinned (Rows.OpenSpec.upto Rows.irunFuelSpec) :=
 OpenClaim.holds_of_cond 10 Try.f10 rfl rfl rfl rfl rfl rfl rfl ⟨rfl, rfl, rfl, rfl, rfl⟩ rfl rfl rfl rfl rfl zK Try.func10 zK
  (of_decide_eq_true zK) (by unfold Func.isWrapper; first | (rw [if_pos (by decide +kernel)]; kernel_rfl) | (rw [if_neg (by decide +kernel)]; exact ⟨rfl, rfl⟩))
  (fun os started H enc _ F => c2A os started H enc F)
theorem proved : Rows.IrunFuelUptoSaid := over
end irunFuel
end Go.Proofs.Ytnpemocpfdgaoaa

