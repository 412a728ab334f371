/- ScanAgain holds, as its tied card says it: for all arguments within the c7m. What the package variables hold at the start is the row's own list. -/
import Derived.Test.YtepdcebjobjjgaaDoorScT
import Derived.Test.YtepdcebjobjjgaaDoorCards
import Derived.Test.YtepdcebjobjjgaaDoorTie
import Derived.Deep.DeepHandedRow
import Derived.Lib.LaidTab
set_option linter.unusedVariables false
set_option linter.unusedSimpArgs false
namespace Go.Proofs.YtepdcebjobjjgaaDoor
open Go Go.Ab Go.RowKit
set_option maxRecDepth 20000
namespace scanAgain
open Go.ChangeShapes Go.WideShapes Go.ChangeAt
theorem a5F (H : Type) (enc : TypeId × Value → H) (W : World) (base : Nat) (args : Array Value) (ds gs : List (DataW H)) (before : List MemPlace)
  (hval : ∀ (j : Nat) t v, Tryd.f6.params[j]? = some t → args[j]? = some v → Value.okWide Tryd.prog W .any base t v)
  (hW : DataW.Whole enc Tryd.prog Tryd.f6.params.toList Rows.scanAgainSpec.vars false W args.toList ds gs before) (hk : Rows.uptoSmall H (ds ++ gs) = true) (hT : b1e W.heap.size W) :
  Calls Tryd.prog 6 args W fun e W' => ∃ v, e = .returned v ∧ Rows.scanAgainSpec.post enc Tryd.prog Tryd.f6 false true false false W args v W' := by
 have hW' := hW
 have hlt := hW.lt
 obtain ⟨p, q, hA0, hV, rfl, hfz, hnd⟩ := hW
 have hA : DataW.TrodAll enc Tryd.prog W 0 (fun _ => true) true Tryd.f6.params.toList args.toList ds p := hA0
 rw [Tryd.params6] at hA hval
 obtain ⟨v0, vs0, d0, ds0, p0, q0, hargs0, rfl, rfl, h0, r0⟩ := trodAll_cons hA
 obtain ⟨v1, vs1, d1, ds1, p1, q1, hargs1, rfl, rfl, h1, r1⟩ := trodAll_cons r0
 obtain ⟨v2, vs2, d2, ds2, p2, q2, hargs2, rfl, rfl, h2, r2⟩ := trodAll_cons r1
 obtain ⟨rfl, rfl, rfl⟩ := trodAll_nil r2
 subst hargs2
 subst hargs1
 obtain rfl : args = #[v0, v1, v2] := by cases args; simp_all
 obtain ⟨rfl, rfl⟩ := trodVars_none hV
 have hbk0 : Rows.uptoBulk d0 ≤ 1048576 := by simp [Rows.uptoSmall, Rows.uptoBulkAll] at hk; omega
 obtain ⟨x0, hx0, hvr0⟩ := b2B (m := 12) c7m (hval 0 24 v0 rfl rfl) h0 zK zK hbk0
 obtain ⟨a0, rfl, ha0⟩ := b2O c9.enc ⟨_, Tryd.underlying24⟩ c9.rd hx0
 have hbk1 : Rows.uptoBulk d1 ≤ 1048576 := by simp [Rows.uptoSmall, Rows.uptoBulkAll] at hk; omega
 obtain ⟨x1, hx1, hvr1⟩ := b2B (m := 12) c7m (hval 1 24 v1 rfl rfl) h1 zK zK hbk1
 obtain ⟨a1, rfl, ha1⟩ := b2O c9.enc ⟨_, Tryd.underlying24⟩ c9.rd hx1
 have hbk2 : Rows.uptoBulk d2 ≤ 1048576 := by simp [Rows.uptoSmall, Rows.uptoBulkAll] at hk; omega
 obtain ⟨x2, hx2, hvr2⟩ := b2B (m := 12) c7m (hval 2 3 v2 rfl rfl) h2 zK zK hbk2
 obtain ⟨a2, rfl, ha2⟩ := b2O (f7 .i64) (fun fs h => by rw [Tryd.underlying3] at h; cases h) (rdI Tryd.underlying3) hx2
 refine (b4I (W := W) hT (a1X (b4a a0 a1 a2 ha0 ha1 ha2)) (d4w hvr0 hvr1 hvr2)).mono fun e W' ⟨he, hb⟩ => ?_
 subst he
 refine ⟨_, rfl, b2D (pa := p0 ++ (p1 ++ (p2 ++ []))) hW' rfl rfl rfl rfl rfl rfl Tryd.underlying4 hb ?_⟩
 rw [Tryd.params6]
 exact ⟨p0, _, Below.trod b0k zK (of_decide_eq_true zK) h0 hb (fun y hy => hlt y (by simp [hy])), ⟨p1, _, Below.trod b0k zK (of_decide_eq_true zK) h1 hb (fun y hy => hlt y (by simp [hy])), ⟨p2, [], Below.trod b0k zK (of_decide_eq_true zK) h2 hb (fun y hy => hlt y (by simp [hy])), rfl, rfl⟩, rfl⟩, rfl⟩

noncomputable def a6x (os : Os) : World :=
 { World.holding Tryd.prog os ⟨#[], #[], []⟩ with heap := ((World.holding Tryd.prog os ⟨#[], #[], []⟩).heap.modify 0 fun | .cells _ t frozen => .cells #[.int .u8 0, .int .u8 1, .int .u8 56, .int .u8 2, .int .u8 57, .int .u8 49, .int .u8 28, .int .u8 3, .int .u8 61, .int .u8 58, .int .u8 42, .int .u8 50, .int .u8 38, .int .u8 29, .int .u8 17, .int .u8 4, .int .u8 62, .int .u8 47, .int .u8 59, .int .u8 36, .int .u8 45, .int .u8 43, .int .u8 51, .int .u8 22, .int .u8 53, .int .u8 39, .int .u8 33, .int .u8 30, .int .u8 24, .int .u8 18, .int .u8 12, .int .u8 5, .int .u8 63, .int .u8 55, .int .u8 48, .int .u8 27, .int .u8 60, .int .u8 41, .int .u8 37, .int .u8 16, .int .u8 46, .int .u8 35, .int .u8 44, .int .u8 21, .int .u8 52, .int .u8 32, .int .u8 23, .int .u8 11, .int .u8 54, .int .u8 26, .int .u8 40, .int .u8 15, .int .u8 34, .int .u8 20, .int .u8 31, .int .u8 10, .int .u8 25, .int .u8 14, .int .u8 19, .int .u8 9, .int .u8 13, .int .u8 8, .int .u8 7, .int .u8 6] t frozen | o => o) }
set_option maxRecDepth 100000 in
theorem b5C (os : Os) : laidMet Tryd.prog Rows.scanAgainUptoRow.laid ((a6x os).forCall (fun _ _ => 0) ⟨#[], #[(.agg #[(.slice none 0 0)]), (.agg #[(.slice none 0 0)]), (.int .i64 0)], []⟩).memory :=
 laidMet_of_run' 80 zK zK
set_option maxRecDepth 100000 in
theorem reads (os : Os) {H : Type} (enc : TypeId × Value → H) : ∃ places, DataW.whole enc Tryd.prog ((a6x os).forCall (fun _ _ => 0) ⟨#[], #[(.agg #[(.slice none 0 0)]), (.agg #[(.slice none 0 0)]), (.int .i64 0)], []⟩).memory Tryd.f6.params.toList Rows.scanAgainSpec.vars false #[(.agg #[(.slice none 0 0)]), (.agg #[(.slice none 0 0)]), (.int .i64 0)].toList 8 = some ([.agg [.nil], .agg [.nil], .lit (.int .i64 0)], [], places) :=
 ⟨[], by kernel_rfl⟩
set_option maxRecDepth 100000 in
theorem c6U (os : Os) (started : os.Started) (H : Type) (enc : TypeId × Value → H) (F : Stop.Interp) :
  ReturnsInHanded {} Tryd.checked os 6 .any ((Rows.OpenSpec.upto Rows.scanAgainSpec).preRow enc Tryd.prog Tryd.f6 Rows.scanAgainUptoRow.domain false Rows.scanAgainUptoRow.laid) (((Rows.OpenSpec.upto Rows.scanAgainSpec).at F).post enc Tryd.prog Tryd.f6 false true false false) := by
 obtain ⟨places, hx⟩ := reads os enc
 refine returnsInHanded_of_row (C := Tryd.checked) (s := Rows.OpenSpec.upto Rows.scanAgainSpec) own started zK Tryd.func6
  (witness_row_at (enc := enc) (C := Tryd.checked) false (a6x os) #[(.agg #[(.slice none 0 0)]), (.agg #[(.slice none 0 0)]), (.int .i64 0)] rfl zK zK zK
   (OpenSpec.preRow_of_cond 8 hx zK (fun k hk => by cases hk; kernel_rfl) zK (b5C os))) ?_
 intro W base args ds gs before hval hW _ hcond _ hL _ _
 exact a5F H enc W base args ds gs before hval hW (hcond _ rfl) (c6T zK hL)
theorem b5D : Rows.ScanAgainUptoSaid :=
 OpenClaim.holds_of_cond 6 Tryd.f6 rfl rfl rfl rfl rfl rfl rfl ⟨rfl, rfl, rfl, rfl, rfl⟩ rfl rfl rfl rfl rfl zK Tryd.func6 zK
  (of_decide_eq_true zK) (by unfold Func.isWrapper; first | (rw [if_pos (by decide +kernel)]; kernel_rfl) | (rw [if_neg (by decide +kernel)]; exact ⟨rfl, rfl⟩))
  (fun os started H enc _ F => by rw [OpenClaim.pre_eq_preRow]; exact c6U os started H enc F)
theorem b5E (f : FuncId) (fn : Go.Func) (hf : Tryd.pinned.checked.prog.funcNamed Rows.scanAgainUptoRow.func = some f) (hfn : Tryd.pinned.checked.prog.funcs[f]? = some fn) :
  true = Tryd.pinned.checked.prog.looks [] ∧ ∀ (j : Nat) t, fn.params[j]? = some t → Tryd.pinned.checked.prog.wantsStandIn t = false := by
 obtain rfl : f = 6 := Option.some.inj ((show Tryd.prog.funcNamed Rows.scanAgainUptoRow.func = some 6 by kernel_rfl).symm.trans hf) |>.symm
 obtain rfl : fn = Tryd.f6 := (Option.some.inj (Tryd.func6.symm.trans hfn)).symm
 refine ⟨by kernel_rfl, fun j t ht => ?_⟩
 rw [Tryd.params6] at ht
 match j, ht with
 | 0, ht => cases ht; exact (show Tryd.prog.wantsStandIn 24 = false by kernel_rfl)
 | 1, ht => cases ht; exact (show Tryd.prog.wantsStandIn 24 = false by kernel_rfl)
 | 2, ht => cases ht; exact (show Tryd.prog.wantsStandIn 3 = false by kernel_rfl)
 | k + 3, ht => simp at ht
theorem proved : Rows.ScanAgainUptoCardSaid :=
 Claim7.holds_tied_plain_at .later [] _ _ _ _ b5D (fun _ h => by cases h) zK (fun _ h => by cases h) scanAgainUpto_row_tie rfl ⟨rfl, rfl⟩ zK rfl b5E zK
end scanAgain
end Go.Proofs.YtepdcebjobjjgaaDoor

