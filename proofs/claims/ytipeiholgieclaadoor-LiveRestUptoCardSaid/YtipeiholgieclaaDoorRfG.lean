/- LiveRest holds, as its tied card says it: for all arguments within the c5p. What the package variables hold at the start is the row's own list. -/
import Derived.Test.YtipeiholgieclaaDoorLvT
import Derived.Test.YtipeiholgieclaaDoorCards
import Derived.Test.YtipeiholgieclaaDoorTie
import Derived.Deep.DeepHandedRow
import Derived.Lib.LaidTab
set_option linter.unusedVariables false
set_option linter.unusedSimpArgs false
namespace Go.Proofs.YtipeiholgieclaaDoor
open Go Go.Ab Go.RowKit
set_option maxRecDepth 20000
namespace liveRest
open Go.ChangeShapes Go.WideShapes Go.ChangeAt
theorem contract (H : Type) (enc : TypeId × Value -> H) (W : World) (base : Nat) (args : Array Value) (ds gs : List (DataW H)) (before : List MemPlace)
  (hval : ∀ (j : Nat) t v, Tryd.f3.params[j]? = some t -> args[j]? = some v -> Value.okWide Tryd.prog W .any base t v)
  (hW : DataW.Whole enc Tryd.prog Tryd.f3.params.toList Rows.liveRestSpec.vars false W args.toList ds gs before) (hk : Rows.uptoSmall H (ds ++ gs) = true) (hT : b1Y W.heap.size W) :
  Calls Tryd.prog 3 args W fun e W' => ∃ v, e = .returned v /\ Rows.liveRestSpec.post enc Tryd.prog Tryd.f3 false true false false W args v W' := by
 have hW' := hW
 have hlt := hW.lt
 obtain ⟨p, q, hA0, hV, rfl, hfz, hnd⟩ := hW
 have hA : DataW.TrodAll enc Tryd.prog W 0 (fun _ => true) true Tryd.f3.params.toList args.toList ds p := hA0
 rw [Tryd.params3] at hA hval
 obtain ⟨v0, vs0, d0, ds0, p0, q0, hargs0, rfl, rfl, h0, r0⟩ := trodAll_cons hA
 obtain ⟨v1, vs1, d1, ds1, p1, q1, hargs1, rfl, rfl, h1, r1⟩ := trodAll_cons r0
 obtain ⟨v2, vs2, d2, ds2, p2, q2, hargs2, rfl, rfl, h2, r2⟩ := trodAll_cons r1
 obtain ⟨rfl, rfl, rfl⟩ := trodAll_nil r2
 subst hargs2
 subst hargs1
 obtain rfl : args = #[v0, v1, v2] := by cases args; simp_all
 obtain ⟨rfl, rfl⟩ := trodVars_none hV
 have hbk0 : Rows.uptoBulk d0 <= 1048576 := by simp [Rows.uptoSmall, Rows.uptoBulkAll] at hk; omega
 obtain ⟨x0, hx0, hvr0⟩ := b3t (m := 12) c5p (hval 0 24 v0 rfl rfl) h0 zK zK hbk0
 obtain ⟨a0, rfl, ha0⟩ := b3J g7.enc ⟨_, Tryd.underlying24⟩ g7.rd hx0
 have hbk1 : Rows.uptoBulk d1 <= 1048576 := by simp [Rows.uptoSmall, Rows.uptoBulkAll] at hk; omega
 obtain ⟨x1, hx1, hvr1⟩ := b3t (m := 12) c5p (hval 1 25 v1 rfl rfl) h1 zK zK hbk1
 obtain ⟨a1, rfl, ha1⟩ := b3J (a5y (j3 .u64) 1) (fun fs h => by rw [Tryd.underlying25] at h; cases h) (rdL (j3 .u64) (fun fs h => by rw [Tryd.underlying26] at h; cases h) Tryd.underlying25 b4P (rdI Tryd.underlying26)) hx1
 have hbk2 : Rows.uptoBulk d2 <= 1048576 := by simp [Rows.uptoSmall, Rows.uptoBulkAll] at hk; omega
 obtain ⟨x2, hx2, hvr2⟩ := b3t (m := 12) c5p (hval 2 26 v2 rfl rfl) h2 zK zK hbk2
 obtain ⟨a2, rfl, ha2⟩ := b3J (j3 .u64) (fun fs h => by rw [Tryd.underlying26] at h; cases h) (rdI Tryd.underlying26) hx2
 refine (b5z (W := W) hT (b6o a0 a1 a2 ha0 ha1 ha2) (c9t hvr0 hvr1 hvr2)).mono fun e W' ⟨he, hb⟩ => ?_
 subst he
 refine ⟨_, rfl, b3v (pa := p0 ++ (p1 ++ (p2 ++ []))) hW' rfl rfl rfl rfl rfl rfl Tryd.underlying4 hb ?_⟩
 rw [Tryd.params3]
 exact ⟨p0, _, Below.trod b0T zK (of_decide_eq_true zK) h0 hb (fun y hy => hlt y (by simp [hy])), ⟨p1, _, Below.trod b0T zK (of_decide_eq_true zK) h1 hb (fun y hy => hlt y (by simp [hy])), ⟨p2, [], Below.trod b0T zK (of_decide_eq_true zK) h2 hb (fun y hy => hlt y (by simp [hy])), rfl, rfl⟩, rfl⟩, rfl⟩

noncomputable def a7d (os : Os) : World :=
 { World.holding Tryd.prog os ⟨#[], #[], []⟩ with heap := ((World.holding Tryd.prog os ⟨#[], #[], []⟩).heap.modify 0 fun | .cells _ t frozen => .cells #[.int .u8 0, .int .u8 1, .int .u8 56, .int .u8 2, .int .u8 57, .int .u8 49, .int .u8 28, .int .u8 3, .int .u8 61, .int .u8 58, .int .u8 42, .int .u8 50, .int .u8 38, .int .u8 29, .int .u8 17, .int .u8 4, .int .u8 62, .int .u8 47, .int .u8 59, .int .u8 36, .int .u8 45, .int .u8 43, .int .u8 51, .int .u8 22, .int .u8 53, .int .u8 39, .int .u8 33, .int .u8 30, .int .u8 24, .int .u8 18, .int .u8 12, .int .u8 5, .int .u8 63, .int .u8 55, .int .u8 48, .int .u8 27, .int .u8 60, .int .u8 41, .int .u8 37, .int .u8 16, .int .u8 46, .int .u8 35, .int .u8 44, .int .u8 21, .int .u8 52, .int .u8 32, .int .u8 23, .int .u8 11, .int .u8 54, .int .u8 26, .int .u8 40, .int .u8 15, .int .u8 34, .int .u8 20, .int .u8 31, .int .u8 10, .int .u8 25, .int .u8 14, .int .u8 19, .int .u8 9, .int .u8 13, .int .u8 8, .int .u8 7, .int .u8 6] t frozen | o => o) }
set_option maxRecDepth 100000 in
theorem b6p (os : Os) : laidMet Tryd.prog Rows.liveRestUptoRow.laid ((a7d os).forCall (fun _ _ => 0) ⟨#[], #[(.agg #[(.slice none 0 0)]), (.slice none 0 0), (.int .u64 0)], []⟩).memory :=
 laidMet_of_run' 80 zK zK
set_option maxRecDepth 100000 in
theorem reads (os : Os) {H : Type} (enc : TypeId × Value -> H) : ∃ places, DataW.whole enc Tryd.prog ((a7d os).forCall (fun _ _ => 0) ⟨#[], #[(.agg #[(.slice none 0 0)]), (.slice none 0 0), (.int .u64 0)], []⟩).memory Tryd.f3.params.toList Rows.liveRestSpec.vars false #[(.agg #[(.slice none 0 0)]), (.slice none 0 0), (.int .u64 0)].toList 8 = some ([.agg [.nil], .nil, .lit (.int .u64 0)], [], places) :=
 ⟨[], by kernel_rfl⟩
set_option maxRecDepth 100000 in
theorem c4Z (os : Os) (started : os.Started) (H : Type) (enc : TypeId × Value -> H) (F : Stop.Interp) :
  ReturnsInHanded {} Tryd.checked os 3 .any ((Rows.OpenSpec.upto Rows.liveRestSpec).preRow enc Tryd.prog Tryd.f3 Rows.liveRestUptoRow.domain false Rows.liveRestUptoRow.laid) (((Rows.OpenSpec.upto Rows.liveRestSpec).at F).post enc Tryd.prog Tryd.f3 false true false false) := by
 obtain ⟨places, hx⟩ := reads os enc
 refine returnsInHanded_of_row (C := Tryd.checked) (s := Rows.OpenSpec.upto Rows.liveRestSpec) own started zK Tryd.func3
  (witness_row_at (enc := enc) (C := Tryd.checked) false (a7d os) #[(.agg #[(.slice none 0 0)]), (.slice none 0 0), (.int .u64 0)] rfl zK zK zK
   (OpenSpec.preRow_of_cond 8 hx zK (fun k hk => by cases hk; kernel_rfl) zK (b6p os))) ?_
 intro W base args ds gs before hval hW _ hcond _ hL _ _
 exact contract H enc W base args ds gs before hval hW (hcond _ rfl) (c4Y zK hL)
theorem over : Rows.LiveRestUptoSaid :=
 OpenClaim.holds_of_cond 3 Tryd.f3 rfl rfl rfl rfl rfl rfl rfl ⟨rfl, rfl, rfl, rfl, rfl⟩ rfl rfl rfl rfl rfl zK Tryd.func3 zK
  (of_decide_eq_true zK) (by unfold Func.isWrapper; first | (rw [if_pos (by decide +kernel)]; kernel_rfl) | (rw [if_neg (by decide +kernel)]; exact ⟨rfl, rfl⟩))
  (fun os started H enc _ F => by rw [OpenClaim.pre_eq_preRow]; exact c4Z os started H enc F)
theorem plain (f : FuncId) (fn : Go.Func) (hf : Tryd.pinned.checked.prog.funcNamed Rows.liveRestUptoRow.func = some f) (hfn : Tryd.pinned.checked.prog.funcs[f]? = some fn) :
  false = Tryd.pinned.checked.prog.looks [] /\ ∀ (j : Nat) t, fn.params[j]? = some t -> Tryd.pinned.checked.prog.wantsStandIn t = false := by
 obtain rfl : f = 3 := Option.some.inj ((show Tryd.prog.funcNamed Rows.liveRestUptoRow.func = some 3 by kernel_rfl).symm.trans hf) |>.symm
 obtain rfl : fn = Tryd.f3 := (Option.some.inj (Tryd.func3.symm.trans hfn)).symm
 refine ⟨by kernel_rfl, fun j t ht => ?_⟩
 rw [Tryd.params3] at ht
 match j, ht with
 | 0, ht => cases ht; exact (show Tryd.prog.wantsStandIn 24 = false by kernel_rfl)
 | 1, ht => cases ht; exact (show Tryd.prog.wantsStandIn 25 = false by kernel_rfl)
 | 2, ht => cases ht; exact (show Tryd.prog.wantsStandIn 26 = false by kernel_rfl)
 | k + 3, ht => simp at ht
theorem proved : Rows.LiveRestUptoCardSaid :=
 Claim7.holds_tied_plain_at .later [] _ _ _ _ over (fun _ h => by cases h) zK (fun _ h => by cases h) liveRestUpto_row_tie rfl ⟨rfl, rfl⟩ zK rfl plain zK
end liveRest
end Go.Proofs.YtipeiholgieclaaDoor

