/- SemRuns holds: for all arguments, as the statement reads them. -/
import Derived.Test.YtnpemocpfdgaoaaRsE3
set_option linter.unusedVariables false
set_option linter.unusedSimpArgs false
namespace Go.Proofs.Ytnpemocpfdgaoaa
open Go Go.Ab Go.RowKit
set_option maxRecDepth 20000
namespace semRuns
open Go.ChangeShapes Go.WideShapes Go.ChangeAt
theorem contract (H : Type) (enc : TypeId × Value -> H) (W : World) (base : Nat) (args : Array Value) (ds gs : List (DataW H)) (before : List MemPlace)
  (hval : ∀ (j : Nat) t v, Try.f6.params[j]? = some t -> args[j]? = some v -> Value.okWide Try.prog W .any base t v)
  (hW : DataW.Whole enc Try.prog Try.f6.params.toList Rows.semRunsSpec.vars false W args.toList ds gs before) (hk : Rows.uptoSmall H (ds ++ gs) = true) :
  Calls Try.prog 6 args W fun e W' => ∃ v, e = .returned v /\ Rows.semRunsSpec.post enc Try.prog Try.f6 false true false false W args v W' := by
 have hW' := hW
 have hlt := hW.lt
 obtain ⟨p, q, hA0, hV, rfl, hfz, hnd⟩ := hW
 have hA : DataW.TrodAll enc Try.prog W 0 (fun _ => true) true Try.f6.params.toList args.toList ds p := hA0
 rw [Try.params6] at hA hval
 obtain ⟨v0, vs0, d0, ds0, p0, q0, hargs0, rfl, rfl, h0, r0⟩ := trodAll_cons hA
 obtain ⟨v1, vs1, d1, ds1, p1, q1, hargs1, rfl, rfl, h1, r1⟩ := trodAll_cons r0
 obtain ⟨v2, vs2, d2, ds2, p2, q2, hargs2, rfl, rfl, h2, r2⟩ := trodAll_cons r1
 obtain ⟨rfl, rfl, rfl⟩ := trodAll_nil r2
 subst hargs2
 subst hargs1
 obtain rfl : args = #[v0, v1, v2] := by cases args; simp_all
 obtain ⟨rfl, rfl⟩ := trodVars_none hV
 have hbk0 : Rows.uptoBulk d0 <= 1048576 := by simp [Rows.uptoSmall, Rows.uptoBulkAll] at hk; omega
 obtain ⟨x0, hx0, hvr0⟩ := b2N (m := 12) c2T (hval 0 24 v0 rfl rfl) h0 zK zK hbk0
 obtain ⟨a0, rfl, ha0⟩ := b3j Program.enc ⟨_, Try.underlying24⟩ Program.rd hx0
 have hbk1 : Rows.uptoBulk d1 <= 1048576 := by simp [Rows.uptoSmall, Rows.uptoBulkAll] at hk; omega
 obtain ⟨x1, hx1, hvr1⟩ := b2N (m := 12) c2T (hval 1 25 v1 rfl rfl) h1 zK zK hbk1
 obtain ⟨a1, rfl, ha1⟩ := b3j (x3 (f7 .u64) 1) (fun fs h => by rw [Try.underlying25] at h; cases h) (rdL (f7 .u64) (fun fs h => by rw [Try.underlying55] at h; cases h) Try.underlying25 b4A (rdI Try.underlying55)) hx1
 have hbk2 : Rows.uptoBulk d2 <= 1048576 := by simp [Rows.uptoSmall, Rows.uptoBulkAll] at hk; omega
 obtain ⟨x2, hx2, hvr2⟩ := b2N (m := 12) c2T (hval 2 3 v2 rfl rfl) h2 zK zK hbk2
 obtain ⟨a2, rfl, ha2⟩ := b3j (f7 .i64) (fun fs h => by rw [Try.underlying3] at h; cases h) (rdI Try.underlying3) hx2
 refine (b5n (W := W) (b1n _ _) (b0u a0 a1 a2 ha0 ha1 ha2) (c4T hvr0 hvr1 hvr2)).mono fun e W' ⟨he, hb⟩ => ?_
 subst he
 refine ⟨_, rfl, b2P (pa := p0 ++ (p1 ++ (p2 ++ []))) hW' rfl rfl rfl rfl rfl rfl Try.underlying4 hb ?_⟩
 rw [Try.params6]
 exact ⟨p0, _, Below.trod b0r zK (of_decide_eq_true zK) h0 hb (fun y hy => hlt y (by simp [hy])), ⟨p1, _, Below.trod b0r zK (of_decide_eq_true zK) h1 hb (fun y hy => hlt y (by simp [hy])), ⟨p2, [], Below.trod b0r zK (of_decide_eq_true zK) h2 hb (fun y hy => hlt y (by simp [hy])), rfl, rfl⟩, rfl⟩, rfl⟩

set_option maxRecDepth 100000 in
theorem c0S (os : Os) (started : os.Started) (H : Type) (enc : TypeId × Value -> H) (F : Stop.Interp) :
  ReturnsInHanded {} Try.checked os 6 .any ((Rows.OpenSpec.upto Rows.semRunsSpec).pre6 enc Try.prog Try.f6 Rows.semRunsUptoRow.domain false) (((Rows.OpenSpec.upto Rows.semRunsSpec).at F).post enc Try.prog Try.f6 false true false false) := by
 refine returnsInHanded_of_cond (C := Try.checked) (s := Rows.OpenSpec.upto Rows.semRunsSpec) (k := Rows.uptoSmall) rfl own started zK Try.func6
  (OpenSpec.witness (enc := enc) (C := Try.checked) (s := Rows.OpenSpec.upto Rows.semRunsSpec) (k := Rows.uptoSmall) rfl false ⟨#[], #[(.agg #[(.slice none 0 0)]), (.slice none 0 0), (.int .i64 0)], []⟩ 8 zK zK zK
   (x := ([.agg [.nil], .nil, .lit (.int .i64 0)], [], [])) zK rfl zK) ?_
 intro W base args ds gs before hval hW _ hk _
 exact contract H enc W base args ds gs before hval hW hk

theorem over : Rows.semRunsUptoRow.holds Try.pinned (Rows.OpenSpec.upto Rows.semRunsSpec) :=
 OpenClaim.holds_of_cond 6 Try.f6 rfl rfl rfl rfl rfl rfl rfl ⟨rfl, rfl, rfl, rfl, rfl⟩ rfl rfl rfl rfl rfl zK Try.func6 zK
  (of_decide_eq_true zK) (by unfold Func.isWrapper; first | (rw [if_pos (by decide +kernel)]; kernel_rfl) | (rw [if_neg (by decide +kernel)]; exact ⟨rfl, rfl⟩))
  (fun os started H enc _ F => c0S os started H enc F)
theorem proved : Rows.SemRunsUptoSaid := over
end semRuns
end Go.Proofs.Ytnpemocpfdgaoaa

