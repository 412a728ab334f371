/- TablesReads holds: for bytes, as the statement reads them. -/
import Derived.Test.YtnmicfhdpnabcaaTbL13
import Derived.Test.YtnmicfhdpnabcaaTbR
namespace Go.Proofs.Ytnmicfhdpnabcaa
open Go Go.Ab Go.RowKit
set_option maxRecDepth 20000
set_option linter.unusedVariables false
set_option linter.unusedSimpArgs false
theorem fit_of {t : Tables} (h : Tables.Ok 1048576 t) : Fit t := by
  obtain ⟨⟨h1, h2⟩, h3, h4⟩ := h
  refine ⟨h1, h3, fun r hr => ?_, fun s hs => ?_⟩
  · obtain ⟨_, _, _, ⟨a, _⟩, ⟨b, _⟩, _⟩ := h2 r hr
    exact ⟨a, b⟩
  · exact (h4 s hs).2.1
theorem u8_wf {k : Int} (h : (Lit.int .u8 k).wf = true) : 0 ≤ k ∧ k ≤ 255 := by
  simp [Lit.wf, IntKind.min, IntKind.max, IntKind.bits, IntKind.signed] at h; omega
theorem i64_wf {k : Int} (h : (Lit.int .i64 k).wf = true) : -9223372036854775808 ≤ k ∧ k ≤ 9223372036854775807 := by
  simp [Lit.wf, IntKind.min, IntKind.max, IntKind.bits, IntKind.signed] at h; omega
theorem bts_of {t : Tables} (h : Tables.Ok 1048576 t) : Bts t := by
  obtain ⟨⟨h1, h2⟩, h3, h4⟩ := h
  intro r hr k hk
  obtain ⟨_, _, _, ⟨_, a⟩, _⟩ := h2 r hr
  exact u8_wf (a k hk)
theorem reads_law (b : List Int) (hb : (fun l => List.length l ≤ 1048576 ∧ ∀ a ∈ l, (fun n => (Lit.int .u8 n).wf = true) a) b) : windlasslaw19_TablesReads_s 1048578 b = some true := Reads_law 1048578 (by omega) b hb.1 (fun x hx => u8_wf (hb.2 x hx))
namespace tablesReads
open Go.ChangeShapes Go.WideShapes Go.ChangeAt
theorem contract (H : Type) (enc : TypeId × Value → H) (W : World) (base : Nat) (args : Array Value) (ds gs : List (DataW H)) (before : List MemPlace)
    (hval : ∀ (j : Nat) t v, Try.f6.params[j]? = some t → args[j]? = some v → Value.okWide Try.prog W .any base t v)
    (hW : DataW.Whole enc Try.prog Try.f6.params.toList Rows.tablesReadsSpec.vars false W args.toList ds gs before) (hk : Rows.uptoSmall H (ds ++ gs) = true) :
    Calls Try.prog 6 args W fun e W' => ∃ v, e = .returned v ∧ Rows.tablesReadsSpec.post enc Try.prog Try.f6 false true false false W args v W' := by
  have hW' := hW
  have hlt := hW.lt
  obtain ⟨p, q, hA0, hV, rfl, hfz, hnd⟩ := hW
  have hA : DataW.TrodAll enc Try.prog W 0 (fun _ => true) true Try.f6.params.toList args.toList ds p := hA0
  rw [Try.params6] at hA hval
  obtain ⟨v0, vs0, d0, ds0, p0, q0, hargs0, rfl, rfl, h0, r0⟩ := trodAll_cons hA
  obtain ⟨rfl, rfl, rfl⟩ := trodAll_nil r0
  obtain rfl : args = #[v0] := by cases args; simp_all
  obtain ⟨rfl, rfl⟩ := trodVars_none hV
  have hbk0 : Rows.uptoBulk d0 ≤ 1048576 := by simp [Rows.uptoSmall, Rows.uptoBulkAll] at hk; omega
  obtain ⟨x0, hx0, hvr0⟩ := arg_av (m := 12) bulk (hval 0 42 v0 rfl rfl) h0 (by kernel_rfl) (by kernel_rfl) hbk0
  obtain ⟨a0, rfl, ha0⟩ := arg_rd (encL (encI .u8) 1) (fun fs h => by rw [Try.underlying42] at h; cases h) (rdL (encI .u8) (fun fs h => by rw [Try.underlying5] at h; cases h) Try.underlying42 cells5 (rdI Try.underlying5)) hx0
  refine (law_true (W := W) (windlasslaw19_TablesReads_ev (reads_law a0 ha0)) (VRs1 hvr0)).mono fun e W' ⟨he, hb⟩ => ?_
  subst he
  refine ⟨_, rfl, post_true (pa := p0 ++ []) hW' rfl rfl rfl rfl rfl rfl Try.underlying4 hb ?_⟩
  rw [Try.params6]
  exact ⟨p0, [], Below.trod laidOut (by kernel_rfl) (of_decide_eq_true (by kernel_rfl)) h0 hb (fun y hy => hlt y (by simp [hy])), rfl, rfl⟩

set_option maxRecDepth 100000 in
theorem lifted (os : Os) (started : os.Started) (H : Type) (enc : TypeId × Value → H) (F : Stop.Interp) :
    ReturnsInHanded {} Try.checked os 6 .any ((Rows.OpenSpec.upto Rows.tablesReadsSpec).pre6 enc Try.prog Try.f6 Rows.tablesReadsUptoRow.domain false) (((Rows.OpenSpec.upto Rows.tablesReadsSpec).at F).post enc Try.prog Try.f6 false true false false) := by
  refine returnsInHanded_of_cond (C := Try.checked) (s := Rows.OpenSpec.upto Rows.tablesReadsSpec) (k := Rows.uptoSmall) rfl own started (by kernel_rfl) Try.func6
    (OpenSpec.witness (enc := enc) (C := Try.checked) (s := Rows.OpenSpec.upto Rows.tablesReadsSpec) (k := Rows.uptoSmall) rfl false ⟨#[], #[(.slice none 0 0)], []⟩ 8 (by kernel_rfl) (by kernel_rfl) (by kernel_rfl)
      (x := ([.nil], [], [])) (by kernel_rfl) rfl (by kernel_rfl)) ?_
  intro W base args ds gs before hval hW _ hk _
  exact contract H enc W base args ds gs before hval hW hk

theorem over : Rows.tablesReadsUptoRow.holds Try.pinned (Rows.OpenSpec.upto Rows.tablesReadsSpec) :=
  OpenClaim.holds_of_cond 6 Try.f6 rfl rfl rfl rfl rfl rfl rfl ⟨rfl, rfl, rfl, rfl, rfl⟩ rfl rfl rfl rfl rfl (by kernel_rfl) Try.func6 (by kernel_rfl)
    (of_decide_eq_true (by kernel_rfl)) (by unfold Func.isWrapper; first | (rw [if_pos (by decide +kernel)]; kernel_rfl) | (rw [if_neg (by decide +kernel)]; exact ⟨rfl, rfl⟩))
    (fun os started H enc _ F => lifted os started H enc F)
theorem proved : Rows.TablesReadsUptoSaid := over
end tablesReads
end Go.Proofs.Ytnmicfhdpnabcaa
