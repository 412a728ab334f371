/- Plain laws of the tables: the document reads what Encode makes. -/
import Derived.Test.YtnmicfhdpnabcaaTbL11
namespace Go.Proofs.Ytnmicfhdpnabcaa
open Go Go.Ab
set_option maxRecDepth 20000
set_option linter.unusedVariables false
set_option linter.unusedSimpArgs false

theorem stepFC {fuel : Nat} (hf : 1048578 ≤ fuel) {B : List Int} (hB : B.length ≤ 1048576) {t : Tables} (hw : Wh t) {n : Int} : ∀ r ∈ t.Funcs, ∀ (i : Int) (p : Nat) (acc : List FuncRow) (E : List Int), 0 ≤ i + 1048577 → i < n → n ≤ 1048577 → acc.length ≤ 1048576 → AtB B p (encF r ++ E) →
    ∃ p' : Nat, bodyF fuel n (i, B, (p : Int), false, acc) = some (.nxt (i + 1, B, (p' : Int), false, acc ++ [r])) ∧ AtB B p' E := by
  intro r hr i p acc E hi0 hi hn hacc h
  obtain ⟨r1, r2, r3, r4, r5, r6, r7, r8⟩ := hw.r r hr
  simp only [encF, List.append_assoc] at h
  obtain ⟨e1, h⟩ := next_le4 (fuel := fuel) (by omega) hB h (by omega) (by omega)
  obtain ⟨e2, h⟩ := next_le4 (fuel := fuel) (by omega) hB h (by omega) (by omega)
  obtain ⟨e3, h⟩ := next_le4 (fuel := fuel) (by omega) hB h (by omega) (by omega)
  obtain ⟨e4, h⟩ := next_le4 (fuel := fuel) (by omega) hB h (by omega) (by omega)
  obtain ⟨e5, h⟩ := next_le4 (fuel := fuel) (by omega) hB h (by omega) (by omega)
  obtain ⟨p6, e6, h⟩ := tapeC0 (n := r.Params.length) le4 r.Params (endCP fuel _ B) hf rfl (by omega) (fun k hk i p acc E hi hn hacc h => stepPC hf hB k (r6 k hk) i p acc E (by omega) hi (by omega) hacc h) h
  obtain ⟨e7, h⟩ := next_le4 (fuel := fuel) (by omega) hB h (by omega) (by omega)
  obtain ⟨p8, e8, h⟩ := tapeC0 (n := r.Saves.length) encV r.Saves (endCV fuel _ B) hf rfl (by omega) (fun k hk i p acc E hi hn hacc h => stepVC hf hB k (r8 k hk) i p acc E (by omega) hi (by omega) hacc h) h
  refine ⟨p8, ?_, h⟩
  unfold bodyF jp
  simp only [decide_eq_true hi, if_true, Bool.not_false]
  rw [e1]; simp only [Option.bind_some]
  rw [e2]; simp only [Option.bind_some]
  rw [e3]; simp only [Option.bind_some]
  rw [e4]; simp only [Option.bind_some]
  rw [e5]; simp only [Option.bind_some]
  rw [e6]; simp only [Option.bind_some, oc]
  rw [e7]; simp only [Option.bind_some]
  rw [e8]; simp only [Option.bind_some, oc]
  rw [appL_of (by simp only [List.length_singleton]; omega) (by simp only [List.length_singleton]; omega), I64_of (x := i + 1) (by omega), Int.add_sub_cancel, I64_of (by omega)]
  rfl
theorem stepSC {fuel : Nat} (hf : 1048578 ≤ fuel) {B : List Int} (hB : B.length ≤ 1048576) {t : Tables} (hw : Wh t) {n : Int} : ∀ s ∈ t.Sites, ∀ (i : Int) (p : Nat) (acc : List Site) (E : List Int), 0 ≤ i + 1048577 → i < n → n ≤ 1048577 → acc.length ≤ 1048576 → AtB B p (encS s ++ E) →
    ∃ p' : Nat, bodyS fuel n (i, B, (p : Int), false, acc) = some (.nxt (i + 1, B, (p' : Int), false, acc ++ [s])) ∧ AtB B p' E := by
  intro s hs i p acc E hi0 hi hn hacc h
  obtain ⟨r1, r2, r3⟩ := hw.l s hs
  simp only [encS, List.append_assoc] at h
  obtain ⟨e1, h⟩ := next_le4 (fuel := fuel) (by omega) hB h (by omega) (by omega)
  obtain ⟨e5, h⟩ := next_le4 (fuel := fuel) (by omega) hB h (by omega) (by omega)
  obtain ⟨p6, e6, h⟩ := tapeC0 (n := s.Live.length) le4 s.Live (endCL fuel _ B) hf rfl (by omega) (fun k hk i p acc E hi hn hacc h => stepLC hf hB k (r3 k hk) i p acc E (by omega) hi (by omega) hacc h) h
  refine ⟨p6, ?_, h⟩
  unfold bodyS jp
  simp only [decide_eq_true hi, if_true, Bool.not_false]
  rw [e1]; simp only [Option.bind_some]
  rw [e5]; simp only [Option.bind_some]
  rw [e6]; simp only [Option.bind_some, oc]
  rw [appL_of (by simp only [List.length_singleton]; omega) (by simp only [List.length_singleton]; omega), I64_of (x := i + 1) (by omega)]
  rfl

theorem Read_complete {fuel : Nat} (hf : 1048578 ≤ fuel) {t : Tables} (ho : okT t = true) (hft : Fit t) (hw : Wh t) (hB : (encT t).length ≤ 1048576) : windlassref19_Read_s fuel (encT t) = some (t, true) := by
  rw [Read_eq]
  have hF := hw.f
  have hS := hw.s
  have h : AtB (encT t) 0 (le4 t.Funcs.length ++ (t.Funcs.flatMap encF ++ (le4 t.Sites.length ++ (t.Sites.flatMap encS ++ [])))) := ⟨Nat.zero_le _, by simp [encT]⟩
  obtain ⟨e1, h⟩ := next_le4 (fuel := fuel) (by omega) hB h (by omega) (by omega)
  obtain ⟨p2, e2, h⟩ := tapeC0 (n := t.Funcs.length) encF t.Funcs (endCF fuel _ (encT t)) hf rfl (by omega) (fun k hk i p acc E hi hn hacc h => stepFC hf hB hw k hk i p acc E (by omega) hi (by omega) hacc h) h
  obtain ⟨e3, h⟩ := next_le4 (fuel := fuel) (by omega) hB h (by omega) (by omega)
  obtain ⟨p4, e4, h⟩ := tapeC0 (n := t.Sites.length) encS t.Sites (endCS fuel _ (encT t)) hf rfl (by omega) (fun k hk i p acc E hi hn hacc h => stepSC hf hB hw k hk i p acc E (by omega) hi (by omega) hacc h) h
  have e1' : windlassref19_Tape_next_pNNN_s fuel (encT t) 0 false = _ := e1
  rw [e1']; simp only [Option.bind_some]
  rw [e2]; simp only [Option.bind_some, oc]
  rw [e3]; simp only [Option.bind_some]
  rw [e4]; simp only [Option.bind_some, oc]
  have hlen := congrArg List.length h.2
  simp only [List.length_drop, List.length_nil] at hlen
  have hle := h.1
  have hp : (((p4 : Nat) : Int) != ((encT t).length : Int)) = false := by
    rw [show p4 = (encT t).length by omega]; exact bne_self_eq_false _
  unfold rEnd jp
  simp only [Bool.false_eq_true, if_false, hp]
  have hr := Right_eq t hft
  cases t
  simp only at hr ⊢
  rw [hr, ho]; rfl
end Go.Proofs.Ytnmicfhdpnabcaa
