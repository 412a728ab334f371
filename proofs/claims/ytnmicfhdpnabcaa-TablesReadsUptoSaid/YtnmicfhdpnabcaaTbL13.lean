/- Plain laws of the tables: what the document reads is what Encode makes. -/
import Derived.Test.YtnmicfhdpnabcaaTbL12
namespace Go.Proofs.Ytnmicfhdpnabcaa
open Go Go.Ab
set_option maxRecDepth 20000
set_option linter.unusedVariables false
set_option linter.unusedSimpArgs false

def QP (k : Int) : Prop := 0 ≤ k ∧ k ≤ 255
def QT {α : Type} (_ : α) : Prop := True
theorem stepPS {fuel : Nat} (hf : 1048578 ≤ fuel) {b0 B : List Int} (hB : B.length ≤ 1048576) {n : Int} : ∀ (p : Nat) (acc : List Int) (pre : List Int), (acc.length : Int) < n → acc.length ≤ 1048576 → p ≤ B.length → Rst b0 (B.drop p) false pre →
      (bodyP fuel n ((acc.length : Int), B, (p : Int), false, acc) = some (.ret (some (.ret (some (Tables.mk [] [], false)))))) ∨ ∃ (p' : Nat) (bad' : Bool) (y : Int), bodyP fuel n ((acc.length : Int), B, (p : Int), false, acc) = some (.nxt ((acc.length : Int) + 1, B, (p' : Int), bad', acc ++ [y])) ∧ p' ≤ B.length ∧ p ≤ p' ∧ Rst b0 (B.drop p') bad' (pre ++ le4 y) ∧ (bad' = false → p < p' ∧ QP y) := by
  intro p acc pre hi hacc hp h
  obtain ⟨w1, p1, d1, e1, hp1, h, wl1, wu1, q1, g1, m1⟩ := next_any (fuel := fuel) (by omega) hB hp h
  unfold bodyP jp
  simp only [decide_eq_true hi, if_true, Bool.not_false]
  rw [e1]
  simp only [Option.bind_some]
  by_cases hw : w1 > 1
  · simp only [decide_eq_true hw, if_true]
    exact .inl trivial
  · simp only [decide_eq_false hw, Bool.false_eq_true, if_false]
    rw [appL_of (by simp only [List.length_singleton]; omega) (by simp only [List.length_singleton]; omega), I64_of (x := (acc.length : Int) + 1) (by omega)]
    rw [U8_of (by omega)]
    exact .inr ⟨p1, d1, w1, rfl, hp1, m1, h, fun hd => ⟨by have := g1 hd; omega, by omega, by omega⟩⟩
theorem stepVS {fuel : Nat} (hf : 1048578 ≤ fuel) {b0 B : List Int} (hB : B.length ≤ 1048576) {n : Int} : ∀ (p : Nat) (acc : List Save) (pre : List Int), (acc.length : Int) < n → acc.length ≤ 1048576 → p ≤ B.length → Rst b0 (B.drop p) false pre →
      (bodyV fuel n ((acc.length : Int), B, (p : Int), false, acc) = some (.ret (some (.ret (some (Tables.mk [] [], false)))))) ∨ ∃ (p' : Nat) (bad' : Bool) (y : Save), bodyV fuel n ((acc.length : Int), B, (p : Int), false, acc) = some (.nxt ((acc.length : Int) + 1, B, (p' : Int), bad', acc ++ [y])) ∧ p' ≤ B.length ∧ p ≤ p' ∧ Rst b0 (B.drop p') bad' (pre ++ encV y) ∧ (bad' = false → p < p' ∧ QT y) := by
  intro p acc pre hi hacc hp h
  obtain ⟨w1, p1, d1, e1, hp1, h, wl1, wu1, q1, g1, m1⟩ := next_any (fuel := fuel) (by omega) hB hp h
  obtain ⟨w2, p2, d2, e2, hp2, h, wl2, wu2, q2, g2, m2⟩ := next_any (fuel := fuel) (by omega) hB hp1 h
  unfold bodyV jp
  simp only [decide_eq_true hi, if_true, Bool.not_false]
  rw [e1]
  simp only [Option.bind_some]
  rw [e2]
  simp only [Option.bind_some]
  rw [appL_of (by simp only [List.length_singleton]; omega) (by simp only [List.length_singleton]; omega), I64_of (x := (acc.length : Int) + 1) (by omega)]
  exact .inr ⟨p2, d2, _, rfl, hp2, by omega, by simpa [encV] using h, fun hd => ⟨by have := g2 hd; omega, trivial⟩⟩
theorem stepLS {fuel : Nat} (hf : 1048578 ≤ fuel) {b0 B : List Int} (hB : B.length ≤ 1048576) {n : Int} : ∀ (p : Nat) (acc : List Int) (pre : List Int), (acc.length : Int) < n → acc.length ≤ 1048576 → p ≤ B.length → Rst b0 (B.drop p) false pre →
      (bodyL fuel n ((acc.length : Int), B, (p : Int), false, acc) = some (.ret (some (.ret (some (Tables.mk [] [], false)))))) ∨ ∃ (p' : Nat) (bad' : Bool) (y : Int), bodyL fuel n ((acc.length : Int), B, (p : Int), false, acc) = some (.nxt ((acc.length : Int) + 1, B, (p' : Int), bad', acc ++ [y])) ∧ p' ≤ B.length ∧ p ≤ p' ∧ Rst b0 (B.drop p') bad' (pre ++ le4 y) ∧ (bad' = false → p < p' ∧ QT y) := by
  intro p acc pre hi hacc hp h
  obtain ⟨w1, p1, d1, e1, hp1, h, wl1, wu1, q1, g1, m1⟩ := next_any (fuel := fuel) (by omega) hB hp h
  unfold bodyL jp
  simp only [decide_eq_true hi, if_true, Bool.not_false]
  rw [e1]
  simp only [Option.bind_some]
  rw [appL_of (by simp only [List.length_singleton]; omega) (by simp only [List.length_singleton]; omega), I64_of (x := (acc.length : Int) + 1) (by omega)]
  exact .inr ⟨p1, d1, _, rfl, hp1, by omega, h, fun hd => ⟨by have := g1 hd; omega, trivial⟩⟩
theorem stepFS {fuel : Nat} (hf : 1048578 ≤ fuel) {b0 B : List Int} (hB : B.length ≤ 1048576) {n : Int} : ∀ (p : Nat) (acc : List FuncRow) (pre : List Int), (acc.length : Int) < n → acc.length ≤ 1048576 → p ≤ B.length → Rst b0 (B.drop p) false pre →
      (bodyF fuel n ((acc.length : Int), B, (p : Int), false, acc) = some (.ret (some (Tables.mk [] [], false)))) ∨ ∃ (p' : Nat) (bad' : Bool) (y : FuncRow), bodyF fuel n ((acc.length : Int), B, (p : Int), false, acc) = some (.nxt ((acc.length : Int) + 1, B, (p' : Int), bad', acc ++ [y])) ∧ p' ≤ B.length ∧ p ≤ p' ∧ Rst b0 (B.drop p') bad' (pre ++ encF y) ∧ (bad' = false → p < p' ∧ QF y) := by
  intro p acc pre hi hacc hp h
  obtain ⟨w1, p1, d1, e1, hp1, h, wl1, wu1, q1, g1, m1⟩ := next_any (fuel := fuel) (by omega) hB hp h
  obtain ⟨w2, p2, d2, e2, hp2, h, wl2, wu2, q2, g2, m2⟩ := next_any (fuel := fuel) (by omega) hB hp1 h
  obtain ⟨w3, p3, d3, e3, hp3, h, wl3, wu3, q3, g3, m3⟩ := next_any (fuel := fuel) (by omega) hB hp2 h
  obtain ⟨w4, p4, d4, e4, hp4, h, wl4, wu4, q4, g4, m4⟩ := next_any (fuel := fuel) (by omega) hB hp3 h
  obtain ⟨w5, p5, d5, e5, hp5, h, wl5, wu5, q5, g5, m5⟩ := next_any (fuel := fuel) (by omega) hB hp4 h
  unfold bodyF jp
  simp only [decide_eq_true hi, if_true, Bool.not_false]
  rw [e1]; simp only [Option.bind_some]
  rw [e2]; simp only [Option.bind_some]
  rw [e3]; simp only [Option.bind_some]
  rw [e4]; simp only [Option.bind_some]
  rw [e5]; simp only [Option.bind_some]
  obtain e6 | ⟨i6, p6, d6, ys6, e6, hp6, m6, l6, h, q6⟩ := tapeS0 (fuel := fuel) le4 QP (some (.ret (some (Tables.mk [] [], false)))) (endP fuel w5 B) (stepPS hf hB) hf hB hp5 wl5 h
  · left; rw [e6]; rfl
  rw [e6]; simp only [Option.bind_some, oc]
  obtain ⟨w7, p7, d7, e7, hp7, h, wl7, wu7, q7, g7, m7⟩ := next_any (fuel := fuel) (by omega) hB hp6 h
  rw [e7]; simp only [Option.bind_some]
  obtain e8 | ⟨i8, p8, d8, ys8, e8, hp8, m8, l8, h, q8⟩ := tapeS0 (fuel := fuel) encV QT (some (.ret (some (Tables.mk [] [], false)))) (endV fuel w7 B) (stepVS hf hB) hf hB hp7 wl7 h
  · left; rw [e8]; rfl
  rw [e8]; simp only [Option.bind_some, oc]
  rw [appL_of (by simp only [List.length_singleton]; omega) (by simp only [List.length_singleton]; omega), I64_of (x := (acc.length : Int) + 1) (by omega)]
  rw [I64_of (x := w4 - 1) (by omega)]
  cases d8 with
  | true => exact .inr ⟨p8, true, _, rfl, hp8, by omega, h.skip, nofun⟩
  | false =>
    obtain ⟨b7, n8, l8', _⟩ := q8 rfl
    obtain ⟨b5, n6, l6', hk⟩ := q6 (q7 b7)
    refine .inr ⟨p8, false, _, rfl, hp8, by omega, ?_, fun _ => ⟨?_, l6', l8', hk⟩⟩
    · simp only [encF, Int.sub_add_cancel, n6, n8]
      simpa [List.append_assoc] using h
    · have := g1 (q2 (q3 (q4 (q5 b5)))); omega
theorem stepSS {fuel : Nat} (hf : 1048578 ≤ fuel) {b0 B : List Int} (hB : B.length ≤ 1048576) {n : Int} : ∀ (p : Nat) (acc : List Site) (pre : List Int), (acc.length : Int) < n → acc.length ≤ 1048576 → p ≤ B.length → Rst b0 (B.drop p) false pre →
      (bodyS fuel n ((acc.length : Int), B, (p : Int), false, acc) = some (.ret (some (Tables.mk [] [], false)))) ∨ ∃ (p' : Nat) (bad' : Bool) (y : Site), bodyS fuel n ((acc.length : Int), B, (p : Int), false, acc) = some (.nxt ((acc.length : Int) + 1, B, (p' : Int), bad', acc ++ [y])) ∧ p' ≤ B.length ∧ p ≤ p' ∧ Rst b0 (B.drop p') bad' (pre ++ encS y) ∧ (bad' = false → p < p' ∧ QS y) := by
  intro p acc pre hi hacc hp h
  obtain ⟨w1, p1, d1, e1, hp1, h, wl1, wu1, q1, g1, m1⟩ := next_any (fuel := fuel) (by omega) hB hp h
  obtain ⟨w5, p5, d5, e5, hp5, h, wl5, wu5, q5, g5, m5⟩ := next_any (fuel := fuel) (by omega) hB hp1 h
  unfold bodyS jp
  simp only [decide_eq_true hi, if_true, Bool.not_false]
  rw [e1]; simp only [Option.bind_some]
  rw [e5]; simp only [Option.bind_some]
  obtain e6 | ⟨i6, p6, d6, ys6, e6, hp6, m6, l6, h, q6⟩ := tapeS0 (fuel := fuel) le4 QT (some (.ret (some (Tables.mk [] [], false)))) (endL fuel w5 B) (stepLS hf hB) hf hB hp5 wl5 h
  · left; rw [e6]; rfl
  rw [e6]; simp only [Option.bind_some, oc]
  rw [appL_of (by simp only [List.length_singleton]; omega) (by simp only [List.length_singleton]; omega), I64_of (x := (acc.length : Int) + 1) (by omega)]
  cases d6 with
  | true => exact .inr ⟨p6, true, _, rfl, hp6, by omega, h.skip, nofun⟩
  | false =>
    obtain ⟨b5, n6, l6', _⟩ := q6 rfl
    refine .inr ⟨p6, false, _, rfl, hp6, by omega, ?_, fun _ => ⟨?_, l6'⟩⟩
    · simp only [encS, n6]
      simpa [List.append_assoc] using h
    · have := g1 (q5 b5); omega

theorem Read_sound {fuel : Nat} (hf : 1048578 ≤ fuel) {B : List Int} (hB : B.length ≤ 1048576) (hby : ∀ x ∈ B, 0 ≤ x ∧ x ≤ 255) :
    windlassref19_Read_s fuel B = some (Tables.mk [] [], false) ∨ ∃ t, windlassref19_Read_s fuel B = some (t, true) ∧ Good t B := by
  rw [Read_eq]
  have h : Rst B (B.drop 0) false [] := ⟨by simpa using hB, by simpa using hby, fun _ => by simp⟩
  obtain ⟨w1, p1, d1, e1, hp1, h, wl1, wu1, q1, g1, m1⟩ := next_any (fuel := fuel) (by omega) hB (Nat.zero_le _) h
  have e1' : windlassref19_Tape_next_pNNN_s fuel B 0 false = _ := e1
  rw [e1']; simp only [Option.bind_some]
  obtain e2 | ⟨i2, p2, d2, ys2, e2, hp2, m2, l2, h, q2⟩ := tapeS0 (fuel := fuel) encF QF (some (Tables.mk [] [], false)) (endF fuel w1 B) (stepFS hf hB) hf hB hp1 wl1 h
  · left; rw [e2]; rfl
  rw [e2]; simp only [Option.bind_some, oc]
  obtain ⟨w3, p3, d3, e3, hp3, h, wl3, wu3, q3, g3, m3⟩ := next_any (fuel := fuel) (by omega) hB hp2 h
  rw [e3]; simp only [Option.bind_some]
  obtain e4 | ⟨i4, p4, d4, ys4, e4, hp4, m4, l4, h, q4⟩ := tapeS0 (fuel := fuel) encS QS (some (Tables.mk [] [], false)) (endS fuel w3 B) (stepSS hf hB) hf hB hp3 wl3 h
  · left; rw [e4]; rfl
  rw [e4]; simp only [Option.bind_some, oc]
  unfold rEnd jp
  cases d4 with
  | true => exact .inl rfl
  | false =>
    obtain ⟨b3, n4, l4', hss⟩ := q4 rfl
    obtain ⟨b1, n2, l2', hfs⟩ := q2 (q3 b3)
    simp only [Bool.false_eq_true, if_false]
    cases hc : ((p4 : Int) != (B.length : Int)) with
    | true => exact .inl rfl
    | false =>
      have hfit : Fit (Tables.mk ys2 ys4) := ⟨l2', l4', fun r hr => ⟨(hfs r hr).1, (hfs r hr).2.1⟩, fun s hs => hss s hs⟩
      simp only [Bool.false_eq_true, if_false]
      rw [Right_eq _ hfit]
      simp only [Option.bind_some]
      cases ho : okT (Tables.mk ys2 ys4)
      · exact .inl rfl
      · refine .inr ⟨_, rfl, ho, hfit, fun r hr => (hfs r hr).2.2, ?_⟩
        have hpe : p4 = B.length := by
          have : (p4 : Int) = (B.length : Int) := by simpa using hc
          omega
        have := h.2.2 rfl
        rw [hpe, List.drop_length, List.append_nil] at this
        rw [this]
        simp [encT, n2, n4]

theorem Reads_law (fuel : Nat) (hf : 1048578 ≤ fuel) (b : List Int) (hl : b.length ≤ 1048576) (hby : ∀ x ∈ b, 0 ≤ x ∧ x ≤ 255) : windlasslaw19_TablesReads_s fuel b = some true := by
  unfold windlasslaw19_TablesReads_s
  obtain ⟨st, hst, hof⟩ := toStr_some hby
  rw [first_eq fuel (by omega), hst]
  simp only [Option.bind_some, Bool.not_true, Bool.false_eq_true, if_false, hof, beq_self_eq_true]
  have key : ∀ t, Good t b → tables_Decode_s b = some (t, 0) ∧ windlassref19_Read_s fuel b = some (t, true) ∧ windlassref19_Bytes_s fuel t = some b ∧ windlassref19_Right_s t = some true := by
    intro t ⟨ho, hft, hb, he⟩
    have hw := wh_of hft hb ho
    rw [he] at hl ⊢
    exact ⟨Decode_enc hft ho hw (by omega), Read_complete hf ho hft hw hl, Bytes_eq (by omega) t hft hw, by rw [Right_eq t hft, ho]⟩
  rcases Read_sound hf hl hby with e | ⟨t, _, hg⟩
  · rcases Decode_sound b hl hby with e' | ⟨t, _, hg⟩
    · rw [e, e']
      rfl
    · obtain ⟨_, e2, _⟩ := key t hg
      rw [e] at e2; cases e2
  · obtain ⟨e1, e2, e3, e4⟩ := key t hg
    rw [e1, e2]
    simp only [Option.bind_some, Bool.not_true, Bool.false_eq_true, if_false, jp, e4, e3, hst, beq_self_eq_true, if_true]
end Go.Proofs.Ytnmicfhdpnabcaa
