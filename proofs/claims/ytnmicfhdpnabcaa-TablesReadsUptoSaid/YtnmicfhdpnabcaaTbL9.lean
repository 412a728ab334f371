/- Plain laws of the tables: what Decode takes is what Encode makes. -/
import Derived.Test.YtnmicfhdpnabcaaTbL6
namespace Go.Proofs.Ytnmicfhdpnabcaa
open Go Go.Ab
set_option maxRecDepth 20000
set_option linter.unusedVariables false
set_option linter.unusedSimpArgs false

/-- What was read so far. -/
def Rst (b0 b : List Int) (bad : Bool) (pre : List Int) : Prop := b.length ≤ 1048576 ∧ (∀ x ∈ b, 0 ≤ x ∧ x ≤ 255) ∧ (bad = false → b0 = pre ++ b)
theorem Rst.skip {b0 b pre pre' : List Int} {bad : Bool} (h : Rst b0 b bad pre) : Rst b0 b true pre' := ⟨h.1, h.2.1, nofun⟩
theorem val_le4' {a b c d : Int} (ha : 0 ≤ a ∧ a ≤ 255) (hb : 0 ≤ b ∧ b ≤ 255) (hc : 0 ≤ c ∧ c ≤ 255) (hd : 0 ≤ d ∧ d ≤ 255) : le4 (val4 a b c d) = [a, b, c, d] ∧ 0 ≤ val4 a b c d ∧ val4 a b c d < 4294967296 := by
  unfold le4 val4
  refine ⟨?_, by omega, by omega⟩
  congr 1
  · omega
  congr 1
  · omega
  congr 1
  · omega
  congr 1
  omega
theorem Rst.num {b0 b pre : List Int} {bad : Bool} (h : Rst b0 b bad pre) : ∃ v b' bad', tables_reader_number_pNN_s b bad = some (v, b', bad') ∧ Rst b0 b' bad' (pre ++ le4 v) ∧ 0 ≤ v ∧ v < 4294967296 ∧ (bad' = false → bad = false) := by
  cases bad with
  | true => exact ⟨0, b, true, num_bad b, h.skip, by omega, by omega, nofun⟩
  | false =>
    by_cases hs : b.length < 4
    · exact ⟨0, b, true, num_short hs, h.skip, by omega, by omega, nofun⟩
    · match b, hs, h with
      | a :: b :: c :: d :: r, _, ⟨hl, hb, he⟩ =>
        have h1 := hb a (by simp)
        have h2 := hb b (by simp)
        have h3 := hb c (by simp)
        have h4 := hb d (by simp)
        obtain ⟨e, p0, p1⟩ := val_le4' h1 h2 h3 h4
        refine ⟨_, r, false, num_cons h1 h2 h3 h4, ⟨by simp only [List.length_cons] at hl; omega, fun x hx => hb x (by simp [hx]), fun _ => ?_⟩, p0, p1, fun _ => rfl⟩
        rw [he rfl, e]; simp
      | [], hs, _ => simp at hs
      | [_], hs, _ => simp at hs
      | [_, _], hs, _ => simp at hs
      | [_, _, _], hs, _ => simp at hs
theorem Rst.cnt {b0 b pre : List Int} {bad : Bool} (h : Rst b0 b bad pre) : ∃ v b' bad', tables_reader_count_pNN_s b bad = some (v, b', bad') ∧ Rst b0 b' bad' (pre ++ le4 v) ∧ 0 ≤ v ∧ v ≤ 262144 ∧ (bad' = false → bad = false) := by
  obtain ⟨v, b', bad', e, hs, h0, h1, hb⟩ := h.num
  unfold tables_reader_count_pNN_s
  rw [e]
  simp only [Option.bind_some]
  have hl := hs.1
  have e4 : I64 (Int.tdiv (b'.length : Int) 4) = (b'.length : Int) / 4 := by
    rw [Int.tdiv_eq_ediv_of_nonneg (by omega), I64_of (by omega)]
  rw [e4]
  by_cases hh : v > (b'.length : Int) / 4
  · rw [decide_eq_true hh]
    exact ⟨_, _, _, rfl, hs.skip, by omega, by omega, nofun⟩
  · rw [decide_eq_false hh]
    exact ⟨_, _, _, rfl, hs, h0, by omega, hb⟩

theorem soundN {α ρ : Type} {b0 : List Int} (en : α → List Int) (Q : α → Prop) {body : Nat → (List Int × Bool × List α) → Option (Stp (List Int × Bool × List α) ρ)}
    (hb : ∀ (i : Nat) (b : List Int) (bad : Bool) (acc : List α) (pre : List Int), acc.length ≤ 1048576 → Rst b0 b bad pre →
      ∃ b' bad' y, body i (b, bad, acc) = some (.nxt (b', bad', acc ++ [y])) ∧ Rst b0 b' bad' (pre ++ en y) ∧ (bad' = false → bad = false ∧ Q y)) :
    ∀ (n i : Nat) (b : List Int) (bad : Bool) (acc : List α) (pre : List Int), acc.length + n ≤ 1048576 → Rst b0 b bad pre →
    ∃ b' bad' ys, rangeN body n i (b, bad, acc) = some (.fin (b', bad', acc ++ ys)) ∧ Rst b0 b' bad' (pre ++ ys.flatMap en) ∧ ys.length = n ∧ (bad' = false → bad = false ∧ ∀ y ∈ ys, Q y)
  | 0, i, b, bad, acc, pre, hl, h => ⟨b, bad, [], by simp [rangeN], by simpa using h, rfl, fun h => ⟨h, fun y hy => by cases hy⟩⟩
  | n + 1, i, b, bad, acc, pre, hl, h => by
    obtain ⟨b1, bad1, y, e1, c1, g1⟩ := hb i b bad acc pre (by omega) h
    obtain ⟨b2, bad2, ys, e2, c2, l2, g2⟩ := soundN en Q hb n (i + 1) b1 bad1 (acc ++ [y]) _ (by simp only [List.length_append, List.length_singleton]; omega) c1
    refine ⟨b2, bad2, y :: ys, ?_, ?_, by simp [l2], fun hf => ?_⟩
    · simp only [rangeN, e1]
      rw [e2]; simp
    · simpa using c2
    · obtain ⟨h1, h2⟩ := g2 hf
      obtain ⟨h3, h4⟩ := g1 h1
      refine ⟨h3, fun z hz => ?_⟩
      rcases List.mem_cons.1 hz with rfl | hz
      · exact h4
      · exact h2 z hz
theorem soundI {α ρ : Type} {b0 : List Int} (en : α → List Int) (Q : α → Prop) {body : Nat → (List Int × Bool × List α) → Option (Stp (List Int × Bool × List α) ρ)} {n : Int} {b : List Int} {bad : Bool} {pre : List Int}
    (hb : ∀ (i : Nat) (b : List Int) (bad : Bool) (acc : List α) (pre : List Int), acc.length ≤ 1048576 → Rst b0 b bad pre →
      ∃ b' bad' y, body i (b, bad, acc) = some (.nxt (b', bad', acc ++ [y])) ∧ Rst b0 b' bad' (pre ++ en y) ∧ (bad' = false → bad = false ∧ Q y))
    (h0 : 0 ≤ n) (h1 : n ≤ 262144) (h : Rst b0 b bad pre) :
    ∃ b' bad' ys, rni body n (b, bad, []) = some (.fin (b', bad', ys)) ∧ Rst b0 b' bad' (pre ++ ys.flatMap en) ∧ (ys.length : Int) = n ∧ (bad' = false → bad = false ∧ ∀ y ∈ ys, Q y) := by
  obtain ⟨b', bad', ys, e, c, l, g⟩ := soundN en Q hb n.toNat 0 b bad [] pre (by simp only [List.length_nil]; omega) h
  unfold rni
  rw [if_pos (by omega)]
  exact ⟨b', bad', ys, by simpa using e, c, by omega, g⟩

def QF (r : FuncRow) : Prop := r.Params.length ≤ 1048576 ∧ r.Saves.length ≤ 1048576 ∧ ∀ k ∈ r.Params, 0 ≤ k ∧ k ≤ 255
def QS (s : Site) : Prop := s.Live.length ≤ 1048576
theorem Decode_walk (b : List Int) (hl : b.length ≤ 1048576) (hby : ∀ x ∈ b, 0 ≤ x ∧ x ≤ 255) :
    ∃ fs ss b' bad', tables_Decode_s b = dEnd fs ss b' bad' ∧ (bad' = false → Fit (Tables.mk fs ss) ∧ Bts (Tables.mk fs ss) ∧ b = encT (Tables.mk fs ss) ++ b') := by
  unfold tables_Decode_s
  have h : Rst b b false [] := ⟨hl, hby, fun _ => rfl⟩
  obtain ⟨v1, b1, d1, e1, h, v10, v11, g1⟩ := h.cnt
  rw [e1]
  simp only [Option.bind_some]
  obtain ⟨b2, d2, fs, e2, h, n2, g2⟩ := soundI (α := FuncRow) (ρ := Option (Tables × Int)) (b0 := b) encF QF (body := fun (i_3 : Nat) (s_2 : ((List Int) × Bool × (List FuncRow))) => (((tables_reader_number_pNN_s s_2.1 s_2.2.1).bind fun (num_4 : (Int × (List Int) × Bool)) => ((tables_reader_number_pNN_s num_4.2.1 num_4.2.2).bind fun (num_5 : (Int × (List Int) × Bool)) => ((tables_reader_number_pNN_s num_5.2.1 num_5.2.2).bind fun (num_6 : (Int × (List Int) × Bool)) => ((tables_reader_number_pNN_s num_6.2.1 num_6.2.2).bind fun (num_7 : (Int × (List Int) × Bool)) => ((tables_reader_count_pNN_s num_7.2.1 num_7.2.2).bind fun (cou_8 : (Int × (List Int) × Bool)) => ((rni (fun (i_10 : Nat) (s_9 : ((List Int) × Bool × (List Int))) => (((tables_reader_number_pNN_s s_9.1 s_9.2.1).bind fun (num_11 : (Int × (List Int) × Bool)) => (jp (fun (s_13 : Bool) => ((appL 1 s_9.2.2 [(U8 (bitAnd .i64 num_11.1 1))]).bind fun l_14 => (some (.nxt (num_11.2.1, s_13, l_14))))) (fun k_12 => (if num_11.2.2 then (k_12 true) else (k_12 (decide (num_11.1 > 1))))))) : Option (Stp ((List Int) × Bool × (List Int)) (Option (Stp ((List Int) × Bool × (List FuncRow)) (Option (Tables × Int))))))) cou_8.1 (cou_8.2.1, cou_8.2.2, [])).bind (oc (fun (s_9 : ((List Int) × Bool × (List Int))) => ((tables_reader_count_pNN_s s_9.1 s_9.2.1).bind fun (cou_15 : (Int × (List Int) × Bool)) => ((rni (fun (i_17 : Nat) (s_16 : ((List Int) × Bool × (List Save))) => (((tables_reader_number_pNN_s s_16.1 s_16.2.1).bind fun (num_18 : (Int × (List Int) × Bool)) => ((tables_reader_number_pNN_s num_18.2.1 num_18.2.2).bind fun (num_19 : (Int × (List Int) × Bool)) => ((appL 16 s_16.2.2 [(Save.mk num_18.1 num_19.1)]).bind fun l_20 => (some (.nxt (num_19.2.1, num_19.2.2, l_20)))))) : Option (Stp ((List Int) × Bool × (List Save)) (Option (Stp ((List Int) × Bool × (List FuncRow)) (Option (Tables × Int))))))) cou_15.1 (cou_15.2.1, cou_15.2.2, [])).bind (oc (fun (s_16 : ((List Int) × Bool × (List Save))) => ((appL 80 s_2.2.2 [(FuncRow.mk num_4.1 num_5.1 num_6.1 s_9.2.2 s_16.2.2 (I64 (num_7.1 - 1)))]).bind fun l_21 => (some (.nxt (s_16.1, s_16.2.1, l_21)))))))))))))))) : Option (Stp ((List Int) × Bool × (List FuncRow)) (Option (Tables × Int))))) (by
      intro i b bad acc pre hacc h
      obtain ⟨w1, b1, d1, e1, h, _, _, q1⟩ := h.num
      obtain ⟨w2, b2, d2, e2, h, _, _, q2⟩ := h.num
      obtain ⟨w3, b3, d3, e3, h, _, _, q3⟩ := h.num
      obtain ⟨w4, b4, d4, e4, h, _, _, q4⟩ := h.num
      obtain ⟨w5, b5, d5, e5, h, z50, z51, q5⟩ := h.cnt
      rw [e1]; simp only [Option.bind_some]
      rw [e2]; simp only [Option.bind_some]
      rw [e3]; simp only [Option.bind_some]
      rw [e4]; simp only [Option.bind_some]
      rw [e5]; simp only [Option.bind_some]
      obtain ⟨b6, d6, ps, e6, h, n6, q6⟩ := soundI (α := Int) (ρ := Option (Stp ((List Int) × Bool × (List FuncRow)) (Option (Tables × Int)))) le4 (fun k => 0 ≤ k ∧ k ≤ 255) (body := fun (i_10 : Nat) (s_9 : ((List Int) × Bool × (List Int))) => (((tables_reader_number_pNN_s s_9.1 s_9.2.1).bind fun (num_11 : (Int × (List Int) × Bool)) => (jp (fun (s_13 : Bool) => ((appL 1 s_9.2.2 [(U8 (bitAnd .i64 num_11.1 1))]).bind fun l_14 => (some (.nxt (num_11.2.1, s_13, l_14))))) (fun k_12 => (if num_11.2.2 then (k_12 true) else (k_12 (decide (num_11.1 > 1))))))))) (by
          intro i b bad acc pre hacc h
          obtain ⟨w, b', d, e, h2, z0, z1, q⟩ := h.num
          rw [e]
          simp only [Option.bind_some, jp]
          rw [appL_of (by simp only [List.length_singleton]; omega) (by simp only [List.length_singleton]; omega)]
          cases d with
          | true => exact ⟨b', true, _, rfl, h2.skip, nofun⟩
          | false =>
            by_cases hw : w > 1
            · simp only [Bool.false_eq_true, if_false, decide_eq_true hw, Option.bind_some]
              exact ⟨b', true, _, rfl, h2.skip, nofun⟩
            · simp only [Bool.false_eq_true, if_false, decide_eq_false hw, Option.bind_some, and1 (show 0 ≤ w ∧ w ≤ 1 by omega)]
              exact ⟨b', false, _, rfl, h2, fun _ => ⟨q rfl, by omega⟩⟩
          ) z50 z51 h
      rw [e6]; simp only [Option.bind_some, oc]
      obtain ⟨w7, b7, d7, e7, h, z70, z71, q7⟩ := h.cnt
      rw [e7]; simp only [Option.bind_some]
      obtain ⟨b8, d8, vs, e8, h, n8, q8⟩ := soundI (α := Save) (ρ := Option (Stp ((List Int) × Bool × (List FuncRow)) (Option (Tables × Int)))) encV (fun _ => True) (body := fun (i_17 : Nat) (s_16 : ((List Int) × Bool × (List Save))) => (((tables_reader_number_pNN_s s_16.1 s_16.2.1).bind fun (num_18 : (Int × (List Int) × Bool)) => ((tables_reader_number_pNN_s num_18.2.1 num_18.2.2).bind fun (num_19 : (Int × (List Int) × Bool)) => ((appL 16 s_16.2.2 [(Save.mk num_18.1 num_19.1)]).bind fun l_20 => (some (.nxt (num_19.2.1, num_19.2.2, l_20)))))))) (by
          intro i b bad acc pre hacc h
          obtain ⟨w, b', d, e, h, _, _, q⟩ := h.num
          obtain ⟨w', b'', d', e', h, _, _, q'⟩ := h.num
          rw [e]; simp only [Option.bind_some]
          rw [e']; simp only [Option.bind_some]
          rw [appL_of (by simp only [List.length_singleton]; omega) (by simp only [List.length_singleton]; omega)]
          exact ⟨b'', d', _, rfl, by simpa [encV] using h, fun hd => ⟨q (q' hd), trivial⟩⟩
          ) z70 z71 h
      rw [e8]; simp only [Option.bind_some, oc]
      rw [appL_of (by simp only [List.length_singleton]; omega) (by simp only [List.length_singleton]; omega)]
      rw [I64_of (x := w4 - 1) (by omega)]
      refine ⟨b8, d8, _, rfl, ?_, fun hd => ?_⟩
      · simp only [encF, Int.sub_add_cancel, n6, n8]
        simpa [List.append_assoc] using h
      · obtain ⟨p8, _⟩ := q8 hd
        obtain ⟨p6, hk⟩ := q6 (q7 p8)
        exact ⟨q1 (q2 (q3 (q4 (q5 p6)))), by show ps.length ≤ 1048576; omega, by show vs.length ≤ 1048576; omega, hk⟩
      ) v10 v11 h
  rw [e2]
  simp only [Option.bind_some, oc]
  obtain ⟨v3, b3, d3, e3, h, v30, v31, g3⟩ := h.cnt
  rw [e3]
  simp only [Option.bind_some]
  obtain ⟨b4, d4, ss, e4, h, n4, g4⟩ := soundI (α := Site) (ρ := Option (Tables × Int)) (b0 := b) encS QS (body := fun (i_24 : Nat) (s_23 : ((List Int) × Bool × (List Site))) => (((tables_reader_number_pNN_s s_23.1 s_23.2.1).bind fun (num_25 : (Int × (List Int) × Bool)) => ((tables_reader_count_pNN_s num_25.2.1 num_25.2.2).bind fun (cou_26 : (Int × (List Int) × Bool)) => ((rni (fun (i_28 : Nat) (s_27 : ((List Int) × Bool × (List Int))) => (((tables_reader_number_pNN_s s_27.1 s_27.2.1).bind fun (num_29 : (Int × (List Int) × Bool)) => ((appL 8 s_27.2.2 [num_29.1]).bind fun l_30 => (some (.nxt (num_29.2.1, num_29.2.2, l_30))))) : Option (Stp ((List Int) × Bool × (List Int)) (Option (Stp ((List Int) × Bool × (List Site)) (Option (Tables × Int))))))) cou_26.1 (cou_26.2.1, cou_26.2.2, [])).bind (oc (fun (s_27 : ((List Int) × Bool × (List Int))) => ((appL 32 s_23.2.2 [(Site.mk num_25.1 s_27.2.2)]).bind fun l_31 => (some (.nxt (s_27.1, s_27.2.1, l_31))))))))))) (by
      intro i b bad acc pre hacc h
      obtain ⟨w1, b1, d1, e1, h, _, _, q1⟩ := h.num
      obtain ⟨w5, b5, d5, e5, h, z50, z51, q5⟩ := h.cnt
      rw [e1]; simp only [Option.bind_some]
      rw [e5]; simp only [Option.bind_some]
      obtain ⟨b6, d6, ps, e6, h, n6, q6⟩ := soundI (α := Int) (ρ := Option (Stp ((List Int) × Bool × (List Site)) (Option (Tables × Int)))) le4 (fun _ => True) (body := fun (i_28 : Nat) (s_27 : ((List Int) × Bool × (List Int))) => (((tables_reader_number_pNN_s s_27.1 s_27.2.1).bind fun (num_29 : (Int × (List Int) × Bool)) => ((appL 8 s_27.2.2 [num_29.1]).bind fun l_30 => (some (.nxt (num_29.2.1, num_29.2.2, l_30))))))) (by
          intro i b bad acc pre hacc h
          obtain ⟨w, b', d, e, h, _, _, q⟩ := h.num
          rw [e]
          simp only [Option.bind_some]
          rw [appL_of (by simp only [List.length_singleton]; omega) (by simp only [List.length_singleton]; omega)]
          exact ⟨b', d, _, rfl, h, fun hd => ⟨q hd, trivial⟩⟩
          ) z50 z51 h
      rw [e6]; simp only [Option.bind_some, oc]
      rw [appL_of (by simp only [List.length_singleton]; omega) (by simp only [List.length_singleton]; omega)]
      refine ⟨b6, d6, _, rfl, ?_, fun hd => ?_⟩
      · simp only [encS, n6]
        simpa [List.append_assoc] using h
      · exact ⟨q1 (q5 (q6 hd).1), by show ps.length ≤ 1048576; omega⟩
      ) v30 v31 h
  rw [e4]
  simp only [Option.bind_some, oc]
  refine ⟨fs, ss, b4, d4, rfl, fun hd => ?_⟩
  obtain ⟨p4, hss⟩ := g4 hd
  obtain ⟨p2, hfs⟩ := g2 (g3 p4)
  refine ⟨⟨by show fs.length ≤ 1048576; omega, by show ss.length ≤ 1048576; omega, fun r hr => ⟨(hfs r hr).1, (hfs r hr).2.1⟩, fun s hs => hss s hs⟩, fun r hr => (hfs r hr).2.2, ?_⟩
  rw [h.2.2 hd]
  simp [encT, n2, n4]

/-- Tables that are right, and their bytes. -/
def Good (t : Tables) (b : List Int) : Prop := okT t = true ∧ Fit t ∧ Bts t ∧ b = encT t
theorem Decode_sound (b : List Int) (hl : b.length ≤ 1048576) (hby : ∀ x ∈ b, 0 ≤ x ∧ x ≤ 255) :
    tables_Decode_s b = some (Tables.mk [] [], 190) ∨ ∃ t, tables_Decode_s b = some (t, 0) ∧ Good t b := by
  obtain ⟨fs, ss, b', bad', e, h⟩ := Decode_walk b hl hby
  rw [e]; unfold dEnd jp
  cases bad' with
  | true => exact .inl rfl
  | false =>
    obtain ⟨h1, h2, h3⟩ := h rfl
    by_cases hb : (b'.length : Int) > 0
    · simp only [Bool.false_eq_true, if_false, decide_eq_true hb, if_true]; exact .inl trivial
    · simp only [Bool.false_eq_true, if_false, decide_eq_false hb]
      rw [Check_eq _ h1]
      simp only [Option.bind_some]
      cases ho : okT (Tables.mk fs ss)
      · exact .inl rfl
      · refine .inr ⟨Tables.mk fs ss, rfl, ho, h1, h2, ?_⟩
        have : b' = [] := List.eq_nil_of_length_eq_zero (by omega)
        rw [this, List.append_nil] at h3; exact h3
end Go.Proofs.Ytnmicfhdpnabcaa
