/- Plain laws of the tables: Decode. -/
import Derived.Test.YtnmicfhdpnabcaaTbL5
namespace Go.Proofs.Ytnmicfhdpnabcaa
open Go Go.Ab
set_option maxRecDepth 20000
set_option linter.unusedVariables false
set_option linter.unusedSimpArgs false

theorem and1 {k : Int} (h : 0 ≤ k ∧ k ≤ 1) : U8 (bitAnd .i64 k 1) = k := by
  have : k = 0 ∨ k = 1 := by omega
  rcases this with rfl | rfl <;> decide
theorem flat4 (l : List Int) : (l.flatMap le4).length = l.length * 4 := flat_len' le4 4 l (fun _ _ => rfl)
theorem flat8 (l : List Save) : (l.flatMap encV).length = l.length * 8 := flat_len' encV 8 l (fun _ _ => rfl)

/-- What Decode answers, when the bytes are read. -/
def dEnd (fs : List FuncRow) (ss : List Site) (b : List Int) (bad : Bool) : Option (Tables × Int) :=
  (jp (fun (s_33 : Bool) => (if s_33 then (some ((Tables.mk [] []), 190)) else (some ((Tables.mk fs ss), 0)))) (fun k_32 => (if bad then (k_32 true) else (if (decide ((List.length b : Int) > 0)) then (k_32 true) else ((tables_Check_s (Tables.mk fs ss)).bind fun che_34 => (k_32 (che_34 != 0)))))))

theorem Decode_run {C : List Int → Bool → List Int → Prop} (hC : Rdr C) (t : Tables) (ht : Wh t) (b : List Int) (h : C b false (encT t)) :
    ∃ fs ss b' bad', tables_Decode_s b = dEnd fs ss b' bad' ∧ C b' bad' [] ∧ (bad' = false → fs = t.Funcs ∧ ss = t.Sites) := by
  unfold tables_Decode_s
  have gF := flat_ge encF 4 t.Funcs (fun r hr => by simp [encF, le4])
  have gS := flat_ge encS 4 t.Sites (fun s hs => by simp [encS, le4])
  unfold encT at h
  have hf := ht.f
  have hs := ht.s
  obtain ⟨v1, b1, d1, e1, c1, g1, z1⟩ := hC.cnt (by omega) (by omega) (by simp only [List.length_append, le4_len]; omega) h
  rw [e1]
  simp only [Option.bind_some]
  obtain ⟨b2, d2, fs, e2, c2, g2⟩ := loopI (α := FuncRow) (ρ := Option (Tables × Int)) (C := C) hC encF (body := fun (i_3 : Nat) (s_2 : ((List Int) × Bool × (List FuncRow))) => (((tables_reader_number_pNN_s s_2.1 s_2.2.1).bind fun (num_4 : (Int × (List Int) × Bool)) => ((tables_reader_number_pNN_s num_4.2.1 num_4.2.2).bind fun (num_5 : (Int × (List Int) × Bool)) => ((tables_reader_number_pNN_s num_5.2.1 num_5.2.2).bind fun (num_6 : (Int × (List Int) × Bool)) => ((tables_reader_number_pNN_s num_6.2.1 num_6.2.2).bind fun (num_7 : (Int × (List Int) × Bool)) => ((tables_reader_count_pNN_s num_7.2.1 num_7.2.2).bind fun (cou_8 : (Int × (List Int) × Bool)) => ((rni (fun (i_10 : Nat) (s_9 : ((List Int) × Bool × (List Int))) => (((tables_reader_number_pNN_s s_9.1 s_9.2.1).bind fun (num_11 : (Int × (List Int) × Bool)) => (jp (fun (s_13 : Bool) => ((appL 1 s_9.2.2 [(U8 (bitAnd .i64 num_11.1 1))]).bind fun l_14 => (some (.nxt (num_11.2.1, s_13, l_14))))) (fun k_12 => (if num_11.2.2 then (k_12 true) else (k_12 (decide (num_11.1 > 1))))))) : Option (Stp ((List Int) × Bool × (List Int)) (Option (Stp ((List Int) × Bool × (List FuncRow)) (Option (Tables × Int))))))) cou_8.1 (cou_8.2.1, cou_8.2.2, [])).bind (oc (fun (s_9 : ((List Int) × Bool × (List Int))) => ((tables_reader_count_pNN_s s_9.1 s_9.2.1).bind fun (cou_15 : (Int × (List Int) × Bool)) => ((rni (fun (i_17 : Nat) (s_16 : ((List Int) × Bool × (List Save))) => (((tables_reader_number_pNN_s s_16.1 s_16.2.1).bind fun (num_18 : (Int × (List Int) × Bool)) => ((tables_reader_number_pNN_s num_18.2.1 num_18.2.2).bind fun (num_19 : (Int × (List Int) × Bool)) => ((appL 16 s_16.2.2 [(Save.mk num_18.1 num_19.1)]).bind fun l_20 => (some (.nxt (num_19.2.1, num_19.2.2, l_20)))))) : Option (Stp ((List Int) × Bool × (List Save)) (Option (Stp ((List Int) × Bool × (List FuncRow)) (Option (Tables × Int))))))) cou_15.1 (cou_15.2.1, cou_15.2.2, [])).bind (oc (fun (s_16 : ((List Int) × Bool × (List Save))) => ((appL 80 s_2.2.2 [(FuncRow.mk num_4.1 num_5.1 num_6.1 s_9.2.2 s_16.2.2 (I64 (num_7.1 - 1)))]).bind fun l_21 => (some (.nxt (s_16.1, s_16.2.1, l_21)))))))))))))))) : Option (Stp ((List Int) × Bool × (List FuncRow)) (Option (Tables × Int)))))
    t.Funcs (by omega) (by
        intro r hr i b bad acc E hacc h
        obtain ⟨r1, r2, r3, r4, r5, r6, r7, r8⟩ := ht.r r hr
        simp only [encF, List.append_assoc] at h
        obtain ⟨w1, b1, d1, e1, h, q1, _⟩ := hC.num (by omega) (by omega) h
        obtain ⟨w2, b2, d2, e2, h, q2, _⟩ := hC.num (by omega) (by omega) h
        obtain ⟨w3, b3, d3, e3, h, q3, _⟩ := hC.num (by omega) (by omega) h
        obtain ⟨w4, b4, d4, e4, h, q4, z4⟩ := hC.num (by omega) (by omega) h
        obtain ⟨w5, b5, d5, e5, h, q5, z5⟩ := hC.cnt (by omega) (by omega) (by simp only [List.length_append, flat4]; omega) h
        rw [e1]; simp only [Option.bind_some]
        rw [e2]; simp only [Option.bind_some]
        rw [e3]; simp only [Option.bind_some]
        rw [e4]; simp only [Option.bind_some]
        rw [e5]; simp only [Option.bind_some]
        obtain ⟨b6, d6, ps, e6, h, q6⟩ := loopI (α := Int) (ρ := Option (Stp ((List Int) × Bool × (List FuncRow)) (Option (Tables × Int)))) (C := C) hC le4 (body := fun (i_10 : Nat) (s_9 : ((List Int) × Bool × (List Int))) => (((tables_reader_number_pNN_s s_9.1 s_9.2.1).bind fun (num_11 : (Int × (List Int) × Bool)) => (jp (fun (s_13 : Bool) => ((appL 1 s_9.2.2 [(U8 (bitAnd .i64 num_11.1 1))]).bind fun l_14 => (some (.nxt (num_11.2.1, s_13, l_14))))) (fun k_12 => (if num_11.2.2 then (k_12 true) else (k_12 (decide (num_11.1 > 1)))))))))
          r.Params (by omega) (by
              intro k hk i b bad acc E hacc h
              have hk' := r6 k hk
              obtain ⟨w, b', d, e, h2, q, z⟩ := hC.num (by omega) (by omega) h
              rw [e]
              simp only [Option.bind_some, jp]
              rw [appL_of (by simp only [List.length_singleton]; omega) (by simp only [List.length_singleton]; omega)]
              cases d with
              | true => exact ⟨b', true, _, rfl, h2, nofun⟩
              | false =>
                obtain ⟨q1, rfl⟩ := q rfl
                have : ¬ w > 1 := by omega
                simp only [Bool.false_eq_true, if_false, decide_eq_false this, Option.bind_some, and1 hk']
                exact ⟨b', false, _, rfl, h2, fun _ => ⟨q1, rfl⟩⟩
              ) (fun h => (q5 h).2) z5 h
        rw [e6]; simp only [Option.bind_some, oc]
        obtain ⟨w7, b7, d7, e7, h, q7, z7⟩ := hC.cnt (by omega) (by omega) (by simp only [List.length_append, flat8]; omega) h
        rw [e7]; simp only [Option.bind_some]
        obtain ⟨b8, d8, vs, e8, h, q8⟩ := loopI (α := Save) (ρ := Option (Stp ((List Int) × Bool × (List FuncRow)) (Option (Tables × Int)))) (C := C) hC encV (body := fun (i_17 : Nat) (s_16 : ((List Int) × Bool × (List Save))) => (((tables_reader_number_pNN_s s_16.1 s_16.2.1).bind fun (num_18 : (Int × (List Int) × Bool)) => ((tables_reader_number_pNN_s num_18.2.1 num_18.2.2).bind fun (num_19 : (Int × (List Int) × Bool)) => ((appL 16 s_16.2.2 [(Save.mk num_18.1 num_19.1)]).bind fun l_20 => (some (.nxt (num_19.2.1, num_19.2.2, l_20))))))))
          r.Saves (by omega) (by
              intro s hs i b bad acc E hacc h
              have hs' := r8 s hs
              simp only [encV, List.append_assoc] at h
              obtain ⟨w, b', d, e, h, q, z⟩ := hC.num (by omega) (by omega) h
              obtain ⟨w', b'', d', e', h, q', z'⟩ := hC.num (by omega) (by omega) h
              rw [e]; simp only [Option.bind_some]
              rw [e']; simp only [Option.bind_some]
              rw [appL_of (by simp only [List.length_singleton]; omega) (by simp only [List.length_singleton]; omega)]
              refine ⟨b'', d', _, rfl, h, fun hd => ?_⟩
              obtain ⟨q1, rfl⟩ := q' hd
              obtain ⟨q2, rfl⟩ := q q1
              exact ⟨q2, rfl⟩
              ) (fun h => (q7 h).2) z7 h
        rw [e8]; simp only [Option.bind_some, oc]
        rw [appL_of (by simp only [List.length_singleton]; omega) (by simp only [List.length_singleton]; omega)]
        refine ⟨b8, d8, _, rfl, h, fun hd => ?_⟩
        obtain ⟨p8, rfl⟩ := q8 hd
        obtain ⟨p7, _⟩ := q7 p8
        obtain ⟨p6, rfl⟩ := q6 p7
        obtain ⟨p5, _⟩ := q5 p6
        obtain ⟨p4, rfl⟩ := q4 p5
        obtain ⟨p3, rfl⟩ := q3 p4
        obtain ⟨p2, rfl⟩ := q2 p3
        obtain ⟨p1, rfl⟩ := q1 p2
        refine ⟨p1, ?_⟩
        rw [Int.add_sub_cancel, I64_of (by omega)]
        ) (fun h => (g1 h).2) z1 c1
  rw [e2]
  simp only [Option.bind_some, oc]
  obtain ⟨v3, b3, d3, e3, c3, g3, z3⟩ := hC.cnt (by omega) (by omega) (by omega) c2
  rw [e3]
  simp only [Option.bind_some]
  rw [← List.append_nil (t.Sites.flatMap encS)] at c3
  obtain ⟨b4, d4, ss, e4, c4, g4⟩ := loopI (α := Site) (ρ := Option (Tables × Int)) (C := C) hC encS (body := fun (i_24 : Nat) (s_23 : ((List Int) × Bool × (List Site))) => (((tables_reader_number_pNN_s s_23.1 s_23.2.1).bind fun (num_25 : (Int × (List Int) × Bool)) => ((tables_reader_count_pNN_s num_25.2.1 num_25.2.2).bind fun (cou_26 : (Int × (List Int) × Bool)) => ((rni (fun (i_28 : Nat) (s_27 : ((List Int) × Bool × (List Int))) => (((tables_reader_number_pNN_s s_27.1 s_27.2.1).bind fun (num_29 : (Int × (List Int) × Bool)) => ((appL 8 s_27.2.2 [num_29.1]).bind fun l_30 => (some (.nxt (num_29.2.1, num_29.2.2, l_30))))) : Option (Stp ((List Int) × Bool × (List Int)) (Option (Stp ((List Int) × Bool × (List Site)) (Option (Tables × Int))))))) cou_26.1 (cou_26.2.1, cou_26.2.2, [])).bind (oc (fun (s_27 : ((List Int) × Bool × (List Int))) => ((appL 32 s_23.2.2 [(Site.mk num_25.1 s_27.2.2)]).bind fun l_31 => (some (.nxt (s_27.1, s_27.2.1, l_31)))))))))))
    t.Sites (by omega) (by
        intro s hs i b bad acc E hacc h
        obtain ⟨r1, r2, r3⟩ := ht.l s hs
        simp only [encS, List.append_assoc] at h
        obtain ⟨w1, b1, d1, e1, h, q1, _⟩ := hC.num (by omega) (by omega) h
        obtain ⟨w5, b5, d5, e5, h, q5, z5⟩ := hC.cnt (by omega) (by omega) (by simp only [List.length_append, flat4]; omega) h
        rw [e1]; simp only [Option.bind_some]
        rw [e5]; simp only [Option.bind_some]
        obtain ⟨b6, d6, ps, e6, h, q6⟩ := loopI (α := Int) (ρ := Option (Stp ((List Int) × Bool × (List Site)) (Option (Tables × Int)))) (C := C) hC le4 (body := fun (i_28 : Nat) (s_27 : ((List Int) × Bool × (List Int))) => (((tables_reader_number_pNN_s s_27.1 s_27.2.1).bind fun (num_29 : (Int × (List Int) × Bool)) => ((appL 8 s_27.2.2 [num_29.1]).bind fun l_30 => (some (.nxt (num_29.2.1, num_29.2.2, l_30)))))))
          s.Live (by omega) (by
              intro k hk i b bad acc E hacc h
              have hk' := r3 k hk
              obtain ⟨w, b', d, e, h, q, z⟩ := hC.num (by omega) (by omega) h
              rw [e]
              simp only [Option.bind_some]
              rw [appL_of (by simp only [List.length_singleton]; omega) (by simp only [List.length_singleton]; omega)]
              refine ⟨b', d, _, rfl, h, fun hd => ?_⟩
              obtain ⟨q1, rfl⟩ := q hd
              exact ⟨q1, rfl⟩
              ) (fun h => (q5 h).2) z5 h
        rw [e6]; simp only [Option.bind_some, oc]
        rw [appL_of (by simp only [List.length_singleton]; omega) (by simp only [List.length_singleton]; omega)]
        refine ⟨b6, d6, _, rfl, h, fun hd => ?_⟩
        obtain ⟨p6, rfl⟩ := q6 hd
        obtain ⟨p5, _⟩ := q5 p6
        obtain ⟨p1, rfl⟩ := q1 p5
        exact ⟨p1, rfl⟩
        ) (fun h => (g3 h).2) z3 c3
  rw [e4]
  simp only [Option.bind_some, oc]
  refine ⟨fs, ss, b4, d4, rfl, c4, fun hd => ?_⟩
  obtain ⟨p4, rfl⟩ := g4 hd
  obtain ⟨p3, _⟩ := g3 p4
  obtain ⟨p2, rfl⟩ := g2 p3
  exact ⟨rfl, rfl⟩

/-- Bytes that end too soon. -/
def Cut (b : List Int) (bad : Bool) (E : List Int) : Prop := b.length ≤ 4503599627370496 ∧ (bad = true ∨ ∃ q, q ≠ [] ∧ b ++ q = E)
/-- Bytes with a tail. -/
def Tail (z b : List Int) (bad : Bool) (E : List Int) : Prop := b.length ≤ 4503599627370496 ∧ bad = false ∧ b = E ++ z
theorem le4_cons (v : Int) (E : List Int) : le4 v ++ E = v % 256 :: v / 256 % 256 :: v / 65536 % 256 :: v / 16777216 % 256 :: E := rfl
theorem rdrCut : Rdr Cut where
  num := by
    intro v E b bad h0 h1 ⟨hl, hc⟩
    cases bad with
    | true => exact ⟨0, b, true, num_bad b, ⟨hl, .inl rfl⟩, nofun, fun _ => rfl⟩
    | false =>
      obtain ⟨q, hq, he⟩ := hc.resolve_left nofun
      by_cases hs : b.length < 4
      · exact ⟨0, b, true, num_short hs, ⟨hl, .inl rfl⟩, nofun, fun _ => rfl⟩
      · match b, hs, hl, he with
        | a :: b :: c :: d :: r, _, hl, he =>
          rw [le4_cons] at he
          simp only [List.cons_append, List.cons.injEq] at he
          obtain ⟨rfl, rfl, rfl, rfl, he⟩ := he
          exact ⟨v, r, false, num_le4 h0 h1, ⟨by simp only [List.length_cons] at hl; omega, .inr ⟨q, hq, he⟩⟩, fun _ => ⟨rfl, rfl⟩, nofun⟩
        | [], hs, _, _ => simp at hs
        | [_], hs, _, _ => simp at hs
        | [_, _], hs, _, _ => simp at hs
        | [_, _, _], hs, _, _ => simp at hs
  alt := fun h => .inr ⟨h.1, .inl rfl⟩
  skip := fun h => ⟨h.1, .inl rfl⟩
  small := fun h => h.1
theorem rdrTail (z : List Int) : Rdr (Tail z) where
  num := by
    intro v E b bad h0 h1 ⟨hl, hb, he⟩
    subst hb
    rw [List.append_assoc] at he
    subst he
    refine ⟨v, E ++ z, false, num_le4 h0 h1, ⟨?_, rfl, rfl⟩, fun _ => ⟨rfl, rfl⟩, nofun⟩
    simp only [List.length_append] at hl ⊢; omega
  alt := fun h => .inl (by rw [h.2.2, List.length_append]; omega)
  skip := fun h => by cases h.2.1
  small := fun h => h.1

theorem Decode_cut {t : Tables} (ht : Wh t) {b q : List Int} (hq : q ≠ []) (he : b ++ q = encT t) (hl : b.length ≤ 4503599627370496) : tables_Decode_s b = some (Tables.mk [] [], 190) := by
  obtain ⟨fs, ss, b', bad', e, hc, _⟩ := Decode_run rdrCut t ht b ⟨hl, .inr ⟨q, hq, he⟩⟩
  rcases hc.2 with rfl | ⟨q', h1, h2⟩
  · rw [e]; rfl
  · exact (h1 (List.append_eq_nil_iff.1 h2).2).elim
theorem Decode_tail {t : Tables} (ht : Wh t) {z : List Int} (hz : z ≠ []) (hl : (encT t ++ z).length ≤ 4503599627370496) : tables_Decode_s (encT t ++ z) = some (Tables.mk [] [], 190) := by
  obtain ⟨fs, ss, b', bad', e, hc, _⟩ := Decode_run (rdrTail z) t ht _ ⟨hl, rfl, rfl⟩
  obtain ⟨_, rfl, hb⟩ := hc
  have : ((z : List Int).length : Int) > 0 := by cases z with | nil => exact (hz rfl).elim | cons => simp only [List.length_cons]; omega
  rw [List.nil_append] at hb
  rw [e, hb]; unfold dEnd jp
  simp only [Bool.false_eq_true, if_false, decide_eq_true this, if_true]
theorem Decode_enc {t : Tables} (hf : Fit t) (ho : okT t = true) (ht : Wh t) (hl : (encT t).length ≤ 4503599627370496) : tables_Decode_s (encT t) = some (t, 0) := by
  obtain ⟨fs, ss, b', bad', e, hc, hv⟩ := Decode_run (rdrTail []) t ht _ ⟨hl, rfl, by simp⟩
  obtain ⟨_, rfl, rfl⟩ := hc
  obtain ⟨rfl, rfl⟩ := hv rfl
  rw [e]; unfold dEnd jp
  have := Check_eq t hf
  cases t
  simp only at this ⊢
  rw [this, ho]; rfl
end Go.Proofs.Ytnmicfhdpnabcaa
