/- Plain laws of the texts: one line's function by the document (windlassref04.begin). -/
import Derived.Test.YtkfhljombjmdbaaDoorTyL7
namespace Go.Proofs.YtkfhljombjmdbaaDoor
open Go Go.Ab Go.RowKit
set_option maxRecDepth 20000
set_option linter.unusedVariables false
set_option linter.unusedSimpArgs false

def begB (ws : List ByteArray) : Int × List Int → Option (Stp (Int × (List Int)) (Option (Func × Bool))) :=
  (fun (s_5 : (Int × (List Int))) => ((jp (fun (s_7 : Bool) => (if s_7 then (jp (fun (s_10 : (List Int)) => (some (.nxt ((I64 (s_5.1 + 1)), s_10)))) (fun k_9 => ((getI ws 2).bind fun y_11 => ((strI y_11 s_5.1).bind fun b_12 => (if (b_12 == 112) then ((appL 1 s_5.2 [1]).bind fun l_13 => (k_9 l_13)) else ((appL 1 s_5.2 [0]).bind fun l_14 => (k_9 l_14))))))) else (some (.brk (s_5.1, s_5.2))))) (fun k_6 => ((getI ws 2).bind fun y_8 => (if (decide (s_5.1 < (ByteArray.size y_8 : Int))) then (k_6 (!(ByteArray.toList y_8 == ByteArray.toList (ByteArray.mk #[45])))) else (k_6 false))))) : Option (Stp (Int × (List Int)) (Option (Func × Bool)))))
def kindL (w : List UInt8) : List Int := if w = [45] then [] else w.map kindC
theorem beg_run (F : Nat) (ws : List ByteArray) (w : List UInt8) (hg : getI ws 2 = some (bsl w)) (hw : w.length ≤ 28400000) (hF : w.length + 1 < F) :
    ∃ i : Int, whileN (begB ws) F (0, []) = some (.fin (i, kindL w)) := by
  by_cases h45 : w = [45]
  · refine ⟨0, ?_⟩
    have : begB ws (0, []) = some (.brk (0, [])) := by
      unfold begB
      simp only [jp, hg, Option.bind_some]
      rw [show (ByteArray.mk #[45]) = bsl [45] from rfl, beq_bsl, decide_eq_true h45, bsl_size, if_pos (by rw [h45]; decide)]
      rfl
    match F, hF with
    | F + 1, _ =>
      rw [whileN, this]
      unfold kindL
      rw [if_pos h45]
  · refine ⟨(w.length : Int), ?_⟩
    refine whileN_fin (fun s => ∃ i : Nat, i ≤ w.length ∧ s = ((i : Int), (w.take i).map kindC)) (fun s => w.length - s.1.toNat) _ ?_ _ _ ⟨0, by omega, rfl⟩ (by simp; omega)
    rintro s ⟨i, hi, rfl⟩
    unfold begB
    simp only [jp, hg, Option.bind_some]
    rw [show (ByteArray.mk #[45]) = bsl [45] from rfl, beq_bsl, decide_eq_false h45, bsl_size]
    by_cases hlt : i < w.length
    · left
      rw [if_pos (by simpa using hlt), if_pos (by rfl), strI_b w i hlt, Option.bind_some]
      have eI : I64 ((i : Int) + 1) = ((i + 1 : Nat) : Int) := by rw [I64_of (by omega)]; omega
      have hap : ∀ z : Int, appL 1 ((w.take i).map kindC) [z] = some ((w.take i).map kindC ++ [z]) := fun z => appL_of (by simp; omega)
      have htk : (w.take (i + 1)).map kindC = (w.take i).map kindC ++ [kindC w[i]] := by
        rw [List.take_add_one, List.getElem?_eq_getElem hlt, List.map_append]; rfl
      by_cases hc : w[i] = 112
      · rw [if_pos (by rw [hc]; rfl), hap, Option.bind_some, eI]
        refine ⟨_, rfl, ⟨i + 1, by omega, ?_⟩, by simp; omega⟩
        rw [htk]
        simp [kindC, hc]
      · have : ¬ (((w[i].toNat : Nat) : Int) == 112) = true := by
          rw [beq_iff_eq]
          intro q
          exact hc (UInt8.toNat_inj.1 (by show w[i].toNat = 112; omega))
        rw [if_neg this, hap, Option.bind_some, eI]
        refine ⟨_, rfl, ⟨i + 1, by omega, ?_⟩, by simp; omega⟩
        rw [htk]
        simp [kindC, hc]
    · right
      obtain rfl : i = w.length := by omega
      rw [if_neg (by simp), if_neg (by simp), List.take_length]
      unfold kindL
      rw [if_neg h45]
theorem kindsOf_eq {w : List UInt8} (h0 : w ≠ []) : kindsOf w = if kstr (kindL w) = w then some (kindL w) else none := by
  unfold kindsOf kindL
  by_cases h45 : w = [45]
  · rw [if_pos h45, if_pos h45, h45]; rfl
  · rw [if_neg h45, if_neg h45]
    by_cases ha : w.all okC = true
    · rw [if_pos ha, if_pos ((kstr_kindC h0).2 ha)]
    · rw [if_neg ha, if_neg (fun q => ha ((kstr_kindC h0).1 q))]
theorem flagOf_eq (w : List UInt8) : flagOf w = if fstr (decide (w = [49])) = w then some (decide (w = [49])) else none := by
  unfold flagOf fstr
  by_cases h48 : w = [48]
  · subst h48; rfl
  · by_cases h49 : w = [49]
    · subst h49; rfl
    · simp only [if_neg h48, if_neg h49, decide_eq_false h49, Bool.false_eq_true, if_false]
      rw [if_neg (fun q => h48 q.symm)]
theorem begin_eq (F : Nat) (hF : 28400002 < F) {ws : List (List UInt8)} (hw : WOK ws) (hne : ∀ w ∈ ws, w ≠ []) (hh : ∃ r, ws = fw :: r) :
    ∃ f : Func, windlassref04_begin_s F (ws.map bsl) = some (f, (funcOf ws).isSome) ∧ f.Code = [] ∧ ∀ j, funcOf ws = some j → f = j := by
  unfold windlassref04_begin_s
  by_cases h5 : ws.length = 5
  · match ws, h5, hw, hne, hh with
    | [w0, w1, w2, w3, w4], _, hw, hne, hh =>
      obtain rfl : w0 = fw := by obtain ⟨r, hr⟩ := hh; exact (List.cons.inj hr).1
      rw [if_neg (by simp)]
      have g1 : getI (([fw, w1, w2, w3, w4] : List (List UInt8)).map bsl) 1 = some (bsl w1) := rfl
      have g2 : getI (([fw, w1, w2, w3, w4] : List (List UInt8)).map bsl) 2 = some (bsl w2) := rfl
      have g3 : getI (([fw, w1, w2, w3, w4] : List (List UInt8)).map bsl) 3 = some (bsl w3) := rfl
      have g4 : getI (([fw, w1, w2, w3, w4] : List (List UInt8)).map bsl) 4 = some (bsl w4) := rfl
      have l1 := (hw.1 w1 (by simp)).2
      have l2 := (hw.1 w2 (by simp)).2
      have l4 := (hw.1 w4 (by simp)).2
      have v1 := Value_eq F w1 (by omega) l1
      have v4 := Value_eq F w4 (by omega) l4
      have no1 : numM 255 w1 = none → funcOf [fw, w1, w2, w3, w4] = none := fun h => by simp only [funcOf, h, Option.bind_none]
      simp only [jp, g1, Option.bind_some, v1]
      unfold valR
      cases e1 : numOf w1 with
      | none =>
        simp only
        have hno := no1 (by unfold numM; rw [e1]; rfl)
        rw [hno, if_pos (by rfl)]
        exact ⟨_, rfl, rfl, fun j hj => by cases hj⟩
      | some n =>
        simp only
        rw [if_neg (by simp)]
        by_cases hb : 255 < n
        · have hno := no1 (by unfold numM; rw [e1, Option.bind_some, if_neg (by omega)])
          rw [hno, if_pos (by simp; omega)]
          exact ⟨_, rfl, rfl, fun j hj => by cases hj⟩
        · have hm1 : numM 255 w1 = some n := by unfold numM; rw [e1, Option.bind_some, if_pos (by omega)]
          have hd1 := ((numOf_iff w1 n).1 e1).1
          have eI1 : I64 (n : Int) = (n : Int) := I64_of (by omega)
          rw [if_neg (by simp; omega)]
          obtain ⟨i, hrun⟩ := beg_run F _ w2 g2 l2 (by omega)
          have hrun' := hrun
          unfold begB at hrun'
          simp only [jp, g2, Option.bind_some] at hrun'
          simp only [g2, g3, g4, Option.bind_some, v4]
          rw [hrun', Option.bind_some]
          simp only [oc]
          rw [show (ByteArray.mk #[45]) = bsl [45] from rfl, show (ByteArray.mk #[49]) = bsl [49] from rfl, beq_bsl, beq_bsl, eI1]
          have hk2 := kindsOf_eq (hne w2 (by simp))
          have hf3 := flagOf_eq w3
          have hLlen : (kindL w2).length ≤ 28400000 := by unfold kindL; split <;> simp; omega
          -- the end: the head's words against the line's
          have fin : ∀ kp : Int, -1 ≤ kp ∧ kp < 4294967296 → (pstr kp = w4 → keepOf w4 = some kp) → (pstr kp ≠ w4 → keepOf w4 = none) →
              ∃ f : Func, ((windlassref04_Head_s F (Func.mk (n : Int) (kindL w2) (decide (w3 = [49])) kp [])).bind fun hea_22 => ((windlassref04_joined_s (([fw, w1, w2, w3, w4] : List (List UInt8)).map bsl)).bind fun joi_23 => (some ((Func.mk (n : Int) (kindL w2) (decide (w3 = [49])) kp []), (ByteArray.toList hea_22 == ByteArray.toList joi_23))))) = some (f, (funcOf [fw, w1, w2, w3, w4]).isSome) ∧ f.Code = [] ∧ ∀ j, funcOf [fw, w1, w2, w3, w4] = some j → f = j := by
            intro kp hkp hy hn
            rw [Head_eq F (by omega) _ (by simp; omega) hLlen hkp, Option.bind_some, hw.joined, Option.bind_some, beq_bsl]
            have hfree : ∀ w ∈ headW (Func.mk (n : Int) (kindL w2) (decide (w3 = [49])) kp []), (32 : UInt8) ∉ w := by
              intro w hm
              simp only [headW, List.mem_cons, List.not_mem_nil, or_false] at hm
              rcases hm with rfl | rfl | rfl | rfl | rfl
              · decide
              · exact dec_free _
              · unfold kstr
                split
                · decide
                · intro q
                  obtain ⟨k, _, hk⟩ := List.mem_map.1 q
                  revert hk; unfold letC; split <;> decide
              · unfold fstr; split <;> decide
              · unfold pstr; split
                · decide
                · exact dec_free _
            have hiff : joinW (headW (Func.mk (n : Int) (kindL w2) (decide (w3 = [49])) kp [])) = joinW [fw, w1, w2, w3, w4] ↔ (kstr (kindL w2) = w2 ∧ fstr (decide (w3 = [49])) = w3 ∧ pstr kp = w4) := by
              rw [joinW_inj (by simp [headW]) (by simp) hfree (fun w hm => (hw.1 w hm).1)]
              simp only [headW, Int.toNat_natCast, ← hd1, List.cons.injEq, true_and, and_true]
            by_cases hall : kstr (kindL w2) = w2 ∧ fstr (decide (w3 = [49])) = w3 ∧ pstr kp = w4
            · obtain ⟨a, b, c⟩ := hall
              have hs : funcOf [fw, w1, w2, w3, w4] = some ⟨(n : Int), kindL w2, decide (w3 = [49]), kp, []⟩ := by
                simp only [funcOf, hm1, hk2, hf3, if_pos a, if_pos b, hy c, Option.bind_some, Option.map_some]
              rw [hs, decide_eq_true (hiff.2 ⟨a, b, c⟩)]
              exact ⟨_, rfl, rfl, fun j hj => Option.some.inj hj⟩
            · have hs : funcOf [fw, w1, w2, w3, w4] = none := by
                simp only [funcOf, hm1, hk2, hf3, Option.bind_some]
                by_cases a : kstr (kindL w2) = w2
                · by_cases b : fstr (decide (w3 = [49])) = w3
                  · have c : pstr kp ≠ w4 := fun c => hall ⟨a, b, c⟩
                    rw [if_pos a, if_pos b, hn c]; rfl
                  · rw [if_pos a, if_neg b]; rfl
                · rw [if_neg a]; rfl
              rw [hs, decide_eq_false (fun q => hall (hiff.1 q))]
              exact ⟨_, rfl, rfl, fun j hj => by cases hj⟩
          by_cases hk4 : w4 = [45]
          · rw [decide_eq_true hk4, if_neg (by simp)]
            refine fin (-1) (by omega) (fun _ => by unfold keepOf; rw [if_pos hk4]) (fun h => (h (by rw [hk4]; rfl)).elim)
          · rw [decide_eq_false hk4, if_pos (by rfl)]
            cases e4 : numOf w4 with
            | none =>
              rw [valR_none e4]
              have hno : funcOf [fw, w1, w2, w3, w4] = none := by
                have : keepOf w4 = none := by unfold keepOf numM; rw [if_neg hk4, e4]; rfl
                simp only [funcOf, this, Option.map_none]
                cases numM 255 w1 <;> cases kindsOf w2 <;> cases flagOf w3 <;> rfl
              rw [hno, if_pos (by rfl), if_pos trivial]
              exact ⟨_, rfl, rfl, fun j hj => by cases hj⟩
            | some p =>
              rw [valR_some e4]
              rw [if_neg (by simp)]
              by_cases hb4 : 254 < p
              · have hno : funcOf [fw, w1, w2, w3, w4] = none := by
                  have : keepOf w4 = none := by unfold keepOf numM; rw [if_neg hk4, e4, Option.bind_some, if_neg (by omega)]; rfl
                  simp only [funcOf, this, Option.map_none]
                  cases numM 255 w1 <;> cases kindsOf w2 <;> cases flagOf w3 <;> rfl
                rw [hno, if_pos (by simp; omega)]
                exact ⟨_, rfl, rfl, fun j hj => by cases hj⟩
              · have eI4 : I64 (p : Int) = (p : Int) := I64_of (by omega)
                have hd4 := ((numOf_iff w4 p).1 e4).1
                rw [if_neg (by simp; omega), eI4]
                have hps : pstr (p : Int) = w4 := by unfold pstr; rw [if_neg (by omega), Int.toNat_natCast, hd4]
                refine fin (p : Int) (by omega) (fun _ => by unfold keepOf numM; rw [if_neg hk4, e4, Option.bind_some, if_pos (by omega)]; rfl) (fun h => (h hps).elim)
  · rw [if_pos (by rw [bne_iff_ne, List.length_map]; omega)]
    have hno : funcOf ws = none := by
      match ws, h5 with
      | [], _ => rfl
      | [_], _ => rfl
      | [_, _], _ => rfl
      | [_, _, _], _ => rfl
      | [_, _, _, _], _ => rfl
      | [_, _, _, _, _], h => exact (h rfl).elim
      | _ :: _ :: _ :: _ :: _ :: _ :: _, _ => rfl
    rw [hno]
    exact ⟨_, rfl, rfl, fun j hj => by cases hj⟩
end Go.Proofs.YtkfhljombjmdbaaDoor
