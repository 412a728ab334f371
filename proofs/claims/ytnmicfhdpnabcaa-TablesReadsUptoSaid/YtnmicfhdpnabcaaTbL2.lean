/- Plain laws of the tables: Check and Right answer the same. -/
import Derived.Test.YtnmicfhdpnabcaaTbL1
namespace Go.Proofs.Ytnmicfhdpnabcaa
open Go Go.Ab
set_option maxRecDepth 20000
set_option linter.unusedVariables false
set_option linter.unusedSimpArgs false

theorem prev_of {α : Type} {xs : List α} {i : Nat} {x : α} (h : xs[i]? = some x) (hi : 0 < i) : ∃ q, xs[i - 1]? = some q ∧ prevOf xs i = some q := by
  obtain ⟨h1, _⟩ := List.getElem?_eq_some_iff.1 h
  have : xs[i - 1]? = some xs[i - 1] := List.getElem?_eq_getElem (by omega)
  exact ⟨_, this, by unfold prevOf; rw [if_neg (by omega)]; exact this⟩
theorem prev_zero {α : Type} (xs : List α) : prevOf xs 0 = none := rfl

theorem ownerI_lt {t : Tables} {x : Int} {f : Nat} (h : ownerI t x = some f) : ∃ r, t.Funcs[f]? = some r := by
  obtain ⟨_, r, h2, _⟩ := firstI_some h
  exact ⟨r, by simpa using h2⟩

theorem lives_any {ρ : Type} (t : Tables) (s : Site) (hl : s.Live.length ≤ 1048576) {f : Nat} {r : FuncRow} (hr : t.Funcs[f]? = some r) (v : ρ) (body : Nat → Int → Unit → Option (Stp Unit ρ))
    (h : ∀ i x, s.Live[i]? = some x → body i x () = some (if liveP r.Size (prevOf s.Live i) x = true then .nxt () else .ret v)) :
    rng body s.Live () = some (if allP (liveP r.Size) none s.Live = true then .fin () else .ret v) :=
  rng_allS (fun _ => ()) (liveP r.Size) v (by omega) h

/-- The stop ahead. -/
def lastStop : Option FuncRow → Int
  | none => 0
  | some q => q.Stop
theorem rows_congr (l : List FuncRow) : allP (fun p r => decide (lastStop p ≤ r.Start ∧ r.Start < r.Stop ∧ r.Stop ≤ 1048576) && rowC r) none l = allP rowP none l := by
  refine allP_congr (fun p => 0 ≤ lastStop p) (fun p x hp => ⟨?_, fun h => ?_⟩) l none (by simp [lastStop])
  · unfold rowP
    congr 1
    cases p with
    | none => simp only [lastStop, Bool.and_true]; rfl
    | some q =>
      simp only [lastStop] at hp ⊢
      rw [← Bool.decide_and]
      exact decide_eq_decide.2 (by omega)
  · unfold rowP at h
    simp only [Bool.and_eq_true, decide_eq_true_eq] at h
    simp only [lastStop]; omega

theorem Check_eq (t : Tables) (ht : Fit t) : tables_Check_s t = some (if okT t = true then 0 else 190) := by
  obtain ⟨hf, hs, hr, hl⟩ := ht
  unfold tables_Check_s
  simp only [jp]
  by_cases hn : t.Funcs.length ≤ 16 ∧ t.Sites.length ≤ 65536
  case neg =>
    have : okT t = false := by unfold okT; rw [decide_eq_false hn]; rfl
    rw [this]
    by_cases h1 : (t.Funcs.length : Int) > 16
    · simp [h1]
    · have h2 : (t.Sites.length : Int) > 65536 := by omega
      simp [h1, h2]
  have n1 : ¬ ((t.Funcs.length : Int) > 16) := by omega
  have n2 : ¬ ((t.Sites.length : Int) > 65536) := by omega
  simp only [n1, n2, decide_false, Bool.false_eq_true, if_false]
  rw [rng_allS' (xs := t.Funcs) (s0 := 0) lastStop (fun p r => decide (lastStop p ≤ r.Start ∧ r.Start < r.Stop ∧ r.Stop ≤ 1048576) && rowC r) (some 190) (by omega) rfl ?h1, rows_congr]
  case h1 =>
    intro i x hx
    have hm := List.mem_of_getElem? hx
    rw [row_eq x _ (hr x hm).1 (hr x hm).2]
    simp only [Option.bind_some]
    cases (decide (lastStop (prevOf t.Funcs i) ≤ x.Start ∧ x.Start < x.Stop ∧ x.Stop ≤ 1048576) && rowC x) <;> rfl
  rw [rng_allS' (xs := t.Sites) (s0 := ()) (fun _ => ()) (siteP t) (some 190) (by omega) rfl ?h2]
  case h2 =>
    intro i x hx
    have hm := List.mem_of_getElem? hx
    rw [owner_eq t x.At hf]
    simp only [Option.bind_some]
    unfold siteP
    cases ho : ownerI t x.At with
    | none => simp [oI]
    | some f =>
      obtain ⟨r, hr⟩ := ownerI_lt ho
      have c1 : ¬ ((oI (some f)) < 0) := by simp [oI]
      simp only [c1, decide_false, Bool.false_eq_true, if_false, hr]
      rw [show getI t.Funcs (oI (some f)) = some r by show getI t.Funcs (f : Int) = _; rw [getI_nat]; exact hr]
      simp only [Option.bind_some]
      rw [lives_any t x (hl x hm) hr (some (.ret (some 190))) _ ?h3]
      case h3 =>
        intro j o ho'
        rw [offset_eq]
        simp only [Option.bind_some]
        unfold liveP
        cases h4 : offB o r.Size
        · simp
        · rcases Nat.eq_zero_or_pos j with rfl | hj
          · simp [prev_zero]
          · obtain ⟨q, q1, q2⟩ := prev_of ho' hj
            have hlen := (List.getElem?_eq_some_iff.1 ho').1
            have := hl x hm
            rw [I64_pred hj (by omega), getI_nat, q1, q2]
            have c3 : (j : Int) > 0 := by omega
            have c4 : j ≠ 0 := by omega
            by_cases h5 : q < o
            · have : ¬ q ≥ o := by omega
              simp [c3, c4, h5, this]
            · have : q ≥ o := by omega
              simp [c3, c4, h5, this]
      rcases Nat.eq_zero_or_pos i with rfl | hi
      · simp only [prev_zero]
        cases allP (liveP r.Size) none x.Live <;> simp [oc]
      · obtain ⟨q, q1, q2⟩ := prev_of hx hi
        have hlen := (List.getElem?_eq_some_iff.1 hx).1
        have c3 : (i : Int) > 0 := by omega
        rw [I64_pred hi (by omega), getI_nat, q1, q2]
        simp only [c3, decide_true, if_true, Option.bind_some]
        by_cases h5 : q.At < x.At
        · have : ¬ q.At ≥ x.At := by omega
          cases allP (liveP r.Size) none x.Live <;> simp [oc, h5, this]
        · have : q.At ≥ x.At := by omega
          simp [h5, this]
  unfold okT
  rw [decide_eq_true hn]
  cases allP rowP none t.Funcs <;> cases allP (siteP t) none t.Sites <;> rfl

theorem Right_eq (t : Tables) (ht : Fit t) : windlassref19_Right_s t = some (okT t) := by
  obtain ⟨hf, hs, hr, hl⟩ := ht
  unfold windlassref19_Right_s
  simp only [jp]
  by_cases hn : t.Funcs.length ≤ 16 ∧ t.Sites.length ≤ 65536
  case neg =>
    have : okT t = false := by unfold okT; rw [decide_eq_false hn]; rfl
    rw [this]
    by_cases h1 : (t.Funcs.length : Int) > 16
    · simp [h1]
    · have h2 : (t.Sites.length : Int) > 65536 := by omega
      simp [h1, h2]
  have n1 : ¬ ((t.Funcs.length : Int) > 16) := by omega
  have n2 : ¬ ((t.Sites.length : Int) > 65536) := by omega
  simp only [n1, n2, decide_false, Bool.false_eq_true, if_false]
  rw [rng_allS' (xs := t.Funcs) (s0 := ()) (fun _ => ()) rowP (some false) (by omega) rfl ?h1]
  case h1 =>
    intro i x hx
    have hm := List.mem_of_getElem? hx
    obtain ⟨hp', hs'⟩ := hr x hm
    rw [rng_allS' (xs := x.Params) (s0 := ()) (fun _ => ()) (fun _ k => decide (k ≤ 1)) (some (.ret (some false))) (by omega) rfl ?g1, all_allP,
      rng_allS' (xs := x.Saves) (s0 := ()) (fun _ => ()) (saveP x.Size) (some (.ret (some false))) (by omega) rfl ?g2]
    case g1 =>
      intro j k hk
      by_cases h : k ≤ 1
      · simp [h]
      · simp [h]
    case g2 =>
      intro j y hy
      rw [word_eq]
      simp only [Option.bind_some]
      unfold saveP
      by_cases h1 : y.Reg < 6
      · have : ¬ (6 ≤ y.Reg ∧ y.Reg ≤ 11) := by omega
        simp [h1, this]
      · by_cases h2 : y.Reg > 11
        · have : ¬ (6 ≤ y.Reg ∧ y.Reg ≤ 11) := by omega
          simp [h1, h2, this]
        · have h3 : 6 ≤ y.Reg ∧ y.Reg ≤ 11 := by omega
          rw [decide_eq_true h3]
          rcases Nat.eq_zero_or_pos j with rfl | hj
          · cases offB y.Off x.Size <;> simp [h1, h2, prev_zero]
          · obtain ⟨q, q1, q2⟩ := prev_of hy hj
            have hlen := (List.getElem?_eq_some_iff.1 hy).1
            have c3 : (j : Int) > 0 := by omega
            have c4 : j ≠ 0 := by omega
            rw [I64_pred hj (by omega), getI_nat, q1, q2]
            by_cases h5 : q.Reg < y.Reg
            · have : ¬ y.Reg ≤ q.Reg := by omega
              cases offB y.Off x.Size <;> simp [h1, h2, c3, c4, h5, this]
            · have : y.Reg ≤ q.Reg := by omega
              simp [h1, h2, c3, c4, h5, this]
    by_cases a1 : x.Start < 0
    · have : rowP (prevOf t.Funcs i) x = false := by unfold rowP; rw [decide_eq_false (by omega)]; rfl
      simp [a1, this]
    by_cases a2 : x.Stop ≤ x.Start
    · have : rowP (prevOf t.Funcs i) x = false := by unfold rowP; rw [decide_eq_false (by omega)]; rfl
      simp [a1, a2, this]
    by_cases a3 : x.Stop > 1048576
    · have : rowP (prevOf t.Funcs i) x = false := by unfold rowP; rw [decide_eq_false (by omega)]; rfl
      simp [a1, a2, a3, this]
    have a4 : 0 ≤ x.Start ∧ x.Start < x.Stop ∧ x.Stop ≤ 1048576 := by omega
    rw [I64_of (x := x.Stop - 1) (by omega)]
    have hz : (i = 0 ∧ rowP (prevOf t.Funcs i) x = rowC x) ∨ (0 < i ∧ ∃ q, t.Funcs[i - 1]? = some q ∧ ((q.Stop ≤ x.Start ∧ rowP (prevOf t.Funcs i) x = rowC x) ∨ (¬ q.Stop ≤ x.Start ∧ rowP (prevOf t.Funcs i) x = false))) := by
      rcases Nat.eq_zero_or_pos i with rfl | hi
      · left; refine ⟨rfl, ?_⟩
        unfold rowP
        rw [decide_eq_true a4, prev_zero]; rfl
      · right; refine ⟨hi, ?_⟩
        obtain ⟨q, q1, q2⟩ := prev_of hx hi
        refine ⟨q, q1, ?_⟩
        unfold rowP
        rw [decide_eq_true a4, q2]
        by_cases h : q.Stop ≤ x.Start
        · left; refine ⟨h, ?_⟩; simp [h]
        · right; refine ⟨h, ?_⟩; simp [h]
    simp only [a1, a2, a3, decide_false, Bool.false_eq_true, if_false]
    have hlen := (List.getElem?_eq_some_iff.1 hx).1
    rcases hz with ⟨rfl, hz⟩ | ⟨hi, q, q1, ⟨hq, hz⟩ | ⟨hq, hz⟩⟩
    case inr.inr =>
      have c3 : (i : Int) > 0 := by omega
      rw [I64_pred hi (by omega), getI_nat, q1, hz]
      have : x.Start < q.Stop := by omega
      simp [c3, this]
      omega
    case' inl => rw [hz]; simp only [Int.natCast_zero, gt_iff_lt, Int.lt_irrefl, decide_false, Bool.false_eq_true, if_false]
    case' inr.inl =>
      have c3 : (i : Int) > 0 := by omega
      have c5 : ¬ x.Start < q.Stop := by omega
      rw [I64_pred hi (by omega), getI_nat, q1, hz]
      simp only [c3, decide_true, if_true, Option.bind_some, c5, decide_false, Bool.false_eq_true, if_false]
    all_goals
      unfold rowC
      by_cases hh : 0 ≤ x.Size ∧ x.Size ≤ 65536 ∧ x.Size % 8 = 0 ∧ x.Params.length ≤ 4
      case pos =>
        rw [decide_eq_true hh]
        obtain ⟨h4, h5, h6, h7⟩ := hh
        have t0 : x.Size.tmod 8 = 0 := by rw [Int.tmod_eq_emod_of_nonneg h4]; exact h6
        have n4 : ¬ x.Size < 0 := by omega
        have n5 : ¬ x.Size > 65536 := by omega
        have n6 : ¬ ((x.Params.length : Int)) > 4 := by omega
        simp only [n4, n5, n6, t0, decide_false, bne_self_eq_false, Bool.false_eq_true, if_false, Bool.true_and]
        cases hA : x.Params.all (fun k => decide (k ≤ 1))
        · simp [oc]
        cases hB : allP (saveP x.Size) none x.Saves
        · simp [oc]
        by_cases hr : x.Resume = -1
        · simp [oc, hr]
        · by_cases q1 : x.Resume < x.Start
          · have : decide (x.Resume = -1 ∨ x.Start ≤ x.Resume ∧ x.Resume < x.Stop) = false := decide_eq_false (by omega)
            rw [this]; simp [oc, hr, q1]
          · by_cases q2 : x.Resume > x.Stop - 1
            · have : decide (x.Resume = -1 ∨ x.Start ≤ x.Resume ∧ x.Resume < x.Stop) = false := decide_eq_false (by omega)
              rw [this]; simp [oc, hr, q1, q2]
            · have : decide (x.Resume = -1 ∨ x.Start ≤ x.Resume ∧ x.Resume < x.Stop) = true := decide_eq_true (by omega)
              rw [this]; simp [oc, hr, q1, q2]
      case neg =>
        rw [decide_eq_false hh]
        by_cases m4 : x.Size < 0
        · simp [m4]
        by_cases m5 : x.Size > 65536
        · simp [m4, m5]
        by_cases m6 : x.Size % 8 = 0
        · have t0 : x.Size.tmod 8 = 0 := by rw [Int.tmod_eq_emod_of_nonneg (by omega)]; exact m6
          have m7 : (x.Params.length : Int) > 4 := by
            rcases Int.lt_or_le 4 (x.Params.length : Int) with h | h
            · exact h
            · exact (hh ⟨by omega, by omega, m6, by omega⟩).elim
          simp [m4, m5, t0, m7]
        · have t0 : x.Size.tmod 8 ≠ 0 := by rw [Int.tmod_eq_emod_of_nonneg (by omega)]; exact m6
          simp [m4, m5, t0]
  rw [rng_allS' (xs := t.Sites) (s0 := ()) (fun _ => ()) (siteP t) (some false) (by omega) rfl ?h2]
  case h2 =>
    intro i x hx
    have hm := List.mem_of_getElem? hx
    rw [Owner_eq t x.At hf]
    simp only [Option.bind_some]
    unfold siteP
    cases ho : ownerI t x.At with
    | none => simp [oI]
    | some f =>
      obtain ⟨r, hr⟩ := ownerI_lt ho
      have c1 : ¬ ((oI (some f)) < 0) := by simp [oI]
      simp only [c1, decide_false, Bool.false_eq_true, if_false, hr]
      rw [show getI t.Funcs (oI (some f)) = some r by show getI t.Funcs (f : Int) = _; rw [getI_nat]; exact hr]
      simp only [Option.bind_some]
      rw [lives_any t x (hl x hm) hr (some (.ret (some false))) _ ?h3]
      case h3 =>
        intro j o ho'
        rw [word_eq]
        simp only [Option.bind_some]
        unfold liveP
        cases h4 : offB o r.Size
        · simp
        · rcases Nat.eq_zero_or_pos j with rfl | hj
          · simp [prev_zero]
          · obtain ⟨q, q1, q2⟩ := prev_of ho' hj
            have hlen := (List.getElem?_eq_some_iff.1 ho').1
            have := hl x hm
            rw [I64_pred hj (by omega), getI_nat, q1, q2]
            have c3 : (j : Int) > 0 := by omega
            have c4 : j ≠ 0 := by omega
            by_cases h5 : q < o
            · have : ¬ o ≤ q := by omega
              simp [c3, c4, h5, this]
            · have : o ≤ q := by omega
              simp [c3, c4, h5, this]
      rcases Nat.eq_zero_or_pos i with rfl | hi
      · simp only [prev_zero]
        cases allP (liveP r.Size) none x.Live <;> simp [oc]
      · obtain ⟨q, q1, q2⟩ := prev_of hx hi
        have hlen := (List.getElem?_eq_some_iff.1 hx).1
        have c3 : (i : Int) > 0 := by omega
        rw [I64_pred hi (by omega), getI_nat, q1, q2]
        simp only [c3, decide_true, if_true, Option.bind_some]
        by_cases h5 : q.At < x.At
        · have : ¬ x.At ≤ q.At := by omega
          cases allP (liveP r.Size) none x.Live <;> simp [oc, h5, this]
        · have : x.At ≤ q.At := by omega
          simp [h5, this]
  unfold okT
  rw [decide_eq_true hn]
  cases allP rowP none t.Funcs <;> cases allP (siteP t) none t.Sites <;> rfl
end Go.Proofs.Ytnmicfhdpnabcaa
