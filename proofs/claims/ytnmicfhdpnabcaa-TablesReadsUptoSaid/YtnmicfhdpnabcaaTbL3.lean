/- Plain laws of the tables: rows and sites are found. -/
import Derived.Test.YtnmicfhdpnabcaaTbL2
namespace Go.Proofs.Ytnmicfhdpnabcaa
open Go Go.Ab
set_option maxRecDepth 20000
set_option linter.unusedVariables false
set_option linter.unusedSimpArgs false

theorem allP_get {α : Type} {ok : Option α → α → Bool} {xs : List α} (h : allP ok none xs = true) : ∀ i x, xs[i]? = some x → ok (prevOf xs i) x = true := by
  have key : ∀ (m i : Nat), xs.length - i = m → i ≤ xs.length → allP ok (prevOf xs i) (xs.drop i) = true → ∀ j x, i ≤ j → xs[j]? = some x → ok (prevOf xs j) x = true := by
    intro m
    induction m with
    | zero => intro i hm hi _ j x hj hx; have := (List.getElem?_eq_some_iff.1 hx).1; omega
    | succ m ih =>
      intro i hm hi ha j x hj hx
      have hlt : i < xs.length := by omega
      rw [List.drop_eq_getElem_cons hlt] at ha
      simp only [allP, Bool.and_eq_true] at ha
      have hp : prevOf xs (i + 1) = some xs[i] := by unfold prevOf; rw [if_neg (by omega)]; simp [hlt]
      rcases Nat.eq_or_lt_of_le hj with rfl | hlt2
      · rw [List.getElem?_eq_getElem hlt] at hx; cases hx; exact ha.1
      · exact ih (i + 1) (by omega) (by omega) (by rw [hp]; exact ha.2) j x (by omega) hx
  intro i x hx
  exact key xs.length 0 (by omega) (by omega) (by simpa [prevOf] using h) i x (by omega) hx

def cmpI (x y : Int) : Int := if x < y then -1 else if y < x then 1 else 0
theorem Compare_eq (x y : Int) : cmp_Compare_s x y = some (cmpI x y) := by
  unfold cmp_Compare_s cmp_isNaN_s cmpI
  simp only [Option.bind_some, bne_self_eq_false, Bool.false_eq_true, if_false]
  by_cases h1 : x < y
  · simp [h1]
  · by_cases h2 : y < x
    · simp [h1, h2]
    · simp [h1, h2]
theorem Func1_eq (r : FuncRow) (x : Int) : tables_Func_1_s r x = some (cmpI r.Start x) := by unfold tables_Func_1_s; rw [Compare_eq]; rfl
theorem Site1_eq (r : Site) (x : Int) : tables_Site_1_s r x = some (cmpI r.At x) := by unfold tables_Site_1_s; rw [Compare_eq]; rfl

theorem bsearch {α ρ : Type} (key : α → Int) (g : α → Int → Option Int) (hg : ∀ y x, g y x = some (cmpI (key y) x)) (xs : List α) (hl : xs.length ≤ 1048576) (x : Int) (fuel : Nat) (hf : xs.length < fuel) :
    (whileN (fun (s_1 : (Int × Int × Int)) => ((if (decide (s_1.2.1 < s_1.2.2)) then ((getI xs (I64 (shR .u64 (U64 (I64 (s_1.2.1 + s_1.2.2))) 1))).bind fun y_2 => ((g y_2 s_1.1).bind fun v1_3 => (if (decide (v1_3 < 0)) then (some (.nxt (s_1.1, (I64 ((I64 (shR .u64 (U64 (I64 (s_1.2.1 + s_1.2.2))) 1)) + 1)), s_1.2.2))) else (some (.nxt (s_1.1, s_1.2.1, (I64 (shR .u64 (U64 (I64 (s_1.2.1 + s_1.2.2))) 1)))))))) else (some (.brk (s_1.1, s_1.2.1, s_1.2.2)))) : Option (Stp (Int × Int × Int) ρ))) fuel (x, 0, (List.length xs : Int))) =
      some (.fin (x, (bs (fun (k : Nat) => cmpI ((xs[k]?.map key).getD 0) x) 0 xs.length : Int), (bs (fun (k : Nat) => cmpI ((xs[k]?.map key).getD 0) x) 0 xs.length : Int))) := by
  generalize hc : (fun (k : Nat) => cmpI ((xs[k]?.map key).getD 0) x) = c
  refine whileN_of (Inv := fun s => s.1 = x ∧ 0 ≤ s.2.1 ∧ s.2.1 ≤ s.2.2 ∧ s.2.2 ≤ (xs.length : Int)) (μ := fun s => (s.2.2 - s.2.1).toNat) (res := fun s => .fin (x, (bs c s.2.1.toNat s.2.2.toNat : Int), (bs c s.2.1.toNat s.2.2.toNat : Int))) ?_ fuel (x, 0, (List.length xs : Int)) ⟨rfl, by simp, by simp, by simp⟩ (by simp; omega)
  rintro ⟨x', i', j'⟩ ⟨h1, h2, h3, h4⟩
  simp only at h1 h2 h3 h4
  subst h1
  obtain ⟨i, rfl⟩ := Int.eq_ofNat_of_zero_le h2
  obtain ⟨j, rfl⟩ := Int.eq_ofNat_of_zero_le (Int.le_trans h2 h3)
  simp only [half_eq (i := i) (j := j) (by omega) (by omega), Int.toNat_natCast]
  by_cases hij : i < j
  · left
    have e1 : (i : Int) < j := by omega
    have hm : (i + j) / 2 < xs.length := by omega
    have hx : xs[(i + j) / 2]? = some xs[(i + j) / 2] := List.getElem?_eq_getElem hm
    have hcm : c ((i + j) / 2) = cmpI (key xs[(i + j) / 2]) x' := by rw [← hc]; simp [hx]
    simp only [e1, decide_true, if_true, getI_nat, hx, Option.bind_some, hg]
    rw [bs_eq c i j hij, hcm]
    by_cases hneg : cmpI (key xs[(i + j) / 2]) x' < 0
    · refine ⟨(x', (((i + j) / 2 + 1 : Nat) : Int), (j : Int)), ?_, ⟨rfl, by simp only; omega, by simp only; omega, by simp only; omega⟩, by simp only; omega, ?_⟩
      · simp only [hneg, decide_true, if_true]
        rw [I64_of (by omega)]; rfl
      · simp only [hneg, if_true, Int.toNat_natCast]
    · refine ⟨(x', (i : Int), (((i + j) / 2 : Nat) : Int)), ?_, ⟨rfl, by simp only; omega, by simp only; omega, by simp only; omega⟩, by simp only; omega, ?_⟩
      · simp only [hneg, decide_false, Bool.false_eq_true, if_false]
      · simp only [hneg, if_false, Int.toNat_natCast]
  · right; left
    have e1 : ¬ (i : Int) < j := by omega
    have hij' : i = j := by omega
    refine ⟨(x', (i : Int), (j : Int)), by simp only [e1, decide_false, Bool.false_eq_true, if_false], ?_⟩
    rw [bs_end c i j hij, hij']

/-- In a list that rises strictly: where what is sought stands, or would stand. -/
structure Rises {α : Type} (key : α → Int) (xs : List α) : Prop where
  lt : ∀ (i j : Nat) (x y : α), i < j → xs[i]? = some x → xs[j]? = some y → key x < key y

theorem bs_rise {α : Type} {key : α → Int} {xs : List α} (h : Rises key xs) (x : Int) : ∃ p, p ≤ xs.length ∧ bs (fun (k : Nat) => cmpI ((xs[k]?.map key).getD 0) x) 0 xs.length = p ∧ (∀ (k : Nat) (y : α), k < p → xs[k]? = some y → key y < x) ∧ (∀ (k : Nat) (y : α), p ≤ k → xs[k]? = some y → x ≤ key y) := by
  have hp : ∃ p, p ≤ xs.length ∧ (∀ (k : Nat) (y : α), k < p → xs[k]? = some y → key y < x) ∧ (∀ (k : Nat) (y : α), p ≤ k → xs[k]? = some y → x ≤ key y) := by
    cases e : firstI (fun y => decide (x ≤ key y)) 0 xs with
    | none =>
      refine ⟨xs.length, Nat.le_refl _, fun k y hk hy => ?_, fun k y hk hy => ?_⟩
      · have := firstI_none e y (List.mem_of_getElem? hy); simp at this; exact this
      · have := (List.getElem?_eq_some_iff.1 hy).1; omega
    | some p =>
      obtain ⟨_, y, h2, h3, h4⟩ := firstI_some e
      rw [Nat.sub_zero] at h2 h4
      simp only [decide_eq_true_eq] at h3
      refine ⟨p, ?_, fun k z hk hz => ?_, fun k z hk hz => ?_⟩
      · have := (List.getElem?_eq_some_iff.1 h2).1; omega
      · have := h4 k z hk hz; simp at this; exact this
      · rcases Nat.eq_or_lt_of_le hk with rfl | hk
        · rw [h2] at hz; cases hz; exact h3
        · have := h.lt p k y z hk h2 hz; omega
  obtain ⟨p, h1, h2, h3⟩ := hp
  refine ⟨p, h1, ?_, h2, h3⟩
  refine bs_at _ p xs.length 0 xs.length (by omega) (by omega) h1 (fun k _ hk => ?_) (fun k hk hk' => ?_)
  · have hx : xs[k]? = some (xs[k]'(by omega)) := List.getElem?_eq_getElem (by omega)
    have := h2 k _ hk hx
    simp only [hx, Option.map_some, Option.getD_some, cmpI]
    rw [if_pos this]; omega
  · have hx : xs[k]? = some (xs[k]'(by omega)) := List.getElem?_eq_getElem (by omega)
    have := h3 k _ hk hx
    simp only [hx, Option.map_some, Option.getD_some, cmpI]
    rw [if_neg (by omega)]
    split <;> omega

theorem rows_rise {t : Tables} (h : okT t = true) : (∀ (i j : Nat) (x y : FuncRow), i < j → t.Funcs[i]? = some x → t.Funcs[j]? = some y → x.Stop ≤ y.Start) ∧ (∀ (i : Nat) (x : FuncRow), t.Funcs[i]? = some x → x.Start < x.Stop ∧ 0 ≤ x.Start ∧ x.Stop ≤ 1048576) := by
  unfold okT at h
  simp only [Bool.and_eq_true] at h
  have hg := allP_get h.1.2
  have hb : ∀ (i : Nat) (x : FuncRow), t.Funcs[i]? = some x → x.Start < x.Stop ∧ 0 ≤ x.Start ∧ x.Stop ≤ 1048576 := fun i x hx => by
    have := hg i x hx
    unfold rowP at this
    simp only [Bool.and_eq_true, decide_eq_true_eq] at this
    omega
  refine ⟨?_, hb⟩
  have key : ∀ (d i : Nat) (x y : FuncRow), t.Funcs[i]? = some x → t.Funcs[i + d + 1]? = some y → x.Stop ≤ y.Start := by
    intro d
    induction d with
    | zero =>
      intro i x y hx hy
      have := hg (i + 0 + 1) y hy
      unfold rowP at this
      obtain ⟨q, q1, q2⟩ := prev_of hy (by omega)
      rw [q2] at this
      simp only [Bool.and_eq_true, decide_eq_true_eq] at this
      have e : i + 0 + 1 - 1 = i := by omega
      rw [e, hx] at q1; cases q1
      exact this.1.2
    | succ d ih =>
      intro i x y hx hy
      have hlt := (List.getElem?_eq_some_iff.1 hy).1
      have hz : t.Funcs[i + d + 1]? = some (t.Funcs[i + d + 1]'(by omega)) := List.getElem?_eq_getElem (by omega)
      have h1 := ih i x _ hx hz
      have h2 := hb _ _ hz
      have := hg (i + (d + 1) + 1) y hy
      unfold rowP at this
      obtain ⟨q, q1, q2⟩ := prev_of hy (by omega)
      rw [q2] at this
      simp only [Bool.and_eq_true, decide_eq_true_eq] at this
      have e : i + (d + 1) + 1 - 1 = i + d + 1 := by omega
      rw [e, hz] at q1; cases q1
      have := this.1.2
      omega
  intro i j x y hij hx hy
  have := key (j - i - 1) i x y hx (by rw [show i + (j - i - 1) + 1 = j by omega]; exact hy)
  exact this

theorem sites_rise {t : Tables} (h : okT t = true) : Rises Site.At t.Sites := by
  unfold okT at h
  simp only [Bool.and_eq_true] at h
  have hg := allP_get h.2
  have h1 : ∀ (i : Nat) (x y : Site), t.Sites[i]? = some x → t.Sites[i + 1]? = some y → x.At < y.At := fun i x y hx hy => by
    have := hg (i + 1) y hy
    unfold siteP at this
    obtain ⟨q, q1, q2⟩ := prev_of hy (by omega)
    rw [q2] at this
    have e : i + 1 - 1 = i := by omega
    rw [e, hx] at q1; cases q1
    cases ho : ownerI t y.At with
    | none => rw [ho] at this; cases this
    | some f => rw [ho] at this; simp only [Bool.and_eq_true, decide_eq_true_eq] at this; exact this.1
  have key : ∀ (d i : Nat) (x y : Site), t.Sites[i]? = some x → t.Sites[i + d + 1]? = some y → x.At < y.At := by
    intro d
    induction d with
    | zero => intro i x y hx hy; exact h1 i x y hx hy
    | succ d ih =>
      intro i x y hx hy
      have hlt := (List.getElem?_eq_some_iff.1 hy).1
      have hz : t.Sites[i + d + 1]? = some (t.Sites[i + d + 1]'(by omega)) := List.getElem?_eq_getElem (by omega)
      have := ih i x _ hx hz
      have := h1 (i + d + 1) _ y hz hy
      omega
  exact ⟨fun i j x y hij hx hy => key (j - i - 1) i x y hx (by rw [show i + (j - i - 1) + 1 = j by omega]; exact hy)⟩

/-- The row of an instruction: its number, and whether there is one. -/
def inRow (t : Tables) (x : Int) : Int × Bool := match firstI (fun r => decide (r.Start ≤ x ∧ x < r.Stop)) 0 t.Funcs with | some k => ((k : Int), true) | none => (0, false)
def atSite (t : Tables) (x : Int) : Int × Bool := match firstI (fun s => decide (s.At = x)) 0 t.Sites with | some k => ((k : Int), true) | none => (0, false)

theorem refFunc_eq (t : Tables) (x : Int) (h : t.Funcs.length ≤ 1048576) : windlassref19_Func_s t x = some (inRow t x) := by
  unfold windlassref19_Func_s
  rw [rng_find x (fun r => decide (r.Start ≤ x ∧ x < r.Stop)) (fun i => some ((i : Int), true)) (by omega)]
  · unfold inRow
    cases firstI (fun r : FuncRow => decide (r.Start ≤ x ∧ x < r.Stop)) 0 t.Funcs <;> rfl
  · intro i r hr
    simp only [jp]
    by_cases h1 : r.Start ≤ x <;> by_cases h2 : x < r.Stop <;> simp [h1, h2]
theorem refSite_eq (t : Tables) (x : Int) (h : t.Sites.length ≤ 1048576) : windlassref19_Site_s t x = some (atSite t x) := by
  unfold windlassref19_Site_s
  rw [rng_find x (fun s => decide (s.At = x)) (fun i => some ((i : Int), true)) (by omega)]
  · unfold atSite
    cases firstI (fun s : Site => decide (s.At = x)) 0 t.Sites <;> rfl
  · intro i r hr
    by_cases h1 : r.At = x <;> simp [h1]

theorem Func_eq (t : Tables) (x : Int) (hl : t.Funcs.length ≤ 1048576) (ht : okT t = true) (fuel : Nat) (hf : t.Funcs.length < fuel) : tables_Func_s fuel t x = some (inRow t x) := by
  obtain ⟨hr, hb⟩ := rows_rise ht
  have hrise : Rises FuncRow.Start t.Funcs := ⟨fun i j a b hij ha hb' => by have := hr i j a b hij ha hb'; have := hb i a ha; omega⟩
  obtain ⟨p, p1, p2, p3, p4⟩ := bs_rise hrise x
  unfold tables_Func_s slices_BinarySearchFunc_0_f23_s
  rw [bsearch FuncRow.Start tables_Func_1_s Func1_eq t.Funcs hl x fuel hf, p2]
  simp only [Option.bind_some, oc, jp]
  by_cases hp : p < t.Funcs.length
  · have hx : t.Funcs[p]? = some t.Funcs[p] := List.getElem?_eq_getElem hp
    have e1 : (p : Int) < t.Funcs.length := by omega
    simp only [e1, decide_true, if_true, getI_nat, hx, Option.bind_some, Func1_eq]
    by_cases hs : t.Funcs[p].Start = x
    · have c0 : cmpI t.Funcs[p].Start x = 0 := by unfold cmpI; rw [if_neg (by omega), if_neg (by omega)]
      have hbp := hb p _ hx
      have n1 : ¬ (p : Int) < 0 := by omega
      have n2 : ¬ x ≥ t.Funcs[p].Stop := by omega
      simp only [c0, beq_self_eq_true, Bool.not_true, Bool.false_eq_true, if_false, n1, decide_false, getI_nat, hx, Option.bind_some, n2]
      have : firstI (fun r : FuncRow => decide (r.Start ≤ x ∧ x < r.Stop)) 0 t.Funcs = some p := firstI_of hx (by simp; omega) (fun j y hj hy => by have := hr j p y _ hj hy hx; simp; omega)
      unfold inRow; rw [this]
    · have hx4 := p4 p _ (Nat.le_refl _) hx
      have c0 : (cmpI t.Funcs[p].Start x == 0) = false := by unfold cmpI; rw [if_neg (by omega), if_pos (by omega)]; rfl
      simp only [c0, Bool.not_false, if_true]
      rcases Nat.eq_zero_or_pos p with rfl | hp0
      · rw [I64_of (by omega)]
        have n1 : ((0 : Nat) : Int) - 1 < 0 := by omega
        simp only [n1, decide_true, if_true]
        have : firstI (fun r : FuncRow => decide (r.Start ≤ x ∧ x < r.Stop)) 0 t.Funcs = none := by
          cases e : firstI (fun r : FuncRow => decide (r.Start ≤ x ∧ x < r.Stop)) 0 t.Funcs with
          | none => rfl
          | some k =>
            obtain ⟨_, y, h2, h3, _⟩ := firstI_some e
            rw [Nat.sub_zero] at h2
            simp only [decide_eq_true_eq] at h3
            rcases Nat.eq_zero_or_pos k with rfl | hk
            · rw [hx] at h2; cases h2; omega
            · have := hr 0 k _ y hk hx h2; have := hb 0 _ hx; omega
        unfold inRow; rw [this]
      · rw [I64_pred hp0 (by omega)]
        have hq : t.Funcs[p - 1]? = some (t.Funcs[p - 1]'(by omega)) := List.getElem?_eq_getElem (by omega)
        have q3 := p3 (p - 1) _ (by omega) hq
        have n1 : ¬ ((p - 1 : Nat) : Int) < 0 := by omega
        simp only [n1, decide_false, Bool.false_eq_true, if_false, getI_nat, hq, Option.bind_some]
        by_cases hst : x ≥ (t.Funcs[p - 1]'(by omega)).Stop
        · simp only [hst, decide_true, if_true]
          have : firstI (fun r : FuncRow => decide (r.Start ≤ x ∧ x < r.Stop)) 0 t.Funcs = none := by
            cases e : firstI (fun r : FuncRow => decide (r.Start ≤ x ∧ x < r.Stop)) 0 t.Funcs with
            | none => rfl
            | some k =>
              obtain ⟨_, y, h2, h3, _⟩ := firstI_some e
              rw [Nat.sub_zero] at h2
              simp only [decide_eq_true_eq] at h3
              rcases Nat.lt_trichotomy k (p - 1) with hk | hk | hk
              · have := hr k (p - 1) y _ hk h2 hq; omega
              · subst hk; rw [hq] at h2; cases h2; omega
              · rcases Nat.eq_or_lt_of_le (show p ≤ k by omega) with rfl | hk
                · rw [hx] at h2; cases h2; omega
                · have := hr p k _ y hk hx h2; have := hb p _ hx; omega
          unfold inRow; rw [this]
        · simp only [hst, decide_false, Bool.false_eq_true, if_false]
          have : firstI (fun r : FuncRow => decide (r.Start ≤ x ∧ x < r.Stop)) 0 t.Funcs = some (p - 1) := firstI_of hq (by simp; omega) (fun j y hj hy => by have := hr j (p - 1) y _ hj hy hq; simp; omega)
          unfold inRow; rw [this]
  · have hpe : p = t.Funcs.length := by omega
    have e1 : ¬ (p : Int) < t.Funcs.length := by omega
    simp only [e1, decide_false, Bool.false_eq_true, if_false, Option.bind_some, Bool.not_false, if_true]
    rcases Nat.eq_zero_or_pos p with rfl | hp0
    · rw [I64_of (by omega)]
      have n1 : ((0 : Nat) : Int) - 1 < 0 := by omega
      simp only [n1, decide_true, if_true]
      have : t.Funcs = [] := List.eq_nil_of_length_eq_zero hpe.symm
      unfold inRow; rw [this]; rfl
    · rw [I64_pred hp0 (by omega)]
      have hq : t.Funcs[p - 1]? = some (t.Funcs[p - 1]'(by omega)) := List.getElem?_eq_getElem (by omega)
      have q3 := p3 (p - 1) _ (by omega) hq
      have n1 : ¬ ((p - 1 : Nat) : Int) < 0 := by omega
      simp only [n1, decide_false, Bool.false_eq_true, if_false, getI_nat, hq, Option.bind_some]
      by_cases hst : x ≥ (t.Funcs[p - 1]'(by omega)).Stop
      · simp only [hst, decide_true, if_true]
        have : firstI (fun r : FuncRow => decide (r.Start ≤ x ∧ x < r.Stop)) 0 t.Funcs = none := by
          cases e : firstI (fun r : FuncRow => decide (r.Start ≤ x ∧ x < r.Stop)) 0 t.Funcs with
          | none => rfl
          | some k =>
            obtain ⟨_, y, h2, h3, _⟩ := firstI_some e
            rw [Nat.sub_zero] at h2
            simp only [decide_eq_true_eq] at h3
            have hk := (List.getElem?_eq_some_iff.1 h2).1
            rcases Nat.eq_or_lt_of_le (show k ≤ p - 1 by omega) with rfl | hk
            · rw [hq] at h2; cases h2; omega
            · have := hr k (p - 1) y _ hk h2 hq; omega
        unfold inRow; rw [this]
      · simp only [hst, decide_false, Bool.false_eq_true, if_false]
        have : firstI (fun r : FuncRow => decide (r.Start ≤ x ∧ x < r.Stop)) 0 t.Funcs = some (p - 1) := firstI_of hq (by simp; omega) (fun j y hj hy => by have := hr j (p - 1) y _ hj hy hq; simp; omega)
        unfold inRow; rw [this]

theorem Site_eq (t : Tables) (x : Int) (hl : t.Sites.length ≤ 1048576) (ht : okT t = true) (fuel : Nat) (hf : t.Sites.length < fuel) : tables_Site_s fuel t x = some (atSite t x) := by
  have hrise := sites_rise ht
  obtain ⟨p, p1, p2, p3, p4⟩ := bs_rise hrise x
  unfold tables_Site_s slices_BinarySearchFunc_1_f28_s
  rw [bsearch Site.At tables_Site_1_s Site1_eq t.Sites hl x fuel hf, p2]
  simp only [Option.bind_some, oc, jp]
  by_cases hp : p < t.Sites.length
  · have hx : t.Sites[p]? = some t.Sites[p] := List.getElem?_eq_getElem hp
    have e1 : (p : Int) < t.Sites.length := by omega
    simp only [e1, decide_true, if_true, getI_nat, hx, Option.bind_some, Site1_eq]
    by_cases hs : t.Sites[p].At = x
    · have c0 : cmpI t.Sites[p].At x = 0 := by unfold cmpI; rw [if_neg (by omega), if_neg (by omega)]
      simp only [c0, beq_self_eq_true, Bool.not_true, Bool.false_eq_true, if_false]
      have : firstI (fun s : Site => decide (s.At = x)) 0 t.Sites = some p := firstI_of hx (by simp [hs]) (fun j y hj hy => by have := hrise.lt j p y _ hj hy hx; simp; omega)
      unfold atSite; rw [this]
    · have hx4 := p4 p _ (Nat.le_refl _) hx
      have c0 : (cmpI t.Sites[p].At x == 0) = false := by unfold cmpI; rw [if_neg (by omega), if_pos (by omega)]; rfl
      simp only [c0, Bool.not_false, if_true]
      have : firstI (fun s : Site => decide (s.At = x)) 0 t.Sites = none := by
        cases e : firstI (fun s : Site => decide (s.At = x)) 0 t.Sites with
        | none => rfl
        | some k =>
          obtain ⟨_, y, h2, h3, _⟩ := firstI_some e
          rw [Nat.sub_zero] at h2
          simp only [decide_eq_true_eq] at h3
          rcases Nat.lt_trichotomy k p with hk | hk | hk
          · have := p3 k y hk h2; omega
          · subst hk; rw [hx] at h2; cases h2; exact (hs h3).elim
          · have := hrise.lt p k _ y hk hx h2; omega
      unfold atSite; rw [this]
  · have e1 : ¬ (p : Int) < t.Sites.length := by omega
    simp only [e1, decide_false, Bool.false_eq_true, if_false, Bool.not_false, if_true]
    have : firstI (fun s : Site => decide (s.At = x)) 0 t.Sites = none := by
      cases e : firstI (fun s : Site => decide (s.At = x)) 0 t.Sites with
      | none => rfl
      | some k =>
        obtain ⟨_, y, h2, h3, _⟩ := firstI_some e
        rw [Nat.sub_zero] at h2
        simp only [decide_eq_true_eq] at h3
        have hk := (List.getElem?_eq_some_iff.1 h2).1
        have := p3 k y (by omega) h2
        omega
    unfold atSite; rw [this]; rfl

theorem first_eq (fuel : Nat) (hf : 2 < fuel) : windlasslaw19_first_s fuel = some true := by
  unfold windlasslaw19_first_s
  have e : ∀ x, tables_Func_s fuel (Tables.mk [FuncRow.mk 2 9 0 [] [] (-1)] []) x = some (inRow (Tables.mk [FuncRow.mk 2 9 0 [] [] (-1)] []) x) := fun x => Func_eq _ x (by simp) (by rfl) fuel (by simp; omega)
  rw [e]
  rfl

theorem Finds_eq (t : Tables) (x : Int) (ht : Fit t) : windlasslaw19_TablesFinds_s 1048577 t x = some true := by
  have hf := ht.f
  have hs := ht.s
  unfold windlasslaw19_TablesFinds_s
  rw [first_eq _ (by omega), Right_eq t ht, Check_eq t ht]
  simp only [Option.bind_some, Bool.not_true, Bool.false_eq_true, if_false]
  cases hok : okT t
  · rfl
  simp only [Bool.not_true, Bool.false_eq_true, if_false, jp]
  have h1 : ∀ a, tables_Func_s 1048577 t a = some (inRow t a) := fun a => Func_eq t a hf hok _ (by omega)
  have h2 : ∀ a, tables_Site_s 1048577 t a = some (atSite t a) := fun a => Site_eq t a hs hok _ (by omega)
  have h3 : ∀ a, windlassref19_Func_s t a = some (inRow t a) := fun a => refFunc_eq t a hf
  have h4 : ∀ a, windlassref19_Site_s t a = some (atSite t a) := fun a => refSite_eq t a hs
  rw [rng_allS' (xs := [x, 0, -1, 1048576]) (s0 := ()) (fun _ => ()) (fun _ _ => true) (some false) (by simp) rfl ?g1]
  case g1 => intro i a _; simp [h1, h2, h3, h4]
  rw [rng_allS' (xs := t.Sites) (s0 := ()) (fun _ => ()) (fun _ _ => true) (some false) (by omega) rfl ?g2]
  case g2 =>
    intro i s hsi
    rw [h2]
    have hrise := sites_rise hok
    have : firstI (fun s' : Site => decide (s'.At = s.At)) 0 t.Sites = some i := firstI_of hsi (by simp) (fun j y hj hy => by have := hrise.lt j i y s hj hy hsi; simp; omega)
    simp [atSite, this]
  have : ∀ (l : List Site), allP (fun _ _ => true) none l = true := fun l => by
    have := all_allP (fun _ : Site => true) l none
    rw [this]; simp
  rw [this]
  rfl
end Go.Proofs.Ytnmicfhdpnabcaa
