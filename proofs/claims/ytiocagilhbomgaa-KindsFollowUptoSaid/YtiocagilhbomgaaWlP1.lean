/- Plain lemmas of loops: for the laws of what functions compute. -/
import Derived.Test.YtiocagilhbomgaaWlF7
namespace Go.Ab
set_option linter.unusedVariables false
set_option linter.unusedSimpArgs false

theorem getI_nat {α : Type} (l : List α) (i : Nat) : getI l (i : Int) = l[i]? := by unfold getI; rw [if_pos (by omega)]; simp
theorem getI_lt {α : Type} {l : List α} {i : Int} (h0 : 0 ≤ i) (h : i.toNat < l.length) : getI l i = some (l[i.toNat]) := by unfold getI; rw [if_pos h0, List.getElem?_eq_getElem h]
theorem I64_of {x : Int} (h : -9223372036854775808 ≤ x ∧ x ≤ 9223372036854775807) : I64 x = x := I64_id h
theorem U64_of {x : Int} (h : 0 ≤ x ∧ x ≤ 18446744073709551615) : U64 x = x := by
  show IntKind.u64.wrap x = x
  simp [IntKind.wrap, IntKind.bits, IntKind.signed]; omega
theorem U8_of {x : Int} (h : 0 ≤ x ∧ x ≤ 255) : U8 x = x := by
  show IntKind.u8.wrap x = x
  simp [IntKind.wrap, IntKind.bits, IntKind.signed]; omega
theorem I64_pred {i : Nat} (h0 : 0 < i) (h : i ≤ 4611686018427387904) : I64 ((i : Int) - 1) = ((i - 1 : Nat) : Int) := by rw [I64_of (by omega)]; omega

/-- The element ahead. -/
def prevOf {α : Type} (xs : List α) (i : Nat) : Option α := if i = 0 then none else xs[i - 1]?
def allP {α : Type} (ok : Option α → α → Bool) : Option α → List α → Bool
  | _, [] => true
  | p, x :: r => ok p x && allP ok (some x) r

theorem rangeL_allS {α σ ρ : Type} {xs : List α} {body : Nat → α → σ → Option (Stp σ ρ)} (st : Option α → σ) (ok : Option α → α → Bool) (v : ρ)
    (h : ∀ i x, xs[i]? = some x → body i x (st (prevOf xs i)) = some (if ok (prevOf xs i) x = true then .nxt (st (some x)) else .ret v)) :
    ∀ (m i : Nat), xs.length - i = m → i ≤ xs.length → rangeL body (xs.drop i) i (st (prevOf xs i)) = some (if allP ok (prevOf xs i) (xs.drop i) = true then .fin (st (prevOf xs xs.length)) else .ret v)
  | 0, i, hm, hi => by
    have : i = xs.length := by omega
    subst this
    simp [rangeL, allP]
  | m + 1, i, hm, hi => by
    have hlt : i < xs.length := by omega
    have hx : xs[i]? = some xs[i] := List.getElem?_eq_getElem hlt
    rw [List.drop_eq_getElem_cons hlt]
    simp only [rangeL, h i _ hx]
    by_cases hok : ok (prevOf xs i) xs[i] = true
    · rw [if_pos hok]
      have e : allP ok (prevOf xs i) (xs[i] :: xs.drop (i + 1)) = allP ok (some xs[i]) (xs.drop (i + 1)) := by simp [allP, hok]
      rw [e]
      have hp : prevOf xs (i + 1) = some xs[i] := by unfold prevOf; rw [if_neg (by omega)]; simp [hlt]
      simp only [← hp]
      exact rangeL_allS st ok v h m (i + 1) (by omega) (by omega)
    · rw [if_neg hok]
      have e : allP ok (prevOf xs i) (xs[i] :: xs.drop (i + 1)) = false := by simp [allP, hok]
      rw [e]; rfl

theorem rng_allS {α σ ρ : Type} {xs : List α} {body : Nat → α → σ → Option (Stp σ ρ)} (st : Option α → σ) (ok : Option α → α → Bool) (v : ρ) (hl : xs.length ≤ 4611686018427387904)
    (h : ∀ i x, xs[i]? = some x → body i x (st (prevOf xs i)) = some (if ok (prevOf xs i) x = true then .nxt (st (some x)) else .ret v)) :
    rng body xs (st none) = some (if allP ok none xs = true then .fin (st (prevOf xs xs.length)) else .ret v) := by
  unfold rng
  rw [if_pos hl]
  have := rangeL_allS st ok v h xs.length 0 (by omega) (by omega)
  simpa [prevOf] using this

theorem rng_allS' {α σ ρ : Type} {xs : List α} {body : Nat → α → σ → Option (Stp σ ρ)} {s0 : σ} (st : Option α → σ) (ok : Option α → α → Bool) (v : ρ) (hl : xs.length ≤ 4611686018427387904) (h0 : s0 = st none)
    (h : ∀ i x, xs[i]? = some x → body i x (st (prevOf xs i)) = some (if ok (prevOf xs i) x = true then .nxt (st (some x)) else .ret v)) :
    rng body xs s0 = some (if allP ok none xs = true then .fin (st (prevOf xs xs.length)) else .ret v) := by rw [h0]; exact rng_allS st ok v hl h

theorem allP_congr {α : Type} {ok ok' : Option α → α → Bool} (inv : Option α → Prop) (h : ∀ p x, inv p → ok p x = ok' p x ∧ (ok' p x = true → inv (some x))) : ∀ (xs : List α) (p : Option α), inv p → allP ok p xs = allP ok' p xs
  | [], _, _ => rfl
  | x :: r, p, hp => by
    obtain ⟨h1, h2⟩ := h p x hp
    simp only [allP, h1]
    cases e : ok' p x with
    | false => rfl
    | true => rw [allP_congr inv h r (some x) (h2 e)]

/-- The first one of which it holds. -/
def firstI {α : Type} (p : α → Bool) : Nat → List α → Option Nat
  | _, [] => none
  | i, x :: r => if p x = true then some i else firstI p (i + 1) r

theorem rangeL_find {α σ ρ : Type} {xs : List α} {body : Nat → α → σ → Option (Stp σ ρ)} (s : σ) (p : α → Bool) (v : Nat → ρ)
    (h : ∀ i x, xs[i]? = some x → body i x s = some (if p x = true then .ret (v i) else .nxt s)) :
    ∀ (m i : Nat), xs.length - i = m → i ≤ xs.length → rangeL body (xs.drop i) i s = some (match firstI p i (xs.drop i) with | some k => .ret (v k) | none => .fin s)
  | 0, i, hm, hi => by
    rw [List.drop_eq_nil_of_le (by omega)]; rfl
  | m + 1, i, hm, hi => by
    have hlt : i < xs.length := by omega
    rw [List.drop_eq_getElem_cons hlt]
    simp only [rangeL, h i _ (List.getElem?_eq_getElem hlt), firstI]
    by_cases hp : p xs[i] = true
    · rw [if_pos hp, if_pos hp]
    · rw [if_neg hp, if_neg hp]
      exact rangeL_find s p v h m (i + 1) (by omega) (by omega)
theorem rng_find {α σ ρ : Type} {xs : List α} {body : Nat → α → σ → Option (Stp σ ρ)} (s : σ) (p : α → Bool) (v : Nat → ρ) (hl : xs.length ≤ 4611686018427387904)
    (h : ∀ i x, xs[i]? = some x → body i x s = some (if p x = true then .ret (v i) else .nxt s)) :
    rng body xs s = some (match firstI p 0 xs with | some k => .ret (v k) | none => .fin s) := by
  unfold rng
  rw [if_pos hl]
  exact rangeL_find s p v h xs.length 0 (by omega) (by omega)

theorem firstI_some {α : Type} {p : α → Bool} : ∀ {xs : List α} {i k : Nat}, firstI p i xs = some k → i ≤ k ∧ ∃ x, xs[k - i]? = some x ∧ p x = true ∧ ∀ j y, j < k - i → xs[j]? = some y → p y = false
  | [], i, k, h => by simp [firstI] at h
  | x :: r, i, k, h => by
    simp only [firstI] at h
    split at h
    · rename_i hp
      cases h
      exact ⟨Nat.le_refl _, x, by simp, hp, fun j y hj => by omega⟩
    · rename_i hp
      obtain ⟨h1, y, h2, h3, h4⟩ := firstI_some h
      refine ⟨by omega, y, ?_, h3, fun j z hj hz => ?_⟩
      · rw [show k - i = (k - (i + 1)) + 1 by omega]; simpa using h2
      · cases j with
        | zero => simp at hz; subst hz; simpa using hp
        | succ j => exact h4 j z (by omega) (by simpa using hz)
theorem firstI_none {α : Type} {p : α → Bool} : ∀ {xs : List α} {i : Nat}, firstI p i xs = none → ∀ x ∈ xs, p x = false
  | [], _, _, x, hx => by simp at hx
  | y :: r, i, h, x, hx => by
    simp only [firstI] at h
    split at h
    · cases h
    · rename_i hp
      rcases List.mem_cons.1 hx with rfl | hx
      · simpa using hp
      · exact firstI_none h x hx
theorem firstI_of {α : Type} {p : α → Bool} {xs : List α} {k : Nat} {x : α} (h : xs[k]? = some x) (hp : p x = true) (hb : ∀ j y, j < k → xs[j]? = some y → p y = false) : firstI p 0 xs = some k := by
  cases e : firstI p 0 xs with
  | none => have := firstI_none e x (List.mem_of_getElem? h); rw [hp] at this; cases this
  | some m =>
    obtain ⟨_, y, h2, h3, h4⟩ := firstI_some e
    rw [Nat.sub_zero] at h2 h4
    rcases Nat.lt_trichotomy m k with hm | hm | hm
    · have := hb m y hm h2; rw [h3] at this; cases this
    · rw [hm]
    · have := h4 k x hm h; rw [hp] at this; cases this

/-- A loop over numbers that looks into a list is one over the list. -/
theorem rni_rng {α σ ρ : Type} (body : Nat → α → σ → Option (Stp σ ρ)) (xs : List α) (s : σ) : rni (fun i s => xs[i]?.bind fun x => body i x s) xs.length s = rng body xs s := (rng_rni body xs s).symm

theorem whileN_step {σ ρ : Type} {body : σ → Option (Stp σ ρ)} {n : Nat} {s s' : σ} (h : body s = some (.nxt s')) : whileN body (n + 1) s = whileN body n s' := by simp only [whileN, h]
theorem whileN_brk {σ ρ : Type} {body : σ → Option (Stp σ ρ)} {n : Nat} {s s' : σ} (h : body s = some (.brk s')) : whileN body (n + 1) s = some (.fin s') := by simp only [whileN, h]
theorem whileN_ret {σ ρ : Type} {body : σ → Option (Stp σ ρ)} {n : Nat} {s : σ} {v : ρ} (h : body s = some (.ret v)) : whileN body (n + 1) s = some (.ret v) := by simp only [whileN, h]
/-- A loop with something that falls. -/
theorem whileN_of {σ ρ : Type} {body : σ → Option (Stp σ ρ)} (Inv : σ → Prop) (μ : σ → Nat) (res : σ → Out σ ρ)
    (h : ∀ s, Inv s → (∃ s', body s = some (.nxt s') ∧ Inv s' ∧ μ s' < μ s ∧ res s' = res s) ∨ (∃ s', body s = some (.brk s') ∧ res s = .fin s') ∨ (∃ v, body s = some (.ret v) ∧ res s = .ret v)) :
    ∀ (n : Nat) (s : σ), Inv s → μ s < n → whileN body n s = some (res s)
  | 0, s, _, hn => by omega
  | n + 1, s, hi, hn => by
    rcases h s hi with ⟨s', h1, h2, h3, h4⟩ | ⟨s', h1, h2⟩ | ⟨v, h1, h2⟩
    · rw [whileN_step h1, whileN_of Inv μ res h n s' h2 (by omega), h4]
    · rw [whileN_brk h1, h2]
    · rw [whileN_ret h1, h2]

/-! ### halving -/
def bs (c : Nat → Int) (i j : Nat) : Nat :=
  if h : i < j then (if c ((i + j) / 2) < 0 then bs c ((i + j) / 2 + 1) j else bs c i ((i + j) / 2)) else i
termination_by j - i
decreasing_by all_goals omega
theorem bs_eq (c : Nat → Int) (i j : Nat) (h : i < j) : bs c i j = if c ((i + j) / 2) < 0 then bs c ((i + j) / 2 + 1) j else bs c i ((i + j) / 2) := by
  rw [bs]; simp [h]
theorem bs_end (c : Nat → Int) (i j : Nat) (h : ¬ i < j) : bs c i j = i := by rw [bs]; simp [h]
theorem bs_at (c : Nat → Int) (p : Nat) : ∀ (d i j : Nat), j - i = d → i ≤ p → p ≤ j → (∀ k, i ≤ k → k < p → c k < 0) → (∀ k, p ≤ k → k < j → ¬ c k < 0) → bs c i j = p := by
  intro d
  induction d using Nat.strongRecOn with
  | _ d ih =>
    intro i j hd h1 h2 lo hi
    by_cases hlt : i < j
    · rw [bs_eq c i j hlt]
      by_cases hc : c ((i + j) / 2) < 0
      · rw [if_pos hc]
        have : (i + j) / 2 < p := by
          rcases Nat.lt_or_ge ((i + j) / 2) p with h | h
          · exact h
          · exact (hi _ h (by omega) hc).elim
        exact ih (j - ((i + j) / 2 + 1)) (by omega) _ _ rfl (by omega) h2 (fun k a b => lo k (by omega) b) hi
      · rw [if_neg hc]
        have : p ≤ (i + j) / 2 := by
          rcases Nat.lt_or_ge ((i + j) / 2) p with h | h
          · exact (hc (lo _ (by omega) h)).elim
          · exact h
        exact ih ((i + j) / 2 - i) (by omega) _ _ rfl h1 this lo (fun k a b => hi k a (by omega))
    · rw [bs_end _ _ _ hlt]; omega
theorem half_eq {i j : Nat} (h : i ≤ 1048576) (h' : j ≤ 1048576) : I64 (shR .u64 (U64 (I64 ((i : Int) + j))) 1) = ((i + j) / 2 : Nat) := by
  have a : I64 ((i : Int) + j) = i + j := I64_of (by omega)
  have b : U64 ((i : Int) + j) = i + j := U64_of (by omega)
  have d : shR .u64 ((i : Int) + j) 1 = ((i + j) / 2 : Nat) := by
    show ((i : Int) + j).fdiv (2 ^ min (Int.toNat 1) IntKind.u64.bits) = _
    rw [show (2 : Int) ^ min (Int.toNat 1) IntKind.u64.bits = 2 from rfl, Int.fdiv_eq_ediv_of_nonneg _ (by omega)]; omega
  rw [a, b, d, I64_of (by omega)]
end Go.Ab
