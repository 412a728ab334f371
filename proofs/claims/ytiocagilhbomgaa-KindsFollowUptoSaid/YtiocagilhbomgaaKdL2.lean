/- Plain laws of kinds: what instructions name, take, leave; what follows them. -/
import Derived.Test.YtiocagilhbomgaaKdL1
namespace Go.Proofs.Ytiocagilhbomgaa
open Go Go.Ab Go.RowKit
set_option maxRecDepth 20000
set_option linter.unusedVariables false
set_option linter.unusedSimpArgs false

/-! ### loops that may end in more than one way -/
theorem whileN_ex {σ ρ : Type} {body : σ → Option (Stp σ ρ)} (Inv : σ → Prop) (μ : σ → Nat) (Q : Out σ ρ → Prop)
    (h : ∀ s, Inv s → (∃ s', body s = some (.nxt s') ∧ Inv s' ∧ μ s' < μ s) ∨ (∃ s', body s = some (.brk s') ∧ Q (.fin s')) ∨ (∃ v, body s = some (.ret v) ∧ Q (.ret v))) :
    ∀ (n : Nat) (s : σ), Inv s → μ s < n → ∃ o, whileN body n s = some o ∧ Q o
  | 0, s, _, hn => by omega
  | n + 1, s, hi, hn => by
    rcases h s hi with ⟨s', h1, h2, h3⟩ | ⟨s', h1, h2⟩ | ⟨v, h1, h2⟩
    · rw [whileN_step h1]; exact whileN_ex Inv μ Q h n s' h2 (by omega)
    · rw [whileN_brk h1]; exact ⟨_, rfl, h2⟩
    · rw [whileN_ret h1]; exact ⟨_, rfl, h2⟩
theorem rangeL_ex {α σ ρ : Type} {body : Nat → α → σ → Option (Stp σ ρ)} (Inv : Nat → σ → Prop) (Q : Out σ ρ → Prop) : ∀ (xs : List α) (k : Nat) (s : σ), Inv k s →
    (∀ i x s, xs[i]? = some x → Inv (k + i) s → (∃ s', body (k + i) x s = some (.nxt s') ∧ Inv (k + i + 1) s') ∨ ∃ v, body (k + i) x s = some (.ret v) ∧ Q (.ret v)) →
    (∀ s, Inv (k + xs.length) s → Q (.fin s)) → ∃ o, rangeL body xs k s = some o ∧ Q o
  | [], k, s, hi, h, hQ => ⟨_, rfl, hQ s (by simpa using hi)⟩
  | x :: r, k, s, hi, h, hQ => by
    rcases h 0 x s rfl (by simpa using hi) with ⟨s', e1, e2⟩ | ⟨v, e1, e2⟩
    · simp only [Nat.add_zero] at e1 e2
      simp only [rangeL, e1]
      refine rangeL_ex Inv Q r (k + 1) s' e2 (fun i y s hy hs => ?_) (fun s hs => hQ s (by rw [List.length_cons]; rwa [show k + (r.length + 1) = k + 1 + r.length by omega]))
      have := h (i + 1) y s (by simpa using hy) (by rwa [show k + (i + 1) = k + 1 + i by omega])
      rwa [show k + (i + 1) = k + 1 + i by omega] at this
    · simp only [Nat.add_zero] at e1
      simp only [rangeL, e1]
      exact ⟨_, rfl, e2⟩
theorem rng_ex {α σ ρ : Type} {body : Nat → α → σ → Option (Stp σ ρ)} {xs : List α} {s0 : σ} (Inv : Nat → σ → Prop) (Q : Out σ ρ → Prop) (hl : xs.length ≤ 4611686018427387904) (h0 : Inv 0 s0)
    (h : ∀ i x s, xs[i]? = some x → Inv i s → (∃ s', body i x s = some (.nxt s') ∧ Inv (i + 1) s') ∨ ∃ v, body i x s = some (.ret v) ∧ Q (.ret v)) (hQ : ∀ s, Inv xs.length s → Q (.fin s)) : ∃ o, rng body xs s0 = some o ∧ Q o := by
  unfold rng
  rw [if_pos hl]
  exact rangeL_ex Inv Q xs 0 s0 h0 (fun i x s hx hs => by simpa using h i x s hx (by simpa using hs)) (fun s hs => hQ s (by simpa using hs))
theorem rangeN_ex {σ ρ : Type} {body : Nat → σ → Option (Stp σ ρ)} (Inv : Nat → σ → Prop) (Q : Out σ ρ → Prop) : ∀ (n k : Nat) (s : σ), Inv k s →
    (∀ i s, k ≤ i → i < k + n → Inv i s → (∃ s', body i s = some (.nxt s') ∧ Inv (i + 1) s') ∨ ∃ v, body i s = some (.ret v) ∧ Q (.ret v)) →
    (∀ s, Inv (k + n) s → Q (.fin s)) → ∃ o, rangeN body n k s = some o ∧ Q o
  | 0, k, s, hi, h, hQ => ⟨_, rfl, hQ s hi⟩
  | n + 1, k, s, hi, h, hQ => by
    rcases h k s (by omega) (by omega) hi with ⟨s', e1, e2⟩ | ⟨v, e1, e2⟩
    · simp only [rangeN, e1]
      exact rangeN_ex Inv Q n (k + 1) s' e2 (fun i s a b c => h i s (by omega) (by omega) c) (fun s hs => hQ s (by rwa [show k + (n + 1) = k + 1 + n by omega]))
    · simp only [rangeN, e1]
      exact ⟨_, rfl, e2⟩
theorem rni_ex {σ ρ : Type} {body : Nat → σ → Option (Stp σ ρ)} {n : Int} {s0 : σ} (Inv : Nat → σ → Prop) (Q : Out σ ρ → Prop) (hn : n ≤ 4611686018427387904) (h0 : Inv 0 s0)
    (h : ∀ (i : Nat) s, (i : Int) < n → Inv i s → (∃ s', body i s = some (.nxt s') ∧ Inv (i + 1) s') ∨ ∃ v, body i s = some (.ret v) ∧ Q (.ret v)) (hQ : ∀ s, Inv n.toNat s → Q (.fin s)) : ∃ o, rni body n s0 = some o ∧ Q o := by
  unfold rni
  rw [if_pos hn]
  exact rangeN_ex Inv Q n.toNat 0 s0 h0 (fun i s _ hi hs => h i s (by omega) hs) (fun s hs => hQ s (by simpa using hs))

/-! ### names -/
def nameP (p : Program) (f : Func) (i : Instr) : Bool :=
  if i.Op = 2 ∨ i.Op = 3 then decide (i.Arg < f.Locals.length)
  else if i.Op = 4 then decide (i.Arg < f.Locals.length ∧ f.Locals[i.Arg.toNat]? = some 0)
  else if i.Op = 23 ∨ i.Op = 25 then decide (i.Arg < p.Funcs.length)
  else if i.Op = 21 ∨ i.Op = 22 then decide (i.Arg < f.Code.length) else true
theorem names_eq (p : Program) (f : Func) (i : Instr) (ha : 0 ≤ i.Arg) : kinds_names_s p f i = some (nameP p f i) := by
  unfold kinds_names_s nameP
  simp only [jp]
  by_cases h2 : i.Op = 2
  · simp [h2]
  by_cases h3 : i.Op = 3
  · simp [h3]
  by_cases h4 : i.Op = 4
  · simp only [h4]
    simp
    by_cases h : i.Arg < f.Locals.length
    · rw [if_pos h, getI_lt ha (by omega)]
      simp [h, List.getElem?_eq_getElem (show i.Arg.toNat < f.Locals.length by omega)]
      rfl
    · rw [if_neg h]; simp [h]
  by_cases h5 : i.Op = 23
  · simp [h5]
  by_cases h6 : i.Op = 25
  · simp [h6]
  by_cases h7 : i.Op = 21
  · simp [h7]
  by_cases h8 : i.Op = 22
  · simp [h8]
  simp [h2, h3, h4, h5, h6, h7, h8]

def codeP (p : Program) (f : Func) (i : Instr) : Bool := nameP p f i && !(decide (i.Op = 25) && (f.Result && decide (f.Keep < 0)))
def keepP (f : Func) : Bool := decide (f.Code.length ≠ 0 ∧ f.Keep < f.Locals.length) && (decide (f.Keep < 0) || decide (f.Locals[f.Keep.toNat]? = some 0))
def headP (p : Program) (f : Func) : Bool := keepP f && f.Code.all (codeP p f)
theorem instr_arg {i : Instr} (h : instrP i = true) : 0 ≤ i.Arg ∧ i.Arg ≤ 65535 ∧ 0 ≤ widthI i.Op := by
  unfold instrP at h
  simp only [Bool.and_eq_true, decide_eq_true_eq] at h
  obtain ⟨h1, h2⟩ := h
  split at h2
  · simp at h2; omega
  · rename_i h8
    simp only [decide_eq_true_eq] at h2
    obtain ⟨_, h3, h4⟩ := h2
    have hw := width_cases i.Op
    have : (256 : Int) ^ (widthI i.Op).toNat ≤ 65536 := by
      rcases hw with e | e | e | e | e <;> rw [e] at h1 h8 ⊢ <;> first | omega | decide
    omega
theorem funcP_code {f : Func} (h : funcP f = true) : ∀ i ∈ f.Code, instrP i = true := by
  unfold funcP at h
  simp only [Bool.and_eq_true, decide_eq_true_eq, List.all_eq_true] at h
  exact h.2.2
theorem head_eq (p : Program) (f : Func) (hf : funcP f = true) (hp : p.Funcs.length ≤ 1048576) : kinds_head_s p f = some (headP p f) := by
  have hc := funcP_code hf
  have hd : f.Code.length ≤ 65535 := by
    unfold funcP at hf
    simp only [Bool.and_eq_true, decide_eq_true_eq] at hf
    omega
  unfold kinds_head_s headP
  simp only [jp]
  have L := rng_inv (σ := Unit) (ρ := Option Bool) (xs := f.Code) (s0 := ()) (codeP p f) (some false) (fun _ _ => True)
    (body := fun (i_5 : Nat) (i_6 : Instr) (s_4 : Unit) => (((kinds_names_s p f i_6).bind fun nam_10 => (if (!nam_10) then (if true = true then (some (.ret (some false))) else (some (.nxt ()))) else (if (i_6.Op == 25) then (if f.Result then (if (decide (f.Keep < 0)) = true then (some (.ret (some false))) else (some (.nxt ()))) else (if false = true then (some (.ret (some false))) else (some (.nxt ())))) else (if false = true then (some (.ret (some false))) else (some (.nxt ())))))) : Option (Stp Unit (Option Bool)))) (by omega) trivial (fun i x s hx _ => by
      have hm := List.mem_of_getElem? hx
      rw [names_eq p f x (instr_arg (hc x hm)).1]
      unfold codeP
      cases nameP p f x with
      | false => rfl
      | true =>
        simp only [Option.bind_some, Bool.not_true, Bool.false_eq_true, if_false, Bool.true_and]
        by_cases h25 : x.Op = 25
        · simp only [h25, beq_self_eq_true, if_true, decide_true, Bool.true_and]
          cases f.Result with
          | false => exact ⟨(), rfl, trivial⟩
          | true =>
            simp only [if_true, Bool.true_and]
            cases decide (f.Keep < 0) with
            | false => exact ⟨(), rfl, trivial⟩
            | true => rfl
        · have : (x.Op == 25) = false := by simpa using h25
          simp only [this, Bool.false_eq_true, if_false, decide_eq_false h25, Bool.false_and, Bool.not_false, if_true]
          exact ⟨(), by simp, trivial⟩)
  have key : ((rng (fun (i_5 : Nat) (i_6 : Instr) (s_4 : Unit) => (((kinds_names_s p f i_6).bind fun nam_10 => (if (!nam_10) then (if true = true then (some (.ret (some false))) else (some (.nxt ()))) else (if (i_6.Op == 25) then (if f.Result then (if (decide (f.Keep < 0)) = true then (some (.ret (some false))) else (some (.nxt ()))) else (if false = true then (some (.ret (some false))) else (some (.nxt ())))) else (if false = true then (some (.ret (some false))) else (some (.nxt ())))))) : Option (Stp Unit (Option Bool)))) f.Code ()).bind (oc (fun (s_4 : Unit) => (some true)))) = some (f.Code.all (codeP p f)) := by
    cases e : f.Code.all (codeP p f) with
    | false =>
      rw [e] at L
      simp only [Bool.false_eq_true, if_false] at L ⊢
      rw [L]; rfl
    | true =>
      rw [e] at L
      simp only [if_true] at L ⊢
      obtain ⟨s, a, _⟩ := L
      rw [a]; rfl
  unfold keepP
  by_cases h1 : f.Code.length = 0
  · simp [h1]
  have h1' : ((f.Code.length : Int) == 0) = false := by simpa using h1
  by_cases h2 : f.Keep ≥ f.Locals.length
  · have : ¬ (f.Keep < f.Locals.length) := by omega
    simp only [h1', Bool.false_eq_true, if_false, decide_eq_true h2, if_true]
    simp [this]
  have h2' : f.Keep < f.Locals.length := by omega
  simp only [h1', Bool.false_eq_true, if_false, decide_eq_false h2, decide_eq_true (show f.Code.length ≠ 0 ∧ f.Keep < f.Locals.length from ⟨h1, h2'⟩), Bool.true_and]
  by_cases h3 : f.Keep ≥ 0
  · have h3' : ¬ f.Keep < 0 := by omega
    simp only [decide_eq_true h3, if_true, decide_eq_false h3', Bool.false_or]
    rw [getI_lt h3 (by omega), List.getElem?_eq_getElem (show f.Keep.toNat < f.Locals.length by omega)]
    simp only [Option.bind_some]
    by_cases h4 : f.Locals[f.Keep.toNat] = 0
    · simp only [h4, bne_self_eq_false, Bool.false_eq_true, if_false, decide_true, Bool.true_and]
      simp only [decide_eq_false h3', Bool.false_eq_true, if_false] at key ⊢
      exact key
    · have : (f.Locals[f.Keep.toNat] != 0) = true := by simpa using h4
      simp [this, h4]
  · have h3' : f.Keep < 0 := by omega
    simp only [decide_eq_false h3, Bool.false_eq_true, if_false, decide_eq_true h3', Bool.true_or, Bool.true_and]
    simp only [decide_eq_true h3', Bool.false_eq_true, if_false] at key ⊢
    exact key

/-! ### what follows -/
def folL (i : Instr) (a : Nat) : List Int := if i.Op = 21 then [i.Arg] else if i.Op = 22 then [(a : Int) + 1, i.Arg] else if i.Op = 24 ∨ i.Op = 26 ∨ i.Op = 30 then [] else [(a : Int) + 1]
theorem follow_eq (i : Instr) (a : Nat) (ha : a ≤ 1048576) : kinds_follow_s i a = some (folL i a) := by
  unfold kinds_follow_s folL
  simp only [jp]
  rw [I64_of (x := (a : Int) + 1) (by omega)]
  by_cases h1 : i.Op = 21
  · simp [h1]
  by_cases h2 : i.Op = 22
  · simp [h2]
  by_cases h3 : i.Op = 24
  · simp [h3]
  by_cases h4 : i.Op = 26
  · simp [h4]
  by_cases h5 : i.Op = 30
  · simp [h5]
  simp [h1, h2, h3, h4, h5]
theorem folL_le (i : Instr) (a : Nat) : (folL i a).length ≤ 2 := by
  unfold folL
  split
  · simp
  · split
    · simp
    · split <;> simp

/-! ### equal lists -/
theorem rangeN_same {σ ρ : Type} {a b : List Int} {body : Nat → σ → Option (Stp σ ρ)} (s : σ) (v : ρ) (hl : a.length = b.length)
    (h : ∀ (i : Nat) (h1 : i < a.length) (h2 : i < b.length), body i s = some (if a[i] = b[i] then .nxt s else .ret v)) :
    ∀ (m k : Nat), k + m = a.length → rangeN body m k s = some (if a.drop k = b.drop k then .fin s else .ret v)
  | 0, k, hk => by
    rw [List.drop_eq_nil_of_le (by omega), List.drop_eq_nil_of_le (by omega)]; rfl
  | m + 1, k, hk => by
    have h1 : k < a.length := by omega
    have h2 : k < b.length := by omega
    have key : a.drop k = b.drop k ↔ a[k] = b[k] ∧ a.drop (k + 1) = b.drop (k + 1) := by
      rw [List.drop_eq_getElem_cons h1, List.drop_eq_getElem_cons h2, List.cons.injEq]
    simp only [rangeN, h k h1 h2]
    by_cases e : a[k] = b[k]
    · rw [if_pos e]
      simp only
      rw [rangeN_same s v hl h m (k + 1) (by omega)]
      by_cases e2 : a.drop (k + 1) = b.drop (k + 1)
      · rw [if_pos e2, if_pos (key.2 ⟨e, e2⟩)]
      · rw [if_neg e2, if_neg (fun hh => e2 (key.1 hh).2)]
    · rw [if_neg e, if_neg (fun hh => e (key.1 hh).1)]
theorem Equal_r_eq (a b : List Int) (ha : a.length ≤ 1000000) : slices_Equal_r_s a b = some (decide (a = b)) := by
  unfold slices_Equal_r_s
  by_cases hl : a.length = b.length
  · have e : ((a.length : Int) != b.length) = false := by simp [hl]
    simp only [e, Bool.false_eq_true, if_false, rni]
    rw [if_pos (by omega), show ((a.length : Int)).toNat = a.length by omega]
    rw [rangeN_same (a := a) (b := b) () (some false) hl (fun i h1 h2 => ?_) a.length 0 (by omega)]
    · simp only [List.drop_zero, Option.bind_some]
      by_cases e : a = b
      · rw [if_pos e, decide_eq_true e]; rfl
      · rw [if_neg e, decide_eq_false e]; rfl
    · rw [getI_nat, getI_nat, List.getElem?_eq_getElem h1, List.getElem?_eq_getElem h2]
      simp only [Option.bind_some]
      by_cases e : a[i] = b[i]
      · rw [if_pos e]; simp [e]
      · rw [if_neg e]; simp [e]
  · have e : ((a.length : Int) != b.length) = true := by simp; omega
    rw [if_pos e, decide_eq_false (fun h => hl (by rw [h]))]
theorem Equal_eq (a b : List Int) (ha : a.length ≤ 1000000) : slices_Equal_s a b = some (decide (a = b)) := by
  unfold slices_Equal_s
  by_cases hl : a.length = b.length
  · have e : ((a.length : Int) != b.length) = false := by simp [hl]
    simp only [e, Bool.false_eq_true, if_false, rni]
    rw [if_pos (by omega), show ((a.length : Int)).toNat = a.length by omega]
    rw [rangeN_same (a := a) (b := b) b (some false) hl (fun i h1 h2 => ?_) a.length 0 (by omega)]
    · simp only [List.drop_zero, Option.bind_some]
      by_cases e : a = b
      · rw [if_pos e, decide_eq_true e]; rfl
      · rw [if_neg e, decide_eq_false e]; rfl
    · rw [getI_nat, getI_nat, List.getElem?_eq_getElem h1, List.getElem?_eq_getElem h2]
      simp only [Option.bind_some]
      by_cases e : a[i] = b[i]
      · rw [if_pos e]; simp [e]
      · rw [if_neg e]; simp [e]
  · have e : ((a.length : Int) != b.length) = true := by simp; omega
    rw [if_pos e, decide_eq_false (fun h => hl (by rw [h]))]
end Go.Proofs.Ytiocagilhbomgaa
