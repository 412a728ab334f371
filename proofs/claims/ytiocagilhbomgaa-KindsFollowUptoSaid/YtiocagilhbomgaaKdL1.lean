/- Plain laws of kinds: loops; which programs have bytes. -/
import Derived.Test.YtiocagilhbomgaaKdR
import Derived.Test.YtiocagilhbomgaaWlP1
namespace Go.Proofs.Ytiocagilhbomgaa
open Go Go.Ab Go.RowKit
set_option maxRecDepth 20000
set_option linter.unusedVariables false
set_option linter.unusedSimpArgs false

theorem rangeL_inv {α σ ρ : Type} {body : Nat → α → σ → Option (Stp σ ρ)} (ok : α → Bool) (v : ρ) (Inv : Nat → σ → Prop) : ∀ (xs : List α) (k : Nat) (s : σ), Inv k s →
    (∀ i x s, xs[i]? = some x → Inv (k + i) s → if ok x = true then ∃ s', body (k + i) x s = some (.nxt s') ∧ Inv (k + i + 1) s' else body (k + i) x s = some (.ret v)) →
    if xs.all ok = true then ∃ s', rangeL body xs k s = some (.fin s') ∧ Inv (k + xs.length) s' else rangeL body xs k s = some (.ret v)
  | [], k, s, hi, h => by simp only [List.all_nil, if_true, rangeL]; exact ⟨s, rfl, by simpa using hi⟩
  | x :: r, k, s, hi, h => by
    have h0 := h 0 x s rfl hi
    cases hx : ok x with
    | false =>
      rw [hx] at h0
      simp only [Nat.add_zero, Bool.false_eq_true, if_false] at h0
      simp only [List.all_cons, hx, Bool.false_and, Bool.false_eq_true, if_false, rangeL, h0]
    | true =>
      rw [hx] at h0
      simp only [Nat.add_zero, if_true] at h0
      obtain ⟨s', e1, e2⟩ := h0
      have := rangeL_inv ok v Inv r (k + 1) s' e2 (fun i y s hy hs => by
        have := h (i + 1) y s (by simpa using hy) (by rwa [show k + (i + 1) = k + 1 + i by omega])
        rwa [show k + (i + 1) = k + 1 + i by omega] at this)
      simp only [List.all_cons, hx, Bool.true_and, rangeL, e1, List.length_cons]
      rw [show k + (r.length + 1) = k + 1 + r.length by omega]
      exact this
theorem rng_inv {α σ ρ : Type} {body : Nat → α → σ → Option (Stp σ ρ)} {xs : List α} {s0 : σ} (ok : α → Bool) (v : ρ) (Inv : Nat → σ → Prop) (hl : xs.length ≤ 4611686018427387904) (h0 : Inv 0 s0)
    (h : ∀ i x s, xs[i]? = some x → Inv i s → if ok x = true then ∃ s', body i x s = some (.nxt s') ∧ Inv (i + 1) s' else body i x s = some (.ret v)) :
    if xs.all ok = true then ∃ s', rng body xs s0 = some (.fin s') ∧ Inv xs.length s' else rng body xs s0 = some (.ret v) := by
  unfold rng
  rw [if_pos hl]
  have := rangeL_inv ok v Inv xs 0 s0 h0 (fun i x s hx hs => by simpa using h i x s hx (by simpa using hs))
  simpa using this
theorem rangeN_inv {σ ρ : Type} {body : Nat → σ → Option (Stp σ ρ)} (Inv : Nat → σ → Prop) : ∀ (n k : Nat) (s : σ), Inv k s →
    (∀ i s, k ≤ i → i < k + n → Inv i s → ∃ s', body i s = some (.nxt s') ∧ Inv (i + 1) s') → ∃ s', rangeN body n k s = some (.fin s') ∧ Inv (k + n) s'
  | 0, k, s, hi, h => ⟨s, rfl, hi⟩
  | n + 1, k, s, hi, h => by
    obtain ⟨s', e1, e2⟩ := h k s (by omega) (by omega) hi
    obtain ⟨s2, e3, e4⟩ := rangeN_inv Inv n (k + 1) s' e2 (fun i s a b c => h i s (by omega) (by omega) c)
    exact ⟨s2, by simp only [rangeN, e1, e3], by rwa [show k + (n + 1) = k + 1 + n by omega]⟩
theorem rni_inv {σ ρ : Type} {body : Nat → σ → Option (Stp σ ρ)} {n : Int} {s0 : σ} (Inv : Nat → σ → Prop) (hn : n ≤ 4611686018427387904) (h0 : Inv 0 s0)
    (h : ∀ (i : Nat) s, (i : Int) < n → Inv i s → ∃ s', body i s = some (.nxt s') ∧ Inv (i + 1) s') : ∃ s', rni body n s0 = some (.fin s') ∧ Inv n.toNat s' := by
  unfold rni
  rw [if_pos hn]
  obtain ⟨s', a, b⟩ := rangeN_inv (body := body) Inv n.toNat 0 s0 h0 (fun i s _ hi hs => h i s (by omega) hs)
  exact ⟨s', a, by simpa using b⟩
theorem appL_of {α : Type} {b : Nat} {l m : List α} (h : (l.length + m.length) * b ≤ 140737488355328 ∧ l.length + m.length ≤ 140737488355328) : appL b l m = some (l ++ m) := if_pos h
theorem appL1 {l m : List Int} (h : l.length + m.length ≤ 140737488355328) : appL 1 l m = some (l ++ m) := appL_of (by omega)

/-! ### bytes -/
def widthI (op : Int) : Int := if op = 1 then 8 else if op = 2 ∨ op = 3 ∨ op = 4 ∨ op = 23 ∨ op = 25 then 1 else if op = 21 ∨ op = 22 then 2 else if op < 1 ∨ op > 32 then -1 else 0
theorem width_eq (op : Int) : code_width_s op = some (widthI op) := by
  unfold code_width_s widthI
  simp only [jp, beq_iff_eq, decide_eq_true_eq]
  by_cases h1 : op = 1
  · simp [h1]
  by_cases h2 : op = 2
  · simp [h2]
  by_cases h3 : op = 3
  · simp [h3]
  by_cases h4 : op = 4
  · simp [h4]
  by_cases h5 : op = 23
  · simp [h5]
  by_cases h6 : op = 25
  · simp [h6]
  by_cases h7 : op = 21
  · simp [h7]
  by_cases h8 : op = 22
  · simp [h8]
  by_cases h9 : op < 1
  · simp [h1, h2, h3, h4, h5, h6, h7, h8, h9]
  by_cases h10 : op > 32 <;> simp [h1, h2, h3, h4, h5, h6, h7, h8, h9, h10]
theorem width_cases (op : Int) : widthI op = -1 ∨ widthI op = 0 ∨ widthI op = 1 ∨ widthI op = 2 ∨ widthI op = 8 := by
  unfold widthI
  split
  · simp
  · split
    · simp
    · split
      · simp
      · split <;> simp
/-- Which instructions have bytes. -/
def instrP (i : Instr) : Bool := decide (0 ≤ widthI i.Op) && (if widthI i.Op = 8 then decide (i.Arg = 0) else decide (i.Imm = 0 ∧ 0 ≤ i.Arg ∧ i.Arg < 256 ^ (widthI i.Op).toNat))

theorem put_len (b : List Int) (v n : Int) (hb : b.length ≤ 1000000000) (hn : 0 ≤ n ∧ n ≤ 8) : ∃ l, code_put_r_s b v n = some l ∧ l.length = b.length + n.toNat := by
  unfold code_put_r_s
  obtain ⟨s', e1, e2⟩ := rni_inv (σ := Int × List Int) (ρ := Option (List Int)) (n := n) (s0 := (v, b)) (body := fun (i_2 : Nat) (s_1 : (Int × (List Int))) => ((gd (0 ≤ (U64 (I64 (8 * (i_2 : Int))))) ((appL 1 s_1.2 [(U8 (shR .u64 s_1.1 (U64 (I64 (8 * (i_2 : Int))))))]).bind fun l_4 => (some (.nxt (s_1.1, l_4))))) : Option (Stp (Int × (List Int)) (Option (List Int)))))
    (fun i s => s.2.length = b.length + i) (by omega) (by simp) (fun i s hi hs => by
      have e : U64 (I64 (8 * (i : Int))) = 8 * i := by rw [I64_of (by omega), U64_of (by omega)]
      rw [e, gd_true (by omega), appL1 (by simp <;> omega)]
      exact ⟨_, rfl, by simp [hs]; omega⟩)
  rw [e1]
  exact ⟨s'.2, rfl, e2⟩

theorem instruction_eq (b : List Int) (i : Instr) (hb : b.length ≤ 900000000) : ∃ l, code_instruction_r_s b i = some (instrP i, l) ∧ l.length ≤ b.length + 9 := by
  unfold code_instruction_r_s
  rw [width_eq]
  simp only [Option.bind_some, jp]
  have hw := width_cases i.Op
  unfold instrP
  generalize widthI i.Op = w at hw ⊢
  by_cases h0 : w < 0
  · have : ¬ 0 ≤ w := by omega
    simp [h0, this]
  have h0' : 0 ≤ w := by omega
  have hd0 : decide (w < 0) = false := by simpa using h0'
  simp only [hd0, Bool.false_eq_true, if_false]
  by_cases h8 : w = 8
  · subst h8
    simp only [bne_self_eq_false, beq_self_eq_true, Bool.false_eq_true, if_false, if_true]
    rw [appL1 (by simp <;> omega)]
    simp only [Option.bind_some]
    obtain ⟨l, e1, e2⟩ := put_len (b ++ [i.Op]) i.Imm 8 (by simp <;> omega) (by omega)
    rw [e1]
    refine ⟨l, ?_, by rw [e2]; simp⟩
    simp
    by_cases ha : i.Arg = 0 <;> simp [ha]
  · have e8 : (w != 8) = true := by simpa using h8
    have e8' : (w == 8) = false := by simpa using h8
    rw [if_pos e8]
    by_cases hi : i.Imm = 0
    · have : (i.Imm != 0) = false := by simp [hi]
      rw [this]
      simp only [Bool.false_eq_true, if_false]
      rw [appL1 (by simp <;> omega)]
      simp only [Option.bind_some, e8', Bool.false_eq_true, if_false]
      obtain ⟨l, e1, e2⟩ := put_len (b ++ [i.Op]) (U64 i.Arg) w (by simp <;> omega) (by omega)
      rw [e1]
      simp only [Option.bind_some]
      by_cases ha : i.Arg ≥ 0
      · rw [if_pos (by simpa using ha), gd_true (by rw [I64_of (by omega), U64_of (by omega)]; omega)]
        refine ⟨l, ?_, by rw [e2]; simp; omega⟩
        have : shL .i64 1 (U64 (I64 (8 * w))) = 256 ^ w.toNat := by
          rw [I64_of (by omega), U64_of (by omega)]
          rcases hw with h | h | h | h | h <;> first | omega | (subst h; rfl)
        rw [this]
        simp [h0', h8, hi]
        by_cases hb2 : i.Arg < 256 ^ w.toNat <;> simp [hb2] <;> omega
      · rw [if_neg (by simpa using ha)]
        refine ⟨l, ?_, by rw [e2]; simp; omega⟩
        simp [h8]
        intro _ _ h; omega
    · have : (i.Imm != 0) = true := by simpa using hi
      rw [this]
      simp only [if_true]
      refine ⟨[], ?_, by simp⟩
      simp [h8, hi]

/-- Which functions have bytes. -/
def funcP (f : Func) : Bool := decide (0 ≤ f.Params ∧ f.Params ≤ f.Locals.length ∧ f.Locals.length ≤ 255 ∧ -1 ≤ f.Keep ∧ f.Keep ≤ 254 ∧ f.Code.length ≤ 65535) && (f.Locals.all (fun k => decide (k ≤ 1)) && f.Code.all instrP)
theorem function_eq (b : List Int) (f : Func) (hb : b.length ≤ 800000000) : ∃ l, code_function_r_s b f = some (funcP f, l) ∧ (funcP f = true → l.length ≤ b.length + 600000) := by
  unfold code_function_r_s
  simp only [jp]
  by_cases hc : 0 ≤ f.Params ∧ f.Params ≤ f.Locals.length ∧ f.Locals.length ≤ 255 ∧ -1 ≤ f.Keep ∧ f.Keep ≤ 254 ∧ f.Code.length ≤ 65535
  case neg =>
    have hf : funcP f = false := by unfold funcP; rw [decide_eq_false hc]; rfl
    refine ⟨[], ?_, by rw [hf]; simp⟩
    rw [hf]
    by_cases h1 : f.Params < 0
    · simp [h1]
    by_cases h2 : f.Params > f.Locals.length
    · simp [h1, h2]
    by_cases h3 : (f.Locals.length : Int) > 255
    · simp [h1, h2, h3]
    by_cases h4 : f.Keep < -1
    · simp [h1, h2, h3, h4]
    by_cases h5 : f.Keep > 254
    · simp [h1, h2, h3, h4, h5]
    by_cases h6 : (f.Code.length : Int) > 65535
    · simp [h1, h2, h3, h4, h5, h6]
    · omega
  obtain ⟨c1, c2, c3, c4, c5, c6⟩ := hc
  have n1 : ¬ f.Params < 0 := by omega
  have n2 : ¬ f.Params > f.Locals.length := by omega
  have n3 : ¬ (f.Locals.length : Int) > 255 := by omega
  have n4 : ¬ f.Keep < -1 := by omega
  have n5 : ¬ f.Keep > 254 := by omega
  have n6 : ¬ (f.Code.length : Int) > 65535 := by omega
  simp only [n1, n2, n3, n4, n5, n6, decide_false, Bool.false_eq_true, if_false]
  rw [appL1 (by simp <;> omega)]
  simp only [Option.bind_some]
  have hf : funcP f = (f.Locals.all (fun k => decide (k ≤ 1)) && f.Code.all instrP) := by
    unfold funcP; rw [decide_eq_true (by omega)]; rfl
  have L1 := rng_inv (σ := List Int) (ρ := Option (Bool × List Int)) (xs := f.Locals) (s0 := b ++ [U8 f.Params, U8 f.Locals.length]) (fun k => decide (k ≤ 1)) (some (false, []))
    (fun i s => s.length = b.length + 2 + i) (body := fun (i_5 : Nat) (k_6 : Int) (s_4 : (List Int)) => ((if (decide (k_6 > 1)) then (some (.ret (some (false, [])))) else ((appL 1 s_4 [k_6]).bind fun l_8 => (some (.nxt l_8)))) : Option (Stp (List Int) (Option (Bool × (List Int)))))) (by omega) (by simp) (fun i x s hx hs => by
      have hi := (List.getElem?_eq_some_iff.1 hx).1
      by_cases h : x ≤ 1
      · rw [if_pos (by simpa using h), if_neg (by simpa using h), appL1 (by simp <;> omega)]
        exact ⟨_, rfl, by simp <;> omega⟩
      · rw [if_neg (by simpa using h), if_pos (by simpa using h)])
  cases hl : f.Locals.all (fun k => decide (k ≤ 1)) with
  | false =>
    rw [hl] at L1
    simp only [Bool.false_eq_true, if_false] at L1
    rw [L1]
    exact ⟨[], by rw [hf, hl]; rfl, by rw [hf, hl]; simp⟩
  | true =>
    rw [hl] at L1
    simp only [if_true] at L1
    obtain ⟨s1, e1, e2⟩ := L1
    rw [e1]
    simp only [Option.bind_some, oc]
    have key : ∀ (r : Int), ∃ l, ((appL 1 s1 [r, (U8 f.Keep)]).bind fun l_11 => ((code_put_r_s l_11 (U64 (List.length f.Code : Int)) 2).bind fun (put_12 : (List Int)) => ((rng (fun (i_14 : Nat) (i_15 : Instr) (s_13 : (List Int)) => (((code_instruction_r_s s_13 i_15).bind fun (ins_17 : (Bool × (List Int))) => (if (!ins_17.1) then (some (.ret (some (false, [])))) else (some (.nxt ins_17.2)))) : Option (Stp (List Int) (Option (Bool × (List Int)))))) f.Code put_12).bind (oc (fun (s_13 : (List Int)) => (some (true, s_13))))))) = some (funcP f, l) ∧ (funcP f = true → l.length ≤ b.length + 600000) := by
      intro r
      rw [appL1 (by simp <;> omega)]
      simp only [Option.bind_some]
      obtain ⟨l2, e3, e4⟩ := put_len (s1 ++ [r, U8 f.Keep]) (U64 f.Code.length) 2 (by simp <;> omega) (by omega)
      rw [e3]
      simp only [Option.bind_some]
      have L2 := rng_inv (σ := List Int) (ρ := Option (Bool × List Int)) (xs := f.Code) (s0 := l2) instrP (some (false, [])) (fun i s => s.length ≤ b.length + 300 + 9 * i)
        (body := fun (i_14 : Nat) (i_15 : Instr) (s_13 : (List Int)) => (((code_instruction_r_s s_13 i_15).bind fun (ins_17 : (Bool × (List Int))) => (if (!ins_17.1) then (some (.ret (some (false, [])))) else (some (.nxt ins_17.2)))) : Option (Stp (List Int) (Option (Bool × (List Int)))))) (by omega) (by rw [e4]; simp; omega) (fun i x s hx hs => by
          have hi := (List.getElem?_eq_some_iff.1 hx).1
          obtain ⟨l, a, c⟩ := instruction_eq s x (by omega)
          rw [a]
          cases instrP x with
          | false => rfl
          | true => exact ⟨l, rfl, by omega⟩)
      cases hc : f.Code.all instrP with
      | false =>
        rw [hc] at L2
        simp only [Bool.false_eq_true, if_false] at L2
        rw [L2]
        exact ⟨[], by rw [hf, hl, hc]; rfl, by rw [hf, hl, hc]; simp⟩
      | true =>
        rw [hc] at L2
        simp only [if_true] at L2
        obtain ⟨s3, a, c⟩ := L2
        rw [a]
        exact ⟨s3, by rw [hf, hl, hc]; rfl, fun _ => by omega⟩
    cases f.Result with
    | false => exact key 0
    | true => exact key 1

theorem big_aux {a s i C : Nat} (h : a ≤ s + C) (k : s ≤ 3 + C * i) : a ≤ 3 + C * (i + 1) := by
  rw [Nat.mul_add, Nat.mul_one]
  generalize C * i = q at k ⊢
  omega
/-- Which programs have bytes. -/
def encP (p : Program) : Bool := decide (1 ≤ p.Funcs.length ∧ p.Funcs.length ≤ 255) && p.Funcs.all funcP
theorem Encode_eq (p : Program) : ∃ l, code_Encode_s p = some (l, if encP p = true then 0 else 30) := by
  unfold code_Encode_s
  simp only [jp]
  by_cases hc : 1 ≤ p.Funcs.length ∧ p.Funcs.length ≤ 255
  case neg =>
    have : encP p = false := by unfold encP; rw [decide_eq_false hc]; rfl
    rw [this]
    refine ⟨[], ?_⟩
    by_cases h1 : p.Funcs.length = 0
    · simp [h1]
    · have h2 : (p.Funcs.length : Int) > 255 := by omega
      have h1' : ((p.Funcs.length : Int) == 0) = false := by simpa using h1
      simp [h1', h2]
  have h1' : ((p.Funcs.length : Int) == 0) = false := by simp; intro h; simp [h] at hc
  have h2 : ¬ (p.Funcs.length : Int) > 255 := by omega
  simp only [h1', h2, decide_false, Bool.false_eq_true, if_false]
  have L := rng_inv (σ := List Int) (ρ := Option (List Int × Int)) (xs := p.Funcs) (s0 := [87, 76, U8 p.Funcs.length]) funcP (some ([], 30)) (fun i s => s.length ≤ 3 + 600000 * i)
    (body := fun (i_4 : Nat) (f_5 : Func) (s_3 : (List Int)) => (((code_function_r_s s_3 f_5).bind fun (vfun_7 : (Bool × (List Int))) => (if (!vfun_7.1) then (some (.ret (some ([], 30)))) else (some (.nxt vfun_7.2)))) : Option (Stp (List Int) (Option ((List Int) × Int))))) (by omega) (by simp) (fun i x s hx hs => by
      have hi := (List.getElem?_eq_some_iff.1 hx).1
      obtain ⟨l, a, c⟩ := function_eq s x (by omega)
      rw [a]
      cases e : funcP x with
      | false => rfl
      | true => exact ⟨l, rfl, big_aux (c e) hs⟩)
  have he : encP p = p.Funcs.all funcP := by unfold encP; rw [decide_eq_true hc]; rfl
  rw [he]
  cases e : p.Funcs.all funcP with
  | false =>
    rw [e] at L
    simp only [Bool.false_eq_true, if_false] at L
    rw [L]
    exact ⟨[], rfl⟩
  | true =>
    rw [e] at L
    simp only [if_true] at L
    obtain ⟨s, a, _⟩ := L
    rw [a]
    exact ⟨s, rfl⟩
/-- Within the bounds. -/
def boundF (f : Func) : Bool := decide (f.Params ≤ 4 ∧ f.Locals.length ≤ 16 ∧ f.Code.length ≤ 256)
def boundP (p : Program) : Bool := p.Funcs.all boundF && decide (p.Funcs.length ≤ 16)
theorem Bounded_eq (p : Program) (hp : p.Funcs.length ≤ 1048576) : code_Bounded_s p = some (boundP p) := by
  unfold code_Bounded_s boundP
  simp only [jp]
  have L := rng_inv (σ := Unit) (ρ := Option Bool) (xs := p.Funcs) (s0 := ()) boundF (some false) (fun _ _ => True)
    (body := fun (i_2 : Nat) (f_3 : Func) (s_1 : Unit) => ((if (decide (f_3.Params > 4)) then (if true = true then (some (.ret (some false))) else (some (.nxt ()))) else (if (decide ((List.length f_3.Locals : Int) > 16)) then (if true = true then (some (.ret (some false))) else (some (.nxt ()))) else (if decide ((List.length f_3.Code : Int) > 256) = true then (some (.ret (some false))) else (some (.nxt ()))))) : Option (Stp Unit (Option Bool)))) (by omega) trivial (fun i x s hx _ => by
      unfold boundF
      by_cases h1 : x.Params > 4
      · have : ¬ (x.Params ≤ 4 ∧ x.Locals.length ≤ 16 ∧ x.Code.length ≤ 256) := by omega
        simp [h1, this]
      by_cases h2 : (x.Locals.length : Int) > 16
      · have : ¬ (x.Params ≤ 4 ∧ x.Locals.length ≤ 16 ∧ x.Code.length ≤ 256) := by omega
        simp [h1, h2, this]
      by_cases h3 : (x.Code.length : Int) > 256
      · have : ¬ (x.Params ≤ 4 ∧ x.Locals.length ≤ 16 ∧ x.Code.length ≤ 256) := by omega
        simp [h1, h2, h3, this]
      · have : (x.Params ≤ 4 ∧ x.Locals.length ≤ 16 ∧ x.Code.length ≤ 256) := by omega
        simp [h1, h2, h3, this])
  cases e : p.Funcs.all boundF with
  | false =>
    rw [e] at L
    simp only [Bool.false_eq_true, if_false] at L
    simp only [if_true] at L ⊢
    rw [L]; rfl
  | true =>
    rw [e] at L
    simp only [if_true] at L ⊢
    obtain ⟨s, a, _⟩ := L
    rw [a]
    simp [oc]
    omega
end Go.Proofs.Ytiocagilhbomgaa
