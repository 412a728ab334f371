/- Regions: in the order of the text, and in any order. -/
import Derived.Test.YtiocagilhbomgaaWlC3
namespace Go.Ab
open Go.RowKit
set_option linter.unusedVariables false
set_option linter.unusedSimpArgs false

abbrev Fr := List (Nat × AV)
def Fr.get : Fr → Fm
  | [], _ => .junk
  | (t', v) :: r, t => if t = t' then v else Fr.get r t

theorem Fr.get_cons (fr : Fr) (d : Nat) (v : AV) : Fr.get ((d, v) :: fr) = upd (Fr.get fr) d v := by
  funext t; simp [Fr.get, upd]

/-! ### the last one of those that .. -/
section
variable {α : Type}
open Classical in
noncomputable def pick (p : Nat → Prop) (x0 : α) (f : Nat → α) : Nat → α
  | 0 => x0
  | n + 1 => if p n then f n else pick p x0 f n

theorem pick_congr {p q : Nat → Prop} {x0 : α} {f : Nat → α} : ∀ {n : Nat}, (∀ j, j < n → (p j ↔ q j)) → pick p x0 f n = pick q x0 f n
  | 0, _ => rfl
  | n + 1, h => by
    simp only [pick]
    rw [pick_congr (n := n) (fun j hj => h j (by omega))]
    by_cases hp : p n
    · rw [if_pos hp, if_pos ((h n (by omega)).1 hp)]
    · rw [if_neg hp, if_neg (fun hq => hp ((h n (by omega)).2 hq))]

theorem pick_cut {p : Nat → Prop} {x0 : α} {f : Nat → α} {i : Nat} : ∀ {n : Nat}, i ≤ n → (∀ j, i ≤ j → j < n → ¬ p j) → pick p x0 f n = pick p x0 f i
  | 0, h, _ => by simp at h; subst h; rfl
  | n + 1, h, hp => by
    by_cases e : i = n + 1
    · subst e; rfl
    · simp only [pick]
      rw [if_neg (hp n (by omega) (by omega))]
      exact pick_cut (by omega) (fun j a b => hp j a (by omega))

theorem pick_at {p : Nat → Prop} {x0 : α} {f : Nat → α} {i n : Nat} (h : i < n) (hi : p i) (hp : ∀ j, i < j → j < n → ¬ p j) : pick p x0 f n = f i := by
  rw [pick_cut (i := i + 1) h (fun j a b => hp j (by omega) b)]
  simp [pick, hi]
end

/-! ### which operations come ahead of which -/
def befOf (acc : List Nat) : List Edge → Nat
  | [] => 0
  | e :: r => if Region.binds .any e then (1 <<< e.on) ||| (acc.getD e.on 0) ||| befOf acc r else befOf acc r

def befAll : List Nat → List Oper → List Nat
  | acc, [] => acc
  | acc, o :: r => befAll (acc ++ [befOf acc o.after.toList]) r

def ordB (bs : List Nat) (i j : Nat) : Bool := (bs.getD (max i j) 0).testBit (min i j)

theorem befOf_bit {acc : List Nat} {j : Nat} : ∀ {es : List Edge}, (befOf acc es).testBit j = true → ∃ e ∈ es, Region.binds .any e = true ∧ (e.on = j ∨ (acc.getD e.on 0).testBit j = true)
  | [], h => by simp [befOf] at h
  | e :: r, h => by
    simp only [befOf] at h
    split at h
    · rename_i hb
      simp only [Nat.testBit_or, Bool.or_eq_true] at h
      rcases h with (h | h) | h
      · refine ⟨e, by simp, hb, .inl ?_⟩
        simp [Nat.one_shiftLeft, Nat.testBit_two_pow] at h
        exact h
      · exact ⟨e, by simp, hb, .inr h⟩
      · obtain ⟨e', a, b⟩ := befOf_bit h
        exact ⟨e', by simp [a], b⟩
    · obtain ⟨e', a, b⟩ := befOf_bit h
      exact ⟨e', by simp [a], b⟩

theorem befAll_get : ∀ (r : List Oper) (acc : List Nat) (i : Nat), i < acc.length → (befAll acc r).getD i 0 = acc.getD i 0
  | [], acc, i, _ => rfl
  | o :: r, acc, i, h => by
    rw [befAll, befAll_get r _ i (by simp; omega)]
    simp [List.getD_eq_getElem?_getD, List.getElem?_append_left h]

/-- A set that is closed under the edges is closed under 'ahead of'. -/
theorem bef_closed {ls : Nat → Prop} : ∀ (r : List Oper) (acc : List Nat) (pre : List Oper), acc.length = pre.length →
    (∀ i o, (pre ++ r)[i]? = some o → ls i → ∀ e ∈ o.after.toList, Region.binds .any e = true → ls e.on) →
    (∀ i, i < acc.length → ls i → ∀ j, (acc.getD i 0).testBit j = true → ls j) →
    ∀ i, ls i → ∀ j, ((befAll acc r).getD i 0).testBit j = true → ls j
  | [], acc, pre, _, _, hacc, i, hi, j, hj => by
    by_cases h : i < acc.length
    · exact hacc i h hi j hj
    · simp only [befAll] at hj
      rw [List.getD_eq_getElem?_getD, List.getElem?_eq_none (by omega)] at hj
      simp at hj
  | o :: r, acc, pre, hl, hcl, hacc, i, hi, j, hj => by
    refine bef_closed r (acc ++ [befOf acc o.after.toList]) (pre ++ [o]) (by simp [hl]) (by simpa using hcl) (fun i' hi' hls j' hj' => ?_) i hi j hj
    by_cases h : i' < acc.length
    · refine hacc i' h hls j' ?_
      simpa [List.getD_eq_getElem?_getD, List.getElem?_append_left h] using hj'
    · have e : i' = acc.length := by simp at hi'; omega
      subst e
      have hj2 : (befOf acc o.after.toList).testBit j' = true := by
        simpa [List.getD_eq_getElem?_getD] using hj'
      obtain ⟨e, he1, he2, he3⟩ := befOf_bit hj2
      have h1 := hcl acc.length o (by simp [hl]) hls e he1 he2
      rcases he3 with rfl | he3
      · exact h1
      · by_cases hlt : e.on < acc.length
        · exact hacc e.on hlt h1 j' he3
        · rw [List.getD_eq_getElem?_getD, List.getElem?_eq_none (by omega)] at he3
          simp at he3

/-! ### resolved regions -/
def dstOk (n : Nat) : Option Nat → Bool
  | none => true
  | some d => decide (d < n)

def resOper (P : Program) (n : Nat) (ops : Array Oper) (o : Oper) : Option ROper :=
  match resRC P o.op with
  | none => none
  | some c =>
    if dstOk n o.dst then
      match o.guard with
      | none => some ⟨o.dst, none, c⟩
      | some (j, b) => match (ops[j]?).bind (·.dst) with
        | some t => some ⟨o.dst, some (t, b), c⟩
        | none => none
    else none

def resOpers (P : Program) (n : Nat) (ops : Array Oper) : List Oper → Option (List ROper)
  | [] => some []
  | o :: r => match resOper P n ops o, resOpers P n ops r with
    | some x, some xs => some (x :: xs)
    | _, _ => none

theorem resOper_eq {P n ops o ro} (h : resOper P n ops o = some ro) : resRC P o.op = some ro.c ∧ ro.dst = o.dst ∧ (∀ d, o.dst = some d → d < n) ∧
    (match o.guard with | none => ro.guard = none | some (j, b) => ∃ t, (ops[j]?).bind (·.dst) = some t ∧ ro.guard = some (t, b)) := by
  unfold resOper at h
  split at h
  · cases h
  · rename_i c hc
    split at h
    · rename_i hd
      have hd' : ∀ d, o.dst = some d → d < n := fun d e => by rw [e] at hd; simpa [dstOk] using hd
      split at h
      · rename_i hg
        cases h
        exact ⟨hc, rfl, hd', rfl⟩
      · rename_i j b hg
        split at h
        · rename_i t ht
          cases h
          exact ⟨hc, rfl, hd', t, ht, rfl⟩
        · cases h
    · cases h

theorem resOpers_get {P : Program} {n : Nat} {ops : Array Oper} : ∀ {l : List Oper} {rs : List ROper}, resOpers P n ops l = some rs → rs.length = l.length ∧ ∀ (i : Nat) (o : Oper), l[i]? = some o → ∃ ro, rs[i]? = some ro ∧ resOper P n ops o = some ro
  | [], rs, h => by simp [resOpers] at h; subst h; simp
  | o :: r, rs, h => by
    simp only [resOpers] at h
    split at h
    · rename_i x xs h1 h2
      cases h
      obtain ⟨i1, i2⟩ := resOpers_get h2
      refine ⟨by simp [i1], fun i o' ho => ?_⟩
      cases i with
      | zero => simp at ho; subst ho; exact ⟨x, rfl, h1⟩
      | succ i => exact i2 i o' (by simpa using ho)
    · cases h

def putF (fr : Fr) : Option Nat → AV → Fr
  | none, _ => fr
  | some d, v => (d, v) :: fr

def putM (F : Fm) : Option Nat → AV → Fm
  | none, _ => F
  | some d, v => upd F d v

theorem get_putF (fr : Fr) (d : Option Nat) (v : AV) : Fr.get (putF fr d v) = putM (Fr.get fr) d v := by
  cases d with
  | none => rfl
  | some d => exact Fr.get_cons _ _ _

theorem FRel.putM {g σ n F a d v u} (h : FRel g σ n F a) (hd : ∀ d', d = some d' → d' < n) (hv : VR g.pm g.L σ v u) : FRel g σ n (Go.Ab.putM F d v) (a.put d u) := by
  cases d with
  | none => exact h
  | some d => exact h.put (hd d rfl) hv

/-- A guard that is not met: it is the other one, or was itself passed over. -/
def gOff (want : Bool) (v : AV) : Prop := v = .bool (!want) ∨ v = .tup []

/-- The verification condition of operations in the text's order, with what each touched. -/
def VCops (P : Program) : List ROper → Fr → List Ob → List LE → (Fr → List Ob → List LE → Prop) → Prop
  | [], fr, S, log, K => K fr S log
  | o :: r, fr, S, log, K =>
    match o.guard with
    | none => VC1 P o.c (Fr.get fr) S fun v S' le => VCops P r (putF fr o.dst v) S' (le :: log) K
    | some (t, want) => match Fr.get fr t with
      | .bool b => (b = want → VC1 P o.c (Fr.get fr) S fun v S' le => VCops P r (putF fr o.dst v) S' (le :: log) K) ∧
          (b = !want → VCops P r (putF fr o.dst (.tup [])) S (.acc [] none :: log) K)
      | .tup [] => VCops P r (putF fr o.dst (.tup [])) S (.acc [] none :: log) K
      | _ => False

def lgOf : LE → LG
  | .acc fp wr => .acc fp wr
  | .eff _ _ => .eff

theorem VCcall_step {P f args S K} (h : VCcall P f args S K) : ∃ v S' le, StepCall P f args (hp S) v (hp S') (lgOf le) ∧ (∀ A B, le = .eff A B → A = S ∧ B = S') ∧ K v S' le := by
  rcases h with ⟨v, h1, h2, h3, h4⟩ | ⟨v, S', h1, h2⟩
  · exact ⟨v, S, .acc [] none, .inl ⟨h1, h2, h3, rfl, rfl⟩, (fun A B e => by cases e), h4⟩
  · exact ⟨v, S', .eff S S', .inr ⟨h1, rfl⟩, (fun A B e => by cases e; exact ⟨rfl, rfl⟩), h2⟩

theorem VC1_step {P c F S K} (h : VC1 P c F S K) : ∃ v S' le, StepG P c F (hp S) v (hp S') (lgOf le) ∧ (∀ A B, le = .eff A B → A = S ∧ B = S') ∧ K v S' le := by
  cases c with
  | op r =>
    obtain ⟨v, rd, δ, h1, h2⟩ := h
    exact ⟨v, apS S δ, .acc (fpOf rd δ) (δ.map (·.1)), ⟨rd, δ, h1, hp_apS S δ, rfl⟩, (fun A B e => by cases e), h2⟩
  | call f args => exact VCcall_step h
  | callv x args =>
    simp only [VC1] at h
    generalize hq : ev F x = q at h
    cases q <;> try exact h.elim
    rename_i f first caps
    cases f <;> try exact h.elim
    obtain ⟨h0, h⟩ := h
    obtain ⟨v, S', le, h1, h2⟩ := VCcall_step h
    exact ⟨v, S', le, by simp only [StepG, hq]; exact ⟨h0, h1⟩, h2⟩
  | inv x m args =>
    simp only [VC1] at h
    generalize hq : ev F x = q at h
    cases q <;> try exact h.elim
    rename_i t v0
    simp only at h
    cases hm : methOf P t m with
    | none => simp only [hm] at h
    | some f =>
      simp only [hm] at h
      obtain ⟨h0, h⟩ := h
      obtain ⟨v, S', le, h1, h2⟩ := VCcall_step h
      exact ⟨v, S', le, by simp only [StepG, hq, hm]; exact ⟨h0, h1⟩, h2⟩

theorem wanted_of {P n ops o ro} {g σ} {F : Fm} {a : Act} (h : resOper P n ops o = some ro) (hf : FRel g σ n F a) :
    (ro.guard = none → Region.wanted o (yielded ops a.tmps) = true) ∧
    (∀ t want b, ro.guard = some (t, want) → F t = .bool b → Region.wanted o (yielded ops a.tmps) = (b == want)) ∧
    (∀ t want, ro.guard = some (t, want) → F t = .tup [] → Region.wanted o (yielded ops a.tmps) = false) := by
  obtain ⟨_, _, _, hg⟩ := resOper_eq h
  cases hgd : o.guard with
  | none =>
    rw [hgd] at hg
    simp only at hg
    exact ⟨fun _ => by simp [Region.wanted, hgd], fun t want b e => (by rw [hg] at e; cases e), fun t want e => (by rw [hg] at e; cases e)⟩
  | some p =>
    obtain ⟨j, w⟩ := p
    rw [hgd] at hg
    obtain ⟨t, h1, h2⟩ := hg
    refine ⟨(fun e => by rw [h2] at e; cases e), fun t' want b e hb => ?_, fun t' want e hb => ?_⟩
    · rw [h2] at e; cases e
      have hv := hf.get t
      rw [hb] at hv
      generalize hq : a.tmps.getD t undef = q at hv
      cases hv
      have hlt : a.tmps[t]? = some (.bool b) := by
        rw [Array.getD_eq_getD_getElem?] at hq
        cases he : a.tmps[t]? with
        | none => rw [he] at hq; simp [undef] at hq
        | some v => rw [he] at hq; simp at hq; rw [hq]
      simp only [Region.wanted, hgd, yielded, h1, Option.bind_some, hlt]
      cases b <;> cases w <;> rfl
    · rw [h2] at e; cases e
      have hv := hf.get t
      rw [hb] at hv
      generalize hq : a.tmps.getD t undef = q at hv
      cases hv with
      | tup hl _ =>
        rename_i vs
        simp only [Region.wanted, hgd, yielded, h1, Option.bind_some]
        rw [Array.getD_eq_getD_getElem?] at hq
        cases he : a.tmps[t]? with
        | none => rfl
        | some v => rw [he] at hq; simp at hq; subst hq; rfl
end Go.Ab
