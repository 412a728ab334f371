/- What functions are said to compute (partial functions in b5E Lean), and the steps that follow it. -/
import Derived.Test.YtepdcebjobjjgaaDoorWlF3
set_option linter.unusedVariables false
set_option linter.unusedSimpArgs false
namespace Go.Ab
open Go.RowKit

abbrev I64 (x : Int) : Int := IntKind.i64.wrap x
abbrev U64 (x : Int) : Int := IntKind.u64.wrap x
def gd (c : Prop) [Decidable c] {β : Type} (k : Option β) : Option β := if c then k else none
theorem a1w {c : Prop} [Decidable c] {β : Type} {k : Option β} {r : β} (h : gd c k = some r) : c ∧ k = some r := by
 unfold gd at h
 split at h
 ·exact ⟨by assumption, h⟩
 ·cases h
@[simp] theorem a1M {c : Prop} [Decidable c] {β : Type} {k : Option β} (h : c) : gd c k = k := if_pos h
theorem d7 {α β : Type} {x : Option α} {f : α → Option β} {r : β} (h : x.bind f = some r) : ∃ v, x = some v ∧ f v = some r := Option.bind_eq_some_iff.1 h

theorem g9 {β : Type} {e : Bool} {a b : β} (h : e = true) : (if e = true then a else b) = a := if_pos h
theorem i6 {β : Type} {e : Bool} {a b : β} (h : e = false) : (if e = true then a else b) = b := if_neg (by rw [h]; decide)

def x9 {α : Type} (l : List α) (i : Int) : Option α := if 0 ≤ i then l[i.toNat]? else none
theorem j3 {α : Type} {l : List α} {i : Int} {y : α} (h : x9 l i = some y) : 0 ≤ i ∧ i < l.length ∧ l[i.toNat]? = some y := by
 unfold x9 at h
 split at h
 ·obtain ⟨h1, h2⟩ := List.getElem?_eq_some_iff.1 h
  exact ⟨by assumption, by omega, h⟩
 ·cases h

def jp {σ β : Type} (k : σ → Option β) (f : (σ → Option β) → Option β) : Option β := f k

inductive Stp (σ ρ : Type) where
 | nxt (s : σ)
 | brk (s : σ)
 | ret (r : ρ)
inductive Out (σ ρ : Type) where
 | fin (s : σ)
 | ret (r : ρ)

def a2s {α σ ρ : Type} (body : Nat → α → σ → Option (Stp σ ρ)) : List α → Nat → σ → Option (Out σ ρ)
 | [], _, s => some (.fin s)
 | x :: xs, i, s => match body i x s with
   | none => none
   | some (.nxt s') => a2s body xs (i + 1) s'
   | some (.brk s') => some (.fin s')
   | some (.ret r) => some (.ret r)
def rng {α σ ρ : Type} (body : Nat → α → σ → Option (Stp σ ρ)) (xs : List α) (s : σ) : Option (Out σ ρ) := if xs.length ≤ 4611686018427387904 then a2s body xs 0 s else none

def a1A {σ ρ : Type} (body : Nat → σ → Option (Stp σ ρ)) : Nat → Nat → σ → Option (Out σ ρ)
 | 0, _, s => some (.fin s)
 | n + 1, i, s => match body i s with
   | none => none
   | some (.nxt s') => a1A body n (i + 1) s'
   | some (.brk s') => some (.fin s')
   | some (.ret r) => some (.ret r)
def rni {σ ρ : Type} (body : Nat → σ → Option (Stp σ ρ)) (n : Int) (s : σ) : Option (Out σ ρ) := if n ≤ 4611686018427387904 then a1A body n.toNat 0 s else none

def whileN {σ ρ : Type} (body : σ → Option (Stp σ ρ)) : Nat → σ → Option (Out σ ρ)
 | 0, _ => none
 | n + 1, s => match body s with
   | none => none
   | some (.nxt s') => whileN body n s'
   | some (.brk s') => some (.fin s')
   | some (.ret r) => some (.ret r)

def b8y : Fr → Nat → AV → Fr
 | [], _, _ => []
 | (t', v') :: r, t, v => if t = t' then (t', v) :: r else (t', v') :: b8y r t v
theorem a9O {t : Nat} {v : AV} : ∀ {fr : Fr}, Fr.get fr t = v → b8y fr t v = fr
 | [], _ => rfl
 | (t', v') :: r, h => by
   simp only [b8y]
   rw [get_cons] at h
   split
   ·rename_i e; rw [if_pos e] at h; rw [h]
   ·rename_i e; rw [if_neg e] at h; rw [a9O h]

theorem Wk.refl {S0 S : List Ob} {fr : Fr} : Wk S0 fr S fr S := fun _ _ _ _ h => h

section
variable {P : Program} {S0 : List Ob} {ow : List Nat} {fr : Fr} {S : List Ob} {log : List LE}

theorem a0a {d r rs} {K : Fr → List Ob → List LE → Prop} {v v' rd δ S'} (e : opV (ow.contains d) r (Fr.get fr) S = some (v, rd, δ)) (e2 : AVw v v') (e3 : apS S δ = S') (h : VTops P ow rs ((d, v') :: fr) S' (.acc (a1I rd δ) (δ.map (·.1)) :: log) K) :
  VTops P ow (⟨some d, none, .op r⟩ :: rs) fr S log K := by subst e3; rw [a3y, e]; exact ⟨_, e2, h⟩
theorem m6 {d t want c rs} {K : Fr → List Ob → List LE → Prop} {b : Bool} {fr1 fr2 : Fr} (e : Fr.get fr t = .bool b) (e1 : b8y fr t (.bool want) = fr1) (e2 : a7x (b8y fr t (.bool (!want))) d (.tup []) = fr2)
  (h : b = want → VTops P ow (⟨d, none, c⟩ :: rs) fr1 S log K) (h' : b = !want → VTops P ow rs fr2 S (.acc [] none :: log) K) : VTops P ow (⟨d, some (t, want), c⟩ :: rs) fr S log K := by
 subst e1; subst e2
 refine d4v e (fun hb => ?_) (fun hb => ?_)
 ·have := h hb
  rwa [a9O (by rw [e, hb])] at this
 ·have := h' hb
  rwa [a9O (by rw [e, hb])] at this
theorem g6 {a b} {K : Post} (h : VT P S0 ow a fr S (Post.thn (fun fr' S' => ∃ F T, Wk S0 fr' S' F T ∧ VT P S0 ow b F T K) K)) : VT P S0 ow (.seq a b) fr S K := by
 rw [a8F]; exact h
theorem g8 {b} {K K0 : Post} (h : VT P S0 ow b fr S K) : Post.thn (fun fr' S' => ∃ F T, Wk S0 fr' S' F T ∧ VT P S0 ow b F T K) K0 .normal fr S := ⟨fr, S, Wk.refl, h⟩
theorem a3P {b} {K K0 : Post} {F : Fr} {T : List Ob} (hw : Wk S0 fr S F T) (h : VT P S0 ow b F T K) : Post.thn (fun fr' S' => ∃ F T, Wk S0 fr' S' F T ∧ VT P S0 ow b F T K) K0 .normal fr S := ⟨F, T, hw, h⟩
theorem a2Q {σ β : Type} {a b} {K : Post} {k : σ → Option β} {f : (σ → Option β) → Option β} {r : β} (h : jp k f = some r) (F : σ → Fr) (T : σ → List Ob)
  (h1 : ∀ k', f k' = some r → VT P S0 ow a fr S (Post.thn (fun fr' S' => ∃ s, k' s = some r ∧ Wk S0 fr' S' (F s) (T s)) K)) (h2 : ∀ s, k s = some r → VT P S0 ow b (F s) (T s) K) : VT P S0 ow (.seq a b) fr S K :=
 g6 (a1v (a1o (fun _ _ ⟨s, hs, hw⟩ => ⟨F s, T s, hw, h2 s hs⟩) (fun _ _ _ h => h)) (h1 k h))
theorem s3 {σ β : Type} {K0 : Post} {k' : σ → Option β} {r : β} {F : σ → Fr} {T : σ → List Ob} (s : σ) (h : k' s = some r) (hw : Wk S0 fr S (F s) (T s)) : Post.thn (fun fr' S' => ∃ s, k' s = some r ∧ Wk S0 fr' S' (F s) (T s)) K0 .normal fr S := ⟨s, h, hw⟩
theorem a0k {a b c} {K : Post} (h : VT P S0 ow (.seq a (.seq b c)) fr S K) : VT P S0 ow (.seq (.seq a b) c) fr S K := by
 rw [a8F] at h
 rw [a8F, a8F]
 refine a1v (fun e fr' S' hh => ?_) h
 cases e with
 | normal =>
   obtain ⟨F, T, hw, hv⟩ := hh
   rw [a8F] at hv
   exact ⟨F, T, hw, hv⟩
 | _ => exact hh

def a5V (S0 : List Ob) {σ ρ β : Type} (nx : Nat → Bool) (bk : Nat → Bool) (F : σ → Fr) (T : σ → List Ob) (Fx : σ → Fr) (Tx : σ → List Ob) (k : Out σ ρ → Option β) (r : β) (K : Post) (c : Stp σ ρ) : Post
 | .normal, fr, S => ∃ s, c = .nxt s ∧ Wk S0 fr S (F s) (T s)
 | .exit j, fr, S => if nx j = true then ∃ s, c = .nxt s ∧ Wk S0 fr S (F s) (T s) else if bk j = true then ∃ s, c = .brk s ∧ Wk S0 fr S (Fx s) (Tx s) else ∃ v, c = .ret v ∧ (k (.ret v) = some r → K (.exit j) fr S)
 | e, fr, S => ∃ v, c = .ret v ∧ (k (.ret v) = some r → K e fr S)

variable {σ ρ β : Type} {nx bk : Nat → Bool} {F : σ → Fr} {T : σ → List Ob} {Fx : σ → Fr} {Tx : σ → List Ob} {k : Out σ ρ → Option β} {r : β} {K : Post}
theorem a4l {s : σ} {c : Stp σ ρ} (e : c = .nxt s) (hw : Wk S0 fr S (F s) (T s)) : a5V S0 nx bk F T Fx Tx k r K c .normal fr S := ⟨s, e, hw⟩
theorem c7B {s : σ} {c : Stp σ ρ} {j} (e : c = .brk s) (hj : nx j = false) (hb : bk j = true) (hw : Wk S0 fr S (Fx s) (Tx s)) : a5V S0 nx bk F T Fx Tx k r K c (.exit j) fr S := by
 show if nx j = true then _ else if bk j = true then _ else _
 rw [if_neg (by rw [hj]; decide), if_pos hb]; exact ⟨s, e, hw⟩
theorem d4x {v : ρ} {c : Stp σ ρ} (e : c = .ret v) (h : k (.ret v) = some r → K .ret fr S) : a5V S0 nx bk F T Fx Tx k r K c .ret fr S := ⟨v, e, h⟩

theorem b6P {a : FC} {id : Nat} (body : σ → Option (Stp σ ρ)) {n : Nat} {s0 : σ} (F : σ → Fr) (T : σ → List Ob) (h : (whileN body n s0).bind k = some r)
  (hw : Wk S0 fr S (F s0) (T s0))
  (hb : ∀ s c, body s = some c → VT P S0 ow a (F s) (T s) (a5V S0 (fun _ => false) (fun j => j == id) F T F T k r K c))
  (hx : ∀ s fr' S', k (.fin s) = some r → Wk S0 fr' S' (F s) (T s) → K .normal fr' S') : VT P S0 ow (.block id (.loop a)) fr S K := by
 refine k7 (b2z (ι := Nat × σ) (fun i => F i.2) (fun i => T i.2) (fun i => (whileN body i.1 i.2).bind k = some r) (fun i => i.1) (n, s0) h hw (fun i hi => ?_))
 obtain ⟨n, s⟩ := i
 simp only at hi ⊢
 cases n with
 | zero => simp [whileN] at hi
 | succ n =>
   simp only [whileN] at hi
   cases hc : body s with
   | none => rw [hc] at hi; cases hi
   | some c =>
     rw [hc] at hi
     refine a1v (fun e fr' S' hk => ?_) (hb s c hc)
     cases e with
     | normal =>
       obtain ⟨s', rfl, hw'⟩ := hk
       exact ⟨(n, s'), hi, Nat.lt_succ_self _, hw'⟩
     | exit j =>
       replace hk : if (j == id) = true then ∃ s, c = .brk s ∧ Wk S0 fr' S' (F s) (T s) else ∃ v, c = .ret v ∧ (k (.ret v) = some r → K (.exit j) fr' S') := hk
       show Post.blk id K (.exit j) fr' S'
       rw [a5S]
       by_cases hj : j = id
       ·rw [if_pos hj]; rw [if_pos (by simpa using hj)] at hk
        obtain ⟨s', rfl, hw'⟩ := hk
        exact hx s' _ _ hi hw'
       ·rw [if_neg hj]; rw [if_neg (by simpa using hj)] at hk
        obtain ⟨v, rfl, hv⟩ := hk
        exact hv hi
     | ret => obtain ⟨v, rfl, hv⟩ := hk; exact hv hi
     | goto l => obtain ⟨v, rfl, hv⟩ := hk; exact hv hi
     | panic l => obtain ⟨v, rfl, hv⟩ := hk; exact hv hi
     | outgrown => obtain ⟨v, rfl, hv⟩ := hk; exact hv hi

theorem b8z {x : Int} (h : -9223372036854775808 ≤ x ∧ x ≤ 9223372036854775807) : I64 x = x := t7 h

theorem b5O {tc ti tn tj id id2 : Nat} {B : FC} {G : Fr} {T' : List Ob} {i : Nat} {n : Int} {K0 : Post} (h1 : ti ≠ tn) (hn : n ≤ 4611686018427387904)
  (hB : (i : Int) < n → VT P S0 ow B ((tc, .bool true) :: (ti, .int .i64 i) :: (tn, .int .i64 n) :: G) T' (fun e fr' S' => match e with
   | .normal => ∃ G2 T2, Wk S0 fr' S' ((ti, .int .i64 i) :: G2) T2 ∧ ∀ fr3, (∀ t, Fr.get fr3 t = if t = ti then .int .i64 ((i : Int) + 1) else if t = tj then .int .i64 ((i : Int) + 1) else Fr.get G2 t) → K0 .normal fr3 T2
   | e => Post.blk id2 (fun e fr' S' => match e with
     | .normal => ∃ G2 T2, Wk S0 fr' S' ((ti, .int .i64 i) :: G2) T2 ∧ ∀ fr3, (∀ t, Fr.get fr3 t = if t = ti then .int .i64 ((i : Int) + 1) else if t = tj then .int .i64 ((i : Int) + 1) else Fr.get G2 t) → K0 .normal fr3 T2
     | e => K0 e fr' S') e fr' S'))
  (hE : ¬ (i : Int) < n → K0 (.exit id) ((tc, .bool false) :: (ti, .int .i64 i) :: (tn, .int .i64 n) :: G) T') :
  VT P S0 ow (.seq (.reg [⟨some tc, none, .op (.bin .none .lss (.t ti) (.t tn))⟩] []) (.seq (.cond (.t tc) .skip (.exit id)) (.seq (.block id2 B) (.reg [⟨some tj, none, .op (.bin .none .add (.t ti) (.v (.int .i64 1)))⟩, ⟨some ti, none, .op (.mv (.t tj))⟩] []))))
   ((ti, .int .i64 i) :: (tn, .int .i64 n) :: G) T' K0 := by
 refine g6 (b9 (j5 (v := .bool (decide ((i : Int) < n))) ?_ rfl (b6 (g8 ?_))))
 ·simp only [opV, ev, get_cons, if_true, if_neg (Ne.symm h1), b6y, pv, a4b]; rfl
 refine g6 (o6 (t := decide ((i : Int) < n)) (by simp [ev, get_cons]) (fun ht => i7 (g8 ?_)) (fun hf => y8 ?_))
 ·rw [ht]
  simp only [decide_eq_true_eq] at ht
  refine g6 (k7 ?_)
  have hinc : ∀ {fr' : Fr} {S' : List Ob} {G2 : Fr} {T2 : List Ob}, Wk S0 fr' S' ((ti, .int .i64 i) :: G2) T2 → (∀ fr3, (∀ t, Fr.get fr3 t = if t = ti then .int .i64 ((i : Int) + 1) else if t = tj then .int .i64 ((i : Int) + 1) else Fr.get G2 t) → K0 .normal fr3 T2) →
    Post.thn (fun fr' S' => ∃ F T, Wk S0 fr' S' F T ∧ VT P S0 ow (.reg [⟨some tj, none, .op (.bin .none .add (.t ti) (.v (.int .i64 1)))⟩, ⟨some ti, none, .op (.mv (.t tj))⟩] []) F T K0) K0 .normal fr' S' := fun hw hk => by
   refine a3P hw (b9 (j5 (v := .int .i64 ((i : Int) + 1)) ?_ rfl (s5 (v' := .int .i64 ((i : Int) + 1)) (by simp [ev, get_cons]) (b6 (hk _ (fun t => ?_))))))
   ·simp only [opV, ev, get_cons, if_true, b6y, pv, a4b, Option.map_some]
    rw [t7 zO]
   ·simp only [get_cons]
    split
    ·rfl
    ·split
     ·rfl
     ·rfl
  refine a1v (fun e fr' S' hk => ?_) (hB ht)
  cases e with
  | normal => obtain ⟨G2, T2, hw, hk⟩ := hk; exact hinc hw hk
  | exit j =>
    replace hk : Post.blk id2 _ (.exit j) fr' S' := hk
    rw [a5S] at hk
    show Post.blk id2 _ (.exit j) fr' S'
    rw [a5S]
    split
    ·rename_i hj; rw [if_pos hj] at hk
     obtain ⟨G2, T2, hw, hk⟩ := hk; exact hinc hw hk
    ·rename_i hj; rw [if_neg hj] at hk; exact hk
  | _ => exact hk
 ·rw [hf]
  simp only [decide_eq_false_iff_not] at hf
  exact hE hf

theorem b0A {S0 S : List Ob} {fr fr' : Fr} (h : ∀ t, Fr.get fr' t = Fr.get fr t ∨ Fr.get fr' t = .junk) : Wk S0 fr S fr' S :=
 GWk.refl.wk (fun t => by rcases h t with e | e <;> rw [e] <;> first | exact .refl _ | exact .junk _)

theorem b8A {tc ti tn tj id id2 : Nat} {B : FC} (body : Nat → σ → Option (Stp σ ρ)) {n : Int} {s0 : σ} (F : σ → Fr) (T : σ → List Ob) (h : (rni body n s0).bind k = some r)
  (h1 : ti ≠ tn) (h2 : tj ≠ tn) (hF : ∀ s, Fr.get (F s) tj = .junk ∧ Fr.get (F s) ti = .junk ∧ Fr.get (F s) tn = .junk ∧ Fr.get (F s) tc = .junk)
  (hw : Wk S0 fr S ((ti, .int .i64 0) :: (tn, .int .i64 n) :: F s0) (T s0))
  (hb : ∀ (i : Nat) s c, (i : Int) < n → body i s = some c → VT P S0 ow B ((tc, .bool true) :: (ti, .int .i64 i) :: (tn, .int .i64 n) :: F s) (T s)
   (a5V S0 (fun j => j == id2) (fun j => j == id) (fun s => (ti, .int .i64 i) :: (tn, .int .i64 n) :: F s) T F T k r K c))
  (hx : ∀ s fr' S', k (.fin s) = some r → Wk S0 fr' S' (F s) (T s) → K .normal fr' S') :
  VT P S0 ow (.block id (.loop (.seq (.reg [⟨some tc, none, .op (.bin .none .lss (.t ti) (.t tn))⟩] []) (.seq (.cond (.t tc) .skip (.exit id)) (.seq (.block id2 B) (.reg [⟨some tj, none, .op (.bin .none .add (.t ti) (.v (.int .i64 1)))⟩, ⟨some ti, none, .op (.mv (.t tj))⟩] [])))))) fr S K := by
 unfold rni at h
 split at h
 case isFalse => cases h
 rename_i hn
 refine k7 (b2z (ι := Nat × σ) (fun i => (ti, .int .i64 i.1) :: (tn, .int .i64 n) :: F i.2) (fun i => T i.2) (fun i => i.1 ≤ n.toNat ∧ (a1A body (n.toNat - i.1) i.1 i.2).bind k = some r) (fun i => n.toNat - i.1) (0, s0) ⟨by simp, by simpa using h⟩ hw (fun i hi => ?_))
 obtain ⟨i, s⟩ := i
 simp only at hi ⊢
 obtain ⟨hi0, hi⟩ := hi
 refine b5O h1 hn (fun hlt => ?_) (fun hge => ?_)
 ·have e1 : n.toNat - i = (n.toNat - (i + 1)) + 1 := by omega
  rw [e1] at hi
  simp only [a1A] at hi
  cases hc : body i s with
  | none => rw [hc] at hi; cases hi
  | some c =>
    rw [hc] at hi
    have hnext : ∀ s', c = .nxt s' → ∀ fr3, (∀ t, Fr.get fr3 t = if t = ti then .int .i64 ((i : Int) + 1) else if t = tj then .int .i64 ((i : Int) + 1) else Fr.get ((tn, .int .i64 n) :: F s') t) →
      Post.thn (fun fr' S' => ∃ i' : Nat × σ, (i'.1 ≤ n.toNat ∧ (a1A body (n.toNat - i'.1) i'.1 i'.2).bind k = some r) ∧ n.toNat - i'.1 < n.toNat - i ∧ Wk S0 fr' S' ((ti, .int .i64 i'.1) :: (tn, .int .i64 n) :: F i'.2) (T i'.2)) (Post.blk id K) .normal fr3 (T s') := fun s' e fr3 hg => by
     subst e
     refine ⟨(i + 1, s'), ⟨by simp only; omega, hi⟩, by simp only; omega, b0A (fun t => ?_)⟩
     rw [hg]
     rw [get_cons]
     simp only
     by_cases ht : t = ti
     ·left; rw [if_pos ht, if_pos ht]; rfl
     ·rw [if_neg ht, if_neg ht]
      by_cases ht2 : t = tj
      ·right; rw [ht2, get_cons, if_neg h2, (hF s').1]
      ·left; rw [if_neg ht2]
    refine a1v (fun e fr' S' hk => ?_) (hb i s c hlt hc)
    cases e with
    | normal =>
      obtain ⟨s', e, hw'⟩ := hk
      exact ⟨_, _, hw', hnext s' e⟩
    | exit j =>
      show Post.blk id2 _ (.exit j) fr' S'
      rw [a5S]
      replace hk : if (j == id2) = true then ∃ s', c = .nxt s' ∧ Wk S0 fr' S' ((ti, .int .i64 i) :: (tn, .int .i64 n) :: F s') (T s') else if (j == id) = true then ∃ s, c = .brk s ∧ Wk S0 fr' S' (F s) (T s) else ∃ v, c = .ret v ∧ (k (.ret v) = some r → K (.exit j) fr' S') := hk
      by_cases hj : j = id2
      ·rw [if_pos hj]; rw [if_pos (by simpa using hj)] at hk
       obtain ⟨s', e, hw'⟩ := hk
       exact ⟨_, _, hw', hnext s' e⟩
      ·rw [if_neg hj]; rw [if_neg (by simpa using hj)] at hk
       show Post.blk id K (.exit j) fr' S'
       rw [a5S]
       by_cases hj2 : j = id
       ·rw [if_pos hj2]; rw [if_pos (by simpa using hj2)] at hk
        obtain ⟨s', rfl, hw'⟩ := hk
        exact hx s' _ _ hi hw'
       ·rw [if_neg hj2]; rw [if_neg (by simpa using hj2)] at hk
        obtain ⟨v, rfl, hv⟩ := hk
        exact hv hi
    | ret => obtain ⟨v, rfl, hv⟩ := hk; exact hv hi
    | goto l => obtain ⟨v, rfl, hv⟩ := hk; exact hv hi
    | panic l => obtain ⟨v, rfl, hv⟩ := hk; exact hv hi
    | outgrown => obtain ⟨v, rfl, hv⟩ := hk; exact hv hi
 ·have e1 : n.toNat - i = 0 := by omega
  rw [e1] at hi
  simp only [a1A] at hi
  show Post.blk id K (.exit id) _ _
  rw [a5S, if_pos rfl]
  refine hx s _ _ hi (b0A (fun t => ?_))
  obtain ⟨_, f1, f2, f3⟩ := hF s
  simp only [get_cons]
  by_cases t1 : t = tc
  ·right; rw [t1]; exact f3
  ·by_cases t2 : t = ti
   ·right; rw [t2]; exact f1
   ·by_cases t3 : t = tn
    ·right; rw [t3]; exact f2
    ·left; rw [if_neg t1, if_neg t2, if_neg t3]

theorem a5W {α : Type} (body : Nat → α → σ → Option (Stp σ ρ)) (xs : List α) : ∀ (m i : Nat) (s : σ), xs.length - i = m → a1A (fun i s => xs[i]?.bind fun x => body i x s) m i s = a2s body (xs.drop i) i s
 | 0, i, s, h => by rw [List.drop_eq_nil_of_le zO]; rfl
 | m + 1, i, s, h => by
   have hi : i < xs.length := by omega
   rw [List.drop_eq_getElem_cons hi]
   simp only [a1A, a2s]
   rw [List.getElem?_eq_getElem hi]
   simp only [Option.bind_some]
   split
   ·rfl
   ·exact a5W body xs m (i + 1) _ zO
   ·rfl
   ·rfl
theorem b2F {α : Type} (body : Nat → α → σ → Option (Stp σ ρ)) (xs : List α) (s : σ) : rng body xs s = rni (fun i s => xs[i]?.bind fun x => body i x s) xs.length s := by
 unfold rng rni
 by_cases h : xs.length ≤ 4611686018427387904
 ·rw [if_pos h, if_pos zO]
  have := a5W body xs xs.length 0 s zO
  simpa using this.symm
 ·rw [if_neg h, if_neg zO]

theorem c7C {α : Type} {tc ti tn tj id id2 : Nat} {B : FC} (body : Nat → α → σ → Option (Stp σ ρ)) {xs : List α} {s0 : σ} (F : σ → Fr) (T : σ → List Ob) (h : (rng body xs s0).bind k = some r)
  (h1 : ti ≠ tn) (h2 : tj ≠ tn) (hF : ∀ s, Fr.get (F s) tj = .junk ∧ Fr.get (F s) ti = .junk ∧ Fr.get (F s) tn = .junk ∧ Fr.get (F s) tc = .junk)
  (hw : Wk S0 fr S ((ti, .int .i64 0) :: (tn, .int .i64 xs.length) :: F s0) (T s0))
  (hb : ∀ (i : Nat) x s c, xs[i]? = some x → i < xs.length → body i x s = some c → VT P S0 ow B ((tc, .bool true) :: (ti, .int .i64 i) :: (tn, .int .i64 xs.length) :: F s) (T s)
   (a5V S0 (fun j => j == id2) (fun j => j == id) (fun s => (ti, .int .i64 i) :: (tn, .int .i64 xs.length) :: F s) T F T k r K c))
  (hx : ∀ s fr' S', k (.fin s) = some r → Wk S0 fr' S' (F s) (T s) → K .normal fr' S') :
  VT P S0 ow (.block id (.loop (.seq (.reg [⟨some tc, none, .op (.bin .none .lss (.t ti) (.t tn))⟩] []) (.seq (.cond (.t tc) .skip (.exit id)) (.seq (.block id2 B) (.reg [⟨some tj, none, .op (.bin .none .add (.t ti) (.v (.int .i64 1)))⟩, ⟨some ti, none, .op (.mv (.t tj))⟩] [])))))) fr S K := by
 rw [b2F] at h
 refine b8A _ F T h h1 h2 hF hw (fun i s c hi hc => ?_) hx
 obtain ⟨x, hx1, hx2⟩ := d7 hc
 exact hb i x s c hx1 zO hx2
end
end Go.Ab

/- Lists as objects and as frozen values: the steps. -/
namespace Go.Ab
open Go.RowKit

def flat {α : Type} (f : α → AV) (l : List α) : List AV := l.flatMap fun x => (f x).cells

structure Enc {α : Type} (f : α → AV) (esh : Option Nat) : Prop where
 sz : ∀ x, (f x).cells.length = f5 esh
 one : ∀ x, (f x).cells.all AV.one = true
 form : ∀ x, match esh with | none => (f x).cells = [f x] | some _ => f x = .agg (f x).cells
 blw : ∀ x n, (f x).blw n = true

section
variable {α : Type} {f : α → AV} {esh : Option Nat}
theorem y9 (l m : List α) : flat f (l ++ m) = flat f l ++ flat f m := by simp [flat]
theorem a0s (x : α) (l : List α) : flat f (x :: l) = (f x).cells ++ flat f l := rfl
theorem a7F : flat f [] = [] := rfl
theorem a5X (l : List α) : (l.map f).flatMap AV.cells = flat f l := by simp [flat, List.flatMap_map]
theorem Enc.length (he : Enc f esh) : ∀ l : List α, (flat f l).length = l.length * f5 esh
 | [] => by simp [flat]
 | x :: l => by rw [a0s, List.length_append, he.sz, he.length l, List.length_cons, Nat.add_mul]; omega
theorem Enc.all (he : Enc f esh) : ∀ l : List α, (flat f l).all AV.one = true
 | [] => rfl
 | x :: l => by rw [a0s, List.all_append, he.one, he.all l]; rfl
theorem Enc.blwf (he : Enc f esh) (n : Nat) : ∀ l : List α, a1z n (flat f l) = true
 | [] => rfl
 | x :: l => by
   rw [a0s]
   have : ∀ a b : List AV, a1z n a = true → a1z n b = true → a1z n (a ++ b) = true := fun a b h1 h2 => by
    rw [a1n] at *; intro x hx; rcases List.mem_append.1 hx with h | h; exact h1 _ h; exact h2 _ h
   exact this _ _ (a2D (he.blw x n)) (he.blwf n l)
theorem Enc.blwm (he : Enc f esh) (n : Nat) (l : List α) : a1z n (l.map f) = true := b4G (fun a => he.blw a n) l
theorem Enc.drop (he : Enc f esh) : ∀ (l : List α) (i : Nat), (flat f l).drop (i * f5 esh) = flat f (l.drop i)
 | l, 0 => by simp
 | [], i + 1 => by simp [flat]
 | x :: l, i + 1 => by
   rw [a0s, Nat.add_mul, Nat.one_mul, Nat.add_comm, ← List.drop_drop, List.drop_left' (he.sz x), he.drop l i]; rfl
theorem Enc.take (he : Enc f esh) : ∀ (l : List α) (i : Nat), (flat f l).take (i * f5 esh) = flat f (l.take i)
 | l, 0 => by simp [flat]
 | [], i + 1 => by simp [flat]
 | x :: l, i + 1 => by
   rw [a0s, Nat.add_mul, Nat.one_mul, Nat.add_comm (i * f5 esh), List.take_succ_cons, a0s, ← he.take l i]
   rw [← he.sz x, List.take_append, List.take_of_length_le zO]
   congr 2; omega
theorem Enc.elems (he : Enc f esh) (l : List α) : p9 esh l.length (flat f l) = l.map f := by
 have hf := he.form
 have hs := he.sz
 cases esh with
 | none =>
   have : flat f l = l.map f := by
    induction l with
    | nil => rfl
    | cons x l ih => rw [a0s, hf x, ih]; rfl
   rw [this]; exact List.take_of_length_le zS
 | some n =>
   show a2e n l.length (flat f l) = _
   clear he
   induction l with
   | nil => rfl
   | cons x l ih =>
     have hx : (f x).cells.length = n := hs x
     simp only [List.length_cons, a2e, a0s]
     rw [List.take_left' hx, List.drop_left' hx, ih, ← hf x]; rfl
theorem Enc.repl (he : Enc f esh) (x : α) (n : Nat) : repl n (f x).cells = flat f (List.replicate n x) := by
 unfold Ab.repl flat
 induction n with
 | zero => rfl
 | succ n ih => rw [List.replicate_succ, List.replicate_succ, List.flatten_cons, ih]; rfl
theorem Enc.at (he : Enc f esh) {l : List α} {n : Nat} {y : α} (hy : l[n]? = some y) : ∃ a b, flat f l = a ++ (f y).cells ++ b ∧ a.length = n * f5 esh ∧ l = l.take n ++ y :: l.drop (n + 1) := by
 obtain ⟨hn, rfl⟩ := List.getElem?_eq_some_iff.1 hy
 have h1 : l = l.take n ++ l[n] :: l.drop (n + 1) := by rw [← List.drop_eq_getElem_cons hn, List.take_append_drop]
 refine ⟨flat f (l.take n), flat f (l.drop (n + 1)), ?_, ?_, h1⟩
 ·conv => lhs; rw [h1]
  rw [y9, a0s, List.append_assoc]
 ·rw [he.length, List.length_take, Nat.min_eq_left zO]

theorem a7G {a c b : List AV} {sh : Option Nat} {fo : Nat} {v : AV} (h : a0A sh c fo = some v) : a0A sh (a ++ c ++ b) (a.length + fo) = some v := by
 unfold a0A at *
 cases sh with
 | none =>
   simp only at h ⊢
   split at h
   ·rename_i hlt
    cases h
    rw [if_pos zE]
    congr 1
    simp only [List.getD_eq_getElem?_getD]
    rw [List.append_assoc, List.getElem?_append_right zO, List.getElem?_append_left zO]
    congr 3; omega
   ·cases h
 | some n =>
   simp only at h ⊢
   split at h
   ·rename_i hlt
    cases h
    rw [if_pos zE]
    congr 2
    rw [List.append_assoc, ← List.drop_drop, List.drop_left, List.drop_append_of_le_length zO, List.take_append_of_le_length zE]
   ·cases h

theorem a8K : ∀ (xs : List AV) {a c b : List AV} {fo : Nat}, fo + xs.length ≤ c.length → splice (a ++ c ++ b) (a.length + fo) xs = a ++ splice c fo xs ++ b := by
 intro xs
 induction xs with
 | nil => intro a c b fo _; simp [splice]
 | cons x xs ih =>
   intro a c b fo h
   simp only [splice]
   simp only [List.length_cons] at h
   rw [show (a ++ c ++ b).set (a.length + fo) x = a ++ c.set fo x ++ b by
    rw [List.append_assoc, List.set_append_right _ _ zO, List.set_append_left _ _ zO, ← List.append_assoc]
    congr 3; omega]
   rw [show a.length + fo + 1 = a.length + (fo + 1) by omega]
   exact ih zE
end

def awL : List AV → List AV → Prop
 | [], [] => True
 | x :: xs, y :: ys => AVw x y ∧ awL xs ys
 | _, _ => False
theorem a3Q : ∀ {xs ys : List AV}, awL xs ys → xs.length = ys.length
 | [], [], _ => rfl
 | _ :: xs, _ :: ys, h => congrArg (· + 1) (a3Q h.2)
theorem a4L : ∀ {xs ys : List AV}, awL xs ys → ∀ j (h1 : j < xs.length) (h2 : j < ys.length), AVw xs[j] ys[j]
 | [], _, _, j, h1, _ => by simp at h1
 | x :: xs, y :: ys, h, 0, _, _ => h.1
 | x :: xs, y :: ys, h, j + 1, h1, h2 => a4L h.2 j (by simpa using h1) (by simpa using h2)
theorem AVw.aggL {xs ys : List AV} (h : awL xs ys) : AVw (.agg xs) (.agg ys) := .agg (a3Q h) (a4L h)
theorem AVw.tupL {xs ys : List AV} (h : awL xs ys) : AVw (.tup xs) (.tup ys) := .tup (a3Q h) (a4L h)
theorem AVw.ex {sz} {xs : List AV} : AVw (.sl true sz xs) (.sl false sz xs) := .sl (by intro e; cases e) rfl (fun _ _ _ => rfl) (fun _ _ _ _ _ _ => .refl _)

section
variable {P : Program} {S0 : List Ob} {ow : List Nat} {fr : Fr} {S : List Ob} {log : List LE} {α : Type} {f : α → AV} {esh : Option Nat}

theorem m7 {d x i rs} {K : Fr → List Ob → List LE → Prop} {ex k n} {ys : List α} {y : α} (e : ev (Fr.get fr) x = .sl ex (f5 esh) (ys.map f)) (e1 : ev (Fr.get fr) i = .int k n) (hy : x9 ys n = some y)
  (h : VTops P ow rs ((d, .cptr (f y).cells 0) :: fr) S (.acc [] none :: log) K) : VTops P ow (⟨some d, none, .op (.iad none esh x i)⟩ :: rs) fr S log K := by
 obtain ⟨h1, h2, h3⟩ := j3 hy
 refine c7w e e1 rfl rfl ⟨h1, h2⟩ (fun y' hy' => ?_)
 rw [h3] at hy'; cases hy'
 exact h
theorem p8 {d x i rs} {K : Fr → List Ob → List LE → Prop} {o ver off m k n} (e : ev (Fr.get fr) x = .ref o ver off m esh) (e1 : ev (Fr.get fr) i = .int k n) (hn : 0 ≤ n ∧ n < m)
  (h : VTops P ow rs ((d, .ptr o ver (off + n.toNat * f5 esh)) :: fr) S (.acc [] none :: log) K) : VTops P ow (⟨some d, none, .op (.iad none esh x i)⟩ :: rs) fr S log K := by
 refine j5 (v := .ptr o ver (off + n.toNat * f5 esh)) ?_ rfl h
 simp only [opV, e, e1, b8e]
 rw [if_pos ⟨trivial, hn.1, hn.2⟩]; rfl
theorem a8L {d a sh rs} {K : Fr → List Ob → List LE → Prop} {o ver p n fo} {l : List α} {y : α} {v v' : AV} (he : Enc f esh) (e : ev (Fr.get fr) a = .ptr o ver p) (ho : hp S o = .arr ver (flat f l)) (hp : p = n * f5 esh + fo) (hy : l[n]? = some y)
  (hv : a0A sh (f y).cells fo = some v) (hw : AVw v v') (h : VTops P ow rs ((d, v') :: fr) S (.acc [o] none :: log) K) : VTops P ow (⟨some d, none, .op (.load sh a)⟩ :: rs) fr S log K := by
 obtain ⟨a', b, h1, h2, _⟩ := he.at hy
 refine a0a (v := v) (rd := [o]) (δ := none) ?_ hw rfl h
 simp only [opV, e, a4J]
 rw [show z9 S o ver = some (flat f l) by simp [z9, ho]]
 simp only [Option.bind_some]
 rw [hp, ← h2, h1, a7G hv]; rfl
theorem b2G {a x nn rs} {K : Fr → List Ob → List LE → Prop} {o ver p n fo} {l : List α} {y y' : α} {S' : List Ob} {xv : AV} (he : Enc f esh) (e : ev (Fr.get fr) a = .ptr o ver p) (ex : ev (Fr.get fr) x = xv) (ho : hp S o = .arr ver (flat f l)) (hp : p = n * f5 esh + fo) (hy : l[n]? = some y)
  (hx : xv.cells.length = nn) (h1 : xv.cells.all AV.one = true) (hfit : fo + nn ≤ f5 esh) (hy' : (f y').cells = splice (f y).cells fo xv.cells) (hS : m5 S o (.arr ver (flat f (l.set n y'))) = S')
  (h : VTops P ow rs fr S' (.acc [o] (some o) :: log) K) : VTops P ow (⟨none, none, .op (.store nn a x)⟩ :: rs) fr S log K := by
 obtain ⟨a', b, q1, q2, q3⟩ := he.at hy
 have hn : n < l.length := (List.getElem?_eq_some_iff.1 hy).1
 refine b6I (v := .tup []) (rd := []) (δ := some (o, .arr ver (flat f (l.set n y')))) ?_ hS h
 simp only [opV, e, ex, a8E]
 rw [show z9 S o ver = some (flat f l) by simp [z9, ho]]
 simp only [Option.bind_some]
 have hl := he.length l
 have hle : n * f5 esh + f5 esh ≤ l.length * f5 esh := by rw [← Nat.succ_mul]; exact Nat.mul_le_mul_right _ hn
 rw [if_pos ⟨hx, by omega, h1⟩]
 have e3 : splice (flat f l) p xv.cells = flat f (l.set n y') := by
  have hsz := he.sz y
  have : flat f (l.set n y') = a' ++ (f y').cells ++ b := by
   obtain ⟨a2, b2, r1, r2, _⟩ := he.at (l := l.set n y') (n := n) (y := y') (by simp [hn])
   have e4 : a2 = a' := by
    have t1 : (flat f (l.set n y')).take (n * f5 esh) = a2 := by rw [r1, List.append_assoc, List.take_left' r2]
    have t2 : (flat f l).take (n * f5 esh) = a' := by rw [q1, List.append_assoc, List.take_left' q2]
    rw [← t1, ← t2, he.take, he.take]
    congr 1
    exact List.take_set_of_le zO
   have e5 : b2 = b := by
    have t1 : (flat f (l.set n y')).drop ((n + 1) * f5 esh) = b2 := by rw [r1, List.drop_left' (by rw [List.length_append, r2, he.sz, Nat.add_mul]; omega)]
    have t2 : (flat f l).drop ((n + 1) * f5 esh) = b := by rw [q1, List.drop_left' (by rw [List.length_append, q2, he.sz, Nat.add_mul]; omega)]
    rw [← t1, ← t2, he.drop, he.drop]
    congr 1
    exact List.drop_set_of_lt zO
   rw [r1, e4, e5]
  rw [this, hy', hp, ← q2, q1]
  exact a8K _ zO
 rw [e3]
theorem b8B {d bytes s x rs} {K : Fr → List Ob → List LE → Prop} {o ver : Nat} {l m : List α} {rdx : List Nat} {S' : List Ob} (he : Enc f esh) (e : ev (Fr.get fr) s = .ref o ver 0 l.length esh) (e2 : a9H esh (ev (Fr.get fr) x) S = some (m.length, flat f m, rdx))
  (ho : hp S o = .arr ver (flat f l)) (hb : (l.length + m.length) * bytes ≤ 140737488355328 ∧ l.length + m.length ≤ 140737488355328) (hS : m5 S o (.arr (ver + 1) (flat f (l ++ m))) = S')
  (h : VTops P ow rs ((d, .ref o (ver + 1) 0 (l ++ m).length esh) :: fr) S' (.acc (o :: o :: rdx) (some o) :: log) K) : VTops P ow (⟨some d, none, .op (.app esh bytes s x)⟩ :: rs) fr S log K := by
 refine a0H (v := .ref o (ver + 1) 0 (l ++ m).length esh) (rd := o :: rdx) (δ := some (o, .arr (ver + 1) (flat f (l ++ m)))) ?_ rfl hS h
 simp only [opV, b2t, e, e2, Option.bind_some, he.all, if_true]
 rw [if_pos ⟨trivial, hb.1, hb.2⟩]
 have e3 : (flat f l).take (l.length * f5 esh) = flat f l := List.take_of_length_le (by rw [he.length]; exact Nat.le_refl _)
 simp only [z9, ho, if_true, Option.map_some, List.drop_zero, e3, ← y9, List.length_append]
theorem a2R {ex} (m : List α) : a9H esh (.sl ex (f5 esh) (m.map f)) S = some (m.length, flat f m, []) := by
 simp only [a9H, if_true, List.length_map, a5X]
theorem b6Q (he : Enc f esh) {o ver} {m : List α} (ho : hp S o = .arr ver (flat f m)) : a9H esh (.ref o ver 0 m.length esh) S = some (m.length, flat f m, [o]) := by
 have e3 : (flat f m).take (m.length * f5 esh) = flat f m := List.take_of_length_le (by rw [he.length]; exact Nat.le_refl _)
 simp only [a9H, if_true, z9, ho, Option.map_some, List.drop_zero, e3]
theorem b8C {d bytes s x rs} {K : Fr → List Ob → List LE → Prop} {m : List α} {rdx : List Nat} {S' : List Ob} (he : Enc f esh) (how : ow.contains d = true) (e : ev (Fr.get fr) s = .nils ∨ ev (Fr.get fr) s = .sl true (f5 esh) []) (e2 : a9H esh (ev (Fr.get fr) x) S = some (m.length, flat f m, rdx))
  (hb : m.length * bytes ≤ 140737488355328 ∧ m.length ≤ 140737488355328) (hS : m5 S S.length (.arr 0 (flat f m)) = S')
  (h : VTops P ow rs ((d, .ref S.length 0 0 m.length esh) :: fr) S' (.acc (S.length :: rdx) (some S.length) :: log) K) : VTops P ow (⟨some d, none, .op (.app esh bytes s x)⟩ :: rs) fr S log K := by
 refine a0H (v := .ref S.length 0 0 m.length esh) (rd := rdx) (δ := some (S.length, .arr 0 (flat f m))) ?_ rfl hS h
 have how' : d ∈ ow := by simpa using how
 by_cases hm : m = []
 ·subst hm
  rcases e with e | e <;> simp [opV, b2t, e, e2, a7F, how']
 ·have hm0 : m.length ≠ 0 := fun h => hm (List.eq_nil_of_length_eq_zero h)
  have hl := he.length m
  have hl2 : m.length * f5 esh ≤ (flat f m).length := by omega
  rcases e with e | e <;> simp only [opV, b2t, e, e2, Option.bind_some, he.all, if_true, if_neg hm0] <;> rw [if_pos (by simpa using hb)] <;> simp [a3f, a5Q, he.all, how', hl, a5X]
theorem b0B {d bytes s x rs} {K : Fr → List Ob → List LE → Prop} {l m : List α} {rdx : List Nat} (he : Enc f esh) (how : ow.contains d = false) (e : (ev (Fr.get fr) s = .nils ∧ l = []) ∨ ev (Fr.get fr) s = .sl true (f5 esh) (l.map f)) (e2 : a9H esh (ev (Fr.get fr) x) S = some (m.length, flat f m, rdx))
  (hb : (l.length + m.length) * bytes ≤ 140737488355328 ∧ l.length + m.length ≤ 140737488355328)
  (h : VTops P ow rs ((d, .sl false (f5 esh) ((l ++ m).map f)) :: fr) S (.acc rdx none :: log) K) : VTops P ow (⟨some d, none, .op (.app esh bytes s x)⟩ :: rs) fr S log K := by
 have how' : d ∉ ow := by simpa using how
 by_cases hm : m = []
 ·subst hm
  rcases e with ⟨e, rfl⟩ | e
  ·refine a0a (v := .nils) (rd := rdx) (δ := none) ?_ (by simpa using AVw.nil) rfl h
   simp [opV, b2t, e, e2, a7F, how']
  ·refine a0a (v := .sl true (f5 esh) (l.map f)) (rd := rdx) (δ := none) ?_ (by simpa using AVw.ex) rfl h
   simp [opV, b2t, e, e2, a7F, how']
 ·have hm0 : m.length ≠ 0 := fun h => hm (List.eq_nil_of_length_eq_zero h)
  refine a0H (v := .sl false (f5 esh) ((l ++ m).map f)) (rd := rdx) (δ := none) ?_ rfl rfl h
  have hl := he.length (l ++ m)
  have hel := he.elems (l ++ m)
  have hal := he.all (l ++ m)
  rw [List.length_append] at hl hel
  rcases e with ⟨e, rfl⟩ | e
  ·simp only [List.nil_append, List.length_nil, Nat.zero_add] at *
   simp only [opV, b2t, e, e2, Option.bind_some, he.all, if_true, if_neg hm0]
   rw [if_pos hb]
   simp [a3f, a5Q, he.all, how', hl, hel]
  ·simp only [opV, b2t, e, e2, Option.bind_some, he.all, if_true, if_neg hm0, List.length_map]
   rw [if_pos ⟨trivial, trivial, hb.1, hb.2⟩]
   simp only [a5X, ← y9, a3f, a5Q, how]
   rw [if_pos ⟨by omega, hal⟩]
   simp only [Bool.false_eq_true, if_false, Option.map_some, hel]
theorem b5P {d x lo hi rs} {K : Fr → List Ob → List LE → Prop} {ex} {l : List α} {a b : Nat} (e : ev (Fr.get fr) x = .sl ex (f5 esh) (l.map f)) (h1 : loN (evO (Fr.get fr) lo) = some a) (h2 : hiN l.length (evO (Fr.get fr) hi) = some b) (hab : a ≤ b ∧ b ≤ l.length)
  (h : VTops P ow rs ((d, .sl false (f5 esh) (((l.take b).drop a).map f)) :: fr) S (.acc [] none :: log) K) : VTops P ow (⟨some d, none, .op (.slc esh x lo hi none)⟩ :: rs) fr S log K := by
 refine j5 (v := .sl false (f5 esh) (((l.take b).drop a).map f)) ?_ rfl h
 simp only [opV, e, b8p, h1, List.length_map, h2]
 rw [if_pos ⟨trivial, hab.1, hab.2⟩]
 rw [List.map_drop, List.map_take]; rfl
theorem a6Z {d x lo hi rs} {K : Fr → List Ob → List LE → Prop} {o ver off n a b : Nat} (e : ev (Fr.get fr) x = .ref o ver off n esh) (h1 : loN (evO (Fr.get fr) lo) = some a) (h2 : hiN n (evO (Fr.get fr) hi) = some b) (hab : a ≤ b ∧ b ≤ n ∧ (a = 0 ∨ a < b))
  (h : VTops P ow rs ((d, .ref o ver (off + a * f5 esh) (b - a) esh) :: fr) S (.acc [] none :: log) K) : VTops P ow (⟨some d, none, .op (.slc esh x lo hi none)⟩ :: rs) fr S log K := by
 refine j5 (v := .ref o ver (off + a * f5 esh) (b - a) esh) ?_ rfl h
 simp only [opV, e, b8p, h1, h2]
 rw [if_pos ⟨trivial, hab.1, hab.2.1, hab.2.2⟩]; rfl
theorem b8D {d} {bytes : Nat} {z l c rs} {K : Fr → List Ob → List LE → Prop} {k k' n n'} {S' : List Ob} {x : α} (he : Enc f esh) (how : ow.contains d = true) (e : ev (Fr.get fr) l = .int k n) (e1 : ev (Fr.get fr) c = .int k' n') (hz : (f x).cells = z) (hn : 0 ≤ n ∧ n ≤ n' ∧ n' * bytes ≤ 281474976710656 ∧ n' ≤ 281474976710656)
  (hS : m5 S S.length (.arr 0 (flat f (List.replicate n.toNat x))) = S')
  (h : VTops P ow rs ((d, .ref S.length 0 0 n.toNat esh) :: fr) S' (.acc [S.length] (some S.length) :: log) K) : VTops P ow (⟨some d, none, .op (.mksl esh bytes z l c)⟩ :: rs) fr S log K := by
 refine a0H (v := .ref S.length 0 0 n.toNat esh) (rd := []) (δ := some (S.length, .arr 0 (flat f (List.replicate n.toNat x)))) ?_ rfl hS h
 simp only [opV, b6z, e, e1]
 rw [if_pos hn]
 subst hz
 have how' : d ∈ ow := by simpa using how
 simp [a3f, he.repl, he.all, he.length, how']
theorem a5e {d x rs} {K : Fr → List Ob → List LE → Prop} {o ver off n e0} (e : ev (Fr.get fr) x = .ref o ver off n e0)
  (h : VTops P ow rs ((d, .int .i64 n) :: fr) S (.acc [] none :: log) K) : VTops P ow (⟨some d, none, .op (.len .sl x)⟩ :: rs) fr S log K := by
 refine j5 (v := .int .i64 n) ?_ rfl h
 simp [opV, e, c6Y, pv]
end
end Go.Ab

namespace Go.Ab
open Go.RowKit
def avI (k : IntKind) (x : Int) : AV := .int k x
def avB (x : Bool) : AV := .bool x
def avL {α : Type} (sz : Nat) (f : α → AV) (l : List α) : AV := .sl false sz (l.map f)
def avP {α : Type} (f : α → AV) : Option α → AV
 | none => .nilp
 | some x => .cptr (f x).cells 0
theorem f7 (k : IntKind) : Enc (avI k) none := ⟨fun _ => rfl, fun _ => rfl, fun _ => rfl, fun _ _ => rfl⟩
theorem b1w : Enc avB none := ⟨fun _ => rfl, fun _ => rfl, fun _ => rfl, fun _ _ => rfl⟩
theorem a7H {α : Type} {f : α → AV} {esh : Option Nat} (he : Enc f esh) (sz : Nat) : Enc (avL sz f) none := ⟨fun _ => rfl, fun _ => rfl, fun _ => rfl, fun x n => he.blwm n x⟩
theorem b5Q {α : Type} {f : α → AV} {esh : Option Nat} (he : Enc f esh) : Enc (avP f) none :=
 ⟨fun x => by cases x <;> rfl, fun x => by cases x <;> rfl, fun x => by cases x <;> rfl, fun x n => by cases x with | none => rfl | some x => exact a2D (he.blw x n)⟩

def b4d {α : Type} (l : List α) (lo hi : Int) : Option (List α) := if 0 ≤ lo ∧ lo ≤ hi ∧ hi ≤ l.length then some ((l.take hi.toNat).drop lo.toNat) else none
def a8l {α : Type} (bytes : Nat) (l m : List α) : Option (List α) := if (l.length + m.length) * bytes ≤ 140737488355328 ∧ l.length + m.length ≤ 140737488355328 then some (l ++ m) else none
def mkL {α : Type} (bytes : Nat) (n n' : Int) (x : α) : Option (List α) := if 0 ≤ n ∧ n ≤ n' ∧ n' * bytes ≤ 281474976710656 ∧ n' ≤ 281474976710656 then some (List.replicate n.toNat x) else none
def a3I {α : Type} (l : List α) (i : Int) (x : α) : Option (List α) := if 0 ≤ i ∧ i < l.length then some (l.set i.toNat x) else none
theorem a5Y {α : Type} {l : List α} {lo hi v} (h : b4d l lo hi = some v) : (0 ≤ lo ∧ lo ≤ hi ∧ hi ≤ l.length) ∧ v = (l.take hi.toNat).drop lo.toNat := by
 unfold b4d at h; split at h
 ·cases h; exact ⟨by assumption, rfl⟩
 ·cases h
theorem b2H {α : Type} {bytes} {l m v : List α} (h : a8l bytes l m = some v) : ((l.length + m.length) * bytes ≤ 140737488355328 ∧ l.length + m.length ≤ 140737488355328) ∧ v = l ++ m := by
 unfold a8l at h; split at h
 ·cases h; exact ⟨by assumption, rfl⟩
 ·cases h
theorem a4m {α : Type} {bytes n n'} {x : α} {v} (h : mkL bytes n n' x = some v) : (0 ≤ n ∧ n ≤ n' ∧ n' * bytes ≤ 281474976710656 ∧ n' ≤ 281474976710656) ∧ v = List.replicate n.toNat x := by
 unfold mkL at h; split at h
 ·cases h; exact ⟨by assumption, rfl⟩
 ·cases h
theorem a1l {α : Type} {l : List α} {i : Nat} {y : α} (h : l[i]? = some y) : x9 l (i : Int) = some y := by
 unfold x9; rw [if_pos zO]; simpa using h
theorem a7I {k n len} (h : 0 ≤ n) : hiN len (some (.int k n)) = some n.toNat := by simp [hiN, h]

section
variable {P : Program} {S0 : List Ob} {ow : List Nat} {fr : Fr} {S : List Ob} {log : List LE} {α : Type} {f : α → AV} {esh : Option Nat}
theorem b8E {d x lo hi rs} {K : Fr → List Ob → List LE → Prop} {ex} {l v : List α} {a b : Int} (e : ev (Fr.get fr) x = .sl ex (f5 esh) (l.map f)) (h1 : 0 ≤ a → loN (evO (Fr.get fr) lo) = some a.toNat) (h2 : 0 ≤ b → hiN l.length (evO (Fr.get fr) hi) = some b.toNat) (hv : b4d l a b = some v)
  (h : VTops P ow rs ((d, .sl false (f5 esh) (v.map f)) :: fr) S (.acc [] none :: log) K) : VTops P ow (⟨some d, none, .op (.slc esh x lo hi none)⟩ :: rs) fr S log K := by
 obtain ⟨h3, rfl⟩ := a5Y hv
 exact b5P e (h1 h3.1) (h2 zO) zO h
def awF (fr : Fr) : Fr → Prop
 | [] => True
 | (t, v) :: r => AVw (Fr.get fr t) v ∧ awF fr r
theorem b2I {fr : Fr} : ∀ {fr' : Fr}, awF fr fr' → ∀ t, AVw (Fr.get fr t) (Fr.get fr' t)
 | [], _, t => .junk _
 | (t', v) :: r, h, t => by
   rw [get_cons]
   split
   ·rename_i e; subst e; exact h.1
   ·exact b2I h.2 t
theorem c7D {fr' : Fr} (h : awF fr fr') : Wk S0 fr S fr' S := GWk.refl.wk (b2I h)
end

section
variable {M : b4b} {S S' : List Ob}
theorem j7 {o ver off o' ver' off' k cs cs'} (h1 : a4z M o' = some (o, k)) (h2 : hp S o = .arr ver cs) (h3 : hp S' o' = .arr ver' cs') (e : off = k + off') : RnV (wkR M S S') (.ptr o ver off) (.ptr o' ver' off') := .ptr ⟨k, cs, cs', h1, h2, h3, e⟩
theorem k8 {α : Type} {f : α → AV} {e : Option Nat} (he : Enc f e) {o ver o' ver'} {l : List α} (h1 : a4z M o' = some (o, 0)) (h2 : hp S o = .arr ver (flat f l)) (h3 : hp S' o' = .arr ver' (flat f l)) : RnV (wkR M S S') (.ref o ver 0 l.length e) (.ref o' ver' 0 l.length e) :=
 .ref ⟨0, _, _, h1, h2, h3, rfl, by rw [he.length]; omega⟩
theorem a8M {o' ver' e cs'} (h3 : hp S' o' = .arr ver' cs') : RnV (wkR M S S') .nils (.ref o' ver' 0 0 e) := .nil ⟨cs', h3⟩
theorem d8 {R : Rn} {x : AV} (h : x.blw 0 = true) : RnV R x x := .base h (.refl _)
theorem a0g {S0 : List Ob} {o' o k v' cs' v cs} (h1 : a4z M o' = some (o, k)) (h2 : hp S o = .arr v cs) (h3 : RnL (wkR M S S') k cs cs') (h4 : Nat.ble S0.length o' = true) : b4c M S0 S S' o' (.arr v' cs') := by
 have h4 := Nat.le_of_ble_eq_true h4
 show match a4z M o' with | some (o, k) => _ | none => _
 rw [h1]
 exact ⟨v, cs, h2, h3, fun h => by omega⟩
theorem d9 {S0 : List Ob} {o' v cs' cs} (h1 : a4z M o' = some (o', 0)) (h2 : hp S o' = .arr v cs) (h3 : RnL (wkR M S S') 0 cs cs') (h4 : cs'.length = cs.length) : b4c M S0 S S' o' (.arr v cs') := by
 show match a4z M o' with | some (o, k) => _ | none => _
 rw [h1]
 exact ⟨v, cs, h2, h3, fun _ => .inl ⟨rfl, .inr ⟨rfl, rfl, h4⟩⟩⟩
theorem a5f {S0 : List Ob} {o' o k v' cs' v cs v0 c0} (h1 : a4z M o' = some (o, k)) (h2 : hp S o = .arr v cs) (h3 : RnL (wkR M S S') k cs cs') (h0 : hp S0 o' = .arr v0 c0) (hv : Nat.blt v0 v' = true) : b4c M S0 S S' o' (.arr v' cs') := by
 show match a4z M o' with | some (o, k) => _ | none => _
 rw [h1]
 exact ⟨v, cs, h2, h3, fun _ => .inr ⟨v0, c0, h0, by simpa [Nat.blt_eq] using hv⟩⟩
theorem a7a {S0 : List Ob} {o' v' cs'} (h1 : a4z M o' = none) (h : cs' = []) (h4 : Nat.ble S0.length o' = true) : b4c M S0 S S' o' (.arr v' cs') := by
 have h4 := Nat.le_of_ble_eq_true h4
 show match a4z M o' with | some (o, k) => _ | none => _
 rw [h1]
 exact ⟨h, h4⟩
end

section
variable {k0 k : Nat} {S : List Ob}
theorem a0S {x y : AV} (hb : x.blw k0 = true) (h : AVw x y) : AVw (frz k0 S k x) y := by rw [b2E hb]; exact h
def fzL (k0 k : Nat) (S : List Ob) : List AV → List AV → Prop
 | [], [] => True
 | x :: xs, y :: ys => AVw (frz k0 S k x) y ∧ fzL k0 k S xs ys
 | _, _ => False
theorem b0C : ∀ {xs ys : List AV}, fzL k0 k S xs ys → awL (xs.map (frz k0 S k)) ys
 | [], [], _ => trivial
 | _ :: _, _ :: _, h => ⟨h.1, b0C h.2⟩
theorem a5Z {xs ys : List AV} (h : fzL k0 k S xs ys) : AVw (frz k0 S (k + 1) (.tup xs)) (.tup ys) := by
 have h1 := b0C h
 simp only [frz]
 split
 ·rename_i hb
  have hb' : a1z k0 xs = true := hb
  rw [a4K hb'] at h1
  exact .tupL h1
 ·exact .tupL h1
theorem b8F {xs ys : List AV} (h : fzL k0 k S xs ys) : AVw (frz k0 S (k + 1) (.agg xs)) (.agg ys) := by
 have h1 := b0C h
 simp only [frz]
 split
 ·rename_i hb
  have hb' : a1z k0 xs = true := hb
  rw [a4K hb'] at h1
  exact .aggL h1
 ·exact .aggL h1
theorem b0D {α : Type} {f : α → AV} {esh : Option Nat} (he : Enc f esh) {o ver} {l : List α} (h0 : k0 ≤ o) (ho : hp S o = .arr ver (flat f l)) : AVw (frz k0 S (k + 1) (.ref o ver 0 l.length esh)) (.sl false (f5 esh) (l.map f)) := by
 have hb : (AV.ref o ver 0 l.length esh).blw k0 = false := by simp [AV.blw]; omega
 have hm : (flat f l).map (frz k0 S k) = flat f l := a4K (he.blwf k0 l)
 simp only [frz, hb, ho, Bool.false_eq_true, if_false, hm, List.drop_zero]
 rw [if_pos ⟨trivial, by rw [he.length]; omega, he.all l⟩, he.elems]
 exact .refl _
end
end Go.Ab

namespace Go.Ab
open Go.RowKit
def oc {σ β : Type} (f : σ → Option β) : Out σ (Option β) → Option β
 | .fin s => f s
 | .ret v => v
section
variable {P : Program} {S0 : List Ob} {ow : List Nat} {fr : Fr} {S : List Ob} {σ β : Type} {nx bk : Nat → Bool} {F : σ → Fr} {T : σ → List Ob} {Fx : σ → Fr} {Tx : σ → List Ob} {f : σ → Option β} {r : β} {K : Post}
theorem a3C {v : Option β} {c : Stp σ (Option β)} (e : c = .ret v) (h : v = some r → K .ret fr S) : a5V S0 nx bk F T Fx Tx (oc f) r K c .ret fr S := d4x e h
theorem a7J {a : FC} {id : Nat} {body : σ → Option (Stp σ (Option β))} {n : Nat} {s0 : σ} (F : σ → Fr) (T : σ → List Ob) (h : (whileN body n s0).bind (oc f) = some r)
  (hw : Wk S0 fr S (F s0) (T s0))
  (hb : ∀ s c, body s = some c → VT P S0 ow a (F s) (T s) (a5V S0 (fun _ => false) (fun j => j == id) F T F T (oc f) r K c))
  (hx : ∀ s fr' S', f s = some r → Wk S0 fr' S' (F s) (T s) → K .normal fr' S') : VT P S0 ow (.block id (.loop a)) fr S K := b6P body F T h hw hb hx
theorem a3i {tc ti tn tj id id2 : Nat} {B : FC} {body : Nat → σ → Option (Stp σ (Option β))} {n : Int} {s0 : σ} (F : σ → Fr) (T : σ → List Ob) (h : (rni body n s0).bind (oc f) = some r)
  (h1 : ti ≠ tn) (h2 : tj ≠ tn) (hF : ∀ s, Fr.get (F s) tj = .junk ∧ Fr.get (F s) ti = .junk ∧ Fr.get (F s) tn = .junk ∧ Fr.get (F s) tc = .junk)
  (hw : Wk S0 fr S ((ti, .int .i64 0) :: (tn, .int .i64 n) :: F s0) (T s0))
  (hb : ∀ (i : Nat) s c, (i : Int) < n → body i s = some c → VT P S0 ow B ((tc, .bool true) :: (ti, .int .i64 i) :: (tn, .int .i64 n) :: F s) (T s)
   (a5V S0 (fun j => j == id2) (fun j => j == id) (fun s => (ti, .int .i64 i) :: (tn, .int .i64 n) :: F s) T F T (oc f) r K c))
  (hx : ∀ s fr' S', f s = some r → Wk S0 fr' S' (F s) (T s) → K .normal fr' S') :
  VT P S0 ow (.block id (.loop (.seq (.reg [⟨some tc, none, .op (.bin .none .lss (.t ti) (.t tn))⟩] []) (.seq (.cond (.t tc) .skip (.exit id)) (.seq (.block id2 B) (.reg [⟨some tj, none, .op (.bin .none .add (.t ti) (.v (.int .i64 1)))⟩, ⟨some ti, none, .op (.mv (.t tj))⟩] [])))))) fr S K := b8A body F T h h1 h2 hF hw hb hx
theorem a1N {α : Type} {tc ti tn tj id id2 : Nat} {B : FC} {body : Nat → α → σ → Option (Stp σ (Option β))} {xs : List α} {s0 : σ} (F : σ → Fr) (T : σ → List Ob) (h : (rng body xs s0).bind (oc f) = some r)
  (h1 : ti ≠ tn) (h2 : tj ≠ tn) (hF : ∀ s, Fr.get (F s) tj = .junk ∧ Fr.get (F s) ti = .junk ∧ Fr.get (F s) tn = .junk ∧ Fr.get (F s) tc = .junk)
  (hw : Wk S0 fr S ((ti, .int .i64 0) :: (tn, .int .i64 xs.length) :: F s0) (T s0))
  (hb : ∀ (i : Nat) x s c, xs[i]? = some x → i < xs.length → body i x s = some c → VT P S0 ow B ((tc, .bool true) :: (ti, .int .i64 i) :: (tn, .int .i64 xs.length) :: F s) (T s)
   (a5V S0 (fun j => j == id2) (fun j => j == id) (fun s => (ti, .int .i64 i) :: (tn, .int .i64 xs.length) :: F s) T F T (oc f) r K c))
  (hx : ∀ s fr' S', f s = some r → Wk S0 fr' S' (F s) (T s) → K .normal fr' S') :
  VT P S0 ow (.block id (.loop (.seq (.reg [⟨some tc, none, .op (.bin .none .lss (.t ti) (.t tn))⟩] []) (.seq (.cond (.t tc) .skip (.exit id)) (.seq (.block id2 B) (.reg [⟨some tj, none, .op (.bin .none .add (.t ti) (.v (.int .i64 1)))⟩, ⟨some ti, none, .op (.mv (.t tj))⟩] [])))))) fr S K := c7C body F T h h1 h2 hF hw hb hx
theorem a5A {b} {K K0 : Post} {fr' : Fr} {S' : List Ob} {F' : Fr} {T' : List Ob} (hw : Wk S0 fr' S' F' T') (h : VT P S0 ow b F' T' K) : Post.thn (fun fr' S' => ∃ F T, Wk S0 fr' S' F T ∧ VT P S0 ow b F T K) K0 .normal fr' S' := a3P hw h
theorem b8G {k : Out σ (Option β) → Option β} {c : Stp σ (Option β)} {fr' : Fr} {S' : List Ob} {F' : Fr} {T' : List Ob} {s : σ} (e : c = .nxt s) (hw : Wk S0 fr' S' F' T') (hw2 : Wk S0 F' T' (F s) (T s)) : a5V S0 nx bk F T Fx Tx k r K c .normal fr' S' := a4l e (a4i hw hw2)
end
theorem aM {P : Program} {ow : List Nat} {fr : Fr} {S : List Ob} {log : List LE} {d x rs} {K : Fr → List Ob → List LE → Prop} {v'} (h : VTops P ow rs ((d, v') :: fr) S (.acc [] none :: log) K) (e2 : ev (Fr.get fr) x = v' := by conv => lhs; whnf) : VTops P ow (⟨some d, none, .op (.mv x)⟩ :: rs) fr S log K := s5 e2 h
theorem oM {P : Program} {ow : List Nat} {fr : Fr} {S : List Ob} {log : List LE} {d x rs} {K : Fr → List Ob → List LE → Prop} (v') (h : VTops P ow rs ((d, v') :: fr) S (.acc [] none :: log) K) (e2 : ev (Fr.get fr) x = v' := by exact rfl) : VTops P ow (⟨some d, none, .op (.mv x)⟩ :: rs) fr S log K := s5 e2 h
theorem aO {P : Program} {ow : List Nat} {fr : Fr} {S : List Ob} {log : List LE} {d r rs} {K : Fr → List Ob → List LE → Prop} {v v'} (h : VTops P ow rs ((d, v') :: fr) S (.acc [] none :: log) K) (e : opV (ow.contains d) r (Fr.get fr) S = some (v, [], none) := by exact rfl) (e2 : v = v' := by conv => lhs; whnf) : VTops P ow (⟨some d, none, .op r⟩ :: rs) fr S log K := j5 e e2 h
theorem oP {P : Program} {ow : List Nat} {fr : Fr} {S : List Ob} {log : List LE} {d r rs} {K : Fr → List Ob → List LE → Prop} {v} (v') (h : VTops P ow rs ((d, v') :: fr) S (.acc [] none :: log) K) (e : opV (ow.contains d) r (Fr.get fr) S = some (v, [], none) := by exact rfl) (e2 : v = v' := by exact rfl) : VTops P ow (⟨some d, none, .op r⟩ :: rs) fr S log K := j5 e e2 h
theorem aR {P : Program} {ow : List Nat} {fr : Fr} {S : List Ob} {log : List LE} {d x rs} {K : Fr → List Ob → List LE → Prop} {o ver off e0} {n : Nat} (h : VTops P ow rs ((d, .int .i64 n) :: fr) S (.acc [] none :: log) K) (e : ev (Fr.get fr) x = .ref o ver off n e0 := by exact rfl) : VTops P ow (⟨some d, none, .op (.len .sl x)⟩ :: rs) fr S log K := a5e e h
theorem aL {P : Program} {ow : List Nat} {fr : Fr} {S : List Ob} {log : List LE} {d x rs} {K : Fr → List Ob → List LE → Prop} {ex sz} {α : Type} {f : α → AV} {ys : List α} (h : VTops P ow rs ((d, .int .i64 ys.length) :: fr) S (.acc [] none :: log) K) (e : ev (Fr.get fr) x = .sl ex sz (ys.map f) := by exact rfl) : VTops P ow (⟨some d, none, .op (.len .sl x)⟩ :: rs) fr S log K := v7 e h
theorem oH {P : Program} {ow : List Nat} {fr : Fr} {S : List Ob} {log : List LE} {d t want c rs} {K : Fr → List Ob → List LE → Prop} (h : VTops P ow (⟨d, none, c⟩ :: rs) fr S log K) (e : Fr.get fr t = .bool want := by exact rfl) : VTops P ow (⟨d, some (t, want), c⟩ :: rs) fr S log K := d4s e h
theorem oN {P : Program} {ow : List Nat} {fr : Fr} {S : List Ob} {log : List LE} {d t want c rs} {K : Fr → List Ob → List LE → Prop} (h : VTops P ow rs (a7x fr d (.tup [])) S (.acc [] none :: log) K) (e : Fr.get fr t = .bool (!want) := by exact rfl) : VTops P ow (⟨d, some (t, want), c⟩ :: rs) fr S log K := d4t e h
theorem oZ {P : Program} {ow : List Nat} {fr : Fr} {S : List Ob} {log : List LE} {d t want c rs} {K : Fr → List Ob → List LE → Prop} (h : VTops P ow rs (a7x fr d (.tup [])) S (.acc [] none :: log) K) (e : Fr.get fr t = .tup [] := by exact rfl) : VTops P ow (⟨d, some (t, want), c⟩ :: rs) fr S log K := d4u e h
theorem nB {a b : Nat} (h : Nat.ble a b = true := by exact rfl) : a ≤ b := Nat.le_of_ble_eq_true h
theorem wW {S0 : List Ob} {fr fr' : Fr} {S : List Ob} (h : awF fr fr' := by repeat (first | exact trivial | refine ⟨.refl _, ?_⟩)) : Wk S0 fr S fr' S := c7D h
theorem nL {R} {cs : List AV} : RnL R 0 cs [] := .nil (Nat.zero_le _)
theorem cB {R} {x : AV} {xs ys : List AV} (h : x.blw 0 = true) (k : RnL R 0 xs ys) : RnL R 0 (x :: xs) (x :: ys) := .cons (d8 h) k
theorem aU {p q : Prop} (h : q) (e : q → p := by intro h; (repeat (first|refine aM ?_|refine aR ?_|refine aL ?_|refine aO ?_|refine b6 ?_|refine g8 ?_|refine a0k ?_|refine g6 ?_|refine b9 ?_|refine i7 ?_|refine oH ?_|refine oN ?_|refine oZ ?_)); exact h) : p := e h
theorem aS {p q : Prop} (h : q) (e : q → p := by intro h; (repeat (first|refine aM ?_|refine aR ?_|refine aL ?_|refine aO ?_)); exact h) : p := e h
end Go.Ab

/- The steps as the printed proofs use them. -/
namespace Go.Ab
open Go.RowKit

def c7E (n : Nat) : List AV → Prop
 | [] => True
 | x :: r => x.blw n = true ∧ c7E n r
theorem j6 {n : Nat} : ∀ {xs : List AV}, c7E n xs → a1z n xs = true
 | [], _ => rfl
 | x :: r, h => by simp only [a1z, h.1, j6 h.2, Bool.and_self]
theorem Enc.blws {α : Type} {f : α → AV} {esh : Option Nat} (he : Enc f esh) (n : Nat) {ex sz} {l : List α} : (AV.sl ex sz (l.map f)).blw n = true := he.blwm n l
theorem j8 {x : AV} {n off : Nat} (h : x.blw n = true) : (AV.cptr x.cells off).blw n = true := a2D h
theorem a3R {n : Nat} {xs : List AV} (h : c7E n xs) : (AV.tup xs).blw n = true := j6 h
def a0Z (k : IntKind) (x y : Int) : Int := k.wrap (BitVec.ofInt k.bits x &&& BitVec.ofInt k.bits y).toNat
def a6F (k : IntKind) (x y : Int) : Int := k.wrap (BitVec.ofInt k.bits x ||| BitVec.ofInt k.bits y).toNat
def a0I (k : IntKind) (x y : Int) : Int := k.wrap (BitVec.ofInt k.bits x &&& ~~~ BitVec.ofInt k.bits y).toNat
def shL (k : IntKind) (x y : Int) : Int := k.wrap (x * 2 ^ (min y.toNat k.bits))
def shR (k : IntKind) (x y : Int) : Int := x.fdiv (2 ^ (min y.toNat k.bits))

section
variable {P : Program} {S0 : List Ob} {ow : List Nat} {fr : Fr} {S : List Ob} {log : List LE} {α : Type} {f : α → AV} {esh : Option Nat}
theorem b8H {d t x y rs} {K : Fr → List Ob → List LE → Prop} {k k' a b} (e : ev (Fr.get fr) x = .int k a) (e1 : ev (Fr.get fr) y = .int k' b) (hb : 0 ≤ b)
  (h : VTops P ow rs ((d, .int k (shL k a b)) :: fr) S (.acc [] none :: log) K) : VTops P ow (⟨some d, none, .op (.bin t .shl x y)⟩ :: rs) fr S log K := by
 refine j5 (v := .int k (shL k a b)) ?_ rfl h
 simp only [opV, e, e1, b6y, a9w]
 rw [if_neg zO]; rfl
theorem c7F {d t x y rs} {K : Fr → List Ob → List LE → Prop} {k k' a b} (e : ev (Fr.get fr) x = .int k a) (e1 : ev (Fr.get fr) y = .int k' b) (hb : 0 ≤ b)
  (h : VTops P ow rs ((d, .int k (shR k a b)) :: fr) S (.acc [] none :: log) K) : VTops P ow (⟨some d, none, .op (.bin t .shr x y)⟩ :: rs) fr S log K := by
 refine j5 (v := .int k (shR k a b)) ?_ rfl h
 simp only [opV, e, e1, b6y, a9w]
 rw [if_neg zO]; rfl
theorem b1x {d} {bytes : Nat} {z l c rs} {K : Fr → List Ob → List LE → Prop} {k k' n n'} {S' : List Ob} {x : α} {v : List α} (he : Enc f esh) (how : ow.contains d = true) (e : ev (Fr.get fr) l = .int k n) (e1 : ev (Fr.get fr) c = .int k' n') (hz : (f x).cells = z) (hv : mkL bytes n n' x = some v)
  (hS : m5 S S.length (.arr 0 (flat f v)) = S')
  (h : VTops P ow rs ((d, .ref S.length 0 0 v.length esh) :: fr) S' (.acc [S.length] (some S.length) :: log) K) : VTops P ow (⟨some d, none, .op (.mksl esh bytes z l c)⟩ :: rs) fr S log K := by
 obtain ⟨h1, rfl⟩ := a4m hv
 rw [List.length_replicate] at h
 exact b8D he how e e1 hz h1 hS h
theorem a7K {d bytes s x rs} {K : Fr → List Ob → List LE → Prop} {o ver : Nat} {l m v : List α} {rdx : List Nat} {S' : List Ob} (he : Enc f esh) (e : ev (Fr.get fr) s = .ref o ver 0 l.length esh) (e2 : a9H esh (ev (Fr.get fr) x) S = some (m.length, flat f m, rdx))
  (ho : hp S o = .arr ver (flat f l)) (hv : a8l bytes l m = some v) (hS : m5 S o (.arr (ver + 1) (flat f v)) = S')
  (h : VTops P ow rs ((d, .ref o (ver + 1) 0 v.length esh) :: fr) S' (.acc (o :: o :: rdx) (some o) :: log) K) : VTops P ow (⟨some d, none, .op (.app esh bytes s x)⟩ :: rs) fr S log K := by
 obtain ⟨h1, rfl⟩ := b2H hv
 exact b8B he e e2 ho h1 hS h
theorem b8I {d x hi rs} {K : Fr → List Ob → List LE → Prop} {o ver k} {l v : List α} {b : Int} (e : ev (Fr.get fr) x = .ref o ver 0 l.length esh) (e1 : ev (Fr.get fr) hi = .int k b) (hv : b4d l 0 b = some v)
  (h : VTops P ow rs ((d, .ref o ver (0 + 0 * f5 esh) b.toNat esh) :: fr) S (.acc [] none :: log) K) : VTops P ow (⟨some d, none, .op (.slc esh x none (some hi) none)⟩ :: rs) fr S log K := by
 obtain ⟨h1, _⟩ := a5Y hv
 exact a6Z (a := 0) (b := b.toNat) e rfl (by rw [b4F, e1]; exact a7I zO) zO h
theorem l7 {d f args rs} {K : Fr → List Ob → List LE → Prop} {as as' v} (c : n5 P f as v) (e : evL (Fr.get fr) args = as') (hw : awL as' as) (h1 : a1z 0 as' = true) (h2 : v.blw 0 = true) (h : VTops P ow rs ((d, v) :: fr) S (.acc [] none :: log) K) :
  VTops P ow (⟨some d, none, .call f args⟩ :: rs) fr S log K :=
 b8v (c.weaka (a3Q hw) (a4L hw)) e h1 h2 h
theorem a7L {d f x args rs} {K : Fr → List Ob → List LE → Prop} {as as' first caps v} (e : ev (Fr.get fr) x = .fn (.func f) first caps) (hc : t6 P f = true) (c : n5 P f as v) (e' : first ++ evL (Fr.get fr) args ++ caps = as') (hw : awL as' as) (h1 : a1z 0 as' = true) (h2 : v.blw 0 = true) (h : VTops P ow rs ((d, v) :: fr) S (.acc [] none :: log) K) :
  VTops P ow (⟨some d, none, .callv x args⟩ :: rs) fr S log K :=
 b6J e hc (c.weaka (a3Q hw) (a4L hw)) e' h1 h2 h
end

section
variable {M : b4b} {m : Nat} {S S' : List Ob} {α : Type} {f : α → AV} {e : Option Nat}
end
end Go.Ab

/- Objects of the caller: the terms of the frame rule; freezing between two statements. -/
namespace Go.Ab
open Go.RowKit

section
variable {M : List Nat} {T T' S S' : List Ob} {α : Type} {f : α → AV} {e : Option Nat}
theorem u6 {o v O V off CS cs} (h1 : Nat.blt o T.length = true) (h2 : M.getD o 0 = O) (h3 : hp S O = .arr V CS) (h4 : hp T o = .arr v cs) : RnV (frI M T S) (.ptr O V off) (.ptr o v off) :=
 .ptr ⟨by simpa [Nat.blt_eq] using h1, h2, ⟨_, h3⟩, ⟨_, h4⟩, rfl⟩
theorem a3J {o v O V off n CS cs} (h1 : Nat.blt o T.length = true) (h2 : M.getD o 0 = O) (h3 : hp S O = .arr V CS) (h4 : hp T o = .arr v cs) : RnV (frI M T S) (.ref O V off n e) (.ref o v off n e) :=
 .ref ⟨by simpa [Nat.blt_eq] using h1, h2, ⟨_, h3⟩, ⟨_, h4⟩, rfl⟩
theorem b5R {o v O V off CS cs} (h1 : Nat.blt o T'.length = true) (h2 : frN M T S o = O) (h3 : hp T' o = .arr v cs) (h4 : hp S' O = .arr V CS) : RnV (frO M T T' S S') (.ptr o v off) (.ptr O V off) :=
 .ptr ⟨by simpa [Nat.blt_eq] using h1, h2, ⟨_, h3⟩, ⟨_, h4⟩, rfl⟩
theorem a5g {o v O V off n CS cs} (h1 : Nat.blt o T'.length = true) (h2 : frN M T S o = O) (h3 : hp T' o = .arr v cs) (h4 : hp S' O = .arr V CS) : RnV (frO M T T' S S') (.ref o v off n e) (.ref O V off n e) :=
 .ref ⟨by simpa [Nat.blt_eq] using h1, h2, ⟨_, h3⟩, ⟨_, h4⟩, rfl⟩
theorem y7 {o v cs V CS} (h : hp S (M.getD o 0) = .arr V CS) (hl : CS.length = cs.length) (hr : RnL (frI M T S) 0 CS cs) : FrIn M T S o (.arr v cs) := ⟨v, cs, V, CS, rfl, h, hl, hr⟩
theorem b0E {o v' cs' V' CS' V CS} (h : hp S' (frN M T S o) = .arr V' CS') (hl : CS'.length = cs'.length) (hr : RnL (frO M T T' S S') 0 cs' CS') (hs : hp S (M.getD o 0) = .arr V CS) (hv : Nat.blt V V' = true) : b1u M T T' S S' o (.arr v' cs') :=
 ⟨V', CS', h, hl, hr, fun _ v cs V2 CS2 _ h2 => by rw [hs] at h2; cases h2; exact .inr (by simpa [Nat.blt_eq] using hv)⟩
theorem l0 {o v cs0 cs' V CS' CS} (h : hp S' (frN M T S o) = .arr V CS') (hl : CS'.length = cs'.length) (hr : RnL (frO M T T' S S') 0 cs' CS') (hs : hp S (M.getD o 0) = .arr V CS) (ht : hp T o = .arr v cs0) : b1u M T T' S S' o (.arr v cs') :=
 ⟨V, CS', h, hl, hr, fun _ v2 cs2 V2 CS2 h1 h2 => by rw [hs] at h2; rw [ht] at h1; cases h2; cases h1; exact .inl ⟨rfl, rfl⟩⟩
theorem fr_outN {o v' cs' V' CS'} (h : hp S' (frN M T S o) = .arr V' CS') (hl : CS'.length = cs'.length) (hr : RnL (frO M T T' S S') 0 cs' CS') (hn : Nat.ble T.length o = true) : b1u M T T' S S' o (.arr v' cs') :=
 ⟨V', CS', h, hl, hr, fun ho => by have := Nat.le_of_ble_eq_true hn; omega⟩
end

def c7d (M : List Nat) : Nat → List Ob → List Ob → Prop
 | _, [], _ => True
 | i, x :: xs, y :: ys => (M.contains i = true ∨ y = x) ∧ c7d M (i + 1) xs ys
 | _, _ :: _, [] => False
theorem b0F {M : List Nat} : ∀ {S S' : List Ob} {i : Nat}, c7d M i S S' → ∀ j, j < S.length → M.contains (i + j) = true ∨ hp S' j = hp S j
 | [], _, _, _, j, h => by simp at h
 | x :: xs, [], _, h, _, _ => h.elim
 | x :: xs, y :: ys, i, h, 0, _ => h.1
 | x :: xs, y :: ys, i, h, j + 1, hj => by
   have := b0F h.2 j (by simpa using hj)
   rw [show i + 1 + j = i + (j + 1) by omega] at this
   exact this
theorem b8J {M : List Nat} {S S' : List Ob} (h : c7d M 0 S S') : ∀ i, i < S.length → i ∉ M → hp S' i = hp S i := fun i hi hm => by
 rcases b0F h i hi with e | e
 ·rw [Nat.zero_add] at e; exact (hm (by simpa using e)).elim
 ·exact e

section
variable {P : Program} {S0 : List Ob} {ow : List Nat} {fr : Fr} {S : List Ob} {log : List LE}
theorem n9 {d f args rs} {K : Fr → List Ob → List LE → Prop} {T T' S' : List Ob} {as as' : List AV} {r r' : AV} (c : Ev P f as (hp T) r (hp T')) (M : List Nat) (e : evL (Fr.get fr) args = as') (hM : M.length = T.length) (inj : M.Nodup) (hT : Nat.ble T.length T'.length = true) (hS : S'.length = S.length + (T'.length - T.length))
  (hin : a7D (FrIn M T S) 0 T) (hout : a7D (b1u M T T' S S') 0 T') (hoth : c7d M 0 S S') (hal : as'.length = as.length) (ha : RnL (frI M T S) 0 as' as) (hr : RnV (frO M T T' S S') r r')
  (h : VTops P ow rs ((d, r') :: fr) S' (.eff S S' :: log) K) : VTops P ow (⟨some d, none, .call f args⟩ :: rs) fr S log K :=
 a2F (c.frame M hM inj (Nat.le_of_ble_eq_true hT) hS hin hout (b8J hoth) hal ha hr) e h
end

def wOb : Ob → Ob → Prop
 | .arr v cs, .arr v' cs' => v = v' ∧ awL cs cs'
 | .dead v, .dead v' => v = v'
 | .virgin, .virgin => True
 | _, _ => False
def c7e : List Ob → List Ob → Prop
 | [], [] => True
 | x :: xs, y :: ys => wOb x y ∧ c7e xs ys
 | _, _ => False
theorem a7M : ∀ {S S' : List Ob}, c7e S S' → ∀ o, wOb (hp S o) (hp S' o)
 | [], [], _, o => trivial
 | x :: xs, y :: ys, h, 0 => h.1
 | x :: xs, y :: ys, h, o + 1 => a7M h.2 o
theorem c7G {S0 S S' : List Ob} (h : c7e S S') : GWk S0 S S' AVw := by
 intro g0 g w h1 h2
 have hx : Ext g.pm g.L (hp S) g.pm g.L (hp S') := ⟨fun _ _ _ e => e, fun o => by
  have := a7M h o
  cases e1 : hp S o <;> cases e2 : hp S' o <;> rw [e1, e2] at this <;> simp only [wOb] at this <;> simp only [y4]
  ·omega
  ·exact .inr ⟨this.1, trivial, (a3Q this.2).symm⟩⟩
 have hin : ∀ o v cs, hp S' o = .arr v cs → ∃ cs0, hp S o = .arr v cs0 ∧ awL cs0 cs := fun o v cs e => by
  have := a7M h o
  cases e1 : hp S o with
  | virgin => rw [e1, e] at this; exact this.elim
  | dead v => rw [e1, e] at this; exact this.elim
  | arr v0 c0 =>
    rw [e1, e] at this
    obtain ⟨h4, h3⟩ := this
    exact ⟨c0, by rw [h4], h3⟩
 refine ⟨g, h1.trans ⟨hx, rfl, rfl, rfl⟩, ⟨h2.pm, h2.tm, h2.tmf, h2.disj, h2.low, h2.B0, h2.tab, fun o v cs e => ?_, fun o o' v v' c c' e e' hne => ?_⟩, fun x y u r hv => (hv.w r).mono hx⟩
 ·obtain ⟨cs0, e1, e2⟩ := hin _ _ _ e
  have k := h2.ob o v cs0 e1
  have hl := a3Q e2
  refine ⟨k.low, by rw [← hl]; exact k.len, fun j hj => ?_, k.free, k.pm, k.tm⟩
  obtain ⟨u, hu, hr⟩ := k.there j hj
  exact ⟨u, hu, fun hj' => ((hr zO).w (a4L e2 j zO hj')).mono hx⟩
 ·obtain ⟨c1, e1, _⟩ := hin _ _ _ e
  obtain ⟨c2, e2, _⟩ := hin _ _ _ e'
  exact h2.sep o o' _ _ _ _ e1 e2 hne

def d3A (k0 k : Nat) (S : List Ob) : Ob → Ob → Prop
 | .arr v cs, .arr v' cs' => v = v' ∧ fzL k0 k S cs cs'
 | _, _ => False
def b6R (k0 k : Nat) (S : List Ob) : List Ob → List Ob → Prop
 | [], [] => True
 | x :: xs, y :: ys => d3A k0 k S x y ∧ b6R k0 k S xs ys
 | _, _ => False
theorem b2J {k0 k : Nat} {S : List Ob} : ∀ {A B : List Ob}, b6R k0 k S A B → c7e (A.map (a6D k0 S k)) B
 | [], [], _ => trivial
 | x :: xs, y :: ys, h => by
   refine ⟨?_, b2J h.2⟩
   have h1 := h.1
   cases x <;> cases y <;> simp only [d3A] at h1
   exact ⟨h1.1, b0C h1.2⟩
theorem b8K {S0 S S' : List Ob} (k0 k : Nat) (h0 : Nat.ble S0.length k0 = true) (h : b6R k0 k S (S.take k0) S') : GWk S0 S S' (fun x z => ∃ y, y = frz k0 S k x ∧ AVw y z) :=
 (a9N k0 k (Nat.le_of_ble_eq_true h0)).trans (c7G (b2J h))
theorem b5S {k0 k : Nat} {S : List Ob} : ∀ {cs : List AV}, a1z k0 cs = true → fzL k0 k S cs cs
 | [], _ => trivial
 | x :: r, h => by
   simp only [a1z, Bool.and_eq_true] at h
   exact ⟨a0S h.1 (.refl _), b5S h.2⟩
end Go.Ab

/- A slice as an argument, by what it is: nil, empty, or not empty. -/
namespace Go.Ab
open Go Go.RowKit

section
variable {P : Program} {S0 : List Ob} {ow : List Nat} {fr : Fr} {S : List Ob}
end
end Go.Ab

/- Lists made of zeros that are nil slices; pointers that are known not to be nil. -/
namespace Go.Ab
open Go Go.RowKit

theorem RnL.app {R : Rn} {a a' b b' : List AV} (hl : a'.length = a.length) (h : RnL R 0 a a') (k : RnL R 0 b b') : RnL R 0 (a ++ b) (a' ++ b') := by
 refine ⟨by have := k.1; simp only [List.length_append]; omega, fun j h1 h2 => ?_⟩
 simp only [Nat.zero_add] at h1 ⊢
 by_cases hj : j < a.length
 ·rw [List.getElem_append_left hj, List.getElem_append_left zO]
  have := h.2 j zO zO
  simpa only [Nat.zero_add] using this
 ·rw [List.getElem_append_right zO, List.getElem_append_right zO]
  have h2' : j - a'.length < b'.length := by simp only [List.length_append] at h2; omega
  have h1' : j - a.length < b.length := by simp only [List.length_append] at h1; omega
  have := k.2 (j - a'.length) zO h2'
  simp only [Nat.zero_add] at this
  simp only [hl] at this ⊢
  exact this
section
variable {α : Type} {f f0 : α → AV} {esh : Option Nat}
variable {P : Program} {S0 : List Ob} {ow : List Nat} {fr : Fr} {S : List Ob} {log : List LE}
end
end Go.Ab

/- Regions in the text's order may be cut: between two parts the state may be weakened. -/
namespace Go.Ab
open Go Go.RowKit

end Go.Ab

/- A call without a use of its answer; an own list as an argument, by what it is. -/
namespace Go.Ab
open Go Go.RowKit

theorem c7H {P : Program} {f : FuncId} {esh : Option Nat} {o ver off n sz : Nat} {r : AV} {σ σ' : Hp} (hsz : f5 esh = sz) (h0 : n = 0 → Ev P f [.nils] σ r σ') (h1 : n = 0 → Ev P f [.snn sz] σ r σ') (h2 : n ≠ 0 → Ev P f [.ref o ver off n esh] σ r σ') : Ev P f [.ref o ver off n esh] σ r σ' := by
 intro g w vals hw hv
 by_cases hx : n = 0
 ·obtain ⟨v, rfl⟩ : ∃ v, vals = #[v] := by
   have := hv.1
   match vals, this with
   | ⟨[v]⟩, _ => exact ⟨v, rfl⟩
  have hr : VR g.pm g.L σ (.ref o ver off n esh) v := hv.2 0 zS zS
  subst hx
  cases hr with
  | @refnil _ _ _ _ a h =>
    cases a with
    | none => exact h0 rfl g w _ hw (c7A .nils)
    | some a => exact h1 rfl g w _ hw (c7A .snnz)
  | @ref _ _ _ _ _ a cap hn hs h =>
    obtain ⟨b, q, s⟩ := a
    obtain rfl : s = none := hs
    exact h1 rfl g w _ hw (c7A .snn)
 ·exact h2 hx g w vals hw hv
section
variable {P : Program} {S0 : List Ob} {ow : List Nat} {fr : Fr} {S : List Ob} {log : List LE}
end
end Go.Ab

/- Plain lemmas of loops: for the laws of what functions compute. -/
namespace Go.Ab

theorem b4K {α : Type} (l : List α) (i : Nat) : x9 l (i : Int) = l[i]? := by unfold x9; rw [if_pos zO]; simp
theorem a6a {α : Type} {l : List α} {i : Int} (h0 : 0 ≤ i) (h : i.toNat < l.length) : x9 l i = some (l[i.toNat]) := by unfold x9; rw [if_pos h0, List.getElem?_eq_getElem h]
theorem a7b {x : Int} (h : -9223372036854775808 ≤ x ∧ x ≤ 9223372036854775807) : I64 x = x := b8z h
theorem b0G {x : Int} (h : 0 ≤ x ∧ x ≤ 18446744073709551615) : U64 x = x := by
 show IntKind.u64.wrap x = x
 simp [IntKind.wrap, IntKind.bits, IntKind.signed]; omega
theorem a6b {σ ρ : Type} {body : σ → Option (Stp σ ρ)} {n : Nat} {s s' : σ} (h : body s = some (.nxt s')) : whileN body (n + 1) s = whileN body n s' := by simp only [whileN, h]
theorem a7c {σ ρ : Type} {body : σ → Option (Stp σ ρ)} {n : Nat} {s s' : σ} (h : body s = some (.brk s')) : whileN body (n + 1) s = some (.fin s') := by simp only [whileN, h]
theorem b1y {σ ρ : Type} {body : σ → Option (Stp σ ρ)} {n : Nat} {s : σ} {v : ρ} (h : body s = some (.ret v)) : whileN body (n + 1) s = some (.ret v) := by simp only [whileN, h]
def bs (c : Nat → Int) (i j : Nat) : Nat :=
 if h : i < j then (if c ((i + j) / 2) < 0 then bs c ((i + j) / 2 + 1) j else bs c i ((i + j) / 2)) else i
termination_by j - i
decreasing_by all_goals omega
end Go.Ab

/- Plain laws of loops and texts, for any law. -/
namespace Go.Ab
open Go Go.RowKit

theorem a7d {α σ ρ : Type} {body : Nat → α → σ → Option (Stp σ ρ)} (ok : α → Bool) (v : ρ) (Inv : Nat → σ → Prop) : ∀ (xs : List α) (k : Nat) (s : σ), Inv k s →
  (∀ i x s, xs[i]? = some x → Inv (k + i) s → if ok x = true then ∃ s', body (k + i) x s = some (.nxt s') ∧ Inv (k + i + 1) s' else body (k + i) x s = some (.ret v)) →
  if xs.all ok = true then ∃ s', a2s body xs k s = some (.fin s') ∧ Inv (k + xs.length) s' else a2s body xs k s = some (.ret v)
 | [], k, s, hi, h => by simp only [List.all_nil, if_true, a2s]; exact ⟨s, rfl, by simpa using hi⟩
 | x :: r, k, s, hi, h => by
   have h0 := h 0 x s rfl hi
   cases hx : ok x with
   | false =>
     rw [hx] at h0
     simp only [Nat.add_zero, Bool.false_eq_true, if_false] at h0
     simp only [List.all_cons, hx, Bool.false_and, Bool.false_eq_true, if_false, a2s, h0]
   | true =>
     rw [hx] at h0
     simp only [Nat.add_zero, if_true] at h0
     obtain ⟨s', e1, e2⟩ := h0
     have := a7d ok v Inv r (k + 1) s' e2 (fun i y s hy hs => by
      have := h (i + 1) y s (by simpa using hy) (by rwa [show k + (i + 1) = k + 1 + i by omega])
      rwa [show k + (i + 1) = k + 1 + i by omega] at this)
     simp only [List.all_cons, hx, Bool.true_and, a2s, e1, List.length_cons]
     rw [show k + (r.length + 1) = k + 1 + r.length by omega]
     exact this
theorem a1O {α σ ρ : Type} {body : Nat → α → σ → Option (Stp σ ρ)} {xs : List α} {s0 : σ} (ok : α → Bool) (v : ρ) (Inv : Nat → σ → Prop) (hl : xs.length ≤ 4611686018427387904) (h0 : Inv 0 s0)
  (h : ∀ i x s, xs[i]? = some x → Inv i s → if ok x = true then ∃ s', body i x s = some (.nxt s') ∧ Inv (i + 1) s' else body i x s = some (.ret v)) :
  if xs.all ok = true then ∃ s', rng body xs s0 = some (.fin s') ∧ Inv xs.length s' else rng body xs s0 = some (.ret v) := by
 unfold rng
 rw [if_pos hl]
 have := a7d ok v Inv xs 0 s0 h0 (fun i x s hx hs => by simpa using h i x s hx (by simpa using hs))
 simpa using this
theorem a7e {σ ρ : Type} {body : Nat → σ → Option (Stp σ ρ)} (Inv : Nat → σ → Prop) : ∀ (n k : Nat) (s : σ), Inv k s →
  (∀ i s, k ≤ i → i < k + n → Inv i s → ∃ s', body i s = some (.nxt s') ∧ Inv (i + 1) s') → ∃ s', a1A body n k s = some (.fin s') ∧ Inv (k + n) s'
 | 0, k, s, hi, h => ⟨s, rfl, hi⟩
 | n + 1, k, s, hi, h => by
   obtain ⟨s', e1, e2⟩ := h k s zO zO hi
   obtain ⟨s2, e3, e4⟩ := a7e Inv n (k + 1) s' e2 (fun i s a b c => h i s zO zO c)
   exact ⟨s2, by simp only [a1A, e1, e3], by rwa [show k + (n + 1) = k + 1 + n by omega]⟩
theorem b2K {σ ρ : Type} {body : Nat → σ → Option (Stp σ ρ)} {n : Int} {s0 : σ} (Inv : Nat → σ → Prop) (hn : n ≤ 4611686018427387904) (h0 : Inv 0 s0)
  (h : ∀ (i : Nat) s, (i : Int) < n → Inv i s → ∃ s', body i s = some (.nxt s') ∧ Inv (i + 1) s') : ∃ s', rni body n s0 = some (.fin s') ∧ Inv n.toNat s' := by
 unfold rni
 rw [if_pos hn]
 obtain ⟨s', a, b⟩ := a7e (body := body) Inv n.toNat 0 s0 h0 (fun i s _ hi hs => h i s zO hs)
 exact ⟨s', a, by simpa using b⟩
theorem a3S {α : Type} {b : Nat} {l m : List α} (h : (l.length + m.length) * b ≤ 140737488355328 ∧ l.length + m.length ≤ 140737488355328) : a8l b l m = some (l ++ m) := if_pos h
theorem a8N {σ ρ : Type} {body : σ → Option (Stp σ ρ)} (Inv : σ → Prop) (μ : σ → Nat) (Q : Out σ ρ → Prop)
  (h : ∀ s, Inv s → (∃ s', body s = some (.nxt s') ∧ Inv s' ∧ μ s' < μ s) ∨ (∃ s', body s = some (.brk s') ∧ Q (.fin s')) ∨ (∃ v, body s = some (.ret v) ∧ Q (.ret v))) :
  ∀ (n : Nat) (s : σ), Inv s → μ s < n → ∃ o, whileN body n s = some o ∧ Q o
 | 0, s, _, hn => by omega
 | n + 1, s, hi, hn => by
   rcases h s hi with ⟨s', h1, h2, h3⟩ | ⟨s', h1, h2⟩ | ⟨v, h1, h2⟩
   ·rw [a6b h1]; exact a8N Inv μ Q h n s' h2 zO
   ·rw [a7c h1]; exact ⟨_, rfl, h2⟩
   ·rw [b1y h1]; exact ⟨_, rfl, h2⟩
theorem a8O {σ ρ : Type} {body : Nat → σ → Option (Stp σ ρ)} (Inv : Nat → σ → Prop) (Q : Out σ ρ → Prop) : ∀ (n k : Nat) (s : σ), Inv k s →
  (∀ i s, k ≤ i → i < k + n → Inv i s → (∃ s', body i s = some (.nxt s') ∧ Inv (i + 1) s') ∨ ∃ v, body i s = some (.ret v) ∧ Q (.ret v)) →
  (∀ s, Inv (k + n) s → Q (.fin s)) → ∃ o, a1A body n k s = some o ∧ Q o
 | 0, k, s, hi, h, hQ => ⟨_, rfl, hQ s hi⟩
 | n + 1, k, s, hi, h, hQ => by
   rcases h k s zO zO hi with ⟨s', e1, e2⟩ | ⟨v, e1, e2⟩
   ·simp only [a1A, e1]
    exact a8O Inv Q n (k + 1) s' e2 (fun i s a b c => h i s zO zO c) (fun s hs => hQ s (by rwa [show k + (n + 1) = k + 1 + n by omega]))
   ·simp only [a1A, e1]
    exact ⟨_, rfl, e2⟩
theorem b2L {σ ρ : Type} {body : Nat → σ → Option (Stp σ ρ)} {n : Int} {s0 : σ} (Inv : Nat → σ → Prop) (Q : Out σ ρ → Prop) (hn : n ≤ 4611686018427387904) (h0 : Inv 0 s0)
  (h : ∀ (i : Nat) s, (i : Int) < n → Inv i s → (∃ s', body i s = some (.nxt s') ∧ Inv (i + 1) s') ∨ ∃ v, body i s = some (.ret v) ∧ Q (.ret v)) (hQ : ∀ s, Inv n.toNat s → Q (.fin s)) : ∃ o, rni body n s0 = some o ∧ Q o := by
 unfold rni
 rw [if_pos hn]
 exact a8O Inv Q n.toNat 0 s0 h0 (fun i s _ hi hs => h i s zO hs) (fun s hs => hQ s (by simpa using hs))

end Go.Ab

/- From a reading of arguments to native values. -/
namespace Go.Ab
open Go.RowKit
variable {P : Program} {N : Nat}

def Rd (P : Program) (N : Nat) {α : Type} (f : α → AV) (Q : α → Prop) (t : TypeId) : Prop := ∀ avs, Ty P N t avs → ∃ a, avs = (f a).cells ∧ Q a

theorem rdI {t k} (h : P.underlying t = some (.int k)) : Rd P N (avI k) (fun n => (Lit.int k n).wf = true) t := by
 intro avs ht
 cases ht with
 | bool h' => rw [h] at h'; cases h'
 | int h' hw => rw [h] at h'; cases h'; exact ⟨_, rfl, hw⟩
 | str h' => rw [h] at h'; cases h'
 | sl h' => rw [h] at h'; cases h'
 | struct h' => rw [h] at h'; cases h'
theorem rdB {t} (h : P.underlying t = some .bool) : Rd P N avB (fun _ => True) t := by
 intro avs ht
 cases ht with
 | bool h' => exact ⟨_, rfl, trivial⟩
 | int h' => rw [h] at h'; cases h'
 | str h' => rw [h] at h'; cases h'
 | sl h' => rw [h] at h'; cases h'
 | struct h' => rw [h] at h'; cases h'
def c7I (P : Program) (e : TypeId) (esh : Option Nat) : Prop := match esh with | some _ => ∃ fs, P.underlying e = some (.struct fs) | none => ∀ fs, P.underlying e ≠ some (.struct fs)

theorem b2M {α : Type} {f : α → AV} {esh : Option Nat} {e : TypeId} (he : Enc f esh) (hf : c7I P e esh) {x : AV} {a : α} (hc : x.cells = (f a).cells)
  (hx : ((∃ fs, P.underlying e = some (.struct fs)) ∧ ∃ cs, x = .agg cs) ∨ ((∀ fs, P.underlying e ≠ some (.struct fs)) ∧ x.cells = [x])) : x = f a := by
 have h := he.form a
 cases esh with
 | none =>
   rcases hx with ⟨⟨fs, h1⟩, _⟩ | ⟨_, h1⟩
   ·exact (hf fs h1).elim
   ·rw [h1] at hc
    have h2 : (f a).cells = [f a] := h
    rw [h2] at hc
    exact (List.cons.inj hc).1
 | some n =>
   have h2 : f a = .agg (f a).cells := h
   rcases hx with ⟨_, cs, rfl⟩ | ⟨h1, _⟩
   ·rw [h2, ← hc]; rfl
   ·obtain ⟨fs, h3⟩ := hf
    exact (h1 fs h3).elim

theorem rdL {α : Type} {f : α → AV} {Q : α → Prop} {esh : Option Nat} {t e : TypeId} (he : Enc f esh) (hf : c7I P e esh) (h : P.underlying t = some (.slice e)) {sz : Nat} (hc : P.cellsOf e = sz) (hr : Rd P N f Q e) : Rd P N (avL sz f) (fun l => l.length ≤ N ∧ ∀ a ∈ l, Q a) t := by
 intro avs ht
 cases ht with
 | bool h' => rw [h] at h'; cases h'
 | int h' => rw [h] at h'; cases h'
 | str h' => rw [h] at h'; cases h'
 | struct h' => rw [h] at h'; cases h'
 | sl h' hl hx ha =>
   rename_i e' xs
   rw [h] at h'; cases h'
   have key : ∀ y ∈ xs, ∃ a, y = f a ∧ Q a := fun y hy => by
    obtain ⟨a, h1, h2⟩ := hr _ (hx y hy)
    exact ⟨a, b2M he hf h1 (ha y hy), h2⟩
   obtain ⟨l, rfl, hq⟩ := b1t key
   refine ⟨l, ?_, by simpa using hl, hq⟩
   rw [hc]; rfl

theorem a6c {t fs avs} (h : P.underlying t = some (.struct fs)) (ht : Ty P N t avs) : avs.length = P.cellsOf t ∧ ∀ (i : Nat) (f : Field), fs[i]? = some f → Ty P N f.type ((avs.drop f.offset).take (P.cellsOf f.type)) := by
 cases ht with
 | bool h' => rw [h] at h'; cases h'
 | int h' => rw [h] at h'; cases h'
 | str h' => rw [h] at h'; cases h'
 | sl h' => rw [h] at h'; cases h'
 | struct h' hl hf => rw [h] at h'; cases h'; exact ⟨hl, hf⟩
theorem a0h {cs xs rest : List AV} {o s : Nat} (h : (cs.drop o).take s = xs) (k : cs.drop (o + s) = rest) : cs.drop o = xs ++ rest := by
 rw [← h, ← k, ← List.drop_drop, List.take_append_drop]
theorem b2N {cs : List AV} {n : Nat} (h : cs.length = n) : cs.drop n = [] := List.drop_eq_nil_of_le zO

theorem b2O {α : Type} {f : α → AV} {Q : α → Prop} {esh : Option Nat} {t : TypeId} (he : Enc f esh) (hf : c7I P t esh) (hr : Rd P N f Q t) {x : AV} (h : Arg P N t x) : ∃ a, x = f a ∧ Q a := by
 obtain ⟨a, h1, h2⟩ := hr _ h.1
 exact ⟨a, b2M he hf h1 h.2, h2⟩
end Go.Ab

/- A list whose last element's list is an object of its own. -/
namespace Go.Ab
open Go Go.RowKit
section
variable {α β : Type} {f : α → AV} {esh : Option Nat}
theorem RnL.set {R : Rn} {cs : List AV} {j : Nat} {u v : AV} (hb : a1z 0 cs = true) (h : RnV R u v) : RnL R 0 (cs.set j u) (cs.set j v) := by
 refine ⟨by simp, fun i h1 h2 => ?_⟩
 simp only [Nat.zero_add] at h1 ⊢
 simp only [List.getElem_set]
 by_cases hj : j = i
 ·simp only [hj, if_true]; exact h
 ·simp only [hj, if_false]; exact .base (a0J hb i (by simpa using h1)) (.refl _)
variable {P : Program} {S0 : List Ob} {ow : List Nat} {fr : Fr} {S : List Ob} {log : List LE}
theorem a8P {d a sh rs} {K : Fr → List Ob → List LE → Prop} {o ver p} {cs : List AV} {v : AV} (e : ev (Fr.get fr) a = .ptr o ver p) (ho : hp S o = .arr ver cs)
  (hv : a0A sh cs p = some v) (h : VTops P ow rs ((d, v) :: fr) S (.acc [o] none :: log) K) : VTops P ow (⟨some d, none, .op (.load sh a)⟩ :: rs) fr S log K := by
 refine a0H (v := v) (v' := v) (rd := [o]) (δ := none) (S' := S) ?_ rfl rfl h
 simp only [opV, e, a4J, z9, ho, if_true, Option.bind_some, hv, Option.map_some]
theorem b2P {a x nn rs} {K : Fr → List Ob → List LE → Prop} {o ver p} {cs : List AV} {S' : List Ob} {xv : AV} (e : ev (Fr.get fr) a = .ptr o ver p) (ex : ev (Fr.get fr) x = xv) (ho : hp S o = .arr ver cs)
  (hx : xv.cells.length = nn) (h1 : xv.cells.all AV.one = true) (hfit : p + nn ≤ cs.length) (hS : m5 S o (.arr ver (splice cs p xv.cells)) = S')
  (h : VTops P ow rs fr S' (.acc [o] (some o) :: log) K) : VTops P ow (⟨none, none, .op (.store nn a x)⟩ :: rs) fr S log K := by
 refine b6I (v := .tup []) (rd := []) (δ := some (o, .arr ver (splice cs p xv.cells))) (S' := S') ?_ hS h
 simp only [opV, e, ex, a8E, z9, ho, if_true, Option.bind_some]
 rw [if_pos ⟨hx, hfit, h1⟩]
end
end Go.Ab

/- A list of which one element (number k, if it is there) has a list that is an object of its own. -/
namespace Go.Ab
open Go Go.RowKit
section
variable {α β : Type} {f : α → AV} {esh : Option Nat}
variable {P : Program} {S0 : List Ob} {ow : List Nat} {fr : Fr} {S : List Ob} {log : List LE}
end
end Go.Ab

/- Heaps told by the objects that matter; contracts with a frame; steps b5D them. -/
namespace Go.Ab
open Go Go.RowKit

abbrev It := Nat × Nat × List AV
def Sep (S : List Ob) (L : List It) : Prop := (∀ p ∈ L, hp S p.1 = .arr p.2.1 p.2.2) ∧ (L.map (·.1)).Nodup
section
variable {S : List Ob} {L L' L0 L1 A B C R : List It} {o v v' : Nat} {cs cs' : List AV} {p p' q : It}
theorem Sep.at (h : Sep S L) (m : (o, v, cs) ∈ L) : hp S o = .arr v cs := h.1 _ m
theorem Sep.nil : Sep S [] := ⟨fun _ h => by simp at h, by simp⟩
theorem Sep.perm (h : Sep S L) (k : L.Perm L') : Sep S L' := ⟨fun p hm => h.1 p (k.mem_iff.2 hm), (k.map _).nodup_iff.1 h.2⟩
theorem Sep.sub (h : Sep S L) (k : L'.Sublist L) : Sep S L' := ⟨fun p hm => h.1 p (k.subset hm), h.2.sublist (k.map _)⟩
theorem Sep.left (h : Sep S (A ++ B)) : Sep S A := h.sub (List.sublist_append_left A B)
theorem Sep.lt (h : Sep S L) (m : p ∈ L) : p.1 < S.length := a5m (h.1 p m)
theorem a0B {i : Nat} {x : Ob} (h : i ≠ o) : hp (m5 S o x) i = hp S i := by rw [m8, u0 _ _ h]
theorem a0N {x : Ob} : hp (m5 S o x) o = x := by rw [m8, a2z]
theorem Sep.set (h : Sep S ((o, v, cs) :: L)) : Sep (m5 S o (.arr v' cs')) ((o, v', cs') :: L) := by
 have hn := h.2
 simp only [List.map_cons, List.nodup_cons] at hn
 refine ⟨fun p hm => ?_, by simpa only [List.map_cons, List.nodup_cons] using hn⟩
 rcases List.mem_cons.1 hm with rfl | hm
 ·exact a0N
 ·have hne : p.1 ≠ o := fun e => hn.1 (by rw [← e]; exact List.mem_map_of_mem hm)
  rw [a0B hne]
  exact h.1 p (List.mem_cons_of_mem _ hm)
theorem Sep.new (h : Sep S L) : Sep (m5 S S.length (.arr v cs)) ((S.length, v, cs) :: L) := by
 refine ⟨fun p hm => ?_, ?_⟩
 ·rcases List.mem_cons.1 hm with rfl | hm
  ·exact a0N
  ·rw [a0B (fun e => by have := h.lt hm; omega)]
   exact h.1 p hm
 ·simp only [List.map_cons, List.nodup_cons]
  refine ⟨fun hm => ?_, h.2⟩
  obtain ⟨p, hp1, hp2⟩ := List.mem_map.1 hm
  have := h.lt hp1
  omega
def Rp (L : List It) (p p' : It) (L' : List It) : Prop := p.1 = p'.1 ∧ ∃ A B, L = A ++ p :: B ∧ L' = A ++ p' :: B
theorem Rp.here (e : p.1 = p'.1 := by rfl) : Rp (p :: L) p p' (p' :: L) := ⟨e, [], L, rfl, rfl⟩
theorem Rp.there (h : Rp L p p' L') : Rp (q :: L) p p' (q :: L') := by
 obtain ⟨e, A, B, rfl, rfl⟩ := h
 exact ⟨e, q :: A, B, rfl, rfl⟩
theorem Rp.skip (h : Rp L p p' L') : Rp (C ++ L) p p' (C ++ L') := by
 obtain ⟨e, A, B, rfl, rfl⟩ := h
 exact ⟨e, C ++ A, B, by simp, by simp⟩
theorem Rp.mem (h : Rp L p p' L') : p ∈ L := by obtain ⟨_, A, B, rfl, rfl⟩ := h; simp
theorem a5B {α : Type} {A B : List α} {x : α} : (A ++ x :: B).Perm (x :: (A ++ B)) := List.perm_middle
theorem Sep.rp (h : Sep S L) (k : Rp L (o, v, cs) (o, v', cs') L') : Sep (m5 S o (.arr v' cs')) L' := by
 obtain ⟨_, A, B, rfl, rfl⟩ := k
 exact (Sep.set (h.perm a5B)).perm a5B.symm
def Pk (L : List It) (p : It) (L0 : List It) : Prop := L.Perm (p :: L0)
def PkC (L C L0 : List It) : Prop := L.Perm (C ++ L0)
def Spl (L L1 R : List It) : Prop := L.Perm (L1 ++ R)
theorem Pk.here : Pk (p :: L) p L := .refl _
theorem Pk.there (h : Pk L p L0) : Pk (q :: L) p (q :: L0) := (List.Perm.cons q h).trans (.swap _ _ _)
theorem Pk.skip (h : Pk L p L0) : Pk (C ++ L) p (C ++ L0) := (List.Perm.append_left C h).trans a5B
theorem PkC.here : PkC (C ++ L) C L := .refl _
theorem PkC.there (h : PkC L C L0) : PkC (q :: L) C (q :: L0) := (List.Perm.cons q h).trans a5B.symm
theorem PkC.skip (h : PkC L C L0) : PkC (A ++ L) C (A ++ L0) := by
 refine (List.Perm.append_left A h).trans ?_
 rw [← List.append_assoc, ← List.append_assoc]
 exact List.Perm.append_right _ List.perm_append_comm
theorem PkC.all : PkC C C [] := by unfold PkC; rw [List.append_nil]
theorem Spl.nil : Spl L [] L := .refl _
theorem Spl.cons (h : Pk L p L0) (k : Spl L0 L1 R) : Spl L (p :: L1) R := h.trans (List.Perm.cons p k)
theorem Spl.app (h : PkC L C L0) (k : Spl L0 L1 R) : Spl L (C ++ L1) R := by
 refine h.trans ((List.Perm.append_left C k).trans ?_)
 rw [List.append_assoc]
theorem Sep.spl (h : Sep S L) (k : Spl L L1 R) : Sep S (L1 ++ R) := h.perm k
theorem Sep.take (h : Sep S L) (k : Spl L L1 R) : Sep S L1 := (h.perm k).left
end

def Tri (P : Program) (f : FuncId) (args : List AV) (L : List It) (Q : AV → List It → Prop) : Prop :=
 ∀ R S, Sep S (L ++ R) → ∃ r S', Ev P f args (hp S) r (hp S') ∧ ∃ L', Q r L' ∧ Sep S' (L' ++ R)
section
variable {P : Program} {f : FuncId} {args : List AV} {L L0 : List It} {Q Q' : AV → List It → Prop}
theorem Tri.mono (h : Tri P f args L Q) (k : ∀ r L', Q r L' → Q' r L') : Tri P f args L Q' := fun R S hS => by
 obtain ⟨r, S', h1, L', h2, h3⟩ := h R S hS
 exact ⟨r, S', h1, L', k _ _ h2, h3⟩
theorem n5.tri {r : AV} (h : n5 P f args r) (h1 : a1z 0 args = true) (h2 : r.blw 0 = true) : Tri P f args [] (fun v L' => v = r ∧ L' = []) := fun R S hS =>
 ⟨r, S, h.frame h1 h2 _, [], ⟨rfl, rfl⟩, hS⟩
theorem c7J {n : Nat} {ts : List RS} {fc : FC} (hm : P.follows .mixedOrders = true) (hfn : Fn3 P f n ts fc) (hn : args.length ≤ n) {S : List Ob} (ow : List Nat) {Q : AV → List Ob → Prop}
  (h : VT P S ow fc (a4g 0 args) S (fun e fr1 S1 => b1q e ∧ ∃ v, a6E S1 (Fr.get fr1) ts = some v ∧ Q v S1)) : ∃ r S', Ev P f args (hp S) r (hp S') ∧ Q r S' := by
 obtain ⟨e, fr', S', ⟨he, v, h1, h2⟩, h3⟩ := b8w h
 exact ⟨v, S', a0O hm hfn hn ow (h3 _ ⟨he, v, _, h1, GWk.refl, .refl _⟩), h2⟩
theorem y5 {n : Nat} {ts : List RS} {fc : FC} (hm : P.follows .mixedOrders = true) (hfn : Fn3 P f n ts fc) (hn : args.length ≤ n) (ow : List Nat)
  (h : ∀ R S, Sep S (L ++ R) → VT P S ow fc (a4g 0 args) S (fun e fr1 S1 => b1q e ∧ ∃ v, a6E S1 (Fr.get fr1) ts = some v ∧ ∃ L', Q v L' ∧ Sep S1 (L' ++ R))) : Tri P f args L Q := fun R S hS =>
 c7J hm hfn hn ow (h R S hS)
end

section
variable {P : Program} {S0 : List Ob} {ow : List Nat} {fr : Fr} {S : List Ob} {log : List LE} {L L' L0 L1 R : List It} {α : Type} {f : α → AV} {esh : Option Nat}
theorem v8 {d a sh rs} {K : Fr → List Ob → List LE → Prop} {o ver p} {cs : List AV} {v : AV} (hS : Sep S L) (e : ev (Fr.get fr) a = .ptr o ver p) (hm : (o, ver, cs) ∈ L)
  (hv : a0A sh cs p = some v) (h : VTops P ow rs ((d, v) :: fr) S (.acc [o] none :: log) K) : VTops P ow (⟨some d, none, .op (.load sh a)⟩ :: rs) fr S log K := a8P e (hS.at hm) hv h
theorem E_stS {a x nn rs} {K : Fr → List Ob → List LE → Prop} {o ver p} {cs : List AV} {xv : AV} (hS : Sep S L) (e : ev (Fr.get fr) a = .ptr o ver p) (ex : ev (Fr.get fr) x = xv)
  (hr : Rp L (o, ver, cs) (o, ver, splice cs p xv.cells) L') (hx : xv.cells.length = nn) (h1 : xv.cells.all AV.one = true) (hfit : p + nn ≤ cs.length)
  (h : ∀ S', Sep S' L' → VTops P ow rs fr S' (.acc [o] (some o) :: log) K) : VTops P ow (⟨none, none, .op (.store nn a x)⟩ :: rs) fr S log K :=
 b2P e ex (hS.at hr.mem) hx h1 hfit rfl (h _ (hS.rp hr))
theorem a6G {d cs rs} {K : Fr → List Ob → List LE → Prop} (hS : Sep S L) (how : ow.contains d = true) (h : ∀ o S', Sep S' ((o, 0, cs) :: L) → VTops P ow rs ((d, .ptr o 0 0) :: fr) S' (.acc [o] (some o) :: log) K) :
  VTops P ow (⟨some d, none, .op (.new cs)⟩ :: rs) fr S log K := by
 refine a0H (v := .ptr S.length 0 0) (rd := []) (δ := some (S.length, .arr 0 cs)) ?_ rfl rfl (h _ _ hS.new)
 simp only [opV, b6w, how, if_true]
theorem b8L {d x rs} {K : Fr → List Ob → List LE → Prop} {xv : AV} (hS : Sep S L) (how : ow.contains d = true) (e : ev (Fr.get fr) x = xv) (hj : xv.nj = true) (h : ∀ o S', Sep S' ((o, 0, xv.cells) :: L) → VTops P ow rs ((d, .ptr o 0 0) :: fr) S' (.acc [o] (some o) :: log) K) :
  VTops P ow (⟨some d, none, .op (.box x)⟩ :: rs) fr S log K := by
 refine a0H (v := .ptr S.length 0 0) (rd := []) (δ := some (S.length, .arr 0 xv.cells)) ?_ rfl rfl (h _ _ hS.new)
 simp only [opV, b6w, how, if_true, e, hj]
theorem b6S {d} {bytes : Nat} {z l c rs} {K : Fr → List Ob → List LE → Prop} {k k' n n'} {x : α} (hS : Sep S L) (he : Enc f esh) (how : ow.contains d = true) (e : ev (Fr.get fr) l = .int k n) (e1 : ev (Fr.get fr) c = .int k' n') (hz : (f x).cells = z)
  (hn : 0 ≤ n ∧ n ≤ n' ∧ n' * bytes ≤ 281474976710656 ∧ n' ≤ 281474976710656)
  (h : ∀ o S', Sep S' ((o, 0, flat f (List.replicate n.toNat x)) :: L) → VTops P ow rs ((d, .ref o 0 0 n.toNat esh) :: fr) S' (.acc [o] (some o) :: log) K) : VTops P ow (⟨some d, none, .op (.mksl esh bytes z l c)⟩ :: rs) fr S log K :=
 b8D he how e e1 hz hn rfl (h _ _ hS.new)
theorem b2Q (he : Enc f esh) (l : List α) (x : List AV) : (flat f l ++ x).take (l.length * f5 esh) = flat f l := by
 rw [← he.length l, List.take_left]
theorem a8Q {d bytes s x rs} {K : Fr → List Ob → List LE → Prop} {o ver : Nat} {l m : List α} {j : List AV} {rdx : List Nat} (hS : Sep S L) (he : Enc f esh) (e : ev (Fr.get fr) s = .ref o ver 0 l.length esh) (e2 : a9H esh (ev (Fr.get fr) x) S = some (m.length, flat f m, rdx))
  (hr : Rp L (o, ver, flat f l ++ j) (o, ver + 1, flat f (l ++ m)) L') (hb : (l.length + m.length) * bytes ≤ 140737488355328 ∧ l.length + m.length ≤ 140737488355328)
  (h : ∀ S', Sep S' L' → VTops P ow rs ((d, .ref o (ver + 1) 0 (l ++ m).length esh) :: fr) S' (.acc (o :: o :: rdx) (some o) :: log) K) : VTops P ow (⟨some d, none, .op (.app esh bytes s x)⟩ :: rs) fr S log K := by
 have ho := hS.at hr.mem
 refine a0H (v := .ref o (ver + 1) 0 (l ++ m).length esh) (rd := o :: rdx) (δ := some (o, .arr (ver + 1) (flat f (l ++ m)))) ?_ rfl rfl (h _ (hS.rp hr))
 simp only [opV, b2t, e, e2, Option.bind_some, he.all, if_true]
 rw [if_pos ⟨trivial, hb.1, hb.2⟩]
 simp only [z9, ho, if_true, Option.map_some, List.drop_zero, b2Q he, ← y9, List.length_append]
theorem b8M {d bytes s x rs} {K : Fr → List Ob → List LE → Prop} {m : List α} {rdx : List Nat} (hS : Sep S L) (he : Enc f esh) (how : ow.contains d = true) (e : ev (Fr.get fr) s = .nils ∨ ev (Fr.get fr) s = .sl true (f5 esh) []) (e2 : a9H esh (ev (Fr.get fr) x) S = some (m.length, flat f m, rdx))
  (hb : m.length * bytes ≤ 140737488355328 ∧ m.length ≤ 140737488355328)
  (h : ∀ o S', Sep S' ((o, 0, flat f m) :: L) → VTops P ow rs ((d, .ref o 0 0 m.length esh) :: fr) S' (.acc (o :: rdx) (some o) :: log) K) : VTops P ow (⟨some d, none, .op (.app esh bytes s x)⟩ :: rs) fr S log K :=
 b8C he how e e2 hb rfl (h _ _ hS.new)
theorem a3j {d f args rs} {K : Fr → List Ob → List LE → Prop} {ags : List AV} {Q : AV → List It → Prop} (c : Tri P f ags L1 Q) (hS : Sep S L) (e : evL (Fr.get fr) args = ags) (hp : Spl L L1 R)
  (h : ∀ v S' L', Q v L' → Sep S' (L' ++ R) → VTops P ow rs ((d, v) :: fr) S' (.eff S S' :: log) K) : VTops P ow (⟨some d, none, .call f args⟩ :: rs) fr S log K := by
 obtain ⟨r, S', h1, L', h2, h3⟩ := c R S (hS.spl hp)
 exact a2F h1 e (h r S' L' h2 h3)
theorem b5T {d x m args rs t x0 g} {K : Fr → List Ob → List LE → Prop} {ags : List AV} {Q : AV → List It → Prop} (c : Tri P g ags L1 Q) (hS : Sep S L) (ex : ev (Fr.get fr) x = .iface t x0) (hm : a1Y P t m = some g) (hc : t6 P g = true) (e : x0 :: evL (Fr.get fr) args = ags) (hp : Spl L L1 R)
  (h : ∀ v S' L', Q v L' → Sep S' (L' ++ R) → VTops P ow rs ((d, v) :: fr) S' (.eff S S' :: log) K) : VTops P ow (⟨some d, none, .inv x m args⟩ :: rs) fr S log K := by
 obtain ⟨r, S', h1, L', h2, h3⟩ := c R S (hS.spl hp)
 rw [a8G, ex]
 simp only [b4D, hm, e]
 exact ⟨hc, a7C h1 (h r S' L' h2 h3)⟩
theorem a2G {d x args rs g fst caps} {K : Fr → List Ob → List LE → Prop} {ags : List AV} {Q : AV → List It → Prop} (c : Tri P g ags L1 Q) (hS : Sep S L) (ex : ev (Fr.get fr) x = .fn (.func g) fst caps) (hc : t6 P g = true) (e : fst ++ evL (Fr.get fr) args ++ caps = ags) (hp : Spl L L1 R)
  (h : ∀ v S' L', Q v L' → Sep S' (L' ++ R) → VTops P ow rs ((d, v) :: fr) S' (.eff S S' :: log) K) : VTops P ow (⟨some d, none, .callv x args⟩ :: rs) fr S log K := by
 obtain ⟨r, S', h1, L', h2, h3⟩ := c R S (hS.spl hp)
 rw [a5T, ex, b5M, e]
 exact ⟨hc, a7C h1 (h r S' L' h2 h3)⟩

theorem a8R {d : Nat} {e : Option Nat} (hd : Fr.get fr d = .nils) : Wk S0 fr S ((d, .ref S.length 0 0 0 e) :: fr) (m5 S S.length (.arr 0 [])) := by
 intro g0 n a w hat
 obtain ⟨h0, g, h1, h2, h3⟩ := hat
 have hv := a6T S
 obtain ⟨k1, k2⟩ := h2.own (o := S.length) (l := ⟨0, 0, 0⟩) (ver := 0) (cs := []) (by rw [hv]; exact trivial) (fun h => absurd h (Nat.lt_irrefl 0)) (Nat.le_refl 0) (fun j hj => absurd hj (Nat.not_lt_zero j)) (fun j hj => absurd hj (Nat.not_lt_zero j)) (fun j hj => absurd hj (Nat.not_lt_zero j)) (fun j hj => absurd hj (Nat.not_lt_zero j))
  (fun o' ver' cs' _ _ _ j j' _ hj' => absurd hj' (Nat.not_lt_zero j'))
 rw [← m8] at k1 k2
 refine ⟨h0, _, h1.trans k2, k1, h3.size, fun t => ?_⟩
 rw [get_cons]
 have ht := h3.get t
 split
 ·rename_i e1; subst e1
  rw [hd] at ht
  generalize a.tmps.getD t undef = u at ht
  cases ht
  refine .refnil ?_
  simp [a3B, a0N]
 ·exact ht.mono k2.ext
theorem c7K {b} {K K0 : Post} (d : Nat) (e : Option Nat) (hS : Sep S L) (hd : Fr.get fr d = .nils) (h : ∀ o S', Sep S' ((o, 0, []) :: L) → VT P S0 ow b ((d, .ref o 0 0 0 e) :: fr) S' K) :
  Post.thn (fun fr' S' => ∃ F T, Wk S0 fr' S' F T ∧ VT P S0 ow b F T K) K0 .normal fr S := a3P (a8R hd) (h _ _ hS.new)

theorem a8S {a b} {K : Post} {σ : Type} (F : σ → Fr) (Lf : σ → List It) (I : σ → Prop)
  (ha : VT P S0 ow a fr S (Post.thn (fun fr' S' => ∃ s, I s ∧ Sep S' (Lf s) ∧ Wk S0 fr' S' (F s) S') K)) (hb : ∀ s S, I s → Sep S (Lf s) → VT P S0 ow b (F s) S K) : VT P S0 ow (.seq a b) fr S K :=
 g6 (a1v (a1o (fun _ _ ⟨s, h1, h2, h3⟩ => ⟨F s, _, h3, hb s _ h1 h2⟩) (fun _ _ _ h => h)) ha)
theorem w6 {N : Fr → List Ob → Prop} {K0 : Post} (h : N fr S) : Post.thn N K0 .normal fr S := h
theorem a0i {a} {K : Post} {σ : Type} (F : σ → Fr) (Lf : σ → List It) (I : σ → Prop) (μ : σ → Nat) (s0 : σ) (hS : Sep S (Lf s0)) (h0 : I s0) (hw : Wk S0 fr S (F s0) S)
  (h : ∀ s S, I s → Sep S (Lf s) → VT P S0 ow a (F s) S (Post.thn (fun fr' S' => ∃ s', I s' ∧ μ s' < μ s ∧ Sep S' (Lf s') ∧ Wk S0 fr' S' (F s') S') K)) : VT P S0 ow (.loop a) fr S K := by
 refine b2z (ι := σ × List Ob) (fun i => F i.1) (fun i => i.2) (fun i => I i.1 ∧ Sep i.2 (Lf i.1)) (fun i => μ i.1) (s0, S) ⟨h0, hS⟩ hw (fun i hi => ?_)
 refine a1v (a1o (fun fr' S' hh => ?_) (fun _ _ _ h => h)) (h i.1 i.2 hi.1 hi.2)
 obtain ⟨s', h1, h2, h3, h4⟩ := hh
 exact ⟨(s', S'), ⟨h1, h3⟩, h2, h4⟩
def b4L (S0 : List Ob) {σ : Type} (ti tn id id2 : Nat) (n : Int) (F : σ → Fr) (Lf : σ → List It) (I : Nat → σ → Prop) (i : Nat) (K : Post) : Post
 | .normal, fr, S => ∃ s, I (i + 1) s ∧ Sep S (Lf s) ∧ Wk S0 fr S ((ti, .int .i64 i) :: (tn, .int .i64 n) :: F s) S
 | .exit j, fr, S => if j = id2 then ∃ s, I (i + 1) s ∧ Sep S (Lf s) ∧ Wk S0 fr S ((ti, .int .i64 i) :: (tn, .int .i64 n) :: F s) S else if j = id then K .normal fr S else K (.exit j) fr S
 | e, fr, S => K e fr S
section
variable {σ : Type} {ti tn id id2 : Nat} {n : Int} {F : σ → Fr} {Lf : σ → List It} {I : Nat → σ → Prop} {i : Nat} {K : Post}
theorem R_n (s : σ) (h1 : I (i + 1) s) (h2 : Sep S (Lf s)) (h3 : Wk S0 fr S ((ti, .int .i64 i) :: (tn, .int .i64 n) :: F s) S) : b4L S0 ti tn id id2 n F Lf I i K .normal fr S := ⟨s, h1, h2, h3⟩
theorem R_c (s : σ) (h1 : I (i + 1) s) (h2 : Sep S (Lf s)) (h3 : Wk S0 fr S ((ti, .int .i64 i) :: (tn, .int .i64 n) :: F s) S) : b4L S0 ti tn id id2 n F Lf I i K (.exit id2) fr S := by
 show if id2 = id2 then _ else _
 rw [if_pos rfl]; exact ⟨s, h1, h2, h3⟩
theorem R_r (h : K .ret fr S) : b4L S0 ti tn id id2 n F Lf I i K .ret fr S := h
end
theorem a3k {tc ti tn tj id id2 : Nat} {B : FC} {K : Post} {σ : Type} (n : Nat) (F : σ → Fr) (Lf : σ → List It) (I : Nat → σ → Prop) (s0 : σ) (hS : Sep S (Lf s0)) (h0 : I 0 s0) (hw : Wk S0 fr S ((ti, .int .i64 0) :: (tn, .int .i64 n) :: F s0) S)
  (hn : n ≤ 4611686018427387904) (h1 : ti ≠ tn) (h2 : tj ≠ tn) (hF : ∀ s, Fr.get (F s) tj = .junk ∧ Fr.get (F s) ti = .junk ∧ Fr.get (F s) tn = .junk ∧ Fr.get (F s) tc = .junk)
  (hb : ∀ i s S, i < n → I i s → Sep S (Lf s) → VT P S0 ow B ((tc, .bool true) :: (ti, .int .i64 i) :: (tn, .int .i64 n) :: F s) S (b4L S0 ti tn id id2 n F Lf I i K))
  (hx : ∀ s fr' S, I n s → Sep S (Lf s) → Wk S0 fr' S (F s) S → K .normal fr' S) :
  VT P S0 ow (.block id (.loop (.seq (.reg [⟨some tc, none, .op (.bin .none .lss (.t ti) (.t tn))⟩] []) (.seq (.cond (.t tc) .skip (.exit id)) (.seq (.block id2 B) (.reg [⟨some tj, none, .op (.bin .none .add (.t ti) (.v (.int .i64 1)))⟩, ⟨some ti, none, .op (.mv (.t tj))⟩] [])))))) fr S K := by
 refine k7 (a0i (fun i : Nat × σ => (ti, .int .i64 i.1) :: (tn, .int .i64 n) :: F i.2) (fun i => Lf i.2) (fun i => i.1 ≤ n ∧ I i.1 i.2) (fun i => n - i.1) (0, s0) hS ⟨Nat.zero_le _, h0⟩ hw (fun i S hi hSi => ?_))
 obtain ⟨i, s⟩ := i
 simp only at hi hSi ⊢
 obtain ⟨hi0, hi⟩ := hi
 refine b5O h1 zO (fun hlt => ?_) (fun hge => ?_)
 ·have hnext : ∀ (s' : σ) (S' : List Ob), I (i + 1) s' → Sep S' (Lf s') → ∀ fr3, (∀ t, Fr.get fr3 t = if t = ti then .int .i64 ((i : Int) + 1) else if t = tj then .int .i64 ((i : Int) + 1) else Fr.get ((tn, .int .i64 n) :: F s') t) →
    Post.thn (fun fr' S' => ∃ i' : Nat × σ, (i'.1 ≤ n ∧ I i'.1 i'.2) ∧ n - i'.1 < n - i ∧ Sep S' (Lf i'.2) ∧ Wk S0 fr' S' ((ti, .int .i64 i'.1) :: (tn, .int .i64 n) :: F i'.2) S') (Post.blk id K) .normal fr3 S' := fun s' S' hI hS' fr3 hg => by
   refine ⟨(i + 1, s'), ⟨by simp only; omega, hI⟩, by simp only; omega, hS', b0A (fun t => ?_)⟩
   rw [hg, get_cons]
   simp only
   by_cases ht : t = ti
   ·left; rw [if_pos ht, if_pos ht]; rfl
   ·rw [if_neg ht, if_neg ht]
    by_cases ht2 : t = tj
    ·right; rw [ht2, get_cons, if_neg h2, (hF s').1]
    ·left; rw [if_neg ht2]
  refine a1v (fun e fr' S' hk => ?_) (hb i s S zO hi hSi)
  cases e with
  | normal =>
    obtain ⟨s', k1, k2, k3⟩ := hk
    exact ⟨_, _, k3, hnext s' S' k1 k2⟩
  | exit j =>
    show Post.blk id2 _ (.exit j) fr' S'
    rw [a5S]
    replace hk : if j = id2 then ∃ s, I (i + 1) s ∧ Sep S' (Lf s) ∧ Wk S0 fr' S' ((ti, .int .i64 i) :: (tn, .int .i64 n) :: F s) S' else if j = id then K .normal fr' S' else K (.exit j) fr' S' := hk
    by_cases hj : j = id2
    ·rw [if_pos hj] at hk ⊢
     obtain ⟨s', k1, k2, k3⟩ := hk
     exact ⟨_, _, k3, hnext s' S' k1 k2⟩
    ·rw [if_neg hj] at hk ⊢
     show Post.blk id K (.exit j) fr' S'
     rw [a5S]
     exact hk
  | ret => exact hk
  | goto l => exact hk
  | panic l => exact hk
  | outgrown => exact hk
 ·have e1 : i = n := by omega
  subst e1
  show Post.blk id K (.exit id) _ _
  rw [a5S, if_pos rfl]
  refine hx s _ _ hi hSi (b0A (fun t => ?_))
  obtain ⟨_, f1, f2, f3⟩ := hF s
  simp only [get_cons]
  by_cases t1 : t = tc
  ·right; rw [t1]; exact f3
  ·by_cases t2 : t = ti
   ·right; rw [t2]; exact f1
   ·by_cases t3 : t = tn
    ·right; rw [t3]; exact f2
    ·left; rw [if_neg t1, if_neg t2, if_neg t3]
end
theorem a9P {β : Type} {g : β → AV} {e : Option Nat} (he : Enc g e) {S : List Ob} {k : Nat} {o ver : Nat} {l : List β} {j : List AV} (hj : a1z 0 j = true) (h1 : j.all AV.one = true) (ho : hp S o = .arr ver (flat g l ++ j)) : frz 0 S (k + 1) (.ref o ver 0 l.length e) = .sl false (f5 e) (l.map g) := by
 have hb : (AV.ref o ver 0 l.length e).blw 0 = false := by simp [AV.blw]
 have hbb : a1z 0 (flat g l ++ j) = true := by rw [a1n]; intro x hx; rcases List.mem_append.1 hx with h | h; exact a1n.1 (he.blwf 0 l) _ h; exact a1n.1 hj _ h
 have hm : (flat g l ++ j).map (frz 0 S k) = flat g l ++ j := a4K hbb
 simp only [frz, hb, ho, Bool.false_eq_true, if_false, hm, List.drop_zero]
 rw [if_pos ⟨trivial, by rw [List.length_append, he.length]; omega, by rw [List.all_append, he.all l, h1]; rfl⟩]
 have : p9 e l.length (flat g l ++ j) = p9 e l.length (flat g l) := by
  cases e with
  | none =>
    simp only [p9]
    rw [List.take_append_of_le_length (by rw [he.length]; simp [f5])]
  | some n =>
    simp only [p9]
    have : ∀ (k : Nat) (xs : List AV), xs.length = k * n → a2e n k (xs ++ j) = a2e n k xs := by
     intro k
     induction k with
     | zero => intro xs _; rfl
     | succ k ih =>
       intro xs hx
       have hn : n ≤ xs.length := by rw [hx, Nat.add_mul]; omega
       simp only [a2e]
       rw [List.take_append_of_le_length hn, List.drop_append_of_le_length hn, ih _ (by rw [List.length_drop, hx, Nat.add_mul]; omega)]
    exact this _ _ (by rw [he.length]; rfl)
 rw [this, he.elems]
end Go.Ab

/- Steps b5D lists that are objects, told by their elements; with or without cells behind them. -/
namespace Go.Ab
open Go Go.RowKit
section
variable {α : Type} {f : α → AV} {esh : Option Nat} {l : List α} {n p fo : Nat} {y y' : α} {j : List AV}
theorem c7L (he : Enc f esh) (hy : l[n]? = some y) {sh : Option Nat} {v : AV} (hv : a0A sh (f y).cells fo = some v) (hp : p = n * f5 esh + fo) : a0A sh (flat f l ++ j) p = some v := by
 obtain ⟨a, b, h1, h2, _⟩ := he.at hy
 rw [hp, ← h2, h1, List.append_assoc (a ++ (f y).cells)]
 exact a7G hv
theorem b8N (he : Enc f esh) (hy : l[n]? = some y) {sh : Option Nat} {v : AV} (hv : a0A sh (f y).cells fo = some v) (hp : p = n * f5 esh + fo) : a0A sh (flat f l) p = some v := by
 obtain ⟨a, b, h1, h2, _⟩ := he.at hy
 rw [hp, ← h2, h1]
 exact a7G hv
theorem b4M (he : Enc f esh) (hy : l[n]? = some y) : ∃ a b, a.length = n * f5 esh ∧ flat f l = a ++ (f y).cells ++ b ∧ flat f (l.set n y') = a ++ (f y').cells ++ b := by
 obtain ⟨hn, rfl⟩ := List.getElem?_eq_some_iff.1 hy
 have e2 : l.take n ++ l[n] :: l.drop (n + 1) = l := by rw [← List.drop_eq_getElem_cons hn, List.take_append_drop]
 refine ⟨flat f (l.take n), flat f (l.drop (n + 1)), by rw [he.length, List.length_take, Nat.min_eq_left zO], ?_, ?_⟩
 ·rw [List.append_assoc, ← a0s, ← y9, e2]
 ·rw [List.set_eq_take_append_cons_drop, if_pos hn, y9, a0s, List.append_assoc]
theorem b5U (he : Enc f esh) (hy : l[n]? = some y) {xs : List AV} (hp : p = n * f5 esh + fo) (hf : fo + xs.length ≤ f5 esh) (hy' : (f y').cells = splice (f y).cells fo xs) : splice (flat f l ++ j) p xs = flat f (l.set n y') ++ j := by
 obtain ⟨a, b, h2, h1, h3⟩ := b4M (y' := y') he hy
 rw [hp, ← h2, h1, h3, List.append_assoc (a ++ (f y).cells), a8K xs (by rw [he.sz]; exact hf), hy', List.append_assoc (a ++ _)]
theorem b6T (he : Enc f esh) (hy : l[n]? = some y) {xs : List AV} (hp : p = n * f5 esh + fo) (hf : fo + xs.length ≤ f5 esh) (hy' : (f y').cells = splice (f y).cells fo xs) : splice (flat f l) p xs = flat f (l.set n y') := by
 have := b5U (j := []) he hy hp hf hy'
 simpa using this
theorem b5V (he : Enc f esh) (hy : l[n]? = some y) {m : Nat} (hp : p = n * f5 esh + fo) (hf : fo + m ≤ f5 esh) : p + m ≤ (flat f l ++ j).length := by
 have hn := (List.getElem?_eq_some_iff.1 hy).1
 have : (n + 1) * f5 esh ≤ l.length * f5 esh := Nat.mul_le_mul_right _ hn
 rw [List.length_append, he.length]
 rw [Nat.add_mul] at this
 omega
end
section
variable {P : Program} {S0 : List Ob} {ow : List Nat} {fr : Fr} {S : List Ob} {log : List LE} {L L' L0 L1 R : List It} {α : Type} {f : α → AV} {esh : Option Nat}
theorem a0T {d a sh rs} {K : Fr → List Ob → List LE → Prop} {o ver p n fo} {l : List α} {j : List AV} {y : α} {v : AV} (hS : Sep S L) (he : Enc f esh) (e : ev (Fr.get fr) a = .ptr o ver p) (hm : (o, ver, flat f l ++ j) ∈ L) (hp : p = n * f5 esh + fo) (hy : l[n]? = some y)
  (hv : a0A sh (f y).cells fo = some v) (h : VTops P ow rs ((d, v) :: fr) S (.acc [o] none :: log) K) : VTops P ow (⟨some d, none, .op (.load sh a)⟩ :: rs) fr S log K := v8 hS e hm (c7L he hy hv hp) h
theorem a4n {d a sh rs} {K : Fr → List Ob → List LE → Prop} {o ver p n fo} {l : List α} {y : α} {v : AV} (hS : Sep S L) (he : Enc f esh) (e : ev (Fr.get fr) a = .ptr o ver p) (hm : (o, ver, flat f l) ∈ L) (hp : p = n * f5 esh + fo) (hy : l[n]? = some y)
  (hv : a0A sh (f y).cells fo = some v) (h : VTops P ow rs ((d, v) :: fr) S (.acc [o] none :: log) K) : VTops P ow (⟨some d, none, .op (.load sh a)⟩ :: rs) fr S log K := v8 hS e hm (b8N he hy hv hp) h
theorem a4M {a x nn rs} {K : Fr → List Ob → List LE → Prop} {o ver p n fo} {l : List α} {j : List AV} {y y' : α} {xv : AV} (hS : Sep S L) (he : Enc f esh) (e : ev (Fr.get fr) a = .ptr o ver p) (ex : ev (Fr.get fr) x = xv) (hp : p = n * f5 esh + fo) (hy : l[n]? = some y)
  (hr : Rp L (o, ver, flat f l ++ j) (o, ver, flat f (l.set n y') ++ j) L') (hx : xv.cells.length = nn) (h1 : xv.cells.all AV.one = true) (hfit : fo + nn ≤ f5 esh) (hy' : (f y').cells = splice (f y).cells fo xv.cells)
  (h : ∀ S', Sep S' L' → VTops P ow rs fr S' (.acc [o] (some o) :: log) K) : VTops P ow (⟨none, none, .op (.store nn a x)⟩ :: rs) fr S log K :=
 E_stS hS e ex (by rw [b5U he hy hp (by rw [hx]; exact hfit) hy']; exact hr) hx h1 (b5V he hy hp hfit) h
theorem a3l {a x nn rs} {K : Fr → List Ob → List LE → Prop} {o ver p n fo} {l : List α} {y y' : α} {xv : AV} (hS : Sep S L) (he : Enc f esh) (e : ev (Fr.get fr) a = .ptr o ver p) (ex : ev (Fr.get fr) x = xv) (hp : p = n * f5 esh + fo) (hy : l[n]? = some y)
  (hr : Rp L (o, ver, flat f l) (o, ver, flat f (l.set n y')) L') (hx : xv.cells.length = nn) (h1 : xv.cells.all AV.one = true) (hfit : fo + nn ≤ f5 esh) (hy' : (f y').cells = splice (f y).cells fo xv.cells)
  (h : ∀ S', Sep S' L' → VTops P ow rs fr S' (.acc [o] (some o) :: log) K) : VTops P ow (⟨none, none, .op (.store nn a x)⟩ :: rs) fr S log K :=
 E_stS hS e ex (by rw [b6T he hy hp (by rw [hx]; exact hfit) hy']; exact hr) hx h1 (by have := b5V (j := []) he hy hp hfit; simpa using this) h
theorem c7M {d z len ps rs} {K : Fr → List Ob → List LE → Prop} {cs : List AV} (hS : Sep S L) (how : ow.contains d = true) (e : a4D (repl len z) (evP (Fr.get fr) ps) = some cs) (hl : len * f5 esh ≤ cs.length) (h1 : cs.all AV.one = true)
  (h : ∀ o S', Sep S' ((o, 0, cs) :: L) → VTops P ow rs ((d, .ref o 0 0 len esh) :: fr) S' (.acc [o] (some o) :: log) K) : VTops P ow (⟨some d, none, .op (.bsl esh z len ps)⟩ :: rs) fr S log K := by
 refine a0H (v := .ref S.length 0 0 len esh) (rd := []) (δ := some (S.length, .arr 0 cs)) ?_ rfl rfl (h _ _ hS.new)
 simp only [opV, e, Option.bind_some, a3f]
 rw [if_pos ⟨hl, h1⟩, if_pos how]
theorem c7N {z x rs} {K : Fr → List Ob → List LE → Prop} {o ver off n : Nat} {cs : List AV} (hS : Sep S L) (e : ev (Fr.get fr) x = .ref o ver off n esh) (hn : 0 < n) (h1 : z.all AV.one = true) (hr : Rp L (o, ver, cs) (o, ver, splice cs off (repl n z)) L')
  (h : ∀ S', Sep S' L' → VTops P ow rs fr S' (.acc [o] (some o) :: log) K) : VTops P ow (⟨none, none, .op (.clr esh z x)⟩ :: rs) fr S log K := by
 have ho := hS.at hr.mem
 refine b6I (v := .tup []) (rd := []) (δ := some (o, .arr ver (splice cs off (repl n z)))) (S' := m5 S o (.arr ver (splice cs off (repl n z)))) ?_ rfl (h _ (hS.rp hr))
 simp only [opV, c7u, e]
 rw [if_pos ⟨trivial, hn, h1⟩]
 simp only [z9, ho, if_true, Option.map_some]
theorem a4N : ∀ (xs a cs : List AV), xs.length = cs.length → splice (a ++ cs) a.length xs = a ++ xs
 | [], a, cs, h => by
   have : cs = [] := List.eq_nil_of_length_eq_zero (by simpa using h.symm)
   subst this; rfl
 | x :: xs, a, [], h => by simp at h
 | x :: xs, a, c :: cs, h => by
   have e : (a ++ c :: cs).set a.length x = (a ++ [x]) ++ cs := by rw [List.set_append_right _ _ (Nat.le_refl _)]; simp
   simp only [splice, e]
   have := a4N xs (a ++ [x]) cs (by simpa using h)
   simp only [List.length_append, List.length_singleton] at this
   rw [this]; simp
end
theorem b8O {n : Nat} (h : 0 < n) (hb : n ≤ 4611686018427387904) : IntKind.i64.wrap ((n : Int) - 1) = ((n - 1 : Nat) : Int) := by rw [t7 zO]; omega
end Go.Ab

