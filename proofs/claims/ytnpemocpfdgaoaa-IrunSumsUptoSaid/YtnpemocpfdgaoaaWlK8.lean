/- What functions are said to compute (partial functions in plain Lean), and the steps that follow it. -/
import Derived.Test.YtnpemocpfdgaoaaWlF3
import Derived.OpenShut
set_option linter.unusedVariables false
set_option linter.unusedSimpArgs false
namespace Go.Ab
open Go.RowKit

abbrev I64 (x : Int) : Int := IntKind.i64.wrap x
abbrev U64 (x : Int) : Int := IntKind.u64.wrap x
def gd (c : Prop) [Decidable c] {β : Type} (k : Option β) : Option β := if c then k else none
theorem a3u {c : Prop} [Decidable c] {β : Type} {k : Option β} {r : β} (h : gd c k = some r) : c ∧ k = some r := by
 unfold gd at h
 split at h
 ·exact ⟨by assumption, h⟩
 ·cases h
@[simp] theorem c2T {c : Prop} [Decidable c] {β : Type} {k : Option β} (h : c) : gd c k = k := if_pos h
theorem f7 {α β : Type} {x : Option α} {f : α → Option β} {r : β} (h : x.bind f = some r) : ∃ v, x = some v ∧ f v = some r := Option.bind_eq_some_iff.1 h

theorem g5 {β : Type} {e : Bool} {a b : β} (h : e = true) : (if e = true then a else b) = a := if_pos h
theorem g6 {β : Type} {e : Bool} {a b : β} (h : e = false) : (if e = true then a else b) = b := if_neg (by rw [h]; decide)

def u4 {α : Type} (l : List α) (i : Int) : Option α := if 0 ≤ i then l[i.toNat]? else none
theorem a0s {α : Type} {l : List α} {i : Int} {y : α} (h : u4 l i = some y) : 0 ≤ i ∧ i < l.length ∧ l[i.toNat]? = some y := by
 unfold u4 at h
 split at h
 ·obtain ⟨h1, h2⟩ := List.getElem?_eq_some_iff.1 h
  exact ⟨by assumption, by omega, h⟩
 ·cases h

def jp {σ β : Type} (k : σ → Option β) (f : (σ → Option β) → Option β) : Option β := f k

inductive Stp (σ ρ : Type) where
 | nxt (s : σ)
 | brk (s : σ)
 | ret (r : ρ)
inductive Out (σ ρ : Type) where
 | fin (s : σ)
 | ret (r : ρ)

def a0C {α σ ρ : Type} (body : Nat → α → σ → Option (Stp σ ρ)) : List α → Nat → σ → Option (Out σ ρ)
 | [], _, s => some (.fin s)
 | x :: xs, i, s => match body i x s with
   | none => none
   | some (.nxt s') => a0C body xs (i + 1) s'
   | some (.brk s') => some (.fin s')
   | some (.ret r) => some (.ret r)
def rng {α σ ρ : Type} (body : Nat → α → σ → Option (Stp σ ρ)) (xs : List α) (s : σ) : Option (Out σ ρ) := if xs.length ≤ 4611686018427387904 then a0C body xs 0 s else none

def a0D {σ ρ : Type} (body : Nat → σ → Option (Stp σ ρ)) : Nat → Nat → σ → Option (Out σ ρ)
 | 0, _, s => some (.fin s)
 | n + 1, i, s => match body i s with
   | none => none
   | some (.nxt s') => a0D body n (i + 1) s'
   | some (.brk s') => some (.fin s')
   | some (.ret r) => some (.ret r)
def rni {σ ρ : Type} (body : Nat → σ → Option (Stp σ ρ)) (n : Int) (s : σ) : Option (Out σ ρ) := if n ≤ 4611686018427387904 then a0D body n.toNat 0 s else none

def b8b : Fr → Nat → AV → Fr
 | [], _, _ => []
 | (t', v') :: r, t, v => if t = t' then (t', v) :: r else (t', v') :: b8b r t v
theorem a6h {t : Nat} {v : AV} : ∀ {fr : Fr}, Fr.get fr t = v → b8b fr t v = fr
 | [], _ => rfl
 | (t', v') :: r, h => by
   simp only [b8b]
   rw [get_cons] at h
   split
   ·rename_i e; rw [if_pos e] at h; rw [h]
   ·rename_i e; rw [if_neg e] at h; rw [a6h h]

theorem Wk.refl {S0 S : List Ob} {fr : Fr} : Wk S0 fr S fr S := fun _ _ _ _ h => h

section
variable {P : Program} {S0 : List Ob} {ow : List Nat} {fr : Fr} {S : List Ob} {log : List LE}

theorem r8 {d r rs} {K : Fr → List Ob → List LE → Prop} {v v' rd δ S'} (e : opV (ow.contains d) r (Fr.get fr) S = some (v, rd, δ)) (e2 : AVw v v') (e3 : apS S δ = S') (h : VTops P ow rs ((d, v') :: fr) S' (.acc (a0h rd δ) (δ.map (·.1)) :: log) K) :
  VTops P ow (⟨some d, none, .op r⟩ :: rs) fr S log K := by subst e3; rw [a1O, e]; exact ⟨_, e2, h⟩
theorem m4 {d t want c rs} {K : Fr → List Ob → List LE → Prop} {b : Bool} {fr1 fr2 : Fr} (e : Fr.get fr t = .bool b) (e1 : b8b fr t (.bool want) = fr1) (e2 : a4E (b8b fr t (.bool (!want))) d (.tup []) = fr2)
  (h : b = want → VTops P ow (⟨d, none, c⟩ :: rs) fr1 S log K) (h' : b = !want → VTops P ow rs fr2 S (.acc [] none :: log) K) : VTops P ow (⟨d, some (t, want), c⟩ :: rs) fr S log K := by
 subst e1; subst e2
 refine c5F e (fun hb => ?_) (fun hb => ?_)
 ·have := h hb
  rwa [a6h (by rw [e, hb])] at this
 ·have := h' hb
  rwa [a6h (by rw [e, hb])] at this
theorem g9 {a b} {K : Post} (h : VT P S0 ow a fr S (Post.thn (fun fr' S' => ∃ F T, Wk S0 fr' S' F T ∧ VT P S0 ow b F T K) K)) : VT P S0 ow (.seq a b) fr S K := by
 rw [a5s]; exact h
theorem j1 {b} {K K0 : Post} (h : VT P S0 ow b fr S K) : Post.thn (fun fr' S' => ∃ F T, Wk S0 fr' S' F T ∧ VT P S0 ow b F T K) K0 .normal fr S := ⟨fr, S, Wk.refl, h⟩
theorem a3v {b} {K K0 : Post} {F : Fr} {T : List Ob} (hw : Wk S0 fr S F T) (h : VT P S0 ow b F T K) : Post.thn (fun fr' S' => ∃ F T, Wk S0 fr' S' F T ∧ VT P S0 ow b F T K) K0 .normal fr S := ⟨F, T, hw, h⟩
theorem a2r {σ β : Type} {a b} {K : Post} {k : σ → Option β} {f : (σ → Option β) → Option β} {r : β} (h : jp k f = some r) (F : σ → Fr) (T : σ → List Ob)
  (h1 : ∀ k', f k' = some r → VT P S0 ow a fr S (Post.thn (fun fr' S' => ∃ s, k' s = some r ∧ Wk S0 fr' S' (F s) (T s)) K)) (h2 : ∀ s, k s = some r → VT P S0 ow b (F s) (T s) K) : VT P S0 ow (.seq a b) fr S K :=
 g9 (a1a (a0A (fun _ _ ⟨s, hs, hw⟩ => ⟨F s, T s, hw, h2 s hs⟩) (fun _ _ _ h => h)) (h1 k h))
theorem r7 {σ β : Type} {K0 : Post} {k' : σ → Option β} {r : β} {F : σ → Fr} {T : σ → List Ob} (s : σ) (h : k' s = some r) (hw : Wk S0 fr S (F s) (T s)) : Post.thn (fun fr' S' => ∃ s, k' s = some r ∧ Wk S0 fr' S' (F s) (T s)) K0 .normal fr S := ⟨s, h, hw⟩
theorem a1P {a b c} {K : Post} (h : VT P S0 ow (.seq a (.seq b c)) fr S K) : VT P S0 ow (.seq (.seq a b) c) fr S K := by
 rw [a5s] at h
 rw [a5s, a5s]
 refine a1a (fun e fr' S' hh => ?_) h
 cases e with
 | normal =>
   obtain ⟨F, T, hw, hv⟩ := hh
   rw [a5s] at hv
   exact ⟨F, T, hw, hv⟩
 | _ => exact hh

def a5w (S0 : List Ob) {σ ρ β : Type} (nx : Nat → Bool) (bk : Nat → Bool) (F : σ → Fr) (T : σ → List Ob) (Fx : σ → Fr) (Tx : σ → List Ob) (k : Out σ ρ → Option β) (r : β) (K : Post) (c : Stp σ ρ) : Post
 | .normal, fr, S => ∃ s, c = .nxt s ∧ Wk S0 fr S (F s) (T s)
 | .exit j, fr, S => if nx j = true then ∃ s, c = .nxt s ∧ Wk S0 fr S (F s) (T s) else if bk j = true then ∃ s, c = .brk s ∧ Wk S0 fr S (Fx s) (Tx s) else ∃ v, c = .ret v ∧ (k (.ret v) = some r → K (.exit j) fr S)
 | e, fr, S => ∃ v, c = .ret v ∧ (k (.ret v) = some r → K e fr S)

variable {σ ρ β : Type} {nx bk : Nat → Bool} {F : σ → Fr} {T : σ → List Ob} {Fx : σ → Fr} {Tx : σ → List Ob} {k : Out σ ρ → Option β} {r : β} {K : Post}
theorem b0m {s : σ} {c : Stp σ ρ} (e : c = .nxt s) (hw : Wk S0 fr S (F s) (T s)) : a5w S0 nx bk F T Fx Tx k r K c .normal fr S := ⟨s, e, hw⟩
theorem c5H {v : ρ} {c : Stp σ ρ} (e : c = .ret v) (h : k (.ret v) = some r → K .ret fr S) : a5w S0 nx bk F T Fx Tx k r K c .ret fr S := ⟨v, e, h⟩

theorem b8c {x : Int} (h : -9223372036854775808 ≤ x ∧ x ≤ 9223372036854775807) : I64 x = x := a0B h

theorem b1O {tc ti tn tj id id2 : Nat} {B : FC} {G : Fr} {T' : List Ob} {i : Nat} {n : Int} {K0 : Post} (h1 : ti ≠ tn) (hn : n ≤ 4611686018427387904)
  (hB : (i : Int) < n → VT P S0 ow B ((tc, .bool true) :: (ti, .int .i64 i) :: (tn, .int .i64 n) :: G) T' (fun e fr' S' => match e with
   | .normal => ∃ G2 T2, Wk S0 fr' S' ((ti, .int .i64 i) :: G2) T2 ∧ ∀ fr3, (∀ t, Fr.get fr3 t = if t = ti then .int .i64 ((i : Int) + 1) else if t = tj then .int .i64 ((i : Int) + 1) else Fr.get G2 t) → K0 .normal fr3 T2
   | e => Post.blk id2 (fun e fr' S' => match e with
     | .normal => ∃ G2 T2, Wk S0 fr' S' ((ti, .int .i64 i) :: G2) T2 ∧ ∀ fr3, (∀ t, Fr.get fr3 t = if t = ti then .int .i64 ((i : Int) + 1) else if t = tj then .int .i64 ((i : Int) + 1) else Fr.get G2 t) → K0 .normal fr3 T2
     | e => K0 e fr' S') e fr' S'))
  (hE : ¬ (i : Int) < n → K0 (.exit id) ((tc, .bool false) :: (ti, .int .i64 i) :: (tn, .int .i64 n) :: G) T') :
  VT P S0 ow (.seq (.reg [⟨some tc, none, .op (.bin .none .lss (.t ti) (.t tn))⟩] []) (.seq (.cond (.t tc) .skip (.exit id)) (.seq (.block id2 B) (.reg [⟨some tj, none, .op (.bin .none .add (.t ti) (.v (.int .i64 1)))⟩, ⟨some ti, none, .op (.mv (.t tj))⟩] []))))
   ((ti, .int .i64 i) :: (tn, .int .i64 n) :: G) T' K0 := by
 refine g9 (d6 (s8 (v := .bool (decide ((i : Int) < n))) ?_ rfl (c7 (j1 ?_))))
 ·simp only [opV, ev, get_cons, if_true, if_neg (Ne.symm h1), b0I, pv, a1q]; rfl
 refine g9 (f9 (t := decide ((i : Int) < n)) (by simp [ev, get_cons]) (fun ht => m0 (j1 ?_)) (fun hf => a6T ?_))
 ·rw [ht]
  simp only [decide_eq_true_eq] at ht
  refine g9 (j9 ?_)
  have hinc : ∀ {fr' : Fr} {S' : List Ob} {G2 : Fr} {T2 : List Ob}, Wk S0 fr' S' ((ti, .int .i64 i) :: G2) T2 → (∀ fr3, (∀ t, Fr.get fr3 t = if t = ti then .int .i64 ((i : Int) + 1) else if t = tj then .int .i64 ((i : Int) + 1) else Fr.get G2 t) → K0 .normal fr3 T2) →
    Post.thn (fun fr' S' => ∃ F T, Wk S0 fr' S' F T ∧ VT P S0 ow (.reg [⟨some tj, none, .op (.bin .none .add (.t ti) (.v (.int .i64 1)))⟩, ⟨some ti, none, .op (.mv (.t tj))⟩] []) F T K0) K0 .normal fr' S' := fun hw hk => by
   refine a3v hw (d6 (s8 (v := .int .i64 ((i : Int) + 1)) ?_ rfl (a3O (v' := .int .i64 ((i : Int) + 1)) (by simp [ev, get_cons]) (c7 (hk _ (fun t => ?_))))))
   ·simp only [opV, ev, get_cons, if_true, b0I, pv, a1q, Option.map_some]
    rw [a0B zO]
   ·simp only [get_cons]
    split
    ·rfl
    ·split
     ·rfl
     ·rfl
  refine a1a (fun e fr' S' hk => ?_) (hB ht)
  cases e with
  | normal => obtain ⟨G2, T2, hw, hk⟩ := hk; exact hinc hw hk
  | exit j =>
    replace hk : Post.blk id2 _ (.exit j) fr' S' := hk
    rw [a3T] at hk
    show Post.blk id2 _ (.exit j) fr' S'
    rw [a3T]
    split
    ·rename_i hj; rw [if_pos hj] at hk
     obtain ⟨G2, T2, hw, hk⟩ := hk; exact hinc hw hk
    ·rename_i hj; rw [if_neg hj] at hk; exact hk
  | _ => exact hk
 ·rw [hf]
  simp only [decide_eq_false_iff_not] at hf
  exact hE hf

theorem a6V {S0 S : List Ob} {fr fr' : Fr} (h : ∀ t, Fr.get fr' t = Fr.get fr t ∨ Fr.get fr' t = .junk) : Wk S0 fr S fr' S :=
 GWk.refl.wk (fun t => by rcases h t with e | e <;> rw [e] <;> first | exact .refl _ | exact .junk _)

theorem b8d {tc ti tn tj id id2 : Nat} {B : FC} (body : Nat → σ → Option (Stp σ ρ)) {n : Int} {s0 : σ} (F : σ → Fr) (T : σ → List Ob) (h : (rni body n s0).bind k = some r)
  (h1 : ti ≠ tn) (h2 : tj ≠ tn) (hF : ∀ s, Fr.get (F s) tj = .junk ∧ Fr.get (F s) ti = .junk ∧ Fr.get (F s) tn = .junk ∧ Fr.get (F s) tc = .junk)
  (hw : Wk S0 fr S ((ti, .int .i64 0) :: (tn, .int .i64 n) :: F s0) (T s0))
  (hb : ∀ (i : Nat) s c, (i : Int) < n → body i s = some c → VT P S0 ow B ((tc, .bool true) :: (ti, .int .i64 i) :: (tn, .int .i64 n) :: F s) (T s)
   (a5w S0 (fun j => j == id2) (fun j => j == id) (fun s => (ti, .int .i64 i) :: (tn, .int .i64 n) :: F s) T F T k r K c))
  (hx : ∀ s fr' S', k (.fin s) = some r → Wk S0 fr' S' (F s) (T s) → K .normal fr' S') :
  VT P S0 ow (.block id (.loop (.seq (.reg [⟨some tc, none, .op (.bin .none .lss (.t ti) (.t tn))⟩] []) (.seq (.cond (.t tc) .skip (.exit id)) (.seq (.block id2 B) (.reg [⟨some tj, none, .op (.bin .none .add (.t ti) (.v (.int .i64 1)))⟩, ⟨some ti, none, .op (.mv (.t tj))⟩] [])))))) fr S K := by
 unfold rni at h
 split at h
 case isFalse => cases h
 rename_i hn
 refine j9 (b1K (ι := Nat × σ) (fun i => (ti, .int .i64 i.1) :: (tn, .int .i64 n) :: F i.2) (fun i => T i.2) (fun i => i.1 ≤ n.toNat ∧ (a0D body (n.toNat - i.1) i.1 i.2).bind k = some r) (fun i => n.toNat - i.1) (0, s0) ⟨by simp, by simpa using h⟩ hw (fun i hi => ?_))
 obtain ⟨i, s⟩ := i
 simp only at hi ⊢
 obtain ⟨hi0, hi⟩ := hi
 refine b1O h1 hn (fun hlt => ?_) (fun hge => ?_)
 ·have e1 : n.toNat - i = (n.toNat - (i + 1)) + 1 := by omega
  rw [e1] at hi
  simp only [a0D] at hi
  cases hc : body i s with
  | none => rw [hc] at hi; cases hi
  | some c =>
    rw [hc] at hi
    have hnext : ∀ s', c = .nxt s' → ∀ fr3, (∀ t, Fr.get fr3 t = if t = ti then .int .i64 ((i : Int) + 1) else if t = tj then .int .i64 ((i : Int) + 1) else Fr.get ((tn, .int .i64 n) :: F s') t) →
      Post.thn (fun fr' S' => ∃ i' : Nat × σ, (i'.1 ≤ n.toNat ∧ (a0D body (n.toNat - i'.1) i'.1 i'.2).bind k = some r) ∧ n.toNat - i'.1 < n.toNat - i ∧ Wk S0 fr' S' ((ti, .int .i64 i'.1) :: (tn, .int .i64 n) :: F i'.2) (T i'.2)) (Post.blk id K) .normal fr3 (T s') := fun s' e fr3 hg => by
     subst e
     refine ⟨(i + 1, s'), ⟨by simp only; omega, hi⟩, by simp only; omega, a6V (fun t => ?_)⟩
     rw [hg]
     rw [get_cons]
     simp only
     by_cases ht : t = ti
     ·left; rw [if_pos ht, if_pos ht]; rfl
     ·rw [if_neg ht, if_neg ht]
      by_cases ht2 : t = tj
      ·right; rw [ht2, get_cons, if_neg h2, (hF s').1]
      ·left; rw [if_neg ht2]
    refine a1a (fun e fr' S' hk => ?_) (hb i s c hlt hc)
    cases e with
    | normal =>
      obtain ⟨s', e, hw'⟩ := hk
      exact ⟨_, _, hw', hnext s' e⟩
    | exit j =>
      show Post.blk id2 _ (.exit j) fr' S'
      rw [a3T]
      replace hk : if (j == id2) = true then ∃ s', c = .nxt s' ∧ Wk S0 fr' S' ((ti, .int .i64 i) :: (tn, .int .i64 n) :: F s') (T s') else if (j == id) = true then ∃ s, c = .brk s ∧ Wk S0 fr' S' (F s) (T s) else ∃ v, c = .ret v ∧ (k (.ret v) = some r → K (.exit j) fr' S') := hk
      by_cases hj : j = id2
      ·rw [if_pos hj]; rw [if_pos (by simpa using hj)] at hk
       obtain ⟨s', e, hw'⟩ := hk
       exact ⟨_, _, hw', hnext s' e⟩
      ·rw [if_neg hj]; rw [if_neg (by simpa using hj)] at hk
       show Post.blk id K (.exit j) fr' S'
       rw [a3T]
       by_cases hj2 : j = id
       ·rw [if_pos hj2]; rw [if_pos (by simpa using hj2)] at hk
        obtain ⟨s', rfl, hw'⟩ := hk
        exact hx s' _ _ hi hw'
       ·rw [if_neg hj2]; rw [if_neg (by simpa using hj2)] at hk
        obtain ⟨v, rfl, hv⟩ := hk
        exact hv hi
    | ret => obtain ⟨v, rfl, hv⟩ := hk; exact hv hi
    | goto l => obtain ⟨v, rfl, hv⟩ := hk; exact hv hi
    | panic l => obtain ⟨v, rfl, hv⟩ := hk; exact hv hi
    | outgrown => obtain ⟨v, rfl, hv⟩ := hk; exact hv hi
 ·have e1 : n.toNat - i = 0 := by omega
  rw [e1] at hi
  simp only [a0D] at hi
  show Post.blk id K (.exit id) _ _
  rw [a3T, if_pos rfl]
  refine hx s _ _ hi (a6V (fun t => ?_))
  obtain ⟨_, f1, f2, f3⟩ := hF s
  simp only [get_cons]
  by_cases t1 : t = tc
  ·right; rw [t1]; exact f3
  ·by_cases t2 : t = ti
   ·right; rw [t2]; exact f1
   ·by_cases t3 : t = tn
    ·right; rw [t3]; exact f2
    ·left; rw [if_neg t1, if_neg t2, if_neg t3]

theorem a3w {α : Type} (body : Nat → α → σ → Option (Stp σ ρ)) (xs : List α) : ∀ (m i : Nat) (s : σ), xs.length - i = m → a0D (fun i s => xs[i]?.bind fun x => body i x s) m i s = a0C body (xs.drop i) i s
 | 0, i, s, h => by rw [List.drop_eq_nil_of_le zO]; rfl
 | m + 1, i, s, h => by
   have hi : i < xs.length := by omega
   rw [List.drop_eq_getElem_cons hi]
   simp only [a0D, a0C]
   rw [List.getElem?_eq_getElem hi]
   simp only [Option.bind_some]
   split
   ·rfl
   ·exact a3w body xs m (i + 1) _ zO
   ·rfl
   ·rfl
theorem a8O {α : Type} (body : Nat → α → σ → Option (Stp σ ρ)) (xs : List α) (s : σ) : rng body xs s = rni (fun i s => xs[i]?.bind fun x => body i x s) xs.length s := by
 unfold rng rni
 by_cases h : xs.length ≤ 4611686018427387904
 ·rw [if_pos h, if_pos zO]
  have := a3w body xs xs.length 0 s zO
  simpa using this.symm
 ·rw [if_neg h, if_neg zO]

theorem c2U {α : Type} {tc ti tn tj id id2 : Nat} {B : FC} (body : Nat → α → σ → Option (Stp σ ρ)) {xs : List α} {s0 : σ} (F : σ → Fr) (T : σ → List Ob) (h : (rng body xs s0).bind k = some r)
  (h1 : ti ≠ tn) (h2 : tj ≠ tn) (hF : ∀ s, Fr.get (F s) tj = .junk ∧ Fr.get (F s) ti = .junk ∧ Fr.get (F s) tn = .junk ∧ Fr.get (F s) tc = .junk)
  (hw : Wk S0 fr S ((ti, .int .i64 0) :: (tn, .int .i64 xs.length) :: F s0) (T s0))
  (hb : ∀ (i : Nat) x s c, xs[i]? = some x → i < xs.length → body i x s = some c → VT P S0 ow B ((tc, .bool true) :: (ti, .int .i64 i) :: (tn, .int .i64 xs.length) :: F s) (T s)
   (a5w S0 (fun j => j == id2) (fun j => j == id) (fun s => (ti, .int .i64 i) :: (tn, .int .i64 xs.length) :: F s) T F T k r K c))
  (hx : ∀ s fr' S', k (.fin s) = some r → Wk S0 fr' S' (F s) (T s) → K .normal fr' S') :
  VT P S0 ow (.block id (.loop (.seq (.reg [⟨some tc, none, .op (.bin .none .lss (.t ti) (.t tn))⟩] []) (.seq (.cond (.t tc) .skip (.exit id)) (.seq (.block id2 B) (.reg [⟨some tj, none, .op (.bin .none .add (.t ti) (.v (.int .i64 1)))⟩, ⟨some ti, none, .op (.mv (.t tj))⟩] [])))))) fr S K := by
 rw [a8O] at h
 refine b8d _ F T h h1 h2 hF hw (fun i s c hi hc => ?_) hx
 obtain ⟨x, hx1, hx2⟩ := f7 hc
 exact hb i x s c hx1 zO hx2
end
end Go.Ab

/- Lists as objects and as frozen values: the steps. -/
namespace Go.Ab
open Go.RowKit

def flat {α : Type} (f : α → AV) (l : List α) : List AV := l.flatMap fun x => (f x).cells

structure Enc {α : Type} (f : α → AV) (esh : Option Nat) : Prop where
 sz : ∀ x, (f x).cells.length = f5 esh
 one : ∀ x, (f x).cells.all AV.one = true
 form : ∀ x, match esh with | none => (f x).cells = [f x] | some _ => f x = .agg (f x).cells
 blw : ∀ x n, (f x).blw n = true

section
variable {α : Type} {f : α → AV} {esh : Option Nat}
theorem v8 (l m : List α) : flat f (l ++ m) = flat f l ++ flat f m := by simp [flat]
theorem v9 (x : α) (l : List α) : flat f (x :: l) = (f x).cells ++ flat f l := rfl
theorem a8P (l : List α) : (l.map f).flatMap AV.cells = flat f l := by simp [flat, List.flatMap_map]
theorem Enc.length (he : Enc f esh) : ∀ l : List α, (flat f l).length = l.length * f5 esh
 | [] => by simp [flat]
 | x :: l => by rw [v9, List.length_append, he.sz, he.length l, List.length_cons, Nat.add_mul]; omega
theorem Enc.all (he : Enc f esh) : ∀ l : List α, (flat f l).all AV.one = true
 | [] => rfl
 | x :: l => by rw [v9, List.all_append, he.one, he.all l]; rfl
theorem Enc.blwf (he : Enc f esh) (n : Nat) : ∀ l : List α, a0v n (flat f l) = true
 | [] => rfl
 | x :: l => by
   rw [v9]
   have : ∀ a b : List AV, a0v n a = true → a0v n b = true → a0v n (a ++ b) = true := fun a b h1 h2 => by
    rw [a1K] at *; intro x hx; rcases List.mem_append.1 hx with h | h; exact h1 _ h; exact h2 _ h
   exact this _ _ (a1W (he.blw x n)) (he.blwf n l)
theorem Enc.blwm (he : Enc f esh) (n : Nat) (l : List α) : a0v n (l.map f) = true := b0Q (fun a => he.blw a n) l
theorem Enc.drop (he : Enc f esh) : ∀ (l : List α) (i : Nat), (flat f l).drop (i * f5 esh) = flat f (l.drop i)
 | l, 0 => by simp
 | [], i + 1 => by simp [flat]
 | x :: l, i + 1 => by
   rw [v9, Nat.add_mul, Nat.one_mul, Nat.add_comm, ← List.drop_drop, List.drop_left' (he.sz x), he.drop l i]; rfl
theorem Enc.take (he : Enc f esh) : ∀ (l : List α) (i : Nat), (flat f l).take (i * f5 esh) = flat f (l.take i)
 | l, 0 => by simp [flat]
 | [], i + 1 => by simp [flat]
 | x :: l, i + 1 => by
   rw [v9, Nat.add_mul, Nat.one_mul, Nat.add_comm (i * f5 esh), List.take_succ_cons, v9, ← he.take l i]
   rw [← he.sz x, List.take_append, List.take_of_length_le zO]
   congr 2; omega
theorem Enc.elems (he : Enc f esh) (l : List α) : m3 esh l.length (flat f l) = l.map f := by
 have hf := he.form
 have hs := he.sz
 cases esh with
 | none =>
   have : flat f l = l.map f := by
    induction l with
    | nil => rfl
    | cons x l ih => rw [v9, hf x, ih]; rfl
   rw [this]; exact List.take_of_length_le zS
 | some n =>
   show a1h n l.length (flat f l) = _
   clear he
   induction l with
   | nil => rfl
   | cons x l ih =>
     have hx : (f x).cells.length = n := hs x
     simp only [List.length_cons, a1h, v9]
     rw [List.take_left' hx, List.drop_left' hx, ih, ← hf x]; rfl
theorem Enc.repl (he : Enc f esh) (x : α) (n : Nat) : repl n (f x).cells = flat f (List.replicate n x) := by
 unfold Ab.repl flat
 induction n with
 | zero => rfl
 | succ n ih => rw [List.replicate_succ, List.replicate_succ, List.flatten_cons, ih]; rfl
theorem Enc.at (he : Enc f esh) {l : List α} {n : Nat} {y : α} (hy : l[n]? = some y) : ∃ a b, flat f l = a ++ (f y).cells ++ b ∧ a.length = n * f5 esh ∧ l = l.take n ++ y :: l.drop (n + 1) := by
 obtain ⟨hn, rfl⟩ := List.getElem?_eq_some_iff.1 hy
 have h1 : l = l.take n ++ l[n] :: l.drop (n + 1) := by rw [← List.drop_eq_getElem_cons hn, List.take_append_drop]
 refine ⟨flat f (l.take n), flat f (l.drop (n + 1)), ?_, ?_, h1⟩
 ·conv => lhs; rw [h1]
  rw [v8, v9, List.append_assoc]
 ·rw [he.length, List.length_take, Nat.min_eq_left zO]

theorem a6W {a c b : List AV} {sh : Option Nat} {fo : Nat} {v : AV} (h : a0x sh c fo = some v) : a0x sh (a ++ c ++ b) (a.length + fo) = some v := by
 unfold a0x at *
 cases sh with
 | none =>
   simp only at h ⊢
   split at h
   ·rename_i hlt
    cases h
    rw [if_pos zE]
    congr 1
    simp only [List.getD_eq_getElem?_getD]
    rw [List.append_assoc, List.getElem?_append_right zO, List.getElem?_append_left zO]
    congr 3; omega
   ·cases h
 | some n =>
   simp only at h ⊢
   split at h
   ·rename_i hlt
    cases h
    rw [if_pos zE]
    congr 2
    rw [List.append_assoc, ← List.drop_drop, List.drop_left, List.drop_append_of_le_length zO, List.take_append_of_le_length zE]
   ·cases h

theorem a8Q : ∀ (xs : List AV) {a c b : List AV} {fo : Nat}, fo + xs.length ≤ c.length → splice (a ++ c ++ b) (a.length + fo) xs = a ++ splice c fo xs ++ b := by
 intro xs
 induction xs with
 | nil => intro a c b fo _; simp [splice]
 | cons x xs ih =>
   intro a c b fo h
   simp only [splice]
   simp only [List.length_cons] at h
   rw [show (a ++ c ++ b).set (a.length + fo) x = a ++ c.set fo x ++ b by
    rw [List.append_assoc, List.set_append_right _ _ zO, List.set_append_left _ _ zO, ← List.append_assoc]
    congr 3; omega]
   rw [show a.length + fo + 1 = a.length + (fo + 1) by omega]
   exact ih zE
end

def awL : List AV → List AV → Prop
 | [], [] => True
 | x :: xs, y :: ys => AVw x y ∧ awL xs ys
 | _, _ => False
theorem a2b : ∀ {xs ys : List AV}, awL xs ys → xs.length = ys.length
 | [], [], _ => rfl
 | _ :: xs, _ :: ys, h => congrArg (· + 1) (a2b h.2)
theorem a2c : ∀ {xs ys : List AV}, awL xs ys → ∀ j (h1 : j < xs.length) (h2 : j < ys.length), AVw xs[j] ys[j]
 | [], _, _, j, h1, _ => by simp at h1
 | x :: xs, y :: ys, h, 0, _, _ => h.1
 | x :: xs, y :: ys, h, j + 1, h1, h2 => a2c h.2 j (by simpa using h1) (by simpa using h2)
theorem AVw.aggL {xs ys : List AV} (h : awL xs ys) : AVw (.agg xs) (.agg ys) := .agg (a2b h) (a2c h)
theorem AVw.tupL {xs ys : List AV} (h : awL xs ys) : AVw (.tup xs) (.tup ys) := .tup (a2b h) (a2c h)
theorem AVw.ex {sz} {xs : List AV} : AVw (.sl true sz xs) (.sl false sz xs) := .sl (by intro e; cases e) rfl (fun _ _ _ => rfl) (fun _ _ _ _ _ _ => .refl _)

section
variable {P : Program} {S0 : List Ob} {ow : List Nat} {fr : Fr} {S : List Ob} {log : List LE} {α : Type} {f : α → AV} {esh : Option Nat}

theorem p9 {d x i rs} {K : Fr → List Ob → List LE → Prop} {ex k n} {ys : List α} {y : α} (e : ev (Fr.get fr) x = .sl ex (f5 esh) (ys.map f)) (e1 : ev (Fr.get fr) i = .int k n) (hy : u4 ys n = some y)
  (h : VTops P ow rs ((d, .cptr (f y).cells 0) :: fr) S (.acc [] none :: log) K) : VTops P ow (⟨some d, none, .op (.iad none esh x i)⟩ :: rs) fr S log K := by
 obtain ⟨h1, h2, h3⟩ := a0s hy
 refine c2N e e1 rfl rfl ⟨h1, h2⟩ (fun y' hy' => ?_)
 rw [h3] at hy'; cases hy'
 exact h
theorem b8e {d x i rs} {K : Fr → List Ob → List LE → Prop} {o ver off m k n} (e : ev (Fr.get fr) x = .ref o ver off m esh) (e1 : ev (Fr.get fr) i = .int k n) (hn : 0 ≤ n ∧ n < m)
  (h : VTops P ow rs ((d, .ptr o ver (off + n.toNat * f5 esh)) :: fr) S (.acc [] none :: log) K) : VTops P ow (⟨some d, none, .op (.iad none esh x i)⟩ :: rs) fr S log K := by
 refine s8 (v := .ptr o ver (off + n.toNat * f5 esh)) ?_ rfl h
 simp only [opV, e, e1, b7T]
 rw [if_pos ⟨trivial, hn.1, hn.2⟩]; rfl
theorem b8f {d bytes s x rs} {K : Fr → List Ob → List LE → Prop} {o ver : Nat} {l m : List α} {rdx : List Nat} {S' : List Ob} (he : Enc f esh) (e : ev (Fr.get fr) s = .ref o ver 0 l.length esh) (e2 : a7V esh (ev (Fr.get fr) x) S = some (m.length, flat f m, rdx))
  (ho : hp S o = .arr ver (flat f l)) (hb : (l.length + m.length) * bytes ≤ 140737488355328 ∧ l.length + m.length ≤ 140737488355328) (hS : y7 S o (.arr (ver + 1) (flat f (l ++ m))) = S')
  (h : VTops P ow rs ((d, .ref o (ver + 1) 0 (l ++ m).length esh) :: fr) S' (.acc (o :: o :: rdx) (some o) :: log) K) : VTops P ow (⟨some d, none, .op (.app esh bytes s x)⟩ :: rs) fr S log K := by
 refine a0H (v := .ref o (ver + 1) 0 (l ++ m).length esh) (rd := o :: rdx) (δ := some (o, .arr (ver + 1) (flat f (l ++ m)))) ?_ rfl hS h
 simp only [opV, b7C, e, e2, Option.bind_some, he.all, if_true]
 rw [if_pos ⟨trivial, hb.1, hb.2⟩]
 have e3 : (flat f l).take (l.length * f5 esh) = flat f l := List.take_of_length_le (by rw [he.length]; exact Nat.le_refl _)
 simp only [v3, ho, if_true, Option.map_some, List.drop_zero, e3, ← v8, List.length_append]
theorem a4l {ex} (m : List α) : a7V esh (.sl ex (f5 esh) (m.map f)) S = some (m.length, flat f m, []) := by
 simp only [a7V, if_true, List.length_map, a8P]
theorem b1P {d x lo hi rs} {K : Fr → List Ob → List LE → Prop} {ex} {l : List α} {a b : Nat} (e : ev (Fr.get fr) x = .sl ex (f5 esh) (l.map f)) (h1 : loN (evO (Fr.get fr) lo) = some a) (h2 : hiN l.length (evO (Fr.get fr) hi) = some b) (hab : a ≤ b ∧ b ≤ l.length)
  (h : VTops P ow rs ((d, .sl false (f5 esh) (((l.take b).drop a).map f)) :: fr) S (.acc [] none :: log) K) : VTops P ow (⟨some d, none, .op (.slc esh x lo hi none)⟩ :: rs) fr S log K := by
 refine s8 (v := .sl false (f5 esh) (((l.take b).drop a).map f)) ?_ rfl h
 simp only [opV, e, b7U, h1, List.length_map, h2]
 rw [if_pos ⟨trivial, hab.1, hab.2⟩]
 rw [List.map_drop, List.map_take]; rfl
theorem a5x {d x lo hi rs} {K : Fr → List Ob → List LE → Prop} {o ver off n a b : Nat} (e : ev (Fr.get fr) x = .ref o ver off n esh) (h1 : loN (evO (Fr.get fr) lo) = some a) (h2 : hiN n (evO (Fr.get fr) hi) = some b) (hab : a ≤ b ∧ b ≤ n ∧ (a = 0 ∨ a < b))
  (h : VTops P ow rs ((d, .ref o ver (off + a * f5 esh) (b - a) esh) :: fr) S (.acc [] none :: log) K) : VTops P ow (⟨some d, none, .op (.slc esh x lo hi none)⟩ :: rs) fr S log K := by
 refine s8 (v := .ref o ver (off + a * f5 esh) (b - a) esh) ?_ rfl h
 simp only [opV, e, b7U, h1, h2]
 rw [if_pos ⟨trivial, hab.1, hab.2.1, hab.2.2⟩]; rfl
theorem c2V {d} {bytes : Nat} {z l c rs} {K : Fr → List Ob → List LE → Prop} {k k' n n'} {S' : List Ob} {x : α} (he : Enc f esh) (how : ow.contains d = true) (e : ev (Fr.get fr) l = .int k n) (e1 : ev (Fr.get fr) c = .int k' n') (hz : (f x).cells = z) (hn : 0 ≤ n ∧ n ≤ n' ∧ n' * bytes ≤ 281474976710656 ∧ n' ≤ 281474976710656)
  (hS : y7 S S.length (.arr 0 (flat f (List.replicate n.toNat x))) = S')
  (h : VTops P ow rs ((d, .ref S.length 0 0 n.toNat esh) :: fr) S' (.acc [S.length] (some S.length) :: log) K) : VTops P ow (⟨some d, none, .op (.mksl esh bytes z l c)⟩ :: rs) fr S log K := by
 refine a0H (v := .ref S.length 0 0 n.toNat esh) (rd := []) (δ := some (S.length, .arr 0 (flat f (List.replicate n.toNat x)))) ?_ rfl hS h
 simp only [opV, b0J, e, e1]
 rw [if_pos hn]
 subst hz
 have how' : d ∈ ow := by simpa using how
 simp [a2P, he.repl, he.all, he.length, how']
theorem c2W {d} {bytes : Nat} {z l c rs} {K : Fr → List Ob → List LE → Prop} {k k' n n'} {x : α} (he : Enc f esh) (how : ow.contains d = false) (e : ev (Fr.get fr) l = .int k n) (e1 : ev (Fr.get fr) c = .int k' n') (hz : (f x).cells = z) (hn : 0 ≤ n ∧ n ≤ n' ∧ n' * bytes ≤ 281474976710656 ∧ n' ≤ 281474976710656)
  (h : VTops P ow rs ((d, .sl false (f5 esh) ((List.replicate n.toNat x).map f)) :: fr) S (.acc [] none :: log) K) : VTops P ow (⟨some d, none, .op (.mksl esh bytes z l c)⟩ :: rs) fr S log K := by
 refine s8 (v := .sl false (f5 esh) ((List.replicate n.toNat x).map f)) ?_ rfl h
 simp only [opV, b0J, e, e1]
 rw [if_pos hn]
 subst hz
 have hel := he.elems (List.replicate n.toNat x)
 simp only [List.length_replicate] at hel
 have hl := he.length (List.replicate n.toNat x)
 simp only [List.length_replicate] at hl
 simp only [a2P, he.repl, he.all, how]
 rw [if_pos ⟨by omega, trivial⟩]
 simp only [Bool.false_eq_true, if_false, hel]
theorem b8g {d x rs} {K : Fr → List Ob → List LE → Prop} {o ver off n e0} (e : ev (Fr.get fr) x = .ref o ver off n e0)
  (h : VTops P ow rs ((d, .int .i64 n) :: fr) S (.acc [] none :: log) K) : VTops P ow (⟨some d, none, .op (.len .sl x)⟩ :: rs) fr S log K := by
 refine s8 (v := .int .i64 n) ?_ rfl h
 simp [opV, e, c2x, pv]
end
end Go.Ab

namespace Go.Ab
open Go.RowKit
def avI (k : IntKind) (x : Int) : AV := .int k x
def avB (x : Bool) : AV := .bool x
def avL {α : Type} (sz : Nat) (f : α → AV) (l : List α) : AV := .sl false sz (l.map f)
theorem m9 (k : IntKind) : Enc (avI k) none := ⟨fun _ => rfl, fun _ => rfl, fun _ => rfl, fun _ _ => rfl⟩
theorem b1Q : Enc avB none := ⟨fun _ => rfl, fun _ => rfl, fun _ => rfl, fun _ _ => rfl⟩
theorem a7C {α : Type} {f : α → AV} {esh : Option Nat} (he : Enc f esh) (sz : Nat) : Enc (avL sz f) none := ⟨fun _ => rfl, fun _ => rfl, fun _ => rfl, fun x n => he.blwm n x⟩
def b7G {α : Type} (l : List α) (lo hi : Int) : Option (List α) := if 0 ≤ lo ∧ lo ≤ hi ∧ hi ≤ l.length then some ((l.take hi.toNat).drop lo.toNat) else none
def b0W {α : Type} (bytes : Nat) (l m : List α) : Option (List α) := if (l.length + m.length) * bytes ≤ 140737488355328 ∧ l.length + m.length ≤ 140737488355328 then some (l ++ m) else none
def mkL {α : Type} (bytes : Nat) (n n' : Int) (x : α) : Option (List α) := if 0 ≤ n ∧ n ≤ n' ∧ n' * bytes ≤ 281474976710656 ∧ n' ≤ 281474976710656 then some (List.replicate n.toNat x) else none
theorem a8R {α : Type} {l : List α} {lo hi v} (h : b7G l lo hi = some v) : (0 ≤ lo ∧ lo ≤ hi ∧ hi ≤ l.length) ∧ v = (l.take hi.toNat).drop lo.toNat := by
 unfold b7G at h; split at h
 ·cases h; exact ⟨by assumption, rfl⟩
 ·cases h
theorem a8S {α : Type} {bytes} {l m v : List α} (h : b0W bytes l m = some v) : ((l.length + m.length) * bytes ≤ 140737488355328 ∧ l.length + m.length ≤ 140737488355328) ∧ v = l ++ m := by
 unfold b0W at h; split at h
 ·cases h; exact ⟨by assumption, rfl⟩
 ·cases h
theorem b0X {α : Type} {bytes n n'} {x : α} {v} (h : mkL bytes n n' x = some v) : (0 ≤ n ∧ n ≤ n' ∧ n' * bytes ≤ 281474976710656 ∧ n' ≤ 281474976710656) ∧ v = List.replicate n.toNat x := by
 unfold mkL at h; split at h
 ·cases h; exact ⟨by assumption, rfl⟩
 ·cases h
theorem a3x {α : Type} {l : List α} {i : Nat} {y : α} (h : l[i]? = some y) : u4 l (i : Int) = some y := by
 unfold u4; rw [if_pos zO]; simpa using h
theorem a2G {k n len} (h : 0 ≤ n) : hiN len (some (.int k n)) = some n.toNat := by simp [hiN, h]

section
variable {P : Program} {S0 : List Ob} {ow : List Nat} {fr : Fr} {S : List Ob} {log : List LE} {α : Type} {f : α → AV} {esh : Option Nat}
theorem b8h {d x lo hi rs} {K : Fr → List Ob → List LE → Prop} {ex} {l v : List α} {a b : Int} (e : ev (Fr.get fr) x = .sl ex (f5 esh) (l.map f)) (h1 : 0 ≤ a → loN (evO (Fr.get fr) lo) = some a.toNat) (h2 : 0 ≤ b → hiN l.length (evO (Fr.get fr) hi) = some b.toNat) (hv : b7G l a b = some v)
  (h : VTops P ow rs ((d, .sl false (f5 esh) (v.map f)) :: fr) S (.acc [] none :: log) K) : VTops P ow (⟨some d, none, .op (.slc esh x lo hi none)⟩ :: rs) fr S log K := by
 obtain ⟨h3, rfl⟩ := a8R hv
 exact b1P e (h1 h3.1) (h2 zO) zO h
def awF (fr : Fr) : Fr → Prop
 | [] => True
 | (t, v) :: r => AVw (Fr.get fr t) v ∧ awF fr r
theorem a8T {fr : Fr} : ∀ {fr' : Fr}, awF fr fr' → ∀ t, AVw (Fr.get fr t) (Fr.get fr' t)
 | [], _, t => .junk _
 | (t', v) :: r, h, t => by
   rw [get_cons]
   split
   ·rename_i e; subst e; exact h.1
   ·exact a8T h.2 t
theorem c2X {fr' : Fr} (h : awF fr fr') : Wk S0 fr S fr' S := GWk.refl.wk (a8T h)
end

section
variable {M : b0T} {S S' : List Ob}
theorem j8 {o ver off o' ver' off' k cs cs'} (h1 : a3U M o' = some (o, k)) (h2 : hp S o = .arr ver cs) (h3 : hp S' o' = .arr ver' cs') (e : off = k + off') : RnV (wkR M S S') (.ptr o ver off) (.ptr o' ver' off') := .ptr ⟨k, cs, cs', h1, h2, h3, e⟩
theorem c8 {R : Rn} {x : AV} (h : x.blw 0 = true) : RnV R x x := .base h (.refl _)
theorem a6i {S0 : List Ob} {o' o k v' cs' v cs} (h1 : a3U M o' = some (o, k)) (h2 : hp S o = .arr v cs) (h3 : RnL (wkR M S S') k cs cs') (h4 : Nat.ble S0.length o' = true) : b1M M S0 S S' o' (.arr v' cs') := by
 have h4 := Nat.le_of_ble_eq_true h4
 show match a3U M o' with | some (o, k) => _ | none => _
 rw [h1]
 exact ⟨v, cs, h2, h3, fun h => by omega⟩
theorem f4 {S0 : List Ob} {o' v cs' cs} (h1 : a3U M o' = some (o', 0)) (h2 : hp S o' = .arr v cs) (h3 : RnL (wkR M S S') 0 cs cs') (h4 : cs'.length = cs.length) : b1M M S0 S S' o' (.arr v cs') := by
 show match a3U M o' with | some (o, k) => _ | none => _
 rw [h1]
 exact ⟨v, cs, h2, h3, fun _ => .inl ⟨rfl, .inr ⟨rfl, rfl, h4⟩⟩⟩
end

section
variable {k0 k : Nat} {S : List Ob}
theorem y1 {x y : AV} (hb : x.blw k0 = true) (h : AVw x y) : AVw (frz k0 S k x) y := by rw [b1N hb]; exact h
def fzL (k0 k : Nat) (S : List Ob) : List AV → List AV → Prop
 | [], [] => True
 | x :: xs, y :: ys => AVw (frz k0 S k x) y ∧ fzL k0 k S xs ys
 | _, _ => False
theorem b1R : ∀ {xs ys : List AV}, fzL k0 k S xs ys → awL (xs.map (frz k0 S k)) ys
 | [], [], _ => trivial
 | _ :: _, _ :: _, h => ⟨h.1, b1R h.2⟩
theorem z0 {xs ys : List AV} (h : fzL k0 k S xs ys) : AVw (frz k0 S (k + 1) (.tup xs)) (.tup ys) := by
 have h1 := b1R h
 simp only [frz]
 split
 ·rename_i hb
  have hb' : a0v k0 xs = true := hb
  rw [a6g hb'] at h1
  exact .tupL h1
 ·exact .tupL h1
theorem a6X {α : Type} {f : α → AV} {esh : Option Nat} (he : Enc f esh) {o ver} {l : List α} (h0 : k0 ≤ o) (ho : hp S o = .arr ver (flat f l)) : AVw (frz k0 S (k + 1) (.ref o ver 0 l.length esh)) (.sl false (f5 esh) (l.map f)) := by
 have hb : (AV.ref o ver 0 l.length esh).blw k0 = false := by simp [AV.blw]; omega
 have hm : (flat f l).map (frz k0 S k) = flat f l := a6g (he.blwf k0 l)
 simp only [frz, hb, ho, Bool.false_eq_true, if_false, hm, List.drop_zero]
 rw [if_pos ⟨trivial, by rw [he.length]; omega, he.all l⟩, he.elems]
 exact .refl _
end
end Go.Ab

namespace Go.Ab
open Go.RowKit
def oc {σ β : Type} (f : σ → Option β) : Out σ (Option β) → Option β
 | .fin s => f s
 | .ret v => v
section
variable {P : Program} {S0 : List Ob} {ow : List Nat} {fr : Fr} {S : List Ob} {σ β : Type} {nx bk : Nat → Bool} {F : σ → Fr} {T : σ → List Ob} {Fx : σ → Fr} {Tx : σ → List Ob} {f : σ → Option β} {r : β} {K : Post}
theorem a3y {v : Option β} {c : Stp σ (Option β)} (e : c = .ret v) (h : v = some r → K .ret fr S) : a5w S0 nx bk F T Fx Tx (oc f) r K c .ret fr S := c5H e h
theorem a6Y {tc ti tn tj id id2 : Nat} {B : FC} {body : Nat → σ → Option (Stp σ (Option β))} {n : Int} {s0 : σ} (F : σ → Fr) (T : σ → List Ob) (h : (rni body n s0).bind (oc f) = some r)
  (h1 : ti ≠ tn) (h2 : tj ≠ tn) (hF : ∀ s, Fr.get (F s) tj = .junk ∧ Fr.get (F s) ti = .junk ∧ Fr.get (F s) tn = .junk ∧ Fr.get (F s) tc = .junk)
  (hw : Wk S0 fr S ((ti, .int .i64 0) :: (tn, .int .i64 n) :: F s0) (T s0))
  (hb : ∀ (i : Nat) s c, (i : Int) < n → body i s = some c → VT P S0 ow B ((tc, .bool true) :: (ti, .int .i64 i) :: (tn, .int .i64 n) :: F s) (T s)
   (a5w S0 (fun j => j == id2) (fun j => j == id) (fun s => (ti, .int .i64 i) :: (tn, .int .i64 n) :: F s) T F T (oc f) r K c))
  (hx : ∀ s fr' S', f s = some r → Wk S0 fr' S' (F s) (T s) → K .normal fr' S') :
  VT P S0 ow (.block id (.loop (.seq (.reg [⟨some tc, none, .op (.bin .none .lss (.t ti) (.t tn))⟩] []) (.seq (.cond (.t tc) .skip (.exit id)) (.seq (.block id2 B) (.reg [⟨some tj, none, .op (.bin .none .add (.t ti) (.v (.int .i64 1)))⟩, ⟨some ti, none, .op (.mv (.t tj))⟩] [])))))) fr S K := b8d body F T h h1 h2 hF hw hb hx
theorem a4m {α : Type} {tc ti tn tj id id2 : Nat} {B : FC} {body : Nat → α → σ → Option (Stp σ (Option β))} {xs : List α} {s0 : σ} (F : σ → Fr) (T : σ → List Ob) (h : (rng body xs s0).bind (oc f) = some r)
  (h1 : ti ≠ tn) (h2 : tj ≠ tn) (hF : ∀ s, Fr.get (F s) tj = .junk ∧ Fr.get (F s) ti = .junk ∧ Fr.get (F s) tn = .junk ∧ Fr.get (F s) tc = .junk)
  (hw : Wk S0 fr S ((ti, .int .i64 0) :: (tn, .int .i64 xs.length) :: F s0) (T s0))
  (hb : ∀ (i : Nat) x s c, xs[i]? = some x → i < xs.length → body i x s = some c → VT P S0 ow B ((tc, .bool true) :: (ti, .int .i64 i) :: (tn, .int .i64 xs.length) :: F s) (T s)
   (a5w S0 (fun j => j == id2) (fun j => j == id) (fun s => (ti, .int .i64 i) :: (tn, .int .i64 xs.length) :: F s) T F T (oc f) r K c))
  (hx : ∀ s fr' S', f s = some r → Wk S0 fr' S' (F s) (T s) → K .normal fr' S') :
  VT P S0 ow (.block id (.loop (.seq (.reg [⟨some tc, none, .op (.bin .none .lss (.t ti) (.t tn))⟩] []) (.seq (.cond (.t tc) .skip (.exit id)) (.seq (.block id2 B) (.reg [⟨some tj, none, .op (.bin .none .add (.t ti) (.v (.int .i64 1)))⟩, ⟨some ti, none, .op (.mv (.t tj))⟩] [])))))) fr S K := c2U body F T h h1 h2 hF hw hb hx
theorem b0Y {b} {K K0 : Post} {fr' : Fr} {S' : List Ob} {F' : Fr} {T' : List Ob} (hw : Wk S0 fr' S' F' T') (h : VT P S0 ow b F' T' K) : Post.thn (fun fr' S' => ∃ F T, Wk S0 fr' S' F T ∧ VT P S0 ow b F T K) K0 .normal fr' S' := a3v hw h
theorem c5I {k : Out σ (Option β) → Option β} {c : Stp σ (Option β)} {fr' : Fr} {S' : List Ob} {F' : Fr} {T' : List Ob} {s : σ} (e : c = .nxt s) (hw : Wk S0 fr' S' F' T') (hw2 : Wk S0 F' T' (F s) (T s)) : a5w S0 nx bk F T Fx Tx k r K c .normal fr' S' := b0m e (b0P hw hw2)
end
theorem aM {P : Program} {ow : List Nat} {fr : Fr} {S : List Ob} {log : List LE} {d x rs} {K : Fr → List Ob → List LE → Prop} {v'} (h : VTops P ow rs ((d, v') :: fr) S (.acc [] none :: log) K) (e2 : ev (Fr.get fr) x = v' := by conv => lhs; whnf) : VTops P ow (⟨some d, none, .op (.mv x)⟩ :: rs) fr S log K := a3O e2 h
theorem oM {P : Program} {ow : List Nat} {fr : Fr} {S : List Ob} {log : List LE} {d x rs} {K : Fr → List Ob → List LE → Prop} (v') (h : VTops P ow rs ((d, v') :: fr) S (.acc [] none :: log) K) (e2 : ev (Fr.get fr) x = v' := by exact rfl) : VTops P ow (⟨some d, none, .op (.mv x)⟩ :: rs) fr S log K := a3O e2 h
theorem aO {P : Program} {ow : List Nat} {fr : Fr} {S : List Ob} {log : List LE} {d r rs} {K : Fr → List Ob → List LE → Prop} {v v'} (h : VTops P ow rs ((d, v') :: fr) S (.acc [] none :: log) K) (e : opV (ow.contains d) r (Fr.get fr) S = some (v, [], none) := by exact rfl) (e2 : v = v' := by conv => lhs; whnf) : VTops P ow (⟨some d, none, .op r⟩ :: rs) fr S log K := s8 e e2 h
theorem oP {P : Program} {ow : List Nat} {fr : Fr} {S : List Ob} {log : List LE} {d r rs} {K : Fr → List Ob → List LE → Prop} {v} (v') (h : VTops P ow rs ((d, v') :: fr) S (.acc [] none :: log) K) (e : opV (ow.contains d) r (Fr.get fr) S = some (v, [], none) := by exact rfl) (e2 : v = v' := by exact rfl) : VTops P ow (⟨some d, none, .op r⟩ :: rs) fr S log K := s8 e e2 h
theorem aR {P : Program} {ow : List Nat} {fr : Fr} {S : List Ob} {log : List LE} {d x rs} {K : Fr → List Ob → List LE → Prop} {o ver off e0} {n : Nat} (h : VTops P ow rs ((d, .int .i64 n) :: fr) S (.acc [] none :: log) K) (e : ev (Fr.get fr) x = .ref o ver off n e0 := by exact rfl) : VTops P ow (⟨some d, none, .op (.len .sl x)⟩ :: rs) fr S log K := b8g e h
theorem aL {P : Program} {ow : List Nat} {fr : Fr} {S : List Ob} {log : List LE} {d x rs} {K : Fr → List Ob → List LE → Prop} {ex sz} {α : Type} {f : α → AV} {ys : List α} (h : VTops P ow rs ((d, .int .i64 ys.length) :: fr) S (.acc [] none :: log) K) (e : ev (Fr.get fr) x = .sl ex sz (ys.map f) := by exact rfl) : VTops P ow (⟨some d, none, .op (.len .sl x)⟩ :: rs) fr S log K := y9 e h
theorem oH {P : Program} {ow : List Nat} {fr : Fr} {S : List Ob} {log : List LE} {d t want c rs} {K : Fr → List Ob → List LE → Prop} (h : VTops P ow (⟨d, none, c⟩ :: rs) fr S log K) (e : Fr.get fr t = .bool want := by exact rfl) : VTops P ow (⟨d, some (t, want), c⟩ :: rs) fr S log K := c5C e h
theorem oN {P : Program} {ow : List Nat} {fr : Fr} {S : List Ob} {log : List LE} {d t want c rs} {K : Fr → List Ob → List LE → Prop} (h : VTops P ow rs (a4E fr d (.tup [])) S (.acc [] none :: log) K) (e : Fr.get fr t = .bool (!want) := by exact rfl) : VTops P ow (⟨d, some (t, want), c⟩ :: rs) fr S log K := c5D e h
theorem oZ {P : Program} {ow : List Nat} {fr : Fr} {S : List Ob} {log : List LE} {d t want c rs} {K : Fr → List Ob → List LE → Prop} (h : VTops P ow rs (a4E fr d (.tup [])) S (.acc [] none :: log) K) (e : Fr.get fr t = .tup [] := by exact rfl) : VTops P ow (⟨d, some (t, want), c⟩ :: rs) fr S log K := c5E e h
theorem nB {a b : Nat} (h : Nat.ble a b = true := by exact rfl) : a ≤ b := Nat.le_of_ble_eq_true h
theorem wW {S0 : List Ob} {fr fr' : Fr} {S : List Ob} (h : awF fr fr' := by repeat (first | exact trivial | refine ⟨.refl _, ?_⟩)) : Wk S0 fr S fr' S := c2X h
theorem nL {R} {cs : List AV} : RnL R 0 cs [] := .nil (Nat.zero_le _)
theorem cB {R} {x : AV} {xs ys : List AV} (h : x.blw 0 = true) (k : RnL R 0 xs ys) : RnL R 0 (x :: xs) (x :: ys) := .cons (c8 h) k
theorem aU {p q : Prop} (h : q) (e : q → p := by intro h; (repeat (first|refine aM ?_|refine aR ?_|refine aL ?_|refine aO ?_|refine c7 ?_|refine j1 ?_|refine a1P ?_|refine g9 ?_|refine d6 ?_|refine m0 ?_|refine oH ?_|refine oN ?_|refine oZ ?_)); exact h) : p := e h
theorem aS {p q : Prop} (h : q) (e : q → p := by intro h; (repeat (first|refine aM ?_|refine aR ?_|refine aL ?_|refine aO ?_)); exact h) : p := e h
end Go.Ab

/- The steps as the printed proofs use them. -/
namespace Go.Ab
open Go.RowKit

def c2Y (n : Nat) : List AV → Prop
 | [] => True
 | x :: r => x.blw n = true ∧ c2Y n r
theorem l8 {n : Nat} : ∀ {xs : List AV}, c2Y n xs → a0v n xs = true
 | [], _ => rfl
 | x :: r, h => by simp only [a0v, h.1, l8 h.2, Bool.and_self]
theorem Enc.blws {α : Type} {f : α → AV} {esh : Option Nat} (he : Enc f esh) (n : Nat) {ex sz} {l : List α} : (AV.sl ex sz (l.map f)).blw n = true := he.blwm n l
theorem c6 {x : AV} {n off : Nat} (h : x.blw n = true) : (AV.cptr x.cells off).blw n = true := a1W h
theorem a6j {n : Nat} {xs : List AV} (h : c2Y n xs) : (AV.tup xs).blw n = true := l8 h
def awE : List AV → List AV → Prop
 | [], [] => True
 | x :: xs, y :: ys => (x.cells.length = y.cells.length ∧ awL x.cells y.cells) ∧ awE xs ys
 | _, _ => False
theorem a8U : ∀ {xs ys : List AV}, awE xs ys → xs.length = ys.length
 | [], [], _ => rfl
 | _ :: xs, _ :: ys, h => congrArg (· + 1) (a8U h.2)
theorem a6k : ∀ {xs ys : List AV}, awE xs ys → ∀ i (h1 : i < xs.length) (h2 : i < ys.length), xs[i].cells.length = ys[i].cells.length ∧ awL xs[i].cells ys[i].cells
 | [], _, _, j, h1, _ => by simp at h1
 | x :: xs, y :: ys, h, 0, _, _ => h.1
 | x :: xs, y :: ys, h, j + 1, h1, h2 => a6k h.2 j (by simpa using h1) (by simpa using h2)
theorem AVw.slL {ex sz} {xs ys : List AV} (h : awE xs ys) : AVw (.sl ex sz xs) (.sl ex sz ys) :=
 .sl id (a8U h) (fun i h1 h2 => (a6k h i h1 h2).1) (fun i h1 h2 j h3 h4 => a2c (a6k h i h1 h2).2 j h3 h4)
def a8V (k : IntKind) (x y : Int) : Int := k.wrap (BitVec.ofInt k.bits x &&& BitVec.ofInt k.bits y).toNat
def b2F (k : IntKind) (x y : Int) : Int := k.wrap (BitVec.ofInt k.bits x ||| BitVec.ofInt k.bits y).toNat
def a8W (k : IntKind) (x y : Int) : Int := k.wrap (BitVec.ofInt k.bits x ^^^ BitVec.ofInt k.bits y).toNat
def shL (k : IntKind) (x y : Int) : Int := k.wrap (x * 2 ^ (min y.toNat k.bits))
def shR (k : IntKind) (x y : Int) : Int := x.fdiv (2 ^ (min y.toNat k.bits))

section
variable {P : Program} {S0 : List Ob} {ow : List Nat} {fr : Fr} {S : List Ob} {log : List LE} {α : Type} {f : α → AV} {esh : Option Nat}
theorem c2Z {d t x y rs} {K : Fr → List Ob → List LE → Prop} {k a b} (e : ev (Fr.get fr) x = .int k a) (e1 : ev (Fr.get fr) y = .int k b) (hb : b ≠ 0)
  (h : VTops P ow rs ((d, .int k (k.wrap (a.tdiv b))) :: fr) S (.acc [] none :: log) K) : VTops P ow (⟨some d, none, .op (.bin t .quo x y)⟩ :: rs) fr S log K := by
 refine s8 (v := .int k (k.wrap (a.tdiv b))) ?_ rfl h
 simp [opV, e, e1, b0I, a1q, hb, pv]
theorem c3a {d t x y rs} {K : Fr → List Ob → List LE → Prop} {k a b} (e : ev (Fr.get fr) x = .int k a) (e1 : ev (Fr.get fr) y = .int k b) (hb : b ≠ 0)
  (h : VTops P ow rs ((d, .int k (a.tmod b)) :: fr) S (.acc [] none :: log) K) : VTops P ow (⟨some d, none, .op (.bin t .rem x y)⟩ :: rs) fr S log K := by
 refine s8 (v := .int k (a.tmod b)) ?_ rfl h
 simp [opV, e, e1, b0I, a1q, hb, pv]
theorem c3b {d t x y rs} {K : Fr → List Ob → List LE → Prop} {k k' a b} (e : ev (Fr.get fr) x = .int k a) (e1 : ev (Fr.get fr) y = .int k' b) (hb : 0 ≤ b)
  (h : VTops P ow rs ((d, .int k (shL k a b)) :: fr) S (.acc [] none :: log) K) : VTops P ow (⟨some d, none, .op (.bin t .shl x y)⟩ :: rs) fr S log K := by
 refine s8 (v := .int k (shL k a b)) ?_ rfl h
 simp only [opV, e, e1, b0I, a5T]
 rw [if_neg zO]; rfl
theorem b8i {d t x y rs} {K : Fr → List Ob → List LE → Prop} {k k' a b} (e : ev (Fr.get fr) x = .int k a) (e1 : ev (Fr.get fr) y = .int k' b) (hb : 0 ≤ b)
  (h : VTops P ow rs ((d, .int k (shR k a b)) :: fr) S (.acc [] none :: log) K) : VTops P ow (⟨some d, none, .op (.bin t .shr x y)⟩ :: rs) fr S log K := by
 refine s8 (v := .int k (shR k a b)) ?_ rfl h
 simp only [opV, e, e1, b0I, a5T]
 rw [if_neg zO]; rfl
theorem b8j {d} {bytes : Nat} {z l c rs} {K : Fr → List Ob → List LE → Prop} {k k' n n'} {x : α} {v : List α} (he : Enc f esh) (how : ow.contains d = false) (e : ev (Fr.get fr) l = .int k n) (e1 : ev (Fr.get fr) c = .int k' n') (hz : (f x).cells = z) (hv : mkL bytes n n' x = some v)
  (h : VTops P ow rs ((d, .sl false (f5 esh) (v.map f)) :: fr) S (.acc [] none :: log) K) : VTops P ow (⟨some d, none, .op (.mksl esh bytes z l c)⟩ :: rs) fr S log K := by
 obtain ⟨h1, rfl⟩ := b0X hv
 exact c2W he how e e1 hz h1 h
theorem b0Z {d bytes s x rs} {K : Fr → List Ob → List LE → Prop} {o ver : Nat} {l m v : List α} {rdx : List Nat} {S' : List Ob} (he : Enc f esh) (e : ev (Fr.get fr) s = .ref o ver 0 l.length esh) (e2 : a7V esh (ev (Fr.get fr) x) S = some (m.length, flat f m, rdx))
  (ho : hp S o = .arr ver (flat f l)) (hv : b0W bytes l m = some v) (hS : y7 S o (.arr (ver + 1) (flat f v)) = S')
  (h : VTops P ow rs ((d, .ref o (ver + 1) 0 v.length esh) :: fr) S' (.acc (o :: o :: rdx) (some o) :: log) K) : VTops P ow (⟨some d, none, .op (.app esh bytes s x)⟩ :: rs) fr S log K := by
 obtain ⟨h1, rfl⟩ := a8S hv
 exact b8f he e e2 ho h1 hS h
theorem a0a {d f args rs} {K : Fr → List Ob → List LE → Prop} {as as' v} (c : n0 P f as v) (e : evL (Fr.get fr) args = as') (hw : awL as' as) (h1 : a0v 0 as' = true) (h2 : v.blw 0 = true) (h : VTops P ow rs ((d, v) :: fr) S (.acc [] none :: log) K) :
  VTops P ow (⟨some d, none, .call f args⟩ :: rs) fr S log K :=
 a4j (c.weaka (a2b hw) (a2c hw)) e h1 h2 h
theorem b1a {d f x args rs} {K : Fr → List Ob → List LE → Prop} {as as' first caps v} (e : ev (Fr.get fr) x = .fn (.func f) first caps) (hc : t7 P f = true) (c : n0 P f as v) (e' : first ++ evL (Fr.get fr) args ++ caps = as') (hw : awL as' as) (h1 : a0v 0 as' = true) (h2 : v.blw 0 = true) (h : VTops P ow rs ((d, v) :: fr) S (.acc [] none :: log) K) :
  VTops P ow (⟨some d, none, .callv x args⟩ :: rs) fr S log K :=
 b2z e hc (c.weaka (a2b hw) (a2c hw)) e' h1 h2 h
end

section
variable {M : b0T} {m : Nat} {S S' : List Ob} {α : Type} {f : α → AV} {e : Option Nat}
end
end Go.Ab

/- Objects of the caller: the terms of the frame rule; freezing between two statements. -/
namespace Go.Ab
open Go.RowKit

section
variable {M : List Nat} {T T' S S' : List Ob} {α : Type} {f : α → AV} {e : Option Nat}
theorem t6 {o v O V off CS cs} (h1 : Nat.blt o T.length = true) (h2 : M.getD o 0 = O) (h3 : hp S O = .arr V CS) (h4 : hp T o = .arr v cs) : RnV (frI M T S) (.ptr O V off) (.ptr o v off) :=
 .ptr ⟨by simpa [Nat.blt_eq] using h1, h2, ⟨_, h3⟩, ⟨_, h4⟩, rfl⟩
theorem z5 {o v cs V CS} (h : hp S (M.getD o 0) = .arr V CS) (hl : CS.length = cs.length) (hr : RnL (frI M T S) 0 CS cs) : c2S M T S o (.arr v cs) := ⟨v, cs, V, CS, rfl, h, hl, hr⟩
theorem m5 {o v cs0 cs' V CS' CS} (h : hp S' (frN M T S o) = .arr V CS') (hl : CS'.length = cs'.length) (hr : RnL (frO M T T' S S') 0 cs' CS') (hs : hp S (M.getD o 0) = .arr V CS) (ht : hp T o = .arr v cs0) : b0V M T T' S S' o (.arr v cs') :=
 ⟨V, CS', h, hl, hr, fun _ v2 cs2 V2 CS2 h1 h2 => by rw [hs] at h2; rw [ht] at h1; cases h2; cases h1; exact .inl ⟨rfl, rfl⟩⟩
end

def c2C (M : List Nat) : Nat → List Ob → List Ob → Prop
 | _, [], _ => True
 | i, x :: xs, y :: ys => (M.contains i = true ∨ y = x) ∧ c2C M (i + 1) xs ys
 | _, _ :: _, [] => False
theorem a6Z {M : List Nat} : ∀ {S S' : List Ob} {i : Nat}, c2C M i S S' → ∀ j, j < S.length → M.contains (i + j) = true ∨ hp S' j = hp S j
 | [], _, _, _, j, h => by simp at h
 | x :: xs, [], _, h, _, _ => h.elim
 | x :: xs, y :: ys, i, h, 0, _ => h.1
 | x :: xs, y :: ys, i, h, j + 1, hj => by
   have := a6Z h.2 j (by simpa using hj)
   rw [show i + 1 + j = i + (j + 1) by omega] at this
   exact this
theorem b8k {M : List Nat} {S S' : List Ob} (h : c2C M 0 S S') : ∀ i, i < S.length → i ∉ M → hp S' i = hp S i := fun i hi hm => by
 rcases a6Z h i hi with e | e
 ·rw [Nat.zero_add] at e; exact (hm (by simpa using e)).elim
 ·exact e

section
variable {P : Program} {S0 : List Ob} {ow : List Nat} {fr : Fr} {S : List Ob} {log : List LE}
theorem m6 {d f args rs} {K : Fr → List Ob → List LE → Prop} {T T' S' : List Ob} {as as' : List AV} {r r' : AV} (c : Ev P f as (hp T) r (hp T')) (M : List Nat) (e : evL (Fr.get fr) args = as') (hM : M.length = T.length) (inj : M.Nodup) (hT : Nat.ble T.length T'.length = true) (hS : S'.length = S.length + (T'.length - T.length))
  (hin : a5v (c2S M T S) 0 T) (hout : a5v (b0V M T T' S S') 0 T') (hoth : c2C M 0 S S') (hal : as'.length = as.length) (ha : RnL (frI M T S) 0 as' as) (hr : RnV (frO M T T' S S') r r')
  (h : VTops P ow rs ((d, r') :: fr) S' (.eff S S' :: log) K) : VTops P ow (⟨some d, none, .call f args⟩ :: rs) fr S log K :=
 a8H (c.frame M hM inj (Nat.le_of_ble_eq_true hT) hS hin hout (b8k hoth) hal ha hr) e h
end

end Go.Ab

/- A slice as an argument, by what it is: nil, empty, or not empty. -/
namespace Go.Ab
open Go Go.RowKit

theorem a5y {P : Program} {f : FuncId} {sz : Nat} {xs : List AV} {r : AV} (h0 : xs = [] → n0 P f [.nils] r) (h1 : xs = [] → n0 P f [.snn sz] r) (h2 : xs ≠ [] → n0 P f [.sl false sz xs] r) : n0 P f [.sl false sz xs] r := by
 intro g w vals hw hv
 by_cases hx : xs = []
 ·obtain ⟨v, rfl⟩ : ∃ v, vals = #[v] := by
   have := hv.1
   match vals, this with
   | ⟨[v]⟩, _ => exact ⟨v, rfl⟩
  have hr : VR g.pm g.L a7v (.sl false sz xs) v := hv.2 0 zS zS
  cases hr with
  | slnil => exact h0 rfl g w _ hw (c2R .nils)
  | slz => exact h1 rfl g w _ hw (c2R .snnz)
  | sl us hc he hz hp hq => subst hx; exact h1 rfl g w _ hw (c2R .snn)
 ·exact h2 hx g w vals hw hv
section
variable {P : Program} {S0 : List Ob} {ow : List Nat} {fr : Fr} {S : List Ob}
end
end Go.Ab

/- Lists made of zeros that are nil slices; pointers that are known not to be nil. -/
namespace Go.Ab
open Go Go.RowKit

theorem RnL.app {R : Rn} {a a' b b' : List AV} (hl : a'.length = a.length) (h : RnL R 0 a a') (k : RnL R 0 b b') : RnL R 0 (a ++ b) (a' ++ b') := by
 refine ⟨by have := k.1; simp only [List.length_append]; omega, fun j h1 h2 => ?_⟩
 simp only [Nat.zero_add] at h1 ⊢
 by_cases hj : j < a.length
 ·rw [List.getElem_append_left hj, List.getElem_append_left zO]
  have := h.2 j zO zO
  simpa only [Nat.zero_add] using this
 ·rw [List.getElem_append_right zO, List.getElem_append_right zO]
  have h2' : j - a'.length < b'.length := by simp only [List.length_append] at h2; omega
  have h1' : j - a.length < b.length := by simp only [List.length_append] at h1; omega
  have := k.2 (j - a'.length) zO h2'
  simp only [Nat.zero_add] at this
  simp only [hl] at this ⊢
  exact this
section
variable {α : Type} {f f0 : α → AV} {esh : Option Nat}
variable {P : Program} {S0 : List Ob} {ow : List Nat} {fr : Fr} {S : List Ob} {log : List LE}
end
end Go.Ab

/- Regions in the text's order may be cut: between two parts the state may be weakened. -/
namespace Go.Ab
open Go Go.RowKit

end Go.Ab

/- A call without a use of its answer; an own list as an argument, by what it is. -/
namespace Go.Ab
open Go Go.RowKit

section
variable {P : Program} {S0 : List Ob} {ow : List Nat} {fr : Fr} {S : List Ob} {log : List LE}
end
end Go.Ab

/- Plain lemmas of loops: for the laws of what functions compute. -/
namespace Go.Ab

theorem a7a {α : Type} (l : List α) (i : Nat) : u4 l (i : Int) = l[i]? := by unfold u4; rw [if_pos zO]; simp
theorem b8l {x : Int} (h : -9223372036854775808 ≤ x ∧ x ≤ 9223372036854775807) : I64 x = x := b8c h
theorem a7b {x : Int} (h : 0 ≤ x ∧ x ≤ 18446744073709551615) : U64 x = x := by
 show IntKind.u64.wrap x = x
 simp [IntKind.wrap, IntKind.bits, IntKind.signed]; omega
def bs (c : Nat → Int) (i j : Nat) : Nat :=
 if h : i < j then (if c ((i + j) / 2) < 0 then bs c ((i + j) / 2 + 1) j else bs c i ((i + j) / 2)) else i
termination_by j - i
decreasing_by all_goals omega
end Go.Ab

/- Plain laws of loops and texts, for any law. -/
namespace Go.Ab
open Go Go.RowKit

theorem a4n {α σ ρ : Type} {body : Nat → α → σ → Option (Stp σ ρ)} (ok : α → Bool) (v : ρ) (Inv : Nat → σ → Prop) : ∀ (xs : List α) (k : Nat) (s : σ), Inv k s →
  (∀ i x s, xs[i]? = some x → Inv (k + i) s → if ok x = true then ∃ s', body (k + i) x s = some (.nxt s') ∧ Inv (k + i + 1) s' else body (k + i) x s = some (.ret v)) →
  if xs.all ok = true then ∃ s', a0C body xs k s = some (.fin s') ∧ Inv (k + xs.length) s' else a0C body xs k s = some (.ret v)
 | [], k, s, hi, h => by simp only [List.all_nil, if_true, a0C]; exact ⟨s, rfl, by simpa using hi⟩
 | x :: r, k, s, hi, h => by
   have h0 := h 0 x s rfl hi
   cases hx : ok x with
   | false =>
     rw [hx] at h0
     simp only [Nat.add_zero, Bool.false_eq_true, if_false] at h0
     simp only [List.all_cons, hx, Bool.false_and, Bool.false_eq_true, if_false, a0C, h0]
   | true =>
     rw [hx] at h0
     simp only [Nat.add_zero, if_true] at h0
     obtain ⟨s', e1, e2⟩ := h0
     have := a4n ok v Inv r (k + 1) s' e2 (fun i y s hy hs => by
      have := h (i + 1) y s (by simpa using hy) (by rwa [show k + (i + 1) = k + 1 + i by omega])
      rwa [show k + (i + 1) = k + 1 + i by omega] at this)
     simp only [List.all_cons, hx, Bool.true_and, a0C, e1, List.length_cons]
     rw [show k + (r.length + 1) = k + 1 + r.length by omega]
     exact this
theorem b2G {α σ ρ : Type} {body : Nat → α → σ → Option (Stp σ ρ)} {xs : List α} {s0 : σ} (ok : α → Bool) (v : ρ) (Inv : Nat → σ → Prop) (hl : xs.length ≤ 4611686018427387904) (h0 : Inv 0 s0)
  (h : ∀ i x s, xs[i]? = some x → Inv i s → if ok x = true then ∃ s', body i x s = some (.nxt s') ∧ Inv (i + 1) s' else body i x s = some (.ret v)) :
  if xs.all ok = true then ∃ s', rng body xs s0 = some (.fin s') ∧ Inv xs.length s' else rng body xs s0 = some (.ret v) := by
 unfold rng
 rw [if_pos hl]
 have := a4n ok v Inv xs 0 s0 h0 (fun i x s hx hs => by simpa using h i x s hx (by simpa using hs))
 simpa using this
theorem a5z {σ ρ : Type} {body : Nat → σ → Option (Stp σ ρ)} (Inv : Nat → σ → Prop) (Q : Out σ ρ → Prop) : ∀ (n k : Nat) (s : σ), Inv k s →
  (∀ i s, k ≤ i → i < k + n → Inv i s → (∃ s', body i s = some (.nxt s') ∧ Inv (i + 1) s') ∨ ∃ v, body i s = some (.ret v) ∧ Q (.ret v)) →
  (∀ s, Inv (k + n) s → Q (.fin s)) → ∃ o, a0D body n k s = some o ∧ Q o
 | 0, k, s, hi, h, hQ => ⟨_, rfl, hQ s hi⟩
 | n + 1, k, s, hi, h, hQ => by
   rcases h k s zO zO hi with ⟨s', e1, e2⟩ | ⟨v, e1, e2⟩
   ·simp only [a0D, e1]
    exact a5z Inv Q n (k + 1) s' e2 (fun i s a b c => h i s zO zO c) (fun s hs => hQ s (by rwa [show k + (n + 1) = k + 1 + n by omega]))
   ·simp only [a0D, e1]
    exact ⟨_, rfl, e2⟩
theorem b1S {σ ρ : Type} {body : Nat → σ → Option (Stp σ ρ)} {n : Int} {s0 : σ} (Inv : Nat → σ → Prop) (Q : Out σ ρ → Prop) (hn : n ≤ 4611686018427387904) (h0 : Inv 0 s0)
  (h : ∀ (i : Nat) s, (i : Int) < n → Inv i s → (∃ s', body i s = some (.nxt s') ∧ Inv (i + 1) s') ∨ ∃ v, body i s = some (.ret v) ∧ Q (.ret v)) (hQ : ∀ s, Inv n.toNat s → Q (.fin s)) : ∃ o, rni body n s0 = some o ∧ Q o := by
 unfold rni
 rw [if_pos hn]
 exact a5z Inv Q n.toNat 0 s0 h0 (fun i s _ hi hs => h i s zO hs) (fun s hs => hQ s (by simpa using hs))

end Go.Ab

/- From a reading of arguments to native values. -/
namespace Go.Ab
open Go.RowKit
variable {P : Program} {N : Nat}

def Rd (P : Program) (N : Nat) {α : Type} (f : α → AV) (Q : α → Prop) (t : TypeId) : Prop := ∀ avs, Ty P N t avs → ∃ a, avs = (f a).cells ∧ Q a

theorem rdI {t k} (h : P.underlying t = some (.int k)) : Rd P N (avI k) (fun n => (Lit.int k n).wf = true) t := by
 intro avs ht
 cases ht with
 | bool h' => rw [h] at h'; cases h'
 | int h' hw => rw [h] at h'; cases h'; exact ⟨_, rfl, hw⟩
 | str h' => rw [h] at h'; cases h'
 | sl h' => rw [h] at h'; cases h'
 | struct h' => rw [h] at h'; cases h'
theorem rdB {t} (h : P.underlying t = some .bool) : Rd P N avB (fun _ => True) t := by
 intro avs ht
 cases ht with
 | bool h' => exact ⟨_, rfl, trivial⟩
 | int h' => rw [h] at h'; cases h'
 | str h' => rw [h] at h'; cases h'
 | sl h' => rw [h] at h'; cases h'
 | struct h' => rw [h] at h'; cases h'
def c3c (P : Program) (e : TypeId) (esh : Option Nat) : Prop := match esh with | some _ => ∃ fs, P.underlying e = some (.struct fs) | none => ∀ fs, P.underlying e ≠ some (.struct fs)

theorem a8X {α : Type} {f : α → AV} {esh : Option Nat} {e : TypeId} (he : Enc f esh) (hf : c3c P e esh) {x : AV} {a : α} (hc : x.cells = (f a).cells)
  (hx : ((∃ fs, P.underlying e = some (.struct fs)) ∧ ∃ cs, x = .agg cs) ∨ ((∀ fs, P.underlying e ≠ some (.struct fs)) ∧ x.cells = [x])) : x = f a := by
 have h := he.form a
 cases esh with
 | none =>
   rcases hx with ⟨⟨fs, h1⟩, _⟩ | ⟨_, h1⟩
   ·exact (hf fs h1).elim
   ·rw [h1] at hc
    have h2 : (f a).cells = [f a] := h
    rw [h2] at hc
    exact (List.cons.inj hc).1
 | some n =>
   have h2 : f a = .agg (f a).cells := h
   rcases hx with ⟨_, cs, rfl⟩ | ⟨h1, _⟩
   ·rw [h2, ← hc]; rfl
   ·obtain ⟨fs, h3⟩ := hf
    exact (h1 fs h3).elim

theorem rdL {α : Type} {f : α → AV} {Q : α → Prop} {esh : Option Nat} {t e : TypeId} (he : Enc f esh) (hf : c3c P e esh) (h : P.underlying t = some (.slice e)) {sz : Nat} (hc : P.cellsOf e = sz) (hr : Rd P N f Q e) : Rd P N (avL sz f) (fun l => l.length ≤ N ∧ ∀ a ∈ l, Q a) t := by
 intro avs ht
 cases ht with
 | bool h' => rw [h] at h'; cases h'
 | int h' => rw [h] at h'; cases h'
 | str h' => rw [h] at h'; cases h'
 | struct h' => rw [h] at h'; cases h'
 | sl h' hl hx ha =>
   rename_i e' xs
   rw [h] at h'; cases h'
   have key : ∀ y ∈ xs, ∃ a, y = f a ∧ Q a := fun y hy => by
    obtain ⟨a, h1, h2⟩ := hr _ (hx y hy)
    exact ⟨a, a8X he hf h1 (ha y hy), h2⟩
   obtain ⟨l, rfl, hq⟩ := a7A key
   refine ⟨l, ?_, by simpa using hl, hq⟩
   rw [hc]; rfl

theorem a3z {t fs avs} (h : P.underlying t = some (.struct fs)) (ht : Ty P N t avs) : avs.length = P.cellsOf t ∧ ∀ (i : Nat) (f : Field), fs[i]? = some f → Ty P N f.type ((avs.drop f.offset).take (P.cellsOf f.type)) := by
 cases ht with
 | bool h' => rw [h] at h'; cases h'
 | int h' => rw [h] at h'; cases h'
 | str h' => rw [h] at h'; cases h'
 | sl h' => rw [h] at h'; cases h'
 | struct h' hl hf => rw [h] at h'; cases h'; exact ⟨hl, hf⟩
theorem t5 {cs xs rest : List AV} {o s : Nat} (h : (cs.drop o).take s = xs) (k : cs.drop (o + s) = rest) : cs.drop o = xs ++ rest := by
 rw [← h, ← k, ← List.drop_drop, List.take_append_drop]
theorem a8Y {cs : List AV} {n : Nat} (h : cs.length = n) : cs.drop n = [] := List.drop_eq_nil_of_le zO

theorem b1T {α : Type} {f : α → AV} {Q : α → Prop} {esh : Option Nat} {t : TypeId} (he : Enc f esh) (hf : c3c P t esh) (hr : Rd P N f Q t) {x : AV} (h : Arg P N t x) : ∃ a, x = f a ∧ Q a := by
 obtain ⟨a, h1, h2⟩ := hr _ h.1
 exact ⟨a, a8X he hf h1 h.2, h2⟩
end Go.Ab

/- From a reading of an argument that is an array. -/
namespace Go.Ab
open Go.RowKit
variable {H : Type} {enc : TypeId × Value → H} {P : Program} {W : World} {bk : DataW H → Nat} {N : Nat}
end Go.Ab

/- A list whose last element's list is an object of its own. -/
namespace Go.Ab
open Go Go.RowKit
section
variable {α β : Type} {f : α → AV} {esh : Option Nat}
theorem RnL.set {R : Rn} {cs : List AV} {j : Nat} {u v : AV} (hb : a0v 0 cs = true) (h : RnV R u v) : RnL R 0 (cs.set j u) (cs.set j v) := by
 refine ⟨by simp, fun i h1 h2 => ?_⟩
 simp only [Nat.zero_add] at h1 ⊢
 simp only [List.getElem_set]
 by_cases hj : j = i
 ·simp only [hj, if_true]; exact h
 ·simp only [hj, if_false]; exact .base (y6 hb i (by simpa using h1)) (.refl _)
variable {P : Program} {S0 : List Ob} {ow : List Nat} {fr : Fr} {S : List Ob} {log : List LE}
theorem c3d {d a sh rs} {K : Fr → List Ob → List LE → Prop} {o ver p} {cs : List AV} {v : AV} (e : ev (Fr.get fr) a = .ptr o ver p) (ho : hp S o = .arr ver cs)
  (hv : a0x sh cs p = some v) (h : VTops P ow rs ((d, v) :: fr) S (.acc [o] none :: log) K) : VTops P ow (⟨some d, none, .op (.load sh a)⟩ :: rs) fr S log K := by
 refine a0H (v := v) (v' := v) (rd := [o]) (δ := none) (S' := S) ?_ rfl rfl h
 simp only [opV, e, a7z, v3, ho, if_true, Option.bind_some, hv, Option.map_some]
theorem c3e {a x nn rs} {K : Fr → List Ob → List LE → Prop} {o ver p} {cs : List AV} {S' : List Ob} {xv : AV} (e : ev (Fr.get fr) a = .ptr o ver p) (ex : ev (Fr.get fr) x = xv) (ho : hp S o = .arr ver cs)
  (hx : xv.cells.length = nn) (h1 : xv.cells.all AV.one = true) (hfit : p + nn ≤ cs.length) (hS : y7 S o (.arr ver (splice cs p xv.cells)) = S')
  (h : VTops P ow rs fr S' (.acc [o] (some o) :: log) K) : VTops P ow (⟨none, none, .op (.store nn a x)⟩ :: rs) fr S log K := by
 refine b7E (v := .tup []) (rd := []) (δ := some (o, .arr ver (splice cs p xv.cells))) (S' := S') ?_ hS h
 simp only [opV, e, ex, a6P, v3, ho, if_true, Option.bind_some]
 rw [if_pos ⟨hx, hfit, h1⟩]
end
end Go.Ab

/- A list of which one element (number k, if it is there) has a list that is an object of its own. -/
namespace Go.Ab
open Go Go.RowKit
section
variable {α β : Type} {f : α → AV} {esh : Option Nat}
variable {P : Program} {S0 : List Ob} {ow : List Nat} {fr : Fr} {S : List Ob} {log : List LE}
end
end Go.Ab

/- Heaps told by the objects that matter; contracts with a frame; steps over them. -/
namespace Go.Ab
open Go Go.RowKit

abbrev It := Nat × Nat × List AV
def Sep (S : List Ob) (L : List It) : Prop := (∀ p ∈ L, hp S p.1 = .arr p.2.1 p.2.2) ∧ (L.map (·.1)).Nodup
section
variable {S : List Ob} {L L' L0 L1 A B C R : List It} {o v v' : Nat} {cs cs' : List AV} {p p' q : It}
theorem Sep.at (h : Sep S L) (m : (o, v, cs) ∈ L) : hp S o = .arr v cs := h.1 _ m
theorem Sep.nil : Sep S [] := ⟨fun _ h => by simp at h, by simp⟩
theorem Sep.perm (h : Sep S L) (k : L.Perm L') : Sep S L' := ⟨fun p hm => h.1 p (k.mem_iff.2 hm), (k.map _).nodup_iff.1 h.2⟩
theorem Sep.sub (h : Sep S L) (k : L'.Sublist L) : Sep S L' := ⟨fun p hm => h.1 p (k.subset hm), h.2.sublist (k.map _)⟩
theorem Sep.left (h : Sep S (A ++ B)) : Sep S A := h.sub (List.sublist_append_left A B)
theorem Sep.lt (h : Sep S L) (m : p ∈ L) : p.1 < S.length := a3V (h.1 p m)
theorem w4 {i : Nat} {x : Ob} (h : i ≠ o) : hp (y7 S o x) i = hp S i := by rw [a0y, l7 _ _ h]
theorem x6 {x : Ob} : hp (y7 S o x) o = x := by rw [a0y, a0V]
theorem Sep.set (h : Sep S ((o, v, cs) :: L)) : Sep (y7 S o (.arr v' cs')) ((o, v', cs') :: L) := by
 have hn := h.2
 simp only [List.map_cons, List.nodup_cons] at hn
 refine ⟨fun p hm => ?_, by simpa only [List.map_cons, List.nodup_cons] using hn⟩
 rcases List.mem_cons.1 hm with rfl | hm
 ·exact x6
 ·have hne : p.1 ≠ o := fun e => hn.1 (by rw [← e]; exact List.mem_map_of_mem hm)
  rw [w4 hne]
  exact h.1 p (List.mem_cons_of_mem _ hm)
theorem Sep.new (h : Sep S L) : Sep (y7 S S.length (.arr v cs)) ((S.length, v, cs) :: L) := by
 refine ⟨fun p hm => ?_, ?_⟩
 ·rcases List.mem_cons.1 hm with rfl | hm
  ·exact x6
  ·rw [w4 (fun e => by have := h.lt hm; omega)]
   exact h.1 p hm
 ·simp only [List.map_cons, List.nodup_cons]
  refine ⟨fun hm => ?_, h.2⟩
  obtain ⟨p, hp1, hp2⟩ := List.mem_map.1 hm
  have := h.lt hp1
  omega
def Rp (L : List It) (p p' : It) (L' : List It) : Prop := p.1 = p'.1 ∧ ∃ A B, L = A ++ p :: B ∧ L' = A ++ p' :: B
theorem Rp.here (e : p.1 = p'.1 := by rfl) : Rp (p :: L) p p' (p' :: L) := ⟨e, [], L, rfl, rfl⟩
theorem Rp.there (h : Rp L p p' L') : Rp (q :: L) p p' (q :: L') := by
 obtain ⟨e, A, B, rfl, rfl⟩ := h
 exact ⟨e, q :: A, B, rfl, rfl⟩
theorem Rp.skip (h : Rp L p p' L') : Rp (C ++ L) p p' (C ++ L') := by
 obtain ⟨e, A, B, rfl, rfl⟩ := h
 exact ⟨e, C ++ A, B, by simp, by simp⟩
theorem Rp.mem (h : Rp L p p' L') : p ∈ L := by obtain ⟨_, A, B, rfl, rfl⟩ := h; simp
theorem a3f {α : Type} {A B : List α} {x : α} : (A ++ x :: B).Perm (x :: (A ++ B)) := List.perm_middle
theorem Sep.rp (h : Sep S L) (k : Rp L (o, v, cs) (o, v', cs') L') : Sep (y7 S o (.arr v' cs')) L' := by
 obtain ⟨_, A, B, rfl, rfl⟩ := k
 exact (Sep.set (h.perm a3f)).perm a3f.symm
def Pk (L : List It) (p : It) (L0 : List It) : Prop := L.Perm (p :: L0)
def PkC (L C L0 : List It) : Prop := L.Perm (C ++ L0)
def Spl (L L1 R : List It) : Prop := L.Perm (L1 ++ R)
theorem Pk.here : Pk (p :: L) p L := .refl _
theorem Pk.there (h : Pk L p L0) : Pk (q :: L) p (q :: L0) := (List.Perm.cons q h).trans (.swap _ _ _)
theorem Pk.skip (h : Pk L p L0) : Pk (C ++ L) p (C ++ L0) := (List.Perm.append_left C h).trans a3f
theorem PkC.here : PkC (C ++ L) C L := .refl _
theorem PkC.there (h : PkC L C L0) : PkC (q :: L) C (q :: L0) := (List.Perm.cons q h).trans a3f.symm
theorem PkC.skip (h : PkC L C L0) : PkC (A ++ L) C (A ++ L0) := by
 refine (List.Perm.append_left A h).trans ?_
 rw [← List.append_assoc, ← List.append_assoc]
 exact List.Perm.append_right _ List.perm_append_comm
theorem PkC.all : PkC C C [] := by unfold PkC; rw [List.append_nil]
theorem Spl.nil : Spl L [] L := .refl _
theorem Spl.cons (h : Pk L p L0) (k : Spl L0 L1 R) : Spl L (p :: L1) R := h.trans (List.Perm.cons p k)
theorem Spl.app (h : PkC L C L0) (k : Spl L0 L1 R) : Spl L (C ++ L1) R := by
 refine h.trans ((List.Perm.append_left C k).trans ?_)
 rw [List.append_assoc]
theorem Spl.last (h : PkC L C L0) : Spl L C L0 := h
theorem Sep.spl (h : Sep S L) (k : Spl L L1 R) : Sep S (L1 ++ R) := h.perm k
theorem Sep.take (h : Sep S L) (k : Spl L L1 R) : Sep S L1 := (h.perm k).left
end

def Tri (P : Program) (f : FuncId) (args : List AV) (L : List It) (Q : AV → List It → Prop) : Prop :=
 ∀ R S, Sep S (L ++ R) → ∃ r S', Ev P f args (hp S) r (hp S') ∧ ∃ L', Q r L' ∧ Sep S' (L' ++ R)
section
variable {P : Program} {f : FuncId} {args : List AV} {L L0 : List It} {Q Q' : AV → List It → Prop}
theorem Tri.mono (h : Tri P f args L Q) (k : ∀ r L', Q r L' → Q' r L') : Tri P f args L Q' := fun R S hS => by
 obtain ⟨r, S', h1, L', h2, h3⟩ := h R S hS
 exact ⟨r, S', h1, L', k _ _ h2, h3⟩
theorem b8m {n : Nat} {ts : List RS} {fc : FC} (hm : P.follows .mixedOrders = true) (hfn : Fn3 P f n ts fc) (hn : args.length ≤ n) {S : List Ob} (ow : List Nat) {Q : AV → List Ob → Prop}
  (h : VT P S ow fc (a1z 0 args) S (fun e fr1 S1 => a6e e ∧ ∃ v, a2F S1 (Fr.get fr1) ts = some v ∧ Q v S1)) : ∃ r S', Ev P f args (hp S) r (hp S') ∧ Q r S' := by
 obtain ⟨e, fr', S', ⟨he, v, h1, h2⟩, h3⟩ := b8a h
 exact ⟨v, S', a3t hm hfn hn ow (h3 _ ⟨he, v, _, h1, GWk.refl, .refl _⟩), h2⟩
theorem l6 {n : Nat} {ts : List RS} {fc : FC} (hm : P.follows .mixedOrders = true) (hfn : Fn3 P f n ts fc) (hn : args.length ≤ n) (ow : List Nat)
  (h : ∀ R S, Sep S (L ++ R) → VT P S ow fc (a1z 0 args) S (fun e fr1 S1 => a6e e ∧ ∃ v, a2F S1 (Fr.get fr1) ts = some v ∧ ∃ L', Q v L' ∧ Sep S1 (L' ++ R))) : Tri P f args L Q := fun R S hS =>
 b8m hm hfn hn ow (h R S hS)
end

section
variable {P : Program} {S0 : List Ob} {ow : List Nat} {fr : Fr} {S : List Ob} {log : List LE} {L L' L0 L1 R : List It} {α : Type} {f : α → AV} {esh : Option Nat}
theorem d7 {d a sh rs} {K : Fr → List Ob → List LE → Prop} {o ver p} {cs : List AV} {v : AV} (hS : Sep S L) (e : ev (Fr.get fr) a = .ptr o ver p) (hm : (o, ver, cs) ∈ L)
  (hv : a0x sh cs p = some v) (h : VTops P ow rs ((d, v) :: fr) S (.acc [o] none :: log) K) : VTops P ow (⟨some d, none, .op (.load sh a)⟩ :: rs) fr S log K := c3d e (hS.at hm) hv h
theorem E_stS {a x nn rs} {K : Fr → List Ob → List LE → Prop} {o ver p} {cs : List AV} {xv : AV} (hS : Sep S L) (e : ev (Fr.get fr) a = .ptr o ver p) (ex : ev (Fr.get fr) x = xv)
  (hr : Rp L (o, ver, cs) (o, ver, splice cs p xv.cells) L') (hx : xv.cells.length = nn) (h1 : xv.cells.all AV.one = true) (hfit : p + nn ≤ cs.length)
  (h : ∀ S', Sep S' L' → VTops P ow rs fr S' (.acc [o] (some o) :: log) K) : VTops P ow (⟨none, none, .op (.store nn a x)⟩ :: rs) fr S log K :=
 c3e e ex (hS.at hr.mem) hx h1 hfit rfl (h _ (hS.rp hr))
theorem b1b {d cs rs} {K : Fr → List Ob → List LE → Prop} (hS : Sep S L) (how : ow.contains d = true) (h : ∀ o S', Sep S' ((o, 0, cs) :: L) → VTops P ow rs ((d, .ptr o 0 0) :: fr) S' (.acc [o] (some o) :: log) K) :
  VTops P ow (⟨some d, none, .op (.new cs)⟩ :: rs) fr S log K := by
 refine a0H (v := .ptr S.length 0 0) (rd := []) (δ := some (S.length, .arr 0 cs)) ?_ rfl rfl (h _ _ hS.new)
 simp only [opV, b7B, how, if_true]
theorem a1i {d x rs} {K : Fr → List Ob → List LE → Prop} {xv : AV} (hS : Sep S L) (how : ow.contains d = true) (e : ev (Fr.get fr) x = xv) (hj : xv.nj = true) (h : ∀ o S', Sep S' ((o, 0, xv.cells) :: L) → VTops P ow rs ((d, .ptr o 0 0) :: fr) S' (.acc [o] (some o) :: log) K) :
  VTops P ow (⟨some d, none, .op (.box x)⟩ :: rs) fr S log K := by
 refine a0H (v := .ptr S.length 0 0) (rd := []) (δ := some (S.length, .arr 0 xv.cells)) ?_ rfl rfl (h _ _ hS.new)
 simp only [opV, b7B, how, if_true, e, hj]
theorem b8n {d} {bytes : Nat} {z l c rs} {K : Fr → List Ob → List LE → Prop} {k k' n n'} {x : α} (hS : Sep S L) (he : Enc f esh) (how : ow.contains d = true) (e : ev (Fr.get fr) l = .int k n) (e1 : ev (Fr.get fr) c = .int k' n') (hz : (f x).cells = z)
  (hn : 0 ≤ n ∧ n ≤ n' ∧ n' * bytes ≤ 281474976710656 ∧ n' ≤ 281474976710656)
  (h : ∀ o S', Sep S' ((o, 0, flat f (List.replicate n.toNat x)) :: L) → VTops P ow rs ((d, .ref o 0 0 n.toNat esh) :: fr) S' (.acc [o] (some o) :: log) K) : VTops P ow (⟨some d, none, .op (.mksl esh bytes z l c)⟩ :: rs) fr S log K :=
 c2V he how e e1 hz hn rfl (h _ _ hS.new)
theorem a8Z (he : Enc f esh) (l : List α) (x : List AV) : (flat f l ++ x).take (l.length * f5 esh) = flat f l := by
 rw [← he.length l, List.take_left]
theorem a7D {d bytes s x rs} {K : Fr → List Ob → List LE → Prop} {o ver : Nat} {l m : List α} {j : List AV} {rdx : List Nat} (hS : Sep S L) (he : Enc f esh) (e : ev (Fr.get fr) s = .ref o ver 0 l.length esh) (e2 : a7V esh (ev (Fr.get fr) x) S = some (m.length, flat f m, rdx))
  (hr : Rp L (o, ver, flat f l ++ j) (o, ver + 1, flat f (l ++ m)) L') (hb : (l.length + m.length) * bytes ≤ 140737488355328 ∧ l.length + m.length ≤ 140737488355328)
  (h : ∀ S', Sep S' L' → VTops P ow rs ((d, .ref o (ver + 1) 0 (l ++ m).length esh) :: fr) S' (.acc (o :: o :: rdx) (some o) :: log) K) : VTops P ow (⟨some d, none, .op (.app esh bytes s x)⟩ :: rs) fr S log K := by
 have ho := hS.at hr.mem
 refine a0H (v := .ref o (ver + 1) 0 (l ++ m).length esh) (rd := o :: rdx) (δ := some (o, .arr (ver + 1) (flat f (l ++ m)))) ?_ rfl rfl (h _ (hS.rp hr))
 simp only [opV, b7C, e, e2, Option.bind_some, he.all, if_true]
 rw [if_pos ⟨trivial, hb.1, hb.2⟩]
 simp only [v3, ho, if_true, Option.map_some, List.drop_zero, a8Z he, ← v8, List.length_append]
theorem a1l {d f args rs} {K : Fr → List Ob → List LE → Prop} {ags : List AV} {Q : AV → List It → Prop} (c : Tri P f ags L1 Q) (hS : Sep S L) (e : evL (Fr.get fr) args = ags) (hp : Spl L L1 R)
  (h : ∀ v S' L', Q v L' → Sep S' (L' ++ R) → VTops P ow rs ((d, v) :: fr) S' (.eff S S' :: log) K) : VTops P ow (⟨some d, none, .call f args⟩ :: rs) fr S log K := by
 obtain ⟨r, S', h1, L', h2, h3⟩ := c R S (hS.spl hp)
 exact a8H h1 e (h r S' L' h2 h3)
theorem a9a {d x m args rs t x0 g} {K : Fr → List Ob → List LE → Prop} {ags : List AV} {Q : AV → List It → Prop} (c : Tri P g ags L1 Q) (hS : Sep S L) (ex : ev (Fr.get fr) x = .iface t x0) (hm : a1t P t m = some g) (hc : t7 P g = true) (e : x0 :: evL (Fr.get fr) args = ags) (hp : Spl L L1 R)
  (h : ∀ v S' L', Q v L' → Sep S' (L' ++ R) → VTops P ow rs ((d, v) :: fr) S' (.eff S S' :: log) K) : VTops P ow (⟨some d, none, .inv x m args⟩ :: rs) fr S log K := by
 obtain ⟨r, S', h1, L', h2, h3⟩ := c R S (hS.spl hp)
 rw [a8G, ex]
 simp only [b1H, hm, e]
 exact ⟨hc, a4H h1 (h r S' L' h2 h3)⟩
theorem b1c {d x args rs g fst caps} {K : Fr → List Ob → List LE → Prop} {ags : List AV} {Q : AV → List It → Prop} (c : Tri P g ags L1 Q) (hS : Sep S L) (ex : ev (Fr.get fr) x = .fn (.func g) fst caps) (hc : t7 P g = true) (e : fst ++ evL (Fr.get fr) args ++ caps = ags) (hp : Spl L L1 R)
  (h : ∀ v S' L', Q v L' → Sep S' (L' ++ R) → VTops P ow rs ((d, v) :: fr) S' (.eff S S' :: log) K) : VTops P ow (⟨some d, none, .callv x args⟩ :: rs) fr S log K := by
 obtain ⟨r, S', h1, L', h2, h3⟩ := c R S (hS.spl hp)
 rw [a3r, ex, b1I, e]
 exact ⟨hc, a4H h1 (h r S' L' h2 h3)⟩

theorem a9b {d : Nat} {e : Option Nat} (hd : Fr.get fr d = .nils) : Wk S0 fr S ((d, .ref S.length 0 0 0 e) :: fr) (y7 S S.length (.arr 0 [])) := by
 intro g0 n a w hat
 obtain ⟨h0, g, h1, h2, h3⟩ := hat
 have hv := a4f S
 obtain ⟨k1, k2⟩ := h2.own (o := S.length) (l := ⟨0, 0, 0⟩) (ver := 0) (cs := []) (by rw [hv]; exact trivial) (fun h => absurd h (Nat.lt_irrefl 0)) (Nat.le_refl 0) (fun j hj => absurd hj (Nat.not_lt_zero j)) (fun j hj => absurd hj (Nat.not_lt_zero j)) (fun j hj => absurd hj (Nat.not_lt_zero j)) (fun j hj => absurd hj (Nat.not_lt_zero j))
  (fun o' ver' cs' _ _ _ j j' _ hj' => absurd hj' (Nat.not_lt_zero j'))
 rw [← a0y] at k1 k2
 refine ⟨h0, _, h1.trans k2, k1, h3.size, fun t => ?_⟩
 rw [get_cons]
 have ht := h3.get t
 split
 ·rename_i e1; subst e1
  rw [hd] at ht
  generalize a.tmps.getD t undef = u at ht
  cases ht
  refine .refnil ?_
  simp [a1R, x6]
 ·exact ht.mono k2.ext
theorem c3f {b} {K K0 : Post} (d : Nat) (e : Option Nat) (hS : Sep S L) (hd : Fr.get fr d = .nils) (h : ∀ o S', Sep S' ((o, 0, []) :: L) → VT P S0 ow b ((d, .ref o 0 0 0 e) :: fr) S' K) :
  Post.thn (fun fr' S' => ∃ F T, Wk S0 fr' S' F T ∧ VT P S0 ow b F T K) K0 .normal fr S := a3v (a9b hd) (h _ _ hS.new)

theorem a1Q {N : Fr → List Ob → Prop} {K0 : Post} (h : N fr S) : Post.thn N K0 .normal fr S := h
theorem a4L {a} {K : Post} {σ : Type} (F : σ → Fr) (Lf : σ → List It) (I : σ → Prop) (μ : σ → Nat) (s0 : σ) (hS : Sep S (Lf s0)) (h0 : I s0) (hw : Wk S0 fr S (F s0) S)
  (h : ∀ s S, I s → Sep S (Lf s) → VT P S0 ow a (F s) S (Post.thn (fun fr' S' => ∃ s', I s' ∧ μ s' < μ s ∧ Sep S' (Lf s') ∧ Wk S0 fr' S' (F s') S') K)) : VT P S0 ow (.loop a) fr S K := by
 refine b1K (ι := σ × List Ob) (fun i => F i.1) (fun i => i.2) (fun i => I i.1 ∧ Sep i.2 (Lf i.1)) (fun i => μ i.1) (s0, S) ⟨h0, hS⟩ hw (fun i hi => ?_)
 refine a1a (a0A (fun fr' S' hh => ?_) (fun _ _ _ h => h)) (h i.1 i.2 hi.1 hi.2)
 obtain ⟨s', h1, h2, h3, h4⟩ := hh
 exact ⟨(s', S'), ⟨h1, h3⟩, h2, h4⟩
def b8o (S0 : List Ob) {σ : Type} (ti tn id id2 : Nat) (n : Int) (F : σ → Fr) (Lf : σ → List It) (I : Nat → σ → Prop) (i : Nat) (K : Post) : Post
 | .normal, fr, S => ∃ s, I (i + 1) s ∧ Sep S (Lf s) ∧ Wk S0 fr S ((ti, .int .i64 i) :: (tn, .int .i64 n) :: F s) S
 | .exit j, fr, S => if j = id2 then ∃ s, I (i + 1) s ∧ Sep S (Lf s) ∧ Wk S0 fr S ((ti, .int .i64 i) :: (tn, .int .i64 n) :: F s) S else if j = id then K .normal fr S else K (.exit j) fr S
 | e, fr, S => K e fr S
section
variable {σ : Type} {ti tn id id2 : Nat} {n : Int} {F : σ → Fr} {Lf : σ → List It} {I : Nat → σ → Prop} {i : Nat} {K : Post}
theorem R_n (s : σ) (h1 : I (i + 1) s) (h2 : Sep S (Lf s)) (h3 : Wk S0 fr S ((ti, .int .i64 i) :: (tn, .int .i64 n) :: F s) S) : b8o S0 ti tn id id2 n F Lf I i K .normal fr S := ⟨s, h1, h2, h3⟩
end
theorem b1U {tc ti tn tj id id2 : Nat} {B : FC} {K : Post} {σ : Type} (n : Nat) (F : σ → Fr) (Lf : σ → List It) (I : Nat → σ → Prop) (s0 : σ) (hS : Sep S (Lf s0)) (h0 : I 0 s0) (hw : Wk S0 fr S ((ti, .int .i64 0) :: (tn, .int .i64 n) :: F s0) S)
  (hn : n ≤ 4611686018427387904) (h1 : ti ≠ tn) (h2 : tj ≠ tn) (hF : ∀ s, Fr.get (F s) tj = .junk ∧ Fr.get (F s) ti = .junk ∧ Fr.get (F s) tn = .junk ∧ Fr.get (F s) tc = .junk)
  (hb : ∀ i s S, i < n → I i s → Sep S (Lf s) → VT P S0 ow B ((tc, .bool true) :: (ti, .int .i64 i) :: (tn, .int .i64 n) :: F s) S (b8o S0 ti tn id id2 n F Lf I i K))
  (hx : ∀ s fr' S, I n s → Sep S (Lf s) → Wk S0 fr' S (F s) S → K .normal fr' S) :
  VT P S0 ow (.block id (.loop (.seq (.reg [⟨some tc, none, .op (.bin .none .lss (.t ti) (.t tn))⟩] []) (.seq (.cond (.t tc) .skip (.exit id)) (.seq (.block id2 B) (.reg [⟨some tj, none, .op (.bin .none .add (.t ti) (.v (.int .i64 1)))⟩, ⟨some ti, none, .op (.mv (.t tj))⟩] [])))))) fr S K := by
 refine j9 (a4L (fun i : Nat × σ => (ti, .int .i64 i.1) :: (tn, .int .i64 n) :: F i.2) (fun i => Lf i.2) (fun i => i.1 ≤ n ∧ I i.1 i.2) (fun i => n - i.1) (0, s0) hS ⟨Nat.zero_le _, h0⟩ hw (fun i S hi hSi => ?_))
 obtain ⟨i, s⟩ := i
 simp only at hi hSi ⊢
 obtain ⟨hi0, hi⟩ := hi
 refine b1O h1 zO (fun hlt => ?_) (fun hge => ?_)
 ·have hnext : ∀ (s' : σ) (S' : List Ob), I (i + 1) s' → Sep S' (Lf s') → ∀ fr3, (∀ t, Fr.get fr3 t = if t = ti then .int .i64 ((i : Int) + 1) else if t = tj then .int .i64 ((i : Int) + 1) else Fr.get ((tn, .int .i64 n) :: F s') t) →
    Post.thn (fun fr' S' => ∃ i' : Nat × σ, (i'.1 ≤ n ∧ I i'.1 i'.2) ∧ n - i'.1 < n - i ∧ Sep S' (Lf i'.2) ∧ Wk S0 fr' S' ((ti, .int .i64 i'.1) :: (tn, .int .i64 n) :: F i'.2) S') (Post.blk id K) .normal fr3 S' := fun s' S' hI hS' fr3 hg => by
   refine ⟨(i + 1, s'), ⟨by simp only; omega, hI⟩, by simp only; omega, hS', a6V (fun t => ?_)⟩
   rw [hg, get_cons]
   simp only
   by_cases ht : t = ti
   ·left; rw [if_pos ht, if_pos ht]; rfl
   ·rw [if_neg ht, if_neg ht]
    by_cases ht2 : t = tj
    ·right; rw [ht2, get_cons, if_neg h2, (hF s').1]
    ·left; rw [if_neg ht2]
  refine a1a (fun e fr' S' hk => ?_) (hb i s S zO hi hSi)
  cases e with
  | normal =>
    obtain ⟨s', k1, k2, k3⟩ := hk
    exact ⟨_, _, k3, hnext s' S' k1 k2⟩
  | exit j =>
    show Post.blk id2 _ (.exit j) fr' S'
    rw [a3T]
    replace hk : if j = id2 then ∃ s, I (i + 1) s ∧ Sep S' (Lf s) ∧ Wk S0 fr' S' ((ti, .int .i64 i) :: (tn, .int .i64 n) :: F s) S' else if j = id then K .normal fr' S' else K (.exit j) fr' S' := hk
    by_cases hj : j = id2
    ·rw [if_pos hj] at hk ⊢
     obtain ⟨s', k1, k2, k3⟩ := hk
     exact ⟨_, _, k3, hnext s' S' k1 k2⟩
    ·rw [if_neg hj] at hk ⊢
     show Post.blk id K (.exit j) fr' S'
     rw [a3T]
     exact hk
  | ret => exact hk
  | goto l => exact hk
  | panic l => exact hk
  | outgrown => exact hk
 ·have e1 : i = n := by omega
  subst e1
  show Post.blk id K (.exit id) _ _
  rw [a3T, if_pos rfl]
  refine hx s _ _ hi hSi (a6V (fun t => ?_))
  obtain ⟨_, f1, f2, f3⟩ := hF s
  simp only [get_cons]
  by_cases t1 : t = tc
  ·right; rw [t1]; exact f3
  ·by_cases t2 : t = ti
   ·right; rw [t2]; exact f1
   ·by_cases t3 : t = tn
    ·right; rw [t3]; exact f2
    ·left; rw [if_neg t1, if_neg t2, if_neg t3]
end
end Go.Ab

/- Steps over lists that are objects, told by their elements; with or without cells behind them. -/
namespace Go.Ab
open Go Go.RowKit
section
variable {α : Type} {f : α → AV} {esh : Option Nat} {l : List α} {n p fo : Nat} {y y' : α} {j : List AV}
theorem c3g (he : Enc f esh) (hy : l[n]? = some y) {sh : Option Nat} {v : AV} (hv : a0x sh (f y).cells fo = some v) (hp : p = n * f5 esh + fo) : a0x sh (flat f l ++ j) p = some v := by
 obtain ⟨a, b, h1, h2, _⟩ := he.at hy
 rw [hp, ← h2, h1, List.append_assoc (a ++ (f y).cells)]
 exact a6W hv
theorem b8p (he : Enc f esh) (hy : l[n]? = some y) {sh : Option Nat} {v : AV} (hv : a0x sh (f y).cells fo = some v) (hp : p = n * f5 esh + fo) : a0x sh (flat f l) p = some v := by
 obtain ⟨a, b, h1, h2, _⟩ := he.at hy
 rw [hp, ← h2, h1]
 exact a6W hv
theorem b1d (he : Enc f esh) (hy : l[n]? = some y) : ∃ a b, a.length = n * f5 esh ∧ flat f l = a ++ (f y).cells ++ b ∧ flat f (l.set n y') = a ++ (f y').cells ++ b := by
 obtain ⟨hn, rfl⟩ := List.getElem?_eq_some_iff.1 hy
 have e2 : l.take n ++ l[n] :: l.drop (n + 1) = l := by rw [← List.drop_eq_getElem_cons hn, List.take_append_drop]
 refine ⟨flat f (l.take n), flat f (l.drop (n + 1)), by rw [he.length, List.length_take, Nat.min_eq_left zO], ?_, ?_⟩
 ·rw [List.append_assoc, ← v9, ← v8, e2]
 ·rw [List.set_eq_take_append_cons_drop, if_pos hn, v8, v9, List.append_assoc]
theorem b1V (he : Enc f esh) (hy : l[n]? = some y) {xs : List AV} (hp : p = n * f5 esh + fo) (hf : fo + xs.length ≤ f5 esh) (hy' : (f y').cells = splice (f y).cells fo xs) : splice (flat f l ++ j) p xs = flat f (l.set n y') ++ j := by
 obtain ⟨a, b, h2, h1, h3⟩ := b1d (y' := y') he hy
 rw [hp, ← h2, h1, h3, List.append_assoc (a ++ (f y).cells), a8Q xs (by rw [he.sz]; exact hf), hy', List.append_assoc (a ++ _)]
theorem b2H (he : Enc f esh) (hy : l[n]? = some y) {xs : List AV} (hp : p = n * f5 esh + fo) (hf : fo + xs.length ≤ f5 esh) (hy' : (f y').cells = splice (f y).cells fo xs) : splice (flat f l) p xs = flat f (l.set n y') := by
 have := b1V (j := []) he hy hp hf hy'
 simpa using this
theorem b1W (he : Enc f esh) (hy : l[n]? = some y) {m : Nat} (hp : p = n * f5 esh + fo) (hf : fo + m ≤ f5 esh) : p + m ≤ (flat f l ++ j).length := by
 have hn := (List.getElem?_eq_some_iff.1 hy).1
 have : (n + 1) * f5 esh ≤ l.length * f5 esh := Nat.mul_le_mul_right _ hn
 rw [List.length_append, he.length]
 rw [Nat.add_mul] at this
 omega
end
section
variable {P : Program} {S0 : List Ob} {ow : List Nat} {fr : Fr} {S : List Ob} {log : List LE} {L L' L0 L1 R : List It} {α : Type} {f : α → AV} {esh : Option Nat}
theorem a7E {d a sh rs} {K : Fr → List Ob → List LE → Prop} {o ver p n fo} {l : List α} {j : List AV} {y : α} {v : AV} (hS : Sep S L) (he : Enc f esh) (e : ev (Fr.get fr) a = .ptr o ver p) (hm : (o, ver, flat f l ++ j) ∈ L) (hp : p = n * f5 esh + fo) (hy : l[n]? = some y)
  (hv : a0x sh (f y).cells fo = some v) (h : VTops P ow rs ((d, v) :: fr) S (.acc [o] none :: log) K) : VTops P ow (⟨some d, none, .op (.load sh a)⟩ :: rs) fr S log K := d7 hS e hm (c3g he hy hv hp) h
theorem a7c {d a sh rs} {K : Fr → List Ob → List LE → Prop} {o ver p n fo} {l : List α} {y : α} {v : AV} (hS : Sep S L) (he : Enc f esh) (e : ev (Fr.get fr) a = .ptr o ver p) (hm : (o, ver, flat f l) ∈ L) (hp : p = n * f5 esh + fo) (hy : l[n]? = some y)
  (hv : a0x sh (f y).cells fo = some v) (h : VTops P ow rs ((d, v) :: fr) S (.acc [o] none :: log) K) : VTops P ow (⟨some d, none, .op (.load sh a)⟩ :: rs) fr S log K := d7 hS e hm (b8p he hy hv hp) h
theorem b8q {a x nn rs} {K : Fr → List Ob → List LE → Prop} {o ver p n fo} {l : List α} {j : List AV} {y y' : α} {xv : AV} (hS : Sep S L) (he : Enc f esh) (e : ev (Fr.get fr) a = .ptr o ver p) (ex : ev (Fr.get fr) x = xv) (hp : p = n * f5 esh + fo) (hy : l[n]? = some y)
  (hr : Rp L (o, ver, flat f l ++ j) (o, ver, flat f (l.set n y') ++ j) L') (hx : xv.cells.length = nn) (h1 : xv.cells.all AV.one = true) (hfit : fo + nn ≤ f5 esh) (hy' : (f y').cells = splice (f y).cells fo xv.cells)
  (h : ∀ S', Sep S' L' → VTops P ow rs fr S' (.acc [o] (some o) :: log) K) : VTops P ow (⟨none, none, .op (.store nn a x)⟩ :: rs) fr S log K :=
 E_stS hS e ex (by rw [b1V he hy hp (by rw [hx]; exact hfit) hy']; exact hr) hx h1 (b1W he hy hp hfit) h
theorem a7d {a x nn rs} {K : Fr → List Ob → List LE → Prop} {o ver p n fo} {l : List α} {y y' : α} {xv : AV} (hS : Sep S L) (he : Enc f esh) (e : ev (Fr.get fr) a = .ptr o ver p) (ex : ev (Fr.get fr) x = xv) (hp : p = n * f5 esh + fo) (hy : l[n]? = some y)
  (hr : Rp L (o, ver, flat f l) (o, ver, flat f (l.set n y')) L') (hx : xv.cells.length = nn) (h1 : xv.cells.all AV.one = true) (hfit : fo + nn ≤ f5 esh) (hy' : (f y').cells = splice (f y).cells fo xv.cells)
  (h : ∀ S', Sep S' L' → VTops P ow rs fr S' (.acc [o] (some o) :: log) K) : VTops P ow (⟨none, none, .op (.store nn a x)⟩ :: rs) fr S log K :=
 E_stS hS e ex (by rw [b2H he hy hp (by rw [hx]; exact hfit) hy']; exact hr) hx h1 (by have := b1W (j := []) he hy hp hfit; simpa using this) h
end
end Go.Ab

/- A nil slice in an object's cell as a list without an object. -/
namespace Go.Ab
open Go Go.RowKit
theorem WRel.recell {g σ} {w : World} (h : WRel g σ w) {o ver : Nat} {cs cs' : List AV} (e : σ o = .arr ver cs) (hl : cs'.length = cs.length) (hv : ∀ j (h1 : j < cs.length) (h2 : j < cs'.length) u, VR g.pm g.L σ cs[j] u → VR g.pm g.L σ cs'[j] u) :
  WRel g (upd σ o (.arr ver cs')) w ∧ g.le σ g (upd σ o (.arr ver cs')) := by
 have k := h.ob o ver cs e
 have hext : Ext g.pm g.L σ g.pm g.L (upd σ o (.arr ver cs')) := ⟨fun _ _ _ e => e, fun i => by
  by_cases hi : i = o
  ·subst hi; simp [e, p5, hl]
  ·simp [l7 _ _ hi]; exact p5.refl _ _⟩
 refine ⟨⟨h.pm, h.tm, h.tmf, h.disj, h.low, h.B0, h.tab, fun i ver' cs2 e' => ?_, fun i i' v1 v2 c1 c2 e1 e2 hne => ?_⟩, ⟨hext, rfl, rfl, rfl⟩⟩
 ·by_cases hi : i = o
  ·subst hi
   simp at e'
   obtain ⟨rfl, rfl⟩ := e'
   refine ⟨k.low, by rw [hl]; exact k.len, fun m hm => ?_, k.free, k.pm, k.tm⟩
   obtain ⟨u, hu, hr⟩ := k.there m hm
   exact ⟨u, hu, fun hm' => (hv m zO hm' u (hr zO)).mono hext⟩
  ·rw [l7 _ _ hi] at e'
   have k' := h.ob i ver' cs2 e'
   refine ⟨k'.low, k'.len, fun m hm => ?_, k'.free, k'.pm, k'.tm⟩
   obtain ⟨u, hu, hr⟩ := k'.there m hm
   exact ⟨u, hu, fun hm' => (hr hm').mono hext⟩
 ·have a1 : ∃ v c, σ i = .arr v c := by
   by_cases hi : i = o
   ·exact ⟨_, _, hi ▸ e⟩
   ·rw [l7 _ _ hi] at e1; exact ⟨_, _, e1⟩
  have a2 : ∃ v c, σ i' = .arr v c := by
   by_cases hi : i' = o
   ·exact ⟨_, _, hi ▸ e⟩
   ·rw [l7 _ _ hi] at e2; exact ⟨_, _, e2⟩
  obtain ⟨_, _, a1⟩ := a1
  obtain ⟨_, _, a2⟩ := a2
  exact h.sep i i' _ _ _ _ a1 a2 hne
section
variable {P : Program} {S0 : List Ob} {ow : List Nat} {fr : Fr} {S : List Ob} {L : List It}
theorem a4o {o ver j : Nat} {cs : List AV} {e : Option Nat} (ho : hp S o = .arr ver cs) (hj : cs[j]? = some .nils) :
  Wk S0 fr S fr (y7 (y7 S S.length (.arr 0 [])) o (.arr ver (cs.set j (.ref S.length 0 0 0 e)))) := by
 intro g0 n a w hat
 obtain ⟨h0, g, h1, h2, h3⟩ := hat
 have hv := a4f S
 have hos : o ≠ S.length := fun h => by rw [h, hv] at ho; cases ho
 obtain ⟨k1, k2⟩ := h2.own (o := S.length) (l := ⟨0, 0, 0⟩) (ver := 0) (cs := []) (by rw [hv]; exact trivial) (fun h => absurd h (Nat.lt_irrefl 0)) (Nat.le_refl 0) (fun j hj => absurd hj (Nat.not_lt_zero j)) (fun j hj => absurd hj (Nat.not_lt_zero j)) (fun j hj => absurd hj (Nat.not_lt_zero j)) (fun j hj => absurd hj (Nat.not_lt_zero j))
  (fun o' ver' cs' _ _ _ j j' _ hj' => absurd hj' (Nat.not_lt_zero j'))
 rw [← a0y] at k1 k2
 have ho1 : hp (y7 S S.length (.arr 0 [])) o = .arr ver cs := by rw [w4 hos]; exact ho
 obtain ⟨q1, q2⟩ := k1.recell (cs' := cs.set j (.ref S.length 0 0 0 e)) ho1 zS (fun i a1 a2 u hu => by
  rw [List.getElem_set]
  split
  ·rename_i hij
   subst hij
   rw [List.getElem?_eq_getElem a1] at hj
   have hj := Option.some.inj hj
   rw [hj] at hu
   cases hu
   refine .refnil ?_
   simp [a1R, x6]
  ·exact hu)
 rw [← a0y] at q1 q2
 exact ⟨h0, _, (h1.trans k2).trans q2, q1, h3.size, fun t => ((h3.get t).mono k2.ext).mono q2.ext⟩
theorem b8r {b} {K K0 : Post} {o ver : Nat} {cs : List AV} (j : Nat) (e : Option Nat) {Lf : Nat → List It} (hS : Sep S L) (hr : ∀ o', Rp L (o, ver, cs) (o, ver, cs.set j (.ref o' 0 0 0 e)) (Lf o')) (hj : cs[j]? = some .nils) (h : ∀ o' S', Sep S' ((o', 0, []) :: Lf o') → VT P S0 ow b fr S' K) :
  Post.thn (fun fr' S' => ∃ F T, Wk S0 fr' S' F T ∧ VT P S0 ow b F T K) K0 .normal fr S := by
 have hm := (hr 0).mem
 have ho := hS.at hm
 refine a3v (a4o (e := e) ho hj) (h S.length _ ?_)
 have h1 : Sep (y7 S S.length (.arr 0 [])) ((S.length, 0, []) :: L) := hS.new
 exact h1.rp (Rp.there (hr S.length))
end
end Go.Ab

/- Heaps of a number of objects that is not known: given by a function. -/
namespace Go.Ab
open Go Go.RowKit
section
variable {n m : Nat} {f g : Nat → Ob}
end
section
variable {S : List Ob} {n : Nat} {m : Nat → Option Nat} {f : Nat → Ob}
end
section
variable {P : Program} {S0 : List Ob} {ow : List Nat} {fr : Fr} {S : List Ob} {log : List LE}
end
end Go.Ab

/- A method that takes the value, where the interface holds a pointer: the step. -/
namespace Go.Ab
section
variable {P : Program} {S0 : List Ob} {ow : List Nat} {fr : Fr} {S : List Ob} {log : List LE} {L L' L0 L1 R : List It}
end
end Go.Ab

/- Further steps over separated objects. -/
namespace Go.Ab
open Go Go.RowKit
section
variable {P : Program} {S0 : List Ob} {ow : List Nat} {fr : Fr} {S : List Ob} {log : List LE} {L : List It} {esh : Option Nat}
theorem b2I {a b} {K : Post} {σ : Type} (F : σ → Fr) (Lf : σ → List It) (I : σ → Prop)
  (ha : VT P S0 ow a fr S (Post.thn (fun fr' S' => ∃ s, I s ∧ Sep S' (Lf s) ∧ Wk S0 fr' S' (F s) S') K)) (hb : ∀ s S, I s → Sep S (Lf s) → VT P S0 ow b (F s) S K) :
  VT P S0 ow a fr S (Post.thn (fun fr' S' => ∃ F T, Wk S0 fr' S' F T ∧ VT P S0 ow b F T K) K) :=
 a1a (a0A (fun _ _ ⟨s, h1, h2, h3⟩ => ⟨F s, _, h3, hb s _ h1 h2⟩) (fun _ _ _ h => h)) ha
end
theorem Ev.gwk {P : Program} {f : FuncId} {args : List AV} {S S1 S' : List Ob} {r r' : AV} {R : AV → AV → Prop} (h : Ev P f args (hp S) r (hp S1)) (k : GWk S S1 S' R) (hr : R r r') : Ev P f args (hp S) r' (hp S') := by
 intro g w vals hw hv
 refine (h g w vals hw hv).mono ?_
 rintro e w' ⟨u, g', e1, e2, e3, e4⟩
 obtain ⟨g2, h1, h2, h3⟩ := k g g' w' e2 e3
 exact ⟨u, g2, e1, h1, h2, h3 _ _ _ hr e4⟩
theorem Tri.pure {P : Program} {f : FuncId} {args : List AV} {Q : AV → List It → Prop} {Q' : AV → Prop} (k : Nat) (h : Tri P f args [] Q) (hq : ∀ v L' S, Q v L' → Sep S L' → ∃ r, AVw (frz 0 S k v) r ∧ Q' r) : ∃ r, n0 P f args r ∧ Q' r := by
 obtain ⟨v, S', h1, L', h2, h3⟩ := h [] [] Sep.nil
 rw [List.append_nil] at h3
 obtain ⟨r, h4, h5⟩ := hq v L' S' h2 h3
 refine ⟨r, ?_, h5⟩
 have := h1.gwk ((a8N 0 k zS).trans GWk.refl) ⟨_, rfl, h4⟩
 rw [b1J] at this
 exact this
end Go.Ab

/- One object is frozen: it is dead, and what named it holds its cells. -/
namespace Go.Ab
open Go Go.RowKit
inductive Fz1 (o ver : Nat) (cs : List AV) : AV → AV → Prop
 | same (x) : Fz1 o ver cs x x
 | ref {off n e} (h : off + n * f5 e ≤ cs.length) (h1 : cs.all AV.one = true) : Fz1 o ver cs (.ref o ver off n e) (.sl false (f5 e) (m3 e n (cs.drop off)))
 | ptr {off} : Fz1 o ver cs (.ptr o ver off) (.cptr cs off)
theorem a9c {cs : List AV} (h : cs.all AV.one = true) (n : Nat) : (cs.drop n).all AV.one = true := by
 rw [List.all_eq_true] at h ⊢
 exact fun x hx => h x (List.mem_of_mem_drop hx)
theorem VR.none_to {g : Gh} {S : List Ob} {x : AV} {u : Value} {pm : Pm} {L : Nat → Loc} {σ : Hp} {pm' : Pm} {σ' : Hp} (h : VR pm L σ x u) (hpm : ∀ b o v, pm b o = some v → pm' b o = some v) (hx : x.blw 0 = true) : VR pm' L σ' x u := by
 have h2 : VR pm L σ' x u := h.agree hx (fun o ho => absurd ho (Nat.not_lt_zero o))
 exact h2.mono ⟨hpm, fun o => p5.refl _ _⟩
theorem a9d {S0 S S' : List Ob} {o ver : Nat} {cs : List AV} (ho : hp S o = .arr ver cs) (hb : a0v 0 cs = true) (hd : hp S' o = .dead ver)
  (hs : ∀ i, i ≠ o → hp S' i = hp S i ∨ ∃ v c c', hp S i = .arr v c ∧ hp S' i = .arr v c' ∧ c'.length = c.length ∧ ∀ j (h1 : j < c.length) (h2 : j < c'.length), Fz1 o ver cs c[j] c'[j]) : GWk S0 S S' (Fz1 o ver cs) := by
 intro g0 g w h1 h2
 classical
 let reg : Nat → Nat → Prop := fun b a => (g.L o).b = b ∧ ∃ j, j < cs.length ∧ (g.L o).off + j = a
 let pm' : Pm := fun b a => if reg b a then w.cell? ⟨b, a, none⟩ else g.pm b a
 have q := h2.ob o ver cs ho
 have hnp : ∀ b a v, g.pm b a = some v → ¬ reg b a := by
  rintro b a v e ⟨rfl, j, hj, rfl⟩
  rw [q.pm j (by have := q.len; omega)] at e; cases e
 have hpm : ∀ b a v, g.pm b a = some v → pm' b a = some v := fun b a v e => by
  simp only [pm']; rw [if_neg (hnp _ _ _ e)]; exact e
 have hσ : ∀ i, p5 (hp S i) (g.L i) (hp S' i) (g.L i) := fun i => by
  by_cases hi : i = o
  ·subst hi; rw [hd, ho]; exact Nat.le_refl _
  ·rcases hs i hi with e | ⟨v, c, c', e1, e2, e3, _⟩
   ·rw [e]; exact p5.refl _ _
   ·rw [e1, e2]; exact .inr ⟨rfl, rfl, e3⟩
 have hin : ∀ i v c', hp S' i = .arr v c' → i ≠ o ∧ ∃ c, hp S i = .arr v c ∧ c'.length = c.length ∧ ∀ j (h1 : j < c.length) (h2 : j < c'.length), Fz1 o ver cs c[j] c'[j] := fun i v c' e => by
  have hi : i ≠ o := fun h => by rw [h, hd] at e; cases e
  refine ⟨hi, ?_⟩
  rcases hs i hi with e1 | ⟨v1, c1, c1', e1, e2, e3, e4⟩
  ·rw [e1] at e; exact ⟨c', e, rfl, fun j _ _ => .same _⟩
  ·rw [e2] at e; cases e; exact ⟨c1, e1, e3, e4⟩
 have hext : Ext g.pm g.L (hp S) pm' g.L (hp S') := ⟨hpm, hσ⟩
 have hcell : ∀ j, j < cs.length → pm' (g.L o).b ((g.L o).off + j) = some ((w.cell? ⟨(g.L o).b, (g.L o).off + j, none⟩).getD undef) := fun j hj => by
  obtain ⟨v, hv, _⟩ := q.there j (by have := q.len; omega)
  have hreg : reg (g.L o).b ((g.L o).off + j) := ⟨rfl, j, hj, rfl⟩
  simp only [pm']; rw [if_pos hreg, hv]; rfl
 have hval : ∀ j (hj : j < cs.length), VR pm' g.L (hp S') cs[j] ((w.cell? ⟨(g.L o).b, (g.L o).off + j, none⟩).getD undef) := fun j hj => by
  obtain ⟨v, hv, hr⟩ := q.there j (by have := q.len; omega)
  rw [hv]
  exact (hr hj).none_to (g := g) (S := S) hpm (a1K.1 hb _ (List.getElem_mem hj))
 have key : ∀ {x y : AV} {u : Value}, Fz1 o ver cs x y → VR g.pm g.L (hp S) x u → VR pm' g.L (hp S') y u := fun {x y u} r hv => by
  cases r with
  | same => exact hv.mono hext
  | @ref off n e hl ha =>
    cases hv with
    | @ref _ _ _ _ _ a cap hn hs hr =>
      unfold x9 at hr
      rw [ho] at hr
      obtain ⟨rfl, r2, r3, r4⟩ := hr.2 rfl
      exact VR.told (us := fun j => (w.cell? ⟨(g.L o).b, (g.L o).off + (off + j), none⟩).getD undef) zE (a9c ha off) (fun j hj => by rw [Nat.add_assoc]; exact hcell (off + j) zO)
       (fun j hj hj2 => by
        simp only [List.getElem_drop]
        exact hval (off + j) (by rw [List.length_drop] at hj; omega)) hn (by intro e; cases e)
    | @refnil _ _ _ _ hv =>
      have : ∀ l : List AV, m3 e 0 l = [] := fun l => by cases e <;> simp [m3, a1h]
      rw [this]; exact .slz'
  | @ptr off =>
    cases hv with
    | @ptr _ _ _ a hpt =>
      unfold a0e at hpt
      rw [ho] at hpt
      obtain rfl := hpt.2 rfl
      exact .cptr _ (fun j hj => hcell j hj) (fun j hj => hval j hj)
 refine ⟨{ g with pm := pm' }, ⟨⟨fun b a v e => hpm _ _ _ (h1.ext.pm _ _ _ e), fun i => (h1.ext.ob i).trans (hσ i)⟩, h1.tm, h1.B0, h1.w0⟩, ⟨fun b a v e => ?_, h2.tm, h2.tmf, fun b a v e => ?_, h2.low, h2.B0, h2.tab, fun i v c' e => ?_, fun i i' v v' c c' e e' hne => ?_⟩, fun x y u r hv => key r hv⟩
 ·replace e : (if reg b a then w.cell? ⟨b, a, none⟩ else g.pm b a) = some v := e
  split at e
  ·exact e
  ·exact h2.pm _ _ _ e
 ·replace e : (if reg b a then w.cell? ⟨b, a, none⟩ else g.pm b a) = some v := e
  split at e
  ·rename_i hr
   obtain ⟨rfl, j, hj, rfl⟩ := hr
   exact q.tm j (by have := q.len; omega)
  ·exact h2.disj _ _ _ e
 ·obtain ⟨hi, c, e1, e2, e3⟩ := hin _ _ _ e
  have k := h2.ob i v c e1
  refine ⟨k.low, by rw [e2]; exact k.len, fun j hj => ?_, k.free, fun j hj => ?_, k.tm⟩
  ·obtain ⟨u, hu, hr⟩ := k.there j hj
   exact ⟨u, hu, fun hj' => key (e3 j zO hj') (hr zO)⟩
  ·show (if reg _ _ then _ else _) = _
   rw [if_neg]
   ·exact k.pm j hj
   ·rintro ⟨hbb, j', hj', he⟩
    exact h2.sep o i _ _ _ _ ho e1 (fun h => hi h.symm) hbb j' j (by have := q.len; omega) hj he
 ·obtain ⟨_, c1, e1, _⟩ := hin _ _ _ e
  obtain ⟨_, c2, e2, _⟩ := hin _ _ _ e'
  exact h2.sep i i' _ _ _ _ e1 e2 hne
theorem a9e {S0 S : List Ob} {o ver : Nat} {cs : List AV} (ho : hp S o = .arr ver cs) (hb : a0v 0 cs = true) : GWk S0 S (y7 S o (.dead ver)) (Fz1 o ver cs) :=
 a9d ho hb x6 (fun i hi => .inl (w4 hi))
section
variable {P : Program} {S0 : List Ob} {ow : List Nat} {fr : Fr} {S : List Ob} {L L' L0 : List It} {α : Type} {f : α → AV} {e : Option Nat}
theorem Sep.kill {o ver : Nat} {cs : List AV} {x : Ob} (hS : Sep S L) (hp' : Pk L (o, ver, cs) L0) : Sep (y7 S o x) L0 := by
 have h := hS.perm hp'
 refine ⟨fun p hm => ?_, (List.nodup_cons.1 h.2).2⟩
 have hne : p.1 ≠ o := fun e1 => (List.nodup_cons.1 h.2).1 (by rw [← e1]; exact List.mem_map.2 ⟨p, hm, rfl⟩)
 rw [w4 hne]
 exact h.1 p (List.mem_cons_of_mem _ hm)
theorem a7e (he : Enc f e) {o ver : Nat} {l : List α} {j : List AV} (h1 : j.all AV.one = true) : Fz1 o ver (flat f l ++ j) (.ref o ver 0 l.length e) (.sl false (f5 e) (l.map f)) := by
 have hl : (flat f l).length = l.length * f5 e := he.length l
 have ha : (flat f l ++ j).all AV.one = true := by rw [List.all_append, he.all, h1]; rfl
 have := Fz1.ref (o := o) (ver := ver) (cs := flat f l ++ j) (off := 0) (n := l.length) (e := e) (by rw [List.length_append, hl]; omega) ha
 have key : m3 e l.length ((flat f l ++ j).drop 0) = l.map f := by
  rw [List.drop_zero]
  have : m3 e l.length (flat f l ++ j) = m3 e l.length (flat f l) := by
   cases e with
   | none =>
     simp only [m3]
     rw [List.take_append_of_le_length (by rw [hl]; simp [f5])]
   | some n =>
     simp only [m3]
     have : ∀ (k : Nat) (xs : List AV), xs.length = k * n → a1h n k (xs ++ j) = a1h n k xs := by
      intro k
      induction k with
      | zero => intro xs _; rfl
      | succ k ih =>
        intro xs hx
        have hn : n ≤ xs.length := by rw [hx, Nat.add_mul]; omega
        simp only [a1h]
        rw [List.take_append_of_le_length hn, List.drop_append_of_le_length hn, ih _ (by rw [List.length_drop, hx, Nat.add_mul]; omega)]
     exact this _ _ (by rw [hl]; rfl)
  rw [this, he.elems]
 rw [key] at this
 exact this
theorem a7f (he : Enc f e) {l : List α} {j : List AV} (hj : a0v 0 j = true) : a0v 0 (flat f l ++ j) = true := by
 rw [a1K]; intro x hx
 rcases List.mem_append.1 hx with h | h
 ·exact a1K.1 (he.blwf 0 l) _ h
 ·exact a1K.1 hj _ h
theorem E_fzT {b} {K K0 : Post} {o ver : Nat} {l : List α} {j : List AV} (t : Nat) (he : Enc f e) (hS : Sep S L) (hp' : Pk L (o, ver, flat f l ++ j) L0) (hj : a0v 0 j = true) (h1 : j.all AV.one = true) (ht : Fr.get fr t = .ref o ver 0 l.length e)
  (h : ∀ S', Sep S' L0 → VT P S0 ow b ((t, .sl false (f5 e) (l.map f)) :: fr) S' K) : Post.thn (fun fr' S' => ∃ F T, Wk S0 fr' S' F T ∧ VT P S0 ow b F T K) K0 .normal fr S := by
 have ho := hS.at (hp'.mem_iff.2 (.head _))
 refine a3v ((a9e ho (a7f he hj)).wk (fun t' => ?_)) (h _ (hS.kill hp'))
 rw [get_cons]
 split
 ·rename_i e1; subst e1; rw [ht]; exact a7e he h1
 ·exact .same _
theorem b2J {o ver o2 v2 jx : Nat} {l : List α} {j cs2 : List AV} (he : Enc f e) (ho : hp S o = .arr ver (flat f l ++ j)) (ho2 : hp S o2 = .arr v2 cs2) (hne : o2 ≠ o) (hj : a0v 0 j = true) (h1 : j.all AV.one = true) (hx : cs2[jx]? = some (.ref o ver 0 l.length e)) :
  GWk S0 S (y7 (y7 S o (.dead ver)) o2 (.arr v2 (cs2.set jx (.sl false (f5 e) (l.map f))))) (Fz1 o ver (flat f l ++ j)) := by
 refine a9d ho (a7f he hj) (by rw [w4 (fun h => hne h.symm), x6]) (fun i hi => ?_)
 by_cases h2 : i = o2
 ·subst h2
  refine .inr ⟨v2, cs2, _, ho2, x6, by simp, fun k k1 k2 => ?_⟩
  rw [List.getElem_set]
  split
  ·rename_i e1
   subst e1
   rw [List.getElem?_eq_getElem k1] at hx
   rw [Option.some.inj hx]
   exact a7e he h1
  ·exact .same _
 ·rw [w4 h2, w4 hi]; exact .inl rfl
theorem E_fzC {b} {K K0 : Post} {o ver o2 v2 jx : Nat} {l : List α} {j cs2 : List AV} (he : Enc f e) (hS : Sep S L) (hp' : Pk L (o, ver, flat f l ++ j) L0) (hj : a0v 0 j = true) (h1 : j.all AV.one = true) (hx : cs2[jx]? = some (.ref o ver 0 l.length e)) (hr : Rp L0 (o2, v2, cs2) (o2, v2, cs2.set jx (.sl false (f5 e) (l.map f))) L')
  (h : ∀ S', Sep S' L' → VT P S0 ow b fr S' K) : Post.thn (fun fr' S' => ∃ F T, Wk S0 fr' S' F T ∧ VT P S0 ow b F T K) K0 .normal fr S := by
 have ho := hS.at (hp'.mem_iff.2 (.head _))
 have hk := hS.kill (x := .dead ver) hp'
 have hp2 := hS.perm hp'
 have hne : o2 ≠ o := fun e1 => (List.nodup_cons.1 hp2.2).1 (List.mem_map.2 ⟨_, hr.mem, e1⟩)
 have ho2 : hp S o2 = .arr v2 cs2 := hp2.1 _ (.tail _ hr.mem)
 exact a3v ((b2J he ho ho2 hne hj h1 hx).wk (fun t' => .same _)) (h _ (hk.rp hr))
theorem b8s {b} {K K0 : Post} {o ver o2 v2 jx : Nat} {l : List α} {cs2 : List AV} (he : Enc f e) (hS : Sep S L) (hp' : Pk L (o, ver, flat f l) L0) (hx : cs2[jx]? = some (.ref o ver 0 l.length e)) (hr : Rp L0 (o2, v2, cs2) (o2, v2, cs2.set jx (.sl false (f5 e) (l.map f))) L')
  (h : ∀ S', Sep S' L' → VT P S0 ow b fr S' K) : Post.thn (fun fr' S' => ∃ F T, Wk S0 fr' S' F T ∧ VT P S0 ow b F T K) K0 .normal fr S :=
 E_fzC (j := []) he hS (by rw [List.append_nil]; exact hp') rfl rfl hx hr h
theorem b8t {b} {K K0 : Post} {o ver : Nat} {l : List α} (t : Nat) (he : Enc f e) (hS : Sep S L) (hp' : Pk L (o, ver, flat f l) L0) (ht : Fr.get fr t = .ref o ver 0 l.length e)
  (h : ∀ S', Sep S' L0 → VT P S0 ow b ((t, .sl false (f5 e) (l.map f)) :: fr) S' K) : Post.thn (fun fr' S' => ∃ F T, Wk S0 fr' S' F T ∧ VT P S0 ow b F T K) K0 .normal fr S :=
 E_fzT (j := []) t he hS (by rw [List.append_nil]; exact hp') rfl rfl ht h
end
end Go.Ab

/- A contract that leaves one list of its own: one answer for all heaps. -/
namespace Go.Ab
open Go Go.RowKit
section
variable {P : Program} {f : FuncId} {args : List AV} {α : Type} {g : α → AV} {e : Option Nat}
theorem Tri.base (he : Enc g e) {Q : List α → AV → Prop} (h : Tri P f args [] (fun r L' => ∃ oo l x, r = .tup [.ref oo 0 0 l.length e, x] ∧ x.blw 0 = true ∧ L' = [(oo, 0, flat g l)] ∧ Q l x)) :
  ∃ l x, Q l x ∧ x.blw 0 = true ∧ Ev P f args (hp []) (.tup [.ref 0 0 0 l.length e, x]) (hp [.arr 0 (flat g l)]) := by
 obtain ⟨r, S', h1, L', ⟨oo, l, x, rfl, hx, rfl, hq⟩, hS⟩ := h [] [] Sep.nil
 refine ⟨l, x, hq, hx, ?_⟩
 have ho : hp S' oo = .arr 0 (flat g l) := hS.at (.head _)
 have hn : hp [Ob.arr 0 (flat g l)] 0 = .arr 0 (flat g l) := rfl
 refine h1.gwk (r9 (S0 := []) (S := S') (S' := [.arr 0 (flat g l)]) [some (oo, 0)] (by simp [a8L]) (Nat.zero_le _) ⟨?_, trivial⟩) ?_
 ·exact ⟨0, flat g l, ho, .refl (he.blwf 0 l), fun h => absurd h (Nat.not_lt_zero _)⟩
 ·refine .tup rfl (fun j h1 h2 => ?_)
  match j, h1 with
  | 0, _ => exact .ref ⟨0, flat g l, flat g l, rfl, ho, hn, rfl, by rw [he.length l]; omega⟩
  | 1, _ => exact .base hx (.refl _)
end
section
variable {P : Program} {S0 : List Ob} {ow : List Nat} {fr : Fr} {S : List Ob} {L : List It}
end
end Go.Ab

/- Calls that only read, shown by a walk (over fork6's layer). -/
namespace Go.Ab
theorem a9f {τ : Hp} (h : b2j τ) : ∃ T : List Ob, hp T = τ := by
 obtain ⟨N, hN⟩ := h
 refine ⟨(List.range N).map τ, funext fun o => ?_⟩
 unfold hp
 rw [List.getD_eq_getElem?_getD, List.getElem?_map]
 by_cases ho : o < N
 ·rw [List.getElem?_range ho]; rfl
 ·rw [List.getElem?_eq_none zE, hN o zO]; rfl
def a4M (P : Program) (f : FuncId) (args : List AV) (L : List It) (r : AV) : Prop := ∀ R S, Sep S (L ++ R) → Ev P f args (hp S) r (hp S)
section
variable {P : Program} {f : FuncId} {args : List AV} {L L1 R : List It} {r : AV} {S : List Ob} {ow : List Nat} {fr : Fr} {log : List LE}
theorem a1b {n : Nat} {ts : List RS} {fc : FC} (hm : P.follows .mixedOrders = true) (hfn : Fn3 P f n ts fc) (hn : args.length ≤ n) (ow : List Nat)
  (h : ∀ R S, Sep S (L ++ R) → VT P S ow fc (a1z 0 args) S (fun e fr1 S1 => a6e e ∧ ∃ v, a2F S1 (Fr.get fr1) ts = some v ∧ v = r ∧ S1 = S)) : a4M P f args L r := fun R S hS => by
 obtain ⟨r', S', h1, rfl, rfl⟩ := b8m hm hfn hn ow (h R S hS)
 exact h1
theorem a4M.rd (h : a4M P f args L r) (hS : Sep S (L ++ R)) : c2v P f args (hp S) r (L.map (·.1)) := fun τ hτ ha => by
 obtain ⟨T, rfl⟩ := a9f hτ
 refine h [] T ⟨fun it hit => ?_, ?_⟩
 ·rw [List.append_nil] at hit
  rw [ha _ (List.mem_map.2 ⟨it, hit, rfl⟩)]
  exact hS.1 it (List.mem_append_left _ hit)
 ·rw [List.append_nil]
  have := hS.2
  rw [List.map_append] at this
  exact (List.nodup_append.1 this).1
theorem a2d {d g as0 rs} {K : Fr → List Ob → List LE → Prop} {ags : List AV} (c : a4M P g ags L1 r) (hS : Sep S L) (e : evL (Fr.get fr) as0 = ags) (hp' : Spl L L1 R)
  (h : VTops P ow rs ((d, r) :: fr) S (.acc (L1.map (·.1)) none :: log) K) : VTops P ow (⟨some d, none, .call g as0⟩ :: rs) fr S log K := by
 rw [a2D, e]
 exact b0O (c.rd (hS.spl hp')) h
end
end Go.Ab

