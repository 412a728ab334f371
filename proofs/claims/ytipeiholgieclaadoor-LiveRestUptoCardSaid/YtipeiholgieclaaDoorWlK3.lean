/- What functions are said to compute (partial functions in plain Lean), and the steps that follow it. -/
import Derived.Test.YtipeiholgieclaaDoorWlF3
import Derived.OpenShut
set_option linter.unusedVariables false
set_option linter.unusedSimpArgs false
namespace Go.Ab
open Go.RowKit

abbrev I64 (x : Int) : Int := IntKind.i64.wrap x
abbrev U64 (x : Int) : Int := IntKind.u64.wrap x
abbrev U8 (x : Int) : Int := IntKind.u8.wrap x

def gd (c : Prop) [Decidable c] {β : Type} (k : Option β) : Option β := if c then k else none
theorem a1z {c : Prop} [Decidable c] {β : Type} {k : Option β} {r : β} (h : gd c k = some r) : c /\ k = some r := by
 unfold gd at h
 split at h
 ·exact ⟨by assumption, h⟩
 ·cases h
@[simp] theorem a2y {c : Prop} [Decidable c] {β : Type} {k : Option β} (h : c) : gd c k = k := if_pos h
theorem c9 {α β : Type} {x : Option α} {f : α -> Option β} {r : β} (h : x.bind f = some r) : ∃ v, x = some v /\ f v = some r := Option.bind_eq_some_iff.1 h

theorem b2p {β : Type} {e : Bool} {a b : β} (h : e = true) : (if e = true then a else b) = a := if_pos h
theorem b2q {β : Type} {e : Bool} {a b : β} (h : e = false) : (if e = true then a else b) = b := if_neg (by rw [h]; decide)

def m0 {α : Type} (l : List α) (i : Int) : Option α := if 0 <= i then l[i.toNat]? else none
theorem i8 {α : Type} {l : List α} {i : Int} {y : α} (h : m0 l i = some y) : 0 <= i /\ i < l.length /\ l[i.toNat]? = some y := by
 unfold m0 at h
 split at h
 ·obtain ⟨h1, h2⟩ := List.getElem?_eq_some_iff.1 h
  exact ⟨by assumption, by omega, h⟩
 ·cases h

def jp {σ β : Type} (k : σ -> Option β) (f : (σ -> Option β) -> Option β) : Option β := f k

inductive Stp (σ ρ : Type) where
 | nxt (s : σ)
 | brk (s : σ)
 | ret (r : ρ)
inductive Out (σ ρ : Type) where
 | fin (s : σ)
 | ret (r : ρ)

def a3c {α σ ρ : Type} (body : Nat -> α -> σ -> Option (Stp σ ρ)) : List α -> Nat -> σ -> Option (Out σ ρ)
 | [], _, s => some (.fin s)
 | x :: xs, i, s => match body i x s with
   | none => none
   | some (.nxt s') => a3c body xs (i + 1) s'
   | some (.brk s') => some (.fin s')
   | some (.ret r) => some (.ret r)
def rng {α σ ρ : Type} (body : Nat -> α -> σ -> Option (Stp σ ρ)) (xs : List α) (s : σ) : Option (Out σ ρ) := if xs.length <= 4611686018427387904 then a3c body xs 0 s else none

def a2o {σ ρ : Type} (body : Nat -> σ -> Option (Stp σ ρ)) : Nat -> Nat -> σ -> Option (Out σ ρ)
 | 0, _, s => some (.fin s)
 | n + 1, i, s => match body i s with
   | none => none
   | some (.nxt s') => a2o body n (i + 1) s'
   | some (.brk s') => some (.fin s')
   | some (.ret r) => some (.ret r)
def rni {σ ρ : Type} (body : Nat -> σ -> Option (Stp σ ρ)) (n : Int) (s : σ) : Option (Out σ ρ) := if n <= 4611686018427387904 then a2o body n.toNat 0 s else none

def whileN {σ ρ : Type} (body : σ -> Option (Stp σ ρ)) : Nat -> σ -> Option (Out σ ρ)
 | 0, _ => none
 | n + 1, s => match body s with
   | none => none
   | some (.nxt s') => whileN body n s'
   | some (.brk s') => some (.fin s')
   | some (.ret r) => some (.ret r)

def b5B : Fr -> Nat -> AV -> Fr
 | [], _, _ => []
 | (t', v') :: r, t, v => if t = t' then (t', v) :: r else (t', v') :: b5B r t v
theorem b0o {t : Nat} {v : AV} : ∀ {fr : Fr}, Fr.get fr t = v -> b5B fr t v = fr
 | [], _ => rfl
 | (t', v') :: r, h => by
   simp only [b5B]
   rw [get_cons] at h
   split
   ·rename_i e; rw [if_pos e] at h; rw [h]
   ·rename_i e; rw [if_neg e] at h; rw [b0o h]

theorem Wk.refl {S0 S : List Ob} {fr : Fr} : Wk S0 fr S fr S := fun _ _ _ _ h => h

section
variable {P : Program} {S0 : List Ob} {ow : List Nat} {fr : Fr} {S : List Ob} {log : List LE}

theorem z9 {d r rs} {K : Fr -> List Ob -> List LE -> Prop} {v v' rd δ S'} (e : opV (ow.contains d) r (Fr.get fr) S = some (v, rd, δ)) (e2 : AVw v v') (e3 : apS S δ = S') (h : VTops P ow rs ((d, v') :: fr) S' (.acc (a1R rd δ) (δ.map (·.1)) :: log) K) :
  VTops P ow (⟨some d, none, .op r⟩ :: rs) fr S log K := by subst e3; rw [a4y, e]; exact ⟨_, e2, h⟩
theorem b0p {d t want c rs} {K : Fr -> List Ob -> List LE -> Prop} {b : Bool} {fr1 fr2 : Fr} (e : Fr.get fr t = .bool b) (e1 : b5B fr t (.bool want) = fr1) (e2 : a7i (b5B fr t (.bool (!want))) d (.tup []) = fr2)
  (h : b = want -> VTops P ow (⟨d, none, c⟩ :: rs) fr1 S log K) (h' : b = !want -> VTops P ow rs fr2 S (.acc [] none :: log) K) : VTops P ow (⟨d, some (t, want), c⟩ :: rs) fr S log K := by
 subst e1; subst e2
 refine c9s e (fun hb => ?_) (fun hb => ?_)
 ·have := h hb
  rwa [b0o (by rw [e, hb])] at this
 ·have := h' hb
  rwa [b0o (by rw [e, hb])] at this
theorem d9 {a b} {K : Post} (h : VT P S0 ow a fr S (Post.thn (fun fr' S' => ∃ F T, Wk S0 fr' S' F T /\ VT P S0 ow b F T K) K)) : VT P S0 ow (.seq a b) fr S K := by
 rw [a9c]; exact h
theorem f5 {b} {K K0 : Post} (h : VT P S0 ow b fr S K) : Post.thn (fun fr' S' => ∃ F T, Wk S0 fr' S' F T /\ VT P S0 ow b F T K) K0 .normal fr S := ⟨fr, S, Wk.refl, h⟩
theorem a1q {b} {K K0 : Post} {F : Fr} {T : List Ob} (hw : Wk S0 fr S F T) (h : VT P S0 ow b F T K) : Post.thn (fun fr' S' => ∃ F T, Wk S0 fr' S' F T /\ VT P S0 ow b F T K) K0 .normal fr S := ⟨F, T, hw, h⟩
theorem a1H {σ β : Type} {a b} {K : Post} {k : σ -> Option β} {f : (σ -> Option β) -> Option β} {r : β} (h : jp k f = some r) (F : σ -> Fr) (T : σ -> List Ob)
  (h1 : ∀ k', f k' = some r -> VT P S0 ow a fr S (Post.thn (fun fr' S' => ∃ s, k' s = some r /\ Wk S0 fr' S' (F s) (T s)) K)) (h2 : ∀ s, k s = some r -> VT P S0 ow b (F s) (T s) K) : VT P S0 ow (.seq a b) fr S K :=
 d9 (a2T (a2P (fun _ _ ⟨s, hs, hw⟩ => ⟨F s, T s, hw, h2 s hs⟩) (fun _ _ _ h => h)) (h1 k h))
theorem l6 {σ β : Type} {K0 : Post} {k' : σ -> Option β} {r : β} {F : σ -> Fr} {T : σ -> List Ob} (s : σ) (h : k' s = some r) (hw : Wk S0 fr S (F s) (T s)) : Post.thn (fun fr' S' => ∃ s, k' s = some r /\ Wk S0 fr' S' (F s) (T s)) K0 .normal fr S := ⟨s, h, hw⟩
theorem a0z {a b c} {K : Post} (h : VT P S0 ow (.seq a (.seq b c)) fr S K) : VT P S0 ow (.seq (.seq a b) c) fr S K := by
 rw [a9c] at h
 rw [a9c, a9c]
 refine a2T (fun e fr' S' hh => ?_) h
 cases e with
 | normal =>
   obtain ⟨F, T, hw, hv⟩ := hh
   rw [a9c] at hv
   exact ⟨F, T, hw, hv⟩
 | _ => exact hh

def a6I (S0 : List Ob) {σ ρ β : Type} (nx : Nat -> Bool) (bk : Nat -> Bool) (F : σ -> Fr) (T : σ -> List Ob) (Fx : σ -> Fr) (Tx : σ -> List Ob) (k : Out σ ρ -> Option β) (r : β) (K : Post) (c : Stp σ ρ) : Post
 | .normal, fr, S => ∃ s, c = .nxt s /\ Wk S0 fr S (F s) (T s)
 | .exit j, fr, S => if nx j = true then ∃ s, c = .nxt s /\ Wk S0 fr S (F s) (T s) else if bk j = true then ∃ s, c = .brk s /\ Wk S0 fr S (Fx s) (Tx s) else ∃ v, c = .ret v /\ (k (.ret v) = some r -> K (.exit j) fr S)
 | e, fr, S => ∃ v, c = .ret v /\ (k (.ret v) = some r -> K e fr S)

variable {σ ρ β : Type} {nx bk : Nat -> Bool} {F : σ -> Fr} {T : σ -> List Ob} {Fx : σ -> Fr} {Tx : σ -> List Ob} {k : Out σ ρ -> Option β} {r : β} {K : Post}
theorem a3u {s : σ} {c : Stp σ ρ} (e : c = .nxt s) (hw : Wk S0 fr S (F s) (T s)) : a6I S0 nx bk F T Fx Tx k r K c .normal fr S := ⟨s, e, hw⟩
theorem c0k {s : σ} {c : Stp σ ρ} {j} (e : c = .brk s) (hj : nx j = false) (hb : bk j = true) (hw : Wk S0 fr S (Fx s) (Tx s)) : a6I S0 nx bk F T Fx Tx k r K c (.exit j) fr S := by
 show if nx j = true then _ else if bk j = true then _ else _
 rw [if_neg (by rw [hj]; decide), if_pos hb]; exact ⟨s, e, hw⟩
theorem c9K {v : ρ} {c : Stp σ ρ} (e : c = .ret v) (h : k (.ret v) = some r -> K .ret fr S) : a6I S0 nx bk F T Fx Tx k r K c .ret fr S := ⟨v, e, h⟩

theorem b7M {a : FC} {id : Nat} (body : σ -> Option (Stp σ ρ)) {n : Nat} {s0 : σ} (F : σ -> Fr) (T : σ -> List Ob) (h : (whileN body n s0).bind k = some r)
  (hw : Wk S0 fr S (F s0) (T s0))
  (hb : ∀ s c, body s = some c -> VT P S0 ow a (F s) (T s) (a6I S0 (fun _ => false) (fun j => j == id) F T F T k r K c))
  (hx : ∀ s fr' S', k (.fin s) = some r -> Wk S0 fr' S' (F s) (T s) -> K .normal fr' S') : VT P S0 ow (.block id (.loop a)) fr S K := by
 refine z6 (b3r (ι := Nat × σ) (fun i => F i.2) (fun i => T i.2) (fun i => (whileN body i.1 i.2).bind k = some r) (fun i => i.1) (n, s0) h hw (fun i hi => ?_))
 obtain ⟨n, s⟩ := i
 simp only at hi ⊢
 cases n with
 | zero => simp [whileN] at hi
 | succ n =>
   simp only [whileN] at hi
   cases hc : body s with
   | none => rw [hc] at hi; cases hi
   | some c =>
     rw [hc] at hi
     refine a2T (fun e fr' S' hk => ?_) (hb s c hc)
     cases e with
     | normal =>
       obtain ⟨s', rfl, hw'⟩ := hk
       exact ⟨(n, s'), hi, Nat.lt_succ_self _, hw'⟩
     | exit j =>
       replace hk : if (j == id) = true then ∃ s, c = .brk s /\ Wk S0 fr' S' (F s) (T s) else ∃ v, c = .ret v /\ (k (.ret v) = some r -> K (.exit j) fr' S') := hk
       show Post.blk id K (.exit j) fr' S'
       rw [a6F]
       by_cases hj : j = id
       ·rw [if_pos hj]; rw [if_pos (by simpa using hj)] at hk
        obtain ⟨s', rfl, hw'⟩ := hk
        exact hx s' _ _ hi hw'
       ·rw [if_neg hj]; rw [if_neg (by simpa using hj)] at hk
        obtain ⟨v, rfl, hv⟩ := hk
        exact hv hi
     | ret => obtain ⟨v, rfl, hv⟩ := hk; exact hv hi
     | goto l => obtain ⟨v, rfl, hv⟩ := hk; exact hv hi
     | panic l => obtain ⟨v, rfl, hv⟩ := hk; exact hv hi
     | outgrown => obtain ⟨v, rfl, hv⟩ := hk; exact hv hi

theorem c0l {x : Int} (h : -9223372036854775808 <= x /\ x <= 9223372036854775807) : I64 x = x := a2c h

theorem b6B {tc ti tn tj id id2 : Nat} {B : FC} {G : Fr} {T' : List Ob} {i : Nat} {n : Int} {K0 : Post} (h1 : ti ≠ tn) (hn : n <= 4611686018427387904)
  (hB : (i : Int) < n -> VT P S0 ow B ((tc, .bool true) :: (ti, .int .i64 i) :: (tn, .int .i64 n) :: G) T' (fun e fr' S' => match e with
   | .normal => ∃ G2 T2, Wk S0 fr' S' ((ti, .int .i64 i) :: G2) T2 /\ ∀ fr3, (∀ t, Fr.get fr3 t = if t = ti then .int .i64 ((i : Int) + 1) else if t = tj then .int .i64 ((i : Int) + 1) else Fr.get G2 t) -> K0 .normal fr3 T2
   | e => Post.blk id2 (fun e fr' S' => match e with
     | .normal => ∃ G2 T2, Wk S0 fr' S' ((ti, .int .i64 i) :: G2) T2 /\ ∀ fr3, (∀ t, Fr.get fr3 t = if t = ti then .int .i64 ((i : Int) + 1) else if t = tj then .int .i64 ((i : Int) + 1) else Fr.get G2 t) -> K0 .normal fr3 T2
     | e => K0 e fr' S') e fr' S'))
  (hE : ¬ (i : Int) < n -> K0 (.exit id) ((tc, .bool false) :: (ti, .int .i64 i) :: (tn, .int .i64 n) :: G) T') :
  VT P S0 ow (.seq (.reg [⟨some tc, none, .op (.bin .none .lss (.t ti) (.t tn))⟩] []) (.seq (.cond (.t tc) .skip (.exit id)) (.seq (.block id2 B) (.reg [⟨some tj, none, .op (.bin .none .add (.t ti) (.v (.int .i64 1)))⟩, ⟨some ti, none, .op (.mv (.t tj))⟩] []))))
   ((ti, .int .i64 i) :: (tn, .int .i64 n) :: G) T' K0 := by
 refine d9 (b8 (m9 (v := .bool (decide ((i : Int) < n))) ?_ rfl (b6 (f5 ?_))))
 ·simp only [opV, ev, get_cons, if_true, if_neg (Ne.symm h1), b6y, pv, a4I]; rfl
 refine d9 (E_cs (t := decide ((i : Int) < n)) (by simp [ev, get_cons]) (fun ht => i7 (f5 ?_)) (fun hf => a3E ?_))
 ·rw [ht]
  simp only [decide_eq_true_eq] at ht
  refine d9 (z6 ?_)
  have hinc : ∀ {fr' : Fr} {S' : List Ob} {G2 : Fr} {T2 : List Ob}, Wk S0 fr' S' ((ti, .int .i64 i) :: G2) T2 -> (∀ fr3, (∀ t, Fr.get fr3 t = if t = ti then .int .i64 ((i : Int) + 1) else if t = tj then .int .i64 ((i : Int) + 1) else Fr.get G2 t) -> K0 .normal fr3 T2) ->
    Post.thn (fun fr' S' => ∃ F T, Wk S0 fr' S' F T /\ VT P S0 ow (.reg [⟨some tj, none, .op (.bin .none .add (.t ti) (.v (.int .i64 1)))⟩, ⟨some ti, none, .op (.mv (.t tj))⟩] []) F T K0) K0 .normal fr' S' := fun hw hk => by
   refine a1q hw (b8 (m9 (v := .int .i64 ((i : Int) + 1)) ?_ rfl (a1j (v' := .int .i64 ((i : Int) + 1)) (by simp [ev, get_cons]) (b6 (hk _ (fun t => ?_))))))
   ·simp only [opV, ev, get_cons, if_true, b6y, pv, a4I, Option.map_some]
    rw [a2c zO]
   ·simp only [get_cons]
    split
    ·rfl
    ·split
     ·rfl
     ·rfl
  refine a2T (fun e fr' S' hk => ?_) (hB ht)
  cases e with
  | normal => obtain ⟨G2, T2, hw, hk⟩ := hk; exact hinc hw hk
  | exit j =>
    replace hk : Post.blk id2 _ (.exit j) fr' S' := hk
    rw [a6F] at hk
    show Post.blk id2 _ (.exit j) fr' S'
    rw [a6F]
    split
    ·rename_i hj; rw [if_pos hj] at hk
     obtain ⟨G2, T2, hw, hk⟩ := hk; exact hinc hw hk
    ·rename_i hj; rw [if_neg hj] at hk; exact hk
  | _ => exact hk
 ·rw [hf]
  simp only [decide_eq_false_iff_not] at hf
  exact hE hf

theorem b1m {S0 S : List Ob} {fr fr' : Fr} (h : ∀ t, Fr.get fr' t = Fr.get fr t \/ Fr.get fr' t = .junk) : Wk S0 fr S fr' S :=
 GWk.refl.wk (fun t => by rcases h t with e | e <;> rw [e] <;> first | exact .refl _ | exact .junk _)

theorem c0m {tc ti tn tj id id2 : Nat} {B : FC} (body : Nat -> σ -> Option (Stp σ ρ)) {n : Int} {s0 : σ} (F : σ -> Fr) (T : σ -> List Ob) (h : (rni body n s0).bind k = some r)
  (h1 : ti ≠ tn) (h2 : tj ≠ tn) (hF : ∀ s, Fr.get (F s) tj = .junk /\ Fr.get (F s) ti = .junk /\ Fr.get (F s) tn = .junk /\ Fr.get (F s) tc = .junk)
  (hw : Wk S0 fr S ((ti, .int .i64 0) :: (tn, .int .i64 n) :: F s0) (T s0))
  (hb : ∀ (i : Nat) s c, (i : Int) < n -> body i s = some c -> VT P S0 ow B ((tc, .bool true) :: (ti, .int .i64 i) :: (tn, .int .i64 n) :: F s) (T s)
   (a6I S0 (fun j => j == id2) (fun j => j == id) (fun s => (ti, .int .i64 i) :: (tn, .int .i64 n) :: F s) T F T k r K c))
  (hx : ∀ s fr' S', k (.fin s) = some r -> Wk S0 fr' S' (F s) (T s) -> K .normal fr' S') :
  VT P S0 ow (.block id (.loop (.seq (.reg [⟨some tc, none, .op (.bin .none .lss (.t ti) (.t tn))⟩] []) (.seq (.cond (.t tc) .skip (.exit id)) (.seq (.block id2 B) (.reg [⟨some tj, none, .op (.bin .none .add (.t ti) (.v (.int .i64 1)))⟩, ⟨some ti, none, .op (.mv (.t tj))⟩] [])))))) fr S K := by
 unfold rni at h
 split at h
 case isFalse => cases h
 rename_i hn
 refine z6 (b3r (ι := Nat × σ) (fun i => (ti, .int .i64 i.1) :: (tn, .int .i64 n) :: F i.2) (fun i => T i.2) (fun i => i.1 <= n.toNat /\ (a2o body (n.toNat - i.1) i.1 i.2).bind k = some r) (fun i => n.toNat - i.1) (0, s0) ⟨by simp, by simpa using h⟩ hw (fun i hi => ?_))
 obtain ⟨i, s⟩ := i
 simp only at hi ⊢
 obtain ⟨hi0, hi⟩ := hi
 refine b6B h1 hn (fun hlt => ?_) (fun hge => ?_)
 ·have e1 : n.toNat - i = (n.toNat - (i + 1)) + 1 := by omega
  rw [e1] at hi
  simp only [a2o] at hi
  cases hc : body i s with
  | none => rw [hc] at hi; cases hi
  | some c =>
    rw [hc] at hi
    have hnext : ∀ s', c = .nxt s' -> ∀ fr3, (∀ t, Fr.get fr3 t = if t = ti then .int .i64 ((i : Int) + 1) else if t = tj then .int .i64 ((i : Int) + 1) else Fr.get ((tn, .int .i64 n) :: F s') t) ->
      Post.thn (fun fr' S' => ∃ i' : Nat × σ, (i'.1 <= n.toNat /\ (a2o body (n.toNat - i'.1) i'.1 i'.2).bind k = some r) /\ n.toNat - i'.1 < n.toNat - i /\ Wk S0 fr' S' ((ti, .int .i64 i'.1) :: (tn, .int .i64 n) :: F i'.2) (T i'.2)) (Post.blk id K) .normal fr3 (T s') := fun s' e fr3 hg => by
     subst e
     refine ⟨(i + 1, s'), ⟨by simp only; omega, hi⟩, by simp only; omega, b1m (fun t => ?_)⟩
     rw [hg]
     rw [get_cons]
     simp only
     by_cases ht : t = ti
     ·left; rw [if_pos ht, if_pos ht]; rfl
     ·rw [if_neg ht, if_neg ht]
      by_cases ht2 : t = tj
      ·right; rw [ht2, get_cons, if_neg h2, (hF s').1]
      ·left; rw [if_neg ht2]
    refine a2T (fun e fr' S' hk => ?_) (hb i s c hlt hc)
    cases e with
    | normal =>
      obtain ⟨s', e, hw'⟩ := hk
      exact ⟨_, _, hw', hnext s' e⟩
    | exit j =>
      show Post.blk id2 _ (.exit j) fr' S'
      rw [a6F]
      replace hk : if (j == id2) = true then ∃ s', c = .nxt s' /\ Wk S0 fr' S' ((ti, .int .i64 i) :: (tn, .int .i64 n) :: F s') (T s') else if (j == id) = true then ∃ s, c = .brk s /\ Wk S0 fr' S' (F s) (T s) else ∃ v, c = .ret v /\ (k (.ret v) = some r -> K (.exit j) fr' S') := hk
      by_cases hj : j = id2
      ·rw [if_pos hj]; rw [if_pos (by simpa using hj)] at hk
       obtain ⟨s', e, hw'⟩ := hk
       exact ⟨_, _, hw', hnext s' e⟩
      ·rw [if_neg hj]; rw [if_neg (by simpa using hj)] at hk
       show Post.blk id K (.exit j) fr' S'
       rw [a6F]
       by_cases hj2 : j = id
       ·rw [if_pos hj2]; rw [if_pos (by simpa using hj2)] at hk
        obtain ⟨s', rfl, hw'⟩ := hk
        exact hx s' _ _ hi hw'
       ·rw [if_neg hj2]; rw [if_neg (by simpa using hj2)] at hk
        obtain ⟨v, rfl, hv⟩ := hk
        exact hv hi
    | ret => obtain ⟨v, rfl, hv⟩ := hk; exact hv hi
    | goto l => obtain ⟨v, rfl, hv⟩ := hk; exact hv hi
    | panic l => obtain ⟨v, rfl, hv⟩ := hk; exact hv hi
    | outgrown => obtain ⟨v, rfl, hv⟩ := hk; exact hv hi
 ·have e1 : n.toNat - i = 0 := by omega
  rw [e1] at hi
  simp only [a2o] at hi
  show Post.blk id K (.exit id) _ _
  rw [a6F, if_pos rfl]
  refine hx s _ _ hi (b1m (fun t => ?_))
  obtain ⟨_, f1, f2, f3⟩ := hF s
  simp only [get_cons]
  by_cases t1 : t = tc
  ·right; rw [t1]; exact f3
  ·by_cases t2 : t = ti
   ·right; rw [t2]; exact f1
   ·by_cases t3 : t = tn
    ·right; rw [t3]; exact f2
    ·left; rw [if_neg t1, if_neg t2, if_neg t3]

theorem a6J {α : Type} (body : Nat -> α -> σ -> Option (Stp σ ρ)) (xs : List α) : ∀ (m i : Nat) (s : σ), xs.length - i = m -> a2o (fun i s => xs[i]?.bind fun x => body i x s) m i s = a3c body (xs.drop i) i s
 | 0, i, s, h => by rw [List.drop_eq_nil_of_le zO]; rfl
 | m + 1, i, s, h => by
   have hi : i < xs.length := by omega
   rw [List.drop_eq_getElem_cons hi]
   simp only [a2o, a3c]
   rw [List.getElem?_eq_getElem hi]
   simp only [Option.bind_some]
   split
   ·rfl
   ·exact a6J body xs m (i + 1) _ zO
   ·rfl
   ·rfl
theorem b3y {α : Type} (body : Nat -> α -> σ -> Option (Stp σ ρ)) (xs : List α) (s : σ) : rng body xs s = rni (fun i s => xs[i]?.bind fun x => body i x s) xs.length s := by
 unfold rng rni
 by_cases h : xs.length <= 4611686018427387904
 ·rw [if_pos h, if_pos zO]
  have := a6J body xs xs.length 0 s zO
  simpa using this.symm
 ·rw [if_neg h, if_neg zO]

theorem c5F {α : Type} {tc ti tn tj id id2 : Nat} {B : FC} (body : Nat -> α -> σ -> Option (Stp σ ρ)) {xs : List α} {s0 : σ} (F : σ -> Fr) (T : σ -> List Ob) (h : (rng body xs s0).bind k = some r)
  (h1 : ti ≠ tn) (h2 : tj ≠ tn) (hF : ∀ s, Fr.get (F s) tj = .junk /\ Fr.get (F s) ti = .junk /\ Fr.get (F s) tn = .junk /\ Fr.get (F s) tc = .junk)
  (hw : Wk S0 fr S ((ti, .int .i64 0) :: (tn, .int .i64 xs.length) :: F s0) (T s0))
  (hb : ∀ (i : Nat) x s c, xs[i]? = some x -> i < xs.length -> body i x s = some c -> VT P S0 ow B ((tc, .bool true) :: (ti, .int .i64 i) :: (tn, .int .i64 xs.length) :: F s) (T s)
   (a6I S0 (fun j => j == id2) (fun j => j == id) (fun s => (ti, .int .i64 i) :: (tn, .int .i64 xs.length) :: F s) T F T k r K c))
  (hx : ∀ s fr' S', k (.fin s) = some r -> Wk S0 fr' S' (F s) (T s) -> K .normal fr' S') :
  VT P S0 ow (.block id (.loop (.seq (.reg [⟨some tc, none, .op (.bin .none .lss (.t ti) (.t tn))⟩] []) (.seq (.cond (.t tc) .skip (.exit id)) (.seq (.block id2 B) (.reg [⟨some tj, none, .op (.bin .none .add (.t ti) (.v (.int .i64 1)))⟩, ⟨some ti, none, .op (.mv (.t tj))⟩] [])))))) fr S K := by
 rw [b3y] at h
 refine c0m _ F T h h1 h2 hF hw (fun i s c hi hc => ?_) hx
 obtain ⟨x, hx1, hx2⟩ := c9 hc
 exact hb i x s c hx1 zO hx2
end
section
variable {P : Program} {S0 : List Ob} {ow : List Nat} {fr : Fr} {S : List Ob} {log : List LE}
theorem xC {c a b} {K : Post} {t : Bool} {β : Type} {A B r : β} (h : (if t = true then A else B) = r) (h1 : A = r -> VT P S0 ow a fr S K) (h2 : B = r -> VT P S0 ow b fr S K) (e : ev (Fr.get fr) c = .bool t := by exact rfl) : VT P S0 ow (.cond c a b) fr S K :=
 E_cs e (fun hb => h1 (by rw [b2p hb] at h; exact h)) (fun hb => h2 (by rw [b2q hb] at h; exact h))
theorem xT {d t c rs} {K : Fr -> List Ob -> List LE -> Prop} {b : Bool} {β : Type} {A B r : β} (h : (if b = true then A else B) = r)
  (h1 : A = r -> VTops P ow (⟨d, none, c⟩ :: rs) (b5B fr t (.bool true)) S log K) (h2 : B = r -> VTops P ow rs (a7i (b5B fr t (.bool (!true))) d (.tup [])) S (.acc [] none :: log) K) (e : Fr.get fr t = .bool b := by exact rfl) : VTops P ow (⟨d, some (t, true), c⟩ :: rs) fr S log K :=
 b0p e rfl rfl (fun hb => h1 (by rw [b2p hb] at h; exact h)) (fun hb => h2 (by rw [b2q hb] at h; exact h))
theorem xF {d t c rs} {K : Fr -> List Ob -> List LE -> Prop} {b : Bool} {β : Type} {A B r : β} (h : (if b = true then A else B) = r)
  (h1 : B = r -> VTops P ow (⟨d, none, c⟩ :: rs) (b5B fr t (.bool false)) S log K) (h2 : A = r -> VTops P ow rs (a7i (b5B fr t (.bool (!false))) d (.tup [])) S (.acc [] none :: log) K) (e : Fr.get fr t = .bool b := by exact rfl) : VTops P ow (⟨d, some (t, false), c⟩ :: rs) fr S log K :=
 b0p e rfl rfl (fun hb => h1 (by rw [b2q hb] at h; exact h)) (fun hb => h2 (by rw [b2p hb] at h; exact h))
theorem oQ {d d2 r rs} {K : Fr -> List Ob -> List LE -> Prop} {v} (v') (h : VTops P ow rs ((d2, v') :: (d, v') :: fr) S (.acc [] none :: .acc [] none :: log) K) (e : opV (ow.contains d) r (Fr.get fr) S = some (v, [], none) := by exact rfl) (e2 : v = v' := by exact rfl) : VTops P ow (⟨some d, none, .op r⟩ :: ⟨some d2, none, .op (.mv (.t d))⟩ :: rs) fr S log K := m9 e e2 (a1j (by simp [ev, get_cons]) h)
end
abbrev iZ (n : Int) : AV := .int .i64 n
abbrev sV {α : Type} (k : Nat) (f : α -> AV) (l : List α) : AV := .sl false k (List.map f l)
abbrev pC (x : AV) (k : Nat) : AV := .cptr x.cells k
theorem wF {S0 S : List Ob} {fr fr' : Fr} (h : leF none fr fr' := by repeat (first | exact trivial | refine ⟨.refl _, ?_⟩)) : Wk S0 fr S fr' S := b5w h
theorem aQ {p q : Prop} (h : q) (e : q -> p := by intro h; (repeat (first | refine a0z ?_ | refine d9 ?_ | refine b8 ?_ | refine i7 ?_)); exact h) : p := e h
theorem aE {p q : Prop} (h : q) (e : q -> p := by intro h; (repeat (first | refine b0j ?_ | refine c0f ?_ | refine c5y rfl ?_ | refine k9 ?_ | refine a0f ?_ | refine a4a ?_)); exact h) : p := e h
end Go.Ab

/- Lists as objects and as frozen values: the steps. -/
namespace Go.Ab
open Go.RowKit

def flat {α : Type} (f : α -> AV) (l : List α) : List AV := l.flatMap fun x => (f x).cells

structure Enc {α : Type} (f : α -> AV) (esh : Option Nat) : Prop where
 sz : ∀ x, (f x).cells.length = g6 esh
 one : ∀ x, (f x).cells.all AV.one = true
 form : ∀ x, match esh with | none => (f x).cells = [f x] | some _ => f x = .agg (f x).cells
 blw : ∀ x n, (f x).blw n = true

section
variable {α : Type} {f : α -> AV} {esh : Option Nat}
theorem a0t (l m : List α) : flat f (l ++ m) = flat f l ++ flat f m := by simp [flat]
theorem a0S (x : α) (l : List α) : flat f (x :: l) = (f x).cells ++ flat f l := rfl
theorem b1n : flat f [] = [] := rfl
theorem a9g (l : List α) : (l.map f).flatMap AV.cells = flat f l := by simp [flat, List.flatMap_map]
theorem Enc.length (he : Enc f esh) : ∀ l : List α, (flat f l).length = l.length * g6 esh
 | [] => by simp [flat]
 | x :: l => by rw [a0S, List.length_append, he.sz, he.length l, List.length_cons, Nat.add_mul]; omega
theorem Enc.all (he : Enc f esh) : ∀ l : List α, (flat f l).all AV.one = true
 | [] => rfl
 | x :: l => by rw [a0S, List.all_append, he.one, he.all l]; rfl
theorem Enc.blwf (he : Enc f esh) (n : Nat) : ∀ l : List α, a2v n (flat f l) = true
 | [] => rfl
 | x :: l => by
   rw [a0S]
   have : ∀ a b : List AV, a2v n a = true -> a2v n b = true -> a2v n (a ++ b) = true := fun a b h1 h2 => by
    rw [a4u] at *; intro x hx; rcases List.mem_append.1 hx with h | h; exact h1 _ h; exact h2 _ h
   exact this _ _ (a3r (he.blw x n)) (he.blwf n l)
theorem Enc.blwm (he : Enc f esh) (n : Nat) (l : List α) : a2v n (l.map f) = true := b5x (fun a => he.blw a n) l
theorem Enc.drop (he : Enc f esh) : ∀ (l : List α) (i : Nat), (flat f l).drop (i * g6 esh) = flat f (l.drop i)
 | l, 0 => by simp
 | [], i + 1 => by simp [flat]
 | x :: l, i + 1 => by
   rw [a0S, Nat.add_mul, Nat.one_mul, Nat.add_comm, <- List.drop_drop, List.drop_left' (he.sz x), he.drop l i]; rfl
theorem Enc.take (he : Enc f esh) : ∀ (l : List α) (i : Nat), (flat f l).take (i * g6 esh) = flat f (l.take i)
 | l, 0 => by simp [flat]
 | [], i + 1 => by simp [flat]
 | x :: l, i + 1 => by
   rw [a0S, Nat.add_mul, Nat.one_mul, Nat.add_comm (i * g6 esh), List.take_succ_cons, a0S, <- he.take l i]
   rw [<- he.sz x, List.take_append, List.take_of_length_le zO]
   congr 2; omega
theorem Enc.elems (he : Enc f esh) (l : List α) : w7 esh l.length (flat f l) = l.map f := by
 have hf := he.form
 have hs := he.sz
 cases esh with
 | none =>
   have : flat f l = l.map f := by
    induction l with
    | nil => rfl
    | cons x l ih => rw [a0S, hf x, ih]; rfl
   rw [this]; exact List.take_of_length_le zS
 | some n =>
   show a3H n l.length (flat f l) = _
   clear he
   induction l with
   | nil => rfl
   | cons x l ih =>
     have hx : (f x).cells.length = n := hs x
     simp only [List.length_cons, a3H, a0S]
     rw [List.take_left' hx, List.drop_left' hx, ih, <- hf x]; rfl
theorem Enc.repl (he : Enc f esh) (x : α) (n : Nat) : repl n (f x).cells = flat f (List.replicate n x) := by
 unfold Ab.repl flat
 induction n with
 | zero => rfl
 | succ n ih => rw [List.replicate_succ, List.replicate_succ, List.flatten_cons, ih]; rfl
theorem Enc.at (he : Enc f esh) {l : List α} {n : Nat} {y : α} (hy : l[n]? = some y) : ∃ a b, flat f l = a ++ (f y).cells ++ b /\ a.length = n * g6 esh /\ l = l.take n ++ y :: l.drop (n + 1) := by
 obtain ⟨hn, rfl⟩ := List.getElem?_eq_some_iff.1 hy
 have h1 : l = l.take n ++ l[n] :: l.drop (n + 1) := by rw [<- List.drop_eq_getElem_cons hn, List.take_append_drop]
 refine ⟨flat f (l.take n), flat f (l.drop (n + 1)), ?_, ?_, h1⟩
 ·conv => lhs; rw [h1]
  rw [a0t, a0S, List.append_assoc]
 ·rw [he.length, List.length_take, Nat.min_eq_left zO]

theorem a8m {a c b : List AV} {sh : Option Nat} {fo : Nat} {v : AV} (h : a1y sh c fo = some v) : a1y sh (a ++ c ++ b) (a.length + fo) = some v := by
 unfold a1y at *
 cases sh with
 | none =>
   simp only at h ⊢
   split at h
   ·rename_i hlt
    cases h
    rw [if_pos zE]
    congr 1
    simp only [List.getD_eq_getElem?_getD]
    rw [List.append_assoc, List.getElem?_append_right zO, List.getElem?_append_left zO]
    congr 3; omega
   ·cases h
 | some n =>
   simp only at h ⊢
   split at h
   ·rename_i hlt
    cases h
    rw [if_pos zE]
    congr 2
    rw [List.append_assoc, <- List.drop_drop, List.drop_left, List.drop_append_of_le_length zO, List.take_append_of_le_length zE]
   ·cases h

theorem a6K : ∀ (xs : List AV) {a c b : List AV} {fo : Nat}, fo + xs.length <= c.length -> splice (a ++ c ++ b) (a.length + fo) xs = a ++ splice c fo xs ++ b := by
 intro xs
 induction xs with
 | nil => intro a c b fo _; simp [splice]
 | cons x xs ih =>
   intro a c b fo h
   simp only [splice]
   simp only [List.length_cons] at h
   rw [show (a ++ c ++ b).set (a.length + fo) x = a ++ c.set fo x ++ b by
    rw [List.append_assoc, List.set_append_right _ _ zO, List.set_append_left _ _ zO, <- List.append_assoc]
    congr 3; omega]
   rw [show a.length + fo + 1 = a.length + (fo + 1) by omega]
   exact ih zE
end

def awL : List AV -> List AV -> Prop
 | [], [] => True
 | x :: xs, y :: ys => AVw x y /\ awL xs ys
 | _, _ => False
theorem a4R : ∀ {xs ys : List AV}, awL xs ys -> xs.length = ys.length
 | [], [], _ => rfl
 | _ :: xs, _ :: ys, h => congrArg (· + 1) (a4R h.2)
theorem a5G : ∀ {xs ys : List AV}, awL xs ys -> ∀ j (h1 : j < xs.length) (h2 : j < ys.length), AVw xs[j] ys[j]
 | [], _, _, j, h1, _ => by simp at h1
 | x :: xs, y :: ys, h, 0, _, _ => h.1
 | x :: xs, y :: ys, h, j + 1, h1, h2 => a5G h.2 j (by simpa using h1) (by simpa using h2)
theorem AVw.aggL {xs ys : List AV} (h : awL xs ys) : AVw (.agg xs) (.agg ys) := .agg (a4R h) (a5G h)
theorem AVw.tupL {xs ys : List AV} (h : awL xs ys) : AVw (.tup xs) (.tup ys) := .tup (a4R h) (a5G h)
theorem AVw.ex {sz} {xs : List AV} : AVw (.sl true sz xs) (.sl false sz xs) := .sl (by intro e; cases e) rfl (fun _ _ _ => rfl) (fun _ _ _ _ _ _ => .refl _)

section
variable {P : Program} {S0 : List Ob} {ow : List Nat} {fr : Fr} {S : List Ob} {log : List LE} {α : Type} {f : α -> AV} {esh : Option Nat}

theorem j6 {d x i rs} {K : Fr -> List Ob -> List LE -> Prop} {ex k n} {ys : List α} {y : α} (e : ev (Fr.get fr) x = .sl ex (g6 esh) (ys.map f)) (e1 : ev (Fr.get fr) i = .int k n) (hy : m0 ys n = some y)
  (h : VTops P ow rs ((d, .cptr (f y).cells 0) :: fr) S (.acc [] none :: log) K) : VTops P ow (⟨some d, none, .op (.iad none esh x i)⟩ :: rs) fr S log K := by
 obtain ⟨h1, h2, h3⟩ := i8 hy
 refine c5z e e1 rfl rfl ⟨h1, h2⟩ (fun y' hy' => ?_)
 rw [h3] at hy'; cases hy'
 exact h
theorem a1d {d x i rs} {K : Fr -> List Ob -> List LE -> Prop} {o ver off m k n} (e : ev (Fr.get fr) x = .ref o ver off m esh) (e1 : ev (Fr.get fr) i = .int k n) (hn : 0 <= n /\ n < m)
  (h : VTops P ow rs ((d, .ptr o ver (off + n.toNat * g6 esh)) :: fr) S (.acc [] none :: log) K) : VTops P ow (⟨some d, none, .op (.iad none esh x i)⟩ :: rs) fr S log K := by
 refine m9 (v := .ptr o ver (off + n.toNat * g6 esh)) ?_ rfl h
 simp only [opV, e, e1, b9Y]
 rw [if_pos ⟨trivial, hn.1, hn.2⟩]; rfl
theorem a9h {d a sh rs} {K : Fr -> List Ob -> List LE -> Prop} {o ver p n fo} {l : List α} {y : α} {v v' : AV} (he : Enc f esh) (e : ev (Fr.get fr) a = .ptr o ver p) (ho : hp S o = .arr ver (flat f l)) (hp : p = n * g6 esh + fo) (hy : l[n]? = some y)
  (hv : a1y sh (f y).cells fo = some v) (hw : AVw v v') (h : VTops P ow rs ((d, v') :: fr) S (.acc [o] none :: log) K) : VTops P ow (⟨some d, none, .op (.load sh a)⟩ :: rs) fr S log K := by
 obtain ⟨a', b, h1, h2, _⟩ := he.at hy
 refine z9 (v := v) (rd := [o]) (δ := none) ?_ hw rfl h
 simp only [opV, e, b2l]
 rw [show a0K S o ver = some (flat f l) by simp [a0K, ho]]
 simp only [Option.bind_some]
 rw [hp, <- h2, h1, a8m hv]; rfl
theorem b3z {a x nn rs} {K : Fr -> List Ob -> List LE -> Prop} {o ver p n fo} {l : List α} {y y' : α} {S' : List Ob} {xv : AV} (he : Enc f esh) (e : ev (Fr.get fr) a = .ptr o ver p) (ex : ev (Fr.get fr) x = xv) (ho : hp S o = .arr ver (flat f l)) (hp : p = n * g6 esh + fo) (hy : l[n]? = some y)
  (hx : xv.cells.length = nn) (h1 : xv.cells.all AV.one = true) (hfit : fo + nn <= g6 esh) (hy' : (f y').cells = splice (f y).cells fo xv.cells) (hS : s9 S o (.arr ver (flat f (l.set n y'))) = S')
  (h : VTops P ow rs fr S' (.acc [o] (some o) :: log) K) : VTops P ow (⟨none, none, .op (.store nn a x)⟩ :: rs) fr S log K := by
 obtain ⟨a', b, q1, q2, q3⟩ := he.at hy
 have hn : n < l.length := (List.getElem?_eq_some_iff.1 hy).1
 refine b6A (v := .tup []) (rd := []) (δ := some (o, .arr ver (flat f (l.set n y')))) ?_ hS h
 simp only [opV, e, ex, a9b]
 rw [show a0K S o ver = some (flat f l) by simp [a0K, ho]]
 simp only [Option.bind_some]
 have hl := he.length l
 have hle : n * g6 esh + g6 esh <= l.length * g6 esh := by rw [<- Nat.succ_mul]; exact Nat.mul_le_mul_right _ hn
 rw [if_pos ⟨hx, by omega, h1⟩]
 have e3 : splice (flat f l) p xv.cells = flat f (l.set n y') := by
  have hsz := he.sz y
  have : flat f (l.set n y') = a' ++ (f y').cells ++ b := by
   obtain ⟨a2, b2, r1, r2, _⟩ := he.at (l := l.set n y') (n := n) (y := y') (by simp [hn])
   have e4 : a2 = a' := by
    have t1 : (flat f (l.set n y')).take (n * g6 esh) = a2 := by rw [r1, List.append_assoc, List.take_left' r2]
    have t2 : (flat f l).take (n * g6 esh) = a' := by rw [q1, List.append_assoc, List.take_left' q2]
    rw [<- t1, <- t2, he.take, he.take]
    congr 1
    exact List.take_set_of_le zO
   have e5 : b2 = b := by
    have t1 : (flat f (l.set n y')).drop ((n + 1) * g6 esh) = b2 := by rw [r1, List.drop_left' (by rw [List.length_append, r2, he.sz, Nat.add_mul]; omega)]
    have t2 : (flat f l).drop ((n + 1) * g6 esh) = b := by rw [q1, List.drop_left' (by rw [List.length_append, q2, he.sz, Nat.add_mul]; omega)]
    rw [<- t1, <- t2, he.drop, he.drop]
    congr 1
    exact List.drop_set_of_lt zO
   rw [r1, e4, e5]
  rw [this, hy', hp, <- q2, q1]
  exact a6K _ zO
 rw [e3]
theorem c0n {d bytes s x rs} {K : Fr -> List Ob -> List LE -> Prop} {o ver : Nat} {l m : List α} {rdx : List Nat} {S' : List Ob} (he : Enc f esh) (e : ev (Fr.get fr) s = .ref o ver 0 l.length esh) (e2 : b0e esh (ev (Fr.get fr) x) S = some (m.length, flat f m, rdx))
  (ho : hp S o = .arr ver (flat f l)) (hb : (l.length + m.length) * bytes <= 140737488355328 /\ l.length + m.length <= 140737488355328) (hS : s9 S o (.arr (ver + 1) (flat f (l ++ m))) = S')
  (h : VTops P ow rs ((d, .ref o (ver + 1) 0 (l ++ m).length esh) :: fr) S' (.acc (o :: o :: rdx) (some o) :: log) K) : VTops P ow (⟨some d, none, .op (.app esh bytes s x)⟩ :: rs) fr S log K := by
 refine a2e (v := .ref o (ver + 1) 0 (l ++ m).length esh) (rd := o :: rdx) (δ := some (o, .arr (ver + 1) (flat f (l ++ m)))) ?_ rfl hS h
 simp only [opV, b4U, e, e2, Option.bind_some, he.all, if_true]
 rw [if_pos ⟨trivial, hb.1, hb.2⟩]
 have e3 : (flat f l).take (l.length * g6 esh) = flat f l := List.take_of_length_le (by rw [he.length]; exact Nat.le_refl _)
 simp only [a0K, ho, if_true, Option.map_some, List.drop_zero, e3, <- a0t, List.length_append]
theorem a2z {ex} (m : List α) : b0e esh (.sl ex (g6 esh) (m.map f)) S = some (m.length, flat f m, []) := by
 simp only [b0e, if_true, List.length_map, a9g]
theorem b3A (he : Enc f esh) {o ver} {m : List α} (ho : hp S o = .arr ver (flat f m)) : b0e esh (.ref o ver 0 m.length esh) S = some (m.length, flat f m, [o]) := by
 have e3 : (flat f m).take (m.length * g6 esh) = flat f m := List.take_of_length_le (by rw [he.length]; exact Nat.le_refl _)
 simp only [b0e, if_true, a0K, ho, Option.map_some, List.drop_zero, e3]
theorem b3B {d bytes s x rs} {K : Fr -> List Ob -> List LE -> Prop} {l m : List α} {rdx : List Nat} (he : Enc f esh) (how : ow.contains d = false) (e : (ev (Fr.get fr) s = .nils /\ l = []) \/ ev (Fr.get fr) s = .sl true (g6 esh) (l.map f)) (e2 : b0e esh (ev (Fr.get fr) x) S = some (m.length, flat f m, rdx))
  (hb : (l.length + m.length) * bytes <= 140737488355328 /\ l.length + m.length <= 140737488355328)
  (h : VTops P ow rs ((d, .sl false (g6 esh) ((l ++ m).map f)) :: fr) S (.acc rdx none :: log) K) : VTops P ow (⟨some d, none, .op (.app esh bytes s x)⟩ :: rs) fr S log K := by
 have how' : d ∉ ow := by simpa using how
 by_cases hm : m = []
 ·subst hm
  rcases e with ⟨e, rfl⟩ | e
  ·refine z9 (v := .nils) (rd := rdx) (δ := none) ?_ (by simpa using AVw.nil) rfl h
   simp [opV, b4U, e, e2, b1n, how']
  ·refine z9 (v := .sl true (g6 esh) (l.map f)) (rd := rdx) (δ := none) ?_ (by simpa using AVw.ex) rfl h
   simp [opV, b4U, e, e2, b1n, how']
 ·have hm0 : m.length ≠ 0 := fun h => hm (List.eq_nil_of_length_eq_zero h)
  refine a2e (v := .sl false (g6 esh) ((l ++ m).map f)) (rd := rdx) (δ := none) ?_ rfl rfl h
  have hl := he.length (l ++ m)
  have hel := he.elems (l ++ m)
  have hal := he.all (l ++ m)
  rw [List.length_append] at hl hel
  rcases e with ⟨e, rfl⟩ | e
  ·simp only [List.nil_append, List.length_nil, Nat.zero_add] at *
   simp only [opV, b4U, e, e2, Option.bind_some, he.all, if_true, if_neg hm0]
   rw [if_pos hb]
   simp [a5g, a7w, he.all, how', hl, hel]
  ·simp only [opV, b4U, e, e2, Option.bind_some, he.all, if_true, if_neg hm0, List.length_map]
   rw [if_pos ⟨trivial, trivial, hb.1, hb.2⟩]
   simp only [a9g, <- a0t, a5g, a7w, how]
   rw [if_pos ⟨by omega, hal⟩]
   simp only [Bool.false_eq_true, if_false, Option.map_some, hel]
theorem b6C {d x lo hi rs} {K : Fr -> List Ob -> List LE -> Prop} {ex} {l : List α} {a b : Nat} (e : ev (Fr.get fr) x = .sl ex (g6 esh) (l.map f)) (h1 : loN (evO (Fr.get fr) lo) = some a) (h2 : hiN l.length (evO (Fr.get fr) hi) = some b) (hab : a <= b /\ b <= l.length)
  (h : VTops P ow rs ((d, .sl false (g6 esh) (((l.take b).drop a).map f)) :: fr) S (.acc [] none :: log) K) : VTops P ow (⟨some d, none, .op (.slc esh x lo hi none)⟩ :: rs) fr S log K := by
 refine m9 (v := .sl false (g6 esh) (((l.take b).drop a).map f)) ?_ rfl h
 simp only [opV, e, b9Z, h1, List.length_map, h2]
 rw [if_pos ⟨trivial, hab.1, hab.2⟩]
 rw [List.map_drop, List.map_take]; rfl
theorem a7D {d x lo hi rs} {K : Fr -> List Ob -> List LE -> Prop} {o ver off n a b : Nat} (e : ev (Fr.get fr) x = .ref o ver off n esh) (h1 : loN (evO (Fr.get fr) lo) = some a) (h2 : hiN n (evO (Fr.get fr) hi) = some b) (hab : a <= b /\ b <= n /\ (a = 0 \/ a < b))
  (h : VTops P ow rs ((d, .ref o ver (off + a * g6 esh) (b - a) esh) :: fr) S (.acc [] none :: log) K) : VTops P ow (⟨some d, none, .op (.slc esh x lo hi none)⟩ :: rs) fr S log K := by
 refine m9 (v := .ref o ver (off + a * g6 esh) (b - a) esh) ?_ rfl h
 simp only [opV, e, b9Z, h1, h2]
 rw [if_pos ⟨trivial, hab.1, hab.2.1, hab.2.2⟩]; rfl
theorem c0o {d} {bytes : Nat} {z l c rs} {K : Fr -> List Ob -> List LE -> Prop} {k k' n n'} {S' : List Ob} {x : α} (he : Enc f esh) (how : ow.contains d = true) (e : ev (Fr.get fr) l = .int k n) (e1 : ev (Fr.get fr) c = .int k' n') (hz : (f x).cells = z) (hn : 0 <= n /\ n <= n' /\ n' * bytes <= 281474976710656 /\ n' <= 281474976710656)
  (hS : s9 S S.length (.arr 0 (flat f (List.replicate n.toNat x))) = S')
  (h : VTops P ow rs ((d, .ref S.length 0 0 n.toNat esh) :: fr) S' (.acc [S.length] (some S.length) :: log) K) : VTops P ow (⟨some d, none, .op (.mksl esh bytes z l c)⟩ :: rs) fr S log K := by
 refine a2e (v := .ref S.length 0 0 n.toNat esh) (rd := []) (δ := some (S.length, .arr 0 (flat f (List.replicate n.toNat x)))) ?_ rfl hS h
 simp only [opV, b7u, e, e1]
 rw [if_pos hn]
 subst hz
 have how' : d ∈ ow := by simpa using how
 simp [a5g, he.repl, he.all, he.length, how']
theorem a5V {d x rs} {K : Fr -> List Ob -> List LE -> Prop} {o ver off n e0} (e : ev (Fr.get fr) x = .ref o ver off n e0)
  (h : VTops P ow rs ((d, .int .i64 n) :: fr) S (.acc [] none :: log) K) : VTops P ow (⟨some d, none, .op (.len .sl x)⟩ :: rs) fr S log K := by
 refine m9 (v := .int .i64 n) ?_ rfl h
 simp [opV, e, c5e, pv]
end
end Go.Ab

namespace Go.Ab
open Go.RowKit
def avI (k : IntKind) (x : Int) : AV := .int k x
def avB (x : Bool) : AV := .bool x
def avS (x : ByteArray) : AV := .str x
def avL {α : Type} (sz : Nat) (f : α -> AV) (l : List α) : AV := .sl false sz (l.map f)
def avP {α : Type} (f : α -> AV) : Option α -> AV
 | none => .nilp
 | some x => .cptr (f x).cells 0
theorem j3 (k : IntKind) : Enc (avI k) none := ⟨fun _ => rfl, fun _ => rfl, fun _ => rfl, fun _ _ => rfl⟩
theorem b6D : Enc avB none := ⟨fun _ => rfl, fun _ => rfl, fun _ => rfl, fun _ _ => rfl⟩
theorem a5y {α : Type} {f : α -> AV} {esh : Option Nat} (he : Enc f esh) (sz : Nat) : Enc (avL sz f) none := ⟨fun _ => rfl, fun _ => rfl, fun _ => rfl, fun x n => he.blwm n x⟩
theorem b6E {α : Type} {f : α -> AV} {esh : Option Nat} (he : Enc f esh) : Enc (avP f) none :=
 ⟨fun x => by cases x <;> rfl, fun x => by cases x <;> rfl, fun x => by cases x <;> rfl, fun x n => by cases x with | none => rfl | some x => exact a3r (he.blw x n)⟩

def a6p (s : ByteArray) (i : Int) : Option Int := if 0 <= i /\ i < s.size then some ((s[i.toNat]?.getD 0).toNat : Int) else none
def b2r {α : Type} (l : List α) (lo hi : Int) : Option (List α) := if 0 <= lo /\ lo <= hi /\ hi <= l.length then some ((l.take hi.toNat).drop lo.toNat) else none
def a8F {α : Type} (bytes : Nat) (l m : List α) : Option (List α) := if (l.length + m.length) * bytes <= 140737488355328 /\ l.length + m.length <= 140737488355328 then some (l ++ m) else none
def mkL {α : Type} (bytes : Nat) (n n' : Int) (x : α) : Option (List α) := if 0 <= n /\ n <= n' /\ n' * bytes <= 281474976710656 /\ n' <= 281474976710656 then some (List.replicate n.toNat x) else none
def setL {α : Type} (l : List α) (i : Int) (x : α) : Option (List α) := if 0 <= i /\ i < l.length then some (l.set i.toNat x) else none
theorem b3C {s i v} (h : a6p s i = some v) : (0 <= i /\ i < s.size) /\ v = ((s[i.toNat]?.getD 0).toNat : Int) := by
 unfold a6p at h; split at h
 ·cases h; exact ⟨by assumption, rfl⟩
 ·cases h
theorem a6L {α : Type} {l : List α} {lo hi v} (h : b2r l lo hi = some v) : (0 <= lo /\ lo <= hi /\ hi <= l.length) /\ v = (l.take hi.toNat).drop lo.toNat := by
 unfold b2r at h; split at h
 ·cases h; exact ⟨by assumption, rfl⟩
 ·cases h
theorem b3D {α : Type} {bytes} {l m v : List α} (h : a8F bytes l m = some v) : ((l.length + m.length) * bytes <= 140737488355328 /\ l.length + m.length <= 140737488355328) /\ v = l ++ m := by
 unfold a8F at h; split at h
 ·cases h; exact ⟨by assumption, rfl⟩
 ·cases h
theorem a5j {α : Type} {bytes n n'} {x : α} {v} (h : mkL bytes n n' x = some v) : (0 <= n /\ n <= n' /\ n' * bytes <= 281474976710656 /\ n' <= 281474976710656) /\ v = List.replicate n.toNat x := by
 unfold mkL at h; split at h
 ·cases h; exact ⟨by assumption, rfl⟩
 ·cases h
theorem a0A {α : Type} {l : List α} {i : Nat} {y : α} (h : l[i]? = some y) : m0 l (i : Int) = some y := by
 unfold m0; rw [if_pos zO]; simpa using h
theorem a4i {k n len} (h : 0 <= n) : hiN len (some (.int k n)) = some n.toNat := by simp [hiN, h]

section
variable {P : Program} {S0 : List Ob} {ow : List Nat} {fr : Fr} {S : List Ob} {log : List LE} {α : Type} {f : α -> AV} {esh : Option Nat}
theorem c0p {d x i rs} {K : Fr -> List Ob -> List LE -> Prop} {s k n v} (e : ev (Fr.get fr) x = .str s) (e1 : ev (Fr.get fr) i = .int k n) (hv : a6p s n = some v)
  (h : VTops P ow rs ((d, .int .u8 v) :: fr) S (.acc [] none :: log) K) : VTops P ow (⟨some d, none, .op (.idxs x i)⟩ :: rs) fr S log K := by
 obtain ⟨h1, rfl⟩ := b3C hv
 refine m9 (v := .int .u8 ((s[n.toNat]?.getD 0).toNat : Int)) ?_ rfl h
 simp only [opV, e, e1, b7t]
 rw [if_pos h1]; rfl
theorem b6F {d x lo hi rs} {K : Fr -> List Ob -> List LE -> Prop} {ex} {l v : List α} {a b : Int} (e : ev (Fr.get fr) x = .sl ex (g6 esh) (l.map f)) (h1 : 0 <= a -> loN (evO (Fr.get fr) lo) = some a.toNat) (h2 : 0 <= b -> hiN l.length (evO (Fr.get fr) hi) = some b.toNat) (hv : b2r l a b = some v)
  (h : VTops P ow rs ((d, .sl false (g6 esh) (v.map f)) :: fr) S (.acc [] none :: log) K) : VTops P ow (⟨some d, none, .op (.slc esh x lo hi none)⟩ :: rs) fr S log K := by
 obtain ⟨h3, rfl⟩ := a6L hv
 exact b6C e (h1 h3.1) (h2 zO) zO h
def awF (fr : Fr) : Fr -> Prop
 | [] => True
 | (t, v) :: r => AVw (Fr.get fr t) v /\ awF fr r
theorem b3E {fr : Fr} : ∀ {fr' : Fr}, awF fr fr' -> ∀ t, AVw (Fr.get fr t) (Fr.get fr' t)
 | [], _, t => .junk _
 | (t', v) :: r, h, t => by
   rw [get_cons]
   split
   ·rename_i e; subst e; exact h.1
   ·exact b3E h.2 t
theorem c0q {fr' : Fr} (h : awF fr fr') : Wk S0 fr S fr' S := GWk.refl.wk (b3E h)
end

section
variable {M : b4V} {S S' : List Ob}
theorem m6 {o ver off o' ver' off' k cs cs'} (h1 : a5x M o' = some (o, k)) (h2 : hp S o = .arr ver cs) (h3 : hp S' o' = .arr ver' cs') (e : off = k + off') : RnV (wkR M S S') (.ptr o ver off) (.ptr o' ver' off') := .ptr ⟨k, cs, cs', h1, h2, h3, e⟩
theorem k8 {α : Type} {f : α -> AV} {e : Option Nat} (he : Enc f e) {o ver o' ver'} {l : List α} (h1 : a5x M o' = some (o, 0)) (h2 : hp S o = .arr ver (flat f l)) (h3 : hp S' o' = .arr ver' (flat f l)) : RnV (wkR M S S') (.ref o ver 0 l.length e) (.ref o' ver' 0 l.length e) :=
 .ref ⟨0, _, _, h1, h2, h3, rfl, by rw [he.length]; omega⟩
theorem a9i {o' ver' e cs'} (h3 : hp S' o' = .arr ver' cs') : RnV (wkR M S S') .nils (.ref o' ver' 0 0 e) := .nil ⟨cs', h3⟩
theorem l7 {R : Rn} {x : AV} (h : x.blw 0 = true) : RnV R x x := .base h (.refl _)
theorem a1k {S0 : List Ob} {o' o k v' cs' v cs} (h1 : a5x M o' = some (o, k)) (h2 : hp S o = .arr v cs) (h3 : RnL (wkR M S S') k cs cs') (h4 : Nat.ble S0.length o' = true) : b4W M S0 S S' o' (.arr v' cs') := by
 have h4 := Nat.le_of_ble_eq_true h4
 show match a5x M o' with | some (o, k) => _ | none => _
 rw [h1]
 exact ⟨v, cs, h2, h3, fun h => by omega⟩
theorem d8 {S0 : List Ob} {o' v cs' cs} (h1 : a5x M o' = some (o', 0)) (h2 : hp S o' = .arr v cs) (h3 : RnL (wkR M S S') 0 cs cs') (h4 : cs'.length = cs.length) : b4W M S0 S S' o' (.arr v cs') := by
 show match a5x M o' with | some (o, k) => _ | none => _
 rw [h1]
 exact ⟨v, cs, h2, h3, fun _ => .inl ⟨rfl, .inr ⟨rfl, rfl, h4⟩⟩⟩
theorem a5W {S0 : List Ob} {o' o k v' cs' v cs v0 c0} (h1 : a5x M o' = some (o, k)) (h2 : hp S o = .arr v cs) (h3 : RnL (wkR M S S') k cs cs') (h0 : hp S0 o' = .arr v0 c0) (hv : Nat.blt v0 v' = true) : b4W M S0 S S' o' (.arr v' cs') := by
 show match a5x M o' with | some (o, k) => _ | none => _
 rw [h1]
 exact ⟨v, cs, h2, h3, fun _ => .inr ⟨v0, c0, h0, by simpa [Nat.blt_eq] using hv⟩⟩
theorem a7E {S0 : List Ob} {o' v' cs'} (h1 : a5x M o' = none) (h : cs' = []) (h4 : Nat.ble S0.length o' = true) : b4W M S0 S S' o' (.arr v' cs') := by
 have h4 := Nat.le_of_ble_eq_true h4
 show match a5x M o' with | some (o, k) => _ | none => _
 rw [h1]
 exact ⟨h, h4⟩
end

section
variable {k0 k : Nat} {S : List Ob}
theorem a7k {x y : AV} (hb : x.blw k0 = true) (h : AVw x y) : AVw (frz k0 S k x) y := by rw [b3w hb]; exact h
def fzL (k0 k : Nat) (S : List Ob) : List AV -> List AV -> Prop
 | [], [] => True
 | x :: xs, y :: ys => AVw (frz k0 S k x) y /\ fzL k0 k S xs ys
 | _, _ => False
theorem b3F : ∀ {xs ys : List AV}, fzL k0 k S xs ys -> awL (xs.map (frz k0 S k)) ys
 | [], [], _ => trivial
 | _ :: _, _ :: _, h => ⟨h.1, b3F h.2⟩
theorem a0T {xs ys : List AV} (h : fzL k0 k S xs ys) : AVw (frz k0 S (k + 1) (.tup xs)) (.tup ys) := by
 have h1 := b3F h
 simp only [frz]
 split
 ·rename_i hb
  have hb' : a2v k0 xs = true := hb
  rw [a8k hb'] at h1
  exact .tupL h1
 ·exact .tupL h1
theorem b1o {α : Type} {f : α -> AV} {esh : Option Nat} (he : Enc f esh) {o ver} {l : List α} (h0 : k0 <= o) (ho : hp S o = .arr ver (flat f l)) : AVw (frz k0 S (k + 1) (.ref o ver 0 l.length esh)) (.sl false (g6 esh) (l.map f)) := by
 have hb : (AV.ref o ver 0 l.length esh).blw k0 = false := by simp [AV.blw]; omega
 have hm : (flat f l).map (frz k0 S k) = flat f l := a8k (he.blwf k0 l)
 simp only [frz, hb, ho, Bool.false_eq_true, if_false, hm, List.drop_zero]
 rw [if_pos ⟨trivial, by rw [he.length]; omega, he.all l⟩, he.elems]
 exact .refl _
end
end Go.Ab

namespace Go.Ab
open Go.RowKit
def oc {σ β : Type} (f : σ -> Option β) : Out σ (Option β) -> Option β
 | .fin s => f s
 | .ret v => v
section
variable {P : Program} {S0 : List Ob} {ow : List Nat} {fr : Fr} {S : List Ob} {σ β : Type} {nx bk : Nat -> Bool} {F : σ -> Fr} {T : σ -> List Ob} {Fx : σ -> Fr} {Tx : σ -> List Ob} {f : σ -> Option β} {r : β} {K : Post}
theorem a2A {v : Option β} {c : Stp σ (Option β)} (e : c = .ret v) (h : v = some r -> K .ret fr S) : a6I S0 nx bk F T Fx Tx (oc f) r K c .ret fr S := c9K e h
theorem a5k {a : FC} {id : Nat} {body : σ -> Option (Stp σ (Option β))} {n : Nat} {s0 : σ} (F : σ -> Fr) (T : σ -> List Ob) (h : (whileN body n s0).bind (oc f) = some r)
  (hw : Wk S0 fr S (F s0) (T s0))
  (hb : ∀ s c, body s = some c -> VT P S0 ow a (F s) (T s) (a6I S0 (fun _ => false) (fun j => j == id) F T F T (oc f) r K c))
  (hx : ∀ s fr' S', f s = some r -> Wk S0 fr' S' (F s) (T s) -> K .normal fr' S') : VT P S0 ow (.block id (.loop a)) fr S K := b7M body F T h hw hb hx
theorem a5X {tc ti tn tj id id2 : Nat} {B : FC} {body : Nat -> σ -> Option (Stp σ (Option β))} {n : Int} {s0 : σ} (F : σ -> Fr) (T : σ -> List Ob) (h : (rni body n s0).bind (oc f) = some r)
  (h1 : ti ≠ tn) (h2 : tj ≠ tn) (hF : ∀ s, Fr.get (F s) tj = .junk /\ Fr.get (F s) ti = .junk /\ Fr.get (F s) tn = .junk /\ Fr.get (F s) tc = .junk)
  (hw : Wk S0 fr S ((ti, .int .i64 0) :: (tn, .int .i64 n) :: F s0) (T s0))
  (hb : ∀ (i : Nat) s c, (i : Int) < n -> body i s = some c -> VT P S0 ow B ((tc, .bool true) :: (ti, .int .i64 i) :: (tn, .int .i64 n) :: F s) (T s)
   (a6I S0 (fun j => j == id2) (fun j => j == id) (fun s => (ti, .int .i64 i) :: (tn, .int .i64 n) :: F s) T F T (oc f) r K c))
  (hx : ∀ s fr' S', f s = some r -> Wk S0 fr' S' (F s) (T s) -> K .normal fr' S') :
  VT P S0 ow (.block id (.loop (.seq (.reg [⟨some tc, none, .op (.bin .none .lss (.t ti) (.t tn))⟩] []) (.seq (.cond (.t tc) .skip (.exit id)) (.seq (.block id2 B) (.reg [⟨some tj, none, .op (.bin .none .add (.t ti) (.v (.int .i64 1)))⟩, ⟨some ti, none, .op (.mv (.t tj))⟩] [])))))) fr S K := c0m body F T h h1 h2 hF hw hb hx
theorem a1a {α : Type} {tc ti tn tj id id2 : Nat} {B : FC} {body : Nat -> α -> σ -> Option (Stp σ (Option β))} {xs : List α} {s0 : σ} (F : σ -> Fr) (T : σ -> List Ob) (h : (rng body xs s0).bind (oc f) = some r)
  (h1 : ti ≠ tn) (h2 : tj ≠ tn) (hF : ∀ s, Fr.get (F s) tj = .junk /\ Fr.get (F s) ti = .junk /\ Fr.get (F s) tn = .junk /\ Fr.get (F s) tc = .junk)
  (hw : Wk S0 fr S ((ti, .int .i64 0) :: (tn, .int .i64 xs.length) :: F s0) (T s0))
  (hb : ∀ (i : Nat) x s c, xs[i]? = some x -> i < xs.length -> body i x s = some c -> VT P S0 ow B ((tc, .bool true) :: (ti, .int .i64 i) :: (tn, .int .i64 xs.length) :: F s) (T s)
   (a6I S0 (fun j => j == id2) (fun j => j == id) (fun s => (ti, .int .i64 i) :: (tn, .int .i64 xs.length) :: F s) T F T (oc f) r K c))
  (hx : ∀ s fr' S', f s = some r -> Wk S0 fr' S' (F s) (T s) -> K .normal fr' S') :
  VT P S0 ow (.block id (.loop (.seq (.reg [⟨some tc, none, .op (.bin .none .lss (.t ti) (.t tn))⟩] []) (.seq (.cond (.t tc) .skip (.exit id)) (.seq (.block id2 B) (.reg [⟨some tj, none, .op (.bin .none .add (.t ti) (.v (.int .i64 1)))⟩, ⟨some ti, none, .op (.mv (.t tj))⟩] [])))))) fr S K := c5F body F T h h1 h2 hF hw hb hx
theorem a4S {b} {K K0 : Post} {fr' : Fr} {S' : List Ob} {F' : Fr} {T' : List Ob} (hw : Wk S0 fr' S' F' T') (h : VT P S0 ow b F' T' K) : Post.thn (fun fr' S' => ∃ F T, Wk S0 fr' S' F T /\ VT P S0 ow b F T K) K0 .normal fr' S' := a1q hw h
theorem c9L {k' : σ -> Option β} {K0 : Post} {fr' : Fr} {S' : List Ob} {F' : Fr} {T' : List Ob} (s : σ) (h : k' s = some r) (hw : Wk S0 fr' S' F' T') (hw2 : Wk S0 F' T' (F s) (T s)) : Post.thn (fun fr' S' => ∃ s, k' s = some r /\ Wk S0 fr' S' (F s) (T s)) K0 .normal fr' S' := ⟨s, h, a8i hw hw2⟩
theorem c0r {k : Out σ (Option β) -> Option β} {c : Stp σ (Option β)} {fr' : Fr} {S' : List Ob} {F' : Fr} {T' : List Ob} {s : σ} (e : c = .nxt s) (hw : Wk S0 fr' S' F' T') (hw2 : Wk S0 F' T' (F s) (T s)) : a6I S0 nx bk F T Fx Tx k r K c .normal fr' S' := a3u e (a8i hw hw2)
end
theorem aM {P : Program} {ow : List Nat} {fr : Fr} {S : List Ob} {log : List LE} {d x rs} {K : Fr → List Ob → List LE → Prop} {v'} (h : VTops P ow rs ((d, v') :: fr) S (.acc [] none :: log) K) (e2 : ev (Fr.get fr) x = v' := by conv => lhs; whnf) : VTops P ow (⟨some d, none, .op (.mv x)⟩ :: rs) fr S log K := a1j e2 h
theorem oM {P : Program} {ow : List Nat} {fr : Fr} {S : List Ob} {log : List LE} {d x rs} {K : Fr → List Ob → List LE → Prop} (v') (h : VTops P ow rs ((d, v') :: fr) S (.acc [] none :: log) K) (e2 : ev (Fr.get fr) x = v' := by exact rfl) : VTops P ow (⟨some d, none, .op (.mv x)⟩ :: rs) fr S log K := a1j e2 h
theorem aO {P : Program} {ow : List Nat} {fr : Fr} {S : List Ob} {log : List LE} {d r rs} {K : Fr → List Ob → List LE → Prop} {v v'} (h : VTops P ow rs ((d, v') :: fr) S (.acc [] none :: log) K) (e : opV (ow.contains d) r (Fr.get fr) S = some (v, [], none) := by exact rfl) (e2 : v = v' := by conv => lhs; whnf) : VTops P ow (⟨some d, none, .op r⟩ :: rs) fr S log K := m9 e e2 h
theorem oP {P : Program} {ow : List Nat} {fr : Fr} {S : List Ob} {log : List LE} {d r rs} {K : Fr → List Ob → List LE → Prop} {v} (v') (h : VTops P ow rs ((d, v') :: fr) S (.acc [] none :: log) K) (e : opV (ow.contains d) r (Fr.get fr) S = some (v, [], none) := by exact rfl) (e2 : v = v' := by exact rfl) : VTops P ow (⟨some d, none, .op r⟩ :: rs) fr S log K := m9 e e2 h
theorem aR {P : Program} {ow : List Nat} {fr : Fr} {S : List Ob} {log : List LE} {d x rs} {K : Fr → List Ob → List LE → Prop} {o ver off e0} {n : Nat} (h : VTops P ow rs ((d, .int .i64 n) :: fr) S (.acc [] none :: log) K) (e : ev (Fr.get fr) x = .ref o ver off n e0 := by exact rfl) : VTops P ow (⟨some d, none, .op (.len .sl x)⟩ :: rs) fr S log K := a5V e h
theorem aL {P : Program} {ow : List Nat} {fr : Fr} {S : List Ob} {log : List LE} {d x rs} {K : Fr → List Ob → List LE → Prop} {ex sz} {α : Type} {f : α → AV} {ys : List α} (h : VTops P ow rs ((d, .int .i64 ys.length) :: fr) S (.acc [] none :: log) K) (e : ev (Fr.get fr) x = .sl ex sz (ys.map f) := by exact rfl) : VTops P ow (⟨some d, none, .op (.len .sl x)⟩ :: rs) fr S log K := t7 e h
theorem oH {P : Program} {ow : List Nat} {fr : Fr} {S : List Ob} {log : List LE} {d t want c rs} {K : Fr → List Ob → List LE → Prop} (h : VTops P ow (⟨d, none, c⟩ :: rs) fr S log K) (e : Fr.get fr t = .bool want := by exact rfl) : VTops P ow (⟨d, some (t, want), c⟩ :: rs) fr S log K := c9p e h
theorem oN {P : Program} {ow : List Nat} {fr : Fr} {S : List Ob} {log : List LE} {d t want c rs} {K : Fr → List Ob → List LE → Prop} (h : VTops P ow rs (a7i fr d (.tup [])) S (.acc [] none :: log) K) (e : Fr.get fr t = .bool (!want) := by exact rfl) : VTops P ow (⟨d, some (t, want), c⟩ :: rs) fr S log K := c9q e h
theorem oZ {P : Program} {ow : List Nat} {fr : Fr} {S : List Ob} {log : List LE} {d t want c rs} {K : Fr → List Ob → List LE → Prop} (h : VTops P ow rs (a7i fr d (.tup [])) S (.acc [] none :: log) K) (e : Fr.get fr t = .tup [] := by exact rfl) : VTops P ow (⟨d, some (t, want), c⟩ :: rs) fr S log K := c9r e h
theorem nB {a b : Nat} (h : Nat.ble a b = true := by exact rfl) : a ≤ b := Nat.le_of_ble_eq_true h
theorem wW {S0 : List Ob} {fr fr' : Fr} {S : List Ob} (h : awF fr fr' := by repeat (first | exact trivial | refine ⟨.refl _, ?_⟩)) : Wk S0 fr S fr' S := c0q h
theorem gqR {k0 k : Nat} {S : List Ob} {x : AV} (h : x.blw k0 = true := by exact rfl) : AVw (frz k0 S k x) x := a7k h (.refl _)
theorem nL {R} {cs : List AV} : RnL R 0 cs [] := .nil (Nat.zero_le _)
theorem cB {R} {x : AV} {xs ys : List AV} (h : x.blw 0 = true) (k : RnL R 0 xs ys) : RnL R 0 (x :: xs) (x :: ys) := .cons (l7 h) k
theorem aU {p q : Prop} (h : q) (e : q → p := by intro h; (repeat (first|refine aM ?_|refine aR ?_|refine aL ?_|refine aO ?_|refine b6 ?_|refine f5 ?_|refine a0z ?_|refine d9 ?_|refine b8 ?_|refine i7 ?_|refine oH ?_|refine oN ?_|refine oZ ?_)); exact h) : p := e h
theorem aS {p q : Prop} (h : q) (e : q → p := by intro h; (repeat (first|refine aM ?_|refine aR ?_|refine aL ?_|refine aO ?_)); exact h) : p := e h
end Go.Ab

/- The steps as the printed proofs use them. -/
namespace Go.Ab
open Go.RowKit

def c5G (n : Nat) : List AV -> Prop
 | [] => True
 | x :: r => x.blw n = true /\ c5G n r
theorem g9 {n : Nat} : ∀ {xs : List AV}, c5G n xs -> a2v n xs = true
 | [], _ => rfl
 | x :: r, h => by simp only [a2v, h.1, g9 h.2, Bool.and_self]
theorem Enc.blws {α : Type} {f : α -> AV} {esh : Option Nat} (he : Enc f esh) (n : Nat) {ex sz} {l : List α} : (AV.sl ex sz (l.map f)).blw n = true := he.blwm n l
theorem k7 {x : AV} {n off : Nat} (h : x.blw n = true) : (AV.cptr x.cells off).blw n = true := a3r h
theorem a6M {n : Nat} {xs : List AV} (h : c5G n xs) : (AV.tup xs).blw n = true := g9 h
def a0U (k : IntKind) (x y : Int) : Int := k.wrap (BitVec.ofInt k.bits x &&& BitVec.ofInt k.bits y).toNat
def a3I (k : IntKind) (x y : Int) : Int := k.wrap (BitVec.ofInt k.bits x ||| BitVec.ofInt k.bits y).toNat
def a1M (k : IntKind) (x y : Int) : Int := k.wrap (BitVec.ofInt k.bits x ^^^ BitVec.ofInt k.bits y).toNat
def a1r (k : IntKind) (x y : Int) : Int := k.wrap (BitVec.ofInt k.bits x &&& ~~~ BitVec.ofInt k.bits y).toNat
def shL (k : IntKind) (x y : Int) : Int := k.wrap (x * 2 ^ (min y.toNat k.bits))
def shR (k : IntKind) (x y : Int) : Int := x.fdiv (2 ^ (min y.toNat k.bits))

section
variable {P : Program} {S0 : List Ob} {ow : List Nat} {fr : Fr} {S : List Ob} {log : List LE} {α : Type} {f : α -> AV} {esh : Option Nat}
theorem b7N {d t x y rs} {K : Fr -> List Ob -> List LE -> Prop} {k a b} (e : ev (Fr.get fr) x = .int k a) (e1 : ev (Fr.get fr) y = .int k b) (hb : b ≠ 0)
  (h : VTops P ow rs ((d, .int k (k.wrap (a.tdiv b))) :: fr) S (.acc [] none :: log) K) : VTops P ow (⟨some d, none, .op (.bin t .quo x y)⟩ :: rs) fr S log K := by
 refine m9 (v := .int k (k.wrap (a.tdiv b))) ?_ rfl h
 simp [opV, e, e1, b6y, a4I, hb, pv]
theorem c0s {d t x y rs} {K : Fr -> List Ob -> List LE -> Prop} {k k' a b} (e : ev (Fr.get fr) x = .int k a) (e1 : ev (Fr.get fr) y = .int k' b) (hb : 0 <= b)
  (h : VTops P ow rs ((d, .int k (shL k a b)) :: fr) S (.acc [] none :: log) K) : VTops P ow (⟨some d, none, .op (.bin t .shl x y)⟩ :: rs) fr S log K := by
 refine m9 (v := .int k (shL k a b)) ?_ rfl h
 simp only [opV, e, e1, b6y, a9U]
 rw [if_neg zO]; rfl
theorem c5H {d t x y rs} {K : Fr -> List Ob -> List LE -> Prop} {k k' a b} (e : ev (Fr.get fr) x = .int k a) (e1 : ev (Fr.get fr) y = .int k' b) (hb : 0 <= b)
  (h : VTops P ow rs ((d, .int k (shR k a b)) :: fr) S (.acc [] none :: log) K) : VTops P ow (⟨some d, none, .op (.bin t .shr x y)⟩ :: rs) fr S log K := by
 refine m9 (v := .int k (shR k a b)) ?_ rfl h
 simp only [opV, e, e1, b6y, a9U]
 rw [if_neg zO]; rfl
theorem b2t {d} {bytes : Nat} {z l c rs} {K : Fr -> List Ob -> List LE -> Prop} {k k' n n'} {S' : List Ob} {x : α} {v : List α} (he : Enc f esh) (how : ow.contains d = true) (e : ev (Fr.get fr) l = .int k n) (e1 : ev (Fr.get fr) c = .int k' n') (hz : (f x).cells = z) (hv : mkL bytes n n' x = some v)
  (hS : s9 S S.length (.arr 0 (flat f v)) = S')
  (h : VTops P ow rs ((d, .ref S.length 0 0 v.length esh) :: fr) S' (.acc [S.length] (some S.length) :: log) K) : VTops P ow (⟨some d, none, .op (.mksl esh bytes z l c)⟩ :: rs) fr S log K := by
 obtain ⟨h1, rfl⟩ := a5j hv
 rw [List.length_replicate] at h
 exact c0o he how e e1 hz h1 hS h
theorem a8n {d bytes s x rs} {K : Fr -> List Ob -> List LE -> Prop} {o ver : Nat} {l m v : List α} {rdx : List Nat} {S' : List Ob} (he : Enc f esh) (e : ev (Fr.get fr) s = .ref o ver 0 l.length esh) (e2 : b0e esh (ev (Fr.get fr) x) S = some (m.length, flat f m, rdx))
  (ho : hp S o = .arr ver (flat f l)) (hv : a8F bytes l m = some v) (hS : s9 S o (.arr (ver + 1) (flat f v)) = S')
  (h : VTops P ow rs ((d, .ref o (ver + 1) 0 v.length esh) :: fr) S' (.acc (o :: o :: rdx) (some o) :: log) K) : VTops P ow (⟨some d, none, .op (.app esh bytes s x)⟩ :: rs) fr S log K := by
 obtain ⟨h1, rfl⟩ := b3D hv
 exact c0n he e e2 ho h1 hS h
theorem c0t {d x hi rs} {K : Fr -> List Ob -> List LE -> Prop} {o ver k} {l v : List α} {b : Int} (e : ev (Fr.get fr) x = .ref o ver 0 l.length esh) (e1 : ev (Fr.get fr) hi = .int k b) (hv : b2r l 0 b = some v)
  (h : VTops P ow rs ((d, .ref o ver (0 + 0 * g6 esh) b.toNat esh) :: fr) S (.acc [] none :: log) K) : VTops P ow (⟨some d, none, .op (.slc esh x none (some hi) none)⟩ :: rs) fr S log K := by
 obtain ⟨h1, _⟩ := a6L hv
 exact a7D (a := 0) (b := b.toNat) e rfl (by rw [b5t, e1]; exact a4i zO) zO h
theorem j4 {d f args rs} {K : Fr -> List Ob -> List LE -> Prop} {as as' v} (c : PureEv P f as v) (e : evL (Fr.get fr) args = as') (hw : awL as' as) (h1 : a2v 0 as' = true) (h2 : v.blw 0 = true) (h : VTops P ow rs ((d, v) :: fr) S (.acc [] none :: log) K) :
  VTops P ow (⟨some d, none, .call f args⟩ :: rs) fr S log K :=
 a4b (c.weaka (a4R hw) (a5G hw)) e h1 h2 h
theorem b5C {d f x args rs} {K : Fr -> List Ob -> List LE -> Prop} {as as' first caps v} (e : ev (Fr.get fr) x = .fn (.func f) first caps) (hc : a0Z P f = true) (c : PureEv P f as v) (e' : first ++ evL (Fr.get fr) args ++ caps = as') (hw : awL as' as) (h1 : a2v 0 as' = true) (h2 : v.blw 0 = true) (h : VTops P ow rs ((d, v) :: fr) S (.acc [] none :: log) K) :
  VTops P ow (⟨some d, none, .callv x args⟩ :: rs) fr S log K :=
 b7E e hc (c.weaka (a4R hw) (a5G hw)) e' h1 h2 h
end

section
variable {M : b4V} {m : Nat} {S S' : List Ob} {α : Type} {f : α -> AV} {e : Option Nat}
end
theorem rB {R : Rn} {x : AV} (h : x.blw 0 = true := by exact rfl) : RnV R x x := l7 h
theorem eBi {l : List Int} {n : Nat} {ex sz} : (AV.sl ex sz (List.map (avI .i64) l)).blw n = true := (j3 .i64).blws n
end Go.Ab

/- Objects of the caller: the terms of the frame rule; freezing between two statements. -/
namespace Go.Ab
open Go.RowKit

section
variable {M : List Nat} {T T' S S' : List Ob} {α : Type} {f : α -> AV} {e : Option Nat}
theorem w9 {o v O V off CS cs} (h1 : Nat.blt o T.length = true) (h2 : M.getD o 0 = O) (h3 : hp S O = .arr V CS) (h4 : hp T o = .arr v cs) : RnV (frI M T S) (.ptr O V off) (.ptr o v off) :=
 .ptr ⟨by simpa [Nat.blt_eq] using h1, h2, ⟨_, h3⟩, ⟨_, h4⟩, rfl⟩
theorem a4J {o v O V off n CS cs} (h1 : Nat.blt o T.length = true) (h2 : M.getD o 0 = O) (h3 : hp S O = .arr V CS) (h4 : hp T o = .arr v cs) : RnV (frI M T S) (.ref O V off n e) (.ref o v off n e) :=
 .ref ⟨by simpa [Nat.blt_eq] using h1, h2, ⟨_, h3⟩, ⟨_, h4⟩, rfl⟩
theorem b6G {o v O V off CS cs} (h1 : Nat.blt o T'.length = true) (h2 : frN M T S o = O) (h3 : hp T' o = .arr v cs) (h4 : hp S' O = .arr V CS) : RnV (frO M T T' S S') (.ptr o v off) (.ptr O V off) :=
 .ptr ⟨by simpa [Nat.blt_eq] using h1, h2, ⟨_, h3⟩, ⟨_, h4⟩, rfl⟩
theorem a5Y {o v O V off n CS cs} (h1 : Nat.blt o T'.length = true) (h2 : frN M T S o = O) (h3 : hp T' o = .arr v cs) (h4 : hp S' O = .arr V CS) : RnV (frO M T T' S S') (.ref o v off n e) (.ref O V off n e) :=
 .ref ⟨by simpa [Nat.blt_eq] using h1, h2, ⟨_, h3⟩, ⟨_, h4⟩, rfl⟩
theorem a0p {o v cs V CS} (h : hp S (M.getD o 0) = .arr V CS) (hl : CS.length = cs.length) (hr : RnL (frI M T S) 0 CS cs) : FrIn M T S o (.arr v cs) := ⟨v, cs, V, CS, rfl, h, hl, hr⟩
theorem b1p {o v' cs' V' CS' V CS} (h : hp S' (frN M T S o) = .arr V' CS') (hl : CS'.length = cs'.length) (hr : RnL (frO M T T' S S') 0 cs' CS') (hs : hp S (M.getD o 0) = .arr V CS) (hv : Nat.blt V V' = true) : b2n M T T' S S' o (.arr v' cs') :=
 ⟨V', CS', h, hl, hr, fun _ v cs V2 CS2 _ h2 => by rw [hs] at h2; cases h2; exact .inr (by simpa [Nat.blt_eq] using hv)⟩
theorem m5 {o v cs0 cs' V CS' CS} (h : hp S' (frN M T S o) = .arr V CS') (hl : CS'.length = cs'.length) (hr : RnL (frO M T T' S S') 0 cs' CS') (hs : hp S (M.getD o 0) = .arr V CS) (ht : hp T o = .arr v cs0) : b2n M T T' S S' o (.arr v cs') :=
 ⟨V, CS', h, hl, hr, fun _ v2 cs2 V2 CS2 h1 h2 => by rw [hs] at h2; rw [ht] at h1; cases h2; cases h1; exact .inl ⟨rfl, rfl⟩⟩
theorem fr_outN {o v' cs' V' CS'} (h : hp S' (frN M T S o) = .arr V' CS') (hl : CS'.length = cs'.length) (hr : RnL (frO M T T' S S') 0 cs' CS') (hn : Nat.ble T.length o = true) : b2n M T T' S S' o (.arr v' cs') :=
 ⟨V', CS', h, hl, hr, fun ho => by have := Nat.le_of_ble_eq_true hn; omega⟩
end

def c5j (M : List Nat) : Nat -> List Ob -> List Ob -> Prop
 | _, [], _ => True
 | i, x :: xs, y :: ys => (M.contains i = true \/ y = x) /\ c5j M (i + 1) xs ys
 | _, _ :: _, [] => False
theorem b1q {M : List Nat} : ∀ {S S' : List Ob} {i : Nat}, c5j M i S S' -> ∀ j, j < S.length -> M.contains (i + j) = true \/ hp S' j = hp S j
 | [], _, _, _, j, h => by simp at h
 | x :: xs, [], _, h, _, _ => h.elim
 | x :: xs, y :: ys, i, h, 0, _ => h.1
 | x :: xs, y :: ys, i, h, j + 1, hj => by
   have := b1q h.2 j (by simpa using hj)
   rw [show i + 1 + j = i + (j + 1) by omega] at this
   exact this
theorem c0u {M : List Nat} {S S' : List Ob} (h : c5j M 0 S S') : ∀ i, i < S.length -> i ∉ M -> hp S' i = hp S i := fun i hi hm => by
 rcases b1q h i hi with e | e
 ·rw [Nat.zero_add] at e; exact (hm (by simpa using e)).elim
 ·exact e

section
variable {P : Program} {S0 : List Ob} {ow : List Nat} {fr : Fr} {S : List Ob} {log : List LE}
theorem u6 {d f args rs} {K : Fr -> List Ob -> List LE -> Prop} {T T' S' : List Ob} {as as' : List AV} {r r' : AV} (c : Ev P f as (hp T) r (hp T')) (M : List Nat) (e : evL (Fr.get fr) args = as') (hM : M.length = T.length) (inj : M.Nodup) (hT : Nat.ble T.length T'.length = true) (hS : S'.length = S.length + (T'.length - T.length))
  (hin : a8j (FrIn M T S) 0 T) (hout : a8j (b2n M T T' S S') 0 T') (hoth : c5j M 0 S S') (hal : as'.length = as.length) (ha : RnL (frI M T S) 0 as' as) (hr : RnV (frO M T T' S S') r r')
  (h : VTops P ow rs ((d, r') :: fr) S' (.eff S S' :: log) K) : VTops P ow (⟨some d, none, .call f args⟩ :: rs) fr S log K :=
 a3t (c.frame M hM inj (Nat.le_of_ble_eq_true hT) hS hin hout (c0u hoth) hal ha hr) e h
end

def wOb : Ob -> Ob -> Prop
 | .arr v cs, .arr v' cs' => v = v' /\ awL cs cs'
 | .dead v, .dead v' => v = v'
 | .virgin, .virgin => True
 | _, _ => False
def c5k : List Ob -> List Ob -> Prop
 | [], [] => True
 | x :: xs, y :: ys => wOb x y /\ c5k xs ys
 | _, _ => False
theorem a8o : ∀ {S S' : List Ob}, c5k S S' -> ∀ o, wOb (hp S o) (hp S' o)
 | [], [], _, o => trivial
 | x :: xs, y :: ys, h, 0 => h.1
 | x :: xs, y :: ys, h, o + 1 => a8o h.2 o
theorem c5I {S0 S S' : List Ob} (h : c5k S S') : GWk S0 S S' AVw := by
 intro g0 g w h1 h2
 have hx : Ext g.pm g.L (hp S) g.pm g.L (hp S') := ⟨fun _ _ _ e => e, fun o => by
  have := a8o h o
  cases e1 : hp S o <;> cases e2 : hp S' o <;> rw [e1, e2] at this <;> simp only [wOb] at this <;> simp only [a0j]
  ·omega
  ·exact .inr ⟨this.1, trivial, (a4R this.2).symm⟩⟩
 have hin : ∀ o v cs, hp S' o = .arr v cs -> ∃ cs0, hp S o = .arr v cs0 /\ awL cs0 cs := fun o v cs e => by
  have := a8o h o
  cases e1 : hp S o with
  | virgin => rw [e1, e] at this; exact this.elim
  | dead v => rw [e1, e] at this; exact this.elim
  | arr v0 c0 =>
    rw [e1, e] at this
    obtain ⟨h4, h3⟩ := this
    exact ⟨c0, by rw [h4], h3⟩
 refine ⟨g, h1.trans ⟨hx, rfl, rfl, rfl⟩, ⟨h2.pm, h2.tm, h2.tmf, h2.disj, h2.low, h2.B0, h2.tab, fun o v cs e => ?_, fun o o' v v' c c' e e' hne => ?_⟩, fun x y u r hv => (hv.w r).mono hx⟩
 ·obtain ⟨cs0, e1, e2⟩ := hin _ _ _ e
  have k := h2.ob o v cs0 e1
  have hl := a4R e2
  refine ⟨k.low, by rw [<- hl]; exact k.len, fun j hj => ?_, k.free, k.pm, k.tm⟩
  obtain ⟨u, hu, hr⟩ := k.there j hj
  exact ⟨u, hu, fun hj' => ((hr zO).w (a5G e2 j zO hj')).mono hx⟩
 ·obtain ⟨c1, e1, _⟩ := hin _ _ _ e
  obtain ⟨c2, e2, _⟩ := hin _ _ _ e'
  exact h2.sep o o' _ _ _ _ e1 e2 hne

def c8q (k0 k : Nat) (S : List Ob) : Ob -> Ob -> Prop
 | .arr v cs, .arr v' cs' => v = v' /\ fzL k0 k S cs cs'
 | _, _ => False
def b7O (k0 k : Nat) (S : List Ob) : List Ob -> List Ob -> Prop
 | [], [] => True
 | x :: xs, y :: ys => c8q k0 k S x y /\ b7O k0 k S xs ys
 | _, _ => False
theorem b3G {k0 k : Nat} {S : List Ob} : ∀ {A B : List Ob}, b7O k0 k S A B -> c5k (A.map (a7j k0 S k)) B
 | [], [], _ => trivial
 | x :: xs, y :: ys, h => by
   refine ⟨?_, b3G h.2⟩
   have h1 := h.1
   cases x <;> cases y <;> simp only [c8q] at h1
   exact ⟨h1.1, b3F h1.2⟩
theorem c0v {S0 S S' : List Ob} (k0 k : Nat) (h0 : Nat.ble S0.length k0 = true) (h : b7O k0 k S (S.take k0) S') : GWk S0 S S' (fun x z => ∃ y, y = frz k0 S k x /\ AVw y z) :=
 (b0n k0 k (Nat.le_of_ble_eq_true h0)).trans (c5I (b3G h))
theorem b6H {k0 k : Nat} {S : List Ob} : ∀ {cs : List AV}, a2v k0 cs = true -> fzL k0 k S cs cs
 | [], _ => trivial
 | x :: r, h => by
   simp only [a2v, Bool.and_eq_true] at h
   exact ⟨a7k h.1 (.refl _), b6H h.2⟩
end Go.Ab

/- A slice as an argument, by what it is: nil, empty, or not empty. -/
namespace Go.Ab
open Go Go.RowKit

section
variable {P : Program} {S0 : List Ob} {ow : List Nat} {fr : Fr} {S : List Ob}
end
end Go.Ab

/- Lists made of zeros that are nil slices; pointers that are known not to be nil. -/
namespace Go.Ab
open Go Go.RowKit

theorem RnL.app {R : Rn} {a a' b b' : List AV} (hl : a'.length = a.length) (h : RnL R 0 a a') (k : RnL R 0 b b') : RnL R 0 (a ++ b) (a' ++ b') := by
 refine ⟨by have := k.1; simp only [List.length_append]; omega, fun j h1 h2 => ?_⟩
 simp only [Nat.zero_add] at h1 ⊢
 by_cases hj : j < a.length
 ·rw [List.getElem_append_left hj, List.getElem_append_left zO]
  have := h.2 j zO zO
  simpa only [Nat.zero_add] using this
 ·rw [List.getElem_append_right zO, List.getElem_append_right zO]
  have h2' : j - a'.length < b'.length := by simp only [List.length_append] at h2; omega
  have h1' : j - a.length < b.length := by simp only [List.length_append] at h1; omega
  have := k.2 (j - a'.length) zO h2'
  simp only [Nat.zero_add] at this
  simp only [hl] at this ⊢
  exact this
section
variable {α : Type} {f f0 : α -> AV} {esh : Option Nat}
variable {P : Program} {S0 : List Ob} {ow : List Nat} {fr : Fr} {S : List Ob} {log : List LE}
end
end Go.Ab

/- Regions in the text's order may be cut: between two parts the state may be weakened. -/
namespace Go.Ab
open Go Go.RowKit

theorem c5J {P : Program} {f : FuncId} {esh : Option Nat} {o ver off n sz : Nat} {r : AV} {σ σ' : Hp} (hsz : g6 esh = sz) (h0 : n = 0 -> Ev P f [.nils] σ r σ') (h1 : n = 0 -> Ev P f [.snn sz] σ r σ') (h2 : n ≠ 0 -> Ev P f [.ref o ver off n esh] σ r σ') : Ev P f [.ref o ver off n esh] σ r σ' := by
 intro g w vals hw hv
 by_cases hx : n = 0
 ·obtain ⟨v, rfl⟩ : ∃ v, vals = #[v] := by
   have := hv.1
   match vals, this with
   | ⟨[v]⟩, _ => exact ⟨v, rfl⟩
  have hr : VR g.pm g.L σ (.ref o ver off n esh) v := hv.2 0 zS zS
  subst hx
  cases hr with
  | @refnil _ _ _ _ a h =>
    cases a with
    | none => exact h0 rfl g w _ hw (c5D .nils)
    | some a => exact h1 rfl g w _ hw (c5D .snnz)
  | @ref _ _ _ _ _ a cap hn hs h =>
    obtain ⟨b, q, s⟩ := a
    obtain rfl : s = none := hs
    exact h1 rfl g w _ hw (c5D .snn)
 ·exact h2 hx g w vals hw hv
section
variable {P : Program} {S0 : List Ob} {ow : List Nat} {fr : Fr} {S : List Ob} {log : List LE}
end
end Go.Ab

/- Plain lemmas of loops: for the laws of what functions compute. -/
namespace Go.Ab

theorem a8p {α : Type} (l : List α) (i : Nat) : m0 l (i : Int) = l[i]? := by unfold m0; rw [if_pos zO]; simp
theorem a7F {x : Int} (h : -9223372036854775808 <= x /\ x <= 9223372036854775807) : I64 x = x := c0l h
theorem b1r {x : Int} (h : 0 <= x /\ x <= 18446744073709551615) : U64 x = x := by
 show IntKind.u64.wrap x = x
 simp [IntKind.wrap, IntKind.bits, IntKind.signed]; omega
theorem a4T {σ ρ : Type} {body : σ -> Option (Stp σ ρ)} {n : Nat} {s s' : σ} (h : body s = some (.nxt s')) : whileN body (n + 1) s = whileN body n s' := by simp only [whileN, h]
theorem a5H {σ ρ : Type} {body : σ -> Option (Stp σ ρ)} {n : Nat} {s s' : σ} (h : body s = some (.brk s')) : whileN body (n + 1) s = some (.fin s') := by simp only [whileN, h]
theorem b2u {σ ρ : Type} {body : σ -> Option (Stp σ ρ)} {n : Nat} {s : σ} {v : ρ} (h : body s = some (.ret v)) : whileN body (n + 1) s = some (.ret v) := by simp only [whileN, h]
def bs (c : Nat -> Int) (i j : Nat) : Nat :=
 if h : i < j then (if c ((i + j) / 2) < 0 then bs c ((i + j) / 2 + 1) j else bs c i ((i + j) / 2)) else i
termination_by j - i
decreasing_by all_goals omega
open Go Go.RowKit

theorem a7G {α σ ρ : Type} {body : Nat -> α -> σ -> Option (Stp σ ρ)} (ok : α -> Bool) (v : ρ) (Inv : Nat -> σ -> Prop) : ∀ (xs : List α) (k : Nat) (s : σ), Inv k s ->
  (∀ i x s, xs[i]? = some x -> Inv (k + i) s -> if ok x = true then ∃ s', body (k + i) x s = some (.nxt s') /\ Inv (k + i + 1) s' else body (k + i) x s = some (.ret v)) ->
  if xs.all ok = true then ∃ s', a3c body xs k s = some (.fin s') /\ Inv (k + xs.length) s' else a3c body xs k s = some (.ret v)
 | [], k, s, hi, h => by simp only [List.all_nil, if_true, a3c]; exact ⟨s, rfl, by simpa using hi⟩
 | x :: r, k, s, hi, h => by
   have h0 := h 0 x s rfl hi
   cases hx : ok x with
   | false =>
     rw [hx] at h0
     simp only [Nat.add_zero, Bool.false_eq_true, if_false] at h0
     simp only [List.all_cons, hx, Bool.false_and, Bool.false_eq_true, if_false, a3c, h0]
   | true =>
     rw [hx] at h0
     simp only [Nat.add_zero, if_true] at h0
     obtain ⟨s', e1, e2⟩ := h0
     have := a7G ok v Inv r (k + 1) s' e2 (fun i y s hy hs => by
      have := h (i + 1) y s (by simpa using hy) (by rwa [show k + (i + 1) = k + 1 + i by omega])
      rwa [show k + (i + 1) = k + 1 + i by omega] at this)
     simp only [List.all_cons, hx, Bool.true_and, a3c, e1, List.length_cons]
     rw [show k + (r.length + 1) = k + 1 + r.length by omega]
     exact this
theorem a2B {α σ ρ : Type} {body : Nat -> α -> σ -> Option (Stp σ ρ)} {xs : List α} {s0 : σ} (ok : α -> Bool) (v : ρ) (Inv : Nat -> σ -> Prop) (hl : xs.length <= 4611686018427387904) (h0 : Inv 0 s0)
  (h : ∀ i x s, xs[i]? = some x -> Inv i s -> if ok x = true then ∃ s', body i x s = some (.nxt s') /\ Inv (i + 1) s' else body i x s = some (.ret v)) :
  if xs.all ok = true then ∃ s', rng body xs s0 = some (.fin s') /\ Inv xs.length s' else rng body xs s0 = some (.ret v) := by
 unfold rng
 rw [if_pos hl]
 have := a7G ok v Inv xs 0 s0 h0 (fun i x s hx hs => by simpa using h i x s hx (by simpa using hs))
 simpa using this
theorem a7H {σ ρ : Type} {body : Nat -> σ -> Option (Stp σ ρ)} (Inv : Nat -> σ -> Prop) : ∀ (n k : Nat) (s : σ), Inv k s ->
  (∀ i s, k <= i -> i < k + n -> Inv i s -> ∃ s', body i s = some (.nxt s') /\ Inv (i + 1) s') -> ∃ s', a2o body n k s = some (.fin s') /\ Inv (k + n) s'
 | 0, k, s, hi, h => ⟨s, rfl, hi⟩
 | n + 1, k, s, hi, h => by
   obtain ⟨s', e1, e2⟩ := h k s zO zO hi
   obtain ⟨s2, e3, e4⟩ := a7H Inv n (k + 1) s' e2 (fun i s a b c => h i s zO zO c)
   exact ⟨s2, by simp only [a2o, e1, e3], by rwa [show k + (n + 1) = k + 1 + n by omega]⟩
theorem b0q {σ ρ : Type} {body : Nat -> σ -> Option (Stp σ ρ)} {n : Int} {s0 : σ} (Inv : Nat -> σ -> Prop) (hn : n <= 4611686018427387904) (h0 : Inv 0 s0)
  (h : ∀ (i : Nat) s, (i : Int) < n -> Inv i s -> ∃ s', body i s = some (.nxt s') /\ Inv (i + 1) s') : ∃ s', rni body n s0 = some (.fin s') /\ Inv n.toNat s' := by
 unfold rni
 rw [if_pos hn]
 obtain ⟨s', a, b⟩ := a7H (body := body) Inv n.toNat 0 s0 h0 (fun i s _ hi hs => h i s zO hs)
 exact ⟨s', a, by simpa using b⟩
theorem a4U {α : Type} {b : Nat} {l m : List α} (h : (l.length + m.length) * b <= 140737488355328 /\ l.length + m.length <= 140737488355328) : a8F b l m = some (l ++ m) := if_pos h
theorem a9j {σ ρ : Type} {body : σ -> Option (Stp σ ρ)} (Inv : σ -> Prop) (μ : σ -> Nat) (Q : Out σ ρ -> Prop)
  (h : ∀ s, Inv s -> (∃ s', body s = some (.nxt s') /\ Inv s' /\ μ s' < μ s) \/ (∃ s', body s = some (.brk s') /\ Q (.fin s')) \/ (∃ v, body s = some (.ret v) /\ Q (.ret v))) :
  ∀ (n : Nat) (s : σ), Inv s -> μ s < n -> ∃ o, whileN body n s = some o /\ Q o
 | 0, s, _, hn => by omega
 | n + 1, s, hi, hn => by
   rcases h s hi with ⟨s', h1, h2, h3⟩ | ⟨s', h1, h2⟩ | ⟨v, h1, h2⟩
   ·rw [a4T h1]; exact a9j Inv μ Q h n s' h2 zO
   ·rw [a5H h1]; exact ⟨_, rfl, h2⟩
   ·rw [b2u h1]; exact ⟨_, rfl, h2⟩
theorem a9k {σ ρ : Type} {body : Nat -> σ -> Option (Stp σ ρ)} (Inv : Nat -> σ -> Prop) (Q : Out σ ρ -> Prop) : ∀ (n k : Nat) (s : σ), Inv k s ->
  (∀ i s, k <= i -> i < k + n -> Inv i s -> (∃ s', body i s = some (.nxt s') /\ Inv (i + 1) s') \/ ∃ v, body i s = some (.ret v) /\ Q (.ret v)) ->
  (∀ s, Inv (k + n) s -> Q (.fin s)) -> ∃ o, a2o body n k s = some o /\ Q o
 | 0, k, s, hi, h, hQ => ⟨_, rfl, hQ s hi⟩
 | n + 1, k, s, hi, h, hQ => by
   rcases h k s zO zO hi with ⟨s', e1, e2⟩ | ⟨v, e1, e2⟩
   ·simp only [a2o, e1]
    exact a9k Inv Q n (k + 1) s' e2 (fun i s a b c => h i s zO zO c) (fun s hs => hQ s (by rwa [show k + (n + 1) = k + 1 + n by omega]))
   ·simp only [a2o, e1]
    exact ⟨_, rfl, e2⟩
theorem b6I {σ ρ : Type} {body : Nat -> σ -> Option (Stp σ ρ)} {n : Int} {s0 : σ} (Inv : Nat -> σ -> Prop) (Q : Out σ ρ -> Prop) (hn : n <= 4611686018427387904) (h0 : Inv 0 s0)
  (h : ∀ (i : Nat) s, (i : Int) < n -> Inv i s -> (∃ s', body i s = some (.nxt s') /\ Inv (i + 1) s') \/ ∃ v, body i s = some (.ret v) /\ Q (.ret v)) (hQ : ∀ s, Inv n.toNat s -> Q (.fin s)) : ∃ o, rni body n s0 = some o /\ Q o := by
 unfold rni
 rw [if_pos hn]
 exact a9k Inv Q n.toNat 0 s0 h0 (fun i s _ hi hs => h i s zO hs) (fun s hs => hQ s (by simpa using hs))

open Go.RowKit
variable {P : Program} {N : Nat}

def Rd (P : Program) (N : Nat) {α : Type} (f : α -> AV) (Q : α -> Prop) (t : TypeId) : Prop := ∀ avs, Ty P N t avs -> ∃ a, avs = (f a).cells /\ Q a

theorem rdI {t k} (h : P.underlying t = some (.int k)) : Rd P N (avI k) (fun n => (Lit.int k n).wf = true) t := by
 intro avs ht
 cases ht with
 | bool h' => rw [h] at h'; cases h'
 | int h' hw => rw [h] at h'; cases h'; exact ⟨_, rfl, hw⟩
 | str h' => rw [h] at h'; cases h'
 | sl h' => rw [h] at h'; cases h'
 | struct h' => rw [h] at h'; cases h'
theorem rdB {t} (h : P.underlying t = some .bool) : Rd P N avB (fun _ => True) t := by
 intro avs ht
 cases ht with
 | bool h' => exact ⟨_, rfl, trivial⟩
 | int h' => rw [h] at h'; cases h'
 | str h' => rw [h] at h'; cases h'
 | sl h' => rw [h] at h'; cases h'
 | struct h' => rw [h] at h'; cases h'
def c5K (P : Program) (e : TypeId) (esh : Option Nat) : Prop := match esh with | some _ => ∃ fs, P.underlying e = some (.struct fs) | none => ∀ fs, P.underlying e ≠ some (.struct fs)

theorem b3H {α : Type} {f : α -> AV} {esh : Option Nat} {e : TypeId} (he : Enc f esh) (hf : c5K P e esh) {x : AV} {a : α} (hc : x.cells = (f a).cells)
  (hx : ((∃ fs, P.underlying e = some (.struct fs)) /\ ∃ cs, x = .agg cs) \/ ((∀ fs, P.underlying e ≠ some (.struct fs)) /\ x.cells = [x])) : x = f a := by
 have h := he.form a
 cases esh with
 | none =>
   rcases hx with ⟨⟨fs, h1⟩, _⟩ | ⟨_, h1⟩
   ·exact (hf fs h1).elim
   ·rw [h1] at hc
    have h2 : (f a).cells = [f a] := h
    rw [h2] at hc
    exact (List.cons.inj hc).1
 | some n =>
   have h2 : f a = .agg (f a).cells := h
   rcases hx with ⟨_, cs, rfl⟩ | ⟨h1, _⟩
   ·rw [h2, <- hc]; rfl
   ·obtain ⟨fs, h3⟩ := hf
    exact (h1 fs h3).elim

theorem rdL {α : Type} {f : α -> AV} {Q : α -> Prop} {esh : Option Nat} {t e : TypeId} (he : Enc f esh) (hf : c5K P e esh) (h : P.underlying t = some (.slice e)) {sz : Nat} (hc : P.cellsOf e = sz) (hr : Rd P N f Q e) : Rd P N (avL sz f) (fun l => l.length <= N /\ ∀ a ∈ l, Q a) t := by
 intro avs ht
 cases ht with
 | bool h' => rw [h] at h'; cases h'
 | int h' => rw [h] at h'; cases h'
 | str h' => rw [h] at h'; cases h'
 | struct h' => rw [h] at h'; cases h'
 | sl h' hl hx ha =>
   rename_i e' xs
   rw [h] at h'; cases h'
   have key : ∀ y ∈ xs, ∃ a, y = f a /\ Q a := fun y hy => by
    obtain ⟨a, h1, h2⟩ := hr _ (hx y hy)
    exact ⟨a, b3H he hf h1 (ha y hy), h2⟩
   obtain ⟨l, rfl, hq⟩ := b2m key
   refine ⟨l, ?_, by simpa using hl, hq⟩
   rw [hc]; rfl

theorem a6N {t fs avs} (h : P.underlying t = some (.struct fs)) (ht : Ty P N t avs) : avs.length = P.cellsOf t /\ ∀ (i : Nat) (f : Field), fs[i]? = some f -> Ty P N f.type ((avs.drop f.offset).take (P.cellsOf f.type)) := by
 cases ht with
 | bool h' => rw [h] at h'; cases h'
 | int h' => rw [h] at h'; cases h'
 | str h' => rw [h] at h'; cases h'
 | sl h' => rw [h] at h'; cases h'
 | struct h' hl hf => rw [h] at h'; cases h'; exact ⟨hl, hf⟩
theorem a0H {cs xs rest : List AV} {o s : Nat} (h : (cs.drop o).take s = xs) (k : cs.drop (o + s) = rest) : cs.drop o = xs ++ rest := by
 rw [<- h, <- k, <- List.drop_drop, List.take_append_drop]
theorem b3I {cs : List AV} {n : Nat} (h : cs.length = n) : cs.drop n = [] := List.drop_eq_nil_of_le zO

theorem b3J {α : Type} {f : α -> AV} {Q : α -> Prop} {esh : Option Nat} {t : TypeId} (he : Enc f esh) (hf : c5K P t esh) (hr : Rd P N f Q t) {x : AV} (h : Arg P N t x) : ∃ a, x = f a /\ Q a := by
 obtain ⟨a, h1, h2⟩ := hr _ h.1
 exact ⟨a, b3H he hf h1 h.2, h2⟩
end Go.Ab

/- From a reading of an argument that is an array. -/
namespace Go.Ab
open Go.RowKit
variable {H : Type} {enc : TypeId × Value -> H} {P : Program} {W : World} {bk : DataW H -> Nat} {N : Nat}
end Go.Ab

/- A list whose last element's list is an object of its own. -/
namespace Go.Ab
open Go Go.RowKit
section
variable {α β : Type} {f : α -> AV} {esh : Option Nat}
theorem RnL.set {R : Rn} {cs : List AV} {j : Nat} {u v : AV} (hb : a2v 0 cs = true) (h : RnV R u v) : RnL R 0 (cs.set j u) (cs.set j v) := by
 refine ⟨by simp, fun i h1 h2 => ?_⟩
 simp only [Nat.zero_add] at h1 ⊢
 simp only [List.getElem_set]
 by_cases hj : j = i
 ·simp only [hj, if_true]; exact h
 ·simp only [hj, if_false]; exact .base (a1s hb i (by simpa using h1)) (.refl _)
variable {P : Program} {S0 : List Ob} {ow : List Nat} {fr : Fr} {S : List Ob} {log : List LE}
theorem a9l {d a sh rs} {K : Fr -> List Ob -> List LE -> Prop} {o ver p} {cs : List AV} {v : AV} (e : ev (Fr.get fr) a = .ptr o ver p) (ho : hp S o = .arr ver cs)
  (hv : a1y sh cs p = some v) (h : VTops P ow rs ((d, v) :: fr) S (.acc [o] none :: log) K) : VTops P ow (⟨some d, none, .op (.load sh a)⟩ :: rs) fr S log K := by
 refine a2e (v := v) (v' := v) (rd := [o]) (δ := none) (S' := S) ?_ rfl rfl h
 simp only [opV, e, b2l, a0K, ho, if_true, Option.bind_some, hv, Option.map_some]
theorem b3K {a x nn rs} {K : Fr -> List Ob -> List LE -> Prop} {o ver p} {cs : List AV} {S' : List Ob} {xv : AV} (e : ev (Fr.get fr) a = .ptr o ver p) (ex : ev (Fr.get fr) x = xv) (ho : hp S o = .arr ver cs)
  (hx : xv.cells.length = nn) (h1 : xv.cells.all AV.one = true) (hfit : p + nn <= cs.length) (hS : s9 S o (.arr ver (splice cs p xv.cells)) = S')
  (h : VTops P ow rs fr S' (.acc [o] (some o) :: log) K) : VTops P ow (⟨none, none, .op (.store nn a x)⟩ :: rs) fr S log K := by
 refine b6A (v := .tup []) (rd := []) (δ := some (o, .arr ver (splice cs p xv.cells))) (S' := S') ?_ hS h
 simp only [opV, e, ex, a9b, a0K, ho, if_true, Option.bind_some]
 rw [if_pos ⟨hx, hfit, h1⟩]
end
end Go.Ab

/- A list of which one element (number k, if it is there) has a list that is an object of its own. -/
namespace Go.Ab
open Go Go.RowKit
section
variable {α β : Type} {f : α -> AV} {esh : Option Nat}
variable {P : Program} {S0 : List Ob} {ow : List Nat} {fr : Fr} {S : List Ob} {log : List LE}
end
end Go.Ab

/- Heaps told by the objects that matter; contracts with a frame; steps over them. -/
namespace Go.Ab
open Go Go.RowKit

abbrev It := Nat × Nat × List AV
def Sep (S : List Ob) (L : List It) : Prop := (∀ p ∈ L, hp S p.1 = .arr p.2.1 p.2.2) /\ (L.map (·.1)).Nodup
section
variable {S : List Ob} {L L' L0 L1 A B C R : List It} {o v v' : Nat} {cs cs' : List AV} {p p' q : It}
theorem Sep.at (h : Sep S L) (m : (o, v, cs) ∈ L) : hp S o = .arr v cs := h.1 _ m
theorem Sep.nil : Sep S [] := ⟨fun _ h => by simp at h, by simp⟩
theorem Sep.perm (h : Sep S L) (k : L.Perm L') : Sep S L' := ⟨fun p hm => h.1 p (k.mem_iff.2 hm), (k.map _).nodup_iff.1 h.2⟩
theorem Sep.sub (h : Sep S L) (k : L'.Sublist L) : Sep S L' := ⟨fun p hm => h.1 p (k.subset hm), h.2.sublist (k.map _)⟩
theorem Sep.left (h : Sep S (A ++ B)) : Sep S A := h.sub (List.sublist_append_left A B)
theorem Sep.lt (h : Sep S L) (m : p ∈ L) : p.1 < S.length := a6g (h.1 p m)
theorem a1e {i : Nat} {x : Ob} (h : i ≠ o) : hp (s9 S o x) i = hp S i := by rw [t6, w8 _ _ h]
theorem a1A {x : Ob} : hp (s9 S o x) o = x := by rw [t6, a3n]
theorem Sep.set (h : Sep S ((o, v, cs) :: L)) : Sep (s9 S o (.arr v' cs')) ((o, v', cs') :: L) := by
 have hn := h.2
 simp only [List.map_cons, List.nodup_cons] at hn
 refine ⟨fun p hm => ?_, by simpa only [List.map_cons, List.nodup_cons] using hn⟩
 rcases List.mem_cons.1 hm with rfl | hm
 ·exact a1A
 ·have hne : p.1 ≠ o := fun e => hn.1 (by rw [<- e]; exact List.mem_map_of_mem hm)
  rw [a1e hne]
  exact h.1 p (List.mem_cons_of_mem _ hm)
theorem Sep.new (h : Sep S L) : Sep (s9 S S.length (.arr v cs)) ((S.length, v, cs) :: L) := by
 refine ⟨fun p hm => ?_, ?_⟩
 ·rcases List.mem_cons.1 hm with rfl | hm
  ·exact a1A
  ·rw [a1e (fun e => by have := h.lt hm; omega)]
   exact h.1 p hm
 ·simp only [List.map_cons, List.nodup_cons]
  refine ⟨fun hm => ?_, h.2⟩
  obtain ⟨p, hp1, hp2⟩ := List.mem_map.1 hm
  have := h.lt hp1
  omega
def Rp (L : List It) (p p' : It) (L' : List It) : Prop := p.1 = p'.1 /\ ∃ A B, L = A ++ p :: B /\ L' = A ++ p' :: B
theorem Rp.here (e : p.1 = p'.1 := by rfl) : Rp (p :: L) p p' (p' :: L) := ⟨e, [], L, rfl, rfl⟩
theorem Rp.there (h : Rp L p p' L') : Rp (q :: L) p p' (q :: L') := by
 obtain ⟨e, A, B, rfl, rfl⟩ := h
 exact ⟨e, q :: A, B, rfl, rfl⟩
theorem Rp.skip (h : Rp L p p' L') : Rp (C ++ L) p p' (C ++ L') := by
 obtain ⟨e, A, B, rfl, rfl⟩ := h
 exact ⟨e, C ++ A, B, by simp, by simp⟩
theorem Rp.mem (h : Rp L p p' L') : p ∈ L := by obtain ⟨_, A, B, rfl, rfl⟩ := h; simp
theorem a6q {α : Type} {A B : List α} {x : α} : (A ++ x :: B).Perm (x :: (A ++ B)) := List.perm_middle
theorem Sep.rp (h : Sep S L) (k : Rp L (o, v, cs) (o, v', cs') L') : Sep (s9 S o (.arr v' cs')) L' := by
 obtain ⟨_, A, B, rfl, rfl⟩ := k
 exact (Sep.set (h.perm a6q)).perm a6q.symm
def Pk (L : List It) (p : It) (L0 : List It) : Prop := L.Perm (p :: L0)
def PkC (L C L0 : List It) : Prop := L.Perm (C ++ L0)
def Spl (L L1 R : List It) : Prop := L.Perm (L1 ++ R)
theorem Pk.here : Pk (p :: L) p L := .refl _
theorem Pk.there (h : Pk L p L0) : Pk (q :: L) p (q :: L0) := (List.Perm.cons q h).trans (.swap _ _ _)
theorem Pk.skip (h : Pk L p L0) : Pk (C ++ L) p (C ++ L0) := (List.Perm.append_left C h).trans a6q
theorem PkC.here : PkC (C ++ L) C L := .refl _
theorem PkC.there (h : PkC L C L0) : PkC (q :: L) C (q :: L0) := (List.Perm.cons q h).trans a6q.symm
theorem PkC.skip (h : PkC L C L0) : PkC (A ++ L) C (A ++ L0) := by
 refine (List.Perm.append_left A h).trans ?_
 rw [<- List.append_assoc, <- List.append_assoc]
 exact List.Perm.append_right _ List.perm_append_comm
theorem PkC.all : PkC C C [] := by unfold PkC; rw [List.append_nil]
theorem Spl.nil : Spl L [] L := .refl _
theorem Spl.cons (h : Pk L p L0) (k : Spl L0 L1 R) : Spl L (p :: L1) R := h.trans (List.Perm.cons p k)
theorem Spl.app (h : PkC L C L0) (k : Spl L0 L1 R) : Spl L (C ++ L1) R := by
 refine h.trans ((List.Perm.append_left C k).trans ?_)
 rw [List.append_assoc]
theorem Spl.last (h : PkC L C L0) : Spl L C L0 := h
theorem Sep.spl (h : Sep S L) (k : Spl L L1 R) : Sep S (L1 ++ R) := h.perm k
theorem Sep.take (h : Sep S L) (k : Spl L L1 R) : Sep S L1 := (h.perm k).left
end

def Tri (P : Program) (f : FuncId) (args : List AV) (L : List It) (Q : AV -> List It -> Prop) : Prop :=
 ∀ R S, Sep S (L ++ R) -> ∃ r S', Ev P f args (hp S) r (hp S') /\ ∃ L', Q r L' /\ Sep S' (L' ++ R)
section
variable {P : Program} {f : FuncId} {args : List AV} {L L0 : List It} {Q Q' : AV -> List It -> Prop}
theorem Tri.mono (h : Tri P f args L Q) (k : ∀ r L', Q r L' -> Q' r L') : Tri P f args L Q' := fun R S hS => by
 obtain ⟨r, S', h1, L', h2, h3⟩ := h R S hS
 exact ⟨r, S', h1, L', k _ _ h2, h3⟩
theorem c0w {n : Nat} {ts : List RS} {fc : FC} (hm : P.follows .mixedOrders = true) (hfn : Fn3 P f n ts fc) (hn : args.length <= n) {S : List Ob} (ow : List Nat) {Q : AV -> List Ob -> Prop}
  (h : VT P S ow fc (a3Y 0 args) S (fun e fr1 S1 => b0i e /\ ∃ v, a6H S1 (Fr.get fr1) ts = some v /\ Q v S1)) : ∃ r S', Ev P f args (hp S) r (hp S') /\ Q r S' := by
 obtain ⟨e, fr', S', ⟨he, v, h1, h2⟩, h3⟩ := c0g h
 exact ⟨v, S', a1E hm hfn hn ow (h3 _ ⟨he, v, _, h1, GWk.refl, .refl _⟩), h2⟩
theorem x4 {n : Nat} {ts : List RS} {fc : FC} (hm : P.follows .mixedOrders = true) (hfn : Fn3 P f n ts fc) (hn : args.length <= n) (ow : List Nat)
  (h : ∀ R S, Sep S (L ++ R) -> VT P S ow fc (a3Y 0 args) S (fun e fr1 S1 => b0i e /\ ∃ v, a6H S1 (Fr.get fr1) ts = some v /\ ∃ L', Q v L' /\ Sep S1 (L' ++ R))) : Tri P f args L Q := fun R S hS =>
 c0w hm hfn hn ow (h R S hS)
end

section
variable {P : Program} {S0 : List Ob} {ow : List Nat} {fr : Fr} {S : List Ob} {log : List LE} {L L' L0 L1 R : List It} {α : Type} {f : α -> AV} {esh : Option Nat}
theorem f7 {d a sh rs} {K : Fr -> List Ob -> List LE -> Prop} {o ver p} {cs : List AV} {v : AV} (hS : Sep S L) (e : ev (Fr.get fr) a = .ptr o ver p) (hm : (o, ver, cs) ∈ L)
  (hv : a1y sh cs p = some v) (h : VTops P ow rs ((d, v) :: fr) S (.acc [o] none :: log) K) : VTops P ow (⟨some d, none, .op (.load sh a)⟩ :: rs) fr S log K := a9l e (hS.at hm) hv h
theorem E_stS {a x nn rs} {K : Fr -> List Ob -> List LE -> Prop} {o ver p} {cs : List AV} {xv : AV} (hS : Sep S L) (e : ev (Fr.get fr) a = .ptr o ver p) (ex : ev (Fr.get fr) x = xv)
  (hr : Rp L (o, ver, cs) (o, ver, splice cs p xv.cells) L') (hx : xv.cells.length = nn) (h1 : xv.cells.all AV.one = true) (hfit : p + nn <= cs.length)
  (h : ∀ S', Sep S' L' -> VTops P ow rs fr S' (.acc [o] (some o) :: log) K) : VTops P ow (⟨none, none, .op (.store nn a x)⟩ :: rs) fr S log K :=
 b3K e ex (hS.at hr.mem) hx h1 hfit rfl (h _ (hS.rp hr))
theorem b0r {d cs rs} {K : Fr -> List Ob -> List LE -> Prop} (hS : Sep S L) (how : ow.contains d = true) (h : ∀ o S', Sep S' ((o, 0, cs) :: L) -> VTops P ow rs ((d, .ptr o 0 0) :: fr) S' (.acc [o] (some o) :: log) K) :
  VTops P ow (⟨some d, none, .op (.new cs)⟩ :: rs) fr S log K := by
 refine a2e (v := .ptr S.length 0 0) (rd := []) (δ := some (S.length, .arr 0 cs)) ?_ rfl rfl (h _ _ hS.new)
 simp only [opV, b7r, how, if_true]
theorem b2v {d x rs} {K : Fr -> List Ob -> List LE -> Prop} {xv : AV} (hS : Sep S L) (how : ow.contains d = true) (e : ev (Fr.get fr) x = xv) (hj : xv.nj = true) (h : ∀ o S', Sep S' ((o, 0, xv.cells) :: L) -> VTops P ow rs ((d, .ptr o 0 0) :: fr) S' (.acc [o] (some o) :: log) K) :
  VTops P ow (⟨some d, none, .op (.box x)⟩ :: rs) fr S log K := by
 refine a2e (v := .ptr S.length 0 0) (rd := []) (δ := some (S.length, .arr 0 xv.cells)) ?_ rfl rfl (h _ _ hS.new)
 simp only [opV, b7r, how, if_true, e, hj]
theorem b5D {d} {bytes : Nat} {z l c rs} {K : Fr -> List Ob -> List LE -> Prop} {k k' n n'} {x : α} (hS : Sep S L) (he : Enc f esh) (how : ow.contains d = true) (e : ev (Fr.get fr) l = .int k n) (e1 : ev (Fr.get fr) c = .int k' n') (hz : (f x).cells = z)
  (hn : 0 <= n /\ n <= n' /\ n' * bytes <= 281474976710656 /\ n' <= 281474976710656)
  (h : ∀ o S', Sep S' ((o, 0, flat f (List.replicate n.toNat x)) :: L) -> VTops P ow rs ((d, .ref o 0 0 n.toNat esh) :: fr) S' (.acc [o] (some o) :: log) K) : VTops P ow (⟨some d, none, .op (.mksl esh bytes z l c)⟩ :: rs) fr S log K :=
 c0o he how e e1 hz hn rfl (h _ _ hS.new)
theorem b3L (he : Enc f esh) (l : List α) (x : List AV) : (flat f l ++ x).take (l.length * g6 esh) = flat f l := by
 rw [<- he.length l, List.take_left]
theorem a9m {d bytes s x rs} {K : Fr -> List Ob -> List LE -> Prop} {o ver : Nat} {l m : List α} {j : List AV} {rdx : List Nat} (hS : Sep S L) (he : Enc f esh) (e : ev (Fr.get fr) s = .ref o ver 0 l.length esh) (e2 : b0e esh (ev (Fr.get fr) x) S = some (m.length, flat f m, rdx))
  (hr : Rp L (o, ver, flat f l ++ j) (o, ver + 1, flat f (l ++ m)) L') (hb : (l.length + m.length) * bytes <= 140737488355328 /\ l.length + m.length <= 140737488355328)
  (h : ∀ S', Sep S' L' -> VTops P ow rs ((d, .ref o (ver + 1) 0 (l ++ m).length esh) :: fr) S' (.acc (o :: o :: rdx) (some o) :: log) K) : VTops P ow (⟨some d, none, .op (.app esh bytes s x)⟩ :: rs) fr S log K := by
 have ho := hS.at hr.mem
 refine a2e (v := .ref o (ver + 1) 0 (l ++ m).length esh) (rd := o :: rdx) (δ := some (o, .arr (ver + 1) (flat f (l ++ m)))) ?_ rfl rfl (h _ (hS.rp hr))
 simp only [opV, b4U, e, e2, Option.bind_some, he.all, if_true]
 rw [if_pos ⟨trivial, hb.1, hb.2⟩]
 simp only [a0K, ho, if_true, Option.map_some, List.drop_zero, b3L he, <- a0t, List.length_append]
theorem a3l {d f args rs} {K : Fr -> List Ob -> List LE -> Prop} {ags : List AV} {Q : AV -> List It -> Prop} (c : Tri P f ags L1 Q) (hS : Sep S L) (e : evL (Fr.get fr) args = ags) (hp : Spl L L1 R)
  (h : ∀ v S' L', Q v L' -> Sep S' (L' ++ R) -> VTops P ow rs ((d, v) :: fr) S' (.eff S S' :: log) K) : VTops P ow (⟨some d, none, .call f args⟩ :: rs) fr S log K := by
 obtain ⟨r, S', h1, L', h2, h3⟩ := c R S (hS.spl hp)
 exact a3t h1 e (h r S' L' h2 h3)
theorem b3M {d : Nat} {e : Option Nat} (hd : Fr.get fr d = .nils) : Wk S0 fr S ((d, .ref S.length 0 0 0 e) :: fr) (s9 S S.length (.arr 0 [])) := by
 intro g0 n a w hat
 obtain ⟨h0, g, h1, h2, h3⟩ := hat
 have hv := a7x S
 obtain ⟨k1, k2⟩ := h2.own (o := S.length) (l := ⟨0, 0, 0⟩) (ver := 0) (cs := []) (by rw [hv]; exact trivial) (fun h => absurd h (Nat.lt_irrefl 0)) (Nat.le_refl 0) (fun j hj => absurd hj (Nat.not_lt_zero j)) (fun j hj => absurd hj (Nat.not_lt_zero j)) (fun j hj => absurd hj (Nat.not_lt_zero j)) (fun j hj => absurd hj (Nat.not_lt_zero j))
  (fun o' ver' cs' _ _ _ j j' _ hj' => absurd hj' (Nat.not_lt_zero j'))
 rw [<- t6] at k1 k2
 refine ⟨h0, _, h1.trans k2, k1, h3.size, fun t => ?_⟩
 rw [get_cons]
 have ht := h3.get t
 split
 ·rename_i e1; subst e1
  rw [hd] at ht
  generalize a.tmps.getD t undef = u at ht
  cases ht
  refine .refnil ?_
  simp [a4D, a1A]
 ·exact ht.mono k2.ext
theorem c0x {b} {K K0 : Post} (d : Nat) (e : Option Nat) (hS : Sep S L) (hd : Fr.get fr d = .nils) (h : ∀ o S', Sep S' ((o, 0, []) :: L) -> VT P S0 ow b ((d, .ref o 0 0 0 e) :: fr) S' K) :
  Post.thn (fun fr' S' => ∃ F T, Wk S0 fr' S' F T /\ VT P S0 ow b F T K) K0 .normal fr S := a1q (b3M hd) (h _ _ hS.new)

theorem a1u {N : Fr -> List Ob -> Prop} {K0 : Post} (h : N fr S) : Post.thn N K0 .normal fr S := h
theorem a6O {a} {K : Post} {σ : Type} (F : σ -> Fr) (Lf : σ -> List It) (I : σ -> Prop) (μ : σ -> Nat) (s0 : σ) (hS : Sep S (Lf s0)) (h0 : I s0) (hw : Wk S0 fr S (F s0) S)
  (h : ∀ s S, I s -> Sep S (Lf s) -> VT P S0 ow a (F s) S (Post.thn (fun fr' S' => ∃ s', I s' /\ μ s' < μ s /\ Sep S' (Lf s') /\ Wk S0 fr' S' (F s') S') K)) : VT P S0 ow (.loop a) fr S K := by
 refine b3r (ι := σ × List Ob) (fun i => F i.1) (fun i => i.2) (fun i => I i.1 /\ Sep i.2 (Lf i.1)) (fun i => μ i.1) (s0, S) ⟨h0, hS⟩ hw (fun i hi => ?_)
 refine a2T (a2P (fun fr' S' hh => ?_) (fun _ _ _ h => h)) (h i.1 i.2 hi.1 hi.2)
 obtain ⟨s', h1, h2, h3, h4⟩ := hh
 exact ⟨(s', S'), ⟨h1, h3⟩, h2, h4⟩
def c0y (S0 : List Ob) {σ : Type} (ti tn id id2 : Nat) (n : Int) (F : σ -> Fr) (Lf : σ -> List It) (I : Nat -> σ -> Prop) (i : Nat) (K : Post) : Post
 | .normal, fr, S => ∃ s, I (i + 1) s /\ Sep S (Lf s) /\ Wk S0 fr S ((ti, .int .i64 i) :: (tn, .int .i64 n) :: F s) S
 | .exit j, fr, S => if j = id2 then ∃ s, I (i + 1) s /\ Sep S (Lf s) /\ Wk S0 fr S ((ti, .int .i64 i) :: (tn, .int .i64 n) :: F s) S else if j = id then K .normal fr S else K (.exit j) fr S
 | e, fr, S => K e fr S
section
variable {σ : Type} {ti tn id id2 : Nat} {n : Int} {F : σ -> Fr} {Lf : σ -> List It} {I : Nat -> σ -> Prop} {i : Nat} {K : Post}
theorem R_n (s : σ) (h1 : I (i + 1) s) (h2 : Sep S (Lf s)) (h3 : Wk S0 fr S ((ti, .int .i64 i) :: (tn, .int .i64 n) :: F s) S) : c0y S0 ti tn id id2 n F Lf I i K .normal fr S := ⟨s, h1, h2, h3⟩
end
theorem a9n {tc ti tn tj id id2 : Nat} {B : FC} {K : Post} {σ : Type} (n : Nat) (F : σ -> Fr) (Lf : σ -> List It) (I : Nat -> σ -> Prop) (s0 : σ) (hS : Sep S (Lf s0)) (h0 : I 0 s0) (hw : Wk S0 fr S ((ti, .int .i64 0) :: (tn, .int .i64 n) :: F s0) S)
  (hn : n <= 4611686018427387904) (h1 : ti ≠ tn) (h2 : tj ≠ tn) (hF : ∀ s, Fr.get (F s) tj = .junk /\ Fr.get (F s) ti = .junk /\ Fr.get (F s) tn = .junk /\ Fr.get (F s) tc = .junk)
  (hb : ∀ i s S, i < n -> I i s -> Sep S (Lf s) -> VT P S0 ow B ((tc, .bool true) :: (ti, .int .i64 i) :: (tn, .int .i64 n) :: F s) S (c0y S0 ti tn id id2 n F Lf I i K))
  (hx : ∀ s fr' S, I n s -> Sep S (Lf s) -> Wk S0 fr' S (F s) S -> K .normal fr' S) :
  VT P S0 ow (.block id (.loop (.seq (.reg [⟨some tc, none, .op (.bin .none .lss (.t ti) (.t tn))⟩] []) (.seq (.cond (.t tc) .skip (.exit id)) (.seq (.block id2 B) (.reg [⟨some tj, none, .op (.bin .none .add (.t ti) (.v (.int .i64 1)))⟩, ⟨some ti, none, .op (.mv (.t tj))⟩] [])))))) fr S K := by
 refine z6 (a6O (fun i : Nat × σ => (ti, .int .i64 i.1) :: (tn, .int .i64 n) :: F i.2) (fun i => Lf i.2) (fun i => i.1 <= n /\ I i.1 i.2) (fun i => n - i.1) (0, s0) hS ⟨Nat.zero_le _, h0⟩ hw (fun i S hi hSi => ?_))
 obtain ⟨i, s⟩ := i
 simp only at hi hSi ⊢
 obtain ⟨hi0, hi⟩ := hi
 refine b6B h1 zO (fun hlt => ?_) (fun hge => ?_)
 ·have hnext : ∀ (s' : σ) (S' : List Ob), I (i + 1) s' -> Sep S' (Lf s') -> ∀ fr3, (∀ t, Fr.get fr3 t = if t = ti then .int .i64 ((i : Int) + 1) else if t = tj then .int .i64 ((i : Int) + 1) else Fr.get ((tn, .int .i64 n) :: F s') t) ->
    Post.thn (fun fr' S' => ∃ i' : Nat × σ, (i'.1 <= n /\ I i'.1 i'.2) /\ n - i'.1 < n - i /\ Sep S' (Lf i'.2) /\ Wk S0 fr' S' ((ti, .int .i64 i'.1) :: (tn, .int .i64 n) :: F i'.2) S') (Post.blk id K) .normal fr3 S' := fun s' S' hI hS' fr3 hg => by
   refine ⟨(i + 1, s'), ⟨by simp only; omega, hI⟩, by simp only; omega, hS', b1m (fun t => ?_)⟩
   rw [hg, get_cons]
   simp only
   by_cases ht : t = ti
   ·left; rw [if_pos ht, if_pos ht]; rfl
   ·rw [if_neg ht, if_neg ht]
    by_cases ht2 : t = tj
    ·right; rw [ht2, get_cons, if_neg h2, (hF s').1]
    ·left; rw [if_neg ht2]
  refine a2T (fun e fr' S' hk => ?_) (hb i s S zO hi hSi)
  cases e with
  | normal =>
    obtain ⟨s', k1, k2, k3⟩ := hk
    exact ⟨_, _, k3, hnext s' S' k1 k2⟩
  | exit j =>
    show Post.blk id2 _ (.exit j) fr' S'
    rw [a6F]
    replace hk : if j = id2 then ∃ s, I (i + 1) s /\ Sep S' (Lf s) /\ Wk S0 fr' S' ((ti, .int .i64 i) :: (tn, .int .i64 n) :: F s) S' else if j = id then K .normal fr' S' else K (.exit j) fr' S' := hk
    by_cases hj : j = id2
    ·rw [if_pos hj] at hk ⊢
     obtain ⟨s', k1, k2, k3⟩ := hk
     exact ⟨_, _, k3, hnext s' S' k1 k2⟩
    ·rw [if_neg hj] at hk ⊢
     show Post.blk id K (.exit j) fr' S'
     rw [a6F]
     exact hk
  | ret => exact hk
  | goto l => exact hk
  | panic l => exact hk
  | outgrown => exact hk
 ·have e1 : i = n := by omega
  subst e1
  show Post.blk id K (.exit id) _ _
  rw [a6F, if_pos rfl]
  refine hx s _ _ hi hSi (b1m (fun t => ?_))
  obtain ⟨_, f1, f2, f3⟩ := hF s
  simp only [get_cons]
  by_cases t1 : t = tc
  ·right; rw [t1]; exact f3
  ·by_cases t2 : t = ti
   ·right; rw [t2]; exact f1
   ·by_cases t3 : t = tn
    ·right; rw [t3]; exact f2
    ·left; rw [if_neg t1, if_neg t2, if_neg t3]
end
end Go.Ab

/- Steps over lists that are objects, told by their elements; with or without cells behind them. -/
namespace Go.Ab
open Go Go.RowKit
section
variable {α : Type} {f : α -> AV} {esh : Option Nat} {l : List α} {n p fo : Nat} {y y' : α} {j : List AV}
theorem c5L (he : Enc f esh) (hy : l[n]? = some y) {sh : Option Nat} {v : AV} (hv : a1y sh (f y).cells fo = some v) (hp : p = n * g6 esh + fo) : a1y sh (flat f l ++ j) p = some v := by
 obtain ⟨a, b, h1, h2, _⟩ := he.at hy
 rw [hp, <- h2, h1, List.append_assoc (a ++ (f y).cells)]
 exact a8m hv
theorem c0z (he : Enc f esh) (hy : l[n]? = some y) {sh : Option Nat} {v : AV} (hv : a1y sh (f y).cells fo = some v) (hp : p = n * g6 esh + fo) : a1y sh (flat f l) p = some v := by
 obtain ⟨a, b, h1, h2, _⟩ := he.at hy
 rw [hp, <- h2, h1]
 exact a8m hv
theorem b5E (he : Enc f esh) (hy : l[n]? = some y) : ∃ a b, a.length = n * g6 esh /\ flat f l = a ++ (f y).cells ++ b /\ flat f (l.set n y') = a ++ (f y').cells ++ b := by
 obtain ⟨hn, rfl⟩ := List.getElem?_eq_some_iff.1 hy
 have e2 : l.take n ++ l[n] :: l.drop (n + 1) = l := by rw [<- List.drop_eq_getElem_cons hn, List.take_append_drop]
 refine ⟨flat f (l.take n), flat f (l.drop (n + 1)), by rw [he.length, List.length_take, Nat.min_eq_left zO], ?_, ?_⟩
 ·rw [List.append_assoc, <- a0S, <- a0t, e2]
 ·rw [List.set_eq_take_append_cons_drop, if_pos hn, a0t, a0S, List.append_assoc]
theorem b6J (he : Enc f esh) (hy : l[n]? = some y) {xs : List AV} (hp : p = n * g6 esh + fo) (hf : fo + xs.length <= g6 esh) (hy' : (f y').cells = splice (f y).cells fo xs) : splice (flat f l ++ j) p xs = flat f (l.set n y') ++ j := by
 obtain ⟨a, b, h2, h1, h3⟩ := b5E (y' := y') he hy
 rw [hp, <- h2, h1, h3, List.append_assoc (a ++ (f y).cells), a6K xs (by rw [he.sz]; exact hf), hy', List.append_assoc (a ++ _)]
theorem b7P (he : Enc f esh) (hy : l[n]? = some y) {xs : List AV} (hp : p = n * g6 esh + fo) (hf : fo + xs.length <= g6 esh) (hy' : (f y').cells = splice (f y).cells fo xs) : splice (flat f l) p xs = flat f (l.set n y') := by
 have := b6J (j := []) he hy hp hf hy'
 simpa using this
theorem b6K (he : Enc f esh) (hy : l[n]? = some y) {m : Nat} (hp : p = n * g6 esh + fo) (hf : fo + m <= g6 esh) : p + m <= (flat f l ++ j).length := by
 have hn := (List.getElem?_eq_some_iff.1 hy).1
 have : (n + 1) * g6 esh <= l.length * g6 esh := Nat.mul_le_mul_right _ hn
 rw [List.length_append, he.length]
 rw [Nat.add_mul] at this
 omega
end
section
variable {P : Program} {S0 : List Ob} {ow : List Nat} {fr : Fr} {S : List Ob} {log : List LE} {L L' L0 L1 R : List It} {α : Type} {f : α -> AV} {esh : Option Nat}
theorem b0s {d a sh rs} {K : Fr -> List Ob -> List LE -> Prop} {o ver p n fo} {l : List α} {j : List AV} {y : α} {v : AV} (hS : Sep S L) (he : Enc f esh) (e : ev (Fr.get fr) a = .ptr o ver p) (hm : (o, ver, flat f l ++ j) ∈ L) (hp : p = n * g6 esh + fo) (hy : l[n]? = some y)
  (hv : a1y sh (f y).cells fo = some v) (h : VTops P ow rs ((d, v) :: fr) S (.acc [o] none :: log) K) : VTops P ow (⟨some d, none, .op (.load sh a)⟩ :: rs) fr S log K := f7 hS e hm (c5L he hy hv hp) h
theorem b1s {d a sh rs} {K : Fr -> List Ob -> List LE -> Prop} {o ver p n fo} {l : List α} {y : α} {v : AV} (hS : Sep S L) (he : Enc f esh) (e : ev (Fr.get fr) a = .ptr o ver p) (hm : (o, ver, flat f l) ∈ L) (hp : p = n * g6 esh + fo) (hy : l[n]? = some y)
  (hv : a1y sh (f y).cells fo = some v) (h : VTops P ow rs ((d, v) :: fr) S (.acc [o] none :: log) K) : VTops P ow (⟨some d, none, .op (.load sh a)⟩ :: rs) fr S log K := f7 hS e hm (c0z he hy hv hp) h
theorem c5M {a x nn rs} {K : Fr -> List Ob -> List LE -> Prop} {o ver p n fo} {l : List α} {j : List AV} {y y' : α} {xv : AV} (hS : Sep S L) (he : Enc f esh) (e : ev (Fr.get fr) a = .ptr o ver p) (ex : ev (Fr.get fr) x = xv) (hp : p = n * g6 esh + fo) (hy : l[n]? = some y)
  (hr : Rp L (o, ver, flat f l ++ j) (o, ver, flat f (l.set n y') ++ j) L') (hx : xv.cells.length = nn) (h1 : xv.cells.all AV.one = true) (hfit : fo + nn <= g6 esh) (hy' : (f y').cells = splice (f y).cells fo xv.cells)
  (h : ∀ S', Sep S' L' -> VTops P ow rs fr S' (.acc [o] (some o) :: log) K) : VTops P ow (⟨none, none, .op (.store nn a x)⟩ :: rs) fr S log K :=
 E_stS hS e ex (by rw [b6J he hy hp (by rw [hx]; exact hfit) hy']; exact hr) hx h1 (b6K he hy hp hfit) h
theorem a9o {a x nn rs} {K : Fr -> List Ob -> List LE -> Prop} {o ver p n fo} {l : List α} {y y' : α} {xv : AV} (hS : Sep S L) (he : Enc f esh) (e : ev (Fr.get fr) a = .ptr o ver p) (ex : ev (Fr.get fr) x = xv) (hp : p = n * g6 esh + fo) (hy : l[n]? = some y)
  (hr : Rp L (o, ver, flat f l) (o, ver, flat f (l.set n y')) L') (hx : xv.cells.length = nn) (h1 : xv.cells.all AV.one = true) (hfit : fo + nn <= g6 esh) (hy' : (f y').cells = splice (f y).cells fo xv.cells)
  (h : ∀ S', Sep S' L' -> VTops P ow rs fr S' (.acc [o] (some o) :: log) K) : VTops P ow (⟨none, none, .op (.store nn a x)⟩ :: rs) fr S log K :=
 E_stS hS e ex (by rw [b7P he hy hp (by rw [hx]; exact hfit) hy']; exact hr) hx h1 (by have := b6K (j := []) he hy hp hfit; simpa using this) h
end
end Go.Ab

/- A nil slice in an object's cell as a list without an object. -/
namespace Go.Ab
open Go Go.RowKit
theorem WRel.recell {g σ} {w : World} (h : WRel g σ w) {o ver : Nat} {cs cs' : List AV} (e : σ o = .arr ver cs) (hl : cs'.length = cs.length) (hv : ∀ j (h1 : j < cs.length) (h2 : j < cs'.length) u, VR g.pm g.L σ cs[j] u -> VR g.pm g.L σ cs'[j] u) :
  WRel g (upd σ o (.arr ver cs')) w /\ g.le σ g (upd σ o (.arr ver cs')) := by
 have k := h.ob o ver cs e
 have hext : Ext g.pm g.L σ g.pm g.L (upd σ o (.arr ver cs')) := ⟨fun _ _ _ e => e, fun i => by
  by_cases hi : i = o
  ·subst hi; simp [e, a0j, hl]
  ·simp [w8 _ _ hi]; exact a0j.refl _ _⟩
 refine ⟨⟨h.pm, h.tm, h.tmf, h.disj, h.low, h.B0, h.tab, fun i ver' cs2 e' => ?_, fun i i' v1 v2 c1 c2 e1 e2 hne => ?_⟩, ⟨hext, rfl, rfl, rfl⟩⟩
 ·by_cases hi : i = o
  ·subst hi
   simp at e'
   obtain ⟨rfl, rfl⟩ := e'
   refine ⟨k.low, by rw [hl]; exact k.len, fun m hm => ?_, k.free, k.pm, k.tm⟩
   obtain ⟨u, hu, hr⟩ := k.there m hm
   exact ⟨u, hu, fun hm' => (hv m zO hm' u (hr zO)).mono hext⟩
  ·rw [w8 _ _ hi] at e'
   have k' := h.ob i ver' cs2 e'
   refine ⟨k'.low, k'.len, fun m hm => ?_, k'.free, k'.pm, k'.tm⟩
   obtain ⟨u, hu, hr⟩ := k'.there m hm
   exact ⟨u, hu, fun hm' => (hr hm').mono hext⟩
 ·have a1 : ∃ v c, σ i = .arr v c := by
   by_cases hi : i = o
   ·exact ⟨_, _, hi ▸ e⟩
   ·rw [w8 _ _ hi] at e1; exact ⟨_, _, e1⟩
  have a2 : ∃ v c, σ i' = .arr v c := by
   by_cases hi : i' = o
   ·exact ⟨_, _, hi ▸ e⟩
   ·rw [w8 _ _ hi] at e2; exact ⟨_, _, e2⟩
  obtain ⟨_, _, a1⟩ := a1
  obtain ⟨_, _, a2⟩ := a2
  exact h.sep i i' _ _ _ _ a1 a2 hne
section
variable {P : Program} {S0 : List Ob} {ow : List Nat} {fr : Fr} {S : List Ob} {L : List It}
theorem a7I {o ver j : Nat} {cs : List AV} {e : Option Nat} (ho : hp S o = .arr ver cs) (hj : cs[j]? = some .nils) :
  Wk S0 fr S fr (s9 (s9 S S.length (.arr 0 [])) o (.arr ver (cs.set j (.ref S.length 0 0 0 e)))) := by
 intro g0 n a w hat
 obtain ⟨h0, g, h1, h2, h3⟩ := hat
 have hv := a7x S
 have hos : o ≠ S.length := fun h => by rw [h, hv] at ho; cases ho
 obtain ⟨k1, k2⟩ := h2.own (o := S.length) (l := ⟨0, 0, 0⟩) (ver := 0) (cs := []) (by rw [hv]; exact trivial) (fun h => absurd h (Nat.lt_irrefl 0)) (Nat.le_refl 0) (fun j hj => absurd hj (Nat.not_lt_zero j)) (fun j hj => absurd hj (Nat.not_lt_zero j)) (fun j hj => absurd hj (Nat.not_lt_zero j)) (fun j hj => absurd hj (Nat.not_lt_zero j))
  (fun o' ver' cs' _ _ _ j j' _ hj' => absurd hj' (Nat.not_lt_zero j'))
 rw [<- t6] at k1 k2
 have ho1 : hp (s9 S S.length (.arr 0 [])) o = .arr ver cs := by rw [a1e hos]; exact ho
 obtain ⟨q1, q2⟩ := k1.recell (cs' := cs.set j (.ref S.length 0 0 0 e)) ho1 zS (fun i a1 a2 u hu => by
  rw [List.getElem_set]
  split
  ·rename_i hij
   subst hij
   rw [List.getElem?_eq_getElem a1] at hj
   have hj := Option.some.inj hj
   rw [hj] at hu
   cases hu
   refine .refnil ?_
   simp [a4D, a1A]
  ·exact hu)
 rw [<- t6] at q1 q2
 exact ⟨h0, _, (h1.trans k2).trans q2, q1, h3.size, fun t => ((h3.get t).mono k2.ext).mono q2.ext⟩
theorem b7Q {b} {K K0 : Post} {o ver : Nat} {cs : List AV} (j : Nat) (e : Option Nat) {Lf : Nat -> List It} (hS : Sep S L) (hr : ∀ o', Rp L (o, ver, cs) (o, ver, cs.set j (.ref o' 0 0 0 e)) (Lf o')) (hj : cs[j]? = some .nils) (h : ∀ o' S', Sep S' ((o', 0, []) :: Lf o') -> VT P S0 ow b fr S' K) :
  Post.thn (fun fr' S' => ∃ F T, Wk S0 fr' S' F T /\ VT P S0 ow b F T K) K0 .normal fr S := by
 have hm := (hr 0).mem
 have ho := hS.at hm
 refine a1q (a7I (e := e) ho hj) (h S.length _ ?_)
 have h1 : Sep (s9 S S.length (.arr 0 [])) ((S.length, 0, []) :: L) := hS.new
 exact h1.rp (Rp.there (hr S.length))
end
end Go.Ab

