/- What functions are said to compute (partial functions in plain Lean), and the steps that follow it. -/
import Derived.Test.YtnpemocpfdgaoaaWlF3
import Derived.OpenShut
set_option linter.unusedVariables false
set_option linter.unusedSimpArgs false
namespace Go.Ab
open Go.RowKit

abbrev I64 (x : Int) : Int := IntKind.i64.wrap x
abbrev U64 (x : Int) : Int := IntKind.u64.wrap x
abbrev U8 (x : Int) : Int := IntKind.u8.wrap x

def gd (c : Prop) [Decidable c] {β : Type} (k : Option β) : Option β := if c then k else none
theorem a7L {c : Prop} [Decidable c] {β : Type} {k : Option β} {r : β} (h : gd c k = some r) : c /\ k = some r := by
 unfold gd at h
 split at h
 ·exact ⟨by assumption, h⟩
 ·cases h
@[simp] theorem b0r {c : Prop} [Decidable c] {β : Type} {k : Option β} (h : c) : gd c k = k := if_pos h
theorem b9 {α β : Type} {x : Option α} {f : α -> Option β} {r : β} (h : x.bind f = some r) : ∃ v, x = some v /\ f v = some r := Option.bind_eq_some_iff.1 h

theorem b3O {β : Type} {e : Bool} {a b : β} (h : e = true) : (if e = true then a else b) = a := if_pos h
theorem b3P {β : Type} {e : Bool} {a b : β} (h : e = false) : (if e = true then a else b) = b := if_neg (by rw [h]; decide)

def j9 {α : Type} (l : List α) (i : Int) : Option α := if 0 <= i then l[i.toNat]? else none
theorem g9 {α : Type} {l : List α} {i : Int} {y : α} (h : j9 l i = some y) : 0 <= i /\ i < l.length /\ l[i.toNat]? = some y := by
 unfold j9 at h
 split at h
 ·obtain ⟨h1, h2⟩ := List.getElem?_eq_some_iff.1 h
  exact ⟨by assumption, by omega, h⟩
 ·cases h

def jp {σ β : Type} (k : σ -> Option β) (f : (σ -> Option β) -> Option β) : Option β := f k

inductive Stp (σ ρ : Type) where
 | nxt (s : σ)
 | brk (s : σ)
 | ret (r : ρ)
inductive Out (σ ρ : Type) where
 | fin (s : σ)
 | ret (r : ρ)

def a0m {α σ ρ : Type} (body : Nat -> α -> σ -> Option (Stp σ ρ)) : List α -> Nat -> σ -> Option (Out σ ρ)
 | [], _, s => some (.fin s)
 | x :: xs, i, s => match body i x s with
   | none => none
   | some (.nxt s') => a0m body xs (i + 1) s'
   | some (.brk s') => some (.fin s')
   | some (.ret r) => some (.ret r)
def rng {α σ ρ : Type} (body : Nat -> α -> σ -> Option (Stp σ ρ)) (xs : List α) (s : σ) : Option (Out σ ρ) := if xs.length <= 4611686018427387904 then a0m body xs 0 s else none

def a0n {σ ρ : Type} (body : Nat -> σ -> Option (Stp σ ρ)) : Nat -> Nat -> σ -> Option (Out σ ρ)
 | 0, _, s => some (.fin s)
 | n + 1, i, s => match body i s with
   | none => none
   | some (.nxt s') => a0n body n (i + 1) s'
   | some (.brk s') => some (.fin s')
   | some (.ret r) => some (.ret r)
def rni {σ ρ : Type} (body : Nat -> σ -> Option (Stp σ ρ)) (n : Int) (s : σ) : Option (Out σ ρ) := if n <= 4611686018427387904 then a0n body n.toNat 0 s else none

def a0V {σ ρ : Type} (body : σ -> Option (Stp σ ρ)) : Nat -> σ -> Option (Out σ ρ)
 | 0, _ => none
 | n + 1, s => match body s with
   | none => none
   | some (.nxt s') => a0V body n s'
   | some (.brk s') => some (.fin s')
   | some (.ret r) => some (.ret r)

def b2k : Fr -> Nat -> AV -> Fr
 | [], _, _ => []
 | (t', v') :: r, t, v => if t = t' then (t', v) :: r else (t', v') :: b2k r t v
theorem a7M {t : Nat} {v : AV} : ∀ {fr : Fr}, Fr.get fr t = v -> b2k fr t v = fr
 | [], _ => rfl
 | (t', v') :: r, h => by
   simp only [b2k]
   rw [get_cons] at h
   split
   ·rename_i e; rw [if_pos e] at h; rw [h]
   ·rename_i e; rw [if_neg e] at h; rw [a7M h]

theorem Wk.refl {S0 S : List Ob} {fr : Fr} : Wk S0 fr S fr S := fun _ _ _ _ h => h

section
variable {P : Program} {S0 : List Ob} {ow : List Nat} {fr : Fr} {S : List Ob} {log : List LE}

theorem x6 {d r rs} {K : Fr -> List Ob -> List LE -> Prop} {v v' rd δ S'} (e : opV (ow.contains d) r (Fr.get fr) S = some (v, rd, δ)) (e2 : AVw v v') (e3 : apS S δ = S') (h : VTops P ow rs ((d, v') :: fr) S' (.acc (y8 rd δ) (δ.map (·.1)) :: log) K) :
  VTops P ow (⟨some d, none, .op r⟩ :: rs) fr S log K := by subst e3; rw [a2F, e]; exact ⟨_, e2, h⟩
theorem b6o {d t want c rs} {K : Fr -> List Ob -> List LE -> Prop} {b : Bool} {fr1 fr2 : Fr} (e : Fr.get fr t = .bool b) (e1 : b2k fr t (.bool want) = fr1) (e2 : a5j (b2k fr t (.bool (!want))) d (.tup []) = fr2)
  (h : b = want -> VTops P ow (⟨d, none, c⟩ :: rs) fr1 S log K) (h' : b = !want -> VTops P ow rs fr2 S (.acc [] none :: log) K) : VTops P ow (⟨d, some (t, want), c⟩ :: rs) fr S log K := by
 subst e1; subst e2
 refine c6L e (fun hb => ?_) (fun hb => ?_)
 ·have := h hb
  rwa [a7M (by rw [e, hb])] at this
 ·have := h' hb
  rwa [a7M (by rw [e, hb])] at this
theorem c7 {a b} {K : Post} (h : VT P S0 ow a fr S (Post.thn (fun fr' S' => ∃ F T, Wk S0 fr' S' F T /\ VT P S0 ow b F T K) K)) : VT P S0 ow (.seq a b) fr S K := by
 rw [a6W]; exact h
theorem d7 {b} {K K0 : Post} (h : VT P S0 ow b fr S K) : Post.thn (fun fr' S' => ∃ F T, Wk S0 fr' S' F T /\ VT P S0 ow b F T K) K0 .normal fr S := ⟨fr, S, Wk.refl, h⟩
theorem s9 {b} {K K0 : Post} {F : Fr} {T : List Ob} (hw : Wk S0 fr S F T) (h : VT P S0 ow b F T K) : Post.thn (fun fr' S' => ∃ F T, Wk S0 fr' S' F T /\ VT P S0 ow b F T K) K0 .normal fr S := ⟨F, T, hw, h⟩
theorem a1b {σ β : Type} {a b} {K : Post} {k : σ -> Option β} {f : (σ -> Option β) -> Option β} {r : β} (h : jp k f = some r) (F : σ -> Fr) (T : σ -> List Ob)
  (h1 : ∀ k', f k' = some r -> VT P S0 ow a fr S (Post.thn (fun fr' S' => ∃ s, k' s = some r /\ Wk S0 fr' S' (F s) (T s)) K)) (h2 : ∀ s, k s = some r -> VT P S0 ow b (F s) (T s) K) : VT P S0 ow (.seq a b) fr S K :=
 c7 (a0T (a1a (fun _ _ ⟨s, hs, hw⟩ => ⟨F s, T s, hw, h2 s hs⟩) (fun _ _ _ h => h)) (h1 k h))
theorem m5 {σ β : Type} {K0 : Post} {k' : σ -> Option β} {r : β} {F : σ -> Fr} {T : σ -> List Ob} (s : σ) (h : k' s = some r) (hw : Wk S0 fr S (F s) (T s)) : Post.thn (fun fr' S' => ∃ s, k' s = some r /\ Wk S0 fr' S' (F s) (T s)) K0 .normal fr S := ⟨s, h, hw⟩
theorem x4 {a b c} {K : Post} (h : VT P S0 ow (.seq a (.seq b c)) fr S K) : VT P S0 ow (.seq (.seq a b) c) fr S K := by
 rw [a6W] at h
 rw [a6W, a6W]
 refine a0T (fun e fr' S' hh => ?_) h
 cases e with
 | normal =>
   obtain ⟨F, T, hw, hv⟩ := hh
   rw [a6W] at hv
   exact ⟨F, T, hw, hv⟩
 | _ => exact hh

def a4H (S0 : List Ob) {σ ρ β : Type} (nx : Nat -> Bool) (bk : Nat -> Bool) (F : σ -> Fr) (T : σ -> List Ob) (Fx : σ -> Fr) (Tx : σ -> List Ob) (k : Out σ ρ -> Option β) (r : β) (K : Post) (c : Stp σ ρ) : Post
 | .normal, fr, S => ∃ s, c = .nxt s /\ Wk S0 fr S (F s) (T s)
 | .exit j, fr, S => if nx j = true then ∃ s, c = .nxt s /\ Wk S0 fr S (F s) (T s) else if bk j = true then ∃ s, c = .brk s /\ Wk S0 fr S (Fx s) (Tx s) else ∃ v, c = .ret v /\ (k (.ret v) = some r -> K (.exit j) fr S)
 | e, fr, S => ∃ v, c = .ret v /\ (k (.ret v) = some r -> K e fr S)

variable {σ ρ β : Type} {nx bk : Nat -> Bool} {F : σ -> Fr} {T : σ -> List Ob} {Fx : σ -> Fr} {Tx : σ -> List Ob} {k : Out σ ρ -> Option β} {r : β} {K : Post}
theorem a3w {s : σ} {c : Stp σ ρ} (e : c = .nxt s) (hw : Wk S0 fr S (F s) (T s)) : a4H S0 nx bk F T Fx Tx k r K c .normal fr S := ⟨s, e, hw⟩
theorem c6N {s : σ} {c : Stp σ ρ} {j} (e : c = .brk s) (hj : nx j = false) (hb : bk j = true) (hw : Wk S0 fr S (Fx s) (Tx s)) : a4H S0 nx bk F T Fx Tx k r K c (.exit j) fr S := by
 show if nx j = true then _ else if bk j = true then _ else _
 rw [if_neg (by rw [hj]; decide), if_pos hb]; exact ⟨s, e, hw⟩
theorem c6O {v : ρ} {c : Stp σ ρ} (e : c = .ret v) (h : k (.ret v) = some r -> K .ret fr S) : a4H S0 nx bk F T Fx Tx k r K c .ret fr S := ⟨v, e, h⟩

theorem b3Q {a : FC} {id : Nat} (body : σ -> Option (Stp σ ρ)) {n : Nat} {s0 : σ} (F : σ -> Fr) (T : σ -> List Ob) (h : (a0V body n s0).bind k = some r)
  (hw : Wk S0 fr S (F s0) (T s0))
  (hb : ∀ s c, body s = some c -> VT P S0 ow a (F s) (T s) (a4H S0 (fun _ => false) (fun j => j == id) F T F T k r K c))
  (hx : ∀ s fr' S', k (.fin s) = some r -> Wk S0 fr' S' (F s) (T s) -> K .normal fr' S') : VT P S0 ow (.block id (.loop a)) fr S K := by
 refine p5 (b0k (ι := Nat × σ) (fun i => F i.2) (fun i => T i.2) (fun i => (a0V body i.1 i.2).bind k = some r) (fun i => i.1) (n, s0) h hw (fun i hi => ?_))
 obtain ⟨n, s⟩ := i
 simp only at hi ⊢
 cases n with
 | zero => simp [a0V] at hi
 | succ n =>
   simp only [a0V] at hi
   cases hc : body s with
   | none => rw [hc] at hi; cases hi
   | some c =>
     rw [hc] at hi
     refine a0T (fun e fr' S' hk => ?_) (hb s c hc)
     cases e with
     | normal =>
       obtain ⟨s', rfl, hw'⟩ := hk
       exact ⟨(n, s'), hi, Nat.lt_succ_self _, hw'⟩
     | exit j =>
       replace hk : if (j == id) = true then ∃ s, c = .brk s /\ Wk S0 fr' S' (F s) (T s) else ∃ v, c = .ret v /\ (k (.ret v) = some r -> K (.exit j) fr' S') := hk
       show Post.blk id K (.exit j) fr' S'
       rw [a4C]
       by_cases hj : j = id
       ·rw [if_pos hj]; rw [if_pos (by simpa using hj)] at hk
        obtain ⟨s', rfl, hw'⟩ := hk
        exact hx s' _ _ hi hw'
       ·rw [if_neg hj]; rw [if_neg (by simpa using hj)] at hk
        obtain ⟨v, rfl, hv⟩ := hk
        exact hv hi
     | ret => obtain ⟨v, rfl, hv⟩ := hk; exact hv hi
     | goto l => obtain ⟨v, rfl, hv⟩ := hk; exact hv hi
     | panic l => obtain ⟨v, rfl, hv⟩ := hk; exact hv hi
     | outgrown => obtain ⟨v, rfl, hv⟩ := hk; exact hv hi

theorem b6p {x : Int} (h : -9223372036854775808 <= x /\ x <= 9223372036854775807) : I64 x = x := p4 h

theorem b3c {tc ti tn tj id id2 : Nat} {B : FC} {G : Fr} {T' : List Ob} {i : Nat} {n : Int} {K0 : Post} (h1 : ti ≠ tn) (hn : n <= 4611686018427387904)
  (hB : (i : Int) < n -> VT P S0 ow B ((tc, .bool true) :: (ti, .int .i64 i) :: (tn, .int .i64 n) :: G) T' (fun e fr' S' => match e with
   | .normal => ∃ G2 T2, Wk S0 fr' S' ((ti, .int .i64 i) :: G2) T2 /\ ∀ fr3, (∀ t, Fr.get fr3 t = if t = ti then .int .i64 ((i : Int) + 1) else if t = tj then .int .i64 ((i : Int) + 1) else Fr.get G2 t) -> K0 .normal fr3 T2
   | e => Post.blk id2 (fun e fr' S' => match e with
     | .normal => ∃ G2 T2, Wk S0 fr' S' ((ti, .int .i64 i) :: G2) T2 /\ ∀ fr3, (∀ t, Fr.get fr3 t = if t = ti then .int .i64 ((i : Int) + 1) else if t = tj then .int .i64 ((i : Int) + 1) else Fr.get G2 t) -> K0 .normal fr3 T2
     | e => K0 e fr' S') e fr' S'))
  (hE : ¬ (i : Int) < n -> K0 (.exit id) ((tc, .bool false) :: (ti, .int .i64 i) :: (tn, .int .i64 n) :: G) T') :
  VT P S0 ow (.seq (.reg [⟨some tc, none, .op (.bin .none .lss (.t ti) (.t tn))⟩] []) (.seq (.cond (.t tc) .skip (.exit id)) (.seq (.block id2 B) (.reg [⟨some tj, none, .op (.bin .none .add (.t ti) (.v (.int .i64 1)))⟩, ⟨some ti, none, .op (.mv (.t tj))⟩] []))))
   ((ti, .int .i64 i) :: (tn, .int .i64 n) :: G) T' K0 := by
 refine c7 (a8 (f4 (v := .bool (decide ((i : Int) < n))) ?_ rfl (a7 (d7 ?_))))
 ·simp only [opV, ev, get_cons, if_true, if_neg (Ne.symm h1), b3u, pv, a2Y]; rfl
 refine c7 (E_cs (t := decide ((i : Int) < n)) (by simp [ev, get_cons]) (fun ht => g5 (d7 ?_)) (fun hf => a3f ?_))
 ·rw [ht]
  simp only [decide_eq_true_eq] at ht
  refine c7 (p5 ?_)
  have hinc : ∀ {fr' : Fr} {S' : List Ob} {G2 : Fr} {T2 : List Ob}, Wk S0 fr' S' ((ti, .int .i64 i) :: G2) T2 -> (∀ fr3, (∀ t, Fr.get fr3 t = if t = ti then .int .i64 ((i : Int) + 1) else if t = tj then .int .i64 ((i : Int) + 1) else Fr.get G2 t) -> K0 .normal fr3 T2) ->
    Post.thn (fun fr' S' => ∃ F T, Wk S0 fr' S' F T /\ VT P S0 ow (.reg [⟨some tj, none, .op (.bin .none .add (.t ti) (.v (.int .i64 1)))⟩, ⟨some ti, none, .op (.mv (.t tj))⟩] []) F T K0) K0 .normal fr' S' := fun hw hk => by
   refine s9 hw (a8 (f4 (v := .int .i64 ((i : Int) + 1)) ?_ rfl (n9 (v' := .int .i64 ((i : Int) + 1)) (by simp [ev, get_cons]) (a7 (hk _ (fun t => ?_))))))
   ·simp only [opV, ev, get_cons, if_true, b3u, pv, a2Y, Option.map_some]
    rw [p4 zO]
   ·simp only [get_cons]
    split
    ·rfl
    ·split
     ·rfl
     ·rfl
  refine a0T (fun e fr' S' hk => ?_) (hB ht)
  cases e with
  | normal => obtain ⟨G2, T2, hw, hk⟩ := hk; exact hinc hw hk
  | exit j =>
    replace hk : Post.blk id2 _ (.exit j) fr' S' := hk
    rw [a4C] at hk
    show Post.blk id2 _ (.exit j) fr' S'
    rw [a4C]
    split
    ·rename_i hj; rw [if_pos hj] at hk
     obtain ⟨G2, T2, hw, hk⟩ := hk; exact hinc hw hk
    ·rename_i hj; rw [if_neg hj] at hk; exact hk
  | _ => exact hk
 ·rw [hf]
  simp only [decide_eq_false_iff_not] at hf
  exact hE hf

theorem a8v {S0 S : List Ob} {fr fr' : Fr} (h : ∀ t, Fr.get fr' t = Fr.get fr t \/ Fr.get fr' t = .junk) : Wk S0 fr S fr' S :=
 GWk.refl.wk (fun t => by rcases h t with e | e <;> rw [e] <;> first | exact .refl _ | exact .junk _)

theorem b6q {tc ti tn tj id id2 : Nat} {B : FC} (body : Nat -> σ -> Option (Stp σ ρ)) {n : Int} {s0 : σ} (F : σ -> Fr) (T : σ -> List Ob) (h : (rni body n s0).bind k = some r)
  (h1 : ti ≠ tn) (h2 : tj ≠ tn) (hF : ∀ s, Fr.get (F s) tj = .junk /\ Fr.get (F s) ti = .junk /\ Fr.get (F s) tn = .junk /\ Fr.get (F s) tc = .junk)
  (hw : Wk S0 fr S ((ti, .int .i64 0) :: (tn, .int .i64 n) :: F s0) (T s0))
  (hb : ∀ (i : Nat) s c, (i : Int) < n -> body i s = some c -> VT P S0 ow B ((tc, .bool true) :: (ti, .int .i64 i) :: (tn, .int .i64 n) :: F s) (T s)
   (a4H S0 (fun j => j == id2) (fun j => j == id) (fun s => (ti, .int .i64 i) :: (tn, .int .i64 n) :: F s) T F T k r K c))
  (hx : ∀ s fr' S', k (.fin s) = some r -> Wk S0 fr' S' (F s) (T s) -> K .normal fr' S') :
  VT P S0 ow (.block id (.loop (.seq (.reg [⟨some tc, none, .op (.bin .none .lss (.t ti) (.t tn))⟩] []) (.seq (.cond (.t tc) .skip (.exit id)) (.seq (.block id2 B) (.reg [⟨some tj, none, .op (.bin .none .add (.t ti) (.v (.int .i64 1)))⟩, ⟨some ti, none, .op (.mv (.t tj))⟩] [])))))) fr S K := by
 unfold rni at h
 split at h
 case isFalse => cases h
 rename_i hn
 refine p5 (b0k (ι := Nat × σ) (fun i => (ti, .int .i64 i.1) :: (tn, .int .i64 n) :: F i.2) (fun i => T i.2) (fun i => i.1 <= n.toNat /\ (a0n body (n.toNat - i.1) i.1 i.2).bind k = some r) (fun i => n.toNat - i.1) (0, s0) ⟨by simp, by simpa using h⟩ hw (fun i hi => ?_))
 obtain ⟨i, s⟩ := i
 simp only at hi ⊢
 obtain ⟨hi0, hi⟩ := hi
 refine b3c h1 hn (fun hlt => ?_) (fun hge => ?_)
 ·have e1 : n.toNat - i = (n.toNat - (i + 1)) + 1 := by omega
  rw [e1] at hi
  simp only [a0n] at hi
  cases hc : body i s with
  | none => rw [hc] at hi; cases hi
  | some c =>
    rw [hc] at hi
    have hnext : ∀ s', c = .nxt s' -> ∀ fr3, (∀ t, Fr.get fr3 t = if t = ti then .int .i64 ((i : Int) + 1) else if t = tj then .int .i64 ((i : Int) + 1) else Fr.get ((tn, .int .i64 n) :: F s') t) ->
      Post.thn (fun fr' S' => ∃ i' : Nat × σ, (i'.1 <= n.toNat /\ (a0n body (n.toNat - i'.1) i'.1 i'.2).bind k = some r) /\ n.toNat - i'.1 < n.toNat - i /\ Wk S0 fr' S' ((ti, .int .i64 i'.1) :: (tn, .int .i64 n) :: F i'.2) (T i'.2)) (Post.blk id K) .normal fr3 (T s') := fun s' e fr3 hg => by
     subst e
     refine ⟨(i + 1, s'), ⟨by simp only; omega, hi⟩, by simp only; omega, a8v (fun t => ?_)⟩
     rw [hg]
     rw [get_cons]
     simp only
     by_cases ht : t = ti
     ·left; rw [if_pos ht, if_pos ht]; rfl
     ·rw [if_neg ht, if_neg ht]
      by_cases ht2 : t = tj
      ·right; rw [ht2, get_cons, if_neg h2, (hF s').1]
      ·left; rw [if_neg ht2]
    refine a0T (fun e fr' S' hk => ?_) (hb i s c hlt hc)
    cases e with
    | normal =>
      obtain ⟨s', e, hw'⟩ := hk
      exact ⟨_, _, hw', hnext s' e⟩
    | exit j =>
      show Post.blk id2 _ (.exit j) fr' S'
      rw [a4C]
      replace hk : if (j == id2) = true then ∃ s', c = .nxt s' /\ Wk S0 fr' S' ((ti, .int .i64 i) :: (tn, .int .i64 n) :: F s') (T s') else if (j == id) = true then ∃ s, c = .brk s /\ Wk S0 fr' S' (F s) (T s) else ∃ v, c = .ret v /\ (k (.ret v) = some r -> K (.exit j) fr' S') := hk
      by_cases hj : j = id2
      ·rw [if_pos hj]; rw [if_pos (by simpa using hj)] at hk
       obtain ⟨s', e, hw'⟩ := hk
       exact ⟨_, _, hw', hnext s' e⟩
      ·rw [if_neg hj]; rw [if_neg (by simpa using hj)] at hk
       show Post.blk id K (.exit j) fr' S'
       rw [a4C]
       by_cases hj2 : j = id
       ·rw [if_pos hj2]; rw [if_pos (by simpa using hj2)] at hk
        obtain ⟨s', rfl, hw'⟩ := hk
        exact hx s' _ _ hi hw'
       ·rw [if_neg hj2]; rw [if_neg (by simpa using hj2)] at hk
        obtain ⟨v, rfl, hv⟩ := hk
        exact hv hi
    | ret => obtain ⟨v, rfl, hv⟩ := hk; exact hv hi
    | goto l => obtain ⟨v, rfl, hv⟩ := hk; exact hv hi
    | panic l => obtain ⟨v, rfl, hv⟩ := hk; exact hv hi
    | outgrown => obtain ⟨v, rfl, hv⟩ := hk; exact hv hi
 ·have e1 : n.toNat - i = 0 := by omega
  rw [e1] at hi
  simp only [a0n] at hi
  show Post.blk id K (.exit id) _ _
  rw [a4C, if_pos rfl]
  refine hx s _ _ hi (a8v (fun t => ?_))
  obtain ⟨_, f1, f2, f3⟩ := hF s
  simp only [get_cons]
  by_cases t1 : t = tc
  ·right; rw [t1]; exact f3
  ·by_cases t2 : t = ti
   ·right; rw [t2]; exact f1
   ·by_cases t3 : t = tn
    ·right; rw [t3]; exact f2
    ·left; rw [if_neg t1, if_neg t2, if_neg t3]

theorem a4I {α : Type} (body : Nat -> α -> σ -> Option (Stp σ ρ)) (xs : List α) : ∀ (m i : Nat) (s : σ), xs.length - i = m -> a0n (fun i s => xs[i]?.bind fun x => body i x s) m i s = a0m body (xs.drop i) i s
 | 0, i, s, h => by rw [List.drop_eq_nil_of_le zO]; rfl
 | m + 1, i, s, h => by
   have hi : i < xs.length := by omega
   rw [List.drop_eq_getElem_cons hi]
   simp only [a0n, a0m]
   rw [List.getElem?_eq_getElem hi]
   simp only [Option.bind_some]
   split
   ·rfl
   ·exact a4I body xs m (i + 1) _ zO
   ·rfl
   ·rfl
theorem b3R {α : Type} (body : Nat -> α -> σ -> Option (Stp σ ρ)) (xs : List α) (s : σ) : rng body xs s = rni (fun i s => xs[i]?.bind fun x => body i x s) xs.length s := by
 unfold rng rni
 by_cases h : xs.length <= 4611686018427387904
 ·rw [if_pos h, if_pos zO]
  have := a4I body xs xs.length 0 s zO
  simpa using this.symm
 ·rw [if_neg h, if_neg zO]

theorem c2w {α : Type} {tc ti tn tj id id2 : Nat} {B : FC} (body : Nat -> α -> σ -> Option (Stp σ ρ)) {xs : List α} {s0 : σ} (F : σ -> Fr) (T : σ -> List Ob) (h : (rng body xs s0).bind k = some r)
  (h1 : ti ≠ tn) (h2 : tj ≠ tn) (hF : ∀ s, Fr.get (F s) tj = .junk /\ Fr.get (F s) ti = .junk /\ Fr.get (F s) tn = .junk /\ Fr.get (F s) tc = .junk)
  (hw : Wk S0 fr S ((ti, .int .i64 0) :: (tn, .int .i64 xs.length) :: F s0) (T s0))
  (hb : ∀ (i : Nat) x s c, xs[i]? = some x -> i < xs.length -> body i x s = some c -> VT P S0 ow B ((tc, .bool true) :: (ti, .int .i64 i) :: (tn, .int .i64 xs.length) :: F s) (T s)
   (a4H S0 (fun j => j == id2) (fun j => j == id) (fun s => (ti, .int .i64 i) :: (tn, .int .i64 xs.length) :: F s) T F T k r K c))
  (hx : ∀ s fr' S', k (.fin s) = some r -> Wk S0 fr' S' (F s) (T s) -> K .normal fr' S') :
  VT P S0 ow (.block id (.loop (.seq (.reg [⟨some tc, none, .op (.bin .none .lss (.t ti) (.t tn))⟩] []) (.seq (.cond (.t tc) .skip (.exit id)) (.seq (.block id2 B) (.reg [⟨some tj, none, .op (.bin .none .add (.t ti) (.v (.int .i64 1)))⟩, ⟨some ti, none, .op (.mv (.t tj))⟩] [])))))) fr S K := by
 rw [b3R] at h
 refine b6q _ F T h h1 h2 hF hw (fun i s c hi hc => ?_) hx
 obtain ⟨x, hx1, hx2⟩ := b9 hc
 exact hb i x s c hx1 zO hx2
end
section
variable {P : Program} {S0 : List Ob} {ow : List Nat} {fr : Fr} {S : List Ob} {log : List LE}
theorem xC {c a b} {K : Post} {t : Bool} {β : Type} {A B r : β} (h : (if t = true then A else B) = r) (h1 : A = r -> VT P S0 ow a fr S K) (h2 : B = r -> VT P S0 ow b fr S K) (e : ev (Fr.get fr) c = .bool t := by exact rfl) : VT P S0 ow (.cond c a b) fr S K :=
 E_cs e (fun hb => h1 (by rw [b3O hb] at h; exact h)) (fun hb => h2 (by rw [b3P hb] at h; exact h))
theorem xT {d t c rs} {K : Fr -> List Ob -> List LE -> Prop} {b : Bool} {β : Type} {A B r : β} (h : (if b = true then A else B) = r)
  (h1 : A = r -> VTops P ow (⟨d, none, c⟩ :: rs) (b2k fr t (.bool true)) S log K) (h2 : B = r -> VTops P ow rs (a5j (b2k fr t (.bool (!true))) d (.tup [])) S (.acc [] none :: log) K) (e : Fr.get fr t = .bool b := by exact rfl) : VTops P ow (⟨d, some (t, true), c⟩ :: rs) fr S log K :=
 b6o e rfl rfl (fun hb => h1 (by rw [b3O hb] at h; exact h)) (fun hb => h2 (by rw [b3P hb] at h; exact h))
theorem xF {d t c rs} {K : Fr -> List Ob -> List LE -> Prop} {b : Bool} {β : Type} {A B r : β} (h : (if b = true then A else B) = r)
  (h1 : B = r -> VTops P ow (⟨d, none, c⟩ :: rs) (b2k fr t (.bool false)) S log K) (h2 : A = r -> VTops P ow rs (a5j (b2k fr t (.bool (!false))) d (.tup [])) S (.acc [] none :: log) K) (e : Fr.get fr t = .bool b := by exact rfl) : VTops P ow (⟨d, some (t, false), c⟩ :: rs) fr S log K :=
 b6o e rfl rfl (fun hb => h1 (by rw [b3P hb] at h; exact h)) (fun hb => h2 (by rw [b3O hb] at h; exact h))
theorem oQ {d d2 r rs} {K : Fr -> List Ob -> List LE -> Prop} {v} (v') (h : VTops P ow rs ((d2, v') :: (d, v') :: fr) S (.acc [] none :: .acc [] none :: log) K) (e : opV (ow.contains d) r (Fr.get fr) S = some (v, [], none) := by exact rfl) (e2 : v = v' := by exact rfl) : VTops P ow (⟨some d, none, .op r⟩ :: ⟨some d2, none, .op (.mv (.t d))⟩ :: rs) fr S log K := f4 e e2 (n9 (by simp [ev, get_cons]) h)
end
abbrev iZ (n : Int) : AV := .int .i64 n
abbrev sV {α : Type} (k : Nat) (f : α -> AV) (l : List α) : AV := .sl false k (List.map f l)
abbrev pC (x : AV) (k : Nat) : AV := .cptr x.cells k
theorem wF {S0 S : List Ob} {fr fr' : Fr} (h : leF none fr fr' := by repeat (first | exact trivial | refine ⟨.refl _, ?_⟩)) : Wk S0 fr S fr' S := a5n h
theorem aQ {p q : Prop} (h : q) (e : q -> p := by intro h; (repeat (first | refine x4 ?_ | refine c7 ?_ | refine a8 ?_ | refine g5 ?_)); exact h) : p := e h
theorem aE {p q : Prop} (h : q) (e : q -> p := by intro h; (repeat (first | refine b6h ?_ | refine c2o ?_ | refine c2p rfl ?_ | refine k7 ?_ | refine w6 ?_ | refine a2Q ?_)); exact h) : p := e h
end Go.Ab

/- Lists as objects and as frozen values: the steps. -/
namespace Go.Ab
open Go.RowKit

def flat {α : Type} (f : α -> AV) (l : List α) : List AV := l.flatMap fun x => (f x).cells

structure Enc {α : Type} (f : α -> AV) (esh : Option Nat) : Prop where
 sz : ∀ x, (f x).cells.length = d9 esh
 one : ∀ x, (f x).cells.all AV.one = true
 form : ∀ x, match esh with | none => (f x).cells = [f x] | some _ => f x = .agg (f x).cells
 blw : ∀ x n, (f x).blw n = true

section
variable {α : Type} {f : α -> AV} {esh : Option Nat}
theorem w4 (l m : List α) : flat f (l ++ m) = flat f l ++ flat f m := by simp [flat]
theorem y9 (x : α) (l : List α) : flat f (x :: l) = (f x).cells ++ flat f l := rfl
theorem a8w : flat f [] = [] := rfl
theorem a7a (l : List α) : (l.map f).flatMap AV.cells = flat f l := by simp [flat, List.flatMap_map]
theorem Enc.length (he : Enc f esh) : ∀ l : List α, (flat f l).length = l.length * d9 esh
 | [] => by simp [flat]
 | x :: l => by rw [y9, List.length_append, he.sz, he.length l, List.length_cons, Nat.add_mul]; omega
theorem Enc.all (he : Enc f esh) : ∀ l : List α, (flat f l).all AV.one = true
 | [] => rfl
 | x :: l => by rw [y9, List.all_append, he.one, he.all l]; rfl
theorem Enc.blwf (he : Enc f esh) (n : Nat) : ∀ l : List α, a0S n (flat f l) = true
 | [] => rfl
 | x :: l => by
   rw [y9]
   have : ∀ a b : List AV, a0S n a = true -> a0S n b = true -> a0S n (a ++ b) = true := fun a b h1 h2 => by
    rw [a0W] at *; intro x hx; rcases List.mem_append.1 hx with h | h; exact h1 _ h; exact h2 _ h
   exact this _ _ (a1e (he.blw x n)) (he.blwf n l)
theorem Enc.blwm (he : Enc f esh) (n : Nat) (l : List α) : a0S n (l.map f) = true := b2g (fun a => he.blw a n) l
theorem Enc.drop (he : Enc f esh) : ∀ (l : List α) (i : Nat), (flat f l).drop (i * d9 esh) = flat f (l.drop i)
 | l, 0 => by simp
 | [], i + 1 => by simp [flat]
 | x :: l, i + 1 => by
   rw [y9, Nat.add_mul, Nat.one_mul, Nat.add_comm, <- List.drop_drop, List.drop_left' (he.sz x), he.drop l i]; rfl
theorem Enc.take (he : Enc f esh) : ∀ (l : List α) (i : Nat), (flat f l).take (i * d9 esh) = flat f (l.take i)
 | l, 0 => by simp [flat]
 | [], i + 1 => by simp [flat]
 | x :: l, i + 1 => by
   rw [y9, Nat.add_mul, Nat.one_mul, Nat.add_comm (i * d9 esh), List.take_succ_cons, y9, <- he.take l i]
   rw [<- he.sz x, List.take_append, List.take_of_length_le zO]
   congr 2; omega
theorem Enc.elems (he : Enc f esh) (l : List α) : q8 esh l.length (flat f l) = l.map f := by
 have hf := he.form
 have hs := he.sz
 cases esh with
 | none =>
   have : flat f l = l.map f := by
    induction l with
    | nil => rfl
    | cons x l ih => rw [y9, hf x, ih]; rfl
   rw [this]; exact List.take_of_length_le zS
 | some n =>
   show a1s n l.length (flat f l) = _
   clear he
   induction l with
   | nil => rfl
   | cons x l ih =>
     have hx : (f x).cells.length = n := hs x
     simp only [List.length_cons, a1s, y9]
     rw [List.take_left' hx, List.drop_left' hx, ih, <- hf x]; rfl
theorem Enc.repl (he : Enc f esh) (x : α) (n : Nat) : repl n (f x).cells = flat f (List.replicate n x) := by
 unfold Ab.repl flat
 induction n with
 | zero => rfl
 | succ n ih => rw [List.replicate_succ, List.replicate_succ, List.flatten_cons, ih]; rfl
theorem Enc.at (he : Enc f esh) {l : List α} {n : Nat} {y : α} (hy : l[n]? = some y) : ∃ a b, flat f l = a ++ (f y).cells ++ b /\ a.length = n * d9 esh /\ l = l.take n ++ y :: l.drop (n + 1) := by
 obtain ⟨hn, rfl⟩ := List.getElem?_eq_some_iff.1 hy
 have h1 : l = l.take n ++ l[n] :: l.drop (n + 1) := by rw [<- List.drop_eq_getElem_cons hn, List.take_append_drop]
 refine ⟨flat f (l.take n), flat f (l.drop (n + 1)), ?_, ?_, h1⟩
 ·conv => lhs; rw [h1]
  rw [w4, y9, List.append_assoc]
 ·rw [he.length, List.length_take, Nat.min_eq_left zO]

theorem a6m {a c b : List AV} {sh : Option Nat} {fo : Nat} {v : AV} (h : w9 sh c fo = some v) : w9 sh (a ++ c ++ b) (a.length + fo) = some v := by
 unfold w9 at *
 cases sh with
 | none =>
   simp only at h ⊢
   split at h
   ·rename_i hlt
    cases h
    rw [if_pos zE]
    congr 1
    simp only [List.getD_eq_getElem?_getD]
    rw [List.append_assoc, List.getElem?_append_right zO, List.getElem?_append_left zO]
    congr 3; omega
   ·cases h
 | some n =>
   simp only at h ⊢
   split at h
   ·rename_i hlt
    cases h
    rw [if_pos zE]
    congr 2
    rw [List.append_assoc, <- List.drop_drop, List.drop_left, List.drop_append_of_le_length zO, List.take_append_of_le_length zE]
   ·cases h

theorem a4J : ∀ (xs : List AV) {a c b : List AV} {fo : Nat}, fo + xs.length <= c.length -> splice (a ++ c ++ b) (a.length + fo) xs = a ++ splice c fo xs ++ b := by
 intro xs
 induction xs with
 | nil => intro a c b fo _; simp [splice]
 | cons x xs ih =>
   intro a c b fo h
   simp only [splice]
   simp only [List.length_cons] at h
   rw [show (a ++ c ++ b).set (a.length + fo) x = a ++ c.set fo x ++ b by
    rw [List.append_assoc, List.set_append_right _ _ zO, List.set_append_left _ _ zO, <- List.append_assoc]
    congr 3; omega]
   rw [show a.length + fo + 1 = a.length + (fo + 1) by omega]
   exact ih zE
end

def awL : List AV -> List AV -> Prop
 | [], [] => True
 | x :: xs, y :: ys => AVw x y /\ awL xs ys
 | _, _ => False
theorem a0J : ∀ {xs ys : List AV}, awL xs ys -> xs.length = ys.length
 | [], [], _ => rfl
 | _ :: xs, _ :: ys, h => congrArg (· + 1) (a0J h.2)
theorem a1w : ∀ {xs ys : List AV}, awL xs ys -> ∀ j (h1 : j < xs.length) (h2 : j < ys.length), AVw xs[j] ys[j]
 | [], _, _, j, h1, _ => by simp at h1
 | x :: xs, y :: ys, h, 0, _, _ => h.1
 | x :: xs, y :: ys, h, j + 1, h1, h2 => a1w h.2 j (by simpa using h1) (by simpa using h2)
theorem AVw.aggL {xs ys : List AV} (h : awL xs ys) : AVw (.agg xs) (.agg ys) := .agg (a0J h) (a1w h)
theorem AVw.tupL {xs ys : List AV} (h : awL xs ys) : AVw (.tup xs) (.tup ys) := .tup (a0J h) (a1w h)
theorem AVw.cptrL {xs ys : List AV} {off} (h : awL xs ys) : AVw (.cptr xs off) (.cptr ys off) := .cptr (a0J h) (a1w h)
theorem AVw.ex {sz} {xs : List AV} : AVw (.sl true sz xs) (.sl false sz xs) := .sl (by intro e; cases e) rfl (fun _ _ _ => rfl) (fun _ _ _ _ _ _ => .refl _)

section
variable {P : Program} {S0 : List Ob} {ow : List Nat} {fr : Fr} {S : List Ob} {log : List LE} {α : Type} {f : α -> AV} {esh : Option Nat}

theorem g8 {d x i rs} {K : Fr -> List Ob -> List LE -> Prop} {ex k n} {ys : List α} {y : α} (e : ev (Fr.get fr) x = .sl ex (d9 esh) (ys.map f)) (e1 : ev (Fr.get fr) i = .int k n) (hy : j9 ys n = some y)
  (h : VTops P ow rs ((d, .cptr (f y).cells 0) :: fr) S (.acc [] none :: log) K) : VTops P ow (⟨some d, none, .op (.iad none esh x i)⟩ :: rs) fr S log K := by
 obtain ⟨h1, h2, h3⟩ := g9 hy
 refine c2q e e1 rfl rfl ⟨h1, h2⟩ (fun y' hy' => ?_)
 rw [h3] at hy'; cases hy'
 exact h
theorem a2J {d x i rs} {K : Fr -> List Ob -> List LE -> Prop} {o ver off m k n} (e : ev (Fr.get fr) x = .ref o ver off m esh) (e1 : ev (Fr.get fr) i = .int k n) (hn : 0 <= n /\ n < m)
  (h : VTops P ow rs ((d, .ptr o ver (off + n.toNat * d9 esh)) :: fr) S (.acc [] none :: log) K) : VTops P ow (⟨some d, none, .op (.iad none esh x i)⟩ :: rs) fr S log K := by
 refine f4 (v := .ptr o ver (off + n.toNat * d9 esh)) ?_ rfl h
 simp only [opV, e, e1, b5Z]
 rw [if_pos ⟨trivial, hn.1, hn.2⟩]; rfl
theorem b0s {d a sh rs} {K : Fr -> List Ob -> List LE -> Prop} {o ver p n fo} {l : List α} {y : α} {v v' : AV} (he : Enc f esh) (e : ev (Fr.get fr) a = .ptr o ver p) (ho : hp S o = .arr ver (flat f l)) (hp : p = n * d9 esh + fo) (hy : l[n]? = some y)
  (hv : w9 sh (f y).cells fo = some v) (hw : AVw v v') (h : VTops P ow rs ((d, v') :: fr) S (.acc [o] none :: log) K) : VTops P ow (⟨some d, none, .op (.load sh a)⟩ :: rs) fr S log K := by
 obtain ⟨a', b, h1, h2, _⟩ := he.at hy
 refine x6 (v := v) (rd := [o]) (δ := none) ?_ hw rfl h
 simp only [opV, e, a6U]
 rw [show v9 S o ver = some (flat f l) by simp [v9, ho]]
 simp only [Option.bind_some]
 rw [hp, <- h2, h1, a6m hv]; rfl
theorem b2l {a x nn rs} {K : Fr -> List Ob -> List LE -> Prop} {o ver p n fo} {l : List α} {y y' : α} {S' : List Ob} {xv : AV} (he : Enc f esh) (e : ev (Fr.get fr) a = .ptr o ver p) (ex : ev (Fr.get fr) x = xv) (ho : hp S o = .arr ver (flat f l)) (hp : p = n * d9 esh + fo) (hy : l[n]? = some y)
  (hx : xv.cells.length = nn) (h1 : xv.cells.all AV.one = true) (hfit : fo + nn <= d9 esh) (hy' : (f y').cells = splice (f y).cells fo xv.cells) (hS : a0h S o (.arr ver (flat f (l.set n y'))) = S')
  (h : VTops P ow rs fr S' (.acc [o] (some o) :: log) K) : VTops P ow (⟨none, none, .op (.store nn a x)⟩ :: rs) fr S log K := by
 obtain ⟨a', b, q1, q2, q3⟩ := he.at hy
 have hn : n < l.length := (List.getElem?_eq_some_iff.1 hy).1
 refine a4E (v := .tup []) (rd := []) (δ := some (o, .arr ver (flat f (l.set n y')))) ?_ hS h
 simp only [opV, e, ex, a6V]
 rw [show v9 S o ver = some (flat f l) by simp [v9, ho]]
 simp only [Option.bind_some]
 have hl := he.length l
 have hle : n * d9 esh + d9 esh <= l.length * d9 esh := by rw [<- Nat.succ_mul]; exact Nat.mul_le_mul_right _ hn
 rw [if_pos ⟨hx, by omega, h1⟩]
 have e3 : splice (flat f l) p xv.cells = flat f (l.set n y') := by
  have hsz := he.sz y
  have : flat f (l.set n y') = a' ++ (f y').cells ++ b := by
   obtain ⟨a2, b2, r1, r2, _⟩ := he.at (l := l.set n y') (n := n) (y := y') (by simp [hn])
   have e4 : a2 = a' := by
    have t1 : (flat f (l.set n y')).take (n * d9 esh) = a2 := by rw [r1, List.append_assoc, List.take_left' r2]
    have t2 : (flat f l).take (n * d9 esh) = a' := by rw [q1, List.append_assoc, List.take_left' q2]
    rw [<- t1, <- t2, he.take, he.take]
    congr 1
    exact List.take_set_of_le zO
   have e5 : b2 = b := by
    have t1 : (flat f (l.set n y')).drop ((n + 1) * d9 esh) = b2 := by rw [r1, List.drop_left' (by rw [List.length_append, r2, he.sz, Nat.add_mul]; omega)]
    have t2 : (flat f l).drop ((n + 1) * d9 esh) = b := by rw [q1, List.drop_left' (by rw [List.length_append, q2, he.sz, Nat.add_mul]; omega)]
    rw [<- t1, <- t2, he.drop, he.drop]
    congr 1
    exact List.drop_set_of_lt zO
   rw [r1, e4, e5]
  rw [this, hy', hp, <- q2, q1]
  exact a4J _ zO
 rw [e3]
theorem b6r {d bytes s x rs} {K : Fr -> List Ob -> List LE -> Prop} {o ver : Nat} {l m : List α} {rdx : List Nat} {S' : List Ob} (he : Enc f esh) (e : ev (Fr.get fr) s = .ref o ver 0 l.length esh) (e2 : a8Z esh (ev (Fr.get fr) x) S = some (m.length, flat f m, rdx))
  (ho : hp S o = .arr ver (flat f l)) (hb : (l.length + m.length) * bytes <= 140737488355328 /\ l.length + m.length <= 140737488355328) (hS : a0h S o (.arr (ver + 1) (flat f (l ++ m))) = S')
  (h : VTops P ow rs ((d, .ref o (ver + 1) 0 (l ++ m).length esh) :: fr) S' (.acc (o :: o :: rdx) (some o) :: log) K) : VTops P ow (⟨some d, none, .op (.app esh bytes s x)⟩ :: rs) fr S log K := by
 refine y3 (v := .ref o (ver + 1) 0 (l ++ m).length esh) (rd := o :: rdx) (δ := some (o, .arr (ver + 1) (flat f (l ++ m)))) ?_ rfl hS h
 simp only [opV, b1E, e, e2, Option.bind_some, he.all, if_true]
 rw [if_pos ⟨trivial, hb.1, hb.2⟩]
 have e3 : (flat f l).take (l.length * d9 esh) = flat f l := List.take_of_length_le (by rw [he.length]; exact Nat.le_refl _)
 simp only [v9, ho, if_true, Option.map_some, List.drop_zero, e3, <- w4, List.length_append]
theorem u3 {ex} (m : List α) : a8Z esh (.sl ex (d9 esh) (m.map f)) S = some (m.length, flat f m, []) := by
 simp only [a8Z, if_true, List.length_map, a7a]
theorem b6s {d bytes s x rs} {K : Fr -> List Ob -> List LE -> Prop} {l m : List α} {rdx : List Nat} (he : Enc f esh) (how : ow.contains d = false) (e : (ev (Fr.get fr) s = .nils /\ l = []) \/ ev (Fr.get fr) s = .sl true (d9 esh) (l.map f)) (e2 : a8Z esh (ev (Fr.get fr) x) S = some (m.length, flat f m, rdx))
  (hb : (l.length + m.length) * bytes <= 140737488355328 /\ l.length + m.length <= 140737488355328)
  (h : VTops P ow rs ((d, .sl false (d9 esh) ((l ++ m).map f)) :: fr) S (.acc rdx none :: log) K) : VTops P ow (⟨some d, none, .op (.app esh bytes s x)⟩ :: rs) fr S log K := by
 have how' : d ∉ ow := by simpa using how
 by_cases hm : m = []
 ·subst hm
  rcases e with ⟨e, rfl⟩ | e
  ·refine x6 (v := .nils) (rd := rdx) (δ := none) ?_ (by simpa using AVw.nil) rfl h
   simp [opV, b1E, e, e2, a8w, how']
  ·refine x6 (v := .sl true (d9 esh) (l.map f)) (rd := rdx) (δ := none) ?_ (by simpa using AVw.ex) rfl h
   simp [opV, b1E, e, e2, a8w, how']
 ·have hm0 : m.length ≠ 0 := fun h => hm (List.eq_nil_of_length_eq_zero h)
  refine y3 (v := .sl false (d9 esh) ((l ++ m).map f)) (rd := rdx) (δ := none) ?_ rfl rfl h
  have hl := he.length (l ++ m)
  have hel := he.elems (l ++ m)
  have hal := he.all (l ++ m)
  rw [List.length_append] at hl hel
  rcases e with ⟨e, rfl⟩ | e
  ·simp only [List.nil_append, List.length_nil, Nat.zero_add] at *
   simp only [opV, b1E, e, e2, Option.bind_some, he.all, if_true, if_neg hm0]
   rw [if_pos hb]
   simp [a2n, a5D, he.all, how', hl, hel]
  ·simp only [opV, b1E, e, e2, Option.bind_some, he.all, if_true, if_neg hm0, List.length_map]
   rw [if_pos ⟨trivial, trivial, hb.1, hb.2⟩]
   simp only [a7a, <- w4, a2n, a5D, how]
   rw [if_pos ⟨by omega, hal⟩]
   simp only [Bool.false_eq_true, if_false, Option.map_some, hel]
theorem b6t {d x lo hi rs} {K : Fr -> List Ob -> List LE -> Prop} {ex} {l : List α} {a b : Nat} (e : ev (Fr.get fr) x = .sl ex (d9 esh) (l.map f)) (h1 : loN (evO (Fr.get fr) lo) = some a) (h2 : hiN l.length (evO (Fr.get fr) hi) = some b) (hab : a <= b /\ b <= l.length)
  (h : VTops P ow rs ((d, .sl false (d9 esh) (((l.take b).drop a).map f)) :: fr) S (.acc [] none :: log) K) : VTops P ow (⟨some d, none, .op (.slc esh x lo hi none)⟩ :: rs) fr S log K := by
 refine f4 (v := .sl false (d9 esh) (((l.take b).drop a).map f)) ?_ rfl h
 simp only [opV, e, b6a, h1, List.length_map, h2]
 rw [if_pos ⟨trivial, hab.1, hab.2⟩]
 rw [List.map_drop, List.map_take]; rfl
theorem a5J {d x lo hi rs} {K : Fr -> List Ob -> List LE -> Prop} {o ver off n a b : Nat} (e : ev (Fr.get fr) x = .ref o ver off n esh) (h1 : loN (evO (Fr.get fr) lo) = some a) (h2 : hiN n (evO (Fr.get fr) hi) = some b) (hab : a <= b /\ b <= n /\ (a = 0 \/ a < b))
  (h : VTops P ow rs ((d, .ref o ver (off + a * d9 esh) (b - a) esh) :: fr) S (.acc [] none :: log) K) : VTops P ow (⟨some d, none, .op (.slc esh x lo hi none)⟩ :: rs) fr S log K := by
 refine f4 (v := .ref o ver (off + a * d9 esh) (b - a) esh) ?_ rfl h
 simp only [opV, e, b6a, h1, h2]
 rw [if_pos ⟨trivial, hab.1, hab.2.1, hab.2.2⟩]; rfl
theorem b6u {d} {bytes : Nat} {z l c rs} {K : Fr -> List Ob -> List LE -> Prop} {k k' n n'} {S' : List Ob} {x : α} (he : Enc f esh) (how : ow.contains d = true) (e : ev (Fr.get fr) l = .int k n) (e1 : ev (Fr.get fr) c = .int k' n') (hz : (f x).cells = z) (hn : 0 <= n /\ n <= n' /\ n' * bytes <= 281474976710656 /\ n' <= 281474976710656)
  (hS : a0h S S.length (.arr 0 (flat f (List.replicate n.toNat x))) = S')
  (h : VTops P ow rs ((d, .ref S.length 0 0 n.toNat esh) :: fr) S' (.acc [S.length] (some S.length) :: log) K) : VTops P ow (⟨some d, none, .op (.mksl esh bytes z l c)⟩ :: rs) fr S log K := by
 refine y3 (v := .ref S.length 0 0 n.toNat esh) (rd := []) (δ := some (S.length, .arr 0 (flat f (List.replicate n.toNat x)))) ?_ rfl hS h
 simp only [opV, b3w, e, e1]
 rw [if_pos hn]
 subst hz
 have how' : d ∈ ow := by simpa using how
 simp [a2n, he.repl, he.all, he.length, how']
theorem a5K {d x rs} {K : Fr -> List Ob -> List LE -> Prop} {o ver off n e0} (e : ev (Fr.get fr) x = .ref o ver off n e0)
  (h : VTops P ow rs ((d, .int .i64 n) :: fr) S (.acc [] none :: log) K) : VTops P ow (⟨some d, none, .op (.len .sl x)⟩ :: rs) fr S log K := by
 refine f4 (v := .int .i64 n) ?_ rfl h
 simp [opV, e, c1W, pv]
end
end Go.Ab

namespace Go.Ab
open Go.RowKit
def avI (k : IntKind) (x : Int) : AV := .int k x
def avB (x : Bool) : AV := .bool x
def avS (x : ByteArray) : AV := .str x
def avL {α : Type} (sz : Nat) (f : α -> AV) (l : List α) : AV := .sl false sz (l.map f)
def avP {α : Type} (f : α -> AV) : Option α -> AV
 | none => .nilp
 | some x => .cptr (f x).cells 0
theorem d8 (k : IntKind) : Enc (avI k) none := ⟨fun _ => rfl, fun _ => rfl, fun _ => rfl, fun _ _ => rfl⟩
theorem a0C : Enc avB none := ⟨fun _ => rfl, fun _ => rfl, fun _ => rfl, fun _ _ => rfl⟩
theorem v6 {α : Type} {f : α -> AV} {esh : Option Nat} (he : Enc f esh) (sz : Nat) : Enc (avL sz f) none := ⟨fun _ => rfl, fun _ => rfl, fun _ => rfl, fun x n => he.blwm n x⟩
theorem encP {α : Type} {f : α -> AV} {esh : Option Nat} (he : Enc f esh) : Enc (avP f) none :=
 ⟨fun x => by cases x <;> rfl, fun x => by cases x <;> rfl, fun x => by cases x <;> rfl, fun x n => by cases x with | none => rfl | some x => exact a1e (he.blw x n)⟩

def c2b (s : ByteArray) (i : Int) : Option Int := if 0 <= i /\ i < s.size then some ((s[i.toNat]?.getD 0).toNat : Int) else none
def a4n {α : Type} (l : List α) (lo hi : Int) : Option (List α) := if 0 <= lo /\ lo <= hi /\ hi <= l.length then some ((l.take hi.toNat).drop lo.toNat) else none
def a2R {α : Type} (bytes : Nat) (l m : List α) : Option (List α) := if (l.length + m.length) * bytes <= 140737488355328 /\ l.length + m.length <= 140737488355328 then some (l ++ m) else none
def mkL {α : Type} (bytes : Nat) (n n' : Int) (x : α) : Option (List α) := if 0 <= n /\ n <= n' /\ n' * bytes <= 281474976710656 /\ n' <= 281474976710656 then some (List.replicate n.toNat x) else none
theorem b0t {s i v} (h : c2b s i = some v) : (0 <= i /\ i < s.size) /\ v = ((s[i.toNat]?.getD 0).toNat : Int) := by
 unfold c2b at h; split at h
 ·cases h; exact ⟨by assumption, rfl⟩
 ·cases h
theorem a3i {α : Type} {l : List α} {lo hi v} (h : a4n l lo hi = some v) : (0 <= lo /\ lo <= hi /\ hi <= l.length) /\ v = (l.take hi.toNat).drop lo.toNat := by
 unfold a4n at h; split at h
 ·cases h; exact ⟨by assumption, rfl⟩
 ·cases h
theorem b0u {α : Type} {bytes} {l m v : List α} (h : a2R bytes l m = some v) : ((l.length + m.length) * bytes <= 140737488355328 /\ l.length + m.length <= 140737488355328) /\ v = l ++ m := by
 unfold a2R at h; split at h
 ·cases h; exact ⟨by assumption, rfl⟩
 ·cases h
theorem a8x {α : Type} {bytes n n'} {x : α} {v} (h : mkL bytes n n' x = some v) : (0 <= n /\ n <= n' /\ n' * bytes <= 281474976710656 /\ n' <= 281474976710656) /\ v = List.replicate n.toNat x := by
 unfold mkL at h; split at h
 ·cases h; exact ⟨by assumption, rfl⟩
 ·cases h
theorem y5 {α : Type} {l : List α} {i : Nat} {y : α} (h : l[i]? = some y) : j9 l (i : Int) = some y := by
 unfold j9; rw [if_pos zO]; simpa using h
theorem a7N {k n} (h : 0 <= n) : loN (some (.int k n)) = some n.toNat := by simp [loN, h]
theorem a0U {k n len} (h : 0 <= n) : hiN len (some (.int k n)) = some n.toNat := by simp [hiN, h]

section
variable {P : Program} {S0 : List Ob} {ow : List Nat} {fr : Fr} {S : List Ob} {log : List LE} {α : Type} {f : α -> AV} {esh : Option Nat}
theorem b6v {d x i rs} {K : Fr -> List Ob -> List LE -> Prop} {s k n v} (e : ev (Fr.get fr) x = .str s) (e1 : ev (Fr.get fr) i = .int k n) (hv : c2b s n = some v)
  (h : VTops P ow rs ((d, .int .u8 v) :: fr) S (.acc [] none :: log) K) : VTops P ow (⟨some d, none, .op (.idxs x i)⟩ :: rs) fr S log K := by
 obtain ⟨h1, rfl⟩ := b0t hv
 refine f4 (v := .int .u8 ((s[n.toNat]?.getD 0).toNat : Int)) ?_ rfl h
 simp only [opV, e, e1, b3v]
 rw [if_pos h1]; rfl
theorem a4K {d x lo hi rs} {K : Fr -> List Ob -> List LE -> Prop} {ex} {l v : List α} {a b : Int} (e : ev (Fr.get fr) x = .sl ex (d9 esh) (l.map f)) (h1 : 0 <= a -> loN (evO (Fr.get fr) lo) = some a.toNat) (h2 : 0 <= b -> hiN l.length (evO (Fr.get fr) hi) = some b.toNat) (hv : a4n l a b = some v)
  (h : VTops P ow rs ((d, .sl false (d9 esh) (v.map f)) :: fr) S (.acc [] none :: log) K) : VTops P ow (⟨some d, none, .op (.slc esh x lo hi none)⟩ :: rs) fr S log K := by
 obtain ⟨h3, rfl⟩ := a3i hv
 exact b6t e (h1 h3.1) (h2 zO) zO h
def awF (fr : Fr) : Fr -> Prop
 | [] => True
 | (t, v) :: r => AVw (Fr.get fr t) v /\ awF fr r
theorem b0v {fr : Fr} : ∀ {fr' : Fr}, awF fr fr' -> ∀ t, AVw (Fr.get fr t) (Fr.get fr' t)
 | [], _, t => .junk _
 | (t', v) :: r, h, t => by
   rw [get_cons]
   split
   ·rename_i e; subst e; exact h.1
   ·exact b0v h.2 t
theorem b6w {fr' : Fr} (h : awF fr fr') : Wk S0 fr S fr' S := GWk.refl.wk (b0v h)
end

section
variable {M : a9t} {S S' : List Ob}
theorem m7 {o ver off o' ver' off' k cs cs'} (h1 : a3g M o' = some (o, k)) (h2 : hp S o = .arr ver cs) (h3 : hp S' o' = .arr ver' cs') (e : off = k + off') : RnV (wkR M S S') (.ptr o ver off) (.ptr o' ver' off') := .ptr ⟨k, cs, cs', h1, h2, h3, e⟩
theorem b6x {o ver off n e o' ver' off' k cs cs'} (h1 : a3g M o' = some (o, k)) (h2 : hp S o = .arr ver cs) (h3 : hp S' o' = .arr ver' cs') (e1 : off = k + off') (h4 : off' + n * d9 e <= cs'.length) : RnV (wkR M S S') (.ref o ver off n e) (.ref o' ver' off' n e) := .ref ⟨k, cs, cs', h1, h2, h3, e1, h4⟩
theorem d6 {α : Type} {f : α -> AV} {e : Option Nat} (he : Enc f e) {o ver o' ver'} {l : List α} (h1 : a3g M o' = some (o, 0)) (h2 : hp S o = .arr ver (flat f l)) (h3 : hp S' o' = .arr ver' (flat f l)) : RnV (wkR M S S') (.ref o ver 0 l.length e) (.ref o' ver' 0 l.length e) :=
 .ref ⟨0, _, _, h1, h2, h3, rfl, by rw [he.length]; omega⟩
theorem a3Z {o' ver' e cs'} (h3 : hp S' o' = .arr ver' cs') : RnV (wkR M S S') .nils (.ref o' ver' 0 0 e) := .nil ⟨cs', h3⟩
theorem l8 {R : Rn} {x : AV} (h : x.blw 0 = true) : RnV R x x := .base h (.refl _)
theorem g6 {S0 : List Ob} {o' o k v' cs' v cs} (h1 : a3g M o' = some (o, k)) (h2 : hp S o = .arr v cs) (h3 : RnL (wkR M S S') k cs cs') (h4 : Nat.ble S0.length o' = true) : a9u M S0 S S' o' (.arr v' cs') := by
 have h4 := Nat.le_of_ble_eq_true h4
 show match a3g M o' with | some (o, k) => _ | none => _
 rw [h1]
 exact ⟨v, cs, h2, h3, fun h => by omega⟩
theorem a3j {S0 : List Ob} {o' v cs' cs} (h1 : a3g M o' = some (o', 0)) (h2 : hp S o' = .arr v cs) (h3 : RnL (wkR M S S') 0 cs cs') (h4 : cs'.length = cs.length) : a9u M S0 S S' o' (.arr v cs') := by
 show match a3g M o' with | some (o, k) => _ | none => _
 rw [h1]
 exact ⟨v, cs, h2, h3, fun _ => .inl ⟨rfl, .inr ⟨rfl, rfl, h4⟩⟩⟩
theorem a2a {S0 : List Ob} {o' o k v' cs' v cs v0 c0} (h1 : a3g M o' = some (o, k)) (h2 : hp S o = .arr v cs) (h3 : RnL (wkR M S S') k cs cs') (h0 : hp S0 o' = .arr v0 c0) (hv : Nat.blt v0 v' = true) : a9u M S0 S S' o' (.arr v' cs') := by
 show match a3g M o' with | some (o, k) => _ | none => _
 rw [h1]
 exact ⟨v, cs, h2, h3, fun _ => .inr ⟨v0, c0, h0, by simpa [Nat.blt_eq] using hv⟩⟩
theorem a4a {S0 : List Ob} {o' v' cs'} (h1 : a3g M o' = none) (h : cs' = []) (h4 : Nat.ble S0.length o' = true) : a9u M S0 S S' o' (.arr v' cs') := by
 have h4 := Nat.le_of_ble_eq_true h4
 show match a3g M o' with | some (o, k) => _ | none => _
 rw [h1]
 exact ⟨h, h4⟩
end

section
variable {k0 k : Nat} {S : List Ob}
theorem a0y {x y : AV} (hb : x.blw k0 = true) (h : AVw x y) : AVw (frz k0 S k x) y := by rw [a4G hb]; exact h
def fzL (k0 k : Nat) (S : List Ob) : List AV -> List AV -> Prop
 | [], [] => True
 | x :: xs, y :: ys => AVw (frz k0 S k x) y /\ fzL k0 k S xs ys
 | _, _ => False
theorem a7b : ∀ {xs ys : List AV}, fzL k0 k S xs ys -> awL (xs.map (frz k0 S k)) ys
 | [], [], _ => trivial
 | _ :: _, _ :: _, h => ⟨h.1, a7b h.2⟩
theorem v5 {xs ys : List AV} (h : fzL k0 k S xs ys) : AVw (frz k0 S (k + 1) (.tup xs)) (.tup ys) := by
 have h1 := a7b h
 simp only [frz]
 split
 ·rename_i hb
  have hb' : a0S k0 xs = true := hb
  rw [a3G hb'] at h1
  exact .tupL h1
 ·exact .tupL h1
theorem b0w {xs ys : List AV} (h : fzL k0 k S xs ys) : AVw (frz k0 S (k + 1) (.agg xs)) (.agg ys) := by
 have h1 := a7b h
 simp only [frz]
 split
 ·rename_i hb
  have hb' : a0S k0 xs = true := hb
  rw [a3G hb'] at h1
  exact .aggL h1
 ·exact .aggL h1
theorem b6y {o ver off} {xs ys : List AV} (h0 : k0 <= o) (ho : hp S o = .arr ver xs) (h : fzL k0 k S xs ys) : AVw (frz k0 S (k + 1) (.ptr o ver off)) (.cptr ys off) := by
 have h1 := a7b h
 have hb : (AV.ptr o ver off).blw k0 = false := by simp [AV.blw]; omega
 simp only [frz, hb, ho, if_true, Bool.false_eq_true, if_false]
 exact .cptrL h1
theorem a2r {α : Type} {f : α -> AV} {esh : Option Nat} (he : Enc f esh) {o ver} {l : List α} (h0 : k0 <= o) (ho : hp S o = .arr ver (flat f l)) : AVw (frz k0 S (k + 1) (.ref o ver 0 l.length esh)) (.sl false (d9 esh) (l.map f)) := by
 have hb : (AV.ref o ver 0 l.length esh).blw k0 = false := by simp [AV.blw]; omega
 have hm : (flat f l).map (frz k0 S k) = flat f l := a3G (he.blwf k0 l)
 simp only [frz, hb, ho, Bool.false_eq_true, if_false, hm, List.drop_zero]
 rw [if_pos ⟨trivial, by rw [he.length]; omega, he.all l⟩, he.elems]
 exact .refl _
end
end Go.Ab

namespace Go.Ab
open Go.RowKit
def oc {σ β : Type} (f : σ -> Option β) : Out σ (Option β) -> Option β
 | .fin s => f s
 | .ret v => v
section
variable {P : Program} {S0 : List Ob} {ow : List Nat} {fr : Fr} {S : List Ob} {σ β : Type} {nx bk : Nat -> Bool} {F : σ -> Fr} {T : σ -> List Ob} {Fx : σ -> Fr} {Tx : σ -> List Ob} {f : σ -> Option β} {r : β} {K : Post}
theorem a0z {v : Option β} {c : Stp σ (Option β)} (e : c = .ret v) (h : v = some r -> K .ret fr S) : a4H S0 nx bk F T Fx Tx (oc f) r K c .ret fr S := c6O e h
theorem b2m {a : FC} {id : Nat} {body : σ -> Option (Stp σ (Option β))} {n : Nat} {s0 : σ} (F : σ -> Fr) (T : σ -> List Ob) (h : (a0V body n s0).bind (oc f) = some r)
  (hw : Wk S0 fr S (F s0) (T s0))
  (hb : ∀ s c, body s = some c -> VT P S0 ow a (F s) (T s) (a4H S0 (fun _ => false) (fun j => j == id) F T F T (oc f) r K c))
  (hx : ∀ s fr' S', f s = some r -> Wk S0 fr' S' (F s) (T s) -> K .normal fr' S') : VT P S0 ow (.block id (.loop a)) fr S K := b3Q body F T h hw hb hx
theorem a4b {tc ti tn tj id id2 : Nat} {B : FC} {body : Nat -> σ -> Option (Stp σ (Option β))} {n : Int} {s0 : σ} (F : σ -> Fr) (T : σ -> List Ob) (h : (rni body n s0).bind (oc f) = some r)
  (h1 : ti ≠ tn) (h2 : tj ≠ tn) (hF : ∀ s, Fr.get (F s) tj = .junk /\ Fr.get (F s) ti = .junk /\ Fr.get (F s) tn = .junk /\ Fr.get (F s) tc = .junk)
  (hw : Wk S0 fr S ((ti, .int .i64 0) :: (tn, .int .i64 n) :: F s0) (T s0))
  (hb : ∀ (i : Nat) s c, (i : Int) < n -> body i s = some c -> VT P S0 ow B ((tc, .bool true) :: (ti, .int .i64 i) :: (tn, .int .i64 n) :: F s) (T s)
   (a4H S0 (fun j => j == id2) (fun j => j == id) (fun s => (ti, .int .i64 i) :: (tn, .int .i64 n) :: F s) T F T (oc f) r K c))
  (hx : ∀ s fr' S', f s = some r -> Wk S0 fr' S' (F s) (T s) -> K .normal fr' S') :
  VT P S0 ow (.block id (.loop (.seq (.reg [⟨some tc, none, .op (.bin .none .lss (.t ti) (.t tn))⟩] []) (.seq (.cond (.t tc) .skip (.exit id)) (.seq (.block id2 B) (.reg [⟨some tj, none, .op (.bin .none .add (.t ti) (.v (.int .i64 1)))⟩, ⟨some ti, none, .op (.mv (.t tj))⟩] [])))))) fr S K := b6q body F T h h1 h2 hF hw hb hx
theorem a0D {α : Type} {tc ti tn tj id id2 : Nat} {B : FC} {body : Nat -> α -> σ -> Option (Stp σ (Option β))} {xs : List α} {s0 : σ} (F : σ -> Fr) (T : σ -> List Ob) (h : (rng body xs s0).bind (oc f) = some r)
  (h1 : ti ≠ tn) (h2 : tj ≠ tn) (hF : ∀ s, Fr.get (F s) tj = .junk /\ Fr.get (F s) ti = .junk /\ Fr.get (F s) tn = .junk /\ Fr.get (F s) tc = .junk)
  (hw : Wk S0 fr S ((ti, .int .i64 0) :: (tn, .int .i64 xs.length) :: F s0) (T s0))
  (hb : ∀ (i : Nat) x s c, xs[i]? = some x -> i < xs.length -> body i x s = some c -> VT P S0 ow B ((tc, .bool true) :: (ti, .int .i64 i) :: (tn, .int .i64 xs.length) :: F s) (T s)
   (a4H S0 (fun j => j == id2) (fun j => j == id) (fun s => (ti, .int .i64 i) :: (tn, .int .i64 xs.length) :: F s) T F T (oc f) r K c))
  (hx : ∀ s fr' S', f s = some r -> Wk S0 fr' S' (F s) (T s) -> K .normal fr' S') :
  VT P S0 ow (.block id (.loop (.seq (.reg [⟨some tc, none, .op (.bin .none .lss (.t ti) (.t tn))⟩] []) (.seq (.cond (.t tc) .skip (.exit id)) (.seq (.block id2 B) (.reg [⟨some tj, none, .op (.bin .none .add (.t ti) (.v (.int .i64 1)))⟩, ⟨some ti, none, .op (.mv (.t tj))⟩] [])))))) fr S K := c2w body F T h h1 h2 hF hw hb hx
theorem a4o {b} {K K0 : Post} {fr' : Fr} {S' : List Ob} {F' : Fr} {T' : List Ob} (hw : Wk S0 fr' S' F' T') (h : VT P S0 ow b F' T' K) : Post.thn (fun fr' S' => ∃ F T, Wk S0 fr' S' F T /\ VT P S0 ow b F T K) K0 .normal fr' S' := s9 hw h
theorem c2x {k : Out σ (Option β) -> Option β} {c : Stp σ (Option β)} {fr' : Fr} {S' : List Ob} {F' : Fr} {T' : List Ob} {s : σ} (e : c = .nxt s) (hw : Wk S0 fr' S' F' T') (hw2 : Wk S0 F' T' (F s) (T s)) : a4H S0 nx bk F T Fx Tx k r K c .normal fr' S' := a3w e (v4 hw hw2)
end
theorem aM {P : Program} {ow : List Nat} {fr : Fr} {S : List Ob} {log : List LE} {d x rs} {K : Fr → List Ob → List LE → Prop} {v'} (h : VTops P ow rs ((d, v') :: fr) S (.acc [] none :: log) K) (e2 : ev (Fr.get fr) x = v' := by conv => lhs; whnf) : VTops P ow (⟨some d, none, .op (.mv x)⟩ :: rs) fr S log K := n9 e2 h
theorem oM {P : Program} {ow : List Nat} {fr : Fr} {S : List Ob} {log : List LE} {d x rs} {K : Fr → List Ob → List LE → Prop} (v') (h : VTops P ow rs ((d, v') :: fr) S (.acc [] none :: log) K) (e2 : ev (Fr.get fr) x = v' := by exact rfl) : VTops P ow (⟨some d, none, .op (.mv x)⟩ :: rs) fr S log K := n9 e2 h
theorem aO {P : Program} {ow : List Nat} {fr : Fr} {S : List Ob} {log : List LE} {d r rs} {K : Fr → List Ob → List LE → Prop} {v v'} (h : VTops P ow rs ((d, v') :: fr) S (.acc [] none :: log) K) (e : opV (ow.contains d) r (Fr.get fr) S = some (v, [], none) := by exact rfl) (e2 : v = v' := by conv => lhs; whnf) : VTops P ow (⟨some d, none, .op r⟩ :: rs) fr S log K := f4 e e2 h
theorem oP {P : Program} {ow : List Nat} {fr : Fr} {S : List Ob} {log : List LE} {d r rs} {K : Fr → List Ob → List LE → Prop} {v} (v') (h : VTops P ow rs ((d, v') :: fr) S (.acc [] none :: log) K) (e : opV (ow.contains d) r (Fr.get fr) S = some (v, [], none) := by exact rfl) (e2 : v = v' := by exact rfl) : VTops P ow (⟨some d, none, .op r⟩ :: rs) fr S log K := f4 e e2 h
theorem aR {P : Program} {ow : List Nat} {fr : Fr} {S : List Ob} {log : List LE} {d x rs} {K : Fr → List Ob → List LE → Prop} {o ver off e0} {n : Nat} (h : VTops P ow rs ((d, .int .i64 n) :: fr) S (.acc [] none :: log) K) (e : ev (Fr.get fr) x = .ref o ver off n e0 := by exact rfl) : VTops P ow (⟨some d, none, .op (.len .sl x)⟩ :: rs) fr S log K := a5K e h
theorem aL {P : Program} {ow : List Nat} {fr : Fr} {S : List Ob} {log : List LE} {d x rs} {K : Fr → List Ob → List LE → Prop} {ex sz} {α : Type} {f : α → AV} {ys : List α} (h : VTops P ow rs ((d, .int .i64 ys.length) :: fr) S (.acc [] none :: log) K) (e : ev (Fr.get fr) x = .sl ex sz (ys.map f) := by exact rfl) : VTops P ow (⟨some d, none, .op (.len .sl x)⟩ :: rs) fr S log K := n8 e h
theorem oH {P : Program} {ow : List Nat} {fr : Fr} {S : List Ob} {log : List LE} {d t want c rs} {K : Fr → List Ob → List LE → Prop} (h : VTops P ow (⟨d, none, c⟩ :: rs) fr S log K) (e : Fr.get fr t = .bool want := by exact rfl) : VTops P ow (⟨d, some (t, want), c⟩ :: rs) fr S log K := c6I e h
theorem oN {P : Program} {ow : List Nat} {fr : Fr} {S : List Ob} {log : List LE} {d t want c rs} {K : Fr → List Ob → List LE → Prop} (h : VTops P ow rs (a5j fr d (.tup [])) S (.acc [] none :: log) K) (e : Fr.get fr t = .bool (!want) := by exact rfl) : VTops P ow (⟨d, some (t, want), c⟩ :: rs) fr S log K := c6J e h
theorem oZ {P : Program} {ow : List Nat} {fr : Fr} {S : List Ob} {log : List LE} {d t want c rs} {K : Fr → List Ob → List LE → Prop} (h : VTops P ow rs (a5j fr d (.tup [])) S (.acc [] none :: log) K) (e : Fr.get fr t = .tup [] := by exact rfl) : VTops P ow (⟨d, some (t, want), c⟩ :: rs) fr S log K := c6K e h
theorem nB {a b : Nat} (h : Nat.ble a b = true := by exact rfl) : a ≤ b := Nat.le_of_ble_eq_true h
theorem wW {S0 : List Ob} {fr fr' : Fr} {S : List Ob} (h : awF fr fr' := by repeat (first | exact trivial | refine ⟨.refl _, ?_⟩)) : Wk S0 fr S fr' S := b6w h
theorem gqR {k0 k : Nat} {S : List Ob} {x : AV} (h : x.blw k0 = true := by exact rfl) : AVw (frz k0 S k x) x := a0y h (.refl _)
theorem nL {R} {cs : List AV} : RnL R 0 cs [] := .nil (Nat.zero_le _)
theorem cB {R} {x : AV} {xs ys : List AV} (h : x.blw 0 = true) (k : RnL R 0 xs ys) : RnL R 0 (x :: xs) (x :: ys) := .cons (l8 h) k
theorem aU {p q : Prop} (h : q) (e : q → p := by intro h; (repeat (first|refine aM ?_|refine aR ?_|refine aL ?_|refine aO ?_|refine a7 ?_|refine d7 ?_|refine x4 ?_|refine c7 ?_|refine a8 ?_|refine g5 ?_|refine oH ?_|refine oN ?_|refine oZ ?_)); exact h) : p := e h
theorem aS {p q : Prop} (h : q) (e : q → p := by intro h; (repeat (first|refine aM ?_|refine aR ?_|refine aL ?_|refine aO ?_)); exact h) : p := e h
end Go.Ab

/- The steps as the printed proofs use them. -/
namespace Go.Ab
open Go.RowKit

def c2y (n : Nat) : List AV -> Prop
 | [] => True
 | x :: r => x.blw n = true /\ c2y n r
theorem f9 {n : Nat} : ∀ {xs : List AV}, c2y n xs -> a0S n xs = true
 | [], _ => rfl
 | x :: r, h => by simp only [a0S, h.1, f9 h.2, Bool.and_self]
theorem Enc.blws {α : Type} {f : α -> AV} {esh : Option Nat} (he : Enc f esh) (n : Nat) {ex sz} {l : List α} : (AV.sl ex sz (l.map f)).blw n = true := he.blwm n l
theorem m6 {x : AV} {n off : Nat} (h : x.blw n = true) : (AV.cptr x.cells off).blw n = true := a1e h
theorem a0i {n : Nat} {xs : List AV} (h : c2y n xs) : (AV.tup xs).blw n = true := f9 h
def shL (k : IntKind) (x y : Int) : Int := k.wrap (x * 2 ^ (min y.toNat k.bits))
def shR (k : IntKind) (x y : Int) : Int := x.fdiv (2 ^ (min y.toNat k.bits))

def rnC (R : Rn) : List AV -> List AV -> Prop
 | [], [] => True
 | x :: xs, y :: ys => RnV R x y /\ rnC R xs ys
 | _, _ => False
theorem a7O {R : Rn} : ∀ {xs ys : List AV}, rnC R xs ys -> xs.length = ys.length
 | [], [], _ => rfl
 | _ :: xs, _ :: ys, h => congrArg (· + 1) (a7O h.2)
theorem a7P {R : Rn} : ∀ {xs ys : List AV}, rnC R xs ys -> ∀ j (h1 : j < xs.length) (h2 : j < ys.length), RnV R xs[j] ys[j]
 | [], _, _, j, h1, _ => by simp at h1
 | x :: xs, y :: ys, h, 0, _, _ => h.1
 | x :: xs, y :: ys, h, j + 1, h1, h2 => a7P h.2 j (by simpa using h1) (by simpa using h2)
theorem a3k {R : Rn} {xs ys : List AV} (h : rnC R xs ys) : RnV R (.tup xs) (.tup ys) := .tup (a7O h) (a7P h)
theorem b3d {R : Rn} {xs ys : List AV} (h : rnC R xs ys) : RnV R (.agg xs) (.agg ys) := .agg (a7O h) (a7P h)

section
variable {P : Program} {S0 : List Ob} {ow : List Nat} {fr : Fr} {S : List Ob} {log : List LE} {α : Type} {f : α -> AV} {esh : Option Nat}
theorem c2z {d t x y rs} {K : Fr -> List Ob -> List LE -> Prop} {k k' a b} (e : ev (Fr.get fr) x = .int k a) (e1 : ev (Fr.get fr) y = .int k' b) (hb : 0 <= b)
  (h : VTops P ow rs ((d, .int k (shL k a b)) :: fr) S (.acc [] none :: log) K) : VTops P ow (⟨some d, none, .op (.bin t .shl x y)⟩ :: rs) fr S log K := by
 refine f4 (v := .int k (shL k a b)) ?_ rfl h
 simp only [opV, e, e1, b3u, a7y]
 rw [if_neg zO]; rfl
theorem b6z {d t x y rs} {K : Fr -> List Ob -> List LE -> Prop} {k k' a b} (e : ev (Fr.get fr) x = .int k a) (e1 : ev (Fr.get fr) y = .int k' b) (hb : 0 <= b)
  (h : VTops P ow rs ((d, .int k (shR k a b)) :: fr) S (.acc [] none :: log) K) : VTops P ow (⟨some d, none, .op (.bin t .shr x y)⟩ :: rs) fr S log K := by
 refine f4 (v := .int k (shR k a b)) ?_ rfl h
 simp only [opV, e, e1, b3u, a7y]
 rw [if_neg zO]; rfl
theorem b6A {d} {bytes : Nat} {z l c rs} {K : Fr -> List Ob -> List LE -> Prop} {k k' n n'} {S' : List Ob} {x : α} {v : List α} (he : Enc f esh) (how : ow.contains d = true) (e : ev (Fr.get fr) l = .int k n) (e1 : ev (Fr.get fr) c = .int k' n') (hz : (f x).cells = z) (hv : mkL bytes n n' x = some v)
  (hS : a0h S S.length (.arr 0 (flat f v)) = S')
  (h : VTops P ow rs ((d, .ref S.length 0 0 v.length esh) :: fr) S' (.acc [S.length] (some S.length) :: log) K) : VTops P ow (⟨some d, none, .op (.mksl esh bytes z l c)⟩ :: rs) fr S log K := by
 obtain ⟨h1, rfl⟩ := a8x hv
 rw [List.length_replicate] at h
 exact b6u he how e e1 hz h1 hS h
theorem a2s {d bytes s x rs} {K : Fr -> List Ob -> List LE -> Prop} {o ver : Nat} {l m v : List α} {rdx : List Nat} {S' : List Ob} (he : Enc f esh) (e : ev (Fr.get fr) s = .ref o ver 0 l.length esh) (e2 : a8Z esh (ev (Fr.get fr) x) S = some (m.length, flat f m, rdx))
  (ho : hp S o = .arr ver (flat f l)) (hv : a2R bytes l m = some v) (hS : a0h S o (.arr (ver + 1) (flat f v)) = S')
  (h : VTops P ow rs ((d, .ref o (ver + 1) 0 v.length esh) :: fr) S' (.acc (o :: o :: rdx) (some o) :: log) K) : VTops P ow (⟨some d, none, .op (.app esh bytes s x)⟩ :: rs) fr S log K := by
 obtain ⟨h1, rfl⟩ := b0u hv
 exact b6r he e e2 ho h1 hS h
theorem b6B {d x hi rs} {K : Fr -> List Ob -> List LE -> Prop} {o ver k} {l v : List α} {b : Int} (e : ev (Fr.get fr) x = .ref o ver 0 l.length esh) (e1 : ev (Fr.get fr) hi = .int k b) (hv : a4n l 0 b = some v)
  (h : VTops P ow rs ((d, .ref o ver (0 + 0 * d9 esh) b.toNat esh) :: fr) S (.acc [] none :: log) K) : VTops P ow (⟨some d, none, .op (.slc esh x none (some hi) none)⟩ :: rs) fr S log K := by
 obtain ⟨h1, _⟩ := a3i hv
 exact a5J (a := 0) (b := b.toNat) e rfl (by rw [b2e, e1]; exact a0U zO) zO h
theorem p6 {d f args rs} {K : Fr -> List Ob -> List LE -> Prop} {as as' v} (c : p3 P f as v) (e : evL (Fr.get fr) args = as') (hw : awL as' as) (h1 : a0S 0 as' = true) (h2 : v.blw 0 = true) (h : VTops P ow rs ((d, v) :: fr) S (.acc [] none :: log) K) :
  VTops P ow (⟨some d, none, .call f args⟩ :: rs) fr S log K :=
 a0x (c.weaka (a0J hw) (a1w hw)) e h1 h2 h
end

section
variable {M : a9t} {m : Nat} {S S' : List Ob} {α : Type} {f : α -> AV} {e : Option Nat}
theorem b0x (he : Enc f e) {o ver o' ver' a b} {l v : List α} {off n : Nat} (h1 : a3g M o' = some (o, off)) (h2 : hp S o = .arr ver (flat f l)) (h3 : hp S' o' = .arr ver' (flat f v)) (hv : a4n l a b = some v) (hoff : off = a.toNat * d9 e) (hn : n = b.toNat - a.toNat) :
  RnV (wkR M S S') (.ref o ver off n e) (.ref o' ver' 0 v.length e) := by
 obtain ⟨h4, rfl⟩ := a3i hv
 have : n = ((l.take b.toNat).drop a.toNat).length := by simp; omega
 rw [<- this]
 exact .ref ⟨off, _, _, h1, h2, h3, rfl, by rw [he.length, <- this]; omega⟩
theorem a8y (he : Enc f e) {R : Rn} {a b} {l v : List α} {off : Nat} (hv : a4n l a b = some v) (hoff : off = a.toNat * d9 e) : RnL R off (flat f l) (flat f v) := by
 obtain ⟨h4, rfl⟩ := a3i hv
 have hlen : a.toNat * d9 e + (flat f ((l.take b.toNat).drop a.toNat)).length <= (flat f l).length := by
  rw [he.length, he.length, <- Nat.add_mul]
  refine Nat.mul_le_mul_right _ ?_
  simp; omega
 subst hoff
 refine RnL.mid (he.blwf 0 l) hlen ?_
 rw [he.length, he.drop, he.take]
 congr 1
 rw [List.drop_take]
 simp
end
theorem rB {R : Rn} {x : AV} (h : x.blw 0 = true := by exact rfl) : RnV R x x := l8 h
theorem eBi {l : List Int} {n : Nat} {ex sz} : (AV.sl ex sz (List.map (avI .i64) l)).blw n = true := (d8 .i64).blws n
end Go.Ab

/- Objects of the caller: the terms of the frame rule; freezing between two statements. -/
namespace Go.Ab
open Go.RowKit

section
variable {M : List Nat} {T T' S S' : List Ob} {α : Type} {f : α -> AV} {e : Option Nat}
theorem a7c {o v O V off n CS cs} (h1 : Nat.blt o T.length = true) (h2 : M.getD o 0 = O) (h3 : hp S O = .arr V CS) (h4 : hp T o = .arr v cs) : RnV (frI M T S) (.ref O V off n e) (.ref o v off n e) :=
 .ref ⟨by simpa [Nat.blt_eq] using h1, h2, ⟨_, h3⟩, ⟨_, h4⟩, rfl⟩
theorem a5L {o v O V off n CS cs} (h1 : Nat.blt o T'.length = true) (h2 : frN M T S o = O) (h3 : hp T' o = .arr v cs) (h4 : hp S' O = .arr V CS) : RnV (frO M T T' S S') (.ref o v off n e) (.ref O V off n e) :=
 .ref ⟨by simpa [Nat.blt_eq] using h1, h2, ⟨_, h3⟩, ⟨_, h4⟩, rfl⟩
theorem b0y {o v cs V CS} (h : hp S (M.getD o 0) = .arr V CS) (hl : CS.length = cs.length) (hr : RnL (frI M T S) 0 CS cs) : c2u M T S o (.arr v cs) := ⟨v, cs, V, CS, rfl, h, hl, hr⟩
theorem b0z {o v' cs' V' CS' V CS} (h : hp S' (frN M T S o) = .arr V' CS') (hl : CS'.length = cs'.length) (hr : RnL (frO M T T' S S') 0 cs' CS') (hs : hp S (M.getD o 0) = .arr V CS) (hv : Nat.blt V V' = true) : a9c M T T' S S' o (.arr v' cs') :=
 ⟨V', CS', h, hl, hr, fun _ v cs V2 CS2 _ h2 => by rw [hs] at h2; cases h2; exact .inr (by simpa [Nat.blt_eq] using hv)⟩
theorem a7Q {o v' cs' V' CS'} (h : hp S' (frN M T S o) = .arr V' CS') (hl : CS'.length = cs'.length) (hr : RnL (frO M T T' S S') 0 cs' CS') (hn : Nat.ble T.length o = true) : a9c M T T' S S' o (.arr v' cs') :=
 ⟨V', CS', h, hl, hr, fun ho => by have := Nat.le_of_ble_eq_true hn; omega⟩
end

theorem b0A {M : List Nat} {T T' S S' : List Ob} {o v' V' V CS} (h : hp S' (frN M T S o) = .dead V') (hs : hp S (M.getD o 0) = .arr V CS) (hv : Nat.ble V V' = true) : a9c M T T' S S' o (.dead v') :=
 ⟨V', h, fun _ V2 CS2 h2 => by rw [hs] at h2; cases h2; exact Nat.le_of_ble_eq_true hv⟩
theorem a1K {M : a9t} {S0 S S' : List Ob} {o' v v' cs} (h : hp S o' = .arr v cs) (hv : Nat.ble v v' = true) : a9u M S0 S S' o' (.dead v') := fun _ => ⟨v, Nat.le_of_ble_eq_true hv, .inl ⟨cs, h⟩⟩
theorem a7R {M : a9t} {S0 S S' : List Ob} {o' v v'} (h : hp S o' = .dead v) (hv : Nat.ble v v' = true) : a9u M S0 S S' o' (.dead v') := fun _ => ⟨v, Nat.le_of_ble_eq_true hv, .inr h⟩

def c2c (M : List Nat) : Nat -> List Ob -> List Ob -> Prop
 | _, [], _ => True
 | i, x :: xs, y :: ys => (M.contains i = true \/ y = x) /\ c2c M (i + 1) xs ys
 | _, _ :: _, [] => False
theorem a8z {M : List Nat} : ∀ {S S' : List Ob} {i : Nat}, c2c M i S S' -> ∀ j, j < S.length -> M.contains (i + j) = true \/ hp S' j = hp S j
 | [], _, _, _, j, h => by simp at h
 | x :: xs, [], _, h, _, _ => h.elim
 | x :: xs, y :: ys, i, h, 0, _ => h.1
 | x :: xs, y :: ys, i, h, j + 1, hj => by
   have := a8z h.2 j (by simpa using hj)
   rw [show i + 1 + j = i + (j + 1) by omega] at this
   exact this
theorem b6C {M : List Nat} {S S' : List Ob} (h : c2c M 0 S S') : ∀ i, i < S.length -> i ∉ M -> hp S' i = hp S i := fun i hi hm => by
 rcases a8z h i hi with e | e
 ·rw [Nat.zero_add] at e; exact (hm (by simpa using e)).elim
 ·exact e

section
variable {P : Program} {S0 : List Ob} {ow : List Nat} {fr : Fr} {S : List Ob} {log : List LE}
theorem a3H {d f args rs} {K : Fr -> List Ob -> List LE -> Prop} {T T' S' : List Ob} {as as' : List AV} {r r' : AV} (c : Ev P f as (hp T) r (hp T')) (M : List Nat) (e : evL (Fr.get fr) args = as') (hM : M.length = T.length) (inj : M.Nodup) (hT : Nat.ble T.length T'.length = true) (hS : S'.length = S.length + (T'.length - T.length))
  (hin : a6Z (c2u M T S) 0 T) (hout : a6Z (a9c M T T' S S') 0 T') (hoth : c2c M 0 S S') (hal : as'.length = as.length) (ha : RnL (frI M T S) 0 as' as) (hr : RnV (frO M T T' S S') r r')
  (h : VTops P ow rs ((d, r') :: fr) S' (.eff S S' :: log) K) : VTops P ow (⟨some d, none, .call f args⟩ :: rs) fr S log K :=
 a7J (c.frame M hM inj (Nat.le_of_ble_eq_true hT) hS hin hout (b6C hoth) hal ha hr) e h
end

def wOb : Ob -> Ob -> Prop
 | .arr v cs, .arr v' cs' => v = v' /\ awL cs cs'
 | .dead v, .dead v' => v = v'
 | .virgin, .virgin => True
 | _, _ => False
def c2d : List Ob -> List Ob -> Prop
 | [], [] => True
 | x :: xs, y :: ys => wOb x y /\ c2d xs ys
 | _, _ => False
theorem a6n : ∀ {S S' : List Ob}, c2d S S' -> ∀ o, wOb (hp S o) (hp S' o)
 | [], [], _, o => trivial
 | x :: xs, y :: ys, h, 0 => h.1
 | x :: xs, y :: ys, h, o + 1 => a6n h.2 o
theorem c2A {S0 S S' : List Ob} (h : c2d S S') : GWk S0 S S' AVw := by
 intro g0 g w h1 h2
 have hx : Ext g.pm g.L (hp S) g.pm g.L (hp S') := ⟨fun _ _ _ e => e, fun o => by
  have := a6n h o
  cases e1 : hp S o <;> cases e2 : hp S' o <;> rw [e1, e2] at this <;> simp only [wOb] at this <;> simp only [u0]
  ·omega
  ·exact .inr ⟨this.1, trivial, (a0J this.2).symm⟩⟩
 have hin : ∀ o v cs, hp S' o = .arr v cs -> ∃ cs0, hp S o = .arr v cs0 /\ awL cs0 cs := fun o v cs e => by
  have := a6n h o
  cases e1 : hp S o with
  | virgin => rw [e1, e] at this; exact this.elim
  | dead v => rw [e1, e] at this; exact this.elim
  | arr v0 c0 =>
    rw [e1, e] at this
    obtain ⟨h4, h3⟩ := this
    exact ⟨c0, by rw [h4], h3⟩
 refine ⟨g, h1.trans ⟨hx, rfl, rfl, rfl⟩, ⟨h2.pm, h2.tm, h2.tmf, h2.disj, h2.low, h2.B0, h2.tab, fun o v cs e => ?_, fun o o' v v' c c' e e' hne => ?_⟩, fun x y u r hv => (hv.w r).mono hx⟩
 ·obtain ⟨cs0, e1, e2⟩ := hin _ _ _ e
  have k := h2.ob o v cs0 e1
  have hl := a0J e2
  refine ⟨k.low, by rw [<- hl]; exact k.len, fun j hj => ?_, k.free, k.pm, k.tm⟩
  obtain ⟨u, hu, hr⟩ := k.there j hj
  exact ⟨u, hu, fun hj' => ((hr zO).w (a1w e2 j zO hj')).mono hx⟩
 ·obtain ⟨c1, e1, _⟩ := hin _ _ _ e
  obtain ⟨c2, e2, _⟩ := hin _ _ _ e'
  exact h2.sep o o' _ _ _ _ e1 e2 hne

def c5Y (k0 k : Nat) (S : List Ob) : Ob -> Ob -> Prop
 | .arr v cs, .arr v' cs' => v = v' /\ fzL k0 k S cs cs'
 | _, _ => False
def b2n (k0 k : Nat) (S : List Ob) : List Ob -> List Ob -> Prop
 | [], [] => True
 | x :: xs, y :: ys => c5Y k0 k S x y /\ b2n k0 k S xs ys
 | _, _ => False
theorem b0B {k0 k : Nat} {S : List Ob} : ∀ {A B : List Ob}, b2n k0 k S A B -> c2d (A.map (a5p k0 S k)) B
 | [], [], _ => trivial
 | x :: xs, y :: ys, h => by
   refine ⟨?_, b0B h.2⟩
   have h1 := h.1
   cases x <;> cases y <;> simp only [c5Y] at h1
   exact ⟨h1.1, a7b h1.2⟩
theorem b6D {S0 S S' : List Ob} (k0 k : Nat) (h0 : Nat.ble S0.length k0 = true) (h : b2n k0 k S (S.take k0) S') : GWk S0 S S' (fun x z => ∃ y, y = frz k0 S k x /\ AVw y z) :=
 (a6j k0 k (Nat.le_of_ble_eq_true h0)).trans (c2A (b0B h))
theorem a4L {k0 k : Nat} {S : List Ob} : ∀ {cs : List AV}, a0S k0 cs = true -> fzL k0 k S cs cs
 | [], _ => trivial
 | x :: r, h => by
   simp only [a0S, Bool.and_eq_true] at h
   exact ⟨a0y h.1 (.refl _), a4L h.2⟩
def fzF (k0 k : Nat) (S : List Ob) (fr : Fr) : Fr -> Prop
 | [] => True
 | (t, v) :: r => AVw (frz k0 S k (Fr.get fr t)) v /\ fzF k0 k S fr r
theorem b0C {k0 k : Nat} {S : List Ob} {fr : Fr} : ∀ {fr' : Fr}, fzF k0 k S fr fr' -> ∀ t, AVw (frz k0 S k (Fr.get fr t)) (Fr.get fr' t)
 | [], _, t => .junk _
 | (t', v) :: r, h, t => by
   rw [get_cons]
   split
   ·rename_i e; subst e; exact h.1
   ·exact b0C h.2 t
theorem b3S {S0 S S' : List Ob} {fr fr' : Fr} (k0 k : Nat) (h0 : Nat.ble S0.length k0 = true) (h : b2n k0 k S (S.take k0) S') (hf : fzF k0 k S fr fr') : Wk S0 fr S fr' S' :=
 (b6D k0 k h0 h).wk (fun t => ⟨_, rfl, b0C hf t⟩)

end Go.Ab

/- A slice as an argument, by what it is: nil, empty, or not empty. -/
namespace Go.Ab
open Go Go.RowKit

theorem b0D {P : Program} {f : FuncId} {sz : Nat} {xs : List AV} {r : AV} (h0 : xs = [] -> p3 P f [.nils] r) (h1 : xs = [] -> p3 P f [.snn sz] r) (h2 : xs ≠ [] -> p3 P f [.sl false sz xs] r) : p3 P f [.sl false sz xs] r := by
 intro g w vals hw hv
 by_cases hx : xs = []
 ·obtain ⟨v, rfl⟩ : ∃ v, vals = #[v] := by
   have := hv.1
   match vals, this with
   | ⟨[v]⟩, _ => exact ⟨v, rfl⟩
  have hr : VR g.pm g.L a6y (.sl false sz xs) v := hv.2 0 zS zS
  cases hr with
  | slnil => exact h0 rfl g w _ hw (b5N .nils)
  | slz => exact h1 rfl g w _ hw (b5N .snnz)
  | sl us hc he hz hp hq => subst hx; exact h1 rfl g w _ hw (b5N .snn)
 ·exact h2 hx g w vals hw hv
theorem c2B {P : Program} {f : FuncId} {sz : Nat} {xs : List AV} {r : AV} {σ σ' : Hp} (h0 : xs = [] -> Ev P f [.nils] σ r σ') (h1 : xs = [] -> Ev P f [.snn sz] σ r σ') (h2 : xs ≠ [] -> Ev P f [.sl false sz xs] σ r σ') : Ev P f [.sl false sz xs] σ r σ' := by
 intro g w vals hw hv
 by_cases hx : xs = []
 ·obtain ⟨v, rfl⟩ : ∃ v, vals = #[v] := by
   have := hv.1
   match vals, this with
   | ⟨[v]⟩, _ => exact ⟨v, rfl⟩
  have hr : VR g.pm g.L σ (.sl false sz xs) v := hv.2 0 zS zS
  cases hr with
  | slnil => exact h0 rfl g w _ hw (b5N .nils)
  | slz => exact h1 rfl g w _ hw (b5N .snnz)
  | sl us hc he hz hp hq => subst hx; exact h1 rfl g w _ hw (b5N .snn)
 ·exact h2 hx g w vals hw hv
section
variable {P : Program} {S0 : List Ob} {ow : List Nat} {fr : Fr} {S : List Ob}
end
end Go.Ab

/- Lists made of zeros that are nil slices; pointers that are known not to be nil. -/
namespace Go.Ab
open Go Go.RowKit

theorem RnL.app {R : Rn} {a a' b b' : List AV} (hl : a'.length = a.length) (h : RnL R 0 a a') (k : RnL R 0 b b') : RnL R 0 (a ++ b) (a' ++ b') := by
 refine ⟨by have := k.1; simp only [List.length_append]; omega, fun j h1 h2 => ?_⟩
 simp only [Nat.zero_add] at h1 ⊢
 by_cases hj : j < a.length
 ·rw [List.getElem_append_left hj, List.getElem_append_left zO]
  have := h.2 j zO zO
  simpa only [Nat.zero_add] using this
 ·rw [List.getElem_append_right zO, List.getElem_append_right zO]
  have h2' : j - a'.length < b'.length := by simp only [List.length_append] at h2; omega
  have h1' : j - a.length < b.length := by simp only [List.length_append] at h1; omega
  have := k.2 (j - a'.length) zO h2'
  simp only [Nat.zero_add] at this
  simp only [hl] at this ⊢
  exact this
theorem RnL.aw {R : Rn} {a a' : List AV} (hb : a0S 0 a = true) (h : awL a a') : RnL R 0 a a' := by
 refine ⟨by rw [a0J h]; omega, fun j h1 h2 => ?_⟩
 simp only [Nat.zero_add] at h1 ⊢
 exact .base (z6 hb j h1) (a1w h j h1 h2)
section
variable {α : Type} {f f0 : α -> AV} {esh : Option Nat}
theorem b3T {R : Rn} (h0 : Enc f0 esh) {bytes : Nat} {n n' : Int} {x : α} {v : List α} (hv : mkL bytes n n' x = some v) (hw : awL (f0 x).cells (f x).cells) : RnL R 0 (flat f0 v) (flat f v) := by
 obtain ⟨_, rfl⟩ := a8x hv
 generalize n.toNat = m
 induction m with
 | zero => exact .nil (Nat.zero_le _)
 | succ m ih =>
   have e1 : flat f0 (List.replicate (m + 1) x) = (f0 x).cells ++ flat f0 (List.replicate m x) := by simp [flat, List.replicate_succ]
   have e2 : flat f (List.replicate (m + 1) x) = (f x).cells ++ flat f (List.replicate m x) := by simp [flat, List.replicate_succ]
   rw [e1, e2]
   exact .app (a0J hw).symm (.aw (a1e (h0.blw x 0)) hw) ih
theorem b3U (he : Enc f esh) {M : a9t} {S S' : List Ob} {o ver o' ver'} {l : List α} {cs} (h1 : a3g M o' = some (o, 0)) (h2 : hp S o = .arr ver cs) (h3 : hp S' o' = .arr ver' (flat f l)) : RnV (wkR M S S') (.ref o ver 0 l.length esh) (.ref o' ver' 0 l.length esh) :=
 b6x h1 h2 h3 rfl (by rw [he.length]; omega)
variable {P : Program} {S0 : List Ob} {ow : List Nat} {fr : Fr} {S : List Ob} {log : List LE}
end
end Go.Ab

/- Regions in the text's order may be cut: between two parts the state may be weakened. -/
namespace Go.Ab
open Go Go.RowKit

def b3V : Nat := 1000003
def a1x : FC -> Option (List w8)
 | .reg rs [] => some rs
 | .seq (.reg rs []) b => match a1x b with
   | some ys => some (rs ++ ys)
   | none => none
 | _ => none
def x3 : FC -> FC
 | .skip => .skip
 | .reg rs ps => .reg rs ps
 | .seq a b => .seq (x3 a) (x3 b)
 | .cond c a b => .cond c (x3 a) (x3 b)
 | .block i a => if i = b3V then (match a1x a with | some rs => .reg rs [] | none => .block i (x3 a)) else .block i (x3 a)
 | .loop a => .loop (x3 a)
 | .exit i => .exit i
 | .ret => .ret

theorem a7d {P : Program} {n : Nat} {ops : Array Oper} {g0 σ0} {Q : Exit -> Act -> World -> Prop} {K : Fr -> List Ob -> List LE -> Prop} {rest : List Nat} : ∀ (l : List Oper) (rs : List w8) (i : Nat) (fr : Fr) (S : List Ob) (log : List LE) (a : Act) (w : World),
  (∀ j (o : Oper), l[j]? = some o -> ops[i + j]? = some o) -> t6 P n ops l = some rs -> VCops P rs fr S log K -> At g0 σ0 n (Fr.get fr) (hp S) a w ->
  (∀ fr' S' log' a' w', K fr' S' log' -> At g0 σ0 n (Fr.get fr') (hp S') a' w' -> wpOps P ops Q rest a' w') -> wpOps P ops Q (List.range' i l.length ++ rest) a w
 | [], rs, i, fr, S, log, a, w, _, hr, h, hat, hQ => by
   simp [t6] at hr; subst hr
   exact hQ _ _ _ _ _ h hat
 | o :: l, rs, i, fr, S, log, a, w, hl, hr, h, hat, hQ => by
   simp only [t6] at hr
   split at hr
   ·rename_i ro rs' h1 h2
    cases hr
    have hoi : ops[i]? = some o := by simpa using hl 0 o rfl
    have hl' : ∀ j (o' : Oper), l[j]? = some o' -> ops[i + 1 + j]? = some o' := fun j o' hj => by
     have := hl (j + 1) o' (by simpa using hj)
     rwa [show i + (j + 1) = i + 1 + j by omega] at this
    have ih := fun fr S log a w => a7d (Q := Q) (K := K) (g0 := g0) (σ0 := σ0) (rest := rest) l rs' (i + 1) fr S log a w hl' h2
    simp only [List.length_cons, List.range'_succ, List.cons_append, wpOps, hoi]
    obtain ⟨hc, hdst, hdn, _⟩ := a1J h1
    have hstep : VC1 P ro.c (Fr.get fr) S (fun v S' le => VCops P rs' (a5j fr ro.dst v) S' (le :: log) K) -> o.wp P a w (wpOps P ops Q (List.range' (i + 1) l.length ++ rest)) Q := fun hv => by
     obtain ⟨v, S', le, k1, _, k3⟩ := a4i hv
     exact At.step h1 hat (a6f _) k1 (fun a' w' hat' => ih _ _ _ _ _ k3 (by rw [a1S]; exact hat') hQ)
    have hat0 := hat
    obtain ⟨_, g, _, _, hf⟩ := hat
    obtain ⟨w1, w2, w3⟩ := a4z h1 hf
    simp only [VCops] at h
    cases hg : ro.guard with
    | none =>
      simp only [hg] at h
      rw [if_pos (w1 hg)]
      exact .inl (hstep h)
    | some p =>
      obtain ⟨t, want⟩ := p
      simp only [hg] at h
      generalize hq : Fr.get fr t = q at h
      split at h
      case h_3 => exact h.elim
      case h_2 =>
       rw [w3 t want hg hq, if_neg zS]
       refine ih _ _ _ _ _ h ?_ hQ
       rw [a1S, hdst]
       exact At.skip hat0 hdn
      rename_i b
      obtain ⟨ha, hb⟩ := h
      rw [w2 t want b hg hq]
      by_cases e : b = want
      ·subst e
       rw [if_pos zS]
       exact .inl (hstep (ha rfl))
      ·have e' : b = !want := by cases b <;> cases want <;> simp_all
       rw [if_neg (by simp [e])]
       refine ih _ _ _ _ _ (hb e') ?_ hQ
       rw [a1S, hdst]
       exact At.skip hat0 hdn
   ·cases hr

theorem a4c {P : Program} {n : Nat} {ops : Array Oper} : ∀ {l : List Oper} {xs ys : List w8}, t6 P n ops l = some (xs ++ ys) -> ∃ l1 l2, l = l1 ++ l2 /\ t6 P n ops l1 = some xs /\ t6 P n ops l2 = some ys
 | l, [], ys, h => ⟨[], l, rfl, rfl, h⟩
 | [], x :: xs, ys, h => by simp [t6] at h
 | o :: l, x :: xs, ys, h => by
   simp only [t6, List.cons_append] at h
   split at h
   ·rename_i q qs h1 h2
    cases h
    obtain ⟨l1, l2, rfl, e1, e2⟩ := a4c h2
    exact ⟨o :: l1, l2, rfl, by simp only [t6, h1, e1], e2⟩
   ·cases h

theorem b3e {P : Program} {n : Nat} {ops : Array Oper} {g0 : Gh} {S0 : List Ob} {Q : Exit -> Act -> World -> Prop} {K : Post} : ∀ (b : FC) (rs : List w8), a1x b = some rs -> ∀ (l : List Oper) (i : Nat) (fr : Fr) (S : List Ob) (a : Act) (w : World),
  (∀ j (o : Oper), l[j]? = some o -> ops[i + j]? = some o) -> t6 P n ops l = some rs -> VC P S0 b fr S K -> At g0 (hp S0) n (Fr.get fr) (hp S) a w ->
  (∀ fr' S' a' w', K .normal fr' S' -> At g0 (hp S0) n (Fr.get fr') (hp S') a' w' -> Q .normal a' w') -> wpOps P ops Q (List.range' i l.length) a w
 | .reg rs0 [], rs, hb, l, i, fr, S, a, w, hl, hr, hv, hat, hQ => by
   simp only [a1x, Option.some.injEq] at hb; subst hb
   exact a6h l _ i fr S [] a w hl hr hv hat (fun fr' S' log a' w' hk => hQ fr' S' a' w' hk.2)
 | .seq (.reg xs []) b, rs, hb, l, i, fr, S, a, w, hl, hr, hv, hat, hQ => by
   simp only [a1x] at hb
   split at hb
   ·rename_i ys hy
    simp only [Option.some.injEq] at hb
    subst hb
    obtain ⟨l1, l2, rfl, e1, e2⟩ := a4c hr
    have e : List.range' i (l1 ++ l2).length = List.range' i l1.length ++ List.range' (i + l1.length) l2.length := by
     rw [List.length_append]
     simp
    rw [e]
    refine a7d l1 xs i fr S [] a w (fun j o hj => hl j o (by rw [List.getElem?_append_left]; exact hj; exact (List.getElem?_eq_some_iff.1 hj).1)) e1 hv hat (fun fr' S' log a' w' hk hat' => ?_)
    obtain ⟨_, F, T, hw, hk⟩ := hk
    exact b3e b ys hy l2 (i + l1.length) F T a' w' (fun j o hj => by
     have := hl (l1.length + j) o (by rw [List.getElem?_append_right zO]; simpa using hj)
     rwa [<- Nat.add_assoc] at this) e2 hk (hw _ _ _ _ hat') hQ
   ·cases hb
 | .skip, _, hb, _, _, _, _, _, _, _, _, _, _, _ => by simp [a1x] at hb
 | .reg _ (_ :: _), _, hb, _, _, _, _, _, _, _, _, _, _, _ => by simp [a1x] at hb
 | .seq .skip _, _, hb, _, _, _, _, _, _, _, _, _, _, _ => by simp [a1x] at hb
 | .seq (.reg _ (_ :: _)) _, _, hb, _, _, _, _, _, _, _, _, _, _, _ => by simp [a1x] at hb
 | .seq (.seq _ _) _, _, hb, _, _, _, _, _, _, _, _, _, _, _ => by simp [a1x] at hb
 | .seq (.cond _ _ _) _, _, hb, _, _, _, _, _, _, _, _, _, _, _ => by simp [a1x] at hb
 | .seq (.block _ _) _, _, hb, _, _, _, _, _, _, _, _, _, _, _ => by simp [a1x] at hb
 | .seq (.loop _) _, _, hb, _, _, _, _, _, _, _, _, _, _, _ => by simp [a1x] at hb
 | .seq (.exit _) _, _, hb, _, _, _, _, _, _, _, _, _, _, _ => by simp [a1x] at hb
 | .seq .ret _, _, hb, _, _, _, _, _, _, _, _, _, _, _ => by simp [a1x] at hb
 | .cond _ _ _, _, hb, _, _, _, _, _, _, _, _, _, _, _ => by simp [a1x] at hb
 | .block _ _, _, hb, _, _, _, _, _, _, _, _, _, _, _ => by simp [a1x] at hb
 | .loop _, _, hb, _, _, _, _, _, _, _, _, _, _, _ => by simp [a1x] at hb
 | .exit _, _, hb, _, _, _, _, _, _, _, _, _, _, _ => by simp [a1x] at hb
 | .ret, _, hb, _, _, _, _, _, _, _, _, _, _, _ => by simp [a1x] at hb


theorem a7e {fc : FC} {rs ps} (h : x3 fc = .reg rs ps) : fc = .reg rs ps \/ ∃ b, fc = .block b3V b /\ a1x b = some rs /\ ps = [] := by
 cases fc with
 | reg a b => simp only [x3] at h; cases h; exact .inl rfl
 | block i a =>
   simp only [x3] at h
   split at h
   ·rename_i e
    subst e
    split at h
    ·rename_i rs' e2
     cases h
     exact .inr ⟨a, rfl, e2, rfl⟩
    ·cases h
   ·cases h
 | _ => simp [x3] at h

def a3I : Code -> FC -> Bool
 | .region _ _ d, .block _ _ => !d
 | .seq a b, .seq x y => a3I a x && a3I b y
 | .cond _ a b, .cond _ x y => a3I a x && a3I b y
 | .block _ a, .block _ x => a3I a x
 | .loop a, .loop x => a3I a x
 | _, _ => true

theorem b6E {P : Program} {n : Nat} (hm : P.follows .mixedOrders = true) {g0 : Gh} {S0 : List Ob} : ∀ (c : Code) (fc : FC), r8 P n c = some (x3 fc) -> a3I c fc = true -> ∀ (fr : Fr) (S : List Ob) (K : Post), VC P S0 fc fr S K ->
  ∀ a w, At g0 (hp S0) n (Fr.get fr) (hp S) a w -> c.wp P (QK g0 S0 n K) a w := by
 have noblk : ∀ {i x fc}, FC.block i x = x3 fc -> ∃ y, fc = .block i y /\ x = x3 y := by
  intro i x fc h
  cases fc with
  | block j a =>
    simp only [x3] at h
    split at h
    ·split at h
     ·cases h
     ·cases h; exact ⟨a, rfl, rfl⟩
    ·cases h; exact ⟨a, rfl, rfl⟩
  | _ => simp [x3] at h
 have blk2 : ∀ {i a}, x3 (.block i a) = .skip -> False := by
  intro i a h
  simp only [x3] at h
  split at h
  ·split at h <;> cases h
  ·cases h
 have blk3 : ∀ {i a x y}, x3 (.block i a) = .seq x y -> False := by
  intro i a x y h
  simp only [x3] at h
  split at h
  ·split at h <;> cases h
  ·cases h
 have blk4 : ∀ {i a c x y}, x3 (.block i a) = .cond c x y -> False := by
  intro i a c x y h
  simp only [x3] at h
  split at h
  ·split at h <;> cases h
  ·cases h
 have blk5 : ∀ {i a x}, x3 (.block i a) = .loop x -> False := by
  intro i a x h
  simp only [x3] at h
  split at h
  ·split at h <;> cases h
  ·cases h
 have blk6 : ∀ {i a x}, x3 (.block i a) = .exit x -> False := by
  intro i a x h
  simp only [x3] at h
  split at h
  ·split at h <;> cases h
  ·cases h
 have blk7 : ∀ {i a}, x3 (.block i a) = .ret -> False := by
  intro i a h
  simp only [x3] at h
  split at h
  ·split at h <;> cases h
  ·cases h
 intro c
 induction c with
 | skip =>
   intro fc h hc fr S K hv a w hat
   simp only [r8, Option.some.injEq] at h
   cases fc with
   | skip => exact wp_skip ⟨fr, S, hat, hv⟩
   | block i b => exact (blk2 h.symm).elim
   | _ => simp [x3] at h
 | label l =>
   intro fc h hc fr S K hv a w hat
   simp only [r8, Option.some.injEq] at h
   cases fc with
   | skip => exact wp_label ⟨fr, S, hat, hv⟩
   | block i b => exact (blk2 h.symm).elim
   | _ => simp [x3] at h
 | region id ops d =>
   intro fc h hc fr S K hv a w hat
   simp only [r8] at h
   split at h
   ·rename_i rs hrs
    split at h
    ·rename_i hd
     subst hd
     split at h
     ·rename_i hok
      simp only [Option.some.injEq] at h
      rcases a7e h.symm with rfl | ⟨b, rfl, hb, hps⟩
      ·exact b0c hm hrs hok hv hat (fun fr' S' a' w' hk hat' => ⟨fr', S', hat', hk⟩)
      ·simp [a3I] at hc
     ·cases h
    ·rename_i hd
     have : d = false := by simpa using hd
     subst this
     simp only [Option.some.injEq] at h
     rcases a7e h.symm with rfl | ⟨b, rfl, hb, hps⟩
     ·simp only [VC, u7, true_and] at hv
      exact b0d hrs hv hat (fun fr' S' a' w' hk hat' => ⟨fr', S', hat', hk⟩)
     ·have hv2 : VC P S0 b fr S (Post.blk b3V K) := hv
      refine wp_region ?_
      have := b3e (P := P) (n := n) (ops := ops) (Q := QK g0 S0 n K) b rs hb ops.toList 0 fr S a w (fun j o hj => by rw [Nat.zero_add, <- Array.getElem?_toList]; exact hj) hrs hv2 hat (fun fr' S' a' w' hk hat' => ⟨fr', S', hat', hk⟩)
      rw [List.range_eq_range']
      simpa using this
   ·cases h
 | seq x y ihx ihy =>
   intro fc h hc fr S K hv a w hat
   simp only [r8] at h
   split at h
   ·rename_i fx fy hx hy
    simp only [Option.some.injEq] at h
    cases fc with
    | seq x' y' =>
      simp only [x3, FC.seq.injEq] at h
      simp only [a3I, Bool.and_eq_true] at hc
      refine wp_seq (wp_mono (ihx x' (by rw [hx, h.1]) hc.1 fr S _ hv a w hat) (fun e a' w' hq => ?_))
      obtain ⟨fr', S', hat', hk⟩ := hq
      cases e with
      | normal =>
        obtain ⟨F, T, hwk, hk⟩ := hk
        exact ihy y' (by rw [hy, h.2]) hc.2 F T K hk a' w' (hwk _ _ _ _ hat')
      | _ => exact ⟨fr', S', hat', hk⟩
    | block i b => exact (blk3 h.symm).elim
    | _ => simp [x3] at h
   ·cases h
 | cond c x y ihx ihy =>
   intro fc h hc fr S K hv a w hat
   simp only [r8] at h
   split at h
   ·rename_i c' fx fy hcc hx hy
    simp only [Option.some.injEq] at h
    cases fc with
    | cond c2 x' y' =>
      simp only [x3, FC.cond.injEq] at h
      obtain ⟨rfl, h1, h2⟩ := h
      simp only [a3I, Bool.and_eq_true] at hc
      simp only [VC] at hv
      obtain ⟨_, g, _, _, hf⟩ := id hat
      have hcv := i8 hf hcc
      generalize ev (Fr.get fr) c' = q at hv hcv
      cases q <;> try exact hv.elim
      rename_i t
      generalize hae : a.eval c = u at hcv
      cases hcv
      refine wp_cond_split hae (fun ht => ?_) (fun ht => ?_)
      ·exact ihx x' (by rw [hx, h1]) hc.1 fr S K (hv.1 ht) a w hat
      ·exact ihy y' (by rw [hy, h2]) hc.2 fr S K (hv.2 ht) a w hat
    | block i b => exact (blk4 h.symm).elim
    | _ => simp [x3] at h
   ·cases h
 | block i x ihx =>
   intro fc h hc fr S K hv a w hat
   simp only [r8] at h
   split at h
   ·rename_i fx hx
    simp only [Option.some.injEq] at h
    obtain ⟨x', rfl, h1⟩ := noblk h
    simp only [a3I] at hc
    refine wp_block (wp_mono (ihx x' (by rw [hx, h1]) hc fr S _ hv a w hat) (fun e a' w' hq => ?_))
    obtain ⟨fr', S', hat', hk⟩ := hq
    cases e with
    | exit j =>
      simp only [Exit.inBlock, Post.blk] at hk ⊢
      split
      ·rename_i e; rw [if_pos e] at hk; exact ⟨fr', S', hat', hk⟩
      ·rename_i e; rw [if_neg e] at hk; exact ⟨fr', S', hat', hk⟩
    | _ => exact ⟨fr', S', hat', hk⟩
   ·cases h
 | loop x ihx =>
   intro fc h hc fr S K hv a w hat
   simp only [r8] at h
   split at h
   ·rename_i fx hx
    simp only [Option.some.injEq] at h
    cases fc with
    | loop x' =>
      simp only [x3, FC.loop.injEq] at h
      simp only [a3I] at hc
      obtain ⟨ι, F, T, Pr, μ, i0, hp0, hwk, hrd⟩ := hv
      refine a5C (fun i a w => Pr i /\ At g0 (hp S0) n (Fr.get (F i)) (hp (T i)) a w) μ (fun i a w hI => ?_) (i0 := i0) ⟨hp0, hwk _ _ _ _ hat⟩
      refine wp_mono (ihx x' (by rw [hx, h]) hc (F i) (T i) _ (hrd i hI.1) a w hI.2) (fun e a' w' hq => ?_)
      obtain ⟨fr', S', hat', hk⟩ := hq
      cases e with
      | normal =>
        obtain ⟨i', h1, h2, h3⟩ := hk
        exact ⟨i', ⟨h1, h3 _ _ _ _ hat'⟩, h2⟩
      | _ => exact ⟨fr', S', hat', hk⟩
    | block i b => exact (blk5 h.symm).elim
    | _ => simp [x3] at h
   ·cases h
 | exit i =>
   intro fc h hc fr S K hv a w hat
   simp only [r8, Option.some.injEq] at h
   cases fc with
   | exit j => simp only [x3, FC.exit.injEq] at h; subst h; exact wp_exit ⟨fr, S, hat, hv⟩
   | block i b => exact (blk6 h.symm).elim
   | _ => simp [x3] at h
 | ret =>
   intro fc h hc fr S K hv a w hat
   simp only [r8, Option.some.injEq] at h
   cases fc with
   | ret => exact wp_ret ⟨fr, S, hat, hv⟩
   | block i b => exact (blk7 h.symm).elim
   | _ => simp [x3] at h
 | _ => intro fc h; simp [r8] at h

structure c2e (P : Program) (f : FuncId) (n : Nat) (ts : List RS) (fc : FC) : Prop where
 ex : ∃ fn c, P.funcs[f]? = some fn /\ fn.body = some c /\ fn.ntmps = n /\ t7 P fn.results.toList = some ts /\ r8 P n c = some (x3 fc) /\ a3I c fc = true

theorem b3W {P : Program} {f n : Nat} {ts : List RS} {fc : FC} (hm : P.follows .mixedOrders = true) (hfn : c2e P f n ts fc) {args : List AV} (hn : args.length <= n) {S S' : List Ob} {r : AV} (ow : List Nat)
  (h : VT P S ow fc (a1h 0 args) S (fun e fr1 S1 => a4D e /\ ∃ v R, a1T S1 (Fr.get fr1) ts = some v /\ GWk S S1 S' R /\ R v r)) : Ev P f args (hp S) r (hp S') := by
 have hv := b6e (K' := fun e fr1 S1 => a4D e /\ ∃ v R, a1T S1 (Fr.get fr1) ts = some v /\ GWk S S1 S' R /\ R v r) (fun _ _ _ h => h) h
 intro g w vals hw hvs
 obtain ⟨fn, c, hf, hb, hnt, hrs, hrc, hok⟩ := hfn.ex
 have hvs1 := hvs.1
 refine calls_of_wp hf hb ?_
 have hat : At g (hp S) n (Fr.get (a1h 0 args)) (hp S) { tmps := vals ++ Array.replicate (fn.ntmps - vals.size) undef, defers := [] } w := by
  refine ⟨rfl, g, Gh.le.refl _ _, hw, ⟨by simp; omega, fun t => ?_⟩⟩
  rw [a3D]
  simp only [Nat.zero_le, if_true, Nat.sub_zero]
  by_cases ht : t < args.length
  ·have := hvs.2 t ht zO
   rw [List.getD_eq_getElem?_getD, List.getElem?_eq_getElem ht]
   rw [Array.getD_eq_getD_getElem?, Array.getElem?_append_left zO, Array.getElem?_eq_getElem zO]
   exact this
  ·rw [List.getD_eq_getElem?_getD, List.getElem?_eq_none zO]
   exact .junk
 refine wp_mono (b6E hm c fc hrc hok _ _ _ hv _ _ hat) (fun e a' w' hq => ?_)
 obtain ⟨fr1, S1, ⟨hd, g1, hle1, hw1, hf1⟩, he, v, R, hret, hgw, hR⟩ := hq
 obtain ⟨u, hu, hvu⟩ := a5I hw1 hf1 hrs hret
 obtain ⟨g2, hle2, hw2, hv2⟩ := hgw g g1 w' hle1 hw1
 have hfin : a'.defers = [] /\ ∃ v, (results fn a'.tmps).run P w' = .ok v w' /\ ∃ u g', Ending.returned v = .returned u /\ g.le (hp S) g' (hp S') /\ WRel g' (hp S') w' /\ VR g'.pm g'.L (hp S') r u :=
  ⟨hd, u, hu, u, g2, rfl, hle2, hw2, hv2 _ _ _ hR hvu⟩
 cases e with
 | normal => exact hfin
 | ret => exact hfin
 | _ => exact he.elim

theorem a4M {P : Program} {f n : Nat} {ts : List RS} {fc : FC} (hm : P.follows .mixedOrders = true) (hfn : c2e P f n ts fc) {args : List AV} (hn : args.length <= n) {r : AV} (ow : List Nat) (k : Nat)
  (h : VT P [] ow fc (a1h 0 args) [] (fun e fr S => a4D e /\ ∃ v, a1T S (Fr.get fr) ts = some v /\ AVw (frz 0 S k v) r)) : p3 P f args r := by
 have := b3W (S := []) (S' := []) (r := r) hm hfn hn ow (a0T (K' := fun e fr1 S1 => a4D e /\ ∃ v R, a1T S1 (Fr.get fr1) ts = some v /\ GWk [] S1 [] R /\ R v r) (fun e fr S hk => ?_) h)
 ·rw [b0j] at this; exact this
 ·obtain ⟨he, v, h1, h2⟩ := hk
  refine ⟨he, v, _, h1, (a6j 0 k zS).trans GWk.refl, _, rfl, h2⟩

section
variable {P : Program} {S0 : List Ob} {ow : List Nat} {fr : Fr} {S : List Ob} {log : List LE}
end
end Go.Ab

/- Plain lemmas of loops: for the laws of what functions compute. -/
namespace Go.Ab

theorem a0f {α : Type} (l : List α) (i : Nat) : j9 l (i : Int) = l[i]? := by unfold j9; rw [if_pos zO]; simp
theorem a1U {α : Type} {l : List α} {i : Int} (h0 : 0 <= i) (h : i.toNat < l.length) : j9 l i = some (l[i.toNat]) := by unfold j9; rw [if_pos h0, List.getElem?_eq_getElem h]
theorem a3l {x : Int} (h : -9223372036854775808 <= x /\ x <= 9223372036854775807) : I64 x = x := b6p h
theorem b0E {x : Int} (h : 0 <= x /\ x <= 18446744073709551615) : U64 x = x := by
 show IntKind.u64.wrap x = x
 simp [IntKind.wrap, IntKind.bits, IntKind.signed]; omega
theorem a4N {σ ρ : Type} {body : σ -> Option (Stp σ ρ)} {n : Nat} {s s' : σ} (h : body s = some (.nxt s')) : a0V body (n + 1) s = a0V body n s' := by simp only [a0V, h]
theorem a5M {σ ρ : Type} {body : σ -> Option (Stp σ ρ)} {n : Nat} {s s' : σ} (h : body s = some (.brk s')) : a0V body (n + 1) s = some (.fin s') := by simp only [a0V, h]
theorem a5N {σ ρ : Type} {body : σ -> Option (Stp σ ρ)} {n : Nat} {s : σ} {v : ρ} (h : body s = some (.ret v)) : a0V body (n + 1) s = some (.ret v) := by simp only [a0V, h]
def bs (c : Nat -> Int) (i j : Nat) : Nat :=
 if h : i < j then (if c ((i + j) / 2) < 0 then bs c ((i + j) / 2 + 1) j else bs c i ((i + j) / 2)) else i
termination_by j - i
decreasing_by all_goals omega
open Go Go.RowKit

theorem rangeL_inv {α σ ρ : Type} {body : Nat -> α -> σ -> Option (Stp σ ρ)} (ok : α -> Bool) (v : ρ) (Inv : Nat -> σ -> Prop) : ∀ (xs : List α) (k : Nat) (s : σ), Inv k s ->
  (∀ i x s, xs[i]? = some x -> Inv (k + i) s -> if ok x = true then ∃ s', body (k + i) x s = some (.nxt s') /\ Inv (k + i + 1) s' else body (k + i) x s = some (.ret v)) ->
  if xs.all ok = true then ∃ s', a0m body xs k s = some (.fin s') /\ Inv (k + xs.length) s' else a0m body xs k s = some (.ret v)
 | [], k, s, hi, h => by simp only [List.all_nil, if_true, a0m]; exact ⟨s, rfl, by simpa using hi⟩
 | x :: r, k, s, hi, h => by
   have h0 := h 0 x s rfl hi
   cases hx : ok x with
   | false =>
     rw [hx] at h0
     simp only [Nat.add_zero, Bool.false_eq_true, if_false] at h0
     simp only [List.all_cons, hx, Bool.false_and, Bool.false_eq_true, if_false, a0m, h0]
   | true =>
     rw [hx] at h0
     simp only [Nat.add_zero, if_true] at h0
     obtain ⟨s', e1, e2⟩ := h0
     have := rangeL_inv ok v Inv r (k + 1) s' e2 (fun i y s hy hs => by
      have := h (i + 1) y s (by simpa using hy) (by rwa [show k + (i + 1) = k + 1 + i by omega])
      rwa [show k + (i + 1) = k + 1 + i by omega] at this)
     simp only [List.all_cons, hx, Bool.true_and, a0m, e1, List.length_cons]
     rw [show k + (r.length + 1) = k + 1 + r.length by omega]
     exact this
theorem rng_inv {α σ ρ : Type} {body : Nat -> α -> σ -> Option (Stp σ ρ)} {xs : List α} {s0 : σ} (ok : α -> Bool) (v : ρ) (Inv : Nat -> σ -> Prop) (hl : xs.length <= 4611686018427387904) (h0 : Inv 0 s0)
  (h : ∀ i x s, xs[i]? = some x -> Inv i s -> if ok x = true then ∃ s', body i x s = some (.nxt s') /\ Inv (i + 1) s' else body i x s = some (.ret v)) :
  if xs.all ok = true then ∃ s', rng body xs s0 = some (.fin s') /\ Inv xs.length s' else rng body xs s0 = some (.ret v) := by
 unfold rng
 rw [if_pos hl]
 have := rangeL_inv ok v Inv xs 0 s0 h0 (fun i x s hx hs => by simpa using h i x s hx (by simpa using hs))
 simpa using this
theorem rangeN_inv {σ ρ : Type} {body : Nat -> σ -> Option (Stp σ ρ)} (Inv : Nat -> σ -> Prop) : ∀ (n k : Nat) (s : σ), Inv k s ->
  (∀ i s, k <= i -> i < k + n -> Inv i s -> ∃ s', body i s = some (.nxt s') /\ Inv (i + 1) s') -> ∃ s', a0n body n k s = some (.fin s') /\ Inv (k + n) s'
 | 0, k, s, hi, h => ⟨s, rfl, hi⟩
 | n + 1, k, s, hi, h => by
   obtain ⟨s', e1, e2⟩ := h k s zO zO hi
   obtain ⟨s2, e3, e4⟩ := rangeN_inv Inv n (k + 1) s' e2 (fun i s a b c => h i s zO zO c)
   exact ⟨s2, by simp only [a0n, e1, e3], by rwa [show k + (n + 1) = k + 1 + n by omega]⟩
theorem rni_inv {σ ρ : Type} {body : Nat -> σ -> Option (Stp σ ρ)} {n : Int} {s0 : σ} (Inv : Nat -> σ -> Prop) (hn : n <= 4611686018427387904) (h0 : Inv 0 s0)
  (h : ∀ (i : Nat) s, (i : Int) < n -> Inv i s -> ∃ s', body i s = some (.nxt s') /\ Inv (i + 1) s') : ∃ s', rni body n s0 = some (.fin s') /\ Inv n.toNat s' := by
 unfold rni
 rw [if_pos hn]
 obtain ⟨s', a, b⟩ := rangeN_inv (body := body) Inv n.toNat 0 s0 h0 (fun i s _ hi hs => h i s zO hs)
 exact ⟨s', a, by simpa using b⟩
theorem appL_of {α : Type} {b : Nat} {l m : List α} (h : (l.length + m.length) * b <= 140737488355328 /\ l.length + m.length <= 140737488355328) : a2R b l m = some (l ++ m) := if_pos h
theorem appL1 {l m : List Int} (h : l.length + m.length <= 140737488355328) : a2R 1 l m = some (l ++ m) := appL_of zO

theorem whileN_ex {σ ρ : Type} {body : σ -> Option (Stp σ ρ)} (Inv : σ -> Prop) (μ : σ -> Nat) (Q : Out σ ρ -> Prop)
  (h : ∀ s, Inv s -> (∃ s', body s = some (.nxt s') /\ Inv s' /\ μ s' < μ s) \/ (∃ s', body s = some (.brk s') /\ Q (.fin s')) \/ (∃ v, body s = some (.ret v) /\ Q (.ret v))) :
  ∀ (n : Nat) (s : σ), Inv s -> μ s < n -> ∃ o, a0V body n s = some o /\ Q o
 | 0, s, _, hn => by omega
 | n + 1, s, hi, hn => by
   rcases h s hi with ⟨s', h1, h2, h3⟩ | ⟨s', h1, h2⟩ | ⟨v, h1, h2⟩
   ·rw [a4N h1]; exact whileN_ex Inv μ Q h n s' h2 zO
   ·rw [a5M h1]; exact ⟨_, rfl, h2⟩
   ·rw [a5N h1]; exact ⟨_, rfl, h2⟩
theorem rangeL_ex {α σ ρ : Type} {body : Nat -> α -> σ -> Option (Stp σ ρ)} (Inv : Nat -> σ -> Prop) (Q : Out σ ρ -> Prop) : ∀ (xs : List α) (k : Nat) (s : σ), Inv k s ->
  (∀ i x s, xs[i]? = some x -> Inv (k + i) s -> (∃ s', body (k + i) x s = some (.nxt s') /\ Inv (k + i + 1) s') \/ ∃ v, body (k + i) x s = some (.ret v) /\ Q (.ret v)) ->
  (∀ s, Inv (k + xs.length) s -> Q (.fin s)) -> ∃ o, a0m body xs k s = some o /\ Q o
 | [], k, s, hi, h, hQ => ⟨_, rfl, hQ s (by simpa using hi)⟩
 | x :: r, k, s, hi, h, hQ => by
   rcases h 0 x s rfl (by simpa using hi) with ⟨s', e1, e2⟩ | ⟨v, e1, e2⟩
   ·simp only [Nat.add_zero] at e1 e2
    simp only [a0m, e1]
    refine rangeL_ex Inv Q r (k + 1) s' e2 (fun i y s hy hs => ?_) (fun s hs => hQ s (by rw [List.length_cons]; rwa [show k + (r.length + 1) = k + 1 + r.length by omega]))
    have := h (i + 1) y s (by simpa using hy) (by rwa [show k + (i + 1) = k + 1 + i by omega])
    rwa [show k + (i + 1) = k + 1 + i by omega] at this
   ·simp only [Nat.add_zero] at e1
    simp only [a0m, e1]
    exact ⟨_, rfl, e2⟩
theorem rng_ex {α σ ρ : Type} {body : Nat -> α -> σ -> Option (Stp σ ρ)} {xs : List α} {s0 : σ} (Inv : Nat -> σ -> Prop) (Q : Out σ ρ -> Prop) (hl : xs.length <= 4611686018427387904) (h0 : Inv 0 s0)
  (h : ∀ i x s, xs[i]? = some x -> Inv i s -> (∃ s', body i x s = some (.nxt s') /\ Inv (i + 1) s') \/ ∃ v, body i x s = some (.ret v) /\ Q (.ret v)) (hQ : ∀ s, Inv xs.length s -> Q (.fin s)) : ∃ o, rng body xs s0 = some o /\ Q o := by
 unfold rng
 rw [if_pos hl]
 exact rangeL_ex Inv Q xs 0 s0 h0 (fun i x s hx hs => by simpa using h i x s hx (by simpa using hs)) (fun s hs => hQ s (by simpa using hs))
theorem rangeN_ex {σ ρ : Type} {body : Nat -> σ -> Option (Stp σ ρ)} (Inv : Nat -> σ -> Prop) (Q : Out σ ρ -> Prop) : ∀ (n k : Nat) (s : σ), Inv k s ->
  (∀ i s, k <= i -> i < k + n -> Inv i s -> (∃ s', body i s = some (.nxt s') /\ Inv (i + 1) s') \/ ∃ v, body i s = some (.ret v) /\ Q (.ret v)) ->
  (∀ s, Inv (k + n) s -> Q (.fin s)) -> ∃ o, a0n body n k s = some o /\ Q o
 | 0, k, s, hi, h, hQ => ⟨_, rfl, hQ s hi⟩
 | n + 1, k, s, hi, h, hQ => by
   rcases h k s zO zO hi with ⟨s', e1, e2⟩ | ⟨v, e1, e2⟩
   ·simp only [a0n, e1]
    exact rangeN_ex Inv Q n (k + 1) s' e2 (fun i s a b c => h i s zO zO c) (fun s hs => hQ s (by rwa [show k + (n + 1) = k + 1 + n by omega]))
   ·simp only [a0n, e1]
    exact ⟨_, rfl, e2⟩
theorem rni_ex {σ ρ : Type} {body : Nat -> σ -> Option (Stp σ ρ)} {n : Int} {s0 : σ} (Inv : Nat -> σ -> Prop) (Q : Out σ ρ -> Prop) (hn : n <= 4611686018427387904) (h0 : Inv 0 s0)
  (h : ∀ (i : Nat) s, (i : Int) < n -> Inv i s -> (∃ s', body i s = some (.nxt s') /\ Inv (i + 1) s') \/ ∃ v, body i s = some (.ret v) /\ Q (.ret v)) (hQ : ∀ s, Inv n.toNat s -> Q (.fin s)) : ∃ o, rni body n s0 = some o /\ Q o := by
 unfold rni
 rw [if_pos hn]
 exact rangeN_ex Inv Q n.toNat 0 s0 h0 (fun i s _ hi hs => h i s zO hs) (fun s hs => hQ s (by simpa using hs))

open Go.RowKit
variable {P : Program} {N : Nat}

def Rd (P : Program) (N : Nat) {α : Type} (f : α -> AV) (Q : α -> Prop) (t : TypeId) : Prop := ∀ avs, Ty P N t avs -> ∃ a, avs = (f a).cells /\ Q a

theorem rdI {t k} (h : P.underlying t = some (.int k)) : Rd P N (avI k) (fun n => (Lit.int k n).wf = true) t := by
 intro avs ht
 cases ht with
 | bool h' => rw [h] at h'; cases h'
 | int h' hw => rw [h] at h'; cases h'; exact ⟨_, rfl, hw⟩
 | str h' => rw [h] at h'; cases h'
 | sl h' => rw [h] at h'; cases h'
 | struct h' => rw [h] at h'; cases h'
theorem rdB {t} (h : P.underlying t = some .bool) : Rd P N avB (fun _ => True) t := by
 intro avs ht
 cases ht with
 | bool h' => exact ⟨_, rfl, trivial⟩
 | int h' => rw [h] at h'; cases h'
 | str h' => rw [h] at h'; cases h'
 | sl h' => rw [h] at h'; cases h'
 | struct h' => rw [h] at h'; cases h'
def c2C (P : Program) (e : TypeId) (esh : Option Nat) : Prop := match esh with | some _ => ∃ fs, P.underlying e = some (.struct fs) | none => ∀ fs, P.underlying e ≠ some (.struct fs)

theorem b0F {α : Type} {f : α -> AV} {esh : Option Nat} {e : TypeId} (he : Enc f esh) (hf : c2C P e esh) {x : AV} {a : α} (hc : x.cells = (f a).cells)
  (hx : ((∃ fs, P.underlying e = some (.struct fs)) /\ ∃ cs, x = .agg cs) \/ ((∀ fs, P.underlying e ≠ some (.struct fs)) /\ x.cells = [x])) : x = f a := by
 have h := he.form a
 cases esh with
 | none =>
   rcases hx with ⟨⟨fs, h1⟩, _⟩ | ⟨_, h1⟩
   ·exact (hf fs h1).elim
   ·rw [h1] at hc
    have h2 : (f a).cells = [f a] := h
    rw [h2] at hc
    exact (List.cons.inj hc).1
 | some n =>
   have h2 : f a = .agg (f a).cells := h
   rcases hx with ⟨_, cs, rfl⟩ | ⟨h1, _⟩
   ·rw [h2, <- hc]; rfl
   ·obtain ⟨fs, h3⟩ := hf
    exact (h1 fs h3).elim

theorem rdL {α : Type} {f : α -> AV} {Q : α -> Prop} {esh : Option Nat} {t e : TypeId} (he : Enc f esh) (hf : c2C P e esh) (h : P.underlying t = some (.slice e)) {sz : Nat} (hc : P.cellsOf e = sz) (hr : Rd P N f Q e) : Rd P N (avL sz f) (fun l => l.length <= N /\ ∀ a ∈ l, Q a) t := by
 intro avs ht
 cases ht with
 | bool h' => rw [h] at h'; cases h'
 | int h' => rw [h] at h'; cases h'
 | str h' => rw [h] at h'; cases h'
 | struct h' => rw [h] at h'; cases h'
 | sl h' hl hx ha =>
   rename_i e' xs
   rw [h] at h'; cases h'
   have key : ∀ y ∈ xs, ∃ a, y = f a /\ Q a := fun y hy => by
    obtain ⟨a, h1, h2⟩ := hr _ (hx y hy)
    exact ⟨a, b0F he hf h1 (ha y hy), h2⟩
   obtain ⟨l, rfl, hq⟩ := a9b key
   refine ⟨l, ?_, by simpa using hl, hq⟩
   rw [hc]; rfl

theorem a4O {t fs avs} (h : P.underlying t = some (.struct fs)) (ht : Ty P N t avs) : avs.length = P.cellsOf t /\ ∀ (i : Nat) (f : Field), fs[i]? = some f -> Ty P N f.type ((avs.drop f.offset).take (P.cellsOf f.type)) := by
 cases ht with
 | bool h' => rw [h] at h'; cases h'
 | int h' => rw [h] at h'; cases h'
 | str h' => rw [h] at h'; cases h'
 | sl h' => rw [h] at h'; cases h'
 | struct h' hl hf => rw [h] at h'; cases h'; exact ⟨hl, hf⟩
theorem a1V {cs xs rest : List AV} {o s : Nat} (h : (cs.drop o).take s = xs) (k : cs.drop (o + s) = rest) : cs.drop o = xs ++ rest := by
 rw [<- h, <- k, <- List.drop_drop, List.take_append_drop]
theorem b0G {cs : List AV} {n : Nat} (h : cs.length = n) : cs.drop n = [] := List.drop_eq_nil_of_le zO

theorem b3f {α : Type} {f : α -> AV} {Q : α -> Prop} {esh : Option Nat} {t : TypeId} (he : Enc f esh) (hf : c2C P t esh) (hr : Rd P N f Q t) {x : AV} (h : Arg P N t x) : ∃ a, x = f a /\ Q a := by
 obtain ⟨a, h1, h2⟩ := hr _ h.1
 exact ⟨a, b0F he hf h1 h.2, h2⟩
end Go.Ab

/- From a reading of an argument that is an array. -/
namespace Go.Ab
open Go.RowKit
variable {H : Type} {enc : TypeId × Value -> H} {P : Program} {W : World} {bk : DataW H -> Nat} {N : Nat}
end Go.Ab

/- A list whose last element's list is an object of its own. -/
namespace Go.Ab
open Go Go.RowKit
section
variable {α β : Type} {f : α -> AV} {esh : Option Nat}
theorem RnL.set {R : Rn} {cs : List AV} {j : Nat} {u v : AV} (hb : a0S 0 cs = true) (h : RnV R u v) : RnL R 0 (cs.set j u) (cs.set j v) := by
 refine ⟨by simp, fun i h1 h2 => ?_⟩
 simp only [Nat.zero_add] at h1 ⊢
 simp only [List.getElem_set]
 by_cases hj : j = i
 ·simp only [hj, if_true]; exact h
 ·simp only [hj, if_false]; exact .base (z6 hb i (by simpa using h1)) (.refl _)
variable {P : Program} {S0 : List Ob} {ow : List Nat} {fr : Fr} {S : List Ob} {log : List LE}
theorem c2D {d a sh rs} {K : Fr -> List Ob -> List LE -> Prop} {o ver p} {cs : List AV} {v : AV} (e : ev (Fr.get fr) a = .ptr o ver p) (ho : hp S o = .arr ver cs)
  (hv : w9 sh cs p = some v) (h : VTops P ow rs ((d, v) :: fr) S (.acc [o] none :: log) K) : VTops P ow (⟨some d, none, .op (.load sh a)⟩ :: rs) fr S log K := by
 refine y3 (v := v) (v' := v) (rd := [o]) (δ := none) (S' := S) ?_ rfl rfl h
 simp only [opV, e, a6U, v9, ho, if_true, Option.bind_some, hv, Option.map_some]
theorem c2E {a x nn rs} {K : Fr -> List Ob -> List LE -> Prop} {o ver p} {cs : List AV} {S' : List Ob} {xv : AV} (e : ev (Fr.get fr) a = .ptr o ver p) (ex : ev (Fr.get fr) x = xv) (ho : hp S o = .arr ver cs)
  (hx : xv.cells.length = nn) (h1 : xv.cells.all AV.one = true) (hfit : p + nn <= cs.length) (hS : a0h S o (.arr ver (splice cs p xv.cells)) = S')
  (h : VTops P ow rs fr S' (.acc [o] (some o) :: log) K) : VTops P ow (⟨none, none, .op (.store nn a x)⟩ :: rs) fr S log K := by
 refine a4E (v := .tup []) (rd := []) (δ := some (o, .arr ver (splice cs p xv.cells))) (S' := S') ?_ hS h
 simp only [opV, e, ex, a6V, v9, ho, if_true, Option.bind_some]
 rw [if_pos ⟨hx, hfit, h1⟩]
end
end Go.Ab

/- A list of which one element (number k, if it is there) has a list that is an object of its own. -/
namespace Go.Ab
open Go Go.RowKit
section
variable {α β : Type} {f : α -> AV} {esh : Option Nat}
variable {P : Program} {S0 : List Ob} {ow : List Nat} {fr : Fr} {S : List Ob} {log : List LE}
end
end Go.Ab

