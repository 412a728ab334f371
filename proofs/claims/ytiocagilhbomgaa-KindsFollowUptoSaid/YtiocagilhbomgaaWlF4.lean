/- What functions are said to compute (partial functions in plain Lean), and the steps that follow it. -/
import Derived.Test.YtiocagilhbomgaaWlF3
namespace Go.Ab
open Go.RowKit
set_option linter.unusedVariables false
set_option linter.unusedSimpArgs false

abbrev I64 (x : Int) : Int := IntKind.i64.wrap x
abbrev I32 (x : Int) : Int := IntKind.i32.wrap x
abbrev I16 (x : Int) : Int := IntKind.i16.wrap x
abbrev I8 (x : Int) : Int := IntKind.i8.wrap x
abbrev U64 (x : Int) : Int := IntKind.u64.wrap x
abbrev U32 (x : Int) : Int := IntKind.u32.wrap x
abbrev U16 (x : Int) : Int := IntKind.u16.wrap x
abbrev U8 (x : Int) : Int := IntKind.u8.wrap x

/-- Where a condition holds. -/
def gd (c : Prop) [Decidable c] {β : Type} (k : Option β) : Option β := if c then k else none
theorem gd_some {c : Prop} [Decidable c] {β : Type} {k : Option β} {r : β} (h : gd c k = some r) : c ∧ k = some r := by
  unfold gd at h
  split at h
  · exact ⟨by assumption, h⟩
  · cases h
@[simp] theorem gd_true {c : Prop} [Decidable c] {β : Type} {k : Option β} (h : c) : gd c k = k := if_pos h
theorem bd_some {α β : Type} {x : Option α} {f : α → Option β} {r : β} (h : x.bind f = some r) : ∃ v, x = some v ∧ f v = some r := Option.bind_eq_some_iff.1 h

theorem ite_t {β : Type} {e : Bool} {a b : β} (h : e = true) : (if e = true then a else b) = a := if_pos h
theorem ite_f {β : Type} {e : Bool} {a b : β} (h : e = false) : (if e = true then a else b) = b := if_neg (by rw [h]; decide)

/-- The element of a number. -/
def getI {α : Type} (l : List α) (i : Int) : Option α := if 0 ≤ i then l[i.toNat]? else none
theorem getI_some {α : Type} {l : List α} {i : Int} {y : α} (h : getI l i = some y) : 0 ≤ i ∧ i < l.length ∧ l[i.toNat]? = some y := by
  unfold getI at h
  split at h
  · obtain ⟨h1, h2⟩ := List.getElem?_eq_some_iff.1 h
    exact ⟨by assumption, by omega, h⟩
  · cases h

/-- Ways that come together. -/
def jp {σ β : Type} (k : σ → Option β) (f : (σ → Option β) → Option β) : Option β := f k

inductive Stp (σ ρ : Type) where
  | nxt (s : σ)
  | brk (s : σ)
  | ret (r : ρ)
inductive Out (σ ρ : Type) where
  | fin (s : σ)
  | ret (r : ρ)

def rangeL {α σ ρ : Type} (body : Nat → α → σ → Option (Stp σ ρ)) : List α → Nat → σ → Option (Out σ ρ)
  | [], _, s => some (.fin s)
  | x :: xs, i, s => match body i x s with
    | none => none
    | some (.nxt s') => rangeL body xs (i + 1) s'
    | some (.brk s') => some (.fin s')
    | some (.ret r) => some (.ret r)
/-- A loop over a list. -/
def rng {α σ ρ : Type} (body : Nat → α → σ → Option (Stp σ ρ)) (xs : List α) (s : σ) : Option (Out σ ρ) := if xs.length ≤ 4611686018427387904 then rangeL body xs 0 s else none

def rangeN {σ ρ : Type} (body : Nat → σ → Option (Stp σ ρ)) : Nat → Nat → σ → Option (Out σ ρ)
  | 0, _, s => some (.fin s)
  | n + 1, i, s => match body i s with
    | none => none
    | some (.nxt s') => rangeN body n (i + 1) s'
    | some (.brk s') => some (.fin s')
    | some (.ret r) => some (.ret r)
/-- A loop over a number. -/
def rni {σ ρ : Type} (body : Nat → σ → Option (Stp σ ρ)) (n : Int) (s : σ) : Option (Out σ ρ) := if n ≤ 4611686018427387904 then rangeN body n.toNat 0 s else none

def whileN {σ ρ : Type} (body : σ → Option (Stp σ ρ)) : Nat → σ → Option (Out σ ρ)
  | 0, _ => none
  | n + 1, s => match body s with
    | none => none
    | some (.nxt s') => whileN body n s'
    | some (.brk s') => some (.fin s')
    | some (.ret r) => some (.ret r)

/-! ### frames -/
def setF : Fr → Nat → AV → Fr
  | [], _, _ => []
  | (t', v') :: r, t, v => if t = t' then (t', v) :: r else (t', v') :: setF r t v
theorem setF_eq {t : Nat} {v : AV} : ∀ {fr : Fr}, Fr.get fr t = v → setF fr t v = fr
  | [], _ => rfl
  | (t', v') :: r, h => by
    simp only [setF]
    rw [get_cons] at h
    split
    · rename_i e; rw [if_pos e] at h; rw [h]
    · rename_i e; rw [if_neg e] at h; rw [setF_eq h]

theorem Wk.refl {S0 S : List Ob} {fr : Fr} : Wk S0 fr S fr S := fun _ _ _ _ h => h

section
variable {P : Program} {S0 : List Ob} {ow : List Nat} {fr : Fr} {S : List Ob} {log : List LE}

/-! ### steps -/
theorem E_opw {d r rs} {K : Fr → List Ob → List LE → Prop} {v v' rd δ S'} (e : opV (ow.contains d) r (Fr.get fr) S = some (v, rd, δ)) (e2 : AVw v v') (e3 : apS S δ = S') (h : VTops P ow rs ((d, v') :: fr) S' (.acc (fpOf rd δ) (δ.map (·.1)) :: log) K) :
    VTops P ow (⟨some d, none, .op r⟩ :: rs) fr S log K := by subst e3; rw [VTops_op, e]; exact ⟨_, e2, h⟩
theorem E_gsT {d t want c rs} {K : Fr → List Ob → List LE → Prop} {b : Bool} {fr1 fr2 : Fr} (e : Fr.get fr t = .bool b) (e1 : setF fr t (.bool want) = fr1) (e2 : putF (setF fr t (.bool (!want))) d (.tup []) = fr2)
    (h : b = want → VTops P ow (⟨d, none, c⟩ :: rs) fr1 S log K) (h' : b = !want → VTops P ow rs fr2 S (.acc [] none :: log) K) : VTops P ow (⟨d, some (t, want), c⟩ :: rs) fr S log K := by
  subst e1; subst e2
  refine E_gs e (fun hb => ?_) (fun hb => ?_)
  · have := h hb
    rwa [setF_eq (by rw [e, hb])] at this
  · have := h' hb
    rwa [setF_eq (by rw [e, hb])] at this
theorem E_csT {c a b} {K : Post} {t : Bool} (e : ev (Fr.get fr) c = .bool t) (h : t = true → VT P S0 ow a fr S K) (h' : t = false → VT P S0 ow b fr S K) : VT P S0 ow (.cond c a b) fr S K := E_cs e h h'
/-- The second part may be met in a weaker state. -/
theorem E_sq {a b} {K : Post} (h : VT P S0 ow a fr S (Post.thn (fun fr' S' => ∃ F T, Wk S0 fr' S' F T ∧ VT P S0 ow b F T K) K)) : VT P S0 ow (.seq a b) fr S K := by
  rw [VT_seq]; exact h
theorem E_nx {b} {K K0 : Post} (h : VT P S0 ow b fr S K) : Post.thn (fun fr' S' => ∃ F T, Wk S0 fr' S' F T ∧ VT P S0 ow b F T K) K0 .normal fr S := ⟨fr, S, Wk.refl, h⟩
theorem E_nxw {b} {K K0 : Post} {F : Fr} {T : List Ob} (hw : Wk S0 fr S F T) (h : VT P S0 ow b F T K) : Post.thn (fun fr' S' => ∃ F T, Wk S0 fr' S' F T ∧ VT P S0 ow b F T K) K0 .normal fr S := ⟨F, T, hw, h⟩
/-- Ways come together. -/
theorem E_jp {σ β : Type} {a b} {K : Post} {k : σ → Option β} {f : (σ → Option β) → Option β} {r : β} (h : jp k f = some r) (F : σ → Fr) (T : σ → List Ob)
    (h1 : ∀ k', f k' = some r → VT P S0 ow a fr S (Post.thn (fun fr' S' => ∃ s, k' s = some r ∧ Wk S0 fr' S' (F s) (T s)) K)) (h2 : ∀ s, k s = some r → VT P S0 ow b (F s) (T s) K) : VT P S0 ow (.seq a b) fr S K :=
  E_sq (VT_mono (thn_mono (fun _ _ ⟨s, hs, hw⟩ => ⟨F s, T s, hw, h2 s hs⟩) (fun _ _ _ h => h)) (h1 k h))
theorem E_jx {σ β : Type} {K0 : Post} {k' : σ → Option β} {r : β} {F : σ → Fr} {T : σ → List Ob} (s : σ) (h : k' s = some r) (hw : Wk S0 fr S (F s) (T s)) : Post.thn (fun fr' S' => ∃ s, k' s = some r ∧ Wk S0 fr' S' (F s) (T s)) K0 .normal fr S := ⟨s, h, hw⟩
theorem E_as {a b c} {K : Post} (h : VT P S0 ow (.seq a (.seq b c)) fr S K) : VT P S0 ow (.seq (.seq a b) c) fr S K := by
  rw [VT_seq] at h
  rw [VT_seq, VT_seq]
  refine VT_mono (fun e fr' S' hh => ?_) h
  cases e with
  | normal =>
    obtain ⟨F, T, hw, hv⟩ := hh
    rw [VT_seq] at hv
    exact ⟨F, T, hw, hv⟩
  | _ => exact hh

/-! ### loops -/
def LPost (S0 : List Ob) {σ ρ β : Type} (nx : Nat → Bool) (bk : Nat → Bool) (F : σ → Fr) (T : σ → List Ob) (Fx : σ → Fr) (Tx : σ → List Ob) (k : Out σ ρ → Option β) (r : β) (K : Post) (c : Stp σ ρ) : Post
  | .normal, fr, S => ∃ s, c = .nxt s ∧ Wk S0 fr S (F s) (T s)
  | .exit j, fr, S => if nx j = true then ∃ s, c = .nxt s ∧ Wk S0 fr S (F s) (T s) else if bk j = true then ∃ s, c = .brk s ∧ Wk S0 fr S (Fx s) (Tx s) else ∃ v, c = .ret v ∧ (k (.ret v) = some r → K (.exit j) fr S)
  | e, fr, S => ∃ v, c = .ret v ∧ (k (.ret v) = some r → K e fr S)

variable {σ ρ β : Type} {nx bk : Nat → Bool} {F : σ → Fr} {T : σ → List Ob} {Fx : σ → Fr} {Tx : σ → List Ob} {k : Out σ ρ → Option β} {r : β} {K : Post}
theorem L_nn {s : σ} {c : Stp σ ρ} (e : c = .nxt s) (hw : Wk S0 fr S (F s) (T s)) : LPost S0 nx bk F T Fx Tx k r K c .normal fr S := ⟨s, e, hw⟩
theorem L_nx {s : σ} {c : Stp σ ρ} {j} (e : c = .nxt s) (hj : nx j = true) (hw : Wk S0 fr S (F s) (T s)) : LPost S0 nx bk F T Fx Tx k r K c (.exit j) fr S := by
  show if nx j = true then _ else _
  rw [if_pos hj]; exact ⟨s, e, hw⟩
theorem L_bk {s : σ} {c : Stp σ ρ} {j} (e : c = .brk s) (hj : nx j = false) (hb : bk j = true) (hw : Wk S0 fr S (Fx s) (Tx s)) : LPost S0 nx bk F T Fx Tx k r K c (.exit j) fr S := by
  show if nx j = true then _ else if bk j = true then _ else _
  rw [if_neg (by rw [hj]; decide), if_pos hb]; exact ⟨s, e, hw⟩
theorem L_rx {v : ρ} {c : Stp σ ρ} {j} (e : c = .ret v) (hj : nx j = false) (hb : bk j = false) (h : k (.ret v) = some r → K (.exit j) fr S) : LPost S0 nx bk F T Fx Tx k r K c (.exit j) fr S := by
  show if nx j = true then _ else if bk j = true then _ else _
  rw [if_neg (by rw [hj]; decide), if_neg (by rw [hb]; decide)]; exact ⟨v, e, h⟩
theorem L_rr {v : ρ} {c : Stp σ ρ} (e : c = .ret v) (h : k (.ret v) = some r → K .ret fr S) : LPost S0 nx bk F T Fx Tx k r K c .ret fr S := ⟨v, e, h⟩

theorem E_while {a : FC} {id : Nat} (body : σ → Option (Stp σ ρ)) {n : Nat} {s0 : σ} (F : σ → Fr) (T : σ → List Ob) (h : (whileN body n s0).bind k = some r)
    (hw : Wk S0 fr S (F s0) (T s0))
    (hb : ∀ s c, body s = some c → VT P S0 ow a (F s) (T s) (LPost S0 (fun _ => false) (fun j => j == id) F T F T k r K c))
    (hx : ∀ s fr' S', k (.fin s) = some r → Wk S0 fr' S' (F s) (T s) → K .normal fr' S') : VT P S0 ow (.block id (.loop a)) fr S K := by
  refine E_block (E_loop (ι := Nat × σ) (fun i => F i.2) (fun i => T i.2) (fun i => (whileN body i.1 i.2).bind k = some r) (fun i => i.1) (n, s0) h hw (fun i hi => ?_))
  obtain ⟨n, s⟩ := i
  simp only at hi ⊢
  cases n with
  | zero => simp [whileN] at hi
  | succ n =>
    simp only [whileN] at hi
    cases hc : body s with
    | none => rw [hc] at hi; cases hi
    | some c =>
      rw [hc] at hi
      refine VT_mono (fun e fr' S' hk => ?_) (hb s c hc)
      cases e with
      | normal =>
        obtain ⟨s', rfl, hw'⟩ := hk
        exact ⟨(n, s'), hi, Nat.lt_succ_self _, hw'⟩
      | exit j =>
        replace hk : if (j == id) = true then ∃ s, c = .brk s ∧ Wk S0 fr' S' (F s) (T s) else ∃ v, c = .ret v ∧ (k (.ret v) = some r → K (.exit j) fr' S') := hk
        show Post.blk id K (.exit j) fr' S'
        rw [blk_e]
        by_cases hj : j = id
        · rw [if_pos hj]; rw [if_pos (by simpa using hj)] at hk
          obtain ⟨s', rfl, hw'⟩ := hk
          exact hx s' _ _ hi hw'
        · rw [if_neg hj]; rw [if_neg (by simpa using hj)] at hk
          obtain ⟨v, rfl, hv⟩ := hk
          exact hv hi
      | ret => obtain ⟨v, rfl, hv⟩ := hk; exact hv hi
      | goto l => obtain ⟨v, rfl, hv⟩ := hk; exact hv hi
      | panic l => obtain ⟨v, rfl, hv⟩ := hk; exact hv hi
      | outgrown => obtain ⟨v, rfl, hv⟩ := hk; exact hv hi

theorem I64_id {x : Int} (h : -9223372036854775808 ≤ x ∧ x ≤ 9223372036854775807) : I64 x = x := wrap_i64 h

/-- A loop's head over numbers, its steps. -/
theorem E_head {tc ti tn tj id id2 : Nat} {B : FC} {G : Fr} {T' : List Ob} {i : Nat} {n : Int} {K0 : Post} (h1 : ti ≠ tn) (hn : n ≤ 4611686018427387904)
    (hB : (i : Int) < n → VT P S0 ow B ((tc, .bool true) :: (ti, .int .i64 i) :: (tn, .int .i64 n) :: G) T' (fun e fr' S' => match e with
      | .normal => ∃ G2 T2, Wk S0 fr' S' ((ti, .int .i64 i) :: G2) T2 ∧ ∀ fr3, (∀ t, Fr.get fr3 t = if t = ti then .int .i64 ((i : Int) + 1) else if t = tj then .int .i64 ((i : Int) + 1) else Fr.get G2 t) → K0 .normal fr3 T2
      | e => Post.blk id2 (fun e fr' S' => match e with
        | .normal => ∃ G2 T2, Wk S0 fr' S' ((ti, .int .i64 i) :: G2) T2 ∧ ∀ fr3, (∀ t, Fr.get fr3 t = if t = ti then .int .i64 ((i : Int) + 1) else if t = tj then .int .i64 ((i : Int) + 1) else Fr.get G2 t) → K0 .normal fr3 T2
        | e => K0 e fr' S') e fr' S'))
    (hE : ¬ (i : Int) < n → K0 (.exit id) ((tc, .bool false) :: (ti, .int .i64 i) :: (tn, .int .i64 n) :: G) T') :
    VT P S0 ow (.seq (.reg [⟨some tc, none, .op (.bin .none .lss (.t ti) (.t tn))⟩] []) (.seq (.cond (.t tc) .skip (.exit id)) (.seq (.block id2 B) (.reg [⟨some tj, none, .op (.bin .none .add (.t ti) (.v (.int .i64 1)))⟩, ⟨some ti, none, .op (.mv (.t tj))⟩] []))))
      ((ti, .int .i64 i) :: (tn, .int .i64 n) :: G) T' K0 := by
  refine E_sq (E_reg (E_op0 (v := .bool (decide ((i : Int) < n))) ?_ rfl (E_nil (E_nx ?_))))
  · simp only [opV, ev, get_cons, if_true, if_neg (Ne.symm h1), vBin, pv, intBin]; rfl
  refine E_sq (E_cs (t := decide ((i : Int) < n)) (by simp [ev, get_cons]) (fun ht => E_skip (E_nx ?_)) (fun hf => E_exit ?_))
  · rw [ht]
    simp only [decide_eq_true_eq] at ht
    refine E_sq (E_block ?_)
    have hinc : ∀ {fr' : Fr} {S' : List Ob} {G2 : Fr} {T2 : List Ob}, Wk S0 fr' S' ((ti, .int .i64 i) :: G2) T2 → (∀ fr3, (∀ t, Fr.get fr3 t = if t = ti then .int .i64 ((i : Int) + 1) else if t = tj then .int .i64 ((i : Int) + 1) else Fr.get G2 t) → K0 .normal fr3 T2) →
        Post.thn (fun fr' S' => ∃ F T, Wk S0 fr' S' F T ∧ VT P S0 ow (.reg [⟨some tj, none, .op (.bin .none .add (.t ti) (.v (.int .i64 1)))⟩, ⟨some ti, none, .op (.mv (.t tj))⟩] []) F T K0) K0 .normal fr' S' := fun hw hk => by
      refine E_nxw hw (E_reg (E_op0 (v := .int .i64 ((i : Int) + 1)) ?_ rfl (E_mv (v' := .int .i64 ((i : Int) + 1)) (by simp [ev, get_cons]) (E_nil (hk _ (fun t => ?_))))))
      · simp only [opV, ev, get_cons, if_true, vBin, pv, intBin, Option.map_some]
        rw [wrap_i64 (by omega)]
      · simp only [get_cons]
        split
        · rfl
        · split
          · rfl
          · rfl
    refine VT_mono (fun e fr' S' hk => ?_) (hB ht)
    cases e with
    | normal => obtain ⟨G2, T2, hw, hk⟩ := hk; exact hinc hw hk
    | exit j =>
      replace hk : Post.blk id2 _ (.exit j) fr' S' := hk
      rw [blk_e] at hk
      show Post.blk id2 _ (.exit j) fr' S'
      rw [blk_e]
      split
      · rename_i hj; rw [if_pos hj] at hk
        obtain ⟨G2, T2, hw, hk⟩ := hk; exact hinc hw hk
      · rename_i hj; rw [if_neg hj] at hk; exact hk
    | _ => exact hk
  · rw [hf]
    simp only [decide_eq_false_iff_not] at hf
    exact hE hf

theorem wk_get {S0 S : List Ob} {fr fr' : Fr} (h : ∀ t, Fr.get fr' t = Fr.get fr t ∨ Fr.get fr' t = .junk) : Wk S0 fr S fr' S :=
  GWk.refl.wk (fun t => by rcases h t with e | e <;> rw [e] <;> first | exact .refl _ | exact .junk _)

/-- A loop over the numbers below n. -/
theorem E_rni {tc ti tn tj id id2 : Nat} {B : FC} (body : Nat → σ → Option (Stp σ ρ)) {n : Int} {s0 : σ} (F : σ → Fr) (T : σ → List Ob) (h : (rni body n s0).bind k = some r)
    (h1 : ti ≠ tn) (h2 : tj ≠ tn) (hF : ∀ s, Fr.get (F s) tj = .junk ∧ Fr.get (F s) ti = .junk ∧ Fr.get (F s) tn = .junk ∧ Fr.get (F s) tc = .junk)
    (hw : Wk S0 fr S ((ti, .int .i64 0) :: (tn, .int .i64 n) :: F s0) (T s0))
    (hb : ∀ (i : Nat) s c, (i : Int) < n → body i s = some c → VT P S0 ow B ((tc, .bool true) :: (ti, .int .i64 i) :: (tn, .int .i64 n) :: F s) (T s)
      (LPost S0 (fun j => j == id2) (fun j => j == id) (fun s => (ti, .int .i64 i) :: (tn, .int .i64 n) :: F s) T F T k r K c))
    (hx : ∀ s fr' S', k (.fin s) = some r → Wk S0 fr' S' (F s) (T s) → K .normal fr' S') :
    VT P S0 ow (.block id (.loop (.seq (.reg [⟨some tc, none, .op (.bin .none .lss (.t ti) (.t tn))⟩] []) (.seq (.cond (.t tc) .skip (.exit id)) (.seq (.block id2 B) (.reg [⟨some tj, none, .op (.bin .none .add (.t ti) (.v (.int .i64 1)))⟩, ⟨some ti, none, .op (.mv (.t tj))⟩] [])))))) fr S K := by
  unfold rni at h
  split at h
  case isFalse => cases h
  rename_i hn
  refine E_block (E_loop (ι := Nat × σ) (fun i => (ti, .int .i64 i.1) :: (tn, .int .i64 n) :: F i.2) (fun i => T i.2) (fun i => i.1 ≤ n.toNat ∧ (rangeN body (n.toNat - i.1) i.1 i.2).bind k = some r) (fun i => n.toNat - i.1) (0, s0) ⟨by simp, by simpa using h⟩ hw (fun i hi => ?_))
  obtain ⟨i, s⟩ := i
  simp only at hi ⊢
  obtain ⟨hi0, hi⟩ := hi
  refine E_head h1 hn (fun hlt => ?_) (fun hge => ?_)
  · have e1 : n.toNat - i = (n.toNat - (i + 1)) + 1 := by omega
    rw [e1] at hi
    simp only [rangeN] at hi
    cases hc : body i s with
    | none => rw [hc] at hi; cases hi
    | some c =>
      rw [hc] at hi
      have hnext : ∀ s', c = .nxt s' → ∀ fr3, (∀ t, Fr.get fr3 t = if t = ti then .int .i64 ((i : Int) + 1) else if t = tj then .int .i64 ((i : Int) + 1) else Fr.get ((tn, .int .i64 n) :: F s') t) →
          Post.thn (fun fr' S' => ∃ i' : Nat × σ, (i'.1 ≤ n.toNat ∧ (rangeN body (n.toNat - i'.1) i'.1 i'.2).bind k = some r) ∧ n.toNat - i'.1 < n.toNat - i ∧ Wk S0 fr' S' ((ti, .int .i64 i'.1) :: (tn, .int .i64 n) :: F i'.2) (T i'.2)) (Post.blk id K) .normal fr3 (T s') := fun s' e fr3 hg => by
        subst e
        refine ⟨(i + 1, s'), ⟨by simp only; omega, hi⟩, by simp only; omega, wk_get (fun t => ?_)⟩
        rw [hg]
        rw [get_cons]
        simp only
        by_cases ht : t = ti
        · left; rw [if_pos ht, if_pos ht]; rfl
        · rw [if_neg ht, if_neg ht]
          by_cases ht2 : t = tj
          · right; rw [ht2, get_cons, if_neg h2, (hF s').1]
          · left; rw [if_neg ht2]
      refine VT_mono (fun e fr' S' hk => ?_) (hb i s c hlt hc)
      cases e with
      | normal =>
        obtain ⟨s', e, hw'⟩ := hk
        exact ⟨_, _, hw', hnext s' e⟩
      | exit j =>
        show Post.blk id2 _ (.exit j) fr' S'
        rw [blk_e]
        replace hk : if (j == id2) = true then ∃ s', c = .nxt s' ∧ Wk S0 fr' S' ((ti, .int .i64 i) :: (tn, .int .i64 n) :: F s') (T s') else if (j == id) = true then ∃ s, c = .brk s ∧ Wk S0 fr' S' (F s) (T s) else ∃ v, c = .ret v ∧ (k (.ret v) = some r → K (.exit j) fr' S') := hk
        by_cases hj : j = id2
        · rw [if_pos hj]; rw [if_pos (by simpa using hj)] at hk
          obtain ⟨s', e, hw'⟩ := hk
          exact ⟨_, _, hw', hnext s' e⟩
        · rw [if_neg hj]; rw [if_neg (by simpa using hj)] at hk
          show Post.blk id K (.exit j) fr' S'
          rw [blk_e]
          by_cases hj2 : j = id
          · rw [if_pos hj2]; rw [if_pos (by simpa using hj2)] at hk
            obtain ⟨s', rfl, hw'⟩ := hk
            exact hx s' _ _ hi hw'
          · rw [if_neg hj2]; rw [if_neg (by simpa using hj2)] at hk
            obtain ⟨v, rfl, hv⟩ := hk
            exact hv hi
      | ret => obtain ⟨v, rfl, hv⟩ := hk; exact hv hi
      | goto l => obtain ⟨v, rfl, hv⟩ := hk; exact hv hi
      | panic l => obtain ⟨v, rfl, hv⟩ := hk; exact hv hi
      | outgrown => obtain ⟨v, rfl, hv⟩ := hk; exact hv hi
  · have e1 : n.toNat - i = 0 := by omega
    rw [e1] at hi
    simp only [rangeN] at hi
    show Post.blk id K (.exit id) _ _
    rw [blk_e, if_pos rfl]
    refine hx s _ _ hi (wk_get (fun t => ?_))
    obtain ⟨_, f1, f2, f3⟩ := hF s
    simp only [get_cons]
    by_cases t1 : t = tc
    · right; rw [t1]; exact f3
    · by_cases t2 : t = ti
      · right; rw [t2]; exact f1
      · by_cases t3 : t = tn
        · right; rw [t3]; exact f2
        · left; rw [if_neg t1, if_neg t2, if_neg t3]

theorem rangeN_list {α : Type} (body : Nat → α → σ → Option (Stp σ ρ)) (xs : List α) : ∀ (m i : Nat) (s : σ), xs.length - i = m → rangeN (fun i s => xs[i]?.bind fun x => body i x s) m i s = rangeL body (xs.drop i) i s
  | 0, i, s, h => by rw [List.drop_eq_nil_of_le (by omega)]; rfl
  | m + 1, i, s, h => by
    have hi : i < xs.length := by omega
    rw [List.drop_eq_getElem_cons hi]
    simp only [rangeN, rangeL]
    rw [List.getElem?_eq_getElem hi]
    simp only [Option.bind_some]
    split
    · rfl
    · exact rangeN_list body xs m (i + 1) _ (by omega)
    · rfl
    · rfl
theorem rng_rni {α : Type} (body : Nat → α → σ → Option (Stp σ ρ)) (xs : List α) (s : σ) : rng body xs s = rni (fun i s => xs[i]?.bind fun x => body i x s) xs.length s := by
  unfold rng rni
  by_cases h : xs.length ≤ 4611686018427387904
  · rw [if_pos h, if_pos (by omega)]
    have := rangeN_list body xs xs.length 0 s (by omega)
    simpa using this.symm
  · rw [if_neg h, if_neg (by omega)]

/-- A loop over a list. -/
theorem E_rng {α : Type} {tc ti tn tj id id2 : Nat} {B : FC} (body : Nat → α → σ → Option (Stp σ ρ)) {xs : List α} {s0 : σ} (F : σ → Fr) (T : σ → List Ob) (h : (rng body xs s0).bind k = some r)
    (h1 : ti ≠ tn) (h2 : tj ≠ tn) (hF : ∀ s, Fr.get (F s) tj = .junk ∧ Fr.get (F s) ti = .junk ∧ Fr.get (F s) tn = .junk ∧ Fr.get (F s) tc = .junk)
    (hw : Wk S0 fr S ((ti, .int .i64 0) :: (tn, .int .i64 xs.length) :: F s0) (T s0))
    (hb : ∀ (i : Nat) x s c, xs[i]? = some x → i < xs.length → body i x s = some c → VT P S0 ow B ((tc, .bool true) :: (ti, .int .i64 i) :: (tn, .int .i64 xs.length) :: F s) (T s)
      (LPost S0 (fun j => j == id2) (fun j => j == id) (fun s => (ti, .int .i64 i) :: (tn, .int .i64 xs.length) :: F s) T F T k r K c))
    (hx : ∀ s fr' S', k (.fin s) = some r → Wk S0 fr' S' (F s) (T s) → K .normal fr' S') :
    VT P S0 ow (.block id (.loop (.seq (.reg [⟨some tc, none, .op (.bin .none .lss (.t ti) (.t tn))⟩] []) (.seq (.cond (.t tc) .skip (.exit id)) (.seq (.block id2 B) (.reg [⟨some tj, none, .op (.bin .none .add (.t ti) (.v (.int .i64 1)))⟩, ⟨some ti, none, .op (.mv (.t tj))⟩] [])))))) fr S K := by
  rw [rng_rni] at h
  refine E_rni _ F T h h1 h2 hF hw (fun i s c hi hc => ?_) hx
  obtain ⟨x, hx1, hx2⟩ := bd_some hc
  exact hb i x s c hx1 (by omega) hx2
end
end Go.Ab
