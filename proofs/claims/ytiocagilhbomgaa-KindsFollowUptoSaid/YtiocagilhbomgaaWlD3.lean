/- Verification conditions in a form that simp evaluates. -/
import Derived.Test.YtiocagilhbomgaaWlD2
namespace Go.Ab
open Go.RowKit
set_option linter.unusedVariables false
set_option linter.unusedSimpArgs false

def kO (x : OV) (k : AV → List Nat → Option (Nat × Ob) → Prop) : Prop :=
  match x with
  | some (v, rd, δ) => k v rd δ
  | none => False
@[congr] theorem kO_congr {x y : OV} (k) (h : x = y) : kO x k = kO y k := by rw [h]
def kB (x : AV) (k : Bool → Prop) : Prop :=
  match x with
  | .bool b => k b
  | _ => False
def kG (x : AV) (k : Bool → Prop) (z : Prop) : Prop :=
  match x with
  | .bool b => k b
  | .tup [] => z
  | _ => False
@[congr] theorem kB_congr {x y : AV} (k) (h : x = y) : kB x k = kB y k := by rw [h]
def kCall (P : Program) (f : FuncId) (args : List AV) (S : List Ob) (k : AV → List Ob → LE → Prop) : Prop := VCcall P f args S k
@[congr] theorem kCall_congr {P f args args' S} (k) (h : args = args') : kCall P f args S k = kCall P f args' S k := by rw [h]
def kFn (P : Program) (x : AV) (args : List AV) (S : List Ob) (k : AV → List Ob → LE → Prop) : Prop :=
  match x with
  | .fn (.func f) first caps => callable P f = true ∧ kCall P f (first ++ args ++ caps) S k
  | _ => False
@[congr] theorem kFn_congr {P x x' args args' S} (k) (h' : x = x') (h : args = args') : kFn P x args S k = kFn P x' args' S k := by rw [h, h']
def kInv (P : Program) (x : AV) (m : String) (args : List AV) (S : List Ob) (k : AV → List Ob → LE → Prop) : Prop :=
  match x with
  | .iface t v => match methOf P t m with
    | some f => callable P f = true ∧ kCall P f (v :: args) S k
    | none => False
  | _ => False
@[congr] theorem kInv_congr {P x x' m args args' S} (k) (h' : x = x') (h : args = args') : kInv P x m args S k = kInv P x' m args' S k := by rw [h, h']

def isOw (ow : List Nat) : Option Nat → Bool
  | none => false
  | some d => ow.contains d

/-- A value may be taken for a stronger one. -/
def kW (v : AV) (k : AV → Prop) : Prop := ∃ v', AVw v v' ∧ k v'

def VT1 (P : Program) (ow : Bool) (c : RC) (F : Fm) (S : List Ob) (k : AV → List Ob → LE → Prop) : Prop :=
  match c with
  | .op r => kO (opV ow r F S) fun v rd δ => kW v fun v => k v (apS S δ) (.acc (fpOf rd δ) (δ.map (·.1)))
  | .call f args => kCall P f (evL F args) S k
  | .callv x args => kFn P (ev F x) (evL F args) S k
  | .inv x m args => kInv P (ev F x) m (evL F args) S k

def VTops (P : Program) (ow : List Nat) : List ROper → Fr → List Ob → List LE → (Fr → List Ob → List LE → Prop) → Prop
  | [], fr, S, log, K => K fr S log
  | o :: r, fr, S, log, K =>
    match o.guard with
    | none => VT1 P (isOw ow o.dst) o.c (Fr.get fr) S fun v S' le => VTops P ow r (putF fr o.dst v) S' (le :: log) K
    | some (t, want) => kG (Fr.get fr t) (fun b => (b = want → VT1 P (isOw ow o.dst) o.c (Fr.get fr) S fun v S' le => VTops P ow r (putF fr o.dst v) S' (le :: log) K) ∧
          (b = !want → VTops P ow r (putF fr o.dst (.tup [])) S (.acc [] none :: log) K)) (VTops P ow r (putF fr o.dst (.tup [])) S (.acc [] none :: log) K)

def VT (P : Program) (S0 : List Ob) (ow : List Nat) : FC → Fr → List Ob → Post → Prop
  | .skip, fr, S, K => K .normal fr S
  | .reg rs pairs, fr, S, K => VTops P ow rs fr S [] fun fr' S' log => okLog pairs log ∧ K .normal fr' S'
  | .seq a b, fr, S, K => VT P S0 ow a fr S (Post.thn (fun fr' S' => ∃ F T, Wk S0 fr' S' F T ∧ VT P S0 ow b F T K) K)
  | .cond c a b, fr, S, K => kB (ev (Fr.get fr) c) fun t => (t = true → VT P S0 ow a fr S K) ∧ (t = false → VT P S0 ow b fr S K)
  | .block id a, fr, S, K => VT P S0 ow a fr S (Post.blk id K)
  | .loop a, fr, S, K => LoopVC S0 (VT P S0 ow a) fr S K
  | .exit id, fr, S, K => K (.exit id) fr S
  | .ret, fr, S, K => K .ret fr S

theorem VCcall_mono {P f args S} {k k' : AV → List Ob → LE → Prop} (h : ∀ v S le, k v S le → k' v S le) (a : VCcall P f args S k) : VCcall P f args S k' := by
  rcases a with ⟨v, a1, a2, a3, a4⟩ | ⟨v, S', a1, a2⟩
  · exact .inl ⟨v, a1, a2, a3, h _ _ _ a4⟩
  · exact .inr ⟨v, S', a1, h _ _ _ a2⟩

theorem VT1_VC1 {P ow c F S} {k k' : AV → List Ob → LE → Prop} (h : ∀ v S le, k v S le → k' v S le) (a : VT1 P ow c F S k) : VC1 P c F S k' := by
  cases c with
  | op r =>
    simp only [VT1, kO] at a
    simp only [VC1]
    split at a
    · rename_i v rd δ e
      obtain ⟨v', aw, a⟩ := a
      exact ⟨v', rd, δ, ⟨v, opV_sound e, aw⟩, h _ _ _ a⟩
    · exact a.elim
  | call f args => exact VCcall_mono h a
  | callv x args =>
    simp only [VT1, kFn] at a
    simp only [VC1]
    generalize ev F x = q at a ⊢
    split at a
    · exact ⟨a.1, VCcall_mono h a.2⟩
    · exact a.elim
  | inv x m args =>
    simp only [VT1, kInv] at a
    simp only [VC1]
    generalize ev F x = q at a ⊢
    split at a
    · rename_i t v
      split at a
      · rename_i f e
        simp only [e]
        exact ⟨a.1, VCcall_mono h a.2⟩
      · exact a.elim
    · exact a.elim

theorem VTops_VCops {P ow} {K K' : Fr → List Ob → List LE → Prop} (h : ∀ fr S log, K fr S log → K' fr S log) : ∀ {rs fr S log}, VTops P ow rs fr S log K → VCops P rs fr S log K'
  | [], fr, S, log, a => h _ _ _ a
  | o :: r, fr, S, log, a => by
    simp only [VTops] at a
    simp only [VCops]
    split at a
    · rename_i e
      rw [e]
      exact VT1_VC1 (fun v S le a => VTops_VCops h a) a
    · rename_i t want e
      rw [e]
      simp only
      simp only [kG] at a
      split at a
      · rename_i b e2
        rw [e2]
        exact ⟨fun hb => VT1_VC1 (fun v S le a => VTops_VCops h a) (a.1 hb), fun hb => VTops_VCops h (a.2 hb)⟩
      · rename_i e2
        rw [e2]
        exact VTops_VCops h a
      · exact a.elim

theorem thn_mono {N N' : Fr → List Ob → Prop} {K K' : Post} (hN : ∀ fr S, N fr S → N' fr S) (hK : ∀ e fr S, K e fr S → K' e fr S) : ∀ e fr S, Post.thn N K e fr S → Post.thn N' K' e fr S := by
  intro e fr S h
  cases e <;> first | exact hN _ _ h | exact hK _ _ _ h

theorem blk_mono {id : Nat} {K K' : Post} (hK : ∀ e fr S, K e fr S → K' e fr S) : ∀ e fr S, Post.blk id K e fr S → Post.blk id K' e fr S := by
  intro e fr S h
  cases e with
  | exit j =>
    simp only [Post.blk] at h ⊢
    split at h
    · rename_i e; rw [if_pos e]; exact hK _ _ _ h
    · rename_i e; rw [if_neg e]; exact hK _ _ _ h
  | _ => exact hK _ _ _ h

theorem VT_VC {P S0 ow} : ∀ {fc : FC} {fr S} {K K' : Post}, (∀ e fr S, K e fr S → K' e fr S) → VT P S0 ow fc fr S K → VC P S0 fc fr S K' := by
  intro fc
  induction fc with
  | skip => intro fr S K K' h a; exact h _ _ _ a
  | reg rs ps => intro fr S K K' h a; exact VTops_VCops (fun _ _ _ b => ⟨b.1, h _ _ _ b.2⟩) a
  | seq x y ihx ihy => intro fr S K K' h a; exact ihx (thn_mono (fun _ _ b => (by obtain ⟨F, T, hw, b⟩ := b; exact ⟨F, T, hw, ihy h b⟩)) h) a
  | cond c x y ihx ihy =>
    intro fr S K K' h a
    simp only [VT, kB] at a
    simp only [VC]
    split at a
    · rename_i b e
      rw [e]
      exact ⟨fun hb => ihx h (a.1 hb), fun hb => ihy h (a.2 hb)⟩
    · exact a.elim
  | block id x ihx => intro fr S K K' h a; exact ihx (blk_mono h) a
  | loop x ihx =>
    intro fr S K K' h a
    obtain ⟨ι, F, T, Pr, μ, i0, h1, h2, h3⟩ := a
    exact ⟨ι, F, T, Pr, μ, i0, h1, h2, fun i hi => ihx (thn_mono (fun _ _ b => b) h) (h3 i hi)⟩
  | exit id => intro fr S K K' h a; exact h _ _ _ a
  | ret => intro fr S K K' h a; exact h _ _ _ a

theorem VT_mono {P S0 ow} : ∀ {fc : FC} {fr S} {K K' : Post}, (∀ e fr S, K e fr S → K' e fr S) → VT P S0 ow fc fr S K → VT P S0 ow fc fr S K' := by
  have hops : ∀ {K K' : Fr → List Ob → List LE → Prop} (_ : ∀ fr S log, K fr S log → K' fr S log) {rs fr S log}, VTops P ow rs fr S log K → VTops P ow rs fr S log K' := by
    intro K K' h rs
    have h1 : ∀ {b c F S} {k k' : AV → List Ob → LE → Prop} (_ : ∀ v S le, k v S le → k' v S le), VT1 P b c F S k → VT1 P b c F S k' := by
      intro b c F S k k' hk a
      cases c with
      | op r =>
        simp only [VT1, kO] at a ⊢
        split at a
        · exact ⟨a.choose, a.choose_spec.1, hk _ _ _ a.choose_spec.2⟩
        · exact a.elim
      | call f args => exact VCcall_mono hk a
      | callv x args =>
        simp only [VT1, kFn] at a ⊢
        split at a
        · exact ⟨a.1, VCcall_mono hk a.2⟩
        · exact a.elim
      | inv x m args =>
        simp only [VT1, kInv] at a ⊢
        split at a
        · split at a
          · exact ⟨a.1, VCcall_mono hk a.2⟩
          · exact a.elim
        · exact a.elim
    induction rs with
    | nil => intro fr S log a; exact h _ _ _ a
    | cons o r ih =>
      intro fr S log a
      simp only [VTops] at a ⊢
      split at a
      · exact h1 (fun v S le a => ih a) a
      · simp only [kG] at a ⊢
        split at a
        · exact ⟨fun hb => h1 (fun v S le a => ih a) (a.1 hb), fun hb => ih (a.2 hb)⟩
        · exact ih a
        · exact a.elim
  intro fc
  induction fc with
  | skip => intro fr S K K' h a; exact h _ _ _ a
  | reg rs ps => intro fr S K K' h a; exact hops (fun _ _ _ b => ⟨b.1, h _ _ _ b.2⟩) a
  | seq x y ihx ihy => intro fr S K K' h a; exact ihx (thn_mono (fun _ _ b => (by obtain ⟨F, T, hw, b⟩ := b; exact ⟨F, T, hw, ihy h b⟩)) h) a
  | cond c x y ihx ihy =>
    intro fr S K K' h a
    simp only [VT, kB] at a ⊢
    split at a
    · exact ⟨fun hb => ihx h (a.1 hb), fun hb => ihy h (a.2 hb)⟩
    · exact a.elim
  | block id x ihx => intro fr S K K' h a; exact ihx (blk_mono h) a
  | loop x ihx =>
    intro fr S K K' h a
    obtain ⟨ι, F, T, Pr, μ, i0, h1, h2, h3⟩ := a
    exact ⟨ι, F, T, Pr, μ, i0, h1, h2, fun i hi => ihx (thn_mono (fun _ _ b => b) h) (h3 i hi)⟩
  | exit id => intro fr S K K' h a; exact h _ _ _ a
  | ret => intro fr S K K' h a; exact h _ _ _ a

/-! ### evaluating -/
section
variable {P : Program} {S0 : List Ob} {ow : List Nat} {fr : Fr} {S : List Ob} {log : List LE}

theorem VT_reg {rs K} : VT P S0 ow (.reg rs []) fr S K = VTops P ow rs fr S [] fun fr' S' _ => K .normal fr' S' := by simp [VT, okLog]
theorem VT_regp {rs K p ps} : VT P S0 ow (.reg rs (p :: ps)) fr S K = VTops P ow rs fr S [] fun fr' S' log => okLog (p :: ps) log ∧ K .normal fr' S' := rfl
theorem VT_seq {a b K} : VT P S0 ow (.seq a b) fr S K = VT P S0 ow a fr S (Post.thn (fun fr' S' => ∃ F T, Wk S0 fr' S' F T ∧ VT P S0 ow b F T K) K) := rfl
theorem VT_skip {K} : VT P S0 ow .skip fr S K = K .normal fr S := rfl
theorem VT_cond {c a b K} : VT P S0 ow (.cond c a b) fr S K = kB (ev (Fr.get fr) c) fun t => (t = true → VT P S0 ow a fr S K) ∧ (t = false → VT P S0 ow b fr S K) := rfl
theorem VT_block {id a K} : VT P S0 ow (.block id a) fr S K = VT P S0 ow a fr S (Post.blk id K) := rfl
theorem VT_exit {id K} : VT P S0 ow (.exit id) fr S K = K (.exit id) fr S := rfl
theorem VT_ret {K} : VT P S0 ow .ret fr S K = K .ret fr S := rfl
theorem VT_loop {a K} : VT P S0 ow (.loop a) fr S K = LoopVC S0 (VT P S0 ow a) fr S K := rfl
theorem thn_n {N : Fr → List Ob → Prop} {K : Post} : Post.thn N K .normal fr S = N fr S := rfl
theorem thn_e {N : Fr → List Ob → Prop} {K : Post} {i} : Post.thn N K (.exit i) fr S = K (.exit i) fr S := rfl
theorem thn_r {N : Fr → List Ob → Prop} {K : Post} : Post.thn N K .ret fr S = K .ret fr S := rfl
theorem blk_n {id} {K : Post} : Post.blk id K .normal fr S = K .normal fr S := rfl
theorem blk_e {id} {K : Post} {j} : Post.blk id K (.exit j) fr S = if j = id then K .normal fr S else K (.exit j) fr S := rfl
theorem blk_r {id} {K : Post} : Post.blk id K .ret fr S = K .ret fr S := rfl
theorem VTops_nil {K} : VTops P ow [] fr S log K = K fr S log := rfl
theorem VTops_op {d r rs K} : VTops P ow (⟨some d, none, .op r⟩ :: rs) fr S log K = kO (opV (ow.contains d) r (Fr.get fr) S) fun v rd δ => kW v fun v => VTops P ow rs ((d, v) :: fr) (apS S δ) (.acc (fpOf rd δ) (δ.map (·.1)) :: log) K := rfl
theorem VTops_op0 {r rs K} : VTops P ow (⟨none, none, .op r⟩ :: rs) fr S log K = kO (opV false r (Fr.get fr) S) fun v rd δ => kW v fun _ => VTops P ow rs fr (apS S δ) (.acc (fpOf rd δ) (δ.map (·.1)) :: log) K := rfl
theorem VTops_mv {d x rs K} : VTops P ow (⟨some d, none, .op (.mv x)⟩ :: rs) fr S log K = kW (ev (Fr.get fr) x) fun v => VTops P ow rs ((d, v) :: fr) S (.acc [] none :: log) K := rfl
theorem VTops_call {d f args rs K} : VTops P ow (⟨some d, none, .call f args⟩ :: rs) fr S log K = kCall P f (evL (Fr.get fr) args) S fun v S' le => VTops P ow rs ((d, v) :: fr) S' (le :: log) K := rfl
theorem VTops_call0 {f args rs K} : VTops P ow (⟨none, none, .call f args⟩ :: rs) fr S log K = kCall P f (evL (Fr.get fr) args) S fun _ S' le => VTops P ow rs fr S' (le :: log) K := rfl
theorem VTops_callv {d x args rs K} : VTops P ow (⟨some d, none, .callv x args⟩ :: rs) fr S log K = kFn P (ev (Fr.get fr) x) (evL (Fr.get fr) args) S fun v S' le => VTops P ow rs ((d, v) :: fr) S' (le :: log) K := rfl
theorem VTops_inv {d x m args rs K} : VTops P ow (⟨some d, none, .inv x m args⟩ :: rs) fr S log K = kInv P (ev (Fr.get fr) x) m (evL (Fr.get fr) args) S fun v S' le => VTops P ow rs ((d, v) :: fr) S' (le :: log) K := rfl
theorem VTops_g {d t want c rs K} : VTops P ow (⟨some d, some (t, want), c⟩ :: rs) fr S log K = kG (Fr.get fr t) (fun b =>
    (b = want → VTops P ow (⟨some d, none, c⟩ :: rs) fr S log K) ∧ (b = !want → VTops P ow rs ((d, .tup []) :: fr) S (.acc [] none :: log) K)) (VTops P ow rs ((d, .tup []) :: fr) S (.acc [] none :: log) K) := rfl
theorem VTops_g0 {t want c rs K} : VTops P ow (⟨none, some (t, want), c⟩ :: rs) fr S log K = kG (Fr.get fr t) (fun b =>
    (b = want → VTops P ow (⟨none, none, c⟩ :: rs) fr S log K) ∧ (b = !want → VTops P ow rs fr S (.acc [] none :: log) K)) (VTops P ow rs fr S (.acc [] none :: log) K) := rfl
theorem kB_bool {b k} : kB (.bool b) k = k b := rfl
theorem kO_some {v rd δ k} : kO (some (v, rd, δ)) k = k v rd δ := rfl
theorem kO_pv {v : AV} {k} : kO (pv (some v)) k = k v [] none := rfl
theorem kO_ite {c : Prop} [Decidable c] {x k} : kO (if c then x else none) k = (c ∧ kO x k) := by
  by_cases h : c <;> simp [h, kO]
theorem kO_pv_ite {c : Prop} [Decidable c] {x : Option AV} {k} : kO (pv (if c then x else none)) k = (c ∧ kO (pv x) k) := by
  by_cases h : c <;> simp [h, kO, pv]
theorem kO_pv_ite' {c : Prop} [Decidable c] {x : Option AV} {k} : kO (pv (if c then none else x)) k = (¬ c ∧ kO (pv x) k) := by
  by_cases h : c <;> simp [h, kO, pv]
theorem kFn_fn {f first caps args k} : kFn P (.fn (.func f) first caps) args S k = (callable P f = true ∧ kCall P f (first ++ args ++ caps) S k) := rfl
theorem ev_t {F : Fm} {i} : ev F (.t i) = F i := rfl
theorem ev_v {F : Fm} {x} : ev F (.v x) = x := rfl
theorem evL_nil {F : Fm} : evL F [] = [] := rfl
theorem evL_cons {F : Fm} {x xs} : evL F (x :: xs) = ev F x :: evL F xs := rfl
theorem evP_nil {F : Fm} : evP F [] = [] := rfl
theorem evP_cons {F : Fm} {a b x xs} : evP F ((a, b, x) :: xs) = (a, b, ev F x) :: evP F xs := rfl
theorem evO_none {F : Fm} : evO F none = none := rfl
theorem evO_some {F : Fm} {x} : evO F (some x) = some (ev F x) := rfl
theorem get_hit {t v} {r : Fr} : Fr.get ((t, v) :: r) t = v := by simp [Fr.get]
theorem get_cons {t t' v} {r : Fr} : Fr.get ((t', v) :: r) t = if t = t' then v else Fr.get r t := rfl
theorem apS_none : apS S none = S := rfl
theorem apS_some {o x} : apS S (some (o, x)) = setAt S o x := rfl
theorem kCall_pure {f args v k} (h : PureEv P f args v) (h1 : blwL 0 args = true) (h2 : v.blw 0 = true) (hk : k v S (.acc [] none)) : kCall P f args S k := .inl ⟨v, h, h1, h2, hk⟩
theorem kCall_ev {f args v S' k} (h : Ev P f args (hp S) v (hp S')) (hk : k v S' (.eff S S')) : kCall P f args S k := .inr ⟨v, S', h, hk⟩
end

/-! ### one frame for another -/
def subF (fr : Fr) : Fr → Prop
  | [] => True
  | (t, v) :: r => (v = Fr.get fr t ∨ v = .junk ∨ (Fr.get fr t = .nils ∧ ∃ ex sz, v = .sl ex sz [])) ∧ subF fr r

theorem subF_get {fr : Fr} : ∀ {fr' : Fr}, subF fr fr' → ∀ t, Fr.get fr' t = Fr.get fr t ∨ Fr.get fr' t = .junk ∨ (Fr.get fr t = .nils ∧ ∃ ex sz, Fr.get fr' t = .sl ex sz [])
  | [], _, t => .inr (.inl rfl)
  | (t', v) :: r, h, t => by
    rw [get_cons]
    split
    · rename_i e; subst e; exact h.1
    · exact subF_get h.2 t

theorem wk_sub {S0 S : List Ob} {fr fr' : Fr} (h : subF fr fr') : Wk S0 fr S fr' S := by
  intro g0 n a w hat
  obtain ⟨h0, g, h1, h2, h3⟩ := hat
  refine ⟨h0, g, h1, h2, h3.size, fun t => ?_⟩
  have := h3.get t
  rcases subF_get h t with e | e | ⟨e, ex, sz, e2⟩
  · rw [e]; exact this
  · rw [e]; exact .junk
  · rw [e2]; rw [e] at this
    generalize a.tmps.getD t undef = u at this
    cases this; exact .slnil

theorem wk_trans {S0 S S' S'' : List Ob} {fr fr' fr'' : Fr} (h : Wk S0 fr S fr' S') (k : Wk S0 fr' S' fr'' S'') : Wk S0 fr S fr'' S'' :=
  fun g0 n a w hat => k _ _ _ _ (h _ _ _ _ hat)

def isRet : Exit → Prop
  | .normal | .ret => True
  | _ => False

theorem hp_nil : hp [] = noHp := by funext o; simp [hp]

theorem wk_pure {S : List Ob} {fr fr' : Fr} (h : ∀ t, Fr.get fr' t = .junk ∨ (Fr.get fr' t = Fr.get fr t ∧ (Fr.get fr t).blw 0 = true)) : Wk [] fr S fr' [] := by
  intro g0 n a w hat
  obtain ⟨h0, g, h1, h2, h3⟩ := hat
  refine ⟨h0, g, ⟨⟨h1.ext.pm, fun o => ?_⟩, h1.tm, h1.B0, h1.w0⟩, ⟨h2.pm, h2.tm, h2.tmf, h2.disj, h2.low, h2.B0, fun o ver cs e => ?_, fun o o' v v' c c' e => ?_⟩, h3.size, fun t => ?_⟩
  · rw [hp_nil]; exact trivial
  · rw [hp_nil] at e; simp at e
  · rw [hp_nil] at e; simp at e
  · rcases h t with e | ⟨e, e2⟩
    · rw [e]; exact .junk
    · rw [e]; exact (h3.get t).agree e2 (fun o ho => by omega)

theorem get_map (f : Nat → AV) : ∀ (ts : List Nat) (t : Nat), Fr.get (ts.map fun t => (t, f t)) t = if t ∈ ts then f t else .junk
  | [], t => rfl
  | x :: r, t => by
    rw [List.map_cons, get_cons, get_map f r t]
    by_cases e : t = x
    · subst e; simp
    · simp [e]

theorem PureEv_of {P : Program} {f n : Nat} {ts : List Nat} {fc : FC} (hm : P.follows .mixedOrders = true) (hfn : Fn2 P f n ts fc) {args : List AV} (hn : args.length ≤ n) {r : AV} (ow : List Nat)
    (hr : r.blw 0 = true)
    (h : VT P [] ow fc (initFr 0 args) [] (fun e fr _ => isRet e ∧ retAV ts (Fr.get fr) = r)) : PureEv P f args r := by
  have := Ev_of_VC (S := []) (S' := []) (r := r) hm hfn hn (VT_VC (fun e fr S hk => ?_) h)
  · rw [hp_nil] at this; exact this
  · refine ⟨by cases e <;> simp_all [isRet], ts.map fun t => (t, Fr.get fr t), wk_pure (fun t => ?_), ?_⟩
    · rw [get_map]
      split
      · rename_i ht
        right
        refine ⟨rfl, ?_⟩
        rw [← hk.2] at hr
        unfold retAV at hr
        split at hr
        · rename_i t'; simp at ht; subst ht; exact hr
        · simp only [AV.blw] at hr
          exact blwL_iff.1 hr _ (List.mem_map.2 ⟨t, ht, rfl⟩)
      · exact .inl rfl
    · rw [← hk.2]
      have : ∀ t ∈ ts, Fr.get (ts.map fun t => (t, Fr.get fr t)) t = Fr.get fr t := fun t ht => by rw [get_map, if_pos ht]
      unfold retAV
      split
      · rename_i t'; exact this _ (by simp)
      · congr 1; exact List.map_congr_left this

/-! ### steps -/
section
variable {P : Program} {S0 : List Ob} {ow : List Nat} {fr : Fr} {S : List Ob} {log : List LE}

theorem E_reg {rs : List ROper} {K : Post} (h : VTops P ow rs fr S [] fun fr' S' _ => K .normal fr' S') : VT P S0 ow (.reg rs []) fr S K := by rw [VT_reg]; exact h
theorem E_regp {rs : List ROper} {K : Post} {p ps} (h : VTops P ow rs fr S [] fun fr' S' log => okLog (p :: ps) log ∧ K .normal fr' S') : VT P S0 ow (.reg rs (p :: ps)) fr S K := h
theorem E_skip {K : Post} (h : K .normal fr S) : VT P S0 ow .skip fr S K := h
theorem E_cut {a b} {K : Post} (F : Fr) (T : List Ob) (Pr : Prop) (h : VT P S0 ow a fr S (Post.thn (fun fr' S' => Pr ∧ Wk S0 fr' S' F T) K)) (h2 : Pr → VT P S0 ow b F T K) : VT P S0 ow (.seq a b) fr S K :=
  show VT P S0 ow a fr S (Post.thn (fun fr' S' => ∃ F T, Wk S0 fr' S' F T ∧ VT P S0 ow b F T K) K) from VT_mono (thn_mono (fun _ _ b => ⟨F, T, b.2, h2 b.1⟩) (fun _ _ _ b => b)) h
theorem E_seq {a b} {K : Post} (h : VT P S0 ow a fr S (Post.thn (fun fr' S' => VT P S0 ow b fr' S' K) K)) : VT P S0 ow (.seq a b) fr S K :=
  show VT P S0 ow a fr S (Post.thn (fun fr' S' => ∃ F T, Wk S0 fr' S' F T ∧ VT P S0 ow b F T K) K) from VT_mono (thn_mono (fun fr' S' b => ⟨fr', S', (fun _ _ _ _ h => h), b⟩) (fun _ _ _ b => b)) h
theorem E_block {id a} {K : Post} (h : VT P S0 ow a fr S (Post.blk id K)) : VT P S0 ow (.block id a) fr S K := h
theorem E_exit {id} {K : Post} (h : K (.exit id) fr S) : VT P S0 ow (.exit id) fr S K := h
theorem E_ret {K : Post} (h : K .ret fr S) : VT P S0 ow .ret fr S K := h
theorem E_ct {c a b} {K : Post} (e : ev (Fr.get fr) c = .bool true) (h : VT P S0 ow a fr S K) : VT P S0 ow (.cond c a b) fr S K := by rw [VT_cond, e]; exact ⟨fun _ => h, fun e => (by cases e)⟩
theorem E_cf {c a b} {K : Post} (e : ev (Fr.get fr) c = .bool false) (h : VT P S0 ow b fr S K) : VT P S0 ow (.cond c a b) fr S K := by rw [VT_cond, e]; exact ⟨fun e => (by cases e), fun _ => h⟩
theorem E_cs {c a b} {K : Post} {t : Bool} (e : ev (Fr.get fr) c = .bool t) (h : t = true → VT P S0 ow a fr S K) (h' : t = false → VT P S0 ow b fr S K) : VT P S0 ow (.cond c a b) fr S K := by rw [VT_cond, e]; exact ⟨h, h'⟩
theorem E_thn {N : Fr → List Ob → Prop} {K : Post} (h : N fr S) : Post.thn N K .normal fr S := h
theorem E_the {N : Fr → List Ob → Prop} {K : Post} {i} (h : K (.exit i) fr S) : Post.thn N K (.exit i) fr S := h
theorem E_thr {N : Fr → List Ob → Prop} {K : Post} (h : K .ret fr S) : Post.thn N K .ret fr S := h
theorem E_bln {id} {K : Post} (h : K .normal fr S) : Post.blk id K .normal fr S := h
theorem E_ble {id} {K : Post} (h : K .normal fr S) : Post.blk id K (.exit id) fr S := by rw [blk_e, if_pos rfl]; exact h
theorem E_blo {id j} {K : Post} (e : (j == id) = false) (h : K (.exit j) fr S) : Post.blk id K (.exit j) fr S := by rw [blk_e, if_neg (by simpa using e)]; exact h
theorem E_blr {id} {K : Post} (h : K .ret fr S) : Post.blk id K .ret fr S := h
theorem E_nil {K : Fr → List Ob → List LE → Prop} (h : K fr S log) : VTops P ow [] fr S log K := h
theorem E_op {d r rs} {K : Fr → List Ob → List LE → Prop} {v v' rd δ S'} (e : opV (ow.contains d) r (Fr.get fr) S = some (v, rd, δ)) (e2 : v = v') (e3 : apS S δ = S') (h : VTops P ow rs ((d, v') :: fr) S' (.acc (fpOf rd δ) (δ.map (·.1)) :: log) K) :
    VTops P ow (⟨some d, none, .op r⟩ :: rs) fr S log K := by subst e2; subst e3; rw [VTops_op, e]; exact ⟨_, .refl _, h⟩
/-- An operation that touches no object. -/
theorem E_op0 {d r rs} {K : Fr → List Ob → List LE → Prop} {v v'} (e : opV (ow.contains d) r (Fr.get fr) S = some (v, [], none)) (e2 : v = v') (h : VTops P ow rs ((d, v') :: fr) S (.acc [] none :: log) K) :
    VTops P ow (⟨some d, none, .op r⟩ :: rs) fr S log K := by subst e2; rw [VTops_op, e]; exact ⟨_, .refl _, h⟩
theorem E_mv {d x rs} {K : Fr → List Ob → List LE → Prop} {v'} (e2 : ev (Fr.get fr) x = v') (h : VTops P ow rs ((d, v') :: fr) S (.acc [] none :: log) K) :
    VTops P ow (⟨some d, none, .op (.mv x)⟩ :: rs) fr S log K := by subst e2; rw [VTops_mv]; exact ⟨_, .refl _, h⟩
theorem E_pt {d c a b rs} {K : Fr → List Ob → List LE → Prop} {v'} (e : ev (Fr.get fr) c = .bool true) (e2 : ev (Fr.get fr) a = v') (h : VTops P ow rs ((d, v') :: fr) S (.acc [] none :: log) K) :
    VTops P ow (⟨some d, none, .op (.pick c a b)⟩ :: rs) fr S log K := by subst e2; rw [VTops_op]; simp only [opV, e, vPick, if_true, kO_pv]; exact ⟨_, .refl _, h⟩
theorem E_pf {d c a b rs} {K : Fr → List Ob → List LE → Prop} {v'} (e : ev (Fr.get fr) c = .bool false) (e2 : ev (Fr.get fr) b = v') (h : VTops P ow rs ((d, v') :: fr) S (.acc [] none :: log) K) :
    VTops P ow (⟨some d, none, .op (.pick c a b)⟩ :: rs) fr S log K := by subst e2; rw [VTops_op]; simp only [opV, e, vPick, if_false, kO_pv, Bool.false_eq_true]; exact ⟨_, .refl _, h⟩
theorem E_ps {d c a b rs} {K : Fr → List Ob → List LE → Prop} {t : Bool} (e : ev (Fr.get fr) c = .bool t) (h : t = true → VTops P ow rs ((d, ev (Fr.get fr) a) :: fr) S (.acc [] none :: log) K) (h' : t = false → VTops P ow rs ((d, ev (Fr.get fr) b) :: fr) S (.acc [] none :: log) K) :
    VTops P ow (⟨some d, none, .op (.pick c a b)⟩ :: rs) fr S log K := by
  cases t
  · exact E_pf e rfl (h' rfl)
  · exact E_pt e rfl (h rfl)
theorem E_do {r rs} {K : Fr → List Ob → List LE → Prop} {v rd δ S'} (e : opV false r (Fr.get fr) S = some (v, rd, δ)) (e3 : apS S δ = S') (h : VTops P ow rs fr S' (.acc (fpOf rd δ) (δ.map (·.1)) :: log) K) :
    VTops P ow (⟨none, none, .op r⟩ :: rs) fr S log K := by subst e3; rw [VTops_op0, e]; exact ⟨_, .refl _, h⟩
theorem E_iad {d arr esh x i rs} {K : Fr → List Ob → List LE → Prop} {ex sz k n} {α : Type} {f : α → AV} {ys : List α} (e : ev (Fr.get fr) x = .sl ex sz (ys.map f)) (e1 : ev (Fr.get fr) i = .int k n) (e2 : arr = none) (e3 : sz = szOf esh) (h1 : 0 ≤ n ∧ n < ys.length)
    (h : ∀ y, ys[n.toNat]? = some y → VTops P ow rs ((d, .cptr (f y).cells 0) :: fr) S (.acc [] none :: log) K) :
    VTops P ow (⟨some d, none, .op (.iad arr esh x i)⟩ :: rs) fr S log K := by
  have hn : n.toNat < ys.length := by omega
  have h3 := h ys[n.toNat] (by simp [hn])
  rw [VTops_op]
  subst e2
  simp only [opV, e, e1, vIad]
  rw [if_pos ⟨e3, h1.1, by simpa using h1.2⟩]
  simp only [kO_pv, List.getD_eq_getElem?_getD, List.getElem?_map, List.getElem?_eq_getElem hn, Option.map_some, Option.getD_some]
  exact ⟨_, .refl _, h3⟩
theorem E_gh {d t want c rs} {K : Fr → List Ob → List LE → Prop} (e : Fr.get fr t = .bool want) (h : VTops P ow (⟨d, none, c⟩ :: rs) fr S log K) : VTops P ow (⟨d, some (t, want), c⟩ :: rs) fr S log K := by
  cases d <;> (first | rw [VTops_g] | rw [VTops_g0]) <;> rw [e] <;> exact ⟨fun _ => h, fun e => by cases want <;> cases e⟩
theorem E_gm {d t want c rs} {K : Fr → List Ob → List LE → Prop} (e : Fr.get fr t = .bool (!want)) (h : VTops P ow rs (putF fr d (.tup [])) S (.acc [] none :: log) K) : VTops P ow (⟨d, some (t, want), c⟩ :: rs) fr S log K := by
  cases d <;> (first | rw [VTops_g] | rw [VTops_g0]) <;> rw [e] <;> exact ⟨fun e => (by cases want <;> cases e), fun _ => h⟩
theorem E_gz {d t want c rs} {K : Fr → List Ob → List LE → Prop} (e : Fr.get fr t = .tup []) (h : VTops P ow rs (putF fr d (.tup [])) S (.acc [] none :: log) K) : VTops P ow (⟨d, some (t, want), c⟩ :: rs) fr S log K := by
  cases d <;> (first | rw [VTops_g] | rw [VTops_g0]) <;> rw [e] <;> exact h
theorem E_gs {d t want c rs} {K : Fr → List Ob → List LE → Prop} {b : Bool} (e : Fr.get fr t = .bool b) (h : b = want → VTops P ow (⟨d, none, c⟩ :: rs) fr S log K) (h' : b = !want → VTops P ow rs (putF fr d (.tup [])) S (.acc [] none :: log) K) : VTops P ow (⟨d, some (t, want), c⟩ :: rs) fr S log K := by
  cases d <;> (first | rw [VTops_g] | rw [VTops_g0]) <;> rw [e] <;> exact ⟨h, h'⟩
theorem E_call {d f args rs} {K : Fr → List Ob → List LE → Prop} {as v} (c : PureEv P f as v) (e : evL (Fr.get fr) args = as) (h1 : blwL 0 as = true) (h2 : v.blw 0 = true) (h : VTops P ow rs ((d, v) :: fr) S (.acc [] none :: log) K) :
    VTops P ow (⟨some d, none, .call f args⟩ :: rs) fr S log K := by rw [VTops_call, e]; exact kCall_pure c h1 h2 h
theorem E_callv {d f x args rs} {K : Fr → List Ob → List LE → Prop} {as first caps v} (e : ev (Fr.get fr) x = .fn (.func f) first caps) (hc : callable P f = true) (c : PureEv P f as v) (e' : first ++ evL (Fr.get fr) args ++ caps = as) (h1 : blwL 0 as = true) (h2 : v.blw 0 = true) (h : VTops P ow rs ((d, v) :: fr) S (.acc [] none :: log) K) :
    VTops P ow (⟨some d, none, .callv x args⟩ :: rs) fr S log K := by rw [VTops_callv, e, kFn_fn, e']; exact ⟨hc, kCall_pure c h1 h2 h⟩
theorem E_callE {d f args rs} {K : Fr → List Ob → List LE → Prop} {as v S'} (c : Ev P f as (hp S) v (hp S')) (e : evL (Fr.get fr) args = as) (h : VTops P ow rs ((d, v) :: fr) S' (.eff S S' :: log) K) :
    VTops P ow (⟨some d, none, .call f args⟩ :: rs) fr S log K := by rw [VTops_call, e]; exact kCall_ev c h
theorem E_loop {a} {K : Post} {ι : Type} (F : ι → Fr) (T : ι → List Ob) (Pr : ι → Prop) (μ : ι → Nat) (i0 : ι) (h0 : Pr i0) (hw : Wk S0 fr S (F i0) (T i0))
    (h : ∀ i, Pr i → VT P S0 ow a (F i) (T i) (Post.thn (fun fr' S' => ∃ i', Pr i' ∧ μ i' < μ i ∧ Wk S0 fr' S' (F i') (T i')) K)) : VT P S0 ow (.loop a) fr S K :=
  ⟨ι, F, T, Pr, μ, i0, h0, hw, h⟩
end
attribute [irreducible] VT VTops
end Go.Ab
