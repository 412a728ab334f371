/- Verification conditions in a form that simp evaluates. -/
import Derived.Test.YtnpemocpfdgaoaaWlD2
import Derived.Carry
import Derived.Deep.Slices
import Derived.RowKit
import Derived.ProofKit
import Derived.OpenShut
import Derived.JoinedCond
set_option linter.unusedVariables false
set_option linter.unusedSimpArgs false
namespace Go.Ab
open Go.RowKit

def kO (x : OV) (k : AV -> List Nat -> Option (Nat × Ob) -> Prop) : Prop :=
 match x with
 | some (v, rd, δ) => k v rd δ
 | none => False
@[congr] theorem c1X {x y : OV} (k) (h : x = y) : kO x k = kO y k := by rw [h]
def kB (x : AV) (k : Bool -> Prop) : Prop :=
 match x with
 | .bool b => k b
 | _ => False
def kG (x : AV) (k : Bool -> Prop) (z : Prop) : Prop :=
 match x with
 | .bool b => k b
 | .tup [] => z
 | _ => False
@[congr] theorem c1Y {x y : AV} (k) (h : x = y) : kB x k = kB y k := by rw [h]
def a4e (P : Program) (f : FuncId) (args : List AV) (S : List Ob) (k : AV -> List Ob -> LE -> Prop) : Prop := a4v P f args S k
@[congr] theorem b3E {P f args args' S} (k) (h : args = args') : a4e P f args S k = a4e P f args' S k := by rw [h]
def kFn (P : Program) (x : AV) (args : List AV) (S : List Ob) (k : AV -> List Ob -> LE -> Prop) : Prop :=
 match x with
 | .fn (.func f) first caps => y7 P f = true /\ a4e P f (first ++ args ++ caps) S k
 | _ => False
@[congr] theorem b6d {P x x' args args' S} (k) (h' : x = x') (h : args = args') : kFn P x args S k = kFn P x' args' S k := by rw [h, h']
def b5L (P : Program) (x : AV) (m : String) (args : List AV) (S : List Ob) (k : AV -> List Ob -> LE -> Prop) : Prop :=
 match x with
 | .iface t v => match a4u P t m with
   | some f => y7 P f = true /\ a4e P f (v :: args) S k
   | none => a6K P t m v args S k
 | _ => False
@[congr] theorem b5M {P x x' m args args' S} (k) (h' : x = x') (h : args = args') : b5L P x m args S k = b5L P x' m args' S k := by rw [h, h']

def c1Z (ow : List Nat) : Option Nat -> Bool
 | none => false
 | some d => ow.contains d

def kW (v : AV) (k : AV -> Prop) : Prop := ∃ v', AVw v v' /\ k v'

def VT1 (P : Program) (ow : Bool) (c : RC) (F : Fm) (S : List Ob) (k : AV -> List Ob -> LE -> Prop) : Prop :=
 match c with
 | .op r => kO (opV ow r F S) fun v rd δ => kW v fun v => k v (apS S δ) (.acc (y8 rd δ) (δ.map (·.1)))
 | .call f args => a4e P f (evL F args) S k
 | .callv x args => kFn P (ev F x) (evL F args) S k
 | .inv x m args => b5L P (ev F x) m (evL F args) S k

def VTops (P : Program) (ow : List Nat) : List w8 -> Fr -> List Ob -> List LE -> (Fr -> List Ob -> List LE -> Prop) -> Prop
 | [], fr, S, log, K => K fr S log
 | o :: r, fr, S, log, K =>
   match o.guard with
   | none => VT1 P (c1Z ow o.dst) o.c (Fr.get fr) S fun v S' le => VTops P ow r (a5j fr o.dst v) S' (le :: log) K
   | some (t, want) => kG (Fr.get fr t) (fun b => (b = want -> VT1 P (c1Z ow o.dst) o.c (Fr.get fr) S fun v S' le => VTops P ow r (a5j fr o.dst v) S' (le :: log) K) /\
      (b = !want -> VTops P ow r (a5j fr o.dst (.tup [])) S (.acc [] none :: log) K)) (VTops P ow r (a5j fr o.dst (.tup [])) S (.acc [] none :: log) K)

def a3e (P : Program) (ow : List Nat) : List w8 -> Fr -> List Ob -> List LE -> (Fr -> List Ob -> List LE -> Prop) -> Prop
 | [], fr, S, log, K => K fr S log
 | x :: r, fr, S, log, K => VTops P ow [x] fr S log (fun fr' S' log' => a3e P ow r fr' S' log' K) \/
   ∃ d sh a v o J, x = ⟨some d, none, .op (.load sh a)⟩ /\ (∀ τ : Hp, J (τ o) -> ∃ rd, a2e sh (ev (Fr.get fr) a) τ v rd) /\ J (hp S o) /\ a3e P ow r ((d, v) :: fr) S (.rdl o J :: log) K

def VT (P : Program) (S0 : List Ob) (ow : List Nat) : FC -> Fr -> List Ob -> Post -> Prop
 | .skip, fr, S, K => K .normal fr S
 | .reg rs pairs, fr, S, K => (VTops P ow rs fr S [] fun fr' S' log => u7 pairs log /\ K .normal fr' S') \/ (pairs ≠ [] /\ a3e P ow rs fr S [] fun fr' S' log => u7 pairs log /\ K .normal fr' S')
 | .seq a b, fr, S, K => VT P S0 ow a fr S (Post.thn (fun fr' S' => ∃ F T, Wk S0 fr' S' F T /\ VT P S0 ow b F T K) K)
 | .cond c a b, fr, S, K => kB (ev (Fr.get fr) c) fun t => (t = true -> VT P S0 ow a fr S K) /\ (t = false -> VT P S0 ow b fr S K)
 | .block id a, fr, S, K => VT P S0 ow a fr S (Post.blk id K)
 | .loop a, fr, S, K => a8q S0 (VT P S0 ow a) fr S K
 | .exit id, fr, S, K => K (.exit id) fr S
 | .ret, fr, S, K => K .ret fr S

theorem a5G {P t m v0 args S} {k k' : AV -> List Ob -> LE -> Prop} (h : ∀ v S le, k v S le -> k' v S le) (a : a6K P t m v0 args S k) : a6K P t m v0 args S k' := by
 unfold a6K at a ⊢
 split at a
 ·obtain ⟨h0, y, rd, v, S', h1, h2, h3⟩ := a
  exact ⟨h0, y, rd, v, S', h1, h2, h _ _ _ h3⟩
 ·exact a.elim
theorem a0H {P f args S} {k k' : AV -> List Ob -> LE -> Prop} (h : ∀ v S le, k v S le -> k' v S le) (a : a4v P f args S k) : a4v P f args S k' := by
 rcases a with ⟨v, a1, a2, a3, a4⟩ | ⟨v, S', a1, a2⟩ | ⟨v, M, a1, a2⟩
 ·exact .inl ⟨v, a1, a2, a3, h _ _ _ a4⟩
 ·exact .inr (.inl ⟨v, S', a1, h _ _ _ a2⟩)
 ·exact .inr (.inr ⟨v, M, a1, h _ _ _ a2⟩)

theorem b0h {P ow c F S} {k k' : AV -> List Ob -> LE -> Prop} (h : ∀ v S le, k v S le -> k' v S le) (a : VT1 P ow c F S k) : VC1 P c F S k' := by
 cases c with
 | op r =>
   simp only [VT1, kO] at a
   simp only [VC1]
   split at a
   ·rename_i v rd δ e
    obtain ⟨v', aw, a⟩ := a
    exact .inl ⟨v', rd, δ, ⟨v, b0g e, aw⟩, h _ _ _ a⟩
   ·exact a.elim
 | call f args => exact a0H h a
 | callv x args =>
   simp only [VT1, kFn] at a
   simp only [VC1]
   generalize ev F x = q at a ⊢
   split at a
   ·exact ⟨a.1, a0H h a.2⟩
   ·exact a.elim
 | inv x m args =>
   simp only [VT1, b5L] at a
   simp only [VC1]
   generalize ev F x = q at a ⊢
   split at a
   ·rename_i t v
    split at a
    ·rename_i f e
     simp only [e]
     exact ⟨a.1, a0H h a.2⟩
    ·rename_i e
     simp only [e]
     exact a5G h a
   ·exact a.elim

theorem a0I {P ow} {K K' : Fr -> List Ob -> List LE -> Prop} (h : ∀ fr S log, K fr S log -> K' fr S log) : ∀ {rs fr S log}, VTops P ow rs fr S log K -> VCops P rs fr S log K'
 | [], fr, S, log, a => h _ _ _ a
 | o :: r, fr, S, log, a => by
   simp only [VTops] at a
   simp only [VCops]
   split at a
   ·rename_i e
    rw [e]
    exact b0h (fun v S le a => a0I h a) a
   ·rename_i t want e
    rw [e]
    simp only
    simp only [kG] at a
    split at a
    ·rename_i b e2
     rw [e2]
     exact ⟨fun hb => b0h (fun v S le a => a0I h a) (a.1 hb), fun hb => a0I h (a.2 hb)⟩
    ·rename_i e2
     rw [e2]
     exact a0I h a
    ·exact a.elim

theorem a2o {P ow} {K K' : Fr -> List Ob -> List LE -> Prop} (h : ∀ fr S log, K fr S log -> K' fr S log) : ∀ {rs fr S log}, a3e P ow rs fr S log K -> VCops P rs fr S log K'
 | [], fr, S, log, a => h _ _ _ a
 | o :: r, fr, S, log, a => by
   rcases a with a | ⟨d, sh, x, v, ob, J, rfl, h1, h2, a⟩
   ·have := a0I (K' := fun fr' S' log' => VCops P r fr' S' log' K') (fun fr' S' log' b => a2o h b) a
    simp only [VCops] at this ⊢
    exact this
   ·simp only [VCops, VC1]
    exact .inr ⟨rfl, v, ob, J, fun τ hτ => (by obtain ⟨rd, b⟩ := h1 τ hτ; exact ⟨rd, v, ⟨b, rfl⟩, .refl _⟩), h2, a2o h a⟩

theorem a1a {N N' : Fr -> List Ob -> Prop} {K K' : Post} (hN : ∀ fr S, N fr S -> N' fr S) (hK : ∀ e fr S, K e fr S -> K' e fr S) : ∀ e fr S, Post.thn N K e fr S -> Post.thn N' K' e fr S := by
 intro e fr S h
 cases e <;> first | exact hN _ _ h | exact hK _ _ _ h

theorem a8s {id : Nat} {K K' : Post} (hK : ∀ e fr S, K e fr S -> K' e fr S) : ∀ e fr S, Post.blk id K e fr S -> Post.blk id K' e fr S := by
 intro e fr S h
 cases e with
 | exit j =>
   simp only [Post.blk] at h ⊢
   split at h
   ·rename_i e; rw [if_pos e]; exact hK _ _ _ h
   ·rename_i e; rw [if_neg e]; exact hK _ _ _ h
 | _ => exact hK _ _ _ h

theorem b6e {P S0 ow} : ∀ {fc : FC} {fr S} {K K' : Post}, (∀ e fr S, K e fr S -> K' e fr S) -> VT P S0 ow fc fr S K -> VC P S0 fc fr S K' := by
 intro fc
 induction fc with
 | skip => intro fr S K K' h a; exact h _ _ _ a
 | reg rs ps => intro fr S K K' h a; exact a.elim (fun a => a0I (fun _ _ _ b => ⟨b.1, h _ _ _ b.2⟩) a) (fun a => a2o (fun _ _ _ b => ⟨b.1, h _ _ _ b.2⟩) a.2)
 | seq x y ihx ihy => intro fr S K K' h a; exact ihx (a1a (fun _ _ b => (by obtain ⟨F, T, hw, b⟩ := b; exact ⟨F, T, hw, ihy h b⟩)) h) a
 | cond c x y ihx ihy =>
   intro fr S K K' h a
   simp only [VT, kB] at a
   simp only [VC]
   split at a
   ·rename_i b e
    rw [e]
    exact ⟨fun hb => ihx h (a.1 hb), fun hb => ihy h (a.2 hb)⟩
   ·exact a.elim
 | block id x ihx => intro fr S K K' h a; exact ihx (a8s h) a
 | loop x ihx =>
   intro fr S K K' h a
   obtain ⟨ι, F, T, Pr, μ, i0, h1, h2, h3⟩ := a
   exact ⟨ι, F, T, Pr, μ, i0, h1, h2, fun i hi => ihx (a1a (fun _ _ b => b) h) (h3 i hi)⟩
 | exit id => intro fr S K K' h a; exact h _ _ _ a
 | ret => intro fr S K K' h a; exact h _ _ _ a

theorem a0T {P S0 ow} : ∀ {fc : FC} {fr S} {K K' : Post}, (∀ e fr S, K e fr S -> K' e fr S) -> VT P S0 ow fc fr S K -> VT P S0 ow fc fr S K' := by
 have hops : ∀ {K K' : Fr -> List Ob -> List LE -> Prop} (_ : ∀ fr S log, K fr S log -> K' fr S log) {rs fr S log}, VTops P ow rs fr S log K -> VTops P ow rs fr S log K' := by
  intro K K' h rs
  have h1 : ∀ {b c F S} {k k' : AV -> List Ob -> LE -> Prop} (_ : ∀ v S le, k v S le -> k' v S le), VT1 P b c F S k -> VT1 P b c F S k' := by
   intro b c F S k k' hk a
   cases c with
   | op r =>
     simp only [VT1, kO] at a ⊢
     split at a
     ·exact ⟨a.choose, a.choose_spec.1, hk _ _ _ a.choose_spec.2⟩
     ·exact a.elim
   | call f args => exact a0H hk a
   | callv x args =>
     simp only [VT1, kFn] at a ⊢
     split at a
     ·exact ⟨a.1, a0H hk a.2⟩
     ·exact a.elim
   | inv x m args =>
     simp only [VT1, b5L] at a ⊢
     split at a
     ·split at a
      ·exact ⟨a.1, a0H hk a.2⟩
      ·exact a5G hk a
     ·exact a.elim
  induction rs with
  | nil => intro fr S log a; exact h _ _ _ a
  | cons o r ih =>
    intro fr S log a
    simp only [VTops] at a ⊢
    split at a
    ·exact h1 (fun v S le a => ih a) a
    ·simp only [kG] at a ⊢
     split at a
     ·exact ⟨fun hb => h1 (fun v S le a => ih a) (a.1 hb), fun hb => ih (a.2 hb)⟩
     ·exact ih a
     ·exact a.elim
 have hopsR : ∀ {rs : List w8} {K K' : Fr -> List Ob -> List LE -> Prop} (_ : ∀ fr S log, K fr S log -> K' fr S log) {fr S log}, a3e P ow rs fr S log K -> a3e P ow rs fr S log K' := by
  intro rs
  induction rs with
  | nil => intro K K' h fr S log a; exact h _ _ _ a
  | cons o r ih =>
    intro K K' h fr S log a
    rcases a with a | ⟨d, sh, x, v, ob, J, e, h1, h2, a⟩
    ·exact .inl (hops (fun fr' S' log' b => ih h b) a)
    ·exact .inr ⟨d, sh, x, v, ob, J, e, h1, h2, ih h a⟩
 intro fc
 induction fc with
 | skip => intro fr S K K' h a; exact h _ _ _ a
 | reg rs ps => intro fr S K K' h a; exact a.elim (fun a => .inl (hops (fun _ _ _ b => ⟨b.1, h _ _ _ b.2⟩) a)) (fun a => .inr ⟨a.1, hopsR (fun _ _ _ b => ⟨b.1, h _ _ _ b.2⟩) a.2⟩)
 | seq x y ihx ihy => intro fr S K K' h a; exact ihx (a1a (fun _ _ b => (by obtain ⟨F, T, hw, b⟩ := b; exact ⟨F, T, hw, ihy h b⟩)) h) a
 | cond c x y ihx ihy =>
   intro fr S K K' h a
   simp only [VT, kB] at a ⊢
   split at a
   ·exact ⟨fun hb => ihx h (a.1 hb), fun hb => ihy h (a.2 hb)⟩
   ·exact a.elim
 | block id x ihx => intro fr S K K' h a; exact ihx (a8s h) a
 | loop x ihx =>
   intro fr S K K' h a
   obtain ⟨ι, F, T, Pr, μ, i0, h1, h2, h3⟩ := a
   exact ⟨ι, F, T, Pr, μ, i0, h1, h2, fun i hi => ihx (a1a (fun _ _ b => b) h) (h3 i hi)⟩
 | exit id => intro fr S K K' h a; exact h _ _ _ a
 | ret => intro fr S K K' h a; exact h _ _ _ a

section
variable {P : Program} {S0 : List Ob} {ow : List Nat} {fr : Fr} {S : List Ob} {log : List LE}

theorem b6f {rs K} : VT P S0 ow (.reg rs []) fr S K = VTops P ow rs fr S [] fun fr' S' _ => K .normal fr' S' := by simp [VT, u7]
theorem a6W {a b K} : VT P S0 ow (.seq a b) fr S K = VT P S0 ow a fr S (Post.thn (fun fr' S' => ∃ F T, Wk S0 fr' S' F T /\ VT P S0 ow b F T K) K) := rfl
theorem b3F {c a b K} : VT P S0 ow (.cond c a b) fr S K = kB (ev (Fr.get fr) c) fun t => (t = true -> VT P S0 ow a fr S K) /\ (t = false -> VT P S0 ow b fr S K) := rfl
theorem a4C {id} {K : Post} {j} : Post.blk id K (.exit j) fr S = if j = id then K .normal fr S else K (.exit j) fr S := rfl
theorem a2F {d r rs K} : VTops P ow (⟨some d, none, .op r⟩ :: rs) fr S log K = kO (opV (ow.contains d) r (Fr.get fr) S) fun v rd δ => kW v fun v => VTops P ow rs ((d, v) :: fr) (apS S δ) (.acc (y8 rd δ) (δ.map (·.1)) :: log) K := rfl
theorem b0i {r rs K} : VTops P ow (⟨none, none, .op r⟩ :: rs) fr S log K = kO (opV false r (Fr.get fr) S) fun v rd δ => kW v fun _ => VTops P ow rs fr (apS S δ) (.acc (y8 rd δ) (δ.map (·.1)) :: log) K := rfl
theorem b2d {d x rs K} : VTops P ow (⟨some d, none, .op (.mv x)⟩ :: rs) fr S log K = kW (ev (Fr.get fr) x) fun v => VTops P ow rs ((d, v) :: fr) S (.acc [] none :: log) K := rfl
theorem a3E {d f args rs K} : VTops P ow (⟨some d, none, .call f args⟩ :: rs) fr S log K = a4e P f (evL (Fr.get fr) args) S fun v S' le => VTops P ow rs ((d, v) :: fr) S' (le :: log) K := rfl
theorem a7I {d x args rs K} : VTops P ow (⟨some d, none, .callv x args⟩ :: rs) fr S log K = kFn P (ev (Fr.get fr) x) (evL (Fr.get fr) args) S fun v S' le => VTops P ow rs ((d, v) :: fr) S' (le :: log) K := rfl
theorem a6i {d t want c rs K} : VTops P ow (⟨some d, some (t, want), c⟩ :: rs) fr S log K = kG (Fr.get fr t) (fun b =>
  (b = want -> VTops P ow (⟨some d, none, c⟩ :: rs) fr S log K) /\ (b = !want -> VTops P ow rs ((d, .tup []) :: fr) S (.acc [] none :: log) K)) (VTops P ow rs ((d, .tup []) :: fr) S (.acc [] none :: log) K) := rfl
theorem a4l {t want c rs K} : VTops P ow (⟨none, some (t, want), c⟩ :: rs) fr S log K = kG (Fr.get fr t) (fun b =>
  (b = want -> VTops P ow (⟨none, none, c⟩ :: rs) fr S log K) /\ (b = !want -> VTops P ow rs fr S (.acc [] none :: log) K)) (VTops P ow rs fr S (.acc [] none :: log) K) := rfl
theorem b3G {v : AV} {k} : kO (pv (some v)) k = k v [] none := rfl
theorem b6g {f first caps args k} : kFn P (.fn (.func f) first caps) args S k = (y7 P f = true /\ a4e P f (first ++ args ++ caps) S k) := rfl
theorem b2e {F : Fm} {x} : evO F (some x) = some (ev F x) := rfl
theorem get_cons {t t' v} {r : Fr} : Fr.get ((t', v) :: r) t = if t = t' then v else Fr.get r t := rfl
theorem a9a {f args v k} (h : p3 P f args v) (h1 : a0S 0 args = true) (h2 : v.blw 0 = true) (hk : k v S (.acc [] none)) : a4e P f args S k := .inl ⟨v, h, h1, h2, hk⟩
theorem b2f {f args v S' k} (h : Ev P f args (hp S) v (hp S')) (hk : k v S' (.eff S S')) : a4e P f args S k := .inr (.inl ⟨v, S', h, hk⟩)
theorem a8t {f args v M k} (h : c1U P f args (hp S) v M) (hk : k v S (.acc M none)) : a4e P f args S k := .inr (.inr ⟨v, M, h, hk⟩)
end

theorem v4 {S0 S S' S'' : List Ob} {fr fr' fr'' : Fr} (h : Wk S0 fr S fr' S') (k : Wk S0 fr' S' fr'' S'') : Wk S0 fr S fr'' S'' :=
 fun g0 n a w hat => k _ _ _ _ (h _ _ _ _ hat)

def a4D : Exit -> Prop
 | .normal | .ret => True
 | _ => False

theorem b0j : hp [] = a6y := by funext o; simp [hp]

section
variable {P : Program} {S0 : List Ob} {ow : List Nat} {fr : Fr} {S : List Ob} {log : List LE}

theorem a8 {rs : List w8} {K : Post} (h : VTops P ow rs fr S [] fun fr' S' _ => K .normal fr' S') : VT P S0 ow (.reg rs []) fr S K := by rw [b6f]; exact h
theorem s4 {rs : List w8} {K : Post} {p ps} (h : VTops P ow rs fr S [] fun fr' S' log => u7 (p :: ps) log /\ K .normal fr' S') : VT P S0 ow (.reg rs (p :: ps)) fr S K := .inl h
theorem g5 {K : Post} (h : K .normal fr S) : VT P S0 ow .skip fr S K := h
theorem p5 {id a} {K : Post} (h : VT P S0 ow a fr S (Post.blk id K)) : VT P S0 ow (.block id a) fr S K := h
theorem a3f {id} {K : Post} (h : K (.exit id) fr S) : VT P S0 ow (.exit id) fr S K := h
theorem f7 {K : Post} (h : K .ret fr S) : VT P S0 ow .ret fr S K := h
theorem E_cs {c a b} {K : Post} {t : Bool} (e : ev (Fr.get fr) c = .bool t) (h : t = true -> VT P S0 ow a fr S K) (h' : t = false -> VT P S0 ow b fr S K) : VT P S0 ow (.cond c a b) fr S K := by rw [b3F, e]; exact ⟨h, h'⟩
theorem b6h {N : Fr -> List Ob -> Prop} {K : Post} {i} (h : K (.exit i) fr S) : Post.thn N K (.exit i) fr S := h
theorem k7 {N : Fr -> List Ob -> Prop} {K : Post} (h : K .ret fr S) : Post.thn N K .ret fr S := h
theorem a2Q {id} {K : Post} (h : K .normal fr S) : Post.blk id K .normal fr S := h
theorem c2o {id} {K : Post} (h : K .normal fr S) : Post.blk id K (.exit id) fr S := by rw [a4C, if_pos rfl]; exact h
theorem c2p {id j} {K : Post} (e : (j == id) = false) (h : K (.exit j) fr S) : Post.blk id K (.exit j) fr S := by rw [a4C, if_neg (by simpa using e)]; exact h
theorem w6 {id} {K : Post} (h : K .ret fr S) : Post.blk id K .ret fr S := h
theorem a7 {K : Fr -> List Ob -> List LE -> Prop} (h : K fr S log) : VTops P ow [] fr S log K := h
theorem y3 {d r rs} {K : Fr -> List Ob -> List LE -> Prop} {v v' rd δ S'} (e : opV (ow.contains d) r (Fr.get fr) S = some (v, rd, δ)) (e2 : v = v') (e3 : apS S δ = S') (h : VTops P ow rs ((d, v') :: fr) S' (.acc (y8 rd δ) (δ.map (·.1)) :: log) K) :
  VTops P ow (⟨some d, none, .op r⟩ :: rs) fr S log K := by subst e2; subst e3; rw [a2F, e]; exact ⟨_, .refl _, h⟩
theorem f4 {d r rs} {K : Fr -> List Ob -> List LE -> Prop} {v v'} (e : opV (ow.contains d) r (Fr.get fr) S = some (v, [], none)) (e2 : v = v') (h : VTops P ow rs ((d, v') :: fr) S (.acc [] none :: log) K) :
  VTops P ow (⟨some d, none, .op r⟩ :: rs) fr S log K := by subst e2; rw [a2F, e]; exact ⟨_, .refl _, h⟩
theorem n9 {d x rs} {K : Fr -> List Ob -> List LE -> Prop} {v'} (e2 : ev (Fr.get fr) x = v') (h : VTops P ow rs ((d, v') :: fr) S (.acc [] none :: log) K) :
  VTops P ow (⟨some d, none, .op (.mv x)⟩ :: rs) fr S log K := by subst e2; rw [b2d]; exact ⟨_, .refl _, h⟩
theorem k9 {d c a b rs} {K : Fr -> List Ob -> List LE -> Prop} {v'} (e : ev (Fr.get fr) c = .bool true) (e2 : ev (Fr.get fr) a = v') (h : VTops P ow rs ((d, v') :: fr) S (.acc [] none :: log) K) :
  VTops P ow (⟨some d, none, .op (.pick c a b)⟩ :: rs) fr S log K := by subst e2; rw [a2F]; simp only [opV, e, b2a, if_true, b3G]; exact ⟨_, .refl _, h⟩
theorem l7 {d c a b rs} {K : Fr -> List Ob -> List LE -> Prop} {v'} (e : ev (Fr.get fr) c = .bool false) (e2 : ev (Fr.get fr) b = v') (h : VTops P ow rs ((d, v') :: fr) S (.acc [] none :: log) K) :
  VTops P ow (⟨some d, none, .op (.pick c a b)⟩ :: rs) fr S log K := by subst e2; rw [a2F]; simp only [opV, e, b2a, if_false, b3G, Bool.false_eq_true]; exact ⟨_, .refl _, h⟩
theorem a4E {r rs} {K : Fr -> List Ob -> List LE -> Prop} {v rd δ S'} (e : opV false r (Fr.get fr) S = some (v, rd, δ)) (e3 : apS S δ = S') (h : VTops P ow rs fr S' (.acc (y8 rd δ) (δ.map (·.1)) :: log) K) :
  VTops P ow (⟨none, none, .op r⟩ :: rs) fr S log K := by subst e3; rw [b0i, e]; exact ⟨_, .refl _, h⟩
theorem c2q {d arr esh x i rs} {K : Fr -> List Ob -> List LE -> Prop} {ex sz k n} {α : Type} {f : α -> AV} {ys : List α} (e : ev (Fr.get fr) x = .sl ex sz (ys.map f)) (e1 : ev (Fr.get fr) i = .int k n) (e2 : arr = none) (e3 : sz = d9 esh) (h1 : 0 <= n /\ n < ys.length)
  (h : ∀ y, ys[n.toNat]? = some y -> VTops P ow rs ((d, .cptr (f y).cells 0) :: fr) S (.acc [] none :: log) K) :
  VTops P ow (⟨some d, none, .op (.iad arr esh x i)⟩ :: rs) fr S log K := by
 have hn : n.toNat < ys.length := by omega
 have h3 := h ys[n.toNat] (by simp [hn])
 rw [a2F]
 subst e2
 simp only [opV, e, e1, b5Z]
 rw [if_pos ⟨e3, h1.1, by simpa using h1.2⟩]
 simp only [b3G, List.getD_eq_getElem?_getD, List.getElem?_map, List.getElem?_eq_getElem hn, Option.map_some, Option.getD_some]
 exact ⟨_, .refl _, h3⟩
theorem c6I {d t want c rs} {K : Fr -> List Ob -> List LE -> Prop} (e : Fr.get fr t = .bool want) (h : VTops P ow (⟨d, none, c⟩ :: rs) fr S log K) : VTops P ow (⟨d, some (t, want), c⟩ :: rs) fr S log K := by
 cases d <;> (first | rw [a6i] | rw [a4l]) <;> rw [e] <;> exact ⟨fun _ => h, fun e => by cases want <;> cases e⟩
theorem c6J {d t want c rs} {K : Fr -> List Ob -> List LE -> Prop} (e : Fr.get fr t = .bool (!want)) (h : VTops P ow rs (a5j fr d (.tup [])) S (.acc [] none :: log) K) : VTops P ow (⟨d, some (t, want), c⟩ :: rs) fr S log K := by
 cases d <;> (first | rw [a6i] | rw [a4l]) <;> rw [e] <;> exact ⟨fun e => (by cases want <;> cases e), fun _ => h⟩
theorem c6K {d t want c rs} {K : Fr -> List Ob -> List LE -> Prop} (e : Fr.get fr t = .tup []) (h : VTops P ow rs (a5j fr d (.tup [])) S (.acc [] none :: log) K) : VTops P ow (⟨d, some (t, want), c⟩ :: rs) fr S log K := by
 cases d <;> (first | rw [a6i] | rw [a4l]) <;> rw [e] <;> exact h
theorem c6L {d t want c rs} {K : Fr -> List Ob -> List LE -> Prop} {b : Bool} (e : Fr.get fr t = .bool b) (h : b = want -> VTops P ow (⟨d, none, c⟩ :: rs) fr S log K) (h' : b = !want -> VTops P ow rs (a5j fr d (.tup [])) S (.acc [] none :: log) K) : VTops P ow (⟨d, some (t, want), c⟩ :: rs) fr S log K := by
 cases d <;> (first | rw [a6i] | rw [a4l]) <;> rw [e] <;> exact ⟨h, h'⟩
theorem a0x {d f args rs} {K : Fr -> List Ob -> List LE -> Prop} {as v} (c : p3 P f as v) (e : evL (Fr.get fr) args = as) (h1 : a0S 0 as = true) (h2 : v.blw 0 = true) (h : VTops P ow rs ((d, v) :: fr) S (.acc [] none :: log) K) :
  VTops P ow (⟨some d, none, .call f args⟩ :: rs) fr S log K := by rw [a3E, e]; exact a9a c h1 h2 h
theorem a7J {d f args rs} {K : Fr -> List Ob -> List LE -> Prop} {as v S'} (c : Ev P f as (hp S) v (hp S')) (e : evL (Fr.get fr) args = as) (h : VTops P ow rs ((d, v) :: fr) S' (.eff S S' :: log) K) :
  VTops P ow (⟨some d, none, .call f args⟩ :: rs) fr S log K := by rw [a3E, e]; exact b2f c h
theorem b0k {a} {K : Post} {ι : Type} (F : ι -> Fr) (T : ι -> List Ob) (Pr : ι -> Prop) (μ : ι -> Nat) (i0 : ι) (h0 : Pr i0) (hw : Wk S0 fr S (F i0) (T i0))
  (h : ∀ i, Pr i -> VT P S0 ow a (F i) (T i) (Post.thn (fun fr' S' => ∃ i', Pr i' /\ μ i' < μ i /\ Wk S0 fr' S' (F i') (T i')) K)) : VT P S0 ow (.loop a) fr S K :=
 ⟨ι, F, T, Pr, μ, i0, h0, hw, h⟩
end
theorem b3H {P b c F S} {k : AV -> List Ob -> LE -> Prop} (a : VT1 P b c F S k) : ∃ v S' le, k v S' le /\ ∀ k' : AV -> List Ob -> LE -> Prop, k' v S' le -> VT1 P b c F S k' := by
 have hcall : ∀ {f args} {k : AV -> List Ob -> LE -> Prop}, a4e P f args S k -> ∃ v S' le, k v S' le /\ ∀ k' : AV -> List Ob -> LE -> Prop, k' v S' le -> a4e P f args S k' := by
  intro f args k h
  rcases h with ⟨v, a1, a2, a3, a4⟩ | ⟨v, S', a1, a2⟩ | ⟨v, M, a1, a2⟩
  ·exact ⟨v, S, _, a4, fun k' h' => .inl ⟨v, a1, a2, a3, h'⟩⟩
  ·exact ⟨v, S', _, a2, fun k' h' => .inr (.inl ⟨v, S', a1, h'⟩)⟩
  ·exact ⟨v, S, _, a2, fun k' h' => .inr (.inr ⟨v, M, a1, h'⟩)⟩
 cases c with
 | op r =>
   simp only [VT1, kO] at a ⊢
   split at a
   ·rename_i v rd δ e
    obtain ⟨v', aw, a⟩ := a
    exact ⟨v', _, _, a, fun k' h' => ⟨v', aw, h'⟩⟩
   ·exact a.elim
 | call f args => exact hcall a
 | callv x args =>
   simp only [VT1, kFn] at a ⊢
   split at a
   ·obtain ⟨v, S', le, h1, h2⟩ := hcall a.2
    exact ⟨v, S', le, h1, fun k' h' => ⟨a.1, h2 k' h'⟩⟩
   ·exact a.elim
 | inv x m args =>
   simp only [VT1, b5L] at a ⊢
   split at a
   ·split at a
    ·rename_i f e
     obtain ⟨v, S', le, h1, h2⟩ := hcall a.2
     exact ⟨v, S', le, h1, fun k' h' => ⟨a.1, h2 k' h'⟩⟩
    ·unfold a6K at a
     split at a
     ·rename_i f sh e
      obtain ⟨h0, y, rd, v, S', h1, h2, h3⟩ := a
      exact ⟨v, S', _, h3, fun k' h' => by unfold a6K; rw [e]; exact ⟨h0, y, rd, v, S', h1, h2, h'⟩⟩
     ·exact a.elim
   ·exact a.elim
theorem a2p {P ow} : ∀ {rs : List w8} {fr S log} {K : Fr -> List Ob -> List LE -> Prop}, VTops P ow rs fr S log K -> ∃ fr' S' log', K fr' S' log' /\ ∀ K' : Fr -> List Ob -> List LE -> Prop, K' fr' S' log' -> VTops P ow rs fr S log K'
 | [], fr, S, log, K, a => ⟨fr, S, log, a, fun _ h => h⟩
 | o :: r, fr, S, log, K, a => by
   have one : ∀ {K : Fr -> List Ob -> List LE -> Prop}, VT1 P (c1Z ow o.dst) o.c (Fr.get fr) S (fun v S' le => VTops P ow r (a5j fr o.dst v) S' (le :: log) K) -> ∃ fr' S' log', K fr' S' log' /\ ∀ K' : Fr -> List Ob -> List LE -> Prop, K' fr' S' log' ->
     VT1 P (c1Z ow o.dst) o.c (Fr.get fr) S (fun v S' le => VTops P ow r (a5j fr o.dst v) S' (le :: log) K') := fun h => by
    obtain ⟨v, S', le, h1, h2⟩ := b3H h
    obtain ⟨fr', S'', log', h3, h4⟩ := a2p h1
    exact ⟨fr', S'', log', h3, fun K' hk => h2 _ (h4 K' hk)⟩
   simp only [VTops] at a ⊢
   split at a
   ·exact one a
   ·rename_i t want e
    simp only [kG] at a ⊢
    split at a
    ·rename_i b e2
     by_cases hb : b = want
     ·obtain ⟨fr', S', log', h1, h2⟩ := one (a.1 hb)
      exact ⟨fr', S', log', h1, fun K' hk => ⟨fun _ => h2 K' hk, fun h => by subst hb; cases b <;> cases h⟩⟩
     ·have hb' : b = !want := by cases b <;> cases want <;> simp_all
      obtain ⟨fr', S', log', h1, h2⟩ := a2p (a.2 hb')
      exact ⟨fr', S', log', h1, fun K' hk => ⟨fun h => absurd h hb, fun _ => h2 K' hk⟩⟩
    ·obtain ⟨fr', S', log', h1, h2⟩ := a2p a
     exact ⟨fr', S', log', h1, h2⟩
    ·exact a.elim
theorem a3F {P ow} : ∀ {rs : List w8} {fr S log} {K : Fr -> List Ob -> List LE -> Prop}, a3e P ow rs fr S log K -> ∃ fr' S' log', K fr' S' log' /\ ∀ K' : Fr -> List Ob -> List LE -> Prop, K' fr' S' log' -> a3e P ow rs fr S log K'
 | [], fr, S, log, K, a => ⟨fr, S, log, a, fun _ h => h⟩
 | o :: r, fr, S, log, K, a => by
   rcases a with a | ⟨d, sh, x, v, ob, J, e, h1, h2, a⟩
   ·obtain ⟨fr', S', log', h1, h2⟩ := a2p a
    obtain ⟨fr2, S2, log2, h3, h4⟩ := a3F h1
    exact ⟨fr2, S2, log2, h3, fun K' hk => .inl (h2 _ (h4 K' hk))⟩
   ·obtain ⟨fr2, S2, log2, h3, h4⟩ := a3F a
    exact ⟨fr2, S2, log2, h3, fun K' hk => .inr ⟨d, sh, x, v, ob, J, e, h1, h2, h4 K' hk⟩⟩
theorem b6i {P S0 ow} : ∀ {fc : FC} {fr S} {K : Post}, VT P S0 ow fc fr S K -> ∃ e fr' S', K e fr' S' /\ ∀ K' : Post, K' e fr' S' -> VT P S0 ow fc fr S K' := by
 intro fc
 induction fc with
 | skip => intro fr S K a; exact ⟨_, _, _, a, fun _ h => h⟩
 | reg rs ps =>
   intro fr S K a
   rcases a with a | ⟨hne, a⟩
   ·obtain ⟨fr', S', log', h1, h2⟩ := a2p a
    exact ⟨_, fr', S', h1.2, fun K' hk => .inl (h2 _ ⟨h1.1, hk⟩)⟩
   ·obtain ⟨fr', S', log', h1, h2⟩ := a3F a
    exact ⟨_, fr', S', h1.2, fun K' hk => .inr ⟨hne, h2 _ ⟨h1.1, hk⟩⟩⟩
 | seq x y ihx ihy =>
   intro fr S K a
   obtain ⟨e, fr1, S1, h1, h2⟩ := ihx a
   cases e with
   | normal =>
     obtain ⟨F, T, hw, h3⟩ := h1
     obtain ⟨e', fr', S', h4, h5⟩ := ihy h3
     exact ⟨e', fr', S', h4, fun K' hk => h2 _ ⟨F, T, hw, h5 K' hk⟩⟩
   | exit i => exact ⟨.exit i, fr1, S1, h1, fun K' hk => h2 _ hk⟩
   | ret => exact ⟨.ret, fr1, S1, h1, fun K' hk => h2 _ hk⟩
   | goto l => exact ⟨.goto l, fr1, S1, h1, fun K' hk => h2 _ hk⟩
   | panic l => exact ⟨.panic l, fr1, S1, h1, fun K' hk => h2 _ hk⟩
   | outgrown => exact ⟨.outgrown, fr1, S1, h1, fun K' hk => h2 _ hk⟩
 | cond c x y ihx ihy =>
   intro fr S K a
   simp only [VT, kB] at a ⊢
   split at a
   ·rename_i b e
    cases b with
    | true =>
      obtain ⟨e', fr', S', h1, h2⟩ := ihx (a.1 rfl)
      exact ⟨e', fr', S', h1, fun K' hk => ⟨fun _ => h2 K' hk, fun h => by cases h⟩⟩
    | false =>
      obtain ⟨e', fr', S', h1, h2⟩ := ihy (a.2 rfl)
      exact ⟨e', fr', S', h1, fun K' hk => ⟨nofun, fun _ => h2 K' hk⟩⟩
   ·exact a.elim
 | block id x ihx =>
   intro fr S K a
   obtain ⟨e, fr1, S1, h1, h2⟩ := ihx a
   cases e with
   | exit j =>
     simp only [Post.blk] at h1
     split at h1
     ·rename_i hj; exact ⟨.normal, fr1, S1, h1, fun K' hk => h2 _ (by simp only [Post.blk]; rw [if_pos hj]; exact hk)⟩
     ·rename_i hj; exact ⟨.exit j, fr1, S1, h1, fun K' hk => h2 _ (by simp only [Post.blk]; rw [if_neg hj]; exact hk)⟩
   | normal => exact ⟨.normal, fr1, S1, h1, fun K' hk => h2 _ hk⟩
   | ret => exact ⟨.ret, fr1, S1, h1, fun K' hk => h2 _ hk⟩
   | goto l => exact ⟨.goto l, fr1, S1, h1, fun K' hk => h2 _ hk⟩
   | panic l => exact ⟨.panic l, fr1, S1, h1, fun K' hk => h2 _ hk⟩
   | outgrown => exact ⟨.outgrown, fr1, S1, h1, fun K' hk => h2 _ hk⟩
 | loop x ihx =>
   intro fr S K a
   obtain ⟨ι, F, T, Pr, μ, i0, hi0, hw0, hst⟩ := a
   have trans : ∀ {a b c : Fr} {x y z : List Ob}, Wk S0 a x b y -> Wk S0 b y c z -> Wk S0 a x c z := fun h k g0 n a w hat => k _ _ _ _ (h _ _ _ _ hat)
   have key : ∀ m i, μ i = m -> Pr i -> ∃ e fr' S', K e fr' S' /\ ∀ K' : Post, K' e fr' S' -> a8q S0 (VT P S0 ow x) (F i) (T i) K' := by
    intro m
    induction m using Nat.strongRecOn with
    | _ m ih =>
      intro i hm hi
      obtain ⟨e, fr1, S1, h1, h2⟩ := ihx (hst i hi)
      have stop : e ≠ .normal -> K e fr1 S1 -> ∃ e fr' S', K e fr' S' /\ ∀ K' : Post, K' e fr' S' -> a8q S0 (VT P S0 ow x) (F i) (T i) K' := fun hne hk =>
       ⟨e, fr1, S1, hk, fun K' hk' => ⟨Unit, fun _ => F i, fun _ => T i, fun _ => True, fun _ => 0, (), trivial, fun _ _ _ _ h => h, fun _ _ => h2 _ (by cases e <;> first | exact (hne rfl).elim | exact hk')⟩⟩
      cases e with
      | normal =>
        obtain ⟨i', hi', hlt, hw⟩ := h1
        obtain ⟨e, fr', S', h3, h4⟩ := ih (μ i') (hm ▸ hlt) i' rfl hi'
        refine ⟨e, fr', S', h3, fun K' hk => ?_⟩
        obtain ⟨ι2, F2, T2, Pr2, μ2, j0, hj0, hwj, hsj⟩ := h4 K' hk
        refine ⟨Option ι2, fun o => o.elim (F i) F2, fun o => o.elim (T i) T2, fun o => o.elim True Pr2, fun o => o.elim (μ2 j0 + 1) μ2, none, trivial, fun _ _ _ _ h => h, fun o ho => ?_⟩
        cases o with
        | none => exact h2 _ ⟨some j0, hj0, Nat.lt_succ_self _, trans hw hwj⟩
        | some j => exact a0T (a1a (fun fr' S' hh => (by obtain ⟨j', a, b, c⟩ := hh; exact ⟨some j', a, b, c⟩)) (fun _ _ _ h => h)) (hsj j ho)
      | exit j => exact stop zS h1
      | ret => exact stop zS h1
      | goto l => exact stop zS h1
      | panic l => exact stop zS h1
      | outgrown => exact stop zS h1
   obtain ⟨e, fr', S', h1, h2⟩ := key _ i0 rfl hi0
   refine ⟨e, fr', S', h1, fun K' hk => ?_⟩
   obtain ⟨ι2, F2, T2, Pr2, μ2, j0, hj0, hwj, hsj⟩ := h2 K' hk
   exact ⟨ι2, F2, T2, Pr2, μ2, j0, hj0, trans hw0 hwj, hsj⟩
 | exit id => intro fr S K a; exact ⟨_, _, _, a, fun _ h => h⟩
 | ret => intro fr S K a; exact ⟨_, _, _, a, fun _ h => h⟩
attribute [irreducible] VT VTops a3e
end Go.Ab

/- Weaker values; an object that changes no more becomes a value. -/
namespace Go.Ab
open Go.RowKit

inductive a4m (fz : Option (Nat × Nat × List AV)) : AV -> AV -> Prop
 | refl (x) : a4m fz x x
 | junk (x) : a4m fz x .junk
 | nil {ex sz} : a4m fz .nils (.sl ex sz [])
 | agg {xs ys : List AV} (hl : xs.length = ys.length) (h : ∀ j (h1 : j < xs.length) (h2 : j < ys.length), a4m fz xs[j] ys[j]) : a4m fz (.agg xs) (.agg ys)
 | tup {xs ys : List AV} (hl : xs.length = ys.length) (h : ∀ j (h1 : j < xs.length) (h2 : j < ys.length), a4m fz xs[j] ys[j]) : a4m fz (.tup xs) (.tup ys)
 | sl {ex ex' sz} {xs ys : List AV} (he : ex' = true -> ex = true) (hl : xs.length = ys.length) (hz : ∀ i (h1 : i < xs.length) (h2 : i < ys.length), (xs[i]).cells.length = (ys[i]).cells.length)
   (h : ∀ i (h1 : i < xs.length) (h2 : i < ys.length) j (h3 : j < (xs[i]).cells.length) (h4 : j < (ys[i]).cells.length), a4m fz ((xs[i]).cells[j]) ((ys[i]).cells[j])) : a4m fz (.sl ex sz xs) (.sl ex' sz ys)
 | ref {o ver n e cs} (hf : fz = some (o, ver, cs)) (h1 : cs.all AV.one = true) (hb : n * d9 e <= cs.length) : a4m fz (.ref o ver 0 n e) (.sl false (d9 e) (q8 e n cs))
 | ptr {o ver off cs} (hf : fz = some (o, ver, cs)) : a4m fz (.ptr o ver off) (.cptr cs off)

def c2r (fz : Option (Nat × Nat × List AV)) (pm pm' : Pm) (L L' : Nat -> Loc) (σ σ' : Hp) : Prop :=
 ∀ o ver cs, fz = some (o, ver, cs) -> σ o = .arr ver cs /\ ∃ us : Nat -> Value, ∀ j (h : j < cs.length), pm' (L o).b ((L o).off + j) = some (us j) /\ VR pm' L' σ' (cs[j]) (us j)

theorem VR.le {fz pm pm' L L' σ σ'} (hx : Ext pm L σ pm' L' σ') (hf : c2r fz pm pm' L L' σ σ') {x y : AV} {u : Value} (h : VR pm L σ x u) (k : a4m fz x y) : VR pm' L' σ' y u := by
 induction k generalizing u with
 | refl x => exact h.mono hx
 | junk x => exact .junk
 | nil => cases h; exact .slnil
 | agg hl _ ih => cases h with | agg a b => exact .agg zO (fun j h1 h2 => ih j zO h1 (b j zO h2))
 | tup hl _ ih => cases h with | tup a b => exact .tup zO (fun j h1 h2 => ih j zO h1 (b j zO h2))
 | sl he hl hz _ ih =>
   rename_i ex ex' sz xs ys _
   cases h with
   | slnil =>
     have : ys = [] := List.eq_nil_of_length_eq_zero (by simpa using hl.symm)
     subst this; exact .slnil
   | slz =>
     have : ys = [] := List.eq_nil_of_length_eq_zero (by simpa using hl.symm)
     subst this; exact .slz
   | sl us hc hex hzz hp hv =>
     rw [hl]
     refine .sl us zO (fun e => by rw [hex (he e), hl]) (fun i hi => by rw [<- hz i zO hi]; exact hzz i zO) (fun i j hi hj => hx.pm _ _ _ (hp i j zO hj)) (fun i hi j hj => ?_)
     have h3 : j < (xs[i]).cells.length := by rw [hz i zO hi]; exact hj
     exact ih i zO hi j h3 hj (hv i zO j h3)
 | ref hfz h1 hb =>
   rename_i o ver n e cs
   obtain ⟨hs, us, hus⟩ := hf _ _ _ hfz
   cases h with
   | refnil _ =>
     have : q8 e 0 cs = [] := by cases e <;> simp [q8, a1s]
     rw [this]
     exact .slz'
   | ref hn hsp hr =>
     unfold a0p at hr
     rw [hs] at hr
     obtain ⟨rfl, _, hcap, _⟩ := hr.2 rfl
     simp only [Nat.add_zero]
     exact VR.told hb h1 (fun j hj => (hus j zO).1) (fun j hj _ => (hus j hj).2) hn (by intro e; cases e)
 | ptr hfz =>
   rename_i o ver off cs
   obtain ⟨hs, us, hus⟩ := hf _ _ _ hfz
   cases h with
   | ptr hr =>
     unfold a0Q at hr
     rw [hs] at hr
     obtain rfl := hr.2 rfl
     exact .cptr us (fun j hj => (hus j hj).1) (fun j hj => (hus j hj).2)

def b3I (fz : Option (Nat × Nat × List AV)) (σ σ' : Hp) : Prop :=
 ∀ o, (∃ ver cs cs', σ o = .arr ver cs /\ σ' o = .arr ver cs' /\ cs'.length = cs.length /\ (∀ ver' c, fz ≠ some (o, ver', c)) /\ ∀ j (h : j < cs.length) (h' : j < cs'.length), a4m fz cs[j] cs'[j]) \/
  (∃ ver cs, σ o = .arr ver cs /\ σ' o = .dead ver) \/ (∃ ver, σ o = .dead ver /\ σ' o = .dead ver) \/ (σ o = .virgin /\ σ' o = .virgin)

theorem b3I.ext {fz σ σ'} (h : b3I fz σ σ') (L : Nat -> Loc) (o : Nat) : u0 (σ o) (L o) (σ' o) (L o) := by
 rcases h o with ⟨ver, cs, cs', e1, e2, hl, _, _⟩ | ⟨ver, cs, e1, e2⟩ | ⟨ver, e1, e2⟩ | ⟨e1, e2⟩ <;> simp [u0, e1, e2]
 exact hl

theorem WRel.weaken {g σ σ'} {w : World} (h : WRel g σ w) {fz} (hh : b3I fz σ σ') (hf : ∀ o ver cs, fz = some (o, ver, cs) -> σ o = .arr ver cs /\ σ' o = .dead ver) :
  ∃ g', WRel g' σ' w /\ g.le σ g' σ' /\ ∀ x y u, VR g.pm g.L σ x u -> a4m fz x y -> VR g'.pm g'.L σ' y u := by
 have hext : Ext g.pm g.L σ g.pm g.L σ' := ⟨fun _ _ _ e => e, fun o => hh.ext g.L o⟩
 match fz, hh, hf with
 | none, hh, hf =>
   have hF : c2r none g.pm g.pm g.L g.L σ σ' := fun o ver cs e => by cases e
   refine ⟨g, ⟨h.pm, h.tm, h.tmf, h.disj, h.low, h.B0, h.tab, fun o ver cs e => ?_, fun o o' ver ver' cs cs' e e' hne => ?_⟩, ⟨hext, rfl, rfl, rfl⟩, fun x y u hx hy => hx.le hext hF hy⟩
   ·rcases hh o with ⟨ver1, cs1, cs1', e1, e2, hl, _, hv⟩ | ⟨ver1, cs1, e1, e2⟩ | ⟨ver1, e1, e2⟩ | ⟨e1, e2⟩ <;> rw [e2] at e <;> cases e
    have k := h.ob o _ _ e1
    refine ⟨k.low, by rw [hl]; exact k.len, fun j hj => ?_, k.free, k.pm, k.tm⟩
    obtain ⟨v, a, b⟩ := k.there j hj
    exact ⟨v, a, fun hj' => (b zO).le hext hF (hv j zO hj')⟩
   ·rcases hh o with ⟨ver1, cs1, cs1', e1, e2, _⟩ | ⟨ver1, cs1, e1, e2⟩ | ⟨ver1, e1, e2⟩ | ⟨e1, e2⟩ <;> rw [e2] at e <;> cases e
    rcases hh o' with ⟨ver2, cs2, cs2', e3, e4, _⟩ | ⟨ver2, cs2, e3, e4⟩ | ⟨ver2, e3, e4⟩ | ⟨e3, e4⟩ <;> rw [e4] at e' <;> cases e'
    exact h.sep o o' _ _ _ _ e1 e3 hne
 | some (fo, fv, fcs), hh, hf =>
   obtain ⟨hs, hs'⟩ := hf _ _ _ rfl
   have kf := h.ob fo _ _ hs
   obtain ⟨hw1, hle1⟩ := h.drop hs
   have hcell : ∀ j, j < fcs.length -> ∃ v, w.cell? ⟨(g.L fo).b, (g.L fo).off + j, none⟩ = some v /\ ∀ hj : j < fcs.length, VR g.pm g.L σ (fcs[j]) v := fun j hj => kf.there j (by have := kf.len; omega)
   obtain ⟨hw2, hle2⟩ := hw1.tell (g.L fo).b (g.L fo).off fcs.length (fun j => (w.cell? ⟨(g.L fo).b, (g.L fo).off + j, none⟩).getD undef) (fun j hj => by
     obtain ⟨v, a, _⟩ := hcell j hj; rw [a]; rfl) (fun j hj => kf.tm j (by have := kf.len; omega)) (fun j hj v e => by
     rw [kf.pm j (by have := kf.len; omega)] at e; cases e) (fun o' ver' cs' e j hj j' hj' hb => by
     by_cases eo : o' = fo
     ·subst eo; simp [upd] at e
     ·rw [upd, if_neg eo] at e
      exact h.sep o' fo _ _ _ _ e hs eo hb.1 j' j hj' (by have := kf.len; omega) hb.2)
   generalize hg2 : ({ g with pm := _ } : Gh) = g2 at hw2 hle2
   have hL : g2.L = g.L := by rw [<- hg2]
   have hext2 : Ext g.pm g.L σ g2.pm g2.L σ' := by
    rw [hL]
    exact ⟨fun b o v e => (hle1.trans hle2).ext.pm b o v e, fun o => hh.ext g.L o⟩
   have hF : c2r (some (fo, fv, fcs)) g.pm g2.pm g.L g2.L σ σ' := by
    intro o ver cs e
    cases e
    refine ⟨hs, fun j => (w.cell? ⟨(g.L fo).b, (g.L fo).off + j, none⟩).getD undef, fun j hj => ⟨?_, ?_⟩⟩
    ·rw [<- hg2]
     show (if _ then _ else _) = _
     rw [if_pos ⟨rfl, by omega, by omega⟩]
     simp
    ·obtain ⟨v, a, b⟩ := hcell j hj
     show VR g2.pm g2.L σ' fcs[j] ((w.cell? ⟨(g.L fo).b, (g.L fo).off + j, none⟩).getD undef)
     rw [a]
     exact (b hj).mono hext2
   have hle : g.le σ g2 σ' := ⟨hext2, by rw [<- hg2], by rw [<- hg2], by rw [<- hg2]⟩
   refine ⟨g2, ⟨hw2.pm, hw2.tm, hw2.tmf, hw2.disj, hw2.low, hw2.B0, hw2.tab, fun o ver cs e => ?_, fun o o' ver ver' cs cs' e e' hne => ?_⟩, hle, fun x y u hx hy => hx.le hext2 hF hy⟩
   ·rcases hh o with ⟨ver1, cs1, cs1', e1, e2, hl, hnf, hv⟩ | ⟨ver1, cs1, e1, e2⟩ | ⟨ver1, e1, e2⟩ | ⟨e1, e2⟩ <;> rw [e2] at e <;> cases e
    have k := h.ob o _ _ e1
    have hne : o ≠ fo := by rintro rfl; exact hnf _ _ rfl
    have k2 := hw2.ob o _ _ (by rw [upd, if_neg hne]; exact e1)
    have k2p := k2.pm
    rw [hL] at k2p
    refine ⟨by rw [hL, <- hg2]; exact k.low, by rw [hL, hl]; exact k.len, fun j hj => ?_, by rw [hL]; exact k.free, by rw [hL]; exact k2p, by rw [hL, <- hg2]; exact k.tm⟩
    rw [hL] at hj ⊢
    obtain ⟨v, a, b⟩ := k.there j hj
    exact ⟨v, a, fun hj' => by
     have := (b zO).le hext2 hF (hv j zO hj')
     rwa [hL] at this⟩
   ·rcases hh o with ⟨ver1, cs1, cs1', e1, e2, _⟩ | ⟨ver1, cs1, e1, e2⟩ | ⟨ver1, e1, e2⟩ | ⟨e1, e2⟩ <;> rw [e2] at e <;> cases e
    rcases hh o' with ⟨ver2, cs2, cs2', e3, e4, _⟩ | ⟨ver2, cs2, e3, e4⟩ | ⟨ver2, e3, e4⟩ | ⟨e3, e4⟩ <;> rw [e4] at e' <;> cases e'
    rw [hL]
    exact h.sep o o' _ _ _ _ e1 e3 hne

theorem c2s {S0 S S' : List Ob} {fr fr' : Fr} (fz : Option (Nat × Nat × List AV)) (hh : b3I fz (hp S) (hp S')) (hf : ∀ o ver cs, fz = some (o, ver, cs) -> hp S o = .arr ver cs /\ hp S' o = .dead ver)
  (hfr : ∀ t, a4m fz (Fr.get fr t) (Fr.get fr' t)) : Wk S0 fr S fr' S' := by
 intro g0 n a w hat
 obtain ⟨h0, g, h1, h2, h3⟩ := hat
 obtain ⟨g', k1, k2, k3⟩ := h2.weaken hh hf
 exact ⟨h0, g', h1.trans k2, k1, h3.size, fun t => k3 _ _ _ (h3.get t) (hfr t)⟩

def leF (fz : Option (Nat × Nat × List AV)) (fr : Fr) : Fr -> Prop
 | [] => True
 | (t, v) :: r => a4m fz (Fr.get fr t) v /\ leF fz fr r

theorem b0l {fz} {fr : Fr} : ∀ {fr' : Fr}, leF fz fr fr' -> ∀ t, a4m fz (Fr.get fr t) (Fr.get fr' t)
 | [], _, t => .junk _
 | (t', v) :: r, h, t => by
   rw [get_cons]
   split
   ·rename_i e; subst e; exact h.1
   ·exact b0l h.2 t

theorem b3I.refl (σ : Hp) : b3I none σ σ := by
 intro o
 cases e : σ o with
 | virgin => exact .inr (.inr (.inr ⟨rfl, rfl⟩))
 | dead v => exact .inr (.inr (.inl ⟨v, rfl, rfl⟩))
 | arr v cs => exact .inl ⟨v, cs, cs, rfl, rfl, rfl, (fun _ _ => by intro e; cases e), fun j h h' => .refl _⟩

theorem a5n {S0 S : List Ob} {fr fr' : Fr} (h : leF none fr fr') : Wk S0 fr S fr' S :=
 c2s none (b3I.refl _) (fun o ver cs e => by cases e) (b0l h)

theorem a7K (S : List Ob) (k o : Nat) : hp (S.take k) o = if o < k then hp S o else .virgin := by
 simp only [hp, List.getD_eq_getElem?_getD, List.getElem?_take]
 split <;> rfl

theorem b2g {α : Type} {n : Nat} {f : α -> AV} (h : ∀ a, (f a).blw n = true) (l : List α) : a0S n (l.map f) = true := by
 induction l with
 | nil => rfl
 | cons x r ih => simp [a0S, h x, ih]

theorem p4 {x : Int} (h : -9223372036854775808 <= x /\ x <= 9223372036854775807) : IntKind.i64.wrap x = x := by
 simp [IntKind.wrap, IntKind.bits, IntKind.signed]; omega

theorem a9b {α : Type} {f : α -> AV} {Q : α -> Prop} {xs : List AV} (h : ∀ x ∈ xs, ∃ a, x = f a /\ Q a) : ∃ as : List α, xs = as.map f /\ ∀ a ∈ as, Q a := by
 induction xs with
 | nil => exact ⟨[], rfl, by simp⟩
 | cons x r ih =>
   obtain ⟨a, rfl, ha⟩ := h x zS
   obtain ⟨as, rfl, has⟩ := ih (fun y hy => h y (by simp [hy]))
   exact ⟨a :: as, rfl, fun b hb => by rcases List.mem_cons.1 hb with rfl | hb; exact ha; exact has b hb⟩

section
variable {P : Program} {S0 : List Ob} {ow : List Nat} {fr : Fr} {S : List Ob} {log : List LE}
end
end Go.Ab

namespace Go.Ab
open Go.RowKit
theorem b2h {S : List Ob} {o : Nat} (h : S.length <= o) : hp S o = .virgin := by
 simp [hp, List.getD_eq_getElem?_getD, List.getElem?_eq_none h]

theorem n8 {P : Program} {ow : List Nat} {fr : Fr} {S : List Ob} {log : List LE} {d x rs} {K : Fr -> List Ob -> List LE -> Prop} {ex sz} {α : Type} {f : α -> AV} {ys : List α} (e : ev (Fr.get fr) x = .sl ex sz (ys.map f))
  (h : VTops P ow rs ((d, .int .i64 ys.length) :: fr) S (.acc [] none :: log) K) : VTops P ow (⟨some d, none, .op (.len .sl x)⟩ :: rs) fr S log K := by
 refine f4 (v := .int .i64 ys.length) ?_ rfl h
 simp [opV, e, c1W, pv]
inductive Ty (P : Program) (N : Nat) : TypeId -> List AV -> Prop
 | bool {t b} (h : P.underlying t = some .bool) : Ty P N t [.bool b]
 | int {t k n} (h : P.underlying t = some (.int k)) (hw : (Lit.int k n).wf = true) : Ty P N t [.int k n]
 | str {t s} (h : P.underlying t = some .string) (hs : s.size <= N) : Ty P N t [.str s]
 | sl {t e xs} (h : P.underlying t = some (.slice e)) (hl : xs.length <= N) (hx : ∀ x ∈ xs, Ty P N e x.cells)
   (ha : ∀ x ∈ xs, ((∃ fs, P.underlying e = some (.struct fs)) /\ ∃ cs, x = .agg cs) \/ ((∀ fs, P.underlying e ≠ some (.struct fs)) /\ x.cells = [x])) : Ty P N t [.sl false (P.cellsOf e) xs]
 | struct {t fs cs} (h : P.underlying t = some (.struct fs)) (hl : cs.length = P.cellsOf t) (hf : ∀ (i : Nat) (f : Field), fs[i]? = some f -> Ty P N f.type ((cs.drop f.offset).take (P.cellsOf f.type))) : Ty P N t cs

def a3Y (P : Program) : Nat -> TypeId -> Bool
 | 0, _ => false
 | m + 1, t => match P.underlying t with
   | some .bool | some (.int _) | some .string => true
   | some (.slice e) => decide (0 < P.cellsOf e) && a3Y P m e
   | some (.struct fs) => fs.toList.all fun f => a3Y P m f.type && decide (f.offset + P.cellsOf f.type <= P.cellsOf t)
   | _ => false

def a6X (P : Program) (n : Nat) : Nat -> List Field -> Bool
 | o, [] => o == n
 | o, f :: r => f.offset == o && a6X P n (o + P.cellsOf f.type) r

def a4F (P : Program) : Nat -> TypeId -> Bool
 | 0, _ => false
 | m + 1, t => match P.underlying t with
   | some (.slice e) => a4F P m e
   | some (.struct fs) => a6X P (P.cellsOf t) 0 fs.toList && fs.toList.all fun f => a4F P m f.type
   | _ => true

theorem a5H {P : Program} {R : Nat -> AV -> Prop} {Q : Field -> List AV -> Prop} {n : Nat} : ∀ (fs : List Field) (o : Nat), a6X P n o fs = true ->
  (∀ f ∈ fs, ∃ avs, Q f avs /\ avs.length = P.cellsOf f.type /\ ∀ j (h : j < avs.length), R (f.offset + j) (avs[j])) ->
  ∃ avs : List AV, o + avs.length = n /\ (∀ f ∈ fs, o <= f.offset /\ Q f ((avs.drop (f.offset - o)).take (P.cellsOf f.type))) /\ ∀ j (h : j < avs.length), R (o + j) (avs[j])
 | [], o, hc, _ => ⟨[], by simp [a6X] at hc; simp [hc], by simp, by simp⟩
 | f :: r, o, hc, hf => by
   simp only [a6X, Bool.and_eq_true, beq_iff_eq] at hc
   obtain ⟨rfl, hc⟩ := hc
   obtain ⟨a, q, hl, hr⟩ := hf f zS
   obtain ⟨avs, h1, h2, h3⟩ := a5H r _ hc (fun g hg => hf g (by simp [hg]))
   refine ⟨a ++ avs, by simp; omega, fun g hg => ?_, fun j hj => ?_⟩
   ·rcases List.mem_cons.1 hg with rfl | hg
    ·refine ⟨Nat.le_refl _, ?_⟩
     rw [Nat.sub_self, List.drop_zero, <- hl, List.take_left]; exact q
    ·obtain ⟨k1, k2⟩ := h2 g hg
     refine ⟨by omega, ?_⟩
     rw [List.drop_append, List.drop_eq_nil_of_le zO, List.nil_append, show g.offset - f.offset - a.length = g.offset - (f.offset + P.cellsOf f.type) by omega]
     exact k2
   ·by_cases hj' : j < a.length
    ·rw [List.getElem_append_left hj']; exact hr j hj'
    ·rw [List.getElem_append_right zO]
     have := h3 (j - a.length) (by simp at hj; omega)
     rwa [show f.offset + P.cellsOf f.type + (j - a.length) = f.offset + j by omega] at this

structure c2t {H : Type} (bk : DataW H -> Nat) : Prop where
 str : ∀ bytes, bytes.length <= bk (.lit (.string bytes))
 len : ∀ elems spare, elems.length <= bk (.slice elems spare)
 elem : ∀ elems spare d, d ∈ elems -> bk d <= bk (.slice elems spare)
 part : ∀ parts d, d ∈ parts -> bk d <= bk (.agg parts)

theorem a6Y {w : World} {a : Addr} {v : Value} (h : w.cell? a = some v) : a.spot = none := by
 unfold World.cell? at h
 split at h
 ·split at h
  ·cases h
  ·rename_i e; cases hs : a.spot with
   | none => rfl
   | some x => simp [hs] at e
 ·cases h

variable {H : Type} {enc : TypeId × Value -> H} {P : Program} {W : World} {bk : DataW H -> Nat} {N : Nat} {pm : Pm} {L : Nat -> Loc} {σ : Hp}

theorem Ty.one {t : TypeId} {avs : List AV} (h : Ty P N t avs) (hn : ∀ fs, P.underlying t ≠ some (.struct fs)) : ∃ v, avs = [v] /\ v.cells = [v] := by
 cases h with
 | bool => exact ⟨_, rfl, rfl⟩
 | int => exact ⟨_, rfl, rfl⟩
 | str => exact ⟨_, rfl, rfl⟩
 | sl => exact ⟨_, rfl, rfl⟩
 | struct h => exact (hn _ h).elim

theorem b3J (hb : c2t bk) (hpm : ∀ b o v, W.cell? ⟨b, o, none⟩ = some v -> pm b o = some v) : ∀ (m fuel : Nat) (t : TypeId) (cs : List Value) (d : DataW H) (ps : List MemPlace),
  DataW.trod enc P W 0 (fun _ => true) true fuel t cs = some (d, ps) -> a3Y P m t = true -> a4F P m t = true -> bk d <= N ->
  ∃ avs, Ty P N t avs /\ avs.length = cs.length /\ ∀ j (h : j < avs.length) (h' : j < cs.length), VR pm L σ (avs[j]) (cs[j]) := by
 intro m
 induction m with
 | zero => intro fuel t cs d ps _ hp; simp [a3Y] at hp
 | succ m ih =>
   intro fuel t cs d ps h hp hcov hbk
   simp only [a3Y] at hp
   simp only [a4F] at hcov
   split at hp
   ·rename_i ht
    cases fuel with
    | zero => simp [DataW.trod] at h
    | succ n =>
      unfold DataW.trod at h
      rw [ht] at h
      split at h <;> rename_i e1 <;> first | (cases e1; done) | (cases h; done) | skip
      rename_i b
      exact ⟨[.bool b], .bool ht, rfl, fun j h h' => by
       have : j = 0 := by simpa using h
       subst this; exact .bool⟩
   ·rename_i k ht
    cases fuel with
    | zero => simp [DataW.trod] at h
    | succ n =>
      unfold DataW.trod at h
      rw [ht] at h
      split at h <;> rename_i e1 <;> first | (cases e1; done) | (cases h; done) | skip
      cases e1
      split at h
      ·rename_i k' n' hk
       obtain ⟨rfl, hw⟩ := hk
       exact ⟨[.int k' n'], .int ht hw, rfl, fun j h h' => by
        have : j = 0 := by simpa using h
        subst this; exact .int⟩
      ·cases h
   ·rename_i ht
    cases fuel with
    | zero => simp [DataW.trod] at h
    | succ n =>
      unfold DataW.trod at h
      rw [ht] at h
      split at h <;> rename_i e1 <;> first | (cases e1; done) | (cases h; done) | skip
      split at h
      ·rename_i s _
       cases h
       have := hb.str s.data.toList
       exact ⟨[.str s], .str ht (by have : s.data.toList.length = s.size := Array.length_toList
                                    omega), rfl, fun j h h' => by
        have : j = 0 := by simpa using h
        subst this; exact .str⟩
      ·cases h
   ·rename_i e ht
    simp only [Bool.and_eq_true, decide_eq_true_eq] at hp
    rw [ht] at hcov
    rcases Deep.open_slice ht h with ⟨rfl, hx⟩ | ⟨a, len, cap, mm, n, D, Pl, rfl, _, hlc, _, hmm, hx, hel⟩
    ·exact ⟨[.sl false (P.cellsOf e) []], .sl ht zS zS zS, rfl, fun j h h' => by
      have : j = 0 := by simpa using h
      subst this; exact .slnil⟩
    ·have hmm' : mm = cap := hmm
     subst hmm'
     cases hx
     have hD : ∀ i, i < len -> bk (D i) <= N := fun i hi => Nat.le_trans (hb.elem _ _ (D i) (List.mem_map.2 ⟨i, by simpa using hi, rfl⟩)) hbk
     have hsp : 0 < mm -> a.spot = none := fun h0 => by
      obtain ⟨cs', hc, _⟩ := hel 0 h0
      obtain ⟨_, hcl, hcc⟩ := World.cells?_some hc
      have := hcc 0 hp.1
      rw [List.getElem?_eq_getElem zO] at this
      have := a6Y this
      simpa [Addr.add] using this
     have hlen : len <= N := by
      have := hb.len ((List.range len).map D) ((List.range (mm - len)).map fun j => D (len + j))
      simp at this; omega
     have hE : ∀ i, i < len -> ∃ x : AV, Ty P N e x.cells /\ (((∃ fs, P.underlying e = some (.struct fs)) /\ ∃ cs, x = .agg cs) \/ ((∀ fs, P.underlying e ≠ some (.struct fs)) /\ x.cells = [x])) /\ x.cells.length = P.cellsOf e /\
       ∀ j (hj : j < x.cells.length), ∃ u, W.cell? ⟨a.block, a.off + i * P.cellsOf e + j, none⟩ = some u /\ VR pm L σ (x.cells[j]) u := by
      intro i hi
      obtain ⟨cs', hc, ht'⟩ := hel i zO
      obtain ⟨_, hcl, hcc⟩ := World.cells?_some hc
      obtain ⟨avs, h1, h2, h3⟩ := ih n e cs' (D i) (Pl i) ht' hp.2 hcov (hD i hi)
      have hsp := hsp zO
      have hcell : ∀ j (hj : j < cs'.length), W.cell? ⟨a.block, a.off + i * P.cellsOf e + j, none⟩ = some cs'[j] := by
       intro j hj
       have := hcc j zO
       rw [List.getElem?_eq_getElem hj] at this
       rw [<- this]
       obtain ⟨ab, ao, as⟩ := a
       simp at hsp
       subst hsp
       rw [Addr.add_lit, Addr.add_lit]
      by_cases hs : ∃ fs, P.underlying e = some (.struct fs)
      ·refine ⟨.agg avs, h1, .inl ⟨hs, _, rfl⟩, by show avs.length = _; omega, fun j hj => ?_⟩
       have hj' : j < avs.length := hj
       exact ⟨_, hcell j zO, h3 j hj' zO⟩
      ·have hn : ∀ fs, P.underlying e ≠ some (.struct fs) := fun fs e => hs ⟨fs, e⟩
       obtain ⟨v, rfl, hv⟩ := h1.one hn
       have hl1 : ([v] : List AV).length = cs'.length := h2
       refine ⟨v, by rw [hv]; exact h1, .inr ⟨hn, hv⟩, by rw [hv]; omega, fun j hj => ?_⟩
       have hj0 : j = 0 := by rw [hv] at hj; simpa using hj
       subst hj0
       refine ⟨_, hcell 0 (by simp at hl1; omega), ?_⟩
       have := h3 0 zS (by simp at hl1; omega)
       simp only [hv]; exact this
     obtain ⟨X, hX⟩ := Deep.choose_lt hE
     refine ⟨[.sl false (P.cellsOf e) ((List.range len).map X)], .sl ht (by simpa using hlen) (fun x hx => ?_) (fun x hx => ?_), rfl, fun j hj hj' => ?_⟩
     ·obtain ⟨i, hi, rfl⟩ := List.mem_map.1 hx
      exact (hX i (by simpa using hi)).1
     ·obtain ⟨i, hi, rfl⟩ := List.mem_map.1 hx
      exact (hX i (by simpa using hi)).2.1
     ·have : j = 0 := by simpa using hj
      subst this
      simp only [List.getElem_cons_zero]
      by_cases h0 : mm = 0
      ·have : len = 0 := by omega
       subst h0; subst this
       exact .slz
      ·have hsp := hsp zO
       obtain ⟨ab, ao, as⟩ := a
       simp at hsp
       subst hsp
       have hXl : ((List.range len).map X).length = len := by simp
       have := VR.sl (pm := pm) (L := L) (σ := σ) (ex := false) (sz := P.cellsOf e) (xs := (List.range len).map X) (b := ab) (o := ao) (cap := mm) (fun i j => (W.cell? ⟨ab, ao + i * P.cellsOf e + j, none⟩).getD undef)
        zO (by intro e; cases e) (fun i hi => by
         simp only [List.getElem_map, List.getElem_range]
         exact (hX i (by simpa using hi)).2.2.1) (fun i j hi hj => by
         obtain ⟨u, h1, h2⟩ := (hX i (by simpa using hi)).2.2.2 j (by rw [(hX i (by simpa using hi)).2.2.1]; exact hj)
         rw [h1]
         exact hpm _ _ _ h1) (fun i hi j hj => by
         simp only [List.getElem_map, List.getElem_range] at hj ⊢
         obtain ⟨u, h1, h2⟩ := (hX i (by simpa using hi)).2.2.2 j hj
         rw [h1]
         exact h2)
       rw [hXl] at this
       exact this
   ·rename_i fs ht
    rw [ht] at hcov
    simp only [List.all_eq_true, Bool.and_eq_true, decide_eq_true_eq, List.any_eq_true, List.mem_range] at hp hcov
    obtain ⟨xs, n, rfl, hx, hcl, hxl, hf⟩ := DataW.trod_struct ht h
    cases hx
    have hF : ∀ f ∈ fs.toList, ∃ avs, Ty P N f.type avs /\ avs.length = P.cellsOf f.type /\ ∀ j (h : j < avs.length) (h' : f.offset + j < cs.length), VR pm L σ (avs[j]) (cs[f.offset + j]) := by
     intro f hfm
     obtain ⟨i, hi, hif⟩ := List.getElem_of_mem hfm
     have hi' : i < fs.size := by simpa using hi
     have hfi : fs[i]? = some f := by rw [Array.getElem?_eq_getElem hi']; simpa using hif
     have h1 := hf i f hfi
     rw [List.getElem?_eq_getElem zO] at h1
     obtain ⟨avs, k1, k2, k3⟩ := ih n f.type _ _ (xs[i]).2 h1 (hp f hfm).1 (hcov.2 f hfm) (Nat.le_trans (hb.part _ _ (List.mem_map.2 ⟨xs[i], by simp, rfl⟩)) hbk)
     have hfit := (hp f hfm).2
     have hl : ((cs.drop f.offset).take (P.cellsOf f.type)).length = P.cellsOf f.type := by simp; omega
     refine ⟨avs, k1, by omega, fun j hj hj' => ?_⟩
     have := k3 j hj zO
     simpa using this
    obtain ⟨avs, k1, k2, k3⟩ := a5H (P := P) (R := fun k v => ∀ h : k < cs.length, VR pm L σ v (cs[k])) (Q := fun f avs => Ty P N f.type avs) fs.toList 0 hcov.1 (fun f hfm => by
     obtain ⟨a, q, hl, hr⟩ := hF f hfm
     exact ⟨a, q, hl, fun j h h' => hr j h h'⟩)
    refine ⟨avs, .struct ht zO (fun i f hfi => ?_), by omega, fun j h h' => by simpa using k3 j h zO⟩
    have := k2 f (by
     rw [<- Array.getElem?_toList] at hfi
     exact List.mem_of_getElem? hfi)
    simpa using this.2
   ·cases hp
end Go.Ab

/- From a law's evaluation to what the statement asks. -/
namespace Go.Ab
open Go.RowKit
variable {H : Type} {enc : TypeId × Value -> H} {P : Program} {W : World} {bk : DataW H -> Nat} {N : Nat}

def g00 (W : World) : Gh := { pm := fun b o => W.cell? ⟨b, o, none⟩, tm := fun _ _ => none, L := fun _ => ⟨0, 0, 0⟩, B0 := W.heap.size, w0 := W }

theorem b3K (W : World) (ht : b1H W.heap.size W) : WRel (g00 W) a6y W :=
 ⟨fun _ _ _ e => e, fun _ _ _ e => (by cases e), fun _ _ _ e => (by cases e), fun _ _ _ _ => rfl, Below.refl _ _, Nat.le_refl _, ht, fun _ _ _ e => (by cases e), fun _ _ _ _ _ _ e => (by cases e)⟩

def Arg (P : Program) (N : Nat) (t : TypeId) (x : AV) : Prop :=
 Ty P N t x.cells /\ (((∃ fs, P.underlying t = some (.struct fs)) /\ ∃ cs, x = .agg cs) \/ ((∀ fs, P.underlying t ≠ some (.struct fs)) /\ x.cells = [x]))

theorem b2Z (hb : c2t bk) {m : Nat} {r : Reach} {b0 : Nat} {t : TypeId} {v : Value} {d : DataW H} {ps : List MemPlace} (hval : Value.okWide P W r b0 t v) (h : DataW.Trod enc P W 0 (fun _ => true) true t v d ps)
  (hp : a3Y P m t = true) (hc : a4F P m t = true) (hbk : bk d <= N) : ∃ x, Arg P N t x /\ VR (g00 W).pm (g00 W).L a6y x v := by
 obtain ⟨fuel, h⟩ := h
 obtain ⟨avs, h1, h2, h3⟩ := b3J (pm := (g00 W).pm) (L := (g00 W).L) (σ := a6y) hb (fun b o v e => e) m fuel t _ d ps h hp hc hbk
 by_cases hs : ∃ fs, P.underlying t = some (.struct fs)
 ·obtain ⟨fs, ht⟩ := id hs
  unfold Value.okWide at hval
  rw [ht] at hval
  obtain ⟨cs, rfl, _, _⟩ := hval
  refine ⟨.agg avs, ⟨h1, .inl ⟨hs, avs, rfl⟩⟩, .agg (by simpa [Value.cells] using h2.symm) (fun j a b => ?_)⟩
  have := h3 j a (by simpa [Value.cells] using b)
  simpa [Value.cells] using this
 ·have hn : ∀ fs, P.underlying t ≠ some (.struct fs) := fun fs e => hs ⟨fs, e⟩
  obtain ⟨x, rfl, hx⟩ := h1.one hn
  have hv : v.cells.toList = [v] := by
   cases v <;> try rfl
   rename_i cs
   exfalso
   cases m with
   | zero => simp [a3Y] at hp
   | succ m =>
     simp only [a3Y] at hp
     unfold Value.okWide Cell.okWide Cell.ok at hval
     split at hp <;> rename_i ht <;> first | (rw [ht] at hval; simp at hval; done) | (exact hn _ ht) | (cases hp; done)
  refine ⟨x, ⟨by rw [hx]; exact h1, .inr ⟨hn, hx⟩⟩, ?_⟩
  have hl : 0 < v.cells.toList.length := by rw [hv]; simp
  have := h3 0 zS hl
  simpa [hv] using this

theorem b0m (ht : b1H W.heap.size W) {f : FuncId} {args : List AV} {r : AV} (h : p3 P f args r) {vals : Array Value} (hv : VRs (g00 W) a6y args vals) :
  Calls P f vals W fun e W' => (∃ u pm L, e = .returned u /\ VR pm L a6y r u) /\ Below W.heap.size W W' := by
 refine (h (g00 W) W vals (b3K W ht) hv).mono ?_
 rintro e w' ⟨u, g', rfl, a, b, c⟩
 refine ⟨⟨u, _, _, rfl, c⟩, ?_⟩
 have := b.low
 rw [a.B0, a.w0] at this
 exact this

theorem b2i (ht : b1H W.heap.size W) {f : FuncId} {args : List AV} (h : p3 P f args (.bool true)) {vals : Array Value} (hv : VRs (g00 W) a6y args vals) :
  Calls P f vals W fun e W' => e = .returned (.bool true) /\ Below W.heap.size W W' := by
 refine (b0m ht h hv).mono ?_
 rintro e w' ⟨⟨u, pm, L, rfl, c⟩, hb⟩
 cases c
 exact ⟨rfl, hb⟩

theorem b5N {g : Gh} {σ : Hp} {x : AV} {v : Value} (h : VR g.pm g.L σ x v) : VRs g σ [x] #[v] := ⟨rfl, fun j a b => by
 have : j = 0 := by simpa using a
 subst this; exact h⟩
theorem c6M {g : Gh} {σ : Hp} {x y : AV} {v u : Value} (h : VR g.pm g.L σ x v) (h' : VR g.pm g.L σ y u) : VRs g σ [x, y] #[v, u] := ⟨rfl, fun j a b => by
 match j, a with
 | 0, _ => exact h
 | 1, _ => exact h'⟩
theorem b0n {f : Func} {s : ChangeSpec} {W' : World} {args : Array Value} {ds gs : List (DataW H)} {before pa : List MemPlace} {fresh handsOn : Bool}
  (hW : DataW.Whole enc P f.params.toList s.vars false W args.toList ds gs before) (hvars : s.vars = []) (hgs : gs = [])
  (hres : (s.fn H (ds ++ gs)).results = [.lit (.bool true)]) (hargs : (s.fn H (ds ++ gs)).args = ds) (hvs : (s.fn H (ds ++ gs)).vars = [])
  {tb : TypeId} (htb : f.resultTypes = #[tb]) (hub : P.underlying tb = some .bool) (hb : Below W.heap.size W W') 
  (hk : DataW.TrodAll enc P W' 0 (fun b => decide (b < W.heap.size)) true f.params.toList args.toList ds pa) :
  s.post enc P f false fresh handsOn false W args (.bool true) W' := by
 refine ⟨ds, gs, before, [], pa, [], hW, ?_, ?_, ?_, hb.frame _, fun h => by cases h⟩
 ·rw [hres, htb]
  exact ⟨[], [], ⟨1, by unfold DataW.trod; rw [hub]; rfl⟩, rfl, rfl⟩
 ·rw [hargs]; exact hk
 ·rw [hvs, hvars]; rfl
end Go.Ab

/- Objects under other numbers: renaming; a contract on a small heap holds in a bigger one; freezing. -/
namespace Go.Ab
open Go.RowKit

structure Rn where
 qp : Nat -> Nat -> Nat -> Nat -> Nat -> Nat -> Prop
 qr : Nat -> Nat -> Nat -> Nat -> Option Nat -> Nat -> Nat -> Nat -> Prop
 qn : Nat -> Nat -> Prop

inductive RnV (R : Rn) : AV -> AV -> Prop
 | base {x y : AV} (hb : x.blw 0 = true) (h : AVw x y) : RnV R x y
 | junk (x) : RnV R x .junk
 | ptr {o ver off o' ver' off'} (h : R.qp o ver off o' ver' off') : RnV R (.ptr o ver off) (.ptr o' ver' off')
 | ref {o ver off n e o' ver' off'} (h : R.qr o ver off n e o' ver' off') : RnV R (.ref o ver off n e) (.ref o' ver' off' n e)
 | nil {o' ver' e} (h : R.qn o' ver') : RnV R .nils (.ref o' ver' 0 0 e)
 | ex {sz o' ver' e} (h : R.qn o' ver') : RnV R (.sl true sz []) (.ref o' ver' 0 0 e)
 | agg {xs ys : List AV} (hl : xs.length = ys.length) (h : ∀ j (h1 : j < xs.length) (h2 : j < ys.length), RnV R xs[j] ys[j]) : RnV R (.agg xs) (.agg ys)
 | tup {xs ys : List AV} (hl : xs.length = ys.length) (h : ∀ j (h1 : j < xs.length) (h2 : j < ys.length), RnV R xs[j] ys[j]) : RnV R (.tup xs) (.tup ys)
 | iface {t x y} (h : RnV R x y) : RnV R (.iface t x) (.iface t y)
 | fn {f} {xs ys xs' ys' : List AV} (hl : xs.length = ys.length) (h : ∀ j (h1 : j < xs.length) (h2 : j < ys.length), RnV R xs[j] ys[j])
   (hl' : xs'.length = ys'.length) (h' : ∀ j (h1 : j < xs'.length) (h2 : j < ys'.length), RnV R xs'[j] ys'[j]) : RnV R (.fn f xs xs') (.fn f ys ys')

structure c2a (R : Rn) (pm pm' : Pm) (L L' : Nat -> Loc) (σ σ' : Hp) : Prop where
 pm : ∀ b o v, pm b o = some v -> pm' b o = some v
 p : ∀ o ver off o' ver' off' a, R.qp o ver off o' ver' off' -> a0Q L σ o ver off a -> a0Q L' σ' o' ver' off' a
 r : ∀ o ver off n e o' ver' off' a cap, R.qr o ver off n e o' ver' off' -> a0p L σ o ver off n (d9 e) a cap -> a0p L' σ' o' ver' off' n (d9 e) a cap
 rn : ∀ o ver off e o' ver' off', R.qr o ver off 0 e o' ver' off' -> a2I σ' o' ver'
 n : ∀ o' ver', R.qn o' ver' -> a2I σ' o' ver'

theorem VR.pmle {pm pm' : Pm} {L σ} (h : ∀ b o v, pm b o = some v -> pm' b o = some v) {x u} (k : VR pm L σ x u) : VR pm' L σ x u :=
 k.mono ⟨h, fun _ => u0.refl _ _⟩

theorem VR.rn {R : Rn} {pm pm' L L' σ σ'} (ok : c2a R pm pm' L L' σ σ') {x y : AV} {u : Value} (k : RnV R x y) (h : VR pm L σ x u) : VR pm' L' σ' y u := by
 induction k generalizing u with
 | base hb hw => exact ((h.agree hb (fun o ho => by omega)).pmle ok.pm).w hw
 | junk => exact .junk
 | ptr hq => cases h with | ptr hp => exact .ptr (ok.p _ _ _ _ _ _ _ hq hp)
 | ref hq =>
   cases h with
   | ref hn hs hr => exact .ref hn hs (ok.r _ _ _ _ _ _ _ _ _ _ hq hr)
   | refnil _ => exact .refnil (ok.rn _ _ _ _ _ _ _ hq)
 | nil hq => cases h; exact .refnil (ok.n _ _ hq)
 | ex hq =>
   cases h with
   | slnil => exact .refnil (ok.n _ _ hq)
   | slz => exact .refnil (ok.n _ _ hq)
   | sl us hc hex hz hp hv =>
     have := hex rfl
     simp at this
     subst this
     exact .refnil (ok.n _ _ hq)
 | agg hl _ ih => cases h with | agg a b => exact .agg zO (fun j h1 h2 => ih j zO h1 (b j zO h2))
 | tup hl _ ih => cases h with | tup a b => exact .tup zO (fun j h1 h2 => ih j zO h1 (b j zO h2))
 | iface _ ih => cases h with | iface h => exact .iface (ih h)
 | fn hl _ hl' _ ih ih' => cases h with | fn a b c d => exact .fn zO zO (fun j h1 h2 => ih j zO h1 (c j zO h2)) (fun j h1 h2 => ih' j zO h1 (d j zO h2))

def RnL (R : Rn) (k : Nat) (cs cs' : List AV) : Prop := k + cs'.length <= cs.length /\ ∀ j (h : k + j < cs.length) (h' : j < cs'.length), RnV R cs[k + j] cs'[j]

theorem RnL.refl {R} {cs : List AV} (h : a0S 0 cs = true) : RnL R 0 cs cs := ⟨by simp, fun j h1 h2 => by
 simp only [Nat.zero_add]
 exact .base (z6 h j h2) (.refl _)⟩
theorem RnL.nil {R} {cs : List AV} {k} (h : k <= cs.length) : RnL R k cs [] := ⟨by simpa using h, fun j h1 h2 => by simp at h2⟩
theorem RnL.cons {R} {x y : AV} {xs ys : List AV} (h : RnV R x y) (k : RnL R 0 xs ys) : RnL R 0 (x :: xs) (y :: ys) :=
 ⟨by have := k.1; simp at this ⊢; omega, fun j h1 h2 => by
  cases j with
  | zero => simpa using h
  | succ j =>
    have := k.2 j (by simp at h1; omega) (by simpa using h2)
    simpa [show 0 + (j + 1) = (0 + j) + 1 by omega] using this⟩
theorem RnL.mid {R} {cs cs' : List AV} {k : Nat} (hb : a0S 0 cs = true) (h : k + cs'.length <= cs.length) (e : cs' = (cs.drop k).take cs'.length) : RnL R k cs cs' :=
 ⟨h, fun j h1 h2 => by
  have : cs'[j] = cs[k + j] := by
   have h3 : cs'[j]? = ((cs.drop k).take cs'.length)[j]? := by rw [<- e]
   rw [List.getElem?_eq_getElem h2, List.getElem?_take, if_pos h2, List.getElem?_drop, List.getElem?_eq_getElem h1] at h3
   exact Option.some.inj h3
  rw [this]
  exact .base (z6 hb _ h1) (.refl _)⟩

abbrev a9t := List (Option (Nat × Nat))
def a3g (M : a9t) (o : Nat) : Option (Nat × Nat) := match M[o]? with | some x => x | none => none

def wkR (M : a9t) (S S' : List Ob) : Rn where
 qp o ver off o' ver' off' := ∃ k cs cs', a3g M o' = some (o, k) /\ hp S o = .arr ver cs /\ hp S' o' = .arr ver' cs' /\ off = k + off'
 qr o ver off n e o' ver' off' := ∃ k cs cs', a3g M o' = some (o, k) /\ hp S o = .arr ver cs /\ hp S' o' = .arr ver' cs' /\ off = k + off' /\ off' + n * d9 e <= cs'.length
 qn o' ver' := ∃ cs', hp S' o' = .arr ver' cs'

def a6Z (Q : Nat -> Ob -> Prop) : Nat -> List Ob -> Prop
 | _, [] => True
 | i, x :: r => Q i x /\ a6Z Q (i + 1) r

theorem a2q {Q : Nat -> Ob -> Prop} : ∀ {l : List Ob} {i : Nat}, a6Z Q i l -> ∀ j (h : j < l.length), Q (i + j) l[j]
 | [], _, _, j, h => by simp at h
 | x :: r, i, h, 0, _ => h.1
 | x :: r, i, h, j + 1, hj => by
   have := a2q h.2 j (by simpa using hj)
   simpa [show i + (j + 1) = i + 1 + j by omega] using this

def a9u (M : a9t) (S0 S S' : List Ob) (o' : Nat) (x : Ob) : Prop :=
 match x with
 | .arr v' cs' => match a3g M o' with
   | some (o, k) => (∃ v cs, hp S o = .arr v cs /\ RnL (wkR M S S') k cs cs' /\ (o' < S0.length -> (o = o' /\ (v < v' \/ (v = v' /\ k = 0 /\ cs'.length = cs.length))) \/ ∃ v0 c0, hp S0 o' = .arr v0 c0 /\ v0 < v'))
   | none => cs' = [] /\ S0.length <= o'
 | .dead v' => o' < S0.length -> ∃ v, v <= v' /\ ((∃ cs, hp S o' = .arr v cs) \/ hp S o' = .dead v)
 | .virgin => o' < S0.length -> hp S o' = .virgin

def b0o (M : a9t) : Bool := ((M.filterMap id).map (·.1)).Nodup

theorem b2j : ∀ {M : a9t}, b0o M = true -> ∀ {i j o k k'}, a3g M i = some (o, k) -> a3g M j = some (o, k') -> i = j := by
 intro M h
 simp only [b0o, decide_eq_true_eq] at h
 induction M with
 | nil => intro i j o k k' h1; simp [a3g] at h1
 | cons x M ih =>
   have hmem : ∀ {i o k}, a3g M i = some (o, k) -> o ∈ (M.filterMap id).map (·.1) := by
    intro i o k h1
    simp only [a3g] at h1
    split at h1
    ·rename_i y hy
     subst h1
     exact List.mem_map.2 ⟨(o, k), List.mem_filterMap.2 ⟨some (o, k), List.mem_of_getElem? hy, rfl⟩, rfl⟩
    ·cases h1
   have hM : ((M.filterMap id).map (·.1)).Nodup := by
    cases x with
    | none => simpa using h
    | some p => simp only [List.filterMap_cons, id, List.map_cons, List.nodup_cons] at h; exact h.2
   intro i j o k k' h1 h2
   have hs : ∀ i, a3g (x :: M) (i + 1) = a3g M i := fun i => by simp [a3g]
   have h0 : a3g (x :: M) 0 = x := by simp [a3g]
   cases i with
   | zero =>
     cases j with
     | zero => rfl
     | succ j =>
       rw [h0] at h1; rw [hs] at h2
       subst h1
       simp only [List.filterMap_cons, id, List.map_cons, List.nodup_cons] at h
       exact (h.1 (hmem h2)).elim
   | succ i =>
     cases j with
     | zero =>
       rw [h0] at h2; rw [hs] at h1
       subst h2
       simp only [List.filterMap_cons, id, List.map_cons, List.nodup_cons] at h
       exact (h.1 (hmem h1)).elim
     | succ j =>
       rw [hs] at h1 h2
       exact congrArg _ (ih hM h1 h2)

def rnF (R : Rn) (fr : Fr) : Fr -> Prop
 | [] => True
 | (t, v) :: r => RnV R (Fr.get fr t) v /\ rnF R fr r

theorem b0p {R} {fr : Fr} : ∀ {fr' : Fr}, rnF R fr fr' -> ∀ t, RnV R (Fr.get fr t) (Fr.get fr' t)
 | [], _, t => .junk _
 | (t', v) :: r, h, t => by
   rw [get_cons]
   split
   ·rename_i e; subst e; exact h.1
   ·exact b0p h.2 t

theorem a5o {S : List Ob} {o ver cs} (h : hp S o = .arr ver cs) : o < S.length := by
 rcases Nat.lt_or_ge o S.length with h' | h'
 ·exact h'
 ·rw [b2h h'] at h; cases h

theorem a8u {S : List Ob} {o : Nat} (h : o < S.length) : hp S o = S[o] := by
 simp [hp, List.getD_eq_getElem?_getD, h]

def GWk (S0 S S' : List Ob) (R : AV -> AV -> Prop) : Prop :=
 ∀ g0 g w, Gh.le g0 (hp S0) g (hp S) -> WRel g (hp S) w -> ∃ g', Gh.le g0 (hp S0) g' (hp S') /\ WRel g' (hp S') w /\ ∀ x y u, R x y -> VR g.pm g.L (hp S) x u -> VR g'.pm g'.L (hp S') y u

theorem GWk.wk {S0 S S' : List Ob} {R : AV -> AV -> Prop} {fr fr' : Fr} (h : GWk S0 S S' R) (hf : ∀ t, R (Fr.get fr t) (Fr.get fr' t)) : Wk S0 fr S fr' S' := by
 intro g0 n a w hat
 obtain ⟨h0, g, h1, h2, h3⟩ := hat
 obtain ⟨g', k1, k2, k3⟩ := h g0 g w h1 h2
 exact ⟨h0, g', k1, k2, h3.size, fun t => k3 _ _ _ (hf t) (h3.get t)⟩

theorem GWk.trans {S0 S S' S'' : List Ob} {R R' : AV -> AV -> Prop} (h : GWk S0 S S' R) (k : GWk S0 S' S'' R') : GWk S0 S S'' (fun x z => ∃ y, R x y /\ R' y z) := by
 intro g0 g w h1 h2
 obtain ⟨g', a, b, c⟩ := h g0 g w h1 h2
 obtain ⟨g'', a', b', c'⟩ := k g0 g' w a b
 exact ⟨g'', a', b', fun x z u ⟨y, r, r'⟩ hv => c' _ _ _ r' (c _ _ _ r hv)⟩

theorem GWk.refl {S0 S : List Ob} : GWk S0 S S AVw := fun g0 g w h1 h2 => ⟨g, h1, h2, fun x y u r hv => hv.w r⟩

theorem a1q {S0 S S' : List Ob} (M : a9t) (hi : b0o M = true) (hm : S0.length <= S'.length) (hob : a6Z (a9u M S0 S S') 0 S') : GWk S0 S S' (RnV (wkR M S S')) := by
 intro g0 g w h1 h2
 have hO : ∀ o' v' cs', hp S' o' = .arr v' cs' -> a9u M S0 S S' o' (.arr v' cs') := fun o' v' cs' e => by
  have hlt := a5o e
  have := a2q hob o' hlt
  rw [a8u hlt] at e
  rw [e, Nat.zero_add] at this
  exact this
 let L' : Nat -> Loc := fun o' => match a3g M o' with | some (o, k) => ⟨(g.L o).b, (g.L o).off + k, (g.L o).cap - k⟩ | none => ⟨g.B0, 0, 0⟩
 have hL : ∀ o' o k, a3g M o' = some (o, k) -> L' o' = ⟨(g.L o).b, (g.L o).off + k, (g.L o).cap - k⟩ := fun o' o k e => by simp only [L', e]
 have hLn : ∀ o', a3g M o' = none -> L' o' = ⟨g.B0, 0, 0⟩ := fun o' e => by simp only [L', e]
 have ok : c2a (wkR M S S') g.pm g.pm g.L L' (hp S) (hp S') := by
  refine ⟨fun _ _ _ h => h, ?_, ?_, ?_, ?_⟩
  ·rintro o ver off o' ver' off' a ⟨k, cs, cs', e1, e2, e3, rfl⟩ hp
   unfold a0Q at hp ⊢
   rw [e2] at hp; rw [e3, hL _ _ _ e1]
   have := hp.2 rfl
   exact ⟨Nat.le_refl _, fun _ => by rw [this]; simp only [Nat.add_assoc]⟩
  ·rintro o ver off n e o' ver' off' a cap ⟨k, cs, cs', e1, e2, e3, rfl, e5⟩ hr
   unfold a0p at hr ⊢
   rw [e2] at hr; rw [e3, hL _ _ _ e1]
   obtain ⟨r1, r2, r3, r4⟩ := hr.2 rfl
   exact ⟨Nat.le_refl _, fun _ => ⟨by rw [r1]; simp only [Nat.add_assoc], e5, r3, by simp only; omega⟩⟩
  ·rintro o ver off e o' ver' off' ⟨k, cs, cs', e1, e2, e3, _⟩
   unfold a2I; rw [e3]; exact Nat.le_refl _
  ·rintro o' ver' ⟨cs', e⟩
   unfold a2I; rw [e]; exact Nat.le_refl _
 refine ⟨{ g with L := L' }, ⟨⟨h1.ext.pm, fun o => ?_⟩, h1.tm, h1.B0, h1.w0⟩, ⟨h2.pm, h2.tm, h2.tmf, h2.disj, h2.low, h2.B0, h2.tab, fun o' v' cs' e => ?_, fun i j v1 v2 c1 c2 e1 e2 hne => ?_⟩, fun x y u r hv => hv.rn ok r⟩
 ·by_cases ho : o < S0.length
  ·have hx := a2q hob o zO
   rw [Nat.zero_add] at hx
   rw [a8u (S := S') zO]
   have tr : u0 (hp S o) (g.L o) S'[o] (L' o) -> u0 (hp S0 o) (g0.L o) S'[o] (L' o) := (h1.ext.ob o).trans
   generalize S'[o] = x at hx tr
   cases x with
   | virgin => refine tr ?_; rw [hx ho]; exact trivial
   | dead v' =>
     refine tr ?_
     obtain ⟨v, hv, ⟨cs, e⟩ | e⟩ := hx ho <;> rw [e] <;> exact hv
   | arr v' cs' =>
     simp only [a9u] at hx
     split at hx
     ·rename_i o1 k1 e1
      obtain ⟨v, cs, e2, e3, e4⟩ := hx
      rcases e4 ho with ⟨e6, e5⟩ | ⟨v0, c0, e7, e8⟩
      case inr => rw [e7]; exact .inl e8
      clear e4
      refine tr ?_
      subst e6
      rw [e2, hL _ _ _ e1]
      rcases e5 with e4 | ⟨rfl, rfl, e5⟩
      ·exact .inl e4
      ·exact .inr ⟨rfl, by simp, e5⟩
     ·omega
  ·rw [b2h (S := S0) zO]; exact trivial
 ·have hx := hO _ _ _ e
  simp only [a9u] at hx
  show c1S _ _ _ _ _
  split at hx
  ·rename_i o k e1
   obtain ⟨v, cs, e2, e3, _⟩ := hx
   have q := h2.ob o v cs e2
   have ql := q.len
   have e31 := e3.1
   refine ⟨?_, ?_, fun j hj => ?_, fun j hj => ?_, fun j hj => ?_, fun j hj => ?_⟩ <;> simp only [hL _ _ _ e1] at *
   ·exact fun hc => q.low zO
   ·omega
   ·obtain ⟨u, hu, hv⟩ := q.there (k + j) zO
    refine ⟨u, by rw [Nat.add_assoc]; exact hu, fun hj' => ?_⟩
    exact (hv zO).rn ok (e3.2 j zO hj')
   ·rw [Nat.add_assoc]; exact q.free _ zO
   ·rw [Nat.add_assoc]; exact q.pm _ zO
   ·rw [Nat.add_assoc]; exact q.tm _ zO
  ·rename_i e1
   obtain ⟨rfl, _⟩ := hx
   refine ⟨?_, ?_, fun j hj => ?_, fun j hj => ?_, fun j hj => ?_, fun j hj => ?_⟩ <;> simp only [hLn _ e1] at *
   ·exact fun _ => Nat.le_refl _
   ·simp
   all_goals omega
 ·show b1I (L' i) (L' j)
  have hxi := hO _ _ _ e1
  have hxj := hO _ _ _ e2
  simp only [a9u] at hxi hxj
  split at hxi
  ·rename_i o k m1
   obtain ⟨v, cs, a2, a3, _⟩ := hxi
   split at hxj
   ·rename_i o2 k2 m2
    obtain ⟨v2, cs2, b2, b3, _⟩ := hxj
    have hno : o ≠ o2 := fun h => by subst h; exact hne (b2j hi m1 m2)
    rw [hL _ _ _ m1, hL _ _ _ m2]
    intro hb x y hx hy he
    simp only at hb hx hy he
    exact h2.sep o o2 _ _ _ _ a2 b2 hno hb (k + x) (k2 + y) zO zO zO
   ·rename_i m2
    rw [hLn _ m2]
    intro _ x y _ hy; simp at hy
  ·rename_i m1
   rw [hLn _ m1]
   intro _ x y hx; simp at hx

theorem l6 {S0 S S' : List Ob} {fr fr' : Fr} (M : a9t) (hi : b0o M = true) (hm : S0.length <= S'.length) (hob : a6Z (a9u M S0 S S') 0 S') (hfr : rnF (wkR M S S') fr fr') : Wk S0 fr S fr' S' :=
 (a1q M hi hm hob).wk (b0p hfr)
def frI (M : List Nat) (T S : List Ob) : Rn where
 qp O V off o v off' := o < T.length /\ M.getD o 0 = O /\ (∃ CS, hp S O = .arr V CS) /\ (∃ cs, hp T o = .arr v cs) /\ off = off'
 qr O V off _ _ o v off' := o < T.length /\ M.getD o 0 = O /\ (∃ CS, hp S O = .arr V CS) /\ (∃ cs, hp T o = .arr v cs) /\ off = off'
 qn _ _ := False

def frN (M : List Nat) (T S : List Ob) (o : Nat) : Nat := if o < T.length then M.getD o 0 else S.length + (o - T.length)

def frO (M : List Nat) (T T' S S' : List Ob) : Rn where
 qp o v off O V off' := o < T'.length /\ frN M T S o = O /\ (∃ cs, hp T' o = .arr v cs) /\ (∃ CS, hp S' O = .arr V CS) /\ off = off'
 qr o v off _ _ O V off' := o < T'.length /\ frN M T S o = O /\ (∃ cs, hp T' o = .arr v cs) /\ (∃ CS, hp S' O = .arr V CS) /\ off = off'
 qn _ _ := False

def c2u (M : List Nat) (T S : List Ob) (o : Nat) (x : Ob) : Prop :=
 ∃ v cs V CS, x = .arr v cs /\ hp S (M.getD o 0) = .arr V CS /\ CS.length = cs.length /\ RnL (frI M T S) 0 CS cs

def a9c (M : List Nat) (T T' S S' : List Ob) (o : Nat) (x : Ob) : Prop :=
 match x with
 | .arr v' cs' => ∃ V' CS', hp S' (frN M T S o) = .arr V' CS' /\ CS'.length = cs'.length /\ RnL (frO M T T' S S') 0 cs' CS' /\
   (o < T.length -> ∀ v cs V CS, hp T o = .arr v cs -> hp S (M.getD o 0) = .arr V CS -> (v' = v /\ V' = V) \/ V < V')
 | .dead _ => ∃ V', hp S' (frN M T S o) = .dead V' /\ (o < T.length -> ∀ V CS, hp S (M.getD o 0) = .arr V CS -> V <= V')
 | .virgin => hp S' (frN M T S o) = .virgin

theorem Ev.frame {P f} {T T' S S' : List Ob} {as as' : List AV} {r r' : AV} (h : Ev P f as (hp T) r (hp T')) (M : List Nat) (hM : M.length = T.length) (inj : M.Nodup)
  (hT : T.length <= T'.length) (hS : S'.length = S.length + (T'.length - T.length)) (hin : a6Z (c2u M T S) 0 T) (hout : a6Z (a9c M T T' S S') 0 T')
  (hoth : ∀ i, i < S.length -> i ∉ M -> hp S' i = hp S i) (hal : as'.length = as.length) (ha : RnL (frI M T S) 0 as' as) (hr : RnV (frO M T T' S S') r r') : Ev P f as' (hp S) r' (hp S') := by
 intro g w vals hw hv
 classical
 have hMg : ∀ o, o < T.length -> M.getD o 0 ∈ M := fun o ho => by
  rw [List.getD_eq_getElem?_getD, List.getElem?_eq_getElem zO]; exact List.getElem_mem _
 have hI : ∀ o, o < T.length -> ∃ v cs V CS, hp T o = .arr v cs /\ hp S (M.getD o 0) = .arr V CS /\ CS.length = cs.length /\ RnL (frI M T S) 0 CS cs := fun o ho => by
  obtain ⟨v, cs, V, CS, e1, e2, e3, e4⟩ := a2q hin o ho
  rw [Nat.zero_add] at e2
  exact ⟨v, cs, V, CS, by rw [a8u ho]; exact e1, e2, e3, e4⟩
 have hO : ∀ o, o < T'.length -> a9c M T T' S S' o (hp T' o) := fun o ho => by
  have := a2q hout o ho
  rw [a8u ho]
  rw [Nat.zero_add] at this
  exact this
 have hMS : ∀ i ∈ M, i < S.length := fun i hi => by
  obtain ⟨o, ho, rfl⟩ := List.getElem_of_mem hi
  obtain ⟨v, cs, V, CS, _, e2, _⟩ := hI o zO
  rw [List.getD_eq_getElem?_getD, List.getElem?_eq_getElem ho] at e2
  exact a5o e2
 have hMinj : ∀ o o', o < T.length -> o' < T.length -> M.getD o 0 = M.getD o' 0 -> o = o' := fun o o' h1 h2 e => by
  simp only [List.getD_eq_getElem?_getD] at e
  rw [List.getElem?_eq_getElem zO, List.getElem?_eq_getElem zO] at e
  simp only [Option.getD_some] at e
  have h1' := List.Nodup.idxOf_getElem inj o zO
  have h2' := List.Nodup.idxOf_getElem inj o' zO
  rw [e, h2'] at h1'
  exact h1'.symm
 let owned : Nat -> Nat -> Prop := fun b o => ∃ i ver cs, i ∉ M /\ hp S i = .arr ver cs /\ (g.L i).b = b /\ ∃ j, j < (g.L i).cap /\ (g.L i).off + j = o
 let gE : Gh := { g with tm := fun b o => if owned b o then w.cell? ⟨b, o, none⟩ else g.tm b o, L := fun o => g.L (M.getD o 0) }
 have okI : c2a (frI M T S) g.pm gE.pm g.L gE.L (hp S) (hp T) := by
  refine ⟨fun _ _ _ h => h, ?_, ?_, ?_, fun _ _ h => h.elim⟩
  ·rintro O V off o v off' a ⟨h1, rfl, ⟨CS, e1⟩, ⟨cs, e2⟩, rfl⟩ hp
   unfold a0Q at hp ⊢
   rw [e1] at hp; rw [e2]
   exact ⟨Nat.le_refl _, fun _ => hp.2 rfl⟩
  ·rintro O V off n e o v off' a cap ⟨h1, rfl, ⟨CS, e1⟩, ⟨cs, e2⟩, rfl⟩ hp
   unfold a0p at hp ⊢
   rw [e1] at hp; rw [e2]
   obtain ⟨r1, r2, r3, r4⟩ := hp.2 rfl
   obtain ⟨v1, cs1, V1, CS1, q1, q2, q3, _⟩ := hI o h1
   rw [e1] at q2; cases q2
   rw [e2] at q1; cases q1
   exact ⟨Nat.le_refl _, fun _ => ⟨r1, by omega, r3, r4⟩⟩
  ·rintro O V off e o v off' ⟨h1, rfl, ⟨CS, e1⟩, ⟨cs, e2⟩, rfl⟩
   unfold a2I; rw [e2]; exact Nat.le_refl _
 have hnotown : ∀ i ver cs, i ∈ M -> hp S i = .arr ver cs -> ∀ j, j < (g.L i).cap -> ¬ owned (g.L i).b ((g.L i).off + j) := by
  rintro i ver cs hi e j hj ⟨i', v', c', h1, h2, h3, j', hj', h4⟩
  exact hw.sep i' i _ _ _ _ h2 e (fun h => by subst h; exact h1 hi) h3 j' j hj' hj h4
 have hwE : WRel gE (hp T) w := by
  refine ⟨hw.pm, fun b o v e => ?_, fun b o v e => ?_, fun b o v e => ?_, hw.low, hw.B0, hw.tab, fun o ver cs e => ?_, fun o o' v v' c c' e e' hne => ?_⟩
  ·by_cases ho : owned b o
   ·simpa [gE, ho] using e
   ·exact hw.tm _ _ _ (by simpa [gE, ho] using e)
  ·by_cases ho : owned b o
   ·obtain ⟨i, ver, cs, _, e1, rfl, j, hj, rfl⟩ := ho
    exact (hw.ob i ver cs e1).free j hj
   ·exact hw.tmf _ _ _ (by simpa [gE, ho] using e)
  ·have ho : ¬ owned b o := by
    rintro ⟨i, ver, cs, _, e1, rfl, j, hj, rfl⟩
    have := (hw.ob i ver cs e1).pm j hj
    rw [show gE.pm = g.pm from rfl] at e
    rw [this] at e; cases e
   simpa [gE, ho] using hw.disj b o v e
  ·have ho := a5o e
   obtain ⟨v, cs1, V, CS, e1, e2, e3, e4⟩ := hI o ho
   rw [e] at e1; cases e1
   have k := hw.ob _ _ _ e2
   refine ⟨k.low, by have := k.len; show _ <= (g.L (M.getD o 0)).cap; omega, fun j hj => ?_, k.free, k.pm, fun j hj => ?_⟩
   ·obtain ⟨u, hu, hvr⟩ := k.there j hj
    refine ⟨u, hu, fun hj' => ?_⟩
    have := e4.2 j zO hj'
    simp only [Nat.zero_add] at this
    exact (hvr zO).rn okI this
   ·have := hnotown _ _ _ (hMg o ho) e2 j hj
    show (if owned _ _ then _ else _) = _
    rw [if_neg this]
    exact k.tm j hj
  ·have ho := a5o e
   have ho' := a5o e'
   obtain ⟨_, _, _, _, _, e2, _⟩ := hI o ho
   obtain ⟨_, _, _, _, _, e4, _⟩ := hI o' ho'
   exact hw.sep _ _ _ _ _ _ e2 e4 (fun h => hne (hMinj _ _ ho ho' h))
 refine (h gE w vals hwE ⟨by rw [hv.1, hal], fun j a b => ?_⟩).mono ?_
 ·have := ha.2 j zO a
  simp only [Nat.zero_add] at this
  exact (hv.2 j zO b).rn okI this
 rintro e w' ⟨u, g', rfl, hle, hw', hu⟩
 let L2 : Nat -> Loc := fun i => if i ∈ M then g'.L (M.idxOf i) else if i < S.length then g.L i else g'.L (T.length + (i - S.length))
 have hL2 : ∀ o, L2 (frN M T S o) = g'.L o := fun o => by
  unfold frN
  split
  ·rename_i ho
   simp only [L2]
   rw [if_pos (hMg o ho)]
   congr 1
   rw [List.getD_eq_getElem?_getD, List.getElem?_eq_getElem zO]
   exact List.Nodup.idxOf_getElem inj o zO
  ·rename_i ho
   simp only [L2]
   rw [if_neg (fun hh => by have := hMS _ hh; omega), if_neg zO]
   congr 1; omega
 have hN : ∀ i, i < S'.length -> (∃ o, o < T'.length /\ frN M T S o = i) \/ (i ∉ M /\ i < S.length) := fun i hi => by
  by_cases hm : i ∈ M
  ·left
   obtain ⟨o, ho, rfl⟩ := List.getElem_of_mem hm
   refine ⟨o, by omega, ?_⟩
   unfold frN
   rw [if_pos zO, List.getD_eq_getElem?_getD, List.getElem?_eq_getElem ho]; rfl
  ·by_cases hs : i < S.length
   ·exact .inr ⟨hm, hs⟩
   ·left
    refine ⟨T.length + (i - S.length), by omega, ?_⟩
    unfold frN
    rw [if_neg zO]; omega
 let g2 : Gh := { g with pm := g'.pm, L := L2 }
 have hpm : ∀ b o v, g.pm b o = some v -> g'.pm b o = some v := hle.ext.pm
 have htm : ∀ b o, g'.tm b o = gE.tm b o := fun b o => by rw [hle.tm]
 have okO : c2a (frO M T T' S S') g'.pm g2.pm g'.L g2.L (hp T') (hp S') := by
  refine ⟨fun _ _ _ h => h, ?_, ?_, ?_, fun _ _ h => h.elim⟩
  ·rintro o v off O V off' a ⟨h1, rfl, ⟨cs, e1⟩, ⟨CS, e2⟩, rfl⟩ hp
   unfold a0Q at hp ⊢
   rw [e1] at hp; rw [e2, show g2.L = L2 from rfl, hL2]
   exact ⟨Nat.le_refl _, fun _ => hp.2 rfl⟩
  ·rintro o v off n e O V off' a cap ⟨h1, rfl, ⟨cs, e1⟩, ⟨CS, e2⟩, rfl⟩ hp
   unfold a0p at hp ⊢
   rw [e1] at hp; rw [e2, show g2.L = L2 from rfl, hL2]
   obtain ⟨r1, r2, r3, r4⟩ := hp.2 rfl
   have q := hO o h1
   rw [e1] at q
   obtain ⟨V', CS', q1, q2, _⟩ := q
   rw [e2] at q1; cases q1
   exact ⟨Nat.le_refl _, fun _ => ⟨r1, by omega, r3, r4⟩⟩
  ·rintro o v off e O V off' ⟨h1, rfl, ⟨cs, e1⟩, ⟨CS, e2⟩, rfl⟩
   unfold a2I; rw [e2]; exact Nat.le_refl _
 have hext : Ext g.pm g.L (hp S) g2.pm g2.L (hp S') := by
  refine ⟨hpm, fun i => ?_⟩
  by_cases hi : i < S.length
  ·by_cases hm : i ∈ M
   ·obtain ⟨o, ho, rfl⟩ := List.getElem_of_mem hm
    have hoT : o < T.length := by omega
    have hMo : M.getD o 0 = M[o] := by rw [List.getD_eq_getElem?_getD, List.getElem?_eq_getElem ho]; rfl
    have hfo : frN M T S o = M[o] := by unfold frN; rw [if_pos hoT, hMo]
    obtain ⟨v, cs, V, CS, e1, e2, e3, e4⟩ := hI o hoT
    have k := hle.ext.ob o
    rw [e1] at k
    have q := hO o zO
    rw [<- hfo, show g2.L = L2 from rfl, hL2, hfo]
    rw [hMo] at e2
    rw [e2]
    have hLe : gE.L o = g.L M[o] := by show g.L (M.getD o 0) = _; rw [hMo]
    rw [hLe] at k
    cases ht : hp T' o with
    | virgin => rw [ht] at k; exact k.elim
    | dead v' =>
      rw [ht] at q
      obtain ⟨V', q1, q2⟩ := q
      rw [hfo] at q1
      rw [q1]
      exact q2 hoT V CS (by rw [hMo]; exact e2)
    | arr v' cs' =>
      rw [ht] at q k
      obtain ⟨V', CS', q1, q2, q3, q4⟩ := q
      rw [hfo] at q1
      rw [q1]
      rcases q4 hoT v cs V CS e1 (by rw [hMo]; exact e2) with ⟨rfl, rfl⟩ | q5
      ·rcases k with k | ⟨_, k2, k3⟩
       ·omega
       ·exact .inr ⟨rfl, k2, by omega⟩
      ·exact .inl q5
   ·rw [hoth i hi hm]
    have : g2.L i = g.L i := by show L2 i = _; simp only [L2]; rw [if_neg hm, if_pos hi]
    rw [this]
    exact u0.refl _ _
  ·rw [b2h (S := S) zO]; exact trivial
 have hobA : ∀ o, o < T'.length -> ∀ V' CS', hp S' (frN M T S o) = .arr V' CS' -> ∃ v' cs', hp T' o = .arr v' cs' /\ CS'.length = cs'.length /\ RnL (frO M T T' S S') 0 cs' CS' := fun o ho V' CS' e => by
  have q := hO o ho
  cases ht : hp T' o with
  | virgin => rw [ht] at q; rw [show hp S' (frN M T S o) = .virgin from q] at e; cases e
  | dead v' => rw [ht] at q; obtain ⟨V2, q1, _⟩ := q; rw [q1] at e; cases e
  | arr v' cs' =>
    rw [ht] at q
    obtain ⟨V2, CS2, q1, q2, q3, _⟩ := q
    rw [q1] at e; cases e
    exact ⟨v', cs', rfl, q2, q3⟩
 have htmA : ∀ o v' cs', hp T' o = .arr v' cs' -> ∀ j, j < (g'.L o).cap -> ¬ owned (g'.L o).b ((g'.L o).off + j) /\ g.tm (g'.L o).b ((g'.L o).off + j) = none := fun o v' cs' e j hj => by
  have k := (hw'.ob o v' cs' e).tm j hj
  rw [htm] at k
  have k' : (if owned (g'.L o).b ((g'.L o).off + j) then w.cell? ⟨(g'.L o).b, (g'.L o).off + j, none⟩ else g.tm (g'.L o).b ((g'.L o).off + j)) = none := k
  by_cases ho : owned (g'.L o).b ((g'.L o).off + j)
  ·rw [if_pos ho] at k'
   obtain ⟨i, ver, cs, _, e1, e2, j', hj', e3⟩ := ho
   obtain ⟨u, hu, _⟩ := (hw.ob i ver cs e1).there j' hj'
   rw [e2, e3, k'] at hu; cases hu
  ·exact ⟨ho, by rw [if_neg ho] at k'; exact k'⟩
 have hownB : ∀ i ver cs, i ∉ M -> hp S i = .arr ver cs -> ∀ j, j < (g.L i).cap -> owned (g.L i).b ((g.L i).off + j) := fun i ver cs hm e j hj => ⟨i, ver, cs, hm, e, rfl, j, hj, rfl⟩
 refine ⟨u, g2, rfl, ⟨hext, rfl, rfl, rfl⟩, ⟨hw'.pm, fun b o v e => ?_, fun b o v e => ?_, fun b o v e => ?_, ?_, ?_, hw.tab, fun i ver cs e => ?_, fun i j v1 v2 c1 c2 e1 e2 hne => ?_⟩, hu.rn okO hr⟩
 ·have ho : ¬ owned b o := by
   rintro ⟨i, ver, cs, _, e1, rfl, j, hj, rfl⟩
   have := (hw.ob i ver cs e1).tm j hj
   rw [show g2.tm = g.tm from rfl, this] at e; cases e
  exact hw'.tm b o v (by rw [htm]; simpa [gE, ho] using e)
 ·have ho : ¬ owned b o := by
   rintro ⟨i, ver, cs, _, e1, rfl, j, hj, rfl⟩
   have := (hw.ob i ver cs e1).tm j hj
   rw [show g2.tm = g.tm from rfl, this] at e; cases e
  exact hw'.tmf b o v (by rw [htm]; simpa [gE, ho] using e)
 ·have hd := hw'.disj b o v e
  rw [htm] at hd
  by_cases ho : owned b o
  ·obtain ⟨i, ver, cs, _, e1, rfl, j, hj, rfl⟩ := ho
   exact (hw.ob i ver cs e1).tm j hj
  ·simpa [gE, ho] using hd
 ·have := hw'.low
  rw [hle.B0, hle.w0] at this
  exact this
 ·have := hw'.B0
  rw [hle.B0] at this
  exact this
 ·rcases hN i (a5o e) with ⟨o, ho, rfl⟩ | ⟨hm, hi⟩
  ·obtain ⟨v', cs', a1, a2, a3⟩ := hobA o ho _ _ e
   have k := hw'.ob o _ _ a1
   have hl : g2.L (frN M T S o) = g'.L o := hL2 o
   refine ⟨?_, ?_, fun j hj => ?_, fun j hj => ?_, fun j hj => ?_, fun j hj => ?_⟩ <;> simp only [hl] at *
   ·intro hc; have := k.low hc; rw [hle.B0] at this; exact this
   ·have := k.len; omega
   ·obtain ⟨u, hu, hvr⟩ := k.there j hj
    refine ⟨u, hu, fun hj' => ?_⟩
    have := a3.2 j zO hj'
    simp only [Nat.zero_add] at this
    exact (hvr zO).rn okO this
   ·exact k.free j hj
   ·exact k.pm j hj
   ·exact (htmA o _ _ a1 j hj).2
  ·have he := e
   rw [hoth i hi hm] at e
   have k := hw.ob i ver cs e
   have hl : g2.L i = g.L i := by show L2 i = _; simp only [L2]; rw [if_neg hm, if_pos hi]
   have hE : ∀ j, j < (g.L i).cap -> gE.tm (g.L i).b ((g.L i).off + j) = w.cell? ⟨(g.L i).b, (g.L i).off + j, none⟩ := fun j hj => if_pos (hownB i ver cs hm e j hj)
   refine ⟨?_, ?_, fun j hj => ?_, fun j hj => ?_, fun j hj => ?_, fun j hj => ?_⟩ <;> rw [hl] at *
   ·exact k.low
   ·exact k.len
   ·obtain ⟨v, hv, hr⟩ := k.there j hj
    refine ⟨v, hw'.tm _ _ v (by rw [htm]; exact (hE j hj).trans hv), fun hj' => (hr hj').mono hext⟩
   ·obtain ⟨v, hv, hr⟩ := k.there j hj
    exact hw'.tmf _ _ v (by rw [htm]; exact (hE j hj).trans hv)
   ·show g'.pm (g.L i).b ((g.L i).off + j) = none
    cases hq : g'.pm (g.L i).b ((g.L i).off + j) with
    | none => rfl
    | some v =>
      have := hw'.disj _ _ _ hq
      obtain ⟨v', hv', _⟩ := k.there j hj
      rw [htm, hE j hj, hv'] at this
      cases this
   ·exact k.tm j hj
 ·show b1I (g2.L i) (g2.L j)
  rcases hN i (a5o e1) with ⟨o, ho, rfl⟩ | ⟨hm, hi⟩
  ·obtain ⟨v', cs', a1, a2, a3⟩ := hobA o ho _ _ e1
   have hl : g2.L (frN M T S o) = g'.L o := hL2 o
   rcases hN j (a5o e2) with ⟨o', ho', rfl⟩ | ⟨hm', hi'⟩
   ·obtain ⟨v'', cs'', b1, b2, b3⟩ := hobA o' ho' _ _ e2
    have hl' : g2.L (frN M T S o') = g'.L o' := hL2 o'
    rw [hl, hl']
    exact hw'.sep o o' _ _ _ _ a1 b1 (fun h => hne (by rw [h]))
   ·have hl' : g2.L j = g.L j := by show L2 j = _; simp only [L2]; rw [if_neg hm', if_pos hi']
    rw [hl, hl']
    rw [hoth j hi' hm'] at e2
    intro hb x y hx hy he
    have := (htmA o _ _ a1 x hx).1
    apply this
    rw [hb, he]
    exact hownB j _ _ hm' e2 y hy
  ·have hl : g2.L i = g.L i := by show L2 i = _; simp only [L2]; rw [if_neg hm, if_pos hi]
   rw [hoth i hi hm] at e1
   rcases hN j (a5o e2) with ⟨o', ho', rfl⟩ | ⟨hm', hi'⟩
   ·obtain ⟨v'', cs'', b1, b2, b3⟩ := hobA o' ho' _ _ e2
    have hl' : g2.L (frN M T S o') = g'.L o' := hL2 o'
    rw [hl, hl']
    intro hb x y hx hy he
    have := (htmA o' _ _ b1 y hy).1
    apply this
    rw [<- hb, <- he]
    exact hownB i _ _ hm e1 x hx
   ·have hl' : g2.L j = g.L j := by show L2 j = _; simp only [L2]; rw [if_neg hm', if_pos hi']
    rw [hl, hl']
    rw [hoth j hi' hm'] at e2
    exact hw.sep i j _ _ _ _ e1 e2 hne
def frz (k0 : Nat) (S : List Ob) : Nat -> AV -> AV
 | 0, x => if x.blw k0 then x else .junk
 | k + 1, x => if x.blw k0 then x else match x with
   | .ptr o ver off => match hp S o with
     | .arr v cs => if v = ver then .cptr (cs.map (frz k0 S k)) off else .junk
     | _ => .junk
   | .ref o ver off n e => match hp S o with
     | .arr v cs => if v = ver /\ off + n * d9 e <= cs.length /\ ((cs.map (frz k0 S k)).drop off).all AV.one = true then .sl false (d9 e) (q8 e n ((cs.map (frz k0 S k)).drop off)) else .junk
     | _ => .junk
   | .agg cs => .agg (cs.map (frz k0 S k))
   | .tup cs => .tup (cs.map (frz k0 S k))
   | .iface t v => .iface t (frz k0 S k v)
   | .fn f a b => .fn f (a.map (frz k0 S k)) (b.map (frz k0 S k))
   | _ => .junk

def a5p (k0 : Nat) (S : List Ob) (k : Nat) : Ob -> Ob
 | .arr v cs => .arr v (cs.map (frz k0 S k))
 | x => x

theorem a4G {k0 S k} {x : AV} (h : x.blw k0 = true) : frz k0 S k x = x := by
 cases k <;> simp [frz, h]
theorem a3G {k0 S k} : ∀ {cs : List AV}, a0S k0 cs = true -> cs.map (frz k0 S k) = cs
 | [], _ => rfl
 | x :: r, h => by
   simp only [a0S, Bool.and_eq_true] at h
   simp [a4G h.1, a3G h.2]

theorem VR.frz {k0 : Nat} {S : List Ob} {pm pm' : Pm} {L : Nat -> Loc} {σ' : Hp} (hpm : ∀ b o v, pm b o = some v -> pm' b o = some v)
  (hσ : ∀ o, u0 (hp (S.take k0) o) (L o) (σ' o) (L o))
  (hc : ∀ o ver cs, k0 <= o -> hp S o = .arr ver cs -> ∃ us : Nat -> Value, ∀ j (h : j < cs.length), pm' (L o).b ((L o).off + j) = some (us j) /\ VR pm L (hp S) (cs[j]) (us j)) :
  ∀ (k : Nat) {x : AV} {u : Value}, VR pm L (hp S) x u -> VR pm' L σ' (frz k0 S k x) u := by
 have hb : ∀ {x : AV} {u : Value}, VR pm L (hp S) x u -> x.blw k0 = true -> VR pm' L σ' x u := fun {x u} h hx =>
  (h.agree (σ' := hp (S.take k0)) (L' := L) hx (fun o ho => ⟨by rw [a7K, if_pos ho], rfl⟩)).mono ⟨hpm, hσ⟩
 intro k
 induction k with
 | zero =>
   intro x u h
   simp only [Ab.frz]
   split
   ·exact hb h (by assumption)
   ·exact .junk
 | succ k ih =>
   intro x u h
   simp only [Ab.frz]
   split
   ·exact hb h (by assumption)
   ·rename_i hx
    cases h with
    | @ptr o ver off a hpt =>
      simp only
      split
      ·rename_i v cs e
       split
       ·rename_i ev
        subst ev
        unfold a0Q at hpt
        rw [e] at hpt
        obtain rfl := hpt.2 rfl
        have ho : k0 <= o := by
         simp only [AV.blw, decide_eq_true_eq] at hx; omega
        obtain ⟨us, hus⟩ := hc o _ _ ho e
        exact .cptr us (fun j hj => (hus j (by simpa using hj)).1) (fun j hj => by
         simp only [List.getElem_map]
         exact ih (hus j (by simpa using hj)).2)
       ·exact .junk
      ·exact .junk
    | @ref o ver off n e a cap hn hs hr =>
      simp only
      split
      ·rename_i v cs e1
       split
       ·rename_i ev
        obtain ⟨rfl, h1, h2⟩ := ev
        unfold a0p at hr
        rw [e1] at hr
        obtain ⟨rfl, r2, r3, r4⟩ := hr.2 rfl
        have ho : k0 <= o := by
         simp only [AV.blw, decide_eq_true_eq] at hx; omega
        obtain ⟨us, hus⟩ := hc o _ _ ho e1
        exact VR.told (us := fun j => us (off + j)) zE h2 (fun j hj => by rw [Nat.add_assoc]; exact (hus (off + j) zO).1)
         (fun j hj hj2 => by
          simp only [List.getElem_drop, List.getElem_map]
          exact ih (hus (off + j) zO).2) hn (by intro e; cases e)
       ·exact .junk
      ·exact .junk
    | @refnil o ver off e a hv =>
      simp only
      split
      ·split
       ·have : ∀ l : List AV, q8 e 0 l = [] := fun l => by cases e <;> simp [q8, a1s]
        rw [this]; exact .slz'
       ·exact .junk
      ·exact .junk
    | agg a b => exact .agg (by simpa using a) (fun j h1 h2 => by simp only [List.getElem_map]; exact ih (b j (by simpa using h1) h2))
    | tup a b => exact .tup (by simpa using a) (fun j h1 h2 => by simp only [List.getElem_map]; exact ih (b j (by simpa using h1) h2))
    | iface h => exact .iface (ih h)
    | fn a b c d => exact .fn (by simpa using a) (by simpa using b) (fun j h1 h2 => by simp only [List.getElem_map]; exact ih (c j (by simpa using h1) h2)) (fun j h1 h2 => by simp only [List.getElem_map]; exact ih (d j (by simpa using h1) h2))
    | _ => exact .junk

def c5x (k0 : Nat) (S : List Ob) (k : Nat) : List Ob := (S.take k0).map (a5p k0 S k)

theorem a6j {S0 S : List Ob} (k0 k : Nat) (h0 : S0.length <= k0) : GWk S0 S (c5x k0 S k) (fun x y => y = frz k0 S k x) := by
 unfold c5x
 intro g0 g w h1 h2
 classical
 let reg : Nat -> Nat -> Prop := fun b o => ∃ i ver cs, k0 <= i /\ hp S i = .arr ver cs /\ (g.L i).b = b /\ ∃ j, j < cs.length /\ (g.L i).off + j = o
 let pm' : Pm := fun b o => if reg b o then w.cell? ⟨b, o, none⟩ else g.pm b o
 have hnp : ∀ b o v, g.pm b o = some v -> ¬ reg b o := by
  rintro b o v e ⟨i, ver, cs, _, e1, rfl, j, hj, rfl⟩
  have k := h2.ob i ver cs e1
  rw [k.pm j (by have := k.len; omega)] at e; cases e
 have hpm : ∀ b o v, g.pm b o = some v -> pm' b o = some v := fun b o v e => by
  simp only [pm']; rw [if_neg (hnp _ _ _ e)]; exact e
 have hS : ∀ o, hp ((S.take k0).map (a5p k0 S k)) o = a5p k0 S k (hp (S.take k0) o) := fun o => by
  simp only [hp, List.getD_eq_getElem?_getD, List.getElem?_map]
  cases (S.take k0)[o]? <;> rfl
 have hσ : ∀ o, u0 (hp (S.take k0) o) (g.L o) (hp ((S.take k0).map (a5p k0 S k)) o) (g.L o) := fun o => by
  rw [hS]
  cases hp (S.take k0) o <;> simp [a5p, u0]
 have hin : ∀ o v cs, hp ((S.take k0).map (a5p k0 S k)) o = .arr v cs -> o < k0 /\ ∃ cs', hp S o = .arr v cs' /\ cs = cs'.map (frz k0 S k) := fun o v cs e => by
  rw [hS, a7K] at e
  split at e
  ·rename_i ho
   refine ⟨ho, ?_⟩
   cases e1 : hp S o <;> rw [e1] at e <;> simp only [a5p] at e <;> cases e
   exact ⟨_, rfl, rfl⟩
  ·simp [a5p] at e
 have key : ∀ {x u}, VR g.pm g.L (hp S) x u -> VR pm' g.L (hp ((S.take k0).map (a5p k0 S k))) (frz k0 S k x) u := fun {x u} h => by
  refine VR.frz hpm hσ (fun o ver cs ho e => ?_) k h
  have q := h2.ob o ver cs e
  refine ⟨fun j => (w.cell? ⟨(g.L o).b, (g.L o).off + j, none⟩).getD undef, fun j hj => ?_⟩
  obtain ⟨v, hv, hr⟩ := q.there j (by have := q.len; omega)
  have hreg : reg (g.L o).b ((g.L o).off + j) := ⟨o, ver, cs, ho, e, rfl, j, hj, rfl⟩
  refine ⟨?_, by show VR _ _ _ _ ((w.cell? _).getD undef); rw [hv]; exact hr hj⟩
  simp only [pm']; rw [if_pos hreg, hv]; rfl
 refine ⟨{ g with pm := pm' }, ⟨⟨fun b o v e => hpm _ _ _ (h1.ext.pm _ _ _ e), fun o => ?_⟩, h1.tm, h1.B0, h1.w0⟩, ⟨fun b o v e => ?_, h2.tm, h2.tmf, fun b o v e => ?_, h2.low, h2.B0, h2.tab, fun o ver cs e => ?_, fun o o' v v' c c' e e' hne => ?_⟩, fun x y u r hv => by rw [r]; exact key hv⟩
 ·by_cases ho : o < S0.length
  ·refine (h1.ext.ob o).trans ?_
   have := hσ o
   rw [a7K, if_pos zO] at this
   exact this
  ·rw [b2h (S := S0) zO]; exact trivial
 ·replace e : (if reg b o then w.cell? ⟨b, o, none⟩ else g.pm b o) = some v := e
  split at e
  ·exact e
  ·exact h2.pm _ _ _ e
 ·replace e : (if reg b o then w.cell? ⟨b, o, none⟩ else g.pm b o) = some v := e
  split at e
  ·rename_i hr
   obtain ⟨i, ver, cs, _, e1, rfl, j, hj, rfl⟩ := hr
   have q := h2.ob i ver cs e1
   exact q.tm j (by have := q.len; omega)
  ·exact h2.disj _ _ _ e
 ·obtain ⟨ho, cs', e1, rfl⟩ := hin _ _ _ e
  have q := h2.ob o ver cs' e1
  refine ⟨q.low, by simpa using q.len, fun j hj => ?_, q.free, fun j hj => ?_, q.tm⟩
  ·obtain ⟨v, hv, hr⟩ := q.there j hj
   exact ⟨v, hv, fun hj' => by simp only [List.getElem_map]; exact key (hr (by simpa using hj'))⟩
  ·show (if reg _ _ then _ else _) = _
   rw [if_neg]
   ·exact q.pm j hj
   ·rintro ⟨i, ver', c', hi, e2, hb, j', hj', he⟩
    have q' := h2.ob i ver' c' e2
    exact h2.sep i o _ _ _ _ e2 e1 zO hb j' j (by have := q'.len; omega) hj he
 ·obtain ⟨ho, c1, e1, _⟩ := hin _ _ _ e
  obtain ⟨ho', c2, e2, _⟩ := hin _ _ _ e'
  exact h2.sep o o' _ _ _ _ e1 e2 hne

abbrev RS := Nat × Option (Option Nat)
def t7 (P : Program) : List ResultVar -> Option (List RS)
 | [] => some []
 | .tmp t :: r => (t7 P r).map ((t, none) :: ·)
 | .cell a t :: r => match y4 P t, t7 P r with
   | some sh, some q => some ((a, some sh) :: q)
   | _, _ => none

def b3L (S : List Ob) (F : Fm) : RS -> Option AV
 | (t, none) => some (F t)
 | (t, some sh) => (a6U sh (F t) S).map (·.1)
def a6k (S : List Ob) (F : Fm) : List RS -> Option (List AV)
 | [] => some []
 | t :: r => match b3L S F t, a6k S F r with
   | some v, some vs => some (v :: vs)
   | _, _ => none
def a1T (S : List Ob) (F : Fm) (ts : List RS) : Option AV :=
 match ts with
 | [t] => b3L S F t
 | ts => (a6k S F ts).map .tup

theorem b3M {P : Program} {g : Gh} {S : List Ob} {n : Nat} {F : Fm} {a : Act} {w : World} (hw : WRel g (hp S) w) (hf : a5i g (hp S) n F a) {x : ResultVar} {ts : List RS} {t : RS}
  (hr : t7 P [x] = some [t]) {v : AV} (hv : b3L S F t = some v) {one : ResultVar -> Sem Value} (ho : ∀ t, one (.tmp t) = pure (a.tmps.getD t undef)) (hc : ∀ b t, one (.cell b t) = (do loadVar t (<- asAddr (a.tmps.getD b undef)))) :
  ∃ u, (one x).run P w = .ok u w /\ VR g.pm g.L (hp S) v u := by
 cases x with
 | tmp i =>
   simp [t7] at hr; subst hr
   simp only [b3L] at hv; cases hv
   exact ⟨_, by rw [ho]; rfl, hf.get i⟩
 | cell b ty =>
   simp only [t7] at hr
   split at hr
   ·rename_i sh q e1 e2
    cases e2
    cases hr
    simp only [b3L, Option.map_eq_some_iff, Prod.exists] at hv
    obtain ⟨v', rd, δ, h1, rfl⟩ := hv
    obtain ⟨h2, rfl⟩ := a8r h1
    obtain ⟨a', r, h3, h4, h5⟩ := a7w hw e1 (hf.get b) h2
    refine ⟨r, ?_, h5⟩
    rw [hc, h3]
    simp [asAddr, h4]
   ·cases hr

theorem a6l {P : Program} {g : Gh} {S : List Ob} {n : Nat} {F : Fm} {a : Act} {w : World} (hw : WRel g (hp S) w) (hf : a5i g (hp S) n F a) {one : ResultVar -> Sem Value} (ho : ∀ t, one (.tmp t) = pure (a.tmps.getD t undef)) (hc : ∀ b t, one (.cell b t) = (do loadVar t (<- asAddr (a.tmps.getD b undef)))) :
  ∀ (rs : List ResultVar) (ts : List RS) (vs : List AV), t7 P rs = some ts -> a6k S F ts = some vs ->
   ∃ us : List Value, (rs.mapM one).run P w = .ok us w /\ us.length = vs.length /\ ∀ j (h : j < vs.length) (h' : j < us.length), VR g.pm g.L (hp S) vs[j] us[j] := by
 intro rs
 induction rs with
 | nil =>
   intro ts vs h1 h2
   simp only [t7, Option.some.injEq] at h1; subst h1
   simp only [a6k, Option.some.injEq] at h2; subst h2
   exact ⟨[], rfl, rfl, fun j h => by simp at h⟩
 | cons r rs ih =>
   intro ts vs h1 h2
   have hsplit : ∃ t ts', ts = t :: ts' /\ t7 P [r] = some [t] /\ t7 P rs = some ts' := by
    cases r with
    | tmp i =>
      simp only [t7, Option.map_eq_some_iff] at h1
      obtain ⟨q, e, rfl⟩ := h1
      exact ⟨_, q, rfl, rfl, e⟩
    | cell b ty =>
      simp only [t7] at h1 ⊢
      split at h1
      ·rename_i sh q e1 e2
       cases h1
       exact ⟨_, q, rfl, by rw [e1], e2⟩
      ·cases h1
   obtain ⟨t, ts', rfl, e1, e2⟩ := hsplit
   simp only [a6k] at h2
   split at h2
   ·rename_i v vs' e3 e4
    cases h2
    obtain ⟨u, k1, k2⟩ := b3M (ts := []) hw hf e1 e3 ho hc
    obtain ⟨us, k3, k4, k5⟩ := ih ts' vs' e2 e4
    refine ⟨u :: us, by simp [k1, k3], by simp [k4], fun j h h' => ?_⟩
    cases j with
    | zero => exact k2
    | succ j => simpa using k5 j (by simpa using h) (by simpa using h')
   ·cases h2

structure Fn3 (P : Program) (f : FuncId) (n : Nat) (ts : List RS) (fc : FC) : Prop where
 ex : ∃ fn c, P.funcs[f]? = some fn /\ fn.body = some c /\ fn.ntmps = n /\ t7 P fn.results.toList = some ts /\ r8 P n c = some fc

theorem a5I {P : Program} {fn : Func} {g : Gh} {S : List Ob} {n : Nat} {F : Fm} {a : Act} {w : World} (hw : WRel g (hp S) w) (hf : a5i g (hp S) n F a) {ts : List RS} (hr : t7 P fn.results.toList = some ts) {v : AV} (hv : a1T S F ts = some v) :
  ∃ u, (results fn a.tmps).run P w = .ok u w /\ VR g.pm g.L (hp S) v u := by
 unfold results
 generalize fn.results = R at hr
 rcases R with ⟨rs⟩
 simp only [List.mapM_toArray]
 simp only at hr
 have hlen : ∀ (rs : List ResultVar) (ts : List RS), t7 P rs = some ts -> rs.length = ts.length := by
  intro rs
  induction rs with
  | nil => intro ts h; simp only [t7, Option.some.injEq] at h; subst h; rfl
  | cons r rs ih =>
    intro ts h
    cases r with
    | tmp i => simp only [t7, Option.map_eq_some_iff] at h; obtain ⟨q, e, rfl⟩ := h; simp [ih q e]
    | cell b ty =>
      simp only [t7] at h
      split at h
      ·rename_i sh q e1 e2; cases h; simp [ih q e2]
      ·cases h
 rw [Sem.run_bind, Sem.run_map]
 revert hv
 match ts, hr with
 | [t], hr =>
   intro hv
   have hl := hlen _ _ hr
   obtain ⟨us, k1, k2, k3⟩ := a6l (one := fun | .tmp t => pure (a.tmps.getD t undef) | .cell b t => do loadVar t (<- asAddr (a.tmps.getD b undef))) hw hf (fun _ => rfl) (fun _ _ => rfl) rs [t] [v] hr (by simp only [a1T] at hv; simp [a6k, hv])
   refine ⟨us.headD undef, ?_, ?_⟩
   ·erw [k1]
    simp only [List.length_singleton] at k2
    match us, k2 with
    | [u], _ => rfl
   ·match us, k2 with
    | [u], _ => exact k3 0 zS zS
 | [], hr =>
   intro hv
   simp only [a1T, a6k, Option.map_some, Option.some.injEq] at hv
   subst hv
   obtain ⟨us, k1, k2, k3⟩ := a6l (one := fun | .tmp t => pure (a.tmps.getD t undef) | .cell b t => do loadVar t (<- asAddr (a.tmps.getD b undef))) hw hf (fun _ => rfl) (fun _ _ => rfl) rs [] [] hr rfl
   refine ⟨.tuple us.toArray, ?_, .tup (by simpa using k2) (fun j h => by simp at h)⟩
   erw [k1]
   simp only [List.length_nil] at k2
   match us, k2 with
   | [], _ => rfl
 | t :: t2 :: ts, hr =>
   intro hv
   simp only [a1T, Option.map_eq_some_iff] at hv
   obtain ⟨vs, hv2, rfl⟩ := hv
   replace hv := hv2
   clear hv2
   obtain ⟨us, k1, k2, k3⟩ := a6l (one := fun | .tmp t => pure (a.tmps.getD t undef) | .cell b t => do loadVar t (<- asAddr (a.tmps.getD b undef))) hw hf (fun _ => rfl) (fun _ _ => rfl) rs _ vs hr hv
   have hl2 : 2 <= vs.length := by
    simp only [a6k] at hv
    split at hv
    ·rename_i e _ e2
     cases hv
     split at e2
     ·cases e2; simp
     ·cases e2
    ·cases hv
   refine ⟨.tuple us.toArray, ?_, .tup (by simpa using k2) (fun j h h' => by simpa using k3 j h (by simpa using h'))⟩
   erw [k1]
   simp only [Result.andThen_ok]
   rw [dif_neg zE]
   rfl

theorem a3h {P : Program} {f n : Nat} {ts : List RS} {fc : FC} (hm : P.follows .mixedOrders = true) (hfn : Fn3 P f n ts fc) {args : List AV} (hn : args.length <= n) {S S' : List Ob} {r : AV} (ow : List Nat)
  (h : VT P S ow fc (a1h 0 args) S (fun e fr1 S1 => a4D e /\ ∃ v R, a1T S1 (Fr.get fr1) ts = some v /\ GWk S S1 S' R /\ R v r)) : Ev P f args (hp S) r (hp S') := by
 have hv := b6e (K' := fun e fr1 S1 => a4D e /\ ∃ v R, a1T S1 (Fr.get fr1) ts = some v /\ GWk S S1 S' R /\ R v r) (fun _ _ _ h => h) h
 intro g w vals hw hvs
 obtain ⟨fn, c, hf, hb, hnt, hrs, hrc⟩ := hfn.ex
 have hvs1 := hvs.1
 refine calls_of_wp hf hb ?_
 have hat : At g (hp S) n (Fr.get (a1h 0 args)) (hp S) { tmps := vals ++ Array.replicate (fn.ntmps - vals.size) undef, defers := [] } w := by
  refine ⟨rfl, g, Gh.le.refl _ _, hw, ⟨by simp; omega, fun t => ?_⟩⟩
  rw [a3D]
  simp only [Nat.zero_le, if_true, Nat.sub_zero]
  by_cases ht : t < args.length
  ·have := hvs.2 t ht zO
   rw [List.getD_eq_getElem?_getD, List.getElem?_eq_getElem ht]
   rw [Array.getD_eq_getD_getElem?, Array.getElem?_append_left zO, Array.getElem?_eq_getElem zO]
   exact this
  ·rw [List.getD_eq_getElem?_getD, List.getElem?_eq_none zO]
   exact .junk
 refine wp_mono (c2l hm c fc hrc _ _ _ hv _ _ hat) (fun e a' w' hq => ?_)
 obtain ⟨fr1, S1, ⟨hd, g1, hle1, hw1, hf1⟩, he, v, R, hret, hgw, hR⟩ := hq
 obtain ⟨u, hu, hvu⟩ := a5I hw1 hf1 hrs hret
 obtain ⟨g2, hle2, hw2, hv2⟩ := hgw g g1 w' hle1 hw1
 have hfin : a'.defers = [] /\ ∃ v, (results fn a'.tmps).run P w' = .ok v w' /\ ∃ u g', Ending.returned v = .returned u /\ g.le (hp S) g' (hp S') /\ WRel g' (hp S') w' /\ VR g'.pm g'.L (hp S') r u :=
  ⟨hd, u, hu, u, g2, rfl, hle2, hw2, hv2 _ _ _ hR hvu⟩
 cases e with
 | normal => exact hfin
 | ret => exact hfin
 | _ => exact he.elim

theorem l9 {P : Program} {f n : Nat} {ts : List RS} {fc : FC} (hm : P.follows .mixedOrders = true) (hfn : Fn3 P f n ts fc) {args : List AV} (hn : args.length <= n) {r : AV} (ow : List Nat) (k : Nat)
  (h : VT P [] ow fc (a1h 0 args) [] (fun e fr S => a4D e /\ ∃ v, a1T S (Fr.get fr) ts = some v /\ AVw (frz 0 S k v) r)) : p3 P f args r := by
 have := a3h (S := []) (S' := []) (r := r) hm hfn hn ow (a0T (K' := fun e fr1 S1 => a4D e /\ ∃ v R, a1T S1 (Fr.get fr1) ts = some v /\ GWk [] S1 [] R /\ R v r) (fun e fr S hk => ?_) h)
 ·rw [b0j] at this; exact this
 ·obtain ⟨he, v, h1, h2⟩ := hk
  refine ⟨he, v, _, h1, (a6j 0 k zS).trans GWk.refl, _, rfl, h2⟩

theorem Ev.weakr {P f args S r r' S'} (h : Ev P f args (hp S) r (hp S')) (hr : AVw r r') : Ev P f args (hp S) r' (hp S') :=
 h.mono (fun _ _ _ k => k.w hr)
theorem p3.weaka {P f args args' r} (h : p3 P f args' r) (hl : args.length = args'.length) (ha : ∀ j (h1 : j < args.length) (h2 : j < args'.length), AVw args[j] args'[j]) : p3 P f args r := by
 intro g w vals hw hv
 exact h g w vals hw ⟨by rw [hv.1, hl], fun j h1 h2 => (hv.2 j zO h2).w (ha j zO h1)⟩
def pL : FC -> FC | .seq a _ => a | x => x
def pR : FC -> FC | .seq _ b => b | x => x
def pT : FC -> FC | .cond _ a _ => a | x => x
def pE : FC -> FC | .cond _ _ b => b | x => x
def pB : FC -> FC | .block _ a => a | .loop a => a | x => x
def c2v (k : Nat) : List w8 -> Option (List w8 × List w8)
 | [] => none
 | o :: r => match o.dst with
   | some j => match Nat.beq j k with
     | true => some ([o], r)
     | false => (c2v k r).map fun p => (o :: p.1, p.2)
   | none => (c2v k r).map fun p => (o :: p.1, p.2)
def b3N (k : Nat) : FC -> FC
 | .reg rs [] => match c2v k rs with
   | some p => .block 1000003 (.seq (.reg p.1 []) (.reg p.2 []))
   | none => .reg rs []
 | .seq a b => .seq (b3N k a) (b3N k b)
 | .cond c a b => .cond c (b3N k a) (b3N k b)
 | .block i a => .block i (b3N k a)
 | .loop a => .loop (b3N k a)
 | x => x
def c5y (l : List Nat) (c : FC) : FC := match l with
 | [] => c
 | k :: l => c5y l (b3N k c)
noncomputable def c5z (P : Program) (f : Nat) : Option FC := match P.funcs[f]? with | none => none | some fn => match fn.body with | none => none | some b => r8 P fn.ntmps b
theorem qn1 : Int.negSucc 0 = -1 := rfl
theorem qi0 : Int.ofNat 0 = 0 := rfl
theorem qi1 : Int.ofNat 1 = 1 := rfl
theorem qi2 : Int.ofNat 2 = 2 := rfl
theorem qi3 : Int.ofNat 3 = 3 := rfl
theorem qi4 : Int.ofNat 4 = 4 := rfl
theorem qi5 : Int.ofNat 5 = 5 := rfl
theorem qi6 : Int.ofNat 6 = 6 := rfl
theorem qi7 : Int.ofNat 7 = 7 := rfl
theorem qi8 : Int.ofNat 8 = 8 := rfl
theorem qi9 : Int.ofNat 9 = 9 := rfl
theorem c5A : Int.ofNat 11 = 11 := rfl
theorem c5B : Int.ofNat 12 = 12 := rfl
theorem c5C : Int.ofNat 13 = 13 := rfl
theorem c5D : Int.ofNat 14 = 14 := rfl
theorem c5E : Int.ofNat 15 = 15 := rfl
theorem c5F : Int.ofNat 16 = 16 := rfl
theorem c5G : Int.ofNat 18 = 18 := rfl
theorem c5H : Int.ofNat 20 = 20 := rfl
theorem c5I : Int.ofNat 21 = 21 := rfl
theorem c5J : Int.ofNat 22 = 22 := rfl
theorem c5K : Int.ofNat 23 = 23 := rfl
theorem c5L : Int.ofNat 24 = 24 := rfl
theorem c5M : Int.ofNat 25 = 25 := rfl
theorem c5N : Int.ofNat 26 = 26 := rfl
theorem c5O : Int.ofNat 27 = 27 := rfl
theorem c5P : Int.ofNat 28 = 28 := rfl
theorem c5Q : Int.ofNat 29 = 29 := rfl
theorem c5R : Int.ofNat 30 = 30 := rfl
theorem c5S : Int.ofNat 31 = 31 := rfl
theorem c5T : Int.ofNat 32 = 32 := rfl
theorem c5U : Int.ofNat 50 = 50 := rfl
theorem c5V : Int.ofNat 64 = 64 := rfl
theorem c5W : Int.ofNat 76 = 76 := rfl
theorem c5X : Int.ofNat 87 = 87 := rfl
theorem b6j : Int.ofNat 110 = 110 := rfl
theorem b6k : Int.ofNat 112 = 112 := rfl
theorem b6l : Int.ofNat 254 = 254 := rfl
theorem b6m : Int.ofNat 255 = 255 := rfl
theorem b6n : Int.ofNat 256 = 256 := rfl
theorem b3a : Int.ofNat 1024 = 1024 := rfl
theorem b3b : Int.ofNat 4096 = 4096 := rfl
theorem b0q : Int.ofNat 65535 = 65535 := rfl
theorem a0L : Int.ofNat 6510615555426900570 = 6510615555426900570 := rfl
end Go.Ab

