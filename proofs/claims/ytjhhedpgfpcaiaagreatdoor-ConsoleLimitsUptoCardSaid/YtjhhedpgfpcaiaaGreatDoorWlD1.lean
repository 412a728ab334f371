/- Verification conditions for operations and calls. -/
import Derived.Test.YtjhhedpgfpcaiaaGreatDoorWlC1
import Derived.Scope
namespace Go.Ab
set_option linter.constructorNameAsVariable false
set_option linter.unusedSimpArgs false
set_option linter.unusedVariables false
open Go.RowKit
set_option linter.unusedVariables false
set_option linter.unusedSimpArgs false

def hp (S : List Ob) : Hp := fun o => S.getD o .virgin
def setAt : List Ob → Nat → Ob → List Ob
  | [], 0, x => [x]
  | [], n + 1, x => .virgin :: setAt [] n x
  | _ :: s, 0, x => x :: s
  | y :: s, n + 1, x => y :: setAt s n x

theorem hp_setAt (x : Ob) : ∀ (S : List Ob) (o : Nat), hp (setAt S o x) = upd (hp S) o x
  | [], 0 => by funext i; cases i <;> simp [hp, setAt, upd]
  | [], n + 1 => by
    funext i
    cases i with
    | zero => simp [hp, setAt, upd]
    | succ i =>
      have := congrFun (hp_setAt x [] n) i
      simpa [hp, setAt, upd] using this
  | y :: s, 0 => by funext i; cases i <;> simp [hp, setAt, upd]
  | y :: s, n + 1 => by
    funext i
    cases i with
    | zero => simp [hp, setAt, upd]
    | succ i =>
      have := congrFun (hp_setAt x s n) i
      simpa [hp, setAt, upd] using this

inductive RC where
  | op (r : ROp)
  | call (f : FuncId) (args : List Opd)
  | callv (x : Opd) (args : List Opd)
  | inv (x : Opd) (m : String) (args : List Opd)

structure ROper where
  dst : Option Nat
  guard : Option (Nat × Bool)
  c : RC

inductive LE where
  | acc (fp : List Nat) (wr : Option Nat)
  | eff (S S' : List Ob)
  | rdl (o : Nat) (J : Ob → Prop)
  | efs (S S' : List Ob) (st : Nat)

def apS (S : List Ob) : Option (Nat × Ob) → List Ob
  | none => S
  | some (o, x) => setAt S o x

theorem hp_apS (S : List Ob) (δ) : hp (apS S δ) = ap (hp S) δ := by
  cases δ with
  | none => rfl
  | some p => exact hp_setAt _ _ _

def fpOf (rd : List Nat) : Option (Nat × Ob) → List Nat
  | none => rd
  | some (o, _) => o :: rd

def callable (P : Program) (f : FuncId) : Bool :=
  match P.funcs[f]? with
  | some fn => fn.body.isSome && !(fn.name == "runtime.NumGoroutine")
  | none => false

/-- The function behind an interface's method, where the receiver is handed on as it is. -/
def methOf (P : Program) (t : TypeId) (m : String) : Option FuncId :=
  match P.info? t with
  | none => none
  | some i => match i.methods.find? (·.name == m) with
    | none => none
    | some me => match me.path.toList, me.func with
      | [], some (f, pr) => match P.underlying t with
        | some (.pointer _) => if pr then some f else none
        | some _ => if pr then none else some f
        | none => none
      | _, _ => none

/-- A method that takes the value, where the interface holds a pointer: the function, and the value's shape. -/
def methVal (P : Program) (t : TypeId) (m : String) : Option (FuncId × Option Nat) :=
  match P.info? t with
  | none => none
  | some i => match i.methods.find? (·.name == m) with
    | none => none
    | some me => match me.path.toList, me.func with
      | [], some (f, false) => match P.underlying t with
        | some (.pointer e) => (eshOf P e).map fun sh => (f, sh)
        | _ => none
      | _, _ => none

inductive LG where
  | acc (fp : List Nat) (wr : Option Nat)
  | eff
  | rdl (o : Nat) (J : Ob → Prop)
  | efs (st : Nat)

/-- The call answers v and changes nothing, in every heap that agrees on the objects of M. -/
def RdEv (P : Program) (f : FuncId) (args : List AV) (σ : Hp) (v : AV) (M : List Nat) : Prop := ∀ τ : Hp, (∀ o ∈ M, τ o = σ o) → Ev P f args τ v τ

/-- The call does the same whatever stands from number st on, and leaves that. -/
def EvS (P : Program) (f : FuncId) (args : List AV) (σ : Hp) (v : AV) (σ' : Hp) (st : Nat) : Prop :=
  (∀ o, st ≤ o → σ' o = σ o) ∧ ∀ τ : Hp, (∃ T, τ = hp T) → (∀ o, o < st → τ o = σ o) → Ev P f args τ v (fun o => if o < st then σ' o else τ o)
theorem EvS.ev {P f args σ v σ' st} (h : EvS P f args σ v σ' st) (hσ : ∃ T, σ = hp T) : Ev P f args σ v σ' := by
  have := h.2 σ hσ (fun _ _ => rfl)
  rwa [show (fun o => if o < st then σ' o else σ o) = σ' by
    funext o
    by_cases ho : o < st
    · rw [if_pos ho]
    · rw [if_neg ho, h.1 o (by omega)]] at this
/-- What one call may do. -/
def StepCall (P : Program) (f : FuncId) (args : List AV) (σ : Hp) (v : AV) (σ' : Hp) (le : LG) : Prop :=
  (PureEv P f args v ∧ blwL 0 args = true ∧ v.blw 0 = true ∧ σ' = σ ∧ le = .acc [] none) ∨ (Ev P f args σ v σ' ∧ le = .eff) ∨ (∃ M, RdEv P f args σ v M ∧ σ' = σ ∧ le = .acc M none) ∨ ∃ st, (∃ T, σ = hp T) ∧ EvS P f args σ v σ' st ∧ le = .efs st

/-- Loads. -/
def ROp.isL : ROp → Bool
  | .load _ _ => true
  | _ => false
/-- What one operation may do, its value weakened. -/
def StW (r : ROp) (fr : Fm) (σ : Hp) (v : AV) (rd : List Nat) (δ : Option (Nat × Ob)) : Prop := ∃ v0, St r fr σ v0 rd δ ∧ AVw v0 v

/-- What such a method's call may do. -/
def InvVal (P : Program) (t : TypeId) (m : String) (v0 : AV) (args : List AV) (σ : Hp) (v : AV) (σ' : Hp) (le : LG) : Prop :=
  match methVal P t m with
  | some (f, sh) => callable P f = true ∧ le = .eff ∧ ∃ x rd, StLoad sh v0 σ x rd ∧ Ev P f (x :: args) σ v σ'
  | none => False

/-- What one operation may do. -/
def StepG (P : Program) (c : RC) (fr : Fm) (σ : Hp) (v : AV) (σ' : Hp) (le : LG) : Prop :=
  match c with
  | .op r => (∃ rd δ, StW r fr σ v rd δ ∧ σ' = ap σ δ ∧ le = .acc (fpOf rd δ) (δ.map (·.1))) ∨ (r.isL = true ∧ ∃ o J, (∀ τ : Hp, J (τ o) → ∃ rd, StW r fr τ v rd none) ∧ J (σ o) ∧ σ' = σ ∧ le = .rdl o J)
  | .call f args => StepCall P f (evL fr args) σ v σ' le
  | .callv x args => match ev fr x with
    | .fn (.func f) first caps => callable P f = true ∧ StepCall P f (first ++ evL fr args ++ caps) σ v σ' le
    | _ => False
  | .inv x m args => match ev fr x with
    | .iface t v0 => match methOf P t m with
      | some f => callable P f = true ∧ StepCall P f (v0 :: evL fr args) σ v σ' le
      | none => InvVal P t m v0 (evL fr args) σ v σ' le
    | _ => False

def VCcall (P : Program) (f : FuncId) (args : List AV) (S : List Ob) (K : AV → List Ob → LE → Prop) : Prop :=
  (∃ v, PureEv P f args v ∧ blwL 0 args = true ∧ v.blw 0 = true ∧ K v S (.acc [] none)) ∨ (∃ v S', Ev P f args (hp S) v (hp S') ∧ K v S' (.eff S S')) ∨ (∃ v M, RdEv P f args (hp S) v M ∧ K v S (.acc M none)) ∨ ∃ v S' st, EvS P f args (hp S) v (hp S') st ∧ K v S' (.efs S S' st)

def VCinv (P : Program) (t : TypeId) (m : String) (v0 : AV) (args : List AV) (S : List Ob) (K : AV → List Ob → LE → Prop) : Prop :=
  match methVal P t m with
  | some (f, sh) => callable P f = true ∧ ∃ x rd v S', StLoad sh v0 (hp S) x rd ∧ Ev P f (x :: args) (hp S) v (hp S') ∧ K v S' (.eff S S')
  | none => False

def VC1 (P : Program) (c : RC) (fr : Fm) (S : List Ob) (K : AV → List Ob → LE → Prop) : Prop :=
  match c with
  | .op r => (∃ v rd δ, StW r fr (hp S) v rd δ ∧ K v (apS S δ) (.acc (fpOf rd δ) (δ.map (·.1)))) ∨ (r.isL = true ∧ ∃ v o J, (∀ τ : Hp, J (τ o) → ∃ rd, StW r fr τ v rd none) ∧ J (hp S o) ∧ K v S (.rdl o J))
  | .call f args => VCcall P f (evL fr args) S K
  | .callv x args => match ev fr x with
    | .fn (.func f) first caps => callable P f = true ∧ VCcall P f (first ++ evL fr args ++ caps) S K
    | _ => False
  | .inv x m args => match ev fr x with
    | .iface t v => match methOf P t m with
      | some f => callable P f = true ∧ VCcall P f (v :: evL fr args) S K
      | none => VCinv P t m v (evL fr args) S K
    | _ => False

/-- How an operation of the program is resolved. -/
def resRC (P : Program) (o : Op) : Option RC :=
  match resOp P o with
  | some r => some (.op r)
  | none => match o with
    | .call c => match c.callee, rOpds c.args.toList with
      | .value (.func f), some args => if callable P f then some (.call f args) else none
      | .value x, some args => (rOpd x).map (.callv · args)
      | .invoke x m, some args => (rOpd x).map (.inv · m args)
      | _, _ => none
    | _ => none

theorem callable_run {P : Program} {f : FuncId} (h : callable P f = true) (args : Array Value) (w : World) : (callFunc f args).run P w = .ok (.enter f args) w := by
  unfold callable at h
  split at h
  · rename_i fn hf
    simp only [Bool.and_eq_true, Bool.not_eq_true'] at h
    obtain ⟨h1, h2⟩ := h
    have hn : fn.body ≠ none := by intro hb; simp [hb] at h1
    have h2' : fn.name ≠ "runtime.NumGoroutine" := by simpa using h2
    simp [callFunc, hf, h2', hn]
  · cases h

theorem methOf_run {P : Program} {t : TypeId} {m : String} {f : FuncId} (h : methOf P t m = some f) (v : Value) (n : Nat) (w : World) : (method (n + 1) t v m).run P w = .ok (f, v) w := by
  unfold methOf at h
  split at h
  · cases h
  · rename_i i hi
    split at h
    · cases h
    · rename_i me hm
      split at h
      · rename_i f' pr hp hfn
        split at h
        · rename_i e hu
          split at h
          · rename_i hpr
            cases h
            subst hpr
            simp [method, typeInfo, hi, hm, hp, hfn, follow, receiverAt, run_underlying hu, Place.get]
          · cases h
        · rename_i d hnp hu
          split at h
          · cases h
          · rename_i hpr
            cases h
            have hpr : pr = false := by simpa using hpr
            subst hpr
            cases d <;> first | exact (hnp _ rfl).elim | (simp [method, typeInfo, hi, hm, hp, hfn, follow, receiverAt, run_underlying hu, Place.get])
        · cases h
      · cases h

theorem wnc {t t2 : TypeId} {a : Addr} {x y : String} : Builtin.ssaWrapNilChk_ #[t] t2 #[.pointer (some a), strVal x, strVal y] = pure (.pointer (some a)) := rfl
theorem methVal_run {P : Program} {t : TypeId} {m : String} {f : FuncId} {sh : Option Nat} (h : methVal P t m = some (f, sh)) :
    ∃ e, eshOf P e = some sh ∧ ∀ (a : Addr) (r : Value) (w : World) (n : Nat), (loadVar e a).run P w = .ok r w → (method (n + 1) t (.pointer (some a)) m).run P w = .ok (f, r) w := by
  unfold methVal at h
  split at h
  · cases h
  · rename_i i hi
    split at h
    · cases h
    · rename_i me hm
      split at h
      · rename_i f' hp hfn
        split at h
        · rename_i e hu
          simp only [Option.map_eq_some_iff] at h
          obtain ⟨sh', h1, h2⟩ := h
          cases h2
          refine ⟨e, h1, fun a r w n hl => ?_⟩
          have he : me.path = #[] := Array.toList_eq_nil_iff.1 hp
          simp [method, typeInfo, hi, hm, hp, hfn, follow, receiverAt, run_underlying hu, Place.get, he, wnc, asAddr, hl]
        · cases h
      · cases h

theorem VRs_of {g σ n fr} {a : Act} (hf : FRel g σ n fr a) {args : Array Operand} {qs : List Opd} (h : rOpds args.toList = some qs) : VRs g σ (evL fr qs) (args.map a.eval) := by
  obtain ⟨a1, a2⟩ := rOpds_VR hf h
  refine ⟨by simpa using a1.symm, fun j p q => ?_⟩
  rw [getElem_map_toList]; exact a2 j p _

theorem VRs.append {g σ} {xs ys : List AV} {us vs : Array Value} (h : VRs g σ xs us) (k : VRs g σ ys vs) : VRs g σ (xs ++ ys) (us ++ vs) := by
  refine ⟨by simp [h.1, k.1], fun j p q => ?_⟩
  have h1 := h.1
  by_cases hj : j < xs.length
  · rw [List.getElem_append_left hj, Array.getElem_append_left (by omega)]; exact h.2 j hj (by omega)
  · rw [List.getElem_append_right (by omega), Array.getElem_append_right (by omega)]
    have := k.2 (j - xs.length) (by simp at p; omega) (by simp at q; omega)
    simpa [h1] using this

theorem StepCall_wp {P : Program} {f : FuncId} {args : List AV} {σ σ' : Hp} {v : AV} {le : LG} (h : StepCall P f args σ v σ' le) {g : Gh} {w : World} {vals : Array Value} (hw : WRel g σ w) (hv : VRs g σ args vals)
    {next : Value → World → Prop} {N : Ending → World → Prop} (hN : ∀ u w', next u w' → N (.returned u) w')
    (hK : ∀ u w' g', g.le σ g' σ' → WRel g' σ' w' → VR g'.pm g'.L σ' v u → next u w') : Calls P f vals w N := by
  rcases h with ⟨h1, h2, h3, rfl, _⟩ | ⟨h1, _⟩ | ⟨M, h1, rfl, _⟩ | ⟨st, h0, h1, _⟩
  · refine (h1.frame h2 h3 σ' g w vals hw hv).mono ?_
    rintro e w' ⟨u, g', rfl, a, b, c⟩
    exact hN _ _ (hK _ _ _ a b c)
  · refine (h1 g w vals hw hv).mono ?_
    rintro e w' ⟨u, g', rfl, a, b, c⟩
    exact hN _ _ (hK _ _ _ a b c)
  · refine (h1 _ (fun _ _ => rfl) g w vals hw hv).mono ?_
    rintro e w' ⟨u, g', rfl, a, b, c⟩
    exact hN _ _ (hK _ _ _ a b c)
  · refine (h1.ev h0 g w vals hw hv).mono ?_
    rintro e w' ⟨u, g', rfl, a, b, c⟩
    exact hN _ _ (hK _ _ _ a b c)

/-- One operation, its guard being met. -/
theorem StepG_wp {P : Program} {o : Oper} {c : RC} (hr : resRC P o.op = some c) {fr : Fm} {σ σ' : Hp} {v : AV} {le : LG} (h : StepG P c fr σ v σ' le) {g : Gh} {n : Nat} {a : Act} {w : World}
    (hw : WRel g σ w) (hf : FRel g σ n fr a) {next : Act → World → Prop} {Q : Exit → Act → World → Prop}
    (hK : ∀ u w' g', g.le σ g' σ' → WRel g' σ' w' → VR g'.pm g'.L σ' v u → next (a.put o.dst u) w') : o.wp P a w next Q := by
  unfold resRC at hr
  split at hr
  · rename_i r hres
    cases hr
    obtain ⟨rd, δ, ⟨v0, hst, hvw⟩, rfl⟩ : ∃ rd δ, StW r fr σ v rd δ ∧ σ' = ap σ δ := by
      rcases h with ⟨rd, δ, h1, h2, _⟩ | ⟨_, o, J, h1, h2, h3, _⟩
      · exact ⟨rd, δ, h1, h2⟩
      · obtain ⟨rd, h1⟩ := h1 _ h2; exact ⟨rd, none, h1, h3⟩
    obtain ⟨res, u, w', g', e1, e2, e3, e4, e5⟩ := res_sound hres hw hf hst
    have := hK _ _ _ e4 e3 (e5.w hvw)
    unfold Oper.wp
    rw [e1]
    rcases e2 with rfl | ⟨rfl, rfl⟩
    · exact this
    · exact this
  · split at hr
    · rename_i cl hop
      obtain ⟨dst, op, ty, pos, after, guard⟩ := o
      simp only at hop
      subst hop
      obtain ⟨callee, args, argTypes⟩ := cl
      have enter : ∀ f vals, (execOp a.eval ⟨dst, .call ⟨callee, args, argTypes⟩, ty, pos, after, guard⟩).run P w = .ok (.enter f vals) w →
          Calls P f vals w (fun | .returned v, w'' => next (a.put dst v) w'' | .panicked chain, w'' => Q (.panic chain) a w'' | .outgrown, _ => LetsOut Q) → Oper.wp P ⟨dst, .call ⟨callee, args, argTypes⟩, ty, pos, after, guard⟩ a w next Q := fun f vals h1 h2 => by
        unfold Oper.wp; rw [h1]; exact h2
      split at hr
      · rename_i f qs hc hq
        simp only at hc; subst hc
        split at hr
        · rename_i hcal
          cases hr
          refine enter f (args.map a.eval) ?_ ?_
          · simp [execOp, resolve, Act.eval, Deferred.ofValue, invoke, callable_run hcal]
          · exact StepCall_wp h hw (VRs_of hf hq) (next := fun u w' => next (a.put dst u) w') (fun _ _ h => h) hK
        · cases hr
      · rename_i x qs hnf hc hq
        simp only at hc; subst hc
        simp only [Option.map_eq_some_iff] at hr; obtain ⟨y, h1, rfl⟩ := hr
        have hx := rOpd_VR hf h1
        simp only [StepG] at h
        split at h
        · rename_i f first caps he
          obtain ⟨hcal, h⟩ := h
          rw [he] at hx
          generalize hev : a.eval x = ux at hx
          cases hx with
          | fn hlf hlc hvf hvc =>
            rename_i fs cs
            refine enter f ((fs ++ args.map a.eval) ++ cs) ?_ ?_
            · simp [execOp, resolve, hev, Deferred.ofValue, invoke, callable_run hcal]
            · refine StepCall_wp h hw ?_ (next := fun u w' => next (a.put dst u) w') (fun _ _ h => h) hK
              exact VRs.append (VRs.append ⟨hlf, hvf⟩ (VRs_of hf hq)) ⟨hlc, hvc⟩
        · exact h.elim
      · rename_i x m qs hc hq
        simp only at hc; subst hc
        simp only [Option.map_eq_some_iff] at hr; obtain ⟨y, h1, rfl⟩ := hr
        have hx := rOpd_VR hf h1
        simp only [StepG] at h
        split at h
        · rename_i t v0 he
          split at h
          · rename_i f hm
            obtain ⟨hcal, h⟩ := h
            rw [he] at hx
            generalize hev : a.eval x = ux at hx
            cases hx with
            | iface hv =>
              rename_i u
              refine enter f (#[u] ++ args.map a.eval) ?_ ?_
              · have hd : ∃ k, P.types.size + Made.depth = k + 1 := ⟨P.types.size + 99, by simp [Made.depth]⟩
                obtain ⟨k, hk⟩ := hd
                have h0 : ((#[Value.iface t u] : Array Value) ++ Array.map a.eval args)[0]? = some (.iface t u) := by rw [Array.getElem?_append_left (by simp)]; rfl
                have hx : (Array.map a.eval args).extract 0 args.size = Array.map a.eval args := by
                  have : args.size = (Array.map a.eval args).size := by simp
                  rw [this, Array.extract_size]
                simp [execOp, resolve, hev, invoke, callMethod, h0, hx, hk, methOf_run hm, callable_run hcal]
              · refine StepCall_wp h hw ?_ (next := fun u w' => next (a.put dst u) w') (fun _ _ h => h) hK
                have : VRs g σ [v0] #[u] := ⟨rfl, fun j p q => by
                  simp at p; subst p; exact hv⟩
                exact VRs.append this (VRs_of hf hq)
          · rename_i hm0
            unfold InvVal at h
            split at h
            · rename_i f sh hm
              obtain ⟨hcal, _, y, rd, hld, hev'⟩ := h
              rw [he] at hx
              generalize hev : a.eval x = ux at hx
              cases hx with
              | iface hv =>
                rename_i u
                obtain ⟨e0, he0, hrun0⟩ := methVal_run hm
                obtain ⟨ad, r, rfl, hr1, hr2⟩ := load_ok hw he0 hv hld
                have hrun : ∀ n, (method (n + 1) t (.pointer (some ad)) m).run P w = .ok (f, r) w := fun n => hrun0 ad r w n hr1
                refine enter f (#[r] ++ args.map a.eval) ?_ ?_
                · have hd : ∃ k, P.types.size + Made.depth = k + 1 := ⟨P.types.size + 99, by simp [Made.depth]⟩
                  obtain ⟨k, hk⟩ := hd
                  have h0 : ((#[Value.iface t (.pointer (some ad))] : Array Value) ++ Array.map a.eval args)[0]? = some (.iface t (.pointer (some ad))) := by rw [Array.getElem?_append_left (by simp)]; rfl
                  have hx : (Array.map a.eval args).extract 0 args.size = Array.map a.eval args := by
                    have : args.size = (Array.map a.eval args).size := by simp
                    rw [this, Array.extract_size]
                  simp [execOp, resolve, hev, invoke, callMethod, h0, hx, hk, hrun, callable_run hcal]
                · refine StepCall_wp (le := .eff) (.inr (.inl ⟨hev', rfl⟩)) hw ?_ (next := fun u w' => next (a.put dst u) w') (fun _ _ h => h) hK
                  have : VRs g σ [y] #[r] := ⟨rfl, fun j p q => by
                    simp at p; subst p; exact hr2⟩
                  exact VRs.append this (VRs_of hf hq)
            · exact h.elim
        · exact h.elim
      · cases hr
    · cases hr
end Go.Ab
/- An operation's result hangs on its operands and on the objects that it touches, on nothing else. -/
namespace Go.Ab
set_option linter.constructorNameAsVariable false
set_option linter.unusedSimpArgs false
set_option linter.unusedVariables false
open Go.RowKit
set_option linter.unusedVariables false
set_option linter.unusedSimpArgs false

def Opd.slot : Opd → List Nat
  | .t i => [i]
  | .v _ => []
def slotsP : List (Nat × Nat × Opd) → List Nat
  | [] => []
  | (_, _, x) :: r => x.slot ++ slotsP r
def slotsL : List Opd → List Nat
  | [] => []
  | x :: r => x.slot ++ slotsL r
def slotsO : Option Opd → List Nat
  | none => []
  | some x => x.slot

def ROp.slots : ROp → List Nat
  | .mv x | .box x | .nchk x | .un _ x | .cint _ x | .cstr x | .b2s x | .s2b x | .mki _ x | .fad _ x | .ext _ x | .fld _ _ x | .len _ x | .load _ x | .tas _ x | .clr _ _ x => x.slot
  | .pick c a b => c.slot ++ (a.slot ++ b.slot)
  | .new _ | .mkm => []
  | .lkp _ _ _ x y => x.slot ++ y.slot
  | .mpu _ x y z => x.slot ++ (y.slot ++ z.slot)
  | .rgm x | .ent x => x.slot
  | .build _ ps => slotsP ps
  | .bsl _ _ _ ps => slotsP ps
  | .store _ a x => a.slot ++ x.slot
  | .bin _ _ x y | .eqs _ _ x y | .mn _ x y | .iad _ _ x y | .idxs x y | .idxa _ _ x y | .app _ _ x y | .cpy _ x y => x.slot ++ y.slot
  | .mkf _ a b => slotsL a ++ slotsL b
  | .mksl _ _ _ l c => l.slot ++ c.slot
  | .slc _ x lo hi mx => x.slot ++ (slotsO lo ++ (slotsO hi ++ slotsO mx))
  | .sls x lo hi => x.slot ++ (slotsO lo ++ slotsO hi)
  | .slp _ _ x lo hi => x.slot ++ (slotsO lo ++ slotsO hi)

def RC.slots : RC → List Nat
  | .op r => r.slots
  | .call _ args => slotsL args
  | .callv x args => x.slot ++ slotsL args
  | .inv x _ args => x.slot ++ slotsL args

section
variable {F G : Fm}
theorem ev_agree {x : Opd} (h : ∀ t ∈ x.slot, G t = F t) : ev G x = ev F x := by
  cases x with
  | t i => exact h i (by simp [Opd.slot])
  | v x => rfl
theorem evP_agree : ∀ {ps : List (Nat × Nat × Opd)}, (∀ t ∈ slotsP ps, G t = F t) → evP G ps = evP F ps
  | [], _ => rfl
  | (a, b, x) :: r, h => by
    simp only [slotsP, List.mem_append] at h
    simp only [evP]
    rw [ev_agree (fun t ht => h t (.inl ht)), evP_agree (fun t ht => h t (.inr ht))]
theorem evL_agree : ∀ {ps : List Opd}, (∀ t ∈ slotsL ps, G t = F t) → evL G ps = evL F ps
  | [], _ => rfl
  | x :: r, h => by
    simp only [slotsL, List.mem_append] at h
    simp only [evL]
    rw [ev_agree (fun t ht => h t (.inl ht)), evL_agree (fun t ht => h t (.inr ht))]
theorem evO_agree {x : Option Opd} (h : ∀ t ∈ slotsO x, G t = F t) : evO G x = evO F x := by
  cases x with
  | none => rfl
  | some x => simp only [evO]; rw [ev_agree h]
end

section
variable {σ τ : Hp}
theorem Src_local {esh x n cells rd} (h : Src esh x σ n cells rd) (ho : ∀ o ∈ rd, τ o = σ o) : Src esh x τ n cells rd := by
  unfold Src at *
  split at h
  · exact h
  · exact h
  · exact h
  · obtain ⟨h1, h2, rfl, cs, h4, h5⟩ := h
    exact ⟨h1, h2, rfl, cs, by rw [ho _ (by simp)]; exact h4, h5⟩
  · exact h
  · exact h

theorem StNew_local {cs v rd δ} (h : StNew cs σ v rd δ) (ho : ∀ o ∈ fpOf rd δ, τ o = σ o) : StNew cs τ v rd δ := by
  obtain ⟨h0, h | h⟩ := h
  · obtain ⟨o, h1, h2, rfl⟩ := h
    exact ⟨h0, .inl ⟨o, by rw [ho o (by simp [fpOf])]; exact h1, h2, rfl⟩⟩
  · exact ⟨h0, .inr h⟩

theorem StNewSl_local {ex esh n cs v rd δ} (h : StNewSl ex esh n cs σ v rd δ) (ho : ∀ o ∈ fpOf rd δ, τ o = σ o) : StNewSl ex esh n cs τ v rd δ := by
  obtain ⟨h0, ha, hb, h | h⟩ := h
  · obtain ⟨o, h1, h2, rfl⟩ := h
    exact ⟨h0, ha, hb, .inl ⟨o, by rw [ho o (by simp [fpOf])]; exact h1, h2, rfl⟩⟩
  · exact ⟨h0, ha, hb, .inr h⟩

theorem StLoad_local {sh x v rd} (h : StLoad sh x σ v rd) (ho : ∀ o ∈ rd, τ o = σ o) : StLoad sh x τ v rd := by
  unfold StLoad at *
  split at h
  · obtain ⟨rfl, cs, h1, h2⟩ := h
    exact ⟨rfl, cs, by rw [ho _ (by simp)]; exact h1, h2⟩
  · exact h
  · exact h

theorem StStore_local {n a x v rd δ} (h : StStore n a x σ v rd δ) (ho : ∀ o ∈ fpOf rd δ, τ o = σ o) : StStore n a x τ v rd δ := by
  unfold StStore at *
  split at h
  · obtain ⟨h1, h2, cs, h3, h4, h5, h6, rfl⟩ := h
    exact ⟨h1, h2, cs, by rw [ho _ (by simp [fpOf])]; exact h3, h4, h5, h6, rfl⟩
  · exact h

theorem StMksl_local {esh bytes z l c v rd δ} (h : StMksl esh bytes z l c σ v rd δ) (ho : ∀ o ∈ fpOf rd δ, τ o = σ o) : StMksl esh bytes z l c τ v rd δ := by
  unfold StMksl at *
  split at h
  · obtain ⟨h1, h2, h3, h4, h5⟩ := h
    exact ⟨h1, h2, h3, h4, StNewSl_local h5 ho⟩
  · exact h

theorem fp_sub {rd : List Nat} {δ : Option (Nat × Ob)} {o : Nat} (h : o ∈ rd) : o ∈ fpOf rd δ := by
  cases δ with
  | none => exact h
  | some p => simp [fpOf, h]

theorem StApp_local {esh bytes s x v rd δ} (h : StApp esh bytes s x σ v rd δ) (ho : ∀ o ∈ fpOf rd δ, τ o = σ o) : StApp esh bytes s x τ v rd δ := by
  obtain ⟨n, cells, rdx, h1, h2, h3⟩ := h
  rcases h3 with ⟨h4, h5, rfl, h7⟩ | h5
  · exact ⟨n, cells, rd, Src_local h1 (fun o h => ho o (fp_sub h)), h2, .inl ⟨h4, h5, rfl, h7⟩⟩
  · split at h5
    · obtain ⟨h4, a, b, rfl, c⟩ := h5
      exact ⟨n, cells, rd, Src_local h1 (fun o h => ho o (fp_sub h)), h2, .inr (⟨h4, a, b, rfl, StNewSl_local c (fun o h => ho o (by
        cases δ with
        | none => simp [fpOf] at h
        | some p => simp [fpOf] at h ⊢; exact .inl h))⟩)⟩
    · obtain ⟨h4, a, b, b', rfl, c⟩ := h5
      exact ⟨n, cells, rd, Src_local h1 (fun o h => ho o (fp_sub h)), h2, .inr (⟨h4, a, b, b', rfl, StNewSl_local c (fun o h => ho o (by
        cases δ with
        | none => simp [fpOf] at h
        | some p => simp [fpOf] at h ⊢; exact .inl h))⟩)⟩
    · obtain ⟨h4, a, b, b', rfl, cs, c, d, rfl⟩ := h5
      exact ⟨n, cells, rdx, Src_local h1 (fun o h => ho o (fp_sub (by simp [h]))), h2, .inr (⟨h4, a, b, b', rfl, cs, by rw [ho _ (by simp [fpOf])]; exact c, d, rfl⟩)⟩
    · exact h5.elim

theorem StCpyT_local {esh s x v rd δ} (h : StCpyT esh s x σ v rd δ) (ho : ∀ o ∈ fpOf rd δ, τ o = σ o) : StCpyT esh s x τ v rd δ := by
  obtain ⟨o, ver, off, m, o', ver', off', k, cells, a, b, c, d, e, f, cs, g, rfl⟩ := h
  exact ⟨o, ver, off, m, o', ver', off', k, cells, a, b, c, Src_local d (fun o h => ho o (fp_sub h)), e, f, cs, by rw [ho _ (by simp [fpOf])]; exact g, rfl⟩
theorem StSlp_local {n esh x lo hi v rd} (h : StSlp n esh x lo hi σ v rd) (ho : ∀ o ∈ rd, τ o = σ o) : StSlp n esh x lo hi τ v rd := by
  unfold StSlp at *
  split at h
  · obtain ⟨rfl, cs, l, h', h1, h2⟩ := h
    exact ⟨rfl, cs, l, h', by rw [ho _ (by simp)]; exact h1, h2⟩
  · exact h
theorem StClr_local {esh z x v rd δ} (h : StClr esh z x σ v rd δ) (ho : ∀ o ∈ fpOf rd δ, τ o = σ o) : StClr esh z x τ v rd δ := by
  obtain ⟨h1, h2, h⟩ := h
  refine ⟨h1, h2, ?_⟩
  split at h
  · exact h
  · obtain ⟨a, b, cs, c, rfl⟩ := h
    exact ⟨a, b, cs, by rw [ho _ (by simp [fpOf])]; exact c, rfl⟩
  · exact h

theorem StCpy_local {esh s x v rd δ} (h : StCpy esh s x σ v rd δ) (ho : ∀ o ∈ fpOf rd δ, τ o = σ o) : StCpy esh s x τ v rd δ := by
  obtain ⟨n, cells, rdx, h1, h2, h3⟩ := h
  split at h3
  · obtain ⟨a, b, c, rfl, cs, d, rfl⟩ := h3
    exact ⟨n, cells, rd, Src_local h1 (fun o h => ho o (fp_sub h)), h2, a, b, c, rfl, cs, by rw [ho _ (by simp [fpOf])]; exact d, rfl⟩
  · obtain ⟨a, b, rfl, d⟩ := h3
    exact ⟨n, cells, rd, Src_local h1 (fun o h => ho o (fp_sub h)), h2, a, b, rfl, d⟩
  · exact h3.elim

theorem StMkm_local {v rd δ} (h : StMkm σ v rd δ) (ho : ∀ o ∈ fpOf rd δ, τ o = σ o) : StMkm τ v rd δ := by
  obtain ⟨h1, o, h2, h3, rfl⟩ := h
  exact ⟨h1, o, by rw [ho _ (by simp [fpOf])]; exact h2, h3, rfl⟩
theorem StLkp_local {k z ok x i v rd} (h : StLkp k z ok x i σ v rd) (ho : ∀ o ∈ rd, τ o = σ o) : StLkp k z ok x i τ v rd := by
  unfold StLkp at *
  split at h
  · obtain ⟨h1, rfl, es, it, r, h2, h3⟩ := h
    exact ⟨h1, rfl, es, it, r, by rw [ho _ (by simp)]; exact h2, h3⟩
  · exact h
theorem StMpu_local {k x i y v rd δ} (h : StMpu k x i y σ v rd δ) (ho : ∀ o ∈ fpOf rd δ, τ o = σ o) : StMpu k x i y τ v rd δ := by
  unfold StMpu at *
  split at h
  · obtain ⟨h1, rfl, h0, es, es', h2, h3, rfl⟩ := h
    exact ⟨h1, rfl, h0, es, es', by rw [ho _ (by simp [fpOf])]; exact h2, h3, rfl⟩
  · exact h
theorem StRgm_local {x v rd δ} (h : StRgm x σ v rd δ) (ho : ∀ o ∈ fpOf rd δ, τ o = σ o) : StRgm x τ v rd δ := by
  unfold StRgm at *
  split at h
  · obtain ⟨rfl, es, h2, h3, rfl⟩ := h
    exact ⟨rfl, es, by rw [ho _ (by simp [fpOf])]; exact h2, h3, rfl⟩
  · exact h
theorem StEnt_local {x v rd} (h : StEnt x σ v rd) (ho : ∀ o ∈ rd, τ o = σ o) : StEnt x τ v rd := by
  unfold StEnt at *
  split at h
  · obtain ⟨rfl, es, sn, i, e, h2, h3⟩ := h
    exact ⟨rfl, es, sn, i, e, by rw [ho _ (by simp)]; exact h2, h3⟩
  · exact h
theorem St_local {r : ROp} {F G : Fm} {v rd δ} (h : St r F σ v rd δ) (hs : ∀ t ∈ r.slots, G t = F t) (ho : ∀ o ∈ fpOf rd δ, τ o = σ o) : St r G τ v rd δ := by
  cases r <;> simp only [ROp.slots, List.mem_append] at hs <;> simp only [St] at h ⊢
  case pick c a b => rw [ev_agree (fun t ht => hs t (.inl ht)), ev_agree (fun t ht => hs t (.inr (.inl ht))), ev_agree (fun t ht => hs t (.inr (.inr ht)))]; exact h
  case new => exact StNew_local h ho
  case mkm => exact StMkm_local h ho
  case lkp => rw [ev_agree (fun t ht => hs t (.inl ht)), ev_agree (fun t ht => hs t (.inr ht))]; exact ⟨StLkp_local h.1 (fun o h => ho o (fp_sub h)), h.2⟩
  case mpu => rw [ev_agree (fun t ht => hs t (.inl ht)), ev_agree (fun t ht => hs t (.inr (.inl ht))), ev_agree (fun t ht => hs t (.inr (.inr ht)))]; exact StMpu_local h ho
  case rgm => rw [ev_agree hs]; exact StRgm_local h ho
  case ent => rw [ev_agree hs]; exact ⟨StEnt_local h.1 (fun o h => ho o (fp_sub h)), h.2⟩
  case box => rw [ev_agree hs]; exact ⟨h.1, StNew_local h.2 ho⟩
  case build => rw [evP_agree hs]; exact h
  case bsl => rw [evP_agree hs]; obtain ⟨cs, h1, h2⟩ := h; exact ⟨cs, h1, StNewSl_local h2 ho⟩
  case load => rw [ev_agree hs]; exact ⟨StLoad_local h.1 (fun o h => ho o (fp_sub h)), h.2⟩
  case store => rw [ev_agree (fun t ht => hs t (.inl ht)), ev_agree (fun t ht => hs t (.inr ht))]; exact StStore_local h ho
  case mkf => rw [evL_agree (fun t ht => hs t (.inl ht)), evL_agree (fun t ht => hs t (.inr ht))]; exact h
  case mksl => rw [ev_agree (fun t ht => hs t (.inl ht)), ev_agree (fun t ht => hs t (.inr ht))]; exact StMksl_local h ho
  case slc => rw [ev_agree (fun t ht => hs t (.inl ht)), evO_agree (fun t ht => hs t (.inr (.inl ht))), evO_agree (fun t ht => hs t (.inr (.inr (.inl ht)))), evO_agree (fun t ht => hs t (.inr (.inr (.inr ht))))]; exact h
  case slp => rw [ev_agree (fun t ht => hs t (.inl ht)), evO_agree (fun t ht => hs t (.inr (.inl ht))), evO_agree (fun t ht => hs t (.inr (.inr ht)))]; exact ⟨StSlp_local h.1 (fun o h => ho o (fp_sub h)), h.2⟩
  case clr => rw [ev_agree hs]; exact StClr_local h ho
  case sls => rw [ev_agree (fun t ht => hs t (.inl ht)), evO_agree (fun t ht => hs t (.inr (.inl ht))), evO_agree (fun t ht => hs t (.inr (.inr ht)))]; exact h
  case b2s =>
    rw [ev_agree hs]
    obtain ⟨⟨n, s, h1, h2, h3⟩, h4⟩ := h
    exact ⟨⟨n, s, Src_local h1 (fun o h => ho o (fp_sub h)), h2, h3⟩, h4⟩
  case app => rw [ev_agree (fun t ht => hs t (.inl ht)), ev_agree (fun t ht => hs t (.inr ht))]; exact StApp_local h ho
  case cpy => rw [ev_agree (fun t ht => hs t (.inl ht)), ev_agree (fun t ht => hs t (.inr ht))]; exact h.elim (fun h => .inl (StCpy_local h ho)) (fun h => .inr (StCpyT_local h ho))
  all_goals first
    | (rw [ev_agree hs]; exact h)
    | (rw [ev_agree (fun t ht => hs t (.inl ht)), ev_agree (fun t ht => hs t (.inr ht))]; exact h)
end

def LG.agrees (le : LG) (σ τ : Hp) : Prop := match le with | .acc fp _ => ∀ o ∈ fp, τ o = σ o | .eff => τ = σ | .rdl o J => J (τ o) | .efs st => (∃ T, τ = hp T) ∧ ∀ o, o < st → τ o = σ o
def LG.after (le : LG) (σ' τ : Hp) (o : Nat) : Ob := match le with | .acc _ wr => if wr = some o then σ' o else τ o | .eff => σ' o | .rdl _ _ => τ o | .efs st => if o < st then σ' o else τ o

/-- The heap behind an operation that was met in another one. -/
theorem StepG_local {P : Program} {c : RC} {F G : Fm} {σ σ' τ : Hp} {v : AV} {le : LG} (h : StepG P c F σ v σ' le) (hs : ∀ t ∈ c.slots, G t = F t)
    (ho : le.agrees σ τ) : ∃ τ', StepG P c G τ v τ' le ∧ (∀ o, τ' o = le.after σ' τ o) := by
  have hcall : ∀ f args, StepCall P f args σ v σ' le → ∃ τ', StepCall P f args τ v τ' le ∧ (∀ o, τ' o = le.after σ' τ o) := by
    rintro f args (⟨h1, h2, h3, rfl, rfl⟩ | ⟨h1, rfl⟩ | ⟨M, h1, rfl, rfl⟩ | ⟨st, h0, h1, rfl⟩)
    · exact ⟨τ, .inl ⟨h1, h2, h3, rfl, rfl⟩, fun o => by simp [LG.after]⟩
    · simp only [LG.agrees] at ho; subst ho
      exact ⟨σ', .inr (.inl ⟨h1, rfl⟩), fun o => rfl⟩
    · simp only [LG.agrees] at ho
      exact ⟨τ, .inr (.inr (.inl ⟨M, fun ρ hρ => h1 ρ (fun o h => (hρ o h).trans (ho o h)), rfl, rfl⟩)), fun o => by simp [LG.after]⟩
    · simp only [LG.agrees] at ho
      refine ⟨fun o => if o < st then σ' o else τ o, .inr (.inr (.inr ⟨st, ho.1, ⟨fun o h => if_neg (by omega), fun υ hυf hυ => ?_⟩, rfl⟩)), fun o => rfl⟩
      have := h1.2 υ hυf (fun o h => (hυ o h).trans (ho.2 o h))
      rwa [show (fun o => if o < st then (if o < st then σ' o else τ o) else υ o) = (fun o => if o < st then σ' o else υ o) by
        funext o
        by_cases h : o < st
        · simp [h]
        · simp [h]]
  cases c with
  | op r =>
    rcases h with ⟨rd, δ, ⟨v0, h1, h1w⟩, rfl, rfl⟩ | ⟨hl, o0, J, h1, h2, rfl, rfl⟩
    case inr => exact ⟨τ, .inr ⟨hl, o0, J, fun ρ hρ => (by obtain ⟨rd, v0, a, b⟩ := h1 ρ hρ; exact ⟨rd, v0, St_local a hs (fun _ _ => rfl), b⟩), ho, rfl, rfl⟩, fun o => rfl⟩
    refine ⟨ap τ δ, .inl ⟨rd, δ, ⟨v0, St_local h1 hs ho, h1w⟩, rfl, rfl⟩, fun o => ?_⟩
    cases δ with
    | none => simp [ap, LG.after]
    | some p =>
      obtain ⟨o', x⟩ := p
      by_cases e : o' = o
      · subst e; simp [ap, LG.after]
      · have e' : o ≠ o' := fun h => e h.symm
        simp [ap, LG.after, upd_ne _ _ e', e]
  | call f args =>
    simp only [StepG, RC.slots] at h hs ⊢
    rw [evL_agree hs]
    exact hcall _ _ h
  | callv x args =>
    simp only [StepG, RC.slots, List.mem_append] at h hs ⊢
    rw [evL_agree (fun t ht => hs t (.inr ht)), ev_agree (fun t ht => hs t (.inl ht))]
    generalize ev F x = q at h ⊢
    cases q <;> try exact h.elim
    rename_i f first caps
    cases f <;> try exact h.elim
    obtain ⟨h0, h⟩ := h
    obtain ⟨τ', h1, h2⟩ := hcall _ _ h
    exact ⟨τ', ⟨h0, h1⟩, h2⟩
  | inv x m args =>
    simp only [StepG, RC.slots, List.mem_append] at h hs ⊢
    rw [evL_agree (fun t ht => hs t (.inr ht)), ev_agree (fun t ht => hs t (.inl ht))]
    generalize ev F x = q at h ⊢
    cases q <;> try exact h.elim
    rename_i t v0
    simp only at h ⊢
    cases hm : methOf P t m with
    | none =>
      simp only [hm] at h ⊢
      unfold InvVal at h ⊢
      split at h
      · obtain ⟨h0, rfl, y, rd, h1, h2⟩ := h
        simp only [LG.agrees] at ho; subst ho
        exact ⟨σ', ⟨h0, rfl, y, rd, h1, h2⟩, fun o => rfl⟩
      · exact h.elim
    | some f =>
      simp only [hm] at h ⊢
      obtain ⟨h0, h⟩ := h
      obtain ⟨τ', h1, h2⟩ := hcall _ _ h
      exact ⟨τ', ⟨h0, h1⟩, h2⟩

/-- A load that does not hang on what others do changes nothing. -/
theorem StepG_rdl {P : Program} {c : RC} {F : Fm} {σ σ' : Hp} {v : AV} {o : Nat} {J : Ob → Prop} (h : StepG P c F σ v σ' (.rdl o J)) : σ' = σ ∧ J (σ o) := by
  have hcall : ∀ f args, StepCall P f args σ v σ' (.rdl o J) → False := by
    rintro f args (⟨h1, h2, h3, rfl, h5⟩ | ⟨h1, h5⟩ | ⟨M, h1, rfl, h5⟩ | ⟨st, _, h1, h5⟩) <;> cases h5
  cases c with
  | op r =>
    rcases h with ⟨rd, δ, h1, rfl, h2⟩ | ⟨_, o0, J, _, h1, h3, h2⟩
    · cases h2
    · cases h2; exact ⟨h3, h1⟩
  | call f args => exact (hcall _ _ h).elim
  | callv x args =>
    simp only [StepG] at h
    split at h
    · exact (hcall _ _ h.2).elim
    · exact h.elim
  | inv x m args =>
    simp only [StepG] at h
    split at h
    · split at h
      · exact (hcall _ _ h.2).elim
      · unfold InvVal at h
        split at h
        · exact absurd h.2.1 (by simp)
        · exact h.elim
    · exact h.elim
/-- What was changed is what the entry says. -/
theorem StepG_changes {P : Program} {c : RC} {F : Fm} {σ σ' : Hp} {v : AV} {fp wr} (h : StepG P c F σ v σ' (.acc fp wr)) : (∀ o, wr ≠ some o → σ' o = σ o) ∧ (∀ o, wr = some o → o ∈ fp) := by
  have hcall : ∀ f args, StepCall P f args σ v σ' (.acc fp wr) → (∀ o, wr ≠ some o → σ' o = σ o) ∧ (∀ o, wr = some o → o ∈ fp) := by
    rintro f args (⟨h1, h2, h3, rfl, h5⟩ | ⟨h1, h5⟩ | ⟨M, h1, rfl, h5⟩ | ⟨st, _, h1, h5⟩)
    · cases h5; exact ⟨fun _ _ => rfl, fun o h => by cases h⟩
    · cases h5
    · cases h5; exact ⟨fun _ _ => rfl, fun o h => by cases h⟩
    · cases h5
  cases c with
  | op r =>
    rcases h with ⟨rd, δ, h1, rfl, h2⟩ | ⟨_, o0, J, _, _, _, h2⟩
    case inr => cases h2
    cases h2
    cases δ with
    | none => exact ⟨fun _ _ => rfl, fun o h => by cases h⟩
    | some p =>
      obtain ⟨o', x⟩ := p
      refine ⟨fun o h => ?_, fun o h => by cases h; simp [fpOf]⟩
      have e' : o ≠ o' := fun h' => h (by simp [h'])
      simp [ap, upd_ne _ _ e']
  | call f args => exact hcall _ _ h
  | callv x args =>
    simp only [StepG] at h
    split at h
    · exact hcall _ _ h.2
    · exact h.elim
  | inv x m args =>
    simp only [StepG] at h
    split at h
    · split at h
      · exact hcall _ _ h.2
      · unfold InvVal at h
        split at h
        · exact absurd h.2.1 (by simp)
        · exact h.elim
    · exact h.elim
end Go.Ab
/- Regions: in the order of the text, and in any order. -/
namespace Go.Ab
set_option linter.constructorNameAsVariable false
set_option linter.unusedSimpArgs false
set_option linter.unusedVariables false
open Go.RowKit
set_option linter.unusedVariables false
set_option linter.unusedSimpArgs false

abbrev Fr := List (Nat × AV)
def Fr.get : Fr → Fm
  | [], _ => .junk
  | (t', v) :: r, t => if t = t' then v else Fr.get r t

theorem Fr.get_cons (fr : Fr) (d : Nat) (v : AV) : Fr.get ((d, v) :: fr) = upd (Fr.get fr) d v := by
  funext t; simp [Fr.get, upd]

/-! ### the last one of those that .. -/
section
variable {α : Type}
open Classical in
noncomputable def pick (p : Nat → Prop) (x0 : α) (f : Nat → α) : Nat → α
  | 0 => x0
  | n + 1 => if p n then f n else pick p x0 f n

theorem pick_congr {p q : Nat → Prop} {x0 : α} {f : Nat → α} : ∀ {n : Nat}, (∀ j, j < n → (p j ↔ q j)) → pick p x0 f n = pick q x0 f n
  | 0, _ => rfl
  | n + 1, h => by
    simp only [pick]
    rw [pick_congr (n := n) (fun j hj => h j (by omega))]
    by_cases hp : p n
    · rw [if_pos hp, if_pos ((h n (by omega)).1 hp)]
    · rw [if_neg hp, if_neg (fun hq => hp ((h n (by omega)).2 hq))]

theorem pick_cut {p : Nat → Prop} {x0 : α} {f : Nat → α} {i : Nat} : ∀ {n : Nat}, i ≤ n → (∀ j, i ≤ j → j < n → ¬ p j) → pick p x0 f n = pick p x0 f i
  | 0, h, _ => by simp at h; subst h; rfl
  | n + 1, h, hp => by
    by_cases e : i = n + 1
    · subst e; rfl
    · simp only [pick]
      rw [if_neg (hp n (by omega) (by omega))]
      exact pick_cut (by omega) (fun j a b => hp j a (by omega))

theorem pick_at {p : Nat → Prop} {x0 : α} {f : Nat → α} {i n : Nat} (h : i < n) (hi : p i) (hp : ∀ j, i < j → j < n → ¬ p j) : pick p x0 f n = f i := by
  rw [pick_cut (i := i + 1) h (fun j a b => hp j (by omega) b)]
  simp [pick, hi]
end

/-! ### which operations come ahead of which -/
def befOf (acc : List Nat) : List Edge → Nat
  | [] => 0
  | e :: r => if Region.binds .any e then (1 <<< e.on) ||| (acc.getD e.on 0) ||| befOf acc r else befOf acc r

def befAll : List Nat → List Oper → List Nat
  | acc, [] => acc
  | acc, o :: r => befAll (acc ++ [befOf acc o.after.toList]) r

def ordB (bs : List Nat) (i j : Nat) : Bool := (bs.getD (max i j) 0).testBit (min i j)

theorem befOf_bit {acc : List Nat} {j : Nat} : ∀ {es : List Edge}, (befOf acc es).testBit j = true → ∃ e ∈ es, Region.binds .any e = true ∧ (e.on = j ∨ (acc.getD e.on 0).testBit j = true)
  | [], h => by simp [befOf] at h
  | e :: r, h => by
    simp only [befOf] at h
    split at h
    · rename_i hb
      simp only [Nat.testBit_or, Bool.or_eq_true] at h
      rcases h with (h | h) | h
      · refine ⟨e, by simp, hb, .inl ?_⟩
        simp [Nat.one_shiftLeft, Nat.testBit_two_pow] at h
        exact h
      · exact ⟨e, by simp, hb, .inr h⟩
      · obtain ⟨e', a, b⟩ := befOf_bit h
        exact ⟨e', by simp [a], b⟩
    · obtain ⟨e', a, b⟩ := befOf_bit h
      exact ⟨e', by simp [a], b⟩

theorem befAll_get : ∀ (r : List Oper) (acc : List Nat) (i : Nat), i < acc.length → (befAll acc r).getD i 0 = acc.getD i 0
  | [], acc, i, _ => rfl
  | o :: r, acc, i, h => by
    rw [befAll, befAll_get r _ i (by simp; omega)]
    simp [List.getD_eq_getElem?_getD, List.getElem?_append_left h]

/-- A set that is closed under the edges is closed under 'ahead of'. -/
theorem bef_closed {ls : Nat → Prop} : ∀ (r : List Oper) (acc : List Nat) (pre : List Oper), acc.length = pre.length →
    (∀ i o, (pre ++ r)[i]? = some o → ls i → ∀ e ∈ o.after.toList, Region.binds .any e = true → ls e.on) →
    (∀ i, i < acc.length → ls i → ∀ j, (acc.getD i 0).testBit j = true → ls j) →
    ∀ i, ls i → ∀ j, ((befAll acc r).getD i 0).testBit j = true → ls j
  | [], acc, pre, _, _, hacc, i, hi, j, hj => by
    by_cases h : i < acc.length
    · exact hacc i h hi j hj
    · simp only [befAll] at hj
      rw [List.getD_eq_getElem?_getD, List.getElem?_eq_none (by omega)] at hj
      simp at hj
  | o :: r, acc, pre, hl, hcl, hacc, i, hi, j, hj => by
    refine bef_closed r (acc ++ [befOf acc o.after.toList]) (pre ++ [o]) (by simp [hl]) (by simpa using hcl) (fun i' hi' hls j' hj' => ?_) i hi j hj
    by_cases h : i' < acc.length
    · refine hacc i' h hls j' ?_
      simpa [List.getD_eq_getElem?_getD, List.getElem?_append_left h] using hj'
    · have e : i' = acc.length := by simp at hi'; omega
      subst e
      have hj2 : (befOf acc o.after.toList).testBit j' = true := by
        simpa [List.getD_eq_getElem?_getD] using hj'
      obtain ⟨e, he1, he2, he3⟩ := befOf_bit hj2
      have h1 := hcl acc.length o (by simp [hl]) hls e he1 he2
      rcases he3 with rfl | he3
      · exact h1
      · by_cases hlt : e.on < acc.length
        · exact hacc e.on hlt h1 j' he3
        · rw [List.getD_eq_getElem?_getD, List.getElem?_eq_none (by omega)] at he3
          simp at he3

/-! ### resolved regions -/
def dstOk (n : Nat) : Option Nat → Bool
  | none => true
  | some d => decide (d < n)

def resOper (P : Program) (n : Nat) (ops : Array Oper) (o : Oper) : Option ROper :=
  match resRC P o.op with
  | none => none
  | some c =>
    if dstOk n o.dst then
      match o.guard with
      | none => some ⟨o.dst, none, c⟩
      | some (j, b) => match (ops[j]?).bind (·.dst) with
        | some t => some ⟨o.dst, some (t, b), c⟩
        | none => none
    else none

def resOpers (P : Program) (n : Nat) (ops : Array Oper) : List Oper → Option (List ROper)
  | [] => some []
  | o :: r => match resOper P n ops o, resOpers P n ops r with
    | some x, some xs => some (x :: xs)
    | _, _ => none

theorem resOper_eq {P n ops o ro} (h : resOper P n ops o = some ro) : resRC P o.op = some ro.c ∧ ro.dst = o.dst ∧ (∀ d, o.dst = some d → d < n) ∧
    (match o.guard with | none => ro.guard = none | some (j, b) => ∃ t, (ops[j]?).bind (·.dst) = some t ∧ ro.guard = some (t, b)) := by
  unfold resOper at h
  split at h
  · cases h
  · rename_i c hc
    split at h
    · rename_i hd
      have hd' : ∀ d, o.dst = some d → d < n := fun d e => by rw [e] at hd; simpa [dstOk] using hd
      split at h
      · rename_i hg
        cases h
        exact ⟨hc, rfl, hd', rfl⟩
      · rename_i j b hg
        split at h
        · rename_i t ht
          cases h
          exact ⟨hc, rfl, hd', t, ht, rfl⟩
        · cases h
    · cases h

theorem resOpers_get {P : Program} {n : Nat} {ops : Array Oper} : ∀ {l : List Oper} {rs : List ROper}, resOpers P n ops l = some rs → rs.length = l.length ∧ ∀ (i : Nat) (o : Oper), l[i]? = some o → ∃ ro, rs[i]? = some ro ∧ resOper P n ops o = some ro
  | [], rs, h => by simp [resOpers] at h; subst h; simp
  | o :: r, rs, h => by
    simp only [resOpers] at h
    split at h
    · rename_i x xs h1 h2
      cases h
      obtain ⟨i1, i2⟩ := resOpers_get h2
      refine ⟨by simp [i1], fun i o' ho => ?_⟩
      cases i with
      | zero => simp at ho; subst ho; exact ⟨x, rfl, h1⟩
      | succ i => exact i2 i o' (by simpa using ho)
    · cases h

def putF (fr : Fr) : Option Nat → AV → Fr
  | none, _ => fr
  | some d, v => (d, v) :: fr

def putM (F : Fm) : Option Nat → AV → Fm
  | none, _ => F
  | some d, v => upd F d v

theorem get_putF (fr : Fr) (d : Option Nat) (v : AV) : Fr.get (putF fr d v) = putM (Fr.get fr) d v := by
  cases d with
  | none => rfl
  | some d => exact Fr.get_cons _ _ _

theorem FRel.putM {g σ n F a d v u} (h : FRel g σ n F a) (hd : ∀ d', d = some d' → d' < n) (hv : VR g.pm g.L σ v u) : FRel g σ n (Go.Ab.putM F d v) (a.put d u) := by
  cases d with
  | none => exact h
  | some d => exact h.put (hd d rfl) hv

/-- A guard that is not met: it is the other one, or was itself passed over. -/
def gOff (want : Bool) (v : AV) : Prop := v = .bool (!want) ∨ v = .tup []

/-- The verification condition of operations in the text's order, with what each touched. -/
def VCops (P : Program) : List ROper → Fr → List Ob → List LE → (Fr → List Ob → List LE → Prop) → Prop
  | [], fr, S, log, K => K fr S log
  | o :: r, fr, S, log, K =>
    match o.guard with
    | none => VC1 P o.c (Fr.get fr) S fun v S' le => VCops P r (putF fr o.dst v) S' (le :: log) K
    | some (t, want) => match Fr.get fr t with
      | .bool b => (b = want → VC1 P o.c (Fr.get fr) S fun v S' le => VCops P r (putF fr o.dst v) S' (le :: log) K) ∧
          (b = !want → VCops P r (putF fr o.dst (.tup [])) S (.acc [] none :: log) K)
      | .tup [] => VCops P r (putF fr o.dst (.tup [])) S (.acc [] none :: log) K
      | _ => False

def lgOf : LE → LG
  | .acc fp wr => .acc fp wr
  | .eff _ _ => .eff
  | .rdl o J => .rdl o J
  | .efs _ _ st => .efs st

theorem VCcall_step {P f args S K} (h : VCcall P f args S K) : ∃ v S' le, StepCall P f args (hp S) v (hp S') (lgOf le) ∧ ((∀ A B, le = .eff A B → A = S ∧ B = S') ∧ ∀ A B st, le = .efs A B st → A = S ∧ B = S') ∧ K v S' le := by
  rcases h with ⟨v, h1, h2, h3, h4⟩ | ⟨v, S', h1, h2⟩ | ⟨v, M, h1, h2⟩ | ⟨v, S', st, h1, h2⟩
  · exact ⟨v, S, .acc [] none, .inl ⟨h1, h2, h3, rfl, rfl⟩, ⟨fun A B e => (by cases e), fun A B st e => (by cases e)⟩, h4⟩
  · exact ⟨v, S', .eff S S', .inr (.inl ⟨h1, rfl⟩), ⟨fun A B e => (by cases e; exact ⟨rfl, rfl⟩), fun A B st e => (by cases e)⟩, h2⟩
  · exact ⟨v, S, .acc M none, .inr (.inr (.inl ⟨M, h1, rfl, rfl⟩)), ⟨fun A B e => (by cases e), fun A B st e => (by cases e)⟩, h2⟩
  · exact ⟨v, S', .efs S S' st, .inr (.inr (.inr ⟨st, ⟨S, rfl⟩, h1, rfl⟩)), ⟨fun A B e => (by cases e), fun A B st e => (by cases e; exact ⟨rfl, rfl⟩)⟩, h2⟩

theorem VC1_step {P c F S K} (h : VC1 P c F S K) : ∃ v S' le, StepG P c F (hp S) v (hp S') (lgOf le) ∧ ((∀ A B, le = .eff A B → A = S ∧ B = S') ∧ ∀ A B st, le = .efs A B st → A = S ∧ B = S') ∧ K v S' le := by
  cases c with
  | op r =>
    rcases h with ⟨v, rd, δ, h1, h2⟩ | ⟨hl, v, o, J, h1, h2, h3⟩
    · exact ⟨v, apS S δ, .acc (fpOf rd δ) (δ.map (·.1)), .inl ⟨rd, δ, h1, hp_apS S δ, rfl⟩, ⟨fun A B e => (by cases e), fun A B st e => (by cases e)⟩, h2⟩
    · exact ⟨v, S, .rdl o J, .inr ⟨hl, o, J, h1, h2, rfl, rfl⟩, ⟨fun A B e => (by cases e), fun A B st e => (by cases e)⟩, h3⟩
  | call f args => exact VCcall_step h
  | callv x args =>
    simp only [VC1] at h
    generalize hq : ev F x = q at h
    cases q <;> try exact h.elim
    rename_i f first caps
    cases f <;> try exact h.elim
    obtain ⟨h0, h⟩ := h
    obtain ⟨v, S', le, h1, h2⟩ := VCcall_step h
    exact ⟨v, S', le, by simp only [StepG, hq]; exact ⟨h0, h1⟩, h2⟩
  | inv x m args =>
    simp only [VC1] at h
    generalize hq : ev F x = q at h
    cases q <;> try exact h.elim
    rename_i t v0
    simp only at h
    cases hm : methOf P t m with
    | none =>
      simp only [hm] at h
      unfold VCinv at h
      split at h
      · rename_i f sh hmv
        obtain ⟨h0, y, rd, v, S', h1, h2, h3⟩ := h
        exact ⟨v, S', .eff S S', by simp only [StepG, hq, hm]; unfold InvVal; rw [hmv]; exact ⟨h0, rfl, y, rd, h1, h2⟩, ⟨fun A B e => (by cases e; exact ⟨rfl, rfl⟩), fun A B st e => (by cases e)⟩, h3⟩
      · exact h.elim
    | some f =>
      simp only [hm] at h
      obtain ⟨h0, h⟩ := h
      obtain ⟨v, S', le, h1, h2⟩ := VCcall_step h
      exact ⟨v, S', le, by simp only [StepG, hq, hm]; exact ⟨h0, h1⟩, h2⟩

theorem wanted_of {P n ops o ro} {g σ} {F : Fm} {a : Act} (h : resOper P n ops o = some ro) (hf : FRel g σ n F a) :
    (ro.guard = none → Region.wanted o (yielded ops a.tmps) = true) ∧
    (∀ t want b, ro.guard = some (t, want) → F t = .bool b → Region.wanted o (yielded ops a.tmps) = (b == want)) ∧
    (∀ t want, ro.guard = some (t, want) → F t = .tup [] → Region.wanted o (yielded ops a.tmps) = false) := by
  obtain ⟨_, _, _, hg⟩ := resOper_eq h
  cases hgd : o.guard with
  | none =>
    rw [hgd] at hg
    simp only at hg
    exact ⟨fun _ => by simp [Region.wanted, hgd], fun t want b e => (by rw [hg] at e; cases e), fun t want e => (by rw [hg] at e; cases e)⟩
  | some p =>
    obtain ⟨j, w⟩ := p
    rw [hgd] at hg
    obtain ⟨t, h1, h2⟩ := hg
    refine ⟨(fun e => by rw [h2] at e; cases e), fun t' want b e hb => ?_, fun t' want e hb => ?_⟩
    · rw [h2] at e; cases e
      have hv := hf.get t
      rw [hb] at hv
      generalize hq : a.tmps.getD t undef = q at hv
      cases hv
      have hlt : a.tmps[t]? = some (.bool b) := by
        rw [Array.getD_eq_getD_getElem?] at hq
        cases he : a.tmps[t]? with
        | none => rw [he] at hq; simp [undef] at hq
        | some v => rw [he] at hq; simp at hq; rw [hq]
      simp only [Region.wanted, hgd, yielded, h1, Option.bind_some, hlt]
      cases b <;> cases w <;> rfl
    · rw [h2] at e; cases e
      have hv := hf.get t
      rw [hb] at hv
      generalize hq : a.tmps.getD t undef = q at hv
      cases hv with
      | tup hl _ =>
        rename_i vs
        simp only [Region.wanted, hgd, yielded, h1, Option.bind_some]
        rw [Array.getD_eq_getD_getElem?] at hq
        cases he : a.tmps[t]? with
        | none => rfl
        | some v => rw [he] at hq; simp at hq; subst hq; rfl
end Go.Ab
/- Regions are sound: in the text's order, and in every order that the edges allow. -/
namespace Go.Ab
set_option linter.constructorNameAsVariable false
set_option linter.unusedSimpArgs false
set_option linter.unusedVariables false
open Go.RowKit
set_option linter.unusedVariables false
set_option linter.unusedSimpArgs false

/-- What holds of act and world at a place of a function, seen from the function's beginning. -/
structure At (g0 : Gh) (σ0 : Hp) (n : Nat) (F : Fm) (σ : Hp) (a : Act) (w : World) : Prop where
  df : a.defers = []
  ex : ∃ g, g0.le σ0 g σ ∧ WRel g σ w ∧ FRel g σ n F a

theorem At.skip {g0 σ0 n F σ a w d} (h : At g0 σ0 n F σ a w) (hd : ∀ d', d = some d' → d' < n) : At g0 σ0 n (putM F d (.tup [])) σ (a.put d undef) w := by
  obtain ⟨h0, g, h1, h2, h3⟩ := h
  exact ⟨by cases d <;> exact h0, g, h1, h2, h3.putM hd (.tup rfl (by simp))⟩

theorem At.step {P : Program} {o : Oper} {n : Nat} {ops : Array Oper} {ro : ROper} (hr : resOper P n ops o = some ro) {g0 σ0 F σ a w} (h : At g0 σ0 n F σ a w) {σ' : Hp} {v : AV} {le : LG} (hs : StepG P ro.c F σ v σ' le)
    {next : Act → World → Prop} {Q : Exit → Act → World → Prop} (hK : ∀ a' w', At g0 σ0 n (putM F ro.dst v) σ' a' w' → next a' w') : o.wp P a w next Q := by
  obtain ⟨h0, g, h1, h2, h3⟩ := h
  obtain ⟨hc, hdst, hdn, _⟩ := resOper_eq hr
  refine StepG_wp hc hs h2 h3 (fun u w' g' k1 k2 k3 => hK _ _ ⟨?_, g', h1.trans k1, k2, ?_⟩)
  · cases o.dst <;> exact h0
  · rw [hdst]
    exact (h3.mono k1).putM hdn k3

theorem VCops_wp {P : Program} {n : Nat} {ops : Array Oper} {g0 σ0} {Q : Exit → Act → World → Prop} {K : Fr → List Ob → List LE → Prop} : ∀ (l : List Oper) (rs : List ROper) (i : Nat) (fr : Fr) (S : List Ob) (log : List LE) (a : Act) (w : World),
    (∀ j (o : Oper), l[j]? = some o → ops[i + j]? = some o) → resOpers P n ops l = some rs → VCops P rs fr S log K → At g0 σ0 n (Fr.get fr) (hp S) a w →
    (∀ fr' S' log' a' w', K fr' S' log' → At g0 σ0 n (Fr.get fr') (hp S') a' w' → Q .normal a' w') → wpOps P ops Q (List.range' i l.length) a w
  | [], rs, i, fr, S, log, a, w, _, hr, h, hat, hQ => by
    simp [resOpers] at hr; subst hr
    exact hQ _ _ _ _ _ h hat
  | o :: l, rs, i, fr, S, log, a, w, hl, hr, h, hat, hQ => by
    simp only [resOpers] at hr
    split at hr
    · rename_i ro rs' h1 h2
      cases hr
      have hoi : ops[i]? = some o := by simpa using hl 0 o rfl
      have hl' : ∀ j (o' : Oper), l[j]? = some o' → ops[i + 1 + j]? = some o' := fun j o' hj => by
        have := hl (j + 1) o' (by simpa using hj)
        rwa [show i + (j + 1) = i + 1 + j by omega] at this
      have ih := fun fr S log a w => VCops_wp (Q := Q) (K := K) (g0 := g0) (σ0 := σ0) l rs' (i + 1) fr S log a w hl' h2
      simp only [List.length_cons, List.range'_succ, wpOps, hoi]
      obtain ⟨hc, hdst, hdn, _⟩ := resOper_eq h1
      have hstep : VC1 P ro.c (Fr.get fr) S (fun v S' le => VCops P rs' (putF fr ro.dst v) S' (le :: log) K) → o.wp P a w (wpOps P ops Q (List.range' (i + 1) l.length)) Q := fun hv => by
        obtain ⟨v, S', le, k1, _, k3⟩ := VC1_step hv
        exact At.step h1 hat k1 (fun a' w' hat' => ih _ _ _ _ _ k3 (by rw [get_putF]; exact hat') hQ)
      have hat0 := hat
      obtain ⟨_, g, _, _, hf⟩ := hat
      obtain ⟨w1, w2, w3⟩ := wanted_of h1 hf
      simp only [VCops] at h
      cases hg : ro.guard with
      | none =>
        simp only [hg] at h
        rw [if_pos (w1 hg)]
        exact .inl (hstep h)
      | some p =>
        obtain ⟨t, want⟩ := p
        simp only [hg] at h
        generalize hq : Fr.get fr t = q at h
        split at h
        case h_3 => exact h.elim
        case h_2 =>
          rw [w3 t want hg hq, if_neg (by simp)]
          refine ih _ _ _ _ _ h ?_ hQ
          rw [get_putF, hdst]
          exact At.skip hat0 hdn
        rename_i b
        obtain ⟨ha, hb⟩ := h
        rw [w2 t want b hg hq]
        by_cases e : b = want
        · subst e
          rw [if_pos (by simp)]
          exact .inl (hstep (ha rfl))
        · have e' : b = !want := by cases b <;> cases want <;> simp_all
          rw [if_neg (by simp [e])]
          refine ih _ _ _ _ _ (hb e') ?_ hQ
          rw [get_putF, hdst]
          exact At.skip hat0 hdn
    · cases hr

/-! ### any order -/
def nthL (log : List LE) (i : Nat) : LE := log.reverse.getD i (.acc [] none)

def okPair : LE → LE → Prop
  | .acc fp wr, .acc fp' wr' => (match wr with | none => True | some o => o ∉ fp') ∧ (match wr' with | none => True | some o => o ∉ fp)
  | .eff S S', .acc fp wr => wr = none ∧ ∀ o ∈ fp, hp S' o = hp S o
  | .acc fp wr, .eff S S' => wr = none ∧ ∀ o ∈ fp, hp S' o = hp S o
  | .eff S S', .rdl o J => J (hp S o) ∧ J (hp S' o)
  | .rdl o J, .eff S S' => J (hp S o) ∧ J (hp S' o)
  | .efs S S' _, .rdl o J => J (hp S o) ∧ J (hp S' o)
  | .rdl o J, .efs S S' _ => J (hp S o) ∧ J (hp S' o)
  | .acc _ wr, .rdl o _ => wr ≠ some o
  | .rdl o _, .acc _ wr => wr ≠ some o
  | .rdl _ _, .rdl _ _ => True
  | .efs S S' st, .acc fp wr => (∀ o ∈ fp, o < st → hp S' o = hp S o) ∧ (∀ o, wr = some o → st ≤ o)
  | .acc fp wr, .efs S S' st => (∀ o ∈ fp, o < st → hp S' o = hp S o) ∧ (∀ o, wr = some o → st ≤ o)
  | _, _ => False

def okLog : List (Nat × Nat) → List LE → Prop
  | [], _ => True
  | (i, j) :: ps, log => okPair (nthL log i) (nthL log j) ∧ okLog ps log

/-- Operations that touch no object, whatever they are given. -/
def RC.quiet : RC → Bool
  | .op (.mv _) | .op (.pick _ _ _) | .op (.build _ _) | .op (.nchk _) | .op (.bin _ _ _ _) | .op (.eqs _ _ _ _) | .op (.un _ _) | .op (.cint _ _) | .op (.cstr _) | .op (.mki _ _) | .op (.mkf _ _ _)
  | .op (.slc _ _ _ _ _) | .op (.sls _ _ _) | .op (.fad _ _) | .op (.iad _ _ _ _) | .op (.idxs _ _) | .op (.idxa _ _ _ _) | .op (.ext _ _) | .op (.fld _ _ _) | .op (.len _ _) | .op (.mn _ _ _) | .op (.s2b _) | .op (.tas _ _) => true
  | _ => false
/-- Operations that write no object. -/
def RC.reads : RC → Bool
  | .op (.load _ _) | .op (.b2s _) | .op (.slp _ _ _ _ _) | .op (.lkp _ _ _ _ _) | .op (.ent _) => true
  | c => c.quiet

def namesOf (r : ROper) : List Nat :=
  r.c.slots ++ ((match r.guard with | none => [] | some (t, _) => [t]) ++ (match r.dst with | none => [] | some d => [d]))

/-- All that must be ordered is. -/
def drawOK (ops : List Oper) (rs : List ROper) (pairs : List (Nat × Nat)) : Bool :=
  let bs := befAll [] ops
  let n := ops.length
  (List.range n).all fun i =>
    ((ops[i]?).map fun o => o.after.toList.all fun e => !Region.binds .any e || decide (e.on < i)).getD true &&
    (List.range n).all fun j =>
      if i < j && !ordB bs i j then
        match rs[i]?, rs[j]? with
        | some x, some y =>
          (x.c.quiet || y.c.quiet || (x.c.reads && y.c.reads) || pairs.contains (i, j)) &&
          (match x.dst with | none => true | some d => !(namesOf y).contains d) &&
          (match y.dst with | none => true | some d => !(namesOf x).contains d)
        | _, _ => true
      else true
end Go.Ab
/- A region whose order is open: whatever the order, it comes to what the text's order comes to. -/
namespace Go.Ab
set_option linter.constructorNameAsVariable false
set_option linter.unusedSimpArgs false
set_option linter.unusedVariables false
open Go.RowKit
set_option linter.unusedVariables false
set_option linter.unusedSimpArgs false

theorem quiet_le {P c F σ v σ' le} (hq : RC.quiet c = true) (h : StepG P c F σ v σ' le) : σ' = σ ∧ le = .acc [] none := by
  cases c with
  | op r =>
    rcases h with ⟨rd, δ, ⟨_, h1, _⟩, rfl, rfl⟩ | ⟨hl, _⟩
    case inr => cases r <;> simp [RC.quiet] at hq <;> simp [ROp.isL] at hl
    cases r <;> simp [RC.quiet] at hq <;> simp only [St] at h1 <;> first
      | (obtain ⟨_, rfl, rfl⟩ := h1; exact ⟨rfl, rfl⟩)
  | _ => simp [RC.quiet] at hq

theorem reads_le {P c F σ v σ' le} (hq : RC.reads c = true) (h : StepG P c F σ v σ' le) : σ' = σ := by
  cases c with
  | op r =>
    by_cases hq' : RC.quiet (.op r) = true
    · exact (quiet_le hq' h).1
    · rcases h with ⟨rd, δ, ⟨_, h1, _⟩, rfl, rfl⟩ | ⟨_, o, J, _, _, h3, _⟩
      case inr => exact h3
      cases r <;> simp [RC.reads, RC.quiet] at hq hq' <;> simp only [St] at h1
      · obtain ⟨_, rfl⟩ := h1; rfl
      · obtain ⟨_, rfl⟩ := h1; rfl
      · obtain ⟨_, rfl⟩ := h1; rfl
      · obtain ⟨_, rfl⟩ := h1; rfl
      · obtain ⟨_, rfl⟩ := h1; rfl
  | _ => simp [RC.reads, RC.quiet] at hq

/-- What the text's order came to, operation by operation. -/
structure Rec (P : Program) (rs : List ROper) (N : Nat) where
  F : Nat → Fm
  S : Nat → List Ob
  val : Nat → AV
  le : Nat → LE
  go : ∀ i (ro : ROper), i < N → rs[i]? = some ro →
    ((match ro.guard with | none => True | some (t, want) => F i t = .bool want) ∧ StepG P ro.c (F i) (hp (S i)) (val i) (hp (S (i + 1))) (lgOf (le i)) ∧ ((∀ A B, le i = .eff A B → A = S i ∧ B = S (i + 1)) ∧ ∀ A B st, le i = .efs A B st → A = S i ∧ B = S (i + 1))) ∨
    ((match ro.guard with | none => False | some (t, want) => gOff want (F i t)) ∧ val i = .tup [] ∧ S (i + 1) = S i ∧ le i = .acc [] none)
  next : ∀ i (ro : ROper), i < N → rs[i]? = some ro → F (i + 1) = putM (F i) ro.dst (val i)

def Rec.log {P rs N} (r : Rec P rs N) : Nat → List LE
  | 0 => []
  | n + 1 => r.le n :: r.log n

/-- The text's order, recorded. -/
theorem VCops_rec {P : Program} {K : Fr → List Ob → List LE → Prop} : ∀ (rs : List ROper) (fr : Fr) (S : List Ob) (log : List LE), VCops P rs fr S log K →
    ∃ (r : Rec P rs rs.length) (fr' : Fr), r.F 0 = Fr.get fr ∧ r.S 0 = S ∧ Fr.get fr' = r.F rs.length ∧ K fr' (r.S rs.length) (r.log rs.length ++ log)
  | [], fr, S, log, h => ⟨⟨fun _ => Fr.get fr, fun _ => S, fun _ => .junk, fun _ => .acc [] none, fun i ro hi => by simp at hi, fun i ro hi => by simp at hi⟩, fr, rfl, rfl, rfl, h⟩
  | ro :: rs, fr, S, log, h => by
    -- one step, then the rest
    have key : ∀ v S' le, (((match ro.guard with | none => True | some (t, want) => Fr.get fr t = .bool want) ∧ StepG P ro.c (Fr.get fr) (hp S) v (hp S') (lgOf le) ∧ ((∀ A B, le = .eff A B → A = S ∧ B = S') ∧ ∀ A B st, le = .efs A B st → A = S ∧ B = S')) ∨
        ((match ro.guard with | none => False | some (t, want) => gOff want (Fr.get fr t)) ∧ v = .tup [] ∧ S' = S ∧ le = .acc [] none)) →
        VCops P rs (putF fr ro.dst v) S' (le :: log) K →
        ∃ (r : Rec P (ro :: rs) (ro :: rs).length) (fr' : Fr), r.F 0 = Fr.get fr ∧ r.S 0 = S ∧ Fr.get fr' = r.F (ro :: rs).length ∧ K fr' (r.S (ro :: rs).length) (r.log (ro :: rs).length ++ log) := fun v S' le hstep hv => by
      obtain ⟨r, fr', r1, r2, r3, r4⟩ := VCops_rec rs _ _ _ hv
      let r' : Rec P (ro :: rs) (ro :: rs).length := {
        F := fun i => match i with | 0 => Fr.get fr | i + 1 => r.F i
        S := fun i => match i with | 0 => S | i + 1 => r.S i
        val := fun i => match i with | 0 => v | i + 1 => r.val i
        le := fun i => match i with | 0 => le | i + 1 => r.le i
        go := fun i ro' hi hro => by
          cases i with
          | zero =>
            simp at hro; subst hro
            simp only [r2]
            exact hstep
          | succ i => exact r.go i ro' (by simpa using hi) (by simpa using hro)
        next := fun i ro' hi hro => by
          cases i with
          | zero => simp at hro; subst hro; simp only [r1]; exact get_putF _ _ _
          | succ i => exact r.next i ro' (by simpa using hi) (by simpa using hro) }
      have hlog : ∀ n, r'.log (n + 1) = r.log n ++ [le] := by
        intro n
        induction n with
        | zero => rfl
        | succ n ih => show r'.le (n + 1) :: r'.log (n + 1) = _; rw [ih]; rfl
      refine ⟨r', fr', rfl, rfl, r3, ?_⟩
      show K fr' (r.S rs.length) (r'.log (rs.length + 1) ++ log)
      rw [hlog]; simpa using r4
    simp only [VCops] at h
    cases hg : ro.guard with
    | none =>
      simp only [hg] at h
      obtain ⟨v, S', le, k1, k2, k3⟩ := VC1_step h
      exact key v S' le (.inl ⟨by simp [hg], k1, k2⟩) k3
    | some p =>
      obtain ⟨t, want⟩ := p
      simp only [hg] at h
      generalize hq : Fr.get fr t = q at h
      split at h
      case h_3 => exact h.elim
      case h_2 => exact key (.tup []) S (.acc [] none) (.inr ⟨by simp [hg, hq, gOff], rfl, rfl, rfl⟩) h
      rename_i b
      obtain ⟨ha, hb⟩ := h
      by_cases e : b = want
      · subst e
        obtain ⟨v, S', le, k1, k2, k3⟩ := VC1_step (ha rfl)
        exact key v S' le (.inl ⟨by simp [hg, hq], k1, k2⟩) k3
      · have e' : b = !want := by cases b <;> cases want <;> simp_all
        exact key (.tup []) S (.acc [] none) (.inr ⟨by simp [hg, hq, e', gOff], rfl, rfl, rfl⟩) (hb e')

theorem log_length {P rs N} (r : Rec P rs N) : ∀ n, (r.log n).length = n
  | 0 => rfl
  | n + 1 => by simp [Rec.log, log_length r n]

theorem nthL_log {P rs N} (r : Rec P rs N) : ∀ (n i : Nat), i < n → nthL (r.log n) i = r.le i
  | 0, i, h => by omega
  | n + 1, i, h => by
    unfold nthL
    rw [Rec.log, List.reverse_cons]
    by_cases e : i = n
    · subst e
      simp [List.getD_eq_getElem?_getD, log_length]
    · have := nthL_log r n i (by omega)
      unfold nthL at this
      rw [List.getD_eq_getElem?_getD, List.getElem?_append_left (by simp [log_length]; omega), ← List.getD_eq_getElem?_getD]
      exact this

theorem okLog_get : ∀ {ps : List (Nat × Nat)} {log : List LE}, okLog ps log → ∀ i j, (i, j) ∈ ps → okPair (nthL log i) (nthL log j)
  | [], _, _, i, j, h => by simp at h
  | (a, b) :: ps, log, h, i, j, hm => by
    obtain ⟨h1, h2⟩ := h
    rcases List.mem_cons.1 hm with h | h
    · cases h; exact h1
    · exact okLog_get h2 i j h

section
variable {P : Program} {rs : List ROper} {N : Nat} (r : Rec P rs N)

/-- Which operations change object o. -/
def Rec.W (o i : Nat) : Prop := i < N ∧ hp (r.S (i + 1)) o ≠ hp (r.S i) o
/-- Which write slot t. -/
def wrT (rs : List ROper) (t i : Nat) : Prop := ∃ ro, rs[i]? = some ro ∧ ro.dst = some t

theorem Rec.F_pick (hN : N = rs.length) (t : Nat) : ∀ k, k ≤ N → r.F k t = pick (wrT rs t) (r.F 0 t) r.val k
  | 0, _ => rfl
  | k + 1, h => by
    have hlt : k < rs.length := by omega
    have hro : rs[k]? = some rs[k] := List.getElem?_eq_getElem hlt
    have ih := Rec.F_pick hN t k (by omega)
    rw [r.next k rs[k] (by omega) hro]
    simp only [pick]
    cases hd : rs[k].dst with
    | none =>
      rw [if_neg (by rintro ⟨ro, e1, e2⟩; rw [hro] at e1; cases e1; rw [hd] at e2; cases e2)]
      exact ih
    | some d =>
      by_cases e : t = d
      · subst e
        rw [if_pos ⟨_, hro, hd⟩]
        simp [putM]
      · rw [if_neg (by rintro ⟨ro, e1, e2⟩; rw [hro] at e1; cases e1; rw [hd] at e2; cases e2; exact e rfl)]
        simp only [putM, upd_ne _ _ e]
        exact ih

theorem Rec.S_pick (o : Nat) : ∀ k, k ≤ N → hp (r.S k) o = pick (r.W o) (hp (r.S 0) o) (fun i => hp (r.S (i + 1)) o) k
  | 0, _ => rfl
  | k + 1, h => by
    simp only [pick]
    by_cases e : r.W o k
    · rw [if_pos e]
    · rw [if_neg e, ← Rec.S_pick o k (by omega)]
      have : hp (r.S (k + 1)) o = hp (r.S k) o := Classical.byContradiction fun hne => e ⟨by omega, hne⟩
      exact this

/-- The frame when just the operations of ls have been carried out. -/
noncomputable def Rec.Fl (ls : Nat → Prop) : Fm := fun t => pick (fun i => ls i ∧ wrT rs t i) (r.F 0 t) r.val N
noncomputable def Rec.σl (ls : Nat → Prop) : Hp := fun o => pick (fun i => ls i ∧ r.W o i) (hp (r.S 0) o) (fun i => hp (r.S (i + 1)) o) N

theorem pick_in {α : Type} (p : Nat → Prop) (d : α) (f : Nat → α) : ∀ k, pick p d f k = d ∨ ∃ i, i < k ∧ pick p d f k = f i
  | 0 => .inl rfl
  | k + 1 => by
    unfold pick
    split
    · exact .inr ⟨k, by omega, rfl⟩
    · rcases pick_in p d f k with h | ⟨i, h1, h2⟩
      · exact .inl h
      · exact .inr ⟨i, by omega, h2⟩
theorem len_max (S : Nat → List Ob) : ∀ k, ∃ M, ∀ i, i < k → (S i).length ≤ M
  | 0 => ⟨0, fun i hi => by omega⟩
  | k + 1 => by
    obtain ⟨M, hM⟩ := len_max S k
    refine ⟨M + (S k).length, fun i hi => ?_⟩
    by_cases h : i = k
    · subst h; omega
    · have := hM i (by omega); omega
theorem Rec.σl_fin (ls : Nat → Prop) : ∃ T, r.σl ls = hp T := by
  obtain ⟨M, hM⟩ := len_max r.S (N + 1)
  refine ⟨(List.range M).map (r.σl ls), ?_⟩
  funext o
  simp only [hp, List.getD_eq_getElem?_getD, List.getElem?_map]
  by_cases ho : o < M
  · simp [List.getElem?_range ho]
  · rw [List.getElem?_eq_none (by simp; omega)]
    have hv : ∀ i, i < N + 1 → hp (r.S i) o = .virgin := fun i hi => by
      have := hM i hi
      simp only [hp, List.getD_eq_getElem?_getD]
      rw [List.getElem?_eq_none (by omega)]; rfl
    show r.σl ls o = .virgin
    rcases pick_in (fun i => ls i ∧ r.W o i) (hp (r.S 0) o) (fun i => hp (r.S (i + 1)) o) N with h | ⟨i, h1, h2⟩
    · exact h.trans (hv 0 (by omega))
    · exact h2.trans (hv (i + 1) (by omega))

/-- A pick is the last one, or there is none. -/
theorem pick_what {α : Type _} {p : Nat → Prop} {d : α} {f : Nat → α} : ∀ k, (pick p d f k = d ∧ ∀ j, j < k → ¬ p j) ∨ ∃ i, i < k ∧ p i ∧ pick p d f k = f i ∧ ∀ j, i < j → j < k → ¬ p j
  | 0 => .inl ⟨rfl, fun j h => by omega⟩
  | k + 1 => by
    simp only [pick]
    by_cases e : p k
    · rw [if_pos e]; exact .inr ⟨k, by omega, e, rfl, fun j a b => by omega⟩
    · rw [if_neg e]
      rcases pick_what k with ⟨h1, h2⟩ | ⟨i, h1, h2, h3, h4⟩
      · refine .inl ⟨h1, fun j hj => ?_⟩
        rcases Nat.lt_or_ge j k with h | h
        · exact h2 j h
        · obtain rfl : j = k := by omega
          exact e
      · refine .inr ⟨i, by omega, h2, h3, fun j a b => ?_⟩
        rcases Nat.lt_or_ge j k with h | h
        · exact h4 j a h
        · obtain rfl : j = k := by omega
          exact e
/-- An object of which something holds ahead of and behind all that is not ordered. -/
theorem Rec.σl_J {ls : Nat → Prop} {i : Nat} (hi : i < N) {o : Nat} {J : Ob → Prop} (h0 : J (hp (r.S i) o)) (h : ∀ j, j < N → r.W o j → (ls j ↔ j < i) ∨ (J (hp (r.S j) o) ∧ J (hp (r.S (j + 1)) o))) : J (r.σl ls o) := by
  have down : ∀ d m, m + d = i → (∀ j, m ≤ j → j < i → r.W o j → J (hp (r.S j) o)) → J (hp (r.S m) o) := fun d => by
    induction d with
    | zero => intro m e _; obtain rfl : m = i := by omega
              exact h0
    | succ d ih =>
      intro m e hm
      by_cases w : r.W o m
      · exact hm m (Nat.le_refl _) (by omega) w
      · have e2 : hp (r.S (m + 1)) o = hp (r.S m) o := Classical.byContradiction fun hne => w ⟨by omega, hne⟩
        rw [← e2]
        exact ih (m + 1) (by omega) (fun j a b => hm j (by omega) b)
  unfold Rec.σl
  rcases pick_what (p := fun i => ls i ∧ r.W o i) (d := hp (r.S 0) o) (f := fun i => hp (r.S (i + 1)) o) N with ⟨h1, h2⟩ | ⟨k, h1, h2, h3, h4⟩
  · rw [h1]
    refine down i 0 (by omega) (fun j _ hj hw => ?_)
    rcases h j (by omega) hw with h | h
    · exact absurd ⟨h.2 hj, hw⟩ (h2 j (by omega))
    · exact h.1
  · rw [h3]
    rcases h k h1 h2.2 with hk | hk
    · have hki := hk.1 h2.1
      refine down (i - (k + 1)) (k + 1) (by omega) (fun j hj1 hj hw => ?_)
      rcases h j (by omega) hw with h | h
      · exact absurd ⟨h.2 hj, hw⟩ (h4 j (by omega) (by omega))
      · exact h.1
    · exact hk.2

/-- Slots: those that all their writers are ordered with. -/
theorem Rec.Fl_at (hN : N = rs.length) {ls : Nat → Prop} {i : Nat} (hi : i < N) {t : Nat} (h : ∀ j, j < N → wrT rs t j → (ls j ↔ j < i)) : r.Fl ls t = r.F i t := by
  rw [r.F_pick hN t i (by omega)]
  unfold Rec.Fl
  rw [pick_cut (i := i) (by omega) (fun j a b => by rintro ⟨h1, h2⟩; have := (h j b h2).1 h1; omega)]
  exact pick_congr (fun j hj => ⟨fun h => h.2, fun hw => ⟨(h j (by omega) hw).2 hj, hw⟩⟩)

theorem Rec.σl_at {ls : Nat → Prop} {i : Nat} (hi : i < N) {o : Nat} (h : ∀ j, j < N → r.W o j → (ls j ↔ j < i)) : r.σl ls o = hp (r.S i) o := by
  rw [r.S_pick o i (by omega)]
  unfold Rec.σl
  rw [pick_cut (i := i) (by omega) (fun j a b => by rintro ⟨h1, h2⟩; have := (h j b h2).1 h1; omega)]
  exact pick_congr (fun j hj => ⟨fun h => h.2, fun hw => ⟨(h j (by omega) hw).2 hj, hw⟩⟩)

/-- One more operation is carried out. -/
theorem Rec.Fl_step {ls ls' : Nat → Prop} {i : Nat} (hi : i < N) (hls : ∀ j, ls' j ↔ ls j ∨ j = i) {ro : ROper} (hro : rs[i]? = some ro)
    (h : ∀ t, wrT rs t i → ∀ j, j < N → wrT rs t j → j ≠ i → (ls j ↔ j < i)) (hni : ¬ ls i) : r.Fl ls' = putM (r.Fl ls) ro.dst (r.val i) := by
  funext t
  by_cases hw : wrT rs t i
  · obtain ⟨ro', e1, e2⟩ := hw
    rw [hro] at e1; cases e1
    simp only [e2, putM, upd_same]
    unfold Rec.Fl
    refine pick_at (i := i) hi ⟨(hls i).2 (.inr rfl), ro, hro, e2⟩ (fun j a b => ?_)
    rintro ⟨h1, h2⟩
    rcases (hls j).1 h1 with h1 | h1
    · have := (h t ⟨ro, hro, e2⟩ j b h2 (by omega)).1 h1; omega
    · omega
  · have e : putM (r.Fl ls) ro.dst (r.val i) t = r.Fl ls t := by
      cases hd : ro.dst with
      | none => rfl
      | some d =>
        have : t ≠ d := fun e => hw ⟨ro, hro, by rw [hd, e]⟩
        simp [putM, upd_ne _ _ this]
    rw [e]
    unfold Rec.Fl
    refine pick_congr (fun j hj => ?_)
    rw [hls]
    constructor
    · rintro ⟨h1 | rfl, h2⟩
      · exact ⟨h1, h2⟩
      · exact (hw h2).elim
    · rintro ⟨h1, h2⟩; exact ⟨.inl h1, h2⟩

open Classical in
theorem Rec.σl_step {ls ls' : Nat → Prop} {i : Nat} (hi : i < N) (hls : ∀ j, ls' j ↔ ls j ∨ j = i) (o : Nat)
    (h : r.W o i → ∀ j, j < N → r.W o j → j ≠ i → (ls j ↔ j < i)) : r.σl ls' o = if hp (r.S (i + 1)) o = hp (r.S i) o then r.σl ls o else hp (r.S (i + 1)) o := by
  by_cases hw : r.W o i
  · rw [if_neg hw.2]
    unfold Rec.σl
    refine pick_at (i := i) hi ⟨(hls i).2 (.inr rfl), hw⟩ (fun j a b => ?_)
    rintro ⟨h1, h2⟩
    rcases (hls j).1 h1 with h1 | h1
    · have := (h hw j b h2 (by omega)).1 h1; omega
    · omega
  · have : hp (r.S (i + 1)) o = hp (r.S i) o := Classical.byContradiction fun hne => hw ⟨hi, hne⟩
    rw [if_pos this]
    unfold Rec.σl
    refine pick_congr (fun j hj => ?_)
    rw [hls]
    constructor
    · rintro ⟨h1 | rfl, h2⟩
      · exact ⟨h1, h2⟩
      · exact (hw h2).elim
    · rintro ⟨h1, h2⟩; exact ⟨.inl h1, h2⟩
end
end Go.Ab
/- A region whose order is open is sound. -/
namespace Go.Ab
set_option linter.constructorNameAsVariable false
set_option linter.unusedSimpArgs false
set_option linter.unusedVariables false
open Go.RowKit
set_option linter.unusedVariables false
set_option linter.unusedSimpArgs false

theorem filter_lt {p q : Nat → Bool} : ∀ (l : List Nat) (_ : ∀ i ∈ l, q i = true → p i = true) (x : Nat), x ∈ l → p x = true → q x = false → (l.filter q).length < (l.filter p).length
  | [], _, x, h, _, _ => by simp at h
  | y :: l, hpq, x, hx, h1, h2 => by
    have hle : ∀ (l : List Nat), (∀ i ∈ l, q i = true → p i = true) → (l.filter q).length ≤ (l.filter p).length := by
      intro l
      induction l with
      | nil => simp
      | cons z l ih =>
        intro h
        have := ih (fun i hi => h i (by simp [hi]))
        have hz := h z (by simp)
        cases hq : q z <;> cases hp : p z <;> simp [List.filter_cons, hq, hp] <;> first | omega | (rw [hq, hp] at hz; simp at hz)
    rcases List.mem_cons.1 hx with rfl | hx
    · have := hle l (fun i hi => hpq i (by simp [hi]))
      simp [List.filter_cons, h1, h2]; omega
    · have ih := filter_lt l (fun i hi => hpq i (by simp [hi])) x hx h1 h2
      have hz := hpq y (by simp)
      cases hq : q y <;> cases hp : p y <;> simp [List.filter_cons, hq, hp] <;> first | omega | (rw [hq, hp] at hz; simp at hz)

theorem drawOK_get {ops : List Oper} {rs : List ROper} {pairs} (h : drawOK ops rs pairs = true) (hl : rs.length = ops.length) :
    (∀ i o, ops[i]? = some o → ∀ e ∈ o.after.toList, Region.binds .any e = true → e.on < i) ∧
    (∀ i j x y, i < j → ordB (befAll [] ops) i j = false → rs[i]? = some x → rs[j]? = some y →
      (x.c.quiet = true ∨ y.c.quiet = true ∨ (x.c.reads = true ∧ y.c.reads = true) ∨ (i, j) ∈ pairs) ∧ (∀ d, x.dst = some d → d ∉ namesOf y) ∧ (∀ d, y.dst = some d → d ∉ namesOf x)) := by
  unfold drawOK at h
  simp only [List.all_eq_true, List.mem_range, Bool.and_eq_true] at h
  refine ⟨fun i o hi e he hb => ?_, fun i j x y hij ho hx hy => ?_⟩
  · have hlt : i < ops.length := by
      rcases Nat.lt_or_ge i ops.length with h | h
      · exact h
      · rw [List.getElem?_eq_none h] at hi; cases hi
    have := (h i hlt).1
    rw [hi] at this
    simp only [Option.map_some, Option.getD_some, List.all_eq_true, Bool.or_eq_true, Bool.not_eq_true', decide_eq_true_eq] at this
    rcases this e he with h | h
    · rw [hb] at h; cases h
    · exact h
  · have hlj : j < ops.length := by
      rcases Nat.lt_or_ge j rs.length with h | h
      · omega
      · rw [List.getElem?_eq_none h] at hy; cases hy
    have := (h i (by omega)).2 j hlj
    rw [if_pos (by simp [hij, ho]), hx, hy] at this
    simp only [Bool.and_eq_true, Bool.or_eq_true, List.contains_iff_mem] at this
    obtain ⟨⟨h1, h2⟩, h3⟩ := this
    refine ⟨?_, fun d hd => ?_, fun d hd => ?_⟩
    · rcases h1 with ((h1 | h1) | h1) | h1
      · exact .inl h1
      · exact .inr (.inl h1)
      · exact .inr (.inr (.inl h1))
      · exact .inr (.inr (.inr h1))
    · rw [hd] at h2
      simpa using h2
    · rw [hd] at h3
      simpa using h3

section
variable {P : Program} {n : Nat} {ops : Array Oper} {rs : List ROper} {pairs : List (Nat × Nat)} (hr : resOpers P n ops ops.toList = some rs) (hd : drawOK ops.toList rs pairs = true)
  (r : Rec P rs rs.length) (hlog : okLog pairs (r.log rs.length))

def listedP (listed : Array Bool) (i : Nat) : Prop := listed.getD i false = true

def closedP (ops : Array Oper) (ls : Nat → Prop) : Prop := ∀ i (o : Oper), ops.toList[i]? = some o → ls i → ∀ e ∈ o.after.toList, Region.binds .any e = true → ls e.on

/-- An operation that may be next, and another that is ordered with it. -/
theorem next_ordered {ls : Nat → Prop} (hcl : closedP ops ls) {i : Nat} {o : Oper} (ho : ops.toList[i]? = some o) (hni : ¬ ls i)
    (hrd : ∀ e ∈ o.after.toList, Region.binds .any e = true → ls e.on) {j : Nat} (hji : j ≠ i) (hord : ordB (befAll [] ops.toList) (min i j) (max i j) = true) : ls j ↔ j < i := by
  have hcl' : closedP ops (fun k => ls k ∨ k = i) := by
    intro k o' hk hls e he hb
    rcases hls with h | rfl
    · exact .inl (hcl k o' hk h e he hb)
    · rw [ho] at hk; cases hk; exact .inl (hrd e he hb)
  have key : ∀ {ls' : Nat → Prop}, closedP ops ls' → ∀ k, ls' k → ∀ m, ((befAll [] ops.toList).getD k 0).testBit m = true → ls' m := fun {ls'} h => bef_closed ops.toList [] [] rfl h (by simp)
  unfold ordB at hord
  rw [show max (min i j) (max i j) = max i j by omega, show min (min i j) (max i j) = min i j by omega] at hord
  rcases Nat.lt_or_ge j i with h | h
  · rw [show max i j = i by omega, show min i j = j by omega] at hord
    refine ⟨fun _ => h, fun _ => ?_⟩
    rcases key hcl' i (.inr rfl) j hord with h | h
    · exact h
    · omega
  · rw [show max i j = j by omega, show min i j = i by omega] at hord
    exact ⟨fun hj => absurd (key hcl j hj i hord) hni, fun hlt => by omega⟩

include hr hd in
theorem slots_fixed {ls : Nat → Prop} (hcl : closedP ops ls) {i : Nat} {o : Oper} (ho : ops.toList[i]? = some o) (hni : ¬ ls i)
    (hrd : ∀ e ∈ o.after.toList, Region.binds .any e = true → ls e.on) {ro : ROper} (hro : rs[i]? = some ro) {t : Nat} (ht : t ∈ namesOf ro) : ∀ j, j < rs.length → wrT rs t j → j ≠ i → (ls j ↔ j < i) := by
  intro j hj hw hji
  obtain ⟨ro', e1, e2⟩ := hw
  cases hb : ordB (befAll [] ops.toList) (min i j) (max i j) with
  | true => exact next_ordered hcl ho hni hrd hji hb
  | false =>
    exfalso
    obtain ⟨hlen, _⟩ := resOpers_get hr
    have hdr := (drawOK_get hd hlen).2
    rcases Nat.lt_or_ge j i with h | h
    · rw [show max i j = i by omega, show min i j = j by omega] at hb
      exact (hdr j i ro' ro h hb e1 hro).2.1 t e2 ht
    · rw [show max i j = j by omega, show min i j = i by omega] at hb
      exact (hdr i j ro ro' (by omega) hb hro e1).2.2 t e2 ht

/-- What was changed, by an operation that was carried out. -/
theorem changed_by {j : Nat} {ro : ROper} (hj : j < rs.length) (hro : rs[j]? = some ro) {o : Nat} (hw : hp (r.S (j + 1)) o ≠ hp (r.S j) o) :
    StepG P ro.c (r.F j) (hp (r.S j)) (r.val j) (hp (r.S (j + 1))) (lgOf (r.le j)) ∧ ((∀ A B, r.le j = .eff A B → A = r.S j ∧ B = r.S (j + 1)) ∧ ∀ A B st, r.le j = .efs A B st → A = r.S j ∧ B = r.S (j + 1)) ∧ ro.c.reads = false ∧ ro.c.quiet = false ∧ (∀ fp wr, r.le j = .acc fp wr → wr = some o ∧ o ∈ fp) := by
  rcases r.go j ro hj hro with ⟨_, h1, h2⟩ | ⟨_, _, h2, _⟩
  · refine ⟨h1, h2, ?_, ?_, fun fp wr e => ?_⟩
    · cases h : ro.c.reads with
      | false => rfl
      | true => exact absurd (congrFun (reads_le h h1) o) hw
    · cases h : ro.c.quiet with
      | false => rfl
      | true => exact absurd (congrFun (quiet_le h h1).1 o) hw
    · rw [e] at h1
      obtain ⟨c1, c2⟩ := StepG_changes h1
      have : wr = some o := Classical.byContradiction fun hne => hw (c1 o hne)
      exact ⟨this, c2 o this⟩
  · rw [h2] at hw; exact absurd rfl hw

theorem StepG_efs {P : Program} {c : RC} {F : Fm} {σ σ' : Hp} {v : AV} {st : Nat} (h : StepG P c F σ v σ' (.efs st)) : ∀ o, st ≤ o → σ' o = σ o := by
  have hcall : ∀ f args, StepCall P f args σ v σ' (.efs st) → ∀ o, st ≤ o → σ' o = σ o := by
    rintro f args (⟨h1, h2, h3, rfl, h5⟩ | ⟨h1, h5⟩ | ⟨M, h1, rfl, h5⟩ | ⟨st', _, h1, h5⟩)
    · cases h5
    · cases h5
    · cases h5
    · cases h5; exact h1.1
  cases c with
  | op r =>
    rcases h with ⟨rd, δ, h1, rfl, h2⟩ | ⟨_, o0, J, _, _, _, h2⟩
    · cases h2
    · cases h2
  | call f args => exact hcall _ _ h
  | callv x args =>
    simp only [StepG] at h
    split at h
    · exact hcall _ _ h.2
    · exact h.elim
  | inv x m args =>
    simp only [StepG] at h
    split at h
    · split at h
      · exact hcall _ _ h.2
      · unfold InvVal at h
        split at h
        · exact absurd h.2.1 (by simp)
        · exact h.elim
    · exact h.elim
theorem okPair_symm {a b : LE} (h : okPair a b) : okPair b a := by
  cases a <;> cases b <;> simp only [okPair] at h ⊢ <;> first | exact h.elim | exact h | exact ⟨h.2, h.1⟩

include hr hd hlog in
theorem objs_fixed {ls : Nat → Prop} (hcl : closedP ops ls) {i : Nat} {o : Oper} (ho : ops.toList[i]? = some o) (hni : ¬ ls i)
    (hrd : ∀ e ∈ o.after.toList, Region.binds .any e = true → ls e.on) {ro : ROper} (hi : i < rs.length) (hro : rs[i]? = some ro) {ob : Nat}
    (hstep : StepG P ro.c (r.F i) (hp (r.S i)) (r.val i) (hp (r.S (i + 1))) (lgOf (r.le i)))
    (hob : match r.le i with | .acc fp _ => ob ∈ fp | .eff _ _ => True | .efs _ _ st => ob < st | .rdl _ _ => False) : ∀ j, j < rs.length → r.W ob j → j ≠ i → (ls j ↔ j < i) := by
  intro j hj hw hji
  cases hb : ordB (befAll [] ops.toList) (min i j) (max i j) with
  | true => exact next_ordered hcl ho hni hrd hji hb
  | false =>
    exfalso
    obtain ⟨hlen, _⟩ := resOpers_get hr
    have hdr := (drawOK_get hd hlen).2
    have hroj : rs[j]? = some rs[j] := List.getElem?_eq_getElem hj
    obtain ⟨c1, c2, c3, c4, c5⟩ := changed_by r hj hroj hw.2
    have hpair : (ro.c.quiet = true ∨ (rs[j]).c.quiet = true ∨ (ro.c.reads = true ∧ (rs[j]).c.reads = true) ∨ okPair (r.le i) (r.le j)) := by
      rcases Nat.lt_or_ge j i with h | h
      · rw [show max i j = i by omega, show min i j = j by omega] at hb
        rcases (hdr j i _ _ h hb hroj hro).1 with q | q | ⟨q, q'⟩ | q
        · exact .inr (.inl q)
        · exact .inl q
        · exact .inr (.inr (.inl ⟨q', q⟩))
        · have := okLog_get hlog j i q
          rw [nthL_log r _ _ hj, nthL_log r _ _ hi] at this
          exact .inr (.inr (.inr (okPair_symm this)))
      · rw [show max i j = j by omega, show min i j = i by omega] at hb
        rcases (hdr i j _ _ (by omega) hb hro hroj).1 with q | q | ⟨q, q'⟩ | q
        · exact .inl q
        · exact .inr (.inl q)
        · exact .inr (.inr (.inl ⟨q, q'⟩))
        · have := okLog_get hlog i j q
          rw [nthL_log r _ _ hi, nthL_log r _ _ hj] at this
          exact .inr (.inr (.inr this))
    rcases hpair with q | q | ⟨_, q⟩ | q
    · have hle := (quiet_le q hstep).2
      cases hli : r.le i with
      | acc fp wr => rw [hli] at hle hob; simp only [lgOf, LG.acc.injEq] at hle; rw [hle.1] at hob; simp at hob
      | eff A B => rw [hli] at hle; simp [lgOf] at hle
      | rdl o J => rw [hli] at hob; exact hob
      | efs A B st => rw [hli] at hle; simp [lgOf] at hle
    · rw [c4] at q; cases q
    · rw [c3] at q; cases q
    · have hnj : ∀ o' J, r.le j ≠ .rdl o' J := fun o' J e => by
        rw [e] at c1
        exact hw.2 (congrFun (StepG_rdl c1).1 ob)
      cases hli : r.le i with
      | rdl o J => rw [hli] at hob; exact hob
      | acc fp wr =>
        rw [hli] at hob q
        cases hlj : r.le j with
        | rdl o J => exact hnj _ _ hlj
        | acc fp' wr' =>
          rw [hlj] at q
          obtain ⟨e1, e2⟩ := c5 fp' wr' hlj
          subst e1
          exact q.2 hob
        | eff A B =>
          rw [hlj] at q
          obtain ⟨rfl, rfl⟩ := c2.1 A B hlj
          exact hw.2 (q.2 ob hob)
        | efs A B st =>
          rw [hlj] at q
          obtain ⟨rfl, rfl⟩ := c2.2 A B st hlj
          rcases Nat.lt_or_ge ob st with h | h
          · exact hw.2 (q.1 ob hob h)
          · rw [hlj] at c1; exact hw.2 (StepG_efs c1 ob h)
      | eff A B =>
        rw [hli] at q
        cases hlj : r.le j with
        | rdl o J => exact hnj _ _ hlj
        | acc fp' wr' =>
          rw [hlj] at q
          obtain ⟨e1, e2⟩ := c5 fp' wr' hlj
          rw [q.1] at e1; cases e1
        | eff A' B' => rw [hlj] at q; exact q
        | efs A' B' st => rw [hlj] at q; exact q
      | efs A B st =>
        rw [hli] at q hob
        cases hlj : r.le j with
        | rdl o J => exact hnj _ _ hlj
        | acc fp' wr' =>
          rw [hlj] at q
          obtain ⟨e1, e2⟩ := c5 fp' wr' hlj
          have := q.2 ob e1
          simp only at hob
          omega
        | eff A' B' => rw [hlj] at q; exact q
        | efs A' B' st => rw [hlj] at q; exact q
include hr hd hlog in
/-- What a load needs of its object holds whatever was carried out. -/
theorem J_fixed {ls : Nat → Prop} (hcl : closedP ops ls) {i : Nat} {o : Oper} (ho : ops.toList[i]? = some o) (hni : ¬ ls i)
    (hrd : ∀ e ∈ o.after.toList, Region.binds .any e = true → ls e.on) {ro : ROper} (hi : i < rs.length) (hro : rs[i]? = some ro) {ob : Nat} {J : Ob → Prop}
    (hstep : StepG P ro.c (r.F i) (hp (r.S i)) (r.val i) (hp (r.S (i + 1))) (lgOf (r.le i))) (hli : r.le i = .rdl ob J) : J (r.σl ls ob) := by
  have hst := hstep
  rw [hli] at hst
  obtain ⟨hs1, hs2⟩ := StepG_rdl hst
  refine r.σl_J hi hs2 (fun j hj hw => ?_)
  by_cases hji : j = i
  · subst hji; exact absurd (congrFun hs1 ob) hw.2
  cases hb : ordB (befAll [] ops.toList) (min i j) (max i j) with
  | true => exact .inl (next_ordered hcl ho hni hrd hji hb)
  | false =>
    obtain ⟨hlen, _⟩ := resOpers_get hr
    have hdr := (drawOK_get hd hlen).2
    have hroj : rs[j]? = some rs[j] := List.getElem?_eq_getElem hj
    obtain ⟨c1, c2, c3, c4, c5⟩ := changed_by r hj hroj hw.2
    have hpair : (ro.c.quiet = true ∨ (rs[j]).c.quiet = true ∨ (ro.c.reads = true ∧ (rs[j]).c.reads = true) ∨ okPair (r.le i) (r.le j)) := by
      rcases Nat.lt_or_ge j i with h | h
      · rw [show max i j = i by omega, show min i j = j by omega] at hb
        rcases (hdr j i _ _ h hb hroj hro).1 with q | q | ⟨q, q'⟩ | q
        · exact .inr (.inl q)
        · exact .inl q
        · exact .inr (.inr (.inl ⟨q', q⟩))
        · have := okLog_get hlog j i q
          rw [nthL_log r _ _ hj, nthL_log r _ _ hi] at this
          exact .inr (.inr (.inr (okPair_symm this)))
      · rw [show max i j = j by omega, show min i j = i by omega] at hb
        rcases (hdr i j _ _ (by omega) hb hro hroj).1 with q | q | ⟨q, q'⟩ | q
        · exact .inl q
        · exact .inr (.inl q)
        · exact .inr (.inr (.inl ⟨q, q'⟩))
        · have := okLog_get hlog i j q
          rw [nthL_log r _ _ hi, nthL_log r _ _ hj] at this
          exact .inr (.inr (.inr this))
    right
    rcases hpair with q | q | ⟨_, q⟩ | q
    · have hle := (quiet_le q hstep).2
      rw [hli] at hle; simp [lgOf] at hle
    · rw [c4] at q; cases q
    · rw [c3] at q; cases q
    · rw [hli] at q
      cases hlj : r.le j with
      | rdl o' J' => rw [hlj] at c1; exact absurd (congrFun (StepG_rdl c1).1 ob) hw.2
      | acc fp' wr' =>
        rw [hlj] at q
        exact absurd (c5 fp' wr' hlj).1 q
      | eff A B =>
        rw [hlj] at q
        obtain ⟨rfl, rfl⟩ := c2.1 A B hlj
        exact q
      | efs A B st =>
        rw [hlj] at q
        obtain ⟨rfl, rfl⟩ := c2.2 A B st hlj
        exact q
end
end Go.Ab
/- A region whose order is open is sound: the whole. -/
namespace Go.Ab
set_option linter.constructorNameAsVariable false
set_option linter.unusedSimpArgs false
set_option linter.unusedVariables false
open Go.RowKit
set_option linter.unusedVariables false
set_option linter.unusedSimpArgs false

section
variable {P : Program} {n : Nat} {ops : Array Oper} {rs : List ROper} {pairs : List (Nat × Nat)} (hr : resOpers P n ops ops.toList = some rs) (hd : drawOK ops.toList rs pairs = true)
  (r : Rec P rs rs.length) (hlog : okLog pairs (r.log rs.length))

theorem listed_set {listed : Array Bool} {i : Nat} (hi : i < listed.size) (j : Nat) : listedP (listed.setIfInBounds i true) j ↔ listedP listed j ∨ j = i := by
  unfold listedP
  simp only [Array.getD_eq_getD_getElem?, Array.getElem?_setIfInBounds]
  by_cases h : i = j
  · subst h; simp [hi]
  · rw [if_neg h]
    constructor
    · exact .inl
    · rintro (h' | rfl)
      · exact h'
      · exact absurd rfl h

include hr hd hlog in
theorem draw_any {g0 σ0} {Q : Exit → Act → World → Prop} (hQ : ∀ a w, At g0 σ0 n (r.F rs.length) (hp (r.S rs.length)) a w → Q .normal a w) : ∀ (fuel : Nat) (listed : Array Bool) (a : Act) (w : World),
    listed.size = rs.length → closedP ops (listedP listed) → ((List.range rs.length).filter fun i => !listed.getD i false).length ≤ fuel →
    At g0 σ0 n (r.Fl (listedP listed)) (r.σl (listedP listed)) a w → wpAny P .any ops Q fuel listed a w := by
  obtain ⟨hlen, hget⟩ := resOpers_get hr
  have hdr := (drawOK_get hd hlen).1
  -- all listed: the end
  have hall : ∀ (listed : Array Bool) a w, (∀ i, i < rs.length → listedP listed i) → At g0 σ0 n (r.Fl (listedP listed)) (r.σl (listedP listed)) a w → Q .normal a w := fun listed a w hl hat => by
    refine hQ a w ?_
    have e1 : r.Fl (listedP listed) = r.F rs.length := by
      funext t
      rw [r.F_pick rfl t _ (Nat.le_refl _)]
      exact pick_congr (fun j hj => ⟨fun h => h.2, fun h => ⟨hl j hj, h⟩⟩)
    have e2 : r.σl (listedP listed) = hp (r.S rs.length) := by
      funext o
      rw [r.S_pick o _ (Nat.le_refl _)]
      exact pick_congr (fun j hj => ⟨fun h => h.2, fun h => ⟨hl j hj, h⟩⟩)
    rwa [e1, e2] at hat
  -- none ready: all listed
  have hready : ∀ (listed : Array Bool), listed.size = rs.length → Region.ready .any ops listed = [] → ∀ i, i < rs.length → listedP listed i := fun listed hs hrd => by
    intro i
    induction i using Nat.strongRecOn with
    | _ i ih =>
      intro hi
      apply Classical.byContradiction
      intro hni
      have ho : ops.toList[i]? = some (ops.toList[i]'(by omega)) := List.getElem?_eq_getElem _
      have hin : i ∈ Region.ready .any ops listed := by
        unfold Region.ready
        rw [List.mem_filter]
        refine ⟨List.mem_range.2 (by simpa using (by omega : i < ops.toList.length)), ?_⟩
        have hls : listed.getD i true = false := by
          unfold listedP at hni
          have hlt : i < listed.size := by omega
          simp only [Array.getD_eq_getD_getElem?, Array.getElem?_eq_getElem hlt, Option.getD_some] at hni ⊢
          cases hq : listed[i] <;> simp_all
        have hog : ops[i]? = some (ops.toList[i]'(by omega)) := by rw [← Array.getElem?_toList]; exact ho
        rw [hls, hog]
        simp only [Bool.not_false, Bool.true_and, Option.map_some, Option.getD_some]
        rw [← Array.all_toList, List.all_eq_true]
        intro e he
        cases hb : Region.binds .any e with
        | false => simp
        | true =>
          have hlt := hdr i _ ho e he hb
          simpa [listedP] using ih e.on hlt (by omega)
      rw [hrd] at hin
      simp at hin
  intro fuel
  induction fuel with
  | zero =>
    intro listed a w hs hcl hf hat
    have hl : ∀ i, i < rs.length → listedP listed i := fun i hi => by
      apply Classical.byContradiction
      intro hni
      have : i ∈ (List.range rs.length).filter fun i => !listed.getD i false := by
        rw [List.mem_filter]
        refine ⟨List.mem_range.2 hi, ?_⟩
        unfold listedP at hni
        simpa using hni
      have h0 : ((List.range rs.length).filter fun i => !listed.getD i false) = [] := List.eq_nil_of_length_eq_zero (by omega)
      rw [h0] at this
      simp at this
    refine ⟨?_, hall listed a w hl hat⟩
    unfold Region.ready
    rw [List.filter_eq_nil_iff]
    intro i hi
    have hi' : i < rs.length := by rw [hlen]; simpa using hi
    have := hl i hi'
    unfold listedP at this
    have hlt : i < listed.size := by omega
    simp only [Array.getD_eq_getD_getElem?, Array.getElem?_eq_getElem hlt, Option.getD_some] at this ⊢
    rw [this]; simp
  | succ fuel ih =>
    intro listed a w hs hcl hf hat
    refine ⟨fun hrd => hall listed a w (hready listed hs hrd) hat, fun i hi => ?_⟩
    unfold Region.ready at hi
    rw [List.mem_filter] at hi
    obtain ⟨hi1, hi2⟩ := hi
    have hilt : i < rs.length := by rw [hlen]; simpa using hi1
    have ho : ops.toList[i]? = some (ops.toList[i]'(by omega)) := List.getElem?_eq_getElem _
    generalize hoe : ops.toList[i]'(by omega) = o at ho
    have hog : ops[i]? = some o := by rw [← Array.getElem?_toList]; exact ho
    rw [hog] at hi2
    simp only [Bool.and_eq_true, Bool.not_eq_true', Option.map_some, Option.getD_some] at hi2
    obtain ⟨hn, hea⟩ := hi2
    have hni : ¬ listedP listed i := by
      unfold listedP
      have hlt : i < listed.size := by omega
      simp only [Array.getD_eq_getD_getElem?, Array.getElem?_eq_getElem hlt, Option.getD_some] at hn ⊢
      rw [hn]; simp
    have hrd : ∀ e ∈ o.after.toList, Region.binds .any e = true → listedP listed e.on := fun e he hb => by
      rw [← Array.all_toList, List.all_eq_true] at hea
      have := hea e he
      rw [hb] at this
      simpa [listedP] using this
    obtain ⟨ro, hro, hres⟩ := hget i o ho
    obtain ⟨hc, hdst, hdn, _⟩ := resOper_eq hres
    have hset := listed_set (listed := listed) (i := i) (by omega)
    -- what follows, once the operation is carried out
    have hnext : ∀ a' w', At g0 σ0 n (r.Fl (listedP (listed.setIfInBounds i true))) (r.σl (listedP (listed.setIfInBounds i true))) a' w' → wpAny P .any ops Q fuel (listed.setIfInBounds i true) a' w' := fun a' w' hat' => by
      refine ih _ a' w' (by simpa using hs) ?_ ?_ hat'
      · intro k o' hk hls e he hb
        rw [hset] at hls ⊢
        rcases hls with h | rfl
        · exact .inl (hcl k o' hk h e he hb)
        · rw [ho] at hk; cases hk; exact .inl (hrd e he hb)
      · have := filter_lt (p := fun i => !listed.getD i false) (q := fun j => !(listed.setIfInBounds i true).getD j false) (List.range rs.length) (fun j _ hq => by
            have h1 := hset j
            unfold listedP at h1
            cases hc : listed.getD j false with
            | false => rfl
            | true => rw [h1.2 (.inl hc)] at hq; simp at hq) i (List.mem_range.2 hilt) (by
            unfold listedP at hni
            simpa using hni) (by
            have h1 := (hset i).2 (.inr rfl)
            unfold listedP at h1
            rw [h1]; rfl)
        omega
    have hslot : ∀ t ∈ namesOf ro, r.Fl (listedP listed) t = r.F i t := fun t ht => r.Fl_at rfl hilt (fun j hj hw => by
      by_cases hji : j = i
      · subst hji; exact ⟨fun h => absurd h hni, fun h => by omega⟩
      · exact slots_fixed hr hd hcl ho hni hrd hro ht j hj hw hji)
    have hFl : r.Fl (listedP (listed.setIfInBounds i true)) = putM (r.Fl (listedP listed)) ro.dst (r.val i) := r.Fl_step hilt hset hro (fun t hwt j hj hw hji => by
      obtain ⟨ro', e1, e2⟩ := hwt
      rw [hro] at e1; cases e1
      exact slots_fixed hr hd hcl ho hni hrd hro (by unfold namesOf; rw [e2]; simp) j hj hw hji) hni
    have hat0 := hat
    obtain ⟨_, g, _, _, hfr⟩ := hat
    obtain ⟨w1, w2, w3⟩ := wanted_of hres hfr
    simp only [wpOp, hog]
    rcases r.go i ro hilt hro with ⟨hgd, hstep, heff⟩ | ⟨hgd, hv, hS, hle⟩
    · -- carried out
      have hwant : Region.wanted o (yielded ops a.tmps) = true := by
        cases hg : ro.guard with
        | none => exact w1 hg
        | some p =>
          obtain ⟨t, want⟩ := p
          simp only [hg] at hgd
          rw [w2 t want want hg (by rw [hslot t (by unfold namesOf; rw [hg]; simp)]; exact hgd)]
          simp
      rw [if_pos hwant]
      refine .inl ?_
      have hob : ∀ ob, (match r.le i with | .acc fp _ => ob ∈ fp | .eff _ _ => True | .efs _ _ st => ob < st | .rdl _ _ => False) → r.σl (listedP listed) ob = hp (r.S i) ob := fun ob h => r.σl_at hilt (fun j hj hw => by
        by_cases hji : j = i
        · subst hji; exact ⟨fun h => absurd h hni, fun h => by omega⟩
        · exact objs_fixed hr hd r hlog hcl ho hni hrd hilt hro hstep h j hj hw hji)
      have hagree : (lgOf (r.le i)).agrees (hp (r.S i)) (r.σl (listedP listed)) := by
        cases hli : r.le i with
        | acc fp wr => intro ob hob'; exact hob ob (by rw [hli]; exact hob')
        | eff A B => simp only [lgOf, LG.agrees]; funext ob; exact hob ob (by rw [hli]; trivial)
        | rdl ob J => exact J_fixed hr hd r hlog hcl ho hni hrd hilt hro hstep hli
        | efs A B st => simp only [lgOf, LG.agrees]; exact ⟨r.σl_fin _, fun ob h => hob ob (by rw [hli]; exact h)⟩
      obtain ⟨τ', k1, k2⟩ := StepG_local hstep (G := r.Fl (listedP listed)) (fun t ht => hslot t (by unfold namesOf; simp [ht])) hagree
      refine At.step hres hat0 k1 (fun a' w' hat' => hnext a' w' ?_)
      rw [hFl]
      have hτ : τ' = r.σl (listedP (listed.setIfInBounds i true)) := by
        funext ob
        rw [k2, r.σl_step hilt hset ob (fun hw j hj hwj hji => by
          refine objs_fixed hr hd r hlog hcl ho hni hrd hilt hro hstep ?_ j hj hwj hji
          cases hli : r.le i with
          | eff A B => trivial
          | efs A B st =>
            simp only
            rw [hli] at hstep
            exact Nat.lt_of_not_le (fun h => hw.2 (StepG_efs hstep ob h))
          | acc fp wr => exact ((changed_by r hilt hro hw.2).2.2.2.2 fp wr hli).2
          | rdl o' J => rw [hli] at hstep; exact absurd (congrFun (StepG_rdl hstep).1 ob) hw.2)]
        cases hli : r.le i with
        | eff A B =>
          simp only [lgOf, LG.after]
          split
          · rename_i he; rw [he]; exact (hob ob (by rw [hli]; trivial)).symm
          · rfl
        | efs A B st =>
          rw [hli] at hstep
          simp only [lgOf, LG.after]
          by_cases h : ob < st
          · rw [if_pos h]
            split
            · rename_i he; rw [he]; exact (hob ob (by rw [hli]; exact h)).symm
            · rfl
          · rw [if_neg h, if_pos (StepG_efs hstep ob (by omega))]
        | acc fp wr =>
          rw [hli] at hstep
          obtain ⟨c1, c2⟩ := StepG_changes hstep
          simp only [lgOf, LG.after]
          by_cases hwr : wr = some ob
          · rw [if_pos hwr]
            split
            · rename_i he; rw [he]; exact (hob ob (by rw [hli]; exact c2 ob hwr)).symm
            · rfl
          · rw [if_neg hwr, if_pos (c1 ob hwr)]
        | rdl o' J =>
          rw [hli] at hstep
          rw [if_pos (congrFun (StepG_rdl hstep).1 ob)]
          rfl
      rw [← hτ]
      exact hat'
    · -- passed over
      have hwant : Region.wanted o (yielded ops a.tmps) = false := by
        cases hg : ro.guard with
        | none => simp only [hg] at hgd
        | some p =>
          obtain ⟨t, want⟩ := p
          simp only [hg] at hgd
          rcases hgd with hgd | hgd
          · rw [w2 t want (!want) hg (by rw [hslot t (by unfold namesOf; rw [hg]; simp)]; exact hgd)]
            cases want <;> rfl
          · exact w3 t want hg (by rw [hslot t (by unfold namesOf; rw [hg]; simp)]; exact hgd)
      rw [if_neg (by rw [hwant]; simp)]
      refine hnext _ _ ?_
      rw [hFl, hv]
      have hσ : r.σl (listedP (listed.setIfInBounds i true)) = r.σl (listedP listed) := by
        funext ob
        rw [r.σl_step hilt hset ob (fun hw => absurd (by rw [hS]) hw.2), if_pos (by rw [hS])]
      rw [hσ, hdst]
      exact At.skip hat0 hdn
end

theorem draw_wp {P : Program} {n : Nat} {ops : Array Oper} {rs : List ROper} {pairs : List (Nat × Nat)} (hm : P.follows .mixedOrders = true) (hr : resOpers P n ops ops.toList = some rs) (hd : drawOK ops.toList rs pairs = true)
    {fr : Fr} {S : List Ob} {K : Fr → List Ob → Prop} (h : VCops P rs fr S [] (fun fr' S' log => okLog pairs log ∧ K fr' S')) {g0 σ0} {a : Act} {w : World} (hat : At g0 σ0 n (Fr.get fr) (hp S) a w)
    {Q : Exit → Act → World → Prop} (hQ : ∀ fr' S' a' w', K fr' S' → At g0 σ0 n (Fr.get fr') (hp S') a' w' → Q .normal a' w') {id : Nat} : (Code.region id ops true).wp P Q a w := by
  obtain ⟨hlen, _⟩ := resOpers_get hr
  obtain ⟨r, fr', e1, e2, e3, hlog, hk⟩ := VCops_rec rs fr S [] h
  simp only [List.append_nil] at hlog
  refine wp_region_any hm ?_
  have hsz : ops.size = rs.length := by rw [hlen]; simp
  have hno : ∀ i, ¬ listedP (Array.replicate ops.size false) i := fun i => by
    unfold listedP
    simp only [Array.getD_eq_getD_getElem?, Array.getElem?_replicate]
    split <;> simp
  refine draw_any hr hd r hlog (g0 := g0) (σ0 := σ0) (fun a' w' hat' => hQ fr' _ a' w' hk (by rw [e3]; exact hat')) ops.size _ a _ (by simp [hsz]) (fun i o _ hi => absurd hi (hno i)) ?_ ?_
  · rw [hsz]
    exact Nat.le_trans (List.length_filter_le _ _) (by simp)
  · have f1 : r.Fl (listedP (Array.replicate ops.size false)) = Fr.get fr := by
      funext t
      rw [← e1]
      unfold Rec.Fl
      rw [pick_cut (i := 0) (by omega) (fun j _ _ h => hno j h.1)]
      rfl
    have f2 : r.σl (listedP (Array.replicate ops.size false)) = hp S := by
      funext o
      rw [← e2]
      unfold Rec.σl
      rw [pick_cut (i := 0) (by omega) (fun j _ _ h => hno j h.1)]
      rfl
    rw [f1, f2]
    obtain ⟨h0, g, h1, h2, h3⟩ := hat
    exact ⟨h0, g, h1, h2.drew, h3⟩

theorem text_wp {P : Program} {n : Nat} {ops : Array Oper} {rs : List ROper} (hr : resOpers P n ops ops.toList = some rs)
    {fr : Fr} {S : List Ob} {K : Fr → List Ob → Prop} (h : VCops P rs fr S [] (fun fr' S' _ => K fr' S')) {g0 σ0} {a : Act} {w : World} (hat : At g0 σ0 n (Fr.get fr) (hp S) a w)
    {Q : Exit → Act → World → Prop} (hQ : ∀ fr' S' a' w', K fr' S' → At g0 σ0 n (Fr.get fr') (hp S') a' w' → Q .normal a' w') {id : Nat} : (Code.region id ops false).wp P Q a w := by
  refine wp_region ?_
  have := VCops_wp (P := P) (n := n) (ops := ops) (Q := Q) ops.toList rs 0 fr S [] a w (fun j o hj => by rw [Nat.zero_add, ← Array.getElem?_toList]; exact hj) hr h hat (fun fr' S' _ a' w' hk => hQ fr' S' a' w' hk)
  rw [List.range_eq_range']
  simpa using this
end Go.Ab
/- Functions' bodies: their code resolved, verification conditions, and what a call comes to. -/
namespace Go.Ab
set_option linter.constructorNameAsVariable false
set_option linter.unusedSimpArgs false
set_option linter.unusedVariables false
open Go.RowKit
set_option linter.unusedVariables false
set_option linter.unusedSimpArgs false

inductive FC where
  | skip
  | reg (rs : List ROper) (pairs : List (Nat × Nat))
  | seq (a b : FC)
  | cond (c : Opd) (a b : FC)
  | block (id : Nat) (a : FC)
  | loop (a : FC)
  | exit (id : Nat)
  | ret
  | nxr (a b it : Nat)
  | scp (a : FC)

/-- The pairs of operations that nothing orders and that may touch one object. -/
def pairsOf (ops : List Oper) (rs : List ROper) : List (Nat × Nat) :=
  let bs := befAll [] ops
  let l := (rs.zipIdx.filter fun (r, _) => !r.c.quiet)
  l.flatMap fun (y, j) => l.filterMap fun (x, i) => if i < j && !(x.c.reads && y.c.reads) && !ordB bs i j then some (i, j) else none

/-- 'next' over a map, and whether there is one. -/
def resNxr (n : Nat) (ops : List Oper) : Option (Nat × Nat × Nat) :=
  match ops with
  | [⟨some a, .next (.tmp it) false, _, _, _, none⟩, ⟨some b, .extract (.tmp a') 0, _, _, _, none⟩] => if a' = a ∧ a < n ∧ b < n then some (a, b, it) else none
  | _ => none
def resCode (P : Program) (n : Nat) : Code → Option FC
  | .skip => some .skip
  | .label _ => some .skip
  | .region _ ops d => match resOpers P n ops ops.toList with
    | some rs => if d then (let ps := pairsOf ops.toList rs; if drawOK ops.toList rs ps then some (.reg rs ps) else none) else some (.reg rs [])
    | none => if d then none else (resNxr n ops.toList).map fun p => .nxr p.1 p.2.1 p.2.2
  | .seq a b => match resCode P n a, resCode P n b with
    | some a, some b => some (.seq a b)
    | _, _ => none
  | .cond c a b => match rOpd c, resCode P n a, resCode P n b with
    | some c, some a, some b => some (.cond c a b)
    | _, _, _ => none
  | .block i a => match resCode P n a with
    | some a => some (.block i a)
    | none => none
  | .loop a => match resCode P n a with
    | some a => some (.loop a)
    | none => none
  | .scope a => match resCode P n a with
    | some a => some (.scp a)
    | none => none
  | .exit i => some (.exit i)
  | .ret => some .ret
  | _ => none

/-- One frame and heap may be taken for another one. -/
def Wk (S0 : List Ob) (fr : Fr) (S : List Ob) (fr' : Fr) (S' : List Ob) : Prop :=
  ∀ g0 n a w, At g0 (hp S0) n (Fr.get fr) (hp S) a w → At g0 (hp S0) n (Fr.get fr') (hp S') a w

abbrev Post := Exit → Fr → List Ob → Prop

def Post.thn (N : Fr → List Ob → Prop) (K : Post) : Post
  | .normal, fr, S => N fr S
  | e, fr, S => K e fr S

def Post.blk (id : Nat) (K : Post) : Post
  | .exit j, fr, S => if j = id then K .normal fr S else K (.exit j) fr S
  | e, fr, S => K e fr S

/-- No jump leaves. -/
def Post.ng (K : Post) : Post
  | .goto _, _, _ => False
  | e, fr, S => K e fr S

def LoopVC (S0 : List Ob) (body : Fr → List Ob → Post → Prop) (fr : Fr) (S : List Ob) (K : Post) : Prop :=
  ∃ (ι : Type) (F : ι → Fr) (T : ι → List Ob) (Pr : ι → Prop) (μ : ι → Nat) (i0 : ι), Pr i0 ∧ Wk S0 fr S (F i0) (T i0) ∧
    ∀ i, Pr i → body (F i) (T i) (Post.thn (fun fr' S' => ∃ i', Pr i' ∧ μ i' < μ i ∧ Wk S0 fr' S' (F i') (T i')) K)

def VC (P : Program) (S0 : List Ob) : FC → Fr → List Ob → Post → Prop
  | .skip, fr, S, K => K .normal fr S
  | .reg rs pairs, fr, S, K => VCops P rs fr S [] fun fr' S' log => okLog pairs log ∧ K .normal fr' S'
  | .seq a b, fr, S, K => VC P S0 a fr S (Post.thn (fun fr' S' => ∃ F T, Wk S0 fr' S' F T ∧ VC P S0 b F T K) K)
  | .cond c a b, fr, S, K => match ev (Fr.get fr) c with
    | .bool t => (t = true → VC P S0 a fr S K) ∧ (t = false → VC P S0 b fr S K)
    | _ => False
  | .block id a, fr, S, K => VC P S0 a fr S (Post.blk id K)
  | .loop a, fr, S, K => LoopVC S0 (VC P S0 a) fr S K
  | .exit id, fr, S, K => K (.exit id) fr S
  | .ret, fr, S, K => K .ret fr S
  | .scp a, fr, S, K => VC P S0 a fr S (Post.ng K)
  | .nxr a b it, fr, S, K => ∃ o es sn, Fr.get fr it = .itr o ∧ hp S o = .mpo es (some sn) ∧ es.length ∉ sn ∧
    ((∀ i, i < es.length → i ∈ sn) → K .normal ((b, .bool false) :: (a, .tup [.bool false]) :: fr) S) ∧
    ∀ i e, es[i]? = some e → i ∉ sn → K .normal ((b, .bool true) :: (a, .tup [.bool true, .int e.1.1 e.1.2, e.2]) :: fr) (apS S (some (o, .mpo es (some (sn ++ [i])))))

theorem wp_loop_ix {P : Program} {Q : Exit → Act → World → Prop} {c : Code} {ι : Type} (I : ι → Act → World → Prop) (μ : ι → Nat)
    (round : ∀ i a w, I i a w → c.wp P (Exit.then (fun a' w' => ∃ i', I i' a' w' ∧ μ i' < μ i) Q) a w) {i0 : ι} {a : Act} {w : World} (h₀ : I i0 a w) : (Code.loop c).wp P Q a w := by
  intro b k cs
  have key : ∀ n i a w, μ i = n → I i a w →
      ∃ e a' w', Q e a' w' ∧ Arrives P (lone (b.at a (.code c :: .inLoop c :: k)) cs w) b k cs e a' w' := by
    intro n
    induction n using Nat.strongRecOn with
    | _ n ih =>
      intro i a w hn hI
      obtain ⟨e, a₁, w₁, hq, harr⟩ := round i a w hI b (.inLoop c :: k) cs
      cases e with
      | normal =>
        obtain ⟨i', hI₁, hlt⟩ := hq
        obtain ⟨e₂, a₂, w₂, hq₂, harr₂⟩ := ih (μ i') (hn ▸ hlt) i' a₁ w₁ rfl hI₁
        exact ⟨e₂, a₂, w₂, hq₂, .of_steps (Steps.trans harr (.one step_inLoop)) harr₂⟩
      | exit id => exact ⟨_, a₁, w₁, hq, .pass (x := .inLoop c) rfl (fun _ _ => .inl (by simp)) harr⟩
      | goto l => exact ⟨_, a₁, w₁, hq, .pass (x := .inLoop c) rfl (fun _ _ => .inl (by simp)) harr⟩
      | ret => exact ⟨_, a₁, w₁, hq, .pass (x := .inLoop c) rfl (fun _ _ => .inl (by simp)) harr⟩
      | panic ch => exact ⟨_, a₁, w₁, hq, .pass (x := .inLoop c) rfl (fun _ _ => .inl (by simp)) harr⟩
      | outgrown => exact ⟨_, a₁, w₁, hq, .pass (x := .inLoop c) rfl (fun _ _ => .inl (by simp)) harr⟩
  obtain ⟨e, a', w', hq, harr⟩ := key _ _ a w rfl h₀
  exact ⟨e, a', w', hq, .of_steps (.one step_loop) harr⟩

theorem wpOps_one {P : Program} {ops : Array Oper} {Q : Exit → Act → World → Prop} {i : Nat} {rest : List Nat} {o : Oper} {a : Act} {w : World} (h : ops[i]? = some o) (hg : o.guard = none) (k : o.wp P a w (wpOps P ops Q rest) Q) : wpOps P ops Q (i :: rest) a w := by
  simp only [wpOps, h]
  rw [if_pos (by simp [Region.wanted, hg])]
  exact .inl k
theorem nxr_two {P : Program} {it a b : Nat} {t1 t2 : TypeId} {p1 p2 : String} {e1 e2 : Array Edge} {act : Act} {w w' : World} {Q : Exit → Act → World → Prop} {u v : Value}
    (h1 : (Instr.next (act.tmps.getD it undef) false t1).run P w = .ok u w') (h2 : (act.put (some a) u).tmps.getD a undef = u) (h3 : (Instr.extract u 0).run P w' = .ok v w') (hQ : Q .normal ((act.put (some a) u).put (some b) v) w') :
    wpOps P #[⟨some a, .next (.tmp it) false, t1, p1, e1, none⟩, ⟨some b, .extract (.tmp a) 0, t2, p2, e2, none⟩] Q (List.range 2) act w := by
  have r1 : (execOp act.eval ⟨some a, .next (.tmp it) false, t1, p1, e1, none⟩).run P w = .ok (.value u) w' := by
    show (do pure (Next.value (← Instr.next (act.tmps.getD it undef) false t1)) : Sem Next).run P w = _
    rw [Sem.run_bind, h1]
    rfl
  have r2 : (execOp (act.put (some a) u).eval ⟨some b, .extract (.tmp a) 0, t2, p2, e2, none⟩).run P w' = .ok (.value v) w' := by
    show (do pure (Next.value (← Instr.extract ((act.put (some a) u).tmps.getD a undef) 0)) : Sem Next).run P w' = _
    rw [h2, Sem.run_bind, h3]
    rfl
  have k2 : wpOps P #[⟨some a, .next (.tmp it) false, t1, p1, e1, none⟩, ⟨some b, .extract (.tmp a) 0, t2, p2, e2, none⟩] Q [1] (act.put (some a) u) w' := by
    refine wpOps_one (o := ⟨some b, .extract (.tmp a) 0, t2, p2, e2, none⟩) rfl rfl ?_
    unfold Oper.wp
    rw [r2, Oper.upon_value]
    exact hQ
  refine wpOps_one (o := ⟨some a, .next (.tmp it) false, t1, p1, e1, none⟩) (rest := [1]) rfl rfl ?_
  unfold Oper.wp
  rw [r1, Oper.upon_value]
  exact k2

def QK (g0 : Gh) (S0 : List Ob) (n : Nat) (K : Post) : Exit → Act → World → Prop := fun e a w => ∃ fr S, At g0 (hp S0) n (Fr.get fr) (hp S) a w ∧ K e fr S

theorem nxr_wp {P : Program} {n : Nat} {ops : Array Oper} {a b it : Nat} (h : resNxr n ops.toList = some (a, b, it)) {S0 : List Ob} {fr : Fr} {S : List Ob} {K : Post} (hv : VC P S0 (.nxr a b it) fr S K) {g0 : Gh} {act : Act} {w : World}
    (hat : At g0 (hp S0) n (Fr.get fr) (hp S) act w) {id : Nat} : (Code.region id ops false).wp P (QK g0 S0 n K) act w := by
  unfold resNxr at h
  split at h
  · rename_i a' it' t1 p1 e1 b' a2 t2 p2 e2 heq
    split at h
    · rename_i hc
      obtain ⟨rfl, ha, hb⟩ := hc
      simp only [Option.some.injEq, Prod.mk.injEq] at h
      obtain ⟨rfl, rfl, rfl⟩ := h
      have hops : ops = #[⟨some a2, .next (.tmp it') false, t1, p1, e1, none⟩, ⟨some b', .extract (.tmp a2) 0, t2, p2, e2, none⟩] := by rw [← Array.toArray_toList (xs := ops), heq]
      subst hops
      refine wp_region ?_
      simp only [VC] at hv
      obtain ⟨o, es, sn, q1, q2, q3, q4, q5⟩ := hv
      obtain ⟨hd, g, hle, hw, hf⟩ := hat
      have hu := hf.get it'
      rw [q1] at hu
      have ev2 : ∀ (u : Value), (act.put (some a2) u).tmps.getD a2 undef = u := fun u => by
        have hsz := hf.size
        simp only [Act.put, Array.getD_eq_getD_getElem?]
        rw [Array.getElem?_setIfInBounds_self, if_pos (by rw [hsz]; exact ha)]
        rfl
      have hx : ∀ (u : Value) (us : Array Value) (w' : World), us[0]? = some u → (Instr.extract (.tuple us) 0).run P w' = .ok u w' := fun u us w' hu => by simp [Instr.extract, hu]
      rcases run_next (P := P) (ty := t1) hw q2 q3 hu with ⟨w', r1, r2, r3⟩ | ⟨i, e, w', key, val, r1, r2, r3, rfl, r5, r6, r7⟩
      · refine nxr_two (u := .tuple #[.bool false]) (v := .bool false) (w' := w') r1 (ev2 _) (hx _ _ _ rfl) ?_
        refine ⟨_, _, ⟨hd, g, hle, r2, ?_⟩, q4 r3⟩
        rw [Fr.get_cons, Fr.get_cons]
        exact (hf.put ha (.tup rfl (fun j h1 h2 => by
          match j, h1 with
          | 0, _ => exact .bool))).put hb .bool
      · refine nxr_two (u := .tuple #[.bool true, .int e.1.1 e.1.2, val]) (v := .bool true) (w' := w') r1 (ev2 _) (hx _ _ _ rfl) ?_
        refine ⟨_, _, ⟨hd, g, ?_, ?_, ?_⟩, q5 i e r2 r3⟩
        · rw [hp_apS]; exact hle.trans r6
        · rw [hp_apS]; exact r5
        rw [Fr.get_cons, Fr.get_cons, hp_apS]
        exact ((hf.mono r6).put ha (.tup rfl (fun j h1 h2 => by
          match j, h1 with
          | 0, _ => exact .bool
          | 1, _ => exact .int
          | 2, _ => exact r7))).put hb .bool
    · cases h
  · cases h

theorem VC_wp {P : Program} {n : Nat} (hm : P.follows .mixedOrders = true) {g0 : Gh} {S0 : List Ob} : ∀ (c : Code) (fc : FC), resCode P n c = some fc → ∀ (fr : Fr) (S : List Ob) (K : Post), VC P S0 fc fr S K →
    ∀ a w, At g0 (hp S0) n (Fr.get fr) (hp S) a w → c.wp P (QK g0 S0 n K) a w := by
  intro c
  induction c with
  | skip => intro fc h fr S K hv a w hat; simp only [resCode] at h; cases h; exact wp_skip ⟨fr, S, hat, hv⟩
  | label l => intro fc h fr S K hv a w hat; simp only [resCode] at h; cases h; exact wp_label ⟨fr, S, hat, hv⟩
  | region id ops d =>
    intro fc h fr S K hv a w hat
    simp only [resCode] at h
    split at h
    · rename_i rs hrs
      split at h
      · rename_i hd
        subst hd
        split at h
        · rename_i hok
          cases h
          exact draw_wp hm hrs hok hv hat (fun fr' S' a' w' hk hat' => ⟨fr', S', hat', hk⟩)
        · cases h
      · rename_i hd
        have : d = false := by simpa using hd
        subst this
        cases h
        simp only [VC, okLog, true_and] at hv
        exact text_wp hrs hv hat (fun fr' S' a' w' hk hat' => ⟨fr', S', hat', hk⟩)
    · split at h
      · cases h
      · rename_i hd
        have : d = false := by simpa using hd
        subst this
        simp only [Option.map_eq_some_iff] at h
        obtain ⟨⟨a1, b1, it1⟩, h1, rfl⟩ := h
        exact nxr_wp h1 hv hat
  | seq x y ihx ihy =>
    intro fc h fr S K hv a w hat
    simp only [resCode] at h
    split at h
    · rename_i fx fy hx hy
      cases h
      refine wp_seq (wp_mono (ihx fx hx fr S _ hv a w hat) (fun e a' w' hq => ?_))
      obtain ⟨fr', S', hat', hk⟩ := hq
      cases e with
      | normal =>
        obtain ⟨F, T, hwk, hk⟩ := hk
        exact ihy fy hy F T K hk a' w' (hwk _ _ _ _ hat')
      | _ => exact ⟨fr', S', hat', hk⟩
    · cases h
  | cond c x y ihx ihy =>
    intro fc h fr S K hv a w hat
    simp only [resCode] at h
    split at h
    · rename_i c' fx fy hc hx hy
      cases h
      simp only [VC] at hv
      obtain ⟨_, g, _, _, hf⟩ := id hat
      have hcv := rOpd_VR hf hc
      generalize ev (Fr.get fr) c' = q at hv hcv
      cases q <;> try exact hv.elim
      rename_i t
      generalize hae : a.eval c = u at hcv
      cases hcv
      refine wp_cond_split hae (fun ht => ?_) (fun ht => ?_)
      · exact ihx fx hx fr S K (hv.1 ht) a w hat
      · exact ihy fy hy fr S K (hv.2 ht) a w hat
    · cases h
  | block i x ihx =>
    intro fc h fr S K hv a w hat
    simp only [resCode] at h
    split at h
    · rename_i fx hx
      cases h
      refine wp_block (wp_mono (ihx fx hx fr S _ hv a w hat) (fun e a' w' hq => ?_))
      obtain ⟨fr', S', hat', hk⟩ := hq
      cases e with
      | exit j =>
        simp only [Exit.inBlock, Post.blk] at hk ⊢
        split
        · rename_i e; rw [if_pos e] at hk; exact ⟨fr', S', hat', hk⟩
        · rename_i e; rw [if_neg e] at hk; exact ⟨fr', S', hat', hk⟩
      | _ => exact ⟨fr', S', hat', hk⟩
    · cases h
  | loop x ihx =>
    intro fc h fr S K hv a w hat
    simp only [resCode] at h
    split at h
    · rename_i fx hx
      cases h
      obtain ⟨ι, F, T, Pr, μ, i0, hp0, hwk, hrd⟩ := hv
      refine wp_loop_ix (fun i a w => Pr i ∧ At g0 (hp S0) n (Fr.get (F i)) (hp (T i)) a w) μ (fun i a w hI => ?_) (i0 := i0) ⟨hp0, hwk _ _ _ _ hat⟩
      refine wp_mono (ihx fx hx (F i) (T i) _ (hrd i hI.1) a w hI.2) (fun e a' w' hq => ?_)
      obtain ⟨fr', S', hat', hk⟩ := hq
      cases e with
      | normal =>
        obtain ⟨i', h1, h2, h3⟩ := hk
        exact ⟨i', ⟨h1, h3 _ _ _ _ hat'⟩, h2⟩
      | _ => exact ⟨fr', S', hat', hk⟩
    · cases h
  | scope x ihx =>
    intro fc h fr S K hv a w hat
    simp only [resCode] at h
    split at h
    · rename_i fx hx
      cases h
      refine wp_scope_straight (wp_mono (ihx fx hx fr S _ hv a w hat) (fun e a' w' hq => ?_))
      obtain ⟨fr', S', hat', hk⟩ := hq
      cases e with
      | goto l => exact hk.elim
      | _ => exact ⟨fr', S', hat', hk⟩
    · cases h
  | exit i => intro fc h fr S K hv a w hat; simp only [resCode] at h; cases h; exact wp_exit ⟨fr, S, hat, hv⟩
  | ret => intro fc h fr S K hv a w hat; simp only [resCode] at h; cases h; exact wp_ret ⟨fr, S, hat, hv⟩
  | _ => intro fc h; simp [resCode] at h

/-! ### a call -/
def resSlots : List ResultVar → Option (List Nat)
  | [] => some []
  | .tmp t :: r => (resSlots r).map (t :: ·)
  | .cell _ _ :: _ => none

def initFr : Nat → List AV → Fr
  | _, [] => []
  | i, x :: r => (i, x) :: initFr (i + 1) r

def retAV (ts : List Nat) (F : Fm) : AV :=
  match ts with
  | [t] => F t
  | ts => .tup (ts.map F)

theorem initFr_get : ∀ (args : List AV) (i t : Nat), Fr.get (initFr i args) t = if i ≤ t then args.getD (t - i) .junk else .junk
  | [], i, t => by simp [initFr, Fr.get]
  | x :: r, i, t => by
    simp only [initFr, Fr.get]
    by_cases e : t = i
    · subst e; simp
    · rw [if_neg e, initFr_get r (i + 1) t]
      by_cases h : i ≤ t
      · rw [if_pos h, if_pos (by omega)]
        rw [show t - i = (t - (i + 1)) + 1 by omega]
        simp
      · rw [if_neg h, if_neg (by omega)]

def retV (ts : List Nat) (tmps : Array Value) : Value :=
  match ts with
  | [t] => tmps.getD t undef
  | ts => .tuple (ts.map (tmps.getD · undef)).toArray

theorem run_slots {P : Program} {tmps : Array Value} {w : World} {one : ResultVar → Sem Value} (ho : ∀ t, one (.tmp t) = pure (tmps.getD t undef)) :
    ∀ (rs : List ResultVar) (ts : List Nat), resSlots rs = some ts → (rs.mapM one).run P w = .ok (ts.map (tmps.getD · undef)) w := by
  intro rs
  induction rs with
  | nil => intro ts h; simp only [resSlots, Option.some.injEq] at h; subst h; simp only [List.mapM_nil, List.map_nil]; rfl
  | cons r rs ih =>
    intro ts h
    cases r with
    | tmp t =>
      simp only [resSlots, Option.map_eq_some_iff] at h
      obtain ⟨ts', h1, rfl⟩ := h
      simp only [List.mapM_cons, ho, pure_bind, Sem.run_bind, ih ts' h1, Result.andThen_ok, List.map_cons]
      rfl
    | cell a t => simp [resSlots] at h

theorem run_results {P : Program} {fn : Func} {ts : List Nat} (h : resSlots fn.results.toList = some ts) (tmps : Array Value) (w : World) :
    (results fn tmps).run P w = .ok (retV ts tmps) w := by
  unfold results
  generalize fn.results = R at h
  rcases R with ⟨rs⟩
  simp only [List.mapM_toArray]
  rw [Sem.run_bind, Sem.run_map, run_slots (fun _ => rfl) rs ts h]
  simp only [Result.andThen_ok, Sem.run_pure]
  rcases ts with _ | ⟨t, _ | ⟨t2, ts⟩⟩
  · rfl
  · rfl
  · simp only [retV, List.map_cons, List.size_toArray, List.length_cons]
    rw [dif_neg (by omega)]

structure Fn2 (P : Program) (f : FuncId) (n : Nat) (ts : List Nat) (fc : FC) : Prop where
  ex : ∃ fn c, P.funcs[f]? = some fn ∧ fn.body = some c ∧ fn.ntmps = n ∧ resSlots fn.results.toList = some ts ∧ resCode P n c = some fc

theorem Ev_of_VC {P : Program} {f n : Nat} {ts : List Nat} {fc : FC} (hm : P.follows .mixedOrders = true) (hfn : Fn2 P f n ts fc) {args : List AV} (hn : args.length ≤ n) {S S' : List Ob} {r : AV}
    (h : VC P S fc (initFr 0 args) S (fun e fr1 S1 => (match e with | .normal | .ret => True | _ => False) ∧ ∃ fr2, Wk S fr1 S1 fr2 S' ∧ retAV ts (Fr.get fr2) = r)) : Ev P f args (hp S) r (hp S') := by
  obtain ⟨fn, c, hf, hb, hnt, hrs, hrc⟩ := hfn.ex
  intro g w vals hw hv
  have hvs := hv.1
  refine calls_of_wp hf hb ?_
  have hat : At g (hp S) n (Fr.get (initFr 0 args)) (hp S) { tmps := vals ++ Array.replicate (fn.ntmps - vals.size) undef, defers := [] } w := by
    refine ⟨rfl, g, Gh.le.refl _ _, hw, ⟨by simp; omega, fun t => ?_⟩⟩
    rw [initFr_get]
    simp only [Nat.zero_le, if_true, Nat.sub_zero]
    by_cases ht : t < args.length
    · have := hv.2 t ht (by omega)
      rw [List.getD_eq_getElem?_getD, List.getElem?_eq_getElem ht]
      rw [Array.getD_eq_getD_getElem?, Array.getElem?_append_left (by omega), Array.getElem?_eq_getElem (by omega)]
      exact this
    · rw [List.getD_eq_getElem?_getD, List.getElem?_eq_none (by omega)]
      exact .junk
  refine wp_mono (VC_wp hm c fc hrc _ _ _ h _ _ hat) (fun e a' w' hq => ?_)
  obtain ⟨fr1, S1, hat1, he, fr2, hwk, hret⟩ := hq
  obtain ⟨hd, g', hle, hw', hf'⟩ := hwk _ _ _ _ hat1
  have hfin : a'.defers = [] ∧ ∃ v, (results fn a'.tmps).run P w' = .ok v w' ∧ ∃ u g', Ending.returned v = .returned u ∧ g.le (hp S) g' (hp S') ∧ WRel g' (hp S') w' ∧ VR g'.pm g'.L (hp S') r u := by
    refine ⟨hd, _, run_results hrs _ _, _, g', rfl, hle, hw', ?_⟩
    subst hret
    unfold retAV
    match ts with
    | [t] => exact hf'.get t
    | [] => exact .tup rfl (by simp)
    | t :: t2 :: ts =>
      refine .tup (by simp) (fun j h1 h2 => ?_)
      simp only [List.getElem_map, List.getElem_toArray]
      exact hf'.get _
  cases e with
  | normal => exact hfin
  | ret => exact hfin
  | _ => exact he.elim
end Go.Ab
