/- Verification conditions for operations and calls. -/
import Derived.Test.YtiocagilhbomgaaWlC1
namespace Go.Ab
open Go.RowKit
set_option linter.unusedVariables false
set_option linter.unusedSimpArgs false

def hp (S : List Ob) : Hp := fun o => S.getD o .virgin
def setAt : List Ob → Nat → Ob → List Ob
  | [], 0, x => [x]
  | [], n + 1, x => .virgin :: setAt [] n x
  | _ :: s, 0, x => x :: s
  | y :: s, n + 1, x => y :: setAt s n x

theorem hp_setAt (x : Ob) : ∀ (S : List Ob) (o : Nat), hp (setAt S o x) = upd (hp S) o x
  | [], 0 => by funext i; cases i <;> simp [hp, setAt, upd]
  | [], n + 1 => by
    funext i
    cases i with
    | zero => simp [hp, setAt, upd]
    | succ i =>
      have := congrFun (hp_setAt x [] n) i
      simpa [hp, setAt, upd] using this
  | y :: s, 0 => by funext i; cases i <;> simp [hp, setAt, upd]
  | y :: s, n + 1 => by
    funext i
    cases i with
    | zero => simp [hp, setAt, upd]
    | succ i =>
      have := congrFun (hp_setAt x s n) i
      simpa [hp, setAt, upd] using this

inductive RC where
  | op (r : ROp)
  | call (f : FuncId) (args : List Opd)
  | callv (x : Opd) (args : List Opd)
  | inv (x : Opd) (m : String) (args : List Opd)

structure ROper where
  dst : Option Nat
  guard : Option (Nat × Bool)
  c : RC

inductive LE where
  | acc (fp : List Nat) (wr : Option Nat)
  | eff (S S' : List Ob)

def apS (S : List Ob) : Option (Nat × Ob) → List Ob
  | none => S
  | some (o, x) => setAt S o x

theorem hp_apS (S : List Ob) (δ) : hp (apS S δ) = ap (hp S) δ := by
  cases δ with
  | none => rfl
  | some p => exact hp_setAt _ _ _

def fpOf (rd : List Nat) : Option (Nat × Ob) → List Nat
  | none => rd
  | some (o, _) => o :: rd

def callable (P : Program) (f : FuncId) : Bool :=
  match P.funcs[f]? with
  | some fn => fn.body.isSome && !(fn.name == "runtime.NumGoroutine")
  | none => false

/-- The function behind an interface's method, where the receiver is handed on as it is. -/
def methOf (P : Program) (t : TypeId) (m : String) : Option FuncId :=
  match P.info? t with
  | none => none
  | some i => match i.methods.find? (·.name == m) with
    | none => none
    | some me => match me.path.toList, me.func with
      | [], some (f, pr) => match P.underlying t with
        | some (.pointer _) => if pr then some f else none
        | some _ => if pr then none else some f
        | none => none
      | _, _ => none

inductive LG where
  | acc (fp : List Nat) (wr : Option Nat)
  | eff

/-- What one call may do. -/
def StepCall (P : Program) (f : FuncId) (args : List AV) (σ : Hp) (v : AV) (σ' : Hp) (le : LG) : Prop :=
  (PureEv P f args v ∧ blwL 0 args = true ∧ v.blw 0 = true ∧ σ' = σ ∧ le = .acc [] none) ∨ (Ev P f args σ v σ' ∧ le = .eff)

/-- What one operation may do, its value weakened. -/
def StW (r : ROp) (fr : Fm) (σ : Hp) (v : AV) (rd : List Nat) (δ : Option (Nat × Ob)) : Prop := ∃ v0, St r fr σ v0 rd δ ∧ AVw v0 v

/-- What one operation may do. -/
def StepG (P : Program) (c : RC) (fr : Fm) (σ : Hp) (v : AV) (σ' : Hp) (le : LG) : Prop :=
  match c with
  | .op r => ∃ rd δ, StW r fr σ v rd δ ∧ σ' = ap σ δ ∧ le = .acc (fpOf rd δ) (δ.map (·.1))
  | .call f args => StepCall P f (evL fr args) σ v σ' le
  | .callv x args => match ev fr x with
    | .fn (.func f) first caps => callable P f = true ∧ StepCall P f (first ++ evL fr args ++ caps) σ v σ' le
    | _ => False
  | .inv x m args => match ev fr x with
    | .iface t v0 => match methOf P t m with
      | some f => callable P f = true ∧ StepCall P f (v0 :: evL fr args) σ v σ' le
      | none => False
    | _ => False

def VCcall (P : Program) (f : FuncId) (args : List AV) (S : List Ob) (K : AV → List Ob → LE → Prop) : Prop :=
  (∃ v, PureEv P f args v ∧ blwL 0 args = true ∧ v.blw 0 = true ∧ K v S (.acc [] none)) ∨ (∃ v S', Ev P f args (hp S) v (hp S') ∧ K v S' (.eff S S'))

def VC1 (P : Program) (c : RC) (fr : Fm) (S : List Ob) (K : AV → List Ob → LE → Prop) : Prop :=
  match c with
  | .op r => ∃ v rd δ, StW r fr (hp S) v rd δ ∧ K v (apS S δ) (.acc (fpOf rd δ) (δ.map (·.1)))
  | .call f args => VCcall P f (evL fr args) S K
  | .callv x args => match ev fr x with
    | .fn (.func f) first caps => callable P f = true ∧ VCcall P f (first ++ evL fr args ++ caps) S K
    | _ => False
  | .inv x m args => match ev fr x with
    | .iface t v => match methOf P t m with
      | some f => callable P f = true ∧ VCcall P f (v :: evL fr args) S K
      | none => False
    | _ => False

/-- How an operation of the program is resolved. -/
def resRC (P : Program) (o : Op) : Option RC :=
  match resOp P o with
  | some r => some (.op r)
  | none => match o with
    | .call c => match c.callee, rOpds c.args.toList with
      | .value (.func f), some args => if callable P f then some (.call f args) else none
      | .value x, some args => (rOpd x).map (.callv · args)
      | .invoke x m, some args => (rOpd x).map (.inv · m args)
      | _, _ => none
    | _ => none

theorem callable_run {P : Program} {f : FuncId} (h : callable P f = true) (args : Array Value) (w : World) : (callFunc f args).run P w = .ok (.enter f args) w := by
  unfold callable at h
  split at h
  · rename_i fn hf
    simp only [Bool.and_eq_true, Bool.not_eq_true'] at h
    obtain ⟨h1, h2⟩ := h
    have hn : fn.body ≠ none := by intro hb; simp [hb] at h1
    have h2' : fn.name ≠ "runtime.NumGoroutine" := by simpa using h2
    simp [callFunc, hf, h2', hn]
  · cases h

theorem methOf_run {P : Program} {t : TypeId} {m : String} {f : FuncId} (h : methOf P t m = some f) (v : Value) (n : Nat) (w : World) : (method (n + 1) t v m).run P w = .ok (f, v) w := by
  unfold methOf at h
  split at h
  · cases h
  · rename_i i hi
    split at h
    · cases h
    · rename_i me hm
      split at h
      · rename_i f' pr hp hfn
        split at h
        · rename_i e hu
          split at h
          · rename_i hpr
            cases h
            subst hpr
            simp [method, typeInfo, hi, hm, hp, hfn, follow, receiverAt, run_underlying hu, Place.get]
          · cases h
        · rename_i d hnp hu
          split at h
          · cases h
          · rename_i hpr
            cases h
            have hpr : pr = false := by simpa using hpr
            subst hpr
            cases d <;> first | exact (hnp _ rfl).elim | (simp [method, typeInfo, hi, hm, hp, hfn, follow, receiverAt, run_underlying hu, Place.get])
        · cases h
      · cases h

theorem VRs_of {g σ n fr} {a : Act} (hf : FRel g σ n fr a) {args : Array Operand} {qs : List Opd} (h : rOpds args.toList = some qs) : VRs g σ (evL fr qs) (args.map a.eval) := by
  obtain ⟨a1, a2⟩ := rOpds_VR hf h
  refine ⟨by simpa using a1.symm, fun j p q => ?_⟩
  rw [getElem_map_toList]; exact a2 j p _

theorem VRs.append {g σ} {xs ys : List AV} {us vs : Array Value} (h : VRs g σ xs us) (k : VRs g σ ys vs) : VRs g σ (xs ++ ys) (us ++ vs) := by
  refine ⟨by simp [h.1, k.1], fun j p q => ?_⟩
  have h1 := h.1
  by_cases hj : j < xs.length
  · rw [List.getElem_append_left hj, Array.getElem_append_left (by omega)]; exact h.2 j hj (by omega)
  · rw [List.getElem_append_right (by omega), Array.getElem_append_right (by omega)]
    have := k.2 (j - xs.length) (by simp at p; omega) (by simp at q; omega)
    simpa [h1] using this

theorem StepCall_wp {P : Program} {f : FuncId} {args : List AV} {σ σ' : Hp} {v : AV} {le : LG} (h : StepCall P f args σ v σ' le) {g : Gh} {w : World} {vals : Array Value} (hw : WRel g σ w) (hv : VRs g σ args vals)
    {next : Value → World → Prop} {N : Ending → World → Prop} (hN : ∀ u w', next u w' → N (.returned u) w')
    (hK : ∀ u w' g', g.le σ g' σ' → WRel g' σ' w' → VR g'.pm g'.L σ' v u → next u w') : Calls P f vals w N := by
  rcases h with ⟨h1, h2, h3, rfl, _⟩ | ⟨h1, _⟩
  · refine (h1.frame h2 h3 σ' g w vals hw hv).mono ?_
    rintro e w' ⟨u, g', rfl, a, b, c⟩
    exact hN _ _ (hK _ _ _ a b c)
  · refine (h1 g w vals hw hv).mono ?_
    rintro e w' ⟨u, g', rfl, a, b, c⟩
    exact hN _ _ (hK _ _ _ a b c)

/-- One operation, its guard being met. -/
theorem StepG_wp {P : Program} {o : Oper} {c : RC} (hr : resRC P o.op = some c) {fr : Fm} {σ σ' : Hp} {v : AV} {le : LG} (h : StepG P c fr σ v σ' le) {g : Gh} {n : Nat} {a : Act} {w : World}
    (hw : WRel g σ w) (hf : FRel g σ n fr a) {next : Act → World → Prop} {Q : Exit → Act → World → Prop}
    (hK : ∀ u w' g', g.le σ g' σ' → WRel g' σ' w' → VR g'.pm g'.L σ' v u → next (a.put o.dst u) w') : o.wp P a w next Q := by
  unfold resRC at hr
  split at hr
  · rename_i r hres
    cases hr
    obtain ⟨rd, δ, ⟨v0, hst, hvw⟩, rfl, _⟩ := h
    obtain ⟨res, u, w', g', e1, e2, e3, e4, e5⟩ := res_sound hres hw hf hst
    have := hK _ _ _ e4 e3 (e5.w hvw)
    unfold Oper.wp
    rw [e1]
    rcases e2 with rfl | ⟨rfl, rfl⟩
    · exact this
    · exact this
  · split at hr
    · rename_i cl hop
      obtain ⟨dst, op, ty, pos, after, guard⟩ := o
      simp only at hop
      subst hop
      obtain ⟨callee, args, argTypes⟩ := cl
      have enter : ∀ f vals, (execOp a.eval ⟨dst, .call ⟨callee, args, argTypes⟩, ty, pos, after, guard⟩).run P w = .ok (.enter f vals) w →
          Calls P f vals w (fun | .returned v, w'' => next (a.put dst v) w'' | .panicked chain, w'' => Q (.panic chain) a w'' | .outgrown, _ => LetsOut Q) → Oper.wp P ⟨dst, .call ⟨callee, args, argTypes⟩, ty, pos, after, guard⟩ a w next Q := fun f vals h1 h2 => by
        unfold Oper.wp; rw [h1]; exact h2
      split at hr
      · rename_i f qs hc hq
        simp only at hc; subst hc
        split at hr
        · rename_i hcal
          cases hr
          refine enter f (args.map a.eval) ?_ ?_
          · simp [execOp, resolve, Act.eval, Deferred.ofValue, invoke, callable_run hcal]
          · exact StepCall_wp h hw (VRs_of hf hq) (next := fun u w' => next (a.put dst u) w') (fun _ _ h => h) hK
        · cases hr
      · rename_i x qs hnf hc hq
        simp only at hc; subst hc
        simp only [Option.map_eq_some_iff] at hr; obtain ⟨y, h1, rfl⟩ := hr
        have hx := rOpd_VR hf h1
        simp only [StepG] at h
        split at h
        · rename_i f first caps he
          obtain ⟨hcal, h⟩ := h
          rw [he] at hx
          generalize hev : a.eval x = ux at hx
          cases hx with
          | fn hlf hlc hvf hvc =>
            rename_i fs cs
            refine enter f ((fs ++ args.map a.eval) ++ cs) ?_ ?_
            · simp [execOp, resolve, hev, Deferred.ofValue, invoke, callable_run hcal]
            · refine StepCall_wp h hw ?_ (next := fun u w' => next (a.put dst u) w') (fun _ _ h => h) hK
              exact VRs.append (VRs.append ⟨hlf, hvf⟩ (VRs_of hf hq)) ⟨hlc, hvc⟩
        · exact h.elim
      · rename_i x m qs hc hq
        simp only at hc; subst hc
        simp only [Option.map_eq_some_iff] at hr; obtain ⟨y, h1, rfl⟩ := hr
        have hx := rOpd_VR hf h1
        simp only [StepG] at h
        split at h
        · rename_i t v0 he
          split at h
          · rename_i f hm
            obtain ⟨hcal, h⟩ := h
            rw [he] at hx
            generalize hev : a.eval x = ux at hx
            cases hx with
            | iface hv =>
              rename_i u
              refine enter f (#[u] ++ args.map a.eval) ?_ ?_
              · have hd : ∃ k, P.types.size + Made.depth = k + 1 := ⟨P.types.size + 99, by simp [Made.depth]⟩
                obtain ⟨k, hk⟩ := hd
                have h0 : ((#[Value.iface t u] : Array Value) ++ Array.map a.eval args)[0]? = some (.iface t u) := by rw [Array.getElem?_append_left (by simp)]; rfl
                have hx : (Array.map a.eval args).extract 0 args.size = Array.map a.eval args := by
                  have : args.size = (Array.map a.eval args).size := by simp
                  rw [this, Array.extract_size]
                simp [execOp, resolve, hev, invoke, callMethod, h0, hx, hk, methOf_run hm, callable_run hcal]
              · refine StepCall_wp h hw ?_ (next := fun u w' => next (a.put dst u) w') (fun _ _ h => h) hK
                have : VRs g σ [v0] #[u] := ⟨rfl, fun j p q => by
                  simp at p; subst p; exact hv⟩
                exact VRs.append this (VRs_of hf hq)
          · exact h.elim
        · exact h.elim
      · cases hr
    · cases hr
end Go.Ab
