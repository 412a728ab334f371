/- Rules for code that uses a builder of its own. -/
import Derived.Test.YtkfhljombjmdbaaDoorWlI2
import Derived.Test.YtkfhljombjmdbaaDoorWlF8
import Derived.Shelf.Strconv.Itoa3
namespace Go.Ab
open Go.RowKit Go.Proofs
set_option linter.unusedVariables false
set_option linter.unusedSimpArgs false

/-- Which calls are the builder's, and that they come last in their regions; the builder's allocation. -/
def lastF (P : Program) (bs : List Nat) (l : List Oper) : Bool :=
  match l.getLast? with
  | some o => match resRC P o.op with
    | some (.call f _) => bs.contains f
    | _ => false
  | none => false
def regOK (P : Program) (n : Nat) (ops : Array Oper) : Bool :=
  let l := ops.toList.dropLast
  (ops.toList.all fun o => o.guard.isNone) && ((List.range l.length).all fun i => ordB (befAll [] ops.toList) i l.length) &&
  (match resOpers P n ops ops.toList, resOpers P n l.toArray l with
   | some ra, some rs => drawOK l rs (pairsOf l rs) && (pairsOf ops.toList ra == pairsOf l rs)
   | _, _ => false)
def firstF (P : Program) (es : Nat) (l : List Oper) : Bool :=
  match l.head? with
  | some o => match resRC P o.op with
    | some (.call f _) => f == es
    | _ => false
  | none => false
def bchk (P : Program) (n : Nat) (bs : List Nat) (es nw : Nat) (T : TypeId) : Code → Bool
  | .region _ ops d => (!(d && lastF P bs ops.toList) || regOK P n ops) && !(d && firstF P es ops.toList) && (ops.toList.all fun o => o.dst != some nw || (match o.op with
      | .alloc t => t == T && !d
      | _ => false))
  | .seq a b => bchk P n bs es nw T a && bchk P n bs es nw T b
  | .cond _ a b => bchk P n bs es nw T a && bchk P n bs es nw T b
  | .block _ a => bchk P n bs es nw T a
  | .loop a => bchk P n bs es nw T a
  | _ => true

section
variable {P : Program} {n : Nat}
theorem reg_of {i : Nat} {o : Array Oper} {d : Bool} {fc : FC} (h : resCode P n (.region i o d) = some fc) : ∃ rs ps, fc = .reg rs ps := by
  simp only [resCode] at h
  split at h
  · split at h
    · split at h
      · cases h; exact ⟨_, _, rfl⟩
      · cases h
    · cases h; exact ⟨_, _, rfl⟩
  · cases h
theorem inv_seq {c : Code} {x y : FC} (h : resCode P n c = some (.seq x y)) : ∃ a b, c = .seq a b ∧ resCode P n a = some x ∧ resCode P n b = some y := by
  cases c with
  | seq a b =>
    simp only [resCode] at h
    split at h
    · rename_i h1 h2; cases h; exact ⟨a, b, rfl, h1, h2⟩
    · cases h
  | region i o d => obtain ⟨_, _, h⟩ := reg_of h; cases h
  | cond q a b => simp only [resCode] at h; split at h <;> cases h
  | block i a => simp only [resCode] at h; split at h <;> cases h
  | loop a => simp only [resCode] at h; split at h <;> cases h
  | _ => simp [resCode] at h
theorem inv_cond {c : Code} {q : Opd} {x y : FC} (h : resCode P n c = some (.cond q x y)) : ∃ t a b, c = .cond t a b ∧ rOpd t = some q ∧ resCode P n a = some x ∧ resCode P n b = some y := by
  cases c with
  | cond t a b =>
    simp only [resCode] at h
    split at h
    · rename_i h1 h2 h3; cases h; exact ⟨t, a, b, rfl, h1, h2, h3⟩
    · cases h
  | region i o d => obtain ⟨_, _, h⟩ := reg_of h; cases h
  | seq a b => simp only [resCode] at h; split at h <;> cases h
  | block i a => simp only [resCode] at h; split at h <;> cases h
  | loop a => simp only [resCode] at h; split at h <;> cases h
  | _ => simp [resCode] at h
theorem inv_block {c : Code} {i : Nat} {x : FC} (h : resCode P n c = some (.block i x)) : ∃ a, c = .block i a ∧ resCode P n a = some x := by
  cases c with
  | block j a =>
    simp only [resCode] at h
    split at h
    · rename_i h1; cases h; exact ⟨a, rfl, h1⟩
    · cases h
  | region i o d => obtain ⟨_, _, h⟩ := reg_of h; cases h
  | seq a b => simp only [resCode] at h; split at h <;> cases h
  | cond q a b => simp only [resCode] at h; split at h <;> cases h
  | loop a => simp only [resCode] at h; split at h <;> cases h
  | _ => simp [resCode] at h
theorem inv_loop {c : Code} {x : FC} (h : resCode P n c = some (.loop x)) : ∃ a, c = .loop a ∧ resCode P n a = some x := by
  cases c with
  | loop a =>
    simp only [resCode] at h
    split at h
    · rename_i h1; cases h; exact ⟨a, rfl, h1⟩
    · cases h
  | region i o d => obtain ⟨_, _, h⟩ := reg_of h; cases h
  | seq a b => simp only [resCode] at h; split at h <;> cases h
  | cond q a b => simp only [resCode] at h; split at h <;> cases h
  | block i a => simp only [resCode] at h; split at h <;> cases h
  | _ => simp [resCode] at h
theorem inv_reg {c : Code} {rs : List ROper} {ps} (h : resCode P n c = some (.reg rs ps)) : ∃ id ops d, c = .region id ops d ∧ resOpers P n ops ops.toList = some rs ∧ (d = false → ps = []) ∧ (d = true → ps = pairsOf ops.toList rs ∧ drawOK ops.toList rs ps = true) := by
  cases c with
  | region id ops d =>
    simp only [resCode] at h
    split at h
    · rename_i rs' h1
      split at h
      · rename_i hd
        split at h
        · rename_i hok; cases h; exact ⟨id, ops, d, rfl, h1, fun e => (by rw [hd] at e; cases e), fun _ => ⟨rfl, hok⟩⟩
        · cases h
      · rename_i hd
        cases h
        exact ⟨id, ops, d, rfl, h1, fun _ => rfl, fun e => absurd e (by simpa using hd)⟩
    · cases h
  | seq a b => simp only [resCode] at h; split at h <;> cases h
  | cond q a b => simp only [resCode] at h; split at h <;> cases h
  | block i a => simp only [resCode] at h; split at h <;> cases h
  | loop a => simp only [resCode] at h; split at h <;> cases h
  | _ => simp [resCode] at h
theorem inv_ret {c : Code} (h : resCode P n c = some .ret) : c = .ret := by
  cases c with
  | ret => rfl
  | region i o d => obtain ⟨_, _, h⟩ := reg_of h; cases h
  | seq a b => simp only [resCode] at h; split at h <;> cases h
  | cond q a b => simp only [resCode] at h; split at h <;> cases h
  | block i a => simp only [resCode] at h; split at h <;> cases h
  | loop a => simp only [resCode] at h; split at h <;> cases h
  | _ => simp [resCode] at h
theorem draw_any0 {ops : Array Oper} {rs : List ROper} {pairs : List (Nat × Nat)} (hr : resOpers P n ops ops.toList = some rs) (hd : drawOK ops.toList rs pairs = true)
    {fr : Fr} {S : List Ob} {K : Fr → List Ob → Prop} (h : VCops P rs fr S [] (fun fr' S' log => okLog pairs log ∧ K fr' S')) {g0 σ0} {a : Act} {w : World} (hat : At g0 σ0 n (Fr.get fr) (hp S) a w)
    {Q : Exit → Act → World → Prop} (hQ : ∀ fr' S' a' w', K fr' S' → At g0 σ0 n (Fr.get fr') (hp S') a' w' → Q .normal a' w') : wpAny P .any ops Q ops.size (Array.replicate ops.size false) a { w with drawn := w.drawn + 1 } := by
  obtain ⟨hlen, _⟩ := resOpers_get hr
  obtain ⟨r, fr', e1, e2, e3, hlog, hk⟩ := VCops_rec rs fr S [] h
  simp only [List.append_nil] at hlog
  have hsz : ops.size = rs.length := by rw [hlen]; simp
  have hno : ∀ i, ¬ listedP (Array.replicate ops.size false) i := fun i => by
    unfold listedP
    simp only [Array.getD_eq_getD_getElem?, Array.getElem?_replicate]
    split <;> simp
  refine draw_any hr hd r hlog (g0 := g0) (σ0 := σ0) (fun a' w' hat' => hQ fr' _ a' w' hk (by rw [e3]; exact hat')) ops.size _ a _ (by simp [hsz]) (fun i o _ hi => absurd hi (hno i)) ?_ ?_
  · rw [hsz]
    exact Nat.le_trans (List.length_filter_le _ _) (by simp)
  · have f1 : r.Fl (listedP (Array.replicate ops.size false)) = Fr.get fr := by
      funext t
      rw [← e1]
      unfold Rec.Fl
      rw [pick_cut (i := 0) (by omega) (fun j _ _ h => hno j h.1)]
      rfl
    have f2 : r.σl (listedP (Array.replicate ops.size false)) = hp S := by
      funext o
      rw [← e2]
      unfold Rec.σl
      rw [pick_cut (i := 0) (by omega) (fun j _ _ h => hno j h.1)]
      rfl
    rw [f1, f2]
    obtain ⟨h0, g, h1, h2, h3⟩ := hat
    exact ⟨h0, g, h1, h2.drew, h3⟩
theorem resOper_free {ops ops2 : Array Oper} {o : Oper} {ro : ROper} (h : resOper P n ops o = some ro) (hg : o.guard = none) : resOper P n ops2 o = some ro := by
  unfold resOper at h ⊢
  rw [hg] at h ⊢
  exact h
theorem resOpers_free {ops ops2 : Array Oper} : ∀ {l : List Oper} {rs : List ROper}, resOpers P n ops l = some rs → (∀ o ∈ l, o.guard = none) → resOpers P n ops2 l = some rs
  | [], rs, h, _ => by simpa [resOpers] using h
  | o :: l, rs, h, hg => by
    simp only [resOpers] at h ⊢
    split at h
    · rename_i x xs h1 h2
      cases h
      rw [resOper_free h1 (hg o (by simp)), resOpers_free h2 (fun q hq => hg q (by simp [hq]))]
    · cases h
theorem call_wp {o : Oper} {f : FuncId} {qs : List Opd} (hr : resRC P o.op = some (.call f qs)) {g : Gh} {σ : Hp} {F : Fm} {a : Act} {w : World} (hf : FRel g σ n F a) {next : Act → World → Prop} {Q : Exit → Act → World → Prop}
    (hC : ∀ vals, VRs g σ (evL F qs) vals → Calls P f vals w (fun e w' => ∃ u, e = .returned u ∧ next (a.put o.dst u) w')) : o.wp P a w next Q := by
  unfold resRC at hr
  split at hr
  · cases hr
  · split at hr
    · rename_i cl hop
      obtain ⟨dst, op, ty, pos, after, guard⟩ := o
      simp only at hop
      subst hop
      obtain ⟨callee, args, argTypes⟩ := cl
      have enter : ∀ f vals, (execOp a.eval ⟨dst, .call ⟨callee, args, argTypes⟩, ty, pos, after, guard⟩).run P w = .ok (.enter f vals) w →
          Calls P f vals w (fun | .returned v, w'' => next (a.put dst v) w'' | .panicked chain, w'' => Q (.panic chain) a w'' | .outgrown, _ => LetsOut Q) → Oper.wp P ⟨dst, .call ⟨callee, args, argTypes⟩, ty, pos, after, guard⟩ a w next Q := fun f vals h1 h2 => by
        unfold Oper.wp; rw [h1]; exact h2
      split at hr
      · rename_i f' qs' hc hq
        simp only at hc; subst hc
        split at hr
        · rename_i hcal
          cases hr
          refine enter f (args.map a.eval) ?_ ?_
          · simp [execOp, resolve, Act.eval, Deferred.ofValue, invoke, callable_run hcal]
          · refine (hC _ (VRs_of hf hq)).mono ?_
            rintro e w' ⟨u, rfl, h⟩
            exact h
        · cases hr
      · simp only [Option.map_eq_some_iff] at hr; obtain ⟨_, _, hr⟩ := hr; cases hr
      · simp only [Option.map_eq_some_iff] at hr; obtain ⟨_, _, hr⟩ := hr; cases hr
      · cases hr
    · cases hr
end

/-- What a call on the builder does. -/
def BC (P : Program) (T e : TypeId) (f : FuncId) (x : Value) (l : List UInt8) (u : Value) : Prop := ∀ N0 v bs w, BS T e N0 N0 v bs w → bs.length + l.length ≤ 140737488355328 → N0 ≤ w.heap.size →
  Calls P f #[.pointer (some ⟨N0, 0, none⟩), x] w fun e' w' => e' = .returned u ∧ ∃ v', BS T e N0 N0 v' (bs ++ Lib.byteCells l) w' ∧ BFr N0 v v' w w'
abbrev SK := Exit → Fr → List UInt8 → Prop
def SK.thn (N : Fr → List UInt8 → Prop) (K : SK) : SK
  | .normal, fr, acc => N fr acc
  | e, fr, acc => K e fr acc
def SK.blk (id : Nat) (K : SK) : SK
  | .exit j, fr, acc => if j = id then K .normal fr acc else K (.exit j) fr acc
  | e, fr, acc => K e fr acc
structure Cx where
  P : Program
  T : TypeId
  e : TypeId
  n : Nat
  bs : List Nat
  es : Nat
  nw : Nat
  hm : P.follows .mixedOrders = true
def SC (X : Cx) (g0 : Gh) (N0 : Nat) (fc : FC) (fr : Fr) (acc : List UInt8) (K : SK) : Prop :=
  ∀ c, resCode X.P X.n c = some fc → bchk X.P X.n X.bs X.es X.nw X.T c = true → ∀ a w, AtS X.T X.e g0 N0 X.n fr acc a w →
    c.wp X.P (fun e' a' w' => ∃ fr' acc', AtS X.T X.e g0 N0 X.n fr' acc' a' w' ∧ K e' fr' acc') a w
section
variable {X : Cx} {g0 : Gh} {N0 : Nat} (he : Ent g0 N0) {fr : Fr} {acc : List UInt8} {K : SK}
include he
theorem S_pure {ow : List Nat} {fc : FC} (h : VT X.P OB ow fc fr OB (fun e' fr' S' => S' = OB ∧ K e' fr' acc)) : SC X g0 N0 fc fr acc K := by
  intro c hr hb a w hat
  obtain ⟨g1, h1, h2⟩ := hat.in he
  refine wp_mono (VC_wp X.hm c fc hr fr OB _ (VT_VC (fun _ _ _ h => h) h) a w h1) (fun e' a' w' hq => ?_)
  obtain ⟨fr', S', hat', hS, hk⟩ := hq
  subst hS
  exact ⟨fr', acc, h2 _ _ _ hat', hk⟩
theorem S_wk {fc : FC} {fr' : Fr} (hw : Wk OB fr OB fr' OB) (h : SC X g0 N0 fc fr' acc K) : SC X g0 N0 fc fr acc K := by
  intro c hr hb a w hat
  obtain ⟨g1, h1, h2⟩ := hat.in he
  exact h c hr hb a w (h2 _ _ _ (hw _ _ _ _ h1))
omit he in
theorem S_seq {x y : FC} (h : SC X g0 N0 x fr acc (SK.thn (fun fr' acc' => SC X g0 N0 y fr' acc' K) K)) : SC X g0 N0 (.seq x y) fr acc K := by
  intro c hr hb a w hat
  obtain ⟨c1, c2, rfl, h1, h2⟩ := inv_seq hr
  simp only [bchk, Bool.and_eq_true] at hb
  refine wp_seq (wp_mono (h c1 h1 hb.1 a w hat) (fun e' a' w' hq => ?_))
  obtain ⟨fr', acc', hat', hk⟩ := hq
  cases e' with
  | normal => exact hk c2 h2 hb.2 a' w' hat'
  | _ => exact ⟨fr', acc', hat', hk⟩
omit he in
theorem S_cond {q : Opd} {x y : FC} {t : Bool} (ht : ev (Fr.get fr) q = .bool t) (h1 : t = true → SC X g0 N0 x fr acc K) (h2 : t = false → SC X g0 N0 y fr acc K) : SC X g0 N0 (.cond q x y) fr acc K := by
  intro c hr hb a w hat
  obtain ⟨u, c1, c2, rfl, hq, hr1, hr2⟩ := inv_cond hr
  simp only [bchk, Bool.and_eq_true] at hb
  obtain ⟨g, v, _, _, hf, _⟩ := hat.ex
  have hcv := rOpd_VR hf hq
  rw [ht] at hcv
  generalize hae : a.eval u = z at hcv
  cases hcv
  refine wp_cond_split hae (fun e => ?_) (fun e => ?_)
  · exact h1 e c1 hr1 hb.1 a w hat
  · exact h2 e c2 hr2 hb.2 a w hat
omit he in
theorem S_block {id : Nat} {x : FC} (h : SC X g0 N0 x fr acc (SK.blk id K)) : SC X g0 N0 (.block id x) fr acc K := by
  intro c hr hb a w hat
  obtain ⟨c1, rfl, h1⟩ := inv_block hr
  refine wp_block (wp_mono (h c1 h1 hb a w hat) (fun e' a' w' hq => ?_))
  obtain ⟨fr', acc', hat', hk⟩ := hq
  cases e' with
  | exit j =>
    simp only [Exit.inBlock, SK.blk] at hk ⊢
    split
    · rename_i e; rw [if_pos e] at hk; exact ⟨fr', acc', hat', hk⟩
    · rename_i e; rw [if_neg e] at hk; exact ⟨fr', acc', hat', hk⟩
  | _ => exact ⟨fr', acc', hat', hk⟩
theorem S_loop {x : FC} {ι : Type} (F : ι → Fr) (A : ι → List UInt8) (Pr : ι → Prop) (μ : ι → Nat) {i0 : ι} (hp0 : Pr i0) (hA : A i0 = acc) (hwk : Wk OB fr OB (F i0) OB)
    (hrd : ∀ i, Pr i → SC X g0 N0 x (F i) (A i) (SK.thn (fun fr' acc' => ∃ i', Pr i' ∧ μ i' < μ i ∧ acc' = A i' ∧ Wk OB fr' OB (F i') OB) K)) : SC X g0 N0 (.loop x) fr acc K := by
  intro c hr hb a w hat
  obtain ⟨c1, rfl, h1⟩ := inv_loop hr
  have wk : ∀ {fr fr' : Fr} {acc : List UInt8} {a w}, Wk OB fr OB fr' OB → AtS X.T X.e g0 N0 X.n fr acc a w → AtS X.T X.e g0 N0 X.n fr' acc a w := fun hw hat => by
    obtain ⟨g1, h1, h2⟩ := hat.in he
    exact h2 _ _ _ (hw _ _ _ _ h1)
  refine wp_loop_ix (fun i a w => Pr i ∧ AtS X.T X.e g0 N0 X.n (F i) (A i) a w) μ (fun i a w hI => ?_) (i0 := i0) ⟨hp0, wk hwk (by rw [hA]; exact hat)⟩
  refine wp_mono (hrd i hI.1 c1 h1 hb a w hI.2) (fun e' a' w' hq => ?_)
  obtain ⟨fr', acc', hat', hk⟩ := hq
  cases e' with
  | normal =>
    obtain ⟨i', k1, k2, rfl, k3⟩ := hk
    exact ⟨i', ⟨k1, wk k3 hat'⟩, k2⟩
  | _ => exact ⟨fr', acc', hat', hk⟩
/-- A call on the builder, last in its region. -/
theorem S_call {ow : List Nat} {rs : List ROper} {ps} {d : Option Nat} {f : FuncId} {qs : List Opd} (hfb : X.bs.contains f = true)
    (h : VT X.P OB ow (.reg rs ps) fr OB (fun e' fr' S' => S' = OB ∧ ∃ (V : AV) (x : Value) (l : List UInt8) (u : Value) (U : AV), BC X.P X.T X.e f x l u ∧ (∀ (pm : Pm) (L : Nat → Loc) (σ : Hp) y, VR pm L σ V y → y = x) ∧ (∀ (pm : Pm) (L : Nat → Loc) (σ : Hp), VR pm L σ U u) ∧
      evL (Fr.get fr') qs = [.ptr 0 0 0, V] ∧ acc.length + l.length ≤ 140737488355328 ∧ K .normal (putF fr' d U) (acc ++ l))) :
    SC X g0 N0 (.reg (rs ++ [⟨d, none, .call f qs⟩]) ps) fr acc K := by
  intro c hr hb a w hat
  obtain ⟨id, ops, dr, rfl, hrs, hd0, hd1⟩ := inv_reg hr
  obtain ⟨l1, l2, hl, e1, e2⟩ := resOpers_app hrs
  obtain ⟨o, rfl, ho⟩ : ∃ o, l2 = [o] ∧ resOper X.P X.n ops o = some ⟨d, none, .call f qs⟩ := by
    match l2, e2 with
    | [], e2 => simp [resOpers] at e2
    | o :: r, e2 =>
      simp only [resOpers] at e2
      split at e2
      · rename_i x xs h1 h2
        simp only [Option.some.injEq, List.cons.injEq] at e2
        obtain ⟨rfl, rfl⟩ := e2
        match r, h2 with
        | [], _ => exact ⟨o, rfl, h1⟩
        | q :: r, h2 =>
          simp only [resOpers] at h2
          split at h2 <;> cases h2
      · cases e2
  obtain ⟨hc, hdst, hdn, hgd⟩ := resOper_eq ho
  simp only at hc hdst
  have hgn : o.guard = none := by
    cases hg : o.guard with
    | none => rfl
    | some p => obtain ⟨j, b⟩ := p; rw [hg] at hgd; obtain ⟨t, _, h2⟩ := hgd; cases h2
  obtain ⟨g1, hat1, hback⟩ := hat.in he
  have hv := VT_VC (fun _ _ _ h => h) h
  simp only [VC] at hv
  -- the call itself
  have fin : ∀ (Q : Exit → Act → World → Prop), (∀ fr' acc' a' w', AtS X.T X.e g0 N0 X.n fr' acc' a' w' → K .normal fr' acc' → Q .normal a' w') → ∀ fr' S' a' w', (S' = OB ∧ ∃ (V : AV) (x : Value) (l : List UInt8) (u : Value) (U : AV), BC X.P X.T X.e f x l u ∧ (∀ (pm : Pm) (L : Nat → Loc) (σ : Hp) y, VR pm L σ V y → y = x) ∧ (∀ (pm : Pm) (L : Nat → Loc) (σ : Hp), VR pm L σ U u) ∧
      evL (Fr.get fr') qs = [.ptr 0 0 0, V] ∧ acc.length + l.length ≤ 140737488355328 ∧ K .normal (putF fr' d U) (acc ++ l)) → At g1 (hp OB) X.n (Fr.get fr') (hp S') a' w' → o.wp X.P a' w' (Q .normal) Q := by
    rintro Q hQ fr' S' a' w' ⟨rfl, V, x, l, u, U, hbc, hV, hU, hev, hlen, hk⟩ hat'
    obtain ⟨df, g, v, hle, hw, hf, hL, hB, hpm⟩ := hback _ _ _ hat'
    refine call_wp hc hf (fun vals hvals => ?_)
    rw [hev] at hvals
    obtain ⟨y1, y2, rfl, hy1, hy2⟩ := vals_two hvals
    obtain rfl := hV _ _ _ _ hy2
    cases hy1 with
    | ptr hptr =>
      rename_i ad
      have : ad = ⟨N0, 0, none⟩ := by
        have := hptr.2 rfl
        rw [hL] at this
        simpa using this
      subst this
      refine (hbc N0 v _ w' hB (by rw [Lib.byteCells_length]; exact hlen) (by have := hB.lt; omega)).mono ?_
      rintro e' w2 ⟨rfl, v', hB', hF⟩
      rw [← Lib.byteCells_append] at hB'
      refine ⟨_, rfl, hQ (putF fr' d U) (acc ++ l) _ _ ?_ hk⟩
      rw [hdst]
      exact AtS.after he df hle hw hf hL hB hpm hB' hF hdn (hU _ _ _)
  have hsz : ops.size = l1.length + 1 := by have := congrArg List.length hl; simpa using this
  have hlast : ops.toList.dropLast = l1 := by rw [hl]; simp
  cases dr with
  | false =>
    obtain rfl := hd0 rfl
    refine wp_region ?_
    rw [List.range_eq_range', hsz, show List.range' 0 (l1.length + 1) = List.range' 0 l1.length ++ [l1.length] by rw [List.range'_1_concat]; simp]
    refine VCops_wp2 (g0 := g1) (σ0 := hp OB) (K := fun fr' S' _ => _) l1 rs 0 fr OB [] a w (fun j q hj => ?_) e1 hv hat1 (fun fr' S' log a' w' hk hat' => ?_)
    · have : ops.toList[j]? = some q := by rw [hl, List.getElem?_append_left (List.getElem?_eq_some_iff.1 hj).1]; exact hj
      rw [Nat.zero_add, ← Array.getElem?_toList]; exact this
    · have hoi : ops[l1.length]? = some o := by rw [← Array.getElem?_toList, hl]; simp
      simp only [wpOps, hoi]
      rw [if_pos (by unfold Region.wanted; rw [hgn])]
      exact .inl (fin (fun e' a' w' => ∃ fr' acc', AtS X.T X.e g0 N0 X.n fr' acc' a' w' ∧ K e' fr' acc') (fun fr' acc' a' w' h1 h2 => ⟨fr', acc', h1, h2⟩) fr' S' a' w' hk.2 hat')
  | true =>
    obtain ⟨hps, hdok⟩ := hd1 rfl
    simp only [bchk, Bool.true_and, Bool.and_eq_true, Bool.or_eq_true, Bool.not_eq_true'] at hb
    have hlf : lastF X.P X.bs ops.toList = true := by
      unfold lastF
      rw [hl, List.getLast?_concat]
      simp only [hc]
      exact hfb
    have hreg : regOK X.P X.n ops = true := by
      rcases hb.1.1 with h | h
      · rw [hlf] at h; cases h
      · exact h
    unfold regOK at hreg
    rw [hlast] at hreg
    simp only [Bool.and_eq_true, List.all_eq_true, List.mem_range] at hreg
    obtain ⟨⟨hg, hord⟩, hrr⟩ := hreg
    have hg' : ∀ q ∈ ops.toList, q.guard = none := fun q hq => by simpa using hg q hq
    have hf1 : resOpers X.P X.n l1.toArray l1 = some rs := resOpers_free e1 (fun q hq => hg' q (by rw [hl]; simp [hq]))
    rw [hrs, hf1] at hrr
    simp only [Bool.and_eq_true, beq_iff_eq] at hrr
    obtain ⟨hdo, hpp⟩ := hrr
    rw [hps] at hv
    rw [hpp] at hv
    refine wp_region_any X.hm ?_
    have hlt := (drawOK_get hdok (by have := (resOpers_get hrs).1; omega)).1
    have hno : ∀ k i, ¬ listedP (Array.replicate k false) i := fun k i => by
      unfold listedP
      simp only [Array.getD_eq_getD_getElem?, Array.getElem?_replicate]
      split <;> simp
    rw [hsz]
    refine last_any hl hlt hord hg' l1.length (Array.replicate (l1.length + 1) false) (Array.replicate l1.length false) a _ (by simp) (by simp) (fun i hi => ⟨fun h => absurd h (hno _ _), fun h => absurd h (hno _ _)⟩) (hno _ _) (fun i q _ hi => absurd hi (hno _ _)) ?_
    have := draw_any0 (ops := l1.toArray) (Q := thenOp X.P o (fun e' a' w' => ∃ fr' acc', AtS X.T X.e g0 N0 X.n fr' acc' a' w' ∧ K e' fr' acc')) (by simpa using hf1) (by simpa using hdo) hv hat1 (fun fr' S' a' w' hk hat' => fin (fun e' a' w' => ∃ fr' acc', AtS X.T X.e g0 N0 X.n fr' acc' a' w' ∧ K e' fr' acc') (fun fr' acc' a' w' h1 h2 => ⟨fr', acc', h1, h2⟩) fr' S' a' w' hk hat')
    simpa using this
end
end Go.Ab
/- Rules for code that uses a builder of its own: lists gone through, the builder's making, its end, a function's result. -/
namespace Go.Ab
open Go.RowKit Go.Proofs
set_option linter.unusedVariables false
set_option linter.unusedSimpArgs false

/-- A list gone through, bytes put behind bytes. -/
def foldA {α : Type} (g : α → List UInt8 → Option (List UInt8)) : List α → List UInt8 → Option (List UInt8)
  | [], a => some a
  | x :: xs, a => (g x a).bind (foldA g xs)
def seqs : List FC → FC → FC
  | [], r => r
  | a :: ss, r => .seq a (seqs ss r)
section
variable {X : Cx} {g0 : Gh} {N0 : Nat} (he : Ent g0 N0) {fr : Fr} {acc : List UInt8} {K : SK}
theorem S_mono {fc : FC} {K K' : SK} (h : SC X g0 N0 fc fr acc K) (hk : ∀ e fr acc, K e fr acc → K' e fr acc) : SC X g0 N0 fc fr acc K' := fun c hr hb a w hat =>
  wp_mono (h c hr hb a w hat) (fun e a' w' ⟨fr', acc', h1, h2⟩ => ⟨fr', acc', h1, hk _ _ _ h2⟩)
include he
/-- Code between the builder's calls, in parts. -/
theorem S_pres {ow : List Nat} {ss : List FC} {rest : FC} (h : VT X.P OB ow (seqs ss .skip) fr OB (fun e' fr' S' => e' = .normal ∧ S' = OB ∧ SC X g0 N0 rest fr' acc K)) : SC X g0 N0 (seqs ss rest) fr acc K := by
  intro c hr hb a w hat
  obtain ⟨g1, h1, h2⟩ := hat.in he
  have key : ∀ (ss : List FC) (fr : Fr) (S : List Ob), VT X.P OB ow (seqs ss .skip) fr S (fun e' fr' S' => e' = .normal ∧ S' = OB ∧ SC X g0 N0 rest fr' acc K) → ∀ c, resCode X.P X.n c = some (seqs ss rest) → bchk X.P X.n X.bs X.es X.nw X.T c = true →
      ∀ a w, At g1 (hp OB) X.n (Fr.get fr) (hp S) a w → c.wp X.P (fun e' a' w' => ∃ fr' acc', AtS X.T X.e g0 N0 X.n fr' acc' a' w' ∧ K e' fr' acc') a w := by
    intro ss
    induction ss with
    | nil =>
      intro fr S hv c hr hb a w hat
      rw [seqs, VT_skip] at hv
      obtain ⟨_, rfl, hs⟩ := hv
      exact hs c hr hb a w (h2 _ _ _ hat)
    | cons x ss ih =>
      intro fr S hv c hr hb a w hat
      obtain ⟨c1, c2, rfl, r1, r2⟩ := inv_seq hr
      simp only [bchk, Bool.and_eq_true] at hb
      rw [seqs, VT_seq] at hv
      refine wp_seq (wp_mono (VC_wp X.hm c1 x r1 fr S _ (VT_VC (fun _ _ _ h => h) hv) a w hat) (fun e' a' w' hq => ?_))
      obtain ⟨fr', S', hat', hk⟩ := hq
      cases e' with
      | normal =>
        obtain ⟨F, T, hw, hk⟩ := hk
        exact ih F T hk c2 r2 hb.2 a' w' (hw _ _ _ _ hat')
      | _ => exact absurd hk.1 (by intro h; cases h)
  exact key ss fr OB h c hr hb a w h1
theorem S_rng {α : Type} {tc ti tn tj id id2 : Nat} {B : FC} {xs : List α} {g : α → List UInt8 → Option (List UInt8)} {acc1 : List UInt8} (hl : xs.length ≤ 4611686018427387904) (h : foldA g xs acc = some acc1) (F : Fr)
    (h1 : ti ≠ tn) (h2 : tj ≠ tn) (hF : Fr.get F tj = .junk ∧ Fr.get F ti = .junk ∧ Fr.get F tn = .junk ∧ Fr.get F tc = .junk)
    (hw : Wk OB fr OB ((ti, .int .i64 0) :: (tn, .int .i64 xs.length) :: F) OB)
    (hb : ∀ (i : Nat) x a a', xs[i]? = some x → i < xs.length → g x a = some a' → SC X g0 N0 B ((tc, .bool true) :: (ti, .int .i64 i) :: (tn, .int .i64 xs.length) :: F) a (fun e' fr' acc' => e' = .normal ∧ acc' = a' ∧ Wk OB fr' OB ((ti, .int .i64 i) :: (tn, .int .i64 xs.length) :: F) OB))
    (hx : ∀ fr', Wk OB fr' OB F OB → K .normal fr' acc1) :
    SC X g0 N0 (.block id (.loop (.seq (.reg [⟨some tc, none, .op (.bin .none .lss (.t ti) (.t tn))⟩] []) (.seq (.cond (.t tc) .skip (.exit id)) (.seq (.block id2 B) (.reg [⟨some tj, none, .op (.bin .none .add (.t ti) (.v (.int .i64 1)))⟩, ⟨some ti, none, .op (.mv (.t tj))⟩] [])))))) fr acc K := by
  obtain ⟨f1, f2, f3, f4⟩ := hF
  refine S_block (S_loop he (ι := Nat × List UInt8) (fun p => (ti, .int .i64 p.1) :: (tn, .int .i64 xs.length) :: F) (fun p => p.2) (fun p => p.1 ≤ xs.length ∧ foldA g (xs.drop p.1) p.2 = some acc1) (fun p => xs.length - p.1) (i0 := (0, acc)) ⟨Nat.zero_le _, by simpa using h⟩ rfl hw ?_)
  rintro ⟨i, a⟩ ⟨hi, hf⟩
  simp only at hi hf ⊢
  have hgt : ∀ (L : Fr) t v, Fr.get ((t, v) :: L) t = v := fun L t v => by rw [get_cons, if_pos rfl]
  have hgn : ∀ (L : Fr) t s v, t ≠ s → Fr.get ((s, v) :: L) t = Fr.get L t := fun L t s v hne => by rw [get_cons, if_neg hne]
  refine S_seq (S_pure he (ow := []) (E_reg (E_op0 (v := .bool (decide ((i : Int) < xs.length))) (v' := .bool (decide ((i : Int) < xs.length))) ?_ rfl (E_nil ⟨rfl, ?_⟩))))
  · simp only [opV, ev, hgt, hgn _ _ _ _ (Ne.symm h1)]
    rfl
  show SC X g0 N0 _ _ _ _
  refine S_seq (S_cond (t := decide ((i : Int) < xs.length)) (hgt _ _ _) (fun ht => ?_) (fun ht => ?_))
  · have hlt : i < xs.length := by simpa using ht
    rw [ht]
    refine S_pure he (ow := []) (E_skip ⟨rfl, ?_⟩)
    show SC X g0 N0 _ _ _ _
    have hx' : xs[i]? = some xs[i] := List.getElem?_eq_getElem hlt
    rw [List.drop_eq_getElem_cons hlt] at hf
    simp only [foldA] at hf
    obtain ⟨a', ha', hf'⟩ := Option.bind_eq_some_iff.1 hf
    refine S_seq (S_block (S_mono (hb i xs[i] a a' hx' hlt ha') (fun e fr' acc' hk => ?_)))
    obtain ⟨rfl, rfl, hwk⟩ := hk
    show SC X g0 N0 _ _ _ _
    refine S_wk he hwk (S_pure he (ow := []) (E_reg (E_op0 (v := .int .i64 (I64 ((i : Int) + 1))) (v' := .int .i64 ((i + 1 : Nat) : Int)) ?_ (congrArg _ (by rw [I64_id (by omega)]; rfl)) (E_mv (v' := .int .i64 ((i + 1 : Nat) : Int)) (hgt _ _ _) (E_nil ⟨rfl, ?_⟩)))))
    · simp only [opV, ev, hgt]
      rfl
    · refine ⟨(i + 1, acc'), ⟨hlt, hf'⟩, by simp only; omega, rfl, wk_get (fun t => ?_)⟩
      simp only [get_cons]
      by_cases e1 : t = ti
      · simp [e1]
      · by_cases e3 : t = tj
        · subst e3
          simp [e1, h2, f1]
        · simp [e1, e3]
  · have hnlt : ¬ ((i : Int) < xs.length) := by simpa using ht
    have hge : i = xs.length := by omega
    subst hge
    simp [foldA] at hf
    subst hf
    refine S_pure he (ow := []) (E_exit ⟨rfl, ?_⟩)
    show if id = id then _ else _
    rw [if_pos rfl]
    refine hx _ (wk_get (fun t => ?_))
    simp only [get_cons]
    by_cases e1 : t = tc
    · subst e1; exact .inr f4
    · by_cases e2 : t = ti
      · subst e2; exact .inr f2
      · by_cases e3 : t = tn
        · subst e3; exact .inr f3
        · simp [e1, e2, e3]
end
theorem AtS.wk {T e : TypeId} {g0 : Gh} {N0 n : Nat} {fr fr' : Fr} {acc : List UInt8} {a : Act} {w : World} (he : Ent g0 N0) (hw : Wk OB fr OB fr' OB) (h : AtS T e g0 N0 n fr acc a w) : AtS T e g0 N0 n fr' acc a w := by
  obtain ⟨g1, h1, h2⟩ := h.in he
  exact h2 _ _ _ (hw _ _ _ _ h1)
/-- Bytes put behind the builder's. -/
def wr (a l : List UInt8) : Option (List UInt8) := if a.length + l.length ≤ 140737488355328 then some (a ++ l) else none
theorem wr_some {a l b : List UInt8} (h : wr a l = some b) : a.length + l.length ≤ 140737488355328 ∧ b = a ++ l := by
  unfold wr at h
  split at h
  · cases h; exact ⟨by assumption, rfl⟩
  · cases h
/-- The builder is made. -/
theorem new_wp {X : Cx} {zc : List AV} (hz : ∀ w, (zeroValue X.T).run X.P w = .ok (.agg #[.pointer none, .slice none 0 0]) w) {c : Code} (hr : resCode X.P X.n c = some (.reg [⟨some X.nw, none, .op (.new zc)⟩] [])) (hb : bchk X.P X.n X.bs X.es X.nw X.T c = true)
    {g0 : Gh} {fr : Fr} {a : Act} {w : World} (hat0 : At g0 (hp []) X.n (Fr.get fr) (hp []) a w)
    {Q : Exit → Act → World → Prop} (hQ : ∀ N0 a' w', Ent g0 N0 → AtS X.T X.e g0 N0 X.n ((X.nw, .ptr 0 0 0) :: fr) [] a' w' → Q .normal a' w') : c.wp X.P Q a w := by
  have hat : At g0 noHp X.n (Fr.get fr) noHp a w := by rw [← hp_nil]; exact hat0
  obtain ⟨id, ops, d, rfl, hrs, _, _⟩ := inv_reg hr
  obtain ⟨o, hl, ho⟩ : ∃ o, ops.toList = [o] ∧ resOper X.P X.n ops o = some ⟨some X.nw, none, .op (.new zc)⟩ := by
    generalize ops.toList = l at hrs
    match l, hrs with
    | [], h => simp [resOpers] at h
    | o :: r, h =>
      simp only [resOpers] at h
      split at h
      · rename_i x xs h1 h2
        simp only [Option.some.injEq, List.cons.injEq] at h
        obtain ⟨rfl, rfl⟩ := h
        match r, h2 with
        | [], _ => exact ⟨o, rfl, h1⟩
        | q :: r, h2 =>
          simp only [resOpers] at h2
          split at h2 <;> cases h2
      · cases h
  obtain ⟨hc, hdst, hdn, hgd⟩ := resOper_eq ho
  simp only at hdst
  have hgn : o.guard = none := by
    cases hg : o.guard with
    | none => rfl
    | some p => obtain ⟨j, b⟩ := p; rw [hg] at hgd; obtain ⟨t, _, h2⟩ := hgd; cases h2
  simp only [bchk, Bool.and_eq_true, hl, List.all_cons, List.all_nil, Bool.and_true, ← hdst] at hb
  have hop : o.op = .alloc X.T ∧ d = false := by
    have h := hb.2
    simp only [bne_self_eq_false, Bool.false_or] at h
    split at h
    · rename_i t e
      simp only [Bool.and_eq_true, beq_iff_eq, Bool.not_eq_true'] at h
      exact ⟨by rw [e, h.1], h.2⟩
    · cases h
  obtain ⟨hop, rfl⟩ := hop
  refine wp_region ?_
  have hsz : ops.size = 1 := by have := congrArg List.length hl; simpa using this
  have hoi : ops[0]? = some o := by rw [← Array.getElem?_toList, hl]; rfl
  rw [hsz]
  show wpOps X.P ops Q [0] a w
  simp only [wpOps, hoi]
  rw [if_pos (by unfold Region.wanted; rw [hgn])]
  refine .inl ?_
  obtain ⟨df, g, hle, hw, hf⟩ := hat
  have hex : (execOp a.eval o).run X.P w = .ok (.value (.pointer (some ⟨w.heap.size, 0, none⟩))) (w.alloc (.cells #[.pointer none, .slice none 0 0] X.T)) := by
    unfold execOp
    simp [hop, Instr.alloc, hz, newVar, newRow, Value.cells]
  unfold Oper.wp
  rw [hex]
  have hw1 := hw.alloc_none (.cells #[.pointer none, .slice none 0 0] X.T)
  obtain ⟨hw2, hle2⟩ := hw1.own (o := 0) (l := ⟨w.heap.size, 0, 0⟩) (ver := 0) (cs := []) trivial (fun h => absurd h (by simp)) (Nat.le_refl _) (fun j hj => absurd hj (by simp)) (fun j hj => absurd hj (by simp)) (fun j hj => absurd hj (by simp)) (fun j hj => absurd hj (by simp)) (fun o' ver' cs' _ e => by cases e)
  have hσ : upd noHp 0 (.arr 0 []) = hp OB := by
    funext i
    cases i with
    | zero => rfl
    | succ i => simp [upd, hp]
  rw [hσ] at hw2 hle2
  have hent : Ent g0 w.heap.size := ⟨fun k o x hx => hw.pm_lt (hle.ext.pm _ _ _ hx), fun k o x hx => hw.tm_lt (by rw [hle.tm]; exact hx), by have := hw.B0; rw [hle.B0] at this; exact this⟩
  refine hQ w.heap.size _ _ hent ⟨by rw [← hdst]; exact df, _, .slice none 0 0, hle.trans hle2, hw2, ?_, by simp, BS.fresh X.T X.e w, fun k o hk => ?_⟩
  · rw [← hdst]
    have hf2 : FRel _ (hp OB) X.n (Fr.get fr) a := ⟨hf.size, fun t => (hf.get t).mono hle2.ext⟩
    have := hf2.put (hdn _ hdst.symm) (v := .ptr 0 0 0) (u := .pointer (some ⟨w.heap.size, 0, none⟩)) (.ptr ⟨Nat.le_refl _, fun _ => by simp⟩)
    have e1 : upd (Fr.get fr) X.nw (.ptr 0 0 0) = Fr.get ((X.nw, .ptr 0 0 0) :: fr) := by funext t; rw [get_cons]; rfl
    rw [← e1]
    exact this
  · rcases hk with rfl | hk
    · exact hw.pm_new _
    · simp [Value.ownBlock] at hk
/-- What a builder's String gives. -/
def SE (P : Program) (T e : TypeId) (f : FuncId) : Prop := ∀ N0 v l w, BS T e N0 N0 v (Lib.byteCells l) w → Calls P f #[.pointer (some ⟨N0, 0, none⟩)] w fun e' w' => e' = .returned (.string ⟨l.toArray⟩) ∧ Below N0 w w'
theorem end_wp {X : Cx} {g0 : Gh} {N0 : Nat} (he : Ent g0 N0) (hse : SE X.P X.T X.e X.es) {ow : List Nat} {d : Nat} {q : Opd} {rs : List ROper} {b : FC} {c : Code} (hr : resCode X.P X.n c = some (.seq (.reg (⟨some d, none, .call X.es [q]⟩ :: rs) []) b)) (hb : bchk X.P X.n X.bs X.es X.nw X.T c = true)
    {fr : Fr} {acc : List UInt8} {a : Act} {w : World} (hat : AtS X.T X.e g0 N0 X.n fr acc a w) (hq : ev (Fr.get fr) q = .ptr 0 0 0) {K : Post} (h : VT X.P [] ow (.seq (.reg rs []) b) [(d, .str ⟨acc.toArray⟩)] [] K) : c.wp X.P (QK g0 [] X.n K) a w := by
  obtain ⟨c1, c2, rfl, h1, h2⟩ := inv_seq hr
  simp only [bchk, Bool.and_eq_true] at hb
  have hv : VT X.P [] ow (.reg rs []) [(d, .str ⟨acc.toArray⟩)] [] (Post.thn (fun fr' S' => ∃ F T, Wk [] fr' S' F T ∧ VT X.P [] ow b F T K) K) := by rw [VT_seq] at h; exact h
  refine wp_seq ?_
  obtain ⟨id, ops, dr, rfl, hrs, _, _⟩ := inv_reg h1
  obtain ⟨o, l, hl, ho, hrest⟩ : ∃ o l, ops.toList = o :: l ∧ resOper X.P X.n ops o = some ⟨some d, none, .call X.es [q]⟩ ∧ resOpers X.P X.n ops l = some rs := by
    generalize ops.toList = l at hrs
    match l, hrs with
    | [], h => simp [resOpers] at h
    | o :: r, h =>
      simp only [resOpers] at h
      split at h
      · rename_i x xs e1 e2
        simp only [Option.some.injEq, List.cons.injEq] at h
        obtain ⟨rfl, rfl⟩ := h
        exact ⟨o, r, rfl, e1, e2⟩
      · cases h
  obtain ⟨hc, hdst, hdn, hgd⟩ := resOper_eq ho
  simp only at hc hdst
  have hgn : o.guard = none := by
    cases hg : o.guard with
    | none => rfl
    | some p => obtain ⟨j, b⟩ := p; rw [hg] at hgd; obtain ⟨t, _, h2⟩ := hgd; cases h2
  have hd : dr = false := by
    have h3 := hb.1
    simp only [bchk, Bool.and_eq_true, Bool.not_eq_true', Bool.and_eq_false_iff] at h3
    rcases h3.1.2 with h3 | h3
    · exact h3
    · exfalso
      unfold firstF at h3
      rw [hl] at h3
      simp [hc] at h3
  subst hd
  refine wp_region ?_
  have hsz : ops.size = l.length + 1 := by have := congrArg List.length hl; simpa using this
  have hoi : ops[0]? = some o := by rw [← Array.getElem?_toList, hl]; rfl
  rw [List.range_eq_range', hsz, List.range'_succ]
  simp only [wpOps, hoi]
  rw [if_pos (by unfold Region.wanted; rw [hgn])]
  refine .inl ?_
  obtain ⟨df, g, v, hle, hw, hf, hL, hB, hpm⟩ := hat
  refine call_wp hc hf (fun vals hvals => ?_)
  have hev : evL (Fr.get fr) [q] = [.ptr 0 0 0] := by simp [evL, hq]
  rw [hev] at hvals
  obtain ⟨u, rfl, hu⟩ : ∃ u, vals = #[u] ∧ VR g.pm g.L (hp OB) (.ptr 0 0 0) u := by
    obtain ⟨hs, hvv⟩ := hvals
    obtain ⟨ll⟩ := vals
    match ll, hs with
    | [u], _ => exact ⟨u, rfl, hvv 0 (by simp) (by simp)⟩
  cases hu with
  | ptr hptr =>
    rename_i ad
    have : ad = ⟨N0, 0, none⟩ := by
      have := hptr.2 rfl
      rw [hL] at this
      simpa using this
    subst this
    refine (hse N0 v acc w hB).mono ?_
    rintro e' w2 ⟨rfl, hbel⟩
    refine ⟨_, rfl, ?_⟩
    have kp : ∀ k, k < N0 → w2.heap[k]? = w.heap[k]? := fun k hk => hbel.block k hk
    have hw2 : WRel g0 noHp w2 := by
      refine ⟨fun k o x hx => ?_, fun k o x hx => ?_, fun k o x hx => ?_, fun k o x hx => ?_, ?_, ?_, ?_, fun o ver cs e => by simp [noHp] at e, fun o o' v v' c c' e => by simp [noHp] at e⟩
      · rw [cell_same (kp k (he.pm k o x hx))]; exact hw.pm _ _ _ (hle.ext.pm _ _ _ hx)
      · rw [cell_same (kp k (he.tm k o x hx))]; exact hw.tm _ _ _ (by rw [hle.tm]; exact hx)
      · rw [fz_same (kp k (he.tm k o x hx))]; exact hw.tmf k o x (by rw [hle.tm]; exact hx)
      · have := hw.disj k o x (hle.ext.pm _ _ _ hx); rw [hle.tm] at this; exact this
      · have := hw.low; rw [hle.B0, hle.w0] at this; exact this.trans (hbel.mono he.B0)
      · have := hw.B0; rw [hle.B0] at this; exact Nat.le_trans this hbel.size
      · have := hw.tab; rw [hle.B0, hle.w0] at this; exact this
    have hf0 : FRel g0 noHp X.n (Fr.get []) a := ⟨hf.size, fun t => .junk⟩
    have hat2 : At g0 (hp []) X.n (Fr.get [(d, .str ⟨acc.toArray⟩)]) (hp []) (a.put o.dst (.string ⟨acc.toArray⟩)) w2 := by
      refine ⟨by rw [← hdst]; exact df, g0, Gh.le.refl _ _, hw2, ?_⟩
      rw [← hdst]
      have := hf0.put (hdn d hdst.symm) (v := .str ⟨acc.toArray⟩) (u := .string ⟨acc.toArray⟩) .str
      have e1 : upd (Fr.get []) d (.str ⟨acc.toArray⟩) = Fr.get [(d, .str ⟨acc.toArray⟩)] := by funext t; rw [get_cons]; rfl
      rw [e1] at this
      exact this
    have hv2 := VT_VC (fun _ _ _ h => h) hv
    simp only [VC] at hv2
    refine VCops_wp (g0 := g0) (σ0 := hp []) (K := fun fr' S' _ => _) l rs 1 _ [] [] _ _ (fun j q hj => ?_) hrest hv2 hat2 (fun fr' S' log a' w' hk hat' => ?_)
    · have : ops.toList[1 + j]? = some q := by rw [hl, Nat.add_comm]; exact hj
      rw [← Array.getElem?_toList]; exact this
    · obtain ⟨_, F, Tn, hwk, hk⟩ := hk
      exact VC_wp X.hm c2 b h2 F Tn _ (VT_VC (fun _ _ _ h => h) hk) a' w' (hwk _ _ _ _ hat')
theorem PureEv_wp {X : Cx} {f : Nat} {ts : List RS} {fc : FC} (hfn : Fn3 X.P f X.n ts fc) {args : List AV} (hn : args.length ≤ X.n) {r : AV} (hck : ∀ fn c, X.P.funcs[f]? = some fn → fn.body = some c → bchk X.P X.n X.bs X.es X.nw X.T c = true)
    (h : ∀ c g0 a w, resCode X.P X.n c = some fc → bchk X.P X.n X.bs X.es X.nw X.T c = true → At g0 (hp []) X.n (Fr.get (initFr 0 args)) (hp []) a w →
      c.wp X.P (QK g0 [] X.n (fun e fr S => isRet e ∧ S = [] ∧ ∃ v, retV3 [] (Fr.get fr) ts = some v ∧ AVw v r)) a w) : PureEv X.P f args r := by
  intro g w vals hw hvs
  obtain ⟨fn, c, hf, hb, hnt, hrs, hrc⟩ := hfn.ex
  have hvs1 := hvs.1
  refine calls_of_wp hf hb ?_
  have hat : At g noHp X.n (Fr.get (initFr 0 args)) noHp { tmps := vals ++ Array.replicate (fn.ntmps - vals.size) undef, defers := [] } w := by
    refine ⟨rfl, g, Gh.le.refl _ _, hw, ⟨by simp; omega, fun t => ?_⟩⟩
    rw [initFr_get]
    simp only [Nat.zero_le, if_true, Nat.sub_zero]
    by_cases ht : t < args.length
    · have := hvs.2 t ht (by omega)
      rw [List.getD_eq_getElem?_getD, List.getElem?_eq_getElem ht]
      rw [Array.getD_eq_getD_getElem?, Array.getElem?_append_left (by omega), Array.getElem?_eq_getElem (by omega)]
      exact this
    · rw [List.getD_eq_getElem?_getD, List.getElem?_eq_none (by omega)]
      exact .junk
  refine wp_mono (h c g _ w hrc (hck fn c hf hb) (by rw [hp_nil]; exact hat)) (fun e a' w' hq => ?_)
  obtain ⟨fr1, S1, ⟨hd, g1, hle1, hw1, hf1⟩, he, rfl, v, hret, hR⟩ := hq
  obtain ⟨u, hu, hvu⟩ := results_ok (S := []) hw1 hf1 hrs hret
  rw [hp_nil] at hle1 hw1 hvu
  have hfin : a'.defers = [] ∧ ∃ v, (results fn a'.tmps).run X.P w' = .ok v w' ∧ ∃ u g', Ending.returned v = .returned u ∧ g.le noHp g' noHp ∧ WRel g' noHp w' ∧ VR g'.pm g'.L noHp r u :=
    ⟨hd, u, hu, u, g1, rfl, hle1, hw1, hvu.w hR⟩
  cases e with
  | normal => exact hfin
  | ret => exact hfin
  | _ => exact he.elim
end Go.Ab
/- The builder's contracts and strconv.Itoa over this seat's program. -/
namespace Go.Proofs
open Go.Shelf Go.RowKit
def Tryd.lays167_ren : Go.Shelf.Ren := ⟨fun | 167 => 65 | 240 => 102 | 276 => 130 | n => n, Tryd.lays156_ren.t, Tryd.lays156_ren.g⟩
theorem Tryd.lays167 : Go.Proofs.Lays.n167 Tryd.prog Tryd.lays167_ren := {
  mixed := by kernel_rfl
  f167 := Tryd.func65.trans (congrArg some (by kernel_rfl))
  f240 := Tryd.func102.trans (congrArg some (by kernel_rfl))
  f276 := Tryd.func130.trans (congrArg some (by kernel_rfl))
  t0 := Tryd.underlying0
  a0 := Tryd.isAgg0
  z0 := Tryd.sizeOf0
  v0 := Tryd.zeroValue0
  t4 := Tryd.underlying4
  a4 := Tryd.isAgg4
  z4 := Tryd.sizeOf4
  v4 := Tryd.zeroValue4
  t9 := Tryd.underlying9
  a9 := Tryd.isAgg9
  z9 := Tryd.sizeOf9
  v9 := Tryd.zeroValue9
  t20 := Tryd.underlying20
  a20 := Tryd.isAgg20
  z20 := Tryd.sizeOf20
  v20 := Tryd.zeroValue20
  t37 := Tryd.underlying49
  a37 := Tryd.isAgg49
  z37 := Tryd.sizeOf49
  v37 := Tryd.zeroValue49
  t70 := Tryd.underlying124
  a70 := Tryd.isAgg124
  z70 := Tryd.sizeOf124
  v70 := Tryd.zeroValue124
  t72 := Tryd.underlying126
  a72 := Tryd.isAgg126
  z72 := Tryd.sizeOf126
  v72 := Tryd.zeroValue126
  t75 := Tryd.underlying129
  a75 := Tryd.isAgg129
  z75 := Tryd.sizeOf129
  v75 := Tryd.zeroValue129
  t164 := Tryd.underlying201
  a164 := Tryd.isAgg201
  z164 := Tryd.sizeOf201
  v164 := Tryd.zeroValue201
  t5 := Tryd.underlying5
  a5 := Tryd.isAgg5
  z5 := Tryd.sizeOf5
  v5 := Tryd.zeroValue5 }
theorem Tryd.Builder_Extra_167 : Builder.Extra Tryd.prog Tryd.lays167_ren := {
  sizeBuilder := by kernel_rfl
  liesBuilder := by kernel_rfl
  t5 := Tryd.underlying5
  a5 := Tryd.isAgg5
  z5 := Tryd.sizeOf5
  v5 := Tryd.zeroValue5
  infoByte := by kernel_rfl
  cellsByte := by kernel_rfl
  sizeByte := by kernel_rfl
  neB5 := by decide }
def Tryd.laysM171_ren : Go.Shelf.Ren := ⟨fun | 171 => 61 | 243 => 101 | 246 => 129 | 283 => 115 | 284 => 116 | 285 => 117 | 286 => 118 | 129 => 140 | 317 => 139 | 318 => 141 | 319 => 142 | 320 => 143 | 337 => 163 | 338 => 162 | n => n, fun | 3 => 3 | 9 => 9 | 2 => 2 | 4 => 4 | 171 => 190 | 0 => 0 | 53 => 24 | 37 => 49 | 5 => 5 | 173 => 193 | 212 => 212 | 51 => 213 | 20 => 20 | 213 => 214 | 46 => 64 | 232 => 241 | 233 => 240 | n => n, fun | 17 => 0 | 18 => 5 | 19 => 4 | n => n⟩
theorem Tryd.laysM171 : Go.Proofs.LaysM.n171 Tryd.prog Tryd.laysM171_ren := {
  mixed := by kernel_rfl
  f129 := Tryd.func140.trans (congrArg some (by kernel_rfl))
  f171 := Tryd.func61.trans (congrArg some (by kernel_rfl))
  f243 := Tryd.func101.trans (congrArg some (by kernel_rfl))
  f246 := Tryd.func129.trans (congrArg some (by kernel_rfl))
  f283 := Tryd.func115.trans (congrArg some (by kernel_rfl))
  f284 := Tryd.func116.trans (congrArg some (by kernel_rfl))
  f285 := Tryd.func117.trans (congrArg some (by kernel_rfl))
  f286 := Tryd.func118.trans (congrArg some (by kernel_rfl))
  f317 := Tryd.func139.trans (congrArg some (by kernel_rfl))
  f318 := Tryd.func141.trans (congrArg some (by kernel_rfl))
  f319 := Tryd.func142.trans (congrArg some (by kernel_rfl))
  f320 := Tryd.func143.trans (congrArg some (by kernel_rfl))
  f337 := Tryd.func163.trans (congrArg some (by kernel_rfl))
  f338 := Tryd.func162.trans (congrArg some (by kernel_rfl))
  t0 := Tryd.underlying0
  a0 := Tryd.isAgg0
  z0 := Tryd.sizeOf0
  v0 := Tryd.zeroValue0
  t2 := Tryd.underlying2
  a2 := Tryd.isAgg2
  z2 := Tryd.sizeOf2
  v2 := Tryd.zeroValue2
  t3 := Tryd.underlying3
  a3 := Tryd.isAgg3
  z3 := Tryd.sizeOf3
  v3 := Tryd.zeroValue3
  t4 := Tryd.underlying4
  a4 := Tryd.isAgg4
  z4 := Tryd.sizeOf4
  v4 := Tryd.zeroValue4
  t5 := Tryd.underlying5
  a5 := Tryd.isAgg5
  z5 := Tryd.sizeOf5
  v5 := Tryd.zeroValue5
  t9 := Tryd.underlying9
  a9 := Tryd.isAgg9
  z9 := Tryd.sizeOf9
  v9 := Tryd.zeroValue9
  t20 := Tryd.underlying20
  a20 := Tryd.isAgg20
  z20 := Tryd.sizeOf20
  v20 := Tryd.zeroValue20
  t37 := Tryd.underlying49
  a37 := Tryd.isAgg49
  z37 := Tryd.sizeOf49
  v37 := Tryd.zeroValue49
  t46 := Tryd.underlying64
  a46 := Tryd.isAgg64
  z46 := Tryd.sizeOf64
  v46 := Tryd.zeroValue64
  t51 := Tryd.underlying213
  a51 := Tryd.isAgg213
  z51 := Tryd.sizeOf213
  v51 := Tryd.zeroValue213
  t53 := Tryd.underlying24
  a53 := Tryd.isAgg24
  z53 := Tryd.sizeOf24
  v53 := Tryd.zeroValue24
  t171 := Tryd.underlying190
  a171 := Tryd.isAgg190
  z171 := Tryd.sizeOf190
  v171 := Tryd.zeroValue190
  t173 := Tryd.underlying193
  a173 := Tryd.isAgg193
  z173 := Tryd.sizeOf193
  v173 := Tryd.zeroValue193
  t212 := Tryd.underlying212
  a212 := Tryd.isAgg212
  z212 := Tryd.sizeOf212
  v212 := Tryd.zeroValue212
  t213 := Tryd.underlying214
  a213 := Tryd.isAgg214
  z213 := Tryd.sizeOf214
  t232 := Tryd.underlying241
  a232 := Tryd.isAgg241
  z232 := Tryd.sizeOf241
  v232 := Tryd.zeroValue241
  t233 := Tryd.underlying240
  a233 := Tryd.isAgg240
  z233 := Tryd.sizeOf240
  v233 := Tryd.zeroValue240
  g17 := by kernel_rfl
  g18 := by kernel_rfl
  g19 := by kernel_rfl
  i0 := by kernel_rfl
  i2 := by kernel_rfl
  i3 := by kernel_rfl
  i4 := by kernel_rfl
  i5 := by kernel_rfl
  i9 := by kernel_rfl
  i20 := by kernel_rfl
  i37 := by kernel_rfl
  i46 := by kernel_rfl
  i51 := by kernel_rfl
  i53 := by kernel_rfl
  i171 := by kernel_rfl
  i173 := by kernel_rfl
  i212 := by kernel_rfl
  i232 := by kernel_rfl
  i233 := by kernel_rfl
  m17 := by kernel_rfl
  m18 := by kernel_rfl
  m19 := by kernel_rfl }
end Go.Proofs
namespace Go.Proofs.YtkfhljombjmdbaaDoor
open Go Go.Ab Go.RowKit Go.Shelf Go.Proofs
set_option linter.unusedVariables false
set_option linter.unusedSimpArgs false
/-- The program, the builder's type, the byte's, and the calls. -/
noncomputable abbrev cx : Cx := ⟨Tryd.prog, 126, 5, 101, [62, 65], 66, 6, by kernel_rfl⟩
theorem bc_str (s : ByteArray) : BC Tryd.prog 126 5 62 (.string s) s.data.toList (.tuple #[.int .i64 s.size, .nilIface]) := by
  intro N0 v bs w hB hl hN
  have h := bs_str (ρ := Tryd.lays156_ren) { Tryd.lays156 with } Tryd.Builder_Extra_156 N0 N0 v bs s w hB (by rw [Lib.size_eq]; exact hl) hN
  rw [Lib.strCells_eq] at h
  exact h
theorem bc_byte : BC Tryd.prog 126 5 65 (.int .u8 10) [10] .nilIface := by
  intro N0 v bs w hB hl hN
  exact bs_byte (ρ := Tryd.lays167_ren) Tryd.lays167 Tryd.Builder_Extra_167 N0 N0 v bs 10 w hB hl hN
theorem se_str : SE Tryd.prog 126 5 66 := by
  intro N0 v l w hB
  have h := Go.Proofs.Any.Builder_String_any_k (ρ := Tryd.lays156_ren) { Tryd.lays156 with } Tryd.Builder_Extra_156 N0 N0 l w hB.F (by have := hB.lt; omega)
  exact h.mono fun e w' ⟨h1, _, h2, _⟩ => ⟨h1, h2⟩
def strconv_Itoa_s (n : Int) : Option ByteArray := if 0 ≤ n ∧ n ≤ 9223372036854775807 then some ⟨(digs 19 n.toNat).toArray⟩ else none
theorem strconv_Itoa_ev {n : Int} {r : ByteArray} (h : strconv_Itoa_s n = some r) : PureEv Tryd.prog 61 [.int .i64 n] (.str r) := by
  unfold strconv_Itoa_s at h
  split at h
  case isFalse => cases h
  rename_i hl
  cases h
  intro g w vals hw hv
  obtain ⟨u, rfl, hu⟩ : ∃ u, vals = #[u] ∧ VR g.pm g.L noHp (.int .i64 n) u := by
    obtain ⟨hs, hvv⟩ := hv
    obtain ⟨ll⟩ := vals
    match ll, hs with
    | [u], _ => exact ⟨u, rfl, hvv 0 (by simp) (by simp)⟩
  cases hu
  refine (Go.Proofs.Any.strconv_Itoa Tryd.laysM171 n (by omega) hl.2 w (by rw [pow_tab]; exact hw.tabIs (b := 0) (by kernel_rfl) rfl)).mono ?_
  rintro e w' ⟨rfl, k, os, rfl⟩
  refine ⟨_, g, rfl, Gh.le.refl _ _, hw.below (Lib.below_grow _ w (Nat.le_refl _) k os), ?_⟩
  rw [digs_eq 19 n.toNat (by omega), show Lib.decDigits n.toNat = Lib.itoa n by unfold Lib.itoa; rw [if_neg (by omega)]]
  exact .str
end Go.Proofs.YtkfhljombjmdbaaDoor
