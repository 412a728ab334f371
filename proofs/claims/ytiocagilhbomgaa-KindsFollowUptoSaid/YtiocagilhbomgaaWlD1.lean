/- Functions' bodies: their code resolved, verification conditions, and what a call comes to. -/
import Derived.Test.YtiocagilhbomgaaWlC8
namespace Go.Ab
open Go.RowKit
set_option linter.unusedVariables false
set_option linter.unusedSimpArgs false

inductive FC where
  | skip
  | reg (rs : List ROper) (pairs : List (Nat × Nat))
  | seq (a b : FC)
  | cond (c : Opd) (a b : FC)
  | block (id : Nat) (a : FC)
  | loop (a : FC)
  | exit (id : Nat)
  | ret

/-- The pairs of operations that nothing orders and that may touch one object. -/
def pairsOf (ops : List Oper) (rs : List ROper) : List (Nat × Nat) :=
  let bs := befAll [] ops
  let l := (rs.zipIdx.filter fun (r, _) => !r.c.quiet)
  l.flatMap fun (y, j) => l.filterMap fun (x, i) => if i < j && !(x.c.reads && y.c.reads) && !ordB bs i j then some (i, j) else none

def resCode (P : Program) (n : Nat) : Code → Option FC
  | .skip => some .skip
  | .label _ => some .skip
  | .region _ ops d => match resOpers P n ops ops.toList with
    | some rs => if d then (let ps := pairsOf ops.toList rs; if drawOK ops.toList rs ps then some (.reg rs ps) else none) else some (.reg rs [])
    | none => none
  | .seq a b => match resCode P n a, resCode P n b with
    | some a, some b => some (.seq a b)
    | _, _ => none
  | .cond c a b => match rOpd c, resCode P n a, resCode P n b with
    | some c, some a, some b => some (.cond c a b)
    | _, _, _ => none
  | .block i a => match resCode P n a with
    | some a => some (.block i a)
    | none => none
  | .loop a => match resCode P n a with
    | some a => some (.loop a)
    | none => none
  | .exit i => some (.exit i)
  | .ret => some .ret
  | _ => none

/-- One frame and heap may be taken for another one. -/
def Wk (S0 : List Ob) (fr : Fr) (S : List Ob) (fr' : Fr) (S' : List Ob) : Prop :=
  ∀ g0 n a w, At g0 (hp S0) n (Fr.get fr) (hp S) a w → At g0 (hp S0) n (Fr.get fr') (hp S') a w

abbrev Post := Exit → Fr → List Ob → Prop

def Post.thn (N : Fr → List Ob → Prop) (K : Post) : Post
  | .normal, fr, S => N fr S
  | e, fr, S => K e fr S

def Post.blk (id : Nat) (K : Post) : Post
  | .exit j, fr, S => if j = id then K .normal fr S else K (.exit j) fr S
  | e, fr, S => K e fr S

def LoopVC (S0 : List Ob) (body : Fr → List Ob → Post → Prop) (fr : Fr) (S : List Ob) (K : Post) : Prop :=
  ∃ (ι : Type) (F : ι → Fr) (T : ι → List Ob) (Pr : ι → Prop) (μ : ι → Nat) (i0 : ι), Pr i0 ∧ Wk S0 fr S (F i0) (T i0) ∧
    ∀ i, Pr i → body (F i) (T i) (Post.thn (fun fr' S' => ∃ i', Pr i' ∧ μ i' < μ i ∧ Wk S0 fr' S' (F i') (T i')) K)

def VC (P : Program) (S0 : List Ob) : FC → Fr → List Ob → Post → Prop
  | .skip, fr, S, K => K .normal fr S
  | .reg rs pairs, fr, S, K => VCops P rs fr S [] fun fr' S' log => okLog pairs log ∧ K .normal fr' S'
  | .seq a b, fr, S, K => VC P S0 a fr S (Post.thn (fun fr' S' => ∃ F T, Wk S0 fr' S' F T ∧ VC P S0 b F T K) K)
  | .cond c a b, fr, S, K => match ev (Fr.get fr) c with
    | .bool t => (t = true → VC P S0 a fr S K) ∧ (t = false → VC P S0 b fr S K)
    | _ => False
  | .block id a, fr, S, K => VC P S0 a fr S (Post.blk id K)
  | .loop a, fr, S, K => LoopVC S0 (VC P S0 a) fr S K
  | .exit id, fr, S, K => K (.exit id) fr S
  | .ret, fr, S, K => K .ret fr S

theorem wp_loop_ix {P : Program} {Q : Exit → Act → World → Prop} {c : Code} {ι : Type} (I : ι → Act → World → Prop) (μ : ι → Nat)
    (round : ∀ i a w, I i a w → c.wp P (Exit.then (fun a' w' => ∃ i', I i' a' w' ∧ μ i' < μ i) Q) a w) {i0 : ι} {a : Act} {w : World} (h₀ : I i0 a w) : (Code.loop c).wp P Q a w := by
  intro b k cs
  have key : ∀ n i a w, μ i = n → I i a w →
      ∃ e a' w', Q e a' w' ∧ Arrives P (lone (b.at a (.code c :: .inLoop c :: k)) cs w) b k cs e a' w' := by
    intro n
    induction n using Nat.strongRecOn with
    | _ n ih =>
      intro i a w hn hI
      obtain ⟨e, a₁, w₁, hq, harr⟩ := round i a w hI b (.inLoop c :: k) cs
      cases e with
      | normal =>
        obtain ⟨i', hI₁, hlt⟩ := hq
        obtain ⟨e₂, a₂, w₂, hq₂, harr₂⟩ := ih (μ i') (hn ▸ hlt) i' a₁ w₁ rfl hI₁
        exact ⟨e₂, a₂, w₂, hq₂, .of_steps (Steps.trans harr (.one step_inLoop)) harr₂⟩
      | exit id => exact ⟨_, a₁, w₁, hq, .pass (x := .inLoop c) rfl (fun _ _ => .inl (by simp)) harr⟩
      | goto l => exact ⟨_, a₁, w₁, hq, .pass (x := .inLoop c) rfl (fun _ _ => .inl (by simp)) harr⟩
      | ret => exact ⟨_, a₁, w₁, hq, .pass (x := .inLoop c) rfl (fun _ _ => .inl (by simp)) harr⟩
      | panic ch => exact ⟨_, a₁, w₁, hq, .pass (x := .inLoop c) rfl (fun _ _ => .inl (by simp)) harr⟩
      | outgrown => exact ⟨_, a₁, w₁, hq, .pass (x := .inLoop c) rfl (fun _ _ => .inl (by simp)) harr⟩
  obtain ⟨e, a', w', hq, harr⟩ := key _ _ a w rfl h₀
  exact ⟨e, a', w', hq, .of_steps (.one step_loop) harr⟩

def QK (g0 : Gh) (S0 : List Ob) (n : Nat) (K : Post) : Exit → Act → World → Prop := fun e a w => ∃ fr S, At g0 (hp S0) n (Fr.get fr) (hp S) a w ∧ K e fr S

theorem VC_wp {P : Program} {n : Nat} (hm : P.follows .mixedOrders = true) {g0 : Gh} {S0 : List Ob} : ∀ (c : Code) (fc : FC), resCode P n c = some fc → ∀ (fr : Fr) (S : List Ob) (K : Post), VC P S0 fc fr S K →
    ∀ a w, At g0 (hp S0) n (Fr.get fr) (hp S) a w → c.wp P (QK g0 S0 n K) a w := by
  intro c
  induction c with
  | skip => intro fc h fr S K hv a w hat; simp only [resCode] at h; cases h; exact wp_skip ⟨fr, S, hat, hv⟩
  | label l => intro fc h fr S K hv a w hat; simp only [resCode] at h; cases h; exact wp_label ⟨fr, S, hat, hv⟩
  | region id ops d =>
    intro fc h fr S K hv a w hat
    simp only [resCode] at h
    split at h
    · rename_i rs hrs
      split at h
      · rename_i hd
        subst hd
        split at h
        · rename_i hok
          cases h
          exact draw_wp hm hrs hok hv hat (fun fr' S' a' w' hk hat' => ⟨fr', S', hat', hk⟩)
        · cases h
      · rename_i hd
        have : d = false := by simpa using hd
        subst this
        cases h
        simp only [VC, okLog, true_and] at hv
        exact text_wp hrs hv hat (fun fr' S' a' w' hk hat' => ⟨fr', S', hat', hk⟩)
    · cases h
  | seq x y ihx ihy =>
    intro fc h fr S K hv a w hat
    simp only [resCode] at h
    split at h
    · rename_i fx fy hx hy
      cases h
      refine wp_seq (wp_mono (ihx fx hx fr S _ hv a w hat) (fun e a' w' hq => ?_))
      obtain ⟨fr', S', hat', hk⟩ := hq
      cases e with
      | normal =>
        obtain ⟨F, T, hwk, hk⟩ := hk
        exact ihy fy hy F T K hk a' w' (hwk _ _ _ _ hat')
      | _ => exact ⟨fr', S', hat', hk⟩
    · cases h
  | cond c x y ihx ihy =>
    intro fc h fr S K hv a w hat
    simp only [resCode] at h
    split at h
    · rename_i c' fx fy hc hx hy
      cases h
      simp only [VC] at hv
      obtain ⟨_, g, _, _, hf⟩ := id hat
      have hcv := rOpd_VR hf hc
      generalize ev (Fr.get fr) c' = q at hv hcv
      cases q <;> try exact hv.elim
      rename_i t
      generalize hae : a.eval c = u at hcv
      cases hcv
      refine wp_cond_split hae (fun ht => ?_) (fun ht => ?_)
      · exact ihx fx hx fr S K (hv.1 ht) a w hat
      · exact ihy fy hy fr S K (hv.2 ht) a w hat
    · cases h
  | block i x ihx =>
    intro fc h fr S K hv a w hat
    simp only [resCode] at h
    split at h
    · rename_i fx hx
      cases h
      refine wp_block (wp_mono (ihx fx hx fr S _ hv a w hat) (fun e a' w' hq => ?_))
      obtain ⟨fr', S', hat', hk⟩ := hq
      cases e with
      | exit j =>
        simp only [Exit.inBlock, Post.blk] at hk ⊢
        split
        · rename_i e; rw [if_pos e] at hk; exact ⟨fr', S', hat', hk⟩
        · rename_i e; rw [if_neg e] at hk; exact ⟨fr', S', hat', hk⟩
      | _ => exact ⟨fr', S', hat', hk⟩
    · cases h
  | loop x ihx =>
    intro fc h fr S K hv a w hat
    simp only [resCode] at h
    split at h
    · rename_i fx hx
      cases h
      obtain ⟨ι, F, T, Pr, μ, i0, hp0, hwk, hrd⟩ := hv
      refine wp_loop_ix (fun i a w => Pr i ∧ At g0 (hp S0) n (Fr.get (F i)) (hp (T i)) a w) μ (fun i a w hI => ?_) (i0 := i0) ⟨hp0, hwk _ _ _ _ hat⟩
      refine wp_mono (ihx fx hx (F i) (T i) _ (hrd i hI.1) a w hI.2) (fun e a' w' hq => ?_)
      obtain ⟨fr', S', hat', hk⟩ := hq
      cases e with
      | normal =>
        obtain ⟨i', h1, h2, h3⟩ := hk
        exact ⟨i', ⟨h1, h3 _ _ _ _ hat'⟩, h2⟩
      | _ => exact ⟨fr', S', hat', hk⟩
    · cases h
  | exit i => intro fc h fr S K hv a w hat; simp only [resCode] at h; cases h; exact wp_exit ⟨fr, S, hat, hv⟩
  | ret => intro fc h fr S K hv a w hat; simp only [resCode] at h; cases h; exact wp_ret ⟨fr, S, hat, hv⟩
  | _ => intro fc h; simp [resCode] at h

/-! ### a call -/
def resSlots : List ResultVar → Option (List Nat)
  | [] => some []
  | .tmp t :: r => (resSlots r).map (t :: ·)
  | .cell _ _ :: _ => none

def initFr : Nat → List AV → Fr
  | _, [] => []
  | i, x :: r => (i, x) :: initFr (i + 1) r

def retAV (ts : List Nat) (F : Fm) : AV :=
  match ts with
  | [t] => F t
  | ts => .tup (ts.map F)

theorem initFr_get : ∀ (args : List AV) (i t : Nat), Fr.get (initFr i args) t = if i ≤ t then args.getD (t - i) .junk else .junk
  | [], i, t => by simp [initFr, Fr.get]
  | x :: r, i, t => by
    simp only [initFr, Fr.get]
    by_cases e : t = i
    · subst e; simp
    · rw [if_neg e, initFr_get r (i + 1) t]
      by_cases h : i ≤ t
      · rw [if_pos h, if_pos (by omega)]
        rw [show t - i = (t - (i + 1)) + 1 by omega]
        simp
      · rw [if_neg h, if_neg (by omega)]

def retV (ts : List Nat) (tmps : Array Value) : Value :=
  match ts with
  | [t] => tmps.getD t undef
  | ts => .tuple (ts.map (tmps.getD · undef)).toArray

theorem run_slots {P : Program} {tmps : Array Value} {w : World} {one : ResultVar → Sem Value} (ho : ∀ t, one (.tmp t) = pure (tmps.getD t undef)) :
    ∀ (rs : List ResultVar) (ts : List Nat), resSlots rs = some ts → (rs.mapM one).run P w = .ok (ts.map (tmps.getD · undef)) w := by
  intro rs
  induction rs with
  | nil => intro ts h; simp only [resSlots, Option.some.injEq] at h; subst h; simp only [List.mapM_nil, List.map_nil]; rfl
  | cons r rs ih =>
    intro ts h
    cases r with
    | tmp t =>
      simp only [resSlots, Option.map_eq_some_iff] at h
      obtain ⟨ts', h1, rfl⟩ := h
      simp only [List.mapM_cons, ho, pure_bind, Sem.run_bind, ih ts' h1, Result.andThen_ok, List.map_cons]
      rfl
    | cell a t => simp [resSlots] at h

theorem run_results {P : Program} {fn : Func} {ts : List Nat} (h : resSlots fn.results.toList = some ts) (tmps : Array Value) (w : World) :
    (results fn tmps).run P w = .ok (retV ts tmps) w := by
  unfold results
  generalize fn.results = R at h
  rcases R with ⟨rs⟩
  simp only [List.mapM_toArray]
  rw [Sem.run_bind, Sem.run_map, run_slots (fun _ => rfl) rs ts h]
  simp only [Result.andThen_ok, Sem.run_pure]
  rcases ts with _ | ⟨t, _ | ⟨t2, ts⟩⟩
  · rfl
  · rfl
  · simp only [retV, List.map_cons, List.size_toArray, List.length_cons]
    rw [dif_neg (by omega)]

structure Fn2 (P : Program) (f : FuncId) (n : Nat) (ts : List Nat) (fc : FC) : Prop where
  ex : ∃ fn c, P.funcs[f]? = some fn ∧ fn.body = some c ∧ fn.ntmps = n ∧ resSlots fn.results.toList = some ts ∧ resCode P n c = some fc

theorem Ev_of_VC {P : Program} {f n : Nat} {ts : List Nat} {fc : FC} (hm : P.follows .mixedOrders = true) (hfn : Fn2 P f n ts fc) {args : List AV} (hn : args.length ≤ n) {S S' : List Ob} {r : AV}
    (h : VC P S fc (initFr 0 args) S (fun e fr1 S1 => (match e with | .normal | .ret => True | _ => False) ∧ ∃ fr2, Wk S fr1 S1 fr2 S' ∧ retAV ts (Fr.get fr2) = r)) : Ev P f args (hp S) r (hp S') := by
  obtain ⟨fn, c, hf, hb, hnt, hrs, hrc⟩ := hfn.ex
  intro g w vals hw hv
  have hvs := hv.1
  refine calls_of_wp hf hb ?_
  have hat : At g (hp S) n (Fr.get (initFr 0 args)) (hp S) { tmps := vals ++ Array.replicate (fn.ntmps - vals.size) undef, defers := [] } w := by
    refine ⟨rfl, g, Gh.le.refl _ _, hw, ⟨by simp; omega, fun t => ?_⟩⟩
    rw [initFr_get]
    simp only [Nat.zero_le, if_true, Nat.sub_zero]
    by_cases ht : t < args.length
    · have := hv.2 t ht (by omega)
      rw [List.getD_eq_getElem?_getD, List.getElem?_eq_getElem ht]
      rw [Array.getD_eq_getD_getElem?, Array.getElem?_append_left (by omega), Array.getElem?_eq_getElem (by omega)]
      exact this
    · rw [List.getD_eq_getElem?_getD, List.getElem?_eq_none (by omega)]
      exact .junk
  refine wp_mono (VC_wp hm c fc hrc _ _ _ h _ _ hat) (fun e a' w' hq => ?_)
  obtain ⟨fr1, S1, hat1, he, fr2, hwk, hret⟩ := hq
  obtain ⟨hd, g', hle, hw', hf'⟩ := hwk _ _ _ _ hat1
  have hfin : a'.defers = [] ∧ ∃ v, (results fn a'.tmps).run P w' = .ok v w' ∧ ∃ u g', Ending.returned v = .returned u ∧ g.le (hp S) g' (hp S') ∧ WRel g' (hp S') w' ∧ VR g'.pm g'.L (hp S') r u := by
    refine ⟨hd, _, run_results hrs _ _, _, g', rfl, hle, hw', ?_⟩
    subst hret
    unfold retAV
    match ts with
    | [t] => exact hf'.get t
    | [] => exact .tup rfl (by simp)
    | t :: t2 :: ts =>
      refine .tup (by simp) (fun j h1 h2 => ?_)
      simp only [List.getElem_map, List.getElem_toArray]
      exact hf'.get _
  cases e with
  | normal => exact hfin
  | ret => exact hfin
  | _ => exact he.elim
end Go.Ab
