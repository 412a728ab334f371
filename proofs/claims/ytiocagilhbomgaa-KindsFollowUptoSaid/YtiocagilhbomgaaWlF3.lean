/- Freezing objects at a function's end. -/
import Derived.Test.YtiocagilhbomgaaWlF2
namespace Go.Ab
open Go.RowKit
set_option linter.unusedVariables false
set_option linter.unusedSimpArgs false

/-- A value whose objects from number k0 on are frozen; to a depth. -/
def frz (k0 : Nat) (S : List Ob) : Nat → AV → AV
  | 0, x => if x.blw k0 then x else .junk
  | k + 1, x => if x.blw k0 then x else match x with
    | .ptr o ver off => match hp S o with
      | .arr v cs => if v = ver then .cptr (cs.map (frz k0 S k)) off else .junk
      | _ => .junk
    | .ref o ver off n e => match hp S o with
      | .arr v cs => if v = ver ∧ off + n * szOf e ≤ cs.length ∧ ((cs.map (frz k0 S k)).drop off).all AV.one = true then .sl false (szOf e) (elemsOf e n ((cs.map (frz k0 S k)).drop off)) else .junk
      | _ => .junk
    | .agg cs => .agg (cs.map (frz k0 S k))
    | .tup cs => .tup (cs.map (frz k0 S k))
    | .iface t v => .iface t (frz k0 S k v)
    | .fn f a b => .fn f (a.map (frz k0 S k)) (b.map (frz k0 S k))
    | _ => .junk

def frzOb (k0 : Nat) (S : List Ob) (k : Nat) : Ob → Ob
  | .arr v cs => .arr v (cs.map (frz k0 S k))
  | x => x

theorem frz_id {k0 S k} {x : AV} (h : x.blw k0 = true) : frz k0 S k x = x := by
  cases k <;> simp [frz, h]
theorem frz_map {k0 S k} : ∀ {cs : List AV}, blwL k0 cs = true → cs.map (frz k0 S k) = cs
  | [], _ => rfl
  | x :: r, h => by
    simp only [blwL, Bool.and_eq_true] at h
    simp [frz_id h.1, frz_map h.2]

theorem VR.frz {k0 : Nat} {S : List Ob} {pm pm' : Pm} {L : Nat → Loc} {σ' : Hp} (hpm : ∀ b o v, pm b o = some v → pm' b o = some v)
    (hσ : ∀ o, ObExt (hp (S.take k0) o) (L o) (σ' o) (L o))
    (hc : ∀ o ver cs, k0 ≤ o → hp S o = .arr ver cs → ∃ us : Nat → Value, ∀ j (h : j < cs.length), pm' (L o).b ((L o).off + j) = some (us j) ∧ VR pm L (hp S) (cs[j]) (us j)) :
    ∀ (k : Nat) {x : AV} {u : Value}, VR pm L (hp S) x u → VR pm' L σ' (frz k0 S k x) u := by
  have hb : ∀ {x : AV} {u : Value}, VR pm L (hp S) x u → x.blw k0 = true → VR pm' L σ' x u := fun {x u} h hx =>
    (h.agree (σ' := hp (S.take k0)) (L' := L) hx (fun o ho => ⟨by rw [hp_take, if_pos ho], rfl⟩)).mono ⟨hpm, hσ⟩
  intro k
  induction k with
  | zero =>
    intro x u h
    simp only [Ab.frz]
    split
    · exact hb h (by assumption)
    · exact .junk
  | succ k ih =>
    intro x u h
    simp only [Ab.frz]
    split
    · exact hb h (by assumption)
    · rename_i hx
      cases h with
      | @ptr o ver off a hpt =>
        simp only
        split
        · rename_i v cs e
          split
          · rename_i ev
            subst ev
            unfold PtrOK at hpt
            rw [e] at hpt
            obtain rfl := hpt.2 rfl
            have ho : k0 ≤ o := by
              simp only [AV.blw, decide_eq_true_eq] at hx; omega
            obtain ⟨us, hus⟩ := hc o _ _ ho e
            exact .cptr us (fun j hj => (hus j (by simpa using hj)).1) (fun j hj => by
              simp only [List.getElem_map]
              exact ih (hus j (by simpa using hj)).2)
          · exact .junk
        · exact .junk
      | @ref o ver off n e a cap hn hs hr =>
        simp only
        split
        · rename_i v cs e1
          split
          · rename_i ev
            obtain ⟨rfl, h1, h2⟩ := ev
            unfold RefOK at hr
            rw [e1] at hr
            obtain ⟨rfl, r2, r3, r4⟩ := hr.2 rfl
            have ho : k0 ≤ o := by
              simp only [AV.blw, decide_eq_true_eq] at hx; omega
            obtain ⟨us, hus⟩ := hc o _ _ ho e1
            exact VR.told (us := fun j => us (off + j)) (by simp; omega) h2 (fun j hj => by rw [Nat.add_assoc]; exact (hus (off + j) (by omega)).1)
              (fun j hj hj2 => by
                simp only [List.getElem_drop, List.getElem_map]
                exact ih (hus (off + j) (by omega)).2) hn (by intro e; cases e)
          · exact .junk
        · exact .junk
      | @refnil o ver off e a hv =>
        simp only
        split
        · split
          · have : ∀ l : List AV, elemsOf e 0 l = [] := fun l => by cases e <;> simp [elemsOf, chunk]
            rw [this]; exact .slz'
          · exact .junk
        · exact .junk
      | agg a b => exact .agg (by simpa using a) (fun j h1 h2 => by simp only [List.getElem_map]; exact ih (b j (by simpa using h1) h2))
      | tup a b => exact .tup (by simpa using a) (fun j h1 h2 => by simp only [List.getElem_map]; exact ih (b j (by simpa using h1) h2))
      | iface h => exact .iface (ih h)
      | fn a b c d => exact .fn (by simpa using a) (by simpa using b) (fun j h1 h2 => by simp only [List.getElem_map]; exact ih (c j (by simpa using h1) h2)) (fun j h1 h2 => by simp only [List.getElem_map]; exact ih (d j (by simpa using h1) h2))
      | _ => exact .junk

def frzS (k0 : Nat) (S : List Ob) (k : Nat) : List Ob := (S.take k0).map (frzOb k0 S k)

theorem gwk_frz {S0 S : List Ob} (k0 k : Nat) (h0 : S0.length ≤ k0) : GWk S0 S (frzS k0 S k) (fun x y => y = frz k0 S k x) := by
  unfold frzS
  intro g0 g w h1 h2
  classical
  let reg : Nat → Nat → Prop := fun b o => ∃ i ver cs, k0 ≤ i ∧ hp S i = .arr ver cs ∧ (g.L i).b = b ∧ ∃ j, j < cs.length ∧ (g.L i).off + j = o
  let pm' : Pm := fun b o => if reg b o then w.cell? ⟨b, o, none⟩ else g.pm b o
  have hnp : ∀ b o v, g.pm b o = some v → ¬ reg b o := by
    rintro b o v e ⟨i, ver, cs, _, e1, rfl, j, hj, rfl⟩
    have k := h2.ob i ver cs e1
    rw [k.pm j (by have := k.len; omega)] at e; cases e
  have hpm : ∀ b o v, g.pm b o = some v → pm' b o = some v := fun b o v e => by
    simp only [pm']; rw [if_neg (hnp _ _ _ e)]; exact e
  have hS : ∀ o, hp ((S.take k0).map (frzOb k0 S k)) o = frzOb k0 S k (hp (S.take k0) o) := fun o => by
    simp only [hp, List.getD_eq_getElem?_getD, List.getElem?_map]
    cases (S.take k0)[o]? <;> rfl
  have hσ : ∀ o, ObExt (hp (S.take k0) o) (g.L o) (hp ((S.take k0).map (frzOb k0 S k)) o) (g.L o) := fun o => by
    rw [hS]
    cases hp (S.take k0) o <;> simp [frzOb, ObExt]
  have hin : ∀ o v cs, hp ((S.take k0).map (frzOb k0 S k)) o = .arr v cs → o < k0 ∧ ∃ cs', hp S o = .arr v cs' ∧ cs = cs'.map (frz k0 S k) := fun o v cs e => by
    rw [hS, hp_take] at e
    split at e
    · rename_i ho
      refine ⟨ho, ?_⟩
      cases e1 : hp S o <;> rw [e1] at e <;> simp only [frzOb] at e <;> cases e
      exact ⟨_, rfl, rfl⟩
    · simp [frzOb] at e
  have key : ∀ {x u}, VR g.pm g.L (hp S) x u → VR pm' g.L (hp ((S.take k0).map (frzOb k0 S k))) (frz k0 S k x) u := fun {x u} h => by
    refine VR.frz hpm hσ (fun o ver cs ho e => ?_) k h
    have q := h2.ob o ver cs e
    refine ⟨fun j => (w.cell? ⟨(g.L o).b, (g.L o).off + j, none⟩).getD undef, fun j hj => ?_⟩
    obtain ⟨v, hv, hr⟩ := q.there j (by have := q.len; omega)
    have hreg : reg (g.L o).b ((g.L o).off + j) := ⟨o, ver, cs, ho, e, rfl, j, hj, rfl⟩
    refine ⟨?_, by show VR _ _ _ _ ((w.cell? _).getD undef); rw [hv]; exact hr hj⟩
    simp only [pm']; rw [if_pos hreg, hv]; rfl
  refine ⟨{ g with pm := pm' }, ⟨⟨fun b o v e => hpm _ _ _ (h1.ext.pm _ _ _ e), fun o => ?_⟩, h1.tm, h1.B0, h1.w0⟩, ⟨fun b o v e => ?_, h2.tm, h2.tmf, fun b o v e => ?_, h2.low, h2.B0, fun o ver cs e => ?_, fun o o' v v' c c' e e' hne => ?_⟩, fun x y u r hv => by rw [r]; exact key hv⟩
  · by_cases ho : o < S0.length
    · refine (h1.ext.ob o).trans ?_
      have := hσ o
      rw [hp_take, if_pos (by omega)] at this
      exact this
    · rw [hp_ge (S := S0) (by omega)]; exact trivial
  · replace e : (if reg b o then w.cell? ⟨b, o, none⟩ else g.pm b o) = some v := e
    split at e
    · exact e
    · exact h2.pm _ _ _ e
  · replace e : (if reg b o then w.cell? ⟨b, o, none⟩ else g.pm b o) = some v := e
    split at e
    · rename_i hr
      obtain ⟨i, ver, cs, _, e1, rfl, j, hj, rfl⟩ := hr
      have q := h2.ob i ver cs e1
      exact q.tm j (by have := q.len; omega)
    · exact h2.disj _ _ _ e
  · obtain ⟨ho, cs', e1, rfl⟩ := hin _ _ _ e
    have q := h2.ob o ver cs' e1
    refine ⟨q.low, by simpa using q.len, fun j hj => ?_, q.free, fun j hj => ?_, q.tm⟩
    · obtain ⟨v, hv, hr⟩ := q.there j hj
      exact ⟨v, hv, fun hj' => by simp only [List.getElem_map]; exact key (hr (by simpa using hj'))⟩
    · show (if reg _ _ then _ else _) = _
      rw [if_neg]
      · exact q.pm j hj
      · rintro ⟨i, ver', c', hi, e2, hb, j', hj', he⟩
        have q' := h2.ob i ver' c' e2
        exact h2.sep i o _ _ _ _ e2 e1 (by omega) hb j' j (by have := q'.len; omega) hj he
  · obtain ⟨ho, c1, e1, _⟩ := hin _ _ _ e
    obtain ⟨ho', c2, e2, _⟩ := hin _ _ _ e'
    exact h2.sep o o' _ _ _ _ e1 e2 hne

/-! ### a function's end: results may be variables -/
abbrev RS := Nat × Option (Option Nat)
def resSlots3 (P : Program) : List ResultVar → Option (List RS)
  | [] => some []
  | .tmp t :: r => (resSlots3 P r).map ((t, none) :: ·)
  | .cell a t :: r => match eshOf P t, resSlots3 P r with
    | some sh, some q => some ((a, some sh) :: q)
    | _, _ => none

def oneV (S : List Ob) (F : Fm) : RS → Option AV
  | (t, none) => some (F t)
  | (t, some sh) => (vLoad sh (F t) S).map (·.1)
def manyV (S : List Ob) (F : Fm) : List RS → Option (List AV)
  | [] => some []
  | t :: r => match oneV S F t, manyV S F r with
    | some v, some vs => some (v :: vs)
    | _, _ => none
def retV3 (S : List Ob) (F : Fm) (ts : List RS) : Option AV :=
  match ts with
  | [t] => oneV S F t
  | ts => (manyV S F ts).map .tup

theorem oneV_ok {P : Program} {g : Gh} {S : List Ob} {n : Nat} {F : Fm} {a : Act} {w : World} (hw : WRel g (hp S) w) (hf : FRel g (hp S) n F a) {x : ResultVar} {ts : List RS} {t : RS}
    (hr : resSlots3 P [x] = some [t]) {v : AV} (hv : oneV S F t = some v) {one : ResultVar → Sem Value} (ho : ∀ t, one (.tmp t) = pure (a.tmps.getD t undef)) (hc : ∀ b t, one (.cell b t) = (do loadVar t (← asAddr (a.tmps.getD b undef)))) :
    ∃ u, (one x).run P w = .ok u w ∧ VR g.pm g.L (hp S) v u := by
  cases x with
  | tmp i =>
    simp [resSlots3] at hr; subst hr
    simp only [oneV] at hv; cases hv
    exact ⟨_, by rw [ho]; rfl, hf.get i⟩
  | cell b ty =>
    simp only [resSlots3] at hr
    split at hr
    · rename_i sh q e1 e2
      cases e2
      cases hr
      simp only [oneV, Option.map_eq_some_iff, Prod.exists] at hv
      obtain ⟨v', rd, δ, h1, rfl⟩ := hv
      obtain ⟨h2, rfl⟩ := vLoad_eq h1
      obtain ⟨a', r, h3, h4, h5⟩ := load_ok hw e1 (hf.get b) h2
      refine ⟨r, ?_, h5⟩
      rw [hc, h3]
      simp [asAddr, h4]
    · cases hr

theorem manyV_ok {P : Program} {g : Gh} {S : List Ob} {n : Nat} {F : Fm} {a : Act} {w : World} (hw : WRel g (hp S) w) (hf : FRel g (hp S) n F a) {one : ResultVar → Sem Value} (ho : ∀ t, one (.tmp t) = pure (a.tmps.getD t undef)) (hc : ∀ b t, one (.cell b t) = (do loadVar t (← asAddr (a.tmps.getD b undef)))) :
    ∀ (rs : List ResultVar) (ts : List RS) (vs : List AV), resSlots3 P rs = some ts → manyV S F ts = some vs →
      ∃ us : List Value, (rs.mapM one).run P w = .ok us w ∧ us.length = vs.length ∧ ∀ j (h : j < vs.length) (h' : j < us.length), VR g.pm g.L (hp S) vs[j] us[j] := by
  intro rs
  induction rs with
  | nil =>
    intro ts vs h1 h2
    simp only [resSlots3, Option.some.injEq] at h1; subst h1
    simp only [manyV, Option.some.injEq] at h2; subst h2
    exact ⟨[], rfl, rfl, fun j h => by simp at h⟩
  | cons r rs ih =>
    intro ts vs h1 h2
    have hsplit : ∃ t ts', ts = t :: ts' ∧ resSlots3 P [r] = some [t] ∧ resSlots3 P rs = some ts' := by
      cases r with
      | tmp i =>
        simp only [resSlots3, Option.map_eq_some_iff] at h1
        obtain ⟨q, e, rfl⟩ := h1
        exact ⟨_, q, rfl, rfl, e⟩
      | cell b ty =>
        simp only [resSlots3] at h1 ⊢
        split at h1
        · rename_i sh q e1 e2
          cases h1
          exact ⟨_, q, rfl, by rw [e1], e2⟩
        · cases h1
    obtain ⟨t, ts', rfl, e1, e2⟩ := hsplit
    simp only [manyV] at h2
    split at h2
    · rename_i v vs' e3 e4
      cases h2
      obtain ⟨u, k1, k2⟩ := oneV_ok (ts := []) hw hf e1 e3 ho hc
      obtain ⟨us, k3, k4, k5⟩ := ih ts' vs' e2 e4
      refine ⟨u :: us, by simp [k1, k3], by simp [k4], fun j h h' => ?_⟩
      cases j with
      | zero => exact k2
      | succ j => simpa using k5 j (by simpa using h) (by simpa using h')
    · cases h2

structure Fn3 (P : Program) (f : FuncId) (n : Nat) (ts : List RS) (fc : FC) : Prop where
  ex : ∃ fn c, P.funcs[f]? = some fn ∧ fn.body = some c ∧ fn.ntmps = n ∧ resSlots3 P fn.results.toList = some ts ∧ resCode P n c = some fc

theorem results_ok {P : Program} {fn : Func} {g : Gh} {S : List Ob} {n : Nat} {F : Fm} {a : Act} {w : World} (hw : WRel g (hp S) w) (hf : FRel g (hp S) n F a) {ts : List RS} (hr : resSlots3 P fn.results.toList = some ts) {v : AV} (hv : retV3 S F ts = some v) :
    ∃ u, (results fn a.tmps).run P w = .ok u w ∧ VR g.pm g.L (hp S) v u := by
  unfold results
  generalize fn.results = R at hr
  rcases R with ⟨rs⟩
  simp only [List.mapM_toArray]
  simp only at hr
  have hlen : ∀ (rs : List ResultVar) (ts : List RS), resSlots3 P rs = some ts → rs.length = ts.length := by
    intro rs
    induction rs with
    | nil => intro ts h; simp only [resSlots3, Option.some.injEq] at h; subst h; rfl
    | cons r rs ih =>
      intro ts h
      cases r with
      | tmp i => simp only [resSlots3, Option.map_eq_some_iff] at h; obtain ⟨q, e, rfl⟩ := h; simp [ih q e]
      | cell b ty =>
        simp only [resSlots3] at h
        split at h
        · rename_i sh q e1 e2; cases h; simp [ih q e2]
        · cases h
  rw [Sem.run_bind, Sem.run_map]
  revert hv
  match ts, hr with
  | [t], hr =>
    intro hv
    have hl := hlen _ _ hr
    obtain ⟨us, k1, k2, k3⟩ := manyV_ok (one := fun | .tmp t => pure (a.tmps.getD t undef) | .cell b t => do loadVar t (← asAddr (a.tmps.getD b undef))) hw hf (fun _ => rfl) (fun _ _ => rfl) rs [t] [v] hr (by simp only [retV3] at hv; simp [manyV, hv])
    refine ⟨us.headD undef, ?_, ?_⟩
    · erw [k1]
      simp only [List.length_singleton] at k2
      match us, k2 with
      | [u], _ => rfl
    · match us, k2 with
      | [u], _ => exact k3 0 (by simp) (by simp)
  | [], hr =>
    intro hv
    simp only [retV3, manyV, Option.map_some, Option.some.injEq] at hv
    subst hv
    obtain ⟨us, k1, k2, k3⟩ := manyV_ok (one := fun | .tmp t => pure (a.tmps.getD t undef) | .cell b t => do loadVar t (← asAddr (a.tmps.getD b undef))) hw hf (fun _ => rfl) (fun _ _ => rfl) rs [] [] hr rfl
    refine ⟨.tuple us.toArray, ?_, .tup (by simpa using k2) (fun j h => by simp at h)⟩
    erw [k1]
    simp only [List.length_nil] at k2
    match us, k2 with
    | [], _ => rfl
  | t :: t2 :: ts, hr =>
    intro hv
    simp only [retV3, Option.map_eq_some_iff] at hv
    obtain ⟨vs, hv2, rfl⟩ := hv
    replace hv := hv2
    clear hv2
    obtain ⟨us, k1, k2, k3⟩ := manyV_ok (one := fun | .tmp t => pure (a.tmps.getD t undef) | .cell b t => do loadVar t (← asAddr (a.tmps.getD b undef))) hw hf (fun _ => rfl) (fun _ _ => rfl) rs _ vs hr hv
    have hl2 : 2 ≤ vs.length := by
      simp only [manyV] at hv
      split at hv
      · rename_i e _ e2
        cases hv
        split at e2
        · cases e2; simp
        · cases e2
      · cases hv
    refine ⟨.tuple us.toArray, ?_, .tup (by simpa using k2) (fun j h h' => by simpa using k3 j h (by simpa using h'))⟩
    erw [k1]
    simp only [Result.andThen_ok]
    rw [dif_neg (by simp; omega)]
    rfl

theorem Ev_end {P : Program} {f n : Nat} {ts : List RS} {fc : FC} (hm : P.follows .mixedOrders = true) (hfn : Fn3 P f n ts fc) {args : List AV} (hn : args.length ≤ n) {S S' : List Ob} {r : AV} (ow : List Nat)
    (h : VT P S ow fc (initFr 0 args) S (fun e fr1 S1 => isRet e ∧ ∃ v R, retV3 S1 (Fr.get fr1) ts = some v ∧ GWk S S1 S' R ∧ R v r)) : Ev P f args (hp S) r (hp S') := by
  have hv := VT_VC (K' := fun e fr1 S1 => isRet e ∧ ∃ v R, retV3 S1 (Fr.get fr1) ts = some v ∧ GWk S S1 S' R ∧ R v r) (fun _ _ _ h => h) h
  intro g w vals hw hvs
  obtain ⟨fn, c, hf, hb, hnt, hrs, hrc⟩ := hfn.ex
  have hvs1 := hvs.1
  refine calls_of_wp hf hb ?_
  have hat : At g (hp S) n (Fr.get (initFr 0 args)) (hp S) { tmps := vals ++ Array.replicate (fn.ntmps - vals.size) undef, defers := [] } w := by
    refine ⟨rfl, g, Gh.le.refl _ _, hw, ⟨by simp; omega, fun t => ?_⟩⟩
    rw [initFr_get]
    simp only [Nat.zero_le, if_true, Nat.sub_zero]
    by_cases ht : t < args.length
    · have := hvs.2 t ht (by omega)
      rw [List.getD_eq_getElem?_getD, List.getElem?_eq_getElem ht]
      rw [Array.getD_eq_getD_getElem?, Array.getElem?_append_left (by omega), Array.getElem?_eq_getElem (by omega)]
      exact this
    · rw [List.getD_eq_getElem?_getD, List.getElem?_eq_none (by omega)]
      exact .junk
  refine wp_mono (VC_wp hm c fc hrc _ _ _ hv _ _ hat) (fun e a' w' hq => ?_)
  obtain ⟨fr1, S1, ⟨hd, g1, hle1, hw1, hf1⟩, he, v, R, hret, hgw, hR⟩ := hq
  obtain ⟨u, hu, hvu⟩ := results_ok hw1 hf1 hrs hret
  obtain ⟨g2, hle2, hw2, hv2⟩ := hgw g g1 w' hle1 hw1
  have hfin : a'.defers = [] ∧ ∃ v, (results fn a'.tmps).run P w' = .ok v w' ∧ ∃ u g', Ending.returned v = .returned u ∧ g.le (hp S) g' (hp S') ∧ WRel g' (hp S') w' ∧ VR g'.pm g'.L (hp S') r u :=
    ⟨hd, u, hu, u, g2, rfl, hle2, hw2, hv2 _ _ _ hR hvu⟩
  cases e with
  | normal => exact hfin
  | ret => exact hfin
  | _ => exact he.elim

/-- A function without objects of its caller: what it returns is frozen. -/
theorem PureEv_end {P : Program} {f n : Nat} {ts : List RS} {fc : FC} (hm : P.follows .mixedOrders = true) (hfn : Fn3 P f n ts fc) {args : List AV} (hn : args.length ≤ n) {r : AV} (ow : List Nat) (k : Nat)
    (h : VT P [] ow fc (initFr 0 args) [] (fun e fr S => isRet e ∧ ∃ v, retV3 S (Fr.get fr) ts = some v ∧ AVw (frz 0 S k v) r)) : PureEv P f args r := by
  have := Ev_end (S := []) (S' := []) (r := r) hm hfn hn ow (VT_mono (K' := fun e fr1 S1 => isRet e ∧ ∃ v R, retV3 S1 (Fr.get fr1) ts = some v ∧ GWk [] S1 [] R ∧ R v r) (fun e fr S hk => ?_) h)
  · rw [hp_nil] at this; exact this
  · obtain ⟨he, v, h1, h2⟩ := hk
    refine ⟨he, v, _, h1, (gwk_frz 0 k (by simp)).trans GWk.refl, _, rfl, h2⟩

theorem Ev.weakr {P f args S r r' S'} (h : Ev P f args (hp S) r (hp S')) (hr : AVw r r') : Ev P f args (hp S) r' (hp S') :=
  h.mono (fun _ _ _ k => k.w hr)
theorem PureEv.weaka {P f args args' r} (h : PureEv P f args' r) (hl : args.length = args'.length) (ha : ∀ j (h1 : j < args.length) (h2 : j < args'.length), AVw args[j] args'[j]) : PureEv P f args r := by
  intro g w vals hw hv
  exact h g w vals hw ⟨by rw [hv.1, hl], fun j h1 h2 => (hv.2 j (by omega) h2).w (ha j (by omega) h1)⟩
end Go.Ab
