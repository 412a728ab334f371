/- Freezing objects at a function's end. -/
import Derived.Test.YtgoejecjmodjiaaDoorWlF2
namespace Go.Ab
set_option linter.unusedSimpArgs false
set_option linter.unusedVariables false
open Go.RowKit

def frz (k0 : Nat) (S : List Ob) : Nat → AV → AV
  | 0, x => if x.blw k0 then x else .junk
  | k + 1, x => if x.blw k0 then x else match x with
    | .ptr o ver off => match hp S o with
      | .arr v cs => if v = ver then .cptr (cs.map (frz k0 S k)) off else .junk
      | _ => .junk
    | .ref o ver off n e => match hp S o with
      | .arr v cs => if v = ver ∧ off + n * szOf e ≤ cs.length ∧ ((cs.map (frz k0 S k)).drop off).all AV.one = true then .sl false (szOf e) (elemsOf e n ((cs.map (frz k0 S k)).drop off)) else .junk
      | _ => .junk
    | .agg cs => .agg (cs.map (frz k0 S k))
    | .tup cs => .tup (cs.map (frz k0 S k))
    | .iface t v => .iface t (frz k0 S k v)
    | .fn f a b => .fn f (a.map (frz k0 S k)) (b.map (frz k0 S k))
    | _ => .junk

def frzOb (k0 : Nat) (S : List Ob) (k : Nat) : Ob → Ob
  | .arr v cs => .arr v (cs.map (frz k0 S k))
  | x => x

theorem frz_id {k0 S k} {x : AV} (h : x.blw k0 = true) : frz k0 S k x = x := by
  cases k <;> simp [frz, h]
theorem frz_map {k0 S k} : ∀ {cs : List AV}, blwL k0 cs = true → cs.map (frz k0 S k) = cs
  | [], _ => rfl
  | x :: r, h => by
    simp only [blwL, Bool.and_eq_true] at h
    simp [frz_id h.1, frz_map h.2]

theorem VR.frz {k0 : Nat} {S : List Ob} {pm pm' : Pm} {L : Nat → Loc} {σ' : Hp} (hpm : ∀ b o v, pm b o = some v → pm' b o = some v)
    (hσ : ∀ o, ObExt (hp (S.take k0) o) (L o) (σ' o) (L o))
    (hc : ∀ o ver cs, k0 ≤ o → hp S o = .arr ver cs → ∃ us : Nat → Value, ∀ j (h : j < cs.length), pm' (L o).b ((L o).off + j) = some (us j) ∧ VR pm L (hp S) (cs[j]) (us j)) :
    ∀ (k : Nat) {x : AV} {u : Value}, VR pm L (hp S) x u → VR pm' L σ' (frz k0 S k x) u := by
  have hb : ∀ {x : AV} {u : Value}, VR pm L (hp S) x u → x.blw k0 = true → VR pm' L σ' x u := fun {x u} h hx =>
    (h.agree (σ' := hp (S.take k0)) (L' := L) hx (fun o ho => ⟨by rw [hp_take, if_pos ho], rfl⟩)).mono ⟨hpm, hσ⟩
  intro k
  induction k with
  | zero =>
    intro x u h
    simp only [Ab.frz]
    split
    · exact hb h (by assumption)
    · exact .junk
  | succ k ih =>
    intro x u h
    simp only [Ab.frz]
    split
    · exact hb h (by assumption)
    · rename_i hx
      cases h with
      | @ptr o ver off a hpt =>
        simp only
        split
        · rename_i v cs e
          split
          · rename_i ev
            subst ev
            unfold PtrOK at hpt
            rw [e] at hpt
            obtain rfl := hpt.2 rfl
            have ho : k0 ≤ o := by
              simp only [AV.blw, decide_eq_true_eq] at hx; omega
            obtain ⟨us, hus⟩ := hc o _ _ ho e
            exact .cptr us (fun j hj => (hus j (by simpa using hj)).1) (fun j hj => by
              simp only [List.getElem_map]
              exact ih (hus j (by simpa using hj)).2)
          · exact .junk
        · exact .junk
      | @ref o ver off n e a cap hn hs hr =>
        simp only
        split
        · rename_i v cs e1
          split
          · rename_i ev
            obtain ⟨rfl, h1, h2⟩ := ev
            unfold RefOK at hr
            rw [e1] at hr
            obtain ⟨rfl, r2, r3, r4⟩ := hr.2 rfl
            have ho : k0 ≤ o := by
              simp only [AV.blw, decide_eq_true_eq] at hx; omega
            obtain ⟨us, hus⟩ := hc o _ _ ho e1
            exact VR.told (us := fun j => us (off + j)) (by simp; omega) h2 (fun j hj => by rw [Nat.add_assoc]; exact (hus (off + j) (by omega)).1)
              (fun j hj hj2 => by
                simp only [List.getElem_drop, List.getElem_map]
                exact ih (hus (off + j) (by omega)).2) hn (by intro e; cases e)
          · exact .junk
        · exact .junk
      | @refnil o ver off e a hv =>
        simp only
        split
        · split
          · have : ∀ l : List AV, elemsOf e 0 l = [] := fun l => by cases e <;> simp [elemsOf, chunk]
            rw [this]; exact .slz'
          · exact .junk
        · exact .junk
      | agg a b => exact .agg (by simpa using a) (fun j h1 h2 => by simp only [List.getElem_map]; exact ih (b j (by simpa using h1) h2))
      | tup a b => exact .tup (by simpa using a) (fun j h1 h2 => by simp only [List.getElem_map]; exact ih (b j (by simpa using h1) h2))
      | iface h => exact .iface (ih h)
      | fn a b c d => exact .fn (by simpa using a) (by simpa using b) (fun j h1 h2 => by simp only [List.getElem_map]; exact ih (c j (by simpa using h1) h2)) (fun j h1 h2 => by simp only [List.getElem_map]; exact ih (d j (by simpa using h1) h2))
      | _ => exact .junk

def frzS (k0 : Nat) (S : List Ob) (k : Nat) : List Ob := (S.take k0).map (frzOb k0 S k)

theorem gwk_frz {S0 S : List Ob} (k0 k : Nat) (h0 : S0.length ≤ k0) : GWk S0 S (frzS k0 S k) (fun x y => y = frz k0 S k x) := by
  unfold frzS
  intro g0 g w h1 h2
  classical
  let reg : Nat → Nat → Prop := fun b o => ∃ i ver cs, k0 ≤ i ∧ hp S i = .arr ver cs ∧ (g.L i).b = b ∧ ∃ j, j < cs.length ∧ (g.L i).off + j = o
  let pm' : Pm := fun b o => if reg b o then w.cell? ⟨b, o, none⟩ else g.pm b o
  have hnp : ∀ b o v, g.pm b o = some v → ¬ reg b o := by
    rintro b o v e ⟨i, ver, cs, _, e1, rfl, j, hj, rfl⟩
    have k := h2.ob i ver cs e1
    rw [k.pm j (by have := k.len; omega)] at e; cases e
  have hpm : ∀ b o v, g.pm b o = some v → pm' b o = some v := fun b o v e => by
    simp only [pm']; rw [if_neg (hnp _ _ _ e)]; exact e
  have hS : ∀ o, hp ((S.take k0).map (frzOb k0 S k)) o = frzOb k0 S k (hp (S.take k0) o) := fun o => by
    simp only [hp, List.getD_eq_getElem?_getD, List.getElem?_map]
    cases (S.take k0)[o]? <;> rfl
  have hσ : ∀ o, ObExt (hp (S.take k0) o) (g.L o) (hp ((S.take k0).map (frzOb k0 S k)) o) (g.L o) := fun o => by
    rw [hS]
    cases hp (S.take k0) o <;> simp [frzOb, ObExt]
  have hin : ∀ o v cs, hp ((S.take k0).map (frzOb k0 S k)) o = .arr v cs → o < k0 ∧ ∃ cs', hp S o = .arr v cs' ∧ cs = cs'.map (frz k0 S k) := fun o v cs e => by
    rw [hS, hp_take] at e
    split at e
    · rename_i ho
      refine ⟨ho, ?_⟩
      cases e1 : hp S o <;> rw [e1] at e <;> simp only [frzOb] at e <;> cases e
      exact ⟨_, rfl, rfl⟩
    · simp [frzOb] at e
  have key : ∀ {x u}, VR g.pm g.L (hp S) x u → VR pm' g.L (hp ((S.take k0).map (frzOb k0 S k))) (frz k0 S k x) u := fun {x u} h => by
    refine VR.frz hpm hσ (fun o ver cs ho e => ?_) k h
    have q := h2.ob o ver cs e
    refine ⟨fun j => (w.cell? ⟨(g.L o).b, (g.L o).off + j, none⟩).getD undef, fun j hj => ?_⟩
    obtain ⟨v, hv, hr⟩ := q.there j (by have := q.len; omega)
    have hreg : reg (g.L o).b ((g.L o).off + j) := ⟨o, ver, cs, ho, e, rfl, j, hj, rfl⟩
    refine ⟨?_, by show VR _ _ _ _ ((w.cell? _).getD undef); rw [hv]; exact hr hj⟩
    simp only [pm']; rw [if_pos hreg, hv]; rfl
  refine ⟨{ g with pm := pm' }, ⟨⟨fun b o v e => hpm _ _ _ (h1.ext.pm _ _ _ e), fun o => ?_⟩, h1.tm, h1.B0, h1.w0⟩, ⟨fun b o v e => ?_, h2.tm, h2.tmf, fun b o v e => ?_, h2.low, h2.B0, h2.tab, fun o ver cs e => ?_, fun o o' v v' c c' e e' hne => ?_⟩, fun x y u r hv => by rw [r]; exact key hv⟩
  · by_cases ho : o < S0.length
    · refine (h1.ext.ob o).trans ?_
      have := hσ o
      rw [hp_take, if_pos (by omega)] at this
      exact this
    · rw [hp_ge (S := S0) (by omega)]; exact trivial
  · replace e : (if reg b o then w.cell? ⟨b, o, none⟩ else g.pm b o) = some v := e
    split at e
    · exact e
    · exact h2.pm _ _ _ e
  · replace e : (if reg b o then w.cell? ⟨b, o, none⟩ else g.pm b o) = some v := e
    split at e
    · rename_i hr
      obtain ⟨i, ver, cs, _, e1, rfl, j, hj, rfl⟩ := hr
      have q := h2.ob i ver cs e1
      exact q.tm j (by have := q.len; omega)
    · exact h2.disj _ _ _ e
  · obtain ⟨ho, cs', e1, rfl⟩ := hin _ _ _ e
    have q := h2.ob o ver cs' e1
    refine ⟨q.low, by simpa using q.len, fun j hj => ?_, q.free, fun j hj => ?_, q.tm⟩
    · obtain ⟨v, hv, hr⟩ := q.there j hj
      exact ⟨v, hv, fun hj' => by simp only [List.getElem_map]; exact key (hr (by simpa using hj'))⟩
    · show (if reg _ _ then _ else _) = _
      rw [if_neg]
      · exact q.pm j hj
      · rintro ⟨i, ver', c', hi, e2, hb, j', hj', he⟩
        have q' := h2.ob i ver' c' e2
        exact h2.sep i o _ _ _ _ e2 e1 (by omega) hb j' j (by have := q'.len; omega) hj he
  · obtain ⟨ho, c1, e1, _⟩ := hin _ _ _ e
    obtain ⟨ho', c2, e2, _⟩ := hin _ _ _ e'
    exact h2.sep o o' _ _ _ _ e1 e2 hne

abbrev RS := Nat × Option (Option Nat)
def resSlots3 (P : Program) : List ResultVar → Option (List RS)
  | [] => some []
  | .tmp t :: r => (resSlots3 P r).map ((t, none) :: ·)
  | .cell a t :: r => match eshOf P t, resSlots3 P r with
    | some sh, some q => some ((a, some sh) :: q)
    | _, _ => none

def oneV (S : List Ob) (F : Fm) : RS → Option AV
  | (t, none) => some (F t)
  | (t, some sh) => (vLoad sh (F t) S).map (·.1)
def manyV (S : List Ob) (F : Fm) : List RS → Option (List AV)
  | [] => some []
  | t :: r => match oneV S F t, manyV S F r with
    | some v, some vs => some (v :: vs)
    | _, _ => none
def retV3 (S : List Ob) (F : Fm) (ts : List RS) : Option AV :=
  match ts with
  | [t] => oneV S F t
  | ts => (manyV S F ts).map .tup

theorem oneV_ok {P : Program} {g : Gh} {S : List Ob} {n : Nat} {F : Fm} {a : Act} {w : World} (hw : WRel g (hp S) w) (hf : FRel g (hp S) n F a) {x : ResultVar} {ts : List RS} {t : RS}
    (hr : resSlots3 P [x] = some [t]) {v : AV} (hv : oneV S F t = some v) {one : ResultVar → Sem Value} (ho : ∀ t, one (.tmp t) = pure (a.tmps.getD t undef)) (hc : ∀ b t, one (.cell b t) = (do loadVar t (← asAddr (a.tmps.getD b undef)))) :
    ∃ u, (one x).run P w = .ok u w ∧ VR g.pm g.L (hp S) v u := by
  cases x with
  | tmp i =>
    simp [resSlots3] at hr; subst hr
    simp only [oneV] at hv; cases hv
    exact ⟨_, by rw [ho]; rfl, hf.get i⟩
  | cell b ty =>
    simp only [resSlots3] at hr
    split at hr
    · rename_i sh q e1 e2
      cases e2
      cases hr
      simp only [oneV, Option.map_eq_some_iff, Prod.exists] at hv
      obtain ⟨v', rd, δ, h1, rfl⟩ := hv
      obtain ⟨h2, rfl⟩ := vLoad_eq h1
      obtain ⟨a', r, h3, h4, h5⟩ := load_ok hw e1 (hf.get b) h2
      refine ⟨r, ?_, h5⟩
      rw [hc, h3]
      simp [asAddr, h4]
    · cases hr

theorem manyV_ok {P : Program} {g : Gh} {S : List Ob} {n : Nat} {F : Fm} {a : Act} {w : World} (hw : WRel g (hp S) w) (hf : FRel g (hp S) n F a) {one : ResultVar → Sem Value} (ho : ∀ t, one (.tmp t) = pure (a.tmps.getD t undef)) (hc : ∀ b t, one (.cell b t) = (do loadVar t (← asAddr (a.tmps.getD b undef)))) :
    ∀ (rs : List ResultVar) (ts : List RS) (vs : List AV), resSlots3 P rs = some ts → manyV S F ts = some vs →
      ∃ us : List Value, (rs.mapM one).run P w = .ok us w ∧ us.length = vs.length ∧ ∀ j (h : j < vs.length) (h' : j < us.length), VR g.pm g.L (hp S) vs[j] us[j] := by
  intro rs
  induction rs with
  | nil =>
    intro ts vs h1 h2
    simp only [resSlots3, Option.some.injEq] at h1; subst h1
    simp only [manyV, Option.some.injEq] at h2; subst h2
    exact ⟨[], rfl, rfl, fun j h => by simp at h⟩
  | cons r rs ih =>
    intro ts vs h1 h2
    have hsplit : ∃ t ts', ts = t :: ts' ∧ resSlots3 P [r] = some [t] ∧ resSlots3 P rs = some ts' := by
      cases r with
      | tmp i =>
        simp only [resSlots3, Option.map_eq_some_iff] at h1
        obtain ⟨q, e, rfl⟩ := h1
        exact ⟨_, q, rfl, rfl, e⟩
      | cell b ty =>
        simp only [resSlots3] at h1 ⊢
        split at h1
        · rename_i sh q e1 e2
          cases h1
          exact ⟨_, q, rfl, by rw [e1], e2⟩
        · cases h1
    obtain ⟨t, ts', rfl, e1, e2⟩ := hsplit
    simp only [manyV] at h2
    split at h2
    · rename_i v vs' e3 e4
      cases h2
      obtain ⟨u, k1, k2⟩ := oneV_ok (ts := []) hw hf e1 e3 ho hc
      obtain ⟨us, k3, k4, k5⟩ := ih ts' vs' e2 e4
      refine ⟨u :: us, by simp [k1, k3], by simp [k4], fun j h h' => ?_⟩
      cases j with
      | zero => exact k2
      | succ j => simpa using k5 j (by simpa using h) (by simpa using h')
    · cases h2

structure Fn3 (P : Program) (f : FuncId) (n : Nat) (ts : List RS) (fc : FC) : Prop where
  ex : ∃ fn c, P.funcs[f]? = some fn ∧ fn.body = some c ∧ fn.ntmps = n ∧ resSlots3 P fn.results.toList = some ts ∧ resCode P n c = some fc

theorem results_ok {P : Program} {fn : Func} {g : Gh} {S : List Ob} {n : Nat} {F : Fm} {a : Act} {w : World} (hw : WRel g (hp S) w) (hf : FRel g (hp S) n F a) {ts : List RS} (hr : resSlots3 P fn.results.toList = some ts) {v : AV} (hv : retV3 S F ts = some v) :
    ∃ u, (results fn a.tmps).run P w = .ok u w ∧ VR g.pm g.L (hp S) v u := by
  unfold results
  generalize fn.results = R at hr
  rcases R with ⟨rs⟩
  simp only [List.mapM_toArray]
  simp only at hr
  have hlen : ∀ (rs : List ResultVar) (ts : List RS), resSlots3 P rs = some ts → rs.length = ts.length := by
    intro rs
    induction rs with
    | nil => intro ts h; simp only [resSlots3, Option.some.injEq] at h; subst h; rfl
    | cons r rs ih =>
      intro ts h
      cases r with
      | tmp i => simp only [resSlots3, Option.map_eq_some_iff] at h; obtain ⟨q, e, rfl⟩ := h; simp [ih q e]
      | cell b ty =>
        simp only [resSlots3] at h
        split at h
        · rename_i sh q e1 e2; cases h; simp [ih q e2]
        · cases h
  rw [Sem.run_bind, Sem.run_map]
  revert hv
  match ts, hr with
  | [t], hr =>
    intro hv
    have hl := hlen _ _ hr
    obtain ⟨us, k1, k2, k3⟩ := manyV_ok (one := fun | .tmp t => pure (a.tmps.getD t undef) | .cell b t => do loadVar t (← asAddr (a.tmps.getD b undef))) hw hf (fun _ => rfl) (fun _ _ => rfl) rs [t] [v] hr (by simp only [retV3] at hv; simp [manyV, hv])
    refine ⟨us.headD undef, ?_, ?_⟩
    · erw [k1]
      simp only [List.length_singleton] at k2
      match us, k2 with
      | [u], _ => rfl
    · match us, k2 with
      | [u], _ => exact k3 0 (by simp) (by simp)
  | [], hr =>
    intro hv
    simp only [retV3, manyV, Option.map_some, Option.some.injEq] at hv
    subst hv
    obtain ⟨us, k1, k2, k3⟩ := manyV_ok (one := fun | .tmp t => pure (a.tmps.getD t undef) | .cell b t => do loadVar t (← asAddr (a.tmps.getD b undef))) hw hf (fun _ => rfl) (fun _ _ => rfl) rs [] [] hr rfl
    refine ⟨.tuple us.toArray, ?_, .tup (by simpa using k2) (fun j h => by simp at h)⟩
    erw [k1]
    simp only [List.length_nil] at k2
    match us, k2 with
    | [], _ => rfl
  | t :: t2 :: ts, hr =>
    intro hv
    simp only [retV3, Option.map_eq_some_iff] at hv
    obtain ⟨vs, hv2, rfl⟩ := hv
    replace hv := hv2
    clear hv2
    obtain ⟨us, k1, k2, k3⟩ := manyV_ok (one := fun | .tmp t => pure (a.tmps.getD t undef) | .cell b t => do loadVar t (← asAddr (a.tmps.getD b undef))) hw hf (fun _ => rfl) (fun _ _ => rfl) rs _ vs hr hv
    have hl2 : 2 ≤ vs.length := by
      simp only [manyV] at hv
      split at hv
      · rename_i e _ e2
        cases hv
        split at e2
        · cases e2; simp
        · cases e2
      · cases hv
    refine ⟨.tuple us.toArray, ?_, .tup (by simpa using k2) (fun j h h' => by simpa using k3 j h (by simpa using h'))⟩
    erw [k1]
    simp only [Result.andThen_ok]
    rw [dif_neg (by simp; omega)]
    rfl

theorem Ev_end {P : Program} {f n : Nat} {ts : List RS} {fc : FC} (hm : P.follows .mixedOrders = true) (hfn : Fn3 P f n ts fc) {args : List AV} (hn : args.length ≤ n) {S S' : List Ob} {r : AV} (ow : List Nat)
    (h : VT P S ow fc (initFr 0 args) S (fun e fr1 S1 => isRet e ∧ ∃ v R, retV3 S1 (Fr.get fr1) ts = some v ∧ GWk S S1 S' R ∧ R v r)) : Ev P f args (hp S) r (hp S') := by
  have hv := VT_VC (K' := fun e fr1 S1 => isRet e ∧ ∃ v R, retV3 S1 (Fr.get fr1) ts = some v ∧ GWk S S1 S' R ∧ R v r) (fun _ _ _ h => h) h
  intro g w vals hw hvs
  obtain ⟨fn, c, hf, hb, hnt, hrs, hrc⟩ := hfn.ex
  have hvs1 := hvs.1
  refine calls_of_wp hf hb ?_
  have hat : At g (hp S) n (Fr.get (initFr 0 args)) (hp S) { tmps := vals ++ Array.replicate (fn.ntmps - vals.size) undef, defers := [] } w := by
    refine ⟨rfl, g, Gh.le.refl _ _, hw, ⟨by simp; omega, fun t => ?_⟩⟩
    rw [initFr_get]
    simp only [Nat.zero_le, if_true, Nat.sub_zero]
    by_cases ht : t < args.length
    · have := hvs.2 t ht (by omega)
      rw [List.getD_eq_getElem?_getD, List.getElem?_eq_getElem ht]
      rw [Array.getD_eq_getD_getElem?, Array.getElem?_append_left (by omega), Array.getElem?_eq_getElem (by omega)]
      exact this
    · rw [List.getD_eq_getElem?_getD, List.getElem?_eq_none (by omega)]
      exact .junk
  refine wp_mono (VC_wp hm c fc hrc _ _ _ hv _ _ hat) (fun e a' w' hq => ?_)
  obtain ⟨fr1, S1, ⟨hd, g1, hle1, hw1, hf1⟩, he, v, R, hret, hgw, hR⟩ := hq
  obtain ⟨u, hu, hvu⟩ := results_ok hw1 hf1 hrs hret
  obtain ⟨g2, hle2, hw2, hv2⟩ := hgw g g1 w' hle1 hw1
  have hfin : a'.defers = [] ∧ ∃ v, (results fn a'.tmps).run P w' = .ok v w' ∧ ∃ u g', Ending.returned v = .returned u ∧ g.le (hp S) g' (hp S') ∧ WRel g' (hp S') w' ∧ VR g'.pm g'.L (hp S') r u :=
    ⟨hd, u, hu, u, g2, rfl, hle2, hw2, hv2 _ _ _ hR hvu⟩
  cases e with
  | normal => exact hfin
  | ret => exact hfin
  | _ => exact he.elim

theorem PureEv_end {P : Program} {f n : Nat} {ts : List RS} {fc : FC} (hm : P.follows .mixedOrders = true) (hfn : Fn3 P f n ts fc) {args : List AV} (hn : args.length ≤ n) {r : AV} (ow : List Nat) (k : Nat)
    (h : VT P [] ow fc (initFr 0 args) [] (fun e fr S => isRet e ∧ ∃ v, retV3 S (Fr.get fr) ts = some v ∧ AVw (frz 0 S k v) r)) : PureEv P f args r := by
  have := Ev_end (S := []) (S' := []) (r := r) hm hfn hn ow (VT_mono (K' := fun e fr1 S1 => isRet e ∧ ∃ v R, retV3 S1 (Fr.get fr1) ts = some v ∧ GWk [] S1 [] R ∧ R v r) (fun e fr S hk => ?_) h)
  · rw [hp_nil] at this; exact this
  · obtain ⟨he, v, h1, h2⟩ := hk
    refine ⟨he, v, _, h1, (gwk_frz 0 k (by simp)).trans GWk.refl, _, rfl, h2⟩

theorem PureEv.weaka {P f args args' r} (h : PureEv P f args' r) (hl : args.length = args'.length) (ha : ∀ j (h1 : j < args.length) (h2 : j < args'.length), AVw args[j] args'[j]) : PureEv P f args r := by
  intro g w vals hw hv
  exact h g w vals hw ⟨by rw [hv.1, hl], fun j h1 h2 => (hv.2 j (by omega) h2).w (ha j (by omega) h1)⟩
end Go.Ab

/- What functions are said to compute (partial functions in plain Lean), and the steps that follow it. -/
namespace Go.Ab
set_option linter.unusedSimpArgs false
set_option linter.unusedVariables false
open Go.RowKit

abbrev I64 (x : Int) : Int := IntKind.i64.wrap x
abbrev U64 (x : Int) : Int := IntKind.u64.wrap x
def gd (c : Prop) [Decidable c] {β : Type} (k : Option β) : Option β := if c then k else none
theorem gd_some {c : Prop} [Decidable c] {β : Type} {k : Option β} {r : β} (h : gd c k = some r) : c ∧ k = some r := by
  unfold gd at h
  split at h
  · exact ⟨by assumption, h⟩
  · cases h
@[simp] theorem gd_true {c : Prop} [Decidable c] {β : Type} {k : Option β} (h : c) : gd c k = k := if_pos h
theorem bd_some {α β : Type} {x : Option α} {f : α → Option β} {r : β} (h : x.bind f = some r) : ∃ v, x = some v ∧ f v = some r := Option.bind_eq_some_iff.1 h

theorem ite_t {β : Type} {e : Bool} {a b : β} (h : e = true) : (if e = true then a else b) = a := if_pos h
theorem ite_f {β : Type} {e : Bool} {a b : β} (h : e = false) : (if e = true then a else b) = b := if_neg (by rw [h]; decide)

def getI {α : Type} (l : List α) (i : Int) : Option α := if 0 ≤ i then l[i.toNat]? else none
theorem getI_some {α : Type} {l : List α} {i : Int} {y : α} (h : getI l i = some y) : 0 ≤ i ∧ i < l.length ∧ l[i.toNat]? = some y := by
  unfold getI at h
  split at h
  · obtain ⟨h1, h2⟩ := List.getElem?_eq_some_iff.1 h
    exact ⟨by assumption, by omega, h⟩
  · cases h

def jp {σ β : Type} (k : σ → Option β) (f : (σ → Option β) → Option β) : Option β := f k

inductive Stp (σ ρ : Type) where
  | nxt (s : σ)
  | brk (s : σ)
  | ret (r : ρ)
inductive Out (σ ρ : Type) where
  | fin (s : σ)
  | ret (r : ρ)

def rangeL {α σ ρ : Type} (body : Nat → α → σ → Option (Stp σ ρ)) : List α → Nat → σ → Option (Out σ ρ)
  | [], _, s => some (.fin s)
  | x :: xs, i, s => match body i x s with
    | none => none
    | some (.nxt s') => rangeL body xs (i + 1) s'
    | some (.brk s') => some (.fin s')
    | some (.ret r) => some (.ret r)
def rng {α σ ρ : Type} (body : Nat → α → σ → Option (Stp σ ρ)) (xs : List α) (s : σ) : Option (Out σ ρ) := if xs.length ≤ 4611686018427387904 then rangeL body xs 0 s else none

def rangeN {σ ρ : Type} (body : Nat → σ → Option (Stp σ ρ)) : Nat → Nat → σ → Option (Out σ ρ)
  | 0, _, s => some (.fin s)
  | n + 1, i, s => match body i s with
    | none => none
    | some (.nxt s') => rangeN body n (i + 1) s'
    | some (.brk s') => some (.fin s')
    | some (.ret r) => some (.ret r)
def rni {σ ρ : Type} (body : Nat → σ → Option (Stp σ ρ)) (n : Int) (s : σ) : Option (Out σ ρ) := if n ≤ 4611686018427387904 then rangeN body n.toNat 0 s else none

def whileN {σ ρ : Type} (body : σ → Option (Stp σ ρ)) : Nat → σ → Option (Out σ ρ)
  | 0, _ => none
  | n + 1, s => match body s with
    | none => none
    | some (.nxt s') => whileN body n s'
    | some (.brk s') => some (.fin s')
    | some (.ret r) => some (.ret r)

def setF : Fr → Nat → AV → Fr
  | [], _, _ => []
  | (t', v') :: r, t, v => if t = t' then (t', v) :: r else (t', v') :: setF r t v
theorem setF_eq {t : Nat} {v : AV} : ∀ {fr : Fr}, Fr.get fr t = v → setF fr t v = fr
  | [], _ => rfl
  | (t', v') :: r, h => by
    simp only [setF]
    rw [get_cons] at h
    split
    · rename_i e; rw [if_pos e] at h; rw [h]
    · rename_i e; rw [if_neg e] at h; rw [setF_eq h]

theorem Wk.refl {S0 S : List Ob} {fr : Fr} : Wk S0 fr S fr S := fun _ _ _ _ h => h

section
variable {P : Program} {S0 : List Ob} {ow : List Nat} {fr : Fr} {S : List Ob} {log : List LE}

theorem E_opw {d r rs} {K : Fr → List Ob → List LE → Prop} {v v' rd δ S'} (e : opV (ow.contains d) r (Fr.get fr) S = some (v, rd, δ)) (e2 : AVw v v') (e3 : apS S δ = S') (h : VTops P ow rs ((d, v') :: fr) S' (.acc (fpOf rd δ) (δ.map (·.1)) :: log) K) :
    VTops P ow (⟨some d, none, .op r⟩ :: rs) fr S log K := by subst e3; rw [VTops_op, e]; exact ⟨_, e2, h⟩
theorem E_gsT {d t want c rs} {K : Fr → List Ob → List LE → Prop} {b : Bool} {fr1 fr2 : Fr} (e : Fr.get fr t = .bool b) (e1 : setF fr t (.bool want) = fr1) (e2 : putF (setF fr t (.bool (!want))) d (.tup []) = fr2)
    (h : b = want → VTops P ow (⟨d, none, c⟩ :: rs) fr1 S log K) (h' : b = !want → VTops P ow rs fr2 S (.acc [] none :: log) K) : VTops P ow (⟨d, some (t, want), c⟩ :: rs) fr S log K := by
  subst e1; subst e2
  refine E_gs e (fun hb => ?_) (fun hb => ?_)
  · have := h hb
    rwa [setF_eq (by rw [e, hb])] at this
  · have := h' hb
    rwa [setF_eq (by rw [e, hb])] at this
theorem E_sq {a b} {K : Post} (h : VT P S0 ow a fr S (Post.thn (fun fr' S' => ∃ F T, Wk S0 fr' S' F T ∧ VT P S0 ow b F T K) K)) : VT P S0 ow (.seq a b) fr S K := by
  rw [VT_seq]; exact h
theorem E_nx {b} {K K0 : Post} (h : VT P S0 ow b fr S K) : Post.thn (fun fr' S' => ∃ F T, Wk S0 fr' S' F T ∧ VT P S0 ow b F T K) K0 .normal fr S := ⟨fr, S, Wk.refl, h⟩
theorem E_nxw {b} {K K0 : Post} {F : Fr} {T : List Ob} (hw : Wk S0 fr S F T) (h : VT P S0 ow b F T K) : Post.thn (fun fr' S' => ∃ F T, Wk S0 fr' S' F T ∧ VT P S0 ow b F T K) K0 .normal fr S := ⟨F, T, hw, h⟩
theorem E_jp {σ β : Type} {a b} {K : Post} {k : σ → Option β} {f : (σ → Option β) → Option β} {r : β} (h : jp k f = some r) (F : σ → Fr) (T : σ → List Ob)
    (h1 : ∀ k', f k' = some r → VT P S0 ow a fr S (Post.thn (fun fr' S' => ∃ s, k' s = some r ∧ Wk S0 fr' S' (F s) (T s)) K)) (h2 : ∀ s, k s = some r → VT P S0 ow b (F s) (T s) K) : VT P S0 ow (.seq a b) fr S K :=
  E_sq (VT_mono (thn_mono (fun _ _ ⟨s, hs, hw⟩ => ⟨F s, T s, hw, h2 s hs⟩) (fun _ _ _ h => h)) (h1 k h))
theorem E_jx {σ β : Type} {K0 : Post} {k' : σ → Option β} {r : β} {F : σ → Fr} {T : σ → List Ob} (s : σ) (h : k' s = some r) (hw : Wk S0 fr S (F s) (T s)) : Post.thn (fun fr' S' => ∃ s, k' s = some r ∧ Wk S0 fr' S' (F s) (T s)) K0 .normal fr S := ⟨s, h, hw⟩
theorem E_as {a b c} {K : Post} (h : VT P S0 ow (.seq a (.seq b c)) fr S K) : VT P S0 ow (.seq (.seq a b) c) fr S K := by
  rw [VT_seq] at h
  rw [VT_seq, VT_seq]
  refine VT_mono (fun e fr' S' hh => ?_) h
  cases e with
  | normal =>
    obtain ⟨F, T, hw, hv⟩ := hh
    rw [VT_seq] at hv
    exact ⟨F, T, hw, hv⟩
  | _ => exact hh

def LPost (S0 : List Ob) {σ ρ β : Type} (nx : Nat → Bool) (bk : Nat → Bool) (F : σ → Fr) (T : σ → List Ob) (Fx : σ → Fr) (Tx : σ → List Ob) (k : Out σ ρ → Option β) (r : β) (K : Post) (c : Stp σ ρ) : Post
  | .normal, fr, S => ∃ s, c = .nxt s ∧ Wk S0 fr S (F s) (T s)
  | .exit j, fr, S => if nx j = true then ∃ s, c = .nxt s ∧ Wk S0 fr S (F s) (T s) else if bk j = true then ∃ s, c = .brk s ∧ Wk S0 fr S (Fx s) (Tx s) else ∃ v, c = .ret v ∧ (k (.ret v) = some r → K (.exit j) fr S)
  | e, fr, S => ∃ v, c = .ret v ∧ (k (.ret v) = some r → K e fr S)

variable {σ ρ β : Type} {nx bk : Nat → Bool} {F : σ → Fr} {T : σ → List Ob} {Fx : σ → Fr} {Tx : σ → List Ob} {k : Out σ ρ → Option β} {r : β} {K : Post}
theorem L_nn {s : σ} {c : Stp σ ρ} (e : c = .nxt s) (hw : Wk S0 fr S (F s) (T s)) : LPost S0 nx bk F T Fx Tx k r K c .normal fr S := ⟨s, e, hw⟩
theorem L_bk {s : σ} {c : Stp σ ρ} {j} (e : c = .brk s) (hj : nx j = false) (hb : bk j = true) (hw : Wk S0 fr S (Fx s) (Tx s)) : LPost S0 nx bk F T Fx Tx k r K c (.exit j) fr S := by
  show if nx j = true then _ else if bk j = true then _ else _
  rw [if_neg (by rw [hj]; decide), if_pos hb]; exact ⟨s, e, hw⟩
theorem L_rr {v : ρ} {c : Stp σ ρ} (e : c = .ret v) (h : k (.ret v) = some r → K .ret fr S) : LPost S0 nx bk F T Fx Tx k r K c .ret fr S := ⟨v, e, h⟩

theorem E_while {a : FC} {id : Nat} (body : σ → Option (Stp σ ρ)) {n : Nat} {s0 : σ} (F : σ → Fr) (T : σ → List Ob) (h : (whileN body n s0).bind k = some r)
    (hw : Wk S0 fr S (F s0) (T s0))
    (hb : ∀ s c, body s = some c → VT P S0 ow a (F s) (T s) (LPost S0 (fun _ => false) (fun j => j == id) F T F T k r K c))
    (hx : ∀ s fr' S', k (.fin s) = some r → Wk S0 fr' S' (F s) (T s) → K .normal fr' S') : VT P S0 ow (.block id (.loop a)) fr S K := by
  refine E_block (E_loop (ι := Nat × σ) (fun i => F i.2) (fun i => T i.2) (fun i => (whileN body i.1 i.2).bind k = some r) (fun i => i.1) (n, s0) h hw (fun i hi => ?_))
  obtain ⟨n, s⟩ := i
  simp only at hi ⊢
  cases n with
  | zero => simp [whileN] at hi
  | succ n =>
    simp only [whileN] at hi
    cases hc : body s with
    | none => rw [hc] at hi; cases hi
    | some c =>
      rw [hc] at hi
      refine VT_mono (fun e fr' S' hk => ?_) (hb s c hc)
      cases e with
      | normal =>
        obtain ⟨s', rfl, hw'⟩ := hk
        exact ⟨(n, s'), hi, Nat.lt_succ_self _, hw'⟩
      | exit j =>
        replace hk : if (j == id) = true then ∃ s, c = .brk s ∧ Wk S0 fr' S' (F s) (T s) else ∃ v, c = .ret v ∧ (k (.ret v) = some r → K (.exit j) fr' S') := hk
        show Post.blk id K (.exit j) fr' S'
        rw [blk_e]
        by_cases hj : j = id
        · rw [if_pos hj]; rw [if_pos (by simpa using hj)] at hk
          obtain ⟨s', rfl, hw'⟩ := hk
          exact hx s' _ _ hi hw'
        · rw [if_neg hj]; rw [if_neg (by simpa using hj)] at hk
          obtain ⟨v, rfl, hv⟩ := hk
          exact hv hi
      | ret => obtain ⟨v, rfl, hv⟩ := hk; exact hv hi
      | goto l => obtain ⟨v, rfl, hv⟩ := hk; exact hv hi
      | panic l => obtain ⟨v, rfl, hv⟩ := hk; exact hv hi
      | outgrown => obtain ⟨v, rfl, hv⟩ := hk; exact hv hi

theorem I64_id {x : Int} (h : -9223372036854775808 ≤ x ∧ x ≤ 9223372036854775807) : I64 x = x := wrap_i64 h

theorem E_head {tc ti tn tj id id2 : Nat} {B : FC} {G : Fr} {T' : List Ob} {i : Nat} {n : Int} {K0 : Post} (h1 : ti ≠ tn) (hn : n ≤ 4611686018427387904)
    (hB : (i : Int) < n → VT P S0 ow B ((tc, .bool true) :: (ti, .int .i64 i) :: (tn, .int .i64 n) :: G) T' (fun e fr' S' => match e with
      | .normal => ∃ G2 T2, Wk S0 fr' S' ((ti, .int .i64 i) :: G2) T2 ∧ ∀ fr3, (∀ t, Fr.get fr3 t = if t = ti then .int .i64 ((i : Int) + 1) else if t = tj then .int .i64 ((i : Int) + 1) else Fr.get G2 t) → K0 .normal fr3 T2
      | e => Post.blk id2 (fun e fr' S' => match e with
        | .normal => ∃ G2 T2, Wk S0 fr' S' ((ti, .int .i64 i) :: G2) T2 ∧ ∀ fr3, (∀ t, Fr.get fr3 t = if t = ti then .int .i64 ((i : Int) + 1) else if t = tj then .int .i64 ((i : Int) + 1) else Fr.get G2 t) → K0 .normal fr3 T2
        | e => K0 e fr' S') e fr' S'))
    (hE : ¬ (i : Int) < n → K0 (.exit id) ((tc, .bool false) :: (ti, .int .i64 i) :: (tn, .int .i64 n) :: G) T') :
    VT P S0 ow (.seq (.reg [⟨some tc, none, .op (.bin .none .lss (.t ti) (.t tn))⟩] []) (.seq (.cond (.t tc) .skip (.exit id)) (.seq (.block id2 B) (.reg [⟨some tj, none, .op (.bin .none .add (.t ti) (.v (.int .i64 1)))⟩, ⟨some ti, none, .op (.mv (.t tj))⟩] []))))
      ((ti, .int .i64 i) :: (tn, .int .i64 n) :: G) T' K0 := by
  refine E_sq (E_reg (E_op0 (v := .bool (decide ((i : Int) < n))) ?_ rfl (E_nil (E_nx ?_))))
  · simp only [opV, ev, get_cons, if_true, if_neg (Ne.symm h1), vBin, pv, intBin]; rfl
  refine E_sq (E_cs (t := decide ((i : Int) < n)) (by simp [ev, get_cons]) (fun ht => E_skip (E_nx ?_)) (fun hf => E_exit ?_))
  · rw [ht]
    simp only [decide_eq_true_eq] at ht
    refine E_sq (E_block ?_)
    have hinc : ∀ {fr' : Fr} {S' : List Ob} {G2 : Fr} {T2 : List Ob}, Wk S0 fr' S' ((ti, .int .i64 i) :: G2) T2 → (∀ fr3, (∀ t, Fr.get fr3 t = if t = ti then .int .i64 ((i : Int) + 1) else if t = tj then .int .i64 ((i : Int) + 1) else Fr.get G2 t) → K0 .normal fr3 T2) →
        Post.thn (fun fr' S' => ∃ F T, Wk S0 fr' S' F T ∧ VT P S0 ow (.reg [⟨some tj, none, .op (.bin .none .add (.t ti) (.v (.int .i64 1)))⟩, ⟨some ti, none, .op (.mv (.t tj))⟩] []) F T K0) K0 .normal fr' S' := fun hw hk => by
      refine E_nxw hw (E_reg (E_op0 (v := .int .i64 ((i : Int) + 1)) ?_ rfl (E_mv (v' := .int .i64 ((i : Int) + 1)) (by simp [ev, get_cons]) (E_nil (hk _ (fun t => ?_))))))
      · simp only [opV, ev, get_cons, if_true, vBin, pv, intBin, Option.map_some]
        rw [wrap_i64 (by omega)]
      · simp only [get_cons]
        split
        · rfl
        · split
          · rfl
          · rfl
    refine VT_mono (fun e fr' S' hk => ?_) (hB ht)
    cases e with
    | normal => obtain ⟨G2, T2, hw, hk⟩ := hk; exact hinc hw hk
    | exit j =>
      replace hk : Post.blk id2 _ (.exit j) fr' S' := hk
      rw [blk_e] at hk
      show Post.blk id2 _ (.exit j) fr' S'
      rw [blk_e]
      split
      · rename_i hj; rw [if_pos hj] at hk
        obtain ⟨G2, T2, hw, hk⟩ := hk; exact hinc hw hk
      · rename_i hj; rw [if_neg hj] at hk; exact hk
    | _ => exact hk
  · rw [hf]
    simp only [decide_eq_false_iff_not] at hf
    exact hE hf

theorem wk_get {S0 S : List Ob} {fr fr' : Fr} (h : ∀ t, Fr.get fr' t = Fr.get fr t ∨ Fr.get fr' t = .junk) : Wk S0 fr S fr' S :=
  GWk.refl.wk (fun t => by rcases h t with e | e <;> rw [e] <;> first | exact .refl _ | exact .junk _)

theorem E_rni {tc ti tn tj id id2 : Nat} {B : FC} (body : Nat → σ → Option (Stp σ ρ)) {n : Int} {s0 : σ} (F : σ → Fr) (T : σ → List Ob) (h : (rni body n s0).bind k = some r)
    (h1 : ti ≠ tn) (h2 : tj ≠ tn) (hF : ∀ s, Fr.get (F s) tj = .junk ∧ Fr.get (F s) ti = .junk ∧ Fr.get (F s) tn = .junk ∧ Fr.get (F s) tc = .junk)
    (hw : Wk S0 fr S ((ti, .int .i64 0) :: (tn, .int .i64 n) :: F s0) (T s0))
    (hb : ∀ (i : Nat) s c, (i : Int) < n → body i s = some c → VT P S0 ow B ((tc, .bool true) :: (ti, .int .i64 i) :: (tn, .int .i64 n) :: F s) (T s)
      (LPost S0 (fun j => j == id2) (fun j => j == id) (fun s => (ti, .int .i64 i) :: (tn, .int .i64 n) :: F s) T F T k r K c))
    (hx : ∀ s fr' S', k (.fin s) = some r → Wk S0 fr' S' (F s) (T s) → K .normal fr' S') :
    VT P S0 ow (.block id (.loop (.seq (.reg [⟨some tc, none, .op (.bin .none .lss (.t ti) (.t tn))⟩] []) (.seq (.cond (.t tc) .skip (.exit id)) (.seq (.block id2 B) (.reg [⟨some tj, none, .op (.bin .none .add (.t ti) (.v (.int .i64 1)))⟩, ⟨some ti, none, .op (.mv (.t tj))⟩] [])))))) fr S K := by
  unfold rni at h
  split at h
  case isFalse => cases h
  rename_i hn
  refine E_block (E_loop (ι := Nat × σ) (fun i => (ti, .int .i64 i.1) :: (tn, .int .i64 n) :: F i.2) (fun i => T i.2) (fun i => i.1 ≤ n.toNat ∧ (rangeN body (n.toNat - i.1) i.1 i.2).bind k = some r) (fun i => n.toNat - i.1) (0, s0) ⟨by simp, by simpa using h⟩ hw (fun i hi => ?_))
  obtain ⟨i, s⟩ := i
  simp only at hi ⊢
  obtain ⟨hi0, hi⟩ := hi
  refine E_head h1 hn (fun hlt => ?_) (fun hge => ?_)
  · have e1 : n.toNat - i = (n.toNat - (i + 1)) + 1 := by omega
    rw [e1] at hi
    simp only [rangeN] at hi
    cases hc : body i s with
    | none => rw [hc] at hi; cases hi
    | some c =>
      rw [hc] at hi
      have hnext : ∀ s', c = .nxt s' → ∀ fr3, (∀ t, Fr.get fr3 t = if t = ti then .int .i64 ((i : Int) + 1) else if t = tj then .int .i64 ((i : Int) + 1) else Fr.get ((tn, .int .i64 n) :: F s') t) →
          Post.thn (fun fr' S' => ∃ i' : Nat × σ, (i'.1 ≤ n.toNat ∧ (rangeN body (n.toNat - i'.1) i'.1 i'.2).bind k = some r) ∧ n.toNat - i'.1 < n.toNat - i ∧ Wk S0 fr' S' ((ti, .int .i64 i'.1) :: (tn, .int .i64 n) :: F i'.2) (T i'.2)) (Post.blk id K) .normal fr3 (T s') := fun s' e fr3 hg => by
        subst e
        refine ⟨(i + 1, s'), ⟨by simp only; omega, hi⟩, by simp only; omega, wk_get (fun t => ?_)⟩
        rw [hg]
        rw [get_cons]
        simp only
        by_cases ht : t = ti
        · left; rw [if_pos ht, if_pos ht]; rfl
        · rw [if_neg ht, if_neg ht]
          by_cases ht2 : t = tj
          · right; rw [ht2, get_cons, if_neg h2, (hF s').1]
          · left; rw [if_neg ht2]
      refine VT_mono (fun e fr' S' hk => ?_) (hb i s c hlt hc)
      cases e with
      | normal =>
        obtain ⟨s', e, hw'⟩ := hk
        exact ⟨_, _, hw', hnext s' e⟩
      | exit j =>
        show Post.blk id2 _ (.exit j) fr' S'
        rw [blk_e]
        replace hk : if (j == id2) = true then ∃ s', c = .nxt s' ∧ Wk S0 fr' S' ((ti, .int .i64 i) :: (tn, .int .i64 n) :: F s') (T s') else if (j == id) = true then ∃ s, c = .brk s ∧ Wk S0 fr' S' (F s) (T s) else ∃ v, c = .ret v ∧ (k (.ret v) = some r → K (.exit j) fr' S') := hk
        by_cases hj : j = id2
        · rw [if_pos hj]; rw [if_pos (by simpa using hj)] at hk
          obtain ⟨s', e, hw'⟩ := hk
          exact ⟨_, _, hw', hnext s' e⟩
        · rw [if_neg hj]; rw [if_neg (by simpa using hj)] at hk
          show Post.blk id K (.exit j) fr' S'
          rw [blk_e]
          by_cases hj2 : j = id
          · rw [if_pos hj2]; rw [if_pos (by simpa using hj2)] at hk
            obtain ⟨s', rfl, hw'⟩ := hk
            exact hx s' _ _ hi hw'
          · rw [if_neg hj2]; rw [if_neg (by simpa using hj2)] at hk
            obtain ⟨v, rfl, hv⟩ := hk
            exact hv hi
      | ret => obtain ⟨v, rfl, hv⟩ := hk; exact hv hi
      | goto l => obtain ⟨v, rfl, hv⟩ := hk; exact hv hi
      | panic l => obtain ⟨v, rfl, hv⟩ := hk; exact hv hi
      | outgrown => obtain ⟨v, rfl, hv⟩ := hk; exact hv hi
  · have e1 : n.toNat - i = 0 := by omega
    rw [e1] at hi
    simp only [rangeN] at hi
    show Post.blk id K (.exit id) _ _
    rw [blk_e, if_pos rfl]
    refine hx s _ _ hi (wk_get (fun t => ?_))
    obtain ⟨_, f1, f2, f3⟩ := hF s
    simp only [get_cons]
    by_cases t1 : t = tc
    · right; rw [t1]; exact f3
    · by_cases t2 : t = ti
      · right; rw [t2]; exact f1
      · by_cases t3 : t = tn
        · right; rw [t3]; exact f2
        · left; rw [if_neg t1, if_neg t2, if_neg t3]

theorem rangeN_list {α : Type} (body : Nat → α → σ → Option (Stp σ ρ)) (xs : List α) : ∀ (m i : Nat) (s : σ), xs.length - i = m → rangeN (fun i s => xs[i]?.bind fun x => body i x s) m i s = rangeL body (xs.drop i) i s
  | 0, i, s, h => by rw [List.drop_eq_nil_of_le (by omega)]; rfl
  | m + 1, i, s, h => by
    have hi : i < xs.length := by omega
    rw [List.drop_eq_getElem_cons hi]
    simp only [rangeN, rangeL]
    rw [List.getElem?_eq_getElem hi]
    simp only [Option.bind_some]
    split
    · rfl
    · exact rangeN_list body xs m (i + 1) _ (by omega)
    · rfl
    · rfl
theorem rng_rni {α : Type} (body : Nat → α → σ → Option (Stp σ ρ)) (xs : List α) (s : σ) : rng body xs s = rni (fun i s => xs[i]?.bind fun x => body i x s) xs.length s := by
  unfold rng rni
  by_cases h : xs.length ≤ 4611686018427387904
  · rw [if_pos h, if_pos (by omega)]
    have := rangeN_list body xs xs.length 0 s (by omega)
    simpa using this.symm
  · rw [if_neg h, if_neg (by omega)]

theorem E_rng {α : Type} {tc ti tn tj id id2 : Nat} {B : FC} (body : Nat → α → σ → Option (Stp σ ρ)) {xs : List α} {s0 : σ} (F : σ → Fr) (T : σ → List Ob) (h : (rng body xs s0).bind k = some r)
    (h1 : ti ≠ tn) (h2 : tj ≠ tn) (hF : ∀ s, Fr.get (F s) tj = .junk ∧ Fr.get (F s) ti = .junk ∧ Fr.get (F s) tn = .junk ∧ Fr.get (F s) tc = .junk)
    (hw : Wk S0 fr S ((ti, .int .i64 0) :: (tn, .int .i64 xs.length) :: F s0) (T s0))
    (hb : ∀ (i : Nat) x s c, xs[i]? = some x → i < xs.length → body i x s = some c → VT P S0 ow B ((tc, .bool true) :: (ti, .int .i64 i) :: (tn, .int .i64 xs.length) :: F s) (T s)
      (LPost S0 (fun j => j == id2) (fun j => j == id) (fun s => (ti, .int .i64 i) :: (tn, .int .i64 xs.length) :: F s) T F T k r K c))
    (hx : ∀ s fr' S', k (.fin s) = some r → Wk S0 fr' S' (F s) (T s) → K .normal fr' S') :
    VT P S0 ow (.block id (.loop (.seq (.reg [⟨some tc, none, .op (.bin .none .lss (.t ti) (.t tn))⟩] []) (.seq (.cond (.t tc) .skip (.exit id)) (.seq (.block id2 B) (.reg [⟨some tj, none, .op (.bin .none .add (.t ti) (.v (.int .i64 1)))⟩, ⟨some ti, none, .op (.mv (.t tj))⟩] [])))))) fr S K := by
  rw [rng_rni] at h
  refine E_rni _ F T h h1 h2 hF hw (fun i s c hi hc => ?_) hx
  obtain ⟨x, hx1, hx2⟩ := bd_some hc
  exact hb i x s c hx1 (by omega) hx2
end
end Go.Ab

/- Lists as objects and as frozen values: the steps. -/
namespace Go.Ab
set_option linter.unusedSimpArgs false
set_option linter.unusedVariables false
open Go.RowKit

def flat {α : Type} (f : α → AV) (l : List α) : List AV := l.flatMap fun x => (f x).cells

structure Enc {α : Type} (f : α → AV) (esh : Option Nat) : Prop where
  sz : ∀ x, (f x).cells.length = szOf esh
  one : ∀ x, (f x).cells.all AV.one = true
  form : ∀ x, match esh with | none => (f x).cells = [f x] | some _ => f x = .agg (f x).cells
  blw : ∀ x n, (f x).blw n = true

section
variable {α : Type} {f : α → AV} {esh : Option Nat}
theorem flat_append (l m : List α) : flat f (l ++ m) = flat f l ++ flat f m := by simp [flat]
theorem flat_cons (x : α) (l : List α) : flat f (x :: l) = (f x).cells ++ flat f l := rfl
theorem map_cells (l : List α) : (l.map f).flatMap AV.cells = flat f l := by simp [flat, List.flatMap_map]
theorem Enc.length (he : Enc f esh) : ∀ l : List α, (flat f l).length = l.length * szOf esh
  | [] => by simp [flat]
  | x :: l => by rw [flat_cons, List.length_append, he.sz, he.length l, List.length_cons, Nat.add_mul]; omega
theorem Enc.all (he : Enc f esh) : ∀ l : List α, (flat f l).all AV.one = true
  | [] => rfl
  | x :: l => by rw [flat_cons, List.all_append, he.one, he.all l]; rfl
theorem Enc.blwf (he : Enc f esh) (n : Nat) : ∀ l : List α, blwL n (flat f l) = true
  | [] => rfl
  | x :: l => by
    rw [flat_cons]
    have : ∀ a b : List AV, blwL n a = true → blwL n b = true → blwL n (a ++ b) = true := fun a b h1 h2 => by
      rw [blwL_iff] at *; intro x hx; rcases List.mem_append.1 hx with h | h; exact h1 _ h; exact h2 _ h
    exact this _ _ (cells_below (he.blw x n)) (he.blwf n l)
theorem Enc.blwm (he : Enc f esh) (n : Nat) (l : List α) : blwL n (l.map f) = true := blwL_map (fun a => he.blw a n) l
theorem Enc.drop (he : Enc f esh) : ∀ (l : List α) (i : Nat), (flat f l).drop (i * szOf esh) = flat f (l.drop i)
  | l, 0 => by simp
  | [], i + 1 => by simp [flat]
  | x :: l, i + 1 => by
    rw [flat_cons, Nat.add_mul, Nat.one_mul, Nat.add_comm, ← List.drop_drop, List.drop_left' (he.sz x), he.drop l i]; rfl
theorem Enc.take (he : Enc f esh) : ∀ (l : List α) (i : Nat), (flat f l).take (i * szOf esh) = flat f (l.take i)
  | l, 0 => by simp [flat]
  | [], i + 1 => by simp [flat]
  | x :: l, i + 1 => by
    rw [flat_cons, Nat.add_mul, Nat.one_mul, Nat.add_comm (i * szOf esh), List.take_succ_cons, flat_cons, ← he.take l i]
    rw [← he.sz x, List.take_append, List.take_of_length_le (by omega)]
    congr 2; omega
theorem Enc.elems (he : Enc f esh) (l : List α) : elemsOf esh l.length (flat f l) = l.map f := by
  have hf := he.form
  have hs := he.sz
  cases esh with
  | none =>
    have : flat f l = l.map f := by
      induction l with
      | nil => rfl
      | cons x l ih => rw [flat_cons, hf x, ih]; rfl
    rw [this]; exact List.take_of_length_le (by simp)
  | some n =>
    show chunk n l.length (flat f l) = _
    clear he
    induction l with
    | nil => rfl
    | cons x l ih =>
      have hx : (f x).cells.length = n := hs x
      simp only [List.length_cons, chunk, flat_cons]
      rw [List.take_left' hx, List.drop_left' hx, ih, ← hf x]; rfl
theorem Enc.repl (he : Enc f esh) (x : α) (n : Nat) : repl n (f x).cells = flat f (List.replicate n x) := by
  unfold Ab.repl flat
  induction n with
  | zero => rfl
  | succ n ih => rw [List.replicate_succ, List.replicate_succ, List.flatten_cons, ih]; rfl
theorem Enc.at (he : Enc f esh) {l : List α} {n : Nat} {y : α} (hy : l[n]? = some y) : ∃ a b, flat f l = a ++ (f y).cells ++ b ∧ a.length = n * szOf esh ∧ l = l.take n ++ y :: l.drop (n + 1) := by
  obtain ⟨hn, rfl⟩ := List.getElem?_eq_some_iff.1 hy
  have h1 : l = l.take n ++ l[n] :: l.drop (n + 1) := by rw [← List.drop_eq_getElem_cons hn, List.take_append_drop]
  refine ⟨flat f (l.take n), flat f (l.drop (n + 1)), ?_, ?_, h1⟩
  · conv => lhs; rw [h1]
    rw [flat_append, flat_cons, List.append_assoc]
  · rw [he.length, List.length_take, Nat.min_eq_left (by omega)]

theorem vPart_at {a c b : List AV} {sh : Option Nat} {fo : Nat} {v : AV} (h : vPart sh c fo = some v) : vPart sh (a ++ c ++ b) (a.length + fo) = some v := by
  unfold vPart at *
  cases sh with
  | none =>
    simp only at h ⊢
    split at h
    · rename_i hlt
      cases h
      rw [if_pos (by simp; omega)]
      congr 1
      simp only [List.getD_eq_getElem?_getD]
      rw [List.append_assoc, List.getElem?_append_right (by omega), List.getElem?_append_left (by omega)]
      congr 3; omega
    · cases h
  | some n =>
    simp only at h ⊢
    split at h
    · rename_i hlt
      cases h
      rw [if_pos (by simp; omega)]
      congr 2
      rw [List.append_assoc, ← List.drop_drop, List.drop_left, List.drop_append_of_le_length (by omega), List.take_append_of_le_length (by simp; omega)]
    · cases h

theorem splice_at : ∀ (xs : List AV) {a c b : List AV} {fo : Nat}, fo + xs.length ≤ c.length → splice (a ++ c ++ b) (a.length + fo) xs = a ++ splice c fo xs ++ b := by
  intro xs
  induction xs with
  | nil => intro a c b fo _; simp [splice]
  | cons x xs ih =>
    intro a c b fo h
    simp only [splice]
    simp only [List.length_cons] at h
    rw [show (a ++ c ++ b).set (a.length + fo) x = a ++ c.set fo x ++ b by
      rw [List.append_assoc, List.set_append_right _ _ (by omega), List.set_append_left _ _ (by omega), ← List.append_assoc]
      congr 3; omega]
    rw [show a.length + fo + 1 = a.length + (fo + 1) by omega]
    exact ih (by simp; omega)
end

def awL : List AV → List AV → Prop
  | [], [] => True
  | x :: xs, y :: ys => AVw x y ∧ awL xs ys
  | _, _ => False
theorem awL_len : ∀ {xs ys : List AV}, awL xs ys → xs.length = ys.length
  | [], [], _ => rfl
  | _ :: xs, _ :: ys, h => congrArg (· + 1) (awL_len h.2)
theorem awL_get : ∀ {xs ys : List AV}, awL xs ys → ∀ j (h1 : j < xs.length) (h2 : j < ys.length), AVw xs[j] ys[j]
  | [], _, _, j, h1, _ => by simp at h1
  | x :: xs, y :: ys, h, 0, _, _ => h.1
  | x :: xs, y :: ys, h, j + 1, h1, h2 => awL_get h.2 j (by simpa using h1) (by simpa using h2)
theorem AVw.aggL {xs ys : List AV} (h : awL xs ys) : AVw (.agg xs) (.agg ys) := .agg (awL_len h) (awL_get h)
theorem AVw.tupL {xs ys : List AV} (h : awL xs ys) : AVw (.tup xs) (.tup ys) := .tup (awL_len h) (awL_get h)
theorem AVw.ex {sz} {xs : List AV} : AVw (.sl true sz xs) (.sl false sz xs) := .sl (by intro e; cases e) rfl (fun _ _ _ => rfl) (fun _ _ _ _ _ _ => .refl _)

section
variable {P : Program} {S0 : List Ob} {ow : List Nat} {fr : Fr} {S : List Ob} {log : List LE} {α : Type} {f : α → AV} {esh : Option Nat}

theorem E_iadF {d x i rs} {K : Fr → List Ob → List LE → Prop} {ex k n} {ys : List α} {y : α} (e : ev (Fr.get fr) x = .sl ex (szOf esh) (ys.map f)) (e1 : ev (Fr.get fr) i = .int k n) (hy : getI ys n = some y)
    (h : VTops P ow rs ((d, .cptr (f y).cells 0) :: fr) S (.acc [] none :: log) K) : VTops P ow (⟨some d, none, .op (.iad none esh x i)⟩ :: rs) fr S log K := by
  obtain ⟨h1, h2, h3⟩ := getI_some hy
  refine E_iad e e1 rfl rfl ⟨h1, h2⟩ (fun y' hy' => ?_)
  rw [h3] at hy'; cases hy'
  exact h
theorem E_iadR {d x i rs} {K : Fr → List Ob → List LE → Prop} {o ver off m k n} (e : ev (Fr.get fr) x = .ref o ver off m esh) (e1 : ev (Fr.get fr) i = .int k n) (hn : 0 ≤ n ∧ n < m)
    (h : VTops P ow rs ((d, .ptr o ver (off + n.toNat * szOf esh)) :: fr) S (.acc [] none :: log) K) : VTops P ow (⟨some d, none, .op (.iad none esh x i)⟩ :: rs) fr S log K := by
  refine E_op0 (v := .ptr o ver (off + n.toNat * szOf esh)) ?_ rfl h
  simp only [opV, e, e1, vIad]
  rw [if_pos ⟨trivial, hn.1, hn.2⟩]; rfl
theorem E_ldR {d a sh rs} {K : Fr → List Ob → List LE → Prop} {o ver p n fo} {l : List α} {y : α} {v v' : AV} (he : Enc f esh) (e : ev (Fr.get fr) a = .ptr o ver p) (ho : hp S o = .arr ver (flat f l)) (hp : p = n * szOf esh + fo) (hy : l[n]? = some y)
    (hv : vPart sh (f y).cells fo = some v) (hw : AVw v v') (h : VTops P ow rs ((d, v') :: fr) S (.acc [o] none :: log) K) : VTops P ow (⟨some d, none, .op (.load sh a)⟩ :: rs) fr S log K := by
  obtain ⟨a', b, h1, h2, _⟩ := he.at hy
  refine E_opw (v := v) (rd := [o]) (δ := none) ?_ hw rfl h
  simp only [opV, e, vLoad]
  rw [show obCells S o ver = some (flat f l) by simp [obCells, ho]]
  simp only [Option.bind_some]
  rw [hp, ← h2, h1, vPart_at hv]; rfl
theorem E_stR {a x nn rs} {K : Fr → List Ob → List LE → Prop} {o ver p n fo} {l : List α} {y y' : α} {S' : List Ob} {xv : AV} (he : Enc f esh) (e : ev (Fr.get fr) a = .ptr o ver p) (ex : ev (Fr.get fr) x = xv) (ho : hp S o = .arr ver (flat f l)) (hp : p = n * szOf esh + fo) (hy : l[n]? = some y)
    (hx : xv.cells.length = nn) (h1 : xv.cells.all AV.one = true) (hfit : fo + nn ≤ szOf esh) (hy' : (f y').cells = splice (f y).cells fo xv.cells) (hS : setAt S o (.arr ver (flat f (l.set n y'))) = S')
    (h : VTops P ow rs fr S' (.acc [o] (some o) :: log) K) : VTops P ow (⟨none, none, .op (.store nn a x)⟩ :: rs) fr S log K := by
  obtain ⟨a', b, q1, q2, q3⟩ := he.at hy
  have hn : n < l.length := (List.getElem?_eq_some_iff.1 hy).1
  refine E_do (v := .tup []) (rd := []) (δ := some (o, .arr ver (flat f (l.set n y')))) ?_ hS h
  simp only [opV, e, ex, vStore]
  rw [show obCells S o ver = some (flat f l) by simp [obCells, ho]]
  simp only [Option.bind_some]
  have hl := he.length l
  have hle : n * szOf esh + szOf esh ≤ l.length * szOf esh := by rw [← Nat.succ_mul]; exact Nat.mul_le_mul_right _ hn
  rw [if_pos ⟨hx, by omega, h1⟩]
  have e3 : splice (flat f l) p xv.cells = flat f (l.set n y') := by
    have hsz := he.sz y
    have : flat f (l.set n y') = a' ++ (f y').cells ++ b := by
      obtain ⟨a2, b2, r1, r2, _⟩ := he.at (l := l.set n y') (n := n) (y := y') (by simp [hn])
      have e4 : a2 = a' := by
        have t1 : (flat f (l.set n y')).take (n * szOf esh) = a2 := by rw [r1, List.append_assoc, List.take_left' r2]
        have t2 : (flat f l).take (n * szOf esh) = a' := by rw [q1, List.append_assoc, List.take_left' q2]
        rw [← t1, ← t2, he.take, he.take]
        congr 1
        exact List.take_set_of_le (by omega)
      have e5 : b2 = b := by
        have t1 : (flat f (l.set n y')).drop ((n + 1) * szOf esh) = b2 := by rw [r1, List.drop_left' (by rw [List.length_append, r2, he.sz, Nat.add_mul]; omega)]
        have t2 : (flat f l).drop ((n + 1) * szOf esh) = b := by rw [q1, List.drop_left' (by rw [List.length_append, q2, he.sz, Nat.add_mul]; omega)]
        rw [← t1, ← t2, he.drop, he.drop]
        congr 1
        exact List.drop_set_of_lt (by omega)
      rw [r1, e4, e5]
    rw [this, hy', hp, ← q2, q1]
    exact splice_at _ (by omega)
  rw [e3]
theorem E_appR {d bytes s x rs} {K : Fr → List Ob → List LE → Prop} {o ver : Nat} {l m : List α} {rdx : List Nat} {S' : List Ob} (he : Enc f esh) (e : ev (Fr.get fr) s = .ref o ver 0 l.length esh) (e2 : vSrc esh (ev (Fr.get fr) x) S = some (m.length, flat f m, rdx))
    (ho : hp S o = .arr ver (flat f l)) (hb : (l.length + m.length) * bytes ≤ 140737488355328 ∧ l.length + m.length ≤ 140737488355328) (hS : setAt S o (.arr (ver + 1) (flat f (l ++ m))) = S')
    (h : VTops P ow rs ((d, .ref o (ver + 1) 0 (l ++ m).length esh) :: fr) S' (.acc (o :: o :: rdx) (some o) :: log) K) : VTops P ow (⟨some d, none, .op (.app esh bytes s x)⟩ :: rs) fr S log K := by
  refine E_op (v := .ref o (ver + 1) 0 (l ++ m).length esh) (rd := o :: rdx) (δ := some (o, .arr (ver + 1) (flat f (l ++ m)))) ?_ rfl hS h
  simp only [opV, vApp, e, e2, Option.bind_some, he.all, if_true]
  rw [if_pos ⟨trivial, hb.1, hb.2⟩]
  have e3 : (flat f l).take (l.length * szOf esh) = flat f l := List.take_of_length_le (by rw [he.length]; exact Nat.le_refl _)
  simp only [obCells, ho, if_true, Option.map_some, List.drop_zero, e3, ← flat_append, List.length_append]
theorem src_sl {ex} (m : List α) : vSrc esh (.sl ex (szOf esh) (m.map f)) S = some (m.length, flat f m, []) := by
  simp only [vSrc, if_true, List.length_map, map_cells]
theorem src_ref (he : Enc f esh) {o ver} {m : List α} (ho : hp S o = .arr ver (flat f m)) : vSrc esh (.ref o ver 0 m.length esh) S = some (m.length, flat f m, [o]) := by
  have e3 : (flat f m).take (m.length * szOf esh) = flat f m := List.take_of_length_le (by rw [he.length]; exact Nat.le_refl _)
  simp only [vSrc, if_true, obCells, ho, Option.map_some, List.drop_zero, e3]
theorem E_slcF {d x lo hi rs} {K : Fr → List Ob → List LE → Prop} {ex} {l : List α} {a b : Nat} (e : ev (Fr.get fr) x = .sl ex (szOf esh) (l.map f)) (h1 : loN (evO (Fr.get fr) lo) = some a) (h2 : hiN l.length (evO (Fr.get fr) hi) = some b) (hab : a ≤ b ∧ b ≤ l.length)
    (h : VTops P ow rs ((d, .sl false (szOf esh) (((l.take b).drop a).map f)) :: fr) S (.acc [] none :: log) K) : VTops P ow (⟨some d, none, .op (.slc esh x lo hi none)⟩ :: rs) fr S log K := by
  refine E_op0 (v := .sl false (szOf esh) (((l.take b).drop a).map f)) ?_ rfl h
  simp only [opV, e, vSlc, h1, List.length_map, h2]
  rw [if_pos ⟨trivial, hab.1, hab.2⟩]
  rw [List.map_drop, List.map_take]; rfl
theorem E_slcR {d x lo hi rs} {K : Fr → List Ob → List LE → Prop} {o ver off n a b : Nat} (e : ev (Fr.get fr) x = .ref o ver off n esh) (h1 : loN (evO (Fr.get fr) lo) = some a) (h2 : hiN n (evO (Fr.get fr) hi) = some b) (hab : a ≤ b ∧ b ≤ n ∧ (a = 0 ∨ a < b))
    (h : VTops P ow rs ((d, .ref o ver (off + a * szOf esh) (b - a) esh) :: fr) S (.acc [] none :: log) K) : VTops P ow (⟨some d, none, .op (.slc esh x lo hi none)⟩ :: rs) fr S log K := by
  refine E_op0 (v := .ref o ver (off + a * szOf esh) (b - a) esh) ?_ rfl h
  simp only [opV, e, vSlc, h1, h2]
  rw [if_pos ⟨trivial, hab.1, hab.2.1, hab.2.2⟩]; rfl
theorem E_mkR {d} {bytes : Nat} {z l c rs} {K : Fr → List Ob → List LE → Prop} {k k' n n'} {S' : List Ob} {x : α} (he : Enc f esh) (how : ow.contains d = true) (e : ev (Fr.get fr) l = .int k n) (e1 : ev (Fr.get fr) c = .int k' n') (hz : (f x).cells = z) (hn : 0 ≤ n ∧ n ≤ n' ∧ n' * bytes ≤ 281474976710656 ∧ n' ≤ 281474976710656)
    (hS : setAt S S.length (.arr 0 (flat f (List.replicate n.toNat x))) = S')
    (h : VTops P ow rs ((d, .ref S.length 0 0 n.toNat esh) :: fr) S' (.acc [S.length] (some S.length) :: log) K) : VTops P ow (⟨some d, none, .op (.mksl esh bytes z l c)⟩ :: rs) fr S log K := by
  refine E_op (v := .ref S.length 0 0 n.toNat esh) (rd := []) (δ := some (S.length, .arr 0 (flat f (List.replicate n.toNat x)))) ?_ rfl hS h
  simp only [opV, vMksl, e, e1]
  rw [if_pos hn]
  subst hz
  have how' : d ∈ ow := by simpa using how
  simp [vNewSl, he.repl, he.all, he.length, how']
theorem E_lenR {d x rs} {K : Fr → List Ob → List LE → Prop} {o ver off n e0} (e : ev (Fr.get fr) x = .ref o ver off n e0)
    (h : VTops P ow rs ((d, .int .i64 n) :: fr) S (.acc [] none :: log) K) : VTops P ow (⟨some d, none, .op (.len .sl x)⟩ :: rs) fr S log K := by
  refine E_op0 (v := .int .i64 n) ?_ rfl h
  simp [opV, e, vLen, pv]
end
end Go.Ab

namespace Go.Ab
open Go.RowKit
def avI (k : IntKind) (x : Int) : AV := .int k x
def avB (x : Bool) : AV := .bool x
def avL {α : Type} (sz : Nat) (f : α → AV) (l : List α) : AV := .sl false sz (l.map f)
def avP {α : Type} (f : α → AV) : Option α → AV
  | none => .nilp
  | some x => .cptr (f x).cells 0
theorem encI (k : IntKind) : Enc (avI k) none := ⟨fun _ => rfl, fun _ => rfl, fun _ => rfl, fun _ _ => rfl⟩
theorem encB : Enc avB none := ⟨fun _ => rfl, fun _ => rfl, fun _ => rfl, fun _ _ => rfl⟩
theorem encL {α : Type} {f : α → AV} {esh : Option Nat} (he : Enc f esh) (sz : Nat) : Enc (avL sz f) none := ⟨fun _ => rfl, fun _ => rfl, fun _ => rfl, fun x n => he.blwm n x⟩
theorem encP {α : Type} {f : α → AV} {esh : Option Nat} (he : Enc f esh) : Enc (avP f) none :=
  ⟨fun x => by cases x <;> rfl, fun x => by cases x <;> rfl, fun x => by cases x <;> rfl, fun x n => by cases x with | none => rfl | some x => exact cells_below (he.blw x n)⟩

def subL {α : Type} (l : List α) (lo hi : Int) : Option (List α) := if 0 ≤ lo ∧ lo ≤ hi ∧ hi ≤ l.length then some ((l.take hi.toNat).drop lo.toNat) else none
def appL {α : Type} (bytes : Nat) (l m : List α) : Option (List α) := if (l.length + m.length) * bytes ≤ 140737488355328 ∧ l.length + m.length ≤ 140737488355328 then some (l ++ m) else none
def mkL {α : Type} (bytes : Nat) (n n' : Int) (x : α) : Option (List α) := if 0 ≤ n ∧ n ≤ n' ∧ n' * bytes ≤ 281474976710656 ∧ n' ≤ 281474976710656 then some (List.replicate n.toNat x) else none
def setL {α : Type} (l : List α) (i : Int) (x : α) : Option (List α) := if 0 ≤ i ∧ i < l.length then some (l.set i.toNat x) else none
theorem subL_some {α : Type} {l : List α} {lo hi v} (h : subL l lo hi = some v) : (0 ≤ lo ∧ lo ≤ hi ∧ hi ≤ l.length) ∧ v = (l.take hi.toNat).drop lo.toNat := by
  unfold subL at h; split at h
  · cases h; exact ⟨by assumption, rfl⟩
  · cases h
theorem appL_some {α : Type} {bytes} {l m v : List α} (h : appL bytes l m = some v) : ((l.length + m.length) * bytes ≤ 140737488355328 ∧ l.length + m.length ≤ 140737488355328) ∧ v = l ++ m := by
  unfold appL at h; split at h
  · cases h; exact ⟨by assumption, rfl⟩
  · cases h
theorem mkL_some {α : Type} {bytes n n'} {x : α} {v} (h : mkL bytes n n' x = some v) : (0 ≤ n ∧ n ≤ n' ∧ n' * bytes ≤ 281474976710656 ∧ n' ≤ 281474976710656) ∧ v = List.replicate n.toNat x := by
  unfold mkL at h; split at h
  · cases h; exact ⟨by assumption, rfl⟩
  · cases h
theorem getI_of {α : Type} {l : List α} {i : Nat} {y : α} (h : l[i]? = some y) : getI l (i : Int) = some y := by
  unfold getI; rw [if_pos (by omega)]; simpa using h
theorem hiN_int {k n len} (h : 0 ≤ n) : hiN len (some (.int k n)) = some n.toNat := by simp [hiN, h]

section
variable {P : Program} {S0 : List Ob} {ow : List Nat} {fr : Fr} {S : List Ob} {log : List LE} {α : Type} {f : α → AV} {esh : Option Nat}
theorem E_slcL {d x lo hi rs} {K : Fr → List Ob → List LE → Prop} {ex} {l v : List α} {a b : Int} (e : ev (Fr.get fr) x = .sl ex (szOf esh) (l.map f)) (h1 : 0 ≤ a → loN (evO (Fr.get fr) lo) = some a.toNat) (h2 : 0 ≤ b → hiN l.length (evO (Fr.get fr) hi) = some b.toNat) (hv : subL l a b = some v)
    (h : VTops P ow rs ((d, .sl false (szOf esh) (v.map f)) :: fr) S (.acc [] none :: log) K) : VTops P ow (⟨some d, none, .op (.slc esh x lo hi none)⟩ :: rs) fr S log K := by
  obtain ⟨h3, rfl⟩ := subL_some hv
  exact E_slcF e (h1 h3.1) (h2 (by omega)) (by omega) h
def awF (fr : Fr) : Fr → Prop
  | [] => True
  | (t, v) :: r => AVw (Fr.get fr t) v ∧ awF fr r
theorem awF_get {fr : Fr} : ∀ {fr' : Fr}, awF fr fr' → ∀ t, AVw (Fr.get fr t) (Fr.get fr' t)
  | [], _, t => .junk _
  | (t', v) :: r, h, t => by
    rw [get_cons]
    split
    · rename_i e; subst e; exact h.1
    · exact awF_get h.2 t
theorem wk_aw {fr' : Fr} (h : awF fr fr') : Wk S0 fr S fr' S := GWk.refl.wk (awF_get h)
end

section
variable {M : RMap} {S S' : List Ob}
theorem rn_ptr {o ver off o' ver' off' k cs cs'} (h1 : rmAt M o' = some (o, k)) (h2 : hp S o = .arr ver cs) (h3 : hp S' o' = .arr ver' cs') (e : off = k + off') : RnV (wkR M S S') (.ptr o ver off) (.ptr o' ver' off') := .ptr ⟨k, cs, cs', h1, h2, h3, e⟩
theorem rn_refL {α : Type} {f : α → AV} {e : Option Nat} (he : Enc f e) {o ver o' ver'} {l : List α} (h1 : rmAt M o' = some (o, 0)) (h2 : hp S o = .arr ver (flat f l)) (h3 : hp S' o' = .arr ver' (flat f l)) : RnV (wkR M S S') (.ref o ver 0 l.length e) (.ref o' ver' 0 l.length e) :=
  .ref ⟨0, _, _, h1, h2, h3, rfl, by rw [he.length]; omega⟩
theorem rn_nil {o' ver' e cs'} (h3 : hp S' o' = .arr ver' cs') : RnV (wkR M S S') .nils (.ref o' ver' 0 0 e) := .nil ⟨cs', h3⟩
theorem rn_b {R : Rn} {x : AV} (h : x.blw 0 = true) : RnV R x x := .base h (.refl _)
theorem rn_ob {S0 : List Ob} {o' o k v' cs' v cs} (h1 : rmAt M o' = some (o, k)) (h2 : hp S o = .arr v cs) (h3 : RnL (wkR M S S') k cs cs') (h4 : Nat.ble S0.length o' = true) : RnOb M S0 S S' o' (.arr v' cs') := by
  have h4 := Nat.le_of_ble_eq_true h4
  show match rmAt M o' with | some (o, k) => _ | none => _
  rw [h1]
  exact ⟨v, cs, h2, h3, fun h => by omega⟩
theorem rn_obS {S0 : List Ob} {o' v cs' cs} (h1 : rmAt M o' = some (o', 0)) (h2 : hp S o' = .arr v cs) (h3 : RnL (wkR M S S') 0 cs cs') (h4 : cs'.length = cs.length) : RnOb M S0 S S' o' (.arr v cs') := by
  show match rmAt M o' with | some (o, k) => _ | none => _
  rw [h1]
  exact ⟨v, cs, h2, h3, fun _ => .inl ⟨rfl, .inr ⟨rfl, rfl, h4⟩⟩⟩
theorem rn_obV {S0 : List Ob} {o' o k v' cs' v cs v0 c0} (h1 : rmAt M o' = some (o, k)) (h2 : hp S o = .arr v cs) (h3 : RnL (wkR M S S') k cs cs') (h0 : hp S0 o' = .arr v0 c0) (hv : Nat.blt v0 v' = true) : RnOb M S0 S S' o' (.arr v' cs') := by
  show match rmAt M o' with | some (o, k) => _ | none => _
  rw [h1]
  exact ⟨v, cs, h2, h3, fun _ => .inr ⟨v0, c0, h0, by simpa [Nat.blt_eq] using hv⟩⟩
theorem rn_obN {S0 : List Ob} {o' v' cs'} (h1 : rmAt M o' = none) (h : cs' = []) (h4 : Nat.ble S0.length o' = true) : RnOb M S0 S S' o' (.arr v' cs') := by
  have h4 := Nat.le_of_ble_eq_true h4
  show match rmAt M o' with | some (o, k) => _ | none => _
  rw [h1]
  exact ⟨h, h4⟩
end

section
variable {k0 k : Nat} {S : List Ob}
theorem fz_b {x y : AV} (hb : x.blw k0 = true) (h : AVw x y) : AVw (frz k0 S k x) y := by rw [frz_id hb]; exact h
def fzL (k0 k : Nat) (S : List Ob) : List AV → List AV → Prop
  | [], [] => True
  | x :: xs, y :: ys => AVw (frz k0 S k x) y ∧ fzL k0 k S xs ys
  | _, _ => False
theorem fzL_aw : ∀ {xs ys : List AV}, fzL k0 k S xs ys → awL (xs.map (frz k0 S k)) ys
  | [], [], _ => trivial
  | _ :: _, _ :: _, h => ⟨h.1, fzL_aw h.2⟩
theorem fz_tup {xs ys : List AV} (h : fzL k0 k S xs ys) : AVw (frz k0 S (k + 1) (.tup xs)) (.tup ys) := by
  have h1 := fzL_aw h
  simp only [frz]
  split
  · rename_i hb
    have hb' : blwL k0 xs = true := hb
    rw [frz_map hb'] at h1
    exact .tupL h1
  · exact .tupL h1
theorem fz_ref {α : Type} {f : α → AV} {esh : Option Nat} (he : Enc f esh) {o ver} {l : List α} (h0 : k0 ≤ o) (ho : hp S o = .arr ver (flat f l)) : AVw (frz k0 S (k + 1) (.ref o ver 0 l.length esh)) (.sl false (szOf esh) (l.map f)) := by
  have hb : (AV.ref o ver 0 l.length esh).blw k0 = false := by simp [AV.blw]; omega
  have hm : (flat f l).map (frz k0 S k) = flat f l := frz_map (he.blwf k0 l)
  simp only [frz, hb, ho, Bool.false_eq_true, if_false, hm, List.drop_zero]
  rw [if_pos ⟨trivial, by rw [he.length]; omega, he.all l⟩, he.elems]
  exact .refl _
end
end Go.Ab

namespace Go.Ab
open Go.RowKit
def oc {σ β : Type} (f : σ → Option β) : Out σ (Option β) → Option β
  | .fin s => f s
  | .ret v => v
section
variable {P : Program} {S0 : List Ob} {ow : List Nat} {fr : Fr} {S : List Ob} {σ β : Type} {nx bk : Nat → Bool} {F : σ → Fr} {T : σ → List Ob} {Fx : σ → Fr} {Tx : σ → List Ob} {f : σ → Option β} {r : β} {K : Post}
theorem L_rrO {v : Option β} {c : Stp σ (Option β)} (e : c = .ret v) (h : v = some r → K .ret fr S) : LPost S0 nx bk F T Fx Tx (oc f) r K c .ret fr S := L_rr e h
theorem E_whileO {a : FC} {id : Nat} {body : σ → Option (Stp σ (Option β))} {n : Nat} {s0 : σ} (F : σ → Fr) (T : σ → List Ob) (h : (whileN body n s0).bind (oc f) = some r)
    (hw : Wk S0 fr S (F s0) (T s0))
    (hb : ∀ s c, body s = some c → VT P S0 ow a (F s) (T s) (LPost S0 (fun _ => false) (fun j => j == id) F T F T (oc f) r K c))
    (hx : ∀ s fr' S', f s = some r → Wk S0 fr' S' (F s) (T s) → K .normal fr' S') : VT P S0 ow (.block id (.loop a)) fr S K := E_while body F T h hw hb hx
theorem E_rniO {tc ti tn tj id id2 : Nat} {B : FC} {body : Nat → σ → Option (Stp σ (Option β))} {n : Int} {s0 : σ} (F : σ → Fr) (T : σ → List Ob) (h : (rni body n s0).bind (oc f) = some r)
    (h1 : ti ≠ tn) (h2 : tj ≠ tn) (hF : ∀ s, Fr.get (F s) tj = .junk ∧ Fr.get (F s) ti = .junk ∧ Fr.get (F s) tn = .junk ∧ Fr.get (F s) tc = .junk)
    (hw : Wk S0 fr S ((ti, .int .i64 0) :: (tn, .int .i64 n) :: F s0) (T s0))
    (hb : ∀ (i : Nat) s c, (i : Int) < n → body i s = some c → VT P S0 ow B ((tc, .bool true) :: (ti, .int .i64 i) :: (tn, .int .i64 n) :: F s) (T s)
      (LPost S0 (fun j => j == id2) (fun j => j == id) (fun s => (ti, .int .i64 i) :: (tn, .int .i64 n) :: F s) T F T (oc f) r K c))
    (hx : ∀ s fr' S', f s = some r → Wk S0 fr' S' (F s) (T s) → K .normal fr' S') :
    VT P S0 ow (.block id (.loop (.seq (.reg [⟨some tc, none, .op (.bin .none .lss (.t ti) (.t tn))⟩] []) (.seq (.cond (.t tc) .skip (.exit id)) (.seq (.block id2 B) (.reg [⟨some tj, none, .op (.bin .none .add (.t ti) (.v (.int .i64 1)))⟩, ⟨some ti, none, .op (.mv (.t tj))⟩] [])))))) fr S K := E_rni body F T h h1 h2 hF hw hb hx
theorem E_rngO {α : Type} {tc ti tn tj id id2 : Nat} {B : FC} {body : Nat → α → σ → Option (Stp σ (Option β))} {xs : List α} {s0 : σ} (F : σ → Fr) (T : σ → List Ob) (h : (rng body xs s0).bind (oc f) = some r)
    (h1 : ti ≠ tn) (h2 : tj ≠ tn) (hF : ∀ s, Fr.get (F s) tj = .junk ∧ Fr.get (F s) ti = .junk ∧ Fr.get (F s) tn = .junk ∧ Fr.get (F s) tc = .junk)
    (hw : Wk S0 fr S ((ti, .int .i64 0) :: (tn, .int .i64 xs.length) :: F s0) (T s0))
    (hb : ∀ (i : Nat) x s c, xs[i]? = some x → i < xs.length → body i x s = some c → VT P S0 ow B ((tc, .bool true) :: (ti, .int .i64 i) :: (tn, .int .i64 xs.length) :: F s) (T s)
      (LPost S0 (fun j => j == id2) (fun j => j == id) (fun s => (ti, .int .i64 i) :: (tn, .int .i64 xs.length) :: F s) T F T (oc f) r K c))
    (hx : ∀ s fr' S', f s = some r → Wk S0 fr' S' (F s) (T s) → K .normal fr' S') :
    VT P S0 ow (.block id (.loop (.seq (.reg [⟨some tc, none, .op (.bin .none .lss (.t ti) (.t tn))⟩] []) (.seq (.cond (.t tc) .skip (.exit id)) (.seq (.block id2 B) (.reg [⟨some tj, none, .op (.bin .none .add (.t ti) (.v (.int .i64 1)))⟩, ⟨some ti, none, .op (.mv (.t tj))⟩] [])))))) fr S K := E_rng body F T h h1 h2 hF hw hb hx
theorem X_nx {b} {K K0 : Post} {fr' : Fr} {S' : List Ob} {F' : Fr} {T' : List Ob} (hw : Wk S0 fr' S' F' T') (h : VT P S0 ow b F' T' K) : Post.thn (fun fr' S' => ∃ F T, Wk S0 fr' S' F T ∧ VT P S0 ow b F T K) K0 .normal fr' S' := E_nxw hw h
theorem X_nn {k : Out σ (Option β) → Option β} {c : Stp σ (Option β)} {fr' : Fr} {S' : List Ob} {F' : Fr} {T' : List Ob} {s : σ} (e : c = .nxt s) (hw : Wk S0 fr' S' F' T') (hw2 : Wk S0 F' T' (F s) (T s)) : LPost S0 nx bk F T Fx Tx k r K c .normal fr' S' := L_nn e (wk_trans hw hw2)
end
end Go.Ab

/- The steps as the printed proofs use them. -/
namespace Go.Ab
set_option linter.unusedSimpArgs false
set_option linter.unusedVariables false
open Go.RowKit

def blwC (n : Nat) : List AV → Prop
  | [] => True
  | x :: r => x.blw n = true ∧ blwC n r
theorem blwL_of {n : Nat} : ∀ {xs : List AV}, blwC n xs → blwL n xs = true
  | [], _ => rfl
  | x :: r, h => by simp only [blwL, h.1, blwL_of h.2, Bool.and_self]
theorem Enc.blws {α : Type} {f : α → AV} {esh : Option Nat} (he : Enc f esh) (n : Nat) {ex sz} {l : List α} : (AV.sl ex sz (l.map f)).blw n = true := he.blwm n l
theorem cp_blw {x : AV} {n off : Nat} (h : x.blw n = true) : (AV.cptr x.cells off).blw n = true := cells_below h
theorem tup_blw {n : Nat} {xs : List AV} (h : blwC n xs) : (AV.tup xs).blw n = true := blwL_of h
def bitAnd (k : IntKind) (x y : Int) : Int := k.wrap (BitVec.ofInt k.bits x &&& BitVec.ofInt k.bits y).toNat
def bitOr (k : IntKind) (x y : Int) : Int := k.wrap (BitVec.ofInt k.bits x ||| BitVec.ofInt k.bits y).toNat
def bitAndnot (k : IntKind) (x y : Int) : Int := k.wrap (BitVec.ofInt k.bits x &&& ~~~ BitVec.ofInt k.bits y).toNat
def shL (k : IntKind) (x y : Int) : Int := k.wrap (x * 2 ^ (min y.toNat k.bits))
def shR (k : IntKind) (x y : Int) : Int := x.fdiv (2 ^ (min y.toNat k.bits))

section
variable {P : Program} {S0 : List Ob} {ow : List Nat} {fr : Fr} {S : List Ob} {log : List LE} {α : Type} {f : α → AV} {esh : Option Nat}
theorem E_shl {d t x y rs} {K : Fr → List Ob → List LE → Prop} {k k' a b} (e : ev (Fr.get fr) x = .int k a) (e1 : ev (Fr.get fr) y = .int k' b) (hb : 0 ≤ b)
    (h : VTops P ow rs ((d, .int k (shL k a b)) :: fr) S (.acc [] none :: log) K) : VTops P ow (⟨some d, none, .op (.bin t .shl x y)⟩ :: rs) fr S log K := by
  refine E_op0 (v := .int k (shL k a b)) ?_ rfl h
  simp only [opV, e, e1, vBin, shBin]
  rw [if_neg (by omega)]; rfl
theorem E_shr {d t x y rs} {K : Fr → List Ob → List LE → Prop} {k k' a b} (e : ev (Fr.get fr) x = .int k a) (e1 : ev (Fr.get fr) y = .int k' b) (hb : 0 ≤ b)
    (h : VTops P ow rs ((d, .int k (shR k a b)) :: fr) S (.acc [] none :: log) K) : VTops P ow (⟨some d, none, .op (.bin t .shr x y)⟩ :: rs) fr S log K := by
  refine E_op0 (v := .int k (shR k a b)) ?_ rfl h
  simp only [opV, e, e1, vBin, shBin]
  rw [if_neg (by omega)]; rfl
theorem E_mkL {d} {bytes : Nat} {z l c rs} {K : Fr → List Ob → List LE → Prop} {k k' n n'} {S' : List Ob} {x : α} {v : List α} (he : Enc f esh) (how : ow.contains d = true) (e : ev (Fr.get fr) l = .int k n) (e1 : ev (Fr.get fr) c = .int k' n') (hz : (f x).cells = z) (hv : mkL bytes n n' x = some v)
    (hS : setAt S S.length (.arr 0 (flat f v)) = S')
    (h : VTops P ow rs ((d, .ref S.length 0 0 v.length esh) :: fr) S' (.acc [S.length] (some S.length) :: log) K) : VTops P ow (⟨some d, none, .op (.mksl esh bytes z l c)⟩ :: rs) fr S log K := by
  obtain ⟨h1, rfl⟩ := mkL_some hv
  rw [List.length_replicate] at h
  exact E_mkR he how e e1 hz h1 hS h
theorem E_apL {d bytes s x rs} {K : Fr → List Ob → List LE → Prop} {o ver : Nat} {l m v : List α} {rdx : List Nat} {S' : List Ob} (he : Enc f esh) (e : ev (Fr.get fr) s = .ref o ver 0 l.length esh) (e2 : vSrc esh (ev (Fr.get fr) x) S = some (m.length, flat f m, rdx))
    (ho : hp S o = .arr ver (flat f l)) (hv : appL bytes l m = some v) (hS : setAt S o (.arr (ver + 1) (flat f v)) = S')
    (h : VTops P ow rs ((d, .ref o (ver + 1) 0 v.length esh) :: fr) S' (.acc (o :: o :: rdx) (some o) :: log) K) : VTops P ow (⟨some d, none, .op (.app esh bytes s x)⟩ :: rs) fr S log K := by
  obtain ⟨h1, rfl⟩ := appL_some hv
  exact E_appR he e e2 ho h1 hS h
theorem E_slcP {d x hi rs} {K : Fr → List Ob → List LE → Prop} {o ver k} {l v : List α} {b : Int} (e : ev (Fr.get fr) x = .ref o ver 0 l.length esh) (e1 : ev (Fr.get fr) hi = .int k b) (hv : subL l 0 b = some v)
    (h : VTops P ow rs ((d, .ref o ver (0 + 0 * szOf esh) b.toNat esh) :: fr) S (.acc [] none :: log) K) : VTops P ow (⟨some d, none, .op (.slc esh x none (some hi) none)⟩ :: rs) fr S log K := by
  obtain ⟨h1, _⟩ := subL_some hv
  exact E_slcR (a := 0) (b := b.toNat) e rfl (by rw [evO_some, e1]; exact hiN_int (by omega)) (by omega) h
theorem E_callW {d f args rs} {K : Fr → List Ob → List LE → Prop} {as as' v} (c : PureEv P f as v) (e : evL (Fr.get fr) args = as') (hw : awL as' as) (h1 : blwL 0 as' = true) (h2 : v.blw 0 = true) (h : VTops P ow rs ((d, v) :: fr) S (.acc [] none :: log) K) :
    VTops P ow (⟨some d, none, .call f args⟩ :: rs) fr S log K :=
  E_call (c.weaka (awL_len hw) (awL_get hw)) e h1 h2 h
theorem E_callvW {d f x args rs} {K : Fr → List Ob → List LE → Prop} {as as' first caps v} (e : ev (Fr.get fr) x = .fn (.func f) first caps) (hc : callable P f = true) (c : PureEv P f as v) (e' : first ++ evL (Fr.get fr) args ++ caps = as') (hw : awL as' as) (h1 : blwL 0 as' = true) (h2 : v.blw 0 = true) (h : VTops P ow rs ((d, v) :: fr) S (.acc [] none :: log) K) :
    VTops P ow (⟨some d, none, .callv x args⟩ :: rs) fr S log K :=
  E_callv e hc (c.weaka (awL_len hw) (awL_get hw)) e' h1 h2 h
end

section
variable {M : RMap} {m : Nat} {S S' : List Ob} {α : Type} {f : α → AV} {e : Option Nat}
end
end Go.Ab

/- Objects of the caller: the terms of the frame rule; freezing between two statements. -/
namespace Go.Ab
set_option linter.unusedSimpArgs false
set_option linter.unusedVariables false
open Go.RowKit

section
variable {M : List Nat} {T T' S S' : List Ob} {α : Type} {f : α → AV} {e : Option Nat}
theorem fi_ptr {o v O V off CS cs} (h1 : Nat.blt o T.length = true) (h2 : M.getD o 0 = O) (h3 : hp S O = .arr V CS) (h4 : hp T o = .arr v cs) : RnV (frI M T S) (.ptr O V off) (.ptr o v off) :=
  .ptr ⟨by simpa [Nat.blt_eq] using h1, h2, ⟨_, h3⟩, ⟨_, h4⟩, rfl⟩
theorem fi_ref {o v O V off n CS cs} (h1 : Nat.blt o T.length = true) (h2 : M.getD o 0 = O) (h3 : hp S O = .arr V CS) (h4 : hp T o = .arr v cs) : RnV (frI M T S) (.ref O V off n e) (.ref o v off n e) :=
  .ref ⟨by simpa [Nat.blt_eq] using h1, h2, ⟨_, h3⟩, ⟨_, h4⟩, rfl⟩
theorem fo_ptr {o v O V off CS cs} (h1 : Nat.blt o T'.length = true) (h2 : frN M T S o = O) (h3 : hp T' o = .arr v cs) (h4 : hp S' O = .arr V CS) : RnV (frO M T T' S S') (.ptr o v off) (.ptr O V off) :=
  .ptr ⟨by simpa [Nat.blt_eq] using h1, h2, ⟨_, h3⟩, ⟨_, h4⟩, rfl⟩
theorem fo_ref {o v O V off n CS cs} (h1 : Nat.blt o T'.length = true) (h2 : frN M T S o = O) (h3 : hp T' o = .arr v cs) (h4 : hp S' O = .arr V CS) : RnV (frO M T T' S S') (.ref o v off n e) (.ref O V off n e) :=
  .ref ⟨by simpa [Nat.blt_eq] using h1, h2, ⟨_, h3⟩, ⟨_, h4⟩, rfl⟩
theorem fr_in {o v cs V CS} (h : hp S (M.getD o 0) = .arr V CS) (hl : CS.length = cs.length) (hr : RnL (frI M T S) 0 CS cs) : FrIn M T S o (.arr v cs) := ⟨v, cs, V, CS, rfl, h, hl, hr⟩
theorem fr_out {o v' cs' V' CS' V CS} (h : hp S' (frN M T S o) = .arr V' CS') (hl : CS'.length = cs'.length) (hr : RnL (frO M T T' S S') 0 cs' CS') (hs : hp S (M.getD o 0) = .arr V CS) (hv : Nat.blt V V' = true) : FrOut M T T' S S' o (.arr v' cs') :=
  ⟨V', CS', h, hl, hr, fun _ v cs V2 CS2 _ h2 => by rw [hs] at h2; cases h2; exact .inr (by simpa [Nat.blt_eq] using hv)⟩
theorem fr_outS {o v cs0 cs' V CS' CS} (h : hp S' (frN M T S o) = .arr V CS') (hl : CS'.length = cs'.length) (hr : RnL (frO M T T' S S') 0 cs' CS') (hs : hp S (M.getD o 0) = .arr V CS) (ht : hp T o = .arr v cs0) : FrOut M T T' S S' o (.arr v cs') :=
  ⟨V, CS', h, hl, hr, fun _ v2 cs2 V2 CS2 h1 h2 => by rw [hs] at h2; rw [ht] at h1; cases h2; cases h1; exact .inl ⟨rfl, rfl⟩⟩
theorem fr_outN {o v' cs' V' CS'} (h : hp S' (frN M T S o) = .arr V' CS') (hl : CS'.length = cs'.length) (hr : RnL (frO M T T' S S') 0 cs' CS') (hn : Nat.ble T.length o = true) : FrOut M T T' S S' o (.arr v' cs') :=
  ⟨V', CS', h, hl, hr, fun ho => by have := Nat.le_of_ble_eq_true hn; omega⟩
end

def othC (M : List Nat) : Nat → List Ob → List Ob → Prop
  | _, [], _ => True
  | i, x :: xs, y :: ys => (M.contains i = true ∨ y = x) ∧ othC M (i + 1) xs ys
  | _, _ :: _, [] => False
theorem othC_get {M : List Nat} : ∀ {S S' : List Ob} {i : Nat}, othC M i S S' → ∀ j, j < S.length → M.contains (i + j) = true ∨ hp S' j = hp S j
  | [], _, _, _, j, h => by simp at h
  | x :: xs, [], _, h, _, _ => h.elim
  | x :: xs, y :: ys, i, h, 0, _ => h.1
  | x :: xs, y :: ys, i, h, j + 1, hj => by
    have := othC_get h.2 j (by simpa using hj)
    rw [show i + 1 + j = i + (j + 1) by omega] at this
    exact this
theorem oth_of {M : List Nat} {S S' : List Ob} (h : othC M 0 S S') : ∀ i, i < S.length → i ∉ M → hp S' i = hp S i := fun i hi hm => by
  rcases othC_get h i hi with e | e
  · rw [Nat.zero_add] at e; exact (hm (by simpa using e)).elim
  · exact e

section
variable {P : Program} {S0 : List Ob} {ow : List Nat} {fr : Fr} {S : List Ob} {log : List LE}
theorem E_callF {d f args rs} {K : Fr → List Ob → List LE → Prop} {T T' S' : List Ob} {as as' : List AV} {r r' : AV} (c : Ev P f as (hp T) r (hp T')) (M : List Nat) (e : evL (Fr.get fr) args = as') (hM : M.length = T.length) (inj : M.Nodup) (hT : Nat.ble T.length T'.length = true) (hS : S'.length = S.length + (T'.length - T.length))
    (hin : rnAll (FrIn M T S) 0 T) (hout : rnAll (FrOut M T T' S S') 0 T') (hoth : othC M 0 S S') (hal : as'.length = as.length) (ha : RnL (frI M T S) 0 as' as) (hr : RnV (frO M T T' S S') r r')
    (h : VTops P ow rs ((d, r') :: fr) S' (.eff S S' :: log) K) : VTops P ow (⟨some d, none, .call f args⟩ :: rs) fr S log K :=
  E_callE (c.frame M hM inj (Nat.le_of_ble_eq_true hT) hS hin hout (oth_of hoth) hal ha hr) e h
end

def wOb : Ob → Ob → Prop
  | .arr v cs, .arr v' cs' => v = v' ∧ awL cs cs'
  | .dead v, .dead v' => v = v'
  | .virgin, .virgin => True
  | _, _ => False
def wObs : List Ob → List Ob → Prop
  | [], [] => True
  | x :: xs, y :: ys => wOb x y ∧ wObs xs ys
  | _, _ => False
theorem wObs_get : ∀ {S S' : List Ob}, wObs S S' → ∀ o, wOb (hp S o) (hp S' o)
  | [], [], _, o => trivial
  | x :: xs, y :: ys, h, 0 => h.1
  | x :: xs, y :: ys, h, o + 1 => wObs_get h.2 o
theorem gwk_w {S0 S S' : List Ob} (h : wObs S S') : GWk S0 S S' AVw := by
  intro g0 g w h1 h2
  have hx : Ext g.pm g.L (hp S) g.pm g.L (hp S') := ⟨fun _ _ _ e => e, fun o => by
    have := wObs_get h o
    cases e1 : hp S o <;> cases e2 : hp S' o <;> rw [e1, e2] at this <;> simp only [wOb] at this <;> simp only [ObExt]
    · omega
    · exact .inr ⟨this.1, trivial, (awL_len this.2).symm⟩⟩
  have hin : ∀ o v cs, hp S' o = .arr v cs → ∃ cs0, hp S o = .arr v cs0 ∧ awL cs0 cs := fun o v cs e => by
    have := wObs_get h o
    cases e1 : hp S o with
    | virgin => rw [e1, e] at this; exact this.elim
    | dead v => rw [e1, e] at this; exact this.elim
    | arr v0 c0 =>
      rw [e1, e] at this
      obtain ⟨h4, h3⟩ := this
      exact ⟨c0, by rw [h4], h3⟩
  refine ⟨g, h1.trans ⟨hx, rfl, rfl, rfl⟩, ⟨h2.pm, h2.tm, h2.tmf, h2.disj, h2.low, h2.B0, h2.tab, fun o v cs e => ?_, fun o o' v v' c c' e e' hne => ?_⟩, fun x y u r hv => (hv.w r).mono hx⟩
  · obtain ⟨cs0, e1, e2⟩ := hin _ _ _ e
    have k := h2.ob o v cs0 e1
    have hl := awL_len e2
    refine ⟨k.low, by rw [← hl]; exact k.len, fun j hj => ?_, k.free, k.pm, k.tm⟩
    obtain ⟨u, hu, hr⟩ := k.there j hj
    exact ⟨u, hu, fun hj' => ((hr (by omega)).w (awL_get e2 j (by omega) hj')).mono hx⟩
  · obtain ⟨c1, e1, _⟩ := hin _ _ _ e
    obtain ⟨c2, e2, _⟩ := hin _ _ _ e'
    exact h2.sep o o' _ _ _ _ e1 e2 hne

def fzOb (k0 k : Nat) (S : List Ob) : Ob → Ob → Prop
  | .arr v cs, .arr v' cs' => v = v' ∧ fzL k0 k S cs cs'
  | _, _ => False
def fzObs (k0 k : Nat) (S : List Ob) : List Ob → List Ob → Prop
  | [], [] => True
  | x :: xs, y :: ys => fzOb k0 k S x y ∧ fzObs k0 k S xs ys
  | _, _ => False
theorem fzObs_w {k0 k : Nat} {S : List Ob} : ∀ {A B : List Ob}, fzObs k0 k S A B → wObs (A.map (frzOb k0 S k)) B
  | [], [], _ => trivial
  | x :: xs, y :: ys, h => by
    refine ⟨?_, fzObs_w h.2⟩
    have h1 := h.1
    cases x <;> cases y <;> simp only [fzOb] at h1
    exact ⟨h1.1, fzL_aw h1.2⟩
theorem gwk_fz {S0 S S' : List Ob} (k0 k : Nat) (h0 : Nat.ble S0.length k0 = true) (h : fzObs k0 k S (S.take k0) S') : GWk S0 S S' (fun x z => ∃ y, y = frz k0 S k x ∧ AVw y z) :=
  (gwk_frz k0 k (Nat.le_of_ble_eq_true h0)).trans (gwk_w (fzObs_w h))
theorem fzL_id {k0 k : Nat} {S : List Ob} : ∀ {cs : List AV}, blwL k0 cs = true → fzL k0 k S cs cs
  | [], _ => trivial
  | x :: r, h => by
    simp only [blwL, Bool.and_eq_true] at h
    exact ⟨fz_b h.1 (.refl _), fzL_id h.2⟩
end Go.Ab

/- A slice as an argument, by what it is: nil, empty, or not empty. -/
namespace Go.Ab
set_option linter.unusedSimpArgs false
set_option linter.unusedVariables false
open Go Go.RowKit

section
variable {P : Program} {S0 : List Ob} {ow : List Nat} {fr : Fr} {S : List Ob}
end
end Go.Ab

/- Lists made of zeros that are nil slices; pointers that are known not to be nil. -/
namespace Go.Ab
set_option linter.unusedSimpArgs false
set_option linter.unusedVariables false
open Go Go.RowKit

theorem RnL.app {R : Rn} {a a' b b' : List AV} (hl : a'.length = a.length) (h : RnL R 0 a a') (k : RnL R 0 b b') : RnL R 0 (a ++ b) (a' ++ b') := by
  refine ⟨by have := k.1; simp only [List.length_append]; omega, fun j h1 h2 => ?_⟩
  simp only [Nat.zero_add] at h1 ⊢
  by_cases hj : j < a.length
  · rw [List.getElem_append_left hj, List.getElem_append_left (by omega)]
    have := h.2 j (by omega) (by omega)
    simpa only [Nat.zero_add] using this
  · rw [List.getElem_append_right (by omega), List.getElem_append_right (by omega)]
    have h2' : j - a'.length < b'.length := by simp only [List.length_append] at h2; omega
    have h1' : j - a.length < b.length := by simp only [List.length_append] at h1; omega
    have := k.2 (j - a'.length) (by omega) h2'
    simp only [Nat.zero_add] at this
    simp only [hl] at this ⊢
    exact this
section
variable {α : Type} {f f0 : α → AV} {esh : Option Nat}
variable {P : Program} {S0 : List Ob} {ow : List Nat} {fr : Fr} {S : List Ob} {log : List LE}
end
end Go.Ab

/- Regions in the text's order may be cut: between two parts the state may be weakened. -/
namespace Go.Ab
set_option linter.unusedSimpArgs false
set_option linter.unusedVariables false
open Go Go.RowKit

end Go.Ab

/- A call without a use of its answer; an own list as an argument, by what it is. -/
namespace Go.Ab
set_option linter.unusedSimpArgs false
set_option linter.unusedVariables false
open Go Go.RowKit

theorem Ev_rf {P : Program} {f : FuncId} {esh : Option Nat} {o ver off n sz : Nat} {r : AV} {σ σ' : Hp} (hsz : szOf esh = sz) (h0 : n = 0 → Ev P f [.nils] σ r σ') (h1 : n = 0 → Ev P f [.snn sz] σ r σ') (h2 : n ≠ 0 → Ev P f [.ref o ver off n esh] σ r σ') : Ev P f [.ref o ver off n esh] σ r σ' := by
  intro g w vals hw hv
  by_cases hx : n = 0
  · obtain ⟨v, rfl⟩ : ∃ v, vals = #[v] := by
      have := hv.1
      match vals, this with
      | ⟨[v]⟩, _ => exact ⟨v, rfl⟩
    have hr : VR g.pm g.L σ (.ref o ver off n esh) v := hv.2 0 (by simp) (by simp)
    subst hx
    cases hr with
    | @refnil _ _ _ _ a h =>
      cases a with
      | none => exact h0 rfl g w _ hw (VRs1 .nils)
      | some a => exact h1 rfl g w _ hw (VRs1 .snnz)
    | @ref _ _ _ _ _ a cap hn hs h =>
      obtain ⟨b, q, s⟩ := a
      obtain rfl : s = none := hs
      exact h1 rfl g w _ hw (VRs1 .snn)
  · exact h2 hx g w vals hw hv
section
variable {P : Program} {S0 : List Ob} {ow : List Nat} {fr : Fr} {S : List Ob} {log : List LE}
end
end Go.Ab

/- Plain lemmas of loops: for the laws of what functions compute. -/
namespace Go.Ab
set_option linter.unusedSimpArgs false
set_option linter.unusedVariables false

theorem getI_nat {α : Type} (l : List α) (i : Nat) : getI l (i : Int) = l[i]? := by unfold getI; rw [if_pos (by omega)]; simp
theorem getI_lt {α : Type} {l : List α} {i : Int} (h0 : 0 ≤ i) (h : i.toNat < l.length) : getI l i = some (l[i.toNat]) := by unfold getI; rw [if_pos h0, List.getElem?_eq_getElem h]
theorem I64_of {x : Int} (h : -9223372036854775808 ≤ x ∧ x ≤ 9223372036854775807) : I64 x = x := I64_id h
theorem U64_of {x : Int} (h : 0 ≤ x ∧ x ≤ 18446744073709551615) : U64 x = x := by
  show IntKind.u64.wrap x = x
  simp [IntKind.wrap, IntKind.bits, IntKind.signed]; omega
theorem whileN_step {σ ρ : Type} {body : σ → Option (Stp σ ρ)} {n : Nat} {s s' : σ} (h : body s = some (.nxt s')) : whileN body (n + 1) s = whileN body n s' := by simp only [whileN, h]
theorem whileN_brk {σ ρ : Type} {body : σ → Option (Stp σ ρ)} {n : Nat} {s s' : σ} (h : body s = some (.brk s')) : whileN body (n + 1) s = some (.fin s') := by simp only [whileN, h]
theorem whileN_ret {σ ρ : Type} {body : σ → Option (Stp σ ρ)} {n : Nat} {s : σ} {v : ρ} (h : body s = some (.ret v)) : whileN body (n + 1) s = some (.ret v) := by simp only [whileN, h]
def bs (c : Nat → Int) (i j : Nat) : Nat :=
  if h : i < j then (if c ((i + j) / 2) < 0 then bs c ((i + j) / 2 + 1) j else bs c i ((i + j) / 2)) else i
termination_by j - i
decreasing_by all_goals omega
end Go.Ab

/- Plain laws of loops and texts, for any law. -/
namespace Go.Ab
set_option linter.unusedSimpArgs false
set_option linter.unusedVariables false
open Go Go.RowKit
set_option linter.unusedVariables false
set_option linter.unusedSimpArgs false

theorem rangeL_inv {α σ ρ : Type} {body : Nat → α → σ → Option (Stp σ ρ)} (ok : α → Bool) (v : ρ) (Inv : Nat → σ → Prop) : ∀ (xs : List α) (k : Nat) (s : σ), Inv k s →
    (∀ i x s, xs[i]? = some x → Inv (k + i) s → if ok x = true then ∃ s', body (k + i) x s = some (.nxt s') ∧ Inv (k + i + 1) s' else body (k + i) x s = some (.ret v)) →
    if xs.all ok = true then ∃ s', rangeL body xs k s = some (.fin s') ∧ Inv (k + xs.length) s' else rangeL body xs k s = some (.ret v)
  | [], k, s, hi, h => by simp only [List.all_nil, if_true, rangeL]; exact ⟨s, rfl, by simpa using hi⟩
  | x :: r, k, s, hi, h => by
    have h0 := h 0 x s rfl hi
    cases hx : ok x with
    | false =>
      rw [hx] at h0
      simp only [Nat.add_zero, Bool.false_eq_true, if_false] at h0
      simp only [List.all_cons, hx, Bool.false_and, Bool.false_eq_true, if_false, rangeL, h0]
    | true =>
      rw [hx] at h0
      simp only [Nat.add_zero, if_true] at h0
      obtain ⟨s', e1, e2⟩ := h0
      have := rangeL_inv ok v Inv r (k + 1) s' e2 (fun i y s hy hs => by
        have := h (i + 1) y s (by simpa using hy) (by rwa [show k + (i + 1) = k + 1 + i by omega])
        rwa [show k + (i + 1) = k + 1 + i by omega] at this)
      simp only [List.all_cons, hx, Bool.true_and, rangeL, e1, List.length_cons]
      rw [show k + (r.length + 1) = k + 1 + r.length by omega]
      exact this
theorem rng_inv {α σ ρ : Type} {body : Nat → α → σ → Option (Stp σ ρ)} {xs : List α} {s0 : σ} (ok : α → Bool) (v : ρ) (Inv : Nat → σ → Prop) (hl : xs.length ≤ 4611686018427387904) (h0 : Inv 0 s0)
    (h : ∀ i x s, xs[i]? = some x → Inv i s → if ok x = true then ∃ s', body i x s = some (.nxt s') ∧ Inv (i + 1) s' else body i x s = some (.ret v)) :
    if xs.all ok = true then ∃ s', rng body xs s0 = some (.fin s') ∧ Inv xs.length s' else rng body xs s0 = some (.ret v) := by
  unfold rng
  rw [if_pos hl]
  have := rangeL_inv ok v Inv xs 0 s0 h0 (fun i x s hx hs => by simpa using h i x s hx (by simpa using hs))
  simpa using this
theorem rangeN_inv {σ ρ : Type} {body : Nat → σ → Option (Stp σ ρ)} (Inv : Nat → σ → Prop) : ∀ (n k : Nat) (s : σ), Inv k s →
    (∀ i s, k ≤ i → i < k + n → Inv i s → ∃ s', body i s = some (.nxt s') ∧ Inv (i + 1) s') → ∃ s', rangeN body n k s = some (.fin s') ∧ Inv (k + n) s'
  | 0, k, s, hi, h => ⟨s, rfl, hi⟩
  | n + 1, k, s, hi, h => by
    obtain ⟨s', e1, e2⟩ := h k s (by omega) (by omega) hi
    obtain ⟨s2, e3, e4⟩ := rangeN_inv Inv n (k + 1) s' e2 (fun i s a b c => h i s (by omega) (by omega) c)
    exact ⟨s2, by simp only [rangeN, e1, e3], by rwa [show k + (n + 1) = k + 1 + n by omega]⟩
theorem rni_inv {σ ρ : Type} {body : Nat → σ → Option (Stp σ ρ)} {n : Int} {s0 : σ} (Inv : Nat → σ → Prop) (hn : n ≤ 4611686018427387904) (h0 : Inv 0 s0)
    (h : ∀ (i : Nat) s, (i : Int) < n → Inv i s → ∃ s', body i s = some (.nxt s') ∧ Inv (i + 1) s') : ∃ s', rni body n s0 = some (.fin s') ∧ Inv n.toNat s' := by
  unfold rni
  rw [if_pos hn]
  obtain ⟨s', a, b⟩ := rangeN_inv (body := body) Inv n.toNat 0 s0 h0 (fun i s _ hi hs => h i s (by omega) hs)
  exact ⟨s', a, by simpa using b⟩
theorem appL_of {α : Type} {b : Nat} {l m : List α} (h : (l.length + m.length) * b ≤ 140737488355328 ∧ l.length + m.length ≤ 140737488355328) : appL b l m = some (l ++ m) := if_pos h
theorem whileN_ex {σ ρ : Type} {body : σ → Option (Stp σ ρ)} (Inv : σ → Prop) (μ : σ → Nat) (Q : Out σ ρ → Prop)
    (h : ∀ s, Inv s → (∃ s', body s = some (.nxt s') ∧ Inv s' ∧ μ s' < μ s) ∨ (∃ s', body s = some (.brk s') ∧ Q (.fin s')) ∨ (∃ v, body s = some (.ret v) ∧ Q (.ret v))) :
    ∀ (n : Nat) (s : σ), Inv s → μ s < n → ∃ o, whileN body n s = some o ∧ Q o
  | 0, s, _, hn => by omega
  | n + 1, s, hi, hn => by
    rcases h s hi with ⟨s', h1, h2, h3⟩ | ⟨s', h1, h2⟩ | ⟨v, h1, h2⟩
    · rw [whileN_step h1]; exact whileN_ex Inv μ Q h n s' h2 (by omega)
    · rw [whileN_brk h1]; exact ⟨_, rfl, h2⟩
    · rw [whileN_ret h1]; exact ⟨_, rfl, h2⟩
theorem rangeL_ex {α σ ρ : Type} {body : Nat → α → σ → Option (Stp σ ρ)} (Inv : Nat → σ → Prop) (Q : Out σ ρ → Prop) : ∀ (xs : List α) (k : Nat) (s : σ), Inv k s →
    (∀ i x s, xs[i]? = some x → Inv (k + i) s → (∃ s', body (k + i) x s = some (.nxt s') ∧ Inv (k + i + 1) s') ∨ ∃ v, body (k + i) x s = some (.ret v) ∧ Q (.ret v)) →
    (∀ s, Inv (k + xs.length) s → Q (.fin s)) → ∃ o, rangeL body xs k s = some o ∧ Q o
  | [], k, s, hi, h, hQ => ⟨_, rfl, hQ s (by simpa using hi)⟩
  | x :: r, k, s, hi, h, hQ => by
    rcases h 0 x s rfl (by simpa using hi) with ⟨s', e1, e2⟩ | ⟨v, e1, e2⟩
    · simp only [Nat.add_zero] at e1 e2
      simp only [rangeL, e1]
      refine rangeL_ex Inv Q r (k + 1) s' e2 (fun i y s hy hs => ?_) (fun s hs => hQ s (by rw [List.length_cons]; rwa [show k + (r.length + 1) = k + 1 + r.length by omega]))
      have := h (i + 1) y s (by simpa using hy) (by rwa [show k + (i + 1) = k + 1 + i by omega])
      rwa [show k + (i + 1) = k + 1 + i by omega] at this
    · simp only [Nat.add_zero] at e1
      simp only [rangeL, e1]
      exact ⟨_, rfl, e2⟩
theorem rng_ex {α σ ρ : Type} {body : Nat → α → σ → Option (Stp σ ρ)} {xs : List α} {s0 : σ} (Inv : Nat → σ → Prop) (Q : Out σ ρ → Prop) (hl : xs.length ≤ 4611686018427387904) (h0 : Inv 0 s0)
    (h : ∀ i x s, xs[i]? = some x → Inv i s → (∃ s', body i x s = some (.nxt s') ∧ Inv (i + 1) s') ∨ ∃ v, body i x s = some (.ret v) ∧ Q (.ret v)) (hQ : ∀ s, Inv xs.length s → Q (.fin s)) : ∃ o, rng body xs s0 = some o ∧ Q o := by
  unfold rng
  rw [if_pos hl]
  exact rangeL_ex Inv Q xs 0 s0 h0 (fun i x s hx hs => by simpa using h i x s hx (by simpa using hs)) (fun s hs => hQ s (by simpa using hs))
theorem rangeN_ex {σ ρ : Type} {body : Nat → σ → Option (Stp σ ρ)} (Inv : Nat → σ → Prop) (Q : Out σ ρ → Prop) : ∀ (n k : Nat) (s : σ), Inv k s →
    (∀ i s, k ≤ i → i < k + n → Inv i s → (∃ s', body i s = some (.nxt s') ∧ Inv (i + 1) s') ∨ ∃ v, body i s = some (.ret v) ∧ Q (.ret v)) →
    (∀ s, Inv (k + n) s → Q (.fin s)) → ∃ o, rangeN body n k s = some o ∧ Q o
  | 0, k, s, hi, h, hQ => ⟨_, rfl, hQ s hi⟩
  | n + 1, k, s, hi, h, hQ => by
    rcases h k s (by omega) (by omega) hi with ⟨s', e1, e2⟩ | ⟨v, e1, e2⟩
    · simp only [rangeN, e1]
      exact rangeN_ex Inv Q n (k + 1) s' e2 (fun i s a b c => h i s (by omega) (by omega) c) (fun s hs => hQ s (by rwa [show k + (n + 1) = k + 1 + n by omega]))
    · simp only [rangeN, e1]
      exact ⟨_, rfl, e2⟩
theorem rni_ex {σ ρ : Type} {body : Nat → σ → Option (Stp σ ρ)} {n : Int} {s0 : σ} (Inv : Nat → σ → Prop) (Q : Out σ ρ → Prop) (hn : n ≤ 4611686018427387904) (h0 : Inv 0 s0)
    (h : ∀ (i : Nat) s, (i : Int) < n → Inv i s → (∃ s', body i s = some (.nxt s') ∧ Inv (i + 1) s') ∨ ∃ v, body i s = some (.ret v) ∧ Q (.ret v)) (hQ : ∀ s, Inv n.toNat s → Q (.fin s)) : ∃ o, rni body n s0 = some o ∧ Q o := by
  unfold rni
  rw [if_pos hn]
  exact rangeN_ex Inv Q n.toNat 0 s0 h0 (fun i s _ hi hs => h i s (by omega) hs) (fun s hs => hQ s (by simpa using hs))

end Go.Ab

/- From a reading of arguments to native values. -/
namespace Go.Ab
set_option linter.unusedSimpArgs false
set_option linter.unusedVariables false
open Go.RowKit
variable {P : Program} {N : Nat}

def Rd (P : Program) (N : Nat) {α : Type} (f : α → AV) (Q : α → Prop) (t : TypeId) : Prop := ∀ avs, Ty P N t avs → ∃ a, avs = (f a).cells ∧ Q a

theorem rdI {t k} (h : P.underlying t = some (.int k)) : Rd P N (avI k) (fun n => (Lit.int k n).wf = true) t := by
  intro avs ht
  cases ht with
  | bool h' => rw [h] at h'; cases h'
  | int h' hw => rw [h] at h'; cases h'; exact ⟨_, rfl, hw⟩
  | str h' => rw [h] at h'; cases h'
  | sl h' => rw [h] at h'; cases h'
  | struct h' => rw [h] at h'; cases h'
theorem rdB {t} (h : P.underlying t = some .bool) : Rd P N avB (fun _ => True) t := by
  intro avs ht
  cases ht with
  | bool h' => exact ⟨_, rfl, trivial⟩
  | int h' => rw [h] at h'; cases h'
  | str h' => rw [h] at h'; cases h'
  | sl h' => rw [h] at h'; cases h'
  | struct h' => rw [h] at h'; cases h'
def Form (P : Program) (e : TypeId) (esh : Option Nat) : Prop := match esh with | some _ => ∃ fs, P.underlying e = some (.struct fs) | none => ∀ fs, P.underlying e ≠ some (.struct fs)

theorem form_eq {α : Type} {f : α → AV} {esh : Option Nat} {e : TypeId} (he : Enc f esh) (hf : Form P e esh) {x : AV} {a : α} (hc : x.cells = (f a).cells)
    (hx : ((∃ fs, P.underlying e = some (.struct fs)) ∧ ∃ cs, x = .agg cs) ∨ ((∀ fs, P.underlying e ≠ some (.struct fs)) ∧ x.cells = [x])) : x = f a := by
  have h := he.form a
  cases esh with
  | none =>
    rcases hx with ⟨⟨fs, h1⟩, _⟩ | ⟨_, h1⟩
    · exact (hf fs h1).elim
    · rw [h1] at hc
      have h2 : (f a).cells = [f a] := h
      rw [h2] at hc
      exact (List.cons.inj hc).1
  | some n =>
    have h2 : f a = .agg (f a).cells := h
    rcases hx with ⟨_, cs, rfl⟩ | ⟨h1, _⟩
    · rw [h2, ← hc]; rfl
    · obtain ⟨fs, h3⟩ := hf
      exact (h1 fs h3).elim

theorem rdL {α : Type} {f : α → AV} {Q : α → Prop} {esh : Option Nat} {t e : TypeId} (he : Enc f esh) (hf : Form P e esh) (h : P.underlying t = some (.slice e)) {sz : Nat} (hc : P.cellsOf e = sz) (hr : Rd P N f Q e) : Rd P N (avL sz f) (fun l => l.length ≤ N ∧ ∀ a ∈ l, Q a) t := by
  intro avs ht
  cases ht with
  | bool h' => rw [h] at h'; cases h'
  | int h' => rw [h] at h'; cases h'
  | str h' => rw [h] at h'; cases h'
  | struct h' => rw [h] at h'; cases h'
  | sl h' hl hx ha =>
    rename_i e' xs
    rw [h] at h'; cases h'
    have key : ∀ y ∈ xs, ∃ a, y = f a ∧ Q a := fun y hy => by
      obtain ⟨a, h1, h2⟩ := hr _ (hx y hy)
      exact ⟨a, form_eq he hf h1 (ha y hy), h2⟩
    obtain ⟨l, rfl, hq⟩ := exists_map key
    refine ⟨l, ?_, by simpa using hl, hq⟩
    rw [hc]; rfl

theorem ty_struct {t fs avs} (h : P.underlying t = some (.struct fs)) (ht : Ty P N t avs) : avs.length = P.cellsOf t ∧ ∀ (i : Nat) (f : Field), fs[i]? = some f → Ty P N f.type ((avs.drop f.offset).take (P.cellsOf f.type)) := by
  cases ht with
  | bool h' => rw [h] at h'; cases h'
  | int h' => rw [h] at h'; cases h'
  | str h' => rw [h] at h'; cases h'
  | sl h' => rw [h] at h'; cases h'
  | struct h' hl hf => rw [h] at h'; cases h'; exact ⟨hl, hf⟩
theorem st_cons {cs xs rest : List AV} {o s : Nat} (h : (cs.drop o).take s = xs) (k : cs.drop (o + s) = rest) : cs.drop o = xs ++ rest := by
  rw [← h, ← k, ← List.drop_drop, List.take_append_drop]
theorem st_nil {cs : List AV} {n : Nat} (h : cs.length = n) : cs.drop n = [] := List.drop_eq_nil_of_le (by omega)

theorem arg_rd {α : Type} {f : α → AV} {Q : α → Prop} {esh : Option Nat} {t : TypeId} (he : Enc f esh) (hf : Form P t esh) (hr : Rd P N f Q t) {x : AV} (h : Arg P N t x) : ∃ a, x = f a ∧ Q a := by
  obtain ⟨a, h1, h2⟩ := hr _ h.1
  exact ⟨a, form_eq he hf h1 h.2, h2⟩
end Go.Ab

/- A list whose last element's list is an object of its own. -/
namespace Go.Ab
set_option linter.unusedSimpArgs false
set_option linter.unusedVariables false
open Go Go.RowKit
section
variable {α β : Type} {f : α → AV} {esh : Option Nat}
theorem RnL.set {R : Rn} {cs : List AV} {j : Nat} {u v : AV} (hb : blwL 0 cs = true) (h : RnV R u v) : RnL R 0 (cs.set j u) (cs.set j v) := by
  refine ⟨by simp, fun i h1 h2 => ?_⟩
  simp only [Nat.zero_add] at h1 ⊢
  simp only [List.getElem_set]
  by_cases hj : j = i
  · simp only [hj, if_true]; exact h
  · simp only [hj, if_false]; exact .base (blwL_get hb i (by simpa using h1)) (.refl _)
variable {P : Program} {S0 : List Ob} {ow : List Nat} {fr : Fr} {S : List Ob} {log : List LE}
theorem E_ldV {d a sh rs} {K : Fr → List Ob → List LE → Prop} {o ver p} {cs : List AV} {v : AV} (e : ev (Fr.get fr) a = .ptr o ver p) (ho : hp S o = .arr ver cs)
    (hv : vPart sh cs p = some v) (h : VTops P ow rs ((d, v) :: fr) S (.acc [o] none :: log) K) : VTops P ow (⟨some d, none, .op (.load sh a)⟩ :: rs) fr S log K := by
  refine E_op (v := v) (v' := v) (rd := [o]) (δ := none) (S' := S) ?_ rfl rfl h
  simp only [opV, e, vLoad, obCells, ho, if_true, Option.bind_some, hv, Option.map_some]
theorem E_stV {a x nn rs} {K : Fr → List Ob → List LE → Prop} {o ver p} {cs : List AV} {S' : List Ob} {xv : AV} (e : ev (Fr.get fr) a = .ptr o ver p) (ex : ev (Fr.get fr) x = xv) (ho : hp S o = .arr ver cs)
    (hx : xv.cells.length = nn) (h1 : xv.cells.all AV.one = true) (hfit : p + nn ≤ cs.length) (hS : setAt S o (.arr ver (splice cs p xv.cells)) = S')
    (h : VTops P ow rs fr S' (.acc [o] (some o) :: log) K) : VTops P ow (⟨none, none, .op (.store nn a x)⟩ :: rs) fr S log K := by
  refine E_do (v := .tup []) (rd := []) (δ := some (o, .arr ver (splice cs p xv.cells))) (S' := S') ?_ hS h
  simp only [opV, e, ex, vStore, obCells, ho, if_true, Option.bind_some]
  rw [if_pos ⟨hx, hfit, h1⟩]
end
end Go.Ab

/- A list of which one element (number k, if it is there) has a list that is an object of its own. -/
namespace Go.Ab
set_option linter.unusedSimpArgs false
set_option linter.unusedVariables false
open Go Go.RowKit
section
variable {α β : Type} {f : α → AV} {esh : Option Nat}
variable {P : Program} {S0 : List Ob} {ow : List Nat} {fr : Fr} {S : List Ob} {log : List LE}
theorem E_apV {d bytes s x rs} {K : Fr → List Ob → List LE → Prop} {o ver n m : Nat} {cs ys : List AV} {rdx : List Nat} {S' : List Ob} (e : ev (Fr.get fr) s = .ref o ver 0 n esh) (e2 : vSrc esh (ev (Fr.get fr) x) S = some (m, ys, rdx))
    (ho : hp S o = .arr ver cs) (hl : cs.length = n * szOf esh) (h1 : ys.all AV.one = true) (hb : (n + m) * bytes ≤ 140737488355328 ∧ n + m ≤ 140737488355328) (hS : setAt S o (.arr (ver + 1) (cs ++ ys)) = S')
    (h : VTops P ow rs ((d, .ref o (ver + 1) 0 (n + m) esh) :: fr) S' (.acc (o :: o :: rdx) (some o) :: log) K) : VTops P ow (⟨some d, none, .op (.app esh bytes s x)⟩ :: rs) fr S log K := by
  refine E_op (v := .ref o (ver + 1) 0 (n + m) esh) (rd := o :: rdx) (δ := some (o, .arr (ver + 1) (cs ++ ys))) ?_ rfl hS h
  simp only [opV, vApp, e, e2, Option.bind_some, h1, if_true]
  rw [if_pos ⟨trivial, hb.1, hb.2⟩]
  have e3 : cs.take (n * szOf esh) = cs := List.take_of_length_le (by omega)
  simp only [obCells, ho, if_true, Option.map_some, List.drop_zero, e3]
end
end Go.Ab

