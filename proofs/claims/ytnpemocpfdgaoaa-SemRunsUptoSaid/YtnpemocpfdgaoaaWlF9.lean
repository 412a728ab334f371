/- Freezing objects at a function's end. -/
import Derived.Test.YtnpemocpfdgaoaaWlF2
set_option linter.unusedVariables false
set_option linter.unusedSimpArgs false
namespace Go.Ab
open Go.RowKit

def frz (k0 : Nat) (S : List Ob) : Nat -> AV -> AV
 | 0, x => if x.blw k0 then x else .junk
 | k + 1, x => if x.blw k0 then x else match x with
   | .ptr o ver off => match hp S o with
     | .arr v cs => if v = ver then .cptr (cs.map (frz k0 S k)) off else .junk
     | _ => .junk
   | .ref o ver off n e => match hp S o with
     | .arr v cs => if v = ver /\ off + n * f5 e <= cs.length /\ ((cs.map (frz k0 S k)).drop off).all AV.one = true then .sl false (f5 e) (t6 e n ((cs.map (frz k0 S k)).drop off)) else .junk
     | _ => .junk
   | .agg cs => .agg (cs.map (frz k0 S k))
   | .tup cs => .tup (cs.map (frz k0 S k))
   | .iface t v => .iface t (frz k0 S k v)
   | .fn f a b => .fn f (a.map (frz k0 S k)) (b.map (frz k0 S k))
   | _ => .junk

def a6R (k0 : Nat) (S : List Ob) (k : Nat) : Ob -> Ob
 | .arr v cs => .arr v (cs.map (frz k0 S k))
 | x => x

theorem b6u {k0 S k} {x : AV} (h : x.blw k0 = true) : frz k0 S k x = x := by
 cases k <;> simp [frz, h]
theorem a7T {k0 S k} : ∀ {cs : List AV}, a1T k0 cs = true -> cs.map (frz k0 S k) = cs
 | [], _ => rfl
 | x :: r, h => by
   simp only [a1T, Bool.and_eq_true] at h
   simp [b6u h.1, a7T h.2]

theorem VR.frz {k0 : Nat} {S : List Ob} {pm pm' : Pm} {L : Nat -> Loc} {σ' : Hp} (hpm : ∀ b o v, pm b o = some v -> pm' b o = some v)
  (hσ : ∀ o, v6 (hp (S.take k0) o) (L o) (σ' o) (L o))
  (hc : ∀ o ver cs, k0 <= o -> hp S o = .arr ver cs -> ∃ us : Nat -> Value, ∀ j (h : j < cs.length), pm' (L o).b ((L o).off + j) = some (us j) /\ VR pm L (hp S) (cs[j]) (us j)) :
  ∀ (k : Nat) {x : AV} {u : Value}, VR pm L (hp S) x u -> VR pm' L σ' (frz k0 S k x) u := by
 have hb : ∀ {x : AV} {u : Value}, VR pm L (hp S) x u -> x.blw k0 = true -> VR pm' L σ' x u := fun {x u} h hx =>
  (h.agree (σ' := hp (S.take k0)) (L' := L) hx (fun o ho => ⟨by rw [a9M, if_pos ho], rfl⟩)).mono ⟨hpm, hσ⟩
 intro k
 induction k with
 | zero =>
   intro x u h
   simp only [Ab.frz]
   split
   ·exact hb h (by assumption)
   ·exact .junk
 | succ k ih =>
   intro x u h
   simp only [Ab.frz]
   split
   ·exact hb h (by assumption)
   ·rename_i hx
    cases h with
    | @ptr o ver off a hpt =>
      simp only
      split
      ·rename_i v cs e
       split
       ·rename_i ev
        subst ev
        unfold PtrOK at hpt
        rw [e] at hpt
        obtain rfl := hpt.2 rfl
        have ho : k0 <= o := by
         simp only [AV.blw, decide_eq_true_eq] at hx; omega
        obtain ⟨us, hus⟩ := hc o _ _ ho e
        exact .cptr us (fun j hj => (hus j (by simpa using hj)).1) (fun j hj => by
         simp only [List.getElem_map]
         exact ih (hus j (by simpa using hj)).2)
       ·exact .junk
      ·exact .junk
    | @ref o ver off n e a cap hn hs hr =>
      simp only
      split
      ·rename_i v cs e1
       split
       ·rename_i ev
        obtain ⟨rfl, h1, h2⟩ := ev
        unfold a0V at hr
        rw [e1] at hr
        obtain ⟨rfl, r2, r3, r4⟩ := hr.2 rfl
        have ho : k0 <= o := by
         simp only [AV.blw, decide_eq_true_eq] at hx; omega
        obtain ⟨us, hus⟩ := hc o _ _ ho e1
        exact VR.told (us := fun j => us (off + j)) zE h2 (fun j hj => by rw [Nat.add_assoc]; exact (hus (off + j) zO).1)
         (fun j hj hj2 => by
          simp only [List.getElem_drop, List.getElem_map]
          exact ih (hus (off + j) zO).2) hn (by intro e; cases e)
       ·exact .junk
      ·exact .junk
    | @refnil o ver off e a hv =>
      simp only
      split
      ·split
       ·have : ∀ l : List AV, t6 e 0 l = [] := fun l => by cases e <;> simp [t6, a3c]
        rw [this]; exact .slz'
       ·exact .junk
      ·exact .junk
    | agg a b => exact .agg (by simpa using a) (fun j h1 h2 => by simp only [List.getElem_map]; exact ih (b j (by simpa using h1) h2))
    | tup a b => exact .tup (by simpa using a) (fun j h1 h2 => by simp only [List.getElem_map]; exact ih (b j (by simpa using h1) h2))
    | iface h => exact .iface (ih h)
    | fn a b c d => exact .fn (by simpa using a) (by simpa using b) (fun j h1 h2 => by simp only [List.getElem_map]; exact ih (c j (by simpa using h1) h2)) (fun j h1 h2 => by simp only [List.getElem_map]; exact ih (d j (by simpa using h1) h2))
    | _ => exact .junk

def c3C (k0 : Nat) (S : List Ob) (k : Nat) : List Ob := (S.take k0).map (a6R k0 S k)

theorem a7U {S0 S : List Ob} (k0 k : Nat) (h0 : S0.length <= k0) : GWk S0 S (c3C k0 S k) (fun x y => y = frz k0 S k x) := by
 unfold c3C
 intro g0 g w h1 h2
 classical
 let reg : Nat -> Nat -> Prop := fun b o => ∃ i ver cs, k0 <= i /\ hp S i = .arr ver cs /\ (g.L i).b = b /\ ∃ j, j < cs.length /\ (g.L i).off + j = o
 let pm' : Pm := fun b o => if reg b o then w.cell? ⟨b, o, none⟩ else g.pm b o
 have hnp : ∀ b o v, g.pm b o = some v -> ¬ reg b o := by
  rintro b o v e ⟨i, ver, cs, _, e1, rfl, j, hj, rfl⟩
  have k := h2.ob i ver cs e1
  rw [k.pm j (by have := k.len; omega)] at e; cases e
 have hpm : ∀ b o v, g.pm b o = some v -> pm' b o = some v := fun b o v e => by
  simp only [pm']; rw [if_neg (hnp _ _ _ e)]; exact e
 have hS : ∀ o, hp ((S.take k0).map (a6R k0 S k)) o = a6R k0 S k (hp (S.take k0) o) := fun o => by
  simp only [hp, List.getD_eq_getElem?_getD, List.getElem?_map]
  cases (S.take k0)[o]? <;> rfl
 have hσ : ∀ o, v6 (hp (S.take k0) o) (g.L o) (hp ((S.take k0).map (a6R k0 S k)) o) (g.L o) := fun o => by
  rw [hS]
  cases hp (S.take k0) o <;> simp [a6R, v6]
 have hin : ∀ o v cs, hp ((S.take k0).map (a6R k0 S k)) o = .arr v cs -> o < k0 /\ ∃ cs', hp S o = .arr v cs' /\ cs = cs'.map (frz k0 S k) := fun o v cs e => by
  rw [hS, a9M] at e
  split at e
  ·rename_i ho
   refine ⟨ho, ?_⟩
   cases e1 : hp S o <;> rw [e1] at e <;> simp only [a6R] at e <;> cases e
   exact ⟨_, rfl, rfl⟩
  ·simp [a6R] at e
 have key : ∀ {x u}, VR g.pm g.L (hp S) x u -> VR pm' g.L (hp ((S.take k0).map (a6R k0 S k))) (frz k0 S k x) u := fun {x u} h => by
  refine VR.frz hpm hσ (fun o ver cs ho e => ?_) k h
  have q := h2.ob o ver cs e
  refine ⟨fun j => (w.cell? ⟨(g.L o).b, (g.L o).off + j, none⟩).getD undef, fun j hj => ?_⟩
  obtain ⟨v, hv, hr⟩ := q.there j (by have := q.len; omega)
  have hreg : reg (g.L o).b ((g.L o).off + j) := ⟨o, ver, cs, ho, e, rfl, j, hj, rfl⟩
  refine ⟨?_, by show VR _ _ _ _ ((w.cell? _).getD undef); rw [hv]; exact hr hj⟩
  simp only [pm']; rw [if_pos hreg, hv]; rfl
 refine ⟨{ g with pm := pm' }, ⟨⟨fun b o v e => hpm _ _ _ (h1.ext.pm _ _ _ e), fun o => ?_⟩, h1.tm, h1.B0, h1.w0⟩, ⟨fun b o v e => ?_, h2.tm, h2.tmf, fun b o v e => ?_, h2.low, h2.B0, h2.tab, fun o ver cs e => ?_, fun o o' v v' c c' e e' hne => ?_⟩, fun x y u r hv => by rw [r]; exact key hv⟩
 ·by_cases ho : o < S0.length
  ·refine (h1.ext.ob o).trans ?_
   have := hσ o
   rw [a9M, if_pos zO] at this
   exact this
  ·rw [b5l (S := S0) zO]; exact trivial
 ·replace e : (if reg b o then w.cell? ⟨b, o, none⟩ else g.pm b o) = some v := e
  split at e
  ·exact e
  ·exact h2.pm _ _ _ e
 ·replace e : (if reg b o then w.cell? ⟨b, o, none⟩ else g.pm b o) = some v := e
  split at e
  ·rename_i hr
   obtain ⟨i, ver, cs, _, e1, rfl, j, hj, rfl⟩ := hr
   have q := h2.ob i ver cs e1
   exact q.tm j (by have := q.len; omega)
  ·exact h2.disj _ _ _ e
 ·obtain ⟨ho, cs', e1, rfl⟩ := hin _ _ _ e
  have q := h2.ob o ver cs' e1
  refine ⟨q.low, by simpa using q.len, fun j hj => ?_, q.free, fun j hj => ?_, q.tm⟩
  ·obtain ⟨v, hv, hr⟩ := q.there j hj
   exact ⟨v, hv, fun hj' => by simp only [List.getElem_map]; exact key (hr (by simpa using hj'))⟩
  ·show (if reg _ _ then _ else _) = _
   rw [if_neg]
   ·exact q.pm j hj
   ·rintro ⟨i, ver', c', hi, e2, hb, j', hj', he⟩
    have q' := h2.ob i ver' c' e2
    exact h2.sep i o _ _ _ _ e2 e1 zO hb j' j (by have := q'.len; omega) hj he
 ·obtain ⟨ho, c1, e1, _⟩ := hin _ _ _ e
  obtain ⟨ho', c2, e2, _⟩ := hin _ _ _ e'
  exact h2.sep o o' _ _ _ _ e1 e2 hne

abbrev RS := Nat × Option (Option Nat)
def t9 (P : Program) : List ResultVar -> Option (List RS)
 | [] => some []
 | .tmp t :: r => (t9 P r).map ((t, none) :: ·)
 | .cell a t :: r => match a0o P t, t9 P r with
   | some sh, some q => some ((a, some sh) :: q)
   | _, _ => none

def b8B (S : List Ob) (F : Fm) : RS -> Option AV
 | (t, none) => some (F t)
 | (t, some sh) => (a9J sh (F t) S).map (·.1)
def a7V (S : List Ob) (F : Fm) : List RS -> Option (List AV)
 | [] => some []
 | t :: r => match b8B S F t, a7V S F r with
   | some v, some vs => some (v :: vs)
   | _, _ => none
def a3C (S : List Ob) (F : Fm) (ts : List RS) : Option AV :=
 match ts with
 | [t] => b8B S F t
 | ts => (a7V S F ts).map .tup

theorem b7r {P : Program} {g : Gh} {S : List Ob} {n : Nat} {F : Fm} {a : Act} {w : World} (hw : WRel g (hp S) w) (hf : a6J g (hp S) n F a) {x : ResultVar} {ts : List RS} {t : RS}
  (hr : t9 P [x] = some [t]) {v : AV} (hv : b8B S F t = some v) {one : ResultVar -> Sem Value} (ho : ∀ t, one (.tmp t) = pure (a.tmps.getD t undef)) (hc : ∀ b t, one (.cell b t) = (do loadVar t (<- asAddr (a.tmps.getD b undef)))) :
  ∃ u, (one x).run P w = .ok u w /\ VR g.pm g.L (hp S) v u := by
 cases x with
 | tmp i =>
   simp [t9] at hr; subst hr
   simp only [b8B] at hv; cases hv
   exact ⟨_, by rw [ho]; rfl, hf.get i⟩
 | cell b ty =>
   simp only [t9] at hr
   split at hr
   ·rename_i sh q e1 e2
    cases e2
    cases hr
    simp only [b8B, Option.map_eq_some_iff, Prod.exists] at hv
    obtain ⟨v', rd, δ, h1, rfl⟩ := hv
    obtain ⟨h2, rfl⟩ := b0J h1
    obtain ⟨a', r, h3, h4, h5⟩ := a9x hw e1 (hf.get b) h2
    refine ⟨r, ?_, h5⟩
    rw [hc, h3]
    simp [asAddr, h4]
   ·cases hr

theorem a7W {P : Program} {g : Gh} {S : List Ob} {n : Nat} {F : Fm} {a : Act} {w : World} (hw : WRel g (hp S) w) (hf : a6J g (hp S) n F a) {one : ResultVar -> Sem Value} (ho : ∀ t, one (.tmp t) = pure (a.tmps.getD t undef)) (hc : ∀ b t, one (.cell b t) = (do loadVar t (<- asAddr (a.tmps.getD b undef)))) :
  ∀ (rs : List ResultVar) (ts : List RS) (vs : List AV), t9 P rs = some ts -> a7V S F ts = some vs ->
   ∃ us : List Value, (rs.mapM one).run P w = .ok us w /\ us.length = vs.length /\ ∀ j (h : j < vs.length) (h' : j < us.length), VR g.pm g.L (hp S) vs[j] us[j] := by
 intro rs
 induction rs with
 | nil =>
   intro ts vs h1 h2
   simp only [t9, Option.some.injEq] at h1; subst h1
   simp only [a7V, Option.some.injEq] at h2; subst h2
   exact ⟨[], rfl, rfl, fun j h => by simp at h⟩
 | cons r rs ih =>
   intro ts vs h1 h2
   have hsplit : ∃ t ts', ts = t :: ts' /\ t9 P [r] = some [t] /\ t9 P rs = some ts' := by
    cases r with
    | tmp i =>
      simp only [t9, Option.map_eq_some_iff] at h1
      obtain ⟨q, e, rfl⟩ := h1
      exact ⟨_, q, rfl, rfl, e⟩
    | cell b ty =>
      simp only [t9] at h1 ⊢
      split at h1
      ·rename_i sh q e1 e2
       cases h1
       exact ⟨_, q, rfl, by rw [e1], e2⟩
      ·cases h1
   obtain ⟨t, ts', rfl, e1, e2⟩ := hsplit
   simp only [a7V] at h2
   split at h2
   ·rename_i v vs' e3 e4
    cases h2
    obtain ⟨u, k1, k2⟩ := b7r (ts := []) hw hf e1 e3 ho hc
    obtain ⟨us, k3, k4, k5⟩ := ih ts' vs' e2 e4
    refine ⟨u :: us, by simp [k1, k3], by simp [k4], fun j h h' => ?_⟩
    cases j with
    | zero => exact k2
    | succ j => simpa using k5 j (by simpa using h) (by simpa using h')
   ·cases h2

structure Fn3 (P : Program) (f : FuncId) (n : Nat) (ts : List RS) (fc : FC) : Prop where
 ex : ∃ fn c, P.funcs[f]? = some fn /\ fn.body = some c /\ fn.ntmps = n /\ t9 P fn.results.toList = some ts /\ r5 P n c = some fc

theorem a7j {P : Program} {fn : Func} {g : Gh} {S : List Ob} {n : Nat} {F : Fm} {a : Act} {w : World} (hw : WRel g (hp S) w) (hf : a6J g (hp S) n F a) {ts : List RS} (hr : t9 P fn.results.toList = some ts) {v : AV} (hv : a3C S F ts = some v) :
  ∃ u, (results fn a.tmps).run P w = .ok u w /\ VR g.pm g.L (hp S) v u := by
 unfold results
 generalize fn.results = R at hr
 rcases R with ⟨rs⟩
 simp only [List.mapM_toArray]
 simp only at hr
 have hlen : ∀ (rs : List ResultVar) (ts : List RS), t9 P rs = some ts -> rs.length = ts.length := by
  intro rs
  induction rs with
  | nil => intro ts h; simp only [t9, Option.some.injEq] at h; subst h; rfl
  | cons r rs ih =>
    intro ts h
    cases r with
    | tmp i => simp only [t9, Option.map_eq_some_iff] at h; obtain ⟨q, e, rfl⟩ := h; simp [ih q e]
    | cell b ty =>
      simp only [t9] at h
      split at h
      ·rename_i sh q e1 e2; cases h; simp [ih q e2]
      ·cases h
 rw [Sem.run_bind, Sem.run_map]
 revert hv
 match ts, hr with
 | [t], hr =>
   intro hv
   have hl := hlen _ _ hr
   obtain ⟨us, k1, k2, k3⟩ := a7W (one := fun | .tmp t => pure (a.tmps.getD t undef) | .cell b t => do loadVar t (<- asAddr (a.tmps.getD b undef))) hw hf (fun _ => rfl) (fun _ _ => rfl) rs [t] [v] hr (by simp only [a3C] at hv; simp [a7V, hv])
   refine ⟨us.headD undef, ?_, ?_⟩
   ·erw [k1]
    simp only [List.length_singleton] at k2
    match us, k2 with
    | [u], _ => rfl
   ·match us, k2 with
    | [u], _ => exact k3 0 zS zS
 | [], hr =>
   intro hv
   simp only [a3C, a7V, Option.map_some, Option.some.injEq] at hv
   subst hv
   obtain ⟨us, k1, k2, k3⟩ := a7W (one := fun | .tmp t => pure (a.tmps.getD t undef) | .cell b t => do loadVar t (<- asAddr (a.tmps.getD b undef))) hw hf (fun _ => rfl) (fun _ _ => rfl) rs [] [] hr rfl
   refine ⟨.tuple us.toArray, ?_, .tup (by simpa using k2) (fun j h => by simp at h)⟩
   erw [k1]
   simp only [List.length_nil] at k2
   match us, k2 with
   | [], _ => rfl
 | t :: t2 :: ts, hr =>
   intro hv
   simp only [a3C, Option.map_eq_some_iff] at hv
   obtain ⟨vs, hv2, rfl⟩ := hv
   replace hv := hv2
   clear hv2
   obtain ⟨us, k1, k2, k3⟩ := a7W (one := fun | .tmp t => pure (a.tmps.getD t undef) | .cell b t => do loadVar t (<- asAddr (a.tmps.getD b undef))) hw hf (fun _ => rfl) (fun _ _ => rfl) rs _ vs hr hv
   have hl2 : 2 <= vs.length := by
    simp only [a7V] at hv
    split at hv
    ·rename_i e _ e2
     cases hv
     split at e2
     ·cases e2; simp
     ·cases e2
    ·cases hv
   refine ⟨.tuple us.toArray, ?_, .tup (by simpa using k2) (fun j h h' => by simpa using k3 j h (by simpa using h'))⟩
   erw [k1]
   simp only [Result.andThen_ok]
   rw [dif_neg zE]
   rfl

theorem a4E {P : Program} {f n : Nat} {ts : List RS} {fc : FC} (hm : P.follows .mixedOrders = true) (hfn : Fn3 P f n ts fc) {args : List AV} (hn : args.length <= n) {S S' : List Ob} {r : AV} (ow : List Nat)
  (h : VT P S ow fc (a2a 0 args) S (fun e fr1 S1 => a6i e /\ ∃ v R, a3C S1 (Fr.get fr1) ts = some v /\ GWk S S1 S' R /\ R v r)) : Ev P f args (hp S) r (hp S') := by
 have hv := b8U (K' := fun e fr1 S1 => a6i e /\ ∃ v R, a3C S1 (Fr.get fr1) ts = some v /\ GWk S S1 S' R /\ R v r) (fun _ _ _ h => h) h
 intro g w vals hw hvs
 obtain ⟨fn, c, hf, hb, hnt, hrs, hrc⟩ := hfn.ex
 have hvs1 := hvs.1
 refine calls_of_wp hf hb ?_
 have hat : At g (hp S) n (Fr.get (a2a 0 args)) (hp S) { tmps := vals ++ Array.replicate (fn.ntmps - vals.size) undef, defers := [] } w := by
  refine ⟨rfl, g, Gh.le.refl _ _, hw, ⟨by simp; omega, fun t => ?_⟩⟩
  rw [a5a]
  simp only [Nat.zero_le, if_true, Nat.sub_zero]
  by_cases ht : t < args.length
  ·have := hvs.2 t ht zO
   rw [List.getD_eq_getElem?_getD, List.getElem?_eq_getElem ht]
   rw [Array.getD_eq_getD_getElem?, Array.getElem?_append_left zO, Array.getElem?_eq_getElem zO]
   exact this
  ·rw [List.getD_eq_getElem?_getD, List.getElem?_eq_none zO]
   exact .junk
 refine wp_mono (c1p hm c fc hrc _ _ _ hv _ _ hat) (fun e a' w' hq => ?_)
 obtain ⟨fr1, S1, ⟨hd, g1, hle1, hw1, hf1⟩, he, v, R, hret, hgw, hR⟩ := hq
 obtain ⟨u, hu, hvu⟩ := a7j hw1 hf1 hrs hret
 obtain ⟨g2, hle2, hw2, hv2⟩ := hgw g g1 w' hle1 hw1
 have hfin : a'.defers = [] /\ ∃ v, (results fn a'.tmps).run P w' = .ok v w' /\ ∃ u g', Ending.returned v = .returned u /\ g.le (hp S) g' (hp S') /\ WRel g' (hp S') w' /\ VR g'.pm g'.L (hp S') r u :=
  ⟨hd, u, hu, u, g2, rfl, hle2, hw2, hv2 _ _ _ hR hvu⟩
 cases e with
 | normal => exact hfin
 | ret => exact hfin
 | _ => exact he.elim

theorem f9 {P : Program} {f n : Nat} {ts : List RS} {fc : FC} (hm : P.follows .mixedOrders = true) (hfn : Fn3 P f n ts fc) {args : List AV} (hn : args.length <= n) {r : AV} (ow : List Nat) (k : Nat)
  (h : VT P [] ow fc (a2a 0 args) [] (fun e fr S => a6i e /\ ∃ v, a3C S (Fr.get fr) ts = some v /\ AVw (frz 0 S k v) r)) : PureEv P f args r := by
 have := a4E (S := []) (S' := []) (r := r) hm hfn hn ow (a1I (K' := fun e fr1 S1 => a6i e /\ ∃ v R, a3C S1 (Fr.get fr1) ts = some v /\ GWk [] S1 [] R /\ R v r) (fun e fr S hk => ?_) h)
 ·rw [b2I] at this; exact this
 ·obtain ⟨he, v, h1, h2⟩ := hk
  refine ⟨he, v, _, h1, (a7U 0 k zS).trans GWk.refl, _, rfl, h2⟩

theorem PureEv.weaka {P f args args' r} (h : PureEv P f args' r) (hl : args.length = args'.length) (ha : ∀ j (h1 : j < args.length) (h2 : j < args'.length), AVw args[j] args'[j]) : PureEv P f args r := by
 intro g w vals hw hv
 exact h g w vals hw ⟨by rw [hv.1, hl], fun j h1 h2 => (hv.2 j zO h2).w (ha j zO h1)⟩
def pL : FC -> FC | .seq a _ => a | x => x
def pR : FC -> FC | .seq _ b => b | x => x
def pT : FC -> FC | .cond _ a _ => a | x => x
def pE : FC -> FC | .cond _ _ b => b | x => x
def pB : FC -> FC | .block _ a => a | .loop a => a | x => x
def c1y (k : Nat) : List x7 -> Option (List x7 × List x7)
 | [] => none
 | o :: r => match o.dst with
   | some j => match Nat.beq j k with
     | true => some ([o], r)
     | false => (c1y k r).map fun p => (o :: p.1, p.2)
   | none => (c1y k r).map fun p => (o :: p.1, p.2)
def b7s (k : Nat) : FC -> FC
 | .reg rs [] => match c1y k rs with
   | some p => .block 1000003 (.seq (.reg p.1 []) (.reg p.2 []))
   | none => .reg rs []
 | .seq a b => .seq (b7s k a) (b7s k b)
 | .cond c a b => .cond c (b7s k a) (b7s k b)
 | .block i a => .block i (b7s k a)
 | .loop a => .loop (b7s k a)
 | x => x
def c3D (l : List Nat) (c : FC) : FC := match l with
 | [] => c
 | k :: l => c3D l (b7s k c)
noncomputable def c3E (P : Program) (f : Nat) : Option FC := match P.funcs[f]? with | none => none | some fn => match fn.body with | none => none | some b => r5 P fn.ntmps b
theorem qn1 : Int.negSucc 0 = -1 := rfl
theorem qi0 : Int.ofNat 0 = 0 := rfl
theorem qi1 : Int.ofNat 1 = 1 := rfl
theorem qi2 : Int.ofNat 2 = 2 := rfl
theorem qi3 : Int.ofNat 3 = 3 := rfl
theorem qi4 : Int.ofNat 4 = 4 := rfl
theorem qi5 : Int.ofNat 5 = 5 := rfl
theorem qi6 : Int.ofNat 6 = 6 := rfl
theorem qi7 : Int.ofNat 7 = 7 := rfl
theorem qi8 : Int.ofNat 8 = 8 := rfl
theorem qi9 : Int.ofNat 9 = 9 := rfl
theorem c3F : Int.ofNat 10 = 10 := rfl
theorem c3G : Int.ofNat 11 = 11 := rfl
theorem c3H : Int.ofNat 12 = 12 := rfl
theorem c3I : Int.ofNat 13 = 13 := rfl
theorem c3J : Int.ofNat 14 = 14 := rfl
theorem c3K : Int.ofNat 15 = 15 := rfl
theorem c3L : Int.ofNat 16 = 16 := rfl
theorem c3M : Int.ofNat 17 = 17 := rfl
theorem c3N : Int.ofNat 18 = 18 := rfl
theorem c3O : Int.ofNat 19 = 19 := rfl
theorem c3P : Int.ofNat 20 = 20 := rfl
theorem c3Q : Int.ofNat 21 = 21 := rfl
theorem c3R : Int.ofNat 22 = 22 := rfl
theorem c3S : Int.ofNat 23 = 23 := rfl
theorem c3T : Int.ofNat 24 = 24 := rfl
theorem c3U : Int.ofNat 25 = 25 := rfl
theorem c3V : Int.ofNat 26 = 26 := rfl
theorem c3W : Int.ofNat 27 = 27 := rfl
theorem c3X : Int.ofNat 28 = 28 := rfl
theorem c3Y : Int.ofNat 29 = 29 := rfl
theorem c3Z : Int.ofNat 30 = 30 := rfl
theorem c4a : Int.ofNat 31 = 31 := rfl
theorem c4b : Int.ofNat 32 = 32 := rfl
theorem c4c : Int.ofNat 50 = 50 := rfl
theorem c4d : Int.ofNat 63 = 63 := rfl
theorem c4e : Int.ofNat 76 = 76 := rfl
theorem c4f : Int.ofNat 87 = 87 := rfl
theorem b8Z : Int.ofNat 254 = 254 := rfl
theorem b9a : Int.ofNat 255 = 255 := rfl
theorem b9b : Int.ofNat 256 = 256 := rfl
theorem b6v : Int.ofNat 1000 = 1000 := rfl
theorem b2S : Int.ofNat 65535 = 65535 := rfl
theorem a8S : Int.ofNat 1048576 = 1048576 := rfl
theorem a1v : Int.ofNat 9223372036854775808 = 9223372036854775808 := rfl
theorem a1f : Int.ofNat 18446744073709551614 = 18446744073709551614 := rfl
theorem a1g : Int.ofNat 18446744073709551615 = 18446744073709551615 := rfl
abbrev I64 (x : Int) : Int := IntKind.i64.wrap x
abbrev U64 (x : Int) : Int := IntKind.u64.wrap x
abbrev U8 (x : Int) : Int := IntKind.u8.wrap x

def gd (c : Prop) [Decidable c] {β : Type} (k : Option β) : Option β := if c then k else none
theorem a2d {c : Prop} [Decidable c] {β : Type} {k : Option β} {r : β} (h : gd c k = some r) : c /\ k = some r := by
 unfold gd at h
 split at h
 ·exact ⟨by assumption, h⟩
 ·cases h
@[simp] theorem b2T {c : Prop} [Decidable c] {β : Type} {k : Option β} (h : c) : gd c k = k := if_pos h
theorem b9 {α β : Type} {x : Option α} {f : α -> Option β} {r : β} (h : x.bind f = some r) : ∃ v, x = some v /\ f v = some r := Option.bind_eq_some_iff.1 h

theorem b7t {β : Type} {e : Bool} {a b : β} (h : e = true) : (if e = true then a else b) = a := if_pos h
theorem b7u {β : Type} {e : Bool} {a b : β} (h : e = false) : (if e = true then a else b) = b := if_neg (by rw [h]; decide)

def j7 {α : Type} (l : List α) (i : Int) : Option α := if 0 <= i then l[i.toNat]? else none
theorem d9 {α : Type} {l : List α} {i : Int} {y : α} (h : j7 l i = some y) : 0 <= i /\ i < l.length /\ l[i.toNat]? = some y := by
 unfold j7 at h
 split at h
 ·obtain ⟨h1, h2⟩ := List.getElem?_eq_some_iff.1 h
  exact ⟨by assumption, by omega, h⟩
 ·cases h

def jp {σ β : Type} (k : σ -> Option β) (f : (σ -> Option β) -> Option β) : Option β := f k

inductive Stp (σ ρ : Type) where
 | nxt (s : σ)
 | brk (s : σ)
 | ret (r : ρ)
inductive Out (σ ρ : Type) where
 | fin (s : σ)
 | ret (r : ρ)

def a0Q {α σ ρ : Type} (body : Nat -> α -> σ -> Option (Stp σ ρ)) : List α -> Nat -> σ -> Option (Out σ ρ)
 | [], _, s => some (.fin s)
 | x :: xs, i, s => match body i x s with
   | none => none
   | some (.nxt s') => a0Q body xs (i + 1) s'
   | some (.brk s') => some (.fin s')
   | some (.ret r) => some (.ret r)
def rng {α σ ρ : Type} (body : Nat -> α -> σ -> Option (Stp σ ρ)) (xs : List α) (s : σ) : Option (Out σ ρ) := if xs.length <= 4611686018427387904 then a0Q body xs 0 s else none

def a0R {σ ρ : Type} (body : Nat -> σ -> Option (Stp σ ρ)) : Nat -> Nat -> σ -> Option (Out σ ρ)
 | 0, _, s => some (.fin s)
 | n + 1, i, s => match body i s with
   | none => none
   | some (.nxt s') => a0R body n (i + 1) s'
   | some (.brk s') => some (.fin s')
   | some (.ret r) => some (.ret r)
def rni {σ ρ : Type} (body : Nat -> σ -> Option (Stp σ ρ)) (n : Int) (s : σ) : Option (Out σ ρ) := if n <= 4611686018427387904 then a0R body n.toNat 0 s else none

def whileN {σ ρ : Type} (body : σ -> Option (Stp σ ρ)) : Nat -> σ -> Option (Out σ ρ)
 | 0, _ => none
 | n + 1, s => match body s with
   | none => none
   | some (.nxt s') => whileN body n s'
   | some (.brk s') => some (.fin s')
   | some (.ret r) => some (.ret r)

def b5p : Fr -> Nat -> AV -> Fr
 | [], _, _ => []
 | (t', v') :: r, t, v => if t = t' then (t', v) :: r else (t', v') :: b5p r t v
theorem a9N {t : Nat} {v : AV} : ∀ {fr : Fr}, Fr.get fr t = v -> b5p fr t v = fr
 | [], _ => rfl
 | (t', v') :: r, h => by
   simp only [b5p]
   rw [get_cons] at h
   split
   ·rename_i e; rw [if_pos e] at h; rw [h]
   ·rename_i e; rw [if_neg e] at h; rw [a9N h]

theorem Wk.refl {S0 S : List Ob} {fr : Fr} : Wk S0 fr S fr S := fun _ _ _ _ h => h

section
variable {P : Program} {S0 : List Ob} {ow : List Nat} {fr : Fr} {S : List Ob} {log : List LE}

theorem u0 {d r rs} {K : Fr -> List Ob -> List LE -> Prop} {v v' rd δ S'} (e : opV (ow.contains d) r (Fr.get fr) S = some (v, rd, δ)) (e2 : AVw v v') (e3 : apS S δ = S') (h : VTops P ow rs ((d, v') :: fr) S' (.acc (a1j rd δ) (δ.map (·.1)) :: log) K) :
  VTops P ow (⟨some d, none, .op r⟩ :: rs) fr S log K := by subst e3; rw [a3T, e]; exact ⟨_, e2, h⟩
theorem a6k {d t want c rs} {K : Fr -> List Ob -> List LE -> Prop} {b : Bool} {fr1 fr2 : Fr} (e : Fr.get fr t = .bool b) (e1 : b5p fr t (.bool want) = fr1) (e2 : a6K (b5p fr t (.bool (!want))) d (.tup []) = fr2)
  (h : b = want -> VTops P ow (⟨d, none, c⟩ :: rs) fr1 S log K) (h' : b = !want -> VTops P ow rs fr2 S (.acc [] none :: log) K) : VTops P ow (⟨d, some (t, want), c⟩ :: rs) fr S log K := by
 subst e1; subst e2
 refine c4S e (fun hb => ?_) (fun hb => ?_)
 ·have := h hb
  rwa [a9N (by rw [e, hb])] at this
 ·have := h' hb
  rwa [a9N (by rw [e, hb])] at this
theorem v7 {a b} {K : Post} (h : VT P S0 ow a fr S (Post.thn (fun fr' S' => ∃ F T, Wk S0 fr' S' F T /\ VT P S0 ow b F T K) K)) : VT P S0 ow (.seq a b) fr S K := by
 rw [a8O]; exact h
theorem y4 {b} {K K0 : Post} (h : VT P S0 ow b fr S K) : Post.thn (fun fr' S' => ∃ F T, Wk S0 fr' S' F T /\ VT P S0 ow b F T K) K0 .normal fr S := ⟨fr, S, Wk.refl, h⟩
theorem a4F {b} {K K0 : Post} {F : Fr} {T : List Ob} (hw : Wk S0 fr S F T) (h : VT P S0 ow b F T K) : Post.thn (fun fr' S' => ∃ F T, Wk S0 fr' S' F T /\ VT P S0 ow b F T K) K0 .normal fr S := ⟨F, T, hw, h⟩
theorem a0K {σ β : Type} {a b} {K : Post} {k : σ -> Option β} {f : (σ -> Option β) -> Option β} {r : β} (h : jp k f = some r) (F : σ -> Fr) (T : σ -> List Ob)
  (h1 : ∀ k', f k' = some r -> VT P S0 ow a fr S (Post.thn (fun fr' S' => ∃ s, k' s = some r /\ Wk S0 fr' S' (F s) (T s)) K)) (h2 : ∀ s, k s = some r -> VT P S0 ow b (F s) (T s) K) : VT P S0 ow (.seq a b) fr S K :=
 v7 (a1I (a1P (fun _ _ ⟨s, hs, hw⟩ => ⟨F s, T s, hw, h2 s hs⟩) (fun _ _ _ h => h)) (h1 k h))
theorem l6 {σ β : Type} {K0 : Post} {k' : σ -> Option β} {r : β} {F : σ -> Fr} {T : σ -> List Ob} (s : σ) (h : k' s = some r) (hw : Wk S0 fr S (F s) (T s)) : Post.thn (fun fr' S' => ∃ s, k' s = some r /\ Wk S0 fr' S' (F s) (T s)) K0 .normal fr S := ⟨s, h, hw⟩
theorem a2J {a b c} {K : Post} (h : VT P S0 ow (.seq a (.seq b c)) fr S K) : VT P S0 ow (.seq (.seq a b) c) fr S K := by
 rw [a8O] at h
 rw [a8O, a8O]
 refine a1I (fun e fr' S' hh => ?_) h
 cases e with
 | normal =>
   obtain ⟨F, T, hw, hv⟩ := hh
   rw [a8O] at hv
   exact ⟨F, T, hw, hv⟩
 | _ => exact hh

def a5F (S0 : List Ob) {σ ρ β : Type} (nx : Nat -> Bool) (bk : Nat -> Bool) (F : σ -> Fr) (T : σ -> List Ob) (Fx : σ -> Fr) (Tx : σ -> List Ob) (k : Out σ ρ -> Option β) (r : β) (K : Post) (c : Stp σ ρ) : Post
 | .normal, fr, S => ∃ s, c = .nxt s /\ Wk S0 fr S (F s) (T s)
 | .exit j, fr, S => if nx j = true then ∃ s, c = .nxt s /\ Wk S0 fr S (F s) (T s) else if bk j = true then ∃ s, c = .brk s /\ Wk S0 fr S (Fx s) (Tx s) else ∃ v, c = .ret v /\ (k (.ret v) = some r -> K (.exit j) fr S)
 | e, fr, S => ∃ v, c = .ret v /\ (k (.ret v) = some r -> K e fr S)

variable {σ ρ β : Type} {nx bk : Nat -> Bool} {F : σ -> Fr} {T : σ -> List Ob} {Fx : σ -> Fr} {Tx : σ -> List Ob} {k : Out σ ρ -> Option β} {r : β} {K : Post}
theorem a2Z {s : σ} {c : Stp σ ρ} (e : c = .nxt s) (hw : Wk S0 fr S (F s) (T s)) : a5F S0 nx bk F T Fx Tx k r K c .normal fr S := ⟨s, e, hw⟩
theorem c4U {s : σ} {c : Stp σ ρ} {j} (e : c = .nxt s) (hj : nx j = true) (hw : Wk S0 fr S (F s) (T s)) : a5F S0 nx bk F T Fx Tx k r K c (.exit j) fr S := by
 show if nx j = true then _ else _
 rw [if_pos hj]; exact ⟨s, e, hw⟩
theorem b8C {s : σ} {c : Stp σ ρ} {j} (e : c = .brk s) (hj : nx j = false) (hb : bk j = true) (hw : Wk S0 fr S (Fx s) (Tx s)) : a5F S0 nx bk F T Fx Tx k r K c (.exit j) fr S := by
 show if nx j = true then _ else if bk j = true then _ else _
 rw [if_neg (by rw [hj]; decide), if_pos hb]; exact ⟨s, e, hw⟩
theorem c4V {v : ρ} {c : Stp σ ρ} (e : c = .ret v) (h : k (.ret v) = some r -> K .ret fr S) : a5F S0 nx bk F T Fx Tx k r K c .ret fr S := ⟨v, e, h⟩

theorem b7v {a : FC} {id : Nat} (body : σ -> Option (Stp σ ρ)) {n : Nat} {s0 : σ} (F : σ -> Fr) (T : σ -> List Ob) (h : (whileN body n s0).bind k = some r)
  (hw : Wk S0 fr S (F s0) (T s0))
  (hb : ∀ s c, body s = some c -> VT P S0 ow a (F s) (T s) (a5F S0 (fun _ => false) (fun j => j == id) F T F T k r K c))
  (hx : ∀ s fr' S', k (.fin s) = some r -> Wk S0 fr' S' (F s) (T s) -> K .normal fr' S') : VT P S0 ow (.block id (.loop a)) fr S K := by
 refine g9 (b2L (ι := Nat × σ) (fun i => F i.2) (fun i => T i.2) (fun i => (whileN body i.1 i.2).bind k = some r) (fun i => i.1) (n, s0) h hw (fun i hi => ?_))
 obtain ⟨n, s⟩ := i
 simp only at hi ⊢
 cases n with
 | zero => simp [whileN] at hi
 | succ n =>
   simp only [whileN] at hi
   cases hc : body s with
   | none => rw [hc] at hi; cases hi
   | some c =>
     rw [hc] at hi
     refine a1I (fun e fr' S' hk => ?_) (hb s c hc)
     cases e with
     | normal =>
       obtain ⟨s', rfl, hw'⟩ := hk
       exact ⟨(n, s'), hi, Nat.lt_succ_self _, hw'⟩
     | exit j =>
       replace hk : if (j == id) = true then ∃ s, c = .brk s /\ Wk S0 fr' S' (F s) (T s) else ∃ v, c = .ret v /\ (k (.ret v) = some r -> K (.exit j) fr' S') := hk
       show Post.blk id K (.exit j) fr' S'
       rw [a6h]
       by_cases hj : j = id
       ·rw [if_pos hj]; rw [if_pos (by simpa using hj)] at hk
        obtain ⟨s', rfl, hw'⟩ := hk
        exact hx s' _ _ hi hw'
       ·rw [if_neg hj]; rw [if_neg (by simpa using hj)] at hk
        obtain ⟨v, rfl, hv⟩ := hk
        exact hv hi
     | ret => obtain ⟨v, rfl, hv⟩ := hk; exact hv hi
     | goto l => obtain ⟨v, rfl, hv⟩ := hk; exact hv hi
     | panic l => obtain ⟨v, rfl, hv⟩ := hk; exact hv hi
     | outgrown => obtain ⟨v, rfl, hv⟩ := hk; exact hv hi

theorem b9c {x : Int} (h : -9223372036854775808 <= x /\ x <= 9223372036854775807) : I64 x = x := q9 h

theorem b6w {tc ti tn tj id id2 : Nat} {B : FC} {G : Fr} {T' : List Ob} {i : Nat} {n : Int} {K0 : Post} (h1 : ti ≠ tn) (hn : n <= 4611686018427387904)
  (hB : (i : Int) < n -> VT P S0 ow B ((tc, .bool true) :: (ti, .int .i64 i) :: (tn, .int .i64 n) :: G) T' (fun e fr' S' => match e with
   | .normal => ∃ G2 T2, Wk S0 fr' S' ((ti, .int .i64 i) :: G2) T2 /\ ∀ fr3, (∀ t, Fr.get fr3 t = if t = ti then .int .i64 ((i : Int) + 1) else if t = tj then .int .i64 ((i : Int) + 1) else Fr.get G2 t) -> K0 .normal fr3 T2
   | e => Post.blk id2 (fun e fr' S' => match e with
     | .normal => ∃ G2 T2, Wk S0 fr' S' ((ti, .int .i64 i) :: G2) T2 /\ ∀ fr3, (∀ t, Fr.get fr3 t = if t = ti then .int .i64 ((i : Int) + 1) else if t = tj then .int .i64 ((i : Int) + 1) else Fr.get G2 t) -> K0 .normal fr3 T2
     | e => K0 e fr' S') e fr' S'))
  (hE : ¬ (i : Int) < n -> K0 (.exit id) ((tc, .bool false) :: (ti, .int .i64 i) :: (tn, .int .i64 n) :: G) T') :
  VT P S0 ow (.seq (.reg [⟨some tc, none, .op (.bin .none .lss (.t ti) (.t tn))⟩] []) (.seq (.cond (.t tc) .skip (.exit id)) (.seq (.block id2 B) (.reg [⟨some tj, none, .op (.bin .none .add (.t ti) (.v (.int .i64 1)))⟩, ⟨some ti, none, .op (.mv (.t tj))⟩] []))))
   ((ti, .int .i64 i) :: (tn, .int .i64 n) :: G) T' K0 := by
 refine v7 (m7 (a2r (v := .bool (decide ((i : Int) < n))) ?_ rfl (j8 (y4 ?_))))
 ·simp only [opV, ev, get_cons, if_true, if_neg (Ne.symm h1), b4F, pv, a3q]; rfl
 refine v7 (E_cs (t := decide ((i : Int) < n)) (by simp [ev, get_cons]) (fun ht => j1 (y4 ?_)) (fun hf => a1u ?_))
 ·rw [ht]
  simp only [decide_eq_true_eq] at ht
  refine v7 (g9 ?_)
  have hinc : ∀ {fr' : Fr} {S' : List Ob} {G2 : Fr} {T2 : List Ob}, Wk S0 fr' S' ((ti, .int .i64 i) :: G2) T2 -> (∀ fr3, (∀ t, Fr.get fr3 t = if t = ti then .int .i64 ((i : Int) + 1) else if t = tj then .int .i64 ((i : Int) + 1) else Fr.get G2 t) -> K0 .normal fr3 T2) ->
    Post.thn (fun fr' S' => ∃ F T, Wk S0 fr' S' F T /\ VT P S0 ow (.reg [⟨some tj, none, .op (.bin .none .add (.t ti) (.v (.int .i64 1)))⟩, ⟨some ti, none, .op (.mv (.t tj))⟩] []) F T K0) K0 .normal fr' S' := fun hw hk => by
   refine a4F hw (m7 (a2r (v := .int .i64 ((i : Int) + 1)) ?_ rfl (c1c (v' := .int .i64 ((i : Int) + 1)) (by simp [ev, get_cons]) (j8 (hk _ (fun t => ?_))))))
   ·simp only [opV, ev, get_cons, if_true, b4F, pv, a3q, Option.map_some]
    rw [q9 zO]
   ·simp only [get_cons]
    split
    ·rfl
    ·split
     ·rfl
     ·rfl
  refine a1I (fun e fr' S' hk => ?_) (hB ht)
  cases e with
  | normal => obtain ⟨G2, T2, hw, hk⟩ := hk; exact hinc hw hk
  | exit j =>
    replace hk : Post.blk id2 _ (.exit j) fr' S' := hk
    rw [a6h] at hk
    show Post.blk id2 _ (.exit j) fr' S'
    rw [a6h]
    split
    ·rename_i hj; rw [if_pos hj] at hk
     obtain ⟨G2, T2, hw, hk⟩ := hk; exact hinc hw hk
    ·rename_i hj; rw [if_neg hj] at hk; exact hk
  | _ => exact hk
 ·rw [hf]
  simp only [decide_eq_false_iff_not] at hf
  exact hE hf

theorem b0N {S0 S : List Ob} {fr fr' : Fr} (h : ∀ t, Fr.get fr' t = Fr.get fr t \/ Fr.get fr' t = .junk) : Wk S0 fr S fr' S :=
 GWk.refl.wk (fun t => by rcases h t with e | e <;> rw [e] <;> first | exact .refl _ | exact .junk _)

theorem b9d {tc ti tn tj id id2 : Nat} {B : FC} (body : Nat -> σ -> Option (Stp σ ρ)) {n : Int} {s0 : σ} (F : σ -> Fr) (T : σ -> List Ob) (h : (rni body n s0).bind k = some r)
  (h1 : ti ≠ tn) (h2 : tj ≠ tn) (hF : ∀ s, Fr.get (F s) tj = .junk /\ Fr.get (F s) ti = .junk /\ Fr.get (F s) tn = .junk /\ Fr.get (F s) tc = .junk)
  (hw : Wk S0 fr S ((ti, .int .i64 0) :: (tn, .int .i64 n) :: F s0) (T s0))
  (hb : ∀ (i : Nat) s c, (i : Int) < n -> body i s = some c -> VT P S0 ow B ((tc, .bool true) :: (ti, .int .i64 i) :: (tn, .int .i64 n) :: F s) (T s)
   (a5F S0 (fun j => j == id2) (fun j => j == id) (fun s => (ti, .int .i64 i) :: (tn, .int .i64 n) :: F s) T F T k r K c))
  (hx : ∀ s fr' S', k (.fin s) = some r -> Wk S0 fr' S' (F s) (T s) -> K .normal fr' S') :
  VT P S0 ow (.block id (.loop (.seq (.reg [⟨some tc, none, .op (.bin .none .lss (.t ti) (.t tn))⟩] []) (.seq (.cond (.t tc) .skip (.exit id)) (.seq (.block id2 B) (.reg [⟨some tj, none, .op (.bin .none .add (.t ti) (.v (.int .i64 1)))⟩, ⟨some ti, none, .op (.mv (.t tj))⟩] [])))))) fr S K := by
 unfold rni at h
 split at h
 case isFalse => cases h
 rename_i hn
 refine g9 (b2L (ι := Nat × σ) (fun i => (ti, .int .i64 i.1) :: (tn, .int .i64 n) :: F i.2) (fun i => T i.2) (fun i => i.1 <= n.toNat /\ (a0R body (n.toNat - i.1) i.1 i.2).bind k = some r) (fun i => n.toNat - i.1) (0, s0) ⟨by simp, by simpa using h⟩ hw (fun i hi => ?_))
 obtain ⟨i, s⟩ := i
 simp only at hi ⊢
 obtain ⟨hi0, hi⟩ := hi
 refine b6w h1 hn (fun hlt => ?_) (fun hge => ?_)
 ·have e1 : n.toNat - i = (n.toNat - (i + 1)) + 1 := by omega
  rw [e1] at hi
  simp only [a0R] at hi
  cases hc : body i s with
  | none => rw [hc] at hi; cases hi
  | some c =>
    rw [hc] at hi
    have hnext : ∀ s', c = .nxt s' -> ∀ fr3, (∀ t, Fr.get fr3 t = if t = ti then .int .i64 ((i : Int) + 1) else if t = tj then .int .i64 ((i : Int) + 1) else Fr.get ((tn, .int .i64 n) :: F s') t) ->
      Post.thn (fun fr' S' => ∃ i' : Nat × σ, (i'.1 <= n.toNat /\ (a0R body (n.toNat - i'.1) i'.1 i'.2).bind k = some r) /\ n.toNat - i'.1 < n.toNat - i /\ Wk S0 fr' S' ((ti, .int .i64 i'.1) :: (tn, .int .i64 n) :: F i'.2) (T i'.2)) (Post.blk id K) .normal fr3 (T s') := fun s' e fr3 hg => by
     subst e
     refine ⟨(i + 1, s'), ⟨by simp only; omega, hi⟩, by simp only; omega, b0N (fun t => ?_)⟩
     rw [hg]
     rw [get_cons]
     simp only
     by_cases ht : t = ti
     ·left; rw [if_pos ht, if_pos ht]; rfl
     ·rw [if_neg ht, if_neg ht]
      by_cases ht2 : t = tj
      ·right; rw [ht2, get_cons, if_neg h2, (hF s').1]
      ·left; rw [if_neg ht2]
    refine a1I (fun e fr' S' hk => ?_) (hb i s c hlt hc)
    cases e with
    | normal =>
      obtain ⟨s', e, hw'⟩ := hk
      exact ⟨_, _, hw', hnext s' e⟩
    | exit j =>
      show Post.blk id2 _ (.exit j) fr' S'
      rw [a6h]
      replace hk : if (j == id2) = true then ∃ s', c = .nxt s' /\ Wk S0 fr' S' ((ti, .int .i64 i) :: (tn, .int .i64 n) :: F s') (T s') else if (j == id) = true then ∃ s, c = .brk s /\ Wk S0 fr' S' (F s) (T s) else ∃ v, c = .ret v /\ (k (.ret v) = some r -> K (.exit j) fr' S') := hk
      by_cases hj : j = id2
      ·rw [if_pos hj]; rw [if_pos (by simpa using hj)] at hk
       obtain ⟨s', e, hw'⟩ := hk
       exact ⟨_, _, hw', hnext s' e⟩
      ·rw [if_neg hj]; rw [if_neg (by simpa using hj)] at hk
       show Post.blk id K (.exit j) fr' S'
       rw [a6h]
       by_cases hj2 : j = id
       ·rw [if_pos hj2]; rw [if_pos (by simpa using hj2)] at hk
        obtain ⟨s', rfl, hw'⟩ := hk
        exact hx s' _ _ hi hw'
       ·rw [if_neg hj2]; rw [if_neg (by simpa using hj2)] at hk
        obtain ⟨v, rfl, hv⟩ := hk
        exact hv hi
    | ret => obtain ⟨v, rfl, hv⟩ := hk; exact hv hi
    | goto l => obtain ⟨v, rfl, hv⟩ := hk; exact hv hi
    | panic l => obtain ⟨v, rfl, hv⟩ := hk; exact hv hi
    | outgrown => obtain ⟨v, rfl, hv⟩ := hk; exact hv hi
 ·have e1 : n.toNat - i = 0 := by omega
  rw [e1] at hi
  simp only [a0R] at hi
  show Post.blk id K (.exit id) _ _
  rw [a6h, if_pos rfl]
  refine hx s _ _ hi (b0N (fun t => ?_))
  obtain ⟨_, f1, f2, f3⟩ := hF s
  simp only [get_cons]
  by_cases t1 : t = tc
  ·right; rw [t1]; exact f3
  ·by_cases t2 : t = ti
   ·right; rw [t2]; exact f1
   ·by_cases t3 : t = tn
    ·right; rw [t3]; exact f2
    ·left; rw [if_neg t1, if_neg t2, if_neg t3]

theorem a6l {α : Type} (body : Nat -> α -> σ -> Option (Stp σ ρ)) (xs : List α) : ∀ (m i : Nat) (s : σ), xs.length - i = m -> a0R (fun i s => xs[i]?.bind fun x => body i x s) m i s = a0Q body (xs.drop i) i s
 | 0, i, s, h => by rw [List.drop_eq_nil_of_le zO]; rfl
 | m + 1, i, s, h => by
   have hi : i < xs.length := by omega
   rw [List.drop_eq_getElem_cons hi]
   simp only [a0R, a0Q]
   rw [List.getElem?_eq_getElem hi]
   simp only [Option.bind_some]
   split
   ·rfl
   ·exact a6l body xs m (i + 1) _ zO
   ·rfl
   ·rfl
theorem b7w {α : Type} (body : Nat -> α -> σ -> Option (Stp σ ρ)) (xs : List α) (s : σ) : rng body xs s = rni (fun i s => xs[i]?.bind fun x => body i x s) xs.length s := by
 unfold rng rni
 by_cases h : xs.length <= 4611686018427387904
 ·rw [if_pos h, if_pos zO]
  have := a6l body xs xs.length 0 s zO
  simpa using this.symm
 ·rw [if_neg h, if_neg zO]

theorem c1z {α : Type} {tc ti tn tj id id2 : Nat} {B : FC} (body : Nat -> α -> σ -> Option (Stp σ ρ)) {xs : List α} {s0 : σ} (F : σ -> Fr) (T : σ -> List Ob) (h : (rng body xs s0).bind k = some r)
  (h1 : ti ≠ tn) (h2 : tj ≠ tn) (hF : ∀ s, Fr.get (F s) tj = .junk /\ Fr.get (F s) ti = .junk /\ Fr.get (F s) tn = .junk /\ Fr.get (F s) tc = .junk)
  (hw : Wk S0 fr S ((ti, .int .i64 0) :: (tn, .int .i64 xs.length) :: F s0) (T s0))
  (hb : ∀ (i : Nat) x s c, xs[i]? = some x -> i < xs.length -> body i x s = some c -> VT P S0 ow B ((tc, .bool true) :: (ti, .int .i64 i) :: (tn, .int .i64 xs.length) :: F s) (T s)
   (a5F S0 (fun j => j == id2) (fun j => j == id) (fun s => (ti, .int .i64 i) :: (tn, .int .i64 xs.length) :: F s) T F T k r K c))
  (hx : ∀ s fr' S', k (.fin s) = some r -> Wk S0 fr' S' (F s) (T s) -> K .normal fr' S') :
  VT P S0 ow (.block id (.loop (.seq (.reg [⟨some tc, none, .op (.bin .none .lss (.t ti) (.t tn))⟩] []) (.seq (.cond (.t tc) .skip (.exit id)) (.seq (.block id2 B) (.reg [⟨some tj, none, .op (.bin .none .add (.t ti) (.v (.int .i64 1)))⟩, ⟨some ti, none, .op (.mv (.t tj))⟩] [])))))) fr S K := by
 rw [b7w] at h
 refine b9d _ F T h h1 h2 hF hw (fun i s c hi hc => ?_) hx
 obtain ⟨x, hx1, hx2⟩ := b9 hc
 exact hb i x s c hx1 zO hx2
end
section
variable {P : Program} {S0 : List Ob} {ow : List Nat} {fr : Fr} {S : List Ob} {log : List LE}
theorem xC {c a b} {K : Post} {t : Bool} {β : Type} {A B r : β} (h : (if t = true then A else B) = r) (h1 : A = r -> VT P S0 ow a fr S K) (h2 : B = r -> VT P S0 ow b fr S K) (e : ev (Fr.get fr) c = .bool t := by exact rfl) : VT P S0 ow (.cond c a b) fr S K :=
 E_cs e (fun hb => h1 (by rw [b7t hb] at h; exact h)) (fun hb => h2 (by rw [b7u hb] at h; exact h))
theorem xT {d t c rs} {K : Fr -> List Ob -> List LE -> Prop} {b : Bool} {β : Type} {A B r : β} (h : (if b = true then A else B) = r)
  (h1 : A = r -> VTops P ow (⟨d, none, c⟩ :: rs) (b5p fr t (.bool true)) S log K) (h2 : B = r -> VTops P ow rs (a6K (b5p fr t (.bool (!true))) d (.tup [])) S (.acc [] none :: log) K) (e : Fr.get fr t = .bool b := by exact rfl) : VTops P ow (⟨d, some (t, true), c⟩ :: rs) fr S log K :=
 a6k e rfl rfl (fun hb => h1 (by rw [b7t hb] at h; exact h)) (fun hb => h2 (by rw [b7u hb] at h; exact h))
theorem xF {d t c rs} {K : Fr -> List Ob -> List LE -> Prop} {b : Bool} {β : Type} {A B r : β} (h : (if b = true then A else B) = r)
  (h1 : B = r -> VTops P ow (⟨d, none, c⟩ :: rs) (b5p fr t (.bool false)) S log K) (h2 : A = r -> VTops P ow rs (a6K (b5p fr t (.bool (!false))) d (.tup [])) S (.acc [] none :: log) K) (e : Fr.get fr t = .bool b := by exact rfl) : VTops P ow (⟨d, some (t, false), c⟩ :: rs) fr S log K :=
 a6k e rfl rfl (fun hb => h1 (by rw [b7u hb] at h; exact h)) (fun hb => h2 (by rw [b7t hb] at h; exact h))
theorem oQ {d d2 r rs} {K : Fr -> List Ob -> List LE -> Prop} {v} (v') (h : VTops P ow rs ((d2, v') :: (d, v') :: fr) S (.acc [] none :: .acc [] none :: log) K) (e : opV (ow.contains d) r (Fr.get fr) S = some (v, [], none) := by exact rfl) (e2 : v = v' := by exact rfl) : VTops P ow (⟨some d, none, .op r⟩ :: ⟨some d2, none, .op (.mv (.t d))⟩ :: rs) fr S log K := a2r e e2 (c1c (by simp [ev, get_cons]) h)
end
abbrev iZ (n : Int) : AV := .int .i64 n
abbrev sV {α : Type} (k : Nat) (f : α -> AV) (l : List α) : AV := .sl false k (List.map f l)
abbrev pC (x : AV) (k : Nat) : AV := .cptr x.cells k
theorem wF {S0 S : List Ob} {fr fr' : Fr} (h : leF none fr fr' := by repeat (first | exact trivial | refine ⟨.refl _, ?_⟩)) : Wk S0 fr S fr' S := a6P h
theorem aQ {p q : Prop} (h : q) (e : q -> p := by intro h; (repeat (first | refine a2J ?_ | refine v7 ?_ | refine m7 ?_ | refine j1 ?_)); exact h) : p := e h
theorem aE {p q : Prop} (h : q) (e : q -> p := by intro h; (repeat (first | refine a7S ?_ | refine b8X ?_ | refine c1s rfl ?_ | refine f8 ?_ | refine m0 ?_ | refine z8 ?_)); exact h) : p := e h
end Go.Ab

/- Lists as objects and as frozen values: the steps. -/
namespace Go.Ab
open Go.RowKit

def flat {α : Type} (f : α -> AV) (l : List α) : List AV := l.flatMap fun x => (f x).cells

structure Enc {α : Type} (f : α -> AV) (esh : Option Nat) : Prop where
 sz : ∀ x, (f x).cells.length = f5 esh
 one : ∀ x, (f x).cells.all AV.one = true
 form : ∀ x, match esh with | none => (f x).cells = [f x] | some _ => f x = .agg (f x).cells
 blw : ∀ x n, (f x).blw n = true

section
variable {α : Type} {f : α -> AV} {esh : Option Nat}
theorem n7 (l m : List α) : flat f (l ++ m) = flat f l ++ flat f m := by simp [flat]
theorem a0s (x : α) (l : List α) : flat f (x :: l) = (f x).cells ++ flat f l := rfl
theorem a7X : flat f [] = [] := rfl
theorem a6m (l : List α) : (l.map f).flatMap AV.cells = flat f l := by simp [flat, List.flatMap_map]
theorem Enc.length (he : Enc f esh) : ∀ l : List α, (flat f l).length = l.length * f5 esh
 | [] => by simp [flat]
 | x :: l => by rw [a0s, List.length_append, he.sz, he.length l, List.length_cons, Nat.add_mul]; omega
theorem Enc.all (he : Enc f esh) : ∀ l : List α, (flat f l).all AV.one = true
 | [] => rfl
 | x :: l => by rw [a0s, List.all_append, he.one, he.all l]; rfl
theorem Enc.blwf (he : Enc f esh) (n : Nat) : ∀ l : List α, a1T n (flat f l) = true
 | [] => rfl
 | x :: l => by
   rw [a0s]
   have : ∀ a b : List AV, a1T n a = true -> a1T n b = true -> a1T n (a ++ b) = true := fun a b h1 h2 => by
    rw [a3Q] at *; intro x hx; rcases List.mem_append.1 hx with h | h; exact h1 _ h; exact h2 _ h
   exact this _ _ (a1X (he.blw x n)) (he.blwf n l)
theorem Enc.blwm (he : Enc f esh) (n : Nat) (l : List α) : a1T n (l.map f) = true := b5k (fun a => he.blw a n) l
theorem Enc.drop (he : Enc f esh) : ∀ (l : List α) (i : Nat), (flat f l).drop (i * f5 esh) = flat f (l.drop i)
 | l, 0 => by simp
 | [], i + 1 => by simp [flat]
 | x :: l, i + 1 => by
   rw [a0s, Nat.add_mul, Nat.one_mul, Nat.add_comm, <- List.drop_drop, List.drop_left' (he.sz x), he.drop l i]; rfl
theorem Enc.take (he : Enc f esh) : ∀ (l : List α) (i : Nat), (flat f l).take (i * f5 esh) = flat f (l.take i)
 | l, 0 => by simp [flat]
 | [], i + 1 => by simp [flat]
 | x :: l, i + 1 => by
   rw [a0s, Nat.add_mul, Nat.one_mul, Nat.add_comm (i * f5 esh), List.take_succ_cons, a0s, <- he.take l i]
   rw [<- he.sz x, List.take_append, List.take_of_length_le zO]
   congr 2; omega
theorem Enc.elems (he : Enc f esh) (l : List α) : t6 esh l.length (flat f l) = l.map f := by
 have hf := he.form
 have hs := he.sz
 cases esh with
 | none =>
   have : flat f l = l.map f := by
    induction l with
    | nil => rfl
    | cons x l ih => rw [a0s, hf x, ih]; rfl
   rw [this]; exact List.take_of_length_le zS
 | some n =>
   show a3c n l.length (flat f l) = _
   clear he
   induction l with
   | nil => rfl
   | cons x l ih =>
     have hx : (f x).cells.length = n := hs x
     simp only [List.length_cons, a3c, a0s]
     rw [List.take_left' hx, List.drop_left' hx, ih, <- hf x]; rfl
theorem Enc.repl (he : Enc f esh) (x : α) (n : Nat) : repl n (f x).cells = flat f (List.replicate n x) := by
 unfold Ab.repl flat
 induction n with
 | zero => rfl
 | succ n ih => rw [List.replicate_succ, List.replicate_succ, List.flatten_cons, ih]; rfl
theorem Enc.at (he : Enc f esh) {l : List α} {n : Nat} {y : α} (hy : l[n]? = some y) : ∃ a b, flat f l = a ++ (f y).cells ++ b /\ a.length = n * f5 esh /\ l = l.take n ++ y :: l.drop (n + 1) := by
 obtain ⟨hn, rfl⟩ := List.getElem?_eq_some_iff.1 hy
 have h1 : l = l.take n ++ l[n] :: l.drop (n + 1) := by rw [<- List.drop_eq_getElem_cons hn, List.take_append_drop]
 refine ⟨flat f (l.take n), flat f (l.drop (n + 1)), ?_, ?_, h1⟩
 ·conv => lhs; rw [h1]
  rw [n7, a0s, List.append_assoc]
 ·rw [he.length, List.length_take, Nat.min_eq_left zO]

theorem a7Y {a c b : List AV} {sh : Option Nat} {fo : Nat} {v : AV} (h : a0G sh c fo = some v) : a0G sh (a ++ c ++ b) (a.length + fo) = some v := by
 unfold a0G at *
 cases sh with
 | none =>
   simp only at h ⊢
   split at h
   ·rename_i hlt
    cases h
    rw [if_pos zE]
    congr 1
    simp only [List.getD_eq_getElem?_getD]
    rw [List.append_assoc, List.getElem?_append_right zO, List.getElem?_append_left zO]
    congr 3; omega
   ·cases h
 | some n =>
   simp only at h ⊢
   split at h
   ·rename_i hlt
    cases h
    rw [if_pos zE]
    congr 2
    rw [List.append_assoc, <- List.drop_drop, List.drop_left, List.drop_append_of_le_length zO, List.take_append_of_le_length zE]
   ·cases h

theorem a4G : ∀ (xs : List AV) {a c b : List AV} {fo : Nat}, fo + xs.length <= c.length -> splice (a ++ c ++ b) (a.length + fo) xs = a ++ splice c fo xs ++ b := by
 intro xs
 induction xs with
 | nil => intro a c b fo _; simp [splice]
 | cons x xs ih =>
   intro a c b fo h
   simp only [splice]
   simp only [List.length_cons] at h
   rw [show (a ++ c ++ b).set (a.length + fo) x = a ++ c.set fo x ++ b by
    rw [List.append_assoc, List.set_append_right _ _ zO, List.set_append_left _ _ zO, <- List.append_assoc]
    congr 3; omega]
   rw [show a.length + fo + 1 = a.length + (fo + 1) by omega]
   exact ih zE
end

def awL : List AV -> List AV -> Prop
 | [], [] => True
 | x :: xs, y :: ys => AVw x y /\ awL xs ys
 | _, _ => False
theorem a2e : ∀ {xs ys : List AV}, awL xs ys -> xs.length = ys.length
 | [], [], _ => rfl
 | _ :: xs, _ :: ys, h => congrArg (· + 1) (a2e h.2)
theorem a3D : ∀ {xs ys : List AV}, awL xs ys -> ∀ j (h1 : j < xs.length) (h2 : j < ys.length), AVw xs[j] ys[j]
 | [], _, _, j, h1, _ => by simp at h1
 | x :: xs, y :: ys, h, 0, _, _ => h.1
 | x :: xs, y :: ys, h, j + 1, h1, h2 => a3D h.2 j (by simpa using h1) (by simpa using h2)
theorem AVw.aggL {xs ys : List AV} (h : awL xs ys) : AVw (.agg xs) (.agg ys) := .agg (a2e h) (a3D h)
theorem AVw.tupL {xs ys : List AV} (h : awL xs ys) : AVw (.tup xs) (.tup ys) := .tup (a2e h) (a3D h)
theorem AVw.cptrL {xs ys : List AV} {off} (h : awL xs ys) : AVw (.cptr xs off) (.cptr ys off) := .cptr (a2e h) (a3D h)
theorem AVw.ex {sz} {xs : List AV} : AVw (.sl true sz xs) (.sl false sz xs) := .sl (by intro e; cases e) rfl (fun _ _ _ => rfl) (fun _ _ _ _ _ _ => .refl _)

section
variable {P : Program} {S0 : List Ob} {ow : List Nat} {fr : Fr} {S : List Ob} {log : List LE} {α : Type} {f : α -> AV} {esh : Option Nat}

theorem l8 {d x i rs} {K : Fr -> List Ob -> List LE -> Prop} {ex k n} {ys : List α} {y : α} (e : ev (Fr.get fr) x = .sl ex (f5 esh) (ys.map f)) (e1 : ev (Fr.get fr) i = .int k n) (hy : j7 ys n = some y)
  (h : VTops P ow rs ((d, .cptr (f y).cells 0) :: fr) S (.acc [] none :: log) K) : VTops P ow (⟨some d, none, .op (.iad none esh x i)⟩ :: rs) fr S log K := by
 obtain ⟨h1, h2, h3⟩ := d9 hy
 refine c1t e e1 rfl rfl ⟨h1, h2⟩ (fun y' hy' => ?_)
 rw [h3] at hy'; cases hy'
 exact h
theorem a1w {d x i rs} {K : Fr -> List Ob -> List LE -> Prop} {o ver off m k n} (e : ev (Fr.get fr) x = .ref o ver off m esh) (e1 : ev (Fr.get fr) i = .int k n) (hn : 0 <= n /\ n < m)
  (h : VTops P ow rs ((d, .ptr o ver (off + n.toNat * f5 esh)) :: fr) S (.acc [] none :: log) K) : VTops P ow (⟨some d, none, .op (.iad none esh x i)⟩ :: rs) fr S log K := by
 refine a2r (v := .ptr o ver (off + n.toNat * f5 esh)) ?_ rfl h
 simp only [opV, e, e1, b8P]
 rw [if_pos ⟨trivial, hn.1, hn.2⟩]; rfl
theorem a7Z {d a sh rs} {K : Fr -> List Ob -> List LE -> Prop} {o ver p n fo} {l : List α} {y : α} {v v' : AV} (he : Enc f esh) (e : ev (Fr.get fr) a = .ptr o ver p) (ho : hp S o = .arr ver (flat f l)) (hp : p = n * f5 esh + fo) (hy : l[n]? = some y)
  (hv : a0G sh (f y).cells fo = some v) (hw : AVw v v') (h : VTops P ow rs ((d, v') :: fr) S (.acc [o] none :: log) K) : VTops P ow (⟨some d, none, .op (.load sh a)⟩ :: rs) fr S log K := by
 obtain ⟨a', b, h1, h2, _⟩ := he.at hy
 refine u0 (v := v) (rd := [o]) (δ := none) ?_ hw rfl h
 simp only [opV, e, a9J]
 rw [show y9 S o ver = some (flat f l) by simp [y9, ho]]
 simp only [Option.bind_some]
 rw [hp, <- h2, h1, a7Y hv]; rfl
theorem a9O {a x nn rs} {K : Fr -> List Ob -> List LE -> Prop} {o ver p n fo} {l : List α} {y y' : α} {S' : List Ob} {xv : AV} (he : Enc f esh) (e : ev (Fr.get fr) a = .ptr o ver p) (ex : ev (Fr.get fr) x = xv) (ho : hp S o = .arr ver (flat f l)) (hp : p = n * f5 esh + fo) (hy : l[n]? = some y)
  (hx : xv.cells.length = nn) (h1 : xv.cells.all AV.one = true) (hfit : fo + nn <= f5 esh) (hy' : (f y').cells = splice (f y).cells fo xv.cells) (hS : a0M S o (.arr ver (flat f (l.set n y'))) = S')
  (h : VTops P ow rs fr S' (.acc [o] (some o) :: log) K) : VTops P ow (⟨none, none, .op (.store nn a x)⟩ :: rs) fr S log K := by
 obtain ⟨a', b, q1, q2, q3⟩ := he.at hy
 have hn : n < l.length := (List.getElem?_eq_some_iff.1 hy).1
 refine a5d (v := .tup []) (rd := []) (δ := some (o, .arr ver (flat f (l.set n y')))) ?_ hS h
 simp only [opV, e, ex, a8M]
 rw [show y9 S o ver = some (flat f l) by simp [y9, ho]]
 simp only [Option.bind_some]
 have hl := he.length l
 have hle : n * f5 esh + f5 esh <= l.length * f5 esh := by rw [<- Nat.succ_mul]; exact Nat.mul_le_mul_right _ hn
 rw [if_pos ⟨hx, by omega, h1⟩]
 have e3 : splice (flat f l) p xv.cells = flat f (l.set n y') := by
  have hsz := he.sz y
  have : flat f (l.set n y') = a' ++ (f y').cells ++ b := by
   obtain ⟨a2, b2, r1, r2, _⟩ := he.at (l := l.set n y') (n := n) (y := y') (by simp [hn])
   have e4 : a2 = a' := by
    have t1 : (flat f (l.set n y')).take (n * f5 esh) = a2 := by rw [r1, List.append_assoc, List.take_left' r2]
    have t2 : (flat f l).take (n * f5 esh) = a' := by rw [q1, List.append_assoc, List.take_left' q2]
    rw [<- t1, <- t2, he.take, he.take]
    congr 1
    exact List.take_set_of_le zO
   have e5 : b2 = b := by
    have t1 : (flat f (l.set n y')).drop ((n + 1) * f5 esh) = b2 := by rw [r1, List.drop_left' (by rw [List.length_append, r2, he.sz, Nat.add_mul]; omega)]
    have t2 : (flat f l).drop ((n + 1) * f5 esh) = b := by rw [q1, List.drop_left' (by rw [List.length_append, q2, he.sz, Nat.add_mul]; omega)]
    rw [<- t1, <- t2, he.drop, he.drop]
    congr 1
    exact List.drop_set_of_lt zO
   rw [r1, e4, e5]
  rw [this, hy', hp, <- q2, q1]
  exact a4G _ zO
 rw [e3]
theorem b9e {d bytes s x rs} {K : Fr -> List Ob -> List LE -> Prop} {o ver : Nat} {l m : List α} {rdx : List Nat} {S' : List Ob} (he : Enc f esh) (e : ev (Fr.get fr) s = .ref o ver 0 l.length esh) (e2 : a6L esh (ev (Fr.get fr) x) S = some (m.length, flat f m, rdx))
  (ho : hp S o = .arr ver (flat f l)) (hb : (l.length + m.length) * bytes <= 140737488355328 /\ l.length + m.length <= 140737488355328) (hS : a0M S o (.arr (ver + 1) (flat f (l ++ m))) = S')
  (h : VTops P ow rs ((d, .ref o (ver + 1) 0 (l ++ m).length esh) :: fr) S' (.acc (o :: o :: rdx) (some o) :: log) K) : VTops P ow (⟨some d, none, .op (.app esh bytes s x)⟩ :: rs) fr S log K := by
 refine t8 (v := .ref o (ver + 1) 0 (l ++ m).length esh) (rd := o :: rdx) (δ := some (o, .arr (ver + 1) (flat f (l ++ m)))) ?_ rfl hS h
 simp only [opV, b1Q, e, e2, Option.bind_some, he.all, if_true]
 rw [if_pos ⟨trivial, hb.1, hb.2⟩]
 have e3 : (flat f l).take (l.length * f5 esh) = flat f l := List.take_of_length_le (by rw [he.length]; exact Nat.le_refl _)
 simp only [y9, ho, if_true, Option.map_some, List.drop_zero, e3, <- n7, List.length_append]
theorem s4 {ex} (m : List α) : a6L esh (.sl ex (f5 esh) (m.map f)) S = some (m.length, flat f m, []) := by
 simp only [a6L, if_true, List.length_map, a6m]
theorem b9f {d bytes s x rs} {K : Fr -> List Ob -> List LE -> Prop} {m : List α} {rdx : List Nat} {S' : List Ob} (he : Enc f esh) (how : ow.contains d = true) (e : ev (Fr.get fr) s = .nils \/ ev (Fr.get fr) s = .sl true (f5 esh) []) (e2 : a6L esh (ev (Fr.get fr) x) S = some (m.length, flat f m, rdx))
  (hb : m.length * bytes <= 140737488355328 /\ m.length <= 140737488355328) (hS : a0M S S.length (.arr 0 (flat f m)) = S')
  (h : VTops P ow rs ((d, .ref S.length 0 0 m.length esh) :: fr) S' (.acc (S.length :: rdx) (some S.length) :: log) K) : VTops P ow (⟨some d, none, .op (.app esh bytes s x)⟩ :: rs) fr S log K := by
 refine t8 (v := .ref S.length 0 0 m.length esh) (rd := rdx) (δ := some (S.length, .arr 0 (flat f m))) ?_ rfl hS h
 have how' : d ∈ ow := by simpa using how
 by_cases hm : m = []
 ·subst hm
  rcases e with e | e <;> simp [opV, b1Q, e, e2, a7X, how']
 ·have hm0 : m.length ≠ 0 := fun h => hm (List.eq_nil_of_length_eq_zero h)
  have hl := he.length m
  have hl2 : m.length * f5 esh <= (flat f m).length := by omega
  rcases e with e | e <;> simp only [opV, b1Q, e, e2, Option.bind_some, he.all, if_true, if_neg hm0] <;> rw [if_pos (by simpa using hb)] <;> simp [a3Z, a6g, he.all, how', hl, a6m]
theorem b9g {d bytes s x rs} {K : Fr -> List Ob -> List LE -> Prop} {l m : List α} {rdx : List Nat} (he : Enc f esh) (how : ow.contains d = false) (e : (ev (Fr.get fr) s = .nils /\ l = []) \/ ev (Fr.get fr) s = .sl true (f5 esh) (l.map f)) (e2 : a6L esh (ev (Fr.get fr) x) S = some (m.length, flat f m, rdx))
  (hb : (l.length + m.length) * bytes <= 140737488355328 /\ l.length + m.length <= 140737488355328)
  (h : VTops P ow rs ((d, .sl false (f5 esh) ((l ++ m).map f)) :: fr) S (.acc rdx none :: log) K) : VTops P ow (⟨some d, none, .op (.app esh bytes s x)⟩ :: rs) fr S log K := by
 have how' : d ∉ ow := by simpa using how
 by_cases hm : m = []
 ·subst hm
  rcases e with ⟨e, rfl⟩ | e
  ·refine u0 (v := .nils) (rd := rdx) (δ := none) ?_ (by simpa using AVw.nil) rfl h
   simp [opV, b1Q, e, e2, a7X, how']
  ·refine u0 (v := .sl true (f5 esh) (l.map f)) (rd := rdx) (δ := none) ?_ (by simpa using AVw.ex) rfl h
   simp [opV, b1Q, e, e2, a7X, how']
 ·have hm0 : m.length ≠ 0 := fun h => hm (List.eq_nil_of_length_eq_zero h)
  refine t8 (v := .sl false (f5 esh) ((l ++ m).map f)) (rd := rdx) (δ := none) ?_ rfl rfl h
  have hl := he.length (l ++ m)
  have hel := he.elems (l ++ m)
  have hal := he.all (l ++ m)
  rw [List.length_append] at hl hel
  rcases e with ⟨e, rfl⟩ | e
  ·simp only [List.nil_append, List.length_nil, Nat.zero_add] at *
   simp only [opV, b1Q, e, e2, Option.bind_some, he.all, if_true, if_neg hm0]
   rw [if_pos hb]
   simp [a3Z, a6g, he.all, how', hl, hel]
  ·simp only [opV, b1Q, e, e2, Option.bind_some, he.all, if_true, if_neg hm0, List.length_map]
   rw [if_pos ⟨trivial, trivial, hb.1, hb.2⟩]
   simp only [a6m, <- n7, a3Z, a6g, how]
   rw [if_pos ⟨by omega, hal⟩]
   simp only [Bool.false_eq_true, if_false, Option.map_some, hel]
theorem b2U {d x lo hi rs} {K : Fr -> List Ob -> List LE -> Prop} {ex} {l : List α} {a b : Nat} (e : ev (Fr.get fr) x = .sl ex (f5 esh) (l.map f)) (h1 : loN (evO (Fr.get fr) lo) = some a) (h2 : hiN l.length (evO (Fr.get fr) hi) = some b) (hab : a <= b /\ b <= l.length)
  (h : VTops P ow rs ((d, .sl false (f5 esh) (((l.take b).drop a).map f)) :: fr) S (.acc [] none :: log) K) : VTops P ow (⟨some d, none, .op (.slc esh x lo hi none)⟩ :: rs) fr S log K := by
 refine a2r (v := .sl false (f5 esh) (((l.take b).drop a).map f)) ?_ rfl h
 simp only [opV, e, b8x, h1, List.length_map, h2]
 rw [if_pos ⟨trivial, hab.1, hab.2⟩]
 rw [List.map_drop, List.map_take]; rfl
theorem a2f {d x lo hi rs} {K : Fr -> List Ob -> List LE -> Prop} {o ver off n a b : Nat} (e : ev (Fr.get fr) x = .ref o ver off n esh) (h1 : loN (evO (Fr.get fr) lo) = some a) (h2 : hiN n (evO (Fr.get fr) hi) = some b) (hab : a <= b /\ b <= n /\ (a = 0 \/ a < b))
  (h : VTops P ow rs ((d, .ref o ver (off + a * f5 esh) (b - a) esh) :: fr) S (.acc [] none :: log) K) : VTops P ow (⟨some d, none, .op (.slc esh x lo hi none)⟩ :: rs) fr S log K := by
 refine a2r (v := .ref o ver (off + a * f5 esh) (b - a) esh) ?_ rfl h
 simp only [opV, e, b8x, h1, h2]
 rw [if_pos ⟨trivial, hab.1, hab.2.1, hab.2.2⟩]; rfl
theorem b9h {d} {bytes : Nat} {z l c rs} {K : Fr -> List Ob -> List LE -> Prop} {k k' n n'} {S' : List Ob} {x : α} (he : Enc f esh) (how : ow.contains d = true) (e : ev (Fr.get fr) l = .int k n) (e1 : ev (Fr.get fr) c = .int k' n') (hz : (f x).cells = z) (hn : 0 <= n /\ n <= n' /\ n' * bytes <= 281474976710656 /\ n' <= 281474976710656)
  (hS : a0M S S.length (.arr 0 (flat f (List.replicate n.toNat x))) = S')
  (h : VTops P ow rs ((d, .ref S.length 0 0 n.toNat esh) :: fr) S' (.acc [S.length] (some S.length) :: log) K) : VTops P ow (⟨some d, none, .op (.mksl esh bytes z l c)⟩ :: rs) fr S log K := by
 refine t8 (v := .ref S.length 0 0 n.toNat esh) (rd := []) (δ := some (S.length, .arr 0 (flat f (List.replicate n.toNat x)))) ?_ rfl hS h
 simp only [opV, b7d, e, e1]
 rw [if_pos hn]
 subst hz
 have how' : d ∈ ow := by simpa using how
 simp [a3Z, he.repl, he.all, he.length, how']
theorem b9i {d x rs} {K : Fr -> List Ob -> List LE -> Prop} {o ver off n e0} (e : ev (Fr.get fr) x = .ref o ver off n e0)
  (h : VTops P ow rs ((d, .int .i64 n) :: fr) S (.acc [] none :: log) K) : VTops P ow (⟨some d, none, .op (.len .sl x)⟩ :: rs) fr S log K := by
 refine a2r (v := .int .i64 n) ?_ rfl h
 simp [opV, e, c0X, pv]
end
end Go.Ab

namespace Go.Ab
open Go.RowKit
def avI (k : IntKind) (x : Int) : AV := .int k x
def avB (x : Bool) : AV := .bool x
def avS (x : ByteArray) : AV := .str x
def avL {α : Type} (sz : Nat) (f : α -> AV) (l : List α) : AV := .sl false sz (l.map f)
def avP {α : Type} (f : α -> AV) : Option α -> AV
 | none => .nilp
 | some x => .cptr (f x).cells 0
theorem f7 (k : IntKind) : Enc (avI k) none := ⟨fun _ => rfl, fun _ => rfl, fun _ => rfl, fun _ _ => rfl⟩
theorem a1n : Enc avB none := ⟨fun _ => rfl, fun _ => rfl, fun _ => rfl, fun _ _ => rfl⟩
theorem a1o : Enc avS none := ⟨fun _ => rfl, fun _ => rfl, fun _ => rfl, fun _ _ => rfl⟩
theorem x3 {α : Type} {f : α -> AV} {esh : Option Nat} (he : Enc f esh) (sz : Nat) : Enc (avL sz f) none := ⟨fun _ => rfl, fun _ => rfl, fun _ => rfl, fun x n => he.blwm n x⟩
theorem encP {α : Type} {f : α -> AV} {esh : Option Nat} (he : Enc f esh) : Enc (avP f) none :=
 ⟨fun x => by cases x <;> rfl, fun x => by cases x <;> rfl, fun x => by cases x <;> rfl, fun x n => by cases x with | none => rfl | some x => exact a1X (he.blw x n)⟩

def b4G (a b : ByteArray) : Option ByteArray := if a.size + b.size <= 9223372036854775807 then some (a ++ b) else none
def b4H (s : ByteArray) (lo hi : Int) : Option ByteArray := if 0 <= lo /\ lo <= hi /\ hi <= s.size then some (s.extract lo.toNat hi.toNat) else none
def a5x {α : Type} (l : List α) (lo hi : Int) : Option (List α) := if 0 <= lo /\ lo <= hi /\ hi <= l.length then some ((l.take hi.toNat).drop lo.toNat) else none
def a1d {α : Type} (bytes : Nat) (l m : List α) : Option (List α) := if (l.length + m.length) * bytes <= 140737488355328 /\ l.length + m.length <= 140737488355328 then some (l ++ m) else none
def mkL {α : Type} (bytes : Nat) (n n' : Int) (x : α) : Option (List α) := if 0 <= n /\ n <= n' /\ n' * bytes <= 281474976710656 /\ n' <= 281474976710656 then some (List.replicate n.toNat x) else none
theorem b2V {a b v} (h : b4G a b = some v) : a.size + b.size <= 9223372036854775807 /\ v = a ++ b := by
 unfold b4G at h; split at h
 ·cases h; exact ⟨by assumption, rfl⟩
 ·cases h
theorem b2W {s lo hi v} (h : b4H s lo hi = some v) : (0 <= lo /\ lo <= hi /\ hi <= s.size) /\ v = s.extract lo.toNat hi.toNat := by
 unfold b4H at h; split at h
 ·cases h; exact ⟨by assumption, rfl⟩
 ·cases h
theorem a4H {α : Type} {l : List α} {lo hi v} (h : a5x l lo hi = some v) : (0 <= lo /\ lo <= hi /\ hi <= l.length) /\ v = (l.take hi.toNat).drop lo.toNat := by
 unfold a5x at h; split at h
 ·cases h; exact ⟨by assumption, rfl⟩
 ·cases h
theorem b2X {α : Type} {bytes} {l m v : List α} (h : a1d bytes l m = some v) : ((l.length + m.length) * bytes <= 140737488355328 /\ l.length + m.length <= 140737488355328) /\ v = l ++ m := by
 unfold a1d at h; split at h
 ·cases h; exact ⟨by assumption, rfl⟩
 ·cases h
theorem b0O {α : Type} {bytes n n'} {x : α} {v} (h : mkL bytes n n' x = some v) : (0 <= n /\ n <= n' /\ n' * bytes <= 281474976710656 /\ n' <= 281474976710656) /\ v = List.replicate n.toNat x := by
 unfold mkL at h; split at h
 ·cases h; exact ⟨by assumption, rfl⟩
 ·cases h
theorem a0t {α : Type} {l : List α} {i : Nat} {y : α} (h : l[i]? = some y) : j7 l (i : Int) = some y := by
 unfold j7; rw [if_pos zO]; simpa using h
theorem a6n {k n} (h : 0 <= n) : loN (some (.int k n)) = some n.toNat := by simp [loN, h]
theorem z0 {k n len} (h : 0 <= n) : hiN len (some (.int k n)) = some n.toNat := by simp [hiN, h]

section
variable {P : Program} {S0 : List Ob} {ow : List Nat} {fr : Fr} {S : List Ob} {log : List LE} {α : Type} {f : α -> AV} {esh : Option Nat}
theorem b7x {d x y t rs} {K : Fr -> List Ob -> List LE -> Prop} {a b v} (e : ev (Fr.get fr) x = .str a) (e1 : ev (Fr.get fr) y = .str b) (hv : b4G a b = some v)
  (h : VTops P ow rs ((d, .str v) :: fr) S (.acc [] none :: log) K) : VTops P ow (⟨some d, none, .op (.bin t .add x y)⟩ :: rs) fr S log K := by
 obtain ⟨h1, rfl⟩ := b2V hv
 refine a2r (v := .str (a ++ b)) ?_ rfl h
 simp only [opV, e, e1, b4F]
 rw [if_neg (fun h => h.2 h1)]; rfl
theorem b7y {d x lo hi rs} {K : Fr -> List Ob -> List LE -> Prop} {s a b v} (e : ev (Fr.get fr) x = .str s) (h1 : 0 <= a -> loN (evO (Fr.get fr) lo) = some a.toNat) (h2 : 0 <= b -> hiN s.size (evO (Fr.get fr) hi) = some b.toNat) (hv : b4H s a b = some v)
  (h : VTops P ow rs ((d, .str v) :: fr) S (.acc [] none :: log) K) : VTops P ow (⟨some d, none, .op (.sls x lo hi)⟩ :: rs) fr S log K := by
 obtain ⟨h3, rfl⟩ := b2W hv
 refine a2r (v := .str (s.extract a.toNat b.toNat)) ?_ rfl h
 simp only [opV, e, c1q, h1 h3.1, h2 zO]
 rw [if_pos zO]; rfl
theorem a6o {d x lo hi rs} {K : Fr -> List Ob -> List LE -> Prop} {ex} {l v : List α} {a b : Int} (e : ev (Fr.get fr) x = .sl ex (f5 esh) (l.map f)) (h1 : 0 <= a -> loN (evO (Fr.get fr) lo) = some a.toNat) (h2 : 0 <= b -> hiN l.length (evO (Fr.get fr) hi) = some b.toNat) (hv : a5x l a b = some v)
  (h : VTops P ow rs ((d, .sl false (f5 esh) (v.map f)) :: fr) S (.acc [] none :: log) K) : VTops P ow (⟨some d, none, .op (.slc esh x lo hi none)⟩ :: rs) fr S log K := by
 obtain ⟨h3, rfl⟩ := a4H hv
 exact b2U e (h1 h3.1) (h2 zO) zO h
def awF (fr : Fr) : Fr -> Prop
 | [] => True
 | (t, v) :: r => AVw (Fr.get fr t) v /\ awF fr r
theorem b2Y {fr : Fr} : ∀ {fr' : Fr}, awF fr fr' -> ∀ t, AVw (Fr.get fr t) (Fr.get fr' t)
 | [], _, t => .junk _
 | (t', v) :: r, h, t => by
   rw [get_cons]
   split
   ·rename_i e; subst e; exact h.1
   ·exact b2Y h.2 t
theorem c1A {fr' : Fr} (h : awF fr fr') : Wk S0 fr S fr' S := GWk.refl.wk (b2Y h)
end

section
variable {M : b1R} {S S' : List Ob}
theorem l0 {o ver off o' ver' off' k cs cs'} (h1 : a4D M o' = some (o, k)) (h2 : hp S o = .arr ver cs) (h3 : hp S' o' = .arr ver' cs') (e : off = k + off') : RnV (wkR M S S') (.ptr o ver off) (.ptr o' ver' off') := .ptr ⟨k, cs, cs', h1, h2, h3, e⟩
theorem b9j {o ver off n e o' ver' off' k cs cs'} (h1 : a4D M o' = some (o, k)) (h2 : hp S o = .arr ver cs) (h3 : hp S' o' = .arr ver' cs') (e1 : off = k + off') (h4 : off' + n * f5 e <= cs'.length) : RnV (wkR M S S') (.ref o ver off n e) (.ref o' ver' off' n e) := .ref ⟨k, cs, cs', h1, h2, h3, e1, h4⟩
theorem d6 {α : Type} {f : α -> AV} {e : Option Nat} (he : Enc f e) {o ver o' ver'} {l : List α} (h1 : a4D M o' = some (o, 0)) (h2 : hp S o = .arr ver (flat f l)) (h3 : hp S' o' = .arr ver' (flat f l)) : RnV (wkR M S S') (.ref o ver 0 l.length e) (.ref o' ver' 0 l.length e) :=
 .ref ⟨0, _, _, h1, h2, h3, rfl, by rw [he.length]; omega⟩
theorem a4a {o' ver' e cs'} (h3 : hp S' o' = .arr ver' cs') : RnV (wkR M S S') .nils (.ref o' ver' 0 0 e) := .nil ⟨cs', h3⟩
theorem v4 {R : Rn} {x : AV} (h : x.blw 0 = true) : RnV R x x := .base h (.refl _)
theorem f4 {S0 : List Ob} {o' o k v' cs' v cs} (h1 : a4D M o' = some (o, k)) (h2 : hp S o = .arr v cs) (h3 : RnL (wkR M S S') k cs cs') (h4 : Nat.ble S0.length o' = true) : b1S M S0 S S' o' (.arr v' cs') := by
 have h4 := Nat.le_of_ble_eq_true h4
 show match a4D M o' with | some (o, k) => _ | none => _
 rw [h1]
 exact ⟨v, cs, h2, h3, fun h => by omega⟩
theorem a4I {S0 : List Ob} {o' v cs' cs} (h1 : a4D M o' = some (o', 0)) (h2 : hp S o' = .arr v cs) (h3 : RnL (wkR M S S') 0 cs cs') (h4 : cs'.length = cs.length) : b1S M S0 S S' o' (.arr v cs') := by
 show match a4D M o' with | some (o, k) => _ | none => _
 rw [h1]
 exact ⟨v, cs, h2, h3, fun _ => .inl ⟨rfl, .inr ⟨rfl, rfl, h4⟩⟩⟩
theorem a3a {S0 : List Ob} {o' o k v' cs' v cs v0 c0} (h1 : a4D M o' = some (o, k)) (h2 : hp S o = .arr v cs) (h3 : RnL (wkR M S S') k cs cs') (h0 : hp S0 o' = .arr v0 c0) (hv : Nat.blt v0 v' = true) : b1S M S0 S S' o' (.arr v' cs') := by
 show match a4D M o' with | some (o, k) => _ | none => _
 rw [h1]
 exact ⟨v, cs, h2, h3, fun _ => .inr ⟨v0, c0, h0, by simpa [Nat.blt_eq] using hv⟩⟩
theorem a4b {S0 : List Ob} {o' v' cs'} (h1 : a4D M o' = none) (h : cs' = []) (h4 : Nat.ble S0.length o' = true) : b1S M S0 S S' o' (.arr v' cs') := by
 have h4 := Nat.le_of_ble_eq_true h4
 show match a4D M o' with | some (o, k) => _ | none => _
 rw [h1]
 exact ⟨h, h4⟩
end

section
variable {k0 k : Nat} {S : List Ob}
theorem a0p {x y : AV} (hb : x.blw k0 = true) (h : AVw x y) : AVw (frz k0 S k x) y := by rw [b6u hb]; exact h
def fzL (k0 k : Nat) (S : List Ob) : List AV -> List AV -> Prop
 | [], [] => True
 | x :: xs, y :: ys => AVw (frz k0 S k x) y /\ fzL k0 k S xs ys
 | _, _ => False
theorem a8T : ∀ {xs ys : List AV}, fzL k0 k S xs ys -> awL (xs.map (frz k0 S k)) ys
 | [], [], _ => trivial
 | _ :: _, _ :: _, h => ⟨h.1, a8T h.2⟩
theorem i7 {xs ys : List AV} (h : fzL k0 k S xs ys) : AVw (frz k0 S (k + 1) (.tup xs)) (.tup ys) := by
 have h1 := a8T h
 simp only [frz]
 split
 ·rename_i hb
  have hb' : a1T k0 xs = true := hb
  rw [a7T hb'] at h1
  exact .tupL h1
 ·exact .tupL h1
theorem b2Z {xs ys : List AV} (h : fzL k0 k S xs ys) : AVw (frz k0 S (k + 1) (.agg xs)) (.agg ys) := by
 have h1 := a8T h
 simp only [frz]
 split
 ·rename_i hb
  have hb' : a1T k0 xs = true := hb
  rw [a7T hb'] at h1
  exact .aggL h1
 ·exact .aggL h1
theorem b9k {o ver off} {xs ys : List AV} (h0 : k0 <= o) (ho : hp S o = .arr ver xs) (h : fzL k0 k S xs ys) : AVw (frz k0 S (k + 1) (.ptr o ver off)) (.cptr ys off) := by
 have h1 := a8T h
 have hb : (AV.ptr o ver off).blw k0 = false := by simp [AV.blw]; omega
 simp only [frz, hb, ho, if_true, Bool.false_eq_true, if_false]
 exact .cptrL h1
theorem a1a {α : Type} {f : α -> AV} {esh : Option Nat} (he : Enc f esh) {o ver} {l : List α} (h0 : k0 <= o) (ho : hp S o = .arr ver (flat f l)) : AVw (frz k0 S (k + 1) (.ref o ver 0 l.length esh)) (.sl false (f5 esh) (l.map f)) := by
 have hb : (AV.ref o ver 0 l.length esh).blw k0 = false := by simp [AV.blw]; omega
 have hm : (flat f l).map (frz k0 S k) = flat f l := a7T (he.blwf k0 l)
 simp only [frz, hb, ho, Bool.false_eq_true, if_false, hm, List.drop_zero]
 rw [if_pos ⟨trivial, by rw [he.length]; omega, he.all l⟩, he.elems]
 exact .refl _
end
end Go.Ab

namespace Go.Ab
open Go.RowKit
def oc {σ β : Type} (f : σ -> Option β) : Out σ (Option β) -> Option β
 | .fin s => f s
 | .ret v => v
section
variable {P : Program} {S0 : List Ob} {ow : List Nat} {fr : Fr} {S : List Ob} {σ β : Type} {nx bk : Nat -> Bool} {F : σ -> Fr} {T : σ -> List Ob} {Fx : σ -> Fr} {Tx : σ -> List Ob} {f : σ -> Option β} {r : β} {K : Post}
theorem a0e {v : Option β} {c : Stp σ (Option β)} (e : c = .ret v) (h : v = some r -> K .ret fr S) : a5F S0 nx bk F T Fx Tx (oc f) r K c .ret fr S := c4V e h
theorem a3U {a : FC} {id : Nat} {body : σ -> Option (Stp σ (Option β))} {n : Nat} {s0 : σ} (F : σ -> Fr) (T : σ -> List Ob) (h : (whileN body n s0).bind (oc f) = some r)
  (hw : Wk S0 fr S (F s0) (T s0))
  (hb : ∀ s c, body s = some c -> VT P S0 ow a (F s) (T s) (a5F S0 (fun _ => false) (fun j => j == id) F T F T (oc f) r K c))
  (hx : ∀ s fr' S', f s = some r -> Wk S0 fr' S' (F s) (T s) -> K .normal fr' S') : VT P S0 ow (.block id (.loop a)) fr S K := b7v body F T h hw hb hx
theorem a4c {tc ti tn tj id id2 : Nat} {B : FC} {body : Nat -> σ -> Option (Stp σ (Option β))} {n : Int} {s0 : σ} (F : σ -> Fr) (T : σ -> List Ob) (h : (rni body n s0).bind (oc f) = some r)
  (h1 : ti ≠ tn) (h2 : tj ≠ tn) (hF : ∀ s, Fr.get (F s) tj = .junk /\ Fr.get (F s) ti = .junk /\ Fr.get (F s) tn = .junk /\ Fr.get (F s) tc = .junk)
  (hw : Wk S0 fr S ((ti, .int .i64 0) :: (tn, .int .i64 n) :: F s0) (T s0))
  (hb : ∀ (i : Nat) s c, (i : Int) < n -> body i s = some c -> VT P S0 ow B ((tc, .bool true) :: (ti, .int .i64 i) :: (tn, .int .i64 n) :: F s) (T s)
   (a5F S0 (fun j => j == id2) (fun j => j == id) (fun s => (ti, .int .i64 i) :: (tn, .int .i64 n) :: F s) T F T (oc f) r K c))
  (hx : ∀ s fr' S', f s = some r -> Wk S0 fr' S' (F s) (T s) -> K .normal fr' S') :
  VT P S0 ow (.block id (.loop (.seq (.reg [⟨some tc, none, .op (.bin .none .lss (.t ti) (.t tn))⟩] []) (.seq (.cond (.t tc) .skip (.exit id)) (.seq (.block id2 B) (.reg [⟨some tj, none, .op (.bin .none .add (.t ti) (.v (.int .i64 1)))⟩, ⟨some ti, none, .op (.mv (.t tj))⟩] [])))))) fr S K := b9d body F T h h1 h2 hF hw hb hx
theorem a1x {α : Type} {tc ti tn tj id id2 : Nat} {B : FC} {body : Nat -> α -> σ -> Option (Stp σ (Option β))} {xs : List α} {s0 : σ} (F : σ -> Fr) (T : σ -> List Ob) (h : (rng body xs s0).bind (oc f) = some r)
  (h1 : ti ≠ tn) (h2 : tj ≠ tn) (hF : ∀ s, Fr.get (F s) tj = .junk /\ Fr.get (F s) ti = .junk /\ Fr.get (F s) tn = .junk /\ Fr.get (F s) tc = .junk)
  (hw : Wk S0 fr S ((ti, .int .i64 0) :: (tn, .int .i64 xs.length) :: F s0) (T s0))
  (hb : ∀ (i : Nat) x s c, xs[i]? = some x -> i < xs.length -> body i x s = some c -> VT P S0 ow B ((tc, .bool true) :: (ti, .int .i64 i) :: (tn, .int .i64 xs.length) :: F s) (T s)
   (a5F S0 (fun j => j == id2) (fun j => j == id) (fun s => (ti, .int .i64 i) :: (tn, .int .i64 xs.length) :: F s) T F T (oc f) r K c))
  (hx : ∀ s fr' S', f s = some r -> Wk S0 fr' S' (F s) (T s) -> K .normal fr' S') :
  VT P S0 ow (.block id (.loop (.seq (.reg [⟨some tc, none, .op (.bin .none .lss (.t ti) (.t tn))⟩] []) (.seq (.cond (.t tc) .skip (.exit id)) (.seq (.block id2 B) (.reg [⟨some tj, none, .op (.bin .none .add (.t ti) (.v (.int .i64 1)))⟩, ⟨some ti, none, .op (.mv (.t tj))⟩] [])))))) fr S K := c1z body F T h h1 h2 hF hw hb hx
theorem a5f {b} {K K0 : Post} {fr' : Fr} {S' : List Ob} {F' : Fr} {T' : List Ob} (hw : Wk S0 fr' S' F' T') (h : VT P S0 ow b F' T' K) : Post.thn (fun fr' S' => ∃ F T, Wk S0 fr' S' F T /\ VT P S0 ow b F T K) K0 .normal fr' S' := a4F hw h
theorem c4W {k' : σ -> Option β} {K0 : Post} {fr' : Fr} {S' : List Ob} {F' : Fr} {T' : List Ob} (s : σ) (h : k' s = some r) (hw : Wk S0 fr' S' F' T') (hw2 : Wk S0 F' T' (F s) (T s)) : Post.thn (fun fr' S' => ∃ s, k' s = some r /\ Wk S0 fr' S' (F s) (T s)) K0 .normal fr' S' := ⟨s, h, a2S hw hw2⟩
theorem b9l {k : Out σ (Option β) -> Option β} {c : Stp σ (Option β)} {fr' : Fr} {S' : List Ob} {F' : Fr} {T' : List Ob} {s : σ} (e : c = .nxt s) (hw : Wk S0 fr' S' F' T') (hw2 : Wk S0 F' T' (F s) (T s)) : a5F S0 nx bk F T Fx Tx k r K c .normal fr' S' := a2Z e (a2S hw hw2)
end
theorem aM {P : Program} {ow : List Nat} {fr : Fr} {S : List Ob} {log : List LE} {d x rs} {K : Fr → List Ob → List LE → Prop} {v'} (h : VTops P ow rs ((d, v') :: fr) S (.acc [] none :: log) K) (e2 : ev (Fr.get fr) x = v' := by conv => lhs; whnf) : VTops P ow (⟨some d, none, .op (.mv x)⟩ :: rs) fr S log K := c1c e2 h
theorem oM {P : Program} {ow : List Nat} {fr : Fr} {S : List Ob} {log : List LE} {d x rs} {K : Fr → List Ob → List LE → Prop} (v') (h : VTops P ow rs ((d, v') :: fr) S (.acc [] none :: log) K) (e2 : ev (Fr.get fr) x = v' := by exact rfl) : VTops P ow (⟨some d, none, .op (.mv x)⟩ :: rs) fr S log K := c1c e2 h
theorem aO {P : Program} {ow : List Nat} {fr : Fr} {S : List Ob} {log : List LE} {d r rs} {K : Fr → List Ob → List LE → Prop} {v v'} (h : VTops P ow rs ((d, v') :: fr) S (.acc [] none :: log) K) (e : opV (ow.contains d) r (Fr.get fr) S = some (v, [], none) := by exact rfl) (e2 : v = v' := by conv => lhs; whnf) : VTops P ow (⟨some d, none, .op r⟩ :: rs) fr S log K := a2r e e2 h
theorem oP {P : Program} {ow : List Nat} {fr : Fr} {S : List Ob} {log : List LE} {d r rs} {K : Fr → List Ob → List LE → Prop} {v} (v') (h : VTops P ow rs ((d, v') :: fr) S (.acc [] none :: log) K) (e : opV (ow.contains d) r (Fr.get fr) S = some (v, [], none) := by exact rfl) (e2 : v = v' := by exact rfl) : VTops P ow (⟨some d, none, .op r⟩ :: rs) fr S log K := a2r e e2 h
theorem aR {P : Program} {ow : List Nat} {fr : Fr} {S : List Ob} {log : List LE} {d x rs} {K : Fr → List Ob → List LE → Prop} {o ver off e0} {n : Nat} (h : VTops P ow rs ((d, .int .i64 n) :: fr) S (.acc [] none :: log) K) (e : ev (Fr.get fr) x = .ref o ver off n e0 := by exact rfl) : VTops P ow (⟨some d, none, .op (.len .sl x)⟩ :: rs) fr S log K := b9i e h
theorem aL {P : Program} {ow : List Nat} {fr : Fr} {S : List Ob} {log : List LE} {d x rs} {K : Fr → List Ob → List LE → Prop} {ex sz} {α : Type} {f : α → AV} {ys : List α} (h : VTops P ow rs ((d, .int .i64 ys.length) :: fr) S (.acc [] none :: log) K) (e : ev (Fr.get fr) x = .sl ex sz (ys.map f) := by exact rfl) : VTops P ow (⟨some d, none, .op (.len .sl x)⟩ :: rs) fr S log K := b5m e h
theorem oH {P : Program} {ow : List Nat} {fr : Fr} {S : List Ob} {log : List LE} {d t want c rs} {K : Fr → List Ob → List LE → Prop} (h : VTops P ow (⟨d, none, c⟩ :: rs) fr S log K) (e : Fr.get fr t = .bool want := by exact rfl) : VTops P ow (⟨d, some (t, want), c⟩ :: rs) fr S log K := c4P e h
theorem oN {P : Program} {ow : List Nat} {fr : Fr} {S : List Ob} {log : List LE} {d t want c rs} {K : Fr → List Ob → List LE → Prop} (h : VTops P ow rs (a6K fr d (.tup [])) S (.acc [] none :: log) K) (e : Fr.get fr t = .bool (!want) := by exact rfl) : VTops P ow (⟨d, some (t, want), c⟩ :: rs) fr S log K := c4Q e h
theorem oZ {P : Program} {ow : List Nat} {fr : Fr} {S : List Ob} {log : List LE} {d t want c rs} {K : Fr → List Ob → List LE → Prop} (h : VTops P ow rs (a6K fr d (.tup [])) S (.acc [] none :: log) K) (e : Fr.get fr t = .tup [] := by exact rfl) : VTops P ow (⟨d, some (t, want), c⟩ :: rs) fr S log K := c4R e h
theorem nB {a b : Nat} (h : Nat.ble a b = true := by exact rfl) : a ≤ b := Nat.le_of_ble_eq_true h
theorem wW {S0 : List Ob} {fr fr' : Fr} {S : List Ob} (h : awF fr fr' := by repeat (first | exact trivial | refine ⟨.refl _, ?_⟩)) : Wk S0 fr S fr' S := c1A h
theorem gR {k0 k : Nat} {S : List Ob} {x : AV} (h : x.blw k0 = true := by exact rfl) : AVw (frz k0 S k x) x := a0p h (.refl _)
theorem nL {R} {cs : List AV} : RnL R 0 cs [] := .nil (Nat.zero_le _)
theorem cB {R} {x : AV} {xs ys : List AV} (h : x.blw 0 = true) (k : RnL R 0 xs ys) : RnL R 0 (x :: xs) (x :: ys) := .cons (v4 h) k
theorem aU {p q : Prop} (h : q) (e : q → p := by intro h; (repeat (first|refine aM ?_|refine aR ?_|refine aL ?_|refine aO ?_|refine j8 ?_|refine y4 ?_|refine a2J ?_|refine v7 ?_|refine m7 ?_|refine j1 ?_|refine oH ?_|refine oN ?_|refine oZ ?_)); exact h) : p := e h
theorem aS {p q : Prop} (h : q) (e : q → p := by intro h; (repeat (first|refine aM ?_|refine aR ?_|refine aL ?_|refine aO ?_)); exact h) : p := e h
end Go.Ab

/- The steps as the printed proofs use them. -/
namespace Go.Ab
open Go.RowKit

def c1B (n : Nat) : List AV -> Prop
 | [] => True
 | x :: r => x.blw n = true /\ c1B n r
theorem g8 {n : Nat} : ∀ {xs : List AV}, c1B n xs -> a1T n xs = true
 | [], _ => rfl
 | x :: r, h => by simp only [a1T, h.1, g8 h.2, Bool.and_self]
theorem Enc.blws {α : Type} {f : α -> AV} {esh : Option Nat} (he : Enc f esh) (n : Nat) {ex sz} {l : List α} : (AV.sl ex sz (l.map f)).blw n = true := he.blwm n l
theorem a6p {x : AV} {n off : Nat} (h : x.blw n = true) : (AV.cptr x.cells off).blw n = true := a1X h
theorem a2s {n : Nat} {xs : List AV} (h : c1B n xs) : (AV.tup xs).blw n = true := g8 h
def a8U (k : IntKind) (x y : Int) : Int := k.wrap (BitVec.ofInt k.bits x &&& BitVec.ofInt k.bits y).toNat
def b3a (k : IntKind) (x y : Int) : Int := k.wrap (BitVec.ofInt k.bits x ||| BitVec.ofInt k.bits y).toNat
def a4d (k : IntKind) (x y : Int) : Int := k.wrap (BitVec.ofInt k.bits x ^^^ BitVec.ofInt k.bits y).toNat
def shL (k : IntKind) (x y : Int) : Int := k.wrap (x * 2 ^ (min y.toNat k.bits))
def shR (k : IntKind) (x y : Int) : Int := x.fdiv (2 ^ (min y.toNat k.bits))

def rnC (R : Rn) : List AV -> List AV -> Prop
 | [], [] => True
 | x :: xs, y :: ys => RnV R x y /\ rnC R xs ys
 | _, _ => False
theorem a9P {R : Rn} : ∀ {xs ys : List AV}, rnC R xs ys -> xs.length = ys.length
 | [], [], _ => rfl
 | _ :: xs, _ :: ys, h => congrArg (· + 1) (a9P h.2)
theorem a9Q {R : Rn} : ∀ {xs ys : List AV}, rnC R xs ys -> ∀ j (h1 : j < xs.length) (h2 : j < ys.length), RnV R xs[j] ys[j]
 | [], _, _, j, h1, _ => by simp at h1
 | x :: xs, y :: ys, h, 0, _, _ => h.1
 | x :: xs, y :: ys, h, j + 1, h1, h2 => a9Q h.2 j (by simpa using h1) (by simpa using h2)
theorem a4J {R : Rn} {xs ys : List AV} (h : rnC R xs ys) : RnV R (.tup xs) (.tup ys) := .tup (a9P h) (a9Q h)
theorem b6x {R : Rn} {xs ys : List AV} (h : rnC R xs ys) : RnV R (.agg xs) (.agg ys) := .agg (a9P h) (a9Q h)

section
variable {P : Program} {S0 : List Ob} {ow : List Nat} {fr : Fr} {S : List Ob} {log : List LE} {α : Type} {f : α -> AV} {esh : Option Nat}
theorem b5q {d t x y rs} {K : Fr -> List Ob -> List LE -> Prop} {k a b} (e : ev (Fr.get fr) x = .int k a) (e1 : ev (Fr.get fr) y = .int k b) (hb : b ≠ 0)
  (h : VTops P ow rs ((d, .int k (k.wrap (a.tdiv b))) :: fr) S (.acc [] none :: log) K) : VTops P ow (⟨some d, none, .op (.bin t .quo x y)⟩ :: rs) fr S log K := by
 refine a2r (v := .int k (k.wrap (a.tdiv b))) ?_ rfl h
 simp [opV, e, e1, b4F, a3q, hb, pv]
theorem c1C {d t x y rs} {K : Fr -> List Ob -> List LE -> Prop} {k a b} (e : ev (Fr.get fr) x = .int k a) (e1 : ev (Fr.get fr) y = .int k b) (hb : b ≠ 0)
  (h : VTops P ow rs ((d, .int k (a.tmod b)) :: fr) S (.acc [] none :: log) K) : VTops P ow (⟨some d, none, .op (.bin t .rem x y)⟩ :: rs) fr S log K := by
 refine a2r (v := .int k (a.tmod b)) ?_ rfl h
 simp [opV, e, e1, b4F, a3q, hb, pv]
theorem b9m {d t x y rs} {K : Fr -> List Ob -> List LE -> Prop} {k k' a b} (e : ev (Fr.get fr) x = .int k a) (e1 : ev (Fr.get fr) y = .int k' b) (hb : 0 <= b)
  (h : VTops P ow rs ((d, .int k (shL k a b)) :: fr) S (.acc [] none :: log) K) : VTops P ow (⟨some d, none, .op (.bin t .shl x y)⟩ :: rs) fr S log K := by
 refine a2r (v := .int k (shL k a b)) ?_ rfl h
 simp only [opV, e, e1, b4F, a9z]
 rw [if_neg zO]; rfl
theorem b5r {d t x y rs} {K : Fr -> List Ob -> List LE -> Prop} {k k' a b} (e : ev (Fr.get fr) x = .int k a) (e1 : ev (Fr.get fr) y = .int k' b) (hb : 0 <= b)
  (h : VTops P ow rs ((d, .int k (shR k a b)) :: fr) S (.acc [] none :: log) K) : VTops P ow (⟨some d, none, .op (.bin t .shr x y)⟩ :: rs) fr S log K := by
 refine a2r (v := .int k (shR k a b)) ?_ rfl h
 simp only [opV, e, e1, b4F, a9z]
 rw [if_neg zO]; rfl
theorem b7z {d} {bytes : Nat} {z l c rs} {K : Fr -> List Ob -> List LE -> Prop} {k k' n n'} {S' : List Ob} {x : α} {v : List α} (he : Enc f esh) (how : ow.contains d = true) (e : ev (Fr.get fr) l = .int k n) (e1 : ev (Fr.get fr) c = .int k' n') (hz : (f x).cells = z) (hv : mkL bytes n n' x = some v)
  (hS : a0M S S.length (.arr 0 (flat f v)) = S')
  (h : VTops P ow rs ((d, .ref S.length 0 0 v.length esh) :: fr) S' (.acc [S.length] (some S.length) :: log) K) : VTops P ow (⟨some d, none, .op (.mksl esh bytes z l c)⟩ :: rs) fr S log K := by
 obtain ⟨h1, rfl⟩ := b0O hv
 rw [List.length_replicate] at h
 exact b9h he how e e1 hz h1 hS h
theorem a0U {d bytes s x rs} {K : Fr -> List Ob -> List LE -> Prop} {o ver : Nat} {l m v : List α} {rdx : List Nat} {S' : List Ob} (he : Enc f esh) (e : ev (Fr.get fr) s = .ref o ver 0 l.length esh) (e2 : a6L esh (ev (Fr.get fr) x) S = some (m.length, flat f m, rdx))
  (ho : hp S o = .arr ver (flat f l)) (hv : a1d bytes l m = some v) (hS : a0M S o (.arr (ver + 1) (flat f v)) = S')
  (h : VTops P ow rs ((d, .ref o (ver + 1) 0 v.length esh) :: fr) S' (.acc (o :: o :: rdx) (some o) :: log) K) : VTops P ow (⟨some d, none, .op (.app esh bytes s x)⟩ :: rs) fr S log K := by
 obtain ⟨h1, rfl⟩ := b2X hv
 exact b9e he e e2 ho h1 hS h
theorem b9n {d x hi rs} {K : Fr -> List Ob -> List LE -> Prop} {o ver k} {l v : List α} {b : Int} (e : ev (Fr.get fr) x = .ref o ver 0 l.length esh) (e1 : ev (Fr.get fr) hi = .int k b) (hv : a5x l 0 b = some v)
  (h : VTops P ow rs ((d, .ref o ver (0 + 0 * f5 esh) b.toNat esh) :: fr) S (.acc [] none :: log) K) : VTops P ow (⟨some d, none, .op (.slc esh x none (some hi) none)⟩ :: rs) fr S log K := by
 obtain ⟨h1, _⟩ := a4H hv
 exact a2f (a := 0) (b := b.toNat) e rfl (by rw [b5i, e1]; exact z0 zO) zO h
theorem j9 {d f args rs} {K : Fr -> List Ob -> List LE -> Prop} {as as' v} (c : PureEv P f as v) (e : evL (Fr.get fr) args = as') (hw : awL as' as) (h1 : a1T 0 as' = true) (h2 : v.blw 0 = true) (h : VTops P ow rs ((d, v) :: fr) S (.acc [] none :: log) K) :
  VTops P ow (⟨some d, none, .call f args⟩ :: rs) fr S log K :=
 a2c (c.weaka (a2e hw) (a3D hw)) e h1 h2 h
end

section
variable {M : b1R} {m : Nat} {S S' : List Ob} {α : Type} {f : α -> AV} {e : Option Nat}
theorem b3b (he : Enc f e) {o ver o' ver' a b} {l v : List α} {off n : Nat} (h1 : a4D M o' = some (o, off)) (h2 : hp S o = .arr ver (flat f l)) (h3 : hp S' o' = .arr ver' (flat f v)) (hv : a5x l a b = some v) (hoff : off = a.toNat * f5 e) (hn : n = b.toNat - a.toNat) :
  RnV (wkR M S S') (.ref o ver off n e) (.ref o' ver' 0 v.length e) := by
 obtain ⟨h4, rfl⟩ := a4H hv
 have : n = ((l.take b.toNat).drop a.toNat).length := by simp; omega
 rw [<- this]
 exact .ref ⟨off, _, _, h1, h2, h3, rfl, by rw [he.length, <- this]; omega⟩
theorem b0P (he : Enc f e) {R : Rn} {a b} {l v : List α} {off : Nat} (hv : a5x l a b = some v) (hoff : off = a.toNat * f5 e) : RnL R off (flat f l) (flat f v) := by
 obtain ⟨h4, rfl⟩ := a4H hv
 have hlen : a.toNat * f5 e + (flat f ((l.take b.toNat).drop a.toNat)).length <= (flat f l).length := by
  rw [he.length, he.length, <- Nat.add_mul]
  refine Nat.mul_le_mul_right _ ?_
  simp; omega
 subst hoff
 refine RnL.mid (he.blwf 0 l) hlen ?_
 rw [he.length, he.drop, he.take]
 congr 1
 rw [List.drop_take]
 simp
end
theorem rB {R : Rn} {x : AV} (h : x.blw 0 = true := by exact rfl) : RnV R x x := v4 h
theorem eBi {l : List Int} {n : Nat} {ex sz} : (AV.sl ex sz (List.map (avI .i64) l)).blw n = true := (f7 .i64).blws n
end Go.Ab

/- Objects of the caller: the terms of the frame rule; freezing between two statements. -/
namespace Go.Ab
open Go.RowKit

section
variable {M : List Nat} {T T' S S' : List Ob} {α : Type} {f : α -> AV} {e : Option Nat}
theorem a8V {o v O V off n CS cs} (h1 : Nat.blt o T.length = true) (h2 : M.getD o 0 = O) (h3 : hp S O = .arr V CS) (h4 : hp T o = .arr v cs) : RnV (frI M T S) (.ref O V off n e) (.ref o v off n e) :=
 .ref ⟨by simpa [Nat.blt_eq] using h1, h2, ⟨_, h3⟩, ⟨_, h4⟩, rfl⟩
theorem a7k {o v O V off n CS cs} (h1 : Nat.blt o T'.length = true) (h2 : frN M T S o = O) (h3 : hp T' o = .arr v cs) (h4 : hp S' O = .arr V CS) : RnV (frO M T T' S S') (.ref o v off n e) (.ref O V off n e) :=
 .ref ⟨by simpa [Nat.blt_eq] using h1, h2, ⟨_, h3⟩, ⟨_, h4⟩, rfl⟩
theorem b3c {o v cs V CS} (h : hp S (M.getD o 0) = .arr V CS) (hl : CS.length = cs.length) (hr : RnL (frI M T S) 0 CS cs) : c1x M T S o (.arr v cs) := ⟨v, cs, V, CS, rfl, h, hl, hr⟩
theorem b3d {o v' cs' V' CS' V CS} (h : hp S' (frN M T S o) = .arr V' CS') (hl : CS'.length = cs'.length) (hr : RnL (frO M T T' S S') 0 cs' CS') (hs : hp S (M.getD o 0) = .arr V CS) (hv : Nat.blt V V' = true) : b1A M T T' S S' o (.arr v' cs') :=
 ⟨V', CS', h, hl, hr, fun _ v cs V2 CS2 _ h2 => by rw [hs] at h2; cases h2; exact .inr (by simpa [Nat.blt_eq] using hv)⟩
theorem a9R {o v' cs' V' CS'} (h : hp S' (frN M T S o) = .arr V' CS') (hl : CS'.length = cs'.length) (hr : RnL (frO M T T' S S') 0 cs' CS') (hn : Nat.ble T.length o = true) : b1A M T T' S S' o (.arr v' cs') :=
 ⟨V', CS', h, hl, hr, fun ho => by have := Nat.le_of_ble_eq_true hn; omega⟩
end

theorem b3e {M : List Nat} {T T' S S' : List Ob} {o v' V' V CS} (h : hp S' (frN M T S o) = .dead V') (hs : hp S (M.getD o 0) = .arr V CS) (hv : Nat.ble V V' = true) : b1A M T T' S S' o (.dead v') :=
 ⟨V', h, fun _ V2 CS2 h2 => by rw [hs] at h2; cases h2; exact Nat.le_of_ble_eq_true hv⟩
theorem a2E {M : b1R} {S0 S S' : List Ob} {o' v v' cs} (h : hp S o' = .arr v cs) (hv : Nat.ble v v' = true) : b1S M S0 S S' o' (.dead v') := fun _ => ⟨v, Nat.le_of_ble_eq_true hv, .inl ⟨cs, h⟩⟩
theorem a9S {M : b1R} {S0 S S' : List Ob} {o' v v'} (h : hp S o' = .dead v) (hv : Nat.ble v v' = true) : b1S M S0 S S' o' (.dead v') := fun _ => ⟨v, Nat.le_of_ble_eq_true hv, .inr h⟩

def c1f (M : List Nat) : Nat -> List Ob -> List Ob -> Prop
 | _, [], _ => True
 | i, x :: xs, y :: ys => (M.contains i = true \/ y = x) /\ c1f M (i + 1) xs ys
 | _, _ :: _, [] => False
theorem b0Q {M : List Nat} : ∀ {S S' : List Ob} {i : Nat}, c1f M i S S' -> ∀ j, j < S.length -> M.contains (i + j) = true \/ hp S' j = hp S j
 | [], _, _, _, j, h => by simp at h
 | x :: xs, [], _, h, _, _ => h.elim
 | x :: xs, y :: ys, i, h, 0, _ => h.1
 | x :: xs, y :: ys, i, h, j + 1, hj => by
   have := b0Q h.2 j (by simpa using hj)
   rw [show i + 1 + j = i + (j + 1) by omega] at this
   exact this
theorem b9o {M : List Nat} {S S' : List Ob} (h : c1f M 0 S S') : ∀ i, i < S.length -> i ∉ M -> hp S' i = hp S i := fun i hi hm => by
 rcases b0Q h i hi with e | e
 ·rw [Nat.zero_add] at e; exact (hm (by simpa using e)).elim
 ·exact e

section
variable {P : Program} {S0 : List Ob} {ow : List Nat} {fr : Fr} {S : List Ob} {log : List LE}
theorem a5g {d f args rs} {K : Fr -> List Ob -> List LE -> Prop} {T T' S' : List Ob} {as as' : List AV} {r r' : AV} (c : Ev P f as (hp T) r (hp T')) (M : List Nat) (e : evL (Fr.get fr) args = as') (hM : M.length = T.length) (inj : M.Nodup) (hT : Nat.ble T.length T'.length = true) (hS : S'.length = S.length + (T'.length - T.length))
  (hin : a8R (c1x M T S) 0 T) (hout : a8R (b1A M T T' S S') 0 T') (hoth : c1f M 0 S S') (hal : as'.length = as.length) (ha : RnL (frI M T S) 0 as' as) (hr : RnV (frO M T T' S S') r r')
  (h : VTops P ow rs ((d, r') :: fr) S' (.eff S S' :: log) K) : VTops P ow (⟨some d, none, .call f args⟩ :: rs) fr S log K :=
 b2K (c.frame M hM inj (Nat.le_of_ble_eq_true hT) hS hin hout (b9o hoth) hal ha hr) e h
end

def wOb : Ob -> Ob -> Prop
 | .arr v cs, .arr v' cs' => v = v' /\ awL cs cs'
 | .dead v, .dead v' => v = v'
 | .virgin, .virgin => True
 | _, _ => False
def c1g : List Ob -> List Ob -> Prop
 | [], [] => True
 | x :: xs, y :: ys => wOb x y /\ c1g xs ys
 | _, _ => False
theorem a8a : ∀ {S S' : List Ob}, c1g S S' -> ∀ o, wOb (hp S o) (hp S' o)
 | [], [], _, o => trivial
 | x :: xs, y :: ys, h, 0 => h.1
 | x :: xs, y :: ys, h, o + 1 => a8a h.2 o
theorem c1D {S0 S S' : List Ob} (h : c1g S S') : GWk S0 S S' AVw := by
 intro g0 g w h1 h2
 have hx : Ext g.pm g.L (hp S) g.pm g.L (hp S') := ⟨fun _ _ _ e => e, fun o => by
  have := a8a h o
  cases e1 : hp S o <;> cases e2 : hp S' o <;> rw [e1, e2] at this <;> simp only [wOb] at this <;> simp only [v6]
  ·omega
  ·exact .inr ⟨this.1, trivial, (a2e this.2).symm⟩⟩
 have hin : ∀ o v cs, hp S' o = .arr v cs -> ∃ cs0, hp S o = .arr v cs0 /\ awL cs0 cs := fun o v cs e => by
  have := a8a h o
  cases e1 : hp S o with
  | virgin => rw [e1, e] at this; exact this.elim
  | dead v => rw [e1, e] at this; exact this.elim
  | arr v0 c0 =>
    rw [e1, e] at this
    obtain ⟨h4, h3⟩ := this
    exact ⟨c0, by rw [h4], h3⟩
 refine ⟨g, h1.trans ⟨hx, rfl, rfl, rfl⟩, ⟨h2.pm, h2.tm, h2.tmf, h2.disj, h2.low, h2.B0, h2.tab, fun o v cs e => ?_, fun o o' v v' c c' e e' hne => ?_⟩, fun x y u r hv => (hv.w r).mono hx⟩
 ·obtain ⟨cs0, e1, e2⟩ := hin _ _ _ e
  have k := h2.ob o v cs0 e1
  have hl := a2e e2
  refine ⟨k.low, by rw [<- hl]; exact k.len, fun j hj => ?_, k.free, k.pm, k.tm⟩
  obtain ⟨u, hu, hr⟩ := k.there j hj
  exact ⟨u, hu, fun hj' => ((hr zO).w (a3D e2 j zO hj')).mono hx⟩
 ·obtain ⟨c1, e1, _⟩ := hin _ _ _ e
  obtain ⟨c2, e2, _⟩ := hin _ _ _ e'
  exact h2.sep o o' _ _ _ _ e1 e2 hne

def c4g (k0 k : Nat) (S : List Ob) : Ob -> Ob -> Prop
 | .arr v cs, .arr v' cs' => v = v' /\ fzL k0 k S cs cs'
 | _, _ => False
def b5s (k0 k : Nat) (S : List Ob) : List Ob -> List Ob -> Prop
 | [], [] => True
 | x :: xs, y :: ys => c4g k0 k S x y /\ b5s k0 k S xs ys
 | _, _ => False
theorem b3f {k0 k : Nat} {S : List Ob} : ∀ {A B : List Ob}, b5s k0 k S A B -> c1g (A.map (a6R k0 S k)) B
 | [], [], _ => trivial
 | x :: xs, y :: ys, h => by
   refine ⟨?_, b3f h.2⟩
   have h1 := h.1
   cases x <;> cases y <;> simp only [c4g] at h1
   exact ⟨h1.1, a8T h1.2⟩
theorem b9p {S0 S S' : List Ob} (k0 k : Nat) (h0 : Nat.ble S0.length k0 = true) (h : b5s k0 k S (S.take k0) S') : GWk S0 S S' (fun x z => ∃ y, y = frz k0 S k x /\ AVw y z) :=
 (a7U k0 k (Nat.le_of_ble_eq_true h0)).trans (c1D (b3f h))
theorem a6q {k0 k : Nat} {S : List Ob} : ∀ {cs : List AV}, a1T k0 cs = true -> fzL k0 k S cs cs
 | [], _ => trivial
 | x :: r, h => by
   simp only [a1T, Bool.and_eq_true] at h
   exact ⟨a0p h.1 (.refl _), a6q h.2⟩
def fzF (k0 k : Nat) (S : List Ob) (fr : Fr) : Fr -> Prop
 | [] => True
 | (t, v) :: r => AVw (frz k0 S k (Fr.get fr t)) v /\ fzF k0 k S fr r
theorem b3g {k0 k : Nat} {S : List Ob} {fr : Fr} : ∀ {fr' : Fr}, fzF k0 k S fr fr' -> ∀ t, AVw (frz k0 S k (Fr.get fr t)) (Fr.get fr' t)
 | [], _, t => .junk _
 | (t', v) :: r, h, t => by
   rw [get_cons]
   split
   ·rename_i e; subst e; exact h.1
   ·exact b3g h.2 t
theorem b7A {S0 S S' : List Ob} {fr fr' : Fr} (k0 k : Nat) (h0 : Nat.ble S0.length k0 = true) (h : b5s k0 k S (S.take k0) S') (hf : fzF k0 k S fr fr') : Wk S0 fr S fr' S' :=
 (b9p k0 k h0 h).wk (fun t => ⟨_, rfl, b3g hf t⟩)

end Go.Ab

/- A slice as an argument, by what it is: nil, empty, or not empty. -/
namespace Go.Ab
open Go Go.RowKit

theorem a6r {P : Program} {f : FuncId} {sz : Nat} {xs : List AV} {r : AV} (h0 : xs = [] -> PureEv P f [.nils] r) (h1 : xs = [] -> PureEv P f [.snn sz] r) (h2 : xs ≠ [] -> PureEv P f [.sl false sz xs] r) : PureEv P f [.sl false sz xs] r := by
 intro g w vals hw hv
 by_cases hx : xs = []
 ·obtain ⟨v, rfl⟩ : ∃ v, vals = #[v] := by
   have := hv.1
   match vals, this with
   | ⟨[v]⟩, _ => exact ⟨v, rfl⟩
  have hr : VR g.pm g.L b1v (.sl false sz xs) v := hv.2 0 zS zS
  cases hr with
  | slnil => exact h0 rfl g w _ hw (b8A .nils)
  | slz => exact h1 rfl g w _ hw (b8A .snnz)
  | sl us hc he hz hp hq => subst hx; exact h1 rfl g w _ hw (b8A .snn)
 ·exact h2 hx g w vals hw hv
theorem c1E {P : Program} {f : FuncId} {sz : Nat} {xs : List AV} {r : AV} {σ σ' : Hp} (h0 : xs = [] -> Ev P f [.nils] σ r σ') (h1 : xs = [] -> Ev P f [.snn sz] σ r σ') (h2 : xs ≠ [] -> Ev P f [.sl false sz xs] σ r σ') : Ev P f [.sl false sz xs] σ r σ' := by
 intro g w vals hw hv
 by_cases hx : xs = []
 ·obtain ⟨v, rfl⟩ : ∃ v, vals = #[v] := by
   have := hv.1
   match vals, this with
   | ⟨[v]⟩, _ => exact ⟨v, rfl⟩
  have hr : VR g.pm g.L σ (.sl false sz xs) v := hv.2 0 zS zS
  cases hr with
  | slnil => exact h0 rfl g w _ hw (b8A .nils)
  | slz => exact h1 rfl g w _ hw (b8A .snnz)
  | sl us hc he hz hp hq => subst hx; exact h1 rfl g w _ hw (b8A .snn)
 ·exact h2 hx g w vals hw hv
section
variable {P : Program} {S0 : List Ob} {ow : List Nat} {fr : Fr} {S : List Ob}
end
end Go.Ab

/- Lists made of zeros that are nil slices; pointers that are known not to be nil. -/
namespace Go.Ab
open Go Go.RowKit

theorem RnL.app {R : Rn} {a a' b b' : List AV} (hl : a'.length = a.length) (h : RnL R 0 a a') (k : RnL R 0 b b') : RnL R 0 (a ++ b) (a' ++ b') := by
 refine ⟨by have := k.1; simp only [List.length_append]; omega, fun j h1 h2 => ?_⟩
 simp only [Nat.zero_add] at h1 ⊢
 by_cases hj : j < a.length
 ·rw [List.getElem_append_left hj, List.getElem_append_left zO]
  have := h.2 j zO zO
  simpa only [Nat.zero_add] using this
 ·rw [List.getElem_append_right zO, List.getElem_append_right zO]
  have h2' : j - a'.length < b'.length := by simp only [List.length_append] at h2; omega
  have h1' : j - a.length < b.length := by simp only [List.length_append] at h1; omega
  have := k.2 (j - a'.length) zO h2'
  simp only [Nat.zero_add] at this
  simp only [hl] at this ⊢
  exact this
theorem RnL.aw {R : Rn} {a a' : List AV} (hb : a1T 0 a = true) (h : awL a a') : RnL R 0 a a' := by
 refine ⟨by rw [a2e h]; omega, fun j h1 h2 => ?_⟩
 simp only [Nat.zero_add] at h1 ⊢
 exact .base (a0A hb j h1) (a3D h j h1 h2)
section
variable {α : Type} {f f0 : α -> AV} {esh : Option Nat}
theorem b7B {R : Rn} (h0 : Enc f0 esh) {bytes : Nat} {n n' : Int} {x : α} {v : List α} (hv : mkL bytes n n' x = some v) (hw : awL (f0 x).cells (f x).cells) : RnL R 0 (flat f0 v) (flat f v) := by
 obtain ⟨_, rfl⟩ := b0O hv
 generalize n.toNat = m
 induction m with
 | zero => exact .nil (Nat.zero_le _)
 | succ m ih =>
   have e1 : flat f0 (List.replicate (m + 1) x) = (f0 x).cells ++ flat f0 (List.replicate m x) := by simp [flat, List.replicate_succ]
   have e2 : flat f (List.replicate (m + 1) x) = (f x).cells ++ flat f (List.replicate m x) := by simp [flat, List.replicate_succ]
   rw [e1, e2]
   exact .app (a2e hw).symm (.aw (a1X (h0.blw x 0)) hw) ih
theorem b7C (he : Enc f esh) {M : b1R} {S S' : List Ob} {o ver o' ver'} {l : List α} {cs} (h1 : a4D M o' = some (o, 0)) (h2 : hp S o = .arr ver cs) (h3 : hp S' o' = .arr ver' (flat f l)) : RnV (wkR M S S') (.ref o ver 0 l.length esh) (.ref o' ver' 0 l.length esh) :=
 b9j h1 h2 h3 rfl (by rw [he.length]; omega)
variable {P : Program} {S0 : List Ob} {ow : List Nat} {fr : Fr} {S : List Ob} {log : List LE}
end
end Go.Ab

