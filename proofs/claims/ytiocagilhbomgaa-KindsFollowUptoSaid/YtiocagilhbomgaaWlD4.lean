/- Weaker values; an object that changes no more becomes a value. -/
import Derived.Test.YtiocagilhbomgaaWlD3
namespace Go.Ab
open Go.RowKit
set_option linter.unusedVariables false
set_option linter.unusedSimpArgs false

inductive AVle (fz : Option (Nat × Nat × List AV)) : AV → AV → Prop
  | refl (x) : AVle fz x x
  | junk (x) : AVle fz x .junk
  | nil {ex sz} : AVle fz .nils (.sl ex sz [])
  | agg {xs ys : List AV} (hl : xs.length = ys.length) (h : ∀ j (h1 : j < xs.length) (h2 : j < ys.length), AVle fz xs[j] ys[j]) : AVle fz (.agg xs) (.agg ys)
  | tup {xs ys : List AV} (hl : xs.length = ys.length) (h : ∀ j (h1 : j < xs.length) (h2 : j < ys.length), AVle fz xs[j] ys[j]) : AVle fz (.tup xs) (.tup ys)
  | sl {ex ex' sz} {xs ys : List AV} (he : ex' = true → ex = true) (hl : xs.length = ys.length) (hz : ∀ i (h1 : i < xs.length) (h2 : i < ys.length), (xs[i]).cells.length = (ys[i]).cells.length)
      (h : ∀ i (h1 : i < xs.length) (h2 : i < ys.length) j (h3 : j < (xs[i]).cells.length) (h4 : j < (ys[i]).cells.length), AVle fz ((xs[i]).cells[j]) ((ys[i]).cells[j])) : AVle fz (.sl ex sz xs) (.sl ex' sz ys)
  | ref {o ver n e cs} (hf : fz = some (o, ver, cs)) (h1 : cs.all AV.one = true) (hb : n * szOf e ≤ cs.length) : AVle fz (.ref o ver 0 n e) (.sl false (szOf e) (elemsOf e n cs))
  | ptr {o ver off cs} (hf : fz = some (o, ver, cs)) : AVle fz (.ptr o ver off) (.cptr cs off)

/-- What the frozen object's cells are, in the world. -/
def FzOK (fz : Option (Nat × Nat × List AV)) (pm pm' : Pm) (L L' : Nat → Loc) (σ σ' : Hp) : Prop :=
  ∀ o ver cs, fz = some (o, ver, cs) → σ o = .arr ver cs ∧ ∃ us : Nat → Value, ∀ j (h : j < cs.length), pm' (L o).b ((L o).off + j) = some (us j) ∧ VR pm' L' σ' (cs[j]) (us j)

theorem VR.le {fz pm pm' L L' σ σ'} (hx : Ext pm L σ pm' L' σ') (hf : FzOK fz pm pm' L L' σ σ') {x y : AV} {u : Value} (h : VR pm L σ x u) (k : AVle fz x y) : VR pm' L' σ' y u := by
  induction k generalizing u with
  | refl x => exact h.mono hx
  | junk x => exact .junk
  | nil => cases h; exact .slnil
  | agg hl _ ih => cases h with | agg a b => exact .agg (by omega) (fun j h1 h2 => ih j (by omega) h1 (b j (by omega) h2))
  | tup hl _ ih => cases h with | tup a b => exact .tup (by omega) (fun j h1 h2 => ih j (by omega) h1 (b j (by omega) h2))
  | sl he hl hz _ ih =>
    rename_i ex ex' sz xs ys _
    cases h with
    | slnil =>
      have : ys = [] := List.eq_nil_of_length_eq_zero (by simpa using hl.symm)
      subst this; exact .slnil
    | slz =>
      have : ys = [] := List.eq_nil_of_length_eq_zero (by simpa using hl.symm)
      subst this; exact .slz
    | sl us hc hex hzz hp hv =>
      rw [hl]
      refine .sl us (by omega) (fun e => by rw [hex (he e), hl]) (fun i hi => by rw [← hz i (by omega) hi]; exact hzz i (by omega)) (fun i j hi hj => hx.pm _ _ _ (hp i j (by omega) hj)) (fun i hi j hj => ?_)
      have h3 : j < (xs[i]).cells.length := by rw [hz i (by omega) hi]; exact hj
      exact ih i (by omega) hi j h3 hj (hv i (by omega) j h3)
  | ref hfz h1 hb =>
    rename_i o ver n e cs
    obtain ⟨hs, us, hus⟩ := hf _ _ _ hfz
    cases h with
    | refnil _ =>
      have : elemsOf e 0 cs = [] := by cases e <;> simp [elemsOf, chunk]
      rw [this]
      exact .slz'
    | ref hn hsp hr =>
      unfold RefOK at hr
      rw [hs] at hr
      obtain ⟨rfl, _, hcap, _⟩ := hr.2 rfl
      simp only [Nat.add_zero]
      exact VR.told hb h1 (fun j hj => (hus j (by omega)).1) (fun j hj _ => (hus j hj).2) hn (by intro e; cases e)
  | ptr hfz =>
    rename_i o ver off cs
    obtain ⟨hs, us, hus⟩ := hf _ _ _ hfz
    cases h with
    | ptr hr =>
      unfold PtrOK at hr
      rw [hs] at hr
      obtain rfl := hr.2 rfl
      exact .cptr us (fun j hj => (hus j hj).1) (fun j hj => (hus j hj).2)

/-- One heap for another. -/
def HpLe (fz : Option (Nat × Nat × List AV)) (σ σ' : Hp) : Prop :=
  ∀ o, (∃ ver cs cs', σ o = .arr ver cs ∧ σ' o = .arr ver cs' ∧ cs'.length = cs.length ∧ (∀ ver' c, fz ≠ some (o, ver', c)) ∧ ∀ j (h : j < cs.length) (h' : j < cs'.length), AVle fz cs[j] cs'[j]) ∨
    (∃ ver cs, σ o = .arr ver cs ∧ σ' o = .dead ver) ∨ (∃ ver, σ o = .dead ver ∧ σ' o = .dead ver) ∨ (σ o = .virgin ∧ σ' o = .virgin)

theorem HpLe.ext {fz σ σ'} (h : HpLe fz σ σ') (L : Nat → Loc) (o : Nat) : ObExt (σ o) (L o) (σ' o) (L o) := by
  rcases h o with ⟨ver, cs, cs', e1, e2, hl, _, _⟩ | ⟨ver, cs, e1, e2⟩ | ⟨ver, e1, e2⟩ | ⟨e1, e2⟩ <;> simp [ObExt, e1, e2]
  exact hl

theorem WRel.weaken {g σ σ'} {w : World} (h : WRel g σ w) {fz} (hh : HpLe fz σ σ') (hf : ∀ o ver cs, fz = some (o, ver, cs) → σ o = .arr ver cs ∧ σ' o = .dead ver) :
    ∃ g', WRel g' σ' w ∧ g.le σ g' σ' ∧ ∀ x y u, VR g.pm g.L σ x u → AVle fz x y → VR g'.pm g'.L σ' y u := by
  have hext : Ext g.pm g.L σ g.pm g.L σ' := ⟨fun _ _ _ e => e, fun o => hh.ext g.L o⟩
  -- the heap without the values' new form
  match fz, hh, hf with
  | none, hh, hf =>
    have hF : FzOK none g.pm g.pm g.L g.L σ σ' := fun o ver cs e => by cases e
    refine ⟨g, ⟨h.pm, h.tm, h.tmf, h.disj, h.low, h.B0, fun o ver cs e => ?_, fun o o' ver ver' cs cs' e e' hne => ?_⟩, ⟨hext, rfl, rfl, rfl⟩, fun x y u hx hy => hx.le hext hF hy⟩
    · rcases hh o with ⟨ver1, cs1, cs1', e1, e2, hl, _, hv⟩ | ⟨ver1, cs1, e1, e2⟩ | ⟨ver1, e1, e2⟩ | ⟨e1, e2⟩ <;> rw [e2] at e <;> cases e
      have k := h.ob o _ _ e1
      refine ⟨k.low, by rw [hl]; exact k.len, fun j hj => ?_, k.free, k.pm, k.tm⟩
      obtain ⟨v, a, b⟩ := k.there j hj
      exact ⟨v, a, fun hj' => (b (by omega)).le hext hF (hv j (by omega) hj')⟩
    · rcases hh o with ⟨ver1, cs1, cs1', e1, e2, _⟩ | ⟨ver1, cs1, e1, e2⟩ | ⟨ver1, e1, e2⟩ | ⟨e1, e2⟩ <;> rw [e2] at e <;> cases e
      rcases hh o' with ⟨ver2, cs2, cs2', e3, e4, _⟩ | ⟨ver2, cs2, e3, e4⟩ | ⟨ver2, e3, e4⟩ | ⟨e3, e4⟩ <;> rw [e4] at e' <;> cases e'
      exact h.sep o o' _ _ _ _ e1 e3 hne
  | some (fo, fv, fcs), hh, hf =>
    obtain ⟨hs, hs'⟩ := hf _ _ _ rfl
    have kf := h.ob fo _ _ hs
    obtain ⟨hw1, hle1⟩ := h.drop hs
    have hcell : ∀ j, j < fcs.length → ∃ v, w.cell? ⟨(g.L fo).b, (g.L fo).off + j, none⟩ = some v ∧ ∀ hj : j < fcs.length, VR g.pm g.L σ (fcs[j]) v := fun j hj => kf.there j (by have := kf.len; omega)
    obtain ⟨hw2, hle2⟩ := hw1.tell (g.L fo).b (g.L fo).off fcs.length (fun j => (w.cell? ⟨(g.L fo).b, (g.L fo).off + j, none⟩).getD undef) (fun j hj => by
        obtain ⟨v, a, _⟩ := hcell j hj; rw [a]; rfl) (fun j hj => kf.tm j (by have := kf.len; omega)) (fun j hj v e => by
        rw [kf.pm j (by have := kf.len; omega)] at e; cases e) (fun o' ver' cs' e j hj j' hj' hb => by
        by_cases eo : o' = fo
        · subst eo; simp [upd] at e
        · rw [upd, if_neg eo] at e
          exact h.sep o' fo _ _ _ _ e hs eo hb.1 j' j hj' (by have := kf.len; omega) hb.2)
    generalize hg2 : ({ g with pm := _ } : Gh) = g2 at hw2 hle2
    have hL : g2.L = g.L := by rw [← hg2]
    have hext2 : Ext g.pm g.L σ g2.pm g2.L σ' := by
      rw [hL]
      exact ⟨fun b o v e => (hle1.trans hle2).ext.pm b o v e, fun o => hh.ext g.L o⟩
    have hF : FzOK (some (fo, fv, fcs)) g.pm g2.pm g.L g2.L σ σ' := by
      intro o ver cs e
      cases e
      refine ⟨hs, fun j => (w.cell? ⟨(g.L fo).b, (g.L fo).off + j, none⟩).getD undef, fun j hj => ⟨?_, ?_⟩⟩
      · rw [← hg2]
        show (if _ then _ else _) = _
        rw [if_pos ⟨rfl, by omega, by omega⟩]
        simp
      · obtain ⟨v, a, b⟩ := hcell j hj
        show VR g2.pm g2.L σ' fcs[j] ((w.cell? ⟨(g.L fo).b, (g.L fo).off + j, none⟩).getD undef)
        rw [a]
        exact (b hj).mono hext2
    have hle : g.le σ g2 σ' := ⟨hext2, by rw [← hg2], by rw [← hg2], by rw [← hg2]⟩
    refine ⟨g2, ⟨hw2.pm, hw2.tm, hw2.tmf, hw2.disj, hw2.low, hw2.B0, fun o ver cs e => ?_, fun o o' ver ver' cs cs' e e' hne => ?_⟩, hle, fun x y u hx hy => hx.le hext2 hF hy⟩
    · rcases hh o with ⟨ver1, cs1, cs1', e1, e2, hl, hnf, hv⟩ | ⟨ver1, cs1, e1, e2⟩ | ⟨ver1, e1, e2⟩ | ⟨e1, e2⟩ <;> rw [e2] at e <;> cases e
      have k := h.ob o _ _ e1
      have hne : o ≠ fo := by rintro rfl; exact hnf _ _ rfl
      have k2 := hw2.ob o _ _ (by rw [upd, if_neg hne]; exact e1)
      have k2p := k2.pm
      rw [hL] at k2p
      refine ⟨by rw [hL, ← hg2]; exact k.low, by rw [hL, hl]; exact k.len, fun j hj => ?_, by rw [hL]; exact k.free, by rw [hL]; exact k2p, by rw [hL, ← hg2]; exact k.tm⟩
      rw [hL] at hj ⊢
      obtain ⟨v, a, b⟩ := k.there j hj
      exact ⟨v, a, fun hj' => by
        have := (b (by omega)).le hext2 hF (hv j (by omega) hj')
        rwa [hL] at this⟩
    · rcases hh o with ⟨ver1, cs1, cs1', e1, e2, _⟩ | ⟨ver1, cs1, e1, e2⟩ | ⟨ver1, e1, e2⟩ | ⟨e1, e2⟩ <;> rw [e2] at e <;> cases e
      rcases hh o' with ⟨ver2, cs2, cs2', e3, e4, _⟩ | ⟨ver2, cs2, e3, e4⟩ | ⟨ver2, e3, e4⟩ | ⟨e3, e4⟩ <;> rw [e4] at e' <;> cases e'
      rw [hL]
      exact h.sep o o' _ _ _ _ e1 e3 hne

/-- One state for another. -/
theorem wk_le {S0 S S' : List Ob} {fr fr' : Fr} (fz : Option (Nat × Nat × List AV)) (hh : HpLe fz (hp S) (hp S')) (hf : ∀ o ver cs, fz = some (o, ver, cs) → hp S o = .arr ver cs ∧ hp S' o = .dead ver)
    (hfr : ∀ t, AVle fz (Fr.get fr t) (Fr.get fr' t)) : Wk S0 fr S fr' S' := by
  intro g0 n a w hat
  obtain ⟨h0, g, h1, h2, h3⟩ := hat
  obtain ⟨g', k1, k2, k3⟩ := h2.weaken hh hf
  exact ⟨h0, g', h1.trans k2, k1, h3.size, fun t => k3 _ _ _ (h3.get t) (hfr t)⟩

/-- A frame's slots, one by one. -/
def leF (fz : Option (Nat × Nat × List AV)) (fr : Fr) : Fr → Prop
  | [] => True
  | (t, v) :: r => AVle fz (Fr.get fr t) v ∧ leF fz fr r

theorem leF_get {fz} {fr : Fr} : ∀ {fr' : Fr}, leF fz fr fr' → ∀ t, AVle fz (Fr.get fr t) (Fr.get fr' t)
  | [], _, t => .junk _
  | (t', v) :: r, h, t => by
    rw [get_cons]
    split
    · rename_i e; subst e; exact h.1
    · exact leF_get h.2 t

theorem HpLe.refl (σ : Hp) : HpLe none σ σ := by
  intro o
  cases e : σ o with
  | virgin => exact .inr (.inr (.inr ⟨rfl, rfl⟩))
  | dead v => exact .inr (.inr (.inl ⟨v, rfl, rfl⟩))
  | arr v cs => exact .inl ⟨v, cs, cs, rfl, rfl, rfl, (fun _ _ => by intro e; cases e), fun j h h' => .refl _⟩

theorem wk_fr {S0 S : List Ob} {fr fr' : Fr} (h : leF none fr fr') : Wk S0 fr S fr' S :=
  wk_le none (HpLe.refl _) (fun o ver cs e => by cases e) (leF_get h)

/-- Arguments may be stronger. -/
theorem Ev.weak {P f args args' S r S'} (h : Ev P f args' (hp S) r S') (hl : args.length = args'.length) (ha : ∀ j (h1 : j < args.length) (h2 : j < args'.length), AVle none args[j] args'[j]) : Ev P f args (hp S) r S' := by
  intro g w vals hw hv
  obtain ⟨g', k1, k2, k3⟩ := hw.weaken (HpLe.refl _) (fun o ver cs e => by cases e)
  refine (h g' w vals k1 ⟨by rw [hv.1, hl], fun j h1 h2 => k3 _ _ _ (hv.2 j (by omega) h2) (ha j (by omega) h1)⟩).mono ?_
  rintro e w' ⟨u, g2, rfl, a, b, c⟩
  exact ⟨u, g2, rfl, k2.trans a, b, c⟩
end Go.Ab

namespace Go.Ab
open Go.RowKit
theorem hp_take (S : List Ob) (k o : Nat) : hp (S.take k) o = if o < k then hp S o else .virgin := by
  simp only [hp, List.getD_eq_getElem?_getD, List.getElem?_take]
  split <;> rfl

/-- Objects from number k on are forgotten. -/
theorem wk_trunc {S0 S S' : List Ob} {fr fr' : Fr} (k : Nat) (hk : S0.length ≤ k) (hS : S' = S.take k) (hob : ∀ o ver cs, o < k → hp S o = .arr ver cs → blwL k cs = true)
    (hfr : ∀ t, Fr.get fr' t = .junk ∨ (Fr.get fr' t = Fr.get fr t ∧ (Fr.get fr t).blw k = true)) : Wk S0 fr S fr' S' := by
  intro g0 n a w hat
  subst hS
  obtain ⟨h0, g, h1, h2, h3⟩ := hat
  have hag : ∀ o, o < k → hp (S.take k) o = hp S o ∧ g.L o = g.L o := fun o ho => ⟨by rw [hp_take, if_pos ho], rfl⟩
  have hin : ∀ o ver cs, hp (S.take k) o = .arr ver cs → o < k ∧ hp S o = .arr ver cs := fun o ver cs e => by
    rw [hp_take] at e
    split at e
    · exact ⟨by assumption, e⟩
    · cases e
  refine ⟨h0, g, ⟨⟨h1.ext.pm, fun o => ?_⟩, h1.tm, h1.B0, h1.w0⟩, ⟨h2.pm, h2.tm, h2.tmf, h2.disj, h2.low, h2.B0, fun o ver cs e => ?_, fun o o' v v' c c' e e' hne => ?_⟩, h3.size, fun t => ?_⟩
  · by_cases ho : o < k
    · rw [(hag o ho).1]; exact h1.ext.ob o
    · have : hp S0 o = .virgin := by simp only [hp, List.getD_eq_getElem?_getD]; rw [List.getElem?_eq_none (by omega)]; rfl
      rw [this]; exact trivial
  · obtain ⟨ho, e⟩ := hin _ _ _ e
    have q := h2.ob o ver cs e
    refine ⟨q.low, q.len, fun j hj => ?_, q.free, q.pm, q.tm⟩
    obtain ⟨v, a, b⟩ := q.there j hj
    exact ⟨v, a, fun hj' => (b hj').agree (blwL_get (hob o ver cs ho e) j hj') hag⟩
  · exact h2.sep o o' _ _ _ _ (hin _ _ _ e).2 (hin _ _ _ e').2 hne
  · rcases hfr t with e | ⟨e, e2⟩
    · rw [e]; exact .junk
    · rw [e]; exact (h3.get t).agree e2 hag

def subB (k : Nat) (fr : Fr) : Fr → Prop
  | [] => True
  | (t, v) :: r => v = Fr.get fr t ∧ v.blw k = true ∧ subB k fr r

theorem subB_get {k} {fr : Fr} : ∀ {fr' : Fr}, subB k fr fr' → ∀ t, Fr.get fr' t = .junk ∨ (Fr.get fr' t = Fr.get fr t ∧ (Fr.get fr t).blw k = true)
  | [], _, t => .inl rfl
  | (t', v) :: r, h, t => by
    rw [get_cons]
    split
    · rename_i e; subst e; exact .inr ⟨h.1, by rw [← h.1]; exact h.2.1⟩
    · exact subB_get h.2.2 t

theorem wk_nil {S : List Ob} {fr fr' : Fr} (h : subB 0 fr fr') : Wk [] fr S fr' [] :=
  wk_trunc 0 (Nat.le_refl _) (by simp) (fun o _ _ h => by omega) (subB_get h)

theorem E_fin {ts : List Nat} {fr : Fr} {v r : AV} (e : retAV ts (Fr.get fr) = v) (h : v = r) : isRet .ret ∧ retAV ts (Fr.get fr) = r := ⟨trivial, by rw [e, h]⟩

theorem blwL_map {α : Type} {n : Nat} {f : α → AV} (h : ∀ a, (f a).blw n = true) (l : List α) : blwL n (l.map f) = true := by
  induction l with
  | nil => rfl
  | cons x r ih => simp [blwL, h x, ih]

theorem wrap_i64 {x : Int} (h : -9223372036854775808 ≤ x ∧ x ≤ 9223372036854775807) : IntKind.i64.wrap x = x := by
  simp [IntKind.wrap, IntKind.bits, IntKind.signed]; omega

/-- Where the elements are all of one form, there is a list of what they are of. -/
theorem exists_map {α : Type} {f : α → AV} {Q : α → Prop} {xs : List AV} (h : ∀ x ∈ xs, ∃ a, x = f a ∧ Q a) : ∃ as : List α, xs = as.map f ∧ ∀ a ∈ as, Q a := by
  induction xs with
  | nil => exact ⟨[], rfl, by simp⟩
  | cons x r ih =>
    obtain ⟨a, rfl, ha⟩ := h x (by simp)
    obtain ⟨as, rfl, has⟩ := ih (fun y hy => h y (by simp [hy]))
    exact ⟨a :: as, rfl, fun b hb => by rcases List.mem_cons.1 hb with rfl | hb; exact ha; exact has b hb⟩

theorem drop_cons {α : Type} {l : List α} {i : Nat} {y : α} (h : l[i]? = some y) : l.drop i = y :: l.drop (i + 1) := by
  obtain ⟨hi, rfl⟩ := List.getElem?_eq_some_iff.1 h
  exact List.drop_eq_getElem_cons hi
end Go.Ab

namespace Go.Ab
open Go.RowKit
section
variable {P : Program} {S0 : List Ob} {ow : List Nat} {fr : Fr} {S : List Ob} {log : List LE}
theorem Ev_of {f n : Nat} {ts : List Nat} {fc : FC} (hm : P.follows .mixedOrders = true) (hfn : Fn2 P f n ts fc) {args : List AV} (hn : args.length ≤ n) {r : AV} {S' : List Ob} (ow : List Nat)
    (h : VT P S ow fc (initFr 0 args) S (fun e fr S1 => isRet e ∧ ∃ fr2, Wk S fr S1 fr2 S' ∧ retAV ts (Fr.get fr2) = r)) : Ev P f args (hp S) r (hp S') :=
  Ev_of_VC hm hfn hn (VT_VC (fun e fr S hk => ⟨by have := hk.1; cases e <;> simp_all [isRet], hk.2⟩) h)

theorem E_app {d esh bytes s x rs} {K : Fr → List Ob → List LE → Prop} {o ver m n : Nat} {cs cells : List AV} {rdx : List Nat} (e : ev (Fr.get fr) s = .ref o ver 0 m esh) (e2 : vSrc esh (ev (Fr.get fr) x) S = some (n, cells, rdx))
    (ho : hp S o = .arr ver cs) (h1 : cells.all AV.one = true) (hb : (m + n) * bytes ≤ 140737488355328 ∧ m + n ≤ 140737488355328 ∧ 0 < n)
    (h : VTops P ow rs ((d, .ref o (ver + 1) 0 (m + n) esh) :: fr) (setAt S o (.arr (ver + 1) (cs.take (m * szOf esh) ++ cells))) (.acc (o :: o :: rdx) (some o) :: log) K) :
    VTops P ow (⟨some d, none, .op (.app esh bytes s x)⟩ :: rs) fr S log K := by
  refine E_op (v' := .ref o (ver + 1) 0 (m + n) esh) (rd := o :: rdx) (δ := some (o, .arr (ver + 1) (cs.take (m * szOf esh) ++ cells))) ?_ rfl rfl h
  simp only [opV, vApp, e, e2, Option.bind_some, h1, if_true]
  simp only [true_and]
  rw [if_pos ⟨hb.1, hb.2.1⟩]
  simp [obCells, ho]
end
end Go.Ab

namespace Go.Ab
open Go.RowKit
/-- The last object is frozen: pointers to it become pointers to its cells. -/
def frzF (k ver : Nat) (cs : List AV) (fr : Fr) : Fr → Prop
  | [] => True
  | (t, v) :: r => ((v = Fr.get fr t ∧ v.blw k = true) ∨ ∃ off, Fr.get fr t = .ptr k ver off ∧ v = .cptr cs off) ∧ frzF k ver cs fr r

theorem frzF_get {k ver cs} {fr : Fr} : ∀ {fr' : Fr}, frzF k ver cs fr fr' → ∀ t, Fr.get fr' t = .junk ∨ ((Fr.get fr' t = Fr.get fr t ∧ (Fr.get fr t).blw k = true) ∨ ∃ off, Fr.get fr t = .ptr k ver off ∧ Fr.get fr' t = .cptr cs off)
  | [], _, t => .inl rfl
  | (t', v) :: r, h, t => by
    rw [get_cons]
    split
    · rename_i e; subst e
      right
      rcases h.1 with ⟨e, e2⟩ | ⟨off, e, e2⟩
      · exact .inl ⟨e, by rw [← e]; exact e2⟩
      · exact .inr ⟨off, e, e2⟩
    · exact frzF_get h.2 t

theorem hp_append_lt {S T : List Ob} {o : Nat} (h : o < S.length) : hp (S ++ T) o = hp S o := by
  simp [hp, List.getD_eq_getElem?_getD, List.getElem?_append_left h]
theorem hp_append_at (S : List Ob) (x : Ob) : hp (S ++ [x]) S.length = x := by
  simp [hp, List.getD_eq_getElem?_getD]
theorem hp_ge {S : List Ob} {o : Nat} (h : S.length ≤ o) : hp S o = .virgin := by
  simp [hp, List.getD_eq_getElem?_getD, List.getElem?_eq_none h]

theorem wk_frz {S0 S1 S : List Ob} {fr fr' : Fr} {ver : Nat} {cs : List AV} (hS : S = S1 ++ [.arr ver cs]) (hk : S0.length ≤ S1.length) (hcs : blwL S1.length cs = true)
    (hob : ∀ o v c, o < S1.length → hp S1 o = .arr v c → blwL S1.length c = true) (h : frzF S1.length ver cs fr fr') : Wk S0 fr S fr' S1 := by
  subst hS
  refine wk_trans (fr' := fr') (S' := S1 ++ [.dead ver]) (wk_le (some (S1.length, ver, cs)) (fun o => ?_) (fun o v c e => ?_) (fun t => ?_)) (wk_trunc S1.length hk (by simp) (fun o v c ho e => ?_) (fun t => ?_))
  · rcases Nat.lt_trichotomy o S1.length with ho | ho | ho
    · rw [hp_append_lt ho, hp_append_lt ho]
      cases e : hp S1 o with
      | virgin => exact .inr (.inr (.inr ⟨rfl, rfl⟩))
      | dead v => exact .inr (.inr (.inl ⟨v, rfl, rfl⟩))
      | arr v c => exact .inl ⟨v, c, c, rfl, rfl, rfl, (fun _ _ e => by cases e; omega), fun j h h' => .refl _⟩
    · subst ho
      rw [hp_append_at, hp_append_at]
      exact .inr (.inl ⟨ver, cs, rfl, rfl⟩)
    · rw [hp_ge (by simp; omega), hp_ge (by simp; omega)]
      exact .inr (.inr (.inr ⟨rfl, rfl⟩))
  · cases e; exact ⟨hp_append_at _ _, hp_append_at _ _⟩
  · rcases frzF_get h t with e | ⟨e, _⟩ | ⟨off, e, e2⟩
    · rw [e]; exact .junk _
    · rw [e]; exact .refl _
    · rw [e, e2]; exact .ptr rfl
  · rw [hp_append_lt ho] at e; exact hob o v c ho e
  · rcases frzF_get h t with e | ⟨e, e2⟩ | ⟨off, e, e2⟩
    · exact .inl e
    · exact .inr ⟨rfl, by rw [e]; exact e2⟩
    · exact .inr ⟨rfl, by rw [e2]; exact hcs⟩
end Go.Ab

namespace Go.Ab
open Go.RowKit
theorem E_len {P : Program} {ow : List Nat} {fr : Fr} {S : List Ob} {log : List LE} {d x rs} {K : Fr → List Ob → List LE → Prop} {ex sz} {α : Type} {f : α → AV} {ys : List α} (e : ev (Fr.get fr) x = .sl ex sz (ys.map f))
    (h : VTops P ow rs ((d, .int .i64 ys.length) :: fr) S (.acc [] none :: log) K) : VTops P ow (⟨some d, none, .op (.len .sl x)⟩ :: rs) fr S log K := by
  refine E_op0 (v := .int .i64 ys.length) ?_ rfl h
  simp [opV, e, vLen, pv]
end Go.Ab
