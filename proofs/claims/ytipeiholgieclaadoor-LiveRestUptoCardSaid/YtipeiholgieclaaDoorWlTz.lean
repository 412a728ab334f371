/- Heaps of a number of objects that is not known: given by a function. -/
import Derived.Test.YtipeiholgieclaaDoorWlK3
import Derived.Test.YtipeiholgieclaaDoorRows
import Derived.Test.YtipeiholgieclaaDoorChecked
import Derived.Shelf.Spec.TrailingZeros
set_option linter.unusedVariables false
set_option linter.unusedSimpArgs false
namespace Go.Ab
open Go Go.RowKit
def ofF (n : Nat) (f : Nat -> Ob) : List Ob := (List.range n).map f
section
variable {n m : Nat} {f g : Nat -> Ob}
theorem a8q : (ofF n f).length = n := by simp [ofF]
theorem a4K {i : Nat} (h : i < n) : hp (ofF n f) i = f i := by simp [hp, ofF, List.getD_eq_getElem?_getD, h]
theorem b7R {i : Nat} (h : i < (ofF n f).length) : (ofF n f)[i] = f i := by simp [ofF]
theorem a4j {α : Type} {f : Nat -> α} {o : Nat} {x : α} : upd f o x o = x := by simp [upd]
theorem a1N {α : Type} {f : Nat -> α} {o i : Nat} {x : α} (h : i ≠ o) : upd f o x i = f i := by simp [upd, h]
theorem a2f (x : Ob) : ∀ (S : List Ob) (o : Nat), o <= S.length -> (s9 S o x).length = max S.length (o + 1)
 | [], 0, _ => rfl
 | [], n + 1, h => by simp at h
 | y :: s, 0, _ => by simp only [s9, List.length_cons]; omega
 | y :: s, n + 1, h => by
   have := a2f x s n (by simpa using h)
   simp only [s9, List.length_cons, this]; omega
end
def idM (n : Nat) (m : Nat -> Option Nat) : b4V := (List.range n).map (fun i => (m i).map (fun o => (o, 0)))
theorem a8r {n : Nat} {m : Nat -> Option Nat} {i : Nat} (h : i < n) : a5x (idM n m) i = (m i).map (fun o => (o, 0)) := by
 simp [a5x, idM, h]
theorem a9p {n : Nat} {m : Nat -> Option Nat} (h : ∀ i j o, i < n -> j < n -> m i = some o -> m j = some o -> i = j) : b0l (idM n m) = true := by
 simp only [b0l, decide_eq_true_eq]
 have e : ((idM n m).filterMap id).map (·.1) = (List.range n).filterMap m := by
  simp only [idM, List.filterMap_map, List.map_filterMap]
  congr 1
  funext i
  cases hm : m i <;> simp [hm]
 rw [e]
 have hnd : (List.range n).Nodup := List.nodup_range
 have hmem : ∀ x ∈ List.range n, x < n := fun x hx => by simpa using hx
 generalize List.range n = l at hnd hmem
 induction l with
 | nil => simp
 | cons a l ih =>
   have h1 := List.nodup_cons.1 hnd
   have h2 := ih h1.2 (fun x hx => hmem x (List.mem_cons_of_mem _ hx))
   cases hm : m a with
   | none => rw [List.filterMap_cons_none hm]; exact h2
   | some o =>
     rw [List.filterMap_cons_some hm, List.nodup_cons]
     refine ⟨fun hin => ?_, h2⟩
     obtain ⟨b, hb, hbo⟩ := List.mem_filterMap.1 hin
     have := h a b o (hmem a List.mem_cons_self) (hmem b (List.mem_cons_of_mem _ hb)) hm hbo
     subst this
     exact h1.1 hb
abbrev WR (n : Nat) (m : Nat -> Option Nat) (S : List Ob) (f : Nat -> Ob) : Rn := wkR (idM n m) S (ofF n f)
def b6L (n : Nat) (m : Nat -> Option Nat) (S : List Ob) (f : Nat -> Ob) (i : Nat) : Prop :=
 match m i with
 | some o => ∃ v cs v' cs', hp S o = .arr v cs /\ f i = .arr v' cs' /\ RnL (WR n m S f) 0 cs cs'
 | none => ∃ v', f i = .arr v' []
theorem b1t {Q : Nat -> Ob -> Prop} : ∀ {l : List Ob} {i : Nat}, (∀ j (h : j < l.length), Q (i + j) l[j]) -> a8j Q i l
 | [], _, _ => trivial
 | x :: r, i, h => ⟨h 0 zS, b1t (fun j hj => by
   have := h (j + 1) (by simpa using hj)
   simpa [show i + (j + 1) = i + 1 + j by omega] using this)⟩
theorem c0A {S : List Ob} {n : Nat} {m : Nat -> Option Nat} {f : Nat -> Ob} (hi : ∀ i j o, i < n -> j < n -> m i = some o -> m j = some o -> i = j) (h : ∀ i, i < n -> b6L n m S f i) :
  GWk [] S (ofF n f) (RnV (WR n m S f)) := by
 refine u9 (idM n m) (a9p hi) (Nat.zero_le _) (b1t (fun j hj => ?_))
 rw [a8q] at hj
 rw [b7R, Nat.zero_add]
 have k := h j hj
 unfold b6L at k
 have e := a8r (m := m) hj
 cases hm : m j with
 | none =>
   rw [hm] at k e
   obtain ⟨v', e2⟩ := k
   rw [e2]
   exact a7E e rfl rfl
 | some o =>
   rw [hm] at k e
   obtain ⟨v, cs, v', cs', e1, e2, e3⟩ := k
   rw [e2]
   exact a1k e e1 e3 rfl
theorem b5F {S : List Ob} {n : Nat} {m : Nat -> Option Nat} {f : Nat -> Ob} {fr fr' : Fr} (hi : ∀ i j o, i < n -> j < n -> m i = some o -> m j = some o -> i = j) (h : ∀ i, i < n -> b6L n m S f i)
  (hf : rnF (WR n m S f) fr fr') : Wk [] fr S fr' (ofF n f) := (c0A hi h).wk (b0m hf)
theorem b1u : ∀ {n : Nat} (i j o : Nat), i < n -> j < n -> some i = some o -> some j = some o -> i = j := fun i j o _ _ h1 h2 => by cases h1; cases h2; rfl
section
variable {S : List Ob} {n : Nat} {m : Nat -> Option Nat} {f : Nat -> Ob}
theorem b3N {i o v v' off : Nat} {cs cs' : List AV} (hi : i < n) (hm : m i = some o) (h1 : hp S o = .arr v cs) (h2 : f i = .arr v' cs') : RnV (WR n m S f) (.ptr o v off) (.ptr i v' off) :=
 .ptr ⟨0, cs, cs', by rw [a8r hi, hm]; rfl, h1, by rw [a4K hi]; exact h2, by omega⟩
theorem a3F {i o v v' k : Nat} {e : Option Nat} {cs cs' : List AV} (hi : i < n) (hm : m i = some o) (h1 : hp S o = .arr v cs) (h2 : f i = .arr v' cs') (hk : k * g6 e <= cs'.length) : RnV (WR n m S f) (.ref o v 0 k e) (.ref i v' 0 k e) :=
 .ref ⟨0, cs, cs', by rw [a8r hi, hm]; rfl, h1, by rw [a4K hi]; exact h2, by omega, by omega⟩
theorem a6P {i o v v' k k' : Nat} {e : Option Nat} {cs cs' : List AV} (hkk : k = k') (hi : i < n) (hm : m i = some o) (h1 : hp S o = .arr v cs) (h2 : f i = .arr v' cs') (hk : k' * g6 e <= cs'.length) : RnV (WR n m S f) (.ref o v 0 k e) (.ref i v' 0 k' e) := by
 subst hkk; exact a3F hi hm h1 h2 hk
theorem c0B {i v' : Nat} {e : Option Nat} {cs' : List AV} (hi : i < n) (h2 : f i = .arr v' cs') : RnV (WR n m S f) .nils (.ref i v' 0 0 e) := .nil ⟨cs', by rw [a4K hi]; exact h2⟩
theorem a0L {i o v v' : Nat} {cs cs' : List AV} (hm : m i = some o) (h1 : hp S o = .arr v cs) (h2 : f i = .arr v' cs') (h3 : RnL (WR n m S f) 0 cs cs') : b6L n m S f i := by
 unfold b6L; rw [hm]; exact ⟨v, cs, v', cs', h1, h2, h3⟩
theorem b3O {i v' : Nat} (hm : m i = none) (h2 : f i = .arr v' []) : b6L n m S f i := by
 unfold b6L; rw [hm]; exact ⟨v', h2⟩
theorem a4V {R : Rn} {cs cs' : List AV} (h1 : cs'.length <= cs.length) (h : ∀ (j : Nat) (a : j < cs.length) (b : j < cs'.length), RnV R cs[j] cs'[j]) : RnL R 0 cs cs' :=
 ⟨by omega, fun j a b => by simp only [Nat.zero_add] at a ⊢; exact h j a b⟩
end
section
variable {P : Program} {S0 : List Ob} {ow : List Nat} {fr : Fr} {S : List Ob} {log : List LE}
end
end Go.Ab

/- A method that takes the value, where the interface holds a pointer: the step. -/
namespace Go.Ab
section
variable {P : Program} {S0 : List Ob} {ow : List Nat} {fr : Fr} {S : List Ob} {log : List LE} {L L' L0 L1 R : List It}
end
end Go.Ab

/- Further steps over separated objects. -/
namespace Go.Ab
open Go Go.RowKit
section
variable {P : Program} {S0 : List Ob} {ow : List Nat} {fr : Fr} {S : List Ob} {log : List LE} {L : List It} {esh : Option Nat}
theorem b0t {a b} {K : Post} {σ : Type} (F : σ -> Fr) (Lf : σ -> List It) (I : σ -> Prop)
  (ha : VT P S0 ow a fr S (Post.thn (fun fr' S' => ∃ s, I s /\ Sep S' (Lf s) /\ Wk S0 fr' S' (F s) S') K)) (hb : ∀ s S, I s -> Sep S (Lf s) -> VT P S0 ow b (F s) S K) :
  VT P S0 ow a fr S (Post.thn (fun fr' S' => ∃ F T, Wk S0 fr' S' F T /\ VT P S0 ow b F T K) K) :=
 a2T (a2P (fun _ _ ⟨s, h1, h2, h3⟩ => ⟨F s, _, h3, hb s _ h1 h2⟩) (fun _ _ _ h => h)) ha
end
theorem Ev.gwk {P : Program} {f : FuncId} {args : List AV} {S S1 S' : List Ob} {r r' : AV} {R : AV -> AV -> Prop} (h : Ev P f args (hp S) r (hp S1)) (k : GWk S S1 S' R) (hr : R r r') : Ev P f args (hp S) r' (hp S') := by
 intro g w vals hw hv
 refine (h g w vals hw hv).mono ?_
 rintro e w' ⟨u, g', e1, e2, e3, e4⟩
 obtain ⟨g2, h1, h2, h3⟩ := k g g' w' e2 e3
 exact ⟨u, g2, e1, h1, h2, h3 _ _ _ hr e4⟩
theorem Tri.pure {P : Program} {f : FuncId} {args : List AV} {Q : AV -> List It -> Prop} {Q' : AV -> Prop} (k : Nat) (h : Tri P f args [] Q) (hq : ∀ v L' S, Q v L' -> Sep S L' -> ∃ r, AVw (frz 0 S k v) r /\ Q' r) : ∃ r, PureEv P f args r /\ Q' r := by
 obtain ⟨v, S', h1, L', h2, h3⟩ := h [] [] Sep.nil
 rw [List.append_nil] at h3
 obtain ⟨r, h4, h5⟩ := hq v L' S' h2 h3
 refine ⟨r, ?_, h5⟩
 have := h1.gwk ((b0n 0 k zS).trans GWk.refl) ⟨_, rfl, h4⟩
 rw [b6z] at this
 exact this
end Go.Ab

/- One object is frozen: it is dead, and what named it holds its cells. -/
namespace Go.Ab
open Go Go.RowKit
inductive Fz1 (o ver : Nat) (cs : List AV) : AV -> AV -> Prop
 | same (x) : Fz1 o ver cs x x
 | ref {off n e} (h : off + n * g6 e <= cs.length) (h1 : cs.all AV.one = true) : Fz1 o ver cs (.ref o ver off n e) (.sl false (g6 e) (w7 e n (cs.drop off)))
 | ptr {off} : Fz1 o ver cs (.ptr o ver off) (.cptr cs off)
theorem b3P {cs : List AV} (h : cs.all AV.one = true) (n : Nat) : (cs.drop n).all AV.one = true := by
 rw [List.all_eq_true] at h ⊢
 exact fun x hx => h x (List.mem_of_mem_drop hx)
theorem VR.none_to {g : Gh} {S : List Ob} {x : AV} {u : Value} {pm : Pm} {L : Nat -> Loc} {σ : Hp} {pm' : Pm} {σ' : Hp} (h : VR pm L σ x u) (hpm : ∀ b o v, pm b o = some v -> pm' b o = some v) (hx : x.blw 0 = true) : VR pm' L σ' x u := by
 have h2 : VR pm L σ' x u := h.agree hx (fun o ho => absurd ho (Nat.not_lt_zero o))
 exact h2.mono ⟨hpm, fun o => a0j.refl _ _⟩
theorem b3Q {S0 S S' : List Ob} {o ver : Nat} {cs : List AV} (ho : hp S o = .arr ver cs) (hb : a2v 0 cs = true) (hd : hp S' o = .dead ver)
  (hs : ∀ i, i ≠ o -> hp S' i = hp S i \/ ∃ v c c', hp S i = .arr v c /\ hp S' i = .arr v c' /\ c'.length = c.length /\ ∀ j (h1 : j < c.length) (h2 : j < c'.length), Fz1 o ver cs c[j] c'[j]) : GWk S0 S S' (Fz1 o ver cs) := by
 intro g0 g w h1 h2
 classical
 let reg : Nat -> Nat -> Prop := fun b a => (g.L o).b = b /\ ∃ j, j < cs.length /\ (g.L o).off + j = a
 let pm' : Pm := fun b a => if reg b a then w.cell? ⟨b, a, none⟩ else g.pm b a
 have q := h2.ob o ver cs ho
 have hnp : ∀ b a v, g.pm b a = some v -> ¬ reg b a := by
  rintro b a v e ⟨rfl, j, hj, rfl⟩
  rw [q.pm j (by have := q.len; omega)] at e; cases e
 have hpm : ∀ b a v, g.pm b a = some v -> pm' b a = some v := fun b a v e => by
  simp only [pm']; rw [if_neg (hnp _ _ _ e)]; exact e
 have hσ : ∀ i, a0j (hp S i) (g.L i) (hp S' i) (g.L i) := fun i => by
  by_cases hi : i = o
  ·subst hi; rw [hd, ho]; exact Nat.le_refl _
  ·rcases hs i hi with e | ⟨v, c, c', e1, e2, e3, _⟩
   ·rw [e]; exact a0j.refl _ _
   ·rw [e1, e2]; exact .inr ⟨rfl, rfl, e3⟩
 have hin : ∀ i v c', hp S' i = .arr v c' -> i ≠ o /\ ∃ c, hp S i = .arr v c /\ c'.length = c.length /\ ∀ j (h1 : j < c.length) (h2 : j < c'.length), Fz1 o ver cs c[j] c'[j] := fun i v c' e => by
  have hi : i ≠ o := fun h => by rw [h, hd] at e; cases e
  refine ⟨hi, ?_⟩
  rcases hs i hi with e1 | ⟨v1, c1, c1', e1, e2, e3, e4⟩
  ·rw [e1] at e; exact ⟨c', e, rfl, fun j _ _ => .same _⟩
  ·rw [e2] at e; cases e; exact ⟨c1, e1, e3, e4⟩
 have hext : Ext g.pm g.L (hp S) pm' g.L (hp S') := ⟨hpm, hσ⟩
 have hcell : ∀ j, j < cs.length -> pm' (g.L o).b ((g.L o).off + j) = some ((w.cell? ⟨(g.L o).b, (g.L o).off + j, none⟩).getD undef) := fun j hj => by
  obtain ⟨v, hv, _⟩ := q.there j (by have := q.len; omega)
  have hreg : reg (g.L o).b ((g.L o).off + j) := ⟨rfl, j, hj, rfl⟩
  simp only [pm']; rw [if_pos hreg, hv]; rfl
 have hval : ∀ j (hj : j < cs.length), VR pm' g.L (hp S') cs[j] ((w.cell? ⟨(g.L o).b, (g.L o).off + j, none⟩).getD undef) := fun j hj => by
  obtain ⟨v, hv, hr⟩ := q.there j (by have := q.len; omega)
  rw [hv]
  exact (hr hj).none_to (g := g) (S := S) hpm (a4u.1 hb _ (List.getElem_mem hj))
 have key : ∀ {x y : AV} {u : Value}, Fz1 o ver cs x y -> VR g.pm g.L (hp S) x u -> VR pm' g.L (hp S') y u := fun {x y u} r hv => by
  cases r with
  | same => exact hv.mono hext
  | @ref off n e hl ha =>
    cases hv with
    | @ref _ _ _ _ _ a cap hn hs hr =>
      unfold a1G at hr
      rw [ho] at hr
      obtain ⟨rfl, r2, r3, r4⟩ := hr.2 rfl
      exact VR.told (us := fun j => (w.cell? ⟨(g.L o).b, (g.L o).off + (off + j), none⟩).getD undef) zE (b3P ha off) (fun j hj => by rw [Nat.add_assoc]; exact hcell (off + j) zO)
       (fun j hj hj2 => by
        simp only [List.getElem_drop]
        exact hval (off + j) (by rw [List.length_drop] at hj; omega)) hn (by intro e; cases e)
    | @refnil _ _ _ _ hv =>
      have : ∀ l : List AV, w7 e 0 l = [] := fun l => by cases e <;> simp [w7, a3H]
      rw [this]; exact .slz'
  | @ptr off =>
    cases hv with
    | @ptr _ _ _ a hpt =>
      unfold a2j at hpt
      rw [ho] at hpt
      obtain rfl := hpt.2 rfl
      exact .cptr _ (fun j hj => hcell j hj) (fun j hj => hval j hj)
 refine ⟨{ g with pm := pm' }, ⟨⟨fun b a v e => hpm _ _ _ (h1.ext.pm _ _ _ e), fun i => (h1.ext.ob i).trans (hσ i)⟩, h1.tm, h1.B0, h1.w0⟩, ⟨fun b a v e => ?_, h2.tm, h2.tmf, fun b a v e => ?_, h2.low, h2.B0, h2.tab, fun i v c' e => ?_, fun i i' v v' c c' e e' hne => ?_⟩, fun x y u r hv => key r hv⟩
 ·replace e : (if reg b a then w.cell? ⟨b, a, none⟩ else g.pm b a) = some v := e
  split at e
  ·exact e
  ·exact h2.pm _ _ _ e
 ·replace e : (if reg b a then w.cell? ⟨b, a, none⟩ else g.pm b a) = some v := e
  split at e
  ·rename_i hr
   obtain ⟨rfl, j, hj, rfl⟩ := hr
   exact q.tm j (by have := q.len; omega)
  ·exact h2.disj _ _ _ e
 ·obtain ⟨hi, c, e1, e2, e3⟩ := hin _ _ _ e
  have k := h2.ob i v c e1
  refine ⟨k.low, by rw [e2]; exact k.len, fun j hj => ?_, k.free, fun j hj => ?_, k.tm⟩
  ·obtain ⟨u, hu, hr⟩ := k.there j hj
   exact ⟨u, hu, fun hj' => key (e3 j zO hj') (hr zO)⟩
  ·show (if reg _ _ then _ else _) = _
   rw [if_neg]
   ·exact k.pm j hj
   ·rintro ⟨hbb, j', hj', he⟩
    exact h2.sep o i _ _ _ _ ho e1 (fun h => hi h.symm) hbb j' j (by have := q.len; omega) hj he
 ·obtain ⟨_, c1, e1, _⟩ := hin _ _ _ e
  obtain ⟨_, c2, e2, _⟩ := hin _ _ _ e'
  exact h2.sep i i' _ _ _ _ e1 e2 hne
theorem b3R {S0 S : List Ob} {o ver : Nat} {cs : List AV} (ho : hp S o = .arr ver cs) (hb : a2v 0 cs = true) : GWk S0 S (s9 S o (.dead ver)) (Fz1 o ver cs) :=
 b3Q ho hb a1A (fun i hi => .inl (a1e hi))
section
variable {P : Program} {S0 : List Ob} {ow : List Nat} {fr : Fr} {S : List Ob} {L L' L0 : List It} {α : Type} {f : α -> AV} {e : Option Nat}
theorem Sep.kill {o ver : Nat} {cs : List AV} {x : Ob} (hS : Sep S L) (hp' : Pk L (o, ver, cs) L0) : Sep (s9 S o x) L0 := by
 have h := hS.perm hp'
 refine ⟨fun p hm => ?_, (List.nodup_cons.1 h.2).2⟩
 have hne : p.1 ≠ o := fun e1 => (List.nodup_cons.1 h.2).1 (by rw [<- e1]; exact List.mem_map.2 ⟨p, hm, rfl⟩)
 rw [a1e hne]
 exact h.1 p (List.mem_cons_of_mem _ hm)
theorem b1v (he : Enc f e) {o ver : Nat} {l : List α} {j : List AV} (h1 : j.all AV.one = true) : Fz1 o ver (flat f l ++ j) (.ref o ver 0 l.length e) (.sl false (g6 e) (l.map f)) := by
 have hl : (flat f l).length = l.length * g6 e := he.length l
 have ha : (flat f l ++ j).all AV.one = true := by rw [List.all_append, he.all, h1]; rfl
 have := Fz1.ref (o := o) (ver := ver) (cs := flat f l ++ j) (off := 0) (n := l.length) (e := e) (by rw [List.length_append, hl]; omega) ha
 have key : w7 e l.length ((flat f l ++ j).drop 0) = l.map f := by
  rw [List.drop_zero]
  have : w7 e l.length (flat f l ++ j) = w7 e l.length (flat f l) := by
   cases e with
   | none =>
     simp only [w7]
     rw [List.take_append_of_le_length (by rw [hl]; simp [g6])]
   | some n =>
     simp only [w7]
     have : ∀ (k : Nat) (xs : List AV), xs.length = k * n -> a3H n k (xs ++ j) = a3H n k xs := by
      intro k
      induction k with
      | zero => intro xs _; rfl
      | succ k ih =>
        intro xs hx
        have hn : n <= xs.length := by rw [hx, Nat.add_mul]; omega
        simp only [a3H]
        rw [List.take_append_of_le_length hn, List.drop_append_of_le_length hn, ih _ (by rw [List.length_drop, hx, Nat.add_mul]; omega)]
     exact this _ _ (by rw [hl]; rfl)
  rw [this, he.elems]
 rw [key] at this
 exact this
theorem b1w (he : Enc f e) {l : List α} {j : List AV} (hj : a2v 0 j = true) : a2v 0 (flat f l ++ j) = true := by
 rw [a4u]; intro x hx
 rcases List.mem_append.1 hx with h | h
 ·exact a4u.1 (he.blwf 0 l) _ h
 ·exact a4u.1 hj _ h
theorem E_fzT {b} {K K0 : Post} {o ver : Nat} {l : List α} {j : List AV} (t : Nat) (he : Enc f e) (hS : Sep S L) (hp' : Pk L (o, ver, flat f l ++ j) L0) (hj : a2v 0 j = true) (h1 : j.all AV.one = true) (ht : Fr.get fr t = .ref o ver 0 l.length e)
  (h : ∀ S', Sep S' L0 -> VT P S0 ow b ((t, .sl false (g6 e) (l.map f)) :: fr) S' K) : Post.thn (fun fr' S' => ∃ F T, Wk S0 fr' S' F T /\ VT P S0 ow b F T K) K0 .normal fr S := by
 have ho := hS.at (hp'.mem_iff.2 (.head _))
 refine a1q ((b3R ho (b1w he hj)).wk (fun t' => ?_)) (h _ (hS.kill hp'))
 rw [get_cons]
 split
 ·rename_i e1; subst e1; rw [ht]; exact b1v he h1
 ·exact .same _
theorem b3S {o ver o2 v2 jx : Nat} {l : List α} {j cs2 : List AV} (he : Enc f e) (ho : hp S o = .arr ver (flat f l ++ j)) (ho2 : hp S o2 = .arr v2 cs2) (hne : o2 ≠ o) (hj : a2v 0 j = true) (h1 : j.all AV.one = true) (hx : cs2[jx]? = some (.ref o ver 0 l.length e)) :
  GWk S0 S (s9 (s9 S o (.dead ver)) o2 (.arr v2 (cs2.set jx (.sl false (g6 e) (l.map f))))) (Fz1 o ver (flat f l ++ j)) := by
 refine b3Q ho (b1w he hj) (by rw [a1e (fun h => hne h.symm), a1A]) (fun i hi => ?_)
 by_cases h2 : i = o2
 ·subst h2
  refine .inr ⟨v2, cs2, _, ho2, a1A, by simp, fun k k1 k2 => ?_⟩
  rw [List.getElem_set]
  split
  ·rename_i e1
   subst e1
   rw [List.getElem?_eq_getElem k1] at hx
   rw [Option.some.inj hx]
   exact b1v he h1
  ·exact .same _
 ·rw [a1e h2, a1e hi]; exact .inl rfl
theorem E_fzC {b} {K K0 : Post} {o ver o2 v2 jx : Nat} {l : List α} {j cs2 : List AV} (he : Enc f e) (hS : Sep S L) (hp' : Pk L (o, ver, flat f l ++ j) L0) (hj : a2v 0 j = true) (h1 : j.all AV.one = true) (hx : cs2[jx]? = some (.ref o ver 0 l.length e)) (hr : Rp L0 (o2, v2, cs2) (o2, v2, cs2.set jx (.sl false (g6 e) (l.map f))) L')
  (h : ∀ S', Sep S' L' -> VT P S0 ow b fr S' K) : Post.thn (fun fr' S' => ∃ F T, Wk S0 fr' S' F T /\ VT P S0 ow b F T K) K0 .normal fr S := by
 have ho := hS.at (hp'.mem_iff.2 (.head _))
 have hk := hS.kill (x := .dead ver) hp'
 have hp2 := hS.perm hp'
 have hne : o2 ≠ o := fun e1 => (List.nodup_cons.1 hp2.2).1 (List.mem_map.2 ⟨_, hr.mem, e1⟩)
 have ho2 : hp S o2 = .arr v2 cs2 := hp2.1 _ (.tail _ hr.mem)
 exact a1q ((b3S he ho ho2 hne hj h1 hx).wk (fun t' => .same _)) (h _ (hk.rp hr))
theorem b6M {b} {K K0 : Post} {o ver o2 v2 jx : Nat} {l : List α} {cs2 : List AV} (he : Enc f e) (hS : Sep S L) (hp' : Pk L (o, ver, flat f l) L0) (hx : cs2[jx]? = some (.ref o ver 0 l.length e)) (hr : Rp L0 (o2, v2, cs2) (o2, v2, cs2.set jx (.sl false (g6 e) (l.map f))) L')
  (h : ∀ S', Sep S' L' -> VT P S0 ow b fr S' K) : Post.thn (fun fr' S' => ∃ F T, Wk S0 fr' S' F T /\ VT P S0 ow b F T K) K0 .normal fr S :=
 E_fzC (j := []) he hS (by rw [List.append_nil]; exact hp') rfl rfl hx hr h
theorem b6N {b} {K K0 : Post} {o ver : Nat} {l : List α} (t : Nat) (he : Enc f e) (hS : Sep S L) (hp' : Pk L (o, ver, flat f l) L0) (ht : Fr.get fr t = .ref o ver 0 l.length e)
  (h : ∀ S', Sep S' L0 -> VT P S0 ow b ((t, .sl false (g6 e) (l.map f)) :: fr) S' K) : Post.thn (fun fr' S' => ∃ F T, Wk S0 fr' S' F T /\ VT P S0 ow b F T K) K0 .normal fr S :=
 E_fzT (j := []) t he hS (by rw [List.append_nil]; exact hp') rfl rfl ht h
end
end Go.Ab

/- A contract that leaves one list of its own: one answer for all heaps. -/
namespace Go.Ab
open Go Go.RowKit
section
variable {P : Program} {f : FuncId} {args : List AV} {α : Type} {g : α -> AV} {e : Option Nat}
theorem Tri.base (he : Enc g e) {Q : List α -> AV -> Prop} (h : Tri P f args [] (fun r L' => ∃ oo l x, r = .tup [.ref oo 0 0 l.length e, x] /\ x.blw 0 = true /\ L' = [(oo, 0, flat g l)] /\ Q l x)) :
  ∃ l x, Q l x /\ x.blw 0 = true /\ Ev P f args (hp []) (.tup [.ref 0 0 0 l.length e, x]) (hp [.arr 0 (flat g l)]) := by
 obtain ⟨r, S', h1, L', ⟨oo, l, x, rfl, hx, rfl, hq⟩, hS⟩ := h [] [] Sep.nil
 refine ⟨l, x, hq, hx, ?_⟩
 have ho : hp S' oo = .arr 0 (flat g l) := hS.at (.head _)
 have hn : hp [Ob.arr 0 (flat g l)] 0 = .arr 0 (flat g l) := rfl
 refine h1.gwk (u9 (S0 := []) (S := S') (S' := [.arr 0 (flat g l)]) [some (oo, 0)] (by simp [b0l]) (Nat.zero_le _) ⟨?_, trivial⟩) ?_
 ·exact ⟨0, flat g l, ho, .refl (he.blwf 0 l), fun h => absurd h (Nat.not_lt_zero _)⟩
 ·refine .tup rfl (fun j h1 h2 => ?_)
  match j, h1 with
  | 0, _ => exact .ref ⟨0, flat g l, flat g l, rfl, ho, hn, rfl, by rw [he.length l]; omega⟩
  | 1, _ => exact .base hx (.refl _)
end
section
variable {P : Program} {S0 : List Ob} {ow : List Nat} {fr : Fr} {S : List Ob} {L : List It}
end
end Go.Ab

/- Calls that only read, shown by a walk (over fork6's layer). -/
namespace Go.Ab
theorem b3T {τ : Hp} (h : b7m τ) : ∃ T : List Ob, hp T = τ := by
 obtain ⟨N, hN⟩ := h
 refine ⟨(List.range N).map τ, funext fun o => ?_⟩
 unfold hp
 rw [List.getD_eq_getElem?_getD, List.getElem?_map]
 by_cases ho : o < N
 ·rw [List.getElem?_range ho]; rfl
 ·rw [List.getElem?_eq_none zE, hN o zO]; rfl
def b6O (P : Program) (f : FuncId) (args : List AV) (L : List It) (r : AV) : Prop := ∀ R S, Sep S (L ++ R) -> Ev P f args (hp S) r (hp S)
section
variable {P : Program} {f : FuncId} {args : List AV} {L L1 R : List It} {r : AV} {S : List Ob} {ow : List Nat} {fr : Fr} {log : List LE}
theorem b0u {n : Nat} {ts : List RS} {fc : FC} (hm : P.follows .mixedOrders = true) (hfn : Fn3 P f n ts fc) (hn : args.length <= n) (ow : List Nat)
  (h : ∀ R S, Sep S (L ++ R) -> VT P S ow fc (a3Y 0 args) S (fun e fr1 S1 => b0i e /\ ∃ v, a6H S1 (Fr.get fr1) ts = some v /\ v = r /\ S1 = S)) : b6O P f args L r := fun R S hS => by
 obtain ⟨r', S', h1, rfl, rfl⟩ := c0w hm hfn hn ow (h R S hS)
 exact h1
theorem b6O.rd (h : b6O P f args L r) (hS : Sep S (L ++ R)) : c5c P f args (hp S) r (L.map (·.1)) := fun τ hτ ha => by
 obtain ⟨T, rfl⟩ := b3T hτ
 refine h [] T ⟨fun it hit => ?_, ?_⟩
 ·rw [List.append_nil] at hit
  rw [ha _ (List.mem_map.2 ⟨it, hit, rfl⟩)]
  exact hS.1 it (List.mem_append_left _ hit)
 ·rw [List.append_nil]
  have := hS.2
  rw [List.map_append] at this
  exact (List.nodup_append.1 this).1
theorem a7l {d g as0 rs} {K : Fr -> List Ob -> List LE -> Prop} {ags : List AV} (c : b6O P g ags L1 r) (hS : Sep S L) (e : evL (Fr.get fr) as0 = ags) (hp' : Spl L L1 R)
  (h : VTops P ow rs ((d, r) :: fr) S (.acc (L1.map (·.1)) none :: log) K) : VTops P ow (⟨some d, none, .call g as0⟩ :: rs) fr S log K := by
 rw [a5E, e]
 exact b5v (c.rd (hS.spl hp')) h
end
end Go.Ab

/- Cases of a switch over a byte, one behind the other. -/
namespace Go.Ab
section
variable {P : Program} {S0 : List Ob} {ow : List Nat} {fr : Fr} {S : List Ob} {K : Post} {t a b a' : Nat} {n k k' : Int} {x y : FC}
abbrev eqR (t a b : Nat) (k : Int) : FC := .reg [⟨some a, none, .op (.bin .none .eql (.t t) (.v (.int .u8 k)))⟩, ⟨some b, none, .op (.mv (.t a))⟩] []
theorem c0C (e : Fr.get fr t = .int .u8 n) (h : K .normal ((b, .bool (n == k)) :: (a, .bool (n == k)) :: fr) S) : VT P S0 ow (eqR t a b k) fr S K := by
 refine b8 ?_
 refine m9 (v := .bool (n == k)) (by simp only [opV, ev, e]; rfl) zC ?_
 refine m9 (v := .bool (n == k)) (by simp only [opV, ev, get_cons, if_true]) zC ?_
 exact b6 h
theorem b5G {c : FC} (e : Fr.get fr t = .int .u8 n) (h : VT P S0 ow c ((b, .bool (n == k)) :: (a, .bool (n == k)) :: fr) S K) : VT P S0 ow (.seq (eqR t a b k) c) fr S K := by
 refine d9 (c0C e ?_)
 exact f5 h
theorem b2w {v : AV} {t : Bool} {x y : FC} (e : v = .bool t) (h1 : t = true -> VT P S0 ow x ((b, v) :: fr) S K) (h2 : t = false -> VT P S0 ow y ((b, v) :: fr) S K) : VT P S0 ow (.cond (.t b) x y) ((b, v) :: fr) S K :=
 E_cs (t := t) (by show Fr.get ((b, v) :: fr) b = _; rw [get_cons, if_pos rfl, e]) h1 h2
theorem a0k (e : Fr.get fr t = .int .u8 n) (hn : (n == k) = false) (h : VT P S0 ow y ((b, .bool false) :: (a, .bool false) :: fr) S K) : VT P S0 ow (.seq (eqR t a b k) (.cond (.t b) x y)) fr S K := by
 refine b5G e ?_
 rw [hn]
 exact b2w rfl (fun h => by cases h) (fun _ => h)
theorem a3v (e : Fr.get fr t = .int .u8 n) (hn : (n == k) = true) (h : VT P S0 ow x ((b, .bool true) :: (a, .bool true) :: fr) S K) : VT P S0 ow (.seq (eqR t a b k) (.cond (.t b) x y)) fr S K := by
 refine b5G e ?_
 rw [hn]
 exact b2w rfl (fun _ => h) (fun h => by cases h)
theorem c0D (e : Fr.get fr t = .int .u8 n) (hn : (n == k) = true) (h : VT P S0 ow x ((b, .bool true) :: (a, .bool true) :: fr) S K) :
  VT P S0 ow (.seq (.seq (eqR t a b k) (.cond (.t b) .skip (eqR t a' b k'))) (.cond (.t b) x y)) fr S K := by
 refine d9 (b5G e ?_)
 rw [hn]
 refine b2w rfl (fun _ => ?_) (fun h => by cases h)
 refine i7 ?_
 refine f5 ?_
 exact b2w rfl (fun _ => h) (fun h => by cases h)
theorem a4W {v : Bool} (e : Fr.get fr t = .int .u8 n) (hat : a ≠ t) (hbt : b ≠ t) (hn : (n == k) = false) (hn2 : (n == k') = v) (h1 : v = true -> VT P S0 ow x ((b, .bool v) :: (a', .bool v) :: (b, .bool false) :: (a, .bool false) :: fr) S K) (h2 : v = false -> VT P S0 ow y ((b, .bool v) :: (a', .bool v) :: (b, .bool false) :: (a, .bool false) :: fr) S K) :
  VT P S0 ow (.seq (.seq (eqR t a b k) (.cond (.t b) .skip (eqR t a' b k'))) (.cond (.t b) x y)) fr S K := by
 refine d9 (b5G e ?_)
 rw [hn]
 refine b2w rfl (fun h => by cases h) (fun _ => ?_)
 refine c0C (n := n) (by rw [get_cons, if_neg (Ne.symm hbt), get_cons, if_neg (Ne.symm hat), e]) ?_
 rw [hn2]
 refine f5 ?_
 exact b2w rfl h1 h2
end
end Go.Ab

/- Objects frozen, nil lists filled: one behind another. -/
namespace Go.Ab
section
variable {P : Program} {S0 : List Ob} {ow : List Nat} {fr : Fr} {S : List Ob} {L L' L0 : List It}
theorem b7S {b} {K K0 : Post} {o ver : Nat} {cs : List AV} (t : Nat) (hS : Sep S L) (hp' : Pk L (o, ver, cs) L0) (hb : a2v 0 cs = true) (ht : Fr.get fr t = .ptr o ver 0)
  (h : ∀ S', Sep S' L0 -> VT P S0 ow b ((t, .cptr cs 0) :: fr) S' K) : Post.thn (fun fr' S' => ∃ F T, Wk S0 fr' S' F T /\ VT P S0 ow b F T K) K0 .normal fr S := by
 have ho := hS.at (hp'.mem_iff.2 (.head _))
 refine a1q ((b3R ho hb).wk (fun t' => ?_)) (h _ (hS.kill hp'))
 rw [get_cons]
 split
 ·rename_i e1; subst e1; rw [ht]; exact .ptr
 ·exact .same _
end
section
variable {α : Type} {f : α -> AV} {e : Option Nat} {P : Program} {S0 : List Ob} {ow : List Nat} {fr : Fr} {S : List Ob} {L L' L0 : List It}
theorem c0E {b} {K K0 : Post} {o ver o2 v2 jx : Nat} {l : List α} {cs2 : List AV} (he : Enc f e) (hS : Sep S L) (hp' : Pk L (o, ver, flat f l) L0) (hx : cs2[jx]? = some (.ref o ver 0 l.length e)) (hr : Rp L0 (o2, v2, cs2) (o2, v2, cs2.set jx (.sl false (g6 e) (l.map f))) L')
  (h : ∀ S', Sep S' L' -> Post.thn (fun fr' S' => ∃ F T, Wk S0 fr' S' F T /\ VT P S0 ow b F T K) K0 .normal fr S') : Post.thn (fun fr' S' => ∃ F T, Wk S0 fr' S' F T /\ VT P S0 ow b F T K) K0 .normal fr S := by
 rw [<- List.append_nil (flat f l)] at hp'
 have ho := hS.at (hp'.mem_iff.2 (.head _))
 have hk := hS.kill (x := .dead ver) hp'
 have hp2 := hS.perm hp'
 have hne : o2 ≠ o := fun e1 => (List.nodup_cons.1 hp2.2).1 (List.mem_map.2 ⟨_, hr.mem, e1⟩)
 have ho2 : hp S o2 = .arr v2 cs2 := hp2.1 _ (.tail _ hr.mem)
 obtain ⟨F, T, h2, h3⟩ := h _ (hk.rp hr)
 exact ⟨F, T, a8i ((b3S he ho ho2 hne rfl rfl hx).wk (fun t' => .same _)) h2, h3⟩
end
section
variable {P : Program} {S0 : List Ob} {ow : List Nat} {fr : Fr} {S : List Ob} {L : List It}
theorem b1x {b} {K K0 : Post} {o ver : Nat} {cs : List AV} (j : Nat) (e : Option Nat) {Lf : Nat -> List It} (hS : Sep S L) (hr : ∀ o', Rp L (o, ver, cs) (o, ver, cs.set j (.ref o' 0 0 0 e)) (Lf o')) (hj : cs[j]? = some .nils)
  (h : ∀ o' S', Sep S' ((o', 0, []) :: Lf o') -> Post.thn (fun fr' S' => ∃ F T, Wk S0 fr' S' F T /\ VT P S0 ow b F T K) K0 .normal fr S') :
  Post.thn (fun fr' S' => ∃ F T, Wk S0 fr' S' F T /\ VT P S0 ow b F T K) K0 .normal fr S := by
 have hm := (hr 0).mem
 have ho := hS.at hm
 have h1 : Sep (s9 S S.length (.arr 0 [])) ((S.length, 0, []) :: L) := hS.new
 obtain ⟨F, T, hw, hv⟩ := h S.length _ (h1.rp (Rp.there (hr S.length)))
 exact a1q (fun g0 n a w hat => hw _ _ _ _ (a7I (e := e) ho hj g0 n a w hat)) hv
end
end Go.Ab

/- The library's count of the zeros at a word's end, over this program. -/
namespace Go.Proofs.YtipeiholgieclaaDoor
open Go Go.Ab Go.RowKit
def a5I : Go.Shelf.Ren := ⟨fun | 29 => 54 | n => n, fun | 0 => 0 | 22 => 26 | 25 => 109 | 54 => 114 | n => n, fun | 1 => 0 | n => n⟩
theorem c0F : Lays7.n29 Tryd.prog a5I := {
 mixed := by kernel_rfl
 f29 := Tryd.func54.trans (congrArg some zK)
 t0 := Tryd.underlying0
 a0 := Tryd.isAgg0
 z0 := Tryd.sizeOf0
 v0 := Tryd.zeroValue0
 i0 := by kernel_rfl
 t3 := Tryd.underlying3
 a3 := Tryd.isAgg3
 z3 := Tryd.sizeOf3
 v3 := Tryd.zeroValue3
 i3 := by kernel_rfl
 t4 := Tryd.underlying4
 a4 := Tryd.isAgg4
 z4 := Tryd.sizeOf4
 v4 := Tryd.zeroValue4
 i4 := by kernel_rfl
 t5 := Tryd.underlying5
 a5 := Tryd.isAgg5
 z5 := Tryd.sizeOf5
 v5 := Tryd.zeroValue5
 i5 := by kernel_rfl
 t22 := Tryd.underlying26
 a22 := Tryd.isAgg26
 z22 := Tryd.sizeOf26
 v22 := Tryd.zeroValue26
 i22 := by kernel_rfl
 t25 := Tryd.underlying109
 a25 := Tryd.isAgg109
 z25 := Tryd.sizeOf109
 v25 := Tryd.zeroValue109
 i25 := by kernel_rfl
 t54 := Tryd.underlying114
 a54 := Tryd.isAgg114
 z54 := Tryd.sizeOf114
 g1 := by kernel_rfl }
def k6 (x : Int) : Option Int := if 0 <= x /\ x < 18446744073709551616 then some (Lib.ctz 64 x.toNat : Int) else none
theorem a1b {x : Int} {r : Int} (h : k6 x = some r) : PureEv Tryd.prog 54 [.int .u64 x] (.int .i64 r) := by
 unfold k6 at h
 split at h
 case isFalse => cases h
 rename_i hl
 cases h
 intro g w vals hw hv
 obtain ⟨u, rfl, hu⟩ : ∃ u, vals = #[u] /\ VR g.pm g.L b2h (.int .u64 x) u := by
  obtain ⟨hs, hvv⟩ := hv
  obtain ⟨ll⟩ := vals
  match ll, hs with
  | [u], _ => exact ⟨u, rfl, hvv 0 zS zS⟩
 cases hu
 have hx : (x : Int) = (x.toNat : Int) := by omega
 have hT : TabAt (a5I.g 1) Lib.deBruijn64tab w := by
  obtain ⟨hb, cs, t, fz, e, q⟩ := hw.tab 0 _ rfl
  subst q
  intro j hj
  have := hw.low.block 0 hb
  simp only [World.cell?, show a5I.g 1 = 0 from rfl, this, e]
  have e1 : tzT = Lib.deBruijn64tab.map fun n => ((n : Nat) : Int) := by decide
  have hall : (List.map (fun z => Value.int IntKind.u8 z) tzT).toArray[j]? = some (.int .u8 (Lib.deBruijn64tab.getD j 0 : Nat)) := by
   rw [e1]
   simp [List.getElem?_map, List.getD_eq_getElem?_getD, List.getElem?_eq_getElem hj]
  exact hall
 have := Any7.bits_TrailingZeros64 c0F x.toNat zO w (fun _ => hT)
 rw [<- hx] at this
 refine Calls.mono this ?_
 rintro e w' ⟨rfl, rfl⟩
 exact ⟨_, g, rfl, Gh.le.refl _ _, hw, .int⟩
end Go.Proofs.YtipeiholgieclaaDoor

