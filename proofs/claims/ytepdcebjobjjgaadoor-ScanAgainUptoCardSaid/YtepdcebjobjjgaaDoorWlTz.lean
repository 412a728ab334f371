/- A nil slice in an object's cell as a list without an object. -/
import Derived.Test.YtepdcebjobjjgaaDoorWlK2
import Derived.Test.YtepdcebjobjjgaaDoorRows
import Derived.Test.YtepdcebjobjjgaaDoorChecked
import Derived.Shelf.Spec.TrailingZeros
set_option linter.unusedVariables false
set_option linter.unusedSimpArgs false
namespace Go.Ab
open Go Go.RowKit
theorem WRel.recell {g σ} {w : World} (h : WRel g σ w) {o ver : Nat} {cs cs' : List AV} (e : σ o = .arr ver cs) (hl : cs'.length = cs.length) (hv : ∀ j (h1 : j < cs.length) (h2 : j < cs'.length) u, VR g.pm g.L σ cs[j] u → VR g.pm g.L σ cs'[j] u) :
  WRel g (upd σ o (.arr ver cs')) w ∧ g.le σ g (upd σ o (.arr ver cs')) := by
 have k := h.ob o ver cs e
 have hext : Ext g.pm g.L σ g.pm g.L (upd σ o (.arr ver cs')) := ⟨fun _ _ _ e => e, fun i => by
  by_cases hi : i = o
  ·subst hi; simp [e, y4, hl]
  ·simp [u0 _ _ hi]; exact y4.refl _ _⟩
 refine ⟨⟨h.pm, h.tm, h.tmf, h.disj, h.low, h.B0, h.tab, fun i ver' cs2 e' => ?_, fun i i' v1 v2 c1 c2 e1 e2 hne => ?_⟩, ⟨hext, rfl, rfl, rfl⟩⟩
 ·by_cases hi : i = o
  ·subst hi
   simp at e'
   obtain ⟨rfl, rfl⟩ := e'
   refine ⟨k.low, by rw [hl]; exact k.len, fun m hm => ?_, k.free, k.pm, k.tm⟩
   obtain ⟨u, hu, hr⟩ := k.there m hm
   exact ⟨u, hu, fun hm' => (hv m zO hm' u (hr zO)).mono hext⟩
  ·rw [u0 _ _ hi] at e'
   have k' := h.ob i ver' cs2 e'
   refine ⟨k'.low, k'.len, fun m hm => ?_, k'.free, k'.pm, k'.tm⟩
   obtain ⟨u, hu, hr⟩ := k'.there m hm
   exact ⟨u, hu, fun hm' => (hr hm').mono hext⟩
 ·have a1 : ∃ v c, σ i = .arr v c := by
   by_cases hi : i = o
   ·exact ⟨_, _, hi ▸ e⟩
   ·rw [u0 _ _ hi] at e1; exact ⟨_, _, e1⟩
  have a2 : ∃ v c, σ i' = .arr v c := by
   by_cases hi : i' = o
   ·exact ⟨_, _, hi ▸ e⟩
   ·rw [u0 _ _ hi] at e2; exact ⟨_, _, e2⟩
  obtain ⟨_, _, a1⟩ := a1
  obtain ⟨_, _, a2⟩ := a2
  exact h.sep i i' _ _ _ _ a1 a2 hne
section
variable {P : Program} {S0 : List Ob} {ow : List Nat} {fr : Fr} {S : List Ob} {L : List It}
theorem b1z {o ver j : Nat} {cs : List AV} {e : Option Nat} (ho : hp S o = .arr ver cs) (hj : cs[j]? = some .nils) :
  Wk S0 fr S fr (m5 (m5 S S.length (.arr 0 [])) o (.arr ver (cs.set j (.ref S.length 0 0 0 e)))) := by
 intro g0 n a w hat
 obtain ⟨h0, g, h1, h2, h3⟩ := hat
 have hv := a6T S
 have hos : o ≠ S.length := fun h => by rw [h, hv] at ho; cases ho
 obtain ⟨k1, k2⟩ := h2.own (o := S.length) (l := ⟨0, 0, 0⟩) (ver := 0) (cs := []) (by rw [hv]; exact trivial) (fun h => absurd h (Nat.lt_irrefl 0)) (Nat.le_refl 0) (fun j hj => absurd hj (Nat.not_lt_zero j)) (fun j hj => absurd hj (Nat.not_lt_zero j)) (fun j hj => absurd hj (Nat.not_lt_zero j)) (fun j hj => absurd hj (Nat.not_lt_zero j))
  (fun o' ver' cs' _ _ _ j j' _ hj' => absurd hj' (Nat.not_lt_zero j'))
 rw [← m8] at k1 k2
 have ho1 : hp (m5 S S.length (.arr 0 [])) o = .arr ver cs := by rw [a0B hos]; exact ho
 obtain ⟨q1, q2⟩ := k1.recell (cs' := cs.set j (.ref S.length 0 0 0 e)) ho1 zS (fun i a1 a2 u hu => by
  rw [List.getElem_set]
  split
  ·rename_i hij
   subst hij
   rw [List.getElem?_eq_getElem a1] at hj
   have hj := Option.some.inj hj
   rw [hj] at hu
   cases hu
   refine .refnil ?_
   simp [a3B, a0N]
  ·exact hu)
 rw [← m8] at q1 q2
 exact ⟨h0, _, (h1.trans k2).trans q2, q1, h3.size, fun t => ((h3.get t).mono k2.ext).mono q2.ext⟩
theorem b2R {b} {K K0 : Post} {o ver : Nat} {cs : List AV} (j : Nat) (e : Option Nat) {Lf : Nat → List It} (hS : Sep S L) (hr : ∀ o', Rp L (o, ver, cs) (o, ver, cs.set j (.ref o' 0 0 0 e)) (Lf o')) (hj : cs[j]? = some .nils) (h : ∀ o' S', Sep S' ((o', 0, []) :: Lf o') → VT P S0 ow b fr S' K) :
  Post.thn (fun fr' S' => ∃ F T, Wk S0 fr' S' F T ∧ VT P S0 ow b F T K) K0 .normal fr S := by
 have hm := (hr 0).mem
 have ho := hS.at hm
 refine a3P (b1z (e := e) ho hj) (h S.length _ ?_)
 have h1 : Sep (m5 S S.length (.arr 0 [])) ((S.length, 0, []) :: L) := hS.new
 exact h1.rp (Rp.there (hr S.length))
end
end Go.Ab

/- Heaps of a number of objects that is not known: given by a function. -/
namespace Go.Ab
open Go Go.RowKit
def ofF (n : Nat) (f : Nat → Ob) : List Ob := (List.range n).map f
section
variable {n m : Nat} {f g : Nat → Ob}
theorem a7N : (ofF n f).length = n := by simp [ofF]
theorem a3K {i : Nat} (h : i < n) : hp (ofF n f) i = f i := by simp [hp, ofF, List.getD_eq_getElem?_getD, h]
theorem b6U {i : Nat} (h : i < (ofF n f).length) : (ofF n f)[i] = f i := by simp [ofF]
theorem a3m {α : Type} {f : Nat → α} {o : Nat} {x : α} : upd f o x o = x := by simp [upd]
theorem a1a {α : Type} {f : Nat → α} {o i : Nat} {x : α} (h : i ≠ o) : upd f o x i = f i := by simp [upd, h]
theorem a1b (x : Ob) : ∀ (S : List Ob) (o : Nat), o ≤ S.length → (m5 S o x).length = max S.length (o + 1)
 | [], 0, _ => rfl
 | [], n + 1, h => by simp at h
 | y :: s, 0, _ => by simp only [m5, List.length_cons]; omega
 | y :: s, n + 1, h => by
   have := a1b x s n (by simpa using h)
   simp only [m5, List.length_cons, this]; omega
end
def idM (n : Nat) (m : Nat → Option Nat) : b4b := (List.range n).map (fun i => (m i).map (fun o => (o, 0)))
theorem a7O {n : Nat} {m : Nat → Option Nat} {i : Nat} (h : i < n) : a4z (idM n m) i = (m i).map (fun o => (o, 0)) := by
 simp [a4z, idM, h]
theorem a8T {n : Nat} {m : Nat → Option Nat} (h : ∀ i j o, i < n → j < n → m i = some o → m j = some o → i = j) : a9L (idM n m) = true := by
 simp only [a9L, decide_eq_true_eq]
 have e : ((idM n m).filterMap id).map (·.1) = (List.range n).filterMap m := by
  simp only [idM, List.filterMap_map, List.map_filterMap]
  congr 1
  funext i
  cases hm : m i <;> simp [hm]
 rw [e]
 have hnd : (List.range n).Nodup := List.nodup_range
 have hmem : ∀ x ∈ List.range n, x < n := fun x hx => by simpa using hx
 generalize List.range n = l at hnd hmem
 induction l with
 | nil => simp
 | cons a l ih =>
   have h1 := List.nodup_cons.1 hnd
   have h2 := ih h1.2 (fun x hx => hmem x (List.mem_cons_of_mem _ hx))
   cases hm : m a with
   | none => rw [List.filterMap_cons_none hm]; exact h2
   | some o =>
     rw [List.filterMap_cons_some hm, List.nodup_cons]
     refine ⟨fun hin => ?_, h2⟩
     obtain ⟨b, hb, hbo⟩ := List.mem_filterMap.1 hin
     have := h a b o (hmem a List.mem_cons_self) (hmem b (List.mem_cons_of_mem _ hb)) hm hbo
     subst this
     exact h1.1 hb
abbrev WR (n : Nat) (m : Nat → Option Nat) (S : List Ob) (f : Nat → Ob) : Rn := wkR (idM n m) S (ofF n f)
def b5W (n : Nat) (m : Nat → Option Nat) (S : List Ob) (f : Nat → Ob) (i : Nat) : Prop :=
 match m i with
 | some o => ∃ v cs v' cs', hp S o = .arr v cs ∧ f i = .arr v' cs' ∧ RnL (WR n m S f) 0 cs cs'
 | none => ∃ v', f i = .arr v' []
theorem b0H {Q : Nat → Ob → Prop} : ∀ {l : List Ob} {i : Nat}, (∀ j (h : j < l.length), Q (i + j) l[j]) → a7D Q i l
 | [], _, _ => trivial
 | x :: r, i, h => ⟨h 0 zS, b0H (fun j hj => by
   have := h (j + 1) (by simpa using hj)
   simpa [show i + (j + 1) = i + 1 + j by omega] using this)⟩
theorem b8P {S : List Ob} {n : Nat} {m : Nat → Option Nat} {f : Nat → Ob} (hi : ∀ i j o, i < n → j < n → m i = some o → m j = some o → i = j) (h : ∀ i, i < n → b5W n m S f i) :
  GWk [] S (ofF n f) (RnV (WR n m S f)) := by
 refine o9 (idM n m) (a8T hi) (Nat.zero_le _) (b0H (fun j hj => ?_))
 rw [a7N] at hj
 rw [b6U, Nat.zero_add]
 have k := h j hj
 unfold b5W at k
 have e := a7O (m := m) hj
 cases hm : m j with
 | none =>
   rw [hm] at k e
   obtain ⟨v', e2⟩ := k
   rw [e2]
   exact a7a e rfl rfl
 | some o =>
   rw [hm] at k e
   obtain ⟨v, cs, v', cs', e1, e2, e3⟩ := k
   rw [e2]
   exact a0g e e1 e3 rfl
theorem b4N {S : List Ob} {n : Nat} {m : Nat → Option Nat} {f : Nat → Ob} {fr fr' : Fr} (hi : ∀ i j o, i < n → j < n → m i = some o → m j = some o → i = j) (h : ∀ i, i < n → b5W n m S f i)
  (hf : rnF (WR n m S f) fr fr') : Wk [] fr S fr' (ofF n f) := (b8P hi h).wk (a9M hf)
theorem b0I : ∀ {n : Nat} (i j o : Nat), i < n → j < n → some i = some o → some j = some o → i = j := fun i j o _ _ h1 h2 => by cases h1; cases h2; rfl
section
variable {S : List Ob} {n : Nat} {m : Nat → Option Nat} {f : Nat → Ob}
theorem b2S {i o v v' off : Nat} {cs cs' : List AV} (hi : i < n) (hm : m i = some o) (h1 : hp S o = .arr v cs) (h2 : f i = .arr v' cs') : RnV (WR n m S f) (.ptr o v off) (.ptr i v' off) :=
 .ptr ⟨0, cs, cs', by rw [a7O hi, hm]; rfl, h1, by rw [a3K hi]; exact h2, by omega⟩
theorem a2S {i o v v' k : Nat} {e : Option Nat} {cs cs' : List AV} (hi : i < n) (hm : m i = some o) (h1 : hp S o = .arr v cs) (h2 : f i = .arr v' cs') (hk : k * f5 e ≤ cs'.length) : RnV (WR n m S f) (.ref o v 0 k e) (.ref i v' 0 k e) :=
 .ref ⟨0, cs, cs', by rw [a7O hi, hm]; rfl, h1, by rw [a3K hi]; exact h2, by omega, by omega⟩
theorem a6d {i o v v' k k' : Nat} {e : Option Nat} {cs cs' : List AV} (hkk : k = k') (hi : i < n) (hm : m i = some o) (h1 : hp S o = .arr v cs) (h2 : f i = .arr v' cs') (hk : k' * f5 e ≤ cs'.length) : RnV (WR n m S f) (.ref o v 0 k e) (.ref i v' 0 k' e) := by
 subst hkk; exact a2S hi hm h1 h2 hk
theorem b8Q {i v' : Nat} {e : Option Nat} {cs' : List AV} (hi : i < n) (h2 : f i = .arr v' cs') : RnV (WR n m S f) .nils (.ref i v' 0 0 e) := .nil ⟨cs', by rw [a3K hi]; exact h2⟩
theorem a0l {i o v v' : Nat} {cs cs' : List AV} (hm : m i = some o) (h1 : hp S o = .arr v cs) (h2 : f i = .arr v' cs') (h3 : RnL (WR n m S f) 0 cs cs') : b5W n m S f i := by
 unfold b5W; rw [hm]; exact ⟨v, cs, v', cs', h1, h2, h3⟩
theorem b2T {i v' : Nat} (hm : m i = none) (h2 : f i = .arr v' []) : b5W n m S f i := by
 unfold b5W; rw [hm]; exact ⟨v', h2⟩
theorem a3T {R : Rn} {cs cs' : List AV} (h1 : cs'.length ≤ cs.length) (h : ∀ (j : Nat) (a : j < cs.length) (b : j < cs'.length), RnV R cs[j] cs'[j]) : RnL R 0 cs cs' :=
 ⟨by omega, fun j a b => by simp only [Nat.zero_add] at a ⊢; exact h j a b⟩
end
section
variable {P : Program} {S0 : List Ob} {ow : List Nat} {fr : Fr} {S : List Ob} {log : List LE}
end
end Go.Ab

/- A method that takes the value, where the interface holds a pointer: the step. -/
namespace Go.Ab
section
variable {P : Program} {S0 : List Ob} {ow : List Nat} {fr : Fr} {S : List Ob} {log : List LE} {L L' L0 L1 R : List It}
theorem a3n {d x m args rs t x0 g sh o ver off} {cs : List AV} {y : AV} {K : Fr → List Ob → List LE → Prop} {ags : List AV} {Q : AV → List It → Prop} (c : Tri P g ags L1 Q) (hS : Sep S L) (ex : ev (Fr.get fr) x = .iface t x0) (hm0 : a1Y P t m = none) (hm : a3d P t m = some (g, sh)) (hc : t6 P g = true)
  (hx : x0 = .ptr o ver off) (hi : (o, ver, cs) ∈ L) (hv : a0A sh cs off = some y) (e : y :: evL (Fr.get fr) args = ags) (hp' : Spl L L1 R)
  (h : ∀ v S' L', Q v L' → Sep S' (L' ++ R) → VTops P ow rs ((d, v) :: fr) S' (.eff S S' :: log) K) : VTops P ow (⟨some d, none, .inv x m args⟩ :: rs) fr S log K := by
 obtain ⟨r, S', h1, L', h2, h3⟩ := c R S (hS.spl hp')
 rw [a8G, ex]
 simp only [b4D, hm0]
 unfold a7v
 rw [hm]
 subst hx
 have hl : a4J sh (.ptr o ver off) S = some (y, [o], none) := by
  unfold a4J
  simp [z9, hS.at hi, hv]
 refine ⟨hc, y, [o], r, S', (a7A hl).1, ?_, h r S' L' h2 h3⟩
 rw [e]; exact h1
end
end Go.Ab

/- Further steps b5D separated objects. -/
namespace Go.Ab
open Go Go.RowKit
section
variable {P : Program} {S0 : List Ob} {ow : List Nat} {fr : Fr} {S : List Ob} {log : List LE} {L : List It} {esh : Option Nat}
theorem b2U {a b} {K : Post} {σ : Type} (F : σ → Fr) (Lf : σ → List It) (I : σ → Prop)
  (ha : VT P S0 ow a fr S (Post.thn (fun fr' S' => ∃ s, I s ∧ Sep S' (Lf s) ∧ Wk S0 fr' S' (F s) S') K)) (hb : ∀ s S, I s → Sep S (Lf s) → VT P S0 ow b (F s) S K) :
  VT P S0 ow a fr S (Post.thn (fun fr' S' => ∃ F T, Wk S0 fr' S' F T ∧ VT P S0 ow b F T K) K) :=
 a1v (a1o (fun _ _ ⟨s, h1, h2, h3⟩ => ⟨F s, _, h3, hb s _ h1 h2⟩) (fun _ _ _ h => h)) ha
end
theorem Ev.gwk {P : Program} {f : FuncId} {args : List AV} {S S1 S' : List Ob} {r r' : AV} {R : AV → AV → Prop} (h : Ev P f args (hp S) r (hp S1)) (k : GWk S S1 S' R) (hr : R r r') : Ev P f args (hp S) r' (hp S') := by
 intro g w vals hw hv
 refine (h g w vals hw hv).mono ?_
 rintro e w' ⟨u, g', e1, e2, e3, e4⟩
 obtain ⟨g2, h1, h2, h3⟩ := k g g' w' e2 e3
 exact ⟨u, g2, e1, h1, h2, h3 _ _ _ hr e4⟩
theorem Tri.pure {P : Program} {f : FuncId} {args : List AV} {Q : AV → List It → Prop} {Q' : AV → Prop} (k : Nat) (h : Tri P f args [] Q) (hq : ∀ v L' S, Q v L' → Sep S L' → ∃ r, AVw (frz 0 S k v) r ∧ Q' r) : ∃ r, n5 P f args r ∧ Q' r := by
 obtain ⟨v, S', h1, L', h2, h3⟩ := h [] [] Sep.nil
 rw [List.append_nil] at h3
 obtain ⟨r, h4, h5⟩ := hq v L' S' h2 h3
 refine ⟨r, ?_, h5⟩
 have := h1.gwk ((a9N 0 k zS).trans GWk.refl) ⟨_, rfl, h4⟩
 rw [b5N] at this
 exact this
end Go.Ab

/- One object is frozen: it is dead, and what named it holds its cells. -/
namespace Go.Ab
open Go Go.RowKit
inductive Fz1 (o ver : Nat) (cs : List AV) : AV → AV → Prop
 | same (x) : Fz1 o ver cs x x
 | ref {off n e} (h : off + n * f5 e ≤ cs.length) (h1 : cs.all AV.one = true) : Fz1 o ver cs (.ref o ver off n e) (.sl false (f5 e) (p9 e n (cs.drop off)))
 | ptr {off} : Fz1 o ver cs (.ptr o ver off) (.cptr cs off)
theorem b2V {cs : List AV} (h : cs.all AV.one = true) (n : Nat) : (cs.drop n).all AV.one = true := by
 rw [List.all_eq_true] at h ⊢
 exact fun x hx => h x (List.mem_of_mem_drop hx)
theorem VR.none_to {g : Gh} {S : List Ob} {x : AV} {u : Value} {pm : Pm} {L : Nat → Loc} {σ : Hp} {pm' : Pm} {σ' : Hp} (h : VR pm L σ x u) (hpm : ∀ b o v, pm b o = some v → pm' b o = some v) (hx : x.blw 0 = true) : VR pm' L σ' x u := by
 have h2 : VR pm L σ' x u := h.agree hx (fun o ho => absurd ho (Nat.not_lt_zero o))
 exact h2.mono ⟨hpm, fun o => y4.refl _ _⟩
theorem b6V {S0 S S' : List Ob} {o ver : Nat} {cs : List AV} (ho : hp S o = .arr ver cs) (hb : a1z 0 cs = true) (hd : hp S' o = .dead ver)
  (hs : ∀ i, i ≠ o → hp S' i = hp S i ∨ ∃ v c c', hp S i = .arr v c ∧ hp S' i = .arr v c' ∧ c'.length = c.length ∧ ∀ j (h1 : j < c.length) (h2 : j < c'.length), Fz1 o ver cs c[j] c'[j]) : GWk S0 S S' (Fz1 o ver cs) := by
 intro g0 g w h1 h2
 classical
 let reg : Nat → Nat → Prop := fun b a => (g.L o).b = b ∧ ∃ j, j < cs.length ∧ (g.L o).off + j = a
 let pm' : Pm := fun b a => if reg b a then w.cell? ⟨b, a, none⟩ else g.pm b a
 have q := h2.ob o ver cs ho
 have hnp : ∀ b a v, g.pm b a = some v → ¬ reg b a := by
  rintro b a v e ⟨rfl, j, hj, rfl⟩
  rw [q.pm j (by have := q.len; omega)] at e; cases e
 have hpm : ∀ b a v, g.pm b a = some v → pm' b a = some v := fun b a v e => by
  simp only [pm']; rw [if_neg (hnp _ _ _ e)]; exact e
 have hσ : ∀ i, y4 (hp S i) (g.L i) (hp S' i) (g.L i) := fun i => by
  by_cases hi : i = o
  ·subst hi; rw [hd, ho]; exact Nat.le_refl _
  ·rcases hs i hi with e | ⟨v, c, c', e1, e2, e3, _⟩
   ·rw [e]; exact y4.refl _ _
   ·rw [e1, e2]; exact .inr ⟨rfl, rfl, e3⟩
 have hin : ∀ i v c', hp S' i = .arr v c' → i ≠ o ∧ ∃ c, hp S i = .arr v c ∧ c'.length = c.length ∧ ∀ j (h1 : j < c.length) (h2 : j < c'.length), Fz1 o ver cs c[j] c'[j] := fun i v c' e => by
  have hi : i ≠ o := fun h => by rw [h, hd] at e; cases e
  refine ⟨hi, ?_⟩
  rcases hs i hi with e1 | ⟨v1, c1, c1', e1, e2, e3, e4⟩
  ·rw [e1] at e; exact ⟨c', e, rfl, fun j _ _ => .same _⟩
  ·rw [e2] at e; cases e; exact ⟨c1, e1, e3, e4⟩
 have hext : Ext g.pm g.L (hp S) pm' g.L (hp S') := ⟨hpm, hσ⟩
 have hcell : ∀ j, j < cs.length → pm' (g.L o).b ((g.L o).off + j) = some ((w.cell? ⟨(g.L o).b, (g.L o).off + j, none⟩).getD undef) := fun j hj => by
  obtain ⟨v, hv, _⟩ := q.there j (by have := q.len; omega)
  have hreg : reg (g.L o).b ((g.L o).off + j) := ⟨rfl, j, hj, rfl⟩
  simp only [pm']; rw [if_pos hreg, hv]; rfl
 have hval : ∀ j (hj : j < cs.length), VR pm' g.L (hp S') cs[j] ((w.cell? ⟨(g.L o).b, (g.L o).off + j, none⟩).getD undef) := fun j hj => by
  obtain ⟨v, hv, hr⟩ := q.there j (by have := q.len; omega)
  rw [hv]
  exact (hr hj).none_to (g := g) (S := S) hpm (a1n.1 hb _ (List.getElem_mem hj))
 have key : ∀ {x y : AV} {u : Value}, Fz1 o ver cs x y → VR g.pm g.L (hp S) x u → VR pm' g.L (hp S') y u := fun {x y u} r hv => by
  cases r with
  | same => exact hv.mono hext
  | @ref off n e hl ha =>
    cases hv with
    | @ref _ _ _ _ _ a cap hn hs hr =>
      unfold a0U at hr
      rw [ho] at hr
      obtain ⟨rfl, r2, r3, r4⟩ := hr.2 rfl
      exact VR.told (us := fun j => (w.cell? ⟨(g.L o).b, (g.L o).off + (off + j), none⟩).getD undef) zE (b2V ha off) (fun j hj => by rw [Nat.add_assoc]; exact hcell (off + j) zO)
       (fun j hj hj2 => by
        simp only [List.getElem_drop]
        exact hval (off + j) (by rw [List.length_drop] at hj; omega)) hn (by intro e; cases e)
    | @refnil _ _ _ _ hv =>
      have : ∀ l : List AV, p9 e 0 l = [] := fun l => by cases e <;> simp [p9, a2e]
      rw [this]; exact .slz'
  | @ptr off =>
    cases hv with
    | @ptr _ _ _ a hpt =>
      unfold a1s at hpt
      rw [ho] at hpt
      obtain rfl := hpt.2 rfl
      exact .cptr _ (fun j hj => hcell j hj) (fun j hj => hval j hj)
 refine ⟨{ g with pm := pm' }, ⟨⟨fun b a v e => hpm _ _ _ (h1.ext.pm _ _ _ e), fun i => (h1.ext.ob i).trans (hσ i)⟩, h1.tm, h1.B0, h1.w0⟩, ⟨fun b a v e => ?_, h2.tm, h2.tmf, fun b a v e => ?_, h2.low, h2.B0, h2.tab, fun i v c' e => ?_, fun i i' v v' c c' e e' hne => ?_⟩, fun x y u r hv => key r hv⟩
 ·replace e : (if reg b a then w.cell? ⟨b, a, none⟩ else g.pm b a) = some v := e
  split at e
  ·exact e
  ·exact h2.pm _ _ _ e
 ·replace e : (if reg b a then w.cell? ⟨b, a, none⟩ else g.pm b a) = some v := e
  split at e
  ·rename_i hr
   obtain ⟨rfl, j, hj, rfl⟩ := hr
   exact q.tm j (by have := q.len; omega)
  ·exact h2.disj _ _ _ e
 ·obtain ⟨hi, c, e1, e2, e3⟩ := hin _ _ _ e
  have k := h2.ob i v c e1
  refine ⟨k.low, by rw [e2]; exact k.len, fun j hj => ?_, k.free, fun j hj => ?_, k.tm⟩
  ·obtain ⟨u, hu, hr⟩ := k.there j hj
   exact ⟨u, hu, fun hj' => key (e3 j zO hj') (hr zO)⟩
  ·show (if reg _ _ then _ else _) = _
   rw [if_neg]
   ·exact k.pm j hj
   ·rintro ⟨hbb, j', hj', he⟩
    exact h2.sep o i _ _ _ _ ho e1 (fun h => hi h.symm) hbb j' j (by have := q.len; omega) hj he
 ·obtain ⟨_, c1, e1, _⟩ := hin _ _ _ e
  obtain ⟨_, c2, e2, _⟩ := hin _ _ _ e'
  exact h2.sep i i' _ _ _ _ e1 e2 hne
section
variable {P : Program} {S0 : List Ob} {ow : List Nat} {fr : Fr} {S : List Ob} {L L' L0 : List It} {α : Type} {f : α → AV} {e : Option Nat}
theorem Sep.kill {o ver : Nat} {cs : List AV} {x : Ob} (hS : Sep S L) (hp' : Pk L (o, ver, cs) L0) : Sep (m5 S o x) L0 := by
 have h := hS.perm hp'
 refine ⟨fun p hm => ?_, (List.nodup_cons.1 h.2).2⟩
 have hne : p.1 ≠ o := fun e1 => (List.nodup_cons.1 h.2).1 (by rw [← e1]; exact List.mem_map.2 ⟨p, hm, rfl⟩)
 rw [a0B hne]
 exact h.1 p (List.mem_cons_of_mem _ hm)
theorem b4O (he : Enc f e) {o ver : Nat} {l : List α} {j : List AV} (h1 : j.all AV.one = true) : Fz1 o ver (flat f l ++ j) (.ref o ver 0 l.length e) (.sl false (f5 e) (l.map f)) := by
 have hl : (flat f l).length = l.length * f5 e := he.length l
 have ha : (flat f l ++ j).all AV.one = true := by rw [List.all_append, he.all, h1]; rfl
 have := Fz1.ref (o := o) (ver := ver) (cs := flat f l ++ j) (off := 0) (n := l.length) (e := e) (by rw [List.length_append, hl]; omega) ha
 have key : p9 e l.length ((flat f l ++ j).drop 0) = l.map f := by
  rw [List.drop_zero]
  have : p9 e l.length (flat f l ++ j) = p9 e l.length (flat f l) := by
   cases e with
   | none =>
     simp only [p9]
     rw [List.take_append_of_le_length (by rw [hl]; simp [f5])]
   | some n =>
     simp only [p9]
     have : ∀ (k : Nat) (xs : List AV), xs.length = k * n → a2e n k (xs ++ j) = a2e n k xs := by
      intro k
      induction k with
      | zero => intro xs _; rfl
      | succ k ih =>
        intro xs hx
        have hn : n ≤ xs.length := by rw [hx, Nat.add_mul]; omega
        simp only [a2e]
        rw [List.take_append_of_le_length hn, List.drop_append_of_le_length hn, ih _ (by rw [List.length_drop, hx, Nat.add_mul]; omega)]
     exact this _ _ (by rw [hl]; rfl)
  rw [this, he.elems]
 rw [key] at this
 exact this
theorem b4P (he : Enc f e) {l : List α} {j : List AV} (hj : a1z 0 j = true) : a1z 0 (flat f l ++ j) = true := by
 rw [a1n]; intro x hx
 rcases List.mem_append.1 hx with h | h
 ·exact a1n.1 (he.blwf 0 l) _ h
 ·exact a1n.1 hj _ h
theorem b6W {o ver o2 v2 jx : Nat} {l : List α} {j cs2 : List AV} (he : Enc f e) (ho : hp S o = .arr ver (flat f l ++ j)) (ho2 : hp S o2 = .arr v2 cs2) (hne : o2 ≠ o) (hj : a1z 0 j = true) (h1 : j.all AV.one = true) (hx : cs2[jx]? = some (.ref o ver 0 l.length e)) :
  GWk S0 S (m5 (m5 S o (.dead ver)) o2 (.arr v2 (cs2.set jx (.sl false (f5 e) (l.map f))))) (Fz1 o ver (flat f l ++ j)) := by
 refine b6V ho (b4P he hj) (by rw [a0B (fun h => hne h.symm), a0N]) (fun i hi => ?_)
 by_cases h2 : i = o2
 ·subst h2
  refine .inr ⟨v2, cs2, _, ho2, a0N, by simp, fun k k1 k2 => ?_⟩
  rw [List.getElem_set]
  split
  ·rename_i e1
   subst e1
   rw [List.getElem?_eq_getElem k1] at hx
   rw [Option.some.inj hx]
   exact b4O he h1
  ·exact .same _
 ·rw [a0B h2, a0B hi]; exact .inl rfl
theorem b8R {b} {K K0 : Post} {F : Fr} {o ver o2 v2 jx : Nat} {l : List α} {cs2 : List AV} (he : Enc f e) (hw : Wk S0 fr S F S) (hS : Sep S L) (hp' : Pk L (o, ver, flat f l) L0) (hx : cs2[jx]? = some (.ref o ver 0 l.length e)) (hr : Rp L0 (o2, v2, cs2) (o2, v2, cs2.set jx (.sl false (f5 e) (l.map f))) L')
  (h : ∀ S', Sep S' L' → VT P S0 ow b F S' K) : Post.thn (fun fr' S' => ∃ F T, Wk S0 fr' S' F T ∧ VT P S0 ow b F T K) K0 .normal fr S := by
 rw [← List.append_nil (flat f l)] at hp'
 have ho := hS.at (hp'.mem_iff.2 (.head _))
 have hk := hS.kill (x := .dead ver) hp'
 have hp2 := hS.perm hp'
 have hne : o2 ≠ o := fun e1 => (List.nodup_cons.1 hp2.2).1 (List.mem_map.2 ⟨_, hr.mem, e1⟩)
 have ho2 : hp S o2 = .arr v2 cs2 := hp2.1 _ (.tail _ hr.mem)
 exact a3P (a4i hw ((b6W he ho ho2 hne rfl rfl hx).wk (fun t' => .same _))) (h _ (hk.rp hr))
end
end Go.Ab

/- A a5F that leaves one list of its own: one answer for all heaps. -/
namespace Go.Ab
open Go Go.RowKit
section
variable {P : Program} {f : FuncId} {args : List AV} {α : Type} {g : α → AV} {e : Option Nat}
theorem Tri.base (he : Enc g e) {Q : List α → AV → Prop} (h : Tri P f args [] (fun r L' => ∃ oo l x, r = .tup [.ref oo 0 0 l.length e, x] ∧ x.blw 0 = true ∧ L' = [(oo, 0, flat g l)] ∧ Q l x)) :
  ∃ l x, Q l x ∧ x.blw 0 = true ∧ Ev P f args (hp []) (.tup [.ref 0 0 0 l.length e, x]) (hp [.arr 0 (flat g l)]) := by
 obtain ⟨r, S', h1, L', ⟨oo, l, x, rfl, hx, rfl, hq⟩, hS⟩ := h [] [] Sep.nil
 refine ⟨l, x, hq, hx, ?_⟩
 have ho : hp S' oo = .arr 0 (flat g l) := hS.at (.head _)
 have hn : hp [Ob.arr 0 (flat g l)] 0 = .arr 0 (flat g l) := rfl
 refine h1.gwk (o9 (S0 := []) (S := S') (S' := [.arr 0 (flat g l)]) [some (oo, 0)] (by simp [a9L]) (Nat.zero_le _) ⟨?_, trivial⟩) ?_
 ·exact ⟨0, flat g l, ho, .refl (he.blwf 0 l), fun h => absurd h (Nat.not_lt_zero _)⟩
 ·refine .tup rfl (fun j h1 h2 => ?_)
  match j, h1 with
  | 0, _ => exact .ref ⟨0, flat g l, flat g l, rfl, ho, hn, rfl, by rw [he.length l]; omega⟩
  | 1, _ => exact .base hx (.refl _)
theorem Ev.tri1 (he : Enc g e) {l : List α} {x : AV} (h : Ev P f args (hp []) (.tup [.ref 0 0 0 l.length e, x]) (hp [.arr 0 (flat g l)])) (hb : a1z 0 args = true) (hx : x.blw 0 = true) :
  Tri P f args [] (fun r L' => ∃ oo, r = .tup [.ref oo 0 0 l.length e, x] ∧ L' = [(oo, 0, flat g l)]) := fun R S hS => by
 have hn : hp (m5 S S.length (.arr 0 (flat g l))) S.length = .arr 0 (flat g l) := a0N
 refine ⟨.tup [.ref S.length 0 0 l.length e, x], m5 S S.length (.arr 0 (flat g l)), h.frame [] rfl .nil (Nat.zero_le _) (by rw [a1b _ _ _ (Nat.le_refl _)]; simp) trivial ⟨?_, trivial⟩ (fun i hi _ => a0B zO) rfl (.refl hb) ?_, _, ⟨_, rfl, rfl⟩, ?_⟩
 ·exact fr_outN (by simpa [frN] using hn) rfl (.refl (he.blwf 0 l)) rfl
 ·refine .tup rfl (fun j h1 h2 => ?_)
  match j, h1 with
  | 0, _ => exact .ref ⟨by simp, by simp [frN], ⟨_, rfl⟩, ⟨_, hn⟩, rfl⟩
  | 1, _ => exact .base hx (.refl _)
 ·exact Sep.new hS
end
section
variable {P : Program} {S0 : List Ob} {ow : List Nat} {fr : Fr} {S : List Ob} {L : List It}
theorem a9Q {a b} {K : Post} {σ : Type} (F : σ → Fr) (Lf : σ → List It) (I : σ → Prop)
  (ha : VT P S0 ow a fr S (Post.thn (fun fr' S' => ∃ s T, I s ∧ Sep T (Lf s) ∧ Wk S0 fr' S' (F s) T) K)) (hb : ∀ s S, I s → Sep S (Lf s) → VT P S0 ow b (F s) S K) :
  VT P S0 ow a fr S (Post.thn (fun fr' S' => ∃ F T, Wk S0 fr' S' F T ∧ VT P S0 ow b F T K) K) :=
 a1v (a1o (fun _ _ ⟨s, T, h1, h2, h3⟩ => ⟨F s, T, h3, hb s _ h1 h2⟩) (fun _ _ _ h => h)) ha
theorem a6e {K0 : Post} {σ : Type} {F : σ → Fr} {Lf : σ → List It} {I : σ → Prop} (s : σ) (h1 : I s) (h2 : Sep S (Lf s)) (h3 : Wk S0 fr S (F s) S) : Post.thn (fun fr' S' => ∃ s T, I s ∧ Sep T (Lf s) ∧ Wk S0 fr' S' (F s) T) K0 .normal fr S := ⟨s, S, h1, h2, h3⟩
theorem a6f {K0 : Post} {F : Nat → Fr} {Lf : Nat → List It} {I : Nat → Prop} (d : Nat) (e : Option Nat) (hS : Sep S L) (hd : Fr.get fr d = .nils) (h1 : ∀ o, I o) (h2 : ∀ o S', Sep S' ((o, 0, []) :: L) → Sep S' (Lf o)) (h3 : ∀ o S', Wk S0 ((d, .ref o 0 0 0 e) :: fr) S' (F o) S') :
  Post.thn (fun fr' S' => ∃ s T, I s ∧ Sep T (Lf s) ∧ Wk S0 fr' S' (F s) T) K0 .normal fr S := ⟨_, _, h1 _, h2 _ _ hS.new, a4i (a8R hd) (h3 _ _)⟩
end
end Go.Ab

/- The library's count of the zeros at a word's end, b5D this program. -/
namespace Go.Proofs.YtepdcebjobjjgaaDoor
open Go Go.Ab Go.RowKit
def a4O : Go.Shelf.Ren := ⟨fun | 29 => 79 | n => n, fun | 0 => 0 | 22 => 41 | 25 => 38 | 54 => 147 | n => n, fun | 1 => 0 | n => n⟩
theorem b8S : Lays7.n29 Tryd.prog a4O := {
 mixed := by kernel_rfl
 f29 := Tryd.func79.trans (congrArg some zK)
 t0 := Tryd.underlying0
 a0 := Tryd.isAgg0
 z0 := Tryd.sizeOf0
 v0 := Tryd.zeroValue0
 i0 := by kernel_rfl
 t3 := Tryd.underlying3
 a3 := Tryd.isAgg3
 z3 := Tryd.sizeOf3
 v3 := Tryd.zeroValue3
 i3 := by kernel_rfl
 t4 := Tryd.underlying4
 a4 := Tryd.isAgg4
 z4 := Tryd.sizeOf4
 v4 := Tryd.zeroValue4
 i4 := by kernel_rfl
 t5 := Tryd.underlying5
 a5 := Tryd.isAgg5
 z5 := Tryd.sizeOf5
 v5 := Tryd.zeroValue5
 i5 := by kernel_rfl
 t22 := Tryd.underlying41
 a22 := Tryd.isAgg41
 z22 := Tryd.sizeOf41
 v22 := Tryd.zeroValue41
 i22 := by kernel_rfl
 t25 := Tryd.underlying38
 a25 := Tryd.isAgg38
 z25 := Tryd.sizeOf38
 v25 := Tryd.zeroValue38
 i25 := by kernel_rfl
 t54 := Tryd.underlying147
 a54 := Tryd.isAgg147
 z54 := Tryd.sizeOf147
 g1 := by kernel_rfl }
def j9 (x : Int) : Option Int := if 0 ≤ x ∧ x < 18446744073709551616 then some (Lib.ctz 64 x.toNat : Int) else none
theorem a0w {x : Int} {r : Int} (h : j9 x = some r) : n5 Tryd.prog 79 [.int .u64 x] (.int .i64 r) := by
 unfold j9 at h
 split at h
 case isFalse => cases h
 rename_i hl
 cases h
 intro g w vals hw hv
 obtain ⟨u, rfl, hu⟩ : ∃ u, vals = #[u] ∧ VR g.pm g.L b1m (.int .u64 x) u := by
  obtain ⟨hs, hvv⟩ := hv
  obtain ⟨ll⟩ := vals
  match ll, hs with
  | [u], _ => exact ⟨u, rfl, hvv 0 zS zS⟩
 cases hu
 have hx : (x : Int) = (x.toNat : Int) := by omega
 have hT : TabAt (a4O.g 1) Lib.deBruijn64tab w := by
  obtain ⟨hb, cs, t, fz, e, q⟩ := hw.tab 0 _ rfl
  subst q
  intro j hj
  have := hw.low.block 0 hb
  simp only [World.cell?, show a4O.g 1 = 0 from rfl, this, e]
  have e1 : tzT = Lib.deBruijn64tab.map fun n => ((n : Nat) : Int) := by decide
  have hall : (List.map (fun z => Value.int IntKind.u8 z) tzT).toArray[j]? = some (.int .u8 (Lib.deBruijn64tab.getD j 0 : Nat)) := by
   rw [e1]
   simp [List.getElem?_map, List.getD_eq_getElem?_getD, List.getElem?_eq_getElem hj]
  exact hall
 have := Any7.bits_TrailingZeros64 b8S x.toNat zO w (fun _ => hT)
 rw [← hx] at this
 refine Calls.mono this ?_
 rintro e w' ⟨rfl, rfl⟩
 exact ⟨_, g, rfl, Gh.le.refl _ _, hw, .int⟩
end Go.Proofs.YtepdcebjobjjgaaDoor

