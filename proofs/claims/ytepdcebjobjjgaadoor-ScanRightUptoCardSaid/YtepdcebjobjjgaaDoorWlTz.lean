/- Heaps told by the objects that matter; contracts with a frame; steps b5F them. -/
import Derived.Test.YtepdcebjobjjgaaDoorWlH2
import Derived.Test.YtepdcebjobjjgaaDoorRows
import Derived.Test.YtepdcebjobjjgaaDoorChecked
import Derived.Shelf.Spec.TrailingZeros
set_option linter.unusedVariables false
set_option linter.unusedSimpArgs false
namespace Go.Ab
open Go Go.RowKit

abbrev It := Nat × Nat × List AV
def Sep (S : List Ob) (L : List It) : Prop := (∀ p ∈ L, hp S p.1 = .arr p.2.1 p.2.2) /\ (L.map (·.1)).Nodup
section
variable {S : List Ob} {L L' L0 L1 A B C R : List It} {o v v' : Nat} {cs cs' : List AV} {p p' q : It}
theorem Sep.at (h : Sep S L) (m : (o, v, cs) ∈ L) : hp S o = .arr v cs := h.1 _ m
theorem Sep.nil : Sep S [] := ⟨fun _ h => by simp at h, by simp⟩
theorem Sep.perm (h : Sep S L) (k : L.Perm L') : Sep S L' := ⟨fun p hm => h.1 p (k.mem_iff.2 hm), (k.map _).nodup_iff.1 h.2⟩
theorem Sep.sub (h : Sep S L) (k : L'.Sublist L) : Sep S L' := ⟨fun p hm => h.1 p (k.subset hm), h.2.sublist (k.map _)⟩
theorem Sep.left (h : Sep S (A ++ B)) : Sep S A := h.sub (List.sublist_append_left A B)
theorem Sep.lt (h : Sep S L) (m : p ∈ L) : p.1 < S.length := a6j (h.1 p m)
theorem a3t {i : Nat} {x : Ob} (h : i ≠ o) : hp (p8 S o x) i = hp S i := by rw [o8, v7 _ _ h]
theorem a2n {x : Ob} : hp (p8 S o x) o = x := by rw [o8, a3k]
theorem Sep.set (h : Sep S ((o, v, cs) :: L)) : Sep (p8 S o (.arr v' cs')) ((o, v', cs') :: L) := by
 have hn := h.2
 simp only [List.map_cons, List.nodup_cons] at hn
 refine ⟨fun p hm => ?_, by simpa only [List.map_cons, List.nodup_cons] using hn⟩
 rcases List.mem_cons.1 hm with rfl | hm
 ·exact a2n
 ·have hne : p.1 ≠ o := fun e => hn.1 (by rw [<- e]; exact List.mem_map_of_mem hm)
  rw [a3t hne]
  exact h.1 p (List.mem_cons_of_mem _ hm)
theorem Sep.new (h : Sep S L) : Sep (p8 S S.length (.arr v cs)) ((S.length, v, cs) :: L) := by
 refine ⟨fun p hm => ?_, ?_⟩
 ·rcases List.mem_cons.1 hm with rfl | hm
  ·exact a2n
  ·rw [a3t (fun e => by have := h.lt hm; omega)]
   exact h.1 p hm
 ·simp only [List.map_cons, List.nodup_cons]
  refine ⟨fun hm => ?_, h.2⟩
  obtain ⟨p, hp1, hp2⟩ := List.mem_map.1 hm
  have := h.lt hp1
  omega
def Rp (L : List It) (p p' : It) (L' : List It) : Prop := p.1 = p'.1 /\ ∃ A B, L = A ++ p :: B /\ L' = A ++ p' :: B
theorem Rp.here (e : p.1 = p'.1 := by rfl) : Rp (p :: L) p p' (p' :: L) := ⟨e, [], L, rfl, rfl⟩
theorem Rp.there (h : Rp L p p' L') : Rp (q :: L) p p' (q :: L') := by
 obtain ⟨e, A, B, rfl, rfl⟩ := h
 exact ⟨e, q :: A, B, rfl, rfl⟩
theorem Rp.skip (h : Rp L p p' L') : Rp (C ++ L) p p' (C ++ L') := by
 obtain ⟨e, A, B, rfl, rfl⟩ := h
 exact ⟨e, C ++ A, B, by simp, by simp⟩
theorem Rp.mem (h : Rp L p p' L') : p ∈ L := by obtain ⟨_, A, B, rfl, rfl⟩ := h; simp
theorem a6A {α : Type} {A B : List α} {x : α} : (A ++ x :: B).Perm (x :: (A ++ B)) := List.perm_middle
theorem Sep.rp (h : Sep S L) (k : Rp L (o, v, cs) (o, v', cs') L') : Sep (p8 S o (.arr v' cs')) L' := by
 obtain ⟨_, A, B, rfl, rfl⟩ := k
 exact (Sep.set (h.perm a6A)).perm a6A.symm
def Pk (L : List It) (p : It) (L0 : List It) : Prop := L.Perm (p :: L0)
def PkC (L C L0 : List It) : Prop := L.Perm (C ++ L0)
def Spl (L L1 R : List It) : Prop := L.Perm (L1 ++ R)
theorem Pk.here : Pk (p :: L) p L := .refl _
theorem Pk.there (h : Pk L p L0) : Pk (q :: L) p (q :: L0) := (List.Perm.cons q h).trans (.swap _ _ _)
theorem Pk.skip (h : Pk L p L0) : Pk (C ++ L) p (C ++ L0) := (List.Perm.append_left C h).trans a6A
theorem PkC.here : PkC (C ++ L) C L := .refl _
theorem PkC.there (h : PkC L C L0) : PkC (q :: L) C (q :: L0) := (List.Perm.cons q h).trans a6A.symm
theorem PkC.skip (h : PkC L C L0) : PkC (A ++ L) C (A ++ L0) := by
 refine (List.Perm.append_left A h).trans ?_
 rw [<- List.append_assoc, <- List.append_assoc]
 exact List.Perm.append_right _ List.perm_append_comm
theorem PkC.all : PkC C C [] := by unfold PkC; rw [List.append_nil]
theorem Spl.nil : Spl L [] L := .refl _
theorem Spl.cons (h : Pk L p L0) (k : Spl L0 L1 R) : Spl L (p :: L1) R := h.trans (List.Perm.cons p k)
theorem Spl.app (h : PkC L C L0) (k : Spl L0 L1 R) : Spl L (C ++ L1) R := by
 refine h.trans ((List.Perm.append_left C k).trans ?_)
 rw [List.append_assoc]
theorem Sep.spl (h : Sep S L) (k : Spl L L1 R) : Sep S (L1 ++ R) := h.perm k
theorem Sep.take (h : Sep S L) (k : Spl L L1 R) : Sep S L1 := (h.perm k).left
end

def Tri (P : Program) (f : FuncId) (args : List AV) (L : List It) (Q : AV -> List It -> Prop) : Prop :=
 ∀ R S, Sep S (L ++ R) -> ∃ r S', Ev P f args (hp S) r (hp S') /\ ∃ L', Q r L' /\ Sep S' (L' ++ R)
section
variable {P : Program} {f : FuncId} {args : List AV} {L L0 : List It} {Q Q' : AV -> List It -> Prop}
theorem Tri.mono (h : Tri P f args L Q) (k : ∀ r L', Q r L' -> Q' r L') : Tri P f args L Q' := fun R S hS => by
 obtain ⟨r, S', h1, L', h2, h3⟩ := h R S hS
 exact ⟨r, S', h1, L', k _ _ h2, h3⟩
theorem m5.tri {r : AV} (h : m5 P f args r) (h1 : a2B 0 args = true) (h2 : r.blw 0 = true) : Tri P f args [] (fun v L' => v = r /\ L' = []) := fun R S hS =>
 ⟨r, S, h.frame h1 h2 _, [], ⟨rfl, rfl⟩, hS⟩
theorem c2v {n : Nat} {ts : List RS} {fc : FC} (hm : P.follows .mixedOrders = true) (hfn : Fn3 P f n ts fc) (hn : args.length <= n) {S : List Ob} (ow : List Nat) {Q : AV -> List Ob -> Prop}
  (h : VT P S ow fc (a3E 0 args) S (fun e fr1 S1 => a7M e /\ ∃ v, a5h S1 (Fr.get fr1) ts = some v /\ Q v S1)) : ∃ r S', Ev P f args (hp S) r (hp S') /\ Q r S' := by
 obtain ⟨e, fr', S', ⟨he, v, h1, h2⟩, h3⟩ := b9Z h
 exact ⟨v, S', a1f hm hfn hn ow (h3 _ ⟨he, v, _, h1, GWk.refl, .refl _⟩), h2⟩
theorem a0n {n : Nat} {ts : List RS} {fc : FC} (hm : P.follows .mixedOrders = true) (hfn : Fn3 P f n ts fc) (hn : args.length <= n) (ow : List Nat)
  (h : ∀ R S, Sep S (L ++ R) -> VT P S ow fc (a3E 0 args) S (fun e fr1 S1 => a7M e /\ ∃ v, a5h S1 (Fr.get fr1) ts = some v /\ ∃ L', Q v L' /\ Sep S1 (L' ++ R))) : Tri P f args L Q := fun R S hS =>
 c2v hm hfn hn ow (h R S hS)
end

section
variable {P : Program} {S0 : List Ob} {ow : List Nat} {fr : Fr} {S : List Ob} {log : List LE} {L L' L0 L1 R : List It} {α : Type} {f : α -> AV} {esh : Option Nat}
theorem v8 {d a sh rs} {K : Fr -> List Ob -> List LE -> Prop} {o ver p} {cs : List AV} {v : AV} (hS : Sep S L) (e : ev (Fr.get fr) a = .ptr o ver p) (hm : (o, ver, cs) ∈ L)
  (hv : a0M sh cs p = some v) (h : VTops P ow rs ((d, v) :: fr) S (.acc [o] none :: log) K) : VTops P ow (⟨some d, none, .op (.load sh a)⟩ :: rs) fr S log K := b0b e (hS.at hm) hv h
theorem E_stS {a x nn rs} {K : Fr -> List Ob -> List LE -> Prop} {o ver p} {cs : List AV} {xv : AV} (hS : Sep S L) (e : ev (Fr.get fr) a = .ptr o ver p) (ex : ev (Fr.get fr) x = xv)
  (hr : Rp L (o, ver, cs) (o, ver, splice cs p xv.cells) L') (hx : xv.cells.length = nn) (h1 : xv.cells.all AV.one = true) (hfit : p + nn <= cs.length)
  (h : ∀ S', Sep S' L' -> VTops P ow rs fr S' (.acc [o] (some o) :: log) K) : VTops P ow (⟨none, none, .op (.store nn a x)⟩ :: rs) fr S log K :=
 b4e e ex (hS.at hr.mem) hx h1 hfit rfl (h _ (hS.rp hr))
theorem b1d {d cs rs} {K : Fr -> List Ob -> List LE -> Prop} (hS : Sep S L) (how : ow.contains d = true) (h : ∀ o S', Sep S' ((o, 0, cs) :: L) -> VTops P ow rs ((d, .ptr o 0 0) :: fr) S' (.acc [o] (some o) :: log) K) :
  VTops P ow (⟨some d, none, .op (.new cs)⟩ :: rs) fr S log K := by
 refine a1d (v := .ptr S.length 0 0) (rd := []) (δ := some (S.length, .arr 0 cs)) ?_ rfl rfl (h _ _ hS.new)
 simp only [opV, b7U, how, if_true]
theorem b8r {d x rs} {K : Fr -> List Ob -> List LE -> Prop} {xv : AV} (hS : Sep S L) (how : ow.contains d = true) (e : ev (Fr.get fr) x = xv) (hj : xv.nj = true) (h : ∀ o S', Sep S' ((o, 0, xv.cells) :: L) -> VTops P ow rs ((d, .ptr o 0 0) :: fr) S' (.acc [o] (some o) :: log) K) :
  VTops P ow (⟨some d, none, .op (.box x)⟩ :: rs) fr S log K := by
 refine a1d (v := .ptr S.length 0 0) (rd := []) (δ := some (S.length, .arr 0 xv.cells)) ?_ rfl rfl (h _ _ hS.new)
 simp only [opV, b7U, how, if_true, e, hj]
theorem b2M {d} {bytes : Nat} {z l c rs} {K : Fr -> List Ob -> List LE -> Prop} {k k' n n'} {x : α} (hS : Sep S L) (he : Enc f esh) (how : ow.contains d = true) (e : ev (Fr.get fr) l = .int k n) (e1 : ev (Fr.get fr) c = .int k' n') (hz : (f x).cells = z)
  (hn : 0 <= n /\ n <= n' /\ n' * bytes <= 281474976710656 /\ n' <= 281474976710656)
  (h : ∀ o S', Sep S' ((o, 0, flat f (List.replicate n.toNat x)) :: L) -> VTops P ow rs ((d, .ref o 0 0 n.toNat esh) :: fr) S' (.acc [o] (some o) :: log) K) : VTops P ow (⟨some d, none, .op (.mksl esh bytes z l c)⟩ :: rs) fr S log K :=
 c0g he how e e1 hz hn rfl (h _ _ hS.new)
theorem b4f (he : Enc f esh) (l : List α) (x : List AV) : (flat f l ++ x).take (l.length * g8 esh) = flat f l := by
 rw [<- he.length l, List.take_left]
theorem a7R {d bytes s x rs} {K : Fr -> List Ob -> List LE -> Prop} {o ver : Nat} {l m : List α} {j : List AV} {rdx : List Nat} (hS : Sep S L) (he : Enc f esh) (e : ev (Fr.get fr) s = .ref o ver 0 l.length esh) (e2 : b1O esh (ev (Fr.get fr) x) S = some (m.length, flat f m, rdx))
  (hr : Rp L (o, ver, flat f l ++ j) (o, ver + 1, flat f (l ++ m)) L') (hb : (l.length + m.length) * bytes <= 140737488355328 /\ l.length + m.length <= 140737488355328)
  (h : ∀ S', Sep S' L' -> VTops P ow rs ((d, .ref o (ver + 1) 0 (l ++ m).length esh) :: fr) S' (.acc (o :: o :: rdx) (some o) :: log) K) : VTops P ow (⟨some d, none, .op (.app esh bytes s x)⟩ :: rs) fr S log K := by
 have ho := hS.at hr.mem
 refine a1d (v := .ref o (ver + 1) 0 (l ++ m).length esh) (rd := o :: rdx) (δ := some (o, .arr (ver + 1) (flat f (l ++ m)))) ?_ rfl rfl (h _ (hS.rp hr))
 simp only [opV, b9B, e, e2, Option.bind_some, he.all, if_true]
 rw [if_pos ⟨trivial, hb.1, hb.2⟩]
 simp only [a0s, ho, if_true, Option.map_some, List.drop_zero, b4f he, <- a0C, List.length_append]
theorem c0o {d bytes s x rs} {K : Fr -> List Ob -> List LE -> Prop} {o ver n m : Nat} {cs ys : List AV} {rdx : List Nat} (hS : Sep S L) (e : ev (Fr.get fr) s = .ref o ver 0 n esh) (e2 : b1O esh (ev (Fr.get fr) x) S = some (m, ys, rdx))
  (hr : Rp L (o, ver, cs) (o, ver + 1, cs ++ ys) L') (hl : cs.length = n * g8 esh) (h1 : ys.all AV.one = true) (hb : (n + m) * bytes <= 140737488355328 /\ n + m <= 140737488355328)
  (h : ∀ S', Sep S' L' -> VTops P ow rs ((d, .ref o (ver + 1) 0 (n + m) esh) :: fr) S' (.acc (o :: o :: rdx) (some o) :: log) K) : VTops P ow (⟨some d, none, .op (.app esh bytes s x)⟩ :: rs) fr S log K :=
 c2u e e2 (hS.at hr.mem) hl h1 hb rfl (h _ (hS.rp hr))
theorem a4S {d f args rs} {K : Fr -> List Ob -> List LE -> Prop} {ags : List AV} {Q : AV -> List It -> Prop} (c : Tri P f ags L1 Q) (hS : Sep S L) (e : evL (Fr.get fr) args = ags) (hp : Spl L L1 R)
  (h : ∀ v S' L', Q v L' -> Sep S' (L' ++ R) -> VTops P ow rs ((d, v) :: fr) S' (.eff S S' :: log) K) : VTops P ow (⟨some d, none, .call f args⟩ :: rs) fr S log K := by
 obtain ⟨r, S', h1, L', h2, h3⟩ := c R S (hS.spl hp)
 exact a3r h1 e (h r S' L' h2 h3)
theorem b7w {d x m args rs t x0 g} {K : Fr -> List Ob -> List LE -> Prop} {ags : List AV} {Q : AV -> List It -> Prop} (c : Tri P g ags L1 Q) (hS : Sep S L) (ex : ev (Fr.get fr) x = .iface t x0) (hm : a2D P t m = some g) (hc : t6 P g = true) (e : x0 :: evL (Fr.get fr) args = ags) (hp : Spl L L1 R)
  (h : ∀ v S' L', Q v L' -> Sep S' (L' ++ R) -> VTops P ow rs ((d, v) :: fr) S' (.eff S S' :: log) K) : VTops P ow (⟨some d, none, .inv x m args⟩ :: rs) fr S log K := by
 obtain ⟨r, S', h1, L', h2, h3⟩ := c R S (hS.spl hp)
 rw [a9R, ex]
 simp only [b6b, hm, e]
 exact ⟨hc, a8L h1 (h r S' L' h2 h3)⟩
theorem a3u {d x args rs g fst caps} {K : Fr -> List Ob -> List LE -> Prop} {ags : List AV} {Q : AV -> List It -> Prop} (c : Tri P g ags L1 Q) (hS : Sep S L) (ex : ev (Fr.get fr) x = .fn (.func g) fst caps) (hc : t6 P g = true) (e : fst ++ evL (Fr.get fr) args ++ caps = ags) (hp : Spl L L1 R)
  (h : ∀ v S' L', Q v L' -> Sep S' (L' ++ R) -> VTops P ow rs ((d, v) :: fr) S' (.eff S S' :: log) K) : VTops P ow (⟨some d, none, .callv x args⟩ :: rs) fr S log K := by
 obtain ⟨r, S', h1, L', h2, h3⟩ := c R S (hS.spl hp)
 rw [a7b, ex, b7m, e]
 exact ⟨hc, a8L h1 (h r S' L' h2 h3)⟩

theorem b4g {d : Nat} {e : Option Nat} (hd : Fr.get fr d = .nils) : Wk S0 fr S ((d, .ref S.length 0 0 0 e) :: fr) (p8 S S.length (.arr 0 [])) := by
 intro g0 n a w hat
 obtain ⟨h0, g, h1, h2, h3⟩ := hat
 have hv := a8d S
 obtain ⟨k1, k2⟩ := h2.own (o := S.length) (l := ⟨0, 0, 0⟩) (ver := 0) (cs := []) (by rw [hv]; exact trivial) (fun h => absurd h (Nat.lt_irrefl 0)) (Nat.le_refl 0) (fun j hj => absurd hj (Nat.not_lt_zero j)) (fun j hj => absurd hj (Nat.not_lt_zero j)) (fun j hj => absurd hj (Nat.not_lt_zero j)) (fun j hj => absurd hj (Nat.not_lt_zero j))
  (fun o' ver' cs' _ _ _ j j' _ hj' => absurd hj' (Nat.not_lt_zero j'))
 rw [<- o8] at k1 k2
 refine ⟨h0, _, h1.trans k2, k1, h3.size, fun t => ?_⟩
 rw [get_cons]
 have ht := h3.get t
 split
 ·rename_i e1; subst e1
  rw [hd] at ht
  generalize a.tmps.getD t undef = u at ht
  cases ht
  refine .refnil ?_
  simp [a4A, a2n]
 ·exact ht.mono k2.ext
theorem b6l {b} {K K0 : Post} (d : Nat) (e : Option Nat) (hS : Sep S L) (hd : Fr.get fr d = .nils) (h : ∀ o S', Sep S' ((o, 0, []) :: L) -> VT P S0 ow b ((d, .ref o 0 0 0 e) :: fr) S' K) :
  Post.thn (fun fr' S' => ∃ F T, Wk S0 fr' S' F T /\ VT P S0 ow b F T K) K0 .normal fr S := a3I (b4g hd) (h _ _ hS.new)

theorem b0c {a b} {K : Post} {σ : Type} (F : σ -> Fr) (Lf : σ -> List It) (I : σ -> Prop)
  (ha : VT P S0 ow a fr S (Post.thn (fun fr' S' => ∃ s, I s /\ Sep S' (Lf s) /\ Wk S0 fr' S' (F s) S') K)) (hb : ∀ s S, I s -> Sep S (Lf s) -> VT P S0 ow b (F s) S K) : VT P S0 ow (.seq a b) fr S K :=
 d9 (a1Y (a2e (fun _ _ ⟨s, h1, h2, h3⟩ => ⟨F s, _, h3, hb s _ h1 h2⟩) (fun _ _ _ h => h)) ha)
theorem y4 {N : Fr -> List Ob -> Prop} {K0 : Post} (h : N fr S) : Post.thn N K0 .normal fr S := h
theorem a0h {a} {K : Post} {σ : Type} (F : σ -> Fr) (Lf : σ -> List It) (I : σ -> Prop) (μ : σ -> Nat) (s0 : σ) (hS : Sep S (Lf s0)) (h0 : I s0) (hw : Wk S0 fr S (F s0) S)
  (h : ∀ s S, I s -> Sep S (Lf s) -> VT P S0 ow a (F s) S (Post.thn (fun fr' S' => ∃ s', I s' /\ μ s' < μ s /\ Sep S' (Lf s') /\ Wk S0 fr' S' (F s') S') K)) : VT P S0 ow (.loop a) fr S K := by
 refine b3O (ι := σ × List Ob) (fun i => F i.1) (fun i => i.2) (fun i => I i.1 /\ Sep i.2 (Lf i.1)) (fun i => μ i.1) (s0, S) ⟨h0, hS⟩ hw (fun i hi => ?_)
 refine a1Y (a2e (fun fr' S' hh => ?_) (fun _ _ _ h => h)) (h i.1 i.2 hi.1 hi.2)
 obtain ⟨s', h1, h2, h3, h4⟩ := hh
 exact ⟨(s', S'), ⟨h1, h3⟩, h2, h4⟩
def b6m (S0 : List Ob) {σ : Type} (ti tn id id2 : Nat) (n : Int) (F : σ -> Fr) (Lf : σ -> List It) (I : Nat -> σ -> Prop) (i : Nat) (K : Post) : Post
 | .normal, fr, S => ∃ s, I (i + 1) s /\ Sep S (Lf s) /\ Wk S0 fr S ((ti, .int .i64 i) :: (tn, .int .i64 n) :: F s) S
 | .exit j, fr, S => if j = id2 then ∃ s, I (i + 1) s /\ Sep S (Lf s) /\ Wk S0 fr S ((ti, .int .i64 i) :: (tn, .int .i64 n) :: F s) S else if j = id then K .normal fr S else K (.exit j) fr S
 | e, fr, S => K e fr S
section
variable {σ : Type} {ti tn id id2 : Nat} {n : Int} {F : σ -> Fr} {Lf : σ -> List It} {I : Nat -> σ -> Prop} {i : Nat} {K : Post}
theorem R_n (s : σ) (h1 : I (i + 1) s) (h2 : Sep S (Lf s)) (h3 : Wk S0 fr S ((ti, .int .i64 i) :: (tn, .int .i64 n) :: F s) S) : b6m S0 ti tn id id2 n F Lf I i K .normal fr S := ⟨s, h1, h2, h3⟩
theorem R_c (s : σ) (h1 : I (i + 1) s) (h2 : Sep S (Lf s)) (h3 : Wk S0 fr S ((ti, .int .i64 i) :: (tn, .int .i64 n) :: F s) S) : b6m S0 ti tn id id2 n F Lf I i K (.exit id2) fr S := by
 show if id2 = id2 then _ else _
 rw [if_pos rfl]; exact ⟨s, h1, h2, h3⟩
theorem R_r (h : K .ret fr S) : b6m S0 ti tn id id2 n F Lf I i K .ret fr S := h
end
theorem a3c {tc ti tn tj id id2 : Nat} {B : FC} {K : Post} {σ : Type} (n : Nat) (F : σ -> Fr) (Lf : σ -> List It) (I : Nat -> σ -> Prop) (s0 : σ) (hS : Sep S (Lf s0)) (h0 : I 0 s0) (hw : Wk S0 fr S ((ti, .int .i64 0) :: (tn, .int .i64 n) :: F s0) S)
  (hn : n <= 4611686018427387904) (h1 : ti ≠ tn) (h2 : tj ≠ tn) (hF : ∀ s, Fr.get (F s) tj = .junk /\ Fr.get (F s) ti = .junk /\ Fr.get (F s) tn = .junk /\ Fr.get (F s) tc = .junk)
  (hb : ∀ i s S, i < n -> I i s -> Sep S (Lf s) -> VT P S0 ow B ((tc, .bool true) :: (ti, .int .i64 i) :: (tn, .int .i64 n) :: F s) S (b6m S0 ti tn id id2 n F Lf I i K))
  (hx : ∀ s fr' S, I n s -> Sep S (Lf s) -> Wk S0 fr' S (F s) S -> K .normal fr' S) :
  VT P S0 ow (.block id (.loop (.seq (.reg [⟨some tc, none, .op (.bin .none .lss (.t ti) (.t tn))⟩] []) (.seq (.cond (.t tc) .skip (.exit id)) (.seq (.block id2 B) (.reg [⟨some tj, none, .op (.bin .none .add (.t ti) (.v (.int .i64 1)))⟩, ⟨some ti, none, .op (.mv (.t tj))⟩] [])))))) fr S K := by
 refine k7 (a0h (fun i : Nat × σ => (ti, .int .i64 i.1) :: (tn, .int .i64 n) :: F i.2) (fun i => Lf i.2) (fun i => i.1 <= n /\ I i.1 i.2) (fun i => n - i.1) (0, s0) hS ⟨Nat.zero_le _, h0⟩ hw (fun i S hi hSi => ?_))
 obtain ⟨i, s⟩ := i
 simp only at hi hSi ⊢
 obtain ⟨hi0, hi⟩ := hi
 refine b7o h1 zO (fun hlt => ?_) (fun hge => ?_)
 ·have hnext : ∀ (s' : σ) (S' : List Ob), I (i + 1) s' -> Sep S' (Lf s') -> ∀ fr3, (∀ t, Fr.get fr3 t = if t = ti then .int .i64 ((i : Int) + 1) else if t = tj then .int .i64 ((i : Int) + 1) else Fr.get ((tn, .int .i64 n) :: F s') t) ->
    Post.thn (fun fr' S' => ∃ i' : Nat × σ, (i'.1 <= n /\ I i'.1 i'.2) /\ n - i'.1 < n - i /\ Sep S' (Lf i'.2) /\ Wk S0 fr' S' ((ti, .int .i64 i'.1) :: (tn, .int .i64 n) :: F i'.2) S') (Post.blk id K) .normal fr3 S' := fun s' S' hI hS' fr3 hg => by
   refine ⟨(i + 1, s'), ⟨by simp only; omega, hI⟩, by simp only; omega, hS', b1S (fun t => ?_)⟩
   rw [hg, get_cons]
   simp only
   by_cases ht : t = ti
   ·left; rw [if_pos ht, if_pos ht]; rfl
   ·rw [if_neg ht, if_neg ht]
    by_cases ht2 : t = tj
    ·right; rw [ht2, get_cons, if_neg h2, (hF s').1]
    ·left; rw [if_neg ht2]
  refine a1Y (fun e fr' S' hk => ?_) (hb i s S zO hi hSi)
  cases e with
  | normal =>
    obtain ⟨s', k1, k2, k3⟩ := hk
    exact ⟨_, _, k3, hnext s' S' k1 k2⟩
  | exit j =>
    show Post.blk id2 _ (.exit j) fr' S'
    rw [a7a]
    replace hk : if j = id2 then ∃ s, I (i + 1) s /\ Sep S' (Lf s) /\ Wk S0 fr' S' ((ti, .int .i64 i) :: (tn, .int .i64 n) :: F s) S' else if j = id then K .normal fr' S' else K (.exit j) fr' S' := hk
    by_cases hj : j = id2
    ·rw [if_pos hj] at hk ⊢
     obtain ⟨s', k1, k2, k3⟩ := hk
     exact ⟨_, _, k3, hnext s' S' k1 k2⟩
    ·rw [if_neg hj] at hk ⊢
     show Post.blk id K (.exit j) fr' S'
     rw [a7a]
     exact hk
  | ret => exact hk
  | goto l => exact hk
  | panic l => exact hk
  | outgrown => exact hk
 ·have e1 : i = n := by omega
  subst e1
  show Post.blk id K (.exit id) _ _
  rw [a7a, if_pos rfl]
  refine hx s _ _ hi hSi (b1S (fun t => ?_))
  obtain ⟨_, f1, f2, f3⟩ := hF s
  simp only [get_cons]
  by_cases t1 : t = tc
  ·right; rw [t1]; exact f3
  ·by_cases t2 : t = ti
   ·right; rw [t2]; exact f1
   ·by_cases t3 : t = tn
    ·right; rw [t3]; exact f2
    ·left; rw [if_neg t1, if_neg t2, if_neg t3]
end
theorem a8V {β : Type} {g : β -> AV} {e : Option Nat} (he : Enc g e) {S : List Ob} {k : Nat} {o ver : Nat} {l : List β} {j : List AV} (hj : a2B 0 j = true) (h1 : j.all AV.one = true) (ho : hp S o = .arr ver (flat g l ++ j)) : frz 0 S (k + 1) (.ref o ver 0 l.length e) = .sl false (g8 e) (l.map g) := by
 have hb : (AV.ref o ver 0 l.length e).blw 0 = false := by simp [AV.blw]
 have hbb : a2B 0 (flat g l ++ j) = true := by rw [a4v]; intro x hx; rcases List.mem_append.1 hx with h | h; exact a4v.1 (he.blwf 0 l) _ h; exact a4v.1 hj _ h
 have hm : (flat g l ++ j).map (frz 0 S k) = flat g l ++ j := a7d hbb
 simp only [frz, hb, ho, Bool.false_eq_true, if_false, hm, List.drop_zero]
 rw [if_pos ⟨trivial, by rw [List.length_append, he.length]; omega, by rw [List.all_append, he.all l, h1]; rfl⟩]
 have : x8 e l.length (flat g l ++ j) = x8 e l.length (flat g l) := by
  cases e with
  | none =>
    simp only [x8]
    rw [List.take_append_of_le_length (by rw [he.length]; simp [g8])]
  | some n =>
    simp only [x8]
    have : ∀ (k : Nat) (xs : List AV), xs.length = k * n -> a3W n k (xs ++ j) = a3W n k xs := by
     intro k
     induction k with
     | zero => intro xs _; rfl
     | succ k ih =>
       intro xs hx
       have hn : n <= xs.length := by rw [hx, Nat.add_mul]; omega
       simp only [a3W]
       rw [List.take_append_of_le_length hn, List.drop_append_of_le_length hn, ih _ (by rw [List.length_drop, hx, Nat.add_mul]; omega)]
    exact this _ _ (by rw [he.length]; rfl)
 rw [this, he.elems]
theorem b8s {β : Type} {g : β -> AV} {e : Option Nat} (he : Enc g e) {S : List Ob} {L : List It} (hS : Sep S L) {o ver : Nat} {os : List (Nat × Nat × List β)} (hm : (o, ver, os.map fun x => AV.ref x.1 x.2.1 0 x.2.2.length e) ∈ L)
  (hk : ∀ x ∈ os, (x.1, x.2.1, flat g x.2.2) ∈ L) : AVw (frz 0 S 2 (.ref o ver 0 os.length none)) (.sl false 1 (os.map fun x => avL (g8 e) g x.2.2)) := by
 have hb : (AV.ref o ver 0 os.length none).blw 0 = false := by simp [AV.blw]
 have ho := hS.at hm
 have key : (os.map fun x => AV.ref x.1 x.2.1 0 x.2.2.length e).map (frz 0 S 1) = os.map fun x => avL (g8 e) g x.2.2 := by
  rw [List.map_map]
  refine List.map_congr_left (fun x hx => ?_)
  exact a8V he (j := []) rfl rfl (by rw [List.append_nil]; exact hS.at (hk x hx))
 generalize hF : frz 0 S 1 = Fz at key
 have e1 : frz 0 S 2 (.ref o ver 0 os.length none) = .sl false 1 (os.map fun x => avL (g8 e) g x.2.2) := by
  unfold frz
  rw [hF, if_neg (by rw [hb]; decide)]
  simp only [ho, List.drop_zero, key]
  rw [if_pos ⟨trivial, by simp [g8], by simp [avL, AV.one]⟩]
  simp only [x8, g8, Option.getD_none]
  rw [List.take_of_length_le zS]
 rw [e1]
 exact .refl _
end Go.Ab

/- Steps b5F lists that are objects, told by their elements; with or without cells behind them. -/
namespace Go.Ab
open Go Go.RowKit
section
variable {α : Type} {f : α -> AV} {esh : Option Nat} {l : List α} {n p fo : Nat} {y y' : α} {j : List AV}
theorem c2w (he : Enc f esh) (hy : l[n]? = some y) {sh : Option Nat} {v : AV} (hv : a0M sh (f y).cells fo = some v) (hp : p = n * g8 esh + fo) : a0M sh (flat f l ++ j) p = some v := by
 obtain ⟨a, b, h1, h2, _⟩ := he.at hy
 rw [hp, <- h2, h1, List.append_assoc (a ++ (f y).cells)]
 exact a8Q hv
theorem c0p (he : Enc f esh) (hy : l[n]? = some y) {sh : Option Nat} {v : AV} (hv : a0M sh (f y).cells fo = some v) (hp : p = n * g8 esh + fo) : a0M sh (flat f l) p = some v := by
 obtain ⟨a, b, h1, h2, _⟩ := he.at hy
 rw [hp, <- h2, h1]
 exact a8Q hv
theorem b6n (he : Enc f esh) (hy : l[n]? = some y) : ∃ a b, a.length = n * g8 esh /\ flat f l = a ++ (f y).cells ++ b /\ flat f (l.set n y') = a ++ (f y').cells ++ b := by
 obtain ⟨hn, rfl⟩ := List.getElem?_eq_some_iff.1 hy
 have e2 : l.take n ++ l[n] :: l.drop (n + 1) = l := by rw [<- List.drop_eq_getElem_cons hn, List.take_append_drop]
 refine ⟨flat f (l.take n), flat f (l.drop (n + 1)), by rw [he.length, List.length_take, Nat.min_eq_left zO], ?_, ?_⟩
 ·rw [List.append_assoc, <- a0w, <- a0C, e2]
 ·rw [List.set_eq_take_append_cons_drop, if_pos hn, a0C, a0w, List.append_assoc]
theorem b7x (he : Enc f esh) (hy : l[n]? = some y) {xs : List AV} (hp : p = n * g8 esh + fo) (hf : fo + xs.length <= g8 esh) (hy' : (f y').cells = splice (f y).cells fo xs) : splice (flat f l ++ j) p xs = flat f (l.set n y') ++ j := by
 obtain ⟨a, b, h2, h1, h3⟩ := b6n (y' := y') he hy
 rw [hp, <- h2, h1, h3, List.append_assoc (a ++ (f y).cells), a9W xs (by rw [he.sz]; exact hf), hy', List.append_assoc (a ++ _)]
theorem b8t (he : Enc f esh) (hy : l[n]? = some y) {xs : List AV} (hp : p = n * g8 esh + fo) (hf : fo + xs.length <= g8 esh) (hy' : (f y').cells = splice (f y).cells fo xs) : splice (flat f l) p xs = flat f (l.set n y') := by
 have := b7x (j := []) he hy hp hf hy'
 simpa using this
theorem b7y (he : Enc f esh) (hy : l[n]? = some y) {m : Nat} (hp : p = n * g8 esh + fo) (hf : fo + m <= g8 esh) : p + m <= (flat f l ++ j).length := by
 have hn := (List.getElem?_eq_some_iff.1 hy).1
 have : (n + 1) * g8 esh <= l.length * g8 esh := Nat.mul_le_mul_right _ hn
 rw [List.length_append, he.length]
 rw [Nat.add_mul] at this
 omega
end
section
variable {P : Program} {S0 : List Ob} {ow : List Nat} {fr : Fr} {S : List Ob} {log : List LE} {L L' L0 L1 R : List It} {α : Type} {f : α -> AV} {esh : Option Nat}
theorem a1u {d a sh rs} {K : Fr -> List Ob -> List LE -> Prop} {o ver p n fo} {l : List α} {j : List AV} {y : α} {v : AV} (hS : Sep S L) (he : Enc f esh) (e : ev (Fr.get fr) a = .ptr o ver p) (hm : (o, ver, flat f l ++ j) ∈ L) (hp : p = n * g8 esh + fo) (hy : l[n]? = some y)
  (hv : a0M sh (f y).cells fo = some v) (h : VTops P ow rs ((d, v) :: fr) S (.acc [o] none :: log) K) : VTops P ow (⟨some d, none, .op (.load sh a)⟩ :: rs) fr S log K := v8 hS e hm (c2w he hy hv hp) h
theorem a6c {d a sh rs} {K : Fr -> List Ob -> List LE -> Prop} {o ver p n fo} {l : List α} {y : α} {v : AV} (hS : Sep S L) (he : Enc f esh) (e : ev (Fr.get fr) a = .ptr o ver p) (hm : (o, ver, flat f l) ∈ L) (hp : p = n * g8 esh + fo) (hy : l[n]? = some y)
  (hv : a0M sh (f y).cells fo = some v) (h : VTops P ow rs ((d, v) :: fr) S (.acc [o] none :: log) K) : VTops P ow (⟨some d, none, .op (.load sh a)⟩ :: rs) fr S log K := v8 hS e hm (c0p he hy hv hp) h
theorem a5G {a x nn rs} {K : Fr -> List Ob -> List LE -> Prop} {o ver p n fo} {l : List α} {j : List AV} {y y' : α} {xv : AV} (hS : Sep S L) (he : Enc f esh) (e : ev (Fr.get fr) a = .ptr o ver p) (ex : ev (Fr.get fr) x = xv) (hp : p = n * g8 esh + fo) (hy : l[n]? = some y)
  (hr : Rp L (o, ver, flat f l ++ j) (o, ver, flat f (l.set n y') ++ j) L') (hx : xv.cells.length = nn) (h1 : xv.cells.all AV.one = true) (hfit : fo + nn <= g8 esh) (hy' : (f y').cells = splice (f y).cells fo xv.cells)
  (h : ∀ S', Sep S' L' -> VTops P ow rs fr S' (.acc [o] (some o) :: log) K) : VTops P ow (⟨none, none, .op (.store nn a x)⟩ :: rs) fr S log K :=
 E_stS hS e ex (by rw [b7x he hy hp (by rw [hx]; exact hfit) hy']; exact hr) hx h1 (b7y he hy hp hfit) h
theorem a4K {a x nn rs} {K : Fr -> List Ob -> List LE -> Prop} {o ver p n fo} {l : List α} {y y' : α} {xv : AV} (hS : Sep S L) (he : Enc f esh) (e : ev (Fr.get fr) a = .ptr o ver p) (ex : ev (Fr.get fr) x = xv) (hp : p = n * g8 esh + fo) (hy : l[n]? = some y)
  (hr : Rp L (o, ver, flat f l) (o, ver, flat f (l.set n y')) L') (hx : xv.cells.length = nn) (h1 : xv.cells.all AV.one = true) (hfit : fo + nn <= g8 esh) (hy' : (f y').cells = splice (f y).cells fo xv.cells)
  (h : ∀ S', Sep S' L' -> VTops P ow rs fr S' (.acc [o] (some o) :: log) K) : VTops P ow (⟨none, none, .op (.store nn a x)⟩ :: rs) fr S log K :=
 E_stS hS e ex (by rw [b8t he hy hp (by rw [hx]; exact hfit) hy']; exact hr) hx h1 (by have := b7y (j := []) he hy hp hfit; simpa using this) h
theorem c2x {d z len ps rs} {K : Fr -> List Ob -> List LE -> Prop} {cs : List AV} (hS : Sep S L) (how : ow.contains d = true) (e : a5u (repl len z) (evP (Fr.get fr) ps) = some cs) (hl : len * g8 esh <= cs.length) (h1 : cs.all AV.one = true)
  (h : ∀ o S', Sep S' ((o, 0, cs) :: L) -> VTops P ow rs ((d, .ref o 0 0 len esh) :: fr) S' (.acc [o] (some o) :: log) K) : VTops P ow (⟨some d, none, .op (.bsl esh z len ps)⟩ :: rs) fr S log K := by
 refine a1d (v := .ref S.length 0 0 len esh) (rd := []) (δ := some (S.length, .arr 0 cs)) ?_ rfl rfl (h _ _ hS.new)
 simp only [opV, e, Option.bind_some, a5Y]
 rw [if_pos ⟨hl, h1⟩, if_pos how]
theorem c2y {z x rs} {K : Fr -> List Ob -> List LE -> Prop} {o ver off n : Nat} {cs : List AV} (hS : Sep S L) (e : ev (Fr.get fr) x = .ref o ver off n esh) (hn : 0 < n) (h1 : z.all AV.one = true) (hr : Rp L (o, ver, cs) (o, ver, splice cs off (repl n z)) L')
  (h : ∀ S', Sep S' L' -> VTops P ow rs fr S' (.acc [o] (some o) :: log) K) : VTops P ow (⟨none, none, .op (.clr esh z x)⟩ :: rs) fr S log K := by
 have ho := hS.at hr.mem
 refine a9y (v := .tup []) (rd := []) (δ := some (o, .arr ver (splice cs off (repl n z)))) (S' := p8 S o (.arr ver (splice cs off (repl n z)))) ?_ rfl (h _ (hS.rp hr))
 simp only [opV, c2c, e]
 rw [if_pos ⟨trivial, hn, h1⟩]
 simp only [a0s, ho, if_true, Option.map_some]
theorem a5H : ∀ (xs a cs : List AV), xs.length = cs.length -> splice (a ++ cs) a.length xs = a ++ xs
 | [], a, cs, h => by
   have : cs = [] := List.eq_nil_of_length_eq_zero (by simpa using h.symm)
   subst this; rfl
 | x :: xs, a, [], h => by simp at h
 | x :: xs, a, c :: cs, h => by
   have e : (a ++ c :: cs).set a.length x = (a ++ [x]) ++ cs := by rw [List.set_append_right _ _ (Nat.le_refl _)]; simp
   simp only [splice, e]
   have := a5H xs (a ++ [x]) cs (by simpa using h)
   simp only [List.length_append, List.length_singleton] at this
   rw [this]; simp
end
theorem c0q {n : Nat} (h : 0 < n) (hb : n <= 4611686018427387904) : IntKind.i64.wrap ((n : Int) - 1) = ((n - 1 : Nat) : Int) := by rw [s5 zO]; omega
end Go.Ab

/- A nil slice in an object's cell as a list without an object. -/
namespace Go.Ab
open Go Go.RowKit
theorem WRel.recell {g σ} {w : World} (h : WRel g σ w) {o ver : Nat} {cs cs' : List AV} (e : σ o = .arr ver cs) (hl : cs'.length = cs.length) (hv : ∀ j (h1 : j < cs.length) (h2 : j < cs'.length) u, VR g.pm g.L σ cs[j] u -> VR g.pm g.L σ cs'[j] u) :
  WRel g (upd σ o (.arr ver cs')) w /\ g.le σ g (upd σ o (.arr ver cs')) := by
 have k := h.ob o ver cs e
 have hext : Ext g.pm g.L σ g.pm g.L (upd σ o (.arr ver cs')) := ⟨fun _ _ _ e => e, fun i => by
  by_cases hi : i = o
  ·subst hi; simp [e, a0l, hl]
  ·simp [v7 _ _ hi]; exact a0l.refl _ _⟩
 refine ⟨⟨h.pm, h.tm, h.tmf, h.disj, h.low, h.B0, h.tab, fun i ver' cs2 e' => ?_, fun i i' v1 v2 c1 c2 e1 e2 hne => ?_⟩, ⟨hext, rfl, rfl, rfl⟩⟩
 ·by_cases hi : i = o
  ·subst hi
   simp at e'
   obtain ⟨rfl, rfl⟩ := e'
   refine ⟨k.low, by rw [hl]; exact k.len, fun m hm => ?_, k.free, k.pm, k.tm⟩
   obtain ⟨u, hu, hr⟩ := k.there m hm
   exact ⟨u, hu, fun hm' => (hv m zO hm' u (hr zO)).mono hext⟩
  ·rw [v7 _ _ hi] at e'
   have k' := h.ob i ver' cs2 e'
   refine ⟨k'.low, k'.len, fun m hm => ?_, k'.free, k'.pm, k'.tm⟩
   obtain ⟨u, hu, hr⟩ := k'.there m hm
   exact ⟨u, hu, fun hm' => (hr hm').mono hext⟩
 ·have a1 : ∃ v c, σ i = .arr v c := by
   by_cases hi : i = o
   ·exact ⟨_, _, hi ▸ e⟩
   ·rw [v7 _ _ hi] at e1; exact ⟨_, _, e1⟩
  have a2 : ∃ v c, σ i' = .arr v c := by
   by_cases hi : i' = o
   ·exact ⟨_, _, hi ▸ e⟩
   ·rw [v7 _ _ hi] at e2; exact ⟨_, _, e2⟩
  obtain ⟨_, _, a1⟩ := a1
  obtain ⟨_, _, a2⟩ := a2
  exact h.sep i i' _ _ _ _ a1 a2 hne
section
variable {P : Program} {S0 : List Ob} {ow : List Nat} {fr : Fr} {S : List Ob} {L : List It}
theorem b2N {o ver j : Nat} {cs : List AV} {e : Option Nat} (ho : hp S o = .arr ver cs) (hj : cs[j]? = some .nils) :
  Wk S0 fr S fr (p8 (p8 S S.length (.arr 0 [])) o (.arr ver (cs.set j (.ref S.length 0 0 0 e)))) := by
 intro g0 n a w hat
 obtain ⟨h0, g, h1, h2, h3⟩ := hat
 have hv := a8d S
 have hos : o ≠ S.length := fun h => by rw [h, hv] at ho; cases ho
 obtain ⟨k1, k2⟩ := h2.own (o := S.length) (l := ⟨0, 0, 0⟩) (ver := 0) (cs := []) (by rw [hv]; exact trivial) (fun h => absurd h (Nat.lt_irrefl 0)) (Nat.le_refl 0) (fun j hj => absurd hj (Nat.not_lt_zero j)) (fun j hj => absurd hj (Nat.not_lt_zero j)) (fun j hj => absurd hj (Nat.not_lt_zero j)) (fun j hj => absurd hj (Nat.not_lt_zero j))
  (fun o' ver' cs' _ _ _ j j' _ hj' => absurd hj' (Nat.not_lt_zero j'))
 rw [<- o8] at k1 k2
 have ho1 : hp (p8 S S.length (.arr 0 [])) o = .arr ver cs := by rw [a3t hos]; exact ho
 obtain ⟨q1, q2⟩ := k1.recell (cs' := cs.set j (.ref S.length 0 0 0 e)) ho1 zS (fun i a1 a2 u hu => by
  rw [List.getElem_set]
  split
  ·rename_i hij
   subst hij
   rw [List.getElem?_eq_getElem a1] at hj
   have hj := Option.some.inj hj
   rw [hj] at hu
   cases hu
   refine .refnil ?_
   simp [a4A, a2n]
  ·exact hu)
 rw [<- o8] at q1 q2
 exact ⟨h0, _, (h1.trans k2).trans q2, q1, h3.size, fun t => ((h3.get t).mono k2.ext).mono q2.ext⟩
theorem b4h {b} {K K0 : Post} {o ver : Nat} {cs : List AV} (j : Nat) (e : Option Nat) {Lf : Nat -> List It} (hS : Sep S L) (hr : ∀ o', Rp L (o, ver, cs) (o, ver, cs.set j (.ref o' 0 0 0 e)) (Lf o')) (hj : cs[j]? = some .nils) (h : ∀ o' S', Sep S' ((o', 0, []) :: Lf o') -> VT P S0 ow b fr S' K) :
  Post.thn (fun fr' S' => ∃ F T, Wk S0 fr' S' F T /\ VT P S0 ow b F T K) K0 .normal fr S := by
 have hm := (hr 0).mem
 have ho := hS.at hm
 refine a3I (b2N (e := e) ho hj) (h S.length _ ?_)
 have h1 : Sep (p8 S S.length (.arr 0 [])) ((S.length, 0, []) :: L) := hS.new
 exact h1.rp (Rp.there (hr S.length))
end
end Go.Ab

/- Heaps of a number of objects that is not known: given by a function. -/
namespace Go.Ab
open Go Go.RowKit
def ofF (n : Nat) (f : Nat -> Ob) : List Ob := (List.range n).map f
section
variable {n m : Nat} {f g : Nat -> Ob}
theorem a8W : (ofF n f).length = n := by simp [ofF]
theorem a4L {i : Nat} (h : i < n) : hp (ofF n f) i = f i := by simp [hp, ofF, List.getD_eq_getElem?_getD, h]
theorem b8u {i : Nat} (h : i < (ofF n f).length) : (ofF n f)[i] = f i := by simp [ofF]
theorem a4h {α : Type} {f : Nat -> α} {o : Nat} {x : α} : upd f o x o = x := by simp [upd]
theorem a1A {α : Type} {f : Nat -> α} {o i : Nat} {x : α} (h : i ≠ o) : upd f o x i = f i := by simp [upd, h]
theorem a1B (x : Ob) : ∀ (S : List Ob) (o : Nat), o <= S.length -> (p8 S o x).length = max S.length (o + 1)
 | [], 0, _ => rfl
 | [], n + 1, h => by simp at h
 | y :: s, 0, _ => by simp only [p8, List.length_cons]; omega
 | y :: s, n + 1, h => by
   have := a1B x s n (by simpa using h)
   simp only [p8, List.length_cons, this]; omega
end
def idM (n : Nat) (m : Nat -> Option Nat) : b5y := (List.range n).map (fun i => (m i).map (fun o => (o, 0)))
theorem a8X {n : Nat} {m : Nat -> Option Nat} {i : Nat} (h : i < n) : a5q (idM n m) i = (m i).map (fun o => (o, 0)) := by
 simp [a5q, idM, h]
theorem b0d {n : Nat} {m : Nat -> Option Nat} (h : ∀ i j o, i < n -> j < n -> m i = some o -> m j = some o -> i = j) : b0V (idM n m) = true := by
 simp only [b0V, decide_eq_true_eq]
 have e : ((idM n m).filterMap id).map (·.1) = (List.range n).filterMap m := by
  simp only [idM, List.filterMap_map, List.map_filterMap]
  congr 1
  funext i
  cases hm : m i <;> simp [hm]
 rw [e]
 have hnd : (List.range n).Nodup := List.nodup_range
 have hmem : ∀ x ∈ List.range n, x < n := fun x hx => by simpa using hx
 generalize List.range n = l at hnd hmem
 induction l with
 | nil => simp
 | cons a l ih =>
   have h1 := List.nodup_cons.1 hnd
   have h2 := ih h1.2 (fun x hx => hmem x (List.mem_cons_of_mem _ hx))
   cases hm : m a with
   | none => rw [List.filterMap_cons_none hm]; exact h2
   | some o =>
     rw [List.filterMap_cons_some hm, List.nodup_cons]
     refine ⟨fun hin => ?_, h2⟩
     obtain ⟨b, hb, hbo⟩ := List.mem_filterMap.1 hin
     have := h a b o (hmem a List.mem_cons_self) (hmem b (List.mem_cons_of_mem _ hb)) hm hbo
     subst this
     exact h1.1 hb
abbrev WR (n : Nat) (m : Nat -> Option Nat) (S : List Ob) (f : Nat -> Ob) : Rn := wkR (idM n m) S (ofF n f)
def b7z (n : Nat) (m : Nat -> Option Nat) (S : List Ob) (f : Nat -> Ob) (i : Nat) : Prop :=
 match m i with
 | some o => ∃ v cs v' cs', hp S o = .arr v cs /\ f i = .arr v' cs' /\ RnL (WR n m S f) 0 cs cs'
 | none => ∃ v', f i = .arr v' []
theorem b1W {Q : Nat -> Ob -> Prop} : ∀ {l : List Ob} {i : Nat}, (∀ j (h : j < l.length), Q (i + j) l[j]) -> a8M Q i l
 | [], _, _ => trivial
 | x :: r, i, h => ⟨h 0 zS, b1W (fun j hj => by
   have := h (j + 1) (by simpa using hj)
   simpa [show i + (j + 1) = i + 1 + j by omega] using this)⟩
theorem c0r {S : List Ob} {n : Nat} {m : Nat -> Option Nat} {f : Nat -> Ob} (hi : ∀ i j o, i < n -> j < n -> m i = some o -> m j = some o -> i = j) (h : ∀ i, i < n -> b7z n m S f i) :
  GWk [] S (ofF n f) (RnV (WR n m S f)) := by
 refine s4 (idM n m) (b0d hi) (Nat.zero_le _) (b1W (fun j hj => ?_))
 rw [a8W] at hj
 rw [b8u, Nat.zero_add]
 have k := h j hj
 unfold b7z at k
 have e := a8X (m := m) hj
 cases hm : m j with
 | none =>
   rw [hm] at k e
   obtain ⟨v', e2⟩ := k
   rw [e2]
   exact a3F e rfl rfl
 | some o =>
   rw [hm] at k e
   obtain ⟨v, cs, v', cs', e1, e2, e3⟩ := k
   rw [e2]
   exact j9 e e1 e3 rfl
theorem b6o {S : List Ob} {n : Nat} {m : Nat -> Option Nat} {f : Nat -> Ob} {fr fr' : Fr} (hi : ∀ i j o, i < n -> j < n -> m i = some o -> m j = some o -> i = j) (h : ∀ i, i < n -> b7z n m S f i)
  (hf : rnF (WR n m S f) fr fr') : Wk [] fr S fr' (ofF n f) := (c0r hi h).wk (b0W hf)
theorem b1X : ∀ {n : Nat} (i j o : Nat), i < n -> j < n -> some i = some o -> some j = some o -> i = j := fun i j o _ _ h1 h2 => by cases h1; cases h2; rfl
section
variable {S : List Ob} {n : Nat} {m : Nat -> Option Nat} {f : Nat -> Ob}
theorem b4i {i o v v' off : Nat} {cs cs' : List AV} (hi : i < n) (hm : m i = some o) (h1 : hp S o = .arr v cs) (h2 : f i = .arr v' cs') : RnV (WR n m S f) (.ptr o v off) (.ptr i v' off) :=
 .ptr ⟨0, cs, cs', by rw [a8X hi, hm]; rfl, h1, by rw [a4L hi]; exact h2, by omega⟩
theorem a3G {i o v v' k : Nat} {e : Option Nat} {cs cs' : List AV} (hi : i < n) (hm : m i = some o) (h1 : hp S o = .arr v cs) (h2 : f i = .arr v' cs') (hk : k * g8 e <= cs'.length) : RnV (WR n m S f) (.ref o v 0 k e) (.ref i v' 0 k e) :=
 .ref ⟨0, cs, cs', by rw [a8X hi, hm]; rfl, h1, by rw [a4L hi]; exact h2, by omega, by omega⟩
theorem a7l {i o v v' k k' : Nat} {e : Option Nat} {cs cs' : List AV} (hkk : k = k') (hi : i < n) (hm : m i = some o) (h1 : hp S o = .arr v cs) (h2 : f i = .arr v' cs') (hk : k' * g8 e <= cs'.length) : RnV (WR n m S f) (.ref o v 0 k e) (.ref i v' 0 k' e) := by
 subst hkk; exact a3G hi hm h1 h2 hk
theorem c0s {i v' : Nat} {e : Option Nat} {cs' : List AV} (hi : i < n) (h2 : f i = .arr v' cs') : RnV (WR n m S f) .nils (.ref i v' 0 0 e) := .nil ⟨cs', by rw [a4L hi]; exact h2⟩
theorem a0G {i o v v' : Nat} {cs cs' : List AV} (hm : m i = some o) (h1 : hp S o = .arr v cs) (h2 : f i = .arr v' cs') (h3 : RnL (WR n m S f) 0 cs cs') : b7z n m S f i := by
 unfold b7z; rw [hm]; exact ⟨v, cs, v', cs', h1, h2, h3⟩
theorem b4j {i v' : Nat} (hm : m i = none) (h2 : f i = .arr v' []) : b7z n m S f i := by
 unfold b7z; rw [hm]; exact ⟨v', h2⟩
theorem a4T {R : Rn} {cs cs' : List AV} (h1 : cs'.length <= cs.length) (h : ∀ (j : Nat) (a : j < cs.length) (b : j < cs'.length), RnV R cs[j] cs'[j]) : RnL R 0 cs cs' :=
 ⟨by omega, fun j a b => by simp only [Nat.zero_add] at a ⊢; exact h j a b⟩
end
section
variable {P : Program} {S0 : List Ob} {ow : List Nat} {fr : Fr} {S : List Ob} {log : List LE}
end
end Go.Ab

/- A method that takes the value, where the interface holds a pointer: the step. -/
namespace Go.Ab
section
variable {P : Program} {S0 : List Ob} {ow : List Nat} {fr : Fr} {S : List Ob} {log : List LE} {L L' L0 L1 R : List It}
theorem a4i {d x m args rs t x0 g sh o ver off} {cs : List AV} {y : AV} {K : Fr -> List Ob -> List LE -> Prop} {ags : List AV} {Q : AV -> List It -> Prop} (c : Tri P g ags L1 Q) (hS : Sep S L) (ex : ev (Fr.get fr) x = .iface t x0) (hm0 : a2D P t m = none) (hm : a3Y P t m = some (g, sh)) (hc : t6 P g = true)
  (hx : x0 = .ptr o ver off) (hi : (o, ver, cs) ∈ L) (hv : a0M sh cs off = some y) (e : y :: evL (Fr.get fr) args = ags) (hp' : Spl L L1 R)
  (h : ∀ v S' L', Q v L' -> Sep S' (L' ++ R) -> VTops P ow rs ((d, v) :: fr) S' (.eff S S' :: log) K) : VTops P ow (⟨some d, none, .inv x m args⟩ :: rs) fr S log K := by
 obtain ⟨r, S', h1, L', h2, h3⟩ := c R S (hS.spl hp')
 rw [a9R, ex]
 simp only [b6b, hm0]
 unfold a8F
 rw [hm]
 subst hx
 have hl : a6Y sh (.ptr o ver off) S = some (y, [o], none) := by
  unfold a6Y
  simp [a0s, hS.at hi, hv]
 refine ⟨hc, y, [o], r, S', (a8J hl).1, ?_, h r S' L' h2 h3⟩
 rw [e]; exact h1
end
end Go.Ab

/- Further steps b5F separated objects. -/
namespace Go.Ab
open Go Go.RowKit
section
variable {P : Program} {S0 : List Ob} {ow : List Nat} {fr : Fr} {S : List Ob} {log : List LE} {L : List It} {esh : Option Nat}
theorem b4k {a b} {K : Post} {σ : Type} (F : σ -> Fr) (Lf : σ -> List It) (I : σ -> Prop)
  (ha : VT P S0 ow a fr S (Post.thn (fun fr' S' => ∃ s, I s /\ Sep S' (Lf s) /\ Wk S0 fr' S' (F s) S') K)) (hb : ∀ s S, I s -> Sep S (Lf s) -> VT P S0 ow b (F s) S K) :
  VT P S0 ow a fr S (Post.thn (fun fr' S' => ∃ F T, Wk S0 fr' S' F T /\ VT P S0 ow b F T K) K) :=
 a1Y (a2e (fun _ _ ⟨s, h1, h2, h3⟩ => ⟨F s, _, h3, hb s _ h1 h2⟩) (fun _ _ _ h => h)) ha
end
theorem Ev.gwk {P : Program} {f : FuncId} {args : List AV} {S S1 S' : List Ob} {r r' : AV} {R : AV -> AV -> Prop} (h : Ev P f args (hp S) r (hp S1)) (k : GWk S S1 S' R) (hr : R r r') : Ev P f args (hp S) r' (hp S') := by
 intro g w vals hw hv
 refine (h g w vals hw hv).mono ?_
 rintro e w' ⟨u, g', e1, e2, e3, e4⟩
 obtain ⟨g2, h1, h2, h3⟩ := k g g' w' e2 e3
 exact ⟨u, g2, e1, h1, h2, h3 _ _ _ hr e4⟩
theorem Tri.pure {P : Program} {f : FuncId} {args : List AV} {Q : AV -> List It -> Prop} {Q' : AV -> Prop} (k : Nat) (h : Tri P f args [] Q) (hq : ∀ v L' S, Q v L' -> Sep S L' -> ∃ r, AVw (frz 0 S k v) r /\ Q' r) : ∃ r, m5 P f args r /\ Q' r := by
 obtain ⟨v, S', h1, L', h2, h3⟩ := h [] [] Sep.nil
 rw [List.append_nil] at h3
 obtain ⟨r, h4, h5⟩ := hq v L' S' h2 h3
 refine ⟨r, ?_, h5⟩
 have := h1.gwk ((a8N 0 k zS).trans GWk.refl) ⟨_, rfl, h4⟩
 rw [b3N] at this
 exact this
end Go.Ab

/- One object is frozen: it is dead, and what named it holds its cells. -/
namespace Go.Ab
open Go Go.RowKit
section
variable {P : Program} {S0 : List Ob} {ow : List Nat} {fr : Fr} {S : List Ob} {L L' L0 : List It} {α : Type} {f : α -> AV} {e : Option Nat}
end
end Go.Ab

/- A a6M that leaves one list of its own: one answer for all heaps. -/
namespace Go.Ab
open Go Go.RowKit
section
variable {P : Program} {f : FuncId} {args : List AV} {α : Type} {g : α -> AV} {e : Option Nat}
theorem Tri.base (he : Enc g e) {Q : List α -> AV -> Prop} (h : Tri P f args [] (fun r L' => ∃ oo l x, r = .tup [.ref oo 0 0 l.length e, x] /\ x.blw 0 = true /\ L' = [(oo, 0, flat g l)] /\ Q l x)) :
  ∃ l x, Q l x /\ x.blw 0 = true /\ Ev P f args (hp []) (.tup [.ref 0 0 0 l.length e, x]) (hp [.arr 0 (flat g l)]) := by
 obtain ⟨r, S', h1, L', ⟨oo, l, x, rfl, hx, rfl, hq⟩, hS⟩ := h [] [] Sep.nil
 refine ⟨l, x, hq, hx, ?_⟩
 have ho : hp S' oo = .arr 0 (flat g l) := hS.at (.head _)
 have hn : hp [Ob.arr 0 (flat g l)] 0 = .arr 0 (flat g l) := rfl
 refine h1.gwk (s4 (S0 := []) (S := S') (S' := [.arr 0 (flat g l)]) [some (oo, 0)] (by simp [b0V]) (Nat.zero_le _) ⟨?_, trivial⟩) ?_
 ·exact ⟨0, flat g l, ho, .refl (he.blwf 0 l), fun h => absurd h (Nat.not_lt_zero _)⟩
 ·refine .tup rfl (fun j h1 h2 => ?_)
  match j, h1 with
  | 0, _ => exact .ref ⟨0, flat g l, flat g l, rfl, ho, hn, rfl, by rw [he.length l]; omega⟩
  | 1, _ => exact .base hx (.refl _)
theorem Ev.tri1 (he : Enc g e) {l : List α} {x : AV} (h : Ev P f args (hp []) (.tup [.ref 0 0 0 l.length e, x]) (hp [.arr 0 (flat g l)])) (hb : a2B 0 args = true) (hx : x.blw 0 = true) :
  Tri P f args [] (fun r L' => ∃ oo, r = .tup [.ref oo 0 0 l.length e, x] /\ L' = [(oo, 0, flat g l)]) := fun R S hS => by
 have hn : hp (p8 S S.length (.arr 0 (flat g l))) S.length = .arr 0 (flat g l) := a2n
 refine ⟨.tup [.ref S.length 0 0 l.length e, x], p8 S S.length (.arr 0 (flat g l)), h.frame [] rfl .nil (Nat.zero_le _) (by rw [a1B _ _ _ (Nat.le_refl _)]; simp) trivial ⟨?_, trivial⟩ (fun i hi _ => a3t zO) rfl (.refl hb) ?_, _, ⟨_, rfl, rfl⟩, ?_⟩
 ·exact fr_outN (by simpa [frN] using hn) rfl (.refl (he.blwf 0 l)) rfl
 ·refine .tup rfl (fun j h1 h2 => ?_)
  match j, h1 with
  | 0, _ => exact .ref ⟨by simp, by simp [frN], ⟨_, rfl⟩, ⟨_, hn⟩, rfl⟩
  | 1, _ => exact .base hx (.refl _)
 ·exact Sep.new hS
end
section
variable {P : Program} {S0 : List Ob} {ow : List Nat} {fr : Fr} {S : List Ob} {L : List It}
end
end Go.Ab

/- The library's count of the zeros at a word's end, b5F this program. -/
namespace Go.Proofs.YtepdcebjobjjgaaDoor
open Go Go.Ab Go.RowKit
def a5I : Go.Shelf.Ren := ⟨fun | 29 => 79 | n => n, fun | 0 => 0 | 22 => 41 | 25 => 38 | 54 => 147 | n => n, fun | 1 => 0 | n => n⟩
theorem c0t : Lays7.n29 Tryd.prog a5I := {
 mixed := by kernel_rfl
 f29 := Tryd.func79.trans (congrArg some zK)
 t0 := Tryd.underlying0
 a0 := Tryd.isAgg0
 z0 := Tryd.sizeOf0
 v0 := Tryd.zeroValue0
 i0 := by kernel_rfl
 t3 := Tryd.underlying3
 a3 := Tryd.isAgg3
 z3 := Tryd.sizeOf3
 v3 := Tryd.zeroValue3
 i3 := by kernel_rfl
 t4 := Tryd.underlying4
 a4 := Tryd.isAgg4
 z4 := Tryd.sizeOf4
 v4 := Tryd.zeroValue4
 i4 := by kernel_rfl
 t5 := Tryd.underlying5
 a5 := Tryd.isAgg5
 z5 := Tryd.sizeOf5
 v5 := Tryd.zeroValue5
 i5 := by kernel_rfl
 t22 := Tryd.underlying41
 a22 := Tryd.isAgg41
 z22 := Tryd.sizeOf41
 v22 := Tryd.zeroValue41
 i22 := by kernel_rfl
 t25 := Tryd.underlying38
 a25 := Tryd.isAgg38
 z25 := Tryd.sizeOf38
 v25 := Tryd.zeroValue38
 i25 := by kernel_rfl
 t54 := Tryd.underlying147
 a54 := Tryd.isAgg147
 z54 := Tryd.sizeOf147
 g1 := by kernel_rfl }
def l7 (x : Int) : Option Int := if 0 <= x /\ x < 18446744073709551616 then some (Lib.ctz 64 x.toNat : Int) else none
theorem a0U {x : Int} {r : Int} (h : l7 x = some r) : m5 Tryd.prog 79 [.int .u64 x] (.int .i64 r) := by
 unfold l7 at h
 split at h
 case isFalse => cases h
 rename_i hl
 cases h
 intro g w vals hw hv
 obtain ⟨u, rfl, hu⟩ : ∃ u, vals = #[u] /\ VR g.pm g.L b2F (.int .u64 x) u := by
  obtain ⟨hs, hvv⟩ := hv
  obtain ⟨ll⟩ := vals
  match ll, hs with
  | [u], _ => exact ⟨u, rfl, hvv 0 zS zS⟩
 cases hu
 have hx : (x : Int) = (x.toNat : Int) := by omega
 have hT : TabAt (a5I.g 1) Lib.deBruijn64tab w := by
  obtain ⟨hb, cs, t, fz, e, q⟩ := hw.tab 0 _ rfl
  subst q
  intro j hj
  have := hw.low.block 0 hb
  simp only [World.cell?, show a5I.g 1 = 0 from rfl, this, e]
  have e1 : tzT = Lib.deBruijn64tab.map fun n => ((n : Nat) : Int) := by decide
  have hall : (List.map (fun z => Value.int IntKind.u8 z) tzT).toArray[j]? = some (.int .u8 (Lib.deBruijn64tab.getD j 0 : Nat)) := by
   rw [e1]
   simp [List.getElem?_map, List.getD_eq_getElem?_getD, List.getElem?_eq_getElem hj]
  exact hall
 have := Any7.bits_TrailingZeros64 c0t x.toNat zO w (fun _ => hT)
 rw [<- hx] at this
 refine Calls.mono this ?_
 rintro e w' ⟨rfl, rfl⟩
 exact ⟨_, g, rfl, Gh.le.refl _ _, hw, .int⟩
end Go.Proofs.YtepdcebjobjjgaaDoor

