/- Heaps told by the objects that matter; contracts with a frame; steps over them. -/
import Derived.Test.YtnpemocpfdgaoaaWlH2
set_option linter.unusedVariables false
set_option linter.unusedSimpArgs false
namespace Go.Ab
open Go Go.RowKit

abbrev It := Nat × Nat × List AV
def Sep (S : List Ob) (L : List It) : Prop := (∀ p ∈ L, hp S p.1 = .arr p.2.1 p.2.2) /\ (L.map (·.1)).Nodup
section
variable {S : List Ob} {L L' L0 L1 A B C R : List It} {o v v' : Nat} {cs cs' : List AV} {p p' q : It}
theorem Sep.at (h : Sep S L) (m : (o, v, cs) ∈ L) : hp S o = .arr v cs := h.1 _ m
theorem Sep.nil : Sep S [] := ⟨fun _ h => by simp at h, by simp⟩
theorem Sep.perm (h : Sep S L) (k : L.Perm L') : Sep S L' := ⟨fun p hm => h.1 p (k.mem_iff.2 hm), (k.map _).nodup_iff.1 h.2⟩
theorem Sep.sub (h : Sep S L) (k : L'.Sublist L) : Sep S L' := ⟨fun p hm => h.1 p (k.subset hm), h.2.sublist (k.map _)⟩
theorem Sep.left (h : Sep S (A ++ B)) : Sep S A := h.sub (List.sublist_append_left A B)
theorem Sep.lt (h : Sep S L) (m : p ∈ L) : p.1 < S.length := a5o (h.1 p m)
theorem z0 {i : Nat} {x : Ob} (h : i ≠ o) : hp (a0h S o x) i = hp S i := by rw [a1o, s8 _ _ h]
theorem a0j {x : Ob} : hp (a0h S o x) o = x := by rw [a1o, a1N]
theorem Sep.set (h : Sep S ((o, v, cs) :: L)) : Sep (a0h S o (.arr v' cs')) ((o, v', cs') :: L) := by
 have hn := h.2
 simp only [List.map_cons, List.nodup_cons] at hn
 refine ⟨fun p hm => ?_, by simpa only [List.map_cons, List.nodup_cons] using hn⟩
 rcases List.mem_cons.1 hm with rfl | hm
 ·exact a0j
 ·have hne : p.1 ≠ o := fun e => hn.1 (by rw [<- e]; exact List.mem_map_of_mem hm)
  rw [z0 hne]
  exact h.1 p (List.mem_cons_of_mem _ hm)
theorem Sep.new (h : Sep S L) : Sep (a0h S S.length (.arr v cs)) ((S.length, v, cs) :: L) := by
 refine ⟨fun p hm => ?_, ?_⟩
 ·rcases List.mem_cons.1 hm with rfl | hm
  ·exact a0j
  ·rw [z0 (fun e => by have := h.lt hm; omega)]
   exact h.1 p hm
 ·simp only [List.map_cons, List.nodup_cons]
  refine ⟨fun hm => ?_, h.2⟩
  obtain ⟨p, hp1, hp2⟩ := List.mem_map.1 hm
  have := h.lt hp1
  omega
def Rp (L : List It) (p p' : It) (L' : List It) : Prop := p.1 = p'.1 /\ ∃ A B, L = A ++ p :: B /\ L' = A ++ p' :: B
theorem Rp.here (e : p.1 = p'.1 := by rfl) : Rp (p :: L) p p' (p' :: L) := ⟨e, [], L, rfl, rfl⟩
theorem Rp.there (h : Rp L p p' L') : Rp (q :: L) p p' (q :: L') := by
 obtain ⟨e, A, B, rfl, rfl⟩ := h
 exact ⟨e, q :: A, B, rfl, rfl⟩
theorem Rp.skip (h : Rp L p p' L') : Rp (C ++ L) p p' (C ++ L') := by
 obtain ⟨e, A, B, rfl, rfl⟩ := h
 exact ⟨e, C ++ A, B, by simp, by simp⟩
theorem Rp.mem (h : Rp L p p' L') : p ∈ L := by obtain ⟨_, A, B, rfl, rfl⟩ := h; simp
theorem a4p {α : Type} {A B : List α} {x : α} : (A ++ x :: B).Perm (x :: (A ++ B)) := List.perm_middle
theorem Sep.rp (h : Sep S L) (k : Rp L (o, v, cs) (o, v', cs') L') : Sep (a0h S o (.arr v' cs')) L' := by
 obtain ⟨_, A, B, rfl, rfl⟩ := k
 exact (Sep.set (h.perm a4p)).perm a4p.symm
def Pk (L : List It) (p : It) (L0 : List It) : Prop := L.Perm (p :: L0)
def PkC (L C L0 : List It) : Prop := L.Perm (C ++ L0)
def Spl (L L1 R : List It) : Prop := L.Perm (L1 ++ R)
theorem Pk.here : Pk (p :: L) p L := .refl _
theorem Pk.there (h : Pk L p L0) : Pk (q :: L) p (q :: L0) := (List.Perm.cons q h).trans (.swap _ _ _)
theorem Pk.skip (h : Pk L p L0) : Pk (C ++ L) p (C ++ L0) := (List.Perm.append_left C h).trans a4p
theorem PkC.here : PkC (C ++ L) C L := .refl _
theorem PkC.there (h : PkC L C L0) : PkC (q :: L) C (q :: L0) := (List.Perm.cons q h).trans a4p.symm
theorem PkC.skip (h : PkC L C L0) : PkC (A ++ L) C (A ++ L0) := by
 refine (List.Perm.append_left A h).trans ?_
 rw [<- List.append_assoc, <- List.append_assoc]
 exact List.Perm.append_right _ List.perm_append_comm
theorem PkC.all : PkC C C [] := by unfold PkC; rw [List.append_nil]
theorem Spl.nil : Spl L [] L := .refl _
theorem Spl.cons (h : Pk L p L0) (k : Spl L0 L1 R) : Spl L (p :: L1) R := h.trans (List.Perm.cons p k)
theorem Spl.app (h : PkC L C L0) (k : Spl L0 L1 R) : Spl L (C ++ L1) R := by
 refine h.trans ((List.Perm.append_left C k).trans ?_)
 rw [List.append_assoc]
theorem Spl.last (h : PkC L C L0) : Spl L C L0 := h
theorem Sep.spl (h : Sep S L) (k : Spl L L1 R) : Sep S (L1 ++ R) := h.perm k
theorem Sep.take (h : Sep S L) (k : Spl L L1 R) : Sep S L1 := (h.perm k).left
end

def Tri (P : Program) (f : FuncId) (args : List AV) (L : List It) (Q : AV -> List It -> Prop) : Prop :=
 ∀ R S, Sep S (L ++ R) -> ∃ r S', Ev P f args (hp S) r (hp S') /\ ∃ L', Q r L' /\ Sep S' (L' ++ R)
section
variable {P : Program} {f : FuncId} {args : List AV} {L L0 : List It} {Q Q' : AV -> List It -> Prop}
theorem Tri.mono (h : Tri P f args L Q) (k : ∀ r L', Q r L' -> Q' r L') : Tri P f args L Q' := fun R S hS => by
 obtain ⟨r, S', h1, L', h2, h3⟩ := h R S hS
 exact ⟨r, S', h1, L', k _ _ h2, h3⟩
theorem b6F {n : Nat} {ts : List RS} {fc : FC} (hm : P.follows .mixedOrders = true) (hfn : Fn3 P f n ts fc) (hn : args.length <= n) {S : List Ob} (ow : List Nat) {Q : AV -> List Ob -> Prop}
  (h : VT P S ow fc (a1h 0 args) S (fun e fr1 S1 => a4D e /\ ∃ v, a1T S1 (Fr.get fr1) ts = some v /\ Q v S1)) : ∃ r S', Ev P f args (hp S) r (hp S') /\ Q r S' := by
 obtain ⟨e, fr', S', ⟨he, v, h1, h2⟩, h3⟩ := b6i h
 exact ⟨v, S', a3h hm hfn hn ow (h3 _ ⟨he, v, _, h1, GWk.refl, .refl _⟩), h2⟩
theorem j7 {n : Nat} {ts : List RS} {fc : FC} (hm : P.follows .mixedOrders = true) (hfn : Fn3 P f n ts fc) (hn : args.length <= n) (ow : List Nat)
  (h : ∀ R S, Sep S (L ++ R) -> VT P S ow fc (a1h 0 args) S (fun e fr1 S1 => a4D e /\ ∃ v, a1T S1 (Fr.get fr1) ts = some v /\ ∃ L', Q v L' /\ Sep S1 (L' ++ R))) : Tri P f args L Q := fun R S hS =>
 b6F hm hfn hn ow (h R S hS)
end

section
variable {P : Program} {S0 : List Ob} {ow : List Nat} {fr : Fr} {S : List Ob} {log : List LE} {L L' L0 L1 R : List It} {α : Type} {f : α -> AV} {esh : Option Nat}
theorem b7 {d a sh rs} {K : Fr -> List Ob -> List LE -> Prop} {o ver p} {cs : List AV} {v : AV} (hS : Sep S L) (e : ev (Fr.get fr) a = .ptr o ver p) (hm : (o, ver, cs) ∈ L)
  (hv : w9 sh cs p = some v) (h : VTops P ow rs ((d, v) :: fr) S (.acc [o] none :: log) K) : VTops P ow (⟨some d, none, .op (.load sh a)⟩ :: rs) fr S log K := c2D e (hS.at hm) hv h
theorem E_stS {a x nn rs} {K : Fr -> List Ob -> List LE -> Prop} {o ver p} {cs : List AV} {xv : AV} (hS : Sep S L) (e : ev (Fr.get fr) a = .ptr o ver p) (ex : ev (Fr.get fr) x = xv)
  (hr : Rp L (o, ver, cs) (o, ver, splice cs p xv.cells) L') (hx : xv.cells.length = nn) (h1 : xv.cells.all AV.one = true) (hfit : p + nn <= cs.length)
  (h : ∀ S', Sep S' L' -> VTops P ow rs fr S' (.acc [o] (some o) :: log) K) : VTops P ow (⟨none, none, .op (.store nn a x)⟩ :: rs) fr S log K :=
 c2E e ex (hS.at hr.mem) hx h1 hfit rfl (h _ (hS.rp hr))
theorem z7 {d cs rs} {K : Fr -> List Ob -> List LE -> Prop} (hS : Sep S L) (how : ow.contains d = true) (h : ∀ o S', Sep S' ((o, 0, cs) :: L) -> VTops P ow rs ((d, .ptr o 0 0) :: fr) S' (.acc [o] (some o) :: log) K) :
  VTops P ow (⟨some d, none, .op (.new cs)⟩ :: rs) fr S log K := by
 refine y3 (v := .ptr S.length 0 0) (rd := []) (δ := some (S.length, .arr 0 cs)) ?_ rfl rfl (h _ _ hS.new)
 simp only [opV, b5K, how, if_true]
theorem a3J {d x rs} {K : Fr -> List Ob -> List LE -> Prop} {xv : AV} (hS : Sep S L) (how : ow.contains d = true) (e : ev (Fr.get fr) x = xv) (hj : xv.nj = true) (h : ∀ o S', Sep S' ((o, 0, xv.cells) :: L) -> VTops P ow rs ((d, .ptr o 0 0) :: fr) S' (.acc [o] (some o) :: log) K) :
  VTops P ow (⟨some d, none, .op (.box x)⟩ :: rs) fr S log K := by
 refine y3 (v := .ptr S.length 0 0) (rd := []) (δ := some (S.length, .arr 0 xv.cells)) ?_ rfl rfl (h _ _ hS.new)
 simp only [opV, b5K, how, if_true, e, hj]
theorem b2o {d} {bytes : Nat} {z l c rs} {K : Fr -> List Ob -> List LE -> Prop} {k k' n n'} {x : α} (hS : Sep S L) (he : Enc f esh) (how : ow.contains d = true) (e : ev (Fr.get fr) l = .int k n) (e1 : ev (Fr.get fr) c = .int k' n') (hz : (f x).cells = z)
  (hn : 0 <= n /\ n <= n' /\ n' * bytes <= 281474976710656 /\ n' <= 281474976710656)
  (h : ∀ o S', Sep S' ((o, 0, flat f (List.replicate n.toNat x)) :: L) -> VTops P ow rs ((d, .ref o 0 0 n.toNat esh) :: fr) S' (.acc [o] (some o) :: log) K) : VTops P ow (⟨some d, none, .op (.mksl esh bytes z l c)⟩ :: rs) fr S log K :=
 b6u he how e e1 hz hn rfl (h _ _ hS.new)
theorem b0H (he : Enc f esh) (l : List α) (x : List AV) : (flat f l ++ x).take (l.length * d9 esh) = flat f l := by
 rw [<- he.length l, List.take_left]
theorem a3m {d bytes s x rs} {K : Fr -> List Ob -> List LE -> Prop} {o ver : Nat} {l m : List α} {j : List AV} {rdx : List Nat} (hS : Sep S L) (he : Enc f esh) (e : ev (Fr.get fr) s = .ref o ver 0 l.length esh) (e2 : a8Z esh (ev (Fr.get fr) x) S = some (m.length, flat f m, rdx))
  (hr : Rp L (o, ver, flat f l ++ j) (o, ver + 1, flat f (l ++ m)) L') (hb : (l.length + m.length) * bytes <= 140737488355328 /\ l.length + m.length <= 140737488355328)
  (h : ∀ S', Sep S' L' -> VTops P ow rs ((d, .ref o (ver + 1) 0 (l ++ m).length esh) :: fr) S' (.acc (o :: o :: rdx) (some o) :: log) K) : VTops P ow (⟨some d, none, .op (.app esh bytes s x)⟩ :: rs) fr S log K := by
 have ho := hS.at hr.mem
 refine y3 (v := .ref o (ver + 1) 0 (l ++ m).length esh) (rd := o :: rdx) (δ := some (o, .arr (ver + 1) (flat f (l ++ m)))) ?_ rfl rfl (h _ (hS.rp hr))
 simp only [opV, b1E, e, e2, Option.bind_some, he.all, if_true]
 rw [if_pos ⟨trivial, hb.1, hb.2⟩]
 simp only [v9, ho, if_true, Option.map_some, List.drop_zero, b0H he, <- w4, List.length_append]
theorem a2S {d f args rs} {K : Fr -> List Ob -> List LE -> Prop} {ags : List AV} {Q : AV -> List It -> Prop} (c : Tri P f ags L1 Q) (hS : Sep S L) (e : evL (Fr.get fr) args = ags) (hp : Spl L L1 R)
  (h : ∀ v S' L', Q v L' -> Sep S' (L' ++ R) -> VTops P ow rs ((d, v) :: fr) S' (.eff S S' :: log) K) : VTops P ow (⟨some d, none, .call f args⟩ :: rs) fr S log K := by
 obtain ⟨r, S', h1, L', h2, h3⟩ := c R S (hS.spl hp)
 exact a7J h1 e (h r S' L' h2 h3)
theorem b0I {d : Nat} {e : Option Nat} (hd : Fr.get fr d = .nils) : Wk S0 fr S ((d, .ref S.length 0 0 0 e) :: fr) (a0h S S.length (.arr 0 [])) := by
 intro g0 n a w hat
 obtain ⟨h0, g, h1, h2, h3⟩ := hat
 have hv := a5E S
 obtain ⟨k1, k2⟩ := h2.own (o := S.length) (l := ⟨0, 0, 0⟩) (ver := 0) (cs := []) (by rw [hv]; exact trivial) (fun h => absurd h (Nat.lt_irrefl 0)) (Nat.le_refl 0) (fun j hj => absurd hj (Nat.not_lt_zero j)) (fun j hj => absurd hj (Nat.not_lt_zero j)) (fun j hj => absurd hj (Nat.not_lt_zero j)) (fun j hj => absurd hj (Nat.not_lt_zero j))
  (fun o' ver' cs' _ _ _ j j' _ hj' => absurd hj' (Nat.not_lt_zero j'))
 rw [<- a1o] at k1 k2
 refine ⟨h0, _, h1.trans k2, k1, h3.size, fun t => ?_⟩
 rw [get_cons]
 have ht := h3.get t
 split
 ·rename_i e1; subst e1
  rw [hd] at ht
  generalize a.tmps.getD t undef = u at ht
  cases ht
  refine .refnil ?_
  simp [a2I, a0j]
 ·exact ht.mono k2.ext
theorem b6G {b} {K K0 : Post} (d : Nat) (e : Option Nat) (hS : Sep S L) (hd : Fr.get fr d = .nils) (h : ∀ o S', Sep S' ((o, 0, []) :: L) -> VT P S0 ow b ((d, .ref o 0 0 0 e) :: fr) S' K) :
  Post.thn (fun fr' S' => ∃ F T, Wk S0 fr' S' F T /\ VT P S0 ow b F T K) K0 .normal fr S := s9 (b0I hd) (h _ _ hS.new)

theorem a5O {a b} {K : Post} {σ : Type} (F : σ -> Fr) (Lf : σ -> List It) (I : σ -> Prop)
  (ha : VT P S0 ow a fr S (Post.thn (fun fr' S' => ∃ s, I s /\ Sep S' (Lf s) /\ Wk S0 fr' S' (F s) S') K)) (hb : ∀ s S, I s -> Sep S (Lf s) -> VT P S0 ow b (F s) S K) : VT P S0 ow (.seq a b) fr S K :=
 c7 (a0T (a1a (fun _ _ ⟨s, h1, h2, h3⟩ => ⟨F s, _, h3, hb s _ h1 h2⟩) (fun _ _ _ h => h)) ha)
theorem s7 {N : Fr -> List Ob -> Prop} {K0 : Post} (h : N fr S) : Post.thn N K0 .normal fr S := h
theorem a2t {a} {K : Post} {σ : Type} (F : σ -> Fr) (Lf : σ -> List It) (I : σ -> Prop) (μ : σ -> Nat) (s0 : σ) (hS : Sep S (Lf s0)) (h0 : I s0) (hw : Wk S0 fr S (F s0) S)
  (h : ∀ s S, I s -> Sep S (Lf s) -> VT P S0 ow a (F s) S (Post.thn (fun fr' S' => ∃ s', I s' /\ μ s' < μ s /\ Sep S' (Lf s') /\ Wk S0 fr' S' (F s') S') K)) : VT P S0 ow (.loop a) fr S K := by
 refine b0k (ι := σ × List Ob) (fun i => F i.1) (fun i => i.2) (fun i => I i.1 /\ Sep i.2 (Lf i.1)) (fun i => μ i.1) (s0, S) ⟨h0, hS⟩ hw (fun i hi => ?_)
 refine a0T (a1a (fun fr' S' hh => ?_) (fun _ _ _ h => h)) (h i.1 i.2 hi.1 hi.2)
 obtain ⟨s', h1, h2, h3, h4⟩ := hh
 exact ⟨(s', S'), ⟨h1, h3⟩, h2, h4⟩
def b6H (S0 : List Ob) {σ : Type} (ti tn id id2 : Nat) (n : Int) (F : σ -> Fr) (Lf : σ -> List It) (I : Nat -> σ -> Prop) (i : Nat) (K : Post) : Post
 | .normal, fr, S => ∃ s, I (i + 1) s /\ Sep S (Lf s) /\ Wk S0 fr S ((ti, .int .i64 i) :: (tn, .int .i64 n) :: F s) S
 | .exit j, fr, S => if j = id2 then ∃ s, I (i + 1) s /\ Sep S (Lf s) /\ Wk S0 fr S ((ti, .int .i64 i) :: (tn, .int .i64 n) :: F s) S else if j = id then K .normal fr S else K (.exit j) fr S
 | e, fr, S => K e fr S
section
variable {σ : Type} {ti tn id id2 : Nat} {n : Int} {F : σ -> Fr} {Lf : σ -> List It} {I : Nat -> σ -> Prop} {i : Nat} {K : Post}
theorem R_n (s : σ) (h1 : I (i + 1) s) (h2 : Sep S (Lf s)) (h3 : Wk S0 fr S ((ti, .int .i64 i) :: (tn, .int .i64 n) :: F s) S) : b6H S0 ti tn id id2 n F Lf I i K .normal fr S := ⟨s, h1, h2, h3⟩
end
theorem a1i {tc ti tn tj id id2 : Nat} {B : FC} {K : Post} {σ : Type} (n : Nat) (F : σ -> Fr) (Lf : σ -> List It) (I : Nat -> σ -> Prop) (s0 : σ) (hS : Sep S (Lf s0)) (h0 : I 0 s0) (hw : Wk S0 fr S ((ti, .int .i64 0) :: (tn, .int .i64 n) :: F s0) S)
  (hn : n <= 4611686018427387904) (h1 : ti ≠ tn) (h2 : tj ≠ tn) (hF : ∀ s, Fr.get (F s) tj = .junk /\ Fr.get (F s) ti = .junk /\ Fr.get (F s) tn = .junk /\ Fr.get (F s) tc = .junk)
  (hb : ∀ i s S, i < n -> I i s -> Sep S (Lf s) -> VT P S0 ow B ((tc, .bool true) :: (ti, .int .i64 i) :: (tn, .int .i64 n) :: F s) S (b6H S0 ti tn id id2 n F Lf I i K))
  (hx : ∀ s fr' S, I n s -> Sep S (Lf s) -> Wk S0 fr' S (F s) S -> K .normal fr' S) :
  VT P S0 ow (.block id (.loop (.seq (.reg [⟨some tc, none, .op (.bin .none .lss (.t ti) (.t tn))⟩] []) (.seq (.cond (.t tc) .skip (.exit id)) (.seq (.block id2 B) (.reg [⟨some tj, none, .op (.bin .none .add (.t ti) (.v (.int .i64 1)))⟩, ⟨some ti, none, .op (.mv (.t tj))⟩] [])))))) fr S K := by
 refine p5 (a2t (fun i : Nat × σ => (ti, .int .i64 i.1) :: (tn, .int .i64 n) :: F i.2) (fun i => Lf i.2) (fun i => i.1 <= n /\ I i.1 i.2) (fun i => n - i.1) (0, s0) hS ⟨Nat.zero_le _, h0⟩ hw (fun i S hi hSi => ?_))
 obtain ⟨i, s⟩ := i
 simp only at hi hSi ⊢
 obtain ⟨hi0, hi⟩ := hi
 refine b3c h1 zO (fun hlt => ?_) (fun hge => ?_)
 ·have hnext : ∀ (s' : σ) (S' : List Ob), I (i + 1) s' -> Sep S' (Lf s') -> ∀ fr3, (∀ t, Fr.get fr3 t = if t = ti then .int .i64 ((i : Int) + 1) else if t = tj then .int .i64 ((i : Int) + 1) else Fr.get ((tn, .int .i64 n) :: F s') t) ->
    Post.thn (fun fr' S' => ∃ i' : Nat × σ, (i'.1 <= n /\ I i'.1 i'.2) /\ n - i'.1 < n - i /\ Sep S' (Lf i'.2) /\ Wk S0 fr' S' ((ti, .int .i64 i'.1) :: (tn, .int .i64 n) :: F i'.2) S') (Post.blk id K) .normal fr3 S' := fun s' S' hI hS' fr3 hg => by
   refine ⟨(i + 1, s'), ⟨by simp only; omega, hI⟩, by simp only; omega, hS', a8v (fun t => ?_)⟩
   rw [hg, get_cons]
   simp only
   by_cases ht : t = ti
   ·left; rw [if_pos ht, if_pos ht]; rfl
   ·rw [if_neg ht, if_neg ht]
    by_cases ht2 : t = tj
    ·right; rw [ht2, get_cons, if_neg h2, (hF s').1]
    ·left; rw [if_neg ht2]
  refine a0T (fun e fr' S' hk => ?_) (hb i s S zO hi hSi)
  cases e with
  | normal =>
    obtain ⟨s', k1, k2, k3⟩ := hk
    exact ⟨_, _, k3, hnext s' S' k1 k2⟩
  | exit j =>
    show Post.blk id2 _ (.exit j) fr' S'
    rw [a4C]
    replace hk : if j = id2 then ∃ s, I (i + 1) s /\ Sep S' (Lf s) /\ Wk S0 fr' S' ((ti, .int .i64 i) :: (tn, .int .i64 n) :: F s) S' else if j = id then K .normal fr' S' else K (.exit j) fr' S' := hk
    by_cases hj : j = id2
    ·rw [if_pos hj] at hk ⊢
     obtain ⟨s', k1, k2, k3⟩ := hk
     exact ⟨_, _, k3, hnext s' S' k1 k2⟩
    ·rw [if_neg hj] at hk ⊢
     show Post.blk id K (.exit j) fr' S'
     rw [a4C]
     exact hk
  | ret => exact hk
  | goto l => exact hk
  | panic l => exact hk
  | outgrown => exact hk
 ·have e1 : i = n := by omega
  subst e1
  show Post.blk id K (.exit id) _ _
  rw [a4C, if_pos rfl]
  refine hx s _ _ hi hSi (a8v (fun t => ?_))
  obtain ⟨_, f1, f2, f3⟩ := hF s
  simp only [get_cons]
  by_cases t1 : t = tc
  ·right; rw [t1]; exact f3
  ·by_cases t2 : t = ti
   ·right; rw [t2]; exact f1
   ·by_cases t3 : t = tn
    ·right; rw [t3]; exact f2
    ·left; rw [if_neg t1, if_neg t2, if_neg t3]
end
theorem b0J {β : Type} {g : β -> AV} {e : Option Nat} (he : Enc g e) {S : List Ob} {k : Nat} {o ver : Nat} {l : List β} {j : List AV} (hj : a0S 0 j = true) (h1 : j.all AV.one = true) (ho : hp S o = .arr ver (flat g l ++ j)) : frz 0 S (k + 1) (.ref o ver 0 l.length e) = .sl false (d9 e) (l.map g) := by
 have hb : (AV.ref o ver 0 l.length e).blw 0 = false := by simp [AV.blw]
 have hbb : a0S 0 (flat g l ++ j) = true := by rw [a0W]; intro x hx; rcases List.mem_append.1 hx with h | h; exact a0W.1 (he.blwf 0 l) _ h; exact a0W.1 hj _ h
 have hm : (flat g l ++ j).map (frz 0 S k) = flat g l ++ j := a3G hbb
 simp only [frz, hb, ho, Bool.false_eq_true, if_false, hm, List.drop_zero]
 rw [if_pos ⟨trivial, by rw [List.length_append, he.length]; omega, by rw [List.all_append, he.all l, h1]; rfl⟩]
 have : q8 e l.length (flat g l ++ j) = q8 e l.length (flat g l) := by
  cases e with
  | none =>
    simp only [q8]
    rw [List.take_append_of_le_length (by rw [he.length]; simp [d9])]
  | some n =>
    simp only [q8]
    have : ∀ (k : Nat) (xs : List AV), xs.length = k * n -> a1s n k (xs ++ j) = a1s n k xs := by
     intro k
     induction k with
     | zero => intro xs _; rfl
     | succ k ih =>
       intro xs hx
       have hn : n <= xs.length := by rw [hx, Nat.add_mul]; omega
       simp only [a1s]
       rw [List.take_append_of_le_length hn, List.drop_append_of_le_length hn, ih _ (by rw [List.length_drop, hx, Nat.add_mul]; omega)]
    exact this _ _ (by rw [he.length]; rfl)
 rw [this, he.elems]
end Go.Ab

/- Steps over lists that are objects, told by their elements; with or without cells behind them. -/
namespace Go.Ab
open Go Go.RowKit
section
variable {α : Type} {f : α -> AV} {esh : Option Nat} {l : List α} {n p fo : Nat} {y y' : α} {j : List AV}
theorem c2F (he : Enc f esh) (hy : l[n]? = some y) {sh : Option Nat} {v : AV} (hv : w9 sh (f y).cells fo = some v) (hp : p = n * d9 esh + fo) : w9 sh (flat f l ++ j) p = some v := by
 obtain ⟨a, b, h1, h2, _⟩ := he.at hy
 rw [hp, <- h2, h1, List.append_assoc (a ++ (f y).cells)]
 exact a6m hv
theorem b6I (he : Enc f esh) (hy : l[n]? = some y) {sh : Option Nat} {v : AV} (hv : w9 sh (f y).cells fo = some v) (hp : p = n * d9 esh + fo) : w9 sh (flat f l) p = some v := by
 obtain ⟨a, b, h1, h2, _⟩ := he.at hy
 rw [hp, <- h2, h1]
 exact a6m hv
theorem b2p (he : Enc f esh) (hy : l[n]? = some y) : ∃ a b, a.length = n * d9 esh /\ flat f l = a ++ (f y).cells ++ b /\ flat f (l.set n y') = a ++ (f y').cells ++ b := by
 obtain ⟨hn, rfl⟩ := List.getElem?_eq_some_iff.1 hy
 have e2 : l.take n ++ l[n] :: l.drop (n + 1) = l := by rw [<- List.drop_eq_getElem_cons hn, List.take_append_drop]
 refine ⟨flat f (l.take n), flat f (l.drop (n + 1)), by rw [he.length, List.length_take, Nat.min_eq_left zO], ?_, ?_⟩
 ·rw [List.append_assoc, <- y9, <- w4, e2]
 ·rw [List.set_eq_take_append_cons_drop, if_pos hn, w4, y9, List.append_assoc]
theorem b6J (he : Enc f esh) (hy : l[n]? = some y) {xs : List AV} (hp : p = n * d9 esh + fo) (hf : fo + xs.length <= d9 esh) (hy' : (f y').cells = splice (f y).cells fo xs) : splice (flat f l ++ j) p xs = flat f (l.set n y') ++ j := by
 obtain ⟨a, b, h2, h1, h3⟩ := b2p (y' := y') he hy
 rw [hp, <- h2, h1, h3, List.append_assoc (a ++ (f y).cells), a4J xs (by rw [he.sz]; exact hf), hy', List.append_assoc (a ++ _)]
theorem b3X (he : Enc f esh) (hy : l[n]? = some y) {xs : List AV} (hp : p = n * d9 esh + fo) (hf : fo + xs.length <= d9 esh) (hy' : (f y').cells = splice (f y).cells fo xs) : splice (flat f l) p xs = flat f (l.set n y') := by
 have := b6J (j := []) he hy hp hf hy'
 simpa using this
theorem b6K (he : Enc f esh) (hy : l[n]? = some y) {m : Nat} (hp : p = n * d9 esh + fo) (hf : fo + m <= d9 esh) : p + m <= (flat f l ++ j).length := by
 have hn := (List.getElem?_eq_some_iff.1 hy).1
 have : (n + 1) * d9 esh <= l.length * d9 esh := Nat.mul_le_mul_right _ hn
 rw [List.length_append, he.length]
 rw [Nat.add_mul] at this
 omega
end
section
variable {P : Program} {S0 : List Ob} {ow : List Nat} {fr : Fr} {S : List Ob} {log : List LE} {L L' L0 L1 R : List It} {α : Type} {f : α -> AV} {esh : Option Nat}
theorem b2q {d a sh rs} {K : Fr -> List Ob -> List LE -> Prop} {o ver p n fo} {l : List α} {j : List AV} {y : α} {v : AV} (hS : Sep S L) (he : Enc f esh) (e : ev (Fr.get fr) a = .ptr o ver p) (hm : (o, ver, flat f l ++ j) ∈ L) (hp : p = n * d9 esh + fo) (hy : l[n]? = some y)
  (hv : w9 sh (f y).cells fo = some v) (h : VTops P ow rs ((d, v) :: fr) S (.acc [o] none :: log) K) : VTops P ow (⟨some d, none, .op (.load sh a)⟩ :: rs) fr S log K := b7 hS e hm (c2F he hy hv hp) h
theorem a2K {d a sh rs} {K : Fr -> List Ob -> List LE -> Prop} {o ver p n fo} {l : List α} {y : α} {v : AV} (hS : Sep S L) (he : Enc f esh) (e : ev (Fr.get fr) a = .ptr o ver p) (hm : (o, ver, flat f l) ∈ L) (hp : p = n * d9 esh + fo) (hy : l[n]? = some y)
  (hv : w9 sh (f y).cells fo = some v) (h : VTops P ow rs ((d, v) :: fr) S (.acc [o] none :: log) K) : VTops P ow (⟨some d, none, .op (.load sh a)⟩ :: rs) fr S log K := b7 hS e hm (b6I he hy hv hp) h
theorem a5P {a x nn rs} {K : Fr -> List Ob -> List LE -> Prop} {o ver p n fo} {l : List α} {y y' : α} {xv : AV} (hS : Sep S L) (he : Enc f esh) (e : ev (Fr.get fr) a = .ptr o ver p) (ex : ev (Fr.get fr) x = xv) (hp : p = n * d9 esh + fo) (hy : l[n]? = some y)
  (hr : Rp L (o, ver, flat f l) (o, ver, flat f (l.set n y')) L') (hx : xv.cells.length = nn) (h1 : xv.cells.all AV.one = true) (hfit : fo + nn <= d9 esh) (hy' : (f y').cells = splice (f y).cells fo xv.cells)
  (h : ∀ S', Sep S' L' -> VTops P ow rs fr S' (.acc [o] (some o) :: log) K) : VTops P ow (⟨none, none, .op (.store nn a x)⟩ :: rs) fr S log K :=
 E_stS hS e ex (by rw [b3X he hy hp (by rw [hx]; exact hfit) hy']; exact hr) hx h1 (by have := b6K (j := []) he hy hp hfit; simpa using this) h
end
end Go.Ab

/- A nil slice in an object's cell as a list without an object. -/
namespace Go.Ab
open Go Go.RowKit
theorem WRel.recell {g σ} {w : World} (h : WRel g σ w) {o ver : Nat} {cs cs' : List AV} (e : σ o = .arr ver cs) (hl : cs'.length = cs.length) (hv : ∀ j (h1 : j < cs.length) (h2 : j < cs'.length) u, VR g.pm g.L σ cs[j] u -> VR g.pm g.L σ cs'[j] u) :
  WRel g (upd σ o (.arr ver cs')) w /\ g.le σ g (upd σ o (.arr ver cs')) := by
 have k := h.ob o ver cs e
 have hext : Ext g.pm g.L σ g.pm g.L (upd σ o (.arr ver cs')) := ⟨fun _ _ _ e => e, fun i => by
  by_cases hi : i = o
  ·subst hi; simp [e, u0, hl]
  ·simp [s8 _ _ hi]; exact u0.refl _ _⟩
 refine ⟨⟨h.pm, h.tm, h.tmf, h.disj, h.low, h.B0, h.tab, fun i ver' cs2 e' => ?_, fun i i' v1 v2 c1 c2 e1 e2 hne => ?_⟩, ⟨hext, rfl, rfl, rfl⟩⟩
 ·by_cases hi : i = o
  ·subst hi
   simp at e'
   obtain ⟨rfl, rfl⟩ := e'
   refine ⟨k.low, by rw [hl]; exact k.len, fun m hm => ?_, k.free, k.pm, k.tm⟩
   obtain ⟨u, hu, hr⟩ := k.there m hm
   exact ⟨u, hu, fun hm' => (hv m zO hm' u (hr zO)).mono hext⟩
  ·rw [s8 _ _ hi] at e'
   have k' := h.ob i ver' cs2 e'
   refine ⟨k'.low, k'.len, fun m hm => ?_, k'.free, k'.pm, k'.tm⟩
   obtain ⟨u, hu, hr⟩ := k'.there m hm
   exact ⟨u, hu, fun hm' => (hr hm').mono hext⟩
 ·have a1 : ∃ v c, σ i = .arr v c := by
   by_cases hi : i = o
   ·exact ⟨_, _, hi ▸ e⟩
   ·rw [s8 _ _ hi] at e1; exact ⟨_, _, e1⟩
  have a2 : ∃ v c, σ i' = .arr v c := by
   by_cases hi : i' = o
   ·exact ⟨_, _, hi ▸ e⟩
   ·rw [s8 _ _ hi] at e2; exact ⟨_, _, e2⟩
  obtain ⟨_, _, a1⟩ := a1
  obtain ⟨_, _, a2⟩ := a2
  exact h.sep i i' _ _ _ _ a1 a2 hne
section
variable {P : Program} {S0 : List Ob} {ow : List Nat} {fr : Fr} {S : List Ob} {L : List It}
theorem a5Q {o ver j : Nat} {cs : List AV} {e : Option Nat} (ho : hp S o = .arr ver cs) (hj : cs[j]? = some .nils) :
  Wk S0 fr S fr (a0h (a0h S S.length (.arr 0 [])) o (.arr ver (cs.set j (.ref S.length 0 0 0 e)))) := by
 intro g0 n a w hat
 obtain ⟨h0, g, h1, h2, h3⟩ := hat
 have hv := a5E S
 have hos : o ≠ S.length := fun h => by rw [h, hv] at ho; cases ho
 obtain ⟨k1, k2⟩ := h2.own (o := S.length) (l := ⟨0, 0, 0⟩) (ver := 0) (cs := []) (by rw [hv]; exact trivial) (fun h => absurd h (Nat.lt_irrefl 0)) (Nat.le_refl 0) (fun j hj => absurd hj (Nat.not_lt_zero j)) (fun j hj => absurd hj (Nat.not_lt_zero j)) (fun j hj => absurd hj (Nat.not_lt_zero j)) (fun j hj => absurd hj (Nat.not_lt_zero j))
  (fun o' ver' cs' _ _ _ j j' _ hj' => absurd hj' (Nat.not_lt_zero j'))
 rw [<- a1o] at k1 k2
 have ho1 : hp (a0h S S.length (.arr 0 [])) o = .arr ver cs := by rw [z0 hos]; exact ho
 obtain ⟨q1, q2⟩ := k1.recell (cs' := cs.set j (.ref S.length 0 0 0 e)) ho1 zS (fun i a1 a2 u hu => by
  rw [List.getElem_set]
  split
  ·rename_i hij
   subst hij
   rw [List.getElem?_eq_getElem a1] at hj
   have hj := Option.some.inj hj
   rw [hj] at hu
   cases hu
   refine .refnil ?_
   simp [a2I, a0j]
  ·exact hu)
 rw [<- a1o] at q1 q2
 exact ⟨h0, _, (h1.trans k2).trans q2, q1, h3.size, fun t => ((h3.get t).mono k2.ext).mono q2.ext⟩
theorem a9d {b} {K K0 : Post} {o ver : Nat} {cs : List AV} (j : Nat) (e : Option Nat) {Lf : Nat -> List It} (hS : Sep S L) (hr : ∀ o', Rp L (o, ver, cs) (o, ver, cs.set j (.ref o' 0 0 0 e)) (Lf o')) (hj : cs[j]? = some .nils) (h : ∀ o' S', Sep S' ((o', 0, []) :: Lf o') -> VT P S0 ow b fr S' K) :
  Post.thn (fun fr' S' => ∃ F T, Wk S0 fr' S' F T /\ VT P S0 ow b F T K) K0 .normal fr S := by
 have hm := (hr 0).mem
 have ho := hS.at hm
 refine s9 (a5Q (e := e) ho hj) (h S.length _ ?_)
 have h1 : Sep (a0h S S.length (.arr 0 [])) ((S.length, 0, []) :: L) := hS.new
 exact h1.rp (Rp.there (hr S.length))
end
end Go.Ab

/- Heaps of a number of objects that is not known: given by a function. -/
namespace Go.Ab
open Go Go.RowKit
section
variable {n m : Nat} {f g : Nat -> Ob}
end
section
variable {S : List Ob} {n : Nat} {m : Nat -> Option Nat} {f : Nat -> Ob}
end
section
variable {P : Program} {S0 : List Ob} {ow : List Nat} {fr : Fr} {S : List Ob} {log : List LE}
end
end Go.Ab

/- A method that takes the value, where the interface holds a pointer: the step. -/
namespace Go.Ab
section
variable {P : Program} {S0 : List Ob} {ow : List Nat} {fr : Fr} {S : List Ob} {log : List LE} {L L' L0 L1 R : List It}
end
end Go.Ab

/- Further steps over separated objects. -/
namespace Go.Ab
open Go Go.RowKit
section
variable {P : Program} {S0 : List Ob} {ow : List Nat} {fr : Fr} {S : List Ob} {log : List LE} {L : List It} {esh : Option Nat}
theorem a7S {a b} {K : Post} {σ : Type} (F : σ -> Fr) (Lf : σ -> List It) (I : σ -> Prop)
  (ha : VT P S0 ow a fr S (Post.thn (fun fr' S' => ∃ s, I s /\ Sep S' (Lf s) /\ Wk S0 fr' S' (F s) S') K)) (hb : ∀ s S, I s -> Sep S (Lf s) -> VT P S0 ow b (F s) S K) :
  VT P S0 ow a fr S (Post.thn (fun fr' S' => ∃ F T, Wk S0 fr' S' F T /\ VT P S0 ow b F T K) K) :=
 a0T (a1a (fun _ _ ⟨s, h1, h2, h3⟩ => ⟨F s, _, h3, hb s _ h1 h2⟩) (fun _ _ _ h => h)) ha
end
theorem Ev.gwk {P : Program} {f : FuncId} {args : List AV} {S S1 S' : List Ob} {r r' : AV} {R : AV -> AV -> Prop} (h : Ev P f args (hp S) r (hp S1)) (k : GWk S S1 S' R) (hr : R r r') : Ev P f args (hp S) r' (hp S') := by
 intro g w vals hw hv
 refine (h g w vals hw hv).mono ?_
 rintro e w' ⟨u, g', e1, e2, e3, e4⟩
 obtain ⟨g2, h1, h2, h3⟩ := k g g' w' e2 e3
 exact ⟨u, g2, e1, h1, h2, h3 _ _ _ hr e4⟩
theorem Tri.pure {P : Program} {f : FuncId} {args : List AV} {Q : AV -> List It -> Prop} {Q' : AV -> Prop} (k : Nat) (h : Tri P f args [] Q) (hq : ∀ v L' S, Q v L' -> Sep S L' -> ∃ r, AVw (frz 0 S k v) r /\ Q' r) : ∃ r, p3 P f args r /\ Q' r := by
 obtain ⟨v, S', h1, L', h2, h3⟩ := h [] [] Sep.nil
 rw [List.append_nil] at h3
 obtain ⟨r, h4, h5⟩ := hq v L' S' h2 h3
 refine ⟨r, ?_, h5⟩
 have := h1.gwk ((a6j 0 k zS).trans GWk.refl) ⟨_, rfl, h4⟩
 rw [b0j] at this
 exact this
end Go.Ab

/- One object is frozen: it is dead, and what named it holds its cells. -/
namespace Go.Ab
open Go Go.RowKit
inductive Fz1 (o ver : Nat) (cs : List AV) : AV -> AV -> Prop
 | same (x) : Fz1 o ver cs x x
 | ref {off n e} (h : off + n * d9 e <= cs.length) (h1 : cs.all AV.one = true) : Fz1 o ver cs (.ref o ver off n e) (.sl false (d9 e) (q8 e n (cs.drop off)))
 | ptr {off} : Fz1 o ver cs (.ptr o ver off) (.cptr cs off)
theorem b0K {cs : List AV} (h : cs.all AV.one = true) (n : Nat) : (cs.drop n).all AV.one = true := by
 rw [List.all_eq_true] at h ⊢
 exact fun x hx => h x (List.mem_of_mem_drop hx)
theorem VR.none_to {g : Gh} {S : List Ob} {x : AV} {u : Value} {pm : Pm} {L : Nat -> Loc} {σ : Hp} {pm' : Pm} {σ' : Hp} (h : VR pm L σ x u) (hpm : ∀ b o v, pm b o = some v -> pm' b o = some v) (hx : x.blw 0 = true) : VR pm' L σ' x u := by
 have h2 : VR pm L σ' x u := h.agree hx (fun o ho => absurd ho (Nat.not_lt_zero o))
 exact h2.mono ⟨hpm, fun o => u0.refl _ _⟩
theorem b0L {S0 S S' : List Ob} {o ver : Nat} {cs : List AV} (ho : hp S o = .arr ver cs) (hb : a0S 0 cs = true) (hd : hp S' o = .dead ver)
  (hs : ∀ i, i ≠ o -> hp S' i = hp S i \/ ∃ v c c', hp S i = .arr v c /\ hp S' i = .arr v c' /\ c'.length = c.length /\ ∀ j (h1 : j < c.length) (h2 : j < c'.length), Fz1 o ver cs c[j] c'[j]) : GWk S0 S S' (Fz1 o ver cs) := by
 intro g0 g w h1 h2
 classical
 let reg : Nat -> Nat -> Prop := fun b a => (g.L o).b = b /\ ∃ j, j < cs.length /\ (g.L o).off + j = a
 let pm' : Pm := fun b a => if reg b a then w.cell? ⟨b, a, none⟩ else g.pm b a
 have q := h2.ob o ver cs ho
 have hnp : ∀ b a v, g.pm b a = some v -> ¬ reg b a := by
  rintro b a v e ⟨rfl, j, hj, rfl⟩
  rw [q.pm j (by have := q.len; omega)] at e; cases e
 have hpm : ∀ b a v, g.pm b a = some v -> pm' b a = some v := fun b a v e => by
  simp only [pm']; rw [if_neg (hnp _ _ _ e)]; exact e
 have hσ : ∀ i, u0 (hp S i) (g.L i) (hp S' i) (g.L i) := fun i => by
  by_cases hi : i = o
  ·subst hi; rw [hd, ho]; exact Nat.le_refl _
  ·rcases hs i hi with e | ⟨v, c, c', e1, e2, e3, _⟩
   ·rw [e]; exact u0.refl _ _
   ·rw [e1, e2]; exact .inr ⟨rfl, rfl, e3⟩
 have hin : ∀ i v c', hp S' i = .arr v c' -> i ≠ o /\ ∃ c, hp S i = .arr v c /\ c'.length = c.length /\ ∀ j (h1 : j < c.length) (h2 : j < c'.length), Fz1 o ver cs c[j] c'[j] := fun i v c' e => by
  have hi : i ≠ o := fun h => by rw [h, hd] at e; cases e
  refine ⟨hi, ?_⟩
  rcases hs i hi with e1 | ⟨v1, c1, c1', e1, e2, e3, e4⟩
  ·rw [e1] at e; exact ⟨c', e, rfl, fun j _ _ => .same _⟩
  ·rw [e2] at e; cases e; exact ⟨c1, e1, e3, e4⟩
 have hext : Ext g.pm g.L (hp S) pm' g.L (hp S') := ⟨hpm, hσ⟩
 have hcell : ∀ j, j < cs.length -> pm' (g.L o).b ((g.L o).off + j) = some ((w.cell? ⟨(g.L o).b, (g.L o).off + j, none⟩).getD undef) := fun j hj => by
  obtain ⟨v, hv, _⟩ := q.there j (by have := q.len; omega)
  have hreg : reg (g.L o).b ((g.L o).off + j) := ⟨rfl, j, hj, rfl⟩
  simp only [pm']; rw [if_pos hreg, hv]; rfl
 have hval : ∀ j (hj : j < cs.length), VR pm' g.L (hp S') cs[j] ((w.cell? ⟨(g.L o).b, (g.L o).off + j, none⟩).getD undef) := fun j hj => by
  obtain ⟨v, hv, hr⟩ := q.there j (by have := q.len; omega)
  rw [hv]
  exact (hr hj).none_to (g := g) (S := S) hpm (a0W.1 hb _ (List.getElem_mem hj))
 have key : ∀ {x y : AV} {u : Value}, Fz1 o ver cs x y -> VR g.pm g.L (hp S) x u -> VR pm' g.L (hp S') y u := fun {x y u} r hv => by
  cases r with
  | same => exact hv.mono hext
  | @ref off n e hl ha =>
    cases hv with
    | @ref _ _ _ _ _ a cap hn hs hr =>
      unfold a0p at hr
      rw [ho] at hr
      obtain ⟨rfl, r2, r3, r4⟩ := hr.2 rfl
      exact VR.told (us := fun j => (w.cell? ⟨(g.L o).b, (g.L o).off + (off + j), none⟩).getD undef) zE (b0K ha off) (fun j hj => by rw [Nat.add_assoc]; exact hcell (off + j) zO)
       (fun j hj hj2 => by
        simp only [List.getElem_drop]
        exact hval (off + j) (by rw [List.length_drop] at hj; omega)) hn (by intro e; cases e)
    | @refnil _ _ _ _ hv =>
      have : ∀ l : List AV, q8 e 0 l = [] := fun l => by cases e <;> simp [q8, a1s]
      rw [this]; exact .slz'
  | @ptr off =>
    cases hv with
    | @ptr _ _ _ a hpt =>
      unfold a0Q at hpt
      rw [ho] at hpt
      obtain rfl := hpt.2 rfl
      exact .cptr _ (fun j hj => hcell j hj) (fun j hj => hval j hj)
 refine ⟨{ g with pm := pm' }, ⟨⟨fun b a v e => hpm _ _ _ (h1.ext.pm _ _ _ e), fun i => (h1.ext.ob i).trans (hσ i)⟩, h1.tm, h1.B0, h1.w0⟩, ⟨fun b a v e => ?_, h2.tm, h2.tmf, fun b a v e => ?_, h2.low, h2.B0, h2.tab, fun i v c' e => ?_, fun i i' v v' c c' e e' hne => ?_⟩, fun x y u r hv => key r hv⟩
 ·replace e : (if reg b a then w.cell? ⟨b, a, none⟩ else g.pm b a) = some v := e
  split at e
  ·exact e
  ·exact h2.pm _ _ _ e
 ·replace e : (if reg b a then w.cell? ⟨b, a, none⟩ else g.pm b a) = some v := e
  split at e
  ·rename_i hr
   obtain ⟨rfl, j, hj, rfl⟩ := hr
   exact q.tm j (by have := q.len; omega)
  ·exact h2.disj _ _ _ e
 ·obtain ⟨hi, c, e1, e2, e3⟩ := hin _ _ _ e
  have k := h2.ob i v c e1
  refine ⟨k.low, by rw [e2]; exact k.len, fun j hj => ?_, k.free, fun j hj => ?_, k.tm⟩
  ·obtain ⟨u, hu, hr⟩ := k.there j hj
   exact ⟨u, hu, fun hj' => key (e3 j zO hj') (hr zO)⟩
  ·show (if reg _ _ then _ else _) = _
   rw [if_neg]
   ·exact k.pm j hj
   ·rintro ⟨hbb, j', hj', he⟩
    exact h2.sep o i _ _ _ _ ho e1 (fun h => hi h.symm) hbb j' j (by have := q.len; omega) hj he
 ·obtain ⟨_, c1, e1, _⟩ := hin _ _ _ e
  obtain ⟨_, c2, e2, _⟩ := hin _ _ _ e'
  exact h2.sep i i' _ _ _ _ e1 e2 hne
theorem b0M {S0 S : List Ob} {o ver : Nat} {cs : List AV} (ho : hp S o = .arr ver cs) (hb : a0S 0 cs = true) : GWk S0 S (a0h S o (.dead ver)) (Fz1 o ver cs) :=
 b0L ho hb a0j (fun i hi => .inl (z0 hi))
section
variable {P : Program} {S0 : List Ob} {ow : List Nat} {fr : Fr} {S : List Ob} {L L' L0 : List It} {α : Type} {f : α -> AV} {e : Option Nat}
theorem Sep.kill {o ver : Nat} {cs : List AV} {x : Ob} (hS : Sep S L) (hp' : Pk L (o, ver, cs) L0) : Sep (a0h S o x) L0 := by
 have h := hS.perm hp'
 refine ⟨fun p hm => ?_, (List.nodup_cons.1 h.2).2⟩
 have hne : p.1 ≠ o := fun e1 => (List.nodup_cons.1 h.2).1 (by rw [<- e1]; exact List.mem_map.2 ⟨p, hm, rfl⟩)
 rw [z0 hne]
 exact h.1 p (List.mem_cons_of_mem _ hm)
theorem a8A (he : Enc f e) {o ver : Nat} {l : List α} {j : List AV} (h1 : j.all AV.one = true) : Fz1 o ver (flat f l ++ j) (.ref o ver 0 l.length e) (.sl false (d9 e) (l.map f)) := by
 have hl : (flat f l).length = l.length * d9 e := he.length l
 have ha : (flat f l ++ j).all AV.one = true := by rw [List.all_append, he.all, h1]; rfl
 have := Fz1.ref (o := o) (ver := ver) (cs := flat f l ++ j) (off := 0) (n := l.length) (e := e) (by rw [List.length_append, hl]; omega) ha
 have key : q8 e l.length ((flat f l ++ j).drop 0) = l.map f := by
  rw [List.drop_zero]
  have : q8 e l.length (flat f l ++ j) = q8 e l.length (flat f l) := by
   cases e with
   | none =>
     simp only [q8]
     rw [List.take_append_of_le_length (by rw [hl]; simp [d9])]
   | some n =>
     simp only [q8]
     have : ∀ (k : Nat) (xs : List AV), xs.length = k * n -> a1s n k (xs ++ j) = a1s n k xs := by
      intro k
      induction k with
      | zero => intro xs _; rfl
      | succ k ih =>
        intro xs hx
        have hn : n <= xs.length := by rw [hx, Nat.add_mul]; omega
        simp only [a1s]
        rw [List.take_append_of_le_length hn, List.drop_append_of_le_length hn, ih _ (by rw [List.length_drop, hx, Nat.add_mul]; omega)]
     exact this _ _ (by rw [hl]; rfl)
  rw [this, he.elems]
 rw [key] at this
 exact this
theorem a8B (he : Enc f e) {l : List α} {j : List AV} (hj : a0S 0 j = true) : a0S 0 (flat f l ++ j) = true := by
 rw [a0W]; intro x hx
 rcases List.mem_append.1 hx with h | h
 ·exact a0W.1 (he.blwf 0 l) _ h
 ·exact a0W.1 hj _ h
theorem E_fzT {b} {K K0 : Post} {o ver : Nat} {l : List α} {j : List AV} (t : Nat) (he : Enc f e) (hS : Sep S L) (hp' : Pk L (o, ver, flat f l ++ j) L0) (hj : a0S 0 j = true) (h1 : j.all AV.one = true) (ht : Fr.get fr t = .ref o ver 0 l.length e)
  (h : ∀ S', Sep S' L0 -> VT P S0 ow b ((t, .sl false (d9 e) (l.map f)) :: fr) S' K) : Post.thn (fun fr' S' => ∃ F T, Wk S0 fr' S' F T /\ VT P S0 ow b F T K) K0 .normal fr S := by
 have ho := hS.at (hp'.mem_iff.2 (.head _))
 refine s9 ((b0M ho (a8B he hj)).wk (fun t' => ?_)) (h _ (hS.kill hp'))
 rw [get_cons]
 split
 ·rename_i e1; subst e1; rw [ht]; exact a8A he h1
 ·exact .same _
theorem b0N {o ver o2 v2 jx : Nat} {l : List α} {j cs2 : List AV} (he : Enc f e) (ho : hp S o = .arr ver (flat f l ++ j)) (ho2 : hp S o2 = .arr v2 cs2) (hne : o2 ≠ o) (hj : a0S 0 j = true) (h1 : j.all AV.one = true) (hx : cs2[jx]? = some (.ref o ver 0 l.length e)) :
  GWk S0 S (a0h (a0h S o (.dead ver)) o2 (.arr v2 (cs2.set jx (.sl false (d9 e) (l.map f))))) (Fz1 o ver (flat f l ++ j)) := by
 refine b0L ho (a8B he hj) (by rw [z0 (fun h => hne h.symm), a0j]) (fun i hi => ?_)
 by_cases h2 : i = o2
 ·subst h2
  refine .inr ⟨v2, cs2, _, ho2, a0j, by simp, fun k k1 k2 => ?_⟩
  rw [List.getElem_set]
  split
  ·rename_i e1
   subst e1
   rw [List.getElem?_eq_getElem k1] at hx
   rw [Option.some.inj hx]
   exact a8A he h1
  ·exact .same _
 ·rw [z0 h2, z0 hi]; exact .inl rfl
theorem E_fzC {b} {K K0 : Post} {o ver o2 v2 jx : Nat} {l : List α} {j cs2 : List AV} (he : Enc f e) (hS : Sep S L) (hp' : Pk L (o, ver, flat f l ++ j) L0) (hj : a0S 0 j = true) (h1 : j.all AV.one = true) (hx : cs2[jx]? = some (.ref o ver 0 l.length e)) (hr : Rp L0 (o2, v2, cs2) (o2, v2, cs2.set jx (.sl false (d9 e) (l.map f))) L')
  (h : ∀ S', Sep S' L' -> VT P S0 ow b fr S' K) : Post.thn (fun fr' S' => ∃ F T, Wk S0 fr' S' F T /\ VT P S0 ow b F T K) K0 .normal fr S := by
 have ho := hS.at (hp'.mem_iff.2 (.head _))
 have hk := hS.kill (x := .dead ver) hp'
 have hp2 := hS.perm hp'
 have hne : o2 ≠ o := fun e1 => (List.nodup_cons.1 hp2.2).1 (List.mem_map.2 ⟨_, hr.mem, e1⟩)
 have ho2 : hp S o2 = .arr v2 cs2 := hp2.1 _ (.tail _ hr.mem)
 exact s9 ((b0N he ho ho2 hne hj h1 hx).wk (fun t' => .same _)) (h _ (hk.rp hr))
theorem a8C {b} {K K0 : Post} {o ver o2 v2 jx : Nat} {l : List α} {cs2 : List AV} (he : Enc f e) (hS : Sep S L) (hp' : Pk L (o, ver, flat f l) L0) (hx : cs2[jx]? = some (.ref o ver 0 l.length e)) (hr : Rp L0 (o2, v2, cs2) (o2, v2, cs2.set jx (.sl false (d9 e) (l.map f))) L')
  (h : ∀ S', Sep S' L' -> VT P S0 ow b fr S' K) : Post.thn (fun fr' S' => ∃ F T, Wk S0 fr' S' F T /\ VT P S0 ow b F T K) K0 .normal fr S :=
 E_fzC (j := []) he hS (by rw [List.append_nil]; exact hp') rfl rfl hx hr h
theorem b6L {b} {K K0 : Post} {o ver : Nat} {l : List α} (t : Nat) (he : Enc f e) (hS : Sep S L) (hp' : Pk L (o, ver, flat f l) L0) (ht : Fr.get fr t = .ref o ver 0 l.length e)
  (h : ∀ S', Sep S' L0 -> VT P S0 ow b ((t, .sl false (d9 e) (l.map f)) :: fr) S' K) : Post.thn (fun fr' S' => ∃ F T, Wk S0 fr' S' F T /\ VT P S0 ow b F T K) K0 .normal fr S :=
 E_fzT (j := []) t he hS (by rw [List.append_nil]; exact hp') rfl rfl ht h
end
end Go.Ab

/- A contract that leaves one list of its own: one answer for all heaps. -/
namespace Go.Ab
open Go Go.RowKit
section
variable {P : Program} {f : FuncId} {args : List AV} {α : Type} {g : α -> AV} {e : Option Nat}
theorem Tri.base (he : Enc g e) {Q : List α -> AV -> Prop} (h : Tri P f args [] (fun r L' => ∃ oo l x, r = .tup [.ref oo 0 0 l.length e, x] /\ x.blw 0 = true /\ L' = [(oo, 0, flat g l)] /\ Q l x)) :
  ∃ l x, Q l x /\ x.blw 0 = true /\ Ev P f args (hp []) (.tup [.ref 0 0 0 l.length e, x]) (hp [.arr 0 (flat g l)]) := by
 obtain ⟨r, S', h1, L', ⟨oo, l, x, rfl, hx, rfl, hq⟩, hS⟩ := h [] [] Sep.nil
 refine ⟨l, x, hq, hx, ?_⟩
 have ho : hp S' oo = .arr 0 (flat g l) := hS.at (.head _)
 have hn : hp [Ob.arr 0 (flat g l)] 0 = .arr 0 (flat g l) := rfl
 refine h1.gwk (a1q (S0 := []) (S := S') (S' := [.arr 0 (flat g l)]) [some (oo, 0)] (by simp [b0o]) (Nat.zero_le _) ⟨?_, trivial⟩) ?_
 ·exact ⟨0, flat g l, ho, .refl (he.blwf 0 l), fun h => absurd h (Nat.not_lt_zero _)⟩
 ·refine .tup rfl (fun j h1 h2 => ?_)
  match j, h1 with
  | 0, _ => exact .ref ⟨0, flat g l, flat g l, rfl, ho, hn, rfl, by rw [he.length l]; omega⟩
  | 1, _ => exact .base hx (.refl _)
end
section
variable {P : Program} {S0 : List Ob} {ow : List Nat} {fr : Fr} {S : List Ob} {L : List It}
end
end Go.Ab

/- Calls that only read, shown by a walk (over fork6's layer). -/
namespace Go.Ab
theorem b0O {τ : Hp} (h : b3q τ) : ∃ T : List Ob, hp T = τ := by
 obtain ⟨N, hN⟩ := h
 refine ⟨(List.range N).map τ, funext fun o => ?_⟩
 unfold hp
 rw [List.getD_eq_getElem?_getD, List.getElem?_map]
 by_cases ho : o < N
 ·rw [List.getElem?_range ho]; rfl
 ·rw [List.getElem?_eq_none zE, hN o zO]; rfl
def TriR (P : Program) (f : FuncId) (args : List AV) (L : List It) (r : AV) : Prop := ∀ R S, Sep S (L ++ R) -> Ev P f args (hp S) r (hp S)
section
variable {P : Program} {f : FuncId} {args : List AV} {L L1 R : List It} {r : AV} {S : List Ob} {ow : List Nat} {fr : Fr} {log : List LE}
theorem a7T {n : Nat} {ts : List RS} {fc : FC} (hm : P.follows .mixedOrders = true) (hfn : Fn3 P f n ts fc) (hn : args.length <= n) (ow : List Nat)
  (h : ∀ R S, Sep S (L ++ R) -> VT P S ow fc (a1h 0 args) S (fun e fr1 S1 => a4D e /\ ∃ v, a1T S1 (Fr.get fr1) ts = some v /\ v = r /\ S1 = S)) : TriR P f args L r := fun R S hS => by
 obtain ⟨r', S', h1, rfl, rfl⟩ := b6F hm hfn hn ow (h R S hS)
 exact h1
theorem TriR.rd (h : TriR P f args L r) (hS : Sep S (L ++ R)) : c1U P f args (hp S) r (L.map (·.1)) := fun τ hτ ha => by
 obtain ⟨T, rfl⟩ := b0O hτ
 refine h [] T ⟨fun it hit => ?_, ?_⟩
 ·rw [List.append_nil] at hit
  rw [ha _ (List.mem_map.2 ⟨it, hit, rfl⟩)]
  exact hS.1 it (List.mem_append_left _ hit)
 ·rw [List.append_nil]
  have := hS.2
  rw [List.map_append] at this
  exact (List.nodup_append.1 this).1
theorem a7f {d g as0 rs} {K : Fr -> List Ob -> List LE -> Prop} {ags : List AV} (c : TriR P g ags L1 r) (hS : Sep S L) (e : evL (Fr.get fr) as0 = ags) (hp' : Spl L L1 R)
  (h : VTops P ow rs ((d, r) :: fr) S (.acc (L1.map (·.1)) none :: log) K) : VTops P ow (⟨some d, none, .call g as0⟩ :: rs) fr S log K := by
 rw [a3E, e]
 exact a8t (c.rd (hS.spl hp')) h
end
end Go.Ab

/- Cases of a switch over a byte, one behind the other. -/
namespace Go.Ab
section
variable {P : Program} {S0 : List Ob} {ow : List Nat} {fr : Fr} {S : List Ob} {K : Post} {t a b a' : Nat} {n k k' : Int} {x y : FC}
abbrev eqR (t a b : Nat) (k : Int) : FC := .reg [⟨some a, none, .op (.bin .none .eql (.t t) (.v (.int .u8 k)))⟩, ⟨some b, none, .op (.mv (.t a))⟩] []
theorem b6M (e : Fr.get fr t = .int .u8 n) (h : K .normal ((b, .bool (n == k)) :: (a, .bool (n == k)) :: fr) S) : VT P S0 ow (eqR t a b k) fr S K := by
 refine a8 ?_
 refine f4 (v := .bool (n == k)) (by simp only [opV, ev, e]; rfl) zC ?_
 refine f4 (v := .bool (n == k)) (by simp only [opV, ev, get_cons, if_true]) zC ?_
 exact a7 h
theorem b2r {c : FC} (e : Fr.get fr t = .int .u8 n) (h : VT P S0 ow c ((b, .bool (n == k)) :: (a, .bool (n == k)) :: fr) S K) : VT P S0 ow (.seq (eqR t a b k) c) fr S K := by
 refine c7 (b6M e ?_)
 exact d7 h
theorem a9e {v : AV} {t : Bool} {x y : FC} (e : v = .bool t) (h1 : t = true -> VT P S0 ow x ((b, v) :: fr) S K) (h2 : t = false -> VT P S0 ow y ((b, v) :: fr) S K) : VT P S0 ow (.cond (.t b) x y) ((b, v) :: fr) S K :=
 E_cs (t := t) (by show Fr.get ((b, v) :: fr) b = _; rw [get_cons, if_pos rfl, e]) h1 h2
theorem j6 (e : Fr.get fr t = .int .u8 n) (hn : (n == k) = false) (h : VT P S0 ow y ((b, .bool false) :: (a, .bool false) :: fr) S K) : VT P S0 ow (.seq (eqR t a b k) (.cond (.t b) x y)) fr S K := by
 refine b2r e ?_
 rw [hn]
 exact a9e rfl (fun h => by cases h) (fun _ => h)
theorem x7 (e : Fr.get fr t = .int .u8 n) (hn : (n == k) = true) (h : VT P S0 ow x ((b, .bool true) :: (a, .bool true) :: fr) S K) : VT P S0 ow (.seq (eqR t a b k) (.cond (.t b) x y)) fr S K := by
 refine b2r e ?_
 rw [hn]
 exact a9e rfl (fun _ => h) (fun h => by cases h)
theorem b6N (e : Fr.get fr t = .int .u8 n) (hn : (n == k) = true) (h : VT P S0 ow x ((b, .bool true) :: (a, .bool true) :: fr) S K) :
  VT P S0 ow (.seq (.seq (eqR t a b k) (.cond (.t b) .skip (eqR t a' b k'))) (.cond (.t b) x y)) fr S K := by
 refine c7 (b2r e ?_)
 rw [hn]
 refine a9e rfl (fun _ => ?_) (fun h => by cases h)
 refine g5 ?_
 refine d7 ?_
 exact a9e rfl (fun _ => h) (fun h => by cases h)
theorem a0q {v : Bool} (e : Fr.get fr t = .int .u8 n) (hat : a ≠ t) (hbt : b ≠ t) (hn : (n == k) = false) (hn2 : (n == k') = v) (h1 : v = true -> VT P S0 ow x ((b, .bool v) :: (a', .bool v) :: (b, .bool false) :: (a, .bool false) :: fr) S K) (h2 : v = false -> VT P S0 ow y ((b, .bool v) :: (a', .bool v) :: (b, .bool false) :: (a, .bool false) :: fr) S K) :
  VT P S0 ow (.seq (.seq (eqR t a b k) (.cond (.t b) .skip (eqR t a' b k'))) (.cond (.t b) x y)) fr S K := by
 refine c7 (b2r e ?_)
 rw [hn]
 refine a9e rfl (fun h => by cases h) (fun _ => ?_)
 refine b6M (n := n) (by rw [get_cons, if_neg (Ne.symm hbt), get_cons, if_neg (Ne.symm hat), e]) ?_
 rw [hn2]
 refine d7 ?_
 exact a9e rfl h1 h2
end
end Go.Ab

/- Objects frozen, nil lists filled: one behind another. -/
namespace Go.Ab
section
variable {P : Program} {S0 : List Ob} {ow : List Nat} {fr : Fr} {S : List Ob} {L L' L0 : List It}
theorem b2t {b} {K K0 : Post} {o ver : Nat} {cs : List AV} (t : Nat) (hS : Sep S L) (hp' : Pk L (o, ver, cs) L0) (hb : a0S 0 cs = true) (ht : Fr.get fr t = .ptr o ver 0)
  (h : ∀ S', Sep S' L0 -> VT P S0 ow b ((t, .cptr cs 0) :: fr) S' K) : Post.thn (fun fr' S' => ∃ F T, Wk S0 fr' S' F T /\ VT P S0 ow b F T K) K0 .normal fr S := by
 have ho := hS.at (hp'.mem_iff.2 (.head _))
 refine s9 ((b0M ho hb).wk (fun t' => ?_)) (h _ (hS.kill hp'))
 rw [get_cons]
 split
 ·rename_i e1; subst e1; rw [ht]; exact .ptr
 ·exact .same _
end
section
variable {α : Type} {f : α -> AV} {e : Option Nat} {P : Program} {S0 : List Ob} {ow : List Nat} {fr : Fr} {S : List Ob} {L L' L0 : List It}
theorem a8D {b} {K K0 : Post} {o ver o2 v2 jx : Nat} {l : List α} {cs2 : List AV} (he : Enc f e) (hS : Sep S L) (hp' : Pk L (o, ver, flat f l) L0) (hx : cs2[jx]? = some (.ref o ver 0 l.length e)) (hr : Rp L0 (o2, v2, cs2) (o2, v2, cs2.set jx (.sl false (d9 e) (l.map f))) L')
  (h : ∀ S', Sep S' L' -> Post.thn (fun fr' S' => ∃ F T, Wk S0 fr' S' F T /\ VT P S0 ow b F T K) K0 .normal fr S') : Post.thn (fun fr' S' => ∃ F T, Wk S0 fr' S' F T /\ VT P S0 ow b F T K) K0 .normal fr S := by
 rw [<- List.append_nil (flat f l)] at hp'
 have ho := hS.at (hp'.mem_iff.2 (.head _))
 have hk := hS.kill (x := .dead ver) hp'
 have hp2 := hS.perm hp'
 have hne : o2 ≠ o := fun e1 => (List.nodup_cons.1 hp2.2).1 (List.mem_map.2 ⟨_, hr.mem, e1⟩)
 have ho2 : hp S o2 = .arr v2 cs2 := hp2.1 _ (.tail _ hr.mem)
 obtain ⟨F, T, h2, h3⟩ := h _ (hk.rp hr)
 exact ⟨F, T, v4 ((b0N he ho ho2 hne rfl rfl hx).wk (fun t' => .same _)) h2, h3⟩
end
section
variable {P : Program} {S0 : List Ob} {ow : List Nat} {fr : Fr} {S : List Ob} {L : List It}
theorem a3n {b} {K K0 : Post} {o ver : Nat} {cs : List AV} (j : Nat) (e : Option Nat) {Lf : Nat -> List It} (hS : Sep S L) (hr : ∀ o', Rp L (o, ver, cs) (o, ver, cs.set j (.ref o' 0 0 0 e)) (Lf o')) (hj : cs[j]? = some .nils)
  (h : ∀ o' S', Sep S' ((o', 0, []) :: Lf o') -> Post.thn (fun fr' S' => ∃ F T, Wk S0 fr' S' F T /\ VT P S0 ow b F T K) K0 .normal fr S') :
  Post.thn (fun fr' S' => ∃ F T, Wk S0 fr' S' F T /\ VT P S0 ow b F T K) K0 .normal fr S := by
 have hm := (hr 0).mem
 have ho := hS.at hm
 have h1 : Sep (a0h S S.length (.arr 0 [])) ((S.length, 0, []) :: L) := hS.new
 obtain ⟨F, T, hw, hv⟩ := h S.length _ (h1.rp (Rp.there (hr S.length)))
 exact s9 (fun g0 n a w hat => hw _ _ _ _ (a5Q (e := e) ho hj g0 n a w hat)) hv
end
end Go.Ab

/- A call that only looks: its own objects are told to it as frozen for the call's time; its answer is a truth value. -/
namespace Go.Ab
open Go.RowKit
theorem WRel.belowK {g σ} {w w' : World} (h : WRel g σ w) (k : Below w.heap.size w w') : WRel g σ w' := by
 have hc : ∀ b o v, w.cell? ⟨b, o, none⟩ = some v -> w'.cell? ⟨b, o, none⟩ = some v := fun b o v e => by
  rw [k.cell (a0E e)]; exact e
 refine ⟨fun b o v e => hc _ _ _ (h.pm b o v e), fun b o v e => hc _ _ _ (h.tm b o v e), fun b o v e => by
  rw [k.frozen (h.tm_lt e)]; exact h.tmf b o v e, h.disj, h.low.trans (k.mono h.B0), Nat.le_trans h.B0 k.size, h.tab, fun o ver cs e => ?_, h.sep⟩
 have q := h.ob o ver cs e
 refine ⟨q.low, q.len, fun j hj => ?_, fun j hj => ?_, q.pm, q.tm⟩
 ·obtain ⟨v, hv, hr⟩ := q.there j hj
  exact ⟨v, hc _ _ _ hv, hr⟩
 ·obtain ⟨v, hv, _⟩ := q.there j hj
  rw [k.frozen (a0E hv)]
  exact q.free j hj
theorem p3.look {P : Program} {f : FuncId} {args args' : List AV} {b : Bool} {S : List Ob} (k : Nat) (h : p3 P f args' (.bool b)) (ha : awL (args.map (frz 0 S k)) args') : Ev P f args (hp S) (.bool b) (hp S) := by
 intro g w vals hw hv
 classical
 let reg : Nat -> Nat -> Prop := fun b o => ∃ i ver cs, hp S i = .arr ver cs /\ (g.L i).b = b /\ ∃ j, j < cs.length /\ (g.L i).off + j = o
 let pm' : Pm := fun b o => if reg b o then w.cell? ⟨b, o, none⟩ else g.pm b o
 have hnp : ∀ b o v, g.pm b o = some v -> ¬ reg b o := by
  rintro b o v e ⟨i, ver, cs, e1, rfl, j, hj, rfl⟩
  have k := hw.ob i ver cs e1
  rw [k.pm j (by have := k.len; omega)] at e; cases e
 have hpm : ∀ b o v, g.pm b o = some v -> pm' b o = some v := fun b o v e => by
  simp only [pm']; rw [if_neg (hnp _ _ _ e)]; exact e
 have key : ∀ {x u}, VR g.pm g.L (hp S) x u -> VR pm' g.L a6y (frz 0 S k x) u := fun {x u} h => by
  refine VR.frz hpm (fun o => by simp [hp, a6y, u0]) (fun o ver cs ho e => ?_) k h
  have q := hw.ob o ver cs e
  refine ⟨fun j => (w.cell? ⟨(g.L o).b, (g.L o).off + j, none⟩).getD undef, fun j hj => ?_⟩
  obtain ⟨v, hv, hr⟩ := q.there j (by have := q.len; omega)
  have hreg : reg (g.L o).b ((g.L o).off + j) := ⟨o, ver, cs, e, rfl, j, hj, rfl⟩
  refine ⟨?_, by show VR _ _ _ _ ((w.cell? _).getD undef); rw [hv]; exact hr hj⟩
  simp only [pm']; rw [if_pos hreg, hv]; rfl
 let gE : Gh := { pm := pm', tm := fun _ _ => none, L := g.L, B0 := w.heap.size, w0 := w }
 have hwE : WRel gE a6y w := by
  refine ⟨fun b o v e => ?_, (fun b o v e => by cases e), (fun b o v e => by cases e), (fun _ _ _ _ => rfl), Below.refl _ _, Nat.le_refl _, fun b p e => ?_, (fun o ver cs e => by simp [a6y] at e), (fun o o' v v' c c' e => by simp [a6y] at e)⟩
  ·replace e : (if reg b o then w.cell? ⟨b, o, none⟩ else g.pm b o) = some v := e
   split at e
   ·exact e
   ·exact hw.pm _ _ _ e
  ·obtain ⟨h1, cs, t, fz, h2, h3⟩ := hw.tab b p e
   exact ⟨Nat.lt_of_lt_of_le h1 hw.B0, cs, t, fz, by rw [hw.low.block b h1]; exact h2, h3⟩
 have hl := a0J ha
 rw [List.length_map] at hl
 refine (h gE w vals hwE ⟨by rw [hv.1, hl], fun j a b => ?_⟩).mono ?_
 ·have h1 : j < args.length := by omega
  exact (key (hv.2 j h1 b)).w (by have := a1w ha j (by simpa using h1) a; simpa using this)
 ·rintro e w' ⟨u, g', rfl, hle, hw', hu⟩
  have hlow := hw'.low
  rw [hle.B0, hle.w0] at hlow
  refine ⟨u, g, rfl, Gh.le.refl _ _, hw.belowK hlow, ?_⟩
  cases hu
  exact .bool
end Go.Ab

