/- order.Spans with a list of its own: the walk. -/
import Derived.Test.YtepdcebjobjjgaaDoorScW2
import Derived.Test.YtepdcebjobjjgaaDoorScP3
import Derived.Test.YtepdcebjobjjgaaDoorGenC
import Derived.Test.YtepdcebjobjjgaaDoorScW8
set_option linter.unusedVariables false
set_option linter.unusedSimpArgs false
namespace Go.Proofs.YtepdcebjobjjgaaDoor
open Go Go.Ab
set_option maxRecDepth 20000
set_option maxHeartbeats 2000000
def b3L (G : f6) (f : Int) (r : AV) (L' : List It) : Prop :=
 if RightB G = true then (match y5 G.Funcs f with
  | some g => ∃ oa j, r = .tup [.ref oa 0 0 (x9 g).length (some 4), .int .i64 0] ∧ L' = [(oa, 0, flat b7.av (x9 g) ++ j)]
  | none => r = .tup [.nils, .int .i64 2] ∧ L' = [])
 else r = .tup [.nils, .int .i64 70] ∧ L' = []
theorem b3M (g_00 : f6) (f_01 : Int) : Tri Tryd.prog 15 [(f6.av g_00), (.int .i64 f_01)] [] (b3L g_00 f_01) := by
 unfold b3L
 obtain ⟨fuel, hfuel⟩ : ∃ fuel : Nat, 100000000000 ≤ fuel := ⟨_, Nat.le_refl _⟩
 refine y6 mixed d4m zS [11, 16, 43] (fun R S00 hS => ?_)
 rw [List.nil_append] at hS
 refine f8 (b9 ?_)
 refine oP (.cptr (f6.av g_00).cells 0) ?_
 refine aU ?_
 have hck := a7P g_00 f_01
 by_cases hR : RightB g_00 = true
 case neg =>
  rw [if_neg hR] at hck
  simp only [if_neg hR]
  obtain ⟨e1, _⟩ := b6f hck zD (fuel := fuel)
  refine l7 (as' := [f6.av g_00, .int .i64 f_01]) (a4N e1) rfl ⟨(.refl _), (.refl _), trivial⟩ (j5 ⟨(f6.enc.blw _ 0), rfl, trivial⟩) (a3b ⟨((a7E (g6 .i64) 1).blws 0), rfl, trivial⟩) ?_
  refine aU ?_
  refine b1g rfl ?_
  refine aU ?_
  refine i9 ?_
  (repeat (first | refine n8 ?_ | refine r8 ?_ | refine s4 rfl ?_ | refine j4 ?_ | refine l6 ?_ | refine k8 ?_))
  exact ⟨trivial, _, rfl, _, ⟨rfl, rfl⟩, hS⟩
 rw [if_pos hR] at hck
 simp only [if_pos hR]
 cases hgf : y5 g_00.Funcs f_01 with
 | none =>
   try simp only [hgf]
   have hnr : ¬ (0 ≤ f_01 ∧ f_01 < g_00.Funcs.length) := by
    rintro ⟨a, b⟩
    rw [b2H a zO] at hgf; cases hgf
   rw [if_neg hnr] at hck
   obtain ⟨e1, _⟩ := b6f hck zD (fuel := fuel)
   refine l7 (as' := [f6.av g_00, .int .i64 f_01]) (a4N e1) rfl ⟨(.refl _), (.refl _), trivial⟩ (j5 ⟨(f6.enc.blw _ 0), rfl, trivial⟩) (a3b ⟨((a7E (g6 .i64) 1).blws 0), rfl, trivial⟩) ?_
   refine aU ?_
   refine b1g rfl ?_
   refine aU ?_
   refine i9 ?_
   (repeat (first | refine n8 ?_ | refine r8 ?_ | refine s4 rfl ?_ | refine j4 ?_ | refine l6 ?_ | refine k8 ?_))
   exact ⟨trivial, _, rfl, _, ⟨rfl, rfl⟩, hS⟩
 | some g =>
   try simp only [hgf]
   obtain ⟨h0, h1, h2⟩ := i6 hgf
   rw [if_pos ⟨h0, h1⟩] at hck
   obtain ⟨hg, hhd, hnd⟩ := a2I hR g (List.mem_of_getElem? h2)
   obtain ⟨hK, hp4, hpar, hn1, hN, he0, heN⟩ := a0n hhd
   have hIn := c7K hck hgf hg hfuel
   have hOut := b9l hck hgf hg hfuel
   refine l7 (as' := [f6.av g_00, .int .i64 f_01]) (a4N hIn) rfl ⟨(.refl _), (.refl _), trivial⟩ (j5 ⟨(f6.enc.blw _ 0), rfl, trivial⟩) (a3b ⟨((a7E (g6 .i64) 1).blws 0), rfl, trivial⟩) ?_
   refine aU ?_
   refine b2r rfl ?_
   refine aU ?_
   refine l7 (as' := [f6.av g_00, .int .i64 f_01]) (a9O hOut) rfl ⟨(.refl _), (.refl _), trivial⟩ (j5 ⟨(f6.enc.blw _ 0), rfl, trivial⟩) (a3b ⟨((a7E (g6 .i64) 1).blws 0), rfl, trivial⟩) ?_
   refine aU ?_
   refine m7 rfl rfl hgf ?_
   refine aU ?_
   refine b6Q (f := b7.av) (x := ⟨0, 0, 0, false⟩) hS b7.enc rfl rfl rfl rfl zO (fun oa S hS => ?_)
   simp only [Int.toNat_natCast] at hS ⊢
   refine b1m hS rfl (fun oc S hS => ?_)
   refine E_stS hS rfl zC (by first | exact Rp.here | (repeat (first | exact Rp.here | apply Rp.there | apply Rp.skip))) rfl rfl (by first | exact Nat.le_of_ble_eq_true rfl | (simp; omega) | omega) (fun S hS => ?_)
   replace hS : Sep S ((oc, 0, [.ref oa 0 0 g.Kinds.length (some 4)]) :: (oa, 0, flat b7.av (List.replicate g.Kinds.length ⟨0, 0, 0, false⟩)) :: R) := hS
   refine aU ?_
   refine y7 hS rfl zM rfl ?_
   refine aU ?_
   refine a6c g.Kinds.length (fun _ : List b7 => [(6, .sl false 1 (List.map (avL 1 (avI .i64)) (inL g))), (8, .sl false 1 (List.map (avL 1 (avI .i64)) (b1C g))), (10, gR g), (11, .ptr oc 0 0)]) (fun s => (oc, 0, [.ref oa 0 0 g.Kinds.length (some 4)]) :: (oa, 0, flat b7.av s) :: R)
    (fun i s => s.length = g.Kinds.length ∧ ∀ k, k < i → s[k]? = (a5p g)[k]?) (List.replicate g.Kinds.length ⟨0, 0, 0, false⟩) hS ⟨by simp, fun k hk => absurd hk (Nat.not_lt_zero k)⟩ (k9 ⟨.refl _, .refl _, .refl _, .refl _, .refl _, .refl _, trivial⟩) zO zD zD (fun _ => ⟨rfl, rfl, rfl, rfl⟩) (fun i s S hi hI hS => ?_) (fun s fr' S hI hS hw => ?_)
   ·obtain ⟨hsl, hI⟩ := hI
    obtain ⟨x, hx⟩ : ∃ x, s[i]? = some x := ⟨s[i]'zO, List.getElem?_eq_getElem _⟩
    refine aU ?_
    refine y7 hS rfl zM rfl ?_
    refine aU ?_
    refine p8 rfl rfl ⟨by omega, by omega⟩ ?_
    refine a4g (l := s) hS b7.enc rfl zC (n := i) (fo := 0) (y := x) (y' := ⟨(i : Int), (g.Nodes.length : Int), -1, false⟩) (by simp [f4]) hx (by first | exact Rp.here | (repeat (first | exact Rp.here | apply Rp.there | apply Rp.skip))) rfl rfl (by simp [f4]) rfl (fun S hS => ?_)
    refine aU ?_
    refine R_n (s.set i ⟨(i : Int), (g.Nodes.length : Int), -1, false⟩) ⟨by simp [hsl], fun k hk => ?_⟩ hS (k9 ⟨.refl _, .refl _, .refl _, .refl _, .refl _, .refl _, trivial⟩)
    rw [List.getElem?_set]
    by_cases e : i = k
    ·subst e
     rw [if_pos rfl, if_pos zO]
     simp [a5p, hi]
    ·rw [if_neg e]; exact hI k zO
   ·obtain ⟨hsl, hI⟩ := hI
    have hs0 : s = a5p g := by
     apply List.ext_getElem?
     intro k
     by_cases hk : k < g.Kinds.length
     ·exact hI k hk
     ·rw [List.getElem?_eq_none zO, List.getElem?_eq_none (by simp [a5p]; omega)]
    subst hs0
    refine a5i hw ?_
    refine f8 (b9 ?_)
    refine oP (.fn (.func 30) [] [.ptr oc 0 0]) ?_
    refine aU ?_
    have hparR : ∀ p ∈ g.Params, 0 ≤ p ∧ p < (a5p g).length := fun p hp => by rw [hsl]; exact hpar p hp
    refine a2D (a7S (ps := g.Params) (a := 0) (all := a5p g) hparR zO) hS rfl b3y rfl (by rw [hsl]; exact Spl.cons Pk.here (Spl.cons Pk.here Spl.nil)) (fun v S L' hL hS => ?_)
    subst hL
    rw [hsl] at hS
    refine aU ?_
    have hline : a3i g = some (a0J g) := if_pos ⟨hg, he0, heN⟩
    refine l7 (a7R hline) rfl ⟨(.refl _), trivial⟩ (j5 ⟨(n4 (b5.enc.blw _ 0)), trivial⟩) ((g6 .i64).blws 0) ?_
    refine aU ?_
    have hlo := a9T hg zO
    obtain ⟨w, hw1, hw2, hw3, _⟩ := hlo.w
    have hwl : w.length = (a0J g).length := by rw [hw1]; simp
    have hll : (a0J g).length ≤ g.Nodes.length := by
     rw [← hwl]
     exact a4o _ _ hw2 hw3
    have hmapN : (a0J g).map Int.toNat = w := by rw [hw1, List.map_map]; exact (List.map_congr_left (fun x _ => by simp)).trans (List.map_id w)
    refine a6c (a0J g).length (fun _ : List b7 => [(6, .sl false 1 (List.map (avL 1 (avI .i64)) (inL g))), (8, .sl false 1 (List.map (avL 1 (avI .i64)) (b1C g))), (10, gR g), (11, .ptr oc 0 0), (13, .fn (.func 30) [] [.ptr oc 0 0]), (68, .sl false 1 (List.map (avI .i64) (a0J g)))]) (fun s => (oc, 0, [.ref oa 0 0 g.Kinds.length (some 4)]) :: (oa, 0, flat b7.av s) :: R)
     (fun i s => s.length = g.Kinds.length ∧ a4p g i (w.drop i) s = b1D g) (g.Params.foldl (wkP 0) (a5p g)) hS ⟨by rw [a2J]; exact hsl, by rw [← hmapN]; rfl⟩ (k9 ⟨.refl _, .refl _, .refl _, .refl _, .refl _, .refl _, .refl _, .refl _, trivial⟩) zO zD zD (fun _ => ⟨rfl, rfl, rfl, rfl⟩) (fun a s S ha hI hS => ?_) (fun s fr' S hI hS hw => ?_)
    ·obtain ⟨hsl, hI⟩ := hI
     obtain ⟨i, hi⟩ : ∃ i, w[a]? = some i := ⟨w[a]'zO, List.getElem?_eq_getElem _⟩
     have hiN : i < g.Nodes.length := hw3 i (List.mem_of_getElem? hi)
     have hli : (a0J g)[a]? = some (i : Int) := by rw [hw1, List.getElem?_map, hi]; rfl
     obtain ⟨nd, hnd1⟩ : ∃ n, g.Nodes[i]? = some n := ⟨g.Nodes[i], List.getElem?_eq_getElem hiN⟩
     have hwr : wrN g i = wrS nd := by unfold wrN; rw [hnd1]
     have hin : y5 (inL g) (i : Int) = some (lvI g i) := by rw [a0j]; unfold inL; simp [hiN, lvI]
     have hout : y5 (b1C g) (i : Int) = some (bhI g i) := by rw [a0j]; unfold b1C; simp [hiN, bhI]
     have hwrR : ∀ p ∈ wrS nd, 0 ≤ p ∧ p < g.Kinds.length := fun p hp => by
      obtain ⟨q1, q2⟩ := (a7T nd p).1 hp
      exact ⟨q2, b3A (hnd nd (List.mem_of_getElem? hnd1)) p q1 q2⟩
     rw [a4a hi] at hI
     refine aU ?_
     refine m7 rfl rfl (a7g hli) ?_
     refine oP (.int .i64 (i : Int)) ?_
     refine aU ?_
     refine m7 rfl rfl (a7g hnd1) ?_
     refine oP (f7.av nd) ?_
     refine b1m hS rfl (fun o16 S hS => ?_)
     refine E_stS hS rfl zC (by first | exact Rp.here | (repeat (first | exact Rp.here | apply Rp.there | apply Rp.skip))) rfl rfl (by first | exact Nat.le_of_ble_eq_true rfl | (simp; omega) | omega) (fun S hS => ?_)
     replace hS : Sep S ((o16, 0, (f7.av nd).cells) :: (oc, 0, [.ref oa 0 0 g.Kinds.length (some 4)]) :: (oa, 0, flat b7.av s) :: R) := hS
     refine aU ?_
     refine m7 rfl rfl hin ?_
     refine oP (.sl false 1 ((lvI g i).map (avI .i64))) ?_
     refine a2D (a7S (ps := lvI g i) (a := (a : Int)) (all := s) (oc := oc) (oa := oa) (va := 0) (fun p hp => by rw [hsl]; exact a5B p hp) (Nat.le_trans b3C zO)) hS rfl b3y rfl (by rw [hsl]; exact Spl.cons (Pk.there Pk.here) (Spl.cons (Pk.there Pk.here) Spl.nil)) (fun v S L' hL hS => ?_)
     subst hL
     have hl1 := a2J (a : Int) (lvI g i) s
     refine aU ?_
     refine y7 hS rfl (.tail _ (.tail _ (.head _))) (v := f7.av nd) rfl ?_
     refine l7 (a3e (b6l nd)) rfl ⟨(.refl _), trivial⟩ (j5 ⟨(f7.enc.blw _ 0), trivial⟩) ((g6 .i64).blws 0) ?_
     refine a2D (a7S (ps := wrS nd) (a := (a : Int)) (all := (lvI g i).foldl (wkP a) s) (oc := oc) (oa := oa) (va := 0) (fun p hp => by rw [hl1, hsl]; exact hwrR p hp) (Nat.le_trans (b3z nd) zO)) hS rfl b3y rfl (by rw [hl1]; exact Spl.cons Pk.here (Spl.cons Pk.here Spl.nil)) (fun v S L' hL hS => ?_)
     subst hL
     rw [hl1, hsl] at hS
     refine aU ?_
     refine y7 hS rfl (.tail _ (.tail _ (.head _))) (v := .int .u8 nd.Op) rfl ?_
     refine aU ?_
     have hl2 := a2J (a : Int) (wrS nd) ((lvI g i).foldl (wkP a) s)
     have hic : a3k g i = (nd.Op == 11 || nd.Op == 13) := by unfold a3k; rw [hnd1]
     have e3 : w.drop (a + 1) = w.drop (a + 1) := rfl
     generalize ha2 : (wrS nd).foldl (wkP (a : Int)) ((lvI g i).foldl (wkP a) s) = a2 at hS hl2
     have hnode : a9g g a s i = if a3k g i = true then (bhI g i).foldl (b0O (wrS nd)) a2 else a2 := by unfold a9g; simp only [hwr, ha2]
     have hlen2 : a2.length = g.Kinds.length := by rw [hl2, hl1, hsl]
     replace hI : a4p g (a + 1) (w.drop (a + 1)) (a9g g a s i) = b1D g := hI
     replace hS : Sep S ((oc, 0, [.ref oa 0 0 g.Kinds.length (some 4)]) :: (oa, 0, flat b7.av a2) :: (o16, 0, (f7.av nd).cells) :: R) := hS
     have hloop : ∀ (S1 : List Ob) (K : Post), Sep S1 ((oc, 0, [.ref oa 0 0 g.Kinds.length (some 4)]) :: (oa, 0, flat b7.av a2) :: (o16, 0, (f7.av nd).cells) :: R) →
       (∀ fr' S', Wk S00 fr' S' [(6, .sl false 1 (List.map (avL 1 (avI .i64)) (inL g))), (8, .sl false 1 (List.map (avL 1 (avI .i64)) (b1C g))), (10, gR g), (11, .ptr oc 0 0), (13, .fn (.func 30) [] [.ptr oc 0 0]), (15, .int .i64 (i : Int)), (16, .ptr o16 0 0), (68, .sl false 1 (List.map (avI .i64) (a0J g))), (70, .int .i64 (a : Int)), (69, .int .i64 ((a0J g).length : Int))] S' → Sep S' ((oc, 0, [.ref oa 0 0 g.Kinds.length (some 4)]) :: (oa, 0, flat b7.av ((bhI g i).foldl (b0O (wrS nd)) a2)) :: (o16, 0, (f7.av nd).cells) :: R) → K .normal fr' S') →
       VT Tryd.prog S00 [11, 16, 43] b6k [(6, .sl false 1 (List.map (avL 1 (avI .i64)) (inL g))), (8, .sl false 1 (List.map (avL 1 (avI .i64)) (b1C g))), (10, gR g), (11, .ptr oc 0 0), (13, .fn (.func 30) [] [.ptr oc 0 0]), (15, .int .i64 (i : Int)), (16, .ptr o16 0 0), (68, .sl false 1 (List.map (avI .i64) (a0J g))), (70, .int .i64 (a : Int)), (69, .int .i64 ((a0J g).length : Int))] S1 K := by
      intro S1 K hS1 hK
      refine aU ?_
      refine m7 rfl rfl hout ?_
      refine oP (.sl false 1 ((bhI g i).map (avI .i64))) ?_
      refine aU ?_
      have hbl : (bhI g i).length ≤ g.Kinds.length := b3C
      refine a6c (bhI g i).length (fun _ : List b7 => [(6, .sl false 1 (List.map (avL 1 (avI .i64)) (inL g))), (8, .sl false 1 (List.map (avL 1 (avI .i64)) (b1C g))), (10, gR g), (11, .ptr oc 0 0), (13, .fn (.func 30) [] [.ptr oc 0 0]), (15, .int .i64 (i : Int)), (16, .ptr o16 0 0), (68, .sl false 1 (List.map (avI .i64) (a0J g))), (70, .int .i64 (a : Int)), (69, .int .i64 ((a0J g).length : Int)), (105, .sl false 1 (List.map (avI .i64) (bhI g i)))]) (fun s => (oc, 0, [.ref oa 0 0 g.Kinds.length (some 4)]) :: (oa, 0, flat b7.av s) :: (o16, 0, (f7.av nd).cells) :: R)
       (fun k s => s.length = g.Kinds.length ∧ ((bhI g i).drop k).foldl (b0O (wrS nd)) s = (bhI g i).foldl (b0O (wrS nd)) a2) a2 hS1 ⟨hlen2, rfl⟩ (k9 ⟨.refl _, .refl _, .refl _, .refl _, .refl _, .refl _, .refl _, .refl _, .refl _, .refl _, .refl _, .refl _, .refl _, trivial⟩) zO zD zD (fun _ => ⟨rfl, rfl, rfl, rfl⟩) (fun k s S hk hI hS => ?_) (fun s fr' S hI hS hw => ?_)
      ·obtain ⟨hsl, hI⟩ := hI
       obtain ⟨p, hp⟩ : ∃ p, (bhI g i)[k]? = some p := ⟨(bhI g i)[k], List.getElem?_eq_getElem hk⟩
       obtain ⟨hp0, hp1⟩ := a5B p (List.mem_of_getElem? hp)
       obtain ⟨x, hx⟩ : ∃ x, s[p.toNat]? = some x := ⟨s[p.toNat]'zO, List.getElem?_eq_getElem _⟩
       rw [a4a hp, List.foldl_cons] at hI
       refine aU ?_
       refine m7 rfl rfl (a7g hp) ?_
       refine oP (.int .i64 p) ?_
       refine aU ?_
       refine y7 hS rfl (.tail _ (.tail _ (.head _))) (v := f7.av nd) rfl ?_
       refine l7 (a3e (b6l nd)) rfl ⟨(.refl _), trivial⟩ (j5 ⟨(f7.enc.blw _ 0), trivial⟩) ((g6 .i64).blws 0) ?_
       refine aU ?_
       refine l7 (a1T (a5d (wrS nd) p (by have := b3z nd; omega))) rfl ⟨(.refl _), (.refl _), trivial⟩ (j5 ⟨((g6 .i64).blws 0), rfl, trivial⟩) rfl ?_
       refine aU ?_
       by_cases hmem : p ∈ wrS nd
       ·refine b2r (by simp [ev, Fr.get, hmem]) ?_
        refine aU ?_
        refine R_n s ⟨hsl, by rw [show b0O (wrS nd) s p = s from if_pos hmem] at hI; exact hI⟩ hS (k9 ⟨.refl _, .refl _, .refl _, .refl _, .refl _, .refl _, .refl _, .refl _, .refl _, .refl _, .refl _, .refl _, .refl _, trivial⟩)
       ·refine b1g (by simp [ev, Fr.get, hmem]) ?_
        refine aU ?_
        refine y7 hS rfl (.head _) rfl ?_
        refine aU ?_
        refine p8 rfl rfl ⟨by omega, by omega⟩ ?_
        refine aU ?_
        refine a4g (l := s) hS b7.enc rfl zC (n := p.toNat) (fo := 3) (y := x) (y' := a7U x) (by simp [f4]) hx (by first | exact Rp.here | (repeat (first | exact Rp.here | apply Rp.there | apply Rp.skip))) rfl rfl (by simp [f4]) rfl (fun S hS => ?_)
        refine aU ?_
        have hh : b0O (wrS nd) s p = s.set p.toNat (a7U x) := by unfold b0O; rw [if_neg hmem, a7h hx]
        rw [hh] at hI
        exact R_n (s.set p.toNat (a7U x)) ⟨by simp [hsl], hI⟩ hS (k9 ⟨.refl _, .refl _, .refl _, .refl _, .refl _, .refl _, .refl _, .refl _, .refl _, .refl _, .refl _, .refl _, .refl _, trivial⟩)
      ·obtain ⟨hsl, hI⟩ := hI
       rw [List.drop_length] at hI
       have hI : s = (bhI g i).foldl (b0O (wrS nd)) a2 := hI
       rw [hI] at hS
       exact hK _ _ (a5x hw (k9 ⟨.refl _, .refl _, .refl _, .refl _, .refl _, .refl _, .refl _, .refl _, .refl _, .refl _, trivial⟩)) hS
     have hfin : a3k g i = true → ∀ fr' S', Wk S00 fr' S' [(6, .sl false 1 (List.map (avL 1 (avI .i64)) (inL g))), (8, .sl false 1 (List.map (avL 1 (avI .i64)) (b1C g))), (10, gR g), (11, .ptr oc 0 0), (13, .fn (.func 30) [] [.ptr oc 0 0]), (15, .int .i64 (i : Int)), (16, .ptr o16 0 0), (68, .sl false 1 (List.map (avI .i64) (a0J g))), (70, .int .i64 (a : Int)), (69, .int .i64 ((a0J g).length : Int))] S' → Sep S' ((oc, 0, [.ref oa 0 0 g.Kinds.length (some 4)]) :: (oa, 0, flat b7.av ((bhI g i).foldl (b0O (wrS nd)) a2)) :: (o16, 0, (f7.av nd).cells) :: R) →
       ∃ s', (List.length s' = g.Kinds.length ∧ a4p g (a + 1) (w.drop (a + 1)) s' = b1D g) ∧ Sep S' ((oc, 0, [.ref oa 0 0 g.Kinds.length (some 4)]) :: (oa, 0, flat b7.av s') :: R) ∧ Wk S00 fr' S' ((70, .int .i64 (a : Int)) :: (69, .int .i64 ((a0J g).length : Int)) :: [(6, .sl false 1 (List.map (avL 1 (avI .i64)) (inL g))), (8, .sl false 1 (List.map (avL 1 (avI .i64)) (b1C g))), (10, gR g), (11, .ptr oc 0 0), (13, .fn (.func 30) [] [.ptr oc 0 0]), (68, .sl false 1 (List.map (avI .i64) (a0J g)))]) S' := fun hc fr' S' hw hS' =>
      ⟨_, ⟨by rw [a7V]; exact hlen2, by rw [hnode, if_pos hc] at hI; exact hI⟩, hS'.sub (.cons_cons _ (.cons_cons _ (List.sublist_cons_self _ _))), a5x hw (k9 ⟨.refl _, .refl _, .refl _, .refl _, .refl _, .refl _, .refl _, .refl _, trivial⟩)⟩
     cases h11 : nd.Op != 11 with
     | false =>
       have h11' : nd.Op = 11 := by simpa using h11
       have hc : a3k g i = true := by rw [hic, h11']; rfl
       refine aU ?_
       refine b2r rfl (i7 (a5i (by exact k9 ⟨.refl _, .refl _, .refl _, .refl _, .refl _, .refl _, .refl _, .refl _, .refl _, .refl _, trivial⟩) (hloop _ _ hS (fun fr' S' hw hS' => ?_))))
       obtain ⟨s', q1, q2, q3⟩ := hfin hc fr' S' hw hS'
       exact R_n s' q1 q2 q3
     | true =>
       have h11' : nd.Op ≠ 11 := by simpa using h11
       refine aU ?_
       refine y7 hS rfl (.tail _ (.tail _ (.head _))) (v := .int .u8 nd.Op) rfl ?_
       refine aU ?_
       cases h13 : nd.Op != 13 with
       | false =>
         have h13' : nd.Op = 13 := by simpa using h13
         have hc : a3k g i = true := by rw [hic, h13']; rfl
         refine b2r rfl (i7 (a5i (by exact k9 ⟨.refl _, .refl _, .refl _, .refl _, .refl _, .refl _, .refl _, .refl _, .refl _, .refl _, trivial⟩) (hloop _ _ hS (fun fr' S' hw hS' => ?_))))
         obtain ⟨s', q1, q2, q3⟩ := hfin hc fr' S' hw hS'
         exact R_n s' q1 q2 q3
       | true =>
         have h13' : nd.Op ≠ 13 := by simpa using h13
         have hc : a3k g i = false := by rw [hic]; simp [h11', h13']
         refine b1g rfl (x6 ?_)
         refine n8 ?_
         rw [hnode, hc] at hI
         exact R_c a2 ⟨hlen2, hI⟩ (hS.sub (.cons_cons _ (.cons_cons _ (List.sublist_cons_self _ _)))) (k9 ⟨.refl _, .refl _, .refl _, .refl _, .refl _, .refl _, .refl _, .refl _, trivial⟩)
    ·obtain ⟨hsl, hI⟩ := hI
     rw [← hwl, List.drop_length] at hI
     have hI : s = b1D g := hI
     subst hI
     refine a5i hw ?_
     refine aU ?_
     refine y7 hS rfl zM rfl ?_
     refine a4f (b7j (all := b1D g) (oa := oa) (va := 0) zO) hS (by rw [hsl]; rfl) (Spl.cons (Pk.there Pk.here) Spl.nil) (fun v S L' hv hS => ?_)
     obtain ⟨j, rfl, rfl, hj1, hj2⟩ := hv
     refine aU ?_
     refine i9 ?_
     refine ⟨trivial, _, rfl, _, ⟨oa, j, rfl, rfl⟩, ?_⟩
     exact hS.sub (.cons_cons _ (List.sublist_cons_self _ _))
end Go.Proofs.YtepdcebjobjjgaaDoor

/- Facts of the intervals for the giving of places. -/
namespace Go.Proofs.YtepdcebjobjjgaaDoor
open Go Go.Ab
theorem b5q {g : b5} (hg : a2s g) (hK : g.Kinds.length ≤ 1024) (hN : g.Nodes.length ≤ 4096) (he0 : 0 ≤ g.Entry) (heN : g.Entry < g.Nodes.length) : ∃ w : List Nat, a0J g = w.map (fun (n : Nat) => (n : Int)) ∧ w.Nodup ∧ (∀ x ∈ w, x < g.Nodes.length) ∧ w.length ≤ g.Nodes.length := by
 have hlo := a9T hg zO
 obtain ⟨w, hw1, hw2, hw3, _⟩ := hlo.w
 exact ⟨w, hw1, hw2, hw3, a4o _ _ hw2 hw3⟩
theorem b0a {g : b5} (hg : a2s g) (hp : a7O g) {w : List Nat} (hw1 : a0J g = w.map (fun (n : Nat) => (n : Int))) (hwl : w.length ≤ g.Nodes.length) {x : b7} (hx : x ∈ x9 g) : ∃ k : Nat, k < g.Kinds.length ∧ x.Place = (k : Int) ∧ (b1D g)[k]? = some x ∧ EI g w k w.length x ∧ 0 ≤ x.From ∧ x.From ≤ x.To := by
 unfold x9 at hx
 obtain ⟨h1, h2⟩ := List.mem_filter.1 hx
 obtain ⟨k, hk, rfl⟩ := List.mem_iff_getElem.1 h1
 rw [a4q] at hk
 obtain ⟨y, hy, he⟩ := a7Y hg hp hw1 hwl hk
 have : (b1D g)[k]'(by rw [a4q]; exact hk) = y := by rw [List.getElem?_eq_getElem (by rw [a4q]; exact hk)] at hy; exact Option.some.inj hy
 rw [this]
 rw [this] at h2
 have hto : 0 ≤ y.To := by unfold a8i at h2; simp at h2; exact h2
 refine ⟨k, hk, he.pl, hy, he, ?_⟩
 rcases he.ends with ⟨_, q⟩ | ⟨⟨a, i, p, q⟩, _⟩
 ·omega
 ·have := he.all a i q
  omega
theorem a4Q (g : b5) : (x9 g).length ≤ g.Kinds.length := by
 unfold x9
 rw [← a4q g]
 exact List.length_filter_le _ _
theorem b6n {P : b7 → b7 → Prop} : ∀ (l : List b7), (∀ (i j : Nat) (x y : b7), i < j → l[i]? = some x → l[j]? = some y → P x y) → l.Pairwise P
 | [], _ => .nil
 | a :: l, h => by
   refine .cons (fun b hb => ?_) (b6n l fun i j x y hij hx hy => h (i + 1) (j + 1) x y zO (by simpa using hx) (by simpa using hy))
   obtain ⟨k, hk, rfl⟩ := List.mem_iff_getElem.1 hb
   exact h 0 (k + 1) a _ zO rfl zS
theorem b3N {g : b5} (hg : a2s g) (hp : a7O g) {w : List Nat} (hw1 : a0J g = w.map (fun (n : Nat) => (n : Int))) (hwl : w.length ≤ g.Nodes.length) : (x9 g).Pairwise fun x y => x.Place < y.Place := by
 unfold x9
 refine List.Pairwise.filter _ (b6n _ fun i j x y hij hx hy => ?_)
 have hi := (List.getElem?_eq_some_iff.1 hx).1
 have hj := (List.getElem?_eq_some_iff.1 hy).1
 rw [a4q] at hi hj
 obtain ⟨x', hx', ex⟩ := a7Y hg hp hw1 hwl hi
 obtain ⟨y', hy', ey⟩ := a7Y hg hp hw1 hwl hj
 rw [hx] at hx'; cases hx'
 rw [hy] at hy'; cases hy'
 rw [ex.pl, ey.pl]; omega
theorem AInv.s_le {K : List Int} {D : List b7} {c : Int} {h : List (Int × Int)} {S : Sc} {O : List Int} (H : AInv K D c h S O) : S.ks.length ≤ D.length ∧ S.s0.length ≤ D.length ∧ S.s1.length ≤ D.length := by
 have key : ∀ (l : List Int) (k : Int), l.Nodup → (∀ p ∈ l, p ∉ pls h ∧ ∃ i : Nat, p = 16 + (i : Int) ∧ S.ks[i]? = some k) → l.length ≤ S.ks.length := fun l k hn hl => by
  have := a5C (m := (List.range S.ks.length).map fun (i : Nat) => 16 + (i : Int)) hn (fun p hp => by
   obtain ⟨_, i, h1, h2⟩ := hl p hp
   exact List.mem_map.2 ⟨i, List.mem_range.2 (List.getElem?_eq_some_iff.1 h2).1, h1.symm⟩)
  simpa using this
 have := H.kl
 have h0 := key _ _ H.sn0 H.sk0
 have h1 := key _ _ H.sn1 H.sk1
 omega
theorem b0b {g : b5} (h : a5n g = true) (hp : ∀ k ∈ g.Kinds, 0 ≤ k) : ∀ k ∈ g.Kinds, k = 0 ∨ k = 1 := by
 unfold a5n at h
 simp only [Bool.and_eq_true, Bool.not_eq_true'] at h
 intro k hk
 have h1 := h.2.1
 rw [List.any_eq_false] at h1
 have := h1 k hk
 have h0 := hp k hk
 simp only [decide_eq_true_eq] at this
 omega
theorem b0U {m : List b7} {i : Nat} {x : b7} (hx : m[i]? = some x) : m.take (i + 1) = m.take i ++ [x] ∧ m.drop i = x :: m.drop (i + 1) := by
 obtain ⟨h1, rfl⟩ := List.getElem?_eq_some_iff.1 hx
 exact ⟨List.take_succ_eq_append_getElem h1, List.drop_eq_getElem_cons h1⟩
def b8h (K : List Int) (sp : List b7) (S : Sc) (O : List Int) : Prop := (∀ x ∈ sp, ¬ (x.Held = true ∧ kd K x = 1)) → (∀ x ∈ sp, (b1E sp x.From).length ≤ 6) → S.ks = [] ∧ ∀ p ∈ O, p ≤ 11
theorem AInv.next {K : List Int} {sp m : List b7} {h h' : List (Int × Int)} {S S' : Sc} {O : List Int} {x : b7} {p : Int} {i : Nat} (hmp : m.Perm sp) (hpl : sp.Pairwise fun x y => x.Place < y.Place) (hr : ∀ x ∈ sp, 0 ≤ x.Place ∧ x.Place < K.length ∧ x.From ≤ x.To)
  (hms : SrtR (fun (x : b7) => x.From) 0 m.length m) (hx : m[i]? = some x) (hk : kd K x = 0 ∨ kd K x = 1) (H : AInv K (m.take i) x.From h S O) (hge : ∀ e ∈ h, x.From ≤ e.1) (T : b5o x.Held (kd K x) S p S') (hh : h'.Perm (h ++ [(x.To, p)])) :
  AInv K (m.take (i + 1)) x.From h' S' (O.set x.Place.toNat p) ∧ (∀ y ∈ m.drop (i + 1), x.From ≤ y.From) ∧ (b8h K sp S O → b8h K sp S' (O.set x.Place.toNat p)) := by
 obtain ⟨ht, hd⟩ := b0U hx
 have hil := (List.getElem?_eq_some_iff.1 hx).1
 have hxs : x ∈ sp := hmp.mem_iff.1 (List.mem_of_getElem? hx)
 have hnd : (m.map fun y => y.Place).Nodup := (hmp.map _).nodup_iff.2 (List.Pairwise.map _ (fun a b h => by omega) hpl)
 have hmx : m = m.take i ++ x :: m.drop (i + 1) := by rw [← hd, List.take_append_drop]
 have hD : ∀ y ∈ m.take i, 0 ≤ y.Place ∧ y.Place ≠ x.Place := fun y hy => by
  refine ⟨(hr y (hmp.mem_iff.1 (List.mem_of_mem_take hy))).1, fun e => ?_⟩
  rw [hmx, List.map_append, List.map_cons, List.nodup_append] at hnd
  exact hnd.2.2 _ (List.mem_map_of_mem hy) _ (.head _) e
 have hle : ∀ y ∈ m.take i, y.From ≤ x.From := fun y hy => by
  obtain ⟨j, hj, rfl⟩ := List.mem_iff_getElem.1 hy
  rw [List.length_take] at hj
  have hj2 : j < m.length := by omega
  refine hms j i _ x (Nat.zero_le _) zO hil ?_ hx
  rw [List.getElem_take]; exact List.getElem?_eq_getElem hj2
 have hx3 := hr x hxs
 refine ⟨?_, fun y hy => ?_, fun hroom n1 n2 => ?_⟩
 ·rw [ht]
  exact (H.take ⟨hx3.1, hx3.2.1⟩ hD hk T).perm (hh.trans (List.perm_append_singleton _ _))
 ·obtain ⟨j, hj, rfl⟩ := List.mem_iff_getElem.1 hy
  rw [List.length_drop] at hj
  refine hms i (i + 1 + j) x _ (Nat.zero_le _) zO zO hx ?_
  rw [List.getElem_drop]; exact List.getElem?_eq_getElem _
 ·obtain ⟨r1, r2⟩ := hroom n1 n2
  have hf := H.few hge hle
  have h6 := n2 x hxs
  have e1 : (b1E sp x.From).length = (b1E m x.From).length := by unfold b1E; exact ((hmp.filter _).length_eq).symm
  have e2 : (b1E (m.take i) x.From).length + 1 ≤ (b1E m x.From).length := by
   conv => rhs; rw [hmx]
   unfold b1E
   rw [List.filter_append, List.length_append, List.filter_cons, if_pos (by simp; exact hx3.2.2), List.length_cons]
   omega
  obtain ⟨q1, q2⟩ := H.room zO (n1 x hxs) T
  refine ⟨by rw [q1]; exact r1, fun q hq => ?_⟩
  rcases List.mem_or_eq_of_mem_set hq with hq | rfl
  ·exact r2 q hq
  ·exact q2
end Go.Proofs.YtepdcebjobjjgaaDoor

/- scan.Assign: the walk. -/
namespace Go.Proofs.YtepdcebjobjjgaaDoor
open Go Go.Ab
set_option maxRecDepth 20000
set_option maxHeartbeats 2000000
def d4X : FC := .reg [⟨(some 2), none, .op (.box (.t 0))⟩,  ⟨(some 4), none, .op (.mv (.v .nils))⟩,  ⟨(some 5), none, .op (.mv (.v (.int .i64 0)))⟩] []
def d4Y : FC := .reg [⟨(some 16), none, .op (.load (some 1) (.t 2))⟩,  ⟨(some 17), none, .op (.mv (.t 1))⟩,  ⟨(some 18), none, .call 15 [(.t 16), (.t 17)]⟩,  ⟨(some 15), none, .op (.mv (.t 18))⟩,  ⟨(some 19), none, .op (.ext 0 (.t 15))⟩,  ⟨(some 20), none, .op (.ext 1 (.t 15))⟩,  ⟨(some 6), none, .op (.mv (.t 19))⟩,  ⟨(some 7), none, .op (.mv (.t 20))⟩] []
def d4Z : FC := .reg [⟨(some 21), none, .op (.mv (.t 7))⟩,  ⟨(some 22), none, .op (.bin .none .neq (.t 21) (.v (.int .i64 0)))⟩] []
def d5a : FC := .reg [⟨(some 23), none, .op (.mv (.t 7))⟩,  ⟨(some 4), none, .op (.mv (.v .nils))⟩,  ⟨(some 5), none, .op (.mv (.t 23))⟩] []
def d5b : FC := .seq d5a FC.ret
def d5c : FC := .cond (.t 22) d5b FC.skip
def d5d : FC := .seq d4Z d5c
def d5e : FC := .reg [⟨(some 24), none, .op (.mv (.t 6))⟩,  ⟨(some 25), none, .call 16 [(.t 24), (.v (.fn (.func 17) [] []))]⟩] []
def d5f : FC := .reg [⟨(some 26), none, .op (.build [.nils, (.bool false), (.bool false), (.bool false), (.bool false), (.bool false), (.bool false), (.bool false), (.bool false), (.bool false), (.bool false), (.bool false), (.bool false), .nils, .nils, .nils] [])⟩,  ⟨(some 27), none, .op (.box (.t 26))⟩,  ⟨(some 8), none, .op (.mv (.t 27))⟩] []
def d1w : FC := .reg [⟨(some 28), none, .op (.mv (.v (.int .i64 0)))⟩] []
def d1x : FC := .reg [⟨(some 30), none, .op (.mv (.t 28))⟩,  ⟨(some 9), none, .op (.mv (.t 30))⟩] []
def d1y : FC := .reg [⟨(some 31), none, .op (.mv (.t 8))⟩,  ⟨(some 32), none, .op (.mv (.t 9))⟩,  ⟨(some 33), none, .op (.nchk (.t 31))⟩,  ⟨(some 34), none, .op (.fad 1 (.t 33))⟩,  ⟨(some 35), none, .op (.iad (some 12) none (.t 34) (.t 32))⟩,  ⟨none, none, .op (.store 1 (.t 35) (.v (.bool true)))⟩] []
def d1z : FC := .seq d1x d1y
def d1A : FC := .loop (.seq (.reg [⟨(some 29), none, .op (.bin .none .lss (.t 28) (.v (.int .i64 12)))⟩] []) (.seq (.cond (.t 29) .skip (.exit 0)) (.seq (.block 1 d1z) (.reg [⟨(some 36), none, .op (.bin .none .add (.t 28) (.v (.int .i64 1)))⟩,  ⟨(some 28), none, .op (.mv (.t 36))⟩] []))))
def d1B : FC := .block 0 d1A
def d1C : FC := .seq d1w d1B
def d1D : FC := .reg [⟨(some 37), none, .op (.fad 0 (.t 2))⟩,  ⟨(some 38), none, .op (.load none (.t 37))⟩,  ⟨(some 39), none, .op (.mv (.t 1))⟩,  ⟨(some 40), none, .op (.iad none (some 8) (.t 38) (.t 39))⟩,  ⟨(some 41), none, .op (.fad 1 (.t 40))⟩,  ⟨(some 42), none, .op (.load none (.t 41))⟩,  ⟨(some 43), none, .op (.len .sl (.t 42))⟩,  ⟨(some 44), none, .op (.mksl none 8 [(.int .i64 0)] (.t 43) (.t 43))⟩,  ⟨(some 10), none, .op (.mv (.t 44))⟩] []
def d1E : FC := .reg [⟨(some 45), none, .op (.mv (.t 10))⟩,  ⟨(some 46), none, .op (.len .sl (.t 45))⟩,  ⟨(some 47), none, .op (.mv (.v (.int .i64 0)))⟩] []
def d1F : FC := .reg [⟨(some 49), none, .op (.mv (.t 47))⟩,  ⟨(some 11), none, .op (.mv (.t 49))⟩] []
def d1G : FC := .reg [⟨(some 50), none, .op (.mv (.t 10))⟩,  ⟨(some 51), none, .op (.mv (.t 11))⟩,  ⟨(some 52), none, .op (.iad none none (.t 50) (.t 51))⟩,  ⟨none, none, .op (.store 1 (.t 52) (.v (.int .i64 (-1))))⟩] []
def d1H : FC := .seq d1F d1G
def d1I : FC := .loop (.seq (.reg [⟨(some 48), none, .op (.bin .none .lss (.t 47) (.t 46))⟩] []) (.seq (.cond (.t 48) .skip (.exit 2)) (.seq (.block 3 d1H) (.reg [⟨(some 53), none, .op (.bin .none .add (.t 47) (.v (.int .i64 1)))⟩,  ⟨(some 47), none, .op (.mv (.t 53))⟩] []))))
def d1J : FC := .block 2 d1I
def d1K : FC := .seq d1E d1J
def d1L : FC := .reg [⟨(some 54), none, .op (.mv (.t 6))⟩,  ⟨(some 55), none, .op (.len .sl (.t 54))⟩,  ⟨(some 56), none, .op (.mv (.v (.int .i64 0)))⟩] []
def d1M : FC := .reg [⟨(some 58), none, .op (.iad none (some 4) (.t 54) (.t 56))⟩,  ⟨(some 59), none, .op (.load (some 4) (.t 58))⟩,  ⟨(some 13), none, .op (.new [(.int .i64 0), (.int .i64 0), (.int .i64 0), (.bool false)])⟩,  ⟨none, none, .op (.store 4 (.t 13) (.t 59))⟩] []
def d1N : FC := .reg [⟨(some 60), none, .op (.mv (.t 8))⟩,  ⟨(some 61), none, .op (.nchk (.t 60))⟩,  ⟨(some 62), none, .op (.fad 0 (.t 61))⟩,  ⟨(some 63), none, .op (.load none (.t 62))⟩,  ⟨(some 64), none, .op (.len .sl (.t 63))⟩,  ⟨(some 65), none, .op (.bin .none .gtr (.t 64) (.v (.int .i64 0)))⟩,  ⟨(some 66), none, .op (.mv (.t 65))⟩,  ⟨(some 67), some (66, true), .op (.mv (.t 8))⟩,  ⟨(some 68), some (66, true), .op (.nchk (.t 67))⟩,  ⟨(some 69), some (66, true), .op (.fad 0 (.t 68))⟩,  ⟨(some 70), some (66, true), .op (.load none (.t 69))⟩,  ⟨(some 71), some (66, true), .op (.iad none (some 2) (.t 70) (.v (.int .i64 0)))⟩,  ⟨(some 72), some (66, true), .op (.fad 0 (.t 71))⟩,  ⟨(some 73), some (66, true), .op (.load none (.t 72))⟩,  ⟨(some 74), some (66, true), .op (.fad 1 (.t 13))⟩,  ⟨(some 75), some (66, true), .op (.load none (.t 74))⟩,  ⟨(some 76), some (66, true), .op (.bin .none .lss (.t 73) (.t 75))⟩,  ⟨(some 77), none, .op (.pick (.t 66) (.t 76) (.v (.bool false)))⟩] []
def d1O : FC := .cond (.t 77) FC.skip (FC.exit 6)
def d1P : FC := .seq d1N d1O
def d1Q : FC := .reg [⟨(some 78), none, .op (.mv (.t 8))⟩,  ⟨(some 79), none, .op (.mv (.t 8))⟩,  ⟨(some 80), none, .op (.nchk (.t 79))⟩,  ⟨(some 81), none, .op (.fad 0 (.t 80))⟩,  ⟨(some 82), none, .op (.mki 69 (.t 81))⟩,  ⟨(some 83), none, .call 20 [(.t 82)]⟩,  ⟨(some 84), none, .op (.tas 66 (.t 83))⟩,  ⟨(some 85), none, .op (.fld 1 none (.t 84))⟩,  ⟨(some 86), none, .call 19 [(.t 78), (.t 85)]⟩] []
def d1R : FC := .block 7 d1Q
def d1S : FC := .seq d1P d1R
def d1T : FC := .loop d1S
def d1U : FC := .block 6 d1T
def d1V : FC := .reg [⟨(some 87), none, .op (.mv (.t 8))⟩,  ⟨(some 88), none, .op (.load (some 4) (.t 13))⟩,  ⟨(some 89), none, .op (.fad 0 (.t 2))⟩,  ⟨(some 90), none, .op (.load none (.t 89))⟩,  ⟨(some 91), none, .op (.mv (.t 1))⟩,  ⟨(some 92), none, .op (.iad none (some 8) (.t 90) (.t 91))⟩,  ⟨(some 93), none, .op (.fad 1 (.t 92))⟩,  ⟨(some 94), none, .op (.load none (.t 93))⟩,  ⟨(some 95), none, .op (.fad 0 (.t 13))⟩,  ⟨(some 96), none, .op (.load none (.t 95))⟩,  ⟨(some 97), none, .op (.iad none none (.t 94) (.t 96))⟩,  ⟨(some 98), none, .op (.load none (.t 97))⟩,  ⟨(some 99), none, .call 21 [(.t 87), (.t 88), (.t 98)]⟩,  ⟨(some 14), none, .op (.mv (.t 99))⟩] []
def d1W : FC := .reg [⟨(some 100), none, .op (.mv (.t 10))⟩,  ⟨(some 101), none, .op (.fad 0 (.t 13))⟩,  ⟨(some 102), none, .op (.load none (.t 101))⟩,  ⟨(some 103), none, .op (.mv (.t 14))⟩,  ⟨(some 104), none, .op (.iad none none (.t 100) (.t 102))⟩,  ⟨none, none, .op (.store 1 (.t 104) (.t 103))⟩] []
def d1X : FC := .reg [⟨(some 105), none, .op (.mv (.t 8))⟩,  ⟨(some 106), none, .op (.nchk (.t 105))⟩,  ⟨(some 107), none, .op (.fad 0 (.t 106))⟩,  ⟨(some 108), none, .op (.mki 69 (.t 107))⟩,  ⟨(some 109), none, .op (.fad 2 (.t 13))⟩,  ⟨(some 110), none, .op (.load none (.t 109))⟩,  ⟨(some 111), none, .op (.mv (.t 14))⟩,  ⟨(some 112), none, .op (.build [(.int .i64 0), (.int .i64 0)] [(0, 1, (.t 110)), (1, 1, (.t 111))])⟩,  ⟨(some 113), none, .op (.mki 66 (.t 112))⟩,  ⟨(some 114), none, .call 22 [(.t 108), (.t 113)]⟩] []
def d1Y : FC := .seq d1W d1X
def d1Z : FC := .seq d1V d1Y
def d2a : FC := .seq d1U d1Z
def d2b : FC := .seq d1M d2a
def d2c : FC := .loop (.seq (.reg [⟨(some 57), none, .op (.bin .none .lss (.t 56) (.t 55))⟩] []) (.seq (.cond (.t 57) .skip (.exit 4)) (.seq (.block 5 d2b) (.reg [⟨(some 115), none, .op (.bin .none .add (.t 56) (.v (.int .i64 1)))⟩,  ⟨(some 56), none, .op (.mv (.t 115))⟩] []))))
def d2d : FC := .block 4 d2c
def d2e : FC := .seq d1L d2d
def d2f : FC := .reg [⟨(some 116), none, .op (.mv (.t 10))⟩,  ⟨(some 4), none, .op (.mv (.t 116))⟩,  ⟨(some 5), none, .op (.mv (.v (.int .i64 0)))⟩] []
def d2g : FC := .seq d2f FC.ret
def d2h : FC := .seq d2e d2g
def d2i : FC := .seq d1K d2h
def d2j : FC := .seq d1D d2i
def d2k : FC := .seq d1C d2j
def d2l : FC := .seq d5f d2k
def d2m : FC := .seq d5e d2l
def d2n : FC := .seq d5d d2m
def d2o : FC := .seq d4Y d2n
def d2p : FC := .seq d4X d2o
def fc8 : FC := d2p
theorem fn8 : Fn3 Tryd.prog 8 117 [(4, none), (5, none)] fc8 := ⟨_, _, Tryd.func8, rfl, rfl, rfl, by kernel_rfl⟩

theorem b5r : a9i b7.av (fun x => x.From) := fun x y => by
 refine a5r ?_
 have e : ∀ z : Int, (z != z) = false := fun z => by simp
 unfold a1M a1w a1L c1U
 simp only [Option.bind_some, e, Bool.false_eq_true, if_false, decide_eq_true_eq]
 by_cases h1 : x.From < y.From
 ·rw [if_pos h1, if_pos h1]; rfl
 ·rw [if_neg h1, if_neg h1]
  by_cases h2 : x.From > y.From
  ·rw [if_pos h2, if_pos h2]; rfl
  ·rw [if_neg h2, if_neg h2]; rfl
section
variable {w : AV} {s vs : Nat} {S0 : Sc} {q : ScO} {p : Int}
theorem b5s (hf : S0.fr.length = 12) (hp : (∃ i : Nat, p = (i : Int) ∧ i < 12) ∨ ∃ (i : Nat) (k : Int), p = 16 + (i : Int) ∧ S0.ks[i]? = some k ∧ (k = 0 ∨ k = 1)) (hl : S0.ks.length ≤ 1000000000) (h0 : S0.s0.length ≤ 1000000000) (h1 : S0.s1.length ≤ 1000000000) :
  Tri Tryd.prog 19 [.ptr s vs 0, .int .i64 p] (scL s vs w S0 q) (fun _ L' => ∃ q', L' = scL s vs w (a4P S0 p) q') := by
 obtain ⟨fs, ks, s0, s1⟩ := S0
 obtain ⟨ok, vk, o0, v0, o1, v1, j0, j1⟩ := q
 dsimp only at hf hl h0 h1 hp
 rcases hp with ⟨i, rfl, hi⟩ | ⟨i, k, rfl, hk, hk01⟩
 ·intro R S hS
  obtain ⟨r, S', e1, L', rfl, hS'⟩ := b3I (w := w) (s := s) (vs := vs) (tl := [.ref ok vk 0 ks.length none, .ref o0 v0 0 s0.length none, .ref o1 v1 0 s1.length none]) hf hi ((ok, vk, flat (avI .u8) ks) :: (o0, v0, flat (avI .i64) s0 ++ j0) :: (o1, v1, flat (avI .i64) s1 ++ j1) :: R) S hS
  refine ⟨r, S', e1, _, ⟨⟨ok, vk, o0, v0, o1, v1, j0, j1⟩, rfl⟩, ?_⟩
  unfold a4P
  rw [if_pos zO, Int.toNat_natCast]
  exact hS'
 ·refine (b3J (w := w) (s := s) (vs := vs) (ok := ok) (vk := vk) (o0 := o0) (v0 := v0) (o1 := o1) (v1 := v1) (j0 := j0) (j1 := j1) hf rfl hk hk01 hl h0 h1).mono ?_
  rintro r L' ⟨s0', s1', j0', j1', v0', v1', rfl, rfl, rfl⟩
  refine ⟨⟨ok, vk, o0, v0', o1, v1', j0', j1'⟩, ?_⟩
  have e : ((16 + (i : Int)) - 16).toNat = i := by omega
  have e2 : a4P ⟨fs, ks, s0, s1⟩ (16 + (i : Int)) = if ks[i]? = some 0 then ⟨fs, ks, s0 ++ [16 + (i : Int)], s1⟩ else ⟨fs, ks, s0, s1 ++ [16 + (i : Int)]⟩ := by
   unfold a4P
   rw [if_neg zO]
   simp only [e]
  rw [e2, hk]
  rcases hk01 with rfl | rfl
  ·simp [scL]
  ·simp [scL]
end
theorem b7N {α : Type} {A B : List α} {a b : α} : (A ++ a :: b :: B).Perm (b :: (A ++ a :: B)) := by
 have := List.perm_middle (l₁ := A ++ [a]) (l₂ := B) (a := b)
 simpa using this
structure ASt where
 h : List (Int × Int)
 S : Sc
 O : List Int
 q : ScO
 v : Nat
 jj : List AV
abbrev c6T (s o oo osp : Nat) (m : List b7) (j : List AV) (R : List It) (z : ASt) : List It :=
 scL s 0 (.ref o z.v 0 z.h.length (some 2)) z.S z.q ++ ((o, z.v, flat sbz z.h ++ z.jj) :: (oo, 0, flat (avI .i64) z.O) :: (osp, 0, flat b7.av m ++ j) :: R)
def b8i (K : List Int) (sp : List b7) (O : List Int) : Prop := ∃ (m : List b7) (c : Int) (h : List (Int × Int)) (S : Sc), m.Perm sp ∧ AInv K m c h S O ∧ b8h K sp S O
def c6v (G : f6) (f : Int) (r : AV) (L' : List It) : Prop :=
 if RightB G = true then (match y5 G.Funcs f with
  | some g => ∃ oo O, r = .tup [.ref oo 0 0 O.length none, .int .i64 0] ∧ L' = [(oo, 0, flat (avI .i64) O)] ∧ b8i g.Kinds (x9 g) O
  | none => r = .tup [.nils, .int .i64 2] ∧ L' = [])
 else r = .tup [.nils, .int .i64 70] ∧ L' = []
theorem a4R (G : f6) (f : Int) (hpos : ∀ g ∈ G.Funcs, ∀ k ∈ g.Kinds, 0 ≤ k) : Tri Tryd.prog 8 [f6.av G, .int .i64 f] [] (c6v G f) := by
 unfold c6v
 have hsp := b3M G f
 unfold b3L at hsp
 refine y6 mixed fn8 zS [13, 27, 44] (fun R S hS => ?_)
 rw [List.nil_append] at hS
 refine f8 (b9 ?_)
 refine oP (.cptr (f6.av G).cells 0) ?_
 refine aU ?_
 refine a4f hsp hS rfl Spl.nil (fun r S L' hL hS => ?_)
 by_cases hR : RightB G = true
 case neg =>
  simp only [if_neg hR] at hL ⊢
  obtain ⟨rfl, rfl⟩ := hL
  refine aU ?_
  refine b1g rfl ?_
  refine aU ?_
  refine i9 ?_
  (repeat (first | refine n8 ?_ | refine r8 ?_ | refine s4 rfl ?_ | refine j4 ?_ | refine l6 ?_ | refine k8 ?_))
  exact ⟨trivial, _, rfl, _, ⟨rfl, rfl⟩, hS⟩
 simp only [if_pos hR] at hL ⊢
 cases hgf : y5 G.Funcs f with
 | none =>
   simp only [hgf] at hL ⊢
   obtain ⟨rfl, rfl⟩ := hL
   refine aU ?_
   refine b1g rfl ?_
   refine aU ?_
   refine i9 ?_
   (repeat (first | refine n8 ?_ | refine r8 ?_ | refine s4 rfl ?_ | refine j4 ?_ | refine l6 ?_ | refine k8 ?_))
   exact ⟨trivial, _, rfl, _, ⟨rfl, rfl⟩, hS⟩
 | some g =>
   simp only [hgf] at hL ⊢
   obtain ⟨osp, j, rfl, rfl⟩ := hL
   refine aU ?_
   obtain ⟨h0, h1, h2⟩ := i6 hgf
   obtain ⟨hg, hhd, hnd⟩ := a2I hR g (List.mem_of_getElem? h2)
   obtain ⟨hK, hp4, hpar, hn1, hN, he0, heN⟩ := a0n hhd
   have hspl : (x9 g).length ≤ 1024 := Nat.le_trans (a4Q g) hK
   obtain ⟨w, hw1, hw2, hw3, hwl⟩ := b5q hg hK hN he0 heN
   have hmem := fun {x : b7} (hx : x ∈ x9 g) => b0a hg hpar hw1 hwl hx
   have hplc := b3N hg hpar hw1 hwl
   have hkinds : ∀ k ∈ g.Kinds, k = 0 ∨ k = 1 := b0b hhd (hpos g (List.mem_of_getElem? h2))
   refine b2r rfl ?_
   refine aU ?_
   refine a4f (b5k (l := x9 g) (o := osp) (v := 0) (j := j) b7.enc b5r zO) hS rfl (Spl.cons Pk.here Spl.nil) (fun r S L' hL hS => ?_)
   obtain ⟨m, hmp, hms, rfl⟩ := hL
   have hml := hmp.length_eq
   rw [← hml]
   refine aU ?_
   refine b8O hS rfl rfl rfl (fun s S hS => ?_)
   refine aS ?_
   refine b6 ?_
   refine b4K 0 (some 2) (Lf := fun o' => (s, 0, [.ref o' 0 0 0 (some 2), .bool false, .bool false, .bool false, .bool false, .bool false, .bool false, .bool false, .bool false, .bool false, .bool false, .bool false, .bool false, .nils, .nils, .nils]) :: [(osp, 0, flat b7.av m ++ j)].append R) hS (fun o' => Rp.here) rfl (fun o S hS => ?_)
   (repeat (first | refine a0o ?_ | refine f8 ?_ | refine b9 ?_ | refine i7 ?_))
   refine aS ?_
   refine b6 ?_
   refine b4K 13 none (Lf := fun o' => (o, 0, []) :: (s, 0, [.ref o 0 0 0 (some 2), .bool false, .bool false, .bool false, .bool false, .bool false, .bool false, .bool false, .bool false, .bool false, .bool false, .bool false, .bool false, .ref o' 0 0 0 none, .nils, .nils]) :: [(osp, 0, flat b7.av m ++ j)].append R) hS (fun o' => Rp.there Rp.here) rfl (fun ok S hS => ?_)
   (repeat (first | refine a0o ?_ | refine f8 ?_ | refine b9 ?_ | refine i7 ?_))
   refine j7 (a0e (σ := Nat × List Bool) (fun i => [(1, .int .i64 f), (2, .cptr (f6.av G).cells 0), (6, .ref osp 0 0 m.length (some 4)), (8, .ptr s 0 0), (28, .int .i64 (i.1 : Int))])
    (fun i => (ok, 0, []) :: (o, 0, []) :: (s, 0, .ref o 0 0 0 (some 2) :: (i.2.map AV.bool ++ [.ref ok 0 0 0 none, .nils, .nils])) :: (osp, 0, flat b7.av m ++ j) :: R) (fun i => i.1 ≤ 12 ∧ i.2.length = 12 ∧ ∀ k, k < i.1 → i.2[k]? = some true) (fun i => 12 - i.1) (0, List.replicate 12 false) hS ⟨Nat.zero_le _, rfl, fun k hk => absurd hk (Nat.not_lt_zero k)⟩
    (by exact k9 ⟨.refl _, .refl _, .refl _, .refl _, .refl _, trivial⟩) (fun z S hI hS => ?_))
   obtain ⟨i, fs⟩ := z
   obtain ⟨i1, hfl, hft⟩ := hI
   dsimp only at i1 hfl hft hS
   refine aU ?_
   refine n6 rfl (fun hb => ?_) (fun hb => ?_)
   ·have hlt : i < 12 := by simp only [decide_eq_true_eq] at hb; omega
    refine aU ?_
    refine j7 ?_
    refine aU ?_
    refine b0T rfl rfl i rfl hlt ?_
    have hspl2 : splice (AV.ref o 0 0 0 (some 2) :: (fs.map AV.bool ++ [.ref ok 0 0 0 none, .nils, .nils])) (0 + 1 + i * f4 none) [AV.bool true] = AV.ref o 0 0 0 (some 2) :: ((fs.set i true).map AV.bool ++ [.ref ok 0 0 0 none, .nils, .nils]) := by
     simp [splice, f4, show 0 + 1 + i = i + 1 by omega, List.set_cons_succ, List.set_append_left, hfl, hlt, List.map_set]
    refine E_stS hS rfl zC (xv := .bool true) (L' := (ok, 0, []) :: (o, 0, []) :: (s, 0, AV.ref o 0 0 0 (some 2) :: ((fs.set i true).map AV.bool ++ [.ref ok 0 0 0 none, .nils, .nils])) :: (osp, 0, flat b7.av m ++ j) :: R) (by rw [← hspl2]; exact Rp.there (Rp.there Rp.here)) rfl rfl (by simp [f4, hfl]; omega) (fun S hS => ?_)
    refine aU ?_
    refine k8 ?_
    refine aU ?_
    refine ⟨(i + 1, fs.set i true), ⟨by simp only; omega, by simp [hfl], fun k hk => ?_⟩, by simp only; omega, hS, k9 ⟨.refl _, .refl _, .refl _, .refl _, a2P (a5q zO), trivial⟩⟩
    simp only at hk ⊢
    by_cases e : i = k
    ·subst e; rw [List.getElem?_set_self zO]
    ·rw [List.getElem?_set_ne e]; exact hft k zO
   have hi12 : i = 12 := by simp only [decide_eq_false_iff_not] at hb; omega
   have hfs : fs = List.replicate 12 true := by
    apply List.ext_getElem?
    intro k
    by_cases hk : k < 12
    ·rw [hft k zO, List.getElem?_replicate, if_pos hk]
    ·rw [List.getElem?_eq_none zO, List.getElem?_eq_none zE]
   subst hfs
   clear hft hfl
   refine x6 ?_
   (repeat (first | refine n8 ?_ | refine r8 ?_ | refine s4 rfl ?_ | refine j4 ?_ | refine l6 ?_ | refine k8 ?_))
   refine b4K 14 none (Lf := fun o' => (ok, 0, []) :: (o, 0, []) :: (s, 0, AV.ref o 0 0 0 (some 2) :: ((List.replicate 12 true).map AV.bool ++ [.ref ok 0 0 0 none, .ref o' 0 0 0 none, .nils])) :: (osp, 0, flat b7.av m ++ j) :: R) hS (fun o' => Rp.there (Rp.there Rp.here)) rfl (fun o0 S hS => ?_)
   (repeat (first | refine a0o ?_ | refine f8 ?_ | refine b9 ?_ | refine i7 ?_))
   refine aS ?_
   refine m7 rfl rfl hgf ?_
   refine oP (.cptr (b5.av g).cells 1) ?_
   refine oP (.sl false 1 (g.Kinds.map (avI .u8))) ?_
   refine x2 (f := avI .u8) (ys := g.Kinds) rfl ?_
   refine b6Q (f := avI .i64) (x := 0) (n := (g.Kinds.length : Int)) (n' := (g.Kinds.length : Int)) hS (g6 .i64) rfl rfl rfl rfl ⟨by omega, by omega, by omega, by omega⟩ (fun oo S hS => ?_)
   simp only [Int.toNat_natCast] at hS ⊢
   refine aS ?_
   refine b6 ?_
   refine b4K 15 none (Lf := fun o' => (oo, 0, flat (avI .i64) (List.replicate g.Kinds.length 0)) :: (o0, 0, []) :: (ok, 0, []) :: (o, 0, []) :: (s, 0, AV.ref o 0 0 0 (some 2) :: ((List.replicate 12 true).map AV.bool ++ [.ref ok 0 0 0 none, .ref o0 0 0 0 none, .ref o' 0 0 0 none])) :: (osp, 0, flat b7.av m ++ j) :: R) hS (fun o' => Rp.there (Rp.there (Rp.there (Rp.there Rp.here)))) rfl (fun oS S hS => ?_)
   (repeat (first | refine a0o ?_ | refine f8 ?_ | refine b9 ?_ | refine i7 ?_))
   refine aS ?_
   refine b6 ?_
   refine g7 ?_
   (repeat (first | refine a0o ?_ | refine f8 ?_ | refine b9 ?_ | refine i7 ?_))
   refine a6c g.Kinds.length (fun _ : List Int => [(1, .int .i64 f), (2, .cptr (f6.av G).cells 0), (6, .ref osp 0 0 m.length (some 4)), (8, .ptr s 0 0), (10, .ref oo 0 0 g.Kinds.length none)]) (fun O => (oS, 0, []) :: (oo, 0, flat (avI .i64) O) :: (o0, 0, []) :: (ok, 0, []) :: (o, 0, []) :: (s, 0, AV.ref o 0 0 0 (some 2) :: ((List.replicate 12 true).map AV.bool ++ [.ref ok 0 0 0 none, .ref o0 0 0 0 none, .ref oS 0 0 0 none])) :: (osp, 0, flat b7.av m ++ j) :: R)
    (fun i O => O.length = g.Kinds.length ∧ ∀ k, k < i → O[k]? = some (-1)) (List.replicate g.Kinds.length 0) hS ⟨by simp, fun k hk => absurd hk (Nat.not_lt_zero k)⟩ (k9 ⟨.refl _, .refl _, .refl _, .refl _, .refl _, .refl _, .refl _, trivial⟩) zO zD zD (fun _ => ⟨rfl, rfl, rfl, rfl⟩) (fun i O S hi hI hS => ?_) (fun O fr' S hI hS hw => ?_)
   ·obtain ⟨hol, hI⟩ := hI
    obtain ⟨x, hx⟩ : ∃ x, O[i]? = some x := ⟨O[i]'zO, List.getElem?_eq_getElem _⟩
    refine aU ?_
    refine p8 rfl rfl ⟨by omega, by omega⟩ ?_
    refine a4g (l := O) hS (g6 .i64) rfl zC (n := i) (fo := 0) (y := x) (y' := -1) (by simp [f4]) hx (.there .here) rfl rfl (by simp [f4]) rfl (fun S hS => ?_)
    refine aU ?_
    refine R_n (O.set i (-1)) ⟨by simp [hol], fun k hk => ?_⟩ hS (k9 ⟨.refl _, .refl _, .refl _, .refl _, .refl _, .refl _, .refl _, trivial⟩)
    by_cases e : i = k
    ·subst e; rw [List.getElem?_set_self zO]
    ·rw [List.getElem?_set_ne e]; exact hI k zO
   obtain ⟨hol, hI⟩ := hI
   have hO : O = List.replicate g.Kinds.length (-1) := by
    apply List.ext_getElem?
    intro k
    by_cases hk : k < g.Kinds.length
    ·rw [hI k hk, List.getElem?_replicate, if_pos hk]
    ·rw [List.getElem?_eq_none zO, List.getElem?_eq_none zE]
   subst hO
   refine a5i hw ?_
   (repeat (first | refine a0o ?_ | refine f8 ?_ | refine b9 ?_ | refine i7 ?_))
   refine aS ?_
   refine b6 ?_
   refine g7 ?_
   (repeat (first | refine a0o ?_ | refine f8 ?_ | refine b9 ?_ | refine i7 ?_))
   have hS2 := hS.spl (L1 := [(s, 0, AV.ref o 0 0 0 (some 2) :: ((List.replicate 12 true).map AV.bool ++ [.ref ok 0 0 0 none, .ref o0 0 0 0 none, .ref oS 0 0 0 none])), (ok, 0, flat (avI .u8) []), (o0, 0, flat (avI .i64) [] ++ []), (oS, 0, flat (avI .i64) [] ++ []), (o, 0, flat sbz [] ++ []), (oo, 0, flat (avI .i64) (List.replicate g.Kinds.length (-1))), (osp, 0, flat b7.av m ++ j)]) (R := R) (by repeat (first | exact Spl.nil | refine Spl.cons (by repeat (first | exact Pk.here | apply Pk.there | apply Pk.skip)) ?_ | refine Spl.app (by repeat (first | exact PkC.here | apply PkC.there | apply PkC.skip)) ?_))
   clear hS
   refine a6c m.length (fun _ : ASt => [(1, .int .i64 f), (2, .cptr (f6.av G).cells 0), (8, .ptr s 0 0), (10, .ref oo 0 0 g.Kinds.length none), (54, .ref osp 0 0 m.length (some 4))]) (fun z => c6T s o oo osp m j R z)
    (fun i z => z.h.length ≤ i ∧ HpI toK z.h.length z.h ∧ ∃ c, AInv g.Kinds (m.take i) c z.h z.S z.O ∧ (∀ x ∈ m.drop i, c ≤ x.From) ∧ b8h g.Kinds (x9 g) z.S z.O)
    ⟨[], ⟨List.replicate 12 true, [], [], []⟩, List.replicate g.Kinds.length (-1), ⟨ok, 0, o0, 0, oS, 0, [], []⟩, 0, []⟩ hS2 ⟨Nat.le_refl _, fun c x y h1 h2 => absurd h2 (Nat.not_lt_zero c), 0, .init, fun x hx => (hmem (hmp.mem_iff.1 (by simpa using hx))).choose_spec.2.2.2.2.1, fun _ _ => ⟨rfl, fun p hp => by have := List.eq_of_mem_replicate hp; omega⟩⟩ (k9 ⟨.refl _, .refl _, .refl _, .refl _, .refl _, .refl _, .refl _, trivial⟩) zO zD zD (fun _ => ⟨rfl, rfl, rfl, rfl⟩) (fun i z S hi hI hS => ?_) (fun z fr' S hI hS hw => ?_)
   ·obtain ⟨i1, hH, c, hA, hcm, hroom⟩ := hI
    obtain ⟨x, hx⟩ : ∃ x, m[i]? = some x := ⟨m[i], List.getElem?_eq_getElem hi⟩
    obtain ⟨ht1, hd1⟩ := b0U hx
    have hxs : x ∈ x9 g := hmp.mem_iff.1 (List.mem_of_getElem? hx)
    obtain ⟨k, hkK, hkp, _, _, hx0, hxt⟩ := hmem hxs
    have hcx : c ≤ x.From := hcm x (by rw [hd1]; exact .head _)
    replace hA := hA.cut hcx
    obtain ⟨kx, hkx⟩ : ∃ kx, g.Kinds[k]? = some kx := ⟨g.Kinds[k], List.getElem?_eq_getElem hkK⟩
    have hkd : kd g.Kinds x = kx := by unfold kd; rw [hkp, Int.toNat_natCast, List.getD_eq_getElem?_getD, hkx]; rfl
    have hk01 := hkinds kx (List.mem_of_getElem? hkx)
    refine aU ?_
    refine p8 rfl rfl ⟨by omega, by omega⟩ ?_
    refine a0N hS b7.enc rfl (.tail _ (.tail _ (.tail _ (.tail _ (.tail _ (.tail _ (.head _))))))) (n := i) (fo := 0) (y := x) (by simp [f4]) hx rfl ?_
    refine b1m hS rfl (fun o13 S hS => ?_)
    refine E_stS hS rfl rfl (xv := b7.av x) Rp.here rfl rfl (by first | exact Nat.le_of_ble_eq_true rfl | (simp; omega) | omega) (fun S hS => ?_)
    replace hS : Ab.Sep S ((o13, 0, (b7.av x).cells) :: c6T s o oo osp m j R z) := hS
    refine b6 ?_
    refine g7 ?_
    (repeat (first | refine a0o ?_ | refine f8 ?_ | refine b9 ?_ | refine i7 ?_))
    refine b2S (σ := ASt) (fun z => [(1, .int .i64 f), (2, .cptr (f6.av G).cells 0), (8, .ptr s 0 0), (10, .ref oo 0 0 g.Kinds.length none), (13, .ptr o13 0 0), (54, .ref osp 0 0 m.length (some 4)), (55, .int .i64 m.length), (56, .int .i64 i)]) (fun z => (o13, 0, (b7.av x).cells) :: c6T s o oo osp m j R z)
     (fun z => z.h.length ≤ i ∧ HpI toK z.h.length z.h ∧ AInv g.Kinds (m.take i) x.From z.h z.S z.O ∧ (∀ e ∈ z.h, x.From ≤ e.1) ∧ b8h g.Kinds (x9 g) z.S z.O) ?_ (fun z Sx hI hSx => ?_)
    ·refine j7 (a0e (σ := ASt) (fun z => [(1, .int .i64 f), (2, .cptr (f6.av G).cells 0), (8, .ptr s 0 0), (10, .ref oo 0 0 g.Kinds.length none), (13, .ptr o13 0 0), (54, .ref osp 0 0 m.length (some 4)), (55, .int .i64 m.length), (56, .int .i64 i)]) (fun z => (o13, 0, (b7.av x).cells) :: c6T s o oo osp m j R z)
      (fun z => z.h.length ≤ i ∧ HpI toK z.h.length z.h ∧ AInv g.Kinds (m.take i) x.From z.h z.S z.O ∧ b8h g.Kinds (x9 g) z.S z.O) (fun z => z.h.length) z hS ⟨i1, hH, hA, hroom⟩
      (k9 ⟨.refl _, .refl _, .refl _, .refl _, .refl _, .refl _, .refl _, .refl _, trivial⟩) (fun z Sx hI hSx => ?_))
     obtain ⟨h, S0, O, q, v, jj⟩ := z
     obtain ⟨i1, hH, hA, hroom⟩ := hI
     dsimp only at i1 hH hA hroom hSx
     refine aU ?_
     refine y7 hSx rfl (.tail _ (.head _)) (v := .ref o v 0 h.length (some 2)) rfl ?_
     refine aU ?_
     refine m9 (b := decide ((h.length : Int) > 0)) rfl rfl rfl (fun hb => ?_) (fun hb => ?_)
     ·obtain ⟨e, h0, rfl⟩ : ∃ e h0, h = e :: h0 := by
       cases h with
       | nil => simp at hb
       | cons e h0 => exact ⟨e, h0, rfl⟩
      refine aU ?_
      refine y7 hSx rfl (.tail _ (.head _)) (v := .ref o v 0 (e :: h0).length (some 2)) rfl ?_
      refine aU ?_
      refine w5 rfl rfl 0 rfl zS ?_
      refine aU ?_
      refine a0N hSx a8b rfl (.tail _ (.tail _ (.tail _ (.tail _ (.tail _ (.head _)))))) (n := 0) (fo := 0) (y := e) (by simp [f4]) rfl (v := .int .i64 e.1) rfl ?_
      refine aU ?_
      refine y7 hSx rfl (.head _) (v := .int .i64 x.From) rfl ?_
      refine aU ?_
      refine n6 rfl (fun hb => ?_) (fun hb => ?_)
      ·have hlt : e.1 < x.From := by simpa using hb
       refine aU ?_
       refine j7 ?_
       refine aU ?_
       refine a4f (a9Y (h := e :: h0) (n := h0.length) (s := s) (vs := 0) (o := o) (v := v) (rest := S0.fr.map AV.bool ++ [AV.ref q.ok q.vk 0 S0.ks.length none, AV.ref q.o0 q.v0 0 S0.s0.length none, AV.ref q.o1 q.v1 0 S0.s1.length none]) (jj := jj) zO rfl hH) hSx rfl
        (Spl.cons (Pk.there Pk.here) (Spl.cons (Pk.there (Pk.there (Pk.there (Pk.there Pk.here)))) Spl.nil)) (fun r Sy L' hL hSy => ?_)
       obtain ⟨x1, h', jj', rfl, hp1, hleast, hH', rfl⟩ := hL
       have hp2 : (x1 :: h').Perm (e :: h0) := (List.perm_append_singleton x1 h').symm.trans hp1
       have hA1 := hA.perm hp2
       have hle := hleast 0 e zS rfl
       have hx1 : x1.1 < x.From := Int.lt_of_le_of_lt hle hlt
       obtain ⟨b1, b2, b3⟩ := hA.s_le
       have b4 : (m.take i).length ≤ 1024 := by rw [List.length_take]; omega
       have hh0 : h'.length = h0.length := by have := hp2.length_eq; simpa using this
       have hh' : h'.length + 1 ≤ i := by simp only [List.length_cons] at i1; omega
       refine aU ?_
       refine a4f (b5s (w := .ref o v 0 h'.length (some 2)) (s := s) (vs := 0) (S0 := S0) (q := q) (p := x1.2) hA.fl (hA1.place (t := x1.1) (p := x1.2) (.head _)) zO zO zO) hSy rfl
        (Spl.cons Pk.here (Spl.cons (Pk.there (Pk.there Pk.here)) (Spl.cons (Pk.there (Pk.there Pk.here)) (Spl.cons (Pk.there (Pk.there Pk.here)) Spl.nil)))) (fun r Sz L' hL hSz => ?_)
       obtain ⟨q', rfl⟩ := hL
       refine aU ?_
       refine k8 ?_
       refine aU ?_
       exact ⟨⟨h', a4P S0 x1.2, O, q', v, jj'⟩, ⟨by simp only; omega, hH', hA1.pop (t := x1.1) (p := x1.2) hx1, by
        intro n1 n2
        obtain ⟨r1, r2⟩ := hroom n1 n2
        refine ⟨?_, r2⟩
        unfold a4P
        split
        ·exact r1
        ·split <;> exact r1⟩, by simp only [List.length_cons]; omega, hSz.perm b7N, k9 ⟨.refl _, .refl _, .refl _, .refl _, .refl _, .refl _, .refl _, .refl _, trivial⟩⟩
      ·refine x6 ?_
       (repeat (first | refine n8 ?_ | refine r8 ?_ | refine s4 rfl ?_ | refine j4 ?_ | refine l6 ?_ | refine k8 ?_))
       have hge : ¬ e.1 < x.From := by simpa using hb
       exact v7 ⟨⟨e :: h0, S0, O, q, v, jj⟩, ⟨i1, hH, hA, fun e' he' => by
        obtain ⟨t, ht, rfl⟩ := List.mem_iff_getElem.1 he'
        have := hH.least (Nat.le_refl _) (x := e) rfl t _ ht (List.getElem?_eq_getElem ht)
        exact Int.le_trans (Int.not_lt.1 hge) this, hroom⟩, hSx, k9 ⟨.refl _, .refl _, .refl _, .refl _, .refl _, .refl _, .refl _, .refl _, trivial⟩⟩
     ·have hn0 : h = [] := by
       cases h with
       | nil => rfl
       | cons e h0 => simp at hb
      refine aU ?_
      refine n6 (t := false) rfl (fun hb => by cases hb) (fun _ => ?_)
      refine x6 ?_
      (repeat (first | refine n8 ?_ | refine r8 ?_ | refine s4 rfl ?_ | refine j4 ?_ | refine l6 ?_ | refine k8 ?_))
      exact v7 ⟨⟨h, S0, O, q, v, jj⟩, ⟨i1, hH, hA, fun e' he' => (by rw [hn0] at he'; exact absurd he' (List.not_mem_nil)), hroom⟩, hSx, k9 ⟨.refl _, .refl _, .refl _, .refl _, .refl _, .refl _, .refl _, .refl _, trivial⟩⟩
    ·obtain ⟨h, S0, O, q, v, jj⟩ := z
     obtain ⟨i1, hH, hA, hge, hroom⟩ := hI
     dsimp only at i1 hH hA hge hroom hSx
     obtain ⟨b1, b2, b3⟩ := hA.s_le
     have b4 : (m.take i).length ≤ 1024 := by rw [List.length_take]; omega
     have hol := hA.ol
     refine aU ?_
     refine y7 hSx rfl (.head _) (v := b7.av x) rfl ?_
     refine aU ?_
     refine m7 rfl rfl hgf ?_
     refine aU ?_
     refine y7 hSx rfl (.head _) (v := .int .i64 x.Place) rfl ?_
     refine m7 rfl rfl (show y5 g.Kinds x.Place = some kx by rw [hkp, a0j]; exact hkx) ?_
     refine oP (.int .u8 kx) ?_
     refine a4f (b3K (w := .ref o v 0 h.length (some 2)) (s := s) (vs := 0) (S0 := S0) (q := q) (k := kx) (pl := x.Place) (fm := x.From) (tt := x.To) (held := x.Held) hA.fl hk01 zO zO zO) hSx rfl
      (Spl.cons (Pk.there Pk.here) (Spl.cons (Pk.there Pk.here) (Spl.cons (Pk.there Pk.here) (Spl.cons (Pk.there Pk.here) Spl.nil)))) (fun r Sy L' hL hSy => ?_)
     obtain ⟨p, S1, q1, rfl, hT, rfl⟩ := hL
     refine aU ?_
     refine y7 hSy rfl (.tail _ (.tail _ (.tail _ (.tail _ (.head _))))) (v := .int .i64 x.Place) rfl ?_
     refine aU ?_
     obtain ⟨y0, hy0⟩ : ∃ y, O[k]? = some y := ⟨O[k]'zO, List.getElem?_eq_getElem _⟩
     refine w5 rfl rfl k hkp zO ?_
     refine a4g (l := O) hSy (g6 .i64) rfl zC (n := k) (fo := 0) (y := y0) (y' := p) (by simp [f4]) hy0 (.there (.there (.there (.there (.there (.there .here)))))) rfl rfl (by simp [f4]) rfl (fun Sy hSy => ?_)
     refine aU ?_
     refine y7 hSy rfl (.tail _ (.tail _ (.tail _ (.tail _ (.head _))))) (v := .int .i64 x.To) rfl ?_
     refine aU ?_
     refine a4f (a9k (h := h) (x := (x.To, p)) (s := s) (vs := 0) (o := o) (v := v) (rest := S1.fr.map AV.bool ++ [AV.ref q1.ok q1.vk 0 S1.ks.length none, AV.ref q1.o0 q1.v0 0 S1.s0.length none, AV.ref q1.o1 q1.v1 0 S1.s1.length none]) (jj := jj) zO hH) hSy rfl
      (Spl.cons Pk.here (Spl.cons (Pk.there (Pk.there (Pk.there (Pk.there Pk.here)))) Spl.nil)) (fun r Sz L' hL hSz => ?_)
     obtain ⟨h', hp', hH', rfl⟩ := hL
     have hkn : x.Place.toNat = k := by rw [hkp]; rfl
     obtain ⟨n1, n2, n3⟩ := AInv.next hmp hplc (fun y hy => by obtain ⟨ky, a1, a2, _, _, a3, a4⟩ := hmem hy; exact ⟨by omega, by omega, a4⟩) hms hx (by rw [hkd]; exact hk01) hA hge (by rw [hkd]; exact hT) hp'
     rw [hkn] at n1 n3
     have e0 : ((o, v + 1, flat sbz h') : It) = (o, v + 1, flat sbz h' ++ []) := by rw [List.append_nil]
     rw [e0] at hSz
     have hS2 := hSz.spl (L1 := [(s, 0, AV.ref o (v + 1) 0 h'.length (some 2) :: (S1.fr.map AV.bool ++ [AV.ref q1.ok q1.vk 0 S1.ks.length none, AV.ref q1.o0 q1.v0 0 S1.s0.length none, AV.ref q1.o1 q1.v1 0 S1.s1.length none])), (q1.ok, q1.vk, flat (avI .u8) S1.ks), (q1.o0, q1.v0, flat (avI .i64) S1.s0 ++ q1.j0), (q1.o1, q1.v1, flat (avI .i64) S1.s1 ++ q1.j1), (o, v + 1, flat sbz h' ++ []), (oo, 0, flat (avI .i64) (O.set k p)), (osp, 0, flat b7.av m ++ j)]) (R := (o13, 0, (b7.av x).cells) :: R) (by repeat (first | exact Spl.nil | refine Spl.cons (by repeat (first | exact Pk.here | apply Pk.there | apply Pk.skip)) ?_ | refine Spl.app (by repeat (first | exact PkC.here | apply PkC.there | apply PkC.skip)) ?_))
     have hl' : h'.length ≤ i + 1 := by have := hp'.length_eq; rw [List.length_append, List.length_singleton] at this; omega
     refine aU ?_
     replace hS2 := hS2.sub (List.Sublist.append_left (List.sublist_cons_self (o13, 0, (b7.av x).cells) R) _)
     exact R_n ⟨h', S1, O.set k p, q1, v + 1, []⟩ ⟨hl', hH', x.From, n1, n2, n3 hroom⟩ hS2 (k9 ⟨.refl _, .refl _, .refl _, .refl _, .refl _, .refl _, .refl _, trivial⟩)
   ·obtain ⟨h, S0, O, q, v, jj⟩ := z
    obtain ⟨i1, hH, c, hA, hcm, hroom⟩ := hI
    dsimp only at i1 hH hA hroom hS
    refine a5i hw ?_
    refine aU ?_
    refine i9 ?_
    (repeat (first | refine n8 ?_ | refine r8 ?_ | refine s4 rfl ?_ | refine j4 ?_ | refine l6 ?_ | refine k8 ?_))
    have hol := hA.ol
    rw [List.take_length] at hA
    have hS2 := hS.spl (L1 := [(oo, 0, flat (avI .i64) O)]) (R := (s, 0, _) :: _) (Spl.cons (Pk.there (Pk.there (Pk.there (Pk.there (Pk.there Pk.here))))) Spl.nil)
    refine ⟨trivial, _, rfl, _, ⟨oo, O, by rw [hol]; rfl, rfl, m, c, h, S0, hmp, hA, hroom⟩, ?_⟩
    refine hS2.sub (List.Sublist.append_left ?_ _)
    exact (List.sublist_append_right [_, _, _, _, _, _] R)
end Go.Proofs.YtepdcebjobjjgaaDoor

