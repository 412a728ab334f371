/- order.Spans with a list of its own: the walk. -/
import Derived.Test.YtepdcebjobjjgaaDoorOrW3
import Derived.Test.YtepdcebjobjjgaaDoorScP3
import Derived.Test.YtepdcebjobjjgaaDoorGenC
import Derived.Test.YtepdcebjobjjgaaDoorOrP4r
import Derived.Test.YtepdcebjobjjgaaDoorScW7
set_option linter.unusedVariables false
set_option linter.unusedSimpArgs false
namespace Go.Proofs.YtepdcebjobjjgaaDoor
open Go Go.Ab
set_option maxRecDepth 20000
set_option maxHeartbeats 2000000
def b5p (G : f7) (f : Int) (r : AV) (L' : List It) : Prop :=
 if a1h G = true then (match o6 G.Funcs f with
  | some g => ∃ oa j, r = .tup [.ref oa 0 0 (y7 g).length (some 4), .int .i64 0] /\ L' = [(oa, 0, flat b6.av (y7 g) ++ j)]
  | none => r = .tup [.nils, .int .i64 2] /\ L' = [])
 else r = .tup [.nils, .int .i64 70] /\ L' = []
theorem b5q (g_00 : f7) (f_01 : Int) : Tri Tryd.prog 15 [(f7.av g_00), (.int .i64 f_01)] [] (b5p g_00 f_01) := by
 unfold b5p
 obtain ⟨fuel, hfuel⟩ : ∃ fuel : Nat, 100000000000 <= fuel := ⟨_, Nat.le_refl _⟩
 refine a0n mixed c5D zS [11, 16, 43] (fun R S00 hS => ?_)
 rw [List.nil_append] at hS
 refine d9 (b8 ?_)
 refine oP (.cptr (f7.av g_00).cells 0) ?_
 refine aU ?_
 have hck := a9c g_00 f_01
 by_cases hR : a1h g_00 = true
 case neg =>
  rw [if_neg hR] at hck
  simp only [if_neg hR]
  obtain ⟨e1, _⟩ := b7G hck zD (fuel := fuel)
  refine j4 (as' := [f7.av g_00, .int .i64 f_01]) (a5N e1) rfl ⟨(.refl _), (.refl _), trivial⟩ (i6 ⟨(f7.enc.blw _ 0), rfl, trivial⟩) (a4e ⟨((a0K (g5 .i64) 1).blws 0), rfl, trivial⟩) ?_
  refine aU ?_
  refine a9x rfl ?_
  refine aU ?_
  refine j5 ?_
  refine aE ?_
  exact ⟨trivial, _, rfl, _, ⟨rfl, rfl⟩, hS⟩
 rw [if_pos hR] at hck
 simp only [if_pos hR]
 cases hgf : o6 g_00.Funcs f_01 with
 | none =>
   try simp only [hgf]
   have hnr : ¬ (0 <= f_01 /\ f_01 < g_00.Funcs.length) := by
    rintro ⟨a, b⟩
    rw [a8U a zO] at hgf; cases hgf
   rw [if_neg hnr] at hck
   obtain ⟨e1, _⟩ := b7G hck zD (fuel := fuel)
   refine j4 (as' := [f7.av g_00, .int .i64 f_01]) (a5N e1) rfl ⟨(.refl _), (.refl _), trivial⟩ (i6 ⟨(f7.enc.blw _ 0), rfl, trivial⟩) (a4e ⟨((a0K (g5 .i64) 1).blws 0), rfl, trivial⟩) ?_
   refine aU ?_
   refine a9x rfl ?_
   refine aU ?_
   refine j5 ?_
   refine aE ?_
   exact ⟨trivial, _, rfl, _, ⟨rfl, rfl⟩, hS⟩
 | some g =>
   try simp only [hgf]
   obtain ⟨h0, h1, h2⟩ := i8 hgf
   rw [if_pos ⟨h0, h1⟩] at hck
   obtain ⟨hg, hhd, hnd⟩ := a3z hR g (List.mem_of_getElem? h2)
   obtain ⟨hK, hp4, hpar, hn1, hN, he0, heN⟩ := a0d hhd
   have hIn := c2K hck hgf hg hfuel
   have hOut := c0L hck hgf hg hfuel
   refine j4 (as' := [f7.av g_00, .int .i64 f_01]) (a5N hIn) rfl ⟨(.refl _), (.refl _), trivial⟩ (i6 ⟨(f7.enc.blw _ 0), rfl, trivial⟩) (a4e ⟨((a0K (g5 .i64) 1).blws 0), rfl, trivial⟩) ?_
   refine aU ?_
   refine a9S rfl ?_
   refine aU ?_
   refine j4 (as' := [f7.av g_00, .int .i64 f_01]) (b1h hOut) rfl ⟨(.refl _), (.refl _), trivial⟩ (i6 ⟨(f7.enc.blw _ 0), rfl, trivial⟩) (a4e ⟨((a0K (g5 .i64) 1).blws 0), rfl, trivial⟩) ?_
   refine aU ?_
   refine j7 rfl rfl hgf ?_
   refine aU ?_
   refine b2M (f := b6.av) (x := ⟨0, 0, 0, false⟩) hS b6.enc rfl rfl rfl rfl zO (fun oa S hS => ?_)
   simp only [Int.toNat_natCast] at hS ⊢
   refine b1d hS rfl (fun oc S hS => ?_)
   refine E_stS hS rfl zC (by first | exact Rp.here | (repeat (first | exact Rp.here | apply Rp.there | apply Rp.skip))) rfl rfl (by first | exact Nat.le_of_ble_eq_true rfl | (simp; omega) | omega) (fun S hS => ?_)
   replace hS : Sep S ((oc, 0, [.ref oa 0 0 g.Kinds.length (some 4)]) :: (oa, 0, flat b6.av (List.replicate g.Kinds.length ⟨0, 0, 0, false⟩)) :: R) := hS
   refine aU ?_
   refine v8 hS rfl zM rfl ?_
   refine aU ?_
   refine a3c g.Kinds.length (fun _ : List b6 => [(6, .sl false 1 (List.map (avL 1 (avI .i64)) (inL g))), (8, .sl false 1 (List.map (avL 1 (avI .i64)) (b1j g))), (10, gR g), (11, .ptr oc 0 0)]) (fun s => (oc, 0, [.ref oa 0 0 g.Kinds.length (some 4)]) :: (oa, 0, flat b6.av s) :: R)
    (fun i s => s.length = g.Kinds.length /\ ∀ k, k < i -> s[k]? = (a6p g)[k]?) (List.replicate g.Kinds.length ⟨0, 0, 0, false⟩) hS ⟨by simp, fun k hk => absurd hk (Nat.not_lt_zero k)⟩ wF zO zD zD (fun _ => ⟨rfl, rfl, rfl, rfl⟩) (fun i s S hi hI hS => ?_) (fun s fr' S hI hS hw => ?_)
   ·obtain ⟨hsl, hI⟩ := hI
    obtain ⟨x, hx⟩ : ∃ x, s[i]? = some x := ⟨s[i]'zO, List.getElem?_eq_getElem _⟩
    refine aU ?_
    refine v8 hS rfl zM rfl ?_
    refine aU ?_
    refine n7 rfl rfl ⟨by omega, by omega⟩ ?_
    refine a4K (l := s) hS b6.enc rfl zC (n := i) (fo := 0) (y := x) (y' := ⟨(i : Int), (g.Nodes.length : Int), -1, false⟩) (by simp [g8]) hx (by first | exact Rp.here | (repeat (first | exact Rp.here | apply Rp.there | apply Rp.skip))) rfl rfl (by simp [g8]) rfl (fun S hS => ?_)
    refine aU ?_
    refine R_n (s.set i ⟨(i : Int), (g.Nodes.length : Int), -1, false⟩) ⟨by simp [hsl], fun k hk => ?_⟩ hS wF
    rw [List.getElem?_set]
    by_cases e : i = k
    ·subst e
     rw [if_pos rfl, if_pos zO]
     simp [a6p, hi]
    ·rw [if_neg e]; exact hI k zO
   ·obtain ⟨hsl, hI⟩ := hI
    have hs0 : s = a6p g := by
     apply List.ext_getElem?
     intro k
     by_cases hk : k < g.Kinds.length
     ·exact hI k hk
     ·rw [List.getElem?_eq_none zO, List.getElem?_eq_none (by simp [a6p]; omega)]
    subst hs0
    refine a3I hw ?_
    refine d9 (b8 ?_)
    refine oP (.fn (.func 30) [] [.ptr oc 0 0]) ?_
    refine aU ?_
    have hparR : ∀ p ∈ g.Params, 0 <= p /\ p < (a6p g).length := fun p hp => by rw [hsl]; exact hpar p hp
    refine a3u (a9h (ps := g.Params) (a := 0) (all := a6p g) hparR zO) hS rfl b4T rfl (by rw [hsl]; exact Spl.cons Pk.here (Spl.cons Pk.here Spl.nil)) (fun v S L' hL hS => ?_)
    subst hL
    rw [hsl] at hS
    refine aU ?_
    have hline : a4m g = some (a1l g) := if_pos ⟨hg, he0, heN⟩
    refine j4 (a9g hline) rfl ⟨(.refl _), trivial⟩ (i6 ⟨(i9 (b5.enc.blw _ 0)), trivial⟩) ((g5 .i64).blws 0) ?_
    refine aU ?_
    have hlo := a9f hg zO
    obtain ⟨w, hw1, hw2, hw3, _⟩ := hlo.w
    have hwl : w.length = (a1l g).length := by rw [hw1]; simp
    have hll : (a1l g).length <= g.Nodes.length := by
     rw [<- hwl]
     exact a4y _ _ hw2 hw3
    have hmapN : (a1l g).map Int.toNat = w := by rw [hw1, List.map_map]; exact (List.map_congr_left (fun x _ => by simp)).trans (List.map_id w)
    refine a3c (a1l g).length (fun _ : List b6 => [(6, .sl false 1 (List.map (avL 1 (avI .i64)) (inL g))), (8, .sl false 1 (List.map (avL 1 (avI .i64)) (b1j g))), (10, gR g), (11, .ptr oc 0 0), (13, .fn (.func 30) [] [.ptr oc 0 0]), (68, .sl false 1 (List.map (avI .i64) (a1l g)))]) (fun s => (oc, 0, [.ref oa 0 0 g.Kinds.length (some 4)]) :: (oa, 0, flat b6.av s) :: R)
     (fun i s => s.length = g.Kinds.length /\ a5n g i (w.drop i) s = b0C g) (g.Params.foldl (wkP 0) (a6p g)) hS ⟨by rw [a3A]; exact hsl, by rw [<- hmapN]; rfl⟩ wF zO zD zD (fun _ => ⟨rfl, rfl, rfl, rfl⟩) (fun a s S ha hI hS => ?_) (fun s fr' S hI hS hw => ?_)
    ·obtain ⟨hsl, hI⟩ := hI
     obtain ⟨i, hi⟩ : ∃ i, w[a]? = some i := ⟨w[a]'zO, List.getElem?_eq_getElem _⟩
     have hiN : i < g.Nodes.length := hw3 i (List.mem_of_getElem? hi)
     have hli : (a1l g)[a]? = some (i : Int) := by rw [hw1, List.getElem?_map, hi]; rfl
     obtain ⟨nd, hnd1⟩ : ∃ n, g.Nodes[i]? = some n := ⟨g.Nodes[i], List.getElem?_eq_getElem hiN⟩
     have hwr : wrN g i = wrS nd := by unfold wrN; rw [hnd1]
     have hin : o6 (inL g) (i : Int) = some (lvI g i) := by rw [n8]; unfold inL; simp [hiN, lvI]
     have hout : o6 (b1j g) (i : Int) = some (bhI g i) := by rw [n8]; unfold b1j; simp [hiN, bhI]
     have hwrR : ∀ p ∈ wrS nd, 0 <= p /\ p < g.Kinds.length := fun p hp => by
      obtain ⟨q1, q2⟩ := (a9i nd p).1 hp
      exact ⟨q2, b4V (hnd nd (List.mem_of_getElem? hnd1)) p q1 q2⟩
     rw [a2Y hi] at hI
     refine aU ?_
     refine j7 rfl rfl (a6g hli) ?_
     refine oP (.int .i64 (i : Int)) ?_
     refine aU ?_
     refine j7 rfl rfl (a6g hnd1) ?_
     refine oP (g6.av nd) ?_
     refine b1d hS rfl (fun o16 S hS => ?_)
     refine E_stS hS rfl zC (by first | exact Rp.here | (repeat (first | exact Rp.here | apply Rp.there | apply Rp.skip))) rfl rfl (by first | exact Nat.le_of_ble_eq_true rfl | (simp; omega) | omega) (fun S hS => ?_)
     replace hS : Sep S ((o16, 0, (g6.av nd).cells) :: (oc, 0, [.ref oa 0 0 g.Kinds.length (some 4)]) :: (oa, 0, flat b6.av s) :: R) := hS
     refine aU ?_
     refine j7 rfl rfl hin ?_
     refine oP (.sl false 1 ((lvI g i).map (avI .i64))) ?_
     refine a3u (a9h (ps := lvI g i) (a := (a : Int)) (all := s) (oc := oc) (oa := oa) (va := 0) (fun p hp => by rw [hsl]; exact a6F p hp) (Nat.le_trans a9l zO)) hS rfl b4T rfl (by rw [hsl]; exact Spl.cons (Pk.there Pk.here) (Spl.cons (Pk.there Pk.here) Spl.nil)) (fun v S L' hL hS => ?_)
     subst hL
     have hl1 := a3A (a : Int) (lvI g i) s
     refine aU ?_
     refine v8 hS rfl (.tail _ (.tail _ (.head _))) (v := g6.av nd) rfl ?_
     refine j4 (a4j (b7K nd)) rfl ⟨(.refl _), trivial⟩ (i6 ⟨(g6.enc.blw _ 0), trivial⟩) ((g5 .i64).blws 0) ?_
     refine a3u (a9h (ps := wrS nd) (a := (a : Int)) (all := (lvI g i).foldl (wkP a) s) (oc := oc) (oa := oa) (va := 0) (fun p hp => by rw [hl1, hsl]; exact hwrR p hp) (Nat.le_trans (b4U nd) zO)) hS rfl b4T rfl (by rw [hl1]; exact Spl.cons Pk.here (Spl.cons Pk.here Spl.nil)) (fun v S L' hL hS => ?_)
     subst hL
     rw [hl1, hsl] at hS
     refine aU ?_
     refine v8 hS rfl (.tail _ (.tail _ (.head _))) (v := .int .u8 nd.Op) rfl ?_
     refine aU ?_
     have hl2 := a3A (a : Int) (wrS nd) ((lvI g i).foldl (wkP a) s)
     have hic : a3H g i = (nd.Op == 11 || nd.Op == 13) := by unfold a3H; rw [hnd1]
     have e3 : w.drop (a + 1) = w.drop (a + 1) := rfl
     generalize ha2 : (wrS nd).foldl (wkP (a : Int)) ((lvI g i).foldl (wkP a) s) = a2 at hS hl2
     have hnode : b0t g a s i = if a3H g i = true then (bhI g i).foldl (b2j (wrS nd)) a2 else a2 := by unfold b0t; simp only [hwr, ha2]
     have hlen2 : a2.length = g.Kinds.length := by rw [hl2, hl1, hsl]
     replace hI : a5n g (a + 1) (w.drop (a + 1)) (b0t g a s i) = b0C g := hI
     replace hS : Sep S ((oc, 0, [.ref oa 0 0 g.Kinds.length (some 4)]) :: (oa, 0, flat b6.av a2) :: (o16, 0, (g6.av nd).cells) :: R) := hS
     have hloop : ∀ (S1 : List Ob) (K : Post), Sep S1 ((oc, 0, [.ref oa 0 0 g.Kinds.length (some 4)]) :: (oa, 0, flat b6.av a2) :: (o16, 0, (g6.av nd).cells) :: R) ->
       (∀ fr' S', Wk S00 fr' S' [(6, .sl false 1 (List.map (avL 1 (avI .i64)) (inL g))), (8, .sl false 1 (List.map (avL 1 (avI .i64)) (b1j g))), (10, gR g), (11, .ptr oc 0 0), (13, .fn (.func 30) [] [.ptr oc 0 0]), (15, .int .i64 (i : Int)), (16, .ptr o16 0 0), (68, .sl false 1 (List.map (avI .i64) (a1l g))), (70, .int .i64 (a : Int)), (69, .int .i64 ((a1l g).length : Int))] S' -> Sep S' ((oc, 0, [.ref oa 0 0 g.Kinds.length (some 4)]) :: (oa, 0, flat b6.av ((bhI g i).foldl (b2j (wrS nd)) a2)) :: (o16, 0, (g6.av nd).cells) :: R) -> K .normal fr' S') ->
       VT Tryd.prog S00 [11, 16, 43] c0W [(6, .sl false 1 (List.map (avL 1 (avI .i64)) (inL g))), (8, .sl false 1 (List.map (avL 1 (avI .i64)) (b1j g))), (10, gR g), (11, .ptr oc 0 0), (13, .fn (.func 30) [] [.ptr oc 0 0]), (15, .int .i64 (i : Int)), (16, .ptr o16 0 0), (68, .sl false 1 (List.map (avI .i64) (a1l g))), (70, .int .i64 (a : Int)), (69, .int .i64 ((a1l g).length : Int))] S1 K := by
      intro S1 K hS1 hK
      refine aU ?_
      refine j7 rfl rfl hout ?_
      refine oP (.sl false 1 ((bhI g i).map (avI .i64))) ?_
      refine aU ?_
      have hbl : (bhI g i).length <= g.Kinds.length := a9l
      refine a3c (bhI g i).length (fun _ : List b6 => [(6, .sl false 1 (List.map (avL 1 (avI .i64)) (inL g))), (8, .sl false 1 (List.map (avL 1 (avI .i64)) (b1j g))), (10, gR g), (11, .ptr oc 0 0), (13, .fn (.func 30) [] [.ptr oc 0 0]), (15, .int .i64 (i : Int)), (16, .ptr o16 0 0), (68, .sl false 1 (List.map (avI .i64) (a1l g))), (70, .int .i64 (a : Int)), (69, .int .i64 ((a1l g).length : Int)), (105, .sl false 1 (List.map (avI .i64) (bhI g i)))]) (fun s => (oc, 0, [.ref oa 0 0 g.Kinds.length (some 4)]) :: (oa, 0, flat b6.av s) :: (o16, 0, (g6.av nd).cells) :: R)
       (fun k s => s.length = g.Kinds.length /\ ((bhI g i).drop k).foldl (b2j (wrS nd)) s = (bhI g i).foldl (b2j (wrS nd)) a2) a2 hS1 ⟨hlen2, rfl⟩ wF zO zD zD (fun _ => ⟨rfl, rfl, rfl, rfl⟩) (fun k s S hk hI hS => ?_) (fun s fr' S hI hS hw => ?_)
      ·obtain ⟨hsl, hI⟩ := hI
       obtain ⟨p, hp⟩ : ∃ p, (bhI g i)[k]? = some p := ⟨(bhI g i)[k], List.getElem?_eq_getElem hk⟩
       obtain ⟨hp0, hp1⟩ := a6F p (List.mem_of_getElem? hp)
       obtain ⟨x, hx⟩ : ∃ x, s[p.toNat]? = some x := ⟨s[p.toNat]'zO, List.getElem?_eq_getElem _⟩
       rw [a2Y hp, List.foldl_cons] at hI
       refine aU ?_
       refine j7 rfl rfl (a6g hp) ?_
       refine oP (.int .i64 p) ?_
       refine aU ?_
       refine v8 hS rfl (.tail _ (.tail _ (.head _))) (v := g6.av nd) rfl ?_
       refine j4 (a4j (b7K nd)) rfl ⟨(.refl _), trivial⟩ (i6 ⟨(g6.enc.blw _ 0), trivial⟩) ((g5 .i64).blws 0) ?_
       refine aU ?_
       refine j4 (a2G (a6e (wrS nd) p (by have := b4U nd; omega))) rfl ⟨(.refl _), (.refl _), trivial⟩ (i6 ⟨((g5 .i64).blws 0), rfl, trivial⟩) rfl ?_
       refine aU ?_
       by_cases hmem : p ∈ wrS nd
       ·refine a9S (by simp [ev, Fr.get, hmem]) ?_
        refine aU ?_
        refine R_n s ⟨hsl, by rw [show b2j (wrS nd) s p = s from if_pos hmem] at hI; exact hI⟩ hS wF
       ·refine a9x (by simp [ev, Fr.get, hmem]) ?_
        refine aU ?_
        refine v8 hS rfl (.head _) rfl ?_
        refine aU ?_
        refine n7 rfl rfl ⟨by omega, by omega⟩ ?_
        refine aU ?_
        refine a4K (l := s) hS b6.enc rfl zC (n := p.toNat) (fo := 3) (y := x) (y' := a9j x) (by simp [g8]) hx (by first | exact Rp.here | (repeat (first | exact Rp.here | apply Rp.there | apply Rp.skip))) rfl rfl (by simp [g8]) rfl (fun S hS => ?_)
        refine aU ?_
        have hh : b2j (wrS nd) s p = s.set p.toNat (a9j x) := by unfold b2j; rw [if_neg hmem, a8s hx]
        rw [hh] at hI
        exact R_n (s.set p.toNat (a9j x)) ⟨by simp [hsl], hI⟩ hS wF
      ·obtain ⟨hsl, hI⟩ := hI
       rw [List.drop_length] at hI
       have hI : s = (bhI g i).foldl (b2j (wrS nd)) a2 := hI
       rw [hI] at hS
       exact hK _ _ (a6x hw wF) hS
     have hfin : a3H g i = true -> ∀ fr' S', Wk S00 fr' S' [(6, .sl false 1 (List.map (avL 1 (avI .i64)) (inL g))), (8, .sl false 1 (List.map (avL 1 (avI .i64)) (b1j g))), (10, gR g), (11, .ptr oc 0 0), (13, .fn (.func 30) [] [.ptr oc 0 0]), (15, .int .i64 (i : Int)), (16, .ptr o16 0 0), (68, .sl false 1 (List.map (avI .i64) (a1l g))), (70, .int .i64 (a : Int)), (69, .int .i64 ((a1l g).length : Int))] S' -> Sep S' ((oc, 0, [.ref oa 0 0 g.Kinds.length (some 4)]) :: (oa, 0, flat b6.av ((bhI g i).foldl (b2j (wrS nd)) a2)) :: (o16, 0, (g6.av nd).cells) :: R) ->
       ∃ s', (List.length s' = g.Kinds.length /\ a5n g (a + 1) (w.drop (a + 1)) s' = b0C g) /\ Sep S' ((oc, 0, [.ref oa 0 0 g.Kinds.length (some 4)]) :: (oa, 0, flat b6.av s') :: R) /\ Wk S00 fr' S' ((70, .int .i64 (a : Int)) :: (69, .int .i64 ((a1l g).length : Int)) :: [(6, .sl false 1 (List.map (avL 1 (avI .i64)) (inL g))), (8, .sl false 1 (List.map (avL 1 (avI .i64)) (b1j g))), (10, gR g), (11, .ptr oc 0 0), (13, .fn (.func 30) [] [.ptr oc 0 0]), (68, .sl false 1 (List.map (avI .i64) (a1l g)))]) S' := fun hc fr' S' hw hS' =>
      ⟨_, ⟨by rw [a9k]; exact hlen2, by rw [hnode, if_pos hc] at hI; exact hI⟩, hS'.sub (.cons_cons _ (.cons_cons _ (List.sublist_cons_self _ _))), a6x hw wF⟩
     cases h11 : nd.Op != 11 with
     | false =>
       have h11' : nd.Op = 11 := by simpa using h11
       have hc : a3H g i = true := by rw [hic, h11']; rfl
       refine aU ?_
       refine a9S rfl (i7 (a3I wF (hloop _ _ hS (fun fr' S' hw hS' => ?_))))
       obtain ⟨s', q1, q2, q3⟩ := hfin hc fr' S' hw hS'
       exact R_n s' q1 q2 q3
     | true =>
       have h11' : nd.Op ≠ 11 := by simpa using h11
       refine aU ?_
       refine v8 hS rfl (.tail _ (.tail _ (.head _))) (v := .int .u8 nd.Op) rfl ?_
       refine aU ?_
       cases h13 : nd.Op != 13 with
       | false =>
         have h13' : nd.Op = 13 := by simpa using h13
         have hc : a3H g i = true := by rw [hic, h13']; rfl
         refine a9S rfl (i7 (a3I wF (hloop _ _ hS (fun fr' S' hw hS' => ?_))))
         obtain ⟨s', q1, q2, q3⟩ := hfin hc fr' S' hw hS'
         exact R_n s' q1 q2 q3
       | true =>
         have h13' : nd.Op ≠ 13 := by simpa using h13
         have hc : a3H g i = false := by rw [hic]; simp [h11', h13']
         refine a9x rfl (w8 ?_)
         refine a7N ?_
         rw [hnode, hc] at hI
         exact R_c a2 ⟨hlen2, hI⟩ (hS.sub (.cons_cons _ (.cons_cons _ (List.sublist_cons_self _ _)))) wF
    ·obtain ⟨hsl, hI⟩ := hI
     rw [<- hwl, List.drop_length] at hI
     have hI : s = b0C g := hI
     subst hI
     refine a3I hw ?_
     refine aU ?_
     refine v8 hS rfl zM rfl ?_
     refine a4S (b8L (all := b0C g) (oa := oa) (va := 0) zO) hS (by rw [hsl]; rfl) (Spl.cons (Pk.there Pk.here) Spl.nil) (fun v S L' hv hS => ?_)
     obtain ⟨j, rfl, rfl, hj1, hj2⟩ := hv
     refine aU ?_
     refine j5 ?_
     refine ⟨trivial, _, rfl, _, ⟨oa, j, rfl, rfl⟩, ?_⟩
     exact hS.sub (.cons_cons _ (List.sublist_cons_self _ _))
theorem b2w {g : b5} (hg : a1E g) (hK : g.Kinds.length <= 1024) (hN : g.Nodes.length <= 4096) (he0 : 0 <= g.Entry) (heN : g.Entry < g.Nodes.length) : ∃ w : List Nat, a1l g = w.map (fun (n : Nat) => (n : Int)) /\ w.Nodup /\ (∀ x ∈ w, x < g.Nodes.length) /\ w.length <= g.Nodes.length := by
 have hlo := a9f hg zO
 obtain ⟨w, hw1, hw2, hw3, _⟩ := hlo.w
 exact ⟨w, hw1, hw2, hw3, a4y _ _ hw2 hw3⟩
theorem b1z {g : b5} (hg : a1E g) (hp : a6n g) {w : List Nat} (hw1 : a1l g = w.map (fun (n : Nat) => (n : Int))) (hwl : w.length <= g.Nodes.length) {x : b6} (hx : x ∈ y7 g) : ∃ k : Nat, k < g.Kinds.length /\ x.Place = (k : Int) /\ (b0C g)[k]? = some x /\ EI g w k w.length x /\ 0 <= x.From /\ x.From <= x.To := by
 unfold y7 at hx
 obtain ⟨h1, h2⟩ := List.mem_filter.1 hx
 obtain ⟨k, hk, rfl⟩ := List.mem_iff_getElem.1 h1
 rw [a3B] at hk
 obtain ⟨y, hy, he⟩ := a7B hg hp hw1 hwl hk
 have : (b0C g)[k]'(by rw [a3B]; exact hk) = y := by rw [List.getElem?_eq_getElem (by rw [a3B]; exact hk)] at hy; exact Option.some.inj hy
 rw [this]
 rw [this] at h2
 have hto : 0 <= y.To := by unfold a6E at h2; simp at h2; exact h2
 refine ⟨k, hk, he.pl, hy, he, ?_⟩
 rcases he.ends with ⟨_, q⟩ | ⟨⟨a, i, p, q⟩, _⟩
 ·omega
 ·have := he.all a i q
  omega
theorem a5Q (g : b5) : (y7 g).length <= g.Kinds.length := by
 unfold y7
 rw [<- a3B g]
 exact List.length_filter_le _ _
theorem b7N {P : b6 -> b6 -> Prop} : ∀ (l : List b6), (∀ (i j : Nat) (x y : b6), i < j -> l[i]? = some x -> l[j]? = some y -> P x y) -> l.Pairwise P
 | [], _ => .nil
 | a :: l, h => by
   refine .cons (fun b hb => ?_) (b7N l fun i j x y hij hx hy => h (i + 1) (j + 1) x y zO (by simpa using hx) (by simpa using hy))
   obtain ⟨k, hk, rfl⟩ := List.mem_iff_getElem.1 hb
   exact h 0 (k + 1) a _ zO rfl zS
theorem b0z {g : b5} (hg : a1E g) (hp : a6n g) {w : List Nat} (hw1 : a1l g = w.map (fun (n : Nat) => (n : Int))) (hwl : w.length <= g.Nodes.length) : (y7 g).Pairwise fun x y => x.Place < y.Place := by
 unfold y7
 refine List.Pairwise.filter _ (b7N _ fun i j x y hij hx hy => ?_)
 have hi := (List.getElem?_eq_some_iff.1 hx).1
 have hj := (List.getElem?_eq_some_iff.1 hy).1
 rw [a3B] at hi hj
 obtain ⟨x', hx', ex⟩ := a7B hg hp hw1 hwl hi
 obtain ⟨y', hy', ey⟩ := a7B hg hp hw1 hwl hj
 rw [hx] at hx'; cases hx'
 rw [hy] at hy'; cases hy'
 rw [ex.pl, ey.pl]; omega
theorem AInv.s_le {K : List Int} {D : List b6} {c : Int} {h : List (Int × Int)} {S : Sc} {O : List Int} (H : AInv K D c h S O) : S.ks.length <= D.length /\ S.s0.length <= D.length /\ S.s1.length <= D.length := by
 have key : ∀ (l : List Int) (k : Int), l.Nodup -> (∀ p ∈ l, p ∉ pls h /\ ∃ i : Nat, p = 16 + (i : Int) /\ S.ks[i]? = some k) -> l.length <= S.ks.length := fun l k hn hl => by
  have := a6K (m := (List.range S.ks.length).map fun (i : Nat) => 16 + (i : Int)) hn (fun p hp => by
   obtain ⟨_, i, h1, h2⟩ := hl p hp
   exact List.mem_map.2 ⟨i, List.mem_range.2 (List.getElem?_eq_some_iff.1 h2).1, h1.symm⟩)
  simpa using this
 have := H.kl
 have h0 := key _ _ H.sn0 H.sk0
 have h1 := key _ _ H.sn1 H.sk1
 omega
theorem b1A {g : b5} (h : a3L g = true) (hp : ∀ k ∈ g.Kinds, 0 <= k) : ∀ k ∈ g.Kinds, k = 0 \/ k = 1 := by
 unfold a3L at h
 simp only [Bool.and_eq_true, Bool.not_eq_true'] at h
 intro k hk
 have h1 := h.2.1
 rw [List.any_eq_false] at h1
 have := h1 k hk
 have h0 := hp k hk
 simp only [decide_eq_true_eq] at this
 omega
theorem a9t {m : List b6} {i : Nat} {x : b6} (hx : m[i]? = some x) : m.take (i + 1) = m.take i ++ [x] /\ m.drop i = x :: m.drop (i + 1) := by
 obtain ⟨h1, rfl⟩ := List.getElem?_eq_some_iff.1 hx
 exact ⟨List.take_succ_eq_append_getElem h1, List.drop_eq_getElem_cons h1⟩
def b9I (K : List Int) (sp : List b6) (S : Sc) (O : List Int) : Prop := (∀ x ∈ sp, ¬ (x.Held = true /\ kd K x = 1)) -> (∀ x ∈ sp, (b5o sp x.From).length <= 6) -> S.ks = [] /\ ∀ p ∈ O, p <= 11
theorem AInv.next {K : List Int} {sp m : List b6} {h h' : List (Int × Int)} {S S' : Sc} {O : List Int} {x : b6} {p : Int} {i : Nat} (hmp : m.Perm sp) (hpl : sp.Pairwise fun x y => x.Place < y.Place) (hr : ∀ x ∈ sp, 0 <= x.Place /\ x.Place < K.length /\ x.From <= x.To)
  (hms : SrtR (fun (x : b6) => x.From) 0 m.length m) (hx : m[i]? = some x) (hk : kd K x = 0 \/ kd K x = 1) (H : AInv K (m.take i) x.From h S O) (hge : ∀ e ∈ h, x.From <= e.1) (T : b6Z x.Held (kd K x) S p S') (hh : h'.Perm (h ++ [(x.To, p)])) :
  AInv K (m.take (i + 1)) x.From h' S' (O.set x.Place.toNat p) /\ (∀ y ∈ m.drop (i + 1), x.From <= y.From) /\ (b9I K sp S O -> b9I K sp S' (O.set x.Place.toNat p)) := by
 obtain ⟨ht, hd⟩ := a9t hx
 have hil := (List.getElem?_eq_some_iff.1 hx).1
 have hxs : x ∈ sp := hmp.mem_iff.1 (List.mem_of_getElem? hx)
 have hnd : (m.map fun y => y.Place).Nodup := (hmp.map _).nodup_iff.2 (List.Pairwise.map _ (fun a b h => by omega) hpl)
 have hmx : m = m.take i ++ x :: m.drop (i + 1) := by rw [<- hd, List.take_append_drop]
 have hD : ∀ y ∈ m.take i, 0 <= y.Place /\ y.Place ≠ x.Place := fun y hy => by
  refine ⟨(hr y (hmp.mem_iff.1 (List.mem_of_mem_take hy))).1, fun e => ?_⟩
  rw [hmx, List.map_append, List.map_cons, List.nodup_append] at hnd
  exact hnd.2.2 _ (List.mem_map_of_mem hy) _ (.head _) e
 have hle : ∀ y ∈ m.take i, y.From <= x.From := fun y hy => by
  obtain ⟨j, hj, rfl⟩ := List.mem_iff_getElem.1 hy
  rw [List.length_take] at hj
  have hj2 : j < m.length := by omega
  refine hms j i _ x (Nat.zero_le _) zO hil ?_ hx
  rw [List.getElem_take]; exact List.getElem?_eq_getElem hj2
 have hx3 := hr x hxs
 refine ⟨?_, fun y hy => ?_, fun hroom n1 n2 => ?_⟩
 ·rw [ht]
  exact (H.take ⟨hx3.1, hx3.2.1⟩ hD hk T).perm (hh.trans (List.perm_append_singleton _ _))
 ·obtain ⟨j, hj, rfl⟩ := List.mem_iff_getElem.1 hy
  rw [List.length_drop] at hj
  refine hms i (i + 1 + j) x _ (Nat.zero_le _) zO zO hx ?_
  rw [List.getElem_drop]; exact List.getElem?_eq_getElem _
 ·obtain ⟨r1, r2⟩ := hroom n1 n2
  have hf := H.few hge hle
  have h6 := n2 x hxs
  have e1 : (b5o sp x.From).length = (b5o m x.From).length := by unfold b5o; exact ((hmp.filter _).length_eq).symm
  have e2 : (b5o (m.take i) x.From).length + 1 <= (b5o m x.From).length := by
   conv => rhs; rw [hmx]
   unfold b5o
   rw [List.filter_append, List.length_append, List.filter_cons, if_pos (by simp; exact hx3.2.2), List.length_cons]
   omega
  obtain ⟨q1, q2⟩ := H.room zO (n1 x hxs) T
  refine ⟨by rw [q1]; exact r1, fun q hq => ?_⟩
  rcases List.mem_or_eq_of_mem_set hq with hq | rfl
  ·exact r2 q hq
  ·exact q2
noncomputable def fc8 : FC := fcO 8
theorem fn8 : Fn3 Tryd.prog 8 117 [(4, none), (5, none)] fc8 := ⟨_, _, Tryd.func8, rfl, rfl, rfl, by kernel_rfl⟩

theorem b7b : b0v b6.av (fun x => x.From) := fun x y => by
 refine a6r ?_
 have e : ∀ z : Int, (z != z) = false := fun z => by simp
 unfold a2y a2g a2x c1q
 simp only [Option.bind_some, e, Bool.false_eq_true, if_false, decide_eq_true_eq]
 by_cases h1 : x.From < y.From
 ·rw [if_pos h1, if_pos h1]; rfl
 ·rw [if_neg h1, if_neg h1]
  by_cases h2 : x.From > y.From
  ·rw [if_pos h2, if_pos h2]; rfl
  ·rw [if_neg h2, if_neg h2]; rfl
section
variable {w : AV} {s vs : Nat} {S0 : Sc} {q : ScO} {p : Int}
theorem b7c (hf : S0.fr.length = 12) (hp : (∃ i : Nat, p = (i : Int) /\ i < 12) \/ ∃ (i : Nat) (k : Int), p = 16 + (i : Int) /\ S0.ks[i]? = some k /\ (k = 0 \/ k = 1)) (hl : S0.ks.length <= 1000000000) (h0 : S0.s0.length <= 1000000000) (h1 : S0.s1.length <= 1000000000) :
  Tri Tryd.prog 19 [.ptr s vs 0, .int .i64 p] (scL s vs w S0 q) (fun _ L' => ∃ q', L' = scL s vs w (a5P S0 p) q') := by
 obtain ⟨fs, ks, s0, s1⟩ := S0
 obtain ⟨ok, vk, o0, v0, o1, v1, j0, j1⟩ := q
 dsimp only at hf hl h0 h1 hp
 rcases hp with ⟨i, rfl, hi⟩ | ⟨i, k, rfl, hk, hk01⟩
 ·intro R S hS
  obtain ⟨r, S', e1, L', rfl, hS'⟩ := b5l (w := w) (s := s) (vs := vs) (tl := [.ref ok vk 0 ks.length none, .ref o0 v0 0 s0.length none, .ref o1 v1 0 s1.length none]) hf hi ((ok, vk, flat (avI .u8) ks) :: (o0, v0, flat (avI .i64) s0 ++ j0) :: (o1, v1, flat (avI .i64) s1 ++ j1) :: R) S hS
  refine ⟨r, S', e1, _, ⟨⟨ok, vk, o0, v0, o1, v1, j0, j1⟩, rfl⟩, ?_⟩
  unfold a5P
  rw [if_pos zO, Int.toNat_natCast]
  exact hS'
 ·refine (b5m (w := w) (s := s) (vs := vs) (ok := ok) (vk := vk) (o0 := o0) (v0 := v0) (o1 := o1) (v1 := v1) (j0 := j0) (j1 := j1) hf rfl hk hk01 hl h0 h1).mono ?_
  rintro r L' ⟨s0', s1', j0', j1', v0', v1', rfl, rfl, rfl⟩
  refine ⟨⟨ok, vk, o0, v0', o1, v1', j0', j1'⟩, ?_⟩
  have e : ((16 + (i : Int)) - 16).toNat = i := by omega
  have e2 : a5P ⟨fs, ks, s0, s1⟩ (16 + (i : Int)) = if ks[i]? = some 0 then ⟨fs, ks, s0 ++ [16 + (i : Int)], s1⟩ else ⟨fs, ks, s0, s1 ++ [16 + (i : Int)]⟩ := by
   unfold a5P
   rw [if_neg zO]
   simp only [e]
  rw [e2, hk]
  rcases hk01 with rfl | rfl
  ·simp [scL]
  ·simp [scL]
end
theorem b9m {α : Type} {A B : List α} {a b : α} : (A ++ a :: b :: B).Perm (b :: (A ++ a :: B)) := by
 have := List.perm_middle (l₁ := A ++ [a]) (l₂ := B) (a := b)
 simpa using this
structure ASt where
 h : List (Int × Int)
 S : Sc
 O : List Int
 q : ScO
 v : Nat
 jj : List AV
abbrev c1U (s o oo osp : Nat) (m : List b6) (j : List AV) (R : List It) (z : ASt) : List It :=
 scL s 0 (.ref o z.v 0 z.h.length (some 2)) z.S z.q ++ ((o, z.v, flat sbz z.h ++ z.jj) :: (oo, 0, flat (avI .i64) z.O) :: (osp, 0, flat b6.av m ++ j) :: R)
def b9J (K : List Int) (sp : List b6) (O : List Int) : Prop := ∃ (m : List b6) (c : Int) (h : List (Int × Int)) (S : Sc), m.Perm sp /\ AInv K m c h S O /\ b9I K sp S O
def c1w (G : f7) (f : Int) (r : AV) (L' : List It) : Prop :=
 if a1h G = true then (match o6 G.Funcs f with
  | some g => ∃ oo O, r = .tup [.ref oo 0 0 O.length none, .int .i64 0] /\ L' = [(oo, 0, flat (avI .i64) O)] /\ b9J g.Kinds (y7 g) O
  | none => r = .tup [.nils, .int .i64 2] /\ L' = [])
 else r = .tup [.nils, .int .i64 70] /\ L' = []
theorem a5R (G : f7) (f : Int) (hpos : ∀ g ∈ G.Funcs, ∀ k ∈ g.Kinds, 0 <= k) : Tri Tryd.prog 8 [f7.av G, .int .i64 f] [] (c1w G f) := by
 unfold c1w
 have hsp := b5q G f
 unfold b5p at hsp
 refine a0n mixed fn8 zS [13, 27, 44] (fun R S hS => ?_)
 rw [List.nil_append] at hS
 refine d9 (b8 ?_)
 refine oP (.cptr (f7.av G).cells 0) ?_
 refine aU ?_
 refine a4S hsp hS rfl Spl.nil (fun r S L' hL hS => ?_)
 by_cases hR : a1h G = true
 case neg =>
  simp only [if_neg hR] at hL ⊢
  obtain ⟨rfl, rfl⟩ := hL
  refine aU ?_
  refine a9x rfl ?_
  refine aU ?_
  refine j5 ?_
  refine aE ?_
  exact ⟨trivial, _, rfl, _, ⟨rfl, rfl⟩, hS⟩
 simp only [if_pos hR] at hL ⊢
 cases hgf : o6 G.Funcs f with
 | none =>
   simp only [hgf] at hL ⊢
   obtain ⟨rfl, rfl⟩ := hL
   refine aU ?_
   refine a9x rfl ?_
   refine aU ?_
   refine j5 ?_
   refine aE ?_
   exact ⟨trivial, _, rfl, _, ⟨rfl, rfl⟩, hS⟩
 | some g =>
   simp only [hgf] at hL ⊢
   obtain ⟨osp, j, rfl, rfl⟩ := hL
   refine aU ?_
   obtain ⟨h0, h1, h2⟩ := i8 hgf
   obtain ⟨hg, hhd, hnd⟩ := a3z hR g (List.mem_of_getElem? h2)
   obtain ⟨hK, hp4, hpar, hn1, hN, he0, heN⟩ := a0d hhd
   have hspl : (y7 g).length <= 1024 := Nat.le_trans (a5Q g) hK
   obtain ⟨w, hw1, hw2, hw3, hwl⟩ := b2w hg hK hN he0 heN
   have hmem := fun {x : b6} (hx : x ∈ y7 g) => b1z hg hpar hw1 hwl hx
   have hplc := b0z hg hpar hw1 hwl
   have hkinds : ∀ k ∈ g.Kinds, k = 0 \/ k = 1 := b1A hhd (hpos g (List.mem_of_getElem? h2))
   refine a9S rfl ?_
   refine aU ?_
   refine a4S (b6V (l := y7 g) (o := osp) (v := 0) (j := j) b6.enc b7b zO) hS rfl (Spl.cons Pk.here Spl.nil) (fun r S L' hL hS => ?_)
   obtain ⟨m, hmp, hms, rfl⟩ := hL
   have hml := hmp.length_eq
   rw [<- hml]
   refine aU ?_
   refine b8r hS rfl rfl rfl (fun s S hS => ?_)
   refine aS ?_
   refine b7 ?_
   refine b4h 0 (some 2) (Lf := fun o' => (s, 0, [.ref o' 0 0 0 (some 2), .bool false, .bool false, .bool false, .bool false, .bool false, .bool false, .bool false, .bool false, .bool false, .bool false, .bool false, .bool false, .nils, .nils, .nils]) :: [(osp, 0, flat b6.av m ++ j)].append R) hS (fun o' => Rp.here) rfl (fun o S hS => ?_)
   refine aQ ?_
   refine aS ?_
   refine b7 ?_
   refine b4h 13 none (Lf := fun o' => (o, 0, []) :: (s, 0, [.ref o 0 0 0 (some 2), .bool false, .bool false, .bool false, .bool false, .bool false, .bool false, .bool false, .bool false, .bool false, .bool false, .bool false, .bool false, .ref o' 0 0 0 none, .nils, .nils]) :: [(osp, 0, flat b6.av m ++ j)].append R) hS (fun o' => Rp.there Rp.here) rfl (fun ok S hS => ?_)
   refine aQ ?_
   refine k7 (a0h (σ := Nat × List Bool) (fun i => [(1, .int .i64 f), (2, .cptr (f7.av G).cells 0), (6, .ref osp 0 0 m.length (some 4)), (8, .ptr s 0 0), (28, .int .i64 (i.1 : Int))])
    (fun i => (ok, 0, []) :: (o, 0, []) :: (s, 0, .ref o 0 0 0 (some 2) :: (i.2.map AV.bool ++ [.ref ok 0 0 0 none, .nils, .nils])) :: (osp, 0, flat b6.av m ++ j) :: R) (fun i => i.1 <= 12 /\ i.2.length = 12 /\ ∀ k, k < i.1 -> i.2[k]? = some true) (fun i => 12 - i.1) (0, List.replicate 12 false) hS ⟨Nat.zero_le _, rfl, fun k hk => absurd hk (Nat.not_lt_zero k)⟩
    wF (fun z S hI hS => ?_))
   obtain ⟨i, fs⟩ := z
   obtain ⟨i1, hfl, hft⟩ := hI
   dsimp only at i1 hfl hft hS
   refine aU ?_
   refine a1i rfl (fun hb => ?_) (fun hb => ?_)
   ·have hlt : i < 12 := by simp only [decide_eq_true_eq] at hb; omega
    refine aU ?_
    refine k7 ?_
    refine aU ?_
    refine b2v rfl rfl i rfl hlt ?_
    have hspl2 : splice (AV.ref o 0 0 0 (some 2) :: (fs.map AV.bool ++ [.ref ok 0 0 0 none, .nils, .nils])) (0 + 1 + i * g8 none) [AV.bool true] = AV.ref o 0 0 0 (some 2) :: ((fs.set i true).map AV.bool ++ [.ref ok 0 0 0 none, .nils, .nils]) := by
     simp [splice, g8, show 0 + 1 + i = i + 1 by omega, List.set_cons_succ, List.set_append_left, hfl, hlt, List.map_set]
    refine E_stS hS rfl zC (xv := .bool true) (L' := (ok, 0, []) :: (o, 0, []) :: (s, 0, AV.ref o 0 0 0 (some 2) :: ((fs.set i true).map AV.bool ++ [.ref ok 0 0 0 none, .nils, .nils])) :: (osp, 0, flat b6.av m ++ j) :: R) (by rw [<- hspl2]; exact Rp.there (Rp.there Rp.here)) rfl rfl (by simp [g8, hfl]; omega) (fun S hS => ?_)
    refine aU ?_
    refine a0m ?_
    refine aU ?_
    refine ⟨(i + 1, fs.set i true), ⟨by simp only; omega, by simp [hfl], fun k hk => ?_⟩, by simp only; omega, hS, a0B ⟨.refl _, .refl _, .refl _, .refl _, a3P (a6q zO), trivial⟩⟩
    simp only at hk ⊢
    by_cases e : i = k
    ·subst e; rw [List.getElem?_set_self zO]
    ·rw [List.getElem?_set_ne e]; exact hft k zO
   have hi12 : i = 12 := by simp only [decide_eq_false_iff_not] at hb; omega
   have hfs : fs = List.replicate 12 true := by
    apply List.ext_getElem?
    intro k
    by_cases hk : k < 12
    ·rw [hft k zO, List.getElem?_replicate, if_pos hk]
    ·rw [List.getElem?_eq_none zO, List.getElem?_eq_none zE]
   subst hfs
   clear hft hfl
   refine w8 ?_
   refine aE ?_
   refine b4h 14 none (Lf := fun o' => (ok, 0, []) :: (o, 0, []) :: (s, 0, AV.ref o 0 0 0 (some 2) :: ((List.replicate 12 true).map AV.bool ++ [.ref ok 0 0 0 none, .ref o' 0 0 0 none, .nils])) :: (osp, 0, flat b6.av m ++ j) :: R) hS (fun o' => Rp.there (Rp.there Rp.here)) rfl (fun o0 S hS => ?_)
   refine aQ ?_
   refine aS ?_
   refine j7 rfl rfl hgf ?_
   refine oP (.cptr (b5.av g).cells 1) ?_
   refine oP (.sl false 1 (g.Kinds.map (avI .u8))) ?_
   refine n5 (f := avI .u8) (ys := g.Kinds) rfl ?_
   refine b2M (f := avI .i64) (x := 0) (n := (g.Kinds.length : Int)) (n' := (g.Kinds.length : Int)) hS (g5 .i64) rfl rfl rfl rfl ⟨by omega, by omega, by omega, by omega⟩ (fun oo S hS => ?_)
   simp only [Int.toNat_natCast] at hS ⊢
   refine aS ?_
   refine b7 ?_
   refine b4h 15 none (Lf := fun o' => (oo, 0, flat (avI .i64) (List.replicate g.Kinds.length 0)) :: (o0, 0, []) :: (ok, 0, []) :: (o, 0, []) :: (s, 0, AV.ref o 0 0 0 (some 2) :: ((List.replicate 12 true).map AV.bool ++ [.ref ok 0 0 0 none, .ref o0 0 0 0 none, .ref o' 0 0 0 none])) :: (osp, 0, flat b6.av m ++ j) :: R) hS (fun o' => Rp.there (Rp.there (Rp.there (Rp.there Rp.here)))) rfl (fun oS S hS => ?_)
   refine aQ ?_
   refine aS ?_
   refine b7 ?_
   refine f5 ?_
   refine aQ ?_
   refine a3c g.Kinds.length (fun _ : List Int => [(1, .int .i64 f), (2, .cptr (f7.av G).cells 0), (6, .ref osp 0 0 m.length (some 4)), (8, .ptr s 0 0), (10, .ref oo 0 0 g.Kinds.length none)]) (fun O => (oS, 0, []) :: (oo, 0, flat (avI .i64) O) :: (o0, 0, []) :: (ok, 0, []) :: (o, 0, []) :: (s, 0, AV.ref o 0 0 0 (some 2) :: ((List.replicate 12 true).map AV.bool ++ [.ref ok 0 0 0 none, .ref o0 0 0 0 none, .ref oS 0 0 0 none])) :: (osp, 0, flat b6.av m ++ j) :: R)
    (fun i O => O.length = g.Kinds.length /\ ∀ k, k < i -> O[k]? = some (-1)) (List.replicate g.Kinds.length 0) hS ⟨by simp, fun k hk => absurd hk (Nat.not_lt_zero k)⟩ wF zO zD zD (fun _ => ⟨rfl, rfl, rfl, rfl⟩) (fun i O S hi hI hS => ?_) (fun O fr' S hI hS hw => ?_)
   ·obtain ⟨hol, hI⟩ := hI
    obtain ⟨x, hx⟩ : ∃ x, O[i]? = some x := ⟨O[i]'zO, List.getElem?_eq_getElem _⟩
    refine aU ?_
    refine n7 rfl rfl ⟨by omega, by omega⟩ ?_
    refine a4K (l := O) hS (g5 .i64) rfl zC (n := i) (fo := 0) (y := x) (y' := -1) (by simp [g8]) hx (.there .here) rfl rfl (by simp [g8]) rfl (fun S hS => ?_)
    refine aU ?_
    refine R_n (O.set i (-1)) ⟨by simp [hol], fun k hk => ?_⟩ hS wF
    by_cases e : i = k
    ·subst e; rw [List.getElem?_set_self zO]
    ·rw [List.getElem?_set_ne e]; exact hI k zO
   obtain ⟨hol, hI⟩ := hI
   have hO : O = List.replicate g.Kinds.length (-1) := by
    apply List.ext_getElem?
    intro k
    by_cases hk : k < g.Kinds.length
    ·rw [hI k hk, List.getElem?_replicate, if_pos hk]
    ·rw [List.getElem?_eq_none zO, List.getElem?_eq_none zE]
   subst hO
   refine a3I hw ?_
   refine aQ ?_
   refine aS ?_
   refine b7 ?_
   refine f5 ?_
   refine aQ ?_
   have hS2 := hS.spl (L1 := [(s, 0, AV.ref o 0 0 0 (some 2) :: ((List.replicate 12 true).map AV.bool ++ [.ref ok 0 0 0 none, .ref o0 0 0 0 none, .ref oS 0 0 0 none])), (ok, 0, flat (avI .u8) []), (o0, 0, flat (avI .i64) [] ++ []), (oS, 0, flat (avI .i64) [] ++ []), (o, 0, flat sbz [] ++ []), (oo, 0, flat (avI .i64) (List.replicate g.Kinds.length (-1))), (osp, 0, flat b6.av m ++ j)]) (R := R) (by repeat (first | exact Spl.nil | refine Spl.cons (by repeat (first | exact Pk.here | apply Pk.there | apply Pk.skip)) ?_ | refine Spl.app (by repeat (first | exact PkC.here | apply PkC.there | apply PkC.skip)) ?_))
   clear hS
   refine a3c m.length (fun _ : ASt => [(1, .int .i64 f), (2, .cptr (f7.av G).cells 0), (8, .ptr s 0 0), (10, .ref oo 0 0 g.Kinds.length none), (54, .ref osp 0 0 m.length (some 4))]) (fun z => c1U s o oo osp m j R z)
    (fun i z => z.h.length <= i /\ HpI toK z.h.length z.h /\ ∃ c, AInv g.Kinds (m.take i) c z.h z.S z.O /\ (∀ x ∈ m.drop i, c <= x.From) /\ b9I g.Kinds (y7 g) z.S z.O)
    ⟨[], ⟨List.replicate 12 true, [], [], []⟩, List.replicate g.Kinds.length (-1), ⟨ok, 0, o0, 0, oS, 0, [], []⟩, 0, []⟩ hS2 ⟨Nat.le_refl _, fun c x y h1 h2 => absurd h2 (Nat.not_lt_zero c), 0, .init, fun x hx => (hmem (hmp.mem_iff.1 (by simpa using hx))).choose_spec.2.2.2.2.1, fun _ _ => ⟨rfl, fun p hp => by have := List.eq_of_mem_replicate hp; omega⟩⟩ wF zO zD zD (fun _ => ⟨rfl, rfl, rfl, rfl⟩) (fun i z S hi hI hS => ?_) (fun z fr' S hI hS hw => ?_)
   ·obtain ⟨i1, hH, c, hA, hcm, hroom⟩ := hI
    obtain ⟨x, hx⟩ : ∃ x, m[i]? = some x := ⟨m[i], List.getElem?_eq_getElem hi⟩
    obtain ⟨ht1, hd1⟩ := a9t hx
    have hxs : x ∈ y7 g := hmp.mem_iff.1 (List.mem_of_getElem? hx)
    obtain ⟨k, hkK, hkp, _, _, hx0, hxt⟩ := hmem hxs
    have hcx : c <= x.From := hcm x (by rw [hd1]; exact .head _)
    replace hA := hA.cut hcx
    obtain ⟨kx, hkx⟩ : ∃ kx, g.Kinds[k]? = some kx := ⟨g.Kinds[k], List.getElem?_eq_getElem hkK⟩
    have hkd : kd g.Kinds x = kx := by unfold kd; rw [hkp, Int.toNat_natCast, List.getD_eq_getElem?_getD, hkx]; rfl
    have hk01 := hkinds kx (List.mem_of_getElem? hkx)
    refine aU ?_
    refine n7 rfl rfl ⟨by omega, by omega⟩ ?_
    refine a1u hS b6.enc rfl (.tail _ (.tail _ (.tail _ (.tail _ (.tail _ (.tail _ (.head _))))))) (n := i) (fo := 0) (y := x) (by simp [g8]) hx rfl ?_
    refine b1d hS rfl (fun o13 S hS => ?_)
    refine E_stS hS rfl rfl (xv := b6.av x) Rp.here rfl rfl (by first | exact Nat.le_of_ble_eq_true rfl | (simp; omega) | omega) (fun S hS => ?_)
    replace hS : Ab.Sep S ((o13, 0, (b6.av x).cells) :: c1U s o oo osp m j R z) := hS
    refine b7 ?_
    refine f5 ?_
    refine aQ ?_
    refine b4k (σ := ASt) (fun z => [(1, .int .i64 f), (2, .cptr (f7.av G).cells 0), (8, .ptr s 0 0), (10, .ref oo 0 0 g.Kinds.length none), (13, .ptr o13 0 0), (54, .ref osp 0 0 m.length (some 4)), (55, .int .i64 m.length), (56, .int .i64 i)]) (fun z => (o13, 0, (b6.av x).cells) :: c1U s o oo osp m j R z)
     (fun z => z.h.length <= i /\ HpI toK z.h.length z.h /\ AInv g.Kinds (m.take i) x.From z.h z.S z.O /\ (∀ e ∈ z.h, x.From <= e.1) /\ b9I g.Kinds (y7 g) z.S z.O) ?_ (fun z Sx hI hSx => ?_)
    ·refine k7 (a0h (σ := ASt) (fun z => [(1, .int .i64 f), (2, .cptr (f7.av G).cells 0), (8, .ptr s 0 0), (10, .ref oo 0 0 g.Kinds.length none), (13, .ptr o13 0 0), (54, .ref osp 0 0 m.length (some 4)), (55, .int .i64 m.length), (56, .int .i64 i)]) (fun z => (o13, 0, (b6.av x).cells) :: c1U s o oo osp m j R z)
      (fun z => z.h.length <= i /\ HpI toK z.h.length z.h /\ AInv g.Kinds (m.take i) x.From z.h z.S z.O /\ b9I g.Kinds (y7 g) z.S z.O) (fun z => z.h.length) z hS ⟨i1, hH, hA, hroom⟩
      wF (fun z Sx hI hSx => ?_))
     obtain ⟨h, S0, O, q, v, jj⟩ := z
     obtain ⟨i1, hH, hA, hroom⟩ := hI
     dsimp only at i1 hH hA hroom hSx
     refine aU ?_
     refine v8 hSx rfl (.tail _ (.head _)) (v := .ref o v 0 h.length (some 2)) rfl ?_
     refine aU ?_
     refine a7P (b := decide ((h.length : Int) > 0)) rfl rfl rfl (fun hb => ?_) (fun hb => ?_)
     ·obtain ⟨e, h0, rfl⟩ : ∃ e h0, h = e :: h0 := by
       cases h with
       | nil => simp at hb
       | cons e h0 => exact ⟨e, h0, rfl⟩
      refine aU ?_
      refine v8 hSx rfl (.tail _ (.head _)) (v := .ref o v 0 (e :: h0).length (some 2)) rfl ?_
      refine aU ?_
      refine z6 rfl rfl 0 rfl zS ?_
      refine aU ?_
      refine a1u hSx a9q rfl (.tail _ (.tail _ (.tail _ (.tail _ (.tail _ (.head _)))))) (n := 0) (fo := 0) (y := e) (by simp [g8]) rfl (v := .int .i64 e.1) rfl ?_
      refine aU ?_
      refine v8 hSx rfl (.head _) (v := .int .i64 x.From) rfl ?_
      refine aU ?_
      refine a1i rfl (fun hb => ?_) (fun hb => ?_)
      ·have hlt : e.1 < x.From := by simpa using hb
       refine aU ?_
       refine k7 ?_
       refine aU ?_
       refine a4S (b1x (h := e :: h0) (n := h0.length) (s := s) (vs := 0) (o := o) (v := v) (rest := S0.fr.map AV.bool ++ [AV.ref q.ok q.vk 0 S0.ks.length none, AV.ref q.o0 q.v0 0 S0.s0.length none, AV.ref q.o1 q.v1 0 S0.s1.length none]) (jj := jj) zO rfl hH) hSx rfl
        (Spl.cons (Pk.there Pk.here) (Spl.cons (Pk.there (Pk.there (Pk.there (Pk.there Pk.here)))) Spl.nil)) (fun r Sy L' hL hSy => ?_)
       obtain ⟨x1, h', jj', rfl, hp1, hleast, hH', rfl⟩ := hL
       have hp2 : (x1 :: h').Perm (e :: h0) := (List.perm_append_singleton x1 h').symm.trans hp1
       have hA1 := hA.perm hp2
       have hle := hleast 0 e zS rfl
       have hx1 : x1.1 < x.From := Int.lt_of_le_of_lt hle hlt
       obtain ⟨b1, b2, b3⟩ := hA.s_le
       have b4 : (m.take i).length <= 1024 := by rw [List.length_take]; omega
       have hh0 : h'.length = h0.length := by have := hp2.length_eq; simpa using this
       have hh' : h'.length + 1 <= i := by simp only [List.length_cons] at i1; omega
       refine aU ?_
       refine a4S (b7c (w := .ref o v 0 h'.length (some 2)) (s := s) (vs := 0) (S0 := S0) (q := q) (p := x1.2) hA.fl (hA1.place (t := x1.1) (p := x1.2) (.head _)) zO zO zO) hSy rfl
        (Spl.cons Pk.here (Spl.cons (Pk.there (Pk.there Pk.here)) (Spl.cons (Pk.there (Pk.there Pk.here)) (Spl.cons (Pk.there (Pk.there Pk.here)) Spl.nil)))) (fun r Sz L' hL hSz => ?_)
       obtain ⟨q', rfl⟩ := hL
       refine aU ?_
       refine a0m ?_
       refine aU ?_
       exact ⟨⟨h', a5P S0 x1.2, O, q', v, jj'⟩, ⟨by simp only; omega, hH', hA1.pop (t := x1.1) (p := x1.2) hx1, by
        intro n1 n2
        obtain ⟨r1, r2⟩ := hroom n1 n2
        refine ⟨?_, r2⟩
        unfold a5P
        split
        ·exact r1
        ·split <;> exact r1⟩, by simp only [List.length_cons]; omega, hSz.perm b9m, wF⟩
      ·refine w8 ?_
       refine aE ?_
       have hge : ¬ e.1 < x.From := by simpa using hb
       exact y4 ⟨⟨e :: h0, S0, O, q, v, jj⟩, ⟨i1, hH, hA, fun e' he' => by
        obtain ⟨t, ht, rfl⟩ := List.mem_iff_getElem.1 he'
        have := hH.least (Nat.le_refl _) (x := e) rfl t _ ht (List.getElem?_eq_getElem ht)
        exact Int.le_trans (Int.not_lt.1 hge) this, hroom⟩, hSx, wF⟩
     ·have hn0 : h = [] := by
       cases h with
       | nil => rfl
       | cons e h0 => simp at hb
      refine aU ?_
      refine a1i (t := false) rfl (fun hb => by cases hb) (fun _ => ?_)
      refine w8 ?_
      refine aE ?_
      exact y4 ⟨⟨h, S0, O, q, v, jj⟩, ⟨i1, hH, hA, fun e' he' => (by rw [hn0] at he'; exact absurd he' (List.not_mem_nil)), hroom⟩, hSx, wF⟩
    ·obtain ⟨h, S0, O, q, v, jj⟩ := z
     obtain ⟨i1, hH, hA, hge, hroom⟩ := hI
     dsimp only at i1 hH hA hge hroom hSx
     obtain ⟨b1, b2, b3⟩ := hA.s_le
     have b4 : (m.take i).length <= 1024 := by rw [List.length_take]; omega
     have hol := hA.ol
     refine aU ?_
     refine v8 hSx rfl (.head _) (v := b6.av x) rfl ?_
     refine aU ?_
     refine j7 rfl rfl hgf ?_
     refine aU ?_
     refine v8 hSx rfl (.head _) (v := .int .i64 x.Place) rfl ?_
     refine j7 rfl rfl (show o6 g.Kinds x.Place = some kx by rw [hkp, n8]; exact hkx) ?_
     refine oP (.int .u8 kx) ?_
     refine a4S (b5n (w := .ref o v 0 h.length (some 2)) (s := s) (vs := 0) (S0 := S0) (q := q) (k := kx) (pl := x.Place) (fm := x.From) (tt := x.To) (held := x.Held) hA.fl hk01 zO zO zO) hSx rfl
      (Spl.cons (Pk.there Pk.here) (Spl.cons (Pk.there Pk.here) (Spl.cons (Pk.there Pk.here) (Spl.cons (Pk.there Pk.here) Spl.nil)))) (fun r Sy L' hL hSy => ?_)
     obtain ⟨p, S1, q1, rfl, hT, rfl⟩ := hL
     refine aU ?_
     refine v8 hSy rfl (.tail _ (.tail _ (.tail _ (.tail _ (.head _))))) (v := .int .i64 x.Place) rfl ?_
     refine aU ?_
     obtain ⟨y0, hy0⟩ : ∃ y, O[k]? = some y := ⟨O[k]'zO, List.getElem?_eq_getElem _⟩
     refine z6 rfl rfl k hkp zO ?_
     refine a4K (l := O) hSy (g5 .i64) rfl zC (n := k) (fo := 0) (y := y0) (y' := p) (by simp [g8]) hy0 (.there (.there (.there (.there (.there (.there .here)))))) rfl rfl (by simp [g8]) rfl (fun Sy hSy => ?_)
     refine aU ?_
     refine v8 hSy rfl (.tail _ (.tail _ (.tail _ (.tail _ (.head _))))) (v := .int .i64 x.To) rfl ?_
     refine aU ?_
     refine a4S (b0x (h := h) (x := (x.To, p)) (s := s) (vs := 0) (o := o) (v := v) (rest := S1.fr.map AV.bool ++ [AV.ref q1.ok q1.vk 0 S1.ks.length none, AV.ref q1.o0 q1.v0 0 S1.s0.length none, AV.ref q1.o1 q1.v1 0 S1.s1.length none]) (jj := jj) zO hH) hSy rfl
      (Spl.cons Pk.here (Spl.cons (Pk.there (Pk.there (Pk.there (Pk.there Pk.here)))) Spl.nil)) (fun r Sz L' hL hSz => ?_)
     obtain ⟨h', hp', hH', rfl⟩ := hL
     have hkn : x.Place.toNat = k := by rw [hkp]; rfl
     obtain ⟨n1, n2, n3⟩ := AInv.next hmp hplc (fun y hy => by obtain ⟨ky, a1, a2, _, _, a3, a4⟩ := hmem hy; exact ⟨by omega, by omega, a4⟩) hms hx (by rw [hkd]; exact hk01) hA hge (by rw [hkd]; exact hT) hp'
     rw [hkn] at n1 n3
     have e0 : ((o, v + 1, flat sbz h') : It) = (o, v + 1, flat sbz h' ++ []) := by rw [List.append_nil]
     rw [e0] at hSz
     have hS2 := hSz.spl (L1 := [(s, 0, AV.ref o (v + 1) 0 h'.length (some 2) :: (S1.fr.map AV.bool ++ [AV.ref q1.ok q1.vk 0 S1.ks.length none, AV.ref q1.o0 q1.v0 0 S1.s0.length none, AV.ref q1.o1 q1.v1 0 S1.s1.length none])), (q1.ok, q1.vk, flat (avI .u8) S1.ks), (q1.o0, q1.v0, flat (avI .i64) S1.s0 ++ q1.j0), (q1.o1, q1.v1, flat (avI .i64) S1.s1 ++ q1.j1), (o, v + 1, flat sbz h' ++ []), (oo, 0, flat (avI .i64) (O.set k p)), (osp, 0, flat b6.av m ++ j)]) (R := (o13, 0, (b6.av x).cells) :: R) (by repeat (first | exact Spl.nil | refine Spl.cons (by repeat (first | exact Pk.here | apply Pk.there | apply Pk.skip)) ?_ | refine Spl.app (by repeat (first | exact PkC.here | apply PkC.there | apply PkC.skip)) ?_))
     have hl' : h'.length <= i + 1 := by have := hp'.length_eq; rw [List.length_append, List.length_singleton] at this; omega
     refine aU ?_
     replace hS2 := hS2.sub (List.Sublist.append_left (List.sublist_cons_self (o13, 0, (b6.av x).cells) R) _)
     exact R_n ⟨h', S1, O.set k p, q1, v + 1, []⟩ ⟨hl', hH', x.From, n1, n2, n3 hroom⟩ hS2 wF
   ·obtain ⟨h, S0, O, q, v, jj⟩ := z
    obtain ⟨i1, hH, c, hA, hcm, hroom⟩ := hI
    dsimp only at i1 hH hA hroom hS
    refine a3I hw ?_
    refine aU ?_
    refine j5 ?_
    refine aE ?_
    have hol := hA.ol
    rw [List.take_length] at hA
    have hS2 := hS.spl (L1 := [(oo, 0, flat (avI .i64) O)]) (R := (s, 0, _) :: _) (Spl.cons (Pk.there (Pk.there (Pk.there (Pk.there (Pk.there Pk.here))))) Spl.nil)
    refine ⟨trivial, _, rfl, _, ⟨oo, O, by rw [hol]; rfl, rfl, m, c, h, S0, hmp, hA, hroom⟩, ?_⟩
    refine hS2.sub (List.Sublist.append_left ?_ _)
    exact (List.sublist_append_right [_, _, _, _, _, _] R)
end Go.Proofs.YtepdcebjobjjgaaDoor

