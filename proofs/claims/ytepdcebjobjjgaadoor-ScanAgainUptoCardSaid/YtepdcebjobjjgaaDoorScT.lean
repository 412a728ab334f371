/- The first thing asked of scan.Assign. -/
import Derived.Test.YtepdcebjobjjgaaDoorGenF
import Derived.Test.YtepdcebjobjjgaaDoorGenS
import Derived.Test.YtepdcebjobjjgaaDoorWlK2
import Derived.Test.YtepdcebjobjjgaaDoorGenB
import Derived.WalkKit
import Derived.ProofKit
import Derived.OpenShut
import Derived.JoinedCond
import Derived.Test.YtepdcebjobjjgaaDoorWlTz
import Derived.Lib.LaidTab
import Derived.Deep.DeepHandedRow
set_option linter.unusedVariables false
set_option linter.unusedSimpArgs false
namespace Go.Proofs.YtepdcebjobjjgaaDoor
open Go Go.Ab
theorem a8h {g : b5} (hg : a2L g) (hp : a9j g) {w : List Nat} (hw1 : a1f g = w.map (fun (n : Nat) => (n : Int))) (hwl : w.length ≤ g.Nodes.length) {k a i : Nat} (hk : k < g.Kinds.length) (ha : w[a]? = some i) (ht : a9m g k i) : ∃ x ∈ a0q g, x.Place = (k : Int) ∧ x.From ≤ a ∧ (a : Int) ≤ x.To := by
 obtain ⟨x, hx, he⟩ := a8a hg hp hw1 hwl hk
 obtain ⟨h1, h2⟩ := he.all a i (.inl ⟨ha, (List.getElem?_eq_some_iff.1 ha).1, ht⟩)
 refine ⟨x, ?_, he.pl, h1, h2⟩
 unfold a0q
 refine List.mem_filter.2 ⟨List.mem_of_getElem? hx, ?_⟩
 unfold a8m
 simp; omega
def gF : b5 := b5.mk [] ([0]) 0 [] false (-1) ([(f8.mk 1 0 0 0 0 0 0 0 0 [] 1 0), (f8.mk 17 0 0 0 0 0 0 0 0 [] 2 0), (f8.mk 12 0 0 0 (-1) 0 0 0 0 [] 0 0)]) 0
theorem b3U : a1g (c9.mk [gF]) = true := by kernel_rfl
theorem b7S : x4 = some true := by
 have hpos : b6m (c9.mk [gF]) = true := by kernel_rfl
 have hgf : x9 (c9.mk [gF]).Funcs 0 = some gF := rfl
 obtain ⟨h0, h1, h2⟩ := j3 hgf
 obtain ⟨hg, hhd, hnd⟩ := a2M b3U gF (List.mem_of_getElem? h2)
 obtain ⟨hK, hp4, hpar, hn1, hN, he0, heN⟩ := a0r hhd
 obtain ⟨w, hw1, hw2, hw3, _, _, r, hw6⟩ := (a9Z hg (by omega : gF.Entry.toNat < gF.Nodes.length)).w
 have hwl := a4v _ _ hw2 hw3
 have ht : a9m gF 0 0 := by
  refine .inr ?_
  show (0 : Int) ∈ wrS (f8.mk 1 0 0 0 0 0 0 0 0 [] 1 0)
  rw [b0a]
  exact ⟨by simp [b1L], Int.le_refl _⟩
 obtain ⟨x, hx, hxp, _, _⟩ := a8h (k := 0) (a := 0) (i := 0) hg hpar hw1 hwl (show 0 < gF.Kinds.length by decide) (by rw [hw6]; rfl) ht
 obtain ⟨m, c, h, S, hmp, H, room⟩ := (a8g (a3A.1 hpos) b3U hgf).1
 have hol := H.ol
 have hkd : kd gF.Kinds x = 0 := by unfold kd; rw [hxp]; rfl
 have hall : ∀ y ∈ a0q gF, kd gF.Kinds y = 0 := fun y hy => by
  obtain ⟨k, hk, hkp, _⟩ := b3R hg hpar hw1 hwl hy
  have : k = 0 := by have : gF.Kinds.length = 1 := rfl; omega
  subst this
  unfold kd; rw [hkp]; rfl
 obtain ⟨_, r2⟩ := room (fun y hy h => by rw [hall y hy] at h; simp at h) (fun y hy => by
  have a1 : (b3O (a0q gF) y.From).length ≤ (a0q gF).length := List.length_filter_le _ _
  have a2 := a7l gF
  have : gF.Kinds.length = 1 := rfl
  omega)
 have e : x4 = some true := by
  unfold x4 a1E
  rw [show c9.mk [b5.mk [] ([0]) 0 [] false (-1) ([(f8.mk 1 0 0 0 0 0 0 0 0 [] 1 0), (f8.mk 17 0 0 0 0 0 0 0 0 [] 2 0), (f8.mk 12 0 0 0 (-1) 0 0 0 0 [] 0 0)]) 0] = c9.mk [gF] from rfl, if_pos hpos]
  have e0 : a9t (c9.mk [gF]) 0 = 0 := by unfold a9t; rw [if_pos b3U]; rfl
  generalize a2T (c9.mk [gF]) 0 = O at H room r2 hol
  match O, hol with
  | [p], _ =>
    have hp : plc [p] x = p := by unfold plc; rw [hxp]; rfl
    have hp1 := r2 p zS
    have hp0 : 0 ≤ p := by
     rcases H.pl x (hmp.mem_iff.2 hx) with ⟨i, q, _⟩ | ⟨i, q, _⟩ <;> (rw [hp] at q; omega)
    simp [jp, e0, x9, hp0, show p < 12 by omega]
 exact e
end Go.Proofs.YtepdcebjobjjgaaDoor

/- c9 are the same as themselves. -/
namespace Go.Proofs.YtepdcebjobjjgaaDoor
open Go Go.Ab
theorem a4y {σ β : Type} {body : Nat → σ → Option (Stp σ (Option β))} {n : Int} {s0 : σ} {F : σ → Option β} {r : Option β} (Inv : Nat → σ → Prop) (hl : n ≤ 4611686018427387904) (h0 : Inv 0 s0)
  (h : ∀ (i : Nat) s, (i : Int) < n → Inv i s → ∃ s', body i s = some (.nxt s') ∧ Inv (i + 1) s') (hF : ∀ s, Inv n.toNat s → F s = r) : (rni body n s0).bind (oc F) = r := by
 obtain ⟨o, e, s, rfl, hs⟩ := b2L (Q := fun o => ∃ s, o = .fin s ∧ Inv n.toNat s) Inv hl h0 (fun i s hx hI => .inl (h i s hx hI)) (fun s hs => ⟨s, rfl, hs⟩)
 rw [e]
 exact hF s hs
theorem a2O {l : List Int} (h : l.length ≤ 1000000000) : m9 l l = some true := by
 unfold m9
 rw [if_neg zS]
 refine a4y (fun _ s => s = l) zO rfl (fun i s hi hs => ?_) (fun s hs => rfl)
 subst hs
 have hx : x9 s (i : Int) = some s[i] := by rw [a6a zO zO]; simp
 exact ⟨s, by simp [hx], rfl⟩
theorem a6L {l : List Int} (h : l.length ≤ 1000000000) : s9 l l = some true := by
 unfold s9
 rw [if_neg zS]
 refine a4y (fun _ s => s = l) zO rfl (fun i s hi hs => ?_) (fun s hs => rfl)
 subst hs
 have hx : x9 s (i : Int) = some s[i] := by rw [a6a zO zO]; simp
 exact ⟨s, by simp [hx], rfl⟩
theorem a8i {n : f8} (h : n.Args.length ≤ 1000000000) : t9 n n = some true := by
 unfold t9
 simp [jp, a2O h]
theorem b3V {G : c9} (h0 : G.Funcs.length ≤ 1000000000) (h : ∀ g ∈ G.Funcs, (g.Params.length ≤ 1000000000 ∧ g.Kinds.length ≤ 1000000000 ∧ g.Init.length ≤ 1000000000 ∧ g.Nodes.length ≤ 1000000000) ∧ ∀ n ∈ g.Nodes, n.Args.length ≤ 1000000000) : y6 G G = some true := by
 unfold y6
 rw [if_neg zS]
 refine a4y (fun _ s => s = G) zO rfl (fun i s hi hs => ?_) (fun s hs => rfl)
 subst hs
 have hil : i < s.Funcs.length := by omega
 have hx : x9 s.Funcs (i : Int) = some s.Funcs[i] := by rw [a6a zO zO]; simp
 obtain ⟨⟨a1, a2, a3, a4⟩, a5⟩ := h s.Funcs[i] (List.getElem_mem hil)
 generalize s.Funcs[i] = g at hx a1 a2 a3 a4 a5
 refine ⟨s, ?_, rfl⟩
 simp only [hx, Option.bind_some, jp, a2O a1, a6L a2, a2O a3, Bool.not_true, Bool.false_eq_true, if_false, bne_self_eq_false, beq_self_eq_true]
 refine a4y (fun _ _ => True) zO trivial (fun k _ hk _ => ?_) (fun _ _ => rfl)
 have hkl : k < g.Nodes.length := by omega
 have hy : x9 g.Nodes (k : Int) = some g.Nodes[k] := by rw [a6a zO zO]; simp
 refine ⟨(), ?_, trivial⟩
 simp [hy, a8i (a5 _ (List.getElem_mem hkl))]
end Go.Proofs.YtepdcebjobjjgaaDoor

/- ScanAgain: the walk. -/
namespace Go.Proofs.YtepdcebjobjjgaaDoor
open Go Go.Ab
set_option maxRecDepth 20000
set_option maxHeartbeats 2000000
def d6n : FC := .reg [⟨(some 3), none, .op (.box (.t 0))⟩,  ⟨(some 4), none, .op (.box (.t 1))⟩,  ⟨(some 6), none, .op (.mv (.v (.bool false)))⟩] []
def d6o : FC := .reg [⟨(some 15), none, .call 7 []⟩,  ⟨(some 16), none, .op (.un .not (.t 15))⟩] []
def d6p : FC := .reg [⟨(some 6), none, .op (.mv (.v (.bool false)))⟩] []
def d6q : FC := .seq d6p FC.ret
def d6r : FC := .cond (.t 16) d6q FC.skip
def d6s : FC := .seq d6o d6r
def d6t : FC := .reg [⟨(some 17), none, .op (.load (some 1) (.t 3))⟩,  ⟨(some 18), none, .call 12 [(.t 17)]⟩,  ⟨(some 7), none, .op (.new [.nils])⟩,  ⟨none, none, .op (.store 1 (.t 7) (.t 18))⟩] []
def d6u : FC := .reg [⟨(some 20), none, .op (.load (some 1) (.t 3))⟩,  ⟨(some 21), none, .op (.mv (.t 2))⟩,  ⟨(some 22), none, .call 8 [(.t 20), (.t 21)]⟩,  ⟨(some 19), none, .op (.mv (.t 22))⟩,  ⟨(some 23), none, .op (.ext 0 (.t 19))⟩,  ⟨(some 24), none, .op (.ext 1 (.t 19))⟩,  ⟨(some 8), none, .op (.mv (.t 23))⟩,  ⟨(some 9), none, .op (.mv (.t 24))⟩] []
def d6v : FC := .reg [⟨(some 25), none, .op (.load (some 1) (.t 4))⟩,  ⟨(some 26), none, .op (.mv (.t 2))⟩,  ⟨(some 27), none, .call 8 [(.t 25), (.t 26)]⟩] []
def d2P : FC := .reg [⟨(some 29), none, .op (.load (some 1) (.t 3))⟩,  ⟨(some 30), none, .call 12 [(.t 29)]⟩,  ⟨(some 31), none, .op (.mv (.t 2))⟩,  ⟨(some 32), none, .call 8 [(.t 30), (.t 31)]⟩,  ⟨(some 28), none, .op (.mv (.t 32))⟩,  ⟨(some 33), none, .op (.ext 0 (.t 28))⟩,  ⟨(some 34), none, .op (.ext 1 (.t 28))⟩,  ⟨(some 10), none, .op (.mv (.t 33))⟩,  ⟨(some 11), none, .op (.mv (.t 34))⟩] []
def d2Q : FC := .reg [⟨(some 35), none, .op (.mv (.t 9))⟩,  ⟨(some 36), none, .op (.mv (.t 11))⟩,  ⟨(some 37), none, .op (.bin .none .neq (.t 35) (.t 36))⟩,  ⟨(some 38), none, .op (.mv (.t 37))⟩,  ⟨(some 39), some (38, false), .op (.mv (.t 8))⟩,  ⟨(some 40), some (38, false), .op (.mv (.t 10))⟩,  ⟨(some 41), some (38, false), .call 13 [(.t 39), (.t 40)]⟩,  ⟨(some 42), some (38, false), .op (.un .not (.t 41))⟩,  ⟨(some 43), none, .op (.pick (.t 38) (.v (.bool true)) (.t 42))⟩] []
def d2R : FC := .reg [⟨(some 6), none, .op (.mv (.v (.bool false)))⟩] []
def d2S : FC := .seq d2R FC.ret
def d2T : FC := .cond (.t 43) d2S FC.skip
def d2U : FC := .seq d2Q d2T
def d2V : FC := .reg [⟨(some 44), none, .op (.mv (.t 8))⟩,  ⟨(some 45), none, .op (.len .sl (.t 44))⟩,  ⟨(some 46), none, .op (.mv (.v (.int .i64 0)))⟩] []
def d2W : FC := .reg [⟨(some 48), none, .op (.mv (.t 46))⟩,  ⟨(some 12), none, .op (.mv (.t 48))⟩] []
def d2X : FC := .reg [⟨(some 49), none, .op (.mv (.t 8))⟩,  ⟨(some 50), none, .op (.mv (.t 12))⟩,  ⟨(some 51), none, .op (.iad none none (.t 49) (.t 50))⟩,  ⟨none, none, .op (.store 1 (.t 51) (.v (.int .i64 (-7))))⟩] []
def d2Y : FC := .seq d2W d2X
def d2Z : FC := .loop (.seq (.reg [⟨(some 47), none, .op (.bin .none .lss (.t 46) (.t 45))⟩] []) (.seq (.cond (.t 47) .skip (.exit 0)) (.seq (.block 1 d2Y) (.reg [⟨(some 52), none, .op (.bin .none .add (.t 46) (.v (.int .i64 1)))⟩,  ⟨(some 46), none, .op (.mv (.t 52))⟩] []))))
def d3a : FC := .block 0 d2Z
def d3b : FC := .seq d2V d3a
def d3c : FC := .reg [⟨(some 54), none, .op (.load (some 1) (.t 3))⟩,  ⟨(some 55), none, .op (.mv (.t 2))⟩,  ⟨(some 56), none, .call 8 [(.t 54), (.t 55)]⟩,  ⟨(some 53), none, .op (.mv (.t 56))⟩,  ⟨(some 57), none, .op (.ext 0 (.t 53))⟩,  ⟨(some 58), none, .op (.ext 1 (.t 53))⟩,  ⟨(some 13), none, .op (.mv (.t 57))⟩,  ⟨(some 14), none, .op (.mv (.t 58))⟩] []
def d3d : FC := .reg [⟨(some 59), none, .op (.mv (.t 10))⟩,  ⟨(some 60), none, .op (.mv (.t 13))⟩,  ⟨(some 61), none, .call 13 [(.t 59), (.t 60)]⟩,  ⟨(some 62), none, .op (.mv (.t 61))⟩,  ⟨(some 63), some (62, true), .op (.load (some 1) (.t 3))⟩,  ⟨(some 64), some (62, true), .op (.load (some 1) (.t 7))⟩,  ⟨(some 65), some (62, true), .call 14 [(.t 63), (.t 64)]⟩,  ⟨(some 66), none, .op (.pick (.t 62) (.t 65) (.v (.bool false)))⟩,  ⟨(some 6), none, .op (.mv (.t 66))⟩] []
def d3e : FC := .seq d3d FC.ret
def d3f : FC := .seq d3c d3e
def d3g : FC := .seq d3b d3f
def d3h : FC := .seq d2U d3g
def d3i : FC := .seq d2P d3h
def d3j : FC := .seq d6v d3i
def d3k : FC := .seq d6u d3j
def d3l : FC := .seq d6t d3k
def d3m : FC := .seq d6s d3l
def d3n : FC := .seq d6n d3m
def fc6 : FC := d3n
theorem fn6 : Fn3 Tryd.prog 6 67 [(6, none)] fc6 := ⟨_, _, Tryd.func6, rfl, rfl, rfl, by kernel_rfl⟩

theorem b7T {G : c9} (h : b4h G = true) : y6 G G = some true := by
 unfold b4h SmG SmN at h
 simp only [Bool.and_eq_true, decide_eq_true_eq, List.all_eq_true] at h
 exact b3V h.1 (fun g hg => h.2 g hg)
theorem b5B {G H : c9} {f : Int} (hG : b4h G = true) (hpG : b5z G) (hpH : b5z H) : n5 Tryd.prog 6 [c9.av G, c9.av H, .int .i64 f] (.bool true) := by
 have hlG := b5A (f := f) hpG
 suffices hT : Tri Tryd.prog 6 [c9.av G, c9.av H, .int .i64 f] [] (fun r _ => r = .bool true) by
  obtain ⟨r, h1, rfl⟩ := Tri.pure (Q' := fun r => r = .bool true) 1 hT (fun v L' S hq _ => ⟨_, a0S (by rw [hq]; rfl) (.refl _), hq⟩)
  exact h1
 refine y5 mixed fn6 zS [7] (fun R S hS => ?_)
 rw [List.nil_append] at hS
 (repeat (first | refine a0k ?_ | refine g6 ?_ | refine b9 ?_ | refine i7 ?_))
 refine oP (.cptr (c9.av G).cells 0) ?_
 refine oP (.cptr (c9.av H).cells 0) ?_
 refine aU ?_
 refine l7 (a2X b7S) rfl trivial rfl rfl ?_
 refine aU ?_
 refine b1s rfl ?_
 refine aU ?_
 refine l7 (as' := [c9.av G]) (b3T hG) rfl ⟨.refl _, trivial⟩ (j6 ⟨(c9.enc.blw _ 0), trivial⟩) (c9.enc.blw _ 0) ?_
 refine a6G hS rfl (fun o7 S hS => ?_)
 refine E_stS hS rfl rfl (xv := c9.av G) Rp.here rfl rfl (by first | exact Nat.le_of_ble_eq_true rfl | (simp; omega) | omega) (fun S hS => ?_)
 replace hS : Ab.Sep S ((o7, 0, (c9.av G).cells) :: R) := hS
 refine aS ?_
 refine b6 ?_
 refine g8 ?_
 refine g6 ?_
 have ga := b0i (G := G) f hpG
 have gh := b0i (G := H) f hpH
 refine a9Q (σ := Nat) (fun oa => [(2, .int .i64 f), (3, .cptr (c9.av G).cells 0), (4, .cptr (c9.av H).cells 0), (7, .ptr o7 0 0), (8, .ref oa 0 0 (a2T G f).length none), (9, .int .i64 (a9t G f))]) (fun oa => (oa, 0, flat (avI .i64) (a2T G f)) :: (o7, 0, (c9.av G).cells) :: R) (fun _ => True) ?_ (fun oa S _ hS => ?_)
 ·refine b9 ?_
  refine aS ?_
  refine a3j ga hS (by rfl) Spl.nil (fun r S L' hL hS => ?_)
  rcases hL with ⟨oo, rfl, rfl⟩ | ⟨rfl, rfl, e0⟩
  ·refine aS ?_
   refine b6 ?_
   exact a6e oo trivial hS (k9 ⟨.refl _, .refl _, .refl _, .refl _, .refl _, .refl _, trivial⟩)
  ·refine aS ?_
   refine b6 ?_
   rw [e0]
   exact a6f 8 none hS rfl (fun _ => trivial) (fun o S' h => h) (fun o S' => k9 ⟨.refl _, .refl _, .refl _, .refl _, .refl _, .refl _, trivial⟩)
 (repeat (first | refine a0k ?_ | refine g6 ?_ | refine b9 ?_ | refine i7 ?_))
 refine aS ?_
 refine a3j gh hS (by rfl) Spl.nil (fun r S L' hL hS => ?_)
 replace hS : Ab.Sep S ((oa, 0, flat (avI .i64) (a2T G f)) :: (o7, 0, (c9.av G).cells) :: R) := by
  rcases hL with ⟨oo, _, rfl⟩ | ⟨_, rfl, _⟩
  ·exact hS.sub (List.sublist_cons_self _ _)
  ·exact hS
 refine b6 ?_
 refine g8 ?_
 refine g6 ?_
 refine a9Q (σ := Nat) (fun ob => [(2, .int .i64 f), (3, .cptr (c9.av G).cells 0), (7, .ptr o7 0 0), (8, .ref oa 0 0 (a2T G f).length none), (9, .int .i64 (a9t G f)), (10, .ref ob 0 0 (a2T G f).length none), (11, .int .i64 (a9t G f))]) (fun ob => (ob, 0, flat (avI .i64) (a2T G f)) :: (oa, 0, flat (avI .i64) (a2T G f)) :: (o7, 0, (c9.av G).cells) :: R) (fun _ => True) ?_ (fun ob S _ hS => ?_)
 ·refine b9 ?_
  refine aS ?_
  refine l7 (as' := [c9.av G]) (b3T hG) rfl ⟨.refl _, trivial⟩ (j6 ⟨(c9.enc.blw _ 0), trivial⟩) (c9.enc.blw _ 0) ?_
  refine aS ?_
  refine a3j ga hS (by rfl) Spl.nil (fun r S L' hL hS => ?_)
  rcases hL with ⟨oo, rfl, rfl⟩ | ⟨rfl, rfl, e0⟩
  ·refine aS ?_
   refine b6 ?_
   exact a6e oo trivial hS (k9 ⟨.refl _, .refl _, .refl _, .refl _, .refl _, .refl _, .refl _, trivial⟩)
  ·refine aS ?_
   refine b6 ?_
   rw [e0] at hS ⊢
   exact a6f 10 none hS rfl (fun _ => trivial) (fun o S' h => h) (fun o S' => k9 ⟨.refl _, .refl _, .refl _, .refl _, .refl _, .refl _, .refl _, trivial⟩)
 (repeat (first | refine a0k ?_ | refine g6 ?_ | refine b9 ?_ | refine i7 ?_))
 refine aS ?_
 refine m6 (b := a9t G f != a9t G f) rfl rfl rfl (fun hb => ?_) (fun hb => by simp at hb)
 refine aU ?_
 refine a3j (b1d (a := a2T G f) (b := a2T G f) (oa := oa) (va := 0) (ob := ob) (vb := 0) zO zO) hS rfl (Spl.cons (Pk.there Pk.here) (Spl.cons Pk.here Spl.nil)) (fun r S L' hL hS => ?_)
 obtain ⟨rfl, rfl⟩ := hL
 rw [decide_eq_true rfl]
 refine aU ?_
 refine b1s rfl ?_
 refine aU ?_
 refine a3k (a2T G f).length (fun _ : List Int => [(2, .int .i64 f), (3, .cptr (c9.av G).cells 0), (7, .ptr o7 0 0), (8, .ref oa 0 0 (a2T G f).length none), (10, .ref ob 0 0 (a2T G f).length none)]) (fun l => (oa, 0, flat (avI .i64) l) :: (ob, 0, flat (avI .i64) (a2T G f)) :: (o7, 0, (c9.av G).cells) :: R) (fun i l => l.length = (a2T G f).length) (a2T G f) hS rfl
  (by exact k9 ⟨.refl _, .refl _, .refl _, .refl _, .refl _, .refl _, .refl _, trivial⟩) zO zD zD (fun _ => ⟨rfl, rfl, rfl, rfl⟩) (fun i l S hi hI hS => ?_) (fun l fr' S hI hS hw => ?_)
 ·obtain ⟨x, hx⟩ : ∃ x, l[i]? = some x := ⟨l[i]'zO, List.getElem?_eq_getElem _⟩
  refine aU ?_
  refine p8 rfl rfl ⟨by omega, by omega⟩ ?_
  refine a3l (l := l) hS (f7 .i64) rfl zC (n := i) (fo := 0) (y := x) (y' := -7) (by simp [f5]) hx .here rfl rfl (by simp [f5]) rfl (fun S hS => ?_)
  refine aU ?_
  exact R_n (l.set i (-7)) (by simp [hI]) hS (k9 ⟨.refl _, .refl _, .refl _, .refl _, .refl _, .refl _, .refl _, trivial⟩)
 ·replace hS := hS.sub (List.sublist_cons_self _ _)
  refine a3P hw ?_
  refine g6 ?_
  refine a9Q (σ := Nat) (fun oc => [(3, .cptr (c9.av G).cells 0), (7, .ptr o7 0 0), (10, .ref ob 0 0 (a2T G f).length none), (13, .ref oc 0 0 (a2T G f).length none)]) (fun oc => (oc, 0, flat (avI .i64) (a2T G f)) :: (ob, 0, flat (avI .i64) (a2T G f)) :: (o7, 0, (c9.av G).cells) :: R) (fun _ => True) ?_ (fun oc S _ hS => ?_)
  ·refine b9 ?_
   refine aS ?_
   refine a3j ga hS (by rfl) Spl.nil (fun r S L' hL hS => ?_)
   rcases hL with ⟨oo, rfl, rfl⟩ | ⟨rfl, rfl, e0⟩
   ·refine aS ?_
    refine b6 ?_
    exact a6e oo trivial hS (k9 ⟨.refl _, .refl _, .refl _, .refl _, trivial⟩)
   ·refine aS ?_
    refine b6 ?_
    rw [e0] at hS ⊢
    exact a6f 13 none hS rfl (fun _ => trivial) (fun o S' h => h) (fun o S' => k9 ⟨.refl _, .refl _, .refl _, .refl _, trivial⟩)
  (repeat (first | refine a0k ?_ | refine g6 ?_ | refine b9 ?_ | refine i7 ?_))
  refine aS ?_
  refine a3j (b1d (a := a2T G f) (b := a2T G f) (oa := ob) (va := 0) (ob := oc) (vb := 0) zO zO) hS rfl (Spl.cons (Pk.there Pk.here) (Spl.cons Pk.here Spl.nil)) (fun r S L' hL hS => ?_)
  obtain ⟨rfl, rfl⟩ := hL
  rw [decide_eq_true rfl]
  refine aU ?_
  refine v8 hS rfl (.tail _ (.tail _ (.head _))) (v := c9.av G) rfl ?_
  refine aU ?_
  refine l7 (as' := [c9.av G, c9.av G]) (a3u (b7T hG)) rfl ⟨.refl _, .refl _, trivial⟩ (j6 ⟨(c9.enc.blw _ 0), (c9.enc.blw _ 0), trivial⟩) rfl ?_
  refine aU ?_
  refine i8 ?_
  (repeat (first | refine o8 ?_ | refine r8 ?_ | refine s4 rfl ?_ | refine j4 ?_ | refine m0 ?_ | refine l6 ?_))
  exact ⟨trivial, _, rfl, [_, _, _], rfl, hS⟩
end Go.Proofs.YtepdcebjobjjgaaDoor

/- How arguments are read. -/
namespace Go.Proofs.YtepdcebjobjjgaaDoor
open Go Go.Ab Go.RowKit
set_option maxRecDepth 20000
theorem b3W {H : Type} {d : DataW H} {l : List (DataW H)} (h : d ∈ l) : Rows.uptoBulk d ≤ Rows.uptoBulkAll l := by
 induction l with
 | nil => cases h
 | cons x r ih =>
   simp only [Rows.uptoBulkAll]
   rcases List.mem_cons.1 h with e | e
   ·subst e; omega
   ·have := ih e; omega
theorem c6R {H : Type} (d : DataW H) : 1 ≤ Rows.uptoBulk d := by
 cases d with
 | lit l => cases l <;> simp [Rows.uptoBulk]
 | _ => simp [Rows.uptoBulk]
theorem b3X {H : Type} (l : List (DataW H)) : l.length ≤ Rows.uptoBulkAll l := by
 induction l with
 | nil => simp [Rows.uptoBulkAll]
 | cons x r ih => have := c6R x; simp only [Rows.uptoBulkAll, List.length_cons]; omega
theorem c7m {H : Type} : c7z (H := H) Rows.uptoBulk :=
 ⟨fun bytes => by simp [Rows.uptoBulk], fun e s => by have := b3X e; simp only [Rows.uptoBulk]; omega, fun e s d h => by have := b3W h; simp only [Rows.uptoBulk]; omega, fun p d h => by have := b3W h; simp only [Rows.uptoBulk]; omega⟩

theorem a2d : Tryd.prog.cellsOf 3 = 1 := by kernel_rfl
theorem b7U : Tryd.prog.cellsOf 49 = 1 := by kernel_rfl
theorem b7V : Tryd.prog.cellsOf 39 = 1 := by kernel_rfl
theorem b7W : Tryd.prog.cellsOf 40 = 1 := by kernel_rfl
theorem b7X : Tryd.prog.cellsOf 41 = 1 := by kernel_rfl
theorem b0j : Tryd.prog.cellsOf 26 = 1 := by kernel_rfl
theorem b3Y : Tryd.prog.cellsOf 43 = 12 := by kernel_rfl
def f8.Ok (N : Nat) (x : f8) : Prop := (fun n => (Lit.int .u8 n).wf = true) x.Op ∧ (fun n => (Lit.int .u8 n).wf = true) x.By ∧ (fun n => (Lit.int .i64 n).wf = true) x.D ∧ (fun n => (Lit.int .i64 n).wf = true) x.E ∧ (fun n => (Lit.int .i64 n).wf = true) x.A ∧ (fun n => (Lit.int .i64 n).wf = true) x.B ∧ (fun n => (Lit.int .i64 n).wf = true) x.F ∧ (fun n => (Lit.int .i64 n).wf = true) x.Cell ∧ (fun n => (Lit.int .u64 n).wf = true) x.Imm ∧ (fun l => List.length l ≤ N ∧ ∀ a ∈ l, (fun n => (Lit.int .i64 n).wf = true) a) x.Args ∧ (fun n => (Lit.int .i64 n).wf = true) x.Next ∧ (fun n => (Lit.int .i64 n).wf = true) x.Else
theorem f8.rd {N : Nat} : Rd Tryd.prog N f8.av (f8.Ok N) 43 := by
 intro avs ht
 obtain ⟨hl, hf⟩ := a6c Tryd.underlying43 ht
 have e0 : Ty Tryd.prog N 39 ((avs.drop 0).take (Tryd.prog.cellsOf 39)) := hf 0 _ rfl
 rw [b7V] at e0
 obtain ⟨a0, h0, q0⟩ := (rdI Tryd.underlying39) _ e0
 have e1 : Ty Tryd.prog N 40 ((avs.drop 1).take (Tryd.prog.cellsOf 40)) := hf 1 _ rfl
 rw [b7W] at e1
 obtain ⟨a1, h1, q1⟩ := (rdI Tryd.underlying40) _ e1
 have e2 : Ty Tryd.prog N 3 ((avs.drop 2).take (Tryd.prog.cellsOf 3)) := hf 2 _ rfl
 rw [a2d] at e2
 obtain ⟨a2, h2, q2⟩ := (rdI Tryd.underlying3) _ e2
 have e3 : Ty Tryd.prog N 3 ((avs.drop 3).take (Tryd.prog.cellsOf 3)) := hf 3 _ rfl
 rw [a2d] at e3
 obtain ⟨a3, h3, q3⟩ := (rdI Tryd.underlying3) _ e3
 have e4 : Ty Tryd.prog N 3 ((avs.drop 4).take (Tryd.prog.cellsOf 3)) := hf 4 _ rfl
 rw [a2d] at e4
 obtain ⟨a4, h4, q4⟩ := (rdI Tryd.underlying3) _ e4
 have e5 : Ty Tryd.prog N 3 ((avs.drop 5).take (Tryd.prog.cellsOf 3)) := hf 5 _ rfl
 rw [a2d] at e5
 obtain ⟨a5, h5, q5⟩ := (rdI Tryd.underlying3) _ e5
 have e6 : Ty Tryd.prog N 3 ((avs.drop 6).take (Tryd.prog.cellsOf 3)) := hf 6 _ rfl
 rw [a2d] at e6
 obtain ⟨a6, h6, q6⟩ := (rdI Tryd.underlying3) _ e6
 have e7 : Ty Tryd.prog N 3 ((avs.drop 7).take (Tryd.prog.cellsOf 3)) := hf 7 _ rfl
 rw [a2d] at e7
 obtain ⟨a7, h7, q7⟩ := (rdI Tryd.underlying3) _ e7
 have e8 : Ty Tryd.prog N 41 ((avs.drop 8).take (Tryd.prog.cellsOf 41)) := hf 8 _ rfl
 rw [b7X] at e8
 obtain ⟨a8, h8, q8⟩ := (rdI Tryd.underlying41) _ e8
 have e9 : Ty Tryd.prog N 26 ((avs.drop 9).take (Tryd.prog.cellsOf 26)) := hf 9 _ rfl
 rw [b0j] at e9
 obtain ⟨a9, h9, q9⟩ := (rdL (f7 .i64) (fun fs h => by rw [Tryd.underlying3] at h; cases h) Tryd.underlying26 a2d (rdI Tryd.underlying3)) _ e9
 have e10 : Ty Tryd.prog N 3 ((avs.drop 10).take (Tryd.prog.cellsOf 3)) := hf 10 _ rfl
 rw [a2d] at e10
 obtain ⟨a10, h10, q10⟩ := (rdI Tryd.underlying3) _ e10
 have e11 : Ty Tryd.prog N 3 ((avs.drop 11).take (Tryd.prog.cellsOf 3)) := hf 11 _ rfl
 rw [a2d] at e11
 obtain ⟨a11, h11, q11⟩ := (rdI Tryd.underlying3) _ e11
 refine ⟨⟨a0, a1, a2, a3, a4, a5, a6, a7, a8, a9, a10, a11⟩, ?_, ⟨q0, q1, q2, q3, q4, q5, q6, q7, q8, q9, q10, q11⟩⟩
 have := (a0h h0 (a0h h1 (a0h h2 (a0h h3 (a0h h4 (a0h h5 (a0h h6 (a0h h7 (a0h h8 (a0h h9 (a0h h10 (a0h h11 (b2N (hl.trans b3Y))))))))))))))
 exact this
theorem b7Y : Tryd.prog.cellsOf 32 = 1 := by kernel_rfl
theorem c6S : Tryd.prog.cellsOf 4 = 1 := by kernel_rfl
theorem b7Z : Tryd.prog.cellsOf 33 = 1 := by kernel_rfl
theorem b3Z : Tryd.prog.cellsOf 35 = 8 := by kernel_rfl
def b5.Ok (N : Nat) (x : b5) : Prop := (fun l => List.length l ≤ N ∧ ∀ a ∈ l, (fun n => (Lit.int .i64 n).wf = true) a) x.Params ∧ (fun l => List.length l ≤ N ∧ ∀ a ∈ l, (fun n => (Lit.int .u8 n).wf = true) a) x.Kinds ∧ (fun n => (Lit.int .i64 n).wf = true) x.Cells ∧ (fun l => List.length l ≤ N ∧ ∀ a ∈ l, (fun n => (Lit.int .i64 n).wf = true) a) x.Init ∧ (fun _ => True) x.Result ∧ (fun n => (Lit.int .i64 n).wf = true) x.Keep ∧ (fun l => List.length l ≤ N ∧ ∀ a ∈ l, (f8.Ok N) a) x.Nodes ∧ (fun n => (Lit.int .i64 n).wf = true) x.Entry
theorem b5.rd {N : Nat} : Rd Tryd.prog N b5.av (b5.Ok N) 35 := by
 intro avs ht
 obtain ⟨hl, hf⟩ := a6c Tryd.underlying35 ht
 have e0 : Ty Tryd.prog N 26 ((avs.drop 0).take (Tryd.prog.cellsOf 26)) := hf 0 _ rfl
 rw [b0j] at e0
 obtain ⟨a0, h0, q0⟩ := (rdL (f7 .i64) (fun fs h => by rw [Tryd.underlying3] at h; cases h) Tryd.underlying26 a2d (rdI Tryd.underlying3)) _ e0
 have e1 : Ty Tryd.prog N 32 ((avs.drop 1).take (Tryd.prog.cellsOf 32)) := hf 1 _ rfl
 rw [b7Y] at e1
 obtain ⟨a1, h1, q1⟩ := (rdL (f7 .u8) (fun fs h => by rw [Tryd.underlying49] at h; cases h) Tryd.underlying32 b7U (rdI Tryd.underlying49)) _ e1
 have e2 : Ty Tryd.prog N 3 ((avs.drop 2).take (Tryd.prog.cellsOf 3)) := hf 2 _ rfl
 rw [a2d] at e2
 obtain ⟨a2, h2, q2⟩ := (rdI Tryd.underlying3) _ e2
 have e3 : Ty Tryd.prog N 26 ((avs.drop 3).take (Tryd.prog.cellsOf 26)) := hf 3 _ rfl
 rw [b0j] at e3
 obtain ⟨a3, h3, q3⟩ := (rdL (f7 .i64) (fun fs h => by rw [Tryd.underlying3] at h; cases h) Tryd.underlying26 a2d (rdI Tryd.underlying3)) _ e3
 have e4 : Ty Tryd.prog N 4 ((avs.drop 4).take (Tryd.prog.cellsOf 4)) := hf 4 _ rfl
 rw [c6S] at e4
 obtain ⟨a4, h4, q4⟩ := (rdB Tryd.underlying4) _ e4
 have e5 : Ty Tryd.prog N 3 ((avs.drop 5).take (Tryd.prog.cellsOf 3)) := hf 5 _ rfl
 rw [a2d] at e5
 obtain ⟨a5, h5, q5⟩ := (rdI Tryd.underlying3) _ e5
 have e6 : Ty Tryd.prog N 33 ((avs.drop 6).take (Tryd.prog.cellsOf 33)) := hf 6 _ rfl
 rw [b7Z] at e6
 obtain ⟨a6, h6, q6⟩ := (rdL f8.enc ⟨_, Tryd.underlying43⟩ Tryd.underlying33 b3Y f8.rd) _ e6
 have e7 : Ty Tryd.prog N 3 ((avs.drop 7).take (Tryd.prog.cellsOf 3)) := hf 7 _ rfl
 rw [a2d] at e7
 obtain ⟨a7, h7, q7⟩ := (rdI Tryd.underlying3) _ e7
 refine ⟨⟨a0, a1, a2, a3, a4, a5, a6, a7⟩, ?_, ⟨q0, q1, q2, q3, q4, q5, q6, q7⟩⟩
 have := (a0h h0 (a0h h1 (a0h h2 (a0h h3 (a0h h4 (a0h h5 (a0h h6 (a0h h7 (b2N (hl.trans b3Z))))))))))
 exact this
theorem b8a : Tryd.prog.cellsOf 22 = 1 := by kernel_rfl
theorem b8b : Tryd.prog.cellsOf 24 = 1 := by kernel_rfl
def c9.Ok (N : Nat) (x : c9) : Prop := (fun l => List.length l ≤ N ∧ ∀ a ∈ l, (b5.Ok N) a) x.Funcs
theorem c9.rd {N : Nat} : Rd Tryd.prog N c9.av (c9.Ok N) 24 := by
 intro avs ht
 obtain ⟨hl, hf⟩ := a6c Tryd.underlying24 ht
 have e0 : Ty Tryd.prog N 22 ((avs.drop 0).take (Tryd.prog.cellsOf 22)) := hf 0 _ rfl
 rw [b8a] at e0
 obtain ⟨a0, h0, q0⟩ := (rdL b5.enc ⟨_, Tryd.underlying35⟩ Tryd.underlying22 b3Z b5.rd) _ e0
 refine ⟨⟨a0⟩, ?_, q0⟩
 have := (a0h h0 (b2N (hl.trans b8b)))
 exact this

theorem own : ownKnob Tryd.prog.godebug = none := by kernel_rfl
theorem b0k : laidOutB Tryd.prog = true := by kernel_rfl
end Go.Proofs.YtepdcebjobjjgaaDoor

/- What the readings say of graphs; ScanAgain. -/
namespace Go.Proofs.YtepdcebjobjjgaaDoor
open Go Go.Ab
theorem b6n {N : Nat} {G : c9} (h : c9.Ok N G) : b5z G := by
 intro g hg k hk
 have h1 := (h.2 g hg).2.1.2 k hk
 simp [Lit.wf, IntKind.min, IntKind.max, IntKind.bits, IntKind.signed] at h1; omega
theorem d3o {G : c9} (h : c9.Ok 1048576 G) : b4h G = true := by
 unfold b4h SmG SmN
 simp only [Bool.and_eq_true, decide_eq_true_eq, List.all_eq_true]
 refine ⟨by have := h.1; omega, fun g hg => ?_⟩
 obtain ⟨a1, a2, _, a3, _, _, a4, _⟩ := h.2 g hg
 refine ⟨⟨by have := a1.1; omega, by have := a2.1; omega, by have := a3.1; omega, by have := a4.1; omega⟩, fun n hn => ?_⟩
 obtain ⟨_, _, _, _, _, _, _, _, _, b, _⟩ := a4.2 n hn
 have := b.1; omega
theorem a1X {G H : c9} {f : Int} {r : Bool} (h : (if b4h G = true ∧ b6m G = true ∧ b6m H = true then some true else none) = some r) : n5 Tryd.prog 6 [c9.av G, c9.av H, .int .i64 f] (.bool r) := by
 split at h
 case isFalse => cases h
 rename_i hc
 cases h
 exact b5B hc.1 (a3A.1 hc.2.1) (a3A.1 hc.2.2)
theorem b4a (G H : c9) (f : Int) (hG : c9.Ok 1048576 G) (hH : c9.Ok 1048576 H) (hf : (Lit.int .i64 f).wf = true) : (if b4h G = true ∧ b6m G = true ∧ b6m H = true then some true else none) = some true :=
 if_pos ⟨d3o hG, a3A.2 (b6n hG), a3A.2 (b6n hH)⟩
end Go.Proofs.YtepdcebjobjjgaaDoor

/- From the row's list to the settings: the table for the trailing zeros. -/
namespace Go.Proofs.YtepdcebjobjjgaaDoor
open Go Go.Ab Go.RowKit
set_option maxRecDepth 20000
theorem b8c : (Rows.laid_math_bits_deBruijn64tab : DataW Unit) = Lib.tabData .u8 tzT := by kernel_rfl
theorem b8d {P : Program} {W : World} {nm : String} {k : IntKind} {zs : List Int} {b : Nat} (hg : P.globalNamed nm = some b) (h : Lib.TabIs P W nm k zs) : ∃ t fz, W.heap[b]? = some (.cells (zs.map fun z => Value.int k z).toArray t fz) := by
 unfold Lib.TabIs World.var? at h
 rw [hg, Option.bind_some] at h
 cases e2 : W.heap[b]? with
 | none => rw [e2] at h; cases h
 | some o =>
   rw [e2] at h
   cases o with
   | cells c t fz => cases h; exact ⟨t, fz, rfl⟩
   | _ => cases h
theorem c6T {nm : String} (h0 : Tryd.prog.globalNamed nm = some 0) {W : World} (h : laidMet Tryd.prog [(nm, Rows.laid_math_bits_deBruijn64tab)] W) : b1e W.heap.size W := by
 have h' := h
 rw [b8c] at h'
 have hp := Lib.tabIs_of_head (rest := []) h0 (t := 147) (e := 5) (n := 64) zK Tryd.underlying147 Tryd.underlying5 zK zK h'
 obtain ⟨t, fz, q⟩ := b8d h0 hp
 intro b p e
 match b, e with
 | 0, e => cases Option.some.inj e; exact ⟨(Array.getElem?_eq_some_iff.1 q).1, _, t, fz, q, rfl⟩
 | n + 1, e => cases e
end Go.Proofs.YtepdcebjobjjgaaDoor

