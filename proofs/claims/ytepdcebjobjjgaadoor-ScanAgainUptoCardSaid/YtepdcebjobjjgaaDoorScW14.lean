/- ref7.Copy: the walk. -/
import Derived.Test.YtepdcebjobjjgaaDoorScW12
import Derived.Test.YtepdcebjobjjgaaDoorWlTz
import Derived.Test.YtepdcebjobjjgaaDoorGenS
set_option linter.unusedVariables false
set_option linter.unusedSimpArgs false
namespace Go.Proofs.YtepdcebjobjjgaaDoor
open Go Go.Ab
set_option maxRecDepth 20000
set_option maxHeartbeats 2000000
def d2F : FC := .reg [⟨(some 1), none, .op (.box (.t 0))⟩,  ⟨(some 2), none, .op (.new [.nils])⟩] []
def d2G : FC := .reg [⟨(some 3), none, .op (.new [.nils])⟩] []
def d2H : FC := .reg [⟨(some 7), none, .op (.fad 0 (.t 1))⟩,  ⟨(some 8), none, .op (.load none (.t 7))⟩,  ⟨(some 9), none, .op (.len .sl (.t 8))⟩,  ⟨(some 10), none, .op (.mv (.v (.int .i64 0)))⟩] []
def d2I : FC := .reg [⟨(some 12), none, .op (.iad none (some 8) (.t 8) (.t 10))⟩,  ⟨(some 13), none, .op (.load (some 8) (.t 12))⟩,  ⟨(some 5), none, .op (.new [.nils, .nils, (.int .i64 0), .nils, (.bool false), (.int .i64 0), .nils, (.int .i64 0)])⟩,  ⟨none, none, .op (.store 8 (.t 5) (.t 13))⟩] []
def d2J : FC := .reg [⟨(some 14), none, .op (.bsl none [(.int .i64 0)] 0 [])⟩,  ⟨(some 15), none, .op (.fad 0 (.t 5))⟩,  ⟨(some 16), none, .op (.load none (.t 15))⟩,  ⟨(some 17), none, .op (.app none 8 (.t 14) (.t 16))⟩,  ⟨(some 18), none, .op (.fad 0 (.t 5))⟩,  ⟨none, none, .op (.store 1 (.t 18) (.t 17))⟩] []
def d2K : FC := .reg [⟨(some 19), none, .op (.bsl none [(.int .u8 0)] 0 [])⟩,  ⟨(some 20), none, .op (.fad 1 (.t 5))⟩,  ⟨(some 21), none, .op (.load none (.t 20))⟩,  ⟨(some 22), none, .op (.app none 1 (.t 19) (.t 21))⟩,  ⟨(some 23), none, .op (.fad 1 (.t 5))⟩,  ⟨none, none, .op (.store 1 (.t 23) (.t 22))⟩] []
def d2L : FC := .reg [⟨(some 24), none, .op (.bsl none [(.int .i64 0)] 0 [])⟩,  ⟨(some 25), none, .op (.fad 3 (.t 5))⟩,  ⟨(some 26), none, .op (.load none (.t 25))⟩,  ⟨(some 27), none, .op (.app none 8 (.t 24) (.t 26))⟩,  ⟨(some 28), none, .op (.fad 3 (.t 5))⟩,  ⟨none, none, .op (.store 1 (.t 28) (.t 27))⟩] []
def d2M : FC := .reg [⟨(some 29), none, .op (.bsl (some 12) [(.int .u8 0), (.int .u8 0), (.int .i64 0), (.int .i64 0), (.int .i64 0), (.int .i64 0), (.int .i64 0), (.int .i64 0), (.int .u64 0), .nils, (.int .i64 0), (.int .i64 0)] 0 [])⟩,  ⟨(some 30), none, .op (.fad 6 (.t 5))⟩,  ⟨(some 31), none, .op (.load none (.t 30))⟩,  ⟨(some 32), none, .op (.app (some 12) 104 (.t 29) (.t 31))⟩,  ⟨(some 33), none, .op (.fad 6 (.t 5))⟩,  ⟨none, none, .op (.store 1 (.t 33) (.t 32))⟩] []
def d2N : FC := .reg [⟨(some 34), none, .op (.fad 6 (.t 5))⟩,  ⟨(some 35), none, .op (.load none (.t 34))⟩,  ⟨(some 36), none, .op (.len .sl (.t 35))⟩,  ⟨(some 37), none, .op (.mv (.v (.int .i64 0)))⟩] []
def c6v : FC := .reg [⟨(some 39), none, .op (.mv (.t 37))⟩,  ⟨(some 6), none, .op (.mv (.t 39))⟩] []
def c6w : FC := .reg [⟨(some 40), none, .op (.fad 6 (.t 5))⟩,  ⟨(some 41), none, .op (.load none (.t 40))⟩,  ⟨(some 42), none, .op (.mv (.t 6))⟩,  ⟨(some 43), none, .op (.bsl none [(.int .i64 0)] 0 [])⟩,  ⟨(some 44), none, .op (.fad 6 (.t 5))⟩,  ⟨(some 45), none, .op (.load none (.t 44))⟩,  ⟨(some 46), none, .op (.mv (.t 6))⟩,  ⟨(some 47), none, .op (.iad none (some 12) (.t 45) (.t 46))⟩,  ⟨(some 48), none, .op (.fad 9 (.t 47))⟩,  ⟨(some 49), none, .op (.load none (.t 48))⟩,  ⟨(some 50), none, .op (.app none 8 (.t 43) (.t 49))⟩,  ⟨(some 51), none, .op (.iad none (some 12) (.t 41) (.t 42))⟩,  ⟨(some 52), none, .op (.fad 9 (.t 51))⟩,  ⟨none, none, .op (.store 1 (.t 52) (.t 50))⟩] [(1, 3), (3, 5), (3, 9), (1, 10)]
def c6x : FC := .seq c6v c6w
def c6y : FC := .loop (.seq (.reg [⟨(some 38), none, .op (.bin .none .lss (.t 37) (.t 36))⟩] []) (.seq (.cond (.t 38) .skip (.exit 2)) (.seq (.block 3 c6x) (.reg [⟨(some 53), none, .op (.bin .none .add (.t 37) (.v (.int .i64 1)))⟩,  ⟨(some 37), none, .op (.mv (.t 53))⟩] []))))
def c6z : FC := .block 2 c6y
def c6A : FC := .seq d2N c6z
def c6B : FC := .reg [⟨(some 54), none, .op (.fad 0 (.t 3))⟩,  ⟨(some 55), none, .op (.load none (.t 54))⟩,  ⟨(some 56), none, .op (.load (some 8) (.t 5))⟩,  ⟨(some 57), none, .op (.bsl (some 8) [.nils, .nils, (.int .i64 0), .nils, (.bool false), (.int .i64 0), .nils, (.int .i64 0)] 1 [(0, 8, (.t 56))])⟩,  ⟨(some 58), none, .op (.app (some 8) 128 (.t 55) (.t 57))⟩,  ⟨(some 59), none, .op (.fad 0 (.t 3))⟩,  ⟨none, none, .op (.store 1 (.t 59) (.t 58))⟩] []
def c6C : FC := .seq c6A c6B
def c6D : FC := .seq d2M c6C
def c6E : FC := .seq d2L c6D
def c6F : FC := .seq d2K c6E
def c6G : FC := .seq d2J c6F
def c6H : FC := .seq d2I c6G
def c6I : FC := .loop (.seq (.reg [⟨(some 11), none, .op (.bin .none .lss (.t 10) (.t 9))⟩] []) (.seq (.cond (.t 11) .skip (.exit 0)) (.seq (.block 1 c6H) (.reg [⟨(some 60), none, .op (.bin .none .add (.t 10) (.v (.int .i64 1)))⟩,  ⟨(some 10), none, .op (.mv (.t 60))⟩] []))))
def c6J : FC := .block 0 c6I
def c6K : FC := .seq d2H c6J
def c6L : FC := .reg [⟨(some 61), none, .op (.load (some 1) (.t 3))⟩,  ⟨none, none, .op (.store 1 (.t 2) (.t 61))⟩] []
def c6M : FC := .seq c6L FC.ret
def c6N : FC := .seq c6K c6M
def c6O : FC := .seq d2G c6N
def c6P : FC := .seq d2F c6O
def d6k : FC := c6P
theorem d6l : Fn3 Tryd.prog 12 62 [(2, (some (some 1)))] d6k := ⟨_, _, Tryd.func12, rfl, rfl, rfl, by kernel_rfl⟩

def SmN (n : f8) : Bool := decide (n.Args.length ≤ 1000000000)
def SmG (g : b5) : Bool := decide (g.Params.length ≤ 1000000000 ∧ g.Kinds.length ≤ 1000000000 ∧ g.Init.length ≤ 1000000000 ∧ g.Nodes.length ≤ 1000000000) && g.Nodes.all SmN
def b4h (G : c9) : Bool := decide (G.Funcs.length ≤ 1000000000) && G.Funcs.all SmG
theorem b5x {α : Type} {cs : List α} {j : Nat} {x : α} (h : cs[j]? = some x) : cs.set j x = cs := by
 apply List.ext_getElem?
 intro k
 rw [List.getElem?_set]
 split
 ·rename_i e; subst e
  split
  ·exact h.symm
  ·rename_i h2; rw [List.getElem?_eq_none zO]
 ·rfl
theorem b5y {G : c9} (hG : b4h G = true) : Tri Tryd.prog 12 [c9.av G] [] (fun r L' => ∃ oo v, r = .agg [.ref oo v 0 G.Funcs.length (some 8)] ∧ L' = [(oo, v, flat b5.av G.Funcs)]) := by
 unfold b4h at hG
 simp only [Bool.and_eq_true, decide_eq_true_eq, List.all_eq_true] at hG
 obtain ⟨hGl, hGa⟩ := hG
 refine y5 mixed d6l zS [2, 3, 5, 32] (fun R S hS => ?_)
 rw [List.nil_append] at hS
 (repeat (first | refine a0k ?_ | refine g6 ?_ | refine b9 ?_ | refine i7 ?_))
 refine oP (.cptr (c9.av G).cells 0) ?_
 refine a6G hS rfl (fun o2 S hS => ?_)
 refine aS ?_
 refine b6 ?_
 refine g8 ?_
 (repeat (first | refine a0k ?_ | refine g6 ?_ | refine b9 ?_ | refine i7 ?_))
 refine a6G hS rfl (fun o3 S hS => ?_)
 refine b6 ?_
 refine b2R 0 (some 8) (Lf := fun oo => (o3, 0, [.ref oo 0 0 0 (some 8)]) :: (o2, 0, [.nils]) :: R) hS (fun _ => Rp.here) rfl (fun oo S hS => ?_)
 (repeat (first | refine a0k ?_ | refine g6 ?_ | refine b9 ?_ | refine i7 ?_))
 refine aS ?_
 refine b6 ?_
 refine g8 ?_
 (repeat (first | refine a0k ?_ | refine g6 ?_ | refine b9 ?_ | refine i7 ?_))
 refine a3k G.Funcs.length (fun i : Nat => [(2, .ptr o2 0 0), (3, .ptr o3 0 0), (8, .sl false 8 (G.Funcs.map b5.av))]) (fun i => (oo, i, flat b5.av (G.Funcs.take i)) :: (o3, 0, [.ref oo i 0 (G.Funcs.take i).length (some 8)]) :: (o2, 0, [.nils]) :: R) (fun i s => s = i) 0 hS rfl
  (by exact k9 ⟨.refl _, .refl _, .refl _, .refl _, .refl _, trivial⟩) zO zD zD (fun _ => ⟨rfl, rfl, rfl, rfl⟩) (fun i s S hi hI hS => ?_) (fun s fr' S hI hS hw => ?_)
 ·subst hI
  obtain ⟨g, hg⟩ : ∃ g, G.Funcs[s]? = some g := ⟨G.Funcs[s], List.getElem?_eq_getElem hi⟩
  have hgs := hGa g (List.mem_of_getElem? hg)
  unfold SmG at hgs
  simp only [Bool.and_eq_true, decide_eq_true_eq, List.all_eq_true] at hgs
  obtain ⟨⟨g1, g2, g3, g4⟩, g5⟩ := hgs
  refine aU ?_
  refine m7 rfl rfl (a6t hg) ?_
  refine oP (b5.av g) ?_
  refine a6G hS rfl (fun o5 S hS => ?_)
  refine E_stS hS rfl rfl (xv := b5.av g) Rp.here rfl rfl (by first | exact Nat.le_of_ble_eq_true rfl | (simp; omega) | omega) (fun S hS => ?_)
  replace hS : Ab.Sep S ((o5, 0, g.cells) :: (oo, s, flat b5.av (G.Funcs.take s)) :: (o3, 0, [.ref oo s 0 (G.Funcs.take s).length (some 8)]) :: (o2, 0, [.nils]) :: R) := hS
  refine aU ?_
  refine v8 hS rfl (.head _) (v := .sl false 1 (g.Params.map (avI .i64))) rfl ?_
  refine b0B (l := []) (m := g.Params) (f7 .i64) rfl (.inr rfl) (a2R _) ⟨by simp; omega, by simp; omega⟩ ?_
  refine aS ?_
  refine E_stS hS rfl (xv := .sl false 1 (g.Params.map (avI .i64))) rfl .here rfl rfl (by first | exact Nat.le_of_ble_eq_true rfl | (simp; omega) | omega) (fun S hS => ?_)
  replace hS : Ab.Sep S ((o5, 0, g.cells) :: (oo, s, flat b5.av (G.Funcs.take s)) :: (o3, 0, [.ref oo s 0 (G.Funcs.take s).length (some 8)]) :: (o2, 0, [.nils]) :: R) := hS
  refine aU ?_
  refine v8 hS rfl (.head _) (v := .sl false 1 (g.Kinds.map (avI .u8))) rfl ?_
  refine b0B (l := []) (m := g.Kinds) (f7 .u8) rfl (.inr rfl) (a2R _) ⟨by simp; omega, by simp; omega⟩ ?_
  refine aS ?_
  refine E_stS hS rfl (xv := .sl false 1 (g.Kinds.map (avI .u8))) rfl .here rfl rfl (by first | exact Nat.le_of_ble_eq_true rfl | (simp; omega) | omega) (fun S hS => ?_)
  replace hS : Ab.Sep S ((o5, 0, g.cells) :: (oo, s, flat b5.av (G.Funcs.take s)) :: (o3, 0, [.ref oo s 0 (G.Funcs.take s).length (some 8)]) :: (o2, 0, [.nils]) :: R) := hS
  refine aU ?_
  refine v8 hS rfl (.head _) (v := .sl false 1 (g.Init.map (avI .i64))) rfl ?_
  refine b0B (l := []) (m := g.Init) (f7 .i64) rfl (.inr rfl) (a2R _) ⟨by simp; omega, by simp; omega⟩ ?_
  refine aS ?_
  refine E_stS hS rfl (xv := .sl false 1 (g.Init.map (avI .i64))) rfl .here rfl rfl (by first | exact Nat.le_of_ble_eq_true rfl | (simp; omega) | omega) (fun S hS => ?_)
  replace hS : Ab.Sep S ((o5, 0, g.cells) :: (oo, s, flat b5.av (G.Funcs.take s)) :: (o3, 0, [.ref oo s 0 (G.Funcs.take s).length (some 8)]) :: (o2, 0, [.nils]) :: R) := hS
  refine aU ?_
  refine v8 hS rfl (.head _) (v := .sl false 12 (g.Nodes.map f8.av)) rfl ?_
  refine b8M (m := g.Nodes) hS f8.enc rfl (.inr rfl) (a2R _) ⟨by omega, by omega⟩ (fun on S hS => ?_)
  refine aS ?_
  refine E_stS hS rfl zC (.there .here) rfl rfl (by first | exact Nat.le_of_ble_eq_true rfl | (simp; omega) | omega) (fun S hS => ?_)
  refine aU ?_
  refine v8 hS rfl (.tail _ (.head _)) (v := .ref on 0 0 g.Nodes.length (some 12)) rfl ?_
  refine aS ?_
  refine b6 ?_
  refine g8 ?_
  (repeat (first | refine a0k ?_ | refine g6 ?_ | refine b9 ?_ | refine i7 ?_))
  replace hS : Ab.Sep S ((on, 0, flat f8.av g.Nodes) :: (o5, 0, g.cells.set 6 (.ref on 0 0 g.Nodes.length (some 12))) :: (oo, s, flat b5.av (G.Funcs.take s)) :: (o3, 0, [.ref oo s 0 (G.Funcs.take s).length (some 8)]) :: (o2, 0, [.nils]) :: R) := hS
  refine a3k g.Nodes.length (fun _ : Unit => [(2, .ptr o2 0 0), (3, .ptr o3 0 0), (5, .ptr o5 0 0), (8, .sl false 8 (G.Funcs.map b5.av)), (9, .int .i64 G.Funcs.length), (10, .int .i64 s)]) (fun _ => (on, 0, flat f8.av g.Nodes) :: (o5, 0, g.cells.set 6 (.ref on 0 0 g.Nodes.length (some 12))) :: (oo, s, flat b5.av (G.Funcs.take s)) :: (o3, 0, [.ref oo s 0 (G.Funcs.take s).length (some 8)]) :: (o2, 0, [.nils]) :: R) (fun i _ => True) () hS trivial
   (by exact k9 ⟨.refl _, .refl _, .refl _, .refl _, .refl _, .refl _, .refl _, .refl _, trivial⟩) zO zD zD (fun _ => ⟨rfl, rfl, rfl, rfl⟩) (fun i _ S hi hI hS => ?_) (fun _ fr' S hI hS hw => ?_)
  ·obtain ⟨nd, hnd⟩ : ∃ nd, g.Nodes[i]? = some nd := ⟨g.Nodes[i], List.getElem?_eq_getElem hi⟩
   have hn1 := g5 nd (List.mem_of_getElem? hnd)
   unfold SmN at hn1
   simp only [decide_eq_true_eq] at hn1
   (repeat (first | refine a0k ?_ | refine g6 ?_ | refine b9 ?_ | refine i7 ?_))
   refine aS ?_
   refine b6 ?_
   refine g8 ?_
   refine a3g ?_
   refine aS ?_
   refine v8 hS rfl (.tail _ (.head _)) (v := .ref on 0 0 g.Nodes.length (some 12)) rfl ?_
   refine aS ?_
   refine v8 hS rfl (.tail _ (.head _)) (v := .ref on 0 0 g.Nodes.length (some 12)) rfl ?_
   refine aS ?_
   refine p8 rfl rfl ⟨by omega, by omega⟩ ?_
   refine aS ?_
   refine a4n hS f8.enc rfl (.head _) (n := i) (fo := 9) (y := nd) (by simp [f5]) hnd (v := .sl false 1 (nd.Args.map (avI .i64))) rfl ?_
   refine b0B (l := []) (m := nd.Args) (f7 .i64) rfl (.inr rfl) (a2R _) ⟨by simp; omega, by simp; omega⟩ ?_
   refine p8 rfl rfl ⟨by omega, by omega⟩ ?_
   refine aS ?_
   refine a3l (l := g.Nodes) hS f8.enc rfl rfl (xv := .sl false 1 (nd.Args.map (avI .i64))) (n := i) (fo := 9) (y := nd) (y' := nd) (by simp [f5]) hnd .here rfl rfl (by simp [f5]) rfl (fun S hS => ?_)
   rw [b5x hnd] at hS
   refine b6 ?_
   refine And.intro (by simp [a1u, a6z, a0G, a1I]) ?_
   exact R_n () trivial hS (k9 ⟨.refl _, .refl _, .refl _, .refl _, .refl _, .refl _, .refl _, .refl _, trivial⟩)
  refine b8R (jx := 6) (L' := (o5, 0, g.cells) :: (oo, s, flat b5.av (G.Funcs.take s)) :: (o3, 0, [.ref oo s 0 (G.Funcs.take s).length (some 8)]) :: (o2, 0, [.nils]) :: R) f8.enc hw hS Pk.here rfl Rp.here (fun S hS => ?_)
  have ht : G.Funcs.take (s + 1) = G.Funcs.take s ++ [g] := by
   obtain ⟨q1, q2⟩ := List.getElem?_eq_some_iff.1 hg
   rw [← q2]; exact List.take_succ_eq_append_getElem q1
  refine aU ?_
  refine v8 hS rfl (.tail _ (.tail _ (.head _))) (v := .ref oo s 0 (G.Funcs.take s).length (some 8)) rfl ?_
  refine aS ?_
  refine v8 hS rfl (.head _) (v := b5.av g) rfl ?_
  refine aS ?_
  refine a8Q (o := oo) (ver := s) (l := G.Funcs.take s) (m := [g]) (j := []) hS b5.enc (by simp [ev, Fr.get]) rfl (by rw [List.append_nil]; exact .there .here) ⟨by simp; omega, by simp; omega⟩ (fun S hS => ?_)
  rw [← ht] at hS ⊢
  refine aS ?_
  refine E_stS hS rfl zC (.there (.there .here)) rfl rfl (by first | exact Nat.le_of_ble_eq_true rfl | (simp; omega) | omega) (fun S hS => ?_)
  refine aU ?_
  exact R_n (s + 1) rfl (hS.sub (List.sublist_cons_self _ _)) (k9 ⟨.refl _, .refl _, .refl _, .refl _, .refl _, trivial⟩)
 ·subst hI
  rw [List.take_length] at hS
  refine a3P hw ?_
  refine aU ?_
  refine v8 hS rfl (.tail _ (.head _)) (v := .agg [.ref oo G.Funcs.length 0 G.Funcs.length (some 8)]) rfl ?_
  refine E_stS hS rfl zC (.there (.there .here)) rfl rfl (by first | exact Nat.le_of_ble_eq_true rfl | (simp; omega) | omega) (fun S hS => ?_)
  refine aU ?_
  refine i8 ?_
  (repeat (first | refine o8 ?_ | refine r8 ?_ | refine s4 rfl ?_ | refine j4 ?_ | refine m0 ?_ | refine l6 ?_))
  have h2 : hp S o2 = .arr 0 [.ref oo G.Funcs.length 0 G.Funcs.length (some 8)] := hS.at (o := o2) (.tail _ (.tail _ (.head _)))
  refine ⟨trivial, .agg [.ref oo G.Funcs.length 0 G.Funcs.length (some 8)], ?_, _, ⟨oo, _, rfl, rfl⟩, hS.sub ?_⟩
  ·show (a4J (some 1) (.ptr o2 0 0) S).map (·.1) = _
   simp [a4J, z9, h2, a0A, splice]
  ·exact .cons_cons _ (List.sublist_append_right [_, _] R)
theorem b3T {G : c9} (hG : b4h G = true) : n5 Tryd.prog 12 [c9.av G] (c9.av G) := by
 obtain ⟨r, h1, rfl⟩ := Tri.pure (Q' := fun r => r = c9.av G) 2 (b5y hG) (fun v L' S hq hS => by
  obtain ⟨oo, ver, rfl, rfl⟩ := hq
  refine ⟨_, ?_, rfl⟩
  refine b8F ⟨?_, trivial⟩
  rw [a9P (j := []) b5.enc rfl rfl (by rw [List.append_nil]; exact hS.at (.head _))]
  exact .refl _)
 exact h1
end Go.Proofs.YtepdcebjobjjgaaDoor

/- scan.Assign: one answer; ScanAgain: the walk. -/
namespace Go.Proofs.YtepdcebjobjjgaaDoor
open Go Go.Ab
set_option maxRecDepth 20000
set_option maxHeartbeats 2000000
def b5z (G : c9) : Prop := ∀ g ∈ G.Funcs, ∀ k ∈ g.Kinds, 0 ≤ k
theorem d2O (G : c9) (f : Int) : a1z 0 [c9.av G, .int .i64 f] = true := j6 ⟨(c9.enc.blw _ 0), rfl, trivial⟩
theorem c6Q {G : c9} {f : Int} {g : b5} (hpos : b5z G) (hR : a1g G = true) (hg : x9 G.Funcs f = some g) :
  ∃ l : List Int, b8i g.Kinds (a0q g) l ∧ Ev Tryd.prog 8 [c9.av G, .int .i64 f] (hp []) (.tup [.ref 0 0 0 l.length none, .int .i64 0]) (hp [.arr 0 (flat (avI .i64) l)]) := by
 have h := a4W G f hpos
 unfold c6u at h
 simp only [if_pos hR, hg] at h
 obtain ⟨l, x, ⟨h1, rfl⟩, _, h3⟩ := Tri.base (f7 .i64) (Q := fun l x => b8i g.Kinds (a0q g) l ∧ x = .int .i64 0) (h.mono fun r L' ⟨oo, O, h1, h2, h3⟩ => ⟨oo, O, .int .i64 0, h1, rfl, h2, h3, rfl⟩)
 exact ⟨l, h1, h3⟩
open Classical in
noncomputable def a2T (G : c9) (f : Int) : List Int := if h : ∃ l : List Int, Ev Tryd.prog 8 [c9.av G, .int .i64 f] (hp []) (.tup [.ref 0 0 0 l.length none, .int .i64 0]) (hp [.arr 0 (flat (avI .i64) l)]) ∧ a1g G = true ∧ ∃ g, x9 G.Funcs f = some g ∧ b8i g.Kinds (a0q g) l then h.choose else []
def a9t (G : c9) (f : Int) : Int := if a1g G = true then (match x9 G.Funcs f with | some _ => 0 | none => 2) else 70
def d6m (G : c9) (f : Int) (r : AV) (L' : List It) : Prop :=
 (∃ oo, r = .tup [.ref oo 0 0 (a2T G f).length none, .int .i64 (a9t G f)] ∧ L' = [(oo, 0, flat (avI .i64) (a2T G f))]) ∨ (r = .tup [.nils, .int .i64 (a9t G f)] ∧ L' = [] ∧ a2T G f = [])
theorem a8g {G : c9} {f : Int} {g : b5} (hpos : b5z G) (hR : a1g G = true) (hg : x9 G.Funcs f = some g) : b8i g.Kinds (a0q g) (a2T G f) ∧ Ev Tryd.prog 8 [c9.av G, .int .i64 f] (hp []) (.tup [.ref 0 0 0 (a2T G f).length none, .int .i64 0]) (hp [.arr 0 (flat (avI .i64) (a2T G f))]) := by
 obtain ⟨l, h1, h2⟩ := c6Q hpos hR hg
 have hex : ∃ l : List Int, Ev Tryd.prog 8 [c9.av G, .int .i64 f] (hp []) (.tup [.ref 0 0 0 l.length none, .int .i64 0]) (hp [.arr 0 (flat (avI .i64) l)]) ∧ a1g G = true ∧ ∃ g, x9 G.Funcs f = some g ∧ b8i g.Kinds (a0q g) l := ⟨l, h2, hR, g, hg, h1⟩
 have e : a2T G f = hex.choose := by unfold a2T; rw [dif_pos hex]
 obtain ⟨k1, _, g', k2, k3⟩ := hex.choose_spec
 rw [e]
 rw [hg] at k2; cases k2
 exact ⟨k3, k1⟩
theorem b0i {G : c9} (f : Int) (hpos : b5z G) : Tri Tryd.prog 8 [c9.av G, .int .i64 f] [] (d6m G f) := by
 by_cases hR : a1g G = true
 ·cases hg : x9 G.Funcs f with
  | some g =>
    have h := (a8g hpos hR hg).2.tri1 (f7 .i64) (d2O G f) rfl
    refine h.mono fun r L' ⟨oo, h1, h2⟩ => .inl ⟨oo, ?_, h2⟩
    rw [h1]; unfold a9t; rw [if_pos hR, hg]
  | none =>
    have h := a4W G f hpos
    unfold c6u at h
    simp only [if_pos hR, hg] at h
    refine h.mono fun r L' ⟨h1, h2⟩ => .inr ⟨?_, h2, ?_⟩
    ·rw [h1]; unfold a9t; rw [if_pos hR, hg]
    ·unfold a2T; rw [dif_neg]; rintro ⟨l, _, _, g, h, _⟩; rw [hg] at h; cases h
 ·have h := a4W G f hpos
  unfold c6u at h
  simp only [if_neg hR] at h
  refine h.mono fun r L' ⟨h1, h2⟩ => .inr ⟨?_, h2, ?_⟩
  ·rw [h1]; unfold a9t; rw [if_neg hR]
  ·unfold a2T; rw [dif_neg]; rintro ⟨l, _, h, _⟩; exact hR h
theorem b5A {G : c9} {f : Int} (hpos : b5z G) : (a2T G f).length ≤ 1024 := by
 by_cases hR : a1g G = true
 ·cases hg : x9 G.Funcs f with
  | some g =>
    obtain ⟨m, c, h, S, _, h2, _⟩ := (a8g hpos hR hg).1
    obtain ⟨h0, h1, h3⟩ := j3 hg
    obtain ⟨_, hhd, _⟩ := a2M hR g (List.mem_of_getElem? h3)
    rw [h2.ol]
    exact (a0r hhd).1
  | none => unfold a2T; rw [dif_neg]; exact Nat.zero_le _; rintro ⟨l, _, _, g, h, _⟩; rw [hg] at h; cases h
 ·unfold a2T; rw [dif_neg]; exact Nat.zero_le _; rintro ⟨l, _, h, _⟩; exact hR h
theorem b1d {a b : List Int} {oa va ob vb : Nat} (hl : a.length ≤ 1000000000) (hl2 : b.length ≤ 1000000000) :
  Tri Tryd.prog 13 [.ref oa va 0 a.length none, .ref ob vb 0 b.length none] [(oa, va, flat (avI .i64) a), (ob, vb, flat (avI .i64) b)] (fun r L' => r = .bool (decide (a = b)) ∧ L' = [(oa, va, flat (avI .i64) a), (ob, vb, flat (avI .i64) b)]) := by
 refine y5 mixed d4n zS [] (fun R S hS => ?_)
 refine aU ?_
 refine o6 rfl (fun hb => ?_) (fun hb => ?_)
 ·have hne : a ≠ b := fun e => by rw [e] at hb; simp at hb
  refine aU ?_
  refine i8 ?_
  (repeat (first | refine o8 ?_ | refine r8 ?_ | refine s4 rfl ?_ | refine j4 ?_ | refine m0 ?_ | refine l6 ?_))
  exact ⟨trivial, .bool false, rfl, _, ⟨by rw [decide_eq_false hne], rfl⟩, hS⟩
 ·have hl3 : a.length = b.length := by simp only [bne_eq_false_iff_eq] at hb; omega
  refine aU ?_
  refine a3k a.length (fun _ : Unit => [(0, .ref oa va 0 a.length none), (1, .ref ob vb 0 b.length none)]) (fun _ => (oa, va, flat (avI .i64) a) :: (ob, vb, flat (avI .i64) b) :: R) (fun i _ => ∀ k, k < i → a[k]? = b[k]?) () hS (fun k hk => absurd hk (Nat.not_lt_zero k))
   (by exact k9 ⟨.refl _, .refl _, .refl _, .refl _, trivial⟩) zO zD zD (fun _ => ⟨rfl, rfl, rfl, rfl⟩) (fun i _ S hi hI hS => ?_) (fun _ fr' S hI hS hw => ?_)
  ·obtain ⟨x, hx⟩ : ∃ x, a[i]? = some x := ⟨a[i], List.getElem?_eq_getElem hi⟩
   obtain ⟨y, hy⟩ : ∃ y, b[i]? = some y := ⟨b[i], List.getElem?_eq_getElem zO⟩
   refine aU ?_
   refine p8 rfl rfl ⟨by omega, by omega⟩ ?_
   refine a4n hS (f7 .i64) rfl (.head _) (n := i) (fo := 0) (y := x) (by simp [f5]) hx (v := .int .i64 x) rfl ?_
   refine aS ?_
   refine p8 rfl rfl ⟨by omega, by omega⟩ ?_
   refine a4n hS (f7 .i64) rfl (.tail _ (.head _)) (n := i) (fo := 0) (y := y) (by simp [f5]) hy (v := .int .i64 y) rfl ?_
   refine aU ?_
   refine o6 rfl (fun hb => ?_) (fun hb => ?_)
   ·have hne : a ≠ b := fun e => by rw [e, hy] at hx; cases hx; simp at hb
    refine aU ?_
    refine i8 ?_
    refine R_r ?_
    (repeat (first | refine o8 ?_ | refine r8 ?_ | refine s4 rfl ?_ | refine j4 ?_ | refine m0 ?_ | refine l6 ?_))
    exact ⟨trivial, .bool false, rfl, _, ⟨by rw [decide_eq_false hne], rfl⟩, hS⟩
   ·have he : x = y := by simpa using hb
    refine aU ?_
    refine R_n () (fun k hk => ?_) hS (k9 ⟨.refl _, .refl _, .refl _, .refl _, trivial⟩)
    by_cases e : k = i
    ·subst e; rw [hx, hy, he]
    ·exact hI k zO
  ·have he : a = b := by
    apply List.ext_getElem?
    intro k
    by_cases hk : k < a.length
    ·exact hI k hk
    ·rw [List.getElem?_eq_none zO, List.getElem?_eq_none zO]
   refine a3P hw ?_
   refine aU ?_
   refine i8 ?_
   (repeat (first | refine o8 ?_ | refine r8 ?_ | refine s4 rfl ?_ | refine j4 ?_ | refine m0 ?_ | refine l6 ?_))
   exact ⟨trivial, .bool true, rfl, _, ⟨by rw [decide_eq_true he], rfl⟩, hS⟩
def b6m (G : c9) : Bool := G.Funcs.all fun g => g.Kinds.all fun k => decide (0 ≤ k)
theorem a3A {G : c9} : b6m G = true ↔ b5z G := by
 unfold b6m b5z
 simp only [List.all_eq_true, decide_eq_true_eq]
noncomputable def a1E (G : c9) (f : Int) : Option (List Int × Int) := if b6m G = true then some (a2T G f, a9t G f) else none
theorem a6K {g_00 : c9} {f_01 : Int} {r : List Int × Int} (h : a1E g_00 f_01 = some r) : n5 Tryd.prog 8 [(c9.av g_00), (.int .i64 f_01)] (.tup [(.sl false 1 (List.map (avI .i64) r.1)), (.int .i64 r.2)]) := by
 unfold a1E at h
 split at h
 case isFalse => cases h
 rename_i hp
 cases h
 obtain ⟨r, h1, rfl⟩ := Tri.pure (Q' := fun r => r = .tup [(.sl false 1 (List.map (avI .i64) (a2T g_00 f_01))), (.int .i64 (a9t g_00 f_01))]) 2 (b0i f_01 (a3A.1 hp)) (fun v L' S hq hS => by
  rcases hq with ⟨oo, rfl, rfl⟩ | ⟨rfl, rfl, e⟩
  ·refine ⟨.tup [(.sl false 1 (List.map (avI .i64) (a2T g_00 f_01))), (.int .i64 (a9t g_00 f_01))], a5Z ⟨?_, a0S rfl (.refl _), trivial⟩, rfl⟩
   rw [a9P (j := []) (f7 .i64) rfl rfl (by rw [List.append_nil]; exact hS.at (.head _))]
   exact .refl _
  ·rw [e]
   exact ⟨.tup [(.sl false 1 (List.map (avI .i64) [])), (.int .i64 (a9t g_00 f_01))], a5Z ⟨a0S rfl .nil, a0S rfl (.refl _), trivial⟩, rfl⟩)
 exact h1
end Go.Proofs.YtepdcebjobjjgaaDoor

