/- BuildAgain: the walk. -/
import Derived.Test.YtnpemocpfdgaoaaBaP9
import Derived.Test.YtnpemocpfdgaoaaGenR5
import Derived.Test.YtnpemocpfdgaoaaBaW3
import Derived.Test.YtnpemocpfdgaoaaWlH2
import Derived.WalkKit
import Derived.ProofKit
import Derived.OpenShut
import Derived.JoinedCond
set_option linter.unusedVariables false
set_option linter.unusedSimpArgs false
namespace Go.Proofs.Ytnpemocpfdgaoaa
open Go Go.Ab
set_option maxRecDepth 20000
set_option maxHeartbeats 2000000
def c8c : FC := .reg [⟨(some 2), none, .op (.box (.t 0))⟩,  ⟨(some 3), none, .op (.box (.t 1))⟩,  ⟨(some 4), none, .op (.mv (.v (.bool false)))⟩] []
def c8d : FC := .reg [⟨(some 15), none, .call 12 []⟩,  ⟨(some 16), none, .op (.un .not (.t 15))⟩] []
def c8e : FC := .reg [⟨(some 4), none, .op (.mv (.v (.bool false)))⟩] []
def c8f : FC := .seq c8e FC.ret
def c8g : FC := .cond (.t 16) c8f FC.skip
def c8h : FC := .seq c8d c8g
def c8i : FC := .reg [⟨(some 18), none, .op (.load (some 1) (.t 2))⟩,  ⟨(some 19), none, .call 13 [(.t 18)]⟩,  ⟨(some 17), none, .op (.mv (.t 19))⟩,  ⟨(some 20), none, .op (.ext 0 (.t 17))⟩,  ⟨(some 21), none, .op (.ext 1 (.t 17))⟩,  ⟨(some 5), none, .op (.new [.nils])⟩,  ⟨none, none, .op (.store 1 (.t 5) (.t 20))⟩,  ⟨(some 6), none, .op (.mv (.t 21))⟩] []
def c8j : FC := .reg [⟨(some 22), none, .op (.load (some 1) (.t 3))⟩,  ⟨(some 23), none, .call 13 [(.t 22)]⟩] []
def c8k : FC := .reg [⟨(some 25), none, .op (.load (some 1) (.t 2))⟩,  ⟨(some 26), none, .call 17 [(.t 25)]⟩,  ⟨(some 27), none, .call 13 [(.t 26)]⟩,  ⟨(some 24), none, .op (.mv (.t 27))⟩,  ⟨(some 28), none, .op (.ext 0 (.t 24))⟩,  ⟨(some 29), none, .op (.ext 1 (.t 24))⟩,  ⟨(some 7), none, .op (.new [.nils])⟩,  ⟨none, none, .op (.store 1 (.t 7) (.t 28))⟩,  ⟨(some 8), none, .op (.mv (.t 29))⟩] []
def c4q : FC := .reg [⟨(some 30), none, .op (.mv (.t 6))⟩,  ⟨(some 31), none, .op (.mv (.t 8))⟩,  ⟨(some 32), none, .op (.bin .none .neq (.t 30) (.t 31))⟩,  ⟨(some 33), none, .op (.mv (.t 32))⟩,  ⟨(some 34), some (33, false), .op (.load (some 1) (.t 5))⟩,  ⟨(some 35), some (33, false), .op (.load (some 1) (.t 7))⟩,  ⟨(some 36), some (33, false), .call 19 [(.t 34), (.t 35)]⟩,  ⟨(some 37), some (33, false), .op (.un .not (.t 36))⟩,  ⟨(some 38), none, .op (.pick (.t 33) (.v (.bool true)) (.t 37))⟩] []
def c4r : FC := .reg [⟨(some 4), none, .op (.mv (.v (.bool false)))⟩] []
def c4s : FC := .seq c4r FC.ret
def c4t : FC := .cond (.t 38) c4s FC.skip
def c4u : FC := .seq c4q c4t
def c4v : FC := .reg [⟨(some 39), none, .op (.fad 0 (.t 5))⟩,  ⟨(some 40), none, .op (.load none (.t 39))⟩,  ⟨(some 41), none, .op (.len .sl (.t 40))⟩,  ⟨(some 42), none, .op (.mv (.v (.int .i64 0)))⟩] []
def c4w : FC := .reg [⟨(some 44), none, .op (.mv (.t 42))⟩,  ⟨(some 9), none, .op (.mv (.t 44))⟩] []
def c4x : FC := .reg [⟨(some 45), none, .op (.fad 0 (.t 5))⟩,  ⟨(some 46), none, .op (.load none (.t 45))⟩,  ⟨(some 47), none, .op (.mv (.t 9))⟩,  ⟨(some 48), none, .op (.iad none (some 8) (.t 46) (.t 47))⟩,  ⟨(some 49), none, .op (.fad 6 (.t 48))⟩,  ⟨(some 50), none, .op (.load none (.t 49))⟩,  ⟨(some 51), none, .op (.len .sl (.t 50))⟩,  ⟨(some 52), none, .op (.mv (.v (.int .i64 0)))⟩] []
def c4y : FC := .reg [⟨(some 54), none, .op (.mv (.t 52))⟩,  ⟨(some 10), none, .op (.mv (.t 54))⟩] []
def c4z : FC := .reg [⟨(some 55), none, .op (.fad 0 (.t 5))⟩,  ⟨(some 56), none, .op (.load none (.t 55))⟩,  ⟨(some 57), none, .op (.mv (.t 9))⟩,  ⟨(some 58), none, .op (.iad none (some 8) (.t 56) (.t 57))⟩,  ⟨(some 59), none, .op (.fad 6 (.t 58))⟩,  ⟨(some 60), none, .op (.load none (.t 59))⟩,  ⟨(some 61), none, .op (.mv (.t 10))⟩,  ⟨(some 62), none, .op (.iad none (some 12) (.t 60) (.t 61))⟩,  ⟨(some 63), none, .op (.fad 10 (.t 62))⟩,  ⟨none, none, .op (.store 1 (.t 63) (.v (.int .i64 (-5))))⟩] []
def c4A : FC := .reg [⟨(some 64), none, .op (.fad 0 (.t 5))⟩,  ⟨(some 65), none, .op (.load none (.t 64))⟩,  ⟨(some 66), none, .op (.mv (.t 9))⟩,  ⟨(some 67), none, .op (.iad none (some 8) (.t 65) (.t 66))⟩,  ⟨(some 68), none, .op (.fad 6 (.t 67))⟩,  ⟨(some 69), none, .op (.load none (.t 68))⟩,  ⟨(some 70), none, .op (.mv (.t 10))⟩,  ⟨(some 71), none, .op (.iad none (some 12) (.t 69) (.t 70))⟩,  ⟨(some 72), none, .op (.fad 9 (.t 71))⟩,  ⟨(some 73), none, .op (.load none (.t 72))⟩,  ⟨(some 74), none, .op (.len .sl (.t 73))⟩,  ⟨(some 75), none, .op (.mv (.v (.int .i64 0)))⟩] []
def c4B : FC := .reg [⟨(some 77), none, .op (.mv (.t 75))⟩,  ⟨(some 11), none, .op (.mv (.t 77))⟩] []
def c4C : FC := .reg [⟨(some 78), none, .op (.fad 0 (.t 5))⟩,  ⟨(some 79), none, .op (.load none (.t 78))⟩,  ⟨(some 80), none, .op (.mv (.t 9))⟩,  ⟨(some 81), none, .op (.iad none (some 8) (.t 79) (.t 80))⟩,  ⟨(some 82), none, .op (.fad 6 (.t 81))⟩,  ⟨(some 83), none, .op (.load none (.t 82))⟩,  ⟨(some 84), none, .op (.mv (.t 10))⟩,  ⟨(some 85), none, .op (.iad none (some 12) (.t 83) (.t 84))⟩,  ⟨(some 86), none, .op (.fad 9 (.t 85))⟩,  ⟨(some 87), none, .op (.load none (.t 86))⟩,  ⟨(some 88), none, .op (.mv (.t 11))⟩,  ⟨(some 89), none, .op (.iad none none (.t 87) (.t 88))⟩,  ⟨none, none, .op (.store 1 (.t 89) (.v (.int .i64 (-5))))⟩] []
def c4D : FC := .seq c4B c4C
def c4E : FC := .loop (.seq (.reg [⟨(some 76), none, .op (.bin .none .lss (.t 75) (.t 74))⟩] []) (.seq (.cond (.t 76) .skip (.exit 4)) (.seq (.block 5 c4D) (.reg [⟨(some 90), none, .op (.bin .none .add (.t 75) (.v (.int .i64 1)))⟩,  ⟨(some 75), none, .op (.mv (.t 90))⟩] []))))
def c4F : FC := .block 4 c4E
def c4G : FC := .seq c4A c4F
def c4H : FC := .seq c4z c4G
def c4I : FC := .seq c4y c4H
def c4J : FC := .loop (.seq (.reg [⟨(some 53), none, .op (.bin .none .lss (.t 52) (.t 51))⟩] []) (.seq (.cond (.t 53) .skip (.exit 2)) (.seq (.block 3 c4I) (.reg [⟨(some 91), none, .op (.bin .none .add (.t 52) (.v (.int .i64 1)))⟩,  ⟨(some 52), none, .op (.mv (.t 91))⟩] []))))
def c4K : FC := .block 2 c4J
def c4L : FC := .seq c4x c4K
def c4M : FC := .reg [⟨(some 92), none, .op (.fad 0 (.t 5))⟩,  ⟨(some 93), none, .op (.load none (.t 92))⟩,  ⟨(some 94), none, .op (.mv (.t 9))⟩,  ⟨(some 95), none, .op (.iad none (some 8) (.t 93) (.t 94))⟩,  ⟨(some 96), none, .op (.fad 1 (.t 95))⟩,  ⟨(some 97), none, .op (.load none (.t 96))⟩,  ⟨(some 98), none, .op (.len .sl (.t 97))⟩,  ⟨(some 99), none, .op (.mv (.v (.int .i64 0)))⟩] []
def c4N : FC := .reg [⟨(some 101), none, .op (.mv (.t 99))⟩,  ⟨(some 12), none, .op (.mv (.t 101))⟩] []
def c4O : FC := .reg [⟨(some 102), none, .op (.fad 0 (.t 5))⟩,  ⟨(some 103), none, .op (.load none (.t 102))⟩,  ⟨(some 104), none, .op (.mv (.t 9))⟩,  ⟨(some 105), none, .op (.iad none (some 8) (.t 103) (.t 104))⟩,  ⟨(some 106), none, .op (.fad 1 (.t 105))⟩,  ⟨(some 107), none, .op (.load none (.t 106))⟩,  ⟨(some 108), none, .op (.mv (.t 12))⟩,  ⟨(some 109), none, .op (.iad none none (.t 107) (.t 108))⟩,  ⟨(some 110), none, .op (.load none (.t 109))⟩,  ⟨(some 111), none, .op (.bin .none .xor (.t 110) (.v (.int .u8 1)))⟩,  ⟨(some 112), none, .op (.iad none none (.t 107) (.t 108))⟩,  ⟨none, none, .op (.store 1 (.t 112) (.t 111))⟩] []
def c4P : FC := .seq c4N c4O
def c4Q : FC := .loop (.seq (.reg [⟨(some 100), none, .op (.bin .none .lss (.t 99) (.t 98))⟩] []) (.seq (.cond (.t 100) .skip (.exit 6)) (.seq (.block 7 c4P) (.reg [⟨(some 113), none, .op (.bin .none .add (.t 99) (.v (.int .i64 1)))⟩,  ⟨(some 99), none, .op (.mv (.t 113))⟩] []))))
def c4R : FC := .block 6 c4Q
def c4S : FC := .seq c4M c4R
def c4T : FC := .seq c4L c4S
def c4U : FC := .seq c4w c4T
def c4V : FC := .loop (.seq (.reg [⟨(some 43), none, .op (.bin .none .lss (.t 42) (.t 41))⟩] []) (.seq (.cond (.t 43) .skip (.exit 0)) (.seq (.block 1 c4U) (.reg [⟨(some 114), none, .op (.bin .none .add (.t 42) (.v (.int .i64 1)))⟩,  ⟨(some 42), none, .op (.mv (.t 114))⟩] []))))
def c4W : FC := .block 0 c4V
def c4X : FC := .seq c4v c4W
def c4Y : FC := .reg [⟨(some 116), none, .op (.load (some 1) (.t 2))⟩,  ⟨(some 117), none, .call 13 [(.t 116)]⟩,  ⟨(some 115), none, .op (.mv (.t 117))⟩,  ⟨(some 118), none, .op (.ext 0 (.t 115))⟩,  ⟨(some 119), none, .op (.ext 1 (.t 115))⟩,  ⟨(some 13), none, .op (.new [.nils])⟩,  ⟨none, none, .op (.store 1 (.t 13) (.t 118))⟩,  ⟨(some 14), none, .op (.mv (.t 119))⟩] []
def c4Z : FC := .reg [⟨(some 120), none, .op (.load (some 1) (.t 7))⟩,  ⟨(some 121), none, .op (.load (some 1) (.t 13))⟩,  ⟨(some 122), none, .call 19 [(.t 120), (.t 121)]⟩,  ⟨(some 4), none, .op (.mv (.t 122))⟩] []
def c5a : FC := .seq c4Z FC.ret
def c5b : FC := .seq c4Y c5a
def c5c : FC := .seq c4X c5b
def c5d : FC := .seq c4u c5c
def c5e : FC := .seq c8k c5d
def c5f : FC := .seq c8j c5e
def c5g : FC := .seq c8i c5f
def c5h : FC := .seq c8h c5g
def c5i : FC := .seq c8c c5h
def fc5 : FC := c5i
theorem fn5 : Fn3 Try.prog 5 123 [(4, none)] fc5 := ⟨_, _, Try.func5, rfl, rfl, rfl, by kernel_rfl⟩

theorem b1v {fuel : Nat} {p : Program} {gs : List a9} (h : k8 fuel p = some (⟨gs⟩, 0)) :
  Tri Try.prog 13 [Program.av p] [] (fun x L' => ∃ (l : List QG) (gl : Nat), GOK l gs /\ x = .tup [.agg [.ref gl l.length 0 l.length (some 8)], .int .i64 0] /\ L' = (gl, l.length, gC l) :: gI l) := by
 unfold k8 at h
 cases hk : r7 1048577 p with
 | none => rw [hk] at h; cases h
 | some oe =>
   obtain ⟨o, e⟩ := oe
   rw [hk] at h
   dsimp only at h
   by_cases he : e ≠ 0
   ·rw [if_pos he] at h
    exact absurd (Prod.mk.inj (Option.some.inj h)).2 he
   ·rw [if_neg he] at h
    have he0 : e = 0 := by simpa using he
    subst he0
    cases o with
    | none => cases h
    | some T =>
      dsimp only at h
      split at h
      ·rename_i hb
       obtain ⟨gs', hg, hgs⟩ := Option.map_eq_some_iff.1 h
       obtain rfl : gs' = gs := by simpa using hgs
       unfold b5Q b5R at hb
       simp only [Bool.and_eq_true, decide_eq_true_eq, List.all_eq_true] at hb
       exact a9r hk (fun f hf => ⟨(hb.1.2 f hf).1, (hb.1.2 f hf).2.1, (hb.1.2 f hf).2.2.1, (hb.1.2 f hf).2.2.2.1, (hb.1.2 f hf).2.2.2.2⟩) hb.1.1 hb.2.1 hb.2.2 hg
      ·cases h
def szG (l : List QG) : Prop := ∀ G ∈ l, G.qs.length <= 1000000000 /\ G.g.Kinds.length <= 1000000000 /\ ∀ q ∈ G.qs, q.n.Args.length <= 1000000000
theorem a8c {l : List QG} {i : Nat} {G' : QG} (h : szG l) (h1 : G'.qs.length <= 1000000000 /\ G'.g.Kinds.length <= 1000000000 /\ ∀ q ∈ G'.qs, q.n.Args.length <= 1000000000) : szG (l.set i G') := fun G hG => by
 rcases List.mem_or_eq_of_mem_set hG with h2 | rfl
 ·exact h G h2
 ·exact h1
theorem b5B {qs : List QN} {k : Nat} {q q' : QN} (h : qs[k]? = some q) (hq : q'.its = q.its) : qI (qs.set k q') = qI qs := by
 obtain ⟨A, B, h1, h2⟩ := a8M h
 rw [h1, h2 q', hq]
theorem a7u {α : Type} {l : List α} {i : Nat} {x y : α} (h : l[i]? = some x) : (l.set i y)[i]? = some y := by
 rw [List.getElem?_set_self (List.getElem?_eq_some_iff.1 h).1]
theorem a8N {α : Type} {l : List α} {i : Nat} {y : α} {P : α -> Prop} (h : ∀ z ∈ l, P z) (hy : P y) : ∀ z ∈ l.set i y, P z := fun z hz => by
 rcases List.mem_or_eq_of_mem_set hz with h2 | rfl
 ·exact h z h2
 ·exact hy
abbrev agF (m o2 o5 o7 : Nat) : Fr := [(2, .ptr o2 0 0), (5, .ptr o5 0 0), (7, .ptr o7 0 0)]
abbrev agL (m o5 o7 gl : Nat) (gs : List a9) (R : List It) (l : List QG) : List It := (o7, 0, [.sl false 8 (gs.map a9.av)]) :: (o5, 0, [.ref gl m 0 m (some 8)]) :: (gl, m, gC l) :: (gI l ++ R)
theorem c1M {fuel : Nat} {p q : Program} {gs : List a9} {r2 : c9 × Int} (h1 : k8 0 p = some (⟨gs⟩, 0)) (h2 : k8 0 q = some r2) (h3 : t4 p = some p) (h4 : t0 ⟨gs⟩ ⟨gs⟩ = some true) (hgl : gs.length <= 1000000000)
  (hsz : ∀ g ∈ gs, g.Nodes.length <= 1000000000 /\ g.Kinds.length <= 1000000000 /\ ∀ n ∈ g.Nodes, n.Args.length <= 1000000000) :
  Tri Try.prog 5 [Program.av p, Program.av q] [] (fun x L' => x = .bool true /\ L' = []) := by
 refine j7 mixed fn5 zS [2, 3, 5, 7, 13] (fun R S hS => ?_)
 refine aU ?_
 refine a3J hS rfl (xv := Program.av p) rfl rfl (fun o2 S hS => ?_)
 refine aU ?_
 refine a3J hS rfl (xv := Program.av q) rfl rfl (fun o3 S hS => ?_)
 refine aU ?_
 refine a0x a7s rfl rfl rfl ?_
 refine aU ?_
 refine E_cs (t := false) rfl (fun h => by cases h) (fun _ => ?_)
 refine aU ?_
 refine b7 hS rfl (.tail _ (.head _)) (v := Program.av p) rfl ?_
 refine aU ?_
 refine a2S (b1v h1) hS rfl Spl.nil (fun x S L' hL hS => ?_)
 obtain ⟨l0, gl, hG, rfl, rfl⟩ := hL
 obtain ⟨m, hm⟩ : ∃ m, m = l0.length := ⟨_, rfl⟩
 rw [<- hm] at hS ⊢
 refine aU ?_
 refine z7 hS rfl (fun o5 S hS => ?_)
 refine E_stS hS rfl (xv := .agg [.ref gl m 0 m (some 8)]) rfl Rp.here rfl rfl zqV (fun S hS => ?_)
 refine aU ?_
 refine b7 hS rfl (.tail _ (.tail _ (List.mem_append_right _ (.head _)))) (v := Program.av q) rfl ?_
 refine aU ?_
 refine a0x (u5 h2) rfl (f9 ⟨Program.enc.blw q 0, trivial⟩) (a0i ⟨c9.enc.blw r2.1 0, rfl, trivial⟩) ?_
 refine aU ?_
 refine b7 hS rfl (.tail _ (.tail _ (List.mem_append_right _ (.tail _ (.head _))))) (v := Program.av p) rfl ?_
 refine aU ?_
 refine a0x (a0P h3) rfl (f9 ⟨Program.enc.blw p 0, trivial⟩) (Program.enc.blw p 0) ?_
 refine aU ?_
 refine a0x (u5 h1) rfl (f9 ⟨Program.enc.blw p 0, trivial⟩) (a0i ⟨c9.enc.blw ⟨gs⟩ 0, rfl, trivial⟩) ?_
 refine aU ?_
 refine z7 hS rfl (fun o7 S hS => ?_)
 refine E_stS hS rfl (xv := c9.av ⟨gs⟩) rfl Rp.here rfl rfl zqV (fun S hS => ?_)
 refine aU ?_
 refine b7 hS rfl (.tail _ (.head _)) (v := .agg [.ref gl m 0 m (some 8)]) rfl ?_
 refine aU ?_
 refine b7 hS rfl (.head _) (v := c9.av ⟨gs⟩) rfl ?_
 refine aU ?_
 have hfz : AVw (frz 0 S 4 (.agg [.ref gl m 0 m (some 8)])) (c9.av ⟨gs⟩) := by
  rw [hm] at hS ⊢
  exact c1L hS hG (.tail _ (.tail _ (.head _))) (fun G hG x hx => .tail _ (.tail _ (.tail _ (List.mem_append_left _ (b5A G hG x hx)))))
 refine a7J (p3.look (S := S) (args := [.agg [.ref gl m 0 m (some 8)], c9.av ⟨gs⟩]) 4 (v8 h4) ⟨hfz, by rw [a4G (c9.enc.blw ⟨gs⟩ 0)]; exact .refl _, trivial⟩) rfl ?_
 refine aU ?_
 refine E_cs (t := false) rfl (fun h => by cases h) (fun _ => ?_)
 refine aU ?_
 refine b7 hS rfl (.tail _ (.head _)) (v := .ref gl m 0 m (some 8)) rfl ?_
 refine aU ?_
 have hz0 : szG l0 := fun G hGl => by
  obtain ⟨e1, e2⟩ := hG
  have hg : G.g ∈ gs := by rw [<- e1]; exact List.mem_map_of_mem hGl
  obtain ⟨a1, a2, a3⟩ := hsz _ hg
  obtain ⟨b1, b2⟩ := e2 _ hGl
  have hl : G.qs.length = G.g.Nodes.length := by rw [<- b1, List.length_map]
  exact ⟨by omega, a2, fun q hq => a3 _ (by rw [<- b1]; exact List.mem_map_of_mem hq)⟩
 have hml : m <= 1000000000 := by
  have h9 : (l0.map QG.g).length = gs.length := by rw [hG.1]
  rw [List.length_map] at h9
  omega
 refine a1i m (fun _ : List QG => agF m o2 o5 o7) (agL m o5 o7 gl gs ((o3, 0, (Program.av q).cells) :: (o2, 0, (Program.av p).cells) :: ([] ++ R))) (fun _ l => l.length = m /\ szG l) l0 hS ⟨hm.symm, hz0⟩ wF zO zD zD (fun _ => ⟨rfl, rfl, rfl, rfl⟩) (fun i l S hi hI hS => ?_) (fun l fr' S hI hS hw => ?_)
 ·obtain ⟨hlen, hz⟩ := hI
  obtain ⟨G, hGi⟩ : ∃ G, l[i]? = some G := ⟨_, List.getElem?_eq_getElem zO⟩
  refine aU ?_
  refine b7 hS rfl (.tail _ (.head _)) (v := .ref gl m 0 m (some 8)) rfl ?_
  refine aU ?_
  refine s6 rfl rfl i rfl zO ?_
  refine aU ?_
  refine b7 hS rfl (.tail _ (.tail _ (.head _))) (v := .ref G.no G.qs.length 0 G.qs.length (some 12)) (a9s (c := 6) hGi rfl) ?_
  refine aU ?_
  have hG1 := hz G (List.mem_of_getElem? hGi)
  obtain ⟨mm, hmm⟩ : ∃ mm, G.qs.length = mm := ⟨_, rfl⟩
  rw [hmm]
  refine a1i mm (fun _ : List QG => (9, .int .i64 i) :: (42, .int .i64 i) :: (41, .int .i64 m) :: agF m o2 o5 o7) (agL m o5 o7 gl gs ((o3, 0, (Program.av q).cells) :: (o2, 0, (Program.av p).cells) :: ([] ++ R))) (fun _ l => l.length = m /\ szG l /\ ∃ G, l[i]? = some G /\ G.qs.length = mm) l hS ⟨hlen, hz, G, hGi, hmm⟩ wF zO zD zD (fun _ => ⟨rfl, rfl, rfl, rfl⟩) (fun k l S hk hI hS => ?_) (fun l fr' S hI hS hw => ?_)
  ·clear hlen hz hGi hG1 hmm
   obtain ⟨hlen, hz, G, hGi, hmm⟩ := hI
   have hG1 := hz G (List.mem_of_getElem? hGi)
   obtain ⟨⟨n, b, a⟩, hqk⟩ : ∃ q, G.qs[k]? = some q := ⟨_, List.getElem?_eq_getElem zO⟩
   refine aU ?_
   refine b7 hS rfl (.tail _ (.head _)) (v := .ref gl m 0 m (some 8)) rfl ?_
   refine aU ?_
   refine s6 rfl rfl i rfl zO ?_
   refine aU ?_
   refine b7 hS rfl (.tail _ (.tail _ (.head _))) (v := .ref G.no G.qs.length 0 G.qs.length (some 12)) (a9s (c := 6) hGi rfl) ?_
   refine aU ?_
   refine s6 rfl rfl k rfl zO ?_
   refine aU ?_
   have hsp : splice (nC G.qs) (0 + k * d9 (some 12) + 10) (AV.int .i64 (-5)).cells = nC (G.qs.set k ⟨{ n with Next := -5 }, b, a⟩) := c4k hqk zO rfl (by cases b <;> rfl)
   have hqi : qI (G.qs.set k ⟨{ n with Next := -5 }, b, a⟩) = qI G.qs := b5B hqk (by cases b <;> rfl)
   refine E_stS hS rfl (xv := .int .i64 (-5)) rfl (Rp.there (Rp.there (Rp.there (by rw [hsp]; exact c4l hGi hqi zS)))) rfl rfl (by rw [a5U]; simp [d9]; omega) (fun S hS => ?_)
   refine aU ?_
   have hl1 : gC l = gC (l.set i { G with qs := G.qs.set k ⟨{ n with Next := -5 }, b, a⟩ }) := (a8b hGi zS).symm
   rw [hl1] at hS
   have hz1 : szG (l.set i { G with qs := G.qs.set k ⟨{ n with Next := -5 }, b, a⟩ }) := a8c hz ⟨by simpa using hG1.1, hG1.2.1, a8N hG1.2.2 (by have := hG1.2.2 _ (List.mem_of_getElem? hqk); exact this)⟩
   have hi1 : (l.set i { G with qs := G.qs.set k ⟨{ n with Next := -5 }, b, a⟩ })[i]? = some { G with qs := G.qs.set k ⟨{ n with Next := -5 }, b, a⟩ } := a7u hGi
   have hn1 : (l.set i { G with qs := G.qs.set k ⟨{ n with Next := -5 }, b, a⟩ }).length = m := by simpa using hlen
   have hk1 : (QG.qs { G with qs := G.qs.set k ⟨{ n with Next := -5 }, b, a⟩ })[k]? = some ⟨{ n with Next := -5 }, b, a⟩ := a7u hqk
   have hm1 : (QG.qs { G with qs := G.qs.set k ⟨{ n with Next := -5 }, b, a⟩ }).length = mm := by simpa using hmm
   have ha1 : (b8.Args { n with Next := -5 }).length <= 1000000000 := by have := hG1.2.2 _ (List.mem_of_getElem? hqk); exact this
   generalize (l.set i { G with qs := G.qs.set k ⟨{ n with Next := -5 }, b, a⟩ }) = l at hS hz1 hi1 hn1
   generalize ({ G with qs := G.qs.set k ⟨{ n with Next := -5 }, b, a⟩ } : QG) = G at hi1 hk1 hm1
   generalize ({ n with Next := -5 } : b8) = n at hk1 ha1
   refine b7 hS rfl (.tail _ (.head _)) (v := .ref gl m 0 m (some 8)) rfl ?_
   refine aU ?_
   refine s6 rfl rfl i rfl zO ?_
   refine aU ?_
   refine b7 hS rfl (.tail _ (.tail _ (.head _))) (v := .ref G.no G.qs.length 0 G.qs.length (some 12)) (a9s (c := 6) hi1 rfl) ?_
   refine aU ?_
   refine s6 rfl rfl k rfl zO ?_
   refine aU ?_
   refine b7 hS rfl (.tail _ (.tail _ (.tail _ (b3k hi1)))) (v := QN.arg ⟨n, b, a⟩) (c1G (c := 9) hk1 rfl) ?_
   cases b with
   | false =>
     refine aU ?_
     refine a1i 0 (fun _ : Unit => (10, .int .i64 k) :: (52, .int .i64 k) :: (51, .int .i64 mm) :: (9, .int .i64 i) :: (42, .int .i64 i) :: (41, .int .i64 m) :: agF m o2 o5 o7) (fun _ => agL m o5 o7 gl gs ((o3, 0, (Program.av q).cells) :: (o2, 0, (Program.av p).cells) :: ([] ++ R)) l) (fun _ _ => True) () hS trivial wF zO zD zD (fun _ => ⟨rfl, rfl, rfl, rfl⟩) (fun j _ S hj _ hS => absurd hj zO) (fun _ fr' S _ hS hw => ?_)
     exact R_n l ⟨hn1, hz1, G, hi1, hm1⟩ hS (v4 hw wF)
   | true =>
     refine aU ?_
     obtain ⟨ma, hma⟩ : ∃ ma, n.Args.length = ma := ⟨_, rfl⟩
     rw [hma]
     refine a1i ma (fun _ : List QG => (10, .int .i64 k) :: (52, .int .i64 k) :: (51, .int .i64 mm) :: (9, .int .i64 i) :: (42, .int .i64 i) :: (41, .int .i64 m) :: agF m o2 o5 o7) (agL m o5 o7 gl gs ((o3, 0, (Program.av q).cells) :: (o2, 0, (Program.av p).cells) :: ([] ++ R))) (fun _ l => l.length = m /\ szG l /\ ∃ G, l[i]? = some G /\ G.qs.length = mm /\ ∃ n a, G.qs[k]? = some ⟨n, true, a⟩ /\ n.Args.length = ma) l hS ⟨hn1, hz1, G, hi1, hm1, n, a, hk1, hma⟩ wF zO zD zD (fun _ => ⟨rfl, rfl, rfl, rfl⟩) (fun j l S hj hI hS => ?_) (fun l fr' S hI hS hw => ?_)
     ·clear hn1 hz1 hi1 hm1 hk1 hma
      obtain ⟨hn1, hz1, G, hi1, hm1, n, a, hk1, hma⟩ := hI
      have hG1 := hz1 G (List.mem_of_getElem? hi1)
      refine aU ?_
      refine b7 hS rfl (.tail _ (.head _)) (v := .ref gl m 0 m (some 8)) rfl ?_
      refine aU ?_
      refine s6 rfl rfl i rfl zO ?_
      refine aU ?_
      refine b7 hS rfl (.tail _ (.tail _ (.head _))) (v := .ref G.no G.qs.length 0 G.qs.length (some 12)) (a9s (c := 6) hi1 rfl) ?_
      refine aU ?_
      refine s6 rfl rfl k rfl zO ?_
      refine aU ?_
      refine b7 hS rfl (.tail _ (.tail _ (.tail _ (b3k hi1)))) (v := .ref a n.Args.length 0 n.Args.length none) (c1G (c := 9) hk1 rfl) ?_
      refine aU ?_
      refine s6 rfl rfl j rfl zO ?_
      obtain ⟨y, hy⟩ : ∃ y, n.Args[j]? = some y := ⟨_, List.getElem?_eq_getElem zO⟩
      refine a5P (y' := -5) (l := n.Args) hS (d8 .i64) rfl (xv := .int .i64 (-5)) rfl (n := j) (fo := 0) (y := y) (by simp [d9]) hy (Rp.there (Rp.there (Rp.there (c4n (w := n.Args.set j (-5)) hi1 hk1 zS)))) rfl rfl (by simp [d9]) rfl (fun S hS => ?_)
      refine aU ?_
      refine aE ?_
      have hl2 : gC l = gC (l.set i { G with qs := G.qs.set k ⟨{ n with Args := n.Args.set j (-5) }, true, a⟩ }) := (a8b hi1 zS).symm
      rw [hl2] at hS
      exact R_n (l.set i { G with qs := G.qs.set k ⟨{ n with Args := n.Args.set j (-5) }, true, a⟩ }) ⟨by simpa using hn1, a8c hz1 ⟨by simpa using hG1.1, hG1.2.1, a8N hG1.2.2 (by have := hG1.2.2 _ (List.mem_of_getElem? hk1); simpa using this)⟩, _, a7u hi1, by simpa using hm1, _, a, a7u hk1, by simpa using hma⟩ hS wF
     ·obtain ⟨hn1, hz1, G, hi1, hm1, _⟩ := hI
      exact R_n l ⟨hn1, hz1, G, hi1, hm1⟩ hS (v4 hw wF)
  ·obtain ⟨hlen, hz, G, hGi, _⟩ := hI
   have hG1 := hz G (List.mem_of_getElem? hGi)
   refine a4W (F := (9, .int .i64 i) :: (42, .int .i64 i) :: (41, .int .i64 m) :: agF m o2 o5 o7) (v4 hw wF) ?_
   refine aU ?_
   refine b7 hS rfl (.tail _ (.head _)) (v := .ref gl m 0 m (some 8)) rfl ?_
   refine aU ?_
   refine s6 rfl rfl i rfl zO ?_
   refine aU ?_
   refine b7 hS rfl (.tail _ (.tail _ (.head _))) (v := .ref G.ki 17 0 G.g.Kinds.length none) (a9s (c := 1) hGi rfl) ?_
   refine aU ?_
   obtain ⟨mk, hmk⟩ : ∃ mk, G.g.Kinds.length = mk := ⟨_, rfl⟩
   rw [hmk]
   refine a1i mk (fun _ : List QG => (9, .int .i64 i) :: (42, .int .i64 i) :: (41, .int .i64 m) :: agF m o2 o5 o7) (agL m o5 o7 gl gs ((o3, 0, (Program.av q).cells) :: (o2, 0, (Program.av p).cells) :: ([] ++ R))) (fun _ l => l.length = m /\ szG l /\ ∃ G, l[i]? = some G /\ G.g.Kinds.length = mk) l hS ⟨hlen, hz, G, hGi, hmk⟩ wF zO zD zD (fun _ => ⟨rfl, rfl, rfl, rfl⟩) (fun k l S hk hI hS => ?_) (fun l fr' S hI hS hw => ?_)
   ·clear hlen hz hGi hG1 hmk
    obtain ⟨hlen, hz, G, hGi, hmk⟩ := hI
    have hG1 := hz G (List.mem_of_getElem? hGi)
    refine aU ?_
    refine b7 hS rfl (.tail _ (.head _)) (v := .ref gl m 0 m (some 8)) rfl ?_
    refine aU ?_
    refine s6 rfl rfl i rfl zO ?_
    refine aU ?_
    refine b7 hS rfl (.tail _ (.tail _ (.head _))) (v := .ref G.ki 17 0 G.g.Kinds.length none) (a9s (c := 1) hGi rfl) ?_
    refine aU ?_
    refine s6 rfl rfl k rfl zO ?_
    obtain ⟨y, hy⟩ : ∃ y, G.g.Kinds[k]? = some y := ⟨_, List.getElem?_eq_getElem zO⟩
    refine a2K hS (d8 .u8) rfl (.tail _ (.tail _ (.tail _ (c1H hGi)))) (n := k) (fo := 0) (y := y) (by simp [d9]) hy (v := .int .u8 y) rfl ?_
    refine aU ?_
    refine s6 rfl rfl k rfl zO ?_
    generalize (IntKind.u8.wrap ((BitVec.ofInt IntKind.u8.bits y ^^^ BitVec.ofInt IntKind.u8.bits 1).toNat : Int)) = y'
    refine a5P (y' := y') (l := G.g.Kinds) hS (d8 .u8) rfl (xv := .int .u8 y') rfl (n := k) (fo := 0) (y := y) (by simp [d9]) hy (Rp.there (Rp.there (Rp.there (c4m (ks := G.g.Kinds.set k y') hGi)))) rfl rfl (by simp [d9]) rfl (fun S hS => ?_)
    refine aU ?_
    refine aE ?_
    have hl2 : gC l = gC (l.set i { G with g := { G.g with Kinds := G.g.Kinds.set k y' } }) := (a8b hGi zS).symm
    rw [hl2] at hS
    exact R_n (l.set i { G with g := { G.g with Kinds := G.g.Kinds.set k y' } }) ⟨by simpa using hlen, a8c hz ⟨hG1.1, by simpa using hG1.2.1, hG1.2.2⟩, _, a7u hGi, by simpa using hmk⟩ hS wF
   ·exact R_n l ⟨hI.1, hI.2.1⟩ hS (v4 hw wF)
 ·refine a4W (F := agF m o2 o5 o7) (v4 hw wF) ?_
  refine aU ?_
  refine b7 hS rfl (.tail _ (.tail _ (.tail _ (List.mem_append_right _ (.tail _ (.head _)))))) (v := Program.av p) rfl ?_
  refine aU ?_
  refine a0x (u5 h1) rfl (f9 ⟨Program.enc.blw p 0, trivial⟩) (a0i ⟨c9.enc.blw ⟨gs⟩ 0, rfl, trivial⟩) ?_
  refine aU ?_
  refine z7 hS rfl (fun o13 S hS => ?_)
  refine E_stS hS rfl (xv := c9.av ⟨gs⟩) rfl Rp.here rfl rfl zqV (fun S hS => ?_)
  refine aU ?_
  refine b7 hS rfl (.tail _ (.head _)) (v := c9.av ⟨gs⟩) rfl ?_
  refine aU ?_
  refine b7 hS rfl (.head _) (v := c9.av ⟨gs⟩) rfl ?_
  refine aU ?_
  refine a0x (v8 h4) rfl (f9 ⟨c9.enc.blw ⟨gs⟩ 0, c9.enc.blw ⟨gs⟩ 0, trivial⟩) rfl ?_
  refine aU ?_
  refine f7 ?_
  refine aE ?_
  exact ⟨trivial, _, rfl, [], ⟨rfl, rfl⟩, hS.sub (.cons _ (.cons _ (.cons _ (.cons _ ((List.Sublist.trans (.cons _ (.cons _ (List.Sublist.refl _))) (List.sublist_append_right _ _)))))))⟩
theorem c1N {fuel : Nat} {p q : Program} {e : Int} {r2 : c9 × Int} (h1 : k8 0 p = some (⟨[]⟩, e)) (h2 : k8 0 q = some r2) (h3 : t4 p = some p) (h4 : t0 ⟨[]⟩ ⟨[]⟩ = some true) :
  Tri Try.prog 5 [Program.av p, Program.av q] [] (fun x L' => x = .bool true /\ L' = []) := by
 refine j7 mixed fn5 zS [2, 3, 5, 7, 13] (fun R S hS => ?_)
 refine aU ?_
 refine a3J hS rfl (xv := Program.av p) rfl rfl (fun o2 S hS => ?_)
 refine aU ?_
 refine a3J hS rfl (xv := Program.av q) rfl rfl (fun o3 S hS => ?_)
 refine aU ?_
 refine a0x a7s rfl rfl rfl ?_
 refine aU ?_
 refine E_cs (t := false) rfl (fun h => by cases h) (fun _ => ?_)
 refine aU ?_
 refine b7 hS rfl (.tail _ (.head _)) (v := Program.av p) rfl ?_
 refine aU ?_
 refine a0x (u5 h1) rfl (f9 ⟨Program.enc.blw p 0, trivial⟩) (a0i ⟨c9.enc.blw ⟨[]⟩ 0, rfl, trivial⟩) ?_
 refine aU ?_
 refine z7 hS rfl (fun o5 S hS => ?_)
 refine E_stS hS rfl (xv := c9.av ⟨[]⟩) rfl Rp.here rfl rfl zqV (fun S hS => ?_)
 refine aU ?_
 refine b7 hS rfl (.tail _ (.head _)) (v := Program.av q) rfl ?_
 refine aU ?_
 refine a0x (u5 h2) rfl (f9 ⟨Program.enc.blw q 0, trivial⟩) (a0i ⟨c9.enc.blw r2.1 0, rfl, trivial⟩) ?_
 refine aU ?_
 refine b7 hS rfl (.tail _ (.tail _ (.head _))) (v := Program.av p) rfl ?_
 refine aU ?_
 refine a0x (a0P h3) rfl (f9 ⟨Program.enc.blw p 0, trivial⟩) (Program.enc.blw p 0) ?_
 refine aU ?_
 refine a0x (u5 h1) rfl (f9 ⟨Program.enc.blw p 0, trivial⟩) (a0i ⟨c9.enc.blw ⟨[]⟩ 0, rfl, trivial⟩) ?_
 refine aU ?_
 refine z7 hS rfl (fun o7 S hS => ?_)
 refine E_stS hS rfl (xv := c9.av ⟨[]⟩) rfl Rp.here rfl rfl zqV (fun S hS => ?_)
 refine aU ?_
 rw [show ((((⟨[]⟩, e) : c9 × Int).snd) != (((⟨[]⟩, e) : c9 × Int).snd)) = false from bne_self_eq_false _]
 refine aU ?_
 refine b7 hS rfl (.tail _ (.head _)) (v := c9.av ⟨[]⟩) rfl ?_
 refine aU ?_
 refine b7 hS rfl (.head _) (v := c9.av ⟨[]⟩) rfl ?_
 refine aU ?_
 refine a0x (v8 h4) rfl (f9 ⟨c9.enc.blw ⟨[]⟩ 0, c9.enc.blw ⟨[]⟩ 0, trivial⟩) rfl ?_
 refine aU ?_
 refine E_cs (t := false) rfl (fun h => by cases h) (fun _ => ?_)
 refine aU ?_
 refine b7 hS rfl (.tail _ (.head _)) (v := .sl false 8 []) rfl ?_
 refine aU ?_
 refine a1i 0 (fun _ : Unit => agF 0 o2 o5 o7) (fun _ => (o7, 0, (c9.av ⟨[]⟩).cells) :: (o5, 0, (c9.av ⟨[]⟩).cells) :: (o3, 0, (Program.av q).cells) :: (o2, 0, (Program.av p).cells) :: ([] ++ R)) (fun _ _ => True) () hS trivial wF zO zD zD (fun _ => ⟨rfl, rfl, rfl, rfl⟩) (fun j _ S hj _ hS => absurd hj zO) (fun _ fr' S _ hS hw => ?_)
 refine a4W (F := agF 0 o2 o5 o7) (v4 hw wF) ?_
 refine aU ?_
 refine b7 hS rfl (.tail _ (.tail _ (.tail _ (.head _)))) (v := Program.av p) rfl ?_
 refine aU ?_
 refine a0x (u5 h1) rfl (f9 ⟨Program.enc.blw p 0, trivial⟩) (a0i ⟨c9.enc.blw ⟨[]⟩ 0, rfl, trivial⟩) ?_
 refine aU ?_
 refine z7 hS rfl (fun o13 S hS => ?_)
 refine E_stS hS rfl (xv := c9.av ⟨[]⟩) rfl Rp.here rfl rfl zqV (fun S hS => ?_)
 refine aU ?_
 refine b7 hS rfl (.tail _ (.head _)) (v := c9.av ⟨[]⟩) rfl ?_
 refine aU ?_
 refine b7 hS rfl (.head _) (v := c9.av ⟨[]⟩) rfl ?_
 refine aU ?_
 refine a0x (v8 h4) rfl (f9 ⟨c9.enc.blw ⟨[]⟩ 0, c9.enc.blw ⟨[]⟩ 0, trivial⟩) rfl ?_
 refine aU ?_
 refine f7 ?_
 refine aE ?_
 exact ⟨trivial, _, rfl, [], ⟨rfl, rfl⟩, hS.sub (.cons _ (.cons _ (.cons _ (.cons _ (.cons _ (List.Sublist.refl _))))))⟩
open Go Go.Ab Go.RowKit
set_option maxRecDepth 20000

def c8l (k : Int) : UInt8 := if k = 1 then 112 else 110
def c8m (l : List Int) : ByteArray := ⟨(l.map c8l).toArray⟩
def c1O : ByteArray := ByteArray.mk #[63]
set_option maxHeartbeats 1000000

abbrev OS := Option (List Int)
def qK : OS -> ByteArray
 | some x => c8m x
 | none => c1O
def nn (A : List OS) : Nat := A.countP (·.isNone)
def c5j (p : Program) (f : Func) (dp : Bool) (A : List OS) (a : Nat) (x : List Int) : Prop :=
 ∃ i x', f.Code[a]? = some i /\ a3Q p f i x = some x' /\ (16 < x'.length -> dp = true) /\ ∀ b ∈ a8E i a, ∃ m : Nat, b = m /\ m < f.Code.length /\ A[m]? = some (some x')
structure c6F (p : Program) (f : Func) (dp : Bool) (A : List OS) : Prop where
 la : A.length = f.Code.length
 z : A[0]? = some (some [])
 der : ∀ (m : Nat) y, A[m]? = some (some y) -> Der p f m y /\ y.length + 2 * nn A <= 2 * f.Code.length
 dpD : dp = true -> Deep p f
def qn (l : List ByteArray) : Nat := l.countP (fun b => decide (b = c1O))
def c8n (p : Program) (f : Func) (o : List ByteArray × Bool × Bool) : Prop :=
 (Bad p f /\ o = ([], false, false)) \/ ∃ R, Sol p f R /\ o.2.2 = true /\ (o.2.1 = true ↔ Deep p f) /\ o.1.length = f.Code.length /\ ∀ a, a < f.Code.length -> o.1[a]? = some (qK (R a))
theorem c6F.ans {p f dp A} (h : c6F p f dp A) (hd : ∀ a, a < f.Code.length -> ∀ x, A[a]? = some (some x) -> c5j p f dp A a x) : c8n p f (A.map qK, dp, true) := by
 right
 let R : Nat -> Option (List Int) := fun a => match A[a]? with | some o => o | none => none
 have hRs : ∀ a x, R a = some x ↔ A[a]? = some (some x) := fun a x => by
  simp only [R]
  cases e : A[a]? with
  | none => simp
  | some o => simp
 have hR : Sol p f R := by
  refine ⟨(hRs 0 []).2 h.z, fun a x hx => ?_⟩
  have hx' := (hRs a x).1 hx
  have halt : a < f.Code.length := by rw [<- h.la]; exact (List.getElem?_eq_some_iff.1 hx').1
  obtain ⟨i, x', d1, d2, _, d4⟩ := hd a halt x hx'
  refine ⟨(h.der a x hx').1, i, x', d1, d2, fun b hb => ?_⟩
  obtain ⟨m, m1, m2, m3⟩ := d4 b hb
  exact ⟨m, m1, m2, (hRs m x').2 m3⟩
 refine ⟨R, hR, rfl, ⟨h.dpD, fun ⟨a, x, i, x', d, hi, hs, hl⟩ => ?_⟩, by simp [h.la], fun a ha => ?_⟩
 ·have e := (hRs a x).1 (hR.all d)
  obtain ⟨i2, x2, d1, d2, d3, _⟩ := hd a (by rw [<- h.la]; exact (List.getElem?_eq_some_iff.1 e).1) x e
  rw [hi] at d1; cases d1
  rw [hs] at d2; cases d2
  exact d3 hl
 ·have e : A[a]? = some (A[a]'(by rw [h.la]; exact ha)) := List.getElem?_eq_getElem _
  show (A.map qK)[a]? = some (qK (R a))
  simp only [R]
  rw [List.getElem?_map, e]; rfl

theorem b5C (p : Program) (hl : p.Funcs.length <= 1048576) (hs : ∀ f ∈ p.Funcs, f.Locals.length <= 1048576 /\ f.Code.length <= 1048576) : t4 p = some p := by
 unfold t4
 have L := rng_inv (σ := List Func) (ρ := Option Program) (xs := p.Funcs) (s0 := []) (fun _ => true) none (fun i s => s = p.Funcs.take i)
  (body := fun (i_2 : Nat) (f_3 : Func) (s_1 : (List Func)) => (((a2R 1 ([] : List Int) f_3.Locals).bind fun l_5 => ((a2R 24 ([] : List Instr) f_3.Code).bind fun l_6 => ((a2R 72 s_1 [(Func.mk f_3.Params l_5 f_3.Result f_3.Keep l_6)]).bind fun l_7 => (some (.nxt l_7))))) : Option (Stp (List Func) (Option Program)))) zO rfl (fun i x s hx e => by
   subst e
   have hlt := (List.getElem?_eq_some_iff.1 hx).1
   have hb := hs x (List.mem_of_getElem? hx)
   rw [if_pos rfl, appL_of zE]
   simp only [Option.bind_some]
   rw [appL_of zE]
   simp only [Option.bind_some]
   rw [appL_of zE]
   refine ⟨_, rfl, ?_⟩
   rw [List.take_succ_eq_append_getElem hlt]
   rw [List.getElem?_eq_getElem hlt] at hx
   cases hx
   rfl)
 simp only [List.all_eq_true, implies_true, if_true] at L
 obtain ⟨s, e1, e2⟩ := L
 rw [e1, e2]
 simp [oc]

theorem b1w {H : Type} {d : DataW H} {l : List (DataW H)} (h : d ∈ l) : Rows.uptoBulk d <= Rows.uptoBulkAll l := by
 induction l with
 | nil => cases h
 | cons x r ih =>
   simp only [Rows.uptoBulkAll]
   rcases List.mem_cons.1 h with e | e
   ·subst e; omega
   ·have := ih e; omega
theorem c1P {H : Type} (d : DataW H) : 1 <= Rows.uptoBulk d := by
 cases d with
 | lit l => cases l <;> simp [Rows.uptoBulk]
 | _ => simp [Rows.uptoBulk]
theorem b1x {H : Type} (l : List (DataW H)) : l.length <= Rows.uptoBulkAll l := by
 induction l with
 | nil => simp [Rows.uptoBulkAll]
 | cons x r ih => have := c1P x; simp only [Rows.uptoBulkAll, List.length_cons]; omega
theorem c6G {H : Type} : c2t (H := H) Rows.uptoBulk :=
 ⟨fun bytes => by simp [Rows.uptoBulk], fun e s => by have := b1x e; simp only [Rows.uptoBulk]; omega, fun e s d h => by have := b1w h; simp only [Rows.uptoBulk]; omega, fun p d h => by have := b1w h; simp only [Rows.uptoBulk]; omega⟩

theorem b5D : Try.prog.cellsOf 50 = 1 := by kernel_rfl
theorem b5E : Try.prog.cellsOf 54 = 1 := by kernel_rfl
theorem b1y : Try.prog.cellsOf 3 = 1 := by kernel_rfl
theorem b5F : Try.prog.cellsOf 55 = 1 := by kernel_rfl
theorem b1z : Try.prog.cellsOf 78 = 3 := by kernel_rfl
def Instr.Ok (N : Nat) (x : Instr) : Prop := (fun n => (Lit.int .u8 n).wf = true) x.Op /\ (fun n => (Lit.int .i64 n).wf = true) x.Arg /\ (fun n => (Lit.int .u64 n).wf = true) x.Imm
theorem Instr.rd {N : Nat} : Rd Try.prog N Instr.av (Instr.Ok N) 78 := by
 intro avs ht
 obtain ⟨hl, hf⟩ := a4O Try.underlying78 ht
 have e0 : Ty Try.prog N 54 ((avs.drop 0).take (Try.prog.cellsOf 54)) := hf 0 _ rfl
 rw [b5E] at e0
 obtain ⟨a0, h0, q0⟩ := (rdI Try.underlying54) _ e0
 have e1 : Ty Try.prog N 3 ((avs.drop 1).take (Try.prog.cellsOf 3)) := hf 1 _ rfl
 rw [b1y] at e1
 obtain ⟨a1, h1, q1⟩ := (rdI Try.underlying3) _ e1
 have e2 : Ty Try.prog N 55 ((avs.drop 2).take (Try.prog.cellsOf 55)) := hf 2 _ rfl
 rw [b5F] at e2
 obtain ⟨a2, h2, q2⟩ := (rdI Try.underlying55) _ e2
 refine ⟨⟨a0, a1, a2⟩, ?_, ⟨q0, q1, q2⟩⟩
 have := (a1V h0 (a1V h1 (a1V h2 (b0G (hl.trans b1z)))))
 exact this
theorem b5G : Try.prog.cellsOf 42 = 1 := by kernel_rfl
theorem c1Q : Try.prog.cellsOf 4 = 1 := by kernel_rfl
theorem b5H : Try.prog.cellsOf 43 = 1 := by kernel_rfl
theorem b1A : Try.prog.cellsOf 45 = 5 := by kernel_rfl
def Func.Ok (N : Nat) (x : Func) : Prop := (fun n => (Lit.int .i64 n).wf = true) x.Params /\ (fun l => List.length l <= N /\ ∀ a ∈ l, (fun n => (Lit.int .u8 n).wf = true) a) x.Locals /\ (fun _ => True) x.Result /\ (fun n => (Lit.int .i64 n).wf = true) x.Keep /\ (fun l => List.length l <= N /\ ∀ a ∈ l, (Instr.Ok N) a) x.Code
theorem Func.rd {N : Nat} : Rd Try.prog N Func.av (Func.Ok N) 45 := by
 intro avs ht
 obtain ⟨hl, hf⟩ := a4O Try.underlying45 ht
 have e0 : Ty Try.prog N 3 ((avs.drop 0).take (Try.prog.cellsOf 3)) := hf 0 _ rfl
 rw [b1y] at e0
 obtain ⟨a0, h0, q0⟩ := (rdI Try.underlying3) _ e0
 have e1 : Ty Try.prog N 42 ((avs.drop 1).take (Try.prog.cellsOf 42)) := hf 1 _ rfl
 rw [b5G] at e1
 obtain ⟨a1, h1, q1⟩ := (rdL (d8 .u8) (fun fs h => by rw [Try.underlying50] at h; cases h) Try.underlying42 b5D (rdI Try.underlying50)) _ e1
 have e2 : Ty Try.prog N 4 ((avs.drop 2).take (Try.prog.cellsOf 4)) := hf 2 _ rfl
 rw [c1Q] at e2
 obtain ⟨a2, h2, q2⟩ := (rdB Try.underlying4) _ e2
 have e3 : Ty Try.prog N 3 ((avs.drop 3).take (Try.prog.cellsOf 3)) := hf 3 _ rfl
 rw [b1y] at e3
 obtain ⟨a3, h3, q3⟩ := (rdI Try.underlying3) _ e3
 have e4 : Ty Try.prog N 43 ((avs.drop 4).take (Try.prog.cellsOf 43)) := hf 4 _ rfl
 rw [b5H] at e4
 obtain ⟨a4, h4, q4⟩ := (rdL Instr.enc ⟨_, Try.underlying78⟩ Try.underlying43 b1z Instr.rd) _ e4
 refine ⟨⟨a0, a1, a2, a3, a4⟩, ?_, ⟨q0, q1, q2, q3, q4⟩⟩
 have := (a1V h0 (a1V h1 (a1V h2 (a1V h3 (a1V h4 (b0G (hl.trans b1A)))))))
 exact this
theorem b5I : Try.prog.cellsOf 22 = 1 := by kernel_rfl
theorem b5J : Try.prog.cellsOf 24 = 1 := by kernel_rfl
def Program.Ok (N : Nat) (x : Program) : Prop := (fun l => List.length l <= N /\ ∀ a ∈ l, (Func.Ok N) a) x.Funcs
theorem Program.rd {N : Nat} : Rd Try.prog N Program.av (Program.Ok N) 24 := by
 intro avs ht
 obtain ⟨hl, hf⟩ := a4O Try.underlying24 ht
 have e0 : Ty Try.prog N 22 ((avs.drop 0).take (Try.prog.cellsOf 22)) := hf 0 _ rfl
 rw [b5I] at e0
 obtain ⟨a0, h0, q0⟩ := (rdL Func.enc ⟨_, Try.underlying45⟩ Try.underlying22 b1A Func.rd) _ e0
 refine ⟨⟨a0⟩, ?_, q0⟩
 have := (a1V h0 (b0G (hl.trans b5J)))
 exact this

theorem own : ownKnob Try.prog.godebug = none := by kernel_rfl
theorem b1B : laidOutB Try.prog = true := by kernel_rfl
theorem a3v {σ β : Type} {body : Nat -> σ -> Option (Stp σ (Option β))} {n : Int} {s0 : σ} {F : σ -> Option β} {r : Option β} (Inv : Nat -> σ -> Prop) (hl : n <= 4611686018427387904) (h0 : Inv 0 s0)
  (h : ∀ (i : Nat) s, (i : Int) < n -> Inv i s -> ∃ s', body i s = some (.nxt s') /\ Inv (i + 1) s') (hF : ∀ s, Inv n.toNat s -> F s = r) : (rni body n s0).bind (oc F) = r := by
 obtain ⟨o, e, s, rfl, hs⟩ := rni_ex (Q := fun o => ∃ s, o = .fin s /\ Inv n.toNat s) Inv hl h0 (fun i s hx hI => .inl (h i s hx hI)) (fun s hs => ⟨s, rfl, hs⟩)
 rw [e]
 exact hF s hs
theorem a1Y {l : List Int} (h : l.length <= 1000000000) : m0 l l = some true := by
 unfold m0
 rw [if_neg zS]
 refine a3v (fun _ s => s = l) zO rfl (fun i s hi hs => ?_) (fun s hs => rfl)
 subst hs
 have hx : j9 s (i : Int) = some s[i] := by rw [a1U zO zO]; simp
 exact ⟨s, by simp [hx], rfl⟩
theorem a5v {l : List Int} (h : l.length <= 1000000000) : r6 l l = some true := by
 unfold r6
 rw [if_neg zS]
 refine a3v (fun _ s => s = l) zO rfl (fun i s hi hs => ?_) (fun s hs => rfl)
 subst hs
 have hx : j9 s (i : Int) = some s[i] := by rw [a1U zO zO]; simp
 exact ⟨s, by simp [hx], rfl⟩
theorem a6w {n : b8} (h : n.Args.length <= 1000000000) : s5 n n = some true := by
 unfold s5
 simp [jp, a1Y h]
theorem a7v {G : c9} (h0 : G.Funcs.length <= 1000000000) (h : ∀ g ∈ G.Funcs, (g.Params.length <= 1000000000 /\ g.Kinds.length <= 1000000000 /\ g.Init.length <= 1000000000 /\ g.Nodes.length <= 1000000000) /\ ∀ n ∈ g.Nodes, n.Args.length <= 1000000000) : t0 G G = some true := by
 unfold t0
 rw [if_neg zS]
 refine a3v (fun _ s => s = G) zO rfl (fun i s hi hs => ?_) (fun s hs => rfl)
 subst hs
 have hil : i < s.Funcs.length := by omega
 have hx : j9 s.Funcs (i : Int) = some s.Funcs[i] := by rw [a1U zO zO]; simp
 obtain ⟨⟨a1, a2, a3, a4⟩, a5⟩ := h s.Funcs[i] (List.getElem_mem hil)
 generalize s.Funcs[i] = g at hx a1 a2 a3 a4 a5
 refine ⟨s, ?_, rfl⟩
 simp only [hx, Option.bind_some, jp, a1Y a1, a5v a2, a1Y a3, Bool.not_true, Bool.false_eq_true, if_false, bne_self_eq_false, beq_self_eq_true]
 refine a3v (fun _ _ => True) zO trivial (fun k _ hk _ => ?_) (fun _ _ => rfl)
 have hkl : k < g.Nodes.length := by omega
 have hy : j9 g.Nodes (k : Int) = some g.Nodes[k] := by rw [a1U zO zO]; simp
 refine ⟨(), ?_, trivial⟩
 simp [hy, a6w (a5 _ (List.getElem_mem hkl))]
section
variable {p : Program} {f : Func} {rd : List Bool} {st : List (List Int)}
def AOK (m : Nat) (o : Option b8) : Prop := ∀ n, o = some n -> n.Args.length <= m
theorem c8o {m : Nat} {c : Prop} [Decidable c] {a b : Option b8} (ha : AOK m a) (hb : AOK m b) : AOK m (if c then a else b) := by split <;> assumption
theorem c5k {m : Nat} {n : b8} (h : n.Args.length <= m) : AOK m (some n) := fun _ e => by cases e; exact h
theorem c8p {m : Nat} {β : Type} {o : Option β} {g : β -> b8} (h : ∀ b, (g b).Args.length <= m) : AOK m (o.map g) := fun _ e => by
 obtain ⟨b, _, rfl⟩ := Option.map_eq_some_iff.1 e
 exact h b
theorem c5l {m : Nat} {β : Type} {o : Option β} {g : β -> Option b8} (h : ∀ b, AOK m (g b)) : AOK m (o.bind g) := fun n e => by
 obtain ⟨b, _, e⟩ := Option.bind_eq_some_iff.1 e
 exact h b n e
theorem c5m {m : Nat} : AOK m none := nofun
theorem b2P {cell s : List Int} {i : Instr} {n : b8} (h : ndI p f cell s i = some n) : n.Args.length <= s.length := by
 have ha : ∀ {a : Nat}, (m9 f s a (s.length - a)).length <= s.length := by intro a; simp [m9]
 have key : AOK s.length (ndI p f cell s i) := by
  unfold ndI
  repeat' (first | refine c8o ?_ ?_ | refine c5l fun _ => ?_ | refine c8p fun _ => ?_ | exact c5m | refine c5k ?_)
  all_goals first | exact Nat.zero_le _ | exact ha | (rw [j8]; exact Nat.zero_le _)
 exact key n h
theorem b3l : ∀ {k : Nat} {l : List b8}, ndS p f rd st k = some l -> ∀ n ∈ l, ∃ j, ndK p f rd st j = some n
 | 0, l, h => by cases h; nofun
 | k + 1, l, h => by
   unfold ndS at h
   obtain ⟨l1, h1, h⟩ := Option.bind_eq_some_iff.1 h
   obtain ⟨n1, h2, rfl⟩ := Option.map_eq_some_iff.1 h
   intro n hn
   rcases List.mem_append.1 hn with h3 | h3
   ·exact b3l h1 n h3
   ·rw [List.mem_singleton.1 h3]; exact ⟨k, h2⟩
theorem b1C {ty : a0r} : ∀ {k : Nat} {l : List a9}, gsS p ty k = some l -> ∀ g ∈ l, ∃ f rd st, f ∈ p.Funcs /\ rd ∈ ty.Reached /\ st ∈ ty.Stacks /\ a4V p f rd st = some g
 | 0, l, h => by cases h; nofun
 | k + 1, l, h => by
   unfold gsS at h
   obtain ⟨l1, h1, h⟩ := Option.bind_eq_some_iff.1 h
   obtain ⟨f, h2, h⟩ := Option.bind_eq_some_iff.1 h
   obtain ⟨rd, h3, h⟩ := Option.bind_eq_some_iff.1 h
   obtain ⟨st, h4, h⟩ := Option.bind_eq_some_iff.1 h
   obtain ⟨g1, h5, rfl⟩ := Option.map_eq_some_iff.1 h
   intro g hg
   rcases List.mem_append.1 hg with h6 | h6
   ·exact b1C h1 g h6
   ·rw [List.mem_singleton.1 h6]; exact ⟨f, rd, st, List.mem_of_getElem? h2, List.mem_of_getElem? h3, List.mem_of_getElem? h4, h5⟩
end
theorem b2Q {fuel : Nat} {p : Program} {gs : List a9} (h : k8 fuel p = some (⟨gs⟩, 0)) : gs.length <= 1000000000 /\ ∀ g ∈ gs, (g.Params.length <= 1000000000 /\ g.Kinds.length <= 1000000000 /\ g.Init.length <= 1000000000 /\ g.Nodes.length <= 1000000000) /\ ∀ n ∈ g.Nodes, n.Args.length <= 1000000000 := by
 unfold k8 at h
 cases hk : r7 1048577 p with
 | none => rw [hk] at h; cases h
 | some oe =>
   obtain ⟨o, e⟩ := oe
   rw [hk] at h
   dsimp only at h
   by_cases he : e ≠ 0
   ·rw [if_pos he] at h
    exact absurd (Prod.mk.inj (Option.some.inj h)).2 he
   ·rw [if_neg he] at h
    cases o with
    | none => cases h
    | some T =>
      dsimp only at h
      split at h
      ·rename_i hb
       obtain ⟨gs', hg, hgs⟩ := Option.map_eq_some_iff.1 h
       obtain rfl : gs' = gs := by simpa using hgs
       unfold b5Q b5R at hb
       simp only [Bool.and_eq_true, decide_eq_true_eq, List.all_eq_true] at hb
       have hl := (a2G hg).1
       refine ⟨by have := hb.1.1; omega, fun g hgm => ?_⟩
       obtain ⟨f, rd, st, hf, hr, hs, hG⟩ := b1C hg g hgm
       obtain ⟨b1, b2, b3, b4, b5⟩ := hb.1.2 f hf
       have c1 := hb.2.1 rd hr
       obtain ⟨nds, d1, hG⟩ := Option.bind_eq_some_iff.1 hG
       obtain ⟨kp, d2, rfl⟩ := Option.map_eq_some_iff.1 hG
       have e1 := (a1X d1).1
       refine ⟨⟨?_, ?_, ?_, ?_⟩, fun n hn => ?_⟩
       ·simp; omega
       ·simp only [List.length_append, r9]; omega
       ·simp [j5]; omega
       ·show nds.length <= _; omega
       ·obtain ⟨j, hj⟩ := b3l d1 n hn
        unfold ndK at hj
        obtain ⟨is, _, hj⟩ := Option.bind_eq_some_iff.1 hj
        split at hj
        ·obtain ⟨s, g1, hj⟩ := Option.bind_eq_some_iff.1 hj
         obtain ⟨i, g2, hj⟩ := Option.bind_eq_some_iff.1 hj
         obtain ⟨n0, g3, rfl⟩ := Option.map_eq_some_iff.1 hj
         have h1 := b2P g3
         have h2 := (hb.2.2 st hs s (List.mem_of_getElem? g1)).1
         show n0.Args.length <= _
         omega
        ·cases hj; exact Nat.zero_le _
      ·cases h
theorem b1D (p : Program) (hp : Program.Ok 1048576 p) (q : Program) (hq : Program.Ok 1048576 q) : p3 Try.prog 5 [Program.av p, Program.av q] (.bool true) := by
 have hu : ∀ (p : Program), Program.Ok 1048576 p -> ∀ f ∈ p.Funcs, ∀ k ∈ f.Locals, 0 <= k := fun p hp f hf k hk => by
  have := (hp.2 f hf).2.1.2 k hk
  simp [Lit.wf, IntKind.min, IntKind.max, IntKind.bits, IntKind.signed] at this; omega
 have hs : ∀ f ∈ p.Funcs, f.Locals.length <= 1048576 /\ f.Code.length <= 1048576 := fun f hf => by
  have h1 := hp.2 f hf
  exact ⟨h1.2.1.1, h1.2.2.2.2.1⟩
 have h2 : ∃ r2, k8 0 q = some r2 := by
  obtain ⟨o, e, _, _, hB⟩ := a8K (fuel := 0) hq.1 (hu q hq)
  rcases hB with ⟨_, hb⟩ | ⟨_, gs, hb, _⟩
  ·exact ⟨_, hb⟩
  ·exact ⟨_, hb⟩
 obtain ⟨r2, h2⟩ := h2
 have h3 := b5C p hp.1 hs
 have key : Tri Try.prog 5 [Program.av p, Program.av q] [] (fun x L' => x = .bool true /\ L' = []) := by
  obtain ⟨o, e, _, _, hB⟩ := a8K (fuel := 0) hp.1 (hu p hp)
  rcases hB with ⟨_, hb⟩ | ⟨_, gs, hb, _⟩
  ·exact c1N (fuel := 0) hb h2 h3 (a7v (Nat.zero_le _) nofun)
  ·obtain ⟨s1, s2⟩ := b2Q hb
   exact c1M (fuel := 0) hb h2 h3 (a7v s1 s2) s1 (fun g hg => ⟨(s2 g hg).1.2.2.2, (s2 g hg).1.2.1, (s2 g hg).2⟩)
 obtain ⟨v, h7, rfl⟩ := Tri.pure (Q' := fun x => x = .bool true) 1 key (fun v L' S hq hS => ⟨_, by rw [hq.1]; exact a0y rfl (.refl _), rfl⟩)
 exact h7
end Go.Proofs.Ytnpemocpfdgaoaa

