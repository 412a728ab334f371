/- irun.frame's Step, operation by operation (printed by mk11.py). -/
import Derived.Test.YtnpemocpfdgaoaaIrW10
import Derived.Test.YtnpemocpfdgaoaaGenCl
set_option linter.unusedVariables false
set_option linter.unusedSimpArgs false
namespace Go.Proofs.Ytnpemocpfdgaoaa
open Go Go.Ab
set_option maxRecDepth 20000
set_option maxHeartbeats 2000000
def c1k : FC := .reg [⟨(some 8), none, .op (.mv (.t 0))⟩,  ⟨(some 9), none, .op (.nchk (.t 8))⟩,  ⟨(some 10), none, .op (.fad 1 (.t 9))⟩,  ⟨(some 11), none, .op (.load none (.t 10))⟩,  ⟨(some 12), none, .op (.nchk (.t 11))⟩,  ⟨(some 13), none, .op (.fad 6 (.t 12))⟩,  ⟨(some 14), none, .op (.load none (.t 13))⟩,  ⟨(some 15), none, .op (.mv (.t 0))⟩,  ⟨(some 16), none, .op (.nchk (.t 15))⟩,  ⟨(some 17), none, .op (.fad 4 (.t 16))⟩,  ⟨(some 18), none, .op (.load none (.t 17))⟩,  ⟨(some 19), none, .op (.iad none (some 12) (.t 14) (.t 18))⟩,  ⟨(some 20), none, .op (.load (some 12) (.t 19))⟩,  ⟨(some 4), none, .op (.new [(.int .u8 0), (.int .u8 0), (.int .i64 0), (.int .i64 0), (.int .i64 0), (.int .i64 0), (.int .i64 0), (.int .i64 0), (.int .u64 0), .nils, (.int .i64 0), (.int .i64 0)])⟩,  ⟨none, none, .op (.store 12 (.t 4) (.t 20))⟩] [(3, 13), (6, 13), (10, 13), (12, 13)]
def c1l : FC := .reg [⟨(some 21), none, .op (.fad 10 (.t 4))⟩,  ⟨(some 22), none, .op (.load none (.t 21))⟩,  ⟨(some 5), none, .op (.mv (.t 22))⟩] []
def c1m : FC := .reg [⟨(some 23), none, .op (.fad 0 (.t 4))⟩,  ⟨(some 24), none, .op (.load none (.t 23))⟩] []
def c1n : FC := .reg [⟨(some 30), none, .op (.bin .none .eql (.t 24) (.v (.int .u8 1)))⟩,  ⟨(some 29), none, .op (.mv (.t 30))⟩] []
def c1o : FC := .reg [⟨(some 31), none, .op (.mv (.t 0))⟩,  ⟨(some 32), none, .op (.fad 2 (.t 4))⟩,  ⟨(some 33), none, .op (.load none (.t 32))⟩,  ⟨(some 34), none, .op (.fad 8 (.t 4))⟩,  ⟨(some 35), none, .op (.load none (.t 34))⟩,  ⟨(some 36), none, .call 71 [(.t 31), (.t 33), (.t 35)]⟩] []
def c1p : FC := .reg [⟨(some 38), none, .op (.bin .none .eql (.t 24) (.v (.int .u8 2)))⟩,  ⟨(some 37), none, .op (.mv (.t 38))⟩] []
def c1q : FC := .reg [⟨(some 39), none, .op (.mv (.t 0))⟩,  ⟨(some 40), none, .op (.fad 2 (.t 4))⟩,  ⟨(some 41), none, .op (.load none (.t 40))⟩,  ⟨(some 42), none, .op (.mv (.t 0))⟩,  ⟨(some 43), none, .op (.fad 4 (.t 4))⟩,  ⟨(some 44), none, .op (.load none (.t 43))⟩,  ⟨(some 45), none, .call 163 [(.t 42), (.t 44)]⟩,  ⟨(some 46), none, .call 71 [(.t 39), (.t 41), (.t 45)]⟩] [(2, 6)]
def c1r : FC := .reg [⟨(some 48), none, .op (.bin .none .eql (.t 24) (.v (.int .u8 4)))⟩,  ⟨(some 47), none, .op (.mv (.t 48))⟩] []
def c1s : FC := .reg [⟨(some 49), none, .op (.mv (.t 0))⟩,  ⟨(some 50), none, .op (.fad 2 (.t 4))⟩,  ⟨(some 51), none, .op (.load none (.t 50))⟩,  ⟨(some 52), none, .op (.mv (.t 0))⟩,  ⟨(some 53), none, .op (.nchk (.t 52))⟩,  ⟨(some 54), none, .op (.fad 3 (.t 53))⟩,  ⟨(some 55), none, .op (.load none (.t 54))⟩,  ⟨(some 56), none, .op (.fad 7 (.t 4))⟩,  ⟨(some 57), none, .op (.load none (.t 56))⟩,  ⟨(some 58), none, .op (.iad none none (.t 55) (.t 57))⟩,  ⟨(some 59), none, .op (.load none (.t 58))⟩,  ⟨(some 60), none, .call 71 [(.t 49), (.t 51), (.t 59)]⟩] []
def b5a : FC := .reg [⟨(some 62), none, .op (.bin .none .eql (.t 24) (.v (.int .u8 5)))⟩,  ⟨(some 61), none, .op (.mv (.t 62))⟩] []
def b5b : FC := .reg [⟨(some 63), none, .op (.mv (.t 0))⟩,  ⟨(some 64), none, .op (.nchk (.t 63))⟩,  ⟨(some 65), none, .op (.fad 3 (.t 64))⟩,  ⟨(some 66), none, .op (.load none (.t 65))⟩,  ⟨(some 67), none, .op (.fad 7 (.t 4))⟩,  ⟨(some 68), none, .op (.load none (.t 67))⟩,  ⟨(some 69), none, .op (.mv (.t 0))⟩,  ⟨(some 70), none, .op (.fad 4 (.t 4))⟩,  ⟨(some 71), none, .op (.load none (.t 70))⟩,  ⟨(some 72), none, .call 163 [(.t 69), (.t 71)]⟩,  ⟨(some 73), none, .op (.iad none none (.t 66) (.t 68))⟩,  ⟨none, none, .op (.store 1 (.t 73) (.t 72))⟩] [(3, 9), (5, 9)]
def b5c : FC := .reg [⟨(some 75), none, .op (.bin .none .eql (.t 24) (.v (.int .u8 6)))⟩,  ⟨(some 74), none, .op (.mv (.t 75))⟩] []
def b5d : FC := .reg [⟨(some 76), none, .op (.mv (.t 0))⟩,  ⟨(some 77), none, .op (.fad 2 (.t 4))⟩,  ⟨(some 78), none, .op (.load none (.t 77))⟩,  ⟨(some 79), none, .op (.mv (.t 0))⟩,  ⟨(some 80), none, .op (.nchk (.t 79))⟩,  ⟨(some 81), none, .op (.fad 18 (.t 80))⟩,  ⟨(some 82), none, .op (.load none (.t 81))⟩,  ⟨(some 83), none, .op (.cint .u64 (.t 82))⟩,  ⟨(some 84), none, .op (.bin .none .shl (.t 83) (.v (.int .u64 16)))⟩,  ⟨(some 85), none, .op (.bin .none .or (.v (.int .u64 4611686018427387904)) (.t 84))⟩,  ⟨(some 86), none, .op (.fad 7 (.t 4))⟩,  ⟨(some 87), none, .op (.load none (.t 86))⟩,  ⟨(some 88), none, .op (.cint .u64 (.t 87))⟩,  ⟨(some 89), none, .op (.bin .none .or (.t 85) (.t 88))⟩,  ⟨(some 90), none, .call 71 [(.t 76), (.t 78), (.t 89)]⟩] []
def b5e : FC := .reg [⟨(some 92), none, .op (.bin .none .eql (.t 24) (.v (.int .u8 9)))⟩,  ⟨(some 91), none, .op (.mv (.t 92))⟩] []
def b5f : FC := .reg [⟨(some 93), none, .op (.mv (.t 0))⟩,  ⟨(some 94), none, .op (.fad 4 (.t 4))⟩,  ⟨(some 95), none, .op (.load none (.t 94))⟩,  ⟨(some 96), none, .call 163 [(.t 93), (.t 95)]⟩,  ⟨(some 97), none, .op (.bin .none .eql (.t 96) (.v (.int .u64 0)))⟩] []
def b5g : FC := .reg [⟨(some 98), none, .op (.fad 11 (.t 4))⟩,  ⟨(some 99), none, .op (.load none (.t 98))⟩,  ⟨(some 5), none, .op (.mv (.t 99))⟩] []
def b5h : FC := .cond (.t 97) b5g FC.skip
def b5i : FC := .seq b5f b5h
def b5j : FC := .reg [⟨(some 101), none, .op (.bin .none .eql (.t 24) (.v (.int .u8 10)))⟩,  ⟨(some 100), none, .op (.mv (.t 101))⟩] []
def b5k : FC := .reg [⟨(some 103), none, .op (.bin .none .eql (.t 24) (.v (.int .u8 16)))⟩,  ⟨(some 102), none, .op (.mv (.t 103))⟩] []
def b5l : FC := .reg [⟨(some 104), none, .op (.mv (.t 0))⟩,  ⟨(some 105), none, .op (.fad 2 (.t 4))⟩,  ⟨(some 106), none, .op (.load none (.t 105))⟩,  ⟨(some 107), none, .op (.mv (.t 1))⟩,  ⟨(some 108), none, .op (.nchk (.t 107))⟩,  ⟨(some 109), none, .op (.fad 0 (.t 108))⟩,  ⟨(some 110), none, .op (.load none (.t 109))⟩,  ⟨(some 111), none, .call 139 [(.t 110)]⟩,  ⟨(some 112), none, .call 71 [(.t 104), (.t 106), (.t 111)]⟩] [(2, 7)]
def b5m : FC := .reg [⟨(some 114), none, .op (.bin .none .eql (.t 24) (.v (.int .u8 17)))⟩,  ⟨(some 113), none, .op (.mv (.t 114))⟩] []
def b5n : FC := .reg [⟨(some 115), none, .op (.mv (.t 1))⟩,  ⟨(some 116), none, .op (.nchk (.t 115))⟩,  ⟨(some 117), none, .op (.fad 0 (.t 116))⟩,  ⟨(some 118), none, .op (.load none (.t 117))⟩,  ⟨(some 119), none, .op (.mv (.t 0))⟩,  ⟨(some 120), none, .op (.fad 4 (.t 4))⟩,  ⟨(some 121), none, .op (.load none (.t 120))⟩,  ⟨(some 122), none, .call 163 [(.t 119), (.t 121)]⟩,  ⟨(some 123), none, .call 147 [(.t 118), (.t 122)]⟩] [(3, 7)]
def b5o : FC := .reg [⟨(some 125), none, .op (.bin .none .eql (.t 24) (.v (.int .u8 15)))⟩,  ⟨(some 124), none, .op (.mv (.t 125))⟩] []
def b5p : FC := .reg [⟨(some 127), none, .op (.mv (.t 1))⟩,  ⟨(some 128), none, .call 154 [(.t 127)]⟩,  ⟨(some 126), none, .op (.mv (.t 128))⟩,  ⟨(some 129), none, .op (.ext 0 (.t 126))⟩,  ⟨(some 130), none, .op (.ext 1 (.t 126))⟩,  ⟨(some 6), none, .op (.mv (.t 129))⟩,  ⟨(some 7), none, .op (.mv (.t 130))⟩] []
def b5q : FC := .reg [⟨(some 131), none, .op (.mv (.t 0))⟩,  ⟨(some 132), none, .op (.fad 2 (.t 4))⟩,  ⟨(some 133), none, .op (.load none (.t 132))⟩,  ⟨(some 134), none, .op (.mv (.t 6))⟩,  ⟨(some 135), none, .call 71 [(.t 131), (.t 133), (.t 134)]⟩] []
def b5r : FC := .reg [⟨(some 136), none, .op (.mv (.t 0))⟩,  ⟨(some 137), none, .op (.fad 3 (.t 4))⟩,  ⟨(some 138), none, .op (.load none (.t 137))⟩,  ⟨(some 139), none, .op (.mv (.t 7))⟩,  ⟨(some 140), none, .call 71 [(.t 136), (.t 138), (.t 139)]⟩] []
def b5s : FC := .seq b5q b5r
def b5t : FC := .seq b5p b5s
def b5u : FC := .reg [⟨(some 25), none, .op (.mv (.t 0))⟩,  ⟨(some 26), none, .op (.mv (.t 1))⟩,  ⟨(some 27), none, .op (.load (some 12) (.t 4))⟩,  ⟨(some 28), none, .call 164 [(.t 25), (.t 26), (.t 27)]⟩] []
def b5v : FC := .seq b5u FC.ret
def b5w : FC := .cond (.t 124) b5t b5v
def b5x : FC := .seq b5o b5w
def b5y : FC := .cond (.t 113) b5n b5x
def b5z : FC := .seq b5m b5y
def b5A : FC := .cond (.t 102) b5l b5z
def b5B : FC := .seq b5k b5A
def b5C : FC := .cond (.t 100) FC.skip b5B
def b5D : FC := .seq b5j b5C
def b5E : FC := .cond (.t 91) b5i b5D
def b5F : FC := .seq b5e b5E
def b5G : FC := .cond (.t 74) b5d b5F
def b5H : FC := .seq b5c b5G
def b5I : FC := .cond (.t 61) b5b b5H
def b5J : FC := .seq b5a b5I
def b5K : FC := .cond (.t 47) c1s b5J
def b5L : FC := .seq c1r b5K
def b5M : FC := .cond (.t 37) c1q b5L
def b5N : FC := .seq c1p b5M
def b5O : FC := .cond (.t 29) c1o b5N
def b5P : FC := .seq c1n b5O
def b5Q : FC := .block 0 b5P
def b5R : FC := .seq c1m b5Q
def b5S : FC := .reg [⟨(some 141), none, .op (.mv (.t 0))⟩,  ⟨(some 142), none, .op (.mv (.t 5))⟩,  ⟨(some 143), none, .op (.nchk (.t 141))⟩,  ⟨(some 144), none, .op (.fad 4 (.t 143))⟩,  ⟨none, none, .op (.store 1 (.t 144) (.t 142))⟩] []
def a9v : FC := .seq b5R b5S
def b5T : FC := .seq c1l a9v
def b5U : FC := .seq c1k b5T
def c1t : FC := b5U
theorem a2Y : Fn3 Try.prog 162 145 [] c1t := ⟨_, _, Try.func162, rfl, rfl, rfl, by kernel_rfl⟩

section
variable {a0 a4 a6 a7 : AV} {o : UO} {p : GP} {ek ev dep live : Int} {z : Row} {r : List Row} {ps ps' : List s4} {rj pj : List AV}
theorem a2S {R : List It} : (z.q.x, 0, frC p z.fr z.q) ∈ uL p o a0 a4 a6 a7 ek ev dep live (z :: r) ps rj pj ++ R := .tail _ (.tail _ (.tail _ (.tail _ (.tail _ (.head _)))))
theorem a2j {k : Int} {R : List It} : Rp (uL p o a0 a4 a6 a7 ek ev dep live (z :: r) ps rj pj ++ R) (z.q.x, 0, frC p z.fr z.q) (z.q.x, 0, splice (frC p z.fr z.q) (0 + 4) [.int .i64 k]) (uL p o a0 a4 a6 a7 ek ev dep live ({ z with fr := { z.fr with pc := k } } :: r) ps rj pj ++ R) :=
 Rp.there (Rp.there (Rp.there (Rp.there (Rp.there Rp.here))))
theorem u3 {oi : It} {A R : List It} {S : List Ob} (h : Ab.Sep S (A ++ (oi :: R))) : Ab.Sep S (A ++ R) := h.sub (List.Sublist.append_left (List.sublist_cons_self _ _) _)
theorem x4 {i : d8} {R : List It} {S : List Ob} {K : Post} (hi : u4 z.fr.f.Nodes z.fr.pc = some i) (hS : Ab.Sep S (uL p o a0 a4 a6 a7 ek ev dep live (z :: r) ps rj pj ++ R))
  (h : ∀ oi S', Ab.Sep S' (uL p o a0 a4 a6 a7 ek ev dep live (z :: r) ps rj pj ++ ((oi, 0, i.cells) :: R)) → VT Try.prog S [4] a9v [(0, .ptr z.q.x 0 0), (1, .ptr o.m 0 0), (4, .ptr oi 0 0), (5, .int .i64 i.Next)] S' K) :
  VT Try.prog S [4] c1t (a1z 0 [.ptr z.q.x 0 0, .ptr o.m 0 0]) S K := by
 refine g9 ?_
 refine a0Q ?_
 refine aS ?_
 refine d7 hS rfl a2S (v := .cptr (b9.av z.fr.f).cells 0) rfl ?_
 refine aU ?_
 refine d7 hS rfl a2S (v := .int .i64 z.fr.pc) rfl ?_
 refine aU ?_
 refine p9 (esh := some 12) (f := d8.av) (ys := z.fr.f.Nodes) (y := i) rfl rfl hi ?_
 refine aU ?_
 refine b1b hS rfl (fun oi S1 hS1 => ?_)
 have hne : z.q.x ≠ oi := fun e => (List.nodup_cons.1 hS1.2).1 (by rw [← e]; exact List.mem_map.2 ⟨_, a2S, rfl⟩)
 refine E_stS hS1 rfl (xv := i.av) rfl Rp.here rfl rfl (by first | exact Nat.le_of_ble_eq_true rfl | (simp; omega) | omega) (fun S1 hS1 => ?_)
 refine c7 ?_
 refine And.intro (by simp [a0g, a3S, w9, a0h, hne, Ne.symm hne]) ?_
 refine j1 ?_
 refine g9 ?_
 refine d6 ?_
 refine aS ?_
 refine d7 hS1 rfl (.head _) (v := .int .i64 i.Next) rfl ?_
 refine aS ?_
 refine c7 ?_
 exact a3v (F := [(0, .ptr z.q.x 0 0), (1, .ptr o.m 0 0), (4, .ptr oi 0 0), (5, .int .i64 i.Next)]) (a2a ⟨.refl _, .refl _, .refl _, .refl _, trivial⟩) (h oi S1 (hS1.perm List.perm_middle.symm))
theorem a9w {i : d8} {f1 : SFr} (hi : u4 z.fr.f.Nodes z.fr.pc = some i) (hop : i.Op = 1) (hs : z.fr.set p i.D i.Imm = some f1) :
  Tri Try.prog 162 [.ptr z.q.x 0 0, .ptr o.m 0 0] (uL p o a0 a4 a6 a7 ek ev dep live (z :: r) ps rj pj) (fun _ L' => ∃ f q, q.x = z.q.x ∧ f = { f1 with pc := i.Next } ∧ L' = uL p o a0 a4 a6 a7 ek ev dep live ({ z with fr := f, q := q } :: r) ps rj pj) := by
 obtain ⟨op, by_, D, E, A, B, F, cl, im, Args, nx, el⟩ := i
 dsimp only at hop hs
 subst hop
 refine l6 mixed a2Y zS [4] (fun R S hS => x4 hi hS (fun oi S hS => ?_))
 refine aU ?_
 refine d7 hS rfl (List.mem_append_right _ (.head _)) (v := .int .u8 1) rfl ?_
 refine aU ?_
 refine j9 ?_
 refine aU ?_
 refine f9 (t := true) rfl (fun _ => ?_) (fun h => by cases h)
 refine aU ?_
 refine d7 hS rfl (List.mem_append_right _ (.head _)) (v := .int .i64 D) rfl ?_
 refine aU ?_
 refine d7 hS rfl (List.mem_append_right _ (.head _)) (v := .int .u64 im) rfl ?_
 refine aU ?_
 refine a1l (a0m hs) hS rfl (.refl _) (fun x S L' hL hS => ?_)
 obtain ⟨f, q, rfl, rfl, rfl⟩ := hL
 refine aU ?_
 (repeat (first | refine j3 ?_ | refine j4 ?_ | refine j5 rfl ?_ | refine f6 ?_ | refine f8 ?_ | refine j2 ?_))
 refine aU ?_
 refine E_stS hS rfl (xv := .int .i64 nx) rfl (a2j (z := { z with fr := f }) (k := nx)) rfl rfl (by first | exact Nat.le_of_ble_eq_true rfl | (simp; omega) | omega) (fun S hS => ?_)
 refine aU ?_
 (repeat (first | refine j3 ?_ | refine j4 ?_ | refine j5 rfl ?_ | refine f6 ?_ | refine f8 ?_ | refine j2 ?_))
 exact ⟨trivial, _, rfl, _, ⟨_, z.q, rfl, rfl, rfl⟩, u3 hS⟩
theorem a9x {i : d8} {f1 : SFr} {v : Int} (hi : u4 z.fr.f.Nodes z.fr.pc = some i) (hop : i.Op = 2) (hg : z.fr.get p i.A = some v) (hs : z.fr.set p i.D v = some f1) :
  Tri Try.prog 162 [.ptr z.q.x 0 0, .ptr o.m 0 0] (uL p o a0 a4 a6 a7 ek ev dep live (z :: r) ps rj pj) (fun _ L' => ∃ f q, q.x = z.q.x ∧ f = { f1 with pc := i.Next } ∧ L' = uL p o a0 a4 a6 a7 ek ev dep live ({ z with fr := f, q := q } :: r) ps rj pj) := by
 obtain ⟨op, by_, D, E, A, B, F, cl, im, Args, nx, el⟩ := i
 dsimp only at hop hg hs
 subst hop
 refine l6 mixed a2Y zS [4] (fun R S hS => x4 hi hS (fun oi S hS => ?_))
 refine aU ?_
 refine d7 hS rfl (List.mem_append_right _ (.head _)) (v := .int .u8 2) rfl ?_
 refine aU ?_
 refine j9 ?_
 refine aU ?_
 refine f9 (t := false) rfl (fun h => by cases h) (fun _ => ?_)
 refine aU ?_
 refine f9 (t := true) rfl (fun _ => ?_) (fun h => by cases h)
 refine a0Q ?_
 refine aU ?_
 refine d7 hS rfl (List.mem_append_right _ (.head _)) (v := .int .i64 D) rfl ?_
 refine aU ?_
 refine d7 hS rfl (List.mem_append_right _ (.head _)) (v := .int .i64 A) rfl ?_
 refine aU ?_
 refine a2d (s7 hg) hS rfl (.refl _) ?_
 refine aU ?_
 refine a1l (a0m hs) hS rfl (.refl _) (fun x S L' hL hS => ?_)
 obtain ⟨f, q, rfl, rfl, rfl⟩ := hL
 refine aU ?_
 refine And.intro (by simp [a0g, a3S, w9, a0h]) ?_
 (repeat (first | refine j3 ?_ | refine j4 ?_ | refine j5 rfl ?_ | refine f6 ?_ | refine f8 ?_ | refine j2 ?_))
 refine aU ?_
 refine E_stS hS rfl (xv := .int .i64 nx) rfl (a2j (z := { z with fr := f }) (k := nx)) rfl rfl (by first | exact Nat.le_of_ble_eq_true rfl | (simp; omega) | omega) (fun S hS => ?_)
 refine aU ?_
 (repeat (first | refine j3 ?_ | refine j4 ?_ | refine j5 rfl ?_ | refine f6 ?_ | refine f8 ?_ | refine j2 ?_))
 exact ⟨trivial, _, rfl, _, ⟨_, z.q, rfl, rfl, rfl⟩, u3 hS⟩
theorem a9y {i : d8} {f1 : SFr} {v : Int} (hi : u4 z.fr.f.Nodes z.fr.pc = some i) (hop : i.Op = 4) (hg : u4 z.fr.ce i.Cell = some v) (hs : z.fr.set p i.D v = some f1) :
  Tri Try.prog 162 [.ptr z.q.x 0 0, .ptr o.m 0 0] (uL p o a0 a4 a6 a7 ek ev dep live (z :: r) ps rj pj) (fun _ L' => ∃ f q, q.x = z.q.x ∧ f = { f1 with pc := i.Next } ∧ L' = uL p o a0 a4 a6 a7 ek ev dep live ({ z with fr := f, q := q } :: r) ps rj pj) := by
 obtain ⟨op, by_, D, E, A, B, F, cl, im, Args, nx, el⟩ := i
 dsimp only at hop hg hs
 subst hop
 refine l6 mixed a2Y zS [4] (fun R S hS => x4 hi hS (fun oi S hS => ?_))
 refine aU ?_
 refine d7 hS rfl (List.mem_append_right _ (.head _)) (v := .int .u8 4) rfl ?_
 refine aU ?_
 refine j9 ?_
 refine aU ?_
 refine f9 (t := false) rfl (fun h => by cases h) (fun _ => ?_)
 refine aU ?_
 refine f9 (t := false) rfl (fun h => by cases h) (fun _ => ?_)
 refine aU ?_
 refine f9 (t := true) rfl (fun _ => ?_) (fun h => by cases h)
 refine aU ?_
 refine d7 hS rfl (List.mem_append_right _ (.head _)) (v := .int .i64 D) rfl ?_
 refine aU ?_
 refine d7 hS rfl a2S (v := .ref z.q.t 0 0 z.fr.ce.length none) rfl ?_
 refine aU ?_
 refine d7 hS rfl (List.mem_append_right _ (.head _)) (v := .int .i64 cl) rfl ?_
 refine aU ?_
 obtain ⟨h1, h2, h3⟩ := a0s hg
 refine v7 rfl rfl cl.toNat zO zO ?_
 refine a7c hS (m9 .u64) rfl (List.mem_append_left _ (.tail _ (.tail _ (.tail _ (.tail _ (.tail _ (.tail _ (.tail _ (.head _))))))))) (n := cl.toNat) (fo := 0) (y := v) (by simp [f5]) h3 (v := .int .u64 v) rfl ?_
 refine aU ?_
 refine a1l (a0m hs) hS rfl (.refl _) (fun x S L' hL hS => ?_)
 obtain ⟨f, q, rfl, rfl, rfl⟩ := hL
 refine aU ?_
 (repeat (first | refine j3 ?_ | refine j4 ?_ | refine j5 rfl ?_ | refine f6 ?_ | refine f8 ?_ | refine j2 ?_))
 refine aU ?_
 refine E_stS hS rfl (xv := .int .i64 nx) rfl (a2j (z := { z with fr := f }) (k := nx)) rfl rfl (by first | exact Nat.le_of_ble_eq_true rfl | (simp; omega) | omega) (fun S hS => ?_)
 refine aU ?_
 (repeat (first | refine j3 ?_ | refine j4 ?_ | refine j5 rfl ?_ | refine f6 ?_ | refine f8 ?_ | refine j2 ?_))
 exact ⟨trivial, _, rfl, _, ⟨_, z.q, rfl, rfl, rfl⟩, u3 hS⟩
theorem a9z {i : d8} {v w : Int} (hi : u4 z.fr.f.Nodes z.fr.pc = some i) (hop : i.Op = 5) (hg : z.fr.get p i.A = some v) (hc : u4 z.fr.ce i.Cell = some w) :
  Tri Try.prog 162 [.ptr z.q.x 0 0, .ptr o.m 0 0] (uL p o a0 a4 a6 a7 ek ev dep live (z :: r) ps rj pj) (fun _ L' => ∃ f q, q.x = z.q.x ∧ f = { z.fr with ce := z.fr.ce.set i.Cell.toNat v, pc := i.Next } ∧ L' = uL p o a0 a4 a6 a7 ek ev dep live ({ z with fr := f, q := q } :: r) ps rj pj) := by
 obtain ⟨op, by_, D, E, A, B, F, cl, im, Args, nx, el⟩ := i
 dsimp only at hop hg hc
 subst hop
 refine l6 mixed a2Y zS [4] (fun R S hS => x4 hi hS (fun oi S hS => ?_))
 refine aU ?_
 refine d7 hS rfl (List.mem_append_right _ (.head _)) (v := .int .u8 5) rfl ?_
 refine aU ?_
 refine j9 ?_
 refine aU ?_
 refine f9 (t := false) rfl (fun h => by cases h) (fun _ => ?_)
 refine aU ?_
 refine f9 (t := false) rfl (fun h => by cases h) (fun _ => ?_)
 refine aU ?_
 refine f9 (t := false) rfl (fun h => by cases h) (fun _ => ?_)
 refine aU ?_
 refine f9 (t := true) rfl (fun _ => ?_) (fun h => by cases h)
 refine a0Q ?_
 refine aU ?_
 refine d7 hS rfl a2S (v := .ref z.q.t 0 0 z.fr.ce.length none) rfl ?_
 refine aU ?_
 refine d7 hS rfl (List.mem_append_right _ (.head _)) (v := .int .i64 cl) rfl ?_
 refine aU ?_
 refine d7 hS rfl (List.mem_append_right _ (.head _)) (v := .int .i64 A) rfl ?_
 refine aU ?_
 refine a2d (s7 hg) hS rfl (.refl _) ?_
 refine aU ?_
 obtain ⟨h1, h2, h3⟩ := a0s hc
 refine v7 rfl rfl cl.toNat zO zO ?_
 have hR := b4Z (p := p) (k := cl.toNat) (v := v) (R := (oi, 0, d8.cells ⟨5, by_, D, E, A, B, F, cl, im, Args, nx, el⟩) :: R) (z :: r) 0 (y := z) rfl
 simp only [List.modify_zero_cons] at hR
 have hR2 : Rp (uL p o a0 a4 a6 a7 ek ev dep live (z :: r) ps rj pj ++ ((oi, 0, d8.cells ⟨5, by_, D, E, A, B, F, cl, im, Args, nx, el⟩) :: R)) (z.q.t, 0, flat (avI .u64) z.fr.ce) (z.q.t, 0, flat (avI .u64) (z.fr.ce.set cl.toNat v)) (uL p o a0 a4 a6 a7 ek ev dep live (a2i cl.toNat v z :: r) ps rj pj ++ ((oi, 0, d8.cells ⟨5, by_, D, E, A, B, F, cl, im, Args, nx, el⟩) :: R)) := Rp.there (Rp.there (Rp.there hR))
 refine a7d (y' := v) (l := z.fr.ce) hS (m9 .u64) rfl (xv := .int .u64 v) rfl (n := cl.toNat) (fo := 0) (y := w) (by simp [f5]) h3 hR2 rfl rfl (by simp [f5]) rfl (fun S hS => ?_)
 refine aU ?_
 refine And.intro (by simp [a0g, a3S, w9, a0h]) ?_
 (repeat (first | refine j3 ?_ | refine j4 ?_ | refine j5 rfl ?_ | refine f6 ?_ | refine f8 ?_ | refine j2 ?_))
 refine aU ?_
 refine E_stS hS rfl (xv := .int .i64 nx) rfl (a2j (z := { z with fr := { z.fr with ce := z.fr.ce.set cl.toNat v } }) (k := nx)) rfl rfl (by first | exact Nat.le_of_ble_eq_true rfl | (simp; omega) | omega) (fun S hS => ?_)
 refine aU ?_
 (repeat (first | refine j3 ?_ | refine j4 ?_ | refine j5 rfl ?_ | refine f6 ?_ | refine f8 ?_ | refine j2 ?_))
 exact ⟨trivial, _, rfl, _, ⟨_, z.q, rfl, rfl, rfl⟩, u3 hS⟩
def c4w (a b : Int) : Int := IntKind.u64.wrap ↑(BitVec.ofInt IntKind.u64.bits (IntKind.u64.wrap ↑(BitVec.ofInt IntKind.u64.bits 4611686018427387904 ||| BitVec.ofInt IntKind.u64.bits (IntKind.u64.wrap (IntKind.u64.wrap a * 2 ^ min (Int.toNat 16) IntKind.u64.bits))).toNat) ||| BitVec.ofInt IntKind.u64.bits (IntKind.u64.wrap b)).toNat
theorem a9A {i : d8} {f1 : SFr} (hi : u4 z.fr.f.Nodes z.fr.pc = some i) (hop : i.Op = 6) (hs : z.fr.set p i.D (c4w z.fr.nu i.Cell) = some f1) :
  Tri Try.prog 162 [.ptr z.q.x 0 0, .ptr o.m 0 0] (uL p o a0 a4 a6 a7 ek ev dep live (z :: r) ps rj pj) (fun _ L' => ∃ f q, q.x = z.q.x ∧ f = { f1 with pc := i.Next } ∧ L' = uL p o a0 a4 a6 a7 ek ev dep live ({ z with fr := f, q := q } :: r) ps rj pj) := by
 obtain ⟨op, by_, D, E, A, B, F, cl, im, Args, nx, el⟩ := i
 dsimp only at hop hs
 subst hop
 refine l6 mixed a2Y zS [4] (fun R S hS => x4 hi hS (fun oi S hS => ?_))
 refine aU ?_
 refine d7 hS rfl (List.mem_append_right _ (.head _)) (v := .int .u8 6) rfl ?_
 refine aU ?_
 refine j9 ?_
 refine aU ?_
 refine f9 (t := false) rfl (fun h => by cases h) (fun _ => ?_)
 refine aU ?_
 refine f9 (t := false) rfl (fun h => by cases h) (fun _ => ?_)
 refine aU ?_
 refine f9 (t := false) rfl (fun h => by cases h) (fun _ => ?_)
 refine aU ?_
 refine f9 (t := false) rfl (fun h => by cases h) (fun _ => ?_)
 refine aU ?_
 refine f9 (t := true) rfl (fun _ => ?_) (fun h => by cases h)
 refine aU ?_
 refine d7 hS rfl (List.mem_append_right _ (.head _)) (v := .int .i64 D) rfl ?_
 refine aU ?_
 refine d7 hS rfl a2S (v := .int .i64 z.fr.nu) rfl ?_
 refine aU ?_
 refine d7 hS rfl (List.mem_append_right _ (.head _)) (v := .int .i64 cl) rfl ?_
 refine aU ?_
 refine a1l (a0m hs) hS rfl (.refl _) (fun x S L' hL hS => ?_)
 obtain ⟨f, q, rfl, rfl, rfl⟩ := hL
 refine aU ?_
 (repeat (first | refine j3 ?_ | refine j4 ?_ | refine j5 rfl ?_ | refine f6 ?_ | refine f8 ?_ | refine j2 ?_))
 refine aU ?_
 refine E_stS hS rfl (xv := .int .i64 nx) rfl (a2j (z := { z with fr := f }) (k := nx)) rfl rfl (by first | exact Nat.le_of_ble_eq_true rfl | (simp; omega) | omega) (fun S hS => ?_)
 refine aU ?_
 (repeat (first | refine j3 ?_ | refine j4 ?_ | refine j5 rfl ?_ | refine f6 ?_ | refine f8 ?_ | refine j2 ?_))
 exact ⟨trivial, _, rfl, _, ⟨_, z.q, rfl, rfl, rfl⟩, u3 hS⟩
theorem a7I {i : d8} (hi : u4 z.fr.f.Nodes z.fr.pc = some i) (hop : i.Op = 9) (hg : z.fr.get p i.A = some 0) :
  Tri Try.prog 162 [.ptr z.q.x 0 0, .ptr o.m 0 0] (uL p o a0 a4 a6 a7 ek ev dep live (z :: r) ps rj pj) (fun _ L' => ∃ f q, q.x = z.q.x ∧ f = { z.fr with pc := i.Else } ∧ L' = uL p o a0 a4 a6 a7 ek ev dep live ({ z with fr := f, q := q } :: r) ps rj pj) := by
 obtain ⟨op, by_, D, E, A, B, F, cl, im, Args, nx, el⟩ := i
 dsimp only at hop hg
 subst hop
 refine l6 mixed a2Y zS [4] (fun R S hS => x4 hi hS (fun oi S hS => ?_))
 refine aU ?_
 refine d7 hS rfl (List.mem_append_right _ (.head _)) (v := .int .u8 9) rfl ?_
 refine aU ?_
 refine j9 ?_
 refine aU ?_
 refine f9 (t := false) rfl (fun h => by cases h) (fun _ => ?_)
 refine aU ?_
 refine f9 (t := false) rfl (fun h => by cases h) (fun _ => ?_)
 refine aU ?_
 refine f9 (t := false) rfl (fun h => by cases h) (fun _ => ?_)
 refine aU ?_
 refine f9 (t := false) rfl (fun h => by cases h) (fun _ => ?_)
 refine aU ?_
 refine f9 (t := false) rfl (fun h => by cases h) (fun _ => ?_)
 refine aU ?_
 refine f9 (t := true) rfl (fun _ => ?_) (fun h => by cases h)
 refine aU ?_
 refine d7 hS rfl (List.mem_append_right _ (.head _)) (v := .int .i64 A) rfl ?_
 refine aU ?_
 refine a2d (s7 hg) hS rfl (.refl _) ?_
 refine aU ?_
 refine f9 (t := true) rfl (fun _ => ?_) (fun h => by cases h)
 refine aU ?_
 refine d7 hS rfl (List.mem_append_right _ (.head _)) (v := .int .i64 el) rfl ?_
 refine aU ?_
 (repeat (first | refine j3 ?_ | refine j4 ?_ | refine j5 rfl ?_ | refine f6 ?_ | refine f8 ?_ | refine j2 ?_))
 refine aU ?_
 refine E_stS hS rfl (xv := .int .i64 el) rfl (a2j (z := z) (k := el)) rfl rfl (by first | exact Nat.le_of_ble_eq_true rfl | (simp; omega) | omega) (fun S hS => ?_)
 refine aU ?_
 (repeat (first | refine j3 ?_ | refine j4 ?_ | refine j5 rfl ?_ | refine f6 ?_ | refine f8 ?_ | refine j2 ?_))
 exact ⟨trivial, _, rfl, _, ⟨_, z.q, rfl, rfl, rfl⟩, u3 hS⟩
theorem a7J {i : d8} {v : Int} (hi : u4 z.fr.f.Nodes z.fr.pc = some i) (hop : i.Op = 9) (hg : z.fr.get p i.A = some v) (hv : (v == 0) = false) :
  Tri Try.prog 162 [.ptr z.q.x 0 0, .ptr o.m 0 0] (uL p o a0 a4 a6 a7 ek ev dep live (z :: r) ps rj pj) (fun _ L' => ∃ f q, q.x = z.q.x ∧ f = { z.fr with pc := i.Next } ∧ L' = uL p o a0 a4 a6 a7 ek ev dep live ({ z with fr := f, q := q } :: r) ps rj pj) := by
 obtain ⟨op, by_, D, E, A, B, F, cl, im, Args, nx, el⟩ := i
 dsimp only at hop hg
 subst hop
 refine l6 mixed a2Y zS [4] (fun R S hS => x4 hi hS (fun oi S hS => ?_))
 refine aU ?_
 refine d7 hS rfl (List.mem_append_right _ (.head _)) (v := .int .u8 9) rfl ?_
 refine aU ?_
 refine j9 ?_
 refine aU ?_
 refine f9 (t := false) rfl (fun h => by cases h) (fun _ => ?_)
 refine aU ?_
 refine f9 (t := false) rfl (fun h => by cases h) (fun _ => ?_)
 refine aU ?_
 refine f9 (t := false) rfl (fun h => by cases h) (fun _ => ?_)
 refine aU ?_
 refine f9 (t := false) rfl (fun h => by cases h) (fun _ => ?_)
 refine aU ?_
 refine f9 (t := false) rfl (fun h => by cases h) (fun _ => ?_)
 refine aU ?_
 refine f9 (t := true) rfl (fun _ => ?_) (fun h => by cases h)
 refine aU ?_
 refine d7 hS rfl (List.mem_append_right _ (.head _)) (v := .int .i64 A) rfl ?_
 refine aU ?_
 refine a2d (s7 hg) hS rfl (.refl _) ?_
 refine aU ?_
 refine f9 (t := false) (by show AV.bool (v == 0) = _; rw [hv]) (fun h => by cases h) (fun _ => ?_)
 refine aU ?_
 (repeat (first | refine j3 ?_ | refine j4 ?_ | refine j5 rfl ?_ | refine f6 ?_ | refine f8 ?_ | refine j2 ?_))
 refine aU ?_
 refine E_stS hS rfl (xv := .int .i64 nx) rfl (a2j (z := z) (k := nx)) rfl rfl (by first | exact Nat.le_of_ble_eq_true rfl | (simp; omega) | omega) (fun S hS => ?_)
 refine aU ?_
 (repeat (first | refine j3 ?_ | refine j4 ?_ | refine j5 rfl ?_ | refine f6 ?_ | refine f8 ?_ | refine j2 ?_))
 exact ⟨trivial, _, rfl, _, ⟨_, z.q, rfl, rfl, rfl⟩, u3 hS⟩
theorem a7K {i : d8} (hi : u4 z.fr.f.Nodes z.fr.pc = some i) (hop : i.Op = 10) :
  Tri Try.prog 162 [.ptr z.q.x 0 0, .ptr o.m 0 0] (uL p o a0 a4 a6 a7 ek ev dep live (z :: r) ps rj pj) (fun _ L' => ∃ f q, q.x = z.q.x ∧ f = { z.fr with pc := i.Next } ∧ L' = uL p o a0 a4 a6 a7 ek ev dep live ({ z with fr := f, q := q } :: r) ps rj pj) := by
 obtain ⟨op, by_, D, E, A, B, F, cl, im, Args, nx, el⟩ := i
 dsimp only at hop
 subst hop
 refine l6 mixed a2Y zS [4] (fun R S hS => x4 hi hS (fun oi S hS => ?_))
 refine aU ?_
 refine d7 hS rfl (List.mem_append_right _ (.head _)) (v := .int .u8 10) rfl ?_
 refine aU ?_
 refine j9 ?_
 refine aU ?_
 refine f9 (t := false) rfl (fun h => by cases h) (fun _ => ?_)
 refine aU ?_
 refine f9 (t := false) rfl (fun h => by cases h) (fun _ => ?_)
 refine aU ?_
 refine f9 (t := false) rfl (fun h => by cases h) (fun _ => ?_)
 refine aU ?_
 refine f9 (t := false) rfl (fun h => by cases h) (fun _ => ?_)
 refine aU ?_
 refine f9 (t := false) rfl (fun h => by cases h) (fun _ => ?_)
 refine aU ?_
 refine f9 (t := false) rfl (fun h => by cases h) (fun _ => ?_)
 refine aU ?_
 refine f9 (t := true) rfl (fun _ => ?_) (fun h => by cases h)
 refine aU ?_
 (repeat (first | refine j3 ?_ | refine j4 ?_ | refine j5 rfl ?_ | refine f6 ?_ | refine f8 ?_ | refine j2 ?_))
 refine aU ?_
 refine E_stS hS rfl (xv := .int .i64 nx) rfl (a2j (z := z) (k := nx)) rfl rfl (by first | exact Nat.le_of_ble_eq_true rfl | (simp; omega) | omega) (fun S hS => ?_)
 refine aU ?_
 (repeat (first | refine j3 ?_ | refine j4 ?_ | refine j5 rfl ?_ | refine f6 ?_ | refine f8 ?_ | refine j2 ?_))
 exact ⟨trivial, _, rfl, _, ⟨_, z.q, rfl, rfl, rfl⟩, u3 hS⟩
theorem a7L {i : d8} {f1 : SFr} {tr te tv : Nat} {tape : List Int} {evs : List k6} (hi : u4 z.fr.f.Nodes z.fr.pc = some i) (hop : i.Op = 16) (hs : z.fr.set p i.D (inV tape) = some f1) (hl : evs.length < 1000000000) :
  Tri Try.prog 162 [.ptr z.q.x 0 0, .ptr o.m 0 0] (uL p o (.ptr tr 0 0) a4 a6 a7 ek ev dep live (z :: r) ps rj pj ++ [(tr, 0, [.sl false 1 (tape.map (avI .u64)), .ref te tv 0 evs.length (some 2)]), (te, tv, flat k6.av evs)])
   (fun _ L' => ∃ f q, q.x = z.q.x ∧ f = { f1 with pc := i.Next } ∧ L' = uL p o (.ptr tr 0 0) a4 a6 a7 ek ev dep live ({ z with fr := f, q := q } :: r) ps rj pj ++ [(tr, 0, [.sl false 1 (tape.tail.map (avI .u64)), .ref te (tv + 1) 0 (evs ++ [(⟨2, inV tape⟩ : k6)]).length (some 2)]), (te, tv + 1, flat k6.av (evs ++ [(⟨2, inV tape⟩ : k6)]))]) := by
 obtain ⟨op, by_, D, E, A, B, F, cl, im, Args, nx, el⟩ := i
 dsimp only at hop hs
 subst hop
 refine l6 mixed a2Y zS [4] (fun R S hS => x4 hi (by rw [List.append_assoc] at hS; exact hS) (fun oi S hS => ?_))
 refine aU ?_
 refine d7 hS rfl (List.mem_append_right _ (.head _)) (v := .int .u8 16) rfl ?_
 refine aU ?_
 refine j9 ?_
 refine aU ?_
 refine f9 (t := false) rfl (fun h => by cases h) (fun _ => ?_)
 refine aU ?_
 refine f9 (t := false) rfl (fun h => by cases h) (fun _ => ?_)
 refine aU ?_
 refine f9 (t := false) rfl (fun h => by cases h) (fun _ => ?_)
 refine aU ?_
 refine f9 (t := false) rfl (fun h => by cases h) (fun _ => ?_)
 refine aU ?_
 refine f9 (t := false) rfl (fun h => by cases h) (fun _ => ?_)
 refine aU ?_
 refine f9 (t := false) rfl (fun h => by cases h) (fun _ => ?_)
 refine aU ?_
 refine f9 (t := false) rfl (fun h => by cases h) (fun _ => ?_)
 refine aU ?_
 refine f9 (t := true) rfl (fun _ => ?_) (fun h => by cases h)
 refine a0Q ?_
 refine aU ?_
 refine d7 hS rfl (List.mem_append_right _ (.head _)) (v := .int .i64 D) rfl ?_
 refine aU ?_
 have hm1 := hS.at (List.mem_append_right (uL p o (.ptr tr 0 0) a4 a6 a7 ek ev dep live (z :: r) ps rj pj) (.head _))
 refine d7 hS rfl (.head _) (v := .ptr tr 0 0) rfl ?_
 refine aU ?_
 refine a1l (b8S (tape := tape) (evs := evs) (te := te) (tv := tv) hl) hS rfl (Spl.cons (Pk.skip (Pk.there Pk.here)) (Spl.cons (Pk.skip (Pk.there Pk.here)) Spl.nil)) (fun x S L' hL hS => ?_)
 obtain ⟨rfl, rfl⟩ := hL
 have hm2 := hS.at (.tail _ (.tail _ (List.mem_append_right (uL p o (.ptr tr 0 0) a4 a6 a7 ek ev dep live (z :: r) ps rj pj) (.head _))))
 refine aU ?_
 refine a1l (a0m hs) hS rfl (Spl.last (PkC.there (PkC.there PkC.here))) (fun x S L' hL hS => ?_)
 obtain ⟨f, q, rfl, rfl, rfl⟩ := hL
 refine aU ?_
 refine And.intro ⟨⟨rfl, fun x hx => by rw [List.mem_singleton.1 hx]; exact hm2.trans hm1.symm⟩, trivial⟩ ?_
 (repeat (first | refine j3 ?_ | refine j4 ?_ | refine j5 rfl ?_ | refine f6 ?_ | refine f8 ?_ | refine j2 ?_))
 refine aU ?_
 refine E_stS hS rfl (xv := .int .i64 nx) rfl (a2j (z := { z with fr := f }) (k := nx)) rfl rfl (by first | exact Nat.le_of_ble_eq_true rfl | (simp; omega) | omega) (fun S hS => ?_)
 refine aU ?_
 (repeat (first | refine j3 ?_ | refine j4 ?_ | refine j5 rfl ?_ | refine f6 ?_ | refine f8 ?_ | refine j2 ?_))
 refine ⟨trivial, _, rfl, _, ⟨_, z.q, rfl, rfl, rfl⟩, ?_⟩
 rw [List.append_assoc]
 exact hS.sub (List.Sublist.append_left (.cons_cons _ (.cons_cons _ (.cons _ (.refl _)))) _)
theorem a7M {i : d8} {v : Int} {tr te tv : Nat} {tape : List Int} {evs : List k6} (hi : u4 z.fr.f.Nodes z.fr.pc = some i) (hop : i.Op = 17) (hg : z.fr.get p i.A = some v) (hl : evs.length < 1000000000) :
  Tri Try.prog 162 [.ptr z.q.x 0 0, .ptr o.m 0 0] (uL p o (.ptr tr 0 0) a4 a6 a7 ek ev dep live (z :: r) ps rj pj ++ [(tr, 0, [.sl false 1 (tape.map (avI .u64)), .ref te tv 0 evs.length (some 2)]), (te, tv, flat k6.av evs)])
   (fun _ L' => ∃ f q, q.x = z.q.x ∧ f = { z.fr with pc := i.Next } ∧ L' = uL p o (.ptr tr 0 0) a4 a6 a7 ek ev dep live ({ z with fr := f, q := q } :: r) ps rj pj ++ [(tr, 0, [.sl false 1 (tape.map (avI .u64)), .ref te (tv + 1) 0 (evs ++ [(⟨1, v⟩ : k6)]).length (some 2)]), (te, tv + 1, flat k6.av (evs ++ [(⟨1, v⟩ : k6)]))]) := by
 obtain ⟨op, by_, D, E, A, B, F, cl, im, Args, nx, el⟩ := i
 dsimp only at hop hg
 subst hop
 refine l6 mixed a2Y zS [4] (fun R S hS => x4 hi (by rw [List.append_assoc] at hS; exact hS) (fun oi S hS => ?_))
 refine aU ?_
 refine d7 hS rfl (List.mem_append_right _ (.head _)) (v := .int .u8 17) rfl ?_
 refine aU ?_
 refine j9 ?_
 refine aU ?_
 refine f9 (t := false) rfl (fun h => by cases h) (fun _ => ?_)
 refine aU ?_
 refine f9 (t := false) rfl (fun h => by cases h) (fun _ => ?_)
 refine aU ?_
 refine f9 (t := false) rfl (fun h => by cases h) (fun _ => ?_)
 refine aU ?_
 refine f9 (t := false) rfl (fun h => by cases h) (fun _ => ?_)
 refine aU ?_
 refine f9 (t := false) rfl (fun h => by cases h) (fun _ => ?_)
 refine aU ?_
 refine f9 (t := false) rfl (fun h => by cases h) (fun _ => ?_)
 refine aU ?_
 refine f9 (t := false) rfl (fun h => by cases h) (fun _ => ?_)
 refine aU ?_
 refine f9 (t := false) rfl (fun h => by cases h) (fun _ => ?_)
 refine aU ?_
 refine f9 (t := true) rfl (fun _ => ?_) (fun h => by cases h)
 refine a0Q ?_
 refine aU ?_
 refine d7 hS rfl (.head _) (v := .ptr tr 0 0) rfl ?_
 refine aU ?_
 refine d7 hS rfl (List.mem_append_right _ (.head _)) (v := .int .i64 A) rfl ?_
 refine aU ?_
 refine a2d (s7 hg) hS rfl (.refl _) ?_
 refine aU ?_
 refine a1l (b2U (tape := tape) (evs := evs) (te := te) (tv := tv) (v := v) hl) hS rfl (Spl.cons (Pk.skip (Pk.there Pk.here)) (Spl.cons (Pk.skip (Pk.there Pk.here)) Spl.nil)) (fun x S L' hL hS => ?_)
 subst hL
 refine aU ?_
 refine And.intro (by simp [a0g, a3S, w9, a0h]) ?_
 (repeat (first | refine j3 ?_ | refine j4 ?_ | refine j5 rfl ?_ | refine f6 ?_ | refine f8 ?_ | refine j2 ?_))
 refine aU ?_
 have hS2 := hS.perm (Spl.last (PkC.there (PkC.there PkC.here)) : Spl (_ :: _ :: (uL p o (.ptr tr 0 0) a4 a6 a7 ek ev dep live _ ps rj pj ++ _)) _ _)
 refine E_stS hS2 rfl (xv := .int .i64 nx) rfl (a2j (z := z) (k := nx)) rfl rfl (by first | exact Nat.le_of_ble_eq_true rfl | (simp; omega) | omega) (fun S hS => ?_)
 refine aU ?_
 (repeat (first | refine j3 ?_ | refine j4 ?_ | refine j5 rfl ?_ | refine f6 ?_ | refine f8 ?_ | refine j2 ?_))
 refine ⟨trivial, _, rfl, _, ⟨_, z.q, rfl, rfl, rfl⟩, ?_⟩
 rw [List.append_assoc]
 exact hS.sub (List.Sublist.append_left (.cons_cons _ (.cons_cons _ (.cons _ (.refl _)))) _)
theorem b1o (hw : z.why = 2 → ps ≠ []) (hn : r.length < 100000000) (hp : ps.length < 100000000) :
  Tri Try.prog 154 [.ptr o.m 0 0] (uL p o a0 a4 a6 a7 ek ev dep live (z :: r) ps rj pj) (fun x L' => x = .tup [.int .u64 (a2H z.why ps).1.1, .int .u64 (a2H z.why ps).1.2] ∧ L' = uL p o a0 a4 a6 a7 ek ev dep live (z :: r) (a2H z.why ps).2 rj pj) := fun R S hS => by
 have hlen : (a2H z.why ps).2.length = ps.length := by
  unfold a2H
  cases ps with
  | nil => rfl
  | cons x l => dsimp only; split <;> rfl
 have c := a6n (a0 := a0) (a1 := mkA p) (a2 := .int .i64 ek) (a3 := .int .u64 ev) (a4 := a4) (a5 := .int .i64 dep) (a6 := a6) (a7 := a7) (a10 := .int .i64 live) (m := o.m) (ro := o.ro) (rv := o.rv) (n := r.length) (po := o.po) (pv := o.pv) (rc := a0l r) (rj := rj) (pj := pj) (z := z) (pans := ps) hn zS hw hp
 have h0 : Ab.Sep S (((o.m, 0, [a0, mkA p, .int .i64 ek, .int .u64 ev, a4, .int .i64 dep, a6, a7, .ref o.ro o.rv 0 (r.length + 1) none, .ref o.po o.pv 0 ps.length (some 2), .int .i64 live]) :: (o.ro, o.rv, a0l r ++ (.ptr z.s 0 0 :: rj)) :: (o.po, o.pv, flat s4.av ps.reverse ++ pj) :: slL z) ++ (frL p z.fr z.q ++ (r.flatMap (a0c p) ++ R))) := by
  rw [← u0]
  simpa [uL, a0c, slL, List.append_assoc] using hS
 obtain ⟨v, S', h1, L', ⟨rfl, rfl⟩, h4⟩ := c _ _ h0
 refine ⟨_, S', h1, _, ⟨rfl, rfl⟩, ?_⟩
 rw [← u0] at h4
 show Ab.Sep S' (((o.m, 0, [a0, mkA p, .int .i64 ek, .int .u64 ev, a4, .int .i64 dep, a6, a7, .ref o.ro o.rv 0 (r.length + 1) none, .ref o.po o.pv 0 (a2H z.why ps).2.length (some 2), .int .i64 live]) :: (o.ro, o.rv, a0l (z :: r) ++ rj) :: (o.po, o.pv, flat s4.av (a2H z.why ps).2.reverse ++ pj) :: (z :: r).flatMap (a0c p)) ++ R)
 rw [hlen]
 simpa [a0c, slL, List.append_assoc] using h4
theorem a7N {i : d8} {f1 f2 : SFr} (hi : u4 z.fr.f.Nodes z.fr.pc = some i) (hop : i.Op = 15) (hw : z.why = 2 → ps ≠ []) (hn : r.length < 100000000) (hp : ps.length < 100000000) (hs : z.fr.set p i.D (a2H z.why ps).1.1 = some f1) (hs2 : f1.set p i.E (a2H z.why ps).1.2 = some f2) :
  Tri Try.prog 162 [.ptr z.q.x 0 0, .ptr o.m 0 0] (uL p o a0 a4 a6 a7 ek ev dep live (z :: r) ps rj pj) (fun _ L' => ∃ f q, q.x = z.q.x ∧ f = { f2 with pc := i.Next } ∧ L' = uL p o a0 a4 a6 a7 ek ev dep live ({ z with fr := f, q := q } :: r) (a2H z.why ps).2 rj pj) := by
 obtain ⟨op, by_, D, E, A, B, F, cl, im, Args, nx, el⟩ := i
 dsimp only at hop hs hs2
 subst hop
 refine l6 mixed a2Y zS [4] (fun R S hS => x4 hi hS (fun oi S hS => ?_))
 refine aU ?_
 refine d7 hS rfl (List.mem_append_right _ (.head _)) (v := .int .u8 15) rfl ?_
 refine aU ?_
 refine j9 ?_
 refine aU ?_
 refine f9 (t := false) rfl (fun h => by cases h) (fun _ => ?_)
 refine aU ?_
 refine f9 (t := false) rfl (fun h => by cases h) (fun _ => ?_)
 refine aU ?_
 refine f9 (t := false) rfl (fun h => by cases h) (fun _ => ?_)
 refine aU ?_
 refine f9 (t := false) rfl (fun h => by cases h) (fun _ => ?_)
 refine aU ?_
 refine f9 (t := false) rfl (fun h => by cases h) (fun _ => ?_)
 refine aU ?_
 refine f9 (t := false) rfl (fun h => by cases h) (fun _ => ?_)
 refine aU ?_
 refine f9 (t := false) rfl (fun h => by cases h) (fun _ => ?_)
 refine aU ?_
 refine f9 (t := false) rfl (fun h => by cases h) (fun _ => ?_)
 refine aU ?_
 refine f9 (t := false) rfl (fun h => by cases h) (fun _ => ?_)
 refine aU ?_
 refine f9 (t := true) rfl (fun _ => ?_) (fun h => by cases h)
 refine aU ?_
 refine a1l (b1o hw hn hp) hS rfl (.refl _) (fun x S L' hL hS => ?_)
 obtain ⟨rfl, rfl⟩ := hL
 refine aU ?_
 refine d7 hS rfl (List.mem_append_right _ (.head _)) (v := .int .i64 D) rfl ?_
 refine aU ?_
 refine a1l (a0m hs) hS rfl (.refl _) (fun x S L' hL hS => ?_)
 obtain ⟨f, q, rfl, rfl, rfl⟩ := hL
 refine aU ?_
 refine d7 hS rfl (List.mem_append_right _ (.head _)) (v := .int .i64 E) rfl ?_
 refine aU ?_
 refine a1l (a0m (z := { z with fr := f }) hs2) hS rfl (.refl _) (fun x S L' hL hS => ?_)
 obtain ⟨f, q, rfl, rfl, rfl⟩ := hL
 refine aU ?_
 (repeat (first | refine j3 ?_ | refine j4 ?_ | refine j5 rfl ?_ | refine f6 ?_ | refine f8 ?_ | refine j2 ?_))
 refine aU ?_
 refine E_stS hS rfl (xv := .int .i64 nx) rfl (a2j (z := { z with fr := f }) (k := nx)) rfl rfl (by first | exact Nat.le_of_ble_eq_true rfl | (simp; omega) | omega) (fun S hS => ?_)
 refine aU ?_
 (repeat (first | refine j3 ?_ | refine j4 ?_ | refine j5 rfl ?_ | refine f6 ?_ | refine f8 ?_ | refine j2 ?_))
 exact ⟨trivial, _, rfl, _, ⟨_, z.q, rfl, rfl, rfl⟩, u3 hS⟩
theorem w6 {i : d8} {Q : List It → Prop} (hi : u4 z.fr.f.Nodes z.fr.pc = some i) (hop : (i.Op == 1) = false ∧ (i.Op == 2) = false ∧ (i.Op == 4) = false ∧ (i.Op == 5) = false ∧ (i.Op == 6) = false ∧ (i.Op == 9) = false ∧ (i.Op == 10) = false ∧ (i.Op == 16) = false ∧ (i.Op == 17) = false ∧ (i.Op == 15) = false)
  (c : Tri Try.prog 164 [.ptr z.q.x 0 0, .ptr o.m 0 0, i.av] (uL p o a0 a4 a6 a7 ek ev dep live (z :: r) ps rj pj) (fun _ L' => Q L')) :
  Tri Try.prog 162 [.ptr z.q.x 0 0, .ptr o.m 0 0] (uL p o a0 a4 a6 a7 ek ev dep live (z :: r) ps rj pj) (fun _ L' => Q L') := by
 obtain ⟨o1, o2, o4, o5, o6, o9, o10, o16, o17, o15⟩ := hop
 refine l6 mixed a2Y zS [4] (fun R S hS => x4 hi hS (fun oi S hS => ?_))
 refine aU ?_
 refine d7 hS rfl (List.mem_append_right _ (.head _)) (v := .int .u8 i.Op) rfl ?_
 refine aU ?_
 refine j9 ?_
 refine aU ?_
 refine f9 (t := false) (by show AV.bool (i.Op == 1) = _; rw [o1]) (fun h => by cases h) (fun _ => ?_)
 refine aU ?_
 refine f9 (t := false) (by show AV.bool (i.Op == 2) = _; rw [o2]) (fun h => by cases h) (fun _ => ?_)
 refine aU ?_
 refine f9 (t := false) (by show AV.bool (i.Op == 4) = _; rw [o4]) (fun h => by cases h) (fun _ => ?_)
 refine aU ?_
 refine f9 (t := false) (by show AV.bool (i.Op == 5) = _; rw [o5]) (fun h => by cases h) (fun _ => ?_)
 refine aU ?_
 refine f9 (t := false) (by show AV.bool (i.Op == 6) = _; rw [o6]) (fun h => by cases h) (fun _ => ?_)
 refine aU ?_
 refine f9 (t := false) (by show AV.bool (i.Op == 9) = _; rw [o9]) (fun h => by cases h) (fun _ => ?_)
 refine aU ?_
 refine f9 (t := false) (by show AV.bool (i.Op == 10) = _; rw [o10]) (fun h => by cases h) (fun _ => ?_)
 refine aU ?_
 refine f9 (t := false) (by show AV.bool (i.Op == 16) = _; rw [o16]) (fun h => by cases h) (fun _ => ?_)
 refine aU ?_
 refine f9 (t := false) (by show AV.bool (i.Op == 17) = _; rw [o17]) (fun h => by cases h) (fun _ => ?_)
 refine aU ?_
 refine f9 (t := false) (by show AV.bool (i.Op == 15) = _; rw [o15]) (fun h => by cases h) (fun _ => ?_)
 refine aU ?_
 refine d7 hS rfl (List.mem_append_right _ (.head _)) (v := i.av) rfl ?_
 refine aU ?_
 refine a1l c hS rfl (.refl _) (fun x S L' hL hS => ?_)
 refine aU ?_
 refine g8 ?_
 (repeat (first | refine j3 ?_ | refine j4 ?_ | refine j5 rfl ?_ | refine f6 ?_ | refine f8 ?_ | refine j2 ?_))
 exact ⟨trivial, _, rfl, _, hL, u3 hS⟩
end
end Go.Proofs.Ytnpemocpfdgaoaa

/- irun.frame's rest, operation by operation (printed by mk12.py). -/
namespace Go.Ab
section
variable {P : Program} {S0 : List Ob} {ow : List Nat} {fr : Fr} {S : List Ob} {log : List LE} {L L' : List It} {esh : Option Nat}
theorem c1u {d x rs} {K : Fr → List Ob → List LE → Prop} {o ver off n : Nat} {cs : List AV} (hS : Sep S L) (e : ev (Fr.get fr) x = .ptr o ver off) (hm : (o, ver, cs) ∈ L) (hn : 0 < n) (hl : off + n * f5 esh ≤ cs.length)
  (h : VTops P ow rs ((d, .ref o ver off n esh) :: fr) S (.acc [o] none :: log) K) : VTops P ow (⟨some d, none, .op (.slp n esh x none none)⟩ :: rs) fr S log K := by
 refine a0H (v := .ref o ver off n esh) (rd := [o]) (δ := none) ?_ rfl rfl h
 have ho := hS.at hm
 simp only [opV, c2L, e, v3, ho, if_true, Option.bind_some, evO, loN, hiN, Option.map_none]
 rw [if_pos ⟨Nat.zero_le _, Nat.le_refl _, .inl trivial, hl⟩]
 simp
theorem c1v {d s x rs} {K : Fr → List Ob → List LE → Prop} {o ver off m : Nat} {ex : Bool} {cs xs : List AV} (hS : Sep S L) (e : ev (Fr.get fr) s = .ref o ver off m none) (e2 : ev (Fr.get fr) x = .sl ex 1 xs) (hm : 0 < m) (hm2 : m < xs.length)
  (h1 : ((xs.take m).flatMap AV.cells).all AV.one = true) (hr : Rp L (o, ver, cs) (o, ver, splice cs off ((xs.take m).flatMap AV.cells)) L')
  (h : ∀ S', Sep S' L' → VTops P ow rs ((d, .int .i64 m) :: fr) S' (.acc [o] (some o) :: log) K) : VTops P ow (⟨some d, none, .op (.cpy none s x)⟩ :: rs) fr S log K := by
 have ho := hS.at hr.mem
 refine a0H (v := .int .i64 m) (rd := []) (δ := some (o, .arr ver (splice cs off ((xs.take m).flatMap AV.cells)))) ?_ rfl rfl (h _ (hS.rp hr))
 simp only [opV, b0K, e, e2]
 rw [if_pos ⟨trivial, rfl, hm, hm2, h1⟩]
 simp only [v3, ho, if_true, Option.map_some]
end
end Go.Ab
namespace Go.Proofs.Ytnpemocpfdgaoaa
open Go Go.Ab
set_option maxRecDepth 20000
set_option maxHeartbeats 2000000
def c1w : FC := .reg [⟨(some 5), none, .op (.box (.t 2))⟩] []
def c1x : FC := .reg [⟨(some 10), none, .op (.fad 0 (.t 5))⟩,  ⟨(some 11), none, .op (.load none (.t 10))⟩] []
def c1y : FC := .reg [⟨(some 21), none, .op (.bin .none .eql (.t 11) (.v (.int .u8 3)))⟩,  ⟨(some 20), none, .op (.mv (.t 21))⟩] []
def c1z : FC := .reg [⟨(some 23), none, .op (.fad 1 (.t 5))⟩,  ⟨(some 24), none, .op (.load none (.t 23))⟩,  ⟨(some 25), none, .op (.mv (.t 0))⟩,  ⟨(some 26), none, .op (.fad 4 (.t 5))⟩,  ⟨(some 27), none, .op (.load none (.t 26))⟩,  ⟨(some 28), none, .call 163 [(.t 25), (.t 27)]⟩,  ⟨(some 29), none, .op (.mv (.t 0))⟩,  ⟨(some 30), none, .op (.fad 5 (.t 5))⟩,  ⟨(some 31), none, .op (.load none (.t 30))⟩,  ⟨(some 32), none, .call 163 [(.t 29), (.t 31)]⟩,  ⟨(some 33), none, .call 155 [(.t 24), (.t 28), (.t 32)]⟩,  ⟨(some 22), none, .op (.mv (.t 33))⟩,  ⟨(some 34), none, .op (.ext 0 (.t 22))⟩,  ⟨(some 35), none, .op (.ext 1 (.t 22))⟩,  ⟨(some 6), none, .op (.mv (.t 34))⟩,  ⟨(some 7), none, .op (.mv (.t 35))⟩] [(1, 5), (5, 8), (1, 9)]
def c1A : FC := .reg [⟨(some 36), none, .op (.mv (.t 7))⟩,  ⟨(some 37), none, .op (.bin .none .neq (.t 36) (.v (.int .i64 0)))⟩] []
def c1B : FC := .reg [⟨(some 38), none, .op (.mv (.t 1))⟩,  ⟨(some 39), none, .call 150 [(.t 38), (.v (.int .u64 18446744073709551615))]⟩] []
def c1C : FC := .seq c1B FC.ret
def c1D : FC := .cond (.t 37) c1C FC.skip
def c1E : FC := .seq c1A c1D
def b5V : FC := .reg [⟨(some 40), none, .op (.mv (.t 0))⟩,  ⟨(some 41), none, .op (.fad 2 (.t 5))⟩,  ⟨(some 42), none, .op (.load none (.t 41))⟩,  ⟨(some 43), none, .op (.mv (.t 6))⟩,  ⟨(some 44), none, .call 71 [(.t 40), (.t 42), (.t 43)]⟩] []
def b5W : FC := .reg [⟨(some 45), none, .op (.mv (.t 0))⟩,  ⟨(some 46), none, .op (.fad 10 (.t 5))⟩,  ⟨(some 47), none, .op (.load none (.t 46))⟩,  ⟨(some 48), none, .op (.nchk (.t 45))⟩,  ⟨(some 49), none, .op (.fad 4 (.t 48))⟩,  ⟨none, none, .op (.store 1 (.t 49) (.t 47))⟩] []
def b5X : FC := .seq b5V b5W
def b5Y : FC := .seq c1E b5X
def b5Z : FC := .seq c1z b5Y
def b6a : FC := .reg [⟨(some 51), none, .op (.bin .none .eql (.t 11) (.v (.int .u8 7)))⟩,  ⟨(some 50), none, .op (.mv (.t 51))⟩] []
def b6b : FC := .reg [⟨(some 52), none, .op (.bin .none .eql (.t 11) (.v (.int .u8 8)))⟩,  ⟨(some 50), none, .op (.mv (.t 52))⟩] []
def b6c : FC := .cond (.t 50) FC.skip b6b
def b6d : FC := .seq b6a b6c
def b6e : FC := .reg [⟨(some 53), none, .op (.mv (.t 1))⟩,  ⟨(some 54), none, .op (.mv (.t 0))⟩,  ⟨(some 55), none, .op (.fad 4 (.t 5))⟩,  ⟨(some 56), none, .op (.load none (.t 55))⟩,  ⟨(some 57), none, .call 163 [(.t 54), (.t 56)]⟩,  ⟨(some 58), none, .call 165 [(.t 53), (.t 57)]⟩,  ⟨(some 8), none, .op (.mv (.t 58))⟩] []
def b6f : FC := .reg [⟨(some 59), none, .op (.mv (.t 8))⟩,  ⟨(some 60), none, .op (.bin .ptr .eql (.t 59) (.v .nilp))⟩] []
def b6g : FC := .reg [⟨(some 61), none, .op (.mv (.t 1))⟩,  ⟨(some 62), none, .call 150 [(.t 61), (.v (.int .u64 18446744073709551614))]⟩] []
def b6h : FC := .seq b6g FC.ret
def b6i : FC := .cond (.t 60) b6h FC.skip
def b6j : FC := .seq b6f b6i
def b6k : FC := .reg [⟨(some 63), none, .op (.fad 0 (.t 5))⟩,  ⟨(some 64), none, .op (.load none (.t 63))⟩,  ⟨(some 65), none, .op (.bin .none .eql (.t 64) (.v (.int .u8 7)))⟩] []
def b6l : FC := .reg [⟨(some 66), none, .op (.mv (.t 0))⟩,  ⟨(some 67), none, .op (.fad 2 (.t 5))⟩,  ⟨(some 68), none, .op (.load none (.t 67))⟩,  ⟨(some 69), none, .op (.mv (.t 8))⟩,  ⟨(some 70), none, .op (.nchk (.t 69))⟩,  ⟨(some 71), none, .op (.load none (.t 70))⟩,  ⟨(some 72), none, .call 71 [(.t 66), (.t 68), (.t 71)]⟩] []
def b6m : FC := .reg [⟨(some 73), none, .op (.mv (.t 8))⟩,  ⟨(some 74), none, .op (.mv (.t 0))⟩,  ⟨(some 75), none, .op (.fad 5 (.t 5))⟩,  ⟨(some 76), none, .op (.load none (.t 75))⟩,  ⟨(some 77), none, .call 163 [(.t 74), (.t 76)]⟩,  ⟨(some 78), none, .op (.nchk (.t 73))⟩,  ⟨none, none, .op (.store 1 (.t 78) (.t 77))⟩] []
def b6n : FC := .cond (.t 65) b6l b6m
def b6o : FC := .seq b6k b6n
def b6p : FC := .reg [⟨(some 79), none, .op (.mv (.t 0))⟩,  ⟨(some 80), none, .op (.fad 10 (.t 5))⟩,  ⟨(some 81), none, .op (.load none (.t 80))⟩,  ⟨(some 82), none, .op (.nchk (.t 79))⟩,  ⟨(some 83), none, .op (.fad 4 (.t 82))⟩,  ⟨none, none, .op (.store 1 (.t 83) (.t 81))⟩] []
def b6q : FC := .seq b6o b6p
def b6r : FC := .seq b6j b6q
def b6s : FC := .seq b6e b6r
def b6t : FC := .reg [⟨(some 85), none, .op (.bin .none .eql (.t 11) (.v (.int .u8 11)))⟩,  ⟨(some 84), none, .op (.mv (.t 85))⟩] []
def b6u : FC := .reg [⟨(some 86), none, .op (.mv (.t 0))⟩,  ⟨(some 87), none, .op (.nchk (.t 86))⟩,  ⟨(some 88), none, .op (.fad 6 (.t 87))⟩,  ⟨(some 89), none, .op (.slp 12 none (.t 88) none none)⟩,  ⟨(some 90), none, .op (.mv (.t 0))⟩,  ⟨(some 91), none, .op (.nchk (.t 90))⟩,  ⟨(some 92), none, .op (.fad 0 (.t 91))⟩,  ⟨(some 93), none, .op (.load none (.t 92))⟩,  ⟨(some 94), none, .op (.nchk (.t 93))⟩,  ⟨(some 95), none, .op (.fad 2 (.t 94))⟩,  ⟨(some 96), none, .op (.slp 16 none (.t 95) none none)⟩,  ⟨(some 97), none, .op (.cpy none (.t 89) (.t 96))⟩] []
def b6v : FC := .reg [⟨(some 98), none, .op (.mv (.t 1))⟩,  ⟨(some 99), none, .op (.fad 6 (.t 5))⟩,  ⟨(some 100), none, .op (.load none (.t 99))⟩,  ⟨(some 101), none, .op (.mv (.t 0))⟩,  ⟨(some 102), none, .op (.load (some 12) (.t 5))⟩,  ⟨(some 103), none, .call 166 [(.t 101), (.t 102)]⟩,  ⟨(some 104), none, .call 67 [(.t 98), (.t 100), (.t 103)]⟩] [(2, 5)]
def b6w : FC := .seq b6u b6v
def b6x : FC := .reg [⟨(some 106), none, .op (.bin .none .eql (.t 11) (.v (.int .u8 13)))⟩,  ⟨(some 105), none, .op (.mv (.t 106))⟩] []
def b6y : FC := .reg [⟨(some 107), none, .op (.mv (.t 0))⟩,  ⟨(some 108), none, .op (.fad 10 (.t 5))⟩,  ⟨(some 109), none, .op (.load none (.t 108))⟩,  ⟨(some 110), none, .op (.nchk (.t 107))⟩,  ⟨(some 111), none, .op (.fad 4 (.t 110))⟩,  ⟨none, none, .op (.store 1 (.t 111) (.t 109))⟩] []
def b6z : FC := .reg [⟨(some 112), none, .op (.mv (.t 1))⟩,  ⟨(some 113), none, .op (.fad 6 (.t 5))⟩,  ⟨(some 114), none, .op (.load none (.t 113))⟩,  ⟨(some 115), none, .op (.mv (.t 0))⟩,  ⟨(some 116), none, .op (.load (some 12) (.t 5))⟩,  ⟨(some 117), none, .call 166 [(.t 115), (.t 116)]⟩,  ⟨(some 118), none, .call 152 [(.t 112), (.t 114), (.t 117)]⟩] [(2, 5)]
def b6A : FC := .seq b6y b6z
def b6B : FC := .reg [⟨(some 120), none, .op (.bin .none .eql (.t 11) (.v (.int .u8 12)))⟩,  ⟨(some 119), none, .op (.mv (.t 120))⟩] []
def b6C : FC := .reg [⟨(some 9), none, .op (.mv (.v (.int .u64 0)))⟩] []
def b6D : FC := .reg [⟨(some 121), none, .op (.fad 4 (.t 5))⟩,  ⟨(some 122), none, .op (.load none (.t 121))⟩,  ⟨(some 123), none, .op (.bin .none .geq (.t 122) (.v (.int .i64 0)))⟩] []
def b6E : FC := .reg [⟨(some 124), none, .op (.mv (.t 0))⟩,  ⟨(some 125), none, .op (.fad 4 (.t 5))⟩,  ⟨(some 126), none, .op (.load none (.t 125))⟩,  ⟨(some 127), none, .call 163 [(.t 124), (.t 126)]⟩,  ⟨(some 9), none, .op (.mv (.t 127))⟩] []
def b6F : FC := .cond (.t 123) b6E FC.skip
def b6G : FC := .seq b6D b6F
def b6H : FC := .reg [⟨(some 128), none, .op (.mv (.t 1))⟩,  ⟨(some 129), none, .op (.mv (.t 9))⟩,  ⟨(some 130), none, .call 153 [(.t 128), (.t 129)]⟩] []
def b6I : FC := .seq b6G b6H
def b6J : FC := .seq b6C b6I
def b6K : FC := .reg [⟨(some 132), none, .op (.bin .none .eql (.t 11) (.v (.int .u8 14)))⟩,  ⟨(some 131), none, .op (.mv (.t 132))⟩] []
def b6L : FC := .reg [⟨(some 133), none, .op (.mv (.t 1))⟩,  ⟨(some 134), none, .op (.mv (.t 0))⟩,  ⟨(some 135), none, .op (.fad 4 (.t 5))⟩,  ⟨(some 136), none, .op (.load none (.t 135))⟩,  ⟨(some 137), none, .call 163 [(.t 134), (.t 136)]⟩,  ⟨(some 138), none, .call 150 [(.t 133), (.t 137)]⟩] []
def b6M : FC := .reg [⟨(some 12), none, .op (.mv (.t 1))⟩,  ⟨(some 13), none, .op (.mv (.t 0))⟩,  ⟨(some 14), none, .op (.fad 4 (.t 5))⟩,  ⟨(some 15), none, .op (.load none (.t 14))⟩,  ⟨(some 16), none, .call 163 [(.t 13), (.t 15)]⟩,  ⟨(some 17), none, .op (.build [(.int .i64 0), (.int .u64 0)] [(0, 1, (.v (.int .i64 1))), (1, 1, (.t 16))])⟩,  ⟨(some 18), none, .op (.nchk (.t 12))⟩,  ⟨(some 19), none, .op (.fad 2 (.t 18))⟩,  ⟨none, none, .op (.store 2 (.t 19) (.t 17))⟩] []
def b6N : FC := .cond (.t 131) b6L b6M
def b6O : FC := .seq b6K b6N
def b6P : FC := .cond (.t 119) b6J b6O
def b6Q : FC := .seq b6B b6P
def b6R : FC := .cond (.t 105) b6A b6Q
def b6S : FC := .seq b6x b6R
def b6T : FC := .cond (.t 84) b6w b6S
def b6U : FC := .seq b6t b6T
def b6V : FC := .cond (.t 50) b6s b6U
def b6W : FC := .seq b6d b6V
def b6X : FC := .cond (.t 20) b5Z b6W
def b6Y : FC := .seq c1y b6X
def b6Z : FC := .block 0 b6Y
def b7a : FC := .seq c1x b6Z
def b7b : FC := .seq c1w b7a
def c4x : FC := b7b
theorem a3C : Fn3 Try.prog 164 139 [] c4x := ⟨_, _, Try.func164, rfl, rfl, rfl, by kernel_rfl⟩

section
variable {a0 a4 a6 a7 : AV} {o : UO} {p : GP} {ek ev dep live : Int} {z : Row} {r : List Row} {ps ps' : List s4} {rj pj : List AV}
theorem c1F {it a b : It} {L L' : List It} (h : Rp L a b L') : Rp (it :: L) a b (it :: L') := Rp.there h
theorem a9B {oi : It} {L : List It} {S : List Ob} (h : Ab.Sep S (oi :: L)) : Ab.Sep S L := h.sub (List.sublist_cons_self _ _)
theorem a9C {i : d8} {a b v : Int} {f1 : SFr} (hop : i.Op = 3) (ha : z.fr.get p i.A = some a) (hb : z.fr.get p i.B = some b) (hv : a0t i.By a b = some (v, 0)) (hs : z.fr.set p i.D v = some f1) :
  Tri Try.prog 164 [.ptr z.q.x 0 0, .ptr o.m 0 0, i.av] (uL p o a0 a4 a6 a7 ek ev dep live (z :: r) ps rj pj) (fun _ L' => ∃ f q, q.x = z.q.x ∧ f = { f1 with pc := i.Next } ∧ L' = uL p o a0 a4 a6 a7 ek ev dep live ({ z with fr := f, q := q } :: r) ps rj pj) := by
 obtain ⟨op, by_, D, E, A, B, F, cl, im, Args, nx, el⟩ := i
 dsimp only at hop ha hb hv hs
 subst hop
 refine l6 mixed a3C zS [5] (fun R S hS => ?_)
 refine aU ?_
 refine a1i hS rfl (xv := d8.av ⟨3, by_, D, E, A, B, F, cl, im, Args, nx, el⟩) rfl rfl (fun oi S hS => ?_)
 refine aU ?_
 refine d7 hS rfl (.head _) (v := .int .u8 3) rfl ?_
 refine aU ?_
 refine j9 ?_
 refine aU ?_
 refine f9 (t := true) rfl (fun _ => ?_) (fun h => by cases h)
 refine g9 ?_
 refine a0Q ?_
 refine aU ?_
 refine d7 hS rfl (.head _) (v := .int .u8 by_) rfl ?_
 refine aU ?_
 refine d7 hS rfl (.head _) (v := .int .i64 A) rfl ?_
 refine aU ?_
 refine a2d (s7 (z := z) ha) hS rfl (Spl.last (PkC.there PkC.here)) ?_
 refine aU ?_
 refine d7 hS rfl (.head _) (v := .int .i64 B) rfl ?_
 refine aU ?_
 refine a2d (s7 (z := z) hb) hS rfl (Spl.last (PkC.there PkC.here)) ?_
 refine aU ?_
 refine a4j (a4p hv) rfl rfl rfl ?_
 refine aU ?_
 refine And.intro (by simp [a0g, a3S, w9, a0h]) ?_
 refine aU ?_
 refine f9 (t := false) rfl (fun h => by cases h) (fun _ => ?_)
 refine aU ?_
 refine d7 hS rfl (.head _) (v := .int .i64 D) rfl ?_
 refine aU ?_
 refine a1l (a0m hs) hS rfl (Spl.last (PkC.there PkC.here)) (fun x S L' hL hS => ?_)
 obtain ⟨f, q, rfl, rfl, rfl⟩ := hL
 refine aU ?_
 refine d7 hS rfl (List.mem_append_right _ (.head _)) (v := .int .i64 nx) rfl ?_
 refine aU ?_
 refine E_stS hS rfl (xv := .int .i64 nx) rfl (a2j (z := { z with fr := f }) (k := nx)) rfl rfl (by first | exact Nat.le_of_ble_eq_true rfl | (simp; omega) | omega) (fun S hS => ?_)
 refine aU ?_
 (repeat (first | refine j3 ?_ | refine j4 ?_ | refine j5 rfl ?_ | refine f6 ?_ | refine f8 ?_ | refine j2 ?_))
 exact ⟨trivial, _, rfl, _, ⟨_, z.q, rfl, rfl, rfl⟩, u3 hS⟩
theorem a9D {i : d8} {a b v e pmx : Int} {en : Option Int} {A' : List ARow} (hop : i.Op = 3) (ha : z.fr.get p i.A = some a) (hb : z.fr.get p i.B = some b) (hw : a0t i.By a b = some (v, e)) (he : e ≠ 0)
  (hv : s5 p (z.toARow :: x3 r) (⟨18446744073709551615, false⟩ :: ps) = some (en, A', ps')) (hn : r.length < 9999999) (hp : ps.length < 9999999)
  (hl : ∀ g ∈ p.Funcs, okG g) (hd : 0 ≤ dep ∧ dep < 1000000000) (hlv : ∀ y ∈ z :: r, (y.df.length : Int) ≤ live) (hlv2 : live < 100000000) :
  Tri Try.prog 164 [.ptr z.q.x 0 0, .ptr o.m 0 0, i.av] (uL p o a0 a4 a6 (.int .i64 pmx) ek ev dep live (z :: r) ps rj pj) (fun _ L' => ∃ rv rows' rj' pj', x3 rows' = A' ∧ L' = uL p { o with rv := rv, pv := o.pv + 1 } a0 a4 a6 (.int .i64 (max pmx ((ps.length : Int) + 1))) (if en.isSome then 2 else ek) (en.getD ev) (if en.isSome then dep else max dep (A'.length : Int)) (if en.isSome then live else live - 1) rows' ps' rj' pj') := by
 obtain ⟨op, by_, D, E, A, B, F, cl, im, Args, nx, el⟩ := i
 dsimp only at hop ha hb hw
 subst hop
 refine l6 mixed a3C zS [5] (fun R S hS => ?_)
 refine aU ?_
 refine a1i hS rfl (xv := d8.av ⟨3, by_, D, E, A, B, F, cl, im, Args, nx, el⟩) rfl rfl (fun oi S hS => ?_)
 refine aU ?_
 refine d7 hS rfl (.head _) (v := .int .u8 3) rfl ?_
 refine aU ?_
 refine j9 ?_
 refine aU ?_
 refine f9 (t := true) rfl (fun _ => ?_) (fun h => by cases h)
 refine g9 ?_
 refine a0Q ?_
 refine aU ?_
 refine d7 hS rfl (.head _) (v := .int .u8 by_) rfl ?_
 refine aU ?_
 refine d7 hS rfl (.head _) (v := .int .i64 A) rfl ?_
 refine aU ?_
 refine a2d (s7 (z := z) ha) hS rfl (Spl.last (PkC.there PkC.here)) ?_
 refine aU ?_
 refine d7 hS rfl (.head _) (v := .int .i64 B) rfl ?_
 refine aU ?_
 refine a2d (s7 (z := z) hb) hS rfl (Spl.last (PkC.there PkC.here)) ?_
 refine aU ?_
 refine a4j (a4p hw) rfl rfl rfl ?_
 refine aU ?_
 refine And.intro (by simp [a0g, a3S, w9, a0h]) ?_
 refine aU ?_
 refine f9 (t := true) (by show AV.bool (e != 0) = _; rw [show (e != 0) = true by simpa using he]) (fun _ => ?_) (fun h => by cases h)
 refine aU ?_
 refine a1l (a2t (o := o) (pmx := pmx) (v := 18446744073709551615) (rows := z :: r) hv zE hp hl hd hlv hlv2) hS rfl (Spl.last (PkC.there PkC.here)) (fun x S L' hL hS => ?_)
 refine aU ?_
 refine g8 ?_
 (repeat (first | refine j3 ?_ | refine j4 ?_ | refine j5 rfl ?_ | refine f6 ?_ | refine f8 ?_ | refine j2 ?_))
 exact ⟨trivial, _, rfl, _, hL, u3 hS⟩
theorem a7O {i : d8} {pt pmx : Int} {en : Option Int} {A' : List ARow} (hop : i.Op = 7) (ha : z.fr.get p i.A = some pt) (hc : a2X (z.toARow :: x3 r) pt = some none)
  (hv : s5 p (z.toARow :: x3 r) (⟨18446744073709551614, false⟩ :: ps) = some (en, A', ps')) (hn : r.length < 9999999) (hp : ps.length < 9999999)
  (hl : ∀ g ∈ p.Funcs, okG g) (hd : 0 ≤ dep ∧ dep < 1000000000) (hlv : ∀ y ∈ z :: r, (y.df.length : Int) ≤ live) (hlv2 : live < 100000000) :
  Tri Try.prog 164 [.ptr z.q.x 0 0, .ptr o.m 0 0, i.av] (uL p o a0 a4 a6 (.int .i64 pmx) ek ev dep live (z :: r) ps rj pj) (fun _ L' => ∃ rv rows' rj' pj', x3 rows' = A' ∧ L' = uL p { o with rv := rv, pv := o.pv + 1 } a0 a4 a6 (.int .i64 (max pmx ((ps.length : Int) + 1))) (if en.isSome then 2 else ek) (en.getD ev) (if en.isSome then dep else max dep (A'.length : Int)) (if en.isSome then live else live - 1) rows' ps' rj' pj') := by
 obtain ⟨op, by_, D, E, A, B, F, cl, im, Args, nx, el⟩ := i
 dsimp only at hop ha
 subst hop
 refine l6 mixed a3C zS [5] (fun R S hS => ?_)
 refine aU ?_
 refine a1i hS rfl (xv := d8.av ⟨7, by_, D, E, A, B, F, cl, im, Args, nx, el⟩) rfl rfl (fun oi S hS => ?_)
 refine aU ?_
 refine d7 hS rfl (.head _) (v := .int .u8 7) rfl ?_
 refine aU ?_
 refine j9 ?_
 refine aU ?_
 refine f9 (t := false) rfl (fun h => by cases h) (fun _ => ?_)
 refine aU ?_
 refine f9 (t := true) rfl (fun _ => ?_) (fun h => by cases h)
 refine aU ?_
 refine f9 (t := true) rfl (fun _ => ?_) (fun h => by cases h)
 refine aU ?_
 refine d7 hS rfl (.head _) (v := .int .i64 A) rfl ?_
 refine aU ?_
 refine a2d (s7 (z := z) ha) hS rfl (Spl.last (PkC.there PkC.here)) ?_
 refine aU ?_
 refine a2d (a5J (o := o) (rows := z :: r) hc) hS rfl (Spl.last (PkC.there PkC.here)) ?_
 refine aU ?_
 refine f9 (t := true) rfl (fun _ => ?_) (fun h => by cases h)
 refine aU ?_
 refine a1l (a2t (o := o) (pmx := pmx) (v := 18446744073709551614) (rows := z :: r) hv zE hp hl hd hlv hlv2) hS rfl (Spl.last (PkC.there PkC.here)) (fun x S L' hL hS => ?_)
 refine aU ?_
 refine g8 ?_
 (repeat (first | refine j3 ?_ | refine j4 ?_ | refine j5 rfl ?_ | refine f6 ?_ | refine f8 ?_ | refine j2 ?_))
 exact ⟨trivial, _, rfl, _, hL, u3 hS⟩
theorem a7P {i : d8} {pt pmx : Int} {en : Option Int} {A' : List ARow} (hop : i.Op = 8) (ha : z.fr.get p i.A = some pt) (hc : a2X (z.toARow :: x3 r) pt = some none)
  (hv : s5 p (z.toARow :: x3 r) (⟨18446744073709551614, false⟩ :: ps) = some (en, A', ps')) (hn : r.length < 9999999) (hp : ps.length < 9999999)
  (hl : ∀ g ∈ p.Funcs, okG g) (hd : 0 ≤ dep ∧ dep < 1000000000) (hlv : ∀ y ∈ z :: r, (y.df.length : Int) ≤ live) (hlv2 : live < 100000000) :
  Tri Try.prog 164 [.ptr z.q.x 0 0, .ptr o.m 0 0, i.av] (uL p o a0 a4 a6 (.int .i64 pmx) ek ev dep live (z :: r) ps rj pj) (fun _ L' => ∃ rv rows' rj' pj', x3 rows' = A' ∧ L' = uL p { o with rv := rv, pv := o.pv + 1 } a0 a4 a6 (.int .i64 (max pmx ((ps.length : Int) + 1))) (if en.isSome then 2 else ek) (en.getD ev) (if en.isSome then dep else max dep (A'.length : Int)) (if en.isSome then live else live - 1) rows' ps' rj' pj') := by
 obtain ⟨op, by_, D, E, A, B, F, cl, im, Args, nx, el⟩ := i
 dsimp only at hop ha
 subst hop
 refine l6 mixed a3C zS [5] (fun R S hS => ?_)
 refine aU ?_
 refine a1i hS rfl (xv := d8.av ⟨8, by_, D, E, A, B, F, cl, im, Args, nx, el⟩) rfl rfl (fun oi S hS => ?_)
 refine aU ?_
 refine d7 hS rfl (.head _) (v := .int .u8 8) rfl ?_
 refine aU ?_
 refine j9 ?_
 refine aU ?_
 refine f9 (t := false) rfl (fun h => by cases h) (fun _ => ?_)
 refine aU ?_
 refine f9 (t := false) rfl (fun h => by cases h) (fun _ => ?_)
 refine aU ?_
 refine f9 (t := true) rfl (fun _ => ?_) (fun h => by cases h)
 refine aU ?_
 refine d7 hS rfl (.head _) (v := .int .i64 A) rfl ?_
 refine aU ?_
 refine a2d (s7 (z := z) ha) hS rfl (Spl.last (PkC.there PkC.here)) ?_
 refine aU ?_
 refine a2d (a5J (o := o) (rows := z :: r) hc) hS rfl (Spl.last (PkC.there PkC.here)) ?_
 refine aU ?_
 refine f9 (t := true) rfl (fun _ => ?_) (fun h => by cases h)
 refine aU ?_
 refine a1l (a2t (o := o) (pmx := pmx) (v := 18446744073709551614) (rows := z :: r) hv zE hp hl hd hlv hlv2) hS rfl (Spl.last (PkC.there PkC.here)) (fun x S L' hL hS => ?_)
 refine aU ?_
 refine g8 ?_
 (repeat (first | refine j3 ?_ | refine j4 ?_ | refine j5 rfl ?_ | refine f6 ?_ | refine f8 ?_ | refine j2 ?_))
 exact ⟨trivial, _, rfl, _, hL, u3 hS⟩
theorem a9E {i : d8} {pt v : Int} {ci ck : Nat} {ya : ARow} {f1 : SFr} (hop : i.Op = 7) (ha : z.fr.get p i.A = some pt) (hc : a2X (z.toARow :: x3 r) pt = some (some (ci, ck))) (hy : (z.toARow :: x3 r).reverse[ci]? = some ya) (hw : ya.fr.ce[ck]? = some v) (hs : z.fr.set p i.D v = some f1) :
  Tri Try.prog 164 [.ptr z.q.x 0 0, .ptr o.m 0 0, i.av] (uL p o a0 a4 a6 a7 ek ev dep live (z :: r) ps rj pj) (fun _ L' => ∃ f q, q.x = z.q.x ∧ f = { f1 with pc := i.Next } ∧ L' = uL p o a0 a4 a6 a7 ek ev dep live ({ z with fr := f, q := q } :: r) ps rj pj) := by
 obtain ⟨op, by_, D, E, A, B, F, cl, im, Args, nx, el⟩ := i
 dsimp only at hop ha hs
 subst hop
 refine l6 mixed a3C zS [5] (fun R S hS => ?_)
 refine aU ?_
 refine a1i hS rfl (xv := d8.av ⟨7, by_, D, E, A, B, F, cl, im, Args, nx, el⟩) rfl rfl (fun oi S hS => ?_)
 refine aU ?_
 refine d7 hS rfl (.head _) (v := .int .u8 7) rfl ?_
 refine aU ?_
 refine j9 ?_
 refine aU ?_
 refine f9 (t := false) rfl (fun h => by cases h) (fun _ => ?_)
 refine aU ?_
 refine f9 (t := true) rfl (fun _ => ?_) (fun h => by cases h)
 refine aU ?_
 refine f9 (t := true) rfl (fun _ => ?_) (fun h => by cases h)
 refine aU ?_
 refine d7 hS rfl (.head _) (v := .int .i64 A) rfl ?_
 refine aU ?_
 refine a2d (s7 (z := z) ha) hS rfl (Spl.last (PkC.there PkC.here)) ?_
 refine aU ?_
 obtain ⟨y, hy1, hk, hc1⟩ := a5K (o := o) (p := p) (a0 := a0) (a4 := a4) (a6 := a6) (a7 := a7) (ek := ek) (ev := ev) (dep := dep) (live := live) (ps := ps) (rj := rj) (pj := pj) (rows := z :: r) hc
 obtain ⟨y2, hy2, rfl⟩ := a4O (rows := z :: r) hy
 obtain rfl : y2 = y := Option.some.inj (hy2.symm.trans hy1)
 refine a2d hc1 hS rfl (Spl.last (PkC.there PkC.here)) ?_
 refine aU ?_
 refine f9 (t := false) rfl (fun h => by cases h) (fun _ => ?_)
 refine aU ?_
 refine d7 hS rfl (.head _) (v := .int .u8 7) rfl ?_
 refine aU ?_
 refine f9 (t := true) rfl (fun _ => ?_) (fun h => by cases h)
 refine aU ?_
 refine d7 hS rfl (.head _) (v := .int .i64 D) rfl ?_
 refine aU ?_
 refine a7c hS (m9 .u64) rfl (.tail _ (c1j hy1)) (n := ck) (fo := 0) (y := v) (by simp [f5]) hw (v := .int .u64 v) rfl ?_
 refine aU ?_
 refine a1l (a0m hs) hS rfl (Spl.last (PkC.there PkC.here)) (fun x S L' hL hS => ?_)
 obtain ⟨f, q, rfl, rfl, rfl⟩ := hL
 refine aU ?_
 (repeat (first | refine j3 ?_ | refine j4 ?_ | refine j5 rfl ?_ | refine f6 ?_ | refine f8 ?_ | refine j2 ?_))
 refine aU ?_
 refine d7 hS rfl (List.mem_append_right _ (.head _)) (v := .int .i64 nx) rfl ?_
 refine aU ?_
 refine E_stS hS rfl (xv := .int .i64 nx) rfl (a2j (z := { z with fr := f }) (k := nx)) rfl rfl (by first | exact Nat.le_of_ble_eq_true rfl | (simp; omega) | omega) (fun S hS => ?_)
 refine aU ?_
 (repeat (first | refine j3 ?_ | refine j4 ?_ | refine j5 rfl ?_ | refine f6 ?_ | refine f8 ?_ | refine j2 ?_))
 exact ⟨trivial, _, rfl, _, ⟨_, z.q, rfl, rfl, rfl⟩, u3 hS⟩
theorem a9F {i : d8} {pt v w : Int} {ci ck : Nat} {ya : ARow} (hop : i.Op = 8) (ha : z.fr.get p i.A = some pt) (hb : z.fr.get p i.B = some v) (hc : a2X (z.toARow :: x3 r) pt = some (some (ci, ck))) (hy : (z.toARow :: x3 r).reverse[ci]? = some ya) (hw : ya.fr.ce[ck]? = some w) :
  Tri Try.prog 164 [.ptr z.q.x 0 0, .ptr o.m 0 0, i.av] (uL p o a0 a4 a6 a7 ek ev dep live (z :: r) ps rj pj) (fun _ L' => ∃ rows', x3 rows' = a5L ({ z.toARow with fr := { z.fr with pc := i.Next } } :: x3 r) ci ck v ∧ L' = uL p o a0 a4 a6 a7 ek ev dep live rows' ps rj pj) := by
 obtain ⟨op, by_, D, E, A, B, F, cl, im, Args, nx, el⟩ := i
 dsimp only at hop ha hb
 subst hop
 refine l6 mixed a3C zS [5] (fun R S hS => ?_)
 refine aU ?_
 refine a1i hS rfl (xv := d8.av ⟨8, by_, D, E, A, B, F, cl, im, Args, nx, el⟩) rfl rfl (fun oi S hS => ?_)
 refine aU ?_
 refine d7 hS rfl (.head _) (v := .int .u8 8) rfl ?_
 refine aU ?_
 refine j9 ?_
 refine aU ?_
 refine f9 (t := false) rfl (fun h => by cases h) (fun _ => ?_)
 refine aU ?_
 refine f9 (t := false) rfl (fun h => by cases h) (fun _ => ?_)
 refine aU ?_
 refine f9 (t := true) rfl (fun _ => ?_) (fun h => by cases h)
 refine aU ?_
 refine d7 hS rfl (.head _) (v := .int .i64 A) rfl ?_
 refine aU ?_
 refine a2d (s7 (z := z) ha) hS rfl (Spl.last (PkC.there PkC.here)) ?_
 refine aU ?_
 obtain ⟨y, hy1, hk, hc1⟩ := a5K (o := o) (p := p) (a0 := a0) (a4 := a4) (a6 := a6) (a7 := a7) (ek := ek) (ev := ev) (dep := dep) (live := live) (ps := ps) (rj := rj) (pj := pj) (rows := z :: r) hc
 obtain ⟨y2, hy2, rfl⟩ := a4O (rows := z :: r) hy
 obtain rfl : y2 = y := Option.some.inj (hy2.symm.trans hy1)
 refine a2d hc1 hS rfl (Spl.last (PkC.there PkC.here)) ?_
 refine aU ?_
 refine f9 (t := false) rfl (fun h => by cases h) (fun _ => ?_)
 refine aU ?_
 refine d7 hS rfl (.head _) (v := .int .u8 8) rfl ?_
 refine aU ?_
 refine f9 (t := false) rfl (fun h => by cases h) (fun _ => ?_)
 refine aU ?_
 refine d7 hS rfl (.head _) (v := .int .i64 B) rfl ?_
 refine aU ?_
 refine a2d (s7 (z := z) hb) hS rfl (Spl.last (PkC.there PkC.here)) ?_
 refine aU ?_
 have hi := (List.getElem?_eq_some_iff.1 hy1).1
 rw [List.length_reverse] at hi
 have hy3 : (z :: r)[(z :: r).length - 1 - ci]? = some y2 := by rw [← hy1, List.getElem?_reverse hi]
 have hR := b4Z (p := p) (k := ck) (v := v) (R := R) _ _ hy3
 refine a7d (y' := v) hS (m9 .u64) rfl (xv := .int .u64 v) rfl (n := ck) (fo := 0) (y := w) (by simp [f5]) hw (Rp.there (Rp.there (Rp.there (Rp.there hR)))) rfl rfl (by simp [f5]) rfl (fun S hS => ?_)
 refine aU ?_
 (repeat (first | refine j3 ?_ | refine j4 ?_ | refine j5 rfl ?_ | refine f6 ?_ | refine f8 ?_ | refine j2 ?_))
 refine aU ?_
 refine d7 hS rfl (.head _) (v := .int .i64 nx) rfl ?_
 refine aU ?_
 have hptr := b1n (k := ck) (v := v) (z :: r) ((z :: r).length - 1 - ci)
 have hlen : ((z :: r).modify ((z :: r).length - 1 - ci) (a2i ck v)).length = (z :: r).length := by simp
 obtain ⟨z1, r1, e1⟩ : ∃ z1 r1, (z :: r).modify ((z :: r).length - 1 - ci) (a2i ck v) = z1 :: r1 := by
  cases h : (z :: r).modify ((z :: r).length - 1 - ci) (a2i ck v) with
  | nil => rw [h] at hlen; simp at hlen
  | cons a l => exact ⟨a, l, rfl⟩
 have hz1 : z1.q = z.q ∧ z1.s = z.s := by
  cases hj : (z :: r).length - 1 - ci with
  | zero => rw [hj, List.modify_zero_cons] at e1; cases e1; exact ⟨rfl, rfl⟩
  | succ j => rw [hj, List.modify_succ_cons] at e1; cases e1; exact ⟨rfl, rfl⟩
 have habs : x3 (z1 :: r1) = a5L (z.toARow :: x3 r) ci ck v := by
  rw [← e1]
  unfold x3 a5L
  rw [a4P (f := Row.toARow) (g := a2i ck v) (h := b0n ck v) (fun x => rfl)]
  simp
 have habs2 : x3 ({ z1 with fr := { z1.fr with pc := nx } } :: r1) = a5L ({ z.toARow with fr := { z.fr with pc := nx } } :: x3 r) ci ck v := by
  cases hj : (z :: r).length - 1 - ci with
  | zero =>
    rw [hj, List.modify_zero_cons] at e1
    cases e1
    have : (x3 r).length - ci = 0 := by simp [x3] at hj ⊢; omega
    simp [x3, a5L, a2i, b0n]
    have h0 : r.length - ci = 0 := by simp at hj; omega
    rw [h0]
    simp
    rfl
  | succ j =>
    rw [hj, List.modify_succ_cons] at e1
    cases e1
    simp at hj
    simp [x3, a5L]
    rw [hj]
    simp
    rw [← a4P (f := Row.toARow) (g := a2i ck v) (h := b0n ck v) (fun x => rfl)]
 rw [e1] at hS
 have hS9 : Ab.Sep S ((oi, 0, d8.cells ⟨8, by_, D, E, A, B, F, cl, im, Args, nx, el⟩) :: (uL p o a0 a4 a6 a7 ek ev dep live (z1 :: r1) ps rj pj ++ R)) := by
  have h1 : a0l (z1 :: r1) = a0l (z :: r) := by rw [← e1]; exact hptr
  have h2 : (z1 :: r1).length = (z :: r).length := by rw [← e1]; exact hlen
  show Ab.Sep S (_ :: (o.m, 0, [a0, mkA p, .int .i64 ek, .int .u64 ev, a4, .int .i64 dep, a6, a7, .ref o.ro o.rv 0 (z1 :: r1).length none, .ref o.po o.pv 0 ps.length (some 2), .int .i64 live]) :: (o.ro, o.rv, a0l (z1 :: r1) ++ rj) :: _)
  rw [h1, h2]
  exact hS
 refine E_stS hS9 (by show AV.ptr z.q.x 0 (0 + 4) = AV.ptr z1.q.x 0 (0 + 4); rw [hz1.1]) (xv := .int .i64 nx) rfl (c1F (a2j (z := z1) (k := nx))) rfl rfl (by first | exact Nat.le_of_ble_eq_true rfl | (simp; omega) | omega) (fun S hS => ?_)
 refine aU ?_
 (repeat (first | refine j3 ?_ | refine j4 ?_ | refine j5 rfl ?_ | refine f6 ?_ | refine f8 ?_ | refine j2 ?_))
 exact ⟨trivial, _, rfl, _, ⟨_, habs2, rfl⟩, a9B hS⟩
end
end Go.Proofs.Ytnpemocpfdgaoaa

/- irun.frame's rest: what calls (printed by mk13.py). -/
namespace Go.Proofs.Ytnpemocpfdgaoaa
open Go Go.Ab
set_option maxRecDepth 20000
set_option maxHeartbeats 2000000
section
variable {a0 a4 a6 a7 : AV} {o : UO} {p : GP} {ek ev dep live : Int} {z : Row} {r : List Row} {ps ps' : List s4} {rj pj : List AV}
theorem a9G {m r q : It} {A X R : List It} : List.Perm (([m, r] ++ A) ++ (q :: (X ++ R))) (m :: r :: q :: (A ++ (X ++ R))) := by
 simp only [List.cons_append, List.nil_append]
 exact List.Perm.cons _ (List.Perm.cons _ List.perm_middle)
theorem a7Q {R : List It} {S : List Ob} {oi : It} (h : Ab.Sep S (oi :: (uL p o a0 a4 a6 a7 ek ev dep live (z :: r) ps rj pj ++ R))) :
  Rp (oi :: (uL p o a0 a4 a6 a7 ek ev dep live (z :: r) ps rj pj ++ R)) (z.q.x, 0, frC p z.fr z.q) (z.q.x, 0, splice (frC p z.fr z.q) 6 ((List.take 12 (List.map (avI .u64) (List.replicate 16 0))).flatMap AV.cells)) (oi :: (uL p o a0 a4 a6 a7 ek ev dep live (z :: r) ps rj pj ++ R)) :=
 Rp.there (Rp.there (Rp.there (Rp.there (Rp.there (Rp.there Rp.here)))))
theorem a7R {m r s d q : It} {X : List It} : List.Perm (m :: r :: s :: d :: q :: X) (m :: r :: q :: s :: d :: X) :=
 List.Perm.cons _ (List.Perm.cons _ (List.perm_middle (l₁ := [s, d])))
theorem a9H {i : d8} {ag : List Int} {f2 : SFr} (hop : i.Op = 11) (hg : a2h p z.fr i.Args = some ag) (hal : i.Args.length < 100000000) (hb : a0T p i.F ag (r.length + 2) = some f2) (hn : r.length < 9999999) (hl : ∀ g ∈ p.Funcs, okG g) (hd : 0 ≤ dep ∧ dep < 1000000000) :
  Tri Try.prog 164 [.ptr z.q.x 0 0, .ptr o.m 0 0, i.av] (uL p o a0 a4 a6 a7 ek ev dep live (z :: r) ps rj pj) (fun _ L' => ∃ rows', x3 rows' = ⟨f2, 0, [], 0⟩ :: z.toARow :: x3 r ∧ L' = uL p { o with rv := o.rv + 1 } a0 a4 a6 a7 ek ev (max dep ((r.length : Int) + 2)) live rows' ps [] pj) := by
 obtain ⟨op, by_, D, E, A, B, F, cl, im, Args, nx, el⟩ := i
 dsimp only at hop hg hal hb
 subst hop
 refine l6 mixed a3C zS [5] (fun R S hS => ?_)
 refine aU ?_
 refine a1i hS rfl (xv := d8.av ⟨11, by_, D, E, A, B, F, cl, im, Args, nx, el⟩) rfl rfl (fun oi S hS => ?_)
 refine aU ?_
 refine d7 hS rfl (.head _) (v := .int .u8 11) rfl ?_
 refine aU ?_
 refine j9 ?_
 refine aU ?_
 refine f9 (t := false) rfl (fun h => by cases h) (fun _ => ?_)
 refine aU ?_
 refine f9 (t := false) rfl (fun h => by cases h) (fun _ => ?_)
 refine aU ?_
 refine f9 (t := false) rfl (fun h => by cases h) (fun _ => ?_)
 refine aU ?_
 refine f9 (t := true) rfl (fun _ => ?_) (fun h => by cases h)
 refine aU ?_
 refine c1u hS rfl (.tail _ a2S) zO nB ?_
 refine aU ?_
 refine d7 hS rfl (.tail _ a2S) (v := .cptr (GP.cells p) 0) rfl ?_
 refine aU ?_
 refine c1v (m := 12) (xs := List.map (avI .u64) (List.replicate 16 0)) hS rfl rfl zO zS rfl (a7Q hS) (fun S hS => ?_)
 refine c7 ?_
 refine j1 ?_
 refine a0Q ?_
 refine aU ?_
 refine d7 hS rfl (.head _) (v := .int .i64 F) rfl ?_
 refine aU ?_
 refine d7 hS rfl (.head _) (v := d8.av ⟨11, by_, D, E, A, B, F, cl, im, Args, nx, el⟩) rfl ?_
 refine aU ?_
 have ho1 := hS.at (.head _)
 refine a1l (a5I (n := ⟨11, by_, D, E, A, B, F, cl, im, Args, nx, el⟩) hg hal) hS rfl (Spl.last (PkC.there PkC.here)) (fun x S L' hL hS => ?_)
 obtain ⟨rfl, rfl⟩ := hL
 have ho2 := hS.at (List.mem_append_right (uL p o a0 a4 a6 a7 ek ev dep live (z :: r) ps rj pj) (.head _))
 refine aU ?_
 have hS2 : Ab.Sep S ((o.m, 0, [a0, mkA p, .int .i64 ek, .int .u64 ev, a4, .int .i64 dep, a6, a7, .ref o.ro o.rv 0 (r.length + 1) none, .ref o.po o.pv 0 ps.length (some 2), .int .i64 live]) :: (o.ro, o.rv, a0l (z :: r) ++ rj) :: (o.po, o.pv, flat s4.av ps.reverse ++ pj) :: ((z :: r).flatMap (a0c p) ++ R)) := u3 hS
 refine a1l (a5D (n := r.length + 1) (dep := dep) hb zO (a3g hl hb) zS hd) hS2 rfl (Spl.cons Pk.here (Spl.cons Pk.here Spl.nil)) (fun x S L' hL hS => ?_)
 obtain ⟨s, d, q2, rfl⟩ := hL
 refine aU ?_
 refine And.intro ⟨⟨rfl, fun x hx => by rw [List.mem_singleton.1 hx]; exact ho2.trans ho1.symm⟩, trivial⟩ ?_
 (repeat (first | refine j3 ?_ | refine j4 ?_ | refine j5 rfl ?_ | refine f6 ?_ | refine f8 ?_ | refine j2 ?_))
 refine ⟨trivial, _, rfl, _, ⟨⟨⟨f2, 0, [], 0⟩, s, d, 0, [], q2⟩ :: z :: r, rfl, rfl⟩, ?_⟩
 have e1 : max dep (((r.length + 1 : Nat) : Int) + 1) = max dep ((r.length : Int) + 2) := by omega
 rw [e1] at hS
 have e2 : a0l (z :: r) ++ [AV.ptr s 0 0] = a0l (⟨⟨f2, 0, [], 0⟩, s, d, 0, [], q2⟩ :: z :: r) ++ [] := by simp [a0l]
 rw [e2] at hS
 have hS5 := hS.perm (a9G (A := a0c p ⟨⟨f2, 0, [], 0⟩, s, d, 0, [], q2⟩) (X := (z :: r).flatMap (a0c p)) (R := R) : List.Perm (([_, _] ++ _) ++ (_ :: (_ ++ R))) _)
 simpa [uL, List.append_assoc] using hS5
theorem a7i {f : SFr} {pc : Int} : ∀ {l : List Int}, a2h p { f with pc := pc } l = a2h p f l
 | [] => rfl
 | k :: l => by unfold a2h; rw [a7i (l := l)]; rfl
theorem a9I {i : d8} {ag : List Int} {dfs : Int} (hop : i.Op = 13) (hg : a2h p z.fr i.Args = some ag) (hal : i.Args.length < 100000000) (hn : r.length < 9999999) (hdf : z.df.length < 100000000) (hlv : 0 ≤ live ∧ live < 100000000) :
  Tri Try.prog 164 [.ptr z.q.x 0 0, .ptr o.m 0 0, i.av] (uL p o a0 a4 (.int .i64 dfs) a7 ek ev dep live (z :: r) ps rj pj) (fun _ L' => ∃ rows', x3 rows' = { z.toARow with fr := { z.fr with pc := i.Next }, df := ⟨i.F, ag⟩ :: z.df } :: x3 r ∧ L' = uL p o a0 a4 (.int .i64 (max dfs (live + 1))) a7 ek ev dep (live + 1) rows' ps rj pj) := by
 obtain ⟨op, by_, D, E, A, B, F, cl, im, Args, nx, el⟩ := i
 dsimp only at hop hg hal
 subst hop
 refine l6 mixed a3C zS [5] (fun R S hS => ?_)
 refine aU ?_
 refine a1i hS rfl (xv := d8.av ⟨13, by_, D, E, A, B, F, cl, im, Args, nx, el⟩) rfl rfl (fun oi S hS => ?_)
 refine aU ?_
 refine d7 hS rfl (.head _) (v := .int .u8 13) rfl ?_
 refine aU ?_
 refine j9 ?_
 refine aU ?_
 refine f9 (t := false) rfl (fun h => by cases h) (fun _ => ?_)
 refine aU ?_
 refine f9 (t := false) rfl (fun h => by cases h) (fun _ => ?_)
 refine aU ?_
 refine f9 (t := false) rfl (fun h => by cases h) (fun _ => ?_)
 refine aU ?_
 refine f9 (t := false) rfl (fun h => by cases h) (fun _ => ?_)
 refine aU ?_
 refine f9 (t := true) rfl (fun _ => ?_) (fun h => by cases h)
 refine aU ?_
 refine d7 hS rfl (.head _) (v := .int .i64 nx) rfl ?_
 refine aU ?_
 refine E_stS hS rfl (xv := .int .i64 nx) rfl (c1F (a2j (z := z) (k := nx))) rfl rfl (by first | exact Nat.le_of_ble_eq_true rfl | (simp; omega) | omega) (fun S hS => ?_)
 refine c7 ?_
 refine j1 ?_
 refine a0Q ?_
 refine aU ?_
 refine d7 hS rfl (.head _) (v := .int .i64 F) rfl ?_
 refine aU ?_
 refine d7 hS rfl (.head _) (v := d8.av ⟨13, by_, D, E, A, B, F, cl, im, Args, nx, el⟩) rfl ?_
 refine aU ?_
 have ho1 := hS.at (.head _)
 have hg2 : a2h p { z.fr with pc := nx } Args = some ag := by rw [← hg]; exact a7i
 refine a1l (a5I (z := { z with fr := { z.fr with pc := nx } }) (n := ⟨13, by_, D, E, A, B, F, cl, im, Args, nx, el⟩) hg2 hal) hS rfl (Spl.last (PkC.there PkC.here)) (fun x S L' hL hS => ?_)
 obtain ⟨rfl, rfl⟩ := hL
 have ho2 := hS.at (List.mem_append_right (uL p o a0 a4 (.int .i64 dfs) a7 ek ev dep live ({ z with fr := { z.fr with pc := nx } } :: r) ps rj pj) (.head _))
 refine aU ?_
 have hS2 : Ab.Sep S ((o.m, 0, [a0, mkA p, .int .i64 ek, .int .u64 ev, a4, .int .i64 dep, .int .i64 dfs, a7, .ref o.ro o.rv 0 (r.length + 1) none, .ref o.po o.pv 0 ps.length (some 2), .int .i64 live]) :: (o.ro, o.rv, a0l (z :: r) ++ rj) :: (o.po, o.pv, flat s4.av ps.reverse ++ pj) ::
  (z.s, 0, [.iface 173 (.ptr z.q.x 0 0), .int .i64 z.why, .ref z.d z.dv 0 z.df.length (some 2), .int .u64 z.ret]) :: (z.d, z.dv, flat a0S.av z.df.reverse ++ z.dj) :: (frL p { z.fr with pc := nx } z.q ++ r.flatMap (a0c p) ++ R)) := by
  simpa [uL, a0c, slL, List.append_assoc, a0l] using u3 hS
 rw [u0] at hS2
 refine a1l (a7H (z := { z with fr := { z.fr with pc := nx } }) (n := r.length) (rc := a0l r) (dfs := dfs) (live := live) zO zS hdf zO) hS2 rfl (Spl.cons Pk.here (Spl.cons Pk.here (Spl.cons (Pk.there Pk.here) (Spl.cons (Pk.there Pk.here) Spl.nil)))) (fun x S L' hL hS => ?_)
 subst hL
 refine aU ?_
 refine And.intro ⟨⟨rfl, fun x hx => by rw [List.mem_singleton.1 hx]; exact ho2.trans ho1.symm⟩, trivial⟩ ?_
 (repeat (first | refine j3 ?_ | refine j4 ?_ | refine j5 rfl ?_ | refine f6 ?_ | refine f8 ?_ | refine j2 ?_))
 refine ⟨trivial, _, rfl, _, ⟨{ z with fr := { z.fr with pc := nx }, df := ⟨F, ag⟩ :: z.df, dv := z.dv + 1, dj := [] } :: r, rfl, rfl⟩, ?_⟩
 have hS5 := hS.perm (a7R (X := frL p { z.fr with pc := nx } z.q ++ r.flatMap (a0c p) ++ R) : List.Perm (_ :: _ :: _ :: _ :: _ :: _) _)
 have e2 : a0l r ++ (AV.ptr z.s 0 0 :: rj) = a0l ({ z with fr := { z.fr with pc := nx }, df := ⟨F, ag⟩ :: z.df, dv := z.dv + 1, dj := [] } :: r) ++ rj := by simp [a0l]
 rw [e2] at hS5
 simpa [uL, a0c, slL, List.append_assoc] using hS5
def a9J (p : GP) (f : SFr) (a : Int) : Option Int := if 0 ≤ a then f.get p a else some 0
theorem a9K {i : d8} {v : Int} {u : RO} (hop : i.Op = 12) (hr : a9J p z.fr i.A = some v) (hv : a3B p { z.toARow with ret := v } (x3 r) ps = some u) (hn : r.length < 9999999) (hp : ps.length < 10000000)
  (hl : ∀ g ∈ p.Funcs, okG g) (hd : 0 ≤ dep ∧ dep < 1000000000) (hlv : ∀ y ∈ z :: r, Siz live y) (hlv2 : live < 100000000) :
  Tri Try.prog 164 [.ptr z.q.x 0 0, .ptr o.m 0 0, i.av] (uL p o a0 a4 a6 a7 ek ev dep live (z :: r) ps rj pj) (fun _ L' => ∃ rv rows' rj' pj', x3 rows' = u.A ∧ L' = uL p { o with rv := rv } a0 a4 a6 a7 (u.en.elim ek (·.1)) (u.en.elim ev (·.2)) (if u.push then max dep (u.A.length : Int) else dep) (if u.push then live - 1 else live) rows' u.ps rj' pj') := by
 obtain ⟨op, by_, D, E, A, B, F, cl, im, Args, nx, el⟩ := i
 dsimp only at hop hr
 subst hop
 refine l6 mixed a3C zS [5] (fun R S hS => ?_)
 refine aU ?_
 refine a1i hS rfl (xv := d8.av ⟨12, by_, D, E, A, B, F, cl, im, Args, nx, el⟩) rfl rfl (fun oi S hS => ?_)
 refine aU ?_
 refine d7 hS rfl (.head _) (v := .int .u8 12) rfl ?_
 refine aU ?_
 refine j9 ?_
 refine aU ?_
 refine f9 (t := false) rfl (fun h => by cases h) (fun _ => ?_)
 refine aU ?_
 refine f9 (t := false) rfl (fun h => by cases h) (fun _ => ?_)
 refine aU ?_
 refine f9 (t := false) rfl (fun h => by cases h) (fun _ => ?_)
 refine aU ?_
 refine f9 (t := false) rfl (fun h => by cases h) (fun _ => ?_)
 refine aU ?_
 refine f9 (t := false) rfl (fun h => by cases h) (fun _ => ?_)
 refine aU ?_
 refine f9 (t := true) rfl (fun _ => ?_) (fun h => by cases h)
 refine aU ?_
 refine d7 hS rfl (.head _) (v := .int .i64 A) rfl ?_
 refine aU ?_
 unfold a9J at hr
 split at hr
 ·rename_i h0
  refine f9 (t := true) (by show AV.bool (decide (A ≥ 0)) = _; rw [decide_eq_true h0]) (fun _ => ?_) (fun h => by cases h)
  refine aU ?_
  refine d7 hS rfl (.head _) (v := .int .i64 A) rfl ?_
  refine aU ?_
  refine a2d (s7 hr) hS rfl (Spl.last (PkC.there PkC.here)) ?_
  refine aU ?_
  refine a1l (a4r hv hn hp hl hd hlv hlv2) hS rfl (Spl.last (PkC.there PkC.here)) (fun x S L' hL hS => ?_)
  refine aU ?_
  (repeat (first | refine j3 ?_ | refine j4 ?_ | refine j5 rfl ?_ | refine f6 ?_ | refine f8 ?_ | refine j2 ?_))
  exact ⟨trivial, _, rfl, _, hL, u3 hS⟩
 ·rename_i h0
  cases hr
  refine f9 (t := false) (by show AV.bool (decide (A ≥ 0)) = _; rw [decide_eq_false h0]) (fun h => by cases h) (fun _ => ?_)
  refine aU ?_
  refine a1l (a4r hv hn hp hl hd hlv hlv2) hS rfl (Spl.last (PkC.there PkC.here)) (fun x S L' hL hS => ?_)
  refine aU ?_
  (repeat (first | refine j3 ?_ | refine j4 ?_ | refine j5 rfl ?_ | refine f6 ?_ | refine f8 ?_ | refine j2 ?_))
  exact ⟨trivial, _, rfl, _, hL, u3 hS⟩
theorem a9L {i : d8} {v pmx : Int} {en : Option Int} {A' : List ARow} (hop : i.Op = 14) (ha : z.fr.get p i.A = some v)
  (hv : s5 p (z.toARow :: x3 r) (⟨v, false⟩ :: ps) = some (en, A', ps')) (hn : r.length < 9999999) (hp : ps.length < 9999999)
  (hl : ∀ g ∈ p.Funcs, okG g) (hd : 0 ≤ dep ∧ dep < 1000000000) (hlv : ∀ y ∈ z :: r, (y.df.length : Int) ≤ live) (hlv2 : live < 100000000) :
  Tri Try.prog 164 [.ptr z.q.x 0 0, .ptr o.m 0 0, i.av] (uL p o a0 a4 a6 (.int .i64 pmx) ek ev dep live (z :: r) ps rj pj) (fun _ L' => ∃ rv rows' rj' pj', x3 rows' = A' ∧ L' = uL p { o with rv := rv, pv := o.pv + 1 } a0 a4 a6 (.int .i64 (max pmx ((ps.length : Int) + 1))) (if en.isSome then 2 else ek) (en.getD ev) (if en.isSome then dep else max dep (A'.length : Int)) (if en.isSome then live else live - 1) rows' ps' rj' pj') := by
 obtain ⟨op, by_, D, E, A, B, F, cl, im, Args, nx, el⟩ := i
 dsimp only at hop ha
 subst hop
 refine l6 mixed a3C zS [5] (fun R S hS => ?_)
 refine aU ?_
 refine a1i hS rfl (xv := d8.av ⟨14, by_, D, E, A, B, F, cl, im, Args, nx, el⟩) rfl rfl (fun oi S hS => ?_)
 refine aU ?_
 refine d7 hS rfl (.head _) (v := .int .u8 14) rfl ?_
 refine aU ?_
 refine j9 ?_
 refine aU ?_
 refine f9 (t := false) rfl (fun h => by cases h) (fun _ => ?_)
 refine aU ?_
 refine f9 (t := false) rfl (fun h => by cases h) (fun _ => ?_)
 refine aU ?_
 refine f9 (t := false) rfl (fun h => by cases h) (fun _ => ?_)
 refine aU ?_
 refine f9 (t := false) rfl (fun h => by cases h) (fun _ => ?_)
 refine aU ?_
 refine f9 (t := false) rfl (fun h => by cases h) (fun _ => ?_)
 refine aU ?_
 refine f9 (t := false) rfl (fun h => by cases h) (fun _ => ?_)
 refine aU ?_
 refine f9 (t := true) rfl (fun _ => ?_) (fun h => by cases h)
 refine aU ?_
 refine d7 hS rfl (.head _) (v := .int .i64 A) rfl ?_
 refine aU ?_
 refine a2d (s7 (z := z) ha) hS rfl (Spl.last (PkC.there PkC.here)) ?_
 refine aU ?_
 refine a1l (a2t (o := o) (pmx := pmx) (v := v) (rows := z :: r) hv zE hp hl hd hlv hlv2) hS rfl (Spl.last (PkC.there PkC.here)) (fun x S L' hL hS => ?_)
 refine aU ?_
 (repeat (first | refine j3 ?_ | refine j4 ?_ | refine j5 rfl ?_ | refine f6 ?_ | refine f8 ?_ | refine j2 ?_))
 exact ⟨trivial, _, rfl, _, hL, u3 hS⟩
theorem a9M {i : d8} {v : Int} (hop : (i.Op == 3) = false ∧ (i.Op == 7) = false ∧ (i.Op == 8) = false ∧ (i.Op == 11) = false ∧ (i.Op == 13) = false ∧ (i.Op == 12) = false ∧ (i.Op == 14) = false) (ha : z.fr.get p i.A = some v) :
  Tri Try.prog 164 [.ptr z.q.x 0 0, .ptr o.m 0 0, i.av] (uL p o a0 a4 a6 a7 ek ev dep live (z :: r) ps rj pj) (fun _ L' => L' = uL p o a0 a4 a6 a7 1 v dep live (z :: r) ps rj pj) := by
 obtain ⟨o1, o2, o3, o4, o5, o6, o7⟩ := hop
 refine l6 mixed a3C zS [5] (fun R S hS => ?_)
 refine aU ?_
 refine a1i hS rfl (xv := i.av) rfl rfl (fun oi S hS => ?_)
 refine aU ?_
 refine d7 hS rfl (.head _) (v := .int .u8 i.Op) rfl ?_
 refine aU ?_
 refine j9 ?_
 refine aU ?_
 refine f9 (t := false) (by show AV.bool (i.Op == 3) = _; rw [o1]) (fun h => by cases h) (fun _ => ?_)
 refine aU ?_
 refine f9 (t := false) (by show AV.bool (i.Op == 7) = _; rw [o2]) (fun h => by cases h) (fun _ => ?_)
 refine aU ?_
 refine f9 (t := false) (by show AV.bool (i.Op == 8) = _; rw [o3]) (fun h => by cases h) (fun _ => ?_)
 refine aU ?_
 refine f9 (t := false) (by show AV.bool (i.Op == 11) = _; rw [o4]) (fun h => by cases h) (fun _ => ?_)
 refine aU ?_
 refine f9 (t := false) (by show AV.bool (i.Op == 13) = _; rw [o5]) (fun h => by cases h) (fun _ => ?_)
 refine aU ?_
 refine f9 (t := false) (by show AV.bool (i.Op == 12) = _; rw [o6]) (fun h => by cases h) (fun _ => ?_)
 refine aU ?_
 refine f9 (t := false) (by show AV.bool (i.Op == 14) = _; rw [o7]) (fun h => by cases h) (fun _ => ?_)
 refine aU ?_
 refine d7 hS rfl (.head _) (v := .int .i64 i.A) rfl ?_
 refine aU ?_
 refine a2d (s7 (z := z) ha) hS rfl (Spl.last (PkC.there PkC.here)) ?_
 refine aU ?_
 refine E_stS hS rfl (xv := .agg [.int .i64 1, .int .u64 v]) rfl (Rp.there Rp.here) rfl rfl (by first | exact Nat.le_of_ble_eq_true rfl | (simp; omega) | omega) (fun S hS => ?_)
 refine aU ?_
 (repeat (first | refine j3 ?_ | refine j4 ?_ | refine j5 rfl ?_ | refine f6 ?_ | refine f8 ?_ | refine j2 ?_))
 exact ⟨trivial, _, rfl, _, rfl, a9B hS⟩
end
end Go.Proofs.Ytnpemocpfdgaoaa

/- One step of a run of graphs, told plainly. -/
namespace Go.Proofs.Ytnpemocpfdgaoaa
open Go Go.Ab
def goA (s : AS) (z : ARow) (r : List ARow) (f : SFr) : AS := { s with rows := { z with fr := f } :: r }
def a9N (p : GP) (s : AS) (rows : List ARow) (v : Int) : Option AS := (s5 p rows (⟨v, false⟩ :: s.pans)).map fun u =>
 { s with rows := u.2.1, pans := u.2.2, panics := max s.panics ((s.pans.length : Int) + 1), ek := if u.1.isSome then 2 else s.ek, ev := u.1.getD s.ev, depth := if u.1.isSome then s.depth else max s.depth (u.2.1.length : Int), live := if u.1.isSome then s.live else s.live - 1 }
def a9O (p : GP) (s : AS) (z : ARow) (r : List ARow) (i : d8) : Option AS :=
 if i.Op = 1 then (z.fr.set p i.D i.Imm).map fun f1 => goA s z r { f1 with pc := i.Next }
 else if i.Op = 2 then (z.fr.get p i.A).bind fun v => (z.fr.set p i.D v).map fun f1 => goA s z r { f1 with pc := i.Next }
 else if i.Op = 4 then (u4 z.fr.ce i.Cell).bind fun v => (z.fr.set p i.D v).map fun f1 => goA s z r { f1 with pc := i.Next }
 else if i.Op = 5 then (z.fr.get p i.A).bind fun v => (u4 z.fr.ce i.Cell).map fun _ => goA s z r { z.fr with ce := z.fr.ce.set i.Cell.toNat v, pc := i.Next }
 else if i.Op = 6 then (z.fr.set p i.D (c4w z.fr.nu i.Cell)).map fun f1 => goA s z r { f1 with pc := i.Next }
 else if i.Op = 9 then (z.fr.get p i.A).map fun (v : Int) => goA s z r { z.fr with pc := if v = 0 then i.Else else i.Next }
 else if i.Op = 10 then some (goA s z r { z.fr with pc := i.Next })
 else if i.Op = 16 then (z.fr.set p i.D (inV s.tape)).map fun f1 => { s with tape := s.tape.tail, evs := s.evs ++ [⟨2, inV s.tape⟩], rows := { z with fr := { f1 with pc := i.Next } } :: r }
 else if i.Op = 17 then (z.fr.get p i.A).map fun v => { s with evs := s.evs ++ [⟨1, v⟩], rows := { z with fr := { z.fr with pc := i.Next } } :: r }
 else if i.Op = 15 then (if z.why = 2 ∧ s.pans = [] then none else (z.fr.set p i.D (a2H z.why s.pans).1.1).bind fun f1 => (f1.set p i.E (a2H z.why s.pans).1.2).map fun f2 => { s with rows := { z with fr := { f2 with pc := i.Next } } :: r, pans := (a2H z.why s.pans).2 })
 else if i.Op = 3 then (z.fr.get p i.A).bind fun a => (z.fr.get p i.B).bind fun b => (a0t i.By a b).bind fun w => if w.2 = 0 then (z.fr.set p i.D w.1).map fun f1 => goA s z r { f1 with pc := i.Next } else a9N p s (z :: r) 18446744073709551615
 else if i.Op = 7 then (z.fr.get p i.A).bind fun pt => (a2X (z :: r) pt).bind fun c => match c with
  | none => a9N p s (z :: r) 18446744073709551614
  | some c => ((z :: r).reverse[c.1]?).bind fun y => (y.fr.ce[c.2]?).bind fun v => (z.fr.set p i.D v).map fun f1 => goA s z r { f1 with pc := i.Next }
 else if i.Op = 8 then (z.fr.get p i.A).bind fun pt => (a2X (z :: r) pt).bind fun c => match c with
  | none => a9N p s (z :: r) 18446744073709551614
  | some c => (z.fr.get p i.B).bind fun v => ((z :: r).reverse[c.1]?).bind fun y => (y.fr.ce[c.2]?).map fun _ => { s with rows := a5L ({ z with fr := { z.fr with pc := i.Next } } :: r) c.1 c.2 v }
 else if i.Op = 11 then (a2h p z.fr i.Args).bind fun ag => (a0T p i.F ag (r.length + 2)).map fun f2 => { s with rows := ⟨f2, 0, [], 0⟩ :: z :: r, depth := max s.depth ((r.length : Int) + 2) }
 else if i.Op = 13 then (a2h p z.fr i.Args).map fun ag => { s with rows := { z with fr := { z.fr with pc := i.Next }, df := ⟨i.F, ag⟩ :: z.df } :: r, defers := max s.defers (s.live + 1), live := s.live + 1 }
 else if i.Op = 12 then (a9J p z.fr i.A).bind fun v => (a3B p { z with ret := v } r s.pans).map fun u =>
  { s with rows := u.A, pans := u.ps, ek := u.en.elim s.ek (·.1), ev := u.en.elim s.ev (·.2), depth := if u.push then max s.depth (u.A.length : Int) else s.depth, live := if u.push then s.live - 1 else s.live }
 else if i.Op = 14 then (z.fr.get p i.A).bind fun v => a9N p s (z :: r) v
 else (z.fr.get p i.A).map fun v => { s with ek := 1, ev := v }
def a0u (p : GP) (s : AS) : Option AS := match s.rows with
 | [] => none
 | z :: r => (u4 z.fr.f.Nodes z.fr.pc).bind fun i => a9O p s z r i
structure Bd (p : GP) (s : AS) : Prop where
 lo : ∀ g ∈ p.Funcs, okG g
 rn : s.rows.length < 9999999
 pn : s.pans.length < 9999999
 dep : 0 ≤ s.depth ∧ s.depth < 1000000000
 lv : 0 ≤ s.live ∧ s.live < 100000000
 row : ∀ z ∈ s.rows, (z.df.length : Int) ≤ s.live ∧ okG z.fr.f
 ev : s.evs.length < 1000000000
end Go.Proofs.Ytnpemocpfdgaoaa

/- irun.frame's Step as one contract. -/
namespace Go.Ab
theorem Tri.beside {P : Program} {f : FuncId} {args : List AV} {L X : List It} {Q : AV → List It → Prop} (c : Tri P f args L Q) : Tri P f args (L ++ X) (fun v L' => ∃ L0, Q v L0 ∧ L' = L0 ++ X) := fun R S hS => by
 rw [List.append_assoc] at hS
 obtain ⟨r, S', h1, L', h2, h3⟩ := c _ _ hS
 exact ⟨r, S', h1, _, ⟨L', h2, rfl⟩, by rw [List.append_assoc]; exact h3⟩
end Go.Ab
namespace Go.Proofs.Ytnpemocpfdgaoaa
open Go Go.Ab
set_option maxRecDepth 20000
set_option maxHeartbeats 2000000
structure TO where
 tr : Nat
 te : Nat
 tv : Nat
def trL (t : TO) (s : AS) : List It := [(t.tr, 0, [.sl false 1 (s.tape.map (avI .u64)), .ref t.te t.tv 0 s.evs.length (some 2)]), (t.te, t.tv, flat k6.av s.evs)]
abbrev sL (p : GP) (o : UO) (t : TO) (s : AS) (rows : List Row) (rj pj : List AV) : List It :=
 uL p o (.ptr t.tr 0 0) (.int .i64 s.steps) (.int .i64 s.defers) (.int .i64 s.panics) s.ek s.ev s.depth s.live rows s.pans rj pj
def mS (p : GP) (o : UO) (t : TO) (s : AS) (rows : List Row) (rj pj : List AV) : List It := sL p o t s rows rj pj ++ trL t s
def b7J (p : GP) (m : Nat) (s : AS) (L : List It) : Prop := ∃ o t rows rj pj, o.m = m ∧ x3 rows = s.rows ∧ L = mS p o t s rows rj pj
section
variable {p : GP} {o : UO} {t : TO} {s s' : AS} {z : Row} {r : List Row} {rj pj : List AV}
theorem lift_tri {g : FuncId} {ag : List AV} {rows : List Row} {Q : List It → Prop} (c : Tri Try.prog g ag (sL p o t s rows rj pj) (fun _ L' => Q L')) (ht : s'.tape = s.tape) (he : s'.evs = s.evs)
  (k : ∀ L', Q L' → ∃ o' rows' rj' pj', o'.m = o.m ∧ x3 rows' = s'.rows ∧ L' = sL p o' t s' rows' rj' pj') : Tri Try.prog g ag (mS p o t s rows rj pj) (fun _ L' => b7J p o.m s' L') :=
 (Tri.beside c).mono (fun v L' ⟨L0, h1, h2⟩ => by
  obtain ⟨o', rows', rj', pj', h3, h4, rfl⟩ := k _ h1
  refine ⟨o', t, rows', rj', pj', h3, h4, ?_⟩
  rw [h2]; unfold mS trL; rw [ht, he])
theorem a1T {g : FuncId} {ag : List AV} {F : SFr} (c : Tri Try.prog g ag (sL p o t s (z :: r) rj pj) (fun _ L' => ∃ f q, q.x = z.q.x ∧ f = F ∧ L' = sL p o t s ({ z with fr := f, q := q } :: r) rj pj)) :
  Tri Try.prog g ag (mS p o t s (z :: r) rj pj) (fun _ L' => b7J p o.m (goA s z.toARow (x3 r) F) L') :=
 lift_tri c rfl rfl (fun L' ⟨f, q, h1, h2, h3⟩ => ⟨o, { z with fr := f, q := q } :: r, rj, pj, rfl, by rw [h2]; rfl, h3⟩)
theorem a4Q {g : FuncId} {ag : List AV} {rows : List Row} {rs : List ARow} {v : Int} (hv : a9N p s rs v = some s')
  (c : ∀ {en : Option Int} {A' : List ARow} {ps' : List s4}, s5 p rs (⟨v, false⟩ :: s.pans) = some (en, A', ps') → Tri Try.prog g ag (sL p o t s rows rj pj)
   (fun _ L' => ∃ rv rows' rj' pj', x3 rows' = A' ∧ L' = uL p { o with rv := rv, pv := o.pv + 1 } (.ptr t.tr 0 0) (.int .i64 s.steps) (.int .i64 s.defers) (.int .i64 (max s.panics ((s.pans.length : Int) + 1))) (if en.isSome then 2 else s.ek) (en.getD s.ev) (if en.isSome then s.depth else max s.depth (A'.length : Int)) (if en.isSome then s.live else s.live - 1) rows' ps' rj' pj')) :
  Tri Try.prog g ag (mS p o t s rows rj pj) (fun _ L' => b7J p o.m s' L') := by
 unfold a9N at hv
 obtain ⟨⟨en, A', ps'⟩, h1, rfl⟩ := Option.map_eq_some_iff.1 hv
 exact lift_tri (c h1) rfl rfl (fun L' ⟨rv, rows', rj', pj', h2, h3⟩ => ⟨{ o with rv := rv, pv := o.pv + 1 }, rows', rj', pj', rfl, h2, h3⟩)
theorem b1p (hb : Bd p s) (hA : x3 (z :: r) = s.rows) (hst : a0u p s = some s') :
  Tri Try.prog 162 [.ptr z.q.x 0 0, .ptr o.m 0 0] (mS p o t s (z :: r) rj pj) (fun _ L' => b7J p o.m s' L') := by
 have hA2 : s.rows = z.toARow :: x3 r := hA.symm
 unfold a0u at hst
 rw [hA2] at hst
 obtain ⟨i, hi, hst⟩ := Option.bind_eq_some_iff.1 hst
 have hrl : (x3 r).length = r.length := by simp [x3]
 have hrn : r.length < 9999998 := by have := hb.rn; rw [hA2] at this; simp [hrl] at this; omega
 have hrow : ∀ y ∈ z :: r, (y.df.length : Int) ≤ s.live ∧ okG y.fr.f := fun y hy => hb.row y.toARow (by rw [← hA]; exact List.mem_map_of_mem hy)
 obtain ⟨hz1, hz2⟩ := hrow z (.head _)
 have hal : i.Args.length < 100000000 := hz2.2.2.2 i (List.mem_of_getElem? (a0s hi).2.2)
 have hlv : ∀ y ∈ z :: r, (y.df.length : Int) ≤ s.live := fun y hy => (hrow y hy).1
 have hpn := hb.pn
 have hlv2 := hb.lv
 have hdep := hb.dep
 have hwp : z.why = 2 → s.pans = [] → False ∨ (z.why = 2 ∧ s.pans = []) := fun a b => .inr ⟨a, b⟩
 unfold a9O at hst
 dsimp only at hst
 by_cases h : i.Op = 1
 ·rw [if_pos h] at hst
  obtain ⟨f1, h1, rfl⟩ := Option.map_eq_some_iff.1 hst
  exact a1T (a9w hi h h1)
 rw [if_neg h] at hst; have n1 := h; clear h
 by_cases h : i.Op = 2
 ·rw [if_pos h] at hst
  obtain ⟨v, h1, hst⟩ := Option.bind_eq_some_iff.1 hst
  obtain ⟨f1, h2, rfl⟩ := Option.map_eq_some_iff.1 hst
  exact a1T (a9x hi h h1 h2)
 rw [if_neg h] at hst; have n2 := h; clear h
 by_cases h : i.Op = 4
 ·rw [if_pos h] at hst
  obtain ⟨v, h1, hst⟩ := Option.bind_eq_some_iff.1 hst
  obtain ⟨f1, h2, rfl⟩ := Option.map_eq_some_iff.1 hst
  exact a1T (a9y hi h h1 h2)
 rw [if_neg h] at hst; have n4 := h; clear h
 by_cases h : i.Op = 5
 ·rw [if_pos h] at hst
  obtain ⟨v, h1, hst⟩ := Option.bind_eq_some_iff.1 hst
  obtain ⟨w, h2, rfl⟩ := Option.map_eq_some_iff.1 hst
  exact a1T (a9z hi h h1 h2)
 rw [if_neg h] at hst; have n5 := h; clear h
 by_cases h : i.Op = 6
 ·rw [if_pos h] at hst
  obtain ⟨f1, h1, rfl⟩ := Option.map_eq_some_iff.1 hst
  exact a1T (a9A hi h h1)
 rw [if_neg h] at hst; have n6 := h; clear h
 by_cases h : i.Op = 9
 ·rw [if_pos h] at hst
  obtain ⟨v, h1, rfl⟩ := Option.map_eq_some_iff.1 hst
  by_cases h0 : v = 0
  ·subst h0
   rw [if_pos rfl]
   exact a1T (a7I hi h h1)
  ·rw [if_neg h0]
   exact a1T (a7J hi h h1 (by simpa using h0))
 rw [if_neg h] at hst; have n9 := h; clear h
 by_cases h : i.Op = 10
 ·rw [if_pos h] at hst
  cases hst
  exact a1T (a7K hi h)
 rw [if_neg h] at hst; have n10 := h; clear h
 by_cases h : i.Op = 16
 ·rw [if_pos h] at hst
  obtain ⟨f1, h1, rfl⟩ := Option.map_eq_some_iff.1 hst
  exact (a7L (tr := t.tr) (te := t.te) (tv := t.tv) (tape := s.tape) (evs := s.evs) hi h h1 hb.ev).mono (fun v L' ⟨f, q, h3, h4, h5⟩ => ⟨o, { t with tv := t.tv + 1 }, { z with fr := f, q := q } :: r, rj, pj, rfl, by rw [h4]; rfl, h5⟩)
 rw [if_neg h] at hst; have n16 := h; clear h
 by_cases h : i.Op = 17
 ·rw [if_pos h] at hst
  obtain ⟨v, h1, rfl⟩ := Option.map_eq_some_iff.1 hst
  exact (a7M (tr := t.tr) (te := t.te) (tv := t.tv) (tape := s.tape) (evs := s.evs) hi h h1 hb.ev).mono (fun v L' ⟨f, q, h3, h4, h5⟩ => ⟨o, { t with tv := t.tv + 1 }, { z with fr := f, q := q } :: r, rj, pj, rfl, by rw [h4]; rfl, h5⟩)
 rw [if_neg h] at hst; have n17 := h; clear h
 by_cases h : i.Op = 15
 ·rw [if_pos h] at hst
  split at hst
  ·cases hst
  ·rename_i h0
   obtain ⟨f1, h1, hst⟩ := Option.bind_eq_some_iff.1 hst
   obtain ⟨f2, h2, rfl⟩ := Option.map_eq_some_iff.1 hst
   exact lift_tri (a7N hi h (fun h3 h4 => h0 ⟨h3, h4⟩) zO zO h1 h2) rfl rfl (fun L' ⟨f, q, h3, h4, h5⟩ => ⟨o, { z with fr := f, q := q } :: r, rj, pj, rfl, by rw [h4]; rfl, h5⟩)
 rw [if_neg h] at hst; have n15 := h; clear h
 by_cases h : i.Op = 3
 ·rw [if_pos h] at hst
  obtain ⟨a, h1, hst⟩ := Option.bind_eq_some_iff.1 hst
  obtain ⟨b, h2, hst⟩ := Option.bind_eq_some_iff.1 hst
  obtain ⟨⟨v, er⟩, h3, hst⟩ := Option.bind_eq_some_iff.1 hst
  dsimp only at hst
  split at hst
  ·rename_i h0
   rw [h0] at h3
   obtain ⟨f1, h4, rfl⟩ := Option.map_eq_some_iff.1 hst
   exact a1T (w6 hi (by simp [h]) (a9C h h1 h2 h3 h4))
  ·rename_i h0
   exact a4Q hst (fun h4 => w6 hi (by simp [h]) (a9D h h1 h2 h3 h0 h4 zO hpn hb.lo hdep hlv hlv2.2))
 rw [if_neg h] at hst; have n3 := h; clear h
 by_cases h : i.Op = 7
 ·rw [if_pos h] at hst
  obtain ⟨pt, h1, hst⟩ := Option.bind_eq_some_iff.1 hst
  obtain ⟨c, h2, hst⟩ := Option.bind_eq_some_iff.1 hst
  cases c with
  | none => exact a4Q hst (fun h4 => w6 hi (by simp [h]) (a7O h h1 h2 h4 zO hpn hb.lo hdep hlv hlv2.2))
  | some c =>
    obtain ⟨ci, ck⟩ := c
    obtain ⟨y, h3, hst⟩ := Option.bind_eq_some_iff.1 hst
    obtain ⟨v, h4, hst⟩ := Option.bind_eq_some_iff.1 hst
    obtain ⟨f1, h5, rfl⟩ := Option.map_eq_some_iff.1 hst
    exact a1T (w6 hi (by simp [h]) (a9E h h1 h2 h3 h4 h5))
 rw [if_neg h] at hst; have n7 := h; clear h
 by_cases h : i.Op = 8
 ·rw [if_pos h] at hst
  obtain ⟨pt, h1, hst⟩ := Option.bind_eq_some_iff.1 hst
  obtain ⟨c, h2, hst⟩ := Option.bind_eq_some_iff.1 hst
  cases c with
  | none => exact a4Q hst (fun h4 => w6 hi (by simp [h]) (a7P h h1 h2 h4 zO hpn hb.lo hdep hlv hlv2.2))
  | some c =>
    obtain ⟨ci, ck⟩ := c
    obtain ⟨v, h3, hst⟩ := Option.bind_eq_some_iff.1 hst
    obtain ⟨y, h4, hst⟩ := Option.bind_eq_some_iff.1 hst
    obtain ⟨w, h5, rfl⟩ := Option.map_eq_some_iff.1 hst
    exact lift_tri (w6 hi (by simp [h]) (a9F h h1 h3 h2 h4 h5)) rfl rfl (fun L' ⟨rows', h6, h7⟩ => ⟨o, rows', rj, pj, rfl, h6, h7⟩)
 rw [if_neg h] at hst; have n8 := h; clear h
 by_cases h : i.Op = 11
 ·rw [if_pos h] at hst
  obtain ⟨ag, h1, hst⟩ := Option.bind_eq_some_iff.1 hst
  obtain ⟨f2, h2, rfl⟩ := Option.map_eq_some_iff.1 hst
  rw [hrl] at h2
  refine lift_tri (w6 hi (by simp [h]) (a9H h h1 hal h2 zO hb.lo hdep)) rfl rfl (fun L' ⟨rows', h4, h5⟩ => ⟨{ o with rv := o.rv + 1 }, rows', [], pj, rfl, h4, ?_⟩)
  rw [h5]; simp only [hrl]
 rw [if_neg h] at hst; have n11 := h; clear h
 by_cases h : i.Op = 13
 ·rw [if_pos h] at hst
  obtain ⟨ag, h1, rfl⟩ := Option.map_eq_some_iff.1 hst
  exact lift_tri (w6 hi (by simp [h]) (a9I h h1 hal zO zO hlv2)) rfl rfl (fun L' ⟨rows', h4, h5⟩ => ⟨o, rows', rj, pj, rfl, h4, h5⟩)
 rw [if_neg h] at hst; have n13 := h; clear h
 by_cases h : i.Op = 12
 ·rw [if_pos h] at hst
  obtain ⟨v, h1, hst⟩ := Option.bind_eq_some_iff.1 hst
  obtain ⟨u, h2, rfl⟩ := Option.map_eq_some_iff.1 hst
  exact lift_tri (w6 hi (by simp [h]) (a9K h h1 h2 zO zO hb.lo hdep (fun y hy => hlv y hy) hlv2.2)) rfl rfl (fun L' ⟨rv, rows', rj', pj', h4, h5⟩ => ⟨{ o with rv := rv }, rows', rj', pj', rfl, h4, h5⟩)
 rw [if_neg h] at hst; have n12 := h; clear h
 by_cases h : i.Op = 14
 ·rw [if_pos h] at hst
  obtain ⟨v, h1, hst⟩ := Option.bind_eq_some_iff.1 hst
  exact a4Q hst (fun h4 => w6 hi (by simp [h]) (a9L h h1 h4 zO hpn hb.lo hdep hlv hlv2.2))
 rw [if_neg h] at hst; have n14 := h; clear h
 obtain ⟨v, h1, rfl⟩ := Option.map_eq_some_iff.1 hst
 exact lift_tri (w6 hi (by simp [n1, n2, n4, n5, n6, n9, n10, n16, n17, n15]) (a9M (by simp [n3, n7, n8, n11, n13, n12, n14]) h1)) rfl rfl (fun L' h5 => ⟨o, z :: r, rj, pj, rfl, hA, h5⟩)
end
end Go.Proofs.Ytnpemocpfdgaoaa

/- A run, told plainly. -/
namespace Go.Proofs.Ytnpemocpfdgaoaa
open Go Go.Ab
structure End where
 Kind : Int
 Value : Int
def End.cells (x : End) : List AV := [(.int .i64 x.Kind), (.int .u64 x.Value)]
def End.av (x : End) : AV := .agg (End.cells x)
theorem End.enc : Enc End.av (some 2) := ⟨fun _ => rfl, fun _ => rfl, fun _ => rfl, fun x n => l8 ⟨((m9 .i64).blw x.Kind n), ((m9 .u64).blw x.Value n), trivial⟩⟩
structure Result where
 Events : (List k6)
 End : End
 Steps : Int
 Depth : Int
 Defers : Int
 Panics : Int
def Result.cells (x : Result) : List AV := [(.sl false 2 (List.map k6.av x.Events)), (.int .i64 x.End.Kind), (.int .u64 x.End.Value), (.int .i64 x.Steps), (.int .i64 x.Depth), (.int .i64 x.Defers), (.int .i64 x.Panics)]
def Result.av (x : Result) : AV := .agg (Result.cells x)
theorem Result.enc : Enc Result.av (some 7) := ⟨fun _ => rfl, fun _ => rfl, fun _ => rfl, fun x n => l8 ⟨((a7C k6.enc 2).blw x.Events n), ((m9 .i64).blw x.End.Kind n), ((m9 .u64).blw x.End.Value n), ((m9 .i64).blw x.Steps n), ((m9 .i64).blw x.Depth n), ((m9 .i64).blw x.Defers n), ((m9 .i64).blw x.Panics n), trivial⟩⟩
def a3D (p : GP) : Nat → AS → Option AS
 | n, s => if s.ek ≠ 0 then some s else match n with
   | 0 => some { s with ek := 3 }
   | n + 1 => (a0u p { s with steps := s.steps + 1 }).bind (a3D p n)
def as0 (tape : List Int) : AS := ⟨tape, [], 0, 0, 0, 0, 0, 0, [], [], 0⟩
def as1 (p : GP) (tape : List Int) : Option AS := (a0T p 0 [] 1).map fun f => { as0 tape with rows := [⟨f, 0, [], 0⟩], depth := 1 }
def b1Z (s : AS) : Result := ⟨s.evs, ⟨s.ek, s.ev⟩, s.steps, s.depth, s.defers, s.panics⟩
def b7K (p : GP) : Nat → AS → Prop
 | 0, _ => True
 | n + 1, s => s.ek = 0 → Bd p { s with steps := s.steps + 1 } ∧ ∀ s', a0u p { s with steps := s.steps + 1 } = some s' → b7K p n s'
end Go.Proofs.Ytnpemocpfdgaoaa

