/- The parts of order.Spans: the walks. -/
import Derived.Test.YtepdcebjobjjgaaDoorGenO
import Derived.Test.YtepdcebjobjjgaaDoorLvC2
import Derived.Test.YtepdcebjobjjgaaDoorWlK2
import Derived.Test.YtepdcebjobjjgaaDoorGenBa
import Derived.Test.YtepdcebjobjjgaaDoorRows
set_option linter.unusedVariables false
set_option linter.unusedSimpArgs false
namespace Go.Proofs.YtepdcebjobjjgaaDoor
open Go Go.Ab
set_option maxRecDepth 20000
set_option maxHeartbeats 2000000
def c8u : FC := .reg [⟨(some 7), none, .op (.mv (.t 1))⟩,  ⟨(some 8), none, .op (.len .sl (.t 7))⟩,  ⟨(some 9), none, .op (.mv (.v (.int .i64 0)))⟩] []
def c8v : FC := .reg [⟨(some 11), none, .op (.iad none none (.t 7) (.t 9))⟩,  ⟨(some 12), none, .op (.load none (.t 11))⟩,  ⟨(some 6), none, .op (.mv (.t 12))⟩] []
def c8w : FC := .reg [⟨(some 13), none, .op (.load none (.t 2))⟩,  ⟨(some 14), none, .op (.mv (.t 6))⟩,  ⟨(some 15), none, .op (.load none (.t 2))⟩,  ⟨(some 16), none, .op (.mv (.t 6))⟩,  ⟨(some 17), none, .op (.load none (.t 2))⟩,  ⟨(some 18), none, .op (.mv (.t 6))⟩,  ⟨(some 19), none, .op (.iad none (some 4) (.t 17) (.t 18))⟩,  ⟨(some 20), none, .op (.fad 1 (.t 19))⟩,  ⟨(some 21), none, .op (.load none (.t 20))⟩,  ⟨(some 22), none, .op (.mv (.t 0))⟩,  ⟨(some 23), none, .op (.mn false (.t 21) (.t 22))⟩,  ⟨(some 24), none, .op (.load none (.t 2))⟩,  ⟨(some 25), none, .op (.mv (.t 6))⟩,  ⟨(some 26), none, .op (.iad none (some 4) (.t 24) (.t 25))⟩,  ⟨(some 27), none, .op (.fad 2 (.t 26))⟩,  ⟨(some 28), none, .op (.load none (.t 27))⟩,  ⟨(some 29), none, .op (.mv (.t 0))⟩,  ⟨(some 30), none, .op (.mn true (.t 28) (.t 29))⟩,  ⟨(some 31), none, .op (.iad none (some 4) (.t 13) (.t 14))⟩,  ⟨(some 32), none, .op (.fad 1 (.t 31))⟩,  ⟨none, none, .op (.store 1 (.t 32) (.t 23))⟩,  ⟨(some 33), none, .op (.iad none (some 4) (.t 15) (.t 16))⟩,  ⟨(some 34), none, .op (.fad 2 (.t 33))⟩,  ⟨none, none, .op (.store 1 (.t 34) (.t 30))⟩] [(2, 20)]
def c8x : FC := .seq c8v c8w
def c8y : FC := .loop (.seq (.reg [⟨(some 10), none, .op (.bin .none .lss (.t 9) (.t 8))⟩] []) (.seq (.cond (.t 10) .skip (.exit 0)) (.seq (.block 1 c8x) (.reg [⟨(some 35), none, .op (.bin .none .add (.t 9) (.v (.int .i64 1)))⟩,  ⟨(some 9), none, .op (.mv (.t 35))⟩] []))))
def c8z : FC := .block 0 c8y
def c8A : FC := .seq c8u c8z
def d5e : FC := c8A
theorem d5f : Fn3 Tryd.prog 30 36 [] d5e := ⟨_, _, Tryd.func30, rfl, rfl, rfl, by kernel_rfl⟩
def c8B : FC := .reg [⟨(some 4), none, .op (.mv (.v (.int .i64 0)))⟩] []
def c8C : FC := .reg [⟨(some 6), none, .op (.mv (.t 0))⟩,  ⟨(some 7), none, .op (.len .sl (.t 6))⟩,  ⟨(some 8), none, .op (.mv (.v (.int .i64 0)))⟩] []
def c8D : FC := .reg [⟨(some 10), none, .op (.mv (.t 8))⟩,  ⟨(some 5), none, .op (.mv (.t 10))⟩] []
def c8E : FC := .reg [⟨(some 11), none, .op (.mv (.t 1))⟩,  ⟨(some 12), none, .op (.mv (.t 0))⟩,  ⟨(some 13), none, .op (.mv (.t 5))⟩,  ⟨(some 14), none, .op (.iad none (some 4) (.t 12) (.t 13))⟩,  ⟨(some 15), none, .op (.load (some 4) (.t 14))⟩,  ⟨(some 16), none, .callv (.t 11) [(.t 15)]⟩] []
def c8F : FC := .reg [⟨(some 17), none, .op (.mv (.t 5))⟩,  ⟨(some 4), none, .op (.mv (.t 17))⟩] []
def c8G : FC := .seq c8F FC.ret
def c8H : FC := .cond (.t 16) c8G FC.skip
def c8I : FC := .seq c8E c8H
def c8J : FC := .seq c8D c8I
def b9Z : FC := .loop (.seq (.reg [⟨(some 9), none, .op (.bin .none .lss (.t 8) (.t 7))⟩] []) (.seq (.cond (.t 9) .skip (.exit 0)) (.seq (.block 1 c8J) (.reg [⟨(some 18), none, .op (.bin .none .add (.t 8) (.v (.int .i64 1)))⟩,  ⟨(some 8), none, .op (.mv (.t 18))⟩] []))))
def c0a : FC := .block 0 b9Z
def c0b : FC := .seq c8C c0a
def c0c : FC := .reg [⟨(some 4), none, .op (.mv (.v (.int .i64 (-1))))⟩] []
def c0d : FC := .seq c0c FC.ret
def c0e : FC := .seq c0b c0d
def c0f : FC := .seq c8B c0e
def d5g : FC := c0f
theorem d5h : Fn3 Tryd.prog 58 19 [(4, none)] d5g := ⟨_, _, Tryd.func58, rfl, rfl, rfl, by kernel_rfl⟩
def c8K : FC := .reg [⟨(some 4), none, .op (.mv (.v .nils))⟩] []
def c8L : FC := .reg [⟨(some 8), none, .op (.mv (.t 0))⟩,  ⟨(some 9), none, .op (.mv (.t 1))⟩,  ⟨(some 10), none, .call 58 [(.t 8), (.t 9)]⟩,  ⟨(some 5), none, .op (.mv (.t 10))⟩] []
def c8M : FC := .reg [⟨(some 11), none, .op (.mv (.t 5))⟩,  ⟨(some 12), none, .op (.bin .none .eql (.t 11) (.v (.int .i64 (-1))))⟩] []
def c8N : FC := .reg [⟨(some 13), none, .op (.mv (.t 0))⟩,  ⟨(some 4), none, .op (.mv (.t 13))⟩] []
def c8O : FC := .seq c8N FC.ret
def c8P : FC := .cond (.t 12) c8O FC.skip
def c8Q : FC := .seq c8M c8P
def c8R : FC := .reg [⟨(some 14), none, .op (.mv (.t 5))⟩,  ⟨(some 15), none, .op (.bin .none .add (.t 14) (.v (.int .i64 1)))⟩,  ⟨(some 6), none, .op (.mv (.t 15))⟩] []
def c8S : FC := .reg [⟨(some 16), none, .op (.mv (.t 6))⟩,  ⟨(some 17), none, .op (.mv (.t 0))⟩,  ⟨(some 18), none, .op (.len .sl (.t 17))⟩,  ⟨(some 19), none, .op (.bin .none .lss (.t 16) (.t 18))⟩] []
def c0g : FC := .cond (.t 19) FC.skip (FC.exit 0)
def c0h : FC := .seq c8S c0g
def c0i : FC := .reg [⟨(some 22), none, .op (.mv (.t 0))⟩,  ⟨(some 23), none, .op (.mv (.t 6))⟩,  ⟨(some 24), none, .op (.iad none (some 4) (.t 22) (.t 23))⟩,  ⟨(some 25), none, .op (.load (some 4) (.t 24))⟩,  ⟨(some 7), none, .op (.new [(.int .i64 0), (.int .i64 0), (.int .i64 0), (.bool false)])⟩,  ⟨none, none, .op (.store 4 (.t 7) (.t 25))⟩] []
def c0j : FC := .reg [⟨(some 26), none, .op (.mv (.t 1))⟩,  ⟨(some 27), none, .op (.load (some 4) (.t 7))⟩,  ⟨(some 28), none, .callv (.t 26) [(.t 27)]⟩,  ⟨(some 29), none, .op (.un .not (.t 28))⟩] []
def c0k : FC := .reg [⟨(some 30), none, .op (.mv (.t 0))⟩,  ⟨(some 31), none, .op (.mv (.t 5))⟩,  ⟨(some 32), none, .op (.load (some 4) (.t 7))⟩,  ⟨(some 33), none, .op (.iad none (some 4) (.t 30) (.t 31))⟩,  ⟨none, none, .op (.store 4 (.t 33) (.t 32))⟩] []
def c0l : FC := .reg [⟨(some 34), none, .op (.mv (.t 5))⟩,  ⟨(some 35), none, .op (.bin .none .add (.t 34) (.v (.int .i64 1)))⟩,  ⟨(some 5), none, .op (.mv (.t 35))⟩] []
def c0m : FC := .seq c0k c0l
def c0n : FC := .cond (.t 29) c0m FC.skip
def c0o : FC := .seq c0j c0n
def c0p : FC := .seq c0i c0o
def c0q : FC := .block 1 c0p
def c0r : FC := .reg [⟨(some 20), none, .op (.mv (.t 6))⟩,  ⟨(some 21), none, .op (.bin .none .add (.t 20) (.v (.int .i64 1)))⟩,  ⟨(some 6), none, .op (.mv (.t 21))⟩] []
def c0s : FC := .seq c0q c0r
def c0t : FC := .seq c0h c0s
def c0u : FC := .loop c0t
def c0v : FC := .block 0 c0u
def c0w : FC := .seq c8R c0v
def c0x : FC := .reg [⟨(some 36), none, .op (.mv (.t 0))⟩,  ⟨(some 37), none, .op (.mv (.t 5))⟩,  ⟨(some 38), none, .op (.slc (some 4) (.t 36) (some (.t 37)) none none)⟩,  ⟨none, none, .op (.clr (some 4) [(.int .i64 0), (.int .i64 0), (.int .i64 0), (.bool false)] (.t 38))⟩] []
def c0y : FC := .reg [⟨(some 39), none, .op (.mv (.t 0))⟩,  ⟨(some 40), none, .op (.mv (.t 5))⟩,  ⟨(some 41), none, .op (.slc (some 4) (.t 39) none (some (.t 40)) none)⟩,  ⟨(some 4), none, .op (.mv (.t 41))⟩] []
def c0z : FC := .seq c0y FC.ret
def c0A : FC := .seq c0x c0z
def c0B : FC := .seq c0w c0A
def c0C : FC := .seq c8Q c0B
def c0D : FC := .seq c8L c0C
def c0E : FC := .seq c8K c0D
def d5i : FC := c0E
theorem d5j : Fn3 Tryd.prog 34 42 [(4, none)] d5i := ⟨_, _, Tryd.func34, rfl, rfl, rfl, by kernel_rfl⟩

def wk1 (a : Int) (x : b7) : b7 := ⟨x.Place, if a < x.From then a else x.From, if a > x.To then a else x.To, x.Held⟩
def wkP (a : Int) (all : List b7) (p : Int) : List b7 := all.modify p.toNat (wk1 a)
theorem b3y (a : Int) (all : List b7) (p : Int) : (wkP a all p).length = all.length := by unfold wkP; simp
theorem a2N (a : Int) : ∀ (ps : List Int) (all : List b7), (ps.foldl (wkP a) all).length = all.length
 | [], _ => rfl
 | p :: ps, all => by rw [List.foldl_cons, a2N a ps, b3y]
theorem a7j {α : Type} {l : List α} {i : Nat} {x : α} {f : α → α} (h : l[i]? = some x) : l.modify i f = l.set i (f x) := by
 apply List.ext_getElem?
 intro k
 have hi := (List.getElem?_eq_some_iff.1 h).1
 rw [List.getElem?_modify, List.getElem?_set]
 by_cases e : i = k
 ·subst e; rw [if_pos rfl, if_pos hi, h]; simp
 ·rw [if_neg e]; simp [e]
theorem a7W {all : List b7} {oc oa va : Nat} {a : Int} {ps : List Int} (hp : ∀ p ∈ ps, 0 ≤ p ∧ p < all.length) (hl : ps.length ≤ 4611686018427387904) :
  Tri Tryd.prog 30 [.int .i64 a, .sl false 1 (ps.map (avI .i64)), .ptr oc 0 0] [(oc, 0, [.ref oa va 0 all.length (some 4)]), (oa, va, flat b7.av all)]
   (fun _ L' => L' = [(oc, 0, [.ref oa va 0 all.length (some 4)]), (oa, va, flat b7.av (ps.foldl (wkP a) all))]) := by
 refine y5 mixed d5f zS [] (fun R S hS => ?_)
 have hne : oa ≠ oc := by
  have := hS.2
  simp at this
  intro e; exact this.1.1 e.symm
 refine aU ?_
 refine a3k ps.length (fun s : List b7 => [(0, .int .i64 a), (7, .sl false 1 (ps.map (avI .i64))), (2, .ptr oc 0 0)]) (fun s => (oc, 0, [.ref oa va 0 all.length (some 4)]) :: (oa, va, flat b7.av s) :: R) (fun i s => s.length = all.length ∧ (ps.drop i).foldl (wkP a) s = ps.foldl (wkP a) all) all hS ⟨rfl, rfl⟩
  (k9 ⟨.refl _, .refl _, .refl _, .refl _, .refl _, trivial⟩) hl zD zD (fun _ => ⟨rfl, rfl, rfl, rfl⟩) (fun i s S hi hI hS => ?_) (fun s fr' S hI hS hw => ?_)
 ·obtain ⟨hsl, hI⟩ := hI
  obtain ⟨p, hpi⟩ : ∃ p, ps[i]? = some p := ⟨ps[i], List.getElem?_eq_getElem hi⟩
  obtain ⟨hp0, hp1⟩ := hp p (List.mem_of_getElem? hpi)
  obtain ⟨x, hx⟩ : ∃ x, s[p.toNat]? = some x := ⟨s[p.toNat]'zO, List.getElem?_eq_getElem _⟩
  refine aU ?_
  refine m7 rfl rfl (a6t hpi) ?_
  refine oP (.int .i64 p) ?_
  refine aU ?_
  refine a3g ?_
  have h11 : (oc, 0, [AV.ref oa va 0 all.length (some 4)]) ∈ (oc, 0, [AV.ref oa va 0 all.length (some 4)]) :: (oa, va, flat b7.av s) :: R := .head _
  refine v8 hS rfl zM rfl ?_
  refine s5 zC ?_
  refine v8 hS rfl zM rfl ?_
  refine s5 zC ?_
  refine v8 hS rfl zM rfl ?_
  refine s5 zC ?_
  refine p8 rfl rfl ⟨by omega, by omega⟩ ?_
  refine aS ?_
  refine a4n hS b7.enc rfl zM (n := p.toNat) (fo := 1) (y := x) (v := .int .i64 x.From) (by simp [f5]) hx rfl ?_
  refine aS ?_
  refine v8 hS rfl zM rfl ?_
  refine s5 zC ?_
  refine p8 rfl rfl ⟨by omega, by omega⟩ ?_
  refine aS ?_
  refine a4n hS b7.enc rfl zM (n := p.toNat) (fo := 2) (y := x) (v := .int .i64 x.To) (by simp [f5]) hx rfl ?_
  refine aS ?_
  refine p8 rfl rfl ⟨by omega, by omega⟩ ?_
  refine aS ?_
  refine a3l hS b7.enc rfl zC (n := p.toNat) (fo := 1) (y := x) (y' := ⟨x.Place, if a < x.From then a else x.From, x.To, x.Held⟩) (by simp [f5]) hx (by first | exact Rp.here | (repeat (first | exact Rp.here | apply Rp.there | apply Rp.skip))) rfl rfl (by simp [f5]) rfl (fun S hS => ?_)
  refine p8 rfl rfl ⟨by omega, by omega⟩ ?_
  refine aS ?_
  refine a3l (l := s.set p.toNat ⟨x.Place, if a < x.From then a else x.From, x.To, x.Held⟩) hS b7.enc rfl zC (n := p.toNat) (fo := 2) (y := ⟨x.Place, if a < x.From then a else x.From, x.To, x.Held⟩) (y' := wk1 a x) (by simp [f5]) (by rw [List.getElem?_set_self zO]) (by first | exact Rp.here | (repeat (first | exact Rp.here | apply Rp.there | apply Rp.skip))) rfl rfl (by simp [f5]) rfl (fun S hS => ?_)
  refine b6 ?_
  refine And.intro (by simp [a1u, a6z, a0G, a1I, hne]) ?_
  have hw : wkP a s p = s.set p.toNat (wk1 a x) := a7j hx
  refine R_n (wkP a s p) ⟨by rw [b3y]; exact hsl, ?_⟩ (by rw [hw]; simpa using hS) (k9 ⟨.refl _, .refl _, .refl _, .refl _, .refl _, trivial⟩)
  rw [a4k hpi, List.foldl_cons] at hI
  exact hI
 ·obtain ⟨hsl, hI⟩ := hI
  rw [List.drop_length] at hI
  simp only [List.foldl_nil] at hI
  subst hI
  (repeat (first | refine o8 ?_ | refine r8 ?_ | refine s4 rfl ?_ | refine j4 ?_ | refine m0 ?_ | refine l6 ?_))
  exact ⟨trivial, _, rfl, _, rfl, hS⟩
def a8m (x : b7) : Bool := decide (x.To < 0)
theorem b3z (x : b7) : n5 Tryd.prog 35 [(b7.av x)] (.bool (a8m x)) := a5r rfl
theorem b6h : t6 Tryd.prog 35 = true := by kernel_rfl
def ixV (all : List b7) : Int := match all.findIdx? a8m with | some i => (i : Int) | none => -1
theorem b3A {all : List b7} {oa va : Nat} (hl : all.length ≤ 4611686018427387904) :
  Tri Tryd.prog 58 [.ref oa va 0 all.length (some 4), .fn (.func 35) [] []] [(oa, va, flat b7.av all)] (fun r L' => r = .int .i64 (ixV all) ∧ L' = [(oa, va, flat b7.av all)]) := by
 refine y5 mixed d5h zS [] (fun R S hS => ?_)
 refine aU ?_
 refine a3k all.length (fun _ : Unit => [(0, .ref oa va 0 all.length (some 4)), (1, .fn (.func 35) [] [])]) (fun _ => (oa, va, flat b7.av all) :: R) (fun i _ => ∀ k, k < i → ∀ x, all[k]? = some x → a8m x = false) () hS (fun k hk => absurd hk (Nat.not_lt_zero k))
  (k9 ⟨.refl _, .refl _, .refl _, .refl _, trivial⟩) hl zD zD (fun _ => ⟨rfl, rfl, rfl, rfl⟩) (fun i s S hi hI hS => ?_) (fun s fr' S hI hS hw => ?_)
 ·obtain ⟨x, hx⟩ : ∃ x, all[i]? = some x := ⟨all[i], List.getElem?_eq_getElem hi⟩
  refine aU ?_
  refine p8 rfl rfl ⟨by omega, by omega⟩ ?_
  refine a4n hS b7.enc rfl zM (n := i) (fo := 0) (y := x) (v := b7.av x) (by simp [f5]) hx rfl ?_
  refine a7L rfl b6h (b3z x) rfl ⟨(.refl _), trivial⟩ (j6 ⟨(b7.enc.blw _ 0), trivial⟩) rfl ?_
  refine aU ?_
  refine o6 rfl (fun hb => ?_) (fun hb => ?_)
  ·refine aU ?_
   refine i8 ?_
   (repeat (first | refine o8 ?_ | refine r8 ?_ | refine s4 rfl ?_ | refine j4 ?_ | refine m0 ?_ | refine l6 ?_))
   refine R_r ?_
   (repeat (first | refine o8 ?_ | refine r8 ?_ | refine s4 rfl ?_ | refine j4 ?_ | refine m0 ?_ | refine l6 ?_))
   refine ⟨trivial, _, rfl, _, ⟨?_, rfl⟩, hS⟩
   have : all.findIdx? a8m = some i := by
    rw [List.findIdx?_eq_some_iff_getElem]
    obtain ⟨h1, h2⟩ := List.getElem?_eq_some_iff.1 hx
    refine ⟨h1, by rw [h2]; exact hb, fun k hk => ?_⟩
    have := hI k hk _ (List.getElem?_eq_getElem zO)
    simp [this]
   simp only [ixV, this]; rfl
  ·refine aU ?_
   refine R_n () (fun k hk y hy => ?_) hS (k9 ⟨.refl _, .refl _, .refl _, .refl _, trivial⟩)
   by_cases e : k = i
   ·subst e; rw [hx] at hy; cases hy; exact hb
   ·exact hI k zO y hy
 ·refine a3P hw ?_
  refine aU ?_
  refine i8 ?_
  refine ⟨trivial, _, rfl, _, ⟨?_, rfl⟩, hS⟩
  have : all.findIdx? a8m = none := by
   rw [List.findIdx?_eq_none_iff]
   intro x hx
   obtain ⟨k, hk, rfl⟩ := List.mem_iff_getElem.1 hx
   exact hI k hk _ (List.getElem?_eq_getElem hk)
  simp only [ixV, this]; rfl
structure d5k (all c : List b7) (i k : Nat) : Prop where
 len : c.length = all.length
 ik : i < k
 ki : k ≤ all.length
 fst : c.take i = (all.take k).filter (fun x => !a8m x)
 rst : c.drop k = all.drop k
def d5l (all : List b7) (oa va : Nat) (r : AV) (L' : List It) : Prop := ∃ j, r = .ref oa va 0 (all.filter fun x => !a8m x).length (some 4) ∧ L' = [(oa, va, flat b7.av (all.filter fun x => !a8m x) ++ j)] ∧ a1z 0 j = true ∧ j.all AV.one = true
theorem b7n {all : List b7} {oa va : Nat} (hl : all.length ≤ 4096) :
  Tri Tryd.prog 34 [.ref oa va 0 all.length (some 4), .fn (.func 35) [] []] [(oa, va, flat b7.av all)] (d5l all oa va) := by
 refine y5 mixed d5j zS [7] (fun R S hS => ?_)
 refine aU ?_
 refine a3j (b3A zO) hS rfl (by repeat (first | exact Spl.nil | refine Spl.cons (by repeat (first | exact Pk.here | apply Pk.there | apply Pk.skip)) ?_ | refine Spl.app (by repeat (first | exact PkC.here | apply PkC.there | apply PkC.skip)) ?_)) (fun v S L' hv hS => ?_)
 obtain ⟨rfl, rfl⟩ := hv
 refine aU ?_
 cases hi : all.findIdx? a8m with
 | none =>
   have e : ixV all = -1 := by simp only [ixV, hi]
   rw [e]
   refine b1r rfl ?_
   refine aU ?_
   refine i8 ?_
   (repeat (first | refine o8 ?_ | refine r8 ?_ | refine s4 rfl ?_ | refine j4 ?_ | refine m0 ?_ | refine l6 ?_))
   rw [List.findIdx?_eq_none_iff] at hi
   have hf : (all.filter fun x => !a8m x) = all := List.filter_eq_self.2 (fun x hx => by rw [hi x hx]; rfl)
   exact ⟨trivial, _, rfl, _, ⟨[], by rw [hf]; rfl, by rw [hf, List.append_nil], rfl, rfl⟩, hS⟩
 | some i0 =>
   have e : ixV all = (i0 : Int) := by simp only [ixV, hi]
   rw [e]
   rw [List.findIdx?_eq_some_iff_getElem] at hi
   obtain ⟨hi0, hg0, hlt0⟩ := hi
   refine b1s (by simp [ev, Fr.get]) ?_
   refine aU ?_
   have hwi : IntKind.i64.wrap ((i0 : Int) + 1) = ((i0 + 1 : Nat) : Int) := by rw [t7 zO]; omega
   refine k7 (a0i (σ := List b7 × Nat × Nat) (fun s => [(0, .ref oa va 0 all.length (some 4)), (1, .fn (.func 35) [] []), (5, .int .i64 s.2.1), (6, .int .i64 s.2.2)]) (fun s => (oa, va, flat b7.av s.1) :: R) (fun s => d5k all s.1 s.2.1 s.2.2) (fun s => all.length - s.2.2) (all, i0, i0 + 1) hS ?_
    (k9 ⟨.refl _, .refl _, .refl _, by rw [← hwi]; exact .refl _, trivial⟩) (fun s S hI hS => ?_))
   ·refine ⟨rfl, Nat.lt_succ_self _, hi0, ?_, rfl⟩
    rw [List.take_succ_eq_append_getElem hi0, List.filter_append]
    have h1 : (all.take i0).filter (fun x => !a8m x) = all.take i0 := List.filter_eq_self.2 (fun x hx => by
     obtain ⟨k, hk, rfl⟩ := List.mem_iff_getElem.1 hx
     have hk' : k < i0 := by rw [List.length_take] at hk; omega
     rw [List.getElem_take]
     have := hlt0 k hk'
     simp at this; simp [this])
    rw [h1]
    simp [hg0]
   ·obtain ⟨c, i, k⟩ := s
    dsimp only at hI hS
    refine aU ?_
    dsimp only
    refine o6 rfl (fun hb => ?_) (fun hb => ?_)
    ·have hk : k < all.length := by simpa using hb
     obtain ⟨x, hx⟩ : ∃ x, all[k]? = some x := ⟨all[k], List.getElem?_eq_getElem hk⟩
     have hcx : c[k]? = some x := by
      have := congrArg (fun l => l[0]?) hI.rst
      simp only [List.getElem?_drop, Nat.add_zero] at this
      rw [this]; exact hx
     have hwk : IntKind.i64.wrap ((k : Int) + 1) = ((k + 1 : Nat) : Int) := by rw [t7 zO]; omega
     have hwi2 : IntKind.i64.wrap ((i : Int) + 1) = ((i + 1 : Nat) : Int) := by have := hI.ik; rw [t7 zO]; omega
     have htk : all.take (k + 1) = all.take k ++ [x] := by
      obtain ⟨h1, h2⟩ := List.getElem?_eq_some_iff.1 hx
      rw [List.take_succ_eq_append_getElem h1, h2]
     have hlen := hI.len
     have hik := hI.ik
     refine aU ?_
     refine k7 ?_
     refine aU ?_
     refine p8 rfl rfl ⟨by omega, by omega⟩ ?_
     refine a4n hS b7.enc rfl zM (n := k) (fo := 0) (y := x) (v := b7.av x) (by simp [f5]) hcx rfl ?_
     refine a6G hS rfl (fun o7 S hS => ?_)
     refine E_stS hS rfl zC (by first | exact Rp.here | (repeat (first | exact Rp.here | apply Rp.there | apply Rp.skip))) rfl rfl (by first | exact Nat.le_of_ble_eq_true rfl | (simp; omega) | omega) (fun S hS => ?_)
     refine aU ?_
     replace hS : Sep S ((o7, 0, (b7.av x).cells) :: (oa, va, flat b7.av c) :: R) := hS
     refine v8 hS rfl zM (v := b7.av x) rfl ?_
     refine a7L rfl b6h (b3z x) rfl ⟨(.refl _), trivial⟩ (j6 ⟨(b7.enc.blw _ 0), trivial⟩) rfl ?_
     refine aU ?_
     cases hgx : a8m x with
     | true =>
       refine b1s rfl ?_
       refine aU ?_
       (repeat (first | refine o8 ?_ | refine r8 ?_ | refine s4 rfl ?_ | refine j4 ?_ | refine m0 ?_ | refine l6 ?_))
       refine aU ?_
       refine ⟨(c, i, k + 1), ⟨hlen, by simp only; omega, hk, ?_, ?_⟩, by simp only; omega, hS.sub (List.sublist_cons_self _ _), k9 ⟨.refl _, .refl _, .refl _, by simp only; rw [← hwk]; exact .refl _, trivial⟩⟩
       ·rw [htk, List.filter_append, hI.fst]; simp [hgx]
       ·have := congrArg (List.drop 1) hI.rst
        simpa [List.drop_drop] using this
     | false =>
       refine b1r rfl ?_
       refine aU ?_
       refine v8 hS rfl zM (v := b7.av x) rfl ?_
       obtain ⟨y, hy⟩ : ∃ y, c[i]? = some y := ⟨c[i]'zO, List.getElem?_eq_getElem _⟩
       refine p8 rfl rfl ⟨by omega, by omega⟩ ?_
       refine a3l (l := c) hS b7.enc rfl zC (n := i) (fo := 0) (y := y) (y' := x) (by simp [f5]) hy (by first | exact Rp.here | (repeat (first | exact Rp.here | apply Rp.there | apply Rp.skip))) rfl rfl (by simp [f5]) rfl (fun S hS => ?_)
       refine aU ?_
       (repeat (first | refine o8 ?_ | refine r8 ?_ | refine s4 rfl ?_ | refine j4 ?_ | refine m0 ?_ | refine l6 ?_))
       refine aU ?_
       refine ⟨(c.set i x, i + 1, k + 1), ⟨by simp [hlen], by simp only; omega, hk, ?_, ?_⟩, by simp only; omega, hS.sub (List.sublist_cons_self _ _), k9 ⟨.refl _, .refl _, by simp only; rw [← hwi2]; exact .refl _, by simp only; rw [← hwk]; exact .refl _, trivial⟩⟩
       ·rw [htk, List.filter_append, ← hI.fst]
        rw [List.take_succ_eq_append_getElem zE, List.take_set_of_le (Nat.le_refl _)]
        simp [hgx]
       ·simp only; rw [List.drop_set_of_lt zO]
        have := congrArg (List.drop 1) hI.rst
        simpa [List.drop_drop] using this
    ·have hk : k = all.length := by have := hI.ki; simp at hb; omega
     subst hk
     refine y8 ?_
     (repeat (first | refine o8 ?_ | refine r8 ?_ | refine s4 rfl ?_ | refine j4 ?_ | refine m0 ?_ | refine l6 ?_))
     refine aU ?_
     have hik := hI.ik
     have hlen := hI.len
     refine a6Z (a := i) (b := all.length) rfl (by simp [evO, ev, Fr.get, loN]) rfl ⟨by omega, by omega, .inr hik⟩ ?_
     have hfst : c.take i = all.filter (fun x => !a8m x) := by rw [hI.fst, List.take_length]
     have hfl : (all.filter fun x => !a8m x).length = i := by rw [← hfst, List.length_take]; omega
     have hsp : splice (flat b7.av c) (0 + i * f5 (some 4)) (repl (all.length - i) [(.int .i64 0), (.int .i64 0), (.int .i64 0), (.bool false)]) = flat b7.av (all.filter fun x => !a8m x) ++ repl (all.length - i) [(.int .i64 0), (.int .i64 0), (.int .i64 0), (.bool false)] := by
      have e1 : flat b7.av c = flat b7.av (c.take i) ++ flat b7.av (c.drop i) := by rw [← y9, List.take_append_drop]
      have e2 : 0 + i * f5 (some 4) = (flat b7.av (c.take i)).length := by rw [b7.enc.length, hfst, hfl]; omega
      rw [e1, e2, a4N _ _ _ (by rw [a0z, b7.enc.length, List.length_drop, hlen]; simp [f5]), hfst]
     refine c7N hS rfl zO rfl (by rw [hsp]; exact Rp.here) (fun S hS => ?_)
     refine aU ?_
     refine a6Z (a := 0) (b := i) rfl rfl (by simp [evO, ev, Fr.get, hiN]) ⟨by omega, by omega, .inl rfl⟩ ?_
     refine aU ?_
     refine i8 ?_
     refine ⟨trivial, _, rfl, _, ⟨_, ?_, rfl, ?_, ?_⟩, hS⟩
     ·rw [hfl]; simp only [Nat.zero_mul, Nat.zero_add, Nat.sub_zero]; rfl
     ·rw [a1n]
      intro x hx
      unfold repl at hx
      rw [List.mem_flatten] at hx
      obtain ⟨l, hl1, hl2⟩ := hx
      rw [List.mem_replicate] at hl1
      obtain ⟨_, rfl⟩ := hl1
      simp at hl2
      rcases hl2 with rfl | rfl <;> rfl
     ·rw [List.all_eq_true]
      intro x hx
      unfold repl at hx
      rw [List.mem_flatten] at hx
      obtain ⟨l, hl1, hl2⟩ := hx
      rw [List.mem_replicate] at hl1
      obtain ⟨_, rfl⟩ := hl1
      simp at hl2
      rcases hl2 with rfl | rfl <;> rfl
end Go.Proofs.YtepdcebjobjjgaaDoor

/- order.Spans: the walk. -/
namespace Go.Proofs.YtepdcebjobjjgaaDoor
open Go Go.Ab
set_option maxRecDepth 20000
set_option maxHeartbeats 2000000
def c8T : FC := .reg [⟨(some 2), none, .op (.box (.t 0))⟩,  ⟨(some 4), none, .op (.mv (.v .nils))⟩,  ⟨(some 5), none, .op (.mv (.v (.int .i64 0)))⟩] []
def c8U : FC := .reg [⟨(some 20), none, .op (.load (some 1) (.t 2))⟩,  ⟨(some 21), none, .op (.mv (.t 1))⟩,  ⟨(some 22), none, .call 28 [(.t 20), (.t 21)]⟩,  ⟨(some 19), none, .op (.mv (.t 22))⟩,  ⟨(some 23), none, .op (.ext 0 (.t 19))⟩,  ⟨(some 24), none, .op (.ext 1 (.t 19))⟩,  ⟨(some 6), none, .op (.mv (.t 23))⟩,  ⟨(some 7), none, .op (.mv (.t 24))⟩] []
def c8V : FC := .reg [⟨(some 25), none, .op (.mv (.t 7))⟩,  ⟨(some 26), none, .op (.bin .none .neq (.t 25) (.v (.int .i64 0)))⟩] []
def c8W : FC := .reg [⟨(some 27), none, .op (.mv (.t 7))⟩,  ⟨(some 4), none, .op (.mv (.v .nils))⟩,  ⟨(some 5), none, .op (.mv (.t 27))⟩] []
def c8X : FC := .seq c8W FC.ret
def c8Y : FC := .cond (.t 26) c8X FC.skip
def c8Z : FC := .seq c8V c8Y
def c9a : FC := .reg [⟨(some 29), none, .op (.load (some 1) (.t 2))⟩,  ⟨(some 30), none, .op (.mv (.t 1))⟩,  ⟨(some 31), none, .call 29 [(.t 29), (.t 30)]⟩,  ⟨(some 28), none, .op (.mv (.t 31))⟩,  ⟨(some 32), none, .op (.ext 0 (.t 28))⟩,  ⟨(some 33), none, .op (.ext 1 (.t 28))⟩,  ⟨(some 8), none, .op (.mv (.t 32))⟩,  ⟨(some 9), none, .op (.mv (.t 33))⟩] []
def c9b : FC := .reg [⟨(some 34), none, .op (.fad 0 (.t 2))⟩,  ⟨(some 35), none, .op (.load none (.t 34))⟩,  ⟨(some 36), none, .op (.mv (.t 1))⟩,  ⟨(some 37), none, .op (.iad none (some 8) (.t 35) (.t 36))⟩,  ⟨(some 10), none, .op (.mv (.t 37))⟩] []
def c0F : FC := .reg [⟨(some 38), none, .op (.mv (.t 10))⟩,  ⟨(some 39), none, .op (.nchk (.t 38))⟩,  ⟨(some 40), none, .op (.fad 1 (.t 39))⟩,  ⟨(some 41), none, .op (.load none (.t 40))⟩,  ⟨(some 42), none, .op (.len .sl (.t 41))⟩,  ⟨(some 43), none, .op (.mksl (some 4) 32 [(.int .i64 0), (.int .i64 0), (.int .i64 0), (.bool false)] (.t 42) (.t 42))⟩,  ⟨(some 11), none, .op (.new [.nils])⟩,  ⟨none, none, .op (.store 1 (.t 11) (.t 43))⟩] []
def c0G : FC := .reg [⟨(some 44), none, .op (.load none (.t 11))⟩,  ⟨(some 45), none, .op (.len .sl (.t 44))⟩,  ⟨(some 46), none, .op (.mv (.v (.int .i64 0)))⟩] []
def c0H : FC := .reg [⟨(some 48), none, .op (.mv (.t 46))⟩,  ⟨(some 12), none, .op (.mv (.t 48))⟩] []
def c0I : FC := .reg [⟨(some 49), none, .op (.load none (.t 11))⟩,  ⟨(some 50), none, .op (.mv (.t 12))⟩,  ⟨(some 51), none, .op (.mv (.t 12))⟩,  ⟨(some 52), none, .op (.mv (.t 10))⟩,  ⟨(some 53), none, .op (.nchk (.t 52))⟩,  ⟨(some 54), none, .op (.fad 6 (.t 53))⟩,  ⟨(some 55), none, .op (.load none (.t 54))⟩,  ⟨(some 56), none, .op (.len .sl (.t 55))⟩,  ⟨(some 57), none, .op (.build [(.int .i64 0), (.int .i64 0), (.int .i64 0), (.bool false)] [(0, 1, (.t 51)), (1, 1, (.t 56)), (2, 1, (.v (.int .i64 (-1))))])⟩,  ⟨(some 58), none, .op (.iad none (some 4) (.t 49) (.t 50))⟩,  ⟨none, none, .op (.store 4 (.t 58) (.t 57))⟩] []
def c0J : FC := .seq c0H c0I
def c0K : FC := .loop (.seq (.reg [⟨(some 47), none, .op (.bin .none .lss (.t 46) (.t 45))⟩] []) (.seq (.cond (.t 47) .skip (.exit 0)) (.seq (.block 1 c0J) (.reg [⟨(some 59), none, .op (.bin .none .add (.t 46) (.v (.int .i64 1)))⟩,  ⟨(some 46), none, .op (.mv (.t 59))⟩] []))))
def c0L : FC := .block 0 c0K
def c0M : FC := .seq c0G c0L
def c0N : FC := .reg [⟨(some 60), none, .op (.mkf (.func 30) [] [(.t 11)])⟩,  ⟨(some 13), none, .op (.mv (.t 60))⟩] []
def c0O : FC := .reg [⟨(some 61), none, .op (.mv (.t 13))⟩,  ⟨(some 62), none, .op (.mv (.t 10))⟩,  ⟨(some 63), none, .op (.nchk (.t 62))⟩,  ⟨(some 64), none, .op (.fad 0 (.t 63))⟩,  ⟨(some 65), none, .op (.load none (.t 64))⟩,  ⟨(some 66), none, .callv (.t 61) [(.v (.int .i64 0)), (.t 65)]⟩] []
def c0P : FC := .reg [⟨(some 67), none, .op (.mv (.t 10))⟩,  ⟨(some 68), none, .call 31 [(.t 67)]⟩,  ⟨(some 69), none, .op (.len .sl (.t 68))⟩,  ⟨(some 70), none, .op (.mv (.v (.int .i64 0)))⟩] []
def c0Q : FC := .reg [⟨(some 72), none, .op (.mv (.t 70))⟩,  ⟨(some 73), none, .op (.iad none none (.t 68) (.t 70))⟩,  ⟨(some 74), none, .op (.load none (.t 73))⟩,  ⟨(some 14), none, .op (.mv (.t 72))⟩,  ⟨(some 15), none, .op (.mv (.t 74))⟩] []
def c0R : FC := .reg [⟨(some 75), none, .op (.mv (.t 10))⟩,  ⟨(some 76), none, .op (.nchk (.t 75))⟩,  ⟨(some 77), none, .op (.fad 6 (.t 76))⟩,  ⟨(some 78), none, .op (.load none (.t 77))⟩,  ⟨(some 79), none, .op (.mv (.t 15))⟩,  ⟨(some 80), none, .op (.iad none (some 12) (.t 78) (.t 79))⟩,  ⟨(some 81), none, .op (.load (some 12) (.t 80))⟩,  ⟨(some 16), none, .op (.new [(.int .u8 0), (.int .u8 0), (.int .i64 0), (.int .i64 0), (.int .i64 0), (.int .i64 0), (.int .i64 0), (.int .i64 0), (.int .u64 0), .nils, (.int .i64 0), (.int .i64 0)])⟩,  ⟨none, none, .op (.store 12 (.t 16) (.t 81))⟩] []
def c0S : FC := .reg [⟨(some 82), none, .op (.mv (.t 13))⟩,  ⟨(some 83), none, .op (.mv (.t 14))⟩,  ⟨(some 84), none, .op (.mv (.t 6))⟩,  ⟨(some 85), none, .op (.mv (.t 15))⟩,  ⟨(some 86), none, .op (.iad none none (.t 84) (.t 85))⟩,  ⟨(some 87), none, .op (.load none (.t 86))⟩,  ⟨(some 88), none, .callv (.t 82) [(.t 83), (.t 87)]⟩] []
def c0T : FC := .reg [⟨(some 89), none, .op (.mv (.t 13))⟩,  ⟨(some 90), none, .op (.mv (.t 14))⟩,  ⟨(some 91), none, .op (.load (some 12) (.t 16))⟩,  ⟨(some 92), none, .call 32 [(.t 91)]⟩,  ⟨(some 93), none, .callv (.t 89) [(.t 90), (.t 92)]⟩] []
def c0U : FC := .reg [⟨(some 94), none, .op (.fad 0 (.t 16))⟩,  ⟨(some 95), none, .op (.load none (.t 94))⟩,  ⟨(some 96), none, .op (.bin .none .neq (.t 95) (.v (.int .u8 11)))⟩,  ⟨(some 97), none, .op (.mv (.t 96))⟩,  ⟨(some 98), some (97, true), .op (.fad 0 (.t 16))⟩,  ⟨(some 99), some (97, true), .op (.load none (.t 98))⟩,  ⟨(some 100), some (97, true), .op (.bin .none .neq (.t 99) (.v (.int .u8 13)))⟩,  ⟨(some 101), none, .op (.pick (.t 97) (.t 100) (.v (.bool false)))⟩] []
def c0V : FC := .cond (.t 101) (FC.exit 3) FC.skip
def c0W : FC := .seq c0U c0V
def c0X : FC := .reg [⟨(some 102), none, .op (.mv (.t 8))⟩,  ⟨(some 103), none, .op (.mv (.t 15))⟩,  ⟨(some 104), none, .op (.iad none none (.t 102) (.t 103))⟩,  ⟨(some 105), none, .op (.load none (.t 104))⟩,  ⟨(some 106), none, .op (.len .sl (.t 105))⟩,  ⟨(some 107), none, .op (.mv (.v (.int .i64 0)))⟩] []
def c0Y : FC := .reg [⟨(some 109), none, .op (.iad none none (.t 105) (.t 107))⟩,  ⟨(some 110), none, .op (.load none (.t 109))⟩,  ⟨(some 18), none, .op (.mv (.t 110))⟩] []
def c0Z : FC := .reg [⟨(some 111), none, .op (.load (some 12) (.t 16))⟩,  ⟨(some 112), none, .call 32 [(.t 111)]⟩,  ⟨(some 113), none, .op (.mv (.t 18))⟩,  ⟨(some 114), none, .call 33 [(.t 112), (.t 113)]⟩,  ⟨(some 115), none, .op (.un .not (.t 114))⟩] []
def c1a : FC := .reg [⟨(some 116), none, .op (.load none (.t 11))⟩,  ⟨(some 117), none, .op (.mv (.t 18))⟩,  ⟨(some 118), none, .op (.iad none (some 4) (.t 116) (.t 117))⟩,  ⟨(some 119), none, .op (.fad 3 (.t 118))⟩,  ⟨none, none, .op (.store 1 (.t 119) (.v (.bool true)))⟩] []
def c1b : FC := .cond (.t 115) c1a FC.skip
def c1c : FC := .seq c0Z c1b
def c1d : FC := .seq c0Y c1c
def c1e : FC := .loop (.seq (.reg [⟨(some 108), none, .op (.bin .none .lss (.t 107) (.t 106))⟩] []) (.seq (.cond (.t 108) .skip (.exit 4)) (.seq (.block 5 c1d) (.reg [⟨(some 120), none, .op (.bin .none .add (.t 107) (.v (.int .i64 1)))⟩,  ⟨(some 107), none, .op (.mv (.t 120))⟩] []))))
def c1f : FC := .block 4 c1e
def b6i : FC := .seq c0X c1f
def c1g : FC := .seq c0W b6i
def c1h : FC := .seq c0T c1g
def c1i : FC := .seq c0S c1h
def c1j : FC := .seq c0R c1i
def c1k : FC := .seq c0Q c1j
def c1l : FC := .loop (.seq (.reg [⟨(some 71), none, .op (.bin .none .lss (.t 70) (.t 69))⟩] []) (.seq (.cond (.t 71) .skip (.exit 2)) (.seq (.block 3 c1k) (.reg [⟨(some 121), none, .op (.bin .none .add (.t 70) (.v (.int .i64 1)))⟩,  ⟨(some 70), none, .op (.mv (.t 121))⟩] []))))
def c1m : FC := .block 2 c1l
def c1n : FC := .seq c0P c1m
def c1o : FC := .reg [⟨(some 122), none, .op (.load none (.t 11))⟩,  ⟨(some 123), none, .call 34 [(.t 122), (.v (.fn (.func 35) [] []))]⟩,  ⟨(some 4), none, .op (.mv (.t 123))⟩,  ⟨(some 5), none, .op (.mv (.v (.int .i64 0)))⟩] []
def c1p : FC := .seq c1o FC.ret
def c1q : FC := .seq c1n c1p
def c1r : FC := .seq c0O c1q
def c1s : FC := .seq c0N c1r
def c1t : FC := .seq c0M c1s
def c1u : FC := .seq c0F c1t
def c1v : FC := .seq c9b c1u
def c1w : FC := .seq c9a c1v
def c1x : FC := .seq c8Z c1w
def c1y : FC := .seq c8U c1x
def c1z : FC := .seq c8T c1y
def d5m : FC := c1z
theorem d5n : Fn3 Tryd.prog 15 124 [(4, none), (5, none)] d5m := ⟨_, _, Tryd.func15, rfl, rfl, rfl, by kernel_rfl⟩

theorem b3B : t6 Tryd.prog 30 = true := by kernel_rfl
noncomputable def wrS (n : f8) : List Int := Classical.choose (a3p n)
theorem b6j (n : f8) : a1m n = some (wrS n) := (Classical.choose_spec (a3p n)).1
theorem b3C (n : f8) : (wrS n).length ≤ 10000000 := (Classical.choose_spec (a3p n)).2.1
theorem b0a (n : f8) (x : Int) : x ∈ wrS n ↔ (x ∈ b1L n ∧ 0 ≤ x) := (Classical.choose_spec (a3p n)).2.2 x
theorem b7o {g : b5} {k : Int} {ps : List Int} (h : isB g k ps = true) : ∀ p ∈ ps, 0 ≤ p ∧ p < g.Kinds.length := by
 intro p hp
 have := List.all_eq_true.1 h p hp
 unfold b0S at this
 simp only [Bool.and_eq_true, decide_eq_true_eq] at this
 exact this.1
theorem b3D {all : List b5} {g : b5} {n : f8} (h : a4U all g n = true) : ∀ p ∈ b1L n, 0 ≤ p → p < g.Kinds.length := by
 unfold a4U at h
 simp only [Bool.and_eq_true] at h
 have ho := h.2
 intro p hp h0
 unfold b1L at hp
 unfold opB at ho
 have one : ∀ k ps, isB g k ps = true → p ∈ ps → p < g.Kinds.length := fun k ps a b => (b7o a p b).2
 by_cases h1 : n.Op = 1 ∨ n.Op = 16
 ·rw [if_pos h1] at ho
  rw [if_pos zO] at hp
  exact one _ _ ho hp
 rw [if_neg h1] at ho
 by_cases h2 : n.Op = 2
 ·rw [if_pos h2] at ho; rw [if_pos zO] at hp
  simp only [Bool.or_eq_true] at ho
  simp at hp; subst hp
  rcases ho with a | a <;> exact one _ _ a zS
 rw [if_neg h2] at ho
 by_cases h3 : n.Op = 3
 ·rw [if_pos h3] at ho; rw [if_pos zO] at hp
  simp only [Bool.and_eq_true] at ho
  simp at hp; subst hp
  exact one _ _ ho.2 zS
 rw [if_neg h3] at ho
 by_cases h4 : n.Op = 4
 ·rw [if_pos h4] at ho; rw [if_pos zO] at hp
  simp only [Bool.and_eq_true] at ho
  exact one _ _ ho.2 hp
 rw [if_neg h4] at ho
 by_cases h5 : n.Op = 5
 ·rw [if_neg zO, if_neg zO] at hp; cases hp
 rw [if_neg h5] at ho
 by_cases h6 : n.Op = 6
 ·rw [if_pos h6] at ho; rw [if_pos zO] at hp
  simp only [Bool.and_eq_true] at ho
  exact one _ _ ho.2 hp
 rw [if_neg h6] at ho
 by_cases h7 : n.Op = 7
 ·rw [if_pos h7] at ho; rw [if_pos zO] at hp
  simp only [Bool.and_eq_true] at ho
  exact one _ _ ho.1 hp
 rw [if_neg h7] at ho
 by_cases h15 : n.Op = 15
 ·rw [if_neg zO, if_neg zO, if_neg zO, if_pos h15] at ho
  rw [if_neg zO, if_pos h15] at hp
  simp only [Bool.and_eq_true] at ho
  exact one _ _ ho.2 hp
 by_cases h11 : n.Op = 11
 ·rw [if_neg zO, if_neg zO, if_neg zO, if_neg zO, if_neg zO, if_pos h11] at ho
  rw [if_pos zO] at hp
  simp only [Bool.and_eq_true, Bool.or_eq_true, decide_eq_true_eq] at ho
  simp at hp; subst hp
  rcases ho.2 with a | a
  ·omega
  ·exact one _ _ a.1 zS
 rw [if_neg zO, if_neg zO] at hp; cases hp
def a7X (x : b7) : b7 := ⟨x.Place, x.From, x.To, true⟩
def b0W (w : List Int) (all : List b7) (p : Int) : List b7 := if p ∈ w then all else all.modify p.toNat a7X
theorem a7Y (w : List Int) : ∀ (ps : List Int) (all : List b7), (ps.foldl (b0W w) all).length = all.length
 | [], _ => rfl
 | p :: ps, all => by rw [List.foldl_cons, a7Y w ps]; unfold b0W; split <;> simp
noncomputable def lvI (g : b5) (i : Nat) : List Int := a3I g.Kinds.length (lvB g i)
noncomputable def bhI (g : b5) (i : Nat) : List Int := a3I g.Kinds.length (bhB g i)
noncomputable def wrN (g : b5) (i : Nat) : List Int := match g.Nodes[i]? with | some n => wrS n | none => []
def a3L (g : b5) (i : Nat) : Bool := match g.Nodes[i]? with | some n => n.Op == 11 || n.Op == 13 | none => false
noncomputable def a9l (g : b5) (a : Nat) (all : List b7) (i : Nat) : List b7 :=
 let a2 := (wrN g i).foldl (wkP a) ((lvI g i).foldl (wkP a) all)
 if a3L g i = true then (bhI g i).foldl (b0W (wrN g i)) a2 else a2
noncomputable def a4w (g : b5) : Nat → List Nat → List b7 → List b7
 | _, [], all => all
 | a, i :: l, all => a4w g (a + 1) l (a9l g a all i)
theorem b3E (g : b5) (a i : Nat) (all : List b7) : (a9l g a all i).length = all.length := by
 unfold a9l
 simp only
 split
 ·rw [a7Y, a2N, a2N]
 ·rw [a2N, a2N]
def a5s (g : b5) : List b7 := (List.range g.Kinds.length).map fun (p : Nat) => ⟨(p : Int), (g.Nodes.length : Int), -1, false⟩
noncomputable def b1N (g : b5) : List b7 := a4w g 0 ((a1f g).map Int.toNat) (g.Params.foldl (wkP 0) (a5s g))
noncomputable def a0q (g : b5) : List b7 := (b1N g).filter fun x => !a8m x
theorem a5D {K : Nat} {A : Nat → Bool} : ∀ x ∈ a3I K A, 0 ≤ x ∧ x < K := by
 intro x hx
 unfold a3I at hx
 obtain ⟨k, hk, rfl⟩ := List.mem_map.1 hx
 have := (List.mem_filter.1 hk).1
 simp at this; omega
theorem b3F {K : Nat} {A : Nat → Bool} : (a3I K A).length ≤ K := by
 unfold a3I; rw [List.length_map]; exact Nat.le_trans (List.length_filter_le _ _) zS
end Go.Proofs.YtepdcebjobjjgaaDoor

/- The intervals, place by place. -/
namespace Go.Proofs.YtepdcebjobjjgaaDoor
open Go Go.Ab
theorem b0X (a : Int) (x : b7) : wk1 a (wk1 a x) = wk1 a x := by
 unfold wk1
 simp only [b7.mk.injEq, true_and, and_true]
 constructor
 ·by_cases h : a < x.From
  ·rw [if_pos h, if_neg zO]
  ·rw [if_neg h, if_neg h]
 ·by_cases h : a > x.To
  ·rw [if_pos h, if_neg zO]
  ·rw [if_neg h, if_neg h]
theorem a7Z (a : Int) (k : Nat) : ∀ (ps : List Int) (all : List b7), (∀ p ∈ ps, 0 ≤ p) → (ps.foldl (wkP a) all)[k]? = (all[k]?).map fun x => if (k : Int) ∈ ps then wk1 a x else x
 | [], all, _ => by simp
 | p :: ps, all, h => by
   rw [List.foldl_cons, a7Z a k ps _ (fun q hq => h q (by simp [hq]))]
   unfold wkP
   rw [List.getElem?_modify]
   have hp := h p zS
   cases e : all[k]? with
   | none => simp
   | some x =>
     simp only [Option.map_some, Option.map_eq_map]
     congr 1
     by_cases e1 : p.toNat = k
     ·have e2 : (k : Int) = p := by omega
      rw [if_pos e1]
      simp only [e2, List.mem_cons, true_or, if_true]
      split
      ·exact b0X a x
      ·rfl
     ·have e2 : ¬ (k : Int) = p := by omega
      rw [if_neg e1]
      simp only [List.mem_cons, e2, false_or]
theorem b0Y (w : List Int) (k : Nat) : ∀ (ps : List Int) (all : List b7), (∀ p ∈ ps, 0 ≤ p) → (ps.foldl (b0W w) all)[k]? = (all[k]?).map fun x => if (k : Int) ∈ ps ∧ (k : Int) ∉ w then a7X x else x
 | [], all, _ => by simp
 | p :: ps, all, h => by
   rw [List.foldl_cons, b0Y w k ps _ (fun q hq => h q (by simp [hq]))]
   have hp := h p zS
   unfold b0W
   by_cases hw : p ∈ w
   ·rw [if_pos hw]
    cases e : all[k]? with
    | none => simp
    | some x =>
      simp only [Option.map_some]
      congr 1
      by_cases e2 : (k : Int) = p
      ·rw [if_neg (by rw [e2]; exact fun h => h.2 hw), if_neg (by rw [e2]; exact fun h => h.2 hw)]
      ·simp only [List.mem_cons, e2, false_or]
   ·rw [if_neg hw, List.getElem?_modify]
    cases e : all[k]? with
    | none => simp
    | some x =>
      simp only [Option.map_some, Option.map_eq_map]
      congr 1
      by_cases e1 : p.toNat = k
      ·have e2 : (k : Int) = p := by omega
       rw [if_pos e1]
       simp only [e2, List.mem_cons, true_or, true_and, hw, not_false_eq_true, if_true]
       split
       ·rfl
       ·rfl
      ·have e2 : ¬ (k : Int) = p := by omega
       rw [if_neg e1]
       simp only [List.mem_cons, e2, false_or]
def a9m (g : b5) (k i : Nat) : Prop := (k : Int) ∈ lvI g i ∨ (k : Int) ∈ wrN g i
def c7j (g : b5) (k i : Nat) : Prop := a3L g i = true ∧ (k : Int) ∈ bhI g i ∧ (k : Int) ∉ wrN g i
open Classical in
noncomputable def elS (g : b5) (k a i : Nat) (x : b7) : b7 := if c7j g k i then a7X (if a9m g k i then wk1 a x else x) else if a9m g k i then wk1 a x else x
theorem b7p (g : b5) (i : Nat) : ∀ p ∈ wrN g i, 0 ≤ p := by
 intro p hp
 unfold wrN at hp
 split at hp
 ·exact ((b0a _ p).1 hp).2
 ·cases hp
theorem b3G (g : b5) (a i k : Nat) (all : List b7) : (a9l g a all i)[k]? = (all[k]?).map (elS g k a i) := by
 unfold a9l
 simp only
 have e2 : ((wrN g i).foldl (wkP (a : Int)) ((lvI g i).foldl (wkP a) all))[k]? = (all[k]?).map fun x => if (k : Int) ∈ lvI g i ∨ (k : Int) ∈ wrN g i then wk1 a x else x := by
  rw [a7Z _ _ _ _ (b7p g i), a7Z _ _ _ _ (show ∀ p ∈ lvI g i, 0 ≤ p from fun p hp => (a5D p hp).1)]
  cases all[k]? with
  | none => rfl
  | some x =>
    simp only [Option.map_some]
    congr 1
    by_cases h1 : (k : Int) ∈ wrN g i <;> by_cases h2 : (k : Int) ∈ lvI g i <;> simp [h1, h2, b0X]
 by_cases hc : a3L g i = true
 ·rw [if_pos hc, b0Y _ _ _ _ (show ∀ p ∈ bhI g i, 0 ≤ p from fun p hp => (a5D p hp).1), e2]
  cases all[k]? with
  | none => rfl
  | some x =>
    simp only [Option.map_some, elS, c7j, a9m, hc, true_and]
    by_cases h1 : (k : Int) ∈ lvI g i ∨ (k : Int) ∈ wrN g i <;> by_cases h2 : (k : Int) ∈ bhI g i ∧ (k : Int) ∉ wrN g i <;> simp [h1, h2]
 ·rw [if_neg hc, e2]
  cases all[k]? with
  | none => rfl
  | some x =>
    simp only [Option.map_some, elS, c7j, a9m, hc, false_and, if_false]
    by_cases h1 : (k : Int) ∈ lvI g i ∨ (k : Int) ∈ wrN g i <;> simp [h1]
structure EI (g : b5) (w : List Nat) (k n : Nat) (x : b7) : Prop where
 pl : x.Place = (k : Int)
 all : ∀ a i, (w[a]? = some i ∧ a < n ∧ a9m g k i) ∨ (a = 0 ∧ (k : Int) ∈ g.Params) → x.From ≤ a ∧ (a : Int) ≤ x.To
 ends : (x.From = (g.Nodes.length : Int) ∧ x.To = -1) ∨ ((∃ a i : Nat, x.From = (a : Int) ∧ ((w[a]? = some i ∧ a < n ∧ a9m g k i) ∨ (a = 0 ∧ (k : Int) ∈ g.Params))) ∧ ∃ a i : Nat, x.To = (a : Int) ∧ ((w[a]? = some i ∧ a < n ∧ a9m g k i) ∨ (a = 0 ∧ (k : Int) ∈ g.Params)))
 held : x.Held = true ↔ ∃ a i, w[a]? = some i ∧ a < n ∧ c7j g k i
theorem EI.step {g : b5} {w : List Nat} {k n i : Nat} {x : b7} (hn : w[n]? = some i) (hnN : n < g.Nodes.length) (h : EI g w k n x) : EI g w k (n + 1) (elS g k n i x) := by
 have hT : ∀ y : b7, (a7X y).Place = y.Place ∧ (a7X y).From = y.From ∧ (a7X y).To = y.To := fun y => ⟨rfl, rfl, rfl⟩
 have hcase : ∀ (b : Prop) [Decidable b], (b ↔ a9m g k i) → ∀ y, y = (if b then wk1 (n : Int) x else x) →
   y.Place = (k : Int) ∧ (∀ a j, (w[a]? = some j ∧ a < n + 1 ∧ a9m g k j) ∨ (a = 0 ∧ (k : Int) ∈ g.Params) → y.From ≤ a ∧ (a : Int) ≤ y.To) ∧
   ((y.From = (g.Nodes.length : Int) ∧ y.To = -1) ∨ ((∃ a i : Nat, y.From = (a : Int) ∧ ((w[a]? = some i ∧ a < n + 1 ∧ a9m g k i) ∨ (a = 0 ∧ (k : Int) ∈ g.Params))) ∧ ∃ a i : Nat, y.To = (a : Int) ∧ ((w[a]? = some i ∧ a < n + 1 ∧ a9m g k i) ∨ (a = 0 ∧ (k : Int) ∈ g.Params)))) ∧ y.Held = x.Held := by
  intro b _ hb y hy
  have wid : ∀ a j, ((w[a]? = some j ∧ a < n ∧ a9m g k j) ∨ (a = 0 ∧ (k : Int) ∈ g.Params)) → ((w[a]? = some j ∧ a < n + 1 ∧ a9m g k j) ∨ (a = 0 ∧ (k : Int) ∈ g.Params)) := fun a j hh => hh.imp (fun ⟨p, q, r⟩ => ⟨p, by omega, r⟩) id
  by_cases hbb : b
  ·rw [if_pos hbb] at hy
   subst hy
   have ht := hb.1 hbb
   have hf : (wk1 (n : Int) x).From = if (n : Int) < x.From then (n : Int) else x.From := rfl
   have hto : (wk1 (n : Int) x).To = if (n : Int) > x.To then (n : Int) else x.To := rfl
   refine ⟨h.pl, fun a j hh => ?_, .inr ⟨?_, ?_⟩, rfl⟩
   ·have key : (x.From ≤ a ∧ (a : Int) ≤ x.To) ∨ a = n := by
     rcases hh with ⟨p, q, r⟩ | hh
     ·by_cases e : a = n
      ·exact .inr e
      ·exact .inl (h.all a j (.inl ⟨p, by omega, r⟩))
     ·exact .inl (h.all a j (.inr hh))
    rw [hf, hto]
    rcases key with ⟨p, q⟩ | rfl
    ·constructor <;> split <;> omega
    ·constructor <;> split <;> omega
   ·by_cases e : (n : Int) < x.From
    ·exact ⟨n, i, by rw [hf, if_pos e], .inl ⟨hn, by omega, ht⟩⟩
    ·rcases h.ends with ⟨p, q⟩ | ⟨⟨a, j, p, q⟩, _⟩
     ·omega
     ·exact ⟨a, j, by rw [hf, if_neg e, p], wid a j q⟩
   ·by_cases e : (n : Int) > x.To
    ·exact ⟨n, i, by rw [hto, if_pos e], .inl ⟨hn, by omega, ht⟩⟩
    ·rcases h.ends with ⟨p, q⟩ | ⟨_, ⟨a, j, p, q⟩⟩
     ·omega
     ·exact ⟨a, j, by rw [hto, if_neg e, p], wid a j q⟩
  ·rw [if_neg hbb] at hy
   subst hy
   have ht : ¬ a9m g k i := fun hh => hbb (hb.2 hh)
   refine ⟨h.pl, fun a j hh => ?_, ?_, rfl⟩
   ·rcases hh with ⟨p, q, r⟩ | hh
    ·by_cases e : a = n
     ·subst e; rw [hn] at p; cases p; exact absurd r ht
     ·exact h.all a j (.inl ⟨p, by omega, r⟩)
    ·exact h.all a j (.inr hh)
   ·rcases h.ends with hh | ⟨⟨a, j, p, q⟩, ⟨b, l, r, s⟩⟩
    ·exact .inl hh
    ·exact .inr ⟨⟨a, j, p, wid a j q⟩, ⟨b, l, r, wid b l s⟩⟩
 unfold elS
 obtain ⟨q1, q2, q3, q4⟩ := @hcase (a9m g k i) (Classical.propDecidable _) Iff.rfl _ rfl
 split
 ·rename_i hh
  refine ⟨q1, q2, q3, ?_⟩
  constructor
  ·intro _; exact ⟨n, i, hn, by omega, hh⟩
  ·intro _; rfl
 ·rename_i hh
  refine ⟨q1, q2, q3, ?_⟩
  rw [q4, h.held]
  constructor
  ·rintro ⟨a, j, p, q, r⟩; exact ⟨a, j, p, by omega, r⟩
  ·rintro ⟨a, j, p, q, r⟩
   by_cases e : a = n
   ·subst e; rw [hn] at p; cases p; exact absurd r hh
   ·exact ⟨a, j, p, by omega, r⟩
theorem a9n {g : b5} {w : List Nat} {k : Nat} (hw : w.length ≤ g.Nodes.length) : ∀ (m n : Nat) (all : List b7) (x : b7), w.length - n = m → n ≤ w.length → all[k]? = some x → EI g w k n x → ∃ y, (a4w g n (w.drop n) all)[k]? = some y ∧ EI g w k w.length y
 | 0, n, all, x, hm, hn, hx, h => by
   have : n = w.length := by omega
   subst this
   rw [List.drop_length]
   exact ⟨x, hx, h⟩
 | m + 1, n, all, x, hm, hn, hx, h => by
   have hlt : n < w.length := by omega
   obtain ⟨i, hi⟩ : ∃ i, w[n]? = some i := ⟨w[n], List.getElem?_eq_getElem hlt⟩
   rw [a4k hi]
   simp only [a4w]
   exact a9n hw m (n + 1) _ _ zO hlt (by rw [b3G, hx]; rfl) (h.step hi zO)
theorem a8a {g : b5} (hg : a2L g) (hp : a9j g) {w : List Nat} (hw1 : a1f g = w.map (fun (n : Nat) => (n : Int))) (hwl : w.length ≤ g.Nodes.length) {k : Nat} (hk : k < g.Kinds.length) : ∃ x, (b1N g)[k]? = some x ∧ EI g w k w.length x := by
 unfold b1N
 have hmapN : (a1f g).map Int.toNat = w := by rw [hw1, List.map_map]; exact (List.map_congr_left (fun x _ => by simp)).trans (List.map_id w)
 rw [hmapN]
 have h0 : (a5s g)[k]? = some ⟨(k : Int), (g.Nodes.length : Int), -1, false⟩ := by simp [a5s, hk]
 have h1 := a7Z 0 k g.Params (a5s g) (fun p hp' => (hp p hp').1)
 rw [h0] at h1
 simp only [Option.map_some] at h1
 have hn0 := hg.n0
 refine a9n hwl _ 0 _ _ rfl (Nat.zero_le _) h1 ?_
 by_cases e : (k : Int) ∈ g.Params
 ·rw [if_pos e]
  have hf : (wk1 0 ⟨(k : Int), (g.Nodes.length : Int), -1, false⟩ : b7).From = 0 := by show (if (0 : Int) < _ then (0 : Int) else _) = 0; rw [if_pos zE]
  have ht : (wk1 0 ⟨(k : Int), (g.Nodes.length : Int), -1, false⟩ : b7).To = 0 := rfl
  refine ⟨rfl, fun a j hh => ?_, .inr ⟨⟨0, 0, by rw [hf]; rfl, .inr ⟨rfl, e⟩⟩, ⟨0, 0, by rw [ht]; rfl, .inr ⟨rfl, e⟩⟩⟩, ?_⟩
  ·rcases hh with ⟨_, q, _⟩ | ⟨rfl, _⟩
   ·omega
   ·rw [hf, ht]; omega
  ·constructor
   ·intro h; cases h
   ·rintro ⟨a, j, _, q, _⟩; omega
 ·rw [if_neg e]
  refine ⟨rfl, fun a j hh => ?_, .inl ⟨rfl, rfl⟩, ?_⟩
  ·rcases hh with ⟨_, q, _⟩ | ⟨_, q⟩
   ·omega
   ·exact absurd q e
  ·constructor
   ·intro h; cases h
   ·rintro ⟨a, j, _, q, _⟩; omega
theorem a7k (g : b5) : ∀ (l : List Nat) (a : Nat) (all : List b7), (a4w g a l all).length = all.length
 | [], _, _ => rfl
 | i :: l, a, all => by simp only [a4w]; rw [a7k g l, b3E]
theorem a4x (g : b5) : (b1N g).length = g.Kinds.length := by
 unfold b1N
 rw [a7k, a2N]; simp [a5s]
end Go.Proofs.YtepdcebjobjjgaaDoor

/- Stable sorting in place, in b5E lists: what swaps, rotations and merges keep. -/
namespace Go.Ab
universe u
variable {α : Type u}

theorem swap_perm {L : List α} {i j : Nat} {x y : α} (hi : L[i]? = some x) (hj : L[j]? = some y) : ((L.set i y).set j x).Perm L := by
 obtain ⟨h1, rfl⟩ := List.getElem?_eq_some_iff.1 hi
 obtain ⟨h2, rfl⟩ := List.getElem?_eq_some_iff.1 hj
 have := Array.swap_perm (xs := L.toArray) (i := i) (j := j) (by simpa using h1) (by simpa using h2)
 have e : (L.toArray.swap i j (by simpa using h1) (by simpa using h2)).toList = (L.set i L[j]).set j L[i] := by
  simp [Array.swap]
 have p := this.toList
 rw [e] at p
 simpa using p
theorem a0x {L : List α} {i j : Nat} {x y : α} (hi : L[i]? = some x) (hj : L[j]? = some y) (k : Nat) : ((L.set i y).set j x)[k]? = if k = j then L[i]? else if k = i then L[j]? else L[k]? := by
 obtain ⟨h1, e1⟩ := List.getElem?_eq_some_iff.1 hi
 obtain ⟨h2, e2⟩ := List.getElem?_eq_some_iff.1 hj
 rw [List.getElem?_set, List.getElem?_set]
 by_cases a : k = j
 ·subst a; simp [h2, hi]
 ·have a' : ¬ j = k := fun h => a h.symm
  by_cases b : k = i
  ·subst b; simp [a, a', h1, hj]
  ·have b' : ¬ i = k := fun h => b h.symm
   simp [a, a', b, b']

structure Mv (a b : Nat) (L L' : List α) : Prop where
 perm : L'.Perm L
 out : ∀ i, i < a ∨ b ≤ i → L'[i]? = L[i]?
 inn : ∀ i, a ≤ i → i < b → ∃ j, a ≤ j ∧ j < b ∧ L'[i]? = L[j]?
variable {a b : Nat} {L L' L'' : List α}
theorem Mv.len (h : Mv a b L L') : L'.length = L.length := h.perm.length_eq
theorem Mv.refl : Mv a b L L := ⟨.refl _, fun _ _ => rfl, fun i h1 h2 => ⟨i, h1, h2, rfl⟩⟩
theorem Mv.trans (h : Mv a b L L') (k : Mv a b L' L'') : Mv a b L L'' :=
 ⟨k.perm.trans h.perm, fun i hi => (k.out i hi).trans (h.out i hi), fun i h1 h2 => by
  obtain ⟨j, h3, h4, e⟩ := k.inn i h1 h2
  obtain ⟨l, h5, h6, e'⟩ := h.inn j h3 h4
  exact ⟨l, h5, h6, e.trans e'⟩⟩
theorem Mv.mono {a' b' : Nat} (h : Mv a b L L') (ha : a' ≤ a) (hb : b ≤ b') : Mv a' b' L L' :=
 ⟨h.perm, fun i hi => h.out i zO, fun i h1 h2 => by
  by_cases c : a ≤ i ∧ i < b
  ·obtain ⟨j, h3, h4, e⟩ := h.inn i c.1 c.2
   exact ⟨j, by omega, by omega, e⟩
  ·exact ⟨i, h1, h2, h.out i zO⟩⟩
theorem Mv.swap {i j : Nat} {x y : α} (hi : L[i]? = some x) (hj : L[j]? = some y) (h1 : a ≤ i) (h2 : i < b) (h3 : a ≤ j) (h4 : j < b) : Mv a b L ((L.set i y).set j x) :=
 ⟨swap_perm hi hj, fun k hk => by rw [a0x hi hj, if_neg zO, if_neg zO], fun k h5 h6 => by
  rw [a0x hi hj]
  by_cases c : k = j
  ·rw [if_pos c]; exact ⟨i, h1, h2, rfl⟩
  ·rw [if_neg c]
   by_cases d : k = i
   ·rw [if_pos d]; exact ⟨j, h3, h4, rfl⟩
   ·rw [if_neg d]; exact ⟨k, h5, h6, rfl⟩⟩

def swI (p q n k : Nat) : Nat := if p ≤ k ∧ k < p + n then k - p + q else if q ≤ k ∧ k < q + n then k - q + p else k
def roI (a m b k : Nat) : Nat := if a ≤ k ∧ k < a + (b - m) then k - a + m else if a + (b - m) ≤ k ∧ k < b then k - (b - m) else k
theorem c1A {m i j k : Nat} (h : j < i) (hi : i ≤ m) : roI (m - i) m (m + j) k = swI (m - i) m j (roI (m - i + j) m (m + j) k) := by
 unfold roI swI
 repeat' split
 all_goals omega
theorem c1B {m i j k : Nat} (h : i < j) (hi : i ≤ m) : roI (m - i) m (m + j) k = swI (m - i) (m + j - i) i (roI (m - i) m (m + j - i) k) := by
 unfold roI swI
 repeat' split
 all_goals omega
theorem c1C {m i k : Nat} (hi : i ≤ m) : roI (m - i) m (m + i) k = swI (m - i) m i k := by
 unfold roI swI
 repeat' split
 all_goals omega
theorem b5g {p q n t k : Nat} (ht : t < n) (h : p + n ≤ q) : swI p q (t + 1) k = if k = p + t then q + t else if k = q + t then p + t else swI p q t k := by
 unfold swI
 repeat' split
 all_goals omega
theorem b5h {p q k : Nat} : swI p q 0 k = k := by
 unfold swI
 repeat' split
 all_goals omega

def SrtR (key : α → Int) (a b : Nat) (L : List α) : Prop := ∀ i j x y, a ≤ i → i ≤ j → j < b → L[i]? = some x → L[j]? = some y → key x ≤ key y
theorem SrtR.nil {key : α → Int} {a b : Nat} {L : List α} (h : b ≤ a + 1) : SrtR key a b L := by
 intro i j x y h1 h2 h3 e1 e2
 have : i = j := by omega
 subst this
 rw [e1] at e2
 cases e2
 exact Int.le_refl _
theorem SrtR.cong {key : α → Int} {a b : Nat} {L L' : List α} (h : SrtR key a b L) (e : ∀ i, a ≤ i → i < b → L'[i]? = L[i]?) : SrtR key a b L' := by
 intro i j x y h1 h2 h3 e1 e2
 rw [e i h1 zO] at e1
 rw [e j zO h3] at e2
 exact h i j x y h1 h2 h3 e1 e2
theorem SrtR.shift {key : α → Int} {a b a' b' : Nat} {L L' : List α} (h : SrtR key a b L) (e : ∀ i, a' ≤ i → i < b' → L'[i]? = L[i - a' + a]?) (hb : b' - a' ≤ b - a) : SrtR key a' b' L' := by
 intro i j x y h1 h2 h3 e1 e2
 rw [e i h1 zO] at e1
 rw [e j zO h3] at e2
 exact h _ _ x y zO zO zO e1 e2
theorem SrtR.sub {key : α → Int} {a b a' b' : Nat} {L : List α} (h : SrtR key a b L) (ha : a ≤ a') (hb : b' ≤ b) : SrtR key a' b' L :=
 fun i j x y h1 h2 h3 e1 e2 => h i j x y zO h2 zO e1 e2
theorem SrtR.join {key : α → Int} {a c b : Nat} {L : List α} (h : SrtR key a c L) (k : SrtR key c b L) (hx : ∀ i j x y, a ≤ i → i < c → c ≤ j → j < b → L[i]? = some x → L[j]? = some y → key x ≤ key y) : SrtR key a b L := by
 intro i j x y h1 h2 h3 e1 e2
 by_cases p : j < c
 ·exact h i j x y h1 h2 p e1 e2
 ·by_cases q : i < c
  ·exact hx i j x y h1 q zO h3 e1 e2
  ·exact k i j x y zO h2 h3 e1 e2
theorem b1G {key : α → Int} {a m b mid s e : Nat} {L L' : List α} (ha : a ≤ m) (hb : m ≤ b) (hbl : b ≤ L.length) (h1 : SrtR key a m L) (h2 : SrtR key m b L) (has : a ≤ s) (hsm : s ≤ m) (hme : m ≤ e) (heb : e ≤ b) (hse : s + e = mid + m)
  (hr : ∀ k, L'[k]? = L[roI s m e k]?)
  (c1 : s = a ∨ e = b ∨ ∀ x y, L[s - 1]? = some x → L[e]? = some y → key x ≤ key y)
  (c2 : s = m ∨ e = m ∨ ∀ x y, L[e - 1]? = some x → L[s]? = some y → key x ≤ key y) :
  SrtR key a s L' ∧ SrtR key s mid L' ∧ SrtR key mid e L' ∧ SrtR key e b L' ∧ ∀ i j x y, a ≤ i → i < mid → mid ≤ j → j < b → L'[i]? = some x → L'[j]? = some y → key x ≤ key y := by
 have g1 : ∀ k, k < s → L'[k]? = L[k]? := fun k hk => by rw [hr]; congr 1; unfold roI; rw [if_neg zO, if_neg zO]
 have g2 : ∀ k, s ≤ k → k < mid → L'[k]? = L[k - s + m]? := fun k hk hk' => by rw [hr]; congr 1; unfold roI; rw [if_pos zO]
 have g3 : ∀ k, mid ≤ k → k < e → L'[k]? = L[k - mid + s]? := fun k hk hk' => by rw [hr]; congr 1; unfold roI; rw [if_neg zO, if_pos zO]; omega
 have g4 : ∀ k, e ≤ k → L'[k]? = L[k]? := fun k hk => by rw [hr]; congr 1; unfold roI; rw [if_neg zO, if_neg zO]
 refine ⟨(h1.sub (Nat.le_refl _) hsm).cong fun i _ h => g1 i h, (h2.sub (Nat.le_refl _) heb).shift (a := m) g2 zO, (h1.sub has (Nat.le_refl _)).shift (a := s) g3 zO, (h2.sub hme (Nat.le_refl _)).cong fun i h _ => g4 i h, ?_⟩
 intro i j x y q1 q2 q3 q4 e1 e2
 by_cases ci : i < s
 ·rw [g1 i ci] at e1
  by_cases cj : j < e
  ·rw [g3 j q3 cj] at e2
   exact h1 _ _ x y q1 zO zO e1 e2
  ·rw [g4 j zO] at e2
   rcases c1 with c | c | c
   ·omega
   ·omega
   ·have hs1 : s - 1 < L.length := by omega
    have he1 : e < L.length := by omega
    have := c _ _ (List.getElem?_eq_getElem hs1) (List.getElem?_eq_getElem he1)
    have d1 := h1 i (s - 1) x _ q1 zO zO e1 (List.getElem?_eq_getElem hs1)
    have d2 := h2 e j _ y zO zO q4 (List.getElem?_eq_getElem he1) e2
    omega
 ·rw [g2 i zO q2] at e1
  by_cases cj : j < e
  ·rw [g3 j q3 cj] at e2
   rcases c2 with c | c | c
   ·omega
   ·omega
   ·have hs1 : s < L.length := by omega
    have he1 : e - 1 < L.length := by omega
    have := c _ _ (List.getElem?_eq_getElem he1) (List.getElem?_eq_getElem hs1)
    have d1 := h2 (i - s + m) (e - 1) x _ zO zO zO e1 (List.getElem?_eq_getElem he1)
    have d2 := h1 s (j - mid + s) _ y zO zO zO (List.getElem?_eq_getElem hs1) e2
    omega
  ·rw [g4 j zO] at e2
   exact h2 _ _ x y zO zO q4 e1 e2
theorem a6u {key : α → Int} {a mid b : Nat} {L' L1 L2 : List α} (h1 : Mv a mid L' L1) (h2 : Mv mid b L1 L2) (hm1 : a ≤ mid) (hm2 : mid ≤ b) (s1 : SrtR key a mid L1) (s2 : SrtR key mid b L2)
  (hx : ∀ i j x y, a ≤ i → i < mid → mid ≤ j → j < b → L'[i]? = some x → L'[j]? = some y → key x ≤ key y) : SrtR key a b L2 := by
 refine SrtR.join (c := mid) (s1.cong fun i p q => h2.out i zO) s2 fun i j x y p1 p2 p3 p4 e1 e2 => ?_
 rw [h2.out i zO] at e1
 obtain ⟨i', r1, r2, r3⟩ := h1.inn i p1 p2
 obtain ⟨j', t1, t2, t3⟩ := h2.inn j p3 p4
 rw [r3] at e1
 rw [t3, h1.out j' zO] at e2
 exact hx i' j' x y r1 r2 t1 t2 e1 e2
end Go.Ab

/- Heaps in b5E lists. -/
namespace Go.Ab
universe u
variable {α : Type u} {key : α → Int} {n j i : Nat} {L : List α}
def HpI (key : α → Int) (n : Nat) (L : List α) : Prop := ∀ c x y, 0 < c → c < n → L[(c - 1) / 2]? = some x → L[c]? = some y → key x ≤ key y
def b4e (key : α → Int) (n j : Nat) (L : List α) : Prop :=
 (∀ c x y, 0 < c → c < n → c ≠ j → L[(c - 1) / 2]? = some x → L[c]? = some y → key x ≤ key y) ∧
 (∀ c x y, 0 < c → c < n → (c - 1) / 2 = j → 0 < j → L[(j - 1) / 2]? = some x → L[c]? = some y → key x ≤ key y)
def b4f (key : α → Int) (n i : Nat) (L : List α) : Prop :=
 (∀ c x y, 0 < c → c < n → (c - 1) / 2 ≠ i → L[(c - 1) / 2]? = some x → L[c]? = some y → key x ≤ key y) ∧
 (∀ c x y, 0 < c → c < n → (c - 1) / 2 = i → 0 < i → L[(i - 1) / 2]? = some x → L[c]? = some y → key x ≤ key y)
theorem b4e.fin0 (h : b4e key n 0 L) : HpI key n L := fun c x y h1 h2 e1 e2 => h.1 c x y h1 h2 zO e1 e2
theorem b4e.fin1 (h : b4e key n j L) {x y : α} (hx : L[(j - 1) / 2]? = some x) (hy : L[j]? = some y) (hle : key x ≤ key y) : HpI key n L := by
 intro c x' y' h1 h2 e1 e2
 by_cases q : c = j
 ·subst q; rw [hx] at e1; rw [hy] at e2; cases e1; cases e2; exact hle
 ·exact h.1 c x' y' h1 h2 q e1 e2
theorem b4e.step (h : b4e key n j L) (hj : 0 < j) (hjn : j < n) (hnl : n ≤ L.length) {x y : α} (hx : L[(j - 1) / 2]? = some x) (hy : L[j]? = some y) (hlt : key y < key x) : b4e key n ((j - 1) / 2) ((L.set ((j - 1) / 2) y).set j x) := by
 constructor
 ·intro c x' y' h1 h2 h3 e1 e2
  rw [a0x hx hy] at e1 e2
  by_cases q : c = j
  ·subst q
   rw [if_pos rfl, hx] at e2; cases e2
   rw [if_neg zO, if_pos rfl, hy] at e1; cases e1
   omega
  ·rw [if_neg q, if_neg h3] at e2
   by_cases q2 : (c - 1) / 2 = j
   ·rw [if_pos q2, hx] at e1; cases e1
    exact h.2 c _ y' h1 h2 q2 hj hx e2
   ·rw [if_neg q2] at e1
    by_cases q3 : (c - 1) / 2 = (j - 1) / 2
    ·rw [if_pos q3, hy] at e1; cases e1
     have := h.1 c x y' h1 h2 q (by rw [q3]; exact hx) e2
     omega
    ·rw [if_neg q3] at e1
     exact h.1 c x' y' h1 h2 q e1 e2
 ·intro c x' y' h1 h2 h3 h4 e1 e2
  rw [a0x hx hy] at e1 e2
  rw [if_neg zO, if_neg zO] at e1
  have g1 := h.1 ((j - 1) / 2) x' x h4 zO zO e1 hx
  by_cases q : c = j
  ·rw [if_pos q, hx] at e2; cases e2; exact g1
  ·rw [if_neg q, if_neg zO] at e2
   have := h.1 c x y' h1 h2 q (by rw [h3]; exact hx) e2
   omega
theorem b4f.fin0 (h : b4f key n i L) (hi : n ≤ 2 * i + 1) : HpI key n L := fun c x y h1 h2 e1 e2 => h.1 c x y h1 h2 zO e1 e2
theorem b4f.fin1 (h : b4f key n i L) {x y : α} (hx : L[i]? = some x) (hmin : ∀ c z, 0 < c → c < n → (c - 1) / 2 = i → L[c]? = some z → key y ≤ key z) (hle : key x ≤ key y) : HpI key n L := by
 intro c x' y' h1 h2 e1 e2
 by_cases q : (c - 1) / 2 = i
 ·rw [q, hx] at e1; cases e1
  have := hmin c y' h1 h2 q e2
  omega
 ·exact h.1 c x' y' h1 h2 q e1 e2
theorem b4f.step (h : b4f key n i L) (hj : 0 < j) (hjn : j < n) (hp : (j - 1) / 2 = i) {x y : α} (hx : L[i]? = some x) (hy : L[j]? = some y) (hmin : ∀ c z, 0 < c → c < n → (c - 1) / 2 = i → L[c]? = some z → key y ≤ key z) (hlt : key y < key x) : b4f key n j ((L.set i y).set j x) := by
 constructor
 ·intro c x' y' h1 h2 h3 e1 e2
  rw [a0x hx hy] at e1 e2
  rw [if_neg h3] at e1
  by_cases q : (c - 1) / 2 = i
  ·rw [if_pos q, hy] at e1; cases e1
   by_cases q2 : c = j
   ·rw [if_pos q2, hx] at e2; cases e2; omega
   ·rw [if_neg q2, if_neg zO] at e2
    exact hmin c y' h1 h2 q e2
  ·rw [if_neg q] at e1
   by_cases q2 : c = j
   ·subst q2; exact absurd hp q
   ·rw [if_neg q2] at e2
    by_cases q3 : c = i
    ·subst q3
     rw [if_pos rfl, hy] at e2; cases e2
     exact h.2 j x' _ hj hjn hp h1 e1 hy
    ·rw [if_neg q3] at e2
     exact h.1 c x' y' h1 h2 q e1 e2
 ·intro c x' y' h1 h2 h3 h4 e1 e2
  rw [a0x hx hy] at e1 e2
  rw [if_neg zO, if_pos zO, hy] at e1; cases e1
  rw [if_neg zO, if_neg zO] at e2
  exact h.1 c _ y' h1 h2 zO (by rw [h3]; exact hy) e2
theorem HpI.least (h : HpI key n L) (hnl : n ≤ L.length) {x : α} (hx : L[0]? = some x) : ∀ i y, i < n → L[i]? = some y → key x ≤ key y := by
 intro i
 induction i using Nat.strongRecOn with
 | _ i ih =>
   intro y hi hy
   by_cases q : i = 0
   ·subst q; rw [hx] at hy; cases hy; exact Int.le_refl _
   ·have hz : L[(i - 1) / 2]? = some (L[(i - 1) / 2]'zO) := List.getElem?_eq_getElem _
    have h1 := ih ((i - 1) / 2) zO _ zO hz
    have h2 := h i _ y zO hi hz hy
    omega
theorem HpI.push (h : HpI key L.length L) (x : α) : b4e key (L.length + 1) L.length (L ++ [x]) := by
 constructor
 ·intro c x' y' h1 h2 h3 e1 e2
  rw [List.getElem?_append_left zO] at e1 e2
  exact h c x' y' h1 zO e1 e2
 ·intro c x' y' h1 h2 h3; omega
theorem HpI.pop (h : HpI key (n + 1) L) (hnl : n < L.length) {x y : α} (hx : L[0]? = some x) (hy : L[n]? = some y) : b4f key n 0 ((L.set 0 y).set n x) := by
 constructor
 ·intro c x' y' h1 h2 h3 e1 e2
  rw [a0x hx hy, if_neg zO, if_neg h3] at e1
  rw [a0x hx hy, if_neg zO, if_neg zO] at e2
  exact h c x' y' h1 zO e1 e2
 ·intro c x' y' h1 h2 h3 h4; omega
end Go.Ab

/- slices.swapRangeCmpFunc, rotateCmpFunc: the walks. -/
namespace Go.Ab
section
variable {P : Program} {ow : List Nat} {fr : Fr} {S : List Ob} {log : List LE} {esh : Option Nat}
theorem x3 {d x i rs} {K : Fr → List Ob → List LE → Prop} {o ver off m k z} (e : ev (Fr.get fr) x = .ref o ver off m esh) (e1 : ev (Fr.get fr) i = .int k z) (n : Nat) (hz : z = (n : Int)) (hn : n < m)
  (h : VTops P ow rs ((d, .ptr o ver (off + n * f5 esh)) :: fr) S (.acc [] none :: log) K) : VTops P ow (⟨some d, none, .op (.iad none esh x i)⟩ :: rs) fr S log K := by
 subst hz
 refine p8 e e1 ⟨by omega, by omega⟩ ?_
 rw [Int.toNat_natCast]; exact h
theorem b0b {a b : Nat} (h : a + b ≤ 4611686018427387904) : IntKind.i64.wrap ((a : Int) + (b : Int)) = ((a + b : Nat) : Int) := by rw [t7 zO]; omega
theorem a5t {a : Nat} (h : a ≤ 4611686018427387904) : IntKind.i64.wrap ((a : Int) + 1) = ((a + 1 : Nat) : Int) := by rw [t7 zO]; omega
theorem a9s {a b : Nat} (h : b ≤ a) (ha : a ≤ 4611686018427387904) : IntKind.i64.wrap ((a : Int) - (b : Int)) = ((a - b : Nat) : Int) := by rw [t7 zO]; omega
theorem a2W {z : Int} {n : Nat} (e : z = (n : Int)) : a8k none (.int .i64 z) (.int .i64 (n : Int)) := by rw [e]; exact .refl _
theorem Enc.part {α : Type} {f : α → AV} {esh : Option Nat} (he : Enc f esh) (x : α) : a0A esh (f x).cells 0 = some (f x) := by
 have h1 := he.form x
 have h2 := he.sz x
 cases esh with
 | none => simp only at h1; rw [h1]; rfl
 | some n => 
   simp only at h1
   have h2 : (f x).cells.length = n := h2
   unfold a0A
   simp only [Nat.zero_add, List.drop_zero]
   rw [if_pos zO, List.take_of_length_le zO, ← h1]
theorem a0Q {a b : List AV} {n : Nat} (h1 : a.length = n) (h2 : b.length = n) : splice a 0 b = b := by
 have := a4N b [] a zO
 simpa using this
end
end Go.Ab
namespace Go.Proofs.YtepdcebjobjjgaaDoor
open Go Go.Ab
set_option maxRecDepth 20000
set_option maxHeartbeats 2000000
def c9c : FC := .reg [⟨(some 10), none, .op (.mv (.v (.int .i64 0)))⟩] []
def c9d : FC := .reg [⟨(some 11), none, .op (.mv (.t 10))⟩,  ⟨(some 12), none, .op (.mv (.t 3))⟩,  ⟨(some 13), none, .op (.bin .none .lss (.t 11) (.t 12))⟩] []
def c9e : FC := .cond (.t 13) FC.skip (FC.exit 0)
def c9f : FC := .seq c9d c9e
def c9g : FC := .reg [⟨(some 16), none, .op (.mv (.t 0))⟩,  ⟨(some 17), none, .op (.mv (.t 1))⟩,  ⟨(some 18), none, .op (.mv (.t 10))⟩,  ⟨(some 19), none, .op (.bin .none .add (.t 17) (.t 18))⟩,  ⟨(some 20), none, .op (.mv (.t 0))⟩,  ⟨(some 21), none, .op (.mv (.t 2))⟩,  ⟨(some 22), none, .op (.mv (.t 10))⟩,  ⟨(some 23), none, .op (.bin .none .add (.t 21) (.t 22))⟩,  ⟨(some 24), none, .op (.mv (.t 0))⟩,  ⟨(some 25), none, .op (.mv (.t 2))⟩,  ⟨(some 26), none, .op (.mv (.t 10))⟩,  ⟨(some 27), none, .op (.bin .none .add (.t 25) (.t 26))⟩,  ⟨(some 28), none, .op (.iad none (some 4) (.t 24) (.t 27))⟩,  ⟨(some 29), none, .op (.load (some 4) (.t 28))⟩,  ⟨(some 30), none, .op (.mv (.t 0))⟩,  ⟨(some 31), none, .op (.mv (.t 1))⟩,  ⟨(some 32), none, .op (.mv (.t 10))⟩,  ⟨(some 33), none, .op (.bin .none .add (.t 31) (.t 32))⟩,  ⟨(some 34), none, .op (.iad none (some 4) (.t 30) (.t 33))⟩,  ⟨(some 35), none, .op (.load (some 4) (.t 34))⟩,  ⟨(some 36), none, .op (.iad none (some 4) (.t 16) (.t 19))⟩,  ⟨none, none, .op (.store 4 (.t 36) (.t 29))⟩,  ⟨(some 37), none, .op (.iad none (some 4) (.t 20) (.t 23))⟩,  ⟨none, none, .op (.store 4 (.t 37) (.t 35))⟩] []
def c9h : FC := .block 1 c9g
def c9i : FC := .reg [⟨(some 14), none, .op (.mv (.t 10))⟩,  ⟨(some 15), none, .op (.bin .none .add (.t 14) (.v (.int .i64 1)))⟩,  ⟨(some 10), none, .op (.mv (.t 15))⟩] []
def c9j : FC := .seq c9h c9i
def c9k : FC := .seq c9f c9j
def c1D : FC := .loop c9k
def c1E : FC := .block 0 c1D
def c1F : FC := .seq c9c c1E
def d5o : FC := c1F
theorem d5p : Fn3 Tryd.prog 80 38 [] d5o := ⟨_, _, Tryd.func80, rfl, rfl, rfl, by kernel_rfl⟩

def c9l : FC := .reg [⟨(some 12), none, .op (.mv (.t 2))⟩,  ⟨(some 13), none, .op (.mv (.t 1))⟩,  ⟨(some 14), none, .op (.bin .none .sub (.t 12) (.t 13))⟩,  ⟨(some 10), none, .op (.mv (.t 14))⟩] []
def c9m : FC := .reg [⟨(some 15), none, .op (.mv (.t 3))⟩,  ⟨(some 16), none, .op (.mv (.t 2))⟩,  ⟨(some 17), none, .op (.bin .none .sub (.t 15) (.t 16))⟩,  ⟨(some 11), none, .op (.mv (.t 17))⟩] []
def c9n : FC := .reg [⟨(some 18), none, .op (.mv (.t 10))⟩,  ⟨(some 19), none, .op (.mv (.t 11))⟩,  ⟨(some 20), none, .op (.bin .none .neq (.t 18) (.t 19))⟩] []
def c9o : FC := .cond (.t 20) FC.skip (FC.exit 0)
def c9p : FC := .seq c9n c9o
def c9q : FC := .reg [⟨(some 21), none, .op (.mv (.t 10))⟩,  ⟨(some 22), none, .op (.mv (.t 11))⟩,  ⟨(some 23), none, .op (.bin .none .gtr (.t 21) (.t 22))⟩] []
def c9r : FC := .reg [⟨(some 24), none, .op (.mv (.t 0))⟩,  ⟨(some 25), none, .op (.mv (.t 2))⟩,  ⟨(some 26), none, .op (.mv (.t 10))⟩,  ⟨(some 27), none, .op (.bin .none .sub (.t 25) (.t 26))⟩,  ⟨(some 28), none, .op (.mv (.t 2))⟩,  ⟨(some 29), none, .op (.mv (.t 11))⟩,  ⟨(some 30), none, .op (.mv (.t 4))⟩,  ⟨(some 31), none, .call 80 [(.t 24), (.t 27), (.t 28), (.t 29), (.t 30)]⟩] []
def c9s : FC := .reg [⟨(some 32), none, .op (.mv (.t 10))⟩,  ⟨(some 33), none, .op (.mv (.t 11))⟩,  ⟨(some 34), none, .op (.bin .none .sub (.t 32) (.t 33))⟩,  ⟨(some 10), none, .op (.mv (.t 34))⟩] []
def c9t : FC := .seq c9r c9s
def c1G : FC := .reg [⟨(some 35), none, .op (.mv (.t 0))⟩,  ⟨(some 36), none, .op (.mv (.t 2))⟩,  ⟨(some 37), none, .op (.mv (.t 10))⟩,  ⟨(some 38), none, .op (.bin .none .sub (.t 36) (.t 37))⟩,  ⟨(some 39), none, .op (.mv (.t 2))⟩,  ⟨(some 40), none, .op (.mv (.t 11))⟩,  ⟨(some 41), none, .op (.bin .none .add (.t 39) (.t 40))⟩,  ⟨(some 42), none, .op (.mv (.t 10))⟩,  ⟨(some 43), none, .op (.bin .none .sub (.t 41) (.t 42))⟩,  ⟨(some 44), none, .op (.mv (.t 10))⟩,  ⟨(some 45), none, .op (.mv (.t 4))⟩,  ⟨(some 46), none, .call 80 [(.t 35), (.t 38), (.t 43), (.t 44), (.t 45)]⟩] []
def c1H : FC := .reg [⟨(some 47), none, .op (.mv (.t 11))⟩,  ⟨(some 48), none, .op (.mv (.t 10))⟩,  ⟨(some 49), none, .op (.bin .none .sub (.t 47) (.t 48))⟩,  ⟨(some 11), none, .op (.mv (.t 49))⟩] []
def c1I : FC := .seq c1G c1H
def c1J : FC := .cond (.t 23) c9t c1I
def c1K : FC := .seq c9q c1J
def c1L : FC := .block 1 c1K
def c1M : FC := .seq c9p c1L
def c1N : FC := .loop c1M
def c1O : FC := .block 0 c1N
def c1P : FC := .reg [⟨(some 50), none, .op (.mv (.t 0))⟩,  ⟨(some 51), none, .op (.mv (.t 2))⟩,  ⟨(some 52), none, .op (.mv (.t 10))⟩,  ⟨(some 53), none, .op (.bin .none .sub (.t 51) (.t 52))⟩,  ⟨(some 54), none, .op (.mv (.t 2))⟩,  ⟨(some 55), none, .op (.mv (.t 10))⟩,  ⟨(some 56), none, .op (.mv (.t 4))⟩,  ⟨(some 57), none, .call 80 [(.t 50), (.t 53), (.t 54), (.t 55), (.t 56)]⟩] []
def c1Q : FC := .seq c1O c1P
def c1R : FC := .seq c9m c1Q
def c1S : FC := .seq c9l c1R
def d5q : FC := c1S
theorem d5r : Fn3 Tryd.prog 73 58 [] d5q := ⟨_, _, Tryd.func73, rfl, rfl, rfl, by kernel_rfl⟩

section
variable {α : Type} {f : α → AV}
theorem a6v (he : Enc f (some 4)) {l : List α} {o v a b n : Nat} {j : List AV} {cv : AV} (hl : l.length ≤ 1000000000) (h1 : a + n ≤ b) (h2 : b + n ≤ l.length) :
  Tri Tryd.prog 80 [.ref o v 0 l.length (some 4), .int .i64 a, .int .i64 b, .int .i64 n, cv] [(o, v, flat f l ++ j)] (fun _ L' => ∃ l' : List α, l'.Perm l ∧ (∀ k, l'[k]? = l[swI a b n k]?) ∧ L' = [(o, v, flat f l' ++ j)]) := by
 refine y5 mixed d5p zS [] (fun R S hS => ?_)
 refine aU ?_
 refine k7 (a0i (σ := Nat × List α) (fun s => [(0, .ref o v 0 l.length (some 4)), (1, .int .i64 a), (2, .int .i64 b), (3, .int .i64 n), (10, .int .i64 (s.1 : Int))]) (fun s => (o, v, flat f s.2 ++ j) :: R) (fun s => s.1 ≤ n ∧ s.2.Perm l ∧ ∀ k, s.2[k]? = l[swI a b s.1 k]?) (fun s => n - s.1) (0, l) hS ⟨Nat.zero_le _, .refl _, fun k => by rw [b5h]⟩
  (k9 ⟨.refl _, .refl _, .refl _, .refl _, .refl _, trivial⟩) (fun s S hI hS => ?_))
 obtain ⟨i, m⟩ := s
 obtain ⟨hi, hp, hI⟩ := hI
 dsimp only at hI hi hS hp
 have hm := hp.length_eq
 refine aU ?_
 dsimp only
 refine o6 rfl (fun hb => ?_) (fun hb => ?_)
 ·have hlt : i < n := by simp only [decide_eq_true_eq] at hb; omega
  obtain ⟨x, hx⟩ : ∃ x, m[a + i]? = some x := ⟨m[a + i], List.getElem?_eq_getElem zO⟩
  obtain ⟨y, hy⟩ : ∃ y, m[b + i]? = some y := ⟨m[b + i], List.getElem?_eq_getElem zO⟩
  refine aU ?_
  refine k7 ?_
  refine aU ?_
  refine x3 rfl rfl (b + i) (b0b zO) zO ?_
  refine a0T hS he rfl zM (n := b + i) (fo := 0) (y := y) (by simp [f5]) hy (he.part y) ?_
  refine aU ?_
  refine x3 rfl rfl (a + i) (b0b zO) zO ?_
  refine a0T hS he rfl zM (n := a + i) (fo := 0) (y := x) (by simp [f5]) hx (he.part x) ?_
  refine x3 rfl rfl (a + i) (b0b zO) zO ?_
  refine a4M hS he rfl zC (n := a + i) (fo := 0) (y := x) (y' := y) (by simp [f5]) hx (by first | exact Rp.here | (repeat (first | exact Rp.here | apply Rp.there | apply Rp.skip))) (he.sz _) (he.one _) (by simp [f5]) (by rw [a0Q (he.sz _) (he.sz _)]) (fun S hS => ?_)
  refine x3 rfl rfl (b + i) (b0b zO) zO ?_
  refine a4M (l := m.set (a + i) y) (j := j) hS he rfl zC (n := b + i) (fo := 0) (y := y) (y' := x) (by simp [f5]) (by rw [List.getElem?_set_ne zO]; exact hy) (by first | exact Rp.here | (repeat (first | exact Rp.here | apply Rp.there | apply Rp.skip))) (he.sz _) (he.one _) (by simp [f5]) (by rw [a0Q (he.sz _) (he.sz _)]) (fun S hS => ?_)
  refine aU ?_
  refine l6 ?_
  refine aU ?_
  refine ⟨(i + 1, (m.set (a + i) y).set (b + i) x), ⟨by simp only; omega, (swap_perm hx hy).trans hp, fun k => ?_⟩, by simp only; omega, hS, k9 ⟨.refl _, .refl _, .refl _, .refl _, a2W (a5t zO), trivial⟩⟩
  simp only
  rw [a0x hx hy, b5g hlt h1]
  by_cases c1 : k = b + i
  ·rw [if_pos c1, if_neg zO, if_pos c1, hI]
   congr 1
   unfold swI
   rw [if_neg zO, if_neg zO]
  ·rw [if_neg c1]
   by_cases c2 : k = a + i
   ·rw [if_pos c2, if_pos c2, hI]
    congr 1
    unfold swI
    rw [if_neg zO, if_neg zO]
   ·rw [if_neg c2, if_neg c2, if_neg c1, hI]
 ·have hge : i = n := by simp only [decide_eq_false_iff_not] at hb; omega
  subst hge
  refine y8 ?_
  (repeat (first | refine o8 ?_ | refine r8 ?_ | refine s4 rfl ?_ | refine j4 ?_ | refine m0 ?_ | refine l6 ?_))
  exact ⟨trivial, _, rfl, _, ⟨m, hp, hI, rfl⟩, hS⟩
theorem b5i (he : Enc f (some 4)) {l : List α} {o v a c b : Nat} {j : List AV} {cv : AV} (hl : l.length ≤ 1000000000) (h1 : a < c) (h2 : c < b) (h3 : b ≤ l.length) :
  Tri Tryd.prog 73 [.ref o v 0 l.length (some 4), .int .i64 a, .int .i64 c, .int .i64 b, cv] [(o, v, flat f l ++ j)] (fun _ L' => ∃ l' : List α, l'.Perm l ∧ (∀ k, l'[k]? = l[roI a c b k]?) ∧ L' = [(o, v, flat f l' ++ j)]) := by
 refine y5 mixed d5r zS [] (fun R S hS => ?_)
 refine aU ?_
 refine k7 (a0i (σ := Nat × Nat × List α) (fun s => [(0, .ref o v 0 l.length (some 4)), (1, .int .i64 a), (2, .int .i64 c), (3, .int .i64 b), (4, cv), (10, .int .i64 (s.1 : Int)), (11, .int .i64 (s.2.1 : Int))]) (fun s => (o, v, flat f s.2.2 ++ j) :: R)
  (fun s => 1 ≤ s.1 ∧ s.1 ≤ c - a ∧ 1 ≤ s.2.1 ∧ s.2.1 ≤ b - c ∧ s.2.2.Perm l ∧ ∀ k, s.2.2[roI (c - s.1) c (c + s.2.1) k]? = l[roI a c b k]?) (fun s => s.1 + s.2.1) (c - a, b - c, l) hS ⟨by simp only; omega, by simp only; omega, by simp only; omega, by simp only; omega, .refl _, fun k => by simp only; rw [show c - (c - a) = a by omega, show c + (b - c) = b by omega]⟩
  (k9 ⟨.refl _, .refl _, .refl _, .refl _, .refl _, a2W (a9s zO zO), a2W (a9s zO zO), trivial⟩) (fun s S hI hS => ?_))
 obtain ⟨x, y, m⟩ := s
 obtain ⟨i1, i2, i3, i4, hp, hI⟩ := hI
 dsimp only at i1 i2 i3 i4 hp hI hS
 have hm := hp.length_eq
 refine aU ?_
 dsimp only
 refine o6 rfl (fun hb => ?_) (fun hb => ?_)
 ·have hne : x ≠ y := by simp only [bne_iff_ne, ne_eq, decide_eq_true_eq] at hb; omega
  refine aU ?_
  refine k7 ?_
  refine aU ?_
  refine o6 rfl (fun hb => ?_) (fun hb => ?_)
  ·have hlt : y < x := by simp only [decide_eq_true_eq] at hb; omega
   refine aU ?_
   refine a3j (a6v he (l := m) (o := o) (v := v) (a := c - x) (b := c) (n := y) (j := j) (cv := cv) zO zO zO) hS (by show [AV.ref o v 0 l.length (some 4), .int .i64 (IntKind.i64.wrap ((c : Int) - (x : Int))), .int .i64 c, .int .i64 y, cv] = _; rw [a9s zO zO, hm]) (by repeat (first | exact Spl.nil | refine Spl.cons (by repeat (first | exact Pk.here | apply Pk.there | apply Pk.skip)) ?_ | refine Spl.app (by repeat (first | exact PkC.here | apply PkC.there | apply PkC.skip)) ?_)) (fun r S L' hL hS => ?_)
   obtain ⟨m', q1, q2, rfl⟩ := hL
   refine aU ?_
   refine l6 ?_
   refine aU ?_
   refine ⟨(x - y, y, m'), ⟨by simp only; omega, by simp only; omega, i3, i4, q1.trans hp, fun k => ?_⟩, by simp only; omega, hS, k9 ⟨.refl _, .refl _, .refl _, .refl _, .refl _, a2W (a9s zO zO), .refl _, trivial⟩⟩
   simp only
   rw [q2, ← hI, c1A hlt zO, show c - (x - y) = c - x + y by omega]
  ·have hlt : x < y := by simp only [decide_eq_false_iff_not] at hb; omega
   refine aU ?_
   refine a3j (a6v he (l := m) (o := o) (v := v) (a := c - x) (b := c + y - x) (n := x) (j := j) (cv := cv) zO zO zO) hS (by show [AV.ref o v 0 l.length (some 4), .int .i64 (IntKind.i64.wrap ((c : Int) - (x : Int))), .int .i64 (IntKind.i64.wrap (IntKind.i64.wrap ((c : Int) + (y : Int)) - (x : Int))), .int .i64 x, cv] = _; rw [b0b zO, a9s zO zO, a9s zO zO, hm]) (by repeat (first | exact Spl.nil | refine Spl.cons (by repeat (first | exact Pk.here | apply Pk.there | apply Pk.skip)) ?_ | refine Spl.app (by repeat (first | exact PkC.here | apply PkC.there | apply PkC.skip)) ?_)) (fun r S L' hL hS => ?_)
   obtain ⟨m', q1, q2, rfl⟩ := hL
   refine aU ?_
   refine l6 ?_
   refine aU ?_
   refine ⟨(x, y - x, m'), ⟨i1, i2, by simp only; omega, by simp only; omega, q1.trans hp, fun k => ?_⟩, by simp only; omega, hS, k9 ⟨.refl _, .refl _, .refl _, .refl _, .refl _, .refl _, a2W (a9s zO zO), trivial⟩⟩
   simp only
   rw [q2, ← hI, c1B hlt zO, show c + (y - x) = c + y - x by omega]
 ·have he' : x = y := by simp only [bne_eq_false_iff_eq, decide_eq_false_iff_not, bne_iff_ne, ne_eq, Decidable.not_not] at hb; omega
  subst he'
  refine y8 ?_
  (repeat (first | refine o8 ?_ | refine r8 ?_ | refine s4 rfl ?_ | refine j4 ?_ | refine m0 ?_ | refine l6 ?_))
  refine aU ?_
  refine a3j (a6v he (l := m) (o := o) (v := v) (a := c - x) (b := c) (n := x) (j := j) (cv := cv) zO zO zO) hS (by show [AV.ref o v 0 l.length (some 4), .int .i64 (IntKind.i64.wrap ((c : Int) - (x : Int))), .int .i64 c, .int .i64 x, cv] = _; rw [a9s zO zO, hm]) (by repeat (first | exact Spl.nil | refine Spl.cons (by repeat (first | exact Pk.here | apply Pk.there | apply Pk.skip)) ?_ | refine Spl.app (by repeat (first | exact PkC.here | apply PkC.there | apply PkC.skip)) ?_)) (fun r S L' hL hS => ?_)
  obtain ⟨m', q1, q2, rfl⟩ := hL
  refine aU ?_
  exact ⟨trivial, _, rfl, _, ⟨m', q1.trans hp, fun k => by rw [q2, ← hI, c1C zO], rfl⟩, hS⟩
end
end Go.Proofs.YtepdcebjobjjgaaDoor

/- slices.insertionSortCmpFunc: the walk. -/
namespace Go.Ab
def c1T (a b : Int) : Int := if a < b then -1 else if a > b then 1 else 0
theorem a2c {a b : Int} : c1T a b < 0 ↔ a < b := by unfold c1T; split <;> (try split) <;> omega
universe u
variable {α : Type u} {key : α → Int} {a b : Nat} {L : List α}
def b4g (key : α → Int) (a b j : Nat) (L : List α) : Prop := ∀ p q x y, a ≤ p → p ≤ q → q < b → q ≠ j → L[p]? = some x → L[q]? = some y → key x ≤ key y
theorem b4g.of {i : Nat} (h : SrtR key a i L) : b4g key a (i + 1) i L := fun p q x y h1 h2 h3 h4 e1 e2 => h p q x y h1 h2 zO e1 e2
theorem b4g.fin0 {j : Nat} (h : b4g key a b j L) (hj : j ≤ a) : SrtR key a b L := by
 intro p q x y h1 h2 h3 e1 e2
 by_cases c : q = j
 ·have : p = q := by omega
  subst this; rw [e1] at e2; cases e2; exact Int.le_refl _
 ·exact h p q x y h1 h2 h3 c e1 e2
theorem b4g.fin1 {j : Nat} (h : b4g key a b j L) (hj : a < j) (hjb : j < b) {x y : α} (hx : L[j]? = some x) (hy : L[j - 1]? = some y) (hle : key y ≤ key x) : SrtR key a b L := by
 intro p q x' y' h1 h2 h3 e1 e2
 by_cases c : q = j
 ·subst c
  rw [hx] at e2; cases e2
  by_cases d : p = q
  ·subst d; rw [hx] at e1; cases e1; exact Int.le_refl _
  ·have := h p (q - 1) x' y h1 zO zO zO e1 hy
   omega
 ·exact h p q x' y' h1 h2 h3 c e1 e2
theorem b4g.step {j : Nat} (h : b4g key a b j L) (hj : a < j) (hjb : j < b) {x y : α} (hx : L[j]? = some x) (hy : L[j - 1]? = some y) (hlt : key x < key y) : b4g key a b (j - 1) ((L.set j y).set (j - 1) x) := by
 intro p q x' y' h1 h2 h3 h4 e1 e2
 rw [a0x hx hy] at e1 e2
 by_cases c : q = j
 ·subst c
  rw [if_neg zO, if_pos rfl, hy] at e2
  cases e2
  by_cases d : p = q - 1
  ·rw [if_pos d, hx] at e1; cases e1; omega
  ·rw [if_neg d] at e1
   by_cases d2 : p = q
   ·rw [if_pos d2, hy] at e1; cases e1; exact Int.le_refl _
   ·rw [if_neg d2] at e1
    exact h p (q - 1) x' y h1 zO zO zO e1 hy
 ·rw [if_neg h4, if_neg c] at e2
  by_cases d : p = j - 1
  ·rw [if_pos d, hx] at e1; cases e1
   exact h j q _ y' zO zO h3 c hx e2
  ·rw [if_neg d] at e1
   by_cases d2 : p = j
   ·rw [if_pos d2, hy] at e1; cases e1
    exact h (j - 1) q _ y' zO zO h3 c hy e2
   ·rw [if_neg d2] at e1
    exact h p q x' y' h1 h2 h3 c e1 e2
end Go.Ab
namespace Go.Proofs.YtepdcebjobjjgaaDoor
open Go Go.Ab
set_option maxRecDepth 20000
set_option maxHeartbeats 2000000
def c9u : FC := .reg [⟨(some 10), none, .op (.mv (.t 1))⟩,  ⟨(some 11), none, .op (.bin .none .add (.t 10) (.v (.int .i64 1)))⟩,  ⟨(some 8), none, .op (.mv (.t 11))⟩] []
def c9v : FC := .reg [⟨(some 12), none, .op (.mv (.t 8))⟩,  ⟨(some 13), none, .op (.mv (.t 2))⟩,  ⟨(some 14), none, .op (.bin .none .lss (.t 12) (.t 13))⟩] []
def c9w : FC := .cond (.t 14) FC.skip (FC.exit 0)
def c9x : FC := .seq c9v c9w
def c9y : FC := .reg [⟨(some 17), none, .op (.mv (.t 8))⟩,  ⟨(some 9), none, .op (.mv (.t 17))⟩] []
def c9z : FC := .reg [⟨(some 18), none, .op (.mv (.t 9))⟩,  ⟨(some 19), none, .op (.mv (.t 1))⟩,  ⟨(some 20), none, .op (.bin .none .gtr (.t 18) (.t 19))⟩,  ⟨(some 21), none, .op (.mv (.t 20))⟩,  ⟨(some 22), some (21, true), .op (.mv (.t 3))⟩,  ⟨(some 23), some (21, true), .op (.mv (.t 0))⟩,  ⟨(some 24), some (21, true), .op (.mv (.t 9))⟩,  ⟨(some 25), some (21, true), .op (.iad none (some 4) (.t 23) (.t 24))⟩,  ⟨(some 26), some (21, true), .op (.load (some 4) (.t 25))⟩,  ⟨(some 27), some (21, true), .op (.mv (.t 0))⟩,  ⟨(some 28), some (21, true), .op (.mv (.t 9))⟩,  ⟨(some 29), some (21, true), .op (.bin .none .sub (.t 28) (.v (.int .i64 1)))⟩,  ⟨(some 30), some (21, true), .op (.iad none (some 4) (.t 27) (.t 29))⟩,  ⟨(some 31), some (21, true), .op (.load (some 4) (.t 30))⟩,  ⟨(some 32), some (21, true), .callv (.t 22) [(.t 26), (.t 31)]⟩,  ⟨(some 33), some (21, true), .op (.bin .none .lss (.t 32) (.v (.int .i64 0)))⟩,  ⟨(some 34), none, .op (.pick (.t 21) (.t 33) (.v (.bool false)))⟩] []
def c9A : FC := .cond (.t 34) FC.skip (FC.exit 2)
def c9B : FC := .seq c9z c9A
def c9C : FC := .reg [⟨(some 37), none, .op (.mv (.t 0))⟩,  ⟨(some 38), none, .op (.mv (.t 9))⟩,  ⟨(some 39), none, .op (.mv (.t 0))⟩,  ⟨(some 40), none, .op (.mv (.t 9))⟩,  ⟨(some 41), none, .op (.bin .none .sub (.t 40) (.v (.int .i64 1)))⟩,  ⟨(some 42), none, .op (.mv (.t 0))⟩,  ⟨(some 43), none, .op (.mv (.t 9))⟩,  ⟨(some 44), none, .op (.bin .none .sub (.t 43) (.v (.int .i64 1)))⟩,  ⟨(some 45), none, .op (.iad none (some 4) (.t 42) (.t 44))⟩,  ⟨(some 46), none, .op (.load (some 4) (.t 45))⟩,  ⟨(some 47), none, .op (.mv (.t 0))⟩,  ⟨(some 48), none, .op (.mv (.t 9))⟩,  ⟨(some 49), none, .op (.iad none (some 4) (.t 47) (.t 48))⟩,  ⟨(some 50), none, .op (.load (some 4) (.t 49))⟩,  ⟨(some 51), none, .op (.iad none (some 4) (.t 37) (.t 38))⟩,  ⟨none, none, .op (.store 4 (.t 51) (.t 46))⟩,  ⟨(some 52), none, .op (.iad none (some 4) (.t 39) (.t 41))⟩,  ⟨none, none, .op (.store 4 (.t 52) (.t 50))⟩] []
def c1U : FC := .block 3 c9C
def c1V : FC := .reg [⟨(some 35), none, .op (.mv (.t 9))⟩,  ⟨(some 36), none, .op (.bin .none .sub (.t 35) (.v (.int .i64 1)))⟩,  ⟨(some 9), none, .op (.mv (.t 36))⟩] []
def c1W : FC := .seq c1U c1V
def c1X : FC := .seq c9B c1W
def c1Y : FC := .loop c1X
def c1Z : FC := .block 2 c1Y
def c2a : FC := .seq c9y c1Z
def c2b : FC := .block 1 c2a
def c2c : FC := .reg [⟨(some 15), none, .op (.mv (.t 8))⟩,  ⟨(some 16), none, .op (.bin .none .add (.t 15) (.v (.int .i64 1)))⟩,  ⟨(some 8), none, .op (.mv (.t 16))⟩] []
def c2d : FC := .seq c2b c2c
def c2e : FC := .seq c9x c2d
def c2f : FC := .loop c2e
def c2g : FC := .block 0 c2f
def c2h : FC := .seq c9u c2g
def d5s : FC := c2h
theorem d5t : Fn3 Tryd.prog 59 53 [] d5s := ⟨_, _, Tryd.func59, rfl, rfl, rfl, by kernel_rfl⟩

section
variable {α : Type} {f : α → AV} {key : α → Int}
def a9o (f : α → AV) (key : α → Int) : Prop := ∀ x y, n5 Tryd.prog 17 [f x, f y] (.int .i64 (c1T (key x) (key y)))
def cvF : AV := .fn (.func 17) [] []
theorem a8b (he : Enc f (some 4)) (hc : a9o f key) (x y : α) : Tri Tryd.prog 17 [f x, f y] [] (fun v L' => v = .int .i64 (c1T (key x) (key y)) ∧ L' = []) :=
 n5.tri (hc x y) (j6 ⟨he.blw _ 0, he.blw _ 0, trivial⟩) rfl
theorem b0Z : t6 Tryd.prog 17 = true := by kernel_rfl
theorem b1a (he : Enc f (some 4)) (hc : a9o f key) {l : List α} {o v a b : Nat} {j : List AV} (hl : l.length ≤ 1000000000) (h1 : a ≤ b) (h2 : b ≤ l.length) :
  Tri Tryd.prog 59 [.ref o v 0 l.length (some 4), .int .i64 a, .int .i64 b, cvF] [(o, v, flat f l ++ j)] (fun _ L' => ∃ l' : List α, Mv a b l l' ∧ SrtR key a b l' ∧ L' = [(o, v, flat f l' ++ j)]) := by
 refine y5 mixed d5t zS [] (fun R S hS => ?_)
 refine aU ?_
 refine k7 (a0i (σ := Nat × List α) (fun s => [(0, .ref o v 0 l.length (some 4)), (1, .int .i64 a), (2, .int .i64 b), (3, cvF), (8, .int .i64 (s.1 : Int))]) (fun s => (o, v, flat f s.2 ++ j) :: R) (fun s => a < s.1 ∧ s.1 ≤ b + 1 ∧ Mv a b l s.2 ∧ SrtR key a s.1 s.2) (fun s => b + 1 - s.1) (a + 1, l) hS ⟨Nat.lt_succ_self _, by simp only; omega, .refl, .nil (Nat.le_refl _)⟩
  (k9 ⟨.refl _, .refl _, .refl _, .refl _, a2W (a5t zO), trivial⟩) (fun s S hI hS => ?_))
 obtain ⟨i, m⟩ := s
 obtain ⟨i1, i2, hM, hI⟩ := hI
 dsimp only at i1 i2 hM hI hS
 refine aU ?_
 dsimp only
 refine o6 rfl (fun hb => ?_) (fun hb => ?_)
 ·have hlt : i < b := by simp only [decide_eq_true_eq] at hb; omega
  refine aU ?_
  refine k7 ?_
  refine aU ?_
  refine k7 (a0i (σ := Nat × List α) (fun s => [(0, .ref o v 0 l.length (some 4)), (1, .int .i64 a), (2, .int .i64 b), (3, cvF), (8, .int .i64 (i : Int)), (9, .int .i64 (s.1 : Int))]) (fun s => (o, v, flat f s.2 ++ j) :: R) (fun s => a ≤ s.1 ∧ s.1 ≤ i ∧ Mv a b l s.2 ∧ b4g key a (i + 1) s.1 s.2) (fun s => s.1) (i, m) hS ⟨by simp only; omega, Nat.le_refl _, hM, .of hI⟩
   (k9 ⟨.refl _, .refl _, .refl _, .refl _, .refl _, .refl _, trivial⟩) (fun s S hI hS => ?_))
  obtain ⟨k, m⟩ := s
  obtain ⟨k1, k2, hM, hI⟩ := hI
  dsimp only at k1 k2 hM hI hS
  have hm := hM.len
  refine aU ?_
  refine m6 (b := decide ((k : Int) > (a : Int))) rfl rfl rfl (fun hb => ?_) (fun hb => ?_)
  ·have hak : a < k := by simp only [decide_eq_true_eq] at hb; omega
   obtain ⟨x, hx⟩ : ∃ x, m[k]? = some x := ⟨m[k], List.getElem?_eq_getElem zO⟩
   obtain ⟨y, hy⟩ : ∃ y, m[k - 1]? = some y := ⟨m[k - 1], List.getElem?_eq_getElem zO⟩
   have w1 : IntKind.i64.wrap ((k : Int) - 1) = ((k - 1 : Nat) : Int) := b8O zO zO
   refine aU ?_
   refine x3 rfl rfl k rfl zO (oH ?_)
   refine a0T hS he rfl zM (n := k) (fo := 0) (y := x) (by simp [f5]) hx (he.part x) ?_
   refine aU ?_
   refine x3 rfl rfl (k - 1) w1 zO (oH ?_)
   refine a0T hS he rfl zM (n := k - 1) (fo := 0) (y := y) (by simp [f5]) hy (he.part y) (oH ?_)
   refine a2G (a8b he hc x y) hS rfl b0Z rfl (by repeat (first | exact Spl.nil | refine Spl.cons (by repeat (first | exact Pk.here | apply Pk.there | apply Pk.skip)) ?_ | refine Spl.app (by repeat (first | exact PkC.here | apply PkC.there | apply PkC.skip)) ?_)) (fun r S L' hL hS => ?_)
   obtain ⟨rfl, rfl⟩ := hL
   refine aU ?_
   refine o6 rfl (fun hb => ?_) (fun hb => ?_)
   ·have hlt2 : key x < key y := by simp only [decide_eq_true_eq] at hb; exact a2c.1 hb
    refine aU ?_
    refine k7 ?_
    refine aU ?_
    refine x3 rfl rfl (k - 1) w1 zO ?_
    refine a0T hS he rfl zM (n := k - 1) (fo := 0) (y := y) (by simp [f5]) hy (he.part y) ?_
    refine aU ?_
    refine x3 rfl rfl k rfl zO ?_
    refine a0T hS he rfl zM (n := k) (fo := 0) (y := x) (by simp [f5]) hx (he.part x) ?_
    refine x3 rfl rfl k rfl zO ?_
    refine a4M (l := m) (j := j) hS he rfl zC (n := k) (fo := 0) (y := x) (y' := y) (by simp [f5]) hx (by first | exact Rp.here | (repeat (first | exact Rp.here | apply Rp.there | apply Rp.skip))) (he.sz _) (he.one _) (by simp [f5]) (by rw [a0Q (he.sz _) (he.sz _)]) (fun S hS => ?_)
    refine x3 rfl rfl (k - 1) w1 zO ?_
    refine a4M (l := m.set k y) (j := j) hS he rfl zC (n := k - 1) (fo := 0) (y := y) (y' := x) (by simp [f5]) (by rw [List.getElem?_set_ne zO]; exact hy) (by first | exact Rp.here | (repeat (first | exact Rp.here | apply Rp.there | apply Rp.skip))) (he.sz _) (he.one _) (by simp [f5]) (by rw [a0Q (he.sz _) (he.sz _)]) (fun S hS => ?_)
    refine aU ?_
    refine l6 ?_
    refine aU ?_
    refine ⟨(k - 1, (m.set k y).set (k - 1) x), ⟨by simp only; omega, by simp only; omega, hM.trans (.swap hx hy zO zO zO zO), hI.step hak zO hx hy hlt2⟩, by simp only; omega, hS, k9 ⟨.refl _, .refl _, .refl _, .refl _, .refl _, a2W w1, trivial⟩⟩
   ·have hge : key y ≤ key x := by simp only [decide_eq_false_iff_not] at hb; have := mt a2c.2 hb; omega
    refine y8 ?_
    (repeat (first | refine o8 ?_ | refine r8 ?_ | refine s4 rfl ?_ | refine j4 ?_ | refine m0 ?_ | refine l6 ?_))
    refine aU ?_
    refine ⟨(i + 1, m), ⟨by simp only; omega, by simp only; omega, hM, hI.fin1 hak zO hx hy hge⟩, by simp only; omega, hS, k9 ⟨.refl _, .refl _, .refl _, .refl _, a2W (a5t zO), trivial⟩⟩
  ·have hak : k ≤ a := by simp only [decide_eq_false_iff_not, decide_eq_true_eq, Bool.not_true] at hb; omega
   refine aU ?_
   refine o6 (t := false) rfl (fun hb => by cases hb) (fun _ => ?_)
   refine y8 ?_
   (repeat (first | refine o8 ?_ | refine r8 ?_ | refine s4 rfl ?_ | refine j4 ?_ | refine m0 ?_ | refine l6 ?_))
   refine aU ?_
   refine ⟨(i + 1, m), ⟨by simp only; omega, by simp only; omega, hM, hI.fin0 hak⟩, by simp only; omega, hS, k9 ⟨.refl _, .refl _, .refl _, .refl _, a2W (a5t zO), trivial⟩⟩
 ·have hge : b ≤ i := by simp only [decide_eq_false_iff_not] at hb; omega
  refine y8 ?_
  (repeat (first | refine o8 ?_ | refine r8 ?_ | refine s4 rfl ?_ | refine j4 ?_ | refine m0 ?_ | refine l6 ?_))
  exact ⟨trivial, _, rfl, _, ⟨m, hM, hI.sub (Nat.le_refl _) hge, rfl⟩, hS⟩
end
end Go.Proofs.YtepdcebjobjjgaaDoor

