/- The parts of order.Spans: the walks. -/
import Derived.Test.YtepdcebjobjjgaaDoorGenO
import Derived.Test.YtepdcebjobjjgaaDoorLvC2
import Derived.Test.YtepdcebjobjjgaaDoorWlTz
import Derived.Test.YtepdcebjobjjgaaDoorGenBa
import Derived.Test.YtepdcebjobjjgaaDoorRows
set_option linter.unusedVariables false
set_option linter.unusedSimpArgs false
namespace Go.Proofs.YtepdcebjobjjgaaDoor
open Go Go.Ab
set_option maxRecDepth 20000
set_option maxHeartbeats 2000000
def c8f : FC := .reg [⟨(some 7), none, .op (.mv (.t 1))⟩,  ⟨(some 8), none, .op (.len .sl (.t 7))⟩,  ⟨(some 9), none, .op (.mv (.v (.int .i64 0)))⟩] []
def c8g : FC := .reg [⟨(some 11), none, .op (.iad none none (.t 7) (.t 9))⟩,  ⟨(some 12), none, .op (.load none (.t 11))⟩,  ⟨(some 6), none, .op (.mv (.t 12))⟩] []
def c8h : FC := .reg [⟨(some 13), none, .op (.load none (.t 2))⟩,  ⟨(some 14), none, .op (.mv (.t 6))⟩,  ⟨(some 15), none, .op (.load none (.t 2))⟩,  ⟨(some 16), none, .op (.mv (.t 6))⟩,  ⟨(some 17), none, .op (.load none (.t 2))⟩,  ⟨(some 18), none, .op (.mv (.t 6))⟩,  ⟨(some 19), none, .op (.iad none (some 4) (.t 17) (.t 18))⟩,  ⟨(some 20), none, .op (.fad 1 (.t 19))⟩,  ⟨(some 21), none, .op (.load none (.t 20))⟩,  ⟨(some 22), none, .op (.mv (.t 0))⟩,  ⟨(some 23), none, .op (.mn false (.t 21) (.t 22))⟩,  ⟨(some 24), none, .op (.load none (.t 2))⟩,  ⟨(some 25), none, .op (.mv (.t 6))⟩,  ⟨(some 26), none, .op (.iad none (some 4) (.t 24) (.t 25))⟩,  ⟨(some 27), none, .op (.fad 2 (.t 26))⟩,  ⟨(some 28), none, .op (.load none (.t 27))⟩,  ⟨(some 29), none, .op (.mv (.t 0))⟩,  ⟨(some 30), none, .op (.mn true (.t 28) (.t 29))⟩,  ⟨(some 31), none, .op (.iad none (some 4) (.t 13) (.t 14))⟩,  ⟨(some 32), none, .op (.fad 1 (.t 31))⟩,  ⟨none, none, .op (.store 1 (.t 32) (.t 23))⟩,  ⟨(some 33), none, .op (.iad none (some 4) (.t 15) (.t 16))⟩,  ⟨(some 34), none, .op (.fad 2 (.t 33))⟩,  ⟨none, none, .op (.store 1 (.t 34) (.t 30))⟩] [(2, 20)]
def c8i : FC := .seq c8g c8h
def c8j : FC := .loop (.seq (.reg [⟨(some 10), none, .op (.bin .none .lss (.t 9) (.t 8))⟩] []) (.seq (.cond (.t 10) .skip (.exit 0)) (.seq (.block 1 c8i) (.reg [⟨(some 35), none, .op (.bin .none .add (.t 9) (.v (.int .i64 1)))⟩,  ⟨(some 9), none, .op (.mv (.t 35))⟩] []))))
def c8k : FC := .block 0 c8j
def c8l : FC := .seq c8f c8k
def d4d : FC := c8l
theorem d4e : Fn3 Tryd.prog 30 36 [] d4d := ⟨_, _, Tryd.func30, rfl, rfl, rfl, by kernel_rfl⟩
def c8m : FC := .reg [⟨(some 4), none, .op (.mv (.v (.int .i64 0)))⟩] []
def c8n : FC := .reg [⟨(some 6), none, .op (.mv (.t 0))⟩,  ⟨(some 7), none, .op (.len .sl (.t 6))⟩,  ⟨(some 8), none, .op (.mv (.v (.int .i64 0)))⟩] []
def c8o : FC := .reg [⟨(some 10), none, .op (.mv (.t 8))⟩,  ⟨(some 5), none, .op (.mv (.t 10))⟩] []
def c8p : FC := .reg [⟨(some 11), none, .op (.mv (.t 1))⟩,  ⟨(some 12), none, .op (.mv (.t 0))⟩,  ⟨(some 13), none, .op (.mv (.t 5))⟩,  ⟨(some 14), none, .op (.iad none (some 4) (.t 12) (.t 13))⟩,  ⟨(some 15), none, .op (.load (some 4) (.t 14))⟩,  ⟨(some 16), none, .callv (.t 11) [(.t 15)]⟩] []
def c8q : FC := .reg [⟨(some 17), none, .op (.mv (.t 5))⟩,  ⟨(some 4), none, .op (.mv (.t 17))⟩] []
def c8r : FC := .seq c8q FC.ret
def c8s : FC := .cond (.t 16) c8r FC.skip
def c8t : FC := .seq c8p c8s
def c8u : FC := .seq c8o c8t
def c0a : FC := .loop (.seq (.reg [⟨(some 9), none, .op (.bin .none .lss (.t 8) (.t 7))⟩] []) (.seq (.cond (.t 9) .skip (.exit 0)) (.seq (.block 1 c8u) (.reg [⟨(some 18), none, .op (.bin .none .add (.t 8) (.v (.int .i64 1)))⟩,  ⟨(some 8), none, .op (.mv (.t 18))⟩] []))))
def c0b : FC := .block 0 c0a
def c0c : FC := .seq c8n c0b
def c0d : FC := .reg [⟨(some 4), none, .op (.mv (.v (.int .i64 (-1))))⟩] []
def c0e : FC := .seq c0d FC.ret
def c0f : FC := .seq c0c c0e
def c0g : FC := .seq c8m c0f
def d4f : FC := c0g
theorem d4g : Fn3 Tryd.prog 58 19 [(4, none)] d4f := ⟨_, _, Tryd.func58, rfl, rfl, rfl, by kernel_rfl⟩
def c8v : FC := .reg [⟨(some 4), none, .op (.mv (.v .nils))⟩] []
def c8w : FC := .reg [⟨(some 8), none, .op (.mv (.t 0))⟩,  ⟨(some 9), none, .op (.mv (.t 1))⟩,  ⟨(some 10), none, .call 58 [(.t 8), (.t 9)]⟩,  ⟨(some 5), none, .op (.mv (.t 10))⟩] []
def c8x : FC := .reg [⟨(some 11), none, .op (.mv (.t 5))⟩,  ⟨(some 12), none, .op (.bin .none .eql (.t 11) (.v (.int .i64 (-1))))⟩] []
def c8y : FC := .reg [⟨(some 13), none, .op (.mv (.t 0))⟩,  ⟨(some 4), none, .op (.mv (.t 13))⟩] []
def c8z : FC := .seq c8y FC.ret
def c8A : FC := .cond (.t 12) c8z FC.skip
def c8B : FC := .seq c8x c8A
def c8C : FC := .reg [⟨(some 14), none, .op (.mv (.t 5))⟩,  ⟨(some 15), none, .op (.bin .none .add (.t 14) (.v (.int .i64 1)))⟩,  ⟨(some 6), none, .op (.mv (.t 15))⟩] []
def c8D : FC := .reg [⟨(some 16), none, .op (.mv (.t 6))⟩,  ⟨(some 17), none, .op (.mv (.t 0))⟩,  ⟨(some 18), none, .op (.len .sl (.t 17))⟩,  ⟨(some 19), none, .op (.bin .none .lss (.t 16) (.t 18))⟩] []
def c0h : FC := .cond (.t 19) FC.skip (FC.exit 0)
def c0i : FC := .seq c8D c0h
def c0j : FC := .reg [⟨(some 22), none, .op (.mv (.t 0))⟩,  ⟨(some 23), none, .op (.mv (.t 6))⟩,  ⟨(some 24), none, .op (.iad none (some 4) (.t 22) (.t 23))⟩,  ⟨(some 25), none, .op (.load (some 4) (.t 24))⟩,  ⟨(some 7), none, .op (.new [(.int .i64 0), (.int .i64 0), (.int .i64 0), (.bool false)])⟩,  ⟨none, none, .op (.store 4 (.t 7) (.t 25))⟩] []
def c0k : FC := .reg [⟨(some 26), none, .op (.mv (.t 1))⟩,  ⟨(some 27), none, .op (.load (some 4) (.t 7))⟩,  ⟨(some 28), none, .callv (.t 26) [(.t 27)]⟩,  ⟨(some 29), none, .op (.un .not (.t 28))⟩] []
def c0l : FC := .reg [⟨(some 30), none, .op (.mv (.t 0))⟩,  ⟨(some 31), none, .op (.mv (.t 5))⟩,  ⟨(some 32), none, .op (.load (some 4) (.t 7))⟩,  ⟨(some 33), none, .op (.iad none (some 4) (.t 30) (.t 31))⟩,  ⟨none, none, .op (.store 4 (.t 33) (.t 32))⟩] []
def c0m : FC := .reg [⟨(some 34), none, .op (.mv (.t 5))⟩,  ⟨(some 35), none, .op (.bin .none .add (.t 34) (.v (.int .i64 1)))⟩,  ⟨(some 5), none, .op (.mv (.t 35))⟩] []
def c0n : FC := .seq c0l c0m
def c0o : FC := .cond (.t 29) c0n FC.skip
def c0p : FC := .seq c0k c0o
def c0q : FC := .seq c0j c0p
def c0r : FC := .block 1 c0q
def c0s : FC := .reg [⟨(some 20), none, .op (.mv (.t 6))⟩,  ⟨(some 21), none, .op (.bin .none .add (.t 20) (.v (.int .i64 1)))⟩,  ⟨(some 6), none, .op (.mv (.t 21))⟩] []
def c0t : FC := .seq c0r c0s
def c0u : FC := .seq c0i c0t
def c0v : FC := .loop c0u
def c0w : FC := .block 0 c0v
def c0x : FC := .seq c8C c0w
def c0y : FC := .reg [⟨(some 36), none, .op (.mv (.t 0))⟩,  ⟨(some 37), none, .op (.mv (.t 5))⟩,  ⟨(some 38), none, .op (.slc (some 4) (.t 36) (some (.t 37)) none none)⟩,  ⟨none, none, .op (.clr (some 4) [(.int .i64 0), (.int .i64 0), (.int .i64 0), (.bool false)] (.t 38))⟩] []
def c0z : FC := .reg [⟨(some 39), none, .op (.mv (.t 0))⟩,  ⟨(some 40), none, .op (.mv (.t 5))⟩,  ⟨(some 41), none, .op (.slc (some 4) (.t 39) none (some (.t 40)) none)⟩,  ⟨(some 4), none, .op (.mv (.t 41))⟩] []
def c0A : FC := .seq c0z FC.ret
def c0B : FC := .seq c0y c0A
def c0C : FC := .seq c0x c0B
def c0D : FC := .seq c8B c0C
def c0E : FC := .seq c8w c0D
def c0F : FC := .seq c8v c0E
def d4h : FC := c0F
theorem d4i : Fn3 Tryd.prog 34 42 [(4, none)] d4h := ⟨_, _, Tryd.func34, rfl, rfl, rfl, by kernel_rfl⟩

def wk1 (a : Int) (x : b7) : b7 := ⟨x.Place, if a < x.From then a else x.From, if a > x.To then a else x.To, x.Held⟩
def wkP (a : Int) (all : List b7) (p : Int) : List b7 := all.modify p.toNat (wk1 a)
theorem b3v (a : Int) (all : List b7) (p : Int) : (wkP a all p).length = all.length := by unfold wkP; simp
theorem a2J (a : Int) : ∀ (ps : List Int) (all : List b7), (ps.foldl (wkP a) all).length = all.length
 | [], _ => rfl
 | p :: ps, all => by rw [List.foldl_cons, a2J a ps, b3v]
theorem a7h {α : Type} {l : List α} {i : Nat} {x : α} {f : α → α} (h : l[i]? = some x) : l.modify i f = l.set i (f x) := by
 apply List.ext_getElem?
 intro k
 have hi := (List.getElem?_eq_some_iff.1 h).1
 rw [List.getElem?_modify, List.getElem?_set]
 by_cases e : i = k
 ·subst e; rw [if_pos rfl, if_pos hi, h]; simp
 ·rw [if_neg e]; simp [e]
theorem a7S {all : List b7} {oc oa va : Nat} {a : Int} {ps : List Int} (hp : ∀ p ∈ ps, 0 ≤ p ∧ p < all.length) (hl : ps.length ≤ 4611686018427387904) :
  Tri Tryd.prog 30 [.int .i64 a, .sl false 1 (ps.map (avI .i64)), .ptr oc 0 0] [(oc, 0, [.ref oa va 0 all.length (some 4)]), (oa, va, flat b7.av all)]
   (fun _ L' => L' = [(oc, 0, [.ref oa va 0 all.length (some 4)]), (oa, va, flat b7.av (ps.foldl (wkP a) all))]) := by
 refine y6 mixed d4e zS [] (fun R S hS => ?_)
 have hne : oa ≠ oc := by
  have := hS.2
  simp at this
  intro e; exact this.1.1 e.symm
 refine aU ?_
 refine a6c ps.length (fun s : List b7 => [(0, .int .i64 a), (7, .sl false 1 (ps.map (avI .i64))), (2, .ptr oc 0 0)]) (fun s => (oc, 0, [.ref oa va 0 all.length (some 4)]) :: (oa, va, flat b7.av s) :: R) (fun i s => s.length = all.length ∧ (ps.drop i).foldl (wkP a) s = ps.foldl (wkP a) all) all hS ⟨rfl, rfl⟩
  (k9 ⟨.refl _, .refl _, .refl _, .refl _, .refl _, trivial⟩) hl zD zD (fun _ => ⟨rfl, rfl, rfl, rfl⟩) (fun i s S hi hI hS => ?_) (fun s fr' S hI hS hw => ?_)
 ·obtain ⟨hsl, hI⟩ := hI
  obtain ⟨p, hpi⟩ : ∃ p, ps[i]? = some p := ⟨ps[i], List.getElem?_eq_getElem hi⟩
  obtain ⟨hp0, hp1⟩ := hp p (List.mem_of_getElem? hpi)
  obtain ⟨x, hx⟩ : ∃ x, s[p.toNat]? = some x := ⟨s[p.toNat]'zO, List.getElem?_eq_getElem _⟩
  refine aU ?_
  refine m7 rfl rfl (a7g hpi) ?_
  refine oP (.int .i64 p) ?_
  refine aU ?_
  refine a3X ?_
  have h11 : (oc, 0, [AV.ref oa va 0 all.length (some 4)]) ∈ (oc, 0, [AV.ref oa va 0 all.length (some 4)]) :: (oa, va, flat b7.av s) :: R := .head _
  refine y7 hS rfl zM rfl ?_
  refine a3Y zC ?_
  refine y7 hS rfl zM rfl ?_
  refine a3Y zC ?_
  refine y7 hS rfl zM rfl ?_
  refine a3Y zC ?_
  refine p8 rfl rfl ⟨by omega, by omega⟩ ?_
  refine aS ?_
  refine a7b hS b7.enc rfl zM (n := p.toNat) (fo := 1) (y := x) (v := .int .i64 x.From) (by simp [f4]) hx rfl ?_
  refine aS ?_
  refine y7 hS rfl zM rfl ?_
  refine a3Y zC ?_
  refine p8 rfl rfl ⟨by omega, by omega⟩ ?_
  refine aS ?_
  refine a7b hS b7.enc rfl zM (n := p.toNat) (fo := 2) (y := x) (v := .int .i64 x.To) (by simp [f4]) hx rfl ?_
  refine aS ?_
  refine p8 rfl rfl ⟨by omega, by omega⟩ ?_
  refine aS ?_
  refine a4g hS b7.enc rfl zC (n := p.toNat) (fo := 1) (y := x) (y' := ⟨x.Place, if a < x.From then a else x.From, x.To, x.Held⟩) (by simp [f4]) hx (by first | exact Rp.here | (repeat (first | exact Rp.here | apply Rp.there | apply Rp.skip))) rfl rfl (by simp [f4]) rfl (fun S hS => ?_)
  refine p8 rfl rfl ⟨by omega, by omega⟩ ?_
  refine aS ?_
  refine a4g (l := s.set p.toNat ⟨x.Place, if a < x.From then a else x.From, x.To, x.Held⟩) hS b7.enc rfl zC (n := p.toNat) (fo := 2) (y := ⟨x.Place, if a < x.From then a else x.From, x.To, x.Held⟩) (y' := wk1 a x) (by simp [f4]) (by rw [List.getElem?_set_self zO]) (by first | exact Rp.here | (repeat (first | exact Rp.here | apply Rp.there | apply Rp.skip))) rfl rfl (by simp [f4]) rfl (fun S hS => ?_)
  refine b6 ?_
  refine And.intro (by simp [a1t, a6K, a0S, a1P, hne]) ?_
  have hw : wkP a s p = s.set p.toNat (wk1 a x) := a7h hx
  refine R_n (wkP a s p) ⟨by rw [b3v]; exact hsl, ?_⟩ (by rw [hw]; simpa using hS) (k9 ⟨.refl _, .refl _, .refl _, .refl _, .refl _, trivial⟩)
  rw [a4a hpi, List.foldl_cons] at hI
  exact hI
 ·obtain ⟨hsl, hI⟩ := hI
  rw [List.drop_length] at hI
  simp only [List.foldl_nil] at hI
  subst hI
  (repeat (first | refine n8 ?_ | refine r8 ?_ | refine s4 rfl ?_ | refine j4 ?_ | refine l6 ?_ | refine k8 ?_))
  exact ⟨trivial, _, rfl, _, rfl, hS⟩
def a8i (x : b7) : Bool := decide (x.To < 0)
theorem b3w (x : b7) : n5 Tryd.prog 35 [(b7.av x)] (.bool (a8i x)) := a5o rfl
theorem b6j : p9 Tryd.prog 35 = true := by kernel_rfl
def ixV (all : List b7) : Int := match all.findIdx? a8i with | some i => (i : Int) | none => -1
theorem b3x {all : List b7} {oa va : Nat} (hl : all.length ≤ 4611686018427387904) :
  Tri Tryd.prog 58 [.ref oa va 0 all.length (some 4), .fn (.func 35) [] []] [(oa, va, flat b7.av all)] (fun r L' => r = .int .i64 (ixV all) ∧ L' = [(oa, va, flat b7.av all)]) := by
 refine y6 mixed d4g zS [] (fun R S hS => ?_)
 refine aU ?_
 refine a6c all.length (fun _ : Unit => [(0, .ref oa va 0 all.length (some 4)), (1, .fn (.func 35) [] [])]) (fun _ => (oa, va, flat b7.av all) :: R) (fun i _ => ∀ k, k < i → ∀ x, all[k]? = some x → a8i x = false) () hS (fun k hk => absurd hk (Nat.not_lt_zero k))
  (k9 ⟨.refl _, .refl _, .refl _, .refl _, trivial⟩) hl zD zD (fun _ => ⟨rfl, rfl, rfl, rfl⟩) (fun i s S hi hI hS => ?_) (fun s fr' S hI hS hw => ?_)
 ·obtain ⟨x, hx⟩ : ∃ x, all[i]? = some x := ⟨all[i], List.getElem?_eq_getElem hi⟩
  refine aU ?_
  refine p8 rfl rfl ⟨by omega, by omega⟩ ?_
  refine a7b hS b7.enc rfl zM (n := i) (fo := 0) (y := x) (v := b7.av x) (by simp [f4]) hx rfl ?_
  refine a7G rfl b6j (b3w x) rfl ⟨(.refl _), trivial⟩ (j5 ⟨(b7.enc.blw _ 0), trivial⟩) rfl ?_
  refine aU ?_
  refine n6 rfl (fun hb => ?_) (fun hb => ?_)
  ·refine aU ?_
   refine i9 ?_
   (repeat (first | refine n8 ?_ | refine r8 ?_ | refine s4 rfl ?_ | refine j4 ?_ | refine l6 ?_ | refine k8 ?_))
   refine R_r ?_
   (repeat (first | refine n8 ?_ | refine r8 ?_ | refine s4 rfl ?_ | refine j4 ?_ | refine l6 ?_ | refine k8 ?_))
   refine ⟨trivial, _, rfl, _, ⟨?_, rfl⟩, hS⟩
   have : all.findIdx? a8i = some i := by
    rw [List.findIdx?_eq_some_iff_getElem]
    obtain ⟨h1, h2⟩ := List.getElem?_eq_some_iff.1 hx
    refine ⟨h1, by rw [h2]; exact hb, fun k hk => ?_⟩
    have := hI k hk _ (List.getElem?_eq_getElem zO)
    simp [this]
   simp only [ixV, this]; rfl
  ·refine aU ?_
   refine R_n () (fun k hk y hy => ?_) hS (k9 ⟨.refl _, .refl _, .refl _, .refl _, trivial⟩)
   by_cases e : k = i
   ·subst e; rw [hx] at hy; cases hy; exact hb
   ·exact hI k zO y hy
 ·refine a5i hw ?_
  refine aU ?_
  refine i9 ?_
  refine ⟨trivial, _, rfl, _, ⟨?_, rfl⟩, hS⟩
  have : all.findIdx? a8i = none := by
   rw [List.findIdx?_eq_none_iff]
   intro x hx
   obtain ⟨k, hk, rfl⟩ := List.mem_iff_getElem.1 hx
   exact hI k hk _ (List.getElem?_eq_getElem hk)
  simp only [ixV, this]; rfl
structure d4j (all c : List b7) (i k : Nat) : Prop where
 len : c.length = all.length
 ik : i < k
 ki : k ≤ all.length
 fst : c.take i = (all.take k).filter (fun x => !a8i x)
 rst : c.drop k = all.drop k
def d4k (all : List b7) (oa va : Nat) (r : AV) (L' : List It) : Prop := ∃ j, r = .ref oa va 0 (all.filter fun x => !a8i x).length (some 4) ∧ L' = [(oa, va, flat b7.av (all.filter fun x => !a8i x) ++ j)] ∧ a1N 0 j = true ∧ j.all AV.one = true
theorem b7j {all : List b7} {oa va : Nat} (hl : all.length ≤ 4096) :
  Tri Tryd.prog 34 [.ref oa va 0 all.length (some 4), .fn (.func 35) [] []] [(oa, va, flat b7.av all)] (d4k all oa va) := by
 refine y6 mixed d4i zS [7] (fun R S hS => ?_)
 refine aU ?_
 refine a4f (b3x zO) hS rfl (by repeat (first | exact Spl.nil | refine Spl.cons (by repeat (first | exact Pk.here | apply Pk.there | apply Pk.skip)) ?_ | refine Spl.app (by repeat (first | exact PkC.here | apply PkC.there | apply PkC.skip)) ?_)) (fun v S L' hv hS => ?_)
 obtain ⟨rfl, rfl⟩ := hv
 refine aU ?_
 cases hi : all.findIdx? a8i with
 | none =>
   have e : ixV all = -1 := by simp only [ixV, hi]
   rw [e]
   refine b1g rfl ?_
   refine aU ?_
   refine i9 ?_
   (repeat (first | refine n8 ?_ | refine r8 ?_ | refine s4 rfl ?_ | refine j4 ?_ | refine l6 ?_ | refine k8 ?_))
   rw [List.findIdx?_eq_none_iff] at hi
   have hf : (all.filter fun x => !a8i x) = all := List.filter_eq_self.2 (fun x hx => by rw [hi x hx]; rfl)
   exact ⟨trivial, _, rfl, _, ⟨[], by rw [hf]; rfl, by rw [hf, List.append_nil], rfl, rfl⟩, hS⟩
 | some i0 =>
   have e : ixV all = (i0 : Int) := by simp only [ixV, hi]
   rw [e]
   rw [List.findIdx?_eq_some_iff_getElem] at hi
   obtain ⟨hi0, hg0, hlt0⟩ := hi
   refine b2r (by simp [ev, Fr.get]) ?_
   refine aU ?_
   have hwi : IntKind.i64.wrap ((i0 : Int) + 1) = ((i0 + 1 : Nat) : Int) := by rw [s3 zO]; omega
   refine j7 (a0e (σ := List b7 × Nat × Nat) (fun s => [(0, .ref oa va 0 all.length (some 4)), (1, .fn (.func 35) [] []), (5, .int .i64 s.2.1), (6, .int .i64 s.2.2)]) (fun s => (oa, va, flat b7.av s.1) :: R) (fun s => d4j all s.1 s.2.1 s.2.2) (fun s => all.length - s.2.2) (all, i0, i0 + 1) hS ?_
    (k9 ⟨.refl _, .refl _, .refl _, by rw [← hwi]; exact .refl _, trivial⟩) (fun s S hI hS => ?_))
   ·refine ⟨rfl, Nat.lt_succ_self _, hi0, ?_, rfl⟩
    rw [List.take_succ_eq_append_getElem hi0, List.filter_append]
    have h1 : (all.take i0).filter (fun x => !a8i x) = all.take i0 := List.filter_eq_self.2 (fun x hx => by
     obtain ⟨k, hk, rfl⟩ := List.mem_iff_getElem.1 hx
     have hk' : k < i0 := by rw [List.length_take] at hk; omega
     rw [List.getElem_take]
     have := hlt0 k hk'
     simp at this; simp [this])
    rw [h1]
    simp [hg0]
   ·obtain ⟨c, i, k⟩ := s
    dsimp only at hI hS
    refine aU ?_
    dsimp only
    refine n6 rfl (fun hb => ?_) (fun hb => ?_)
    ·have hk : k < all.length := by simpa using hb
     obtain ⟨x, hx⟩ : ∃ x, all[k]? = some x := ⟨all[k], List.getElem?_eq_getElem hk⟩
     have hcx : c[k]? = some x := by
      have := congrArg (fun l => l[0]?) hI.rst
      simp only [List.getElem?_drop, Nat.add_zero] at this
      rw [this]; exact hx
     have hwk : IntKind.i64.wrap ((k : Int) + 1) = ((k + 1 : Nat) : Int) := by rw [s3 zO]; omega
     have hwi2 : IntKind.i64.wrap ((i : Int) + 1) = ((i + 1 : Nat) : Int) := by have := hI.ik; rw [s3 zO]; omega
     have htk : all.take (k + 1) = all.take k ++ [x] := by
      obtain ⟨h1, h2⟩ := List.getElem?_eq_some_iff.1 hx
      rw [List.take_succ_eq_append_getElem h1, h2]
     have hlen := hI.len
     have hik := hI.ik
     refine aU ?_
     refine j7 ?_
     refine aU ?_
     refine p8 rfl rfl ⟨by omega, by omega⟩ ?_
     refine a7b hS b7.enc rfl zM (n := k) (fo := 0) (y := x) (v := b7.av x) (by simp [f4]) hcx rfl ?_
     refine b1m hS rfl (fun o7 S hS => ?_)
     refine E_stS hS rfl zC (by first | exact Rp.here | (repeat (first | exact Rp.here | apply Rp.there | apply Rp.skip))) rfl rfl (by first | exact Nat.le_of_ble_eq_true rfl | (simp; omega) | omega) (fun S hS => ?_)
     refine aU ?_
     replace hS : Sep S ((o7, 0, (b7.av x).cells) :: (oa, va, flat b7.av c) :: R) := hS
     refine y7 hS rfl zM (v := b7.av x) rfl ?_
     refine a7G rfl b6j (b3w x) rfl ⟨(.refl _), trivial⟩ (j5 ⟨(b7.enc.blw _ 0), trivial⟩) rfl ?_
     refine aU ?_
     cases hgx : a8i x with
     | true =>
       refine b2r rfl ?_
       refine aU ?_
       (repeat (first | refine n8 ?_ | refine r8 ?_ | refine s4 rfl ?_ | refine j4 ?_ | refine l6 ?_ | refine k8 ?_))
       refine aU ?_
       refine ⟨(c, i, k + 1), ⟨hlen, by simp only; omega, hk, ?_, ?_⟩, by simp only; omega, hS.sub (List.sublist_cons_self _ _), k9 ⟨.refl _, .refl _, .refl _, by simp only; rw [← hwk]; exact .refl _, trivial⟩⟩
       ·rw [htk, List.filter_append, hI.fst]; simp [hgx]
       ·have := congrArg (List.drop 1) hI.rst
        simpa [List.drop_drop] using this
     | false =>
       refine b1g rfl ?_
       refine aU ?_
       refine y7 hS rfl zM (v := b7.av x) rfl ?_
       obtain ⟨y, hy⟩ : ∃ y, c[i]? = some y := ⟨c[i]'zO, List.getElem?_eq_getElem _⟩
       refine p8 rfl rfl ⟨by omega, by omega⟩ ?_
       refine a4g (l := c) hS b7.enc rfl zC (n := i) (fo := 0) (y := y) (y' := x) (by simp [f4]) hy (by first | exact Rp.here | (repeat (first | exact Rp.here | apply Rp.there | apply Rp.skip))) rfl rfl (by simp [f4]) rfl (fun S hS => ?_)
       refine aU ?_
       (repeat (first | refine n8 ?_ | refine r8 ?_ | refine s4 rfl ?_ | refine j4 ?_ | refine l6 ?_ | refine k8 ?_))
       refine aU ?_
       refine ⟨(c.set i x, i + 1, k + 1), ⟨by simp [hlen], by simp only; omega, hk, ?_, ?_⟩, by simp only; omega, hS.sub (List.sublist_cons_self _ _), k9 ⟨.refl _, .refl _, by simp only; rw [← hwi2]; exact .refl _, by simp only; rw [← hwk]; exact .refl _, trivial⟩⟩
       ·rw [htk, List.filter_append, ← hI.fst]
        rw [List.take_succ_eq_append_getElem zE, List.take_set_of_le (Nat.le_refl _)]
        simp [hgx]
       ·simp only; rw [List.drop_set_of_lt zO]
        have := congrArg (List.drop 1) hI.rst
        simpa [List.drop_drop] using this
    ·have hk : k = all.length := by have := hI.ki; simp at hb; omega
     subst hk
     refine x6 ?_
     (repeat (first | refine n8 ?_ | refine r8 ?_ | refine s4 rfl ?_ | refine j4 ?_ | refine l6 ?_ | refine k8 ?_))
     refine aU ?_
     have hik := hI.ik
     have hlen := hI.len
     refine a6W (a := i) (b := all.length) rfl (by simp [evO, ev, Fr.get, loN]) rfl ⟨by omega, by omega, .inr hik⟩ ?_
     have hfst : c.take i = all.filter (fun x => !a8i x) := by rw [hI.fst, List.take_length]
     have hfl : (all.filter fun x => !a8i x).length = i := by rw [← hfst, List.length_take]; omega
     have hsp : splice (flat b7.av c) (0 + i * f4 (some 4)) (repl (all.length - i) [(.int .i64 0), (.int .i64 0), (.int .i64 0), (.bool false)]) = flat b7.av (all.filter fun x => !a8i x) ++ repl (all.length - i) [(.int .i64 0), (.int .i64 0), (.int .i64 0), (.bool false)] := by
      have e1 : flat b7.av c = flat b7.av (c.take i) ++ flat b7.av (c.drop i) := by rw [← a0c, List.take_append_drop]
      have e2 : 0 + i * f4 (some 4) = (flat b7.av (c.take i)).length := by rw [b7.enc.length, hfst, hfl]; omega
      rw [e1, e2, a4H _ _ _ (by rw [a0v, b7.enc.length, List.length_drop, hlen]; simp [f4]), hfst]
     refine c7y hS rfl zO rfl (by rw [hsp]; exact Rp.here) (fun S hS => ?_)
     refine aU ?_
     refine a6W (a := 0) (b := i) rfl rfl (by simp [evO, ev, Fr.get, hiN]) ⟨by omega, by omega, .inl rfl⟩ ?_
     refine aU ?_
     refine i9 ?_
     refine ⟨trivial, _, rfl, _, ⟨_, ?_, rfl, ?_, ?_⟩, hS⟩
     ·rw [hfl]; simp only [Nat.zero_mul, Nat.zero_add, Nat.sub_zero]; rfl
     ·rw [a3m]
      intro x hx
      unfold repl at hx
      rw [List.mem_flatten] at hx
      obtain ⟨l, hl1, hl2⟩ := hx
      rw [List.mem_replicate] at hl1
      obtain ⟨_, rfl⟩ := hl1
      simp at hl2
      rcases hl2 with rfl | rfl <;> rfl
     ·rw [List.all_eq_true]
      intro x hx
      unfold repl at hx
      rw [List.mem_flatten] at hx
      obtain ⟨l, hl1, hl2⟩ := hx
      rw [List.mem_replicate] at hl1
      obtain ⟨_, rfl⟩ := hl1
      simp at hl2
      rcases hl2 with rfl | rfl <;> rfl
end Go.Proofs.YtepdcebjobjjgaaDoor

/- order.Spans: the walk. -/
namespace Go.Proofs.YtepdcebjobjjgaaDoor
open Go Go.Ab
set_option maxRecDepth 20000
set_option maxHeartbeats 2000000
def c8E : FC := .reg [⟨(some 2), none, .op (.box (.t 0))⟩,  ⟨(some 4), none, .op (.mv (.v .nils))⟩,  ⟨(some 5), none, .op (.mv (.v (.int .i64 0)))⟩] []
def c8F : FC := .reg [⟨(some 20), none, .op (.load (some 1) (.t 2))⟩,  ⟨(some 21), none, .op (.mv (.t 1))⟩,  ⟨(some 22), none, .call 28 [(.t 20), (.t 21)]⟩,  ⟨(some 19), none, .op (.mv (.t 22))⟩,  ⟨(some 23), none, .op (.ext 0 (.t 19))⟩,  ⟨(some 24), none, .op (.ext 1 (.t 19))⟩,  ⟨(some 6), none, .op (.mv (.t 23))⟩,  ⟨(some 7), none, .op (.mv (.t 24))⟩] []
def c8G : FC := .reg [⟨(some 25), none, .op (.mv (.t 7))⟩,  ⟨(some 26), none, .op (.bin .none .neq (.t 25) (.v (.int .i64 0)))⟩] []
def c8H : FC := .reg [⟨(some 27), none, .op (.mv (.t 7))⟩,  ⟨(some 4), none, .op (.mv (.v .nils))⟩,  ⟨(some 5), none, .op (.mv (.t 27))⟩] []
def c8I : FC := .seq c8H FC.ret
def c8J : FC := .cond (.t 26) c8I FC.skip
def c8K : FC := .seq c8G c8J
def c8L : FC := .reg [⟨(some 29), none, .op (.load (some 1) (.t 2))⟩,  ⟨(some 30), none, .op (.mv (.t 1))⟩,  ⟨(some 31), none, .call 29 [(.t 29), (.t 30)]⟩,  ⟨(some 28), none, .op (.mv (.t 31))⟩,  ⟨(some 32), none, .op (.ext 0 (.t 28))⟩,  ⟨(some 33), none, .op (.ext 1 (.t 28))⟩,  ⟨(some 8), none, .op (.mv (.t 32))⟩,  ⟨(some 9), none, .op (.mv (.t 33))⟩] []
def c8M : FC := .reg [⟨(some 34), none, .op (.fad 0 (.t 2))⟩,  ⟨(some 35), none, .op (.load none (.t 34))⟩,  ⟨(some 36), none, .op (.mv (.t 1))⟩,  ⟨(some 37), none, .op (.iad none (some 8) (.t 35) (.t 36))⟩,  ⟨(some 10), none, .op (.mv (.t 37))⟩] []
def c0G : FC := .reg [⟨(some 38), none, .op (.mv (.t 10))⟩,  ⟨(some 39), none, .op (.nchk (.t 38))⟩,  ⟨(some 40), none, .op (.fad 1 (.t 39))⟩,  ⟨(some 41), none, .op (.load none (.t 40))⟩,  ⟨(some 42), none, .op (.len .sl (.t 41))⟩,  ⟨(some 43), none, .op (.mksl (some 4) 32 [(.int .i64 0), (.int .i64 0), (.int .i64 0), (.bool false)] (.t 42) (.t 42))⟩,  ⟨(some 11), none, .op (.new [.nils])⟩,  ⟨none, none, .op (.store 1 (.t 11) (.t 43))⟩] []
def c0H : FC := .reg [⟨(some 44), none, .op (.load none (.t 11))⟩,  ⟨(some 45), none, .op (.len .sl (.t 44))⟩,  ⟨(some 46), none, .op (.mv (.v (.int .i64 0)))⟩] []
def c0I : FC := .reg [⟨(some 48), none, .op (.mv (.t 46))⟩,  ⟨(some 12), none, .op (.mv (.t 48))⟩] []
def c0J : FC := .reg [⟨(some 49), none, .op (.load none (.t 11))⟩,  ⟨(some 50), none, .op (.mv (.t 12))⟩,  ⟨(some 51), none, .op (.mv (.t 12))⟩,  ⟨(some 52), none, .op (.mv (.t 10))⟩,  ⟨(some 53), none, .op (.nchk (.t 52))⟩,  ⟨(some 54), none, .op (.fad 6 (.t 53))⟩,  ⟨(some 55), none, .op (.load none (.t 54))⟩,  ⟨(some 56), none, .op (.len .sl (.t 55))⟩,  ⟨(some 57), none, .op (.build [(.int .i64 0), (.int .i64 0), (.int .i64 0), (.bool false)] [(0, 1, (.t 51)), (1, 1, (.t 56)), (2, 1, (.v (.int .i64 (-1))))])⟩,  ⟨(some 58), none, .op (.iad none (some 4) (.t 49) (.t 50))⟩,  ⟨none, none, .op (.store 4 (.t 58) (.t 57))⟩] []
def c0K : FC := .seq c0I c0J
def c0L : FC := .loop (.seq (.reg [⟨(some 47), none, .op (.bin .none .lss (.t 46) (.t 45))⟩] []) (.seq (.cond (.t 47) .skip (.exit 0)) (.seq (.block 1 c0K) (.reg [⟨(some 59), none, .op (.bin .none .add (.t 46) (.v (.int .i64 1)))⟩,  ⟨(some 46), none, .op (.mv (.t 59))⟩] []))))
def c0M : FC := .block 0 c0L
def c0N : FC := .seq c0H c0M
def c0O : FC := .reg [⟨(some 60), none, .op (.mkf (.func 30) [] [(.t 11)])⟩,  ⟨(some 13), none, .op (.mv (.t 60))⟩] []
def c0P : FC := .reg [⟨(some 61), none, .op (.mv (.t 13))⟩,  ⟨(some 62), none, .op (.mv (.t 10))⟩,  ⟨(some 63), none, .op (.nchk (.t 62))⟩,  ⟨(some 64), none, .op (.fad 0 (.t 63))⟩,  ⟨(some 65), none, .op (.load none (.t 64))⟩,  ⟨(some 66), none, .callv (.t 61) [(.v (.int .i64 0)), (.t 65)]⟩] []
def c0Q : FC := .reg [⟨(some 67), none, .op (.mv (.t 10))⟩,  ⟨(some 68), none, .call 31 [(.t 67)]⟩,  ⟨(some 69), none, .op (.len .sl (.t 68))⟩,  ⟨(some 70), none, .op (.mv (.v (.int .i64 0)))⟩] []
def c0R : FC := .reg [⟨(some 72), none, .op (.mv (.t 70))⟩,  ⟨(some 73), none, .op (.iad none none (.t 68) (.t 70))⟩,  ⟨(some 74), none, .op (.load none (.t 73))⟩,  ⟨(some 14), none, .op (.mv (.t 72))⟩,  ⟨(some 15), none, .op (.mv (.t 74))⟩] []
def c0S : FC := .reg [⟨(some 75), none, .op (.mv (.t 10))⟩,  ⟨(some 76), none, .op (.nchk (.t 75))⟩,  ⟨(some 77), none, .op (.fad 6 (.t 76))⟩,  ⟨(some 78), none, .op (.load none (.t 77))⟩,  ⟨(some 79), none, .op (.mv (.t 15))⟩,  ⟨(some 80), none, .op (.iad none (some 12) (.t 78) (.t 79))⟩,  ⟨(some 81), none, .op (.load (some 12) (.t 80))⟩,  ⟨(some 16), none, .op (.new [(.int .u8 0), (.int .u8 0), (.int .i64 0), (.int .i64 0), (.int .i64 0), (.int .i64 0), (.int .i64 0), (.int .i64 0), (.int .u64 0), .nils, (.int .i64 0), (.int .i64 0)])⟩,  ⟨none, none, .op (.store 12 (.t 16) (.t 81))⟩] []
def c0T : FC := .reg [⟨(some 82), none, .op (.mv (.t 13))⟩,  ⟨(some 83), none, .op (.mv (.t 14))⟩,  ⟨(some 84), none, .op (.mv (.t 6))⟩,  ⟨(some 85), none, .op (.mv (.t 15))⟩,  ⟨(some 86), none, .op (.iad none none (.t 84) (.t 85))⟩,  ⟨(some 87), none, .op (.load none (.t 86))⟩,  ⟨(some 88), none, .callv (.t 82) [(.t 83), (.t 87)]⟩] []
def c0U : FC := .reg [⟨(some 89), none, .op (.mv (.t 13))⟩,  ⟨(some 90), none, .op (.mv (.t 14))⟩,  ⟨(some 91), none, .op (.load (some 12) (.t 16))⟩,  ⟨(some 92), none, .call 32 [(.t 91)]⟩,  ⟨(some 93), none, .callv (.t 89) [(.t 90), (.t 92)]⟩] []
def c0V : FC := .reg [⟨(some 94), none, .op (.fad 0 (.t 16))⟩,  ⟨(some 95), none, .op (.load none (.t 94))⟩,  ⟨(some 96), none, .op (.bin .none .neq (.t 95) (.v (.int .u8 11)))⟩,  ⟨(some 97), none, .op (.mv (.t 96))⟩,  ⟨(some 98), some (97, true), .op (.fad 0 (.t 16))⟩,  ⟨(some 99), some (97, true), .op (.load none (.t 98))⟩,  ⟨(some 100), some (97, true), .op (.bin .none .neq (.t 99) (.v (.int .u8 13)))⟩,  ⟨(some 101), none, .op (.pick (.t 97) (.t 100) (.v (.bool false)))⟩] []
def c0W : FC := .cond (.t 101) (FC.exit 3) FC.skip
def c0X : FC := .seq c0V c0W
def c0Y : FC := .reg [⟨(some 102), none, .op (.mv (.t 8))⟩,  ⟨(some 103), none, .op (.mv (.t 15))⟩,  ⟨(some 104), none, .op (.iad none none (.t 102) (.t 103))⟩,  ⟨(some 105), none, .op (.load none (.t 104))⟩,  ⟨(some 106), none, .op (.len .sl (.t 105))⟩,  ⟨(some 107), none, .op (.mv (.v (.int .i64 0)))⟩] []
def c0Z : FC := .reg [⟨(some 109), none, .op (.iad none none (.t 105) (.t 107))⟩,  ⟨(some 110), none, .op (.load none (.t 109))⟩,  ⟨(some 18), none, .op (.mv (.t 110))⟩] []
def c1a : FC := .reg [⟨(some 111), none, .op (.load (some 12) (.t 16))⟩,  ⟨(some 112), none, .call 32 [(.t 111)]⟩,  ⟨(some 113), none, .op (.mv (.t 18))⟩,  ⟨(some 114), none, .call 33 [(.t 112), (.t 113)]⟩,  ⟨(some 115), none, .op (.un .not (.t 114))⟩] []
def c1b : FC := .reg [⟨(some 116), none, .op (.load none (.t 11))⟩,  ⟨(some 117), none, .op (.mv (.t 18))⟩,  ⟨(some 118), none, .op (.iad none (some 4) (.t 116) (.t 117))⟩,  ⟨(some 119), none, .op (.fad 3 (.t 118))⟩,  ⟨none, none, .op (.store 1 (.t 119) (.v (.bool true)))⟩] []
def c1c : FC := .cond (.t 115) c1b FC.skip
def c1d : FC := .seq c1a c1c
def c1e : FC := .seq c0Z c1d
def c1f : FC := .loop (.seq (.reg [⟨(some 108), none, .op (.bin .none .lss (.t 107) (.t 106))⟩] []) (.seq (.cond (.t 108) .skip (.exit 4)) (.seq (.block 5 c1e) (.reg [⟨(some 120), none, .op (.bin .none .add (.t 107) (.v (.int .i64 1)))⟩,  ⟨(some 107), none, .op (.mv (.t 120))⟩] []))))
def c1g : FC := .block 4 c1f
def b6k : FC := .seq c0Y c1g
def c1h : FC := .seq c0X b6k
def c1i : FC := .seq c0U c1h
def c1j : FC := .seq c0T c1i
def c1k : FC := .seq c0S c1j
def c1l : FC := .seq c0R c1k
def c1m : FC := .loop (.seq (.reg [⟨(some 71), none, .op (.bin .none .lss (.t 70) (.t 69))⟩] []) (.seq (.cond (.t 71) .skip (.exit 2)) (.seq (.block 3 c1l) (.reg [⟨(some 121), none, .op (.bin .none .add (.t 70) (.v (.int .i64 1)))⟩,  ⟨(some 70), none, .op (.mv (.t 121))⟩] []))))
def c1n : FC := .block 2 c1m
def c1o : FC := .seq c0Q c1n
def c1p : FC := .reg [⟨(some 122), none, .op (.load none (.t 11))⟩,  ⟨(some 123), none, .call 34 [(.t 122), (.v (.fn (.func 35) [] []))]⟩,  ⟨(some 4), none, .op (.mv (.t 123))⟩,  ⟨(some 5), none, .op (.mv (.v (.int .i64 0)))⟩] []
def c1q : FC := .seq c1p FC.ret
def c1r : FC := .seq c1o c1q
def c1s : FC := .seq c0P c1r
def c1t : FC := .seq c0O c1s
def c1u : FC := .seq c0N c1t
def c1v : FC := .seq c0G c1u
def c1w : FC := .seq c8M c1v
def c1x : FC := .seq c8L c1w
def c1y : FC := .seq c8K c1x
def c1z : FC := .seq c8F c1y
def c1A : FC := .seq c8E c1z
def d4l : FC := c1A
theorem d4m : Fn3 Tryd.prog 15 124 [(4, none), (5, none)] d4l := ⟨_, _, Tryd.func15, rfl, rfl, rfl, by kernel_rfl⟩

theorem b3y : p9 Tryd.prog 30 = true := by kernel_rfl
noncomputable def wrS (n : f7) : List Int := Classical.choose (a3f n)
theorem b6l (n : f7) : a1e n = some (wrS n) := (Classical.choose_spec (a3f n)).1
theorem b3z (n : f7) : (wrS n).length ≤ 10000000 := (Classical.choose_spec (a3f n)).2.1
theorem a7T (n : f7) (x : Int) : x ∈ wrS n ↔ (x ∈ b1B n ∧ 0 ≤ x) := (Classical.choose_spec (a3f n)).2.2 x
theorem b7k {g : b5} {k : Int} {ps : List Int} (h : isB g k ps = true) : ∀ p ∈ ps, 0 ≤ p ∧ p < g.Kinds.length := by
 intro p hp
 have := List.all_eq_true.1 h p hp
 unfold b0K at this
 simp only [Bool.and_eq_true, decide_eq_true_eq] at this
 exact this.1
theorem b3A {all : List b5} {g : b5} {n : f7} (h : a4O all g n = true) : ∀ p ∈ b1B n, 0 ≤ p → p < g.Kinds.length := by
 unfold a4O at h
 simp only [Bool.and_eq_true] at h
 have ho := h.2
 intro p hp h0
 unfold b1B at hp
 unfold opB at ho
 have one : ∀ k ps, isB g k ps = true → p ∈ ps → p < g.Kinds.length := fun k ps a b => (b7k a p b).2
 by_cases h1 : n.Op = 1 ∨ n.Op = 16
 ·rw [if_pos h1] at ho
  rw [if_pos zO] at hp
  exact one _ _ ho hp
 rw [if_neg h1] at ho
 by_cases h2 : n.Op = 2
 ·rw [if_pos h2] at ho; rw [if_pos zO] at hp
  simp only [Bool.or_eq_true] at ho
  simp at hp; subst hp
  rcases ho with a | a <;> exact one _ _ a zS
 rw [if_neg h2] at ho
 by_cases h3 : n.Op = 3
 ·rw [if_pos h3] at ho; rw [if_pos zO] at hp
  simp only [Bool.and_eq_true] at ho
  simp at hp; subst hp
  exact one _ _ ho.2 zS
 rw [if_neg h3] at ho
 by_cases h4 : n.Op = 4
 ·rw [if_pos h4] at ho; rw [if_pos zO] at hp
  simp only [Bool.and_eq_true] at ho
  exact one _ _ ho.2 hp
 rw [if_neg h4] at ho
 by_cases h5 : n.Op = 5
 ·rw [if_neg zO, if_neg zO] at hp; cases hp
 rw [if_neg h5] at ho
 by_cases h6 : n.Op = 6
 ·rw [if_pos h6] at ho; rw [if_pos zO] at hp
  simp only [Bool.and_eq_true] at ho
  exact one _ _ ho.2 hp
 rw [if_neg h6] at ho
 by_cases h7 : n.Op = 7
 ·rw [if_pos h7] at ho; rw [if_pos zO] at hp
  simp only [Bool.and_eq_true] at ho
  exact one _ _ ho.1 hp
 rw [if_neg h7] at ho
 by_cases h15 : n.Op = 15
 ·rw [if_neg zO, if_neg zO, if_neg zO, if_pos h15] at ho
  rw [if_neg zO, if_pos h15] at hp
  simp only [Bool.and_eq_true] at ho
  exact one _ _ ho.2 hp
 by_cases h11 : n.Op = 11
 ·rw [if_neg zO, if_neg zO, if_neg zO, if_neg zO, if_neg zO, if_pos h11] at ho
  rw [if_pos zO] at hp
  simp only [Bool.and_eq_true, Bool.or_eq_true, decide_eq_true_eq] at ho
  simp at hp; subst hp
  rcases ho.2 with a | a
  ·omega
  ·exact one _ _ a.1 zS
 rw [if_neg zO, if_neg zO] at hp; cases hp
def a7U (x : b7) : b7 := ⟨x.Place, x.From, x.To, true⟩
def b0O (w : List Int) (all : List b7) (p : Int) : List b7 := if p ∈ w then all else all.modify p.toNat a7U
theorem a7V (w : List Int) : ∀ (ps : List Int) (all : List b7), (ps.foldl (b0O w) all).length = all.length
 | [], _ => rfl
 | p :: ps, all => by rw [List.foldl_cons, a7V w ps]; unfold b0O; split <;> simp
noncomputable def lvI (g : b5) (i : Nat) : List Int := a3p g.Kinds.length (lvB g i)
noncomputable def bhI (g : b5) (i : Nat) : List Int := a3p g.Kinds.length (bhB g i)
noncomputable def wrN (g : b5) (i : Nat) : List Int := match g.Nodes[i]? with | some n => wrS n | none => []
def a3k (g : b5) (i : Nat) : Bool := match g.Nodes[i]? with | some n => n.Op == 11 || n.Op == 13 | none => false
noncomputable def a9g (g : b5) (a : Nat) (all : List b7) (i : Nat) : List b7 :=
 let a2 := (wrN g i).foldl (wkP a) ((lvI g i).foldl (wkP a) all)
 if a3k g i = true then (bhI g i).foldl (b0O (wrN g i)) a2 else a2
noncomputable def a4p (g : b5) : Nat → List Nat → List b7 → List b7
 | _, [], all => all
 | a, i :: l, all => a4p g (a + 1) l (a9g g a all i)
theorem b3B (g : b5) (a i : Nat) (all : List b7) : (a9g g a all i).length = all.length := by
 unfold a9g
 simp only
 split
 ·rw [a7V, a2J, a2J]
 ·rw [a2J, a2J]
def a5p (g : b5) : List b7 := (List.range g.Kinds.length).map fun (p : Nat) => ⟨(p : Int), (g.Nodes.length : Int), -1, false⟩
noncomputable def b1D (g : b5) : List b7 := a4p g 0 ((a0J g).map Int.toNat) (g.Params.foldl (wkP 0) (a5p g))
noncomputable def x9 (g : b5) : List b7 := (b1D g).filter fun x => !a8i x
theorem a5B {K : Nat} {A : Nat → Bool} : ∀ x ∈ a3p K A, 0 ≤ x ∧ x < K := by
 intro x hx
 unfold a3p at hx
 obtain ⟨k, hk, rfl⟩ := List.mem_map.1 hx
 have := (List.mem_filter.1 hk).1
 simp at this; omega
theorem b3C {K : Nat} {A : Nat → Bool} : (a3p K A).length ≤ K := by
 unfold a3p; rw [List.length_map]; exact Nat.le_trans (List.length_filter_le _ _) zS
end Go.Proofs.YtepdcebjobjjgaaDoor

/- The intervals, place by place. -/
namespace Go.Proofs.YtepdcebjobjjgaaDoor
open Go Go.Ab
theorem b0P (a : Int) (x : b7) : wk1 a (wk1 a x) = wk1 a x := by
 unfold wk1
 simp only [b7.mk.injEq, true_and, and_true]
 constructor
 ·by_cases h : a < x.From
  ·rw [if_pos h, if_neg zO]
  ·rw [if_neg h, if_neg h]
 ·by_cases h : a > x.To
  ·rw [if_pos h, if_neg zO]
  ·rw [if_neg h, if_neg h]
theorem a7W (a : Int) (k : Nat) : ∀ (ps : List Int) (all : List b7), (∀ p ∈ ps, 0 ≤ p) → (ps.foldl (wkP a) all)[k]? = (all[k]?).map fun x => if (k : Int) ∈ ps then wk1 a x else x
 | [], all, _ => by simp
 | p :: ps, all, h => by
   rw [List.foldl_cons, a7W a k ps _ (fun q hq => h q (by simp [hq]))]
   unfold wkP
   rw [List.getElem?_modify]
   have hp := h p zS
   cases e : all[k]? with
   | none => simp
   | some x =>
     simp only [Option.map_some, Option.map_eq_map]
     congr 1
     by_cases e1 : p.toNat = k
     ·have e2 : (k : Int) = p := by omega
      rw [if_pos e1]
      simp only [e2, List.mem_cons, true_or, if_true]
      split
      ·exact b0P a x
      ·rfl
     ·have e2 : ¬ (k : Int) = p := by omega
      rw [if_neg e1]
      simp only [List.mem_cons, e2, false_or]
theorem b0Q (w : List Int) (k : Nat) : ∀ (ps : List Int) (all : List b7), (∀ p ∈ ps, 0 ≤ p) → (ps.foldl (b0O w) all)[k]? = (all[k]?).map fun x => if (k : Int) ∈ ps ∧ (k : Int) ∉ w then a7U x else x
 | [], all, _ => by simp
 | p :: ps, all, h => by
   rw [List.foldl_cons, b0Q w k ps _ (fun q hq => h q (by simp [hq]))]
   have hp := h p zS
   unfold b0O
   by_cases hw : p ∈ w
   ·rw [if_pos hw]
    cases e : all[k]? with
    | none => simp
    | some x =>
      simp only [Option.map_some]
      congr 1
      by_cases e2 : (k : Int) = p
      ·rw [if_neg (by rw [e2]; exact fun h => h.2 hw), if_neg (by rw [e2]; exact fun h => h.2 hw)]
      ·simp only [List.mem_cons, e2, false_or]
   ·rw [if_neg hw, List.getElem?_modify]
    cases e : all[k]? with
    | none => simp
    | some x =>
      simp only [Option.map_some, Option.map_eq_map]
      congr 1
      by_cases e1 : p.toNat = k
      ·have e2 : (k : Int) = p := by omega
       rw [if_pos e1]
       simp only [e2, List.mem_cons, true_or, true_and, hw, not_false_eq_true, if_true]
       split
       ·rfl
       ·rfl
      ·have e2 : ¬ (k : Int) = p := by omega
       rw [if_neg e1]
       simp only [List.mem_cons, e2, false_or]
def a7X (g : b5) (k i : Nat) : Prop := (k : Int) ∈ lvI g i ∨ (k : Int) ∈ wrN g i
def c6R (g : b5) (k i : Nat) : Prop := a3k g i = true ∧ (k : Int) ∈ bhI g i ∧ (k : Int) ∉ wrN g i
open Classical in
noncomputable def elS (g : b5) (k a i : Nat) (x : b7) : b7 := if c6R g k i then a7U (if a7X g k i then wk1 a x else x) else if a7X g k i then wk1 a x else x
theorem b7l (g : b5) (i : Nat) : ∀ p ∈ wrN g i, 0 ≤ p := by
 intro p hp
 unfold wrN at hp
 split at hp
 ·exact ((a7T _ p).1 hp).2
 ·cases hp
theorem b3D (g : b5) (a i k : Nat) (all : List b7) : (a9g g a all i)[k]? = (all[k]?).map (elS g k a i) := by
 unfold a9g
 simp only
 have e2 : ((wrN g i).foldl (wkP (a : Int)) ((lvI g i).foldl (wkP a) all))[k]? = (all[k]?).map fun x => if (k : Int) ∈ lvI g i ∨ (k : Int) ∈ wrN g i then wk1 a x else x := by
  rw [a7W _ _ _ _ (b7l g i), a7W _ _ _ _ (show ∀ p ∈ lvI g i, 0 ≤ p from fun p hp => (a5B p hp).1)]
  cases all[k]? with
  | none => rfl
  | some x =>
    simp only [Option.map_some]
    congr 1
    by_cases h1 : (k : Int) ∈ wrN g i <;> by_cases h2 : (k : Int) ∈ lvI g i <;> simp [h1, h2, b0P]
 by_cases hc : a3k g i = true
 ·rw [if_pos hc, b0Q _ _ _ _ (show ∀ p ∈ bhI g i, 0 ≤ p from fun p hp => (a5B p hp).1), e2]
  cases all[k]? with
  | none => rfl
  | some x =>
    simp only [Option.map_some, elS, c6R, a7X, hc, true_and]
    by_cases h1 : (k : Int) ∈ lvI g i ∨ (k : Int) ∈ wrN g i <;> by_cases h2 : (k : Int) ∈ bhI g i ∧ (k : Int) ∉ wrN g i <;> simp [h1, h2]
 ·rw [if_neg hc, e2]
  cases all[k]? with
  | none => rfl
  | some x =>
    simp only [Option.map_some, elS, c6R, a7X, hc, false_and, if_false]
    by_cases h1 : (k : Int) ∈ lvI g i ∨ (k : Int) ∈ wrN g i <;> simp [h1]
structure EI (g : b5) (w : List Nat) (k n : Nat) (x : b7) : Prop where
 pl : x.Place = (k : Int)
 all : ∀ a i, (w[a]? = some i ∧ a < n ∧ a7X g k i) ∨ (a = 0 ∧ (k : Int) ∈ g.Params) → x.From ≤ a ∧ (a : Int) ≤ x.To
 ends : (x.From = (g.Nodes.length : Int) ∧ x.To = -1) ∨ ((∃ a i : Nat, x.From = (a : Int) ∧ ((w[a]? = some i ∧ a < n ∧ a7X g k i) ∨ (a = 0 ∧ (k : Int) ∈ g.Params))) ∧ ∃ a i : Nat, x.To = (a : Int) ∧ ((w[a]? = some i ∧ a < n ∧ a7X g k i) ∨ (a = 0 ∧ (k : Int) ∈ g.Params)))
 held : x.Held = true ↔ ∃ a i, w[a]? = some i ∧ a < n ∧ c6R g k i
theorem EI.step {g : b5} {w : List Nat} {k n i : Nat} {x : b7} (hn : w[n]? = some i) (hnN : n < g.Nodes.length) (h : EI g w k n x) : EI g w k (n + 1) (elS g k n i x) := by
 have hT : ∀ y : b7, (a7U y).Place = y.Place ∧ (a7U y).From = y.From ∧ (a7U y).To = y.To := fun y => ⟨rfl, rfl, rfl⟩
 have hcase : ∀ (b : Prop) [Decidable b], (b ↔ a7X g k i) → ∀ y, y = (if b then wk1 (n : Int) x else x) →
   y.Place = (k : Int) ∧ (∀ a j, (w[a]? = some j ∧ a < n + 1 ∧ a7X g k j) ∨ (a = 0 ∧ (k : Int) ∈ g.Params) → y.From ≤ a ∧ (a : Int) ≤ y.To) ∧
   ((y.From = (g.Nodes.length : Int) ∧ y.To = -1) ∨ ((∃ a i : Nat, y.From = (a : Int) ∧ ((w[a]? = some i ∧ a < n + 1 ∧ a7X g k i) ∨ (a = 0 ∧ (k : Int) ∈ g.Params))) ∧ ∃ a i : Nat, y.To = (a : Int) ∧ ((w[a]? = some i ∧ a < n + 1 ∧ a7X g k i) ∨ (a = 0 ∧ (k : Int) ∈ g.Params)))) ∧ y.Held = x.Held := by
  intro b _ hb y hy
  have wid : ∀ a j, ((w[a]? = some j ∧ a < n ∧ a7X g k j) ∨ (a = 0 ∧ (k : Int) ∈ g.Params)) → ((w[a]? = some j ∧ a < n + 1 ∧ a7X g k j) ∨ (a = 0 ∧ (k : Int) ∈ g.Params)) := fun a j hh => hh.imp (fun ⟨p, q, r⟩ => ⟨p, by omega, r⟩) id
  by_cases hbb : b
  ·rw [if_pos hbb] at hy
   subst hy
   have ht := hb.1 hbb
   have hf : (wk1 (n : Int) x).From = if (n : Int) < x.From then (n : Int) else x.From := rfl
   have hto : (wk1 (n : Int) x).To = if (n : Int) > x.To then (n : Int) else x.To := rfl
   refine ⟨h.pl, fun a j hh => ?_, .inr ⟨?_, ?_⟩, rfl⟩
   ·have key : (x.From ≤ a ∧ (a : Int) ≤ x.To) ∨ a = n := by
     rcases hh with ⟨p, q, r⟩ | hh
     ·by_cases e : a = n
      ·exact .inr e
      ·exact .inl (h.all a j (.inl ⟨p, by omega, r⟩))
     ·exact .inl (h.all a j (.inr hh))
    rw [hf, hto]
    rcases key with ⟨p, q⟩ | rfl
    ·constructor <;> split <;> omega
    ·constructor <;> split <;> omega
   ·by_cases e : (n : Int) < x.From
    ·exact ⟨n, i, by rw [hf, if_pos e], .inl ⟨hn, by omega, ht⟩⟩
    ·rcases h.ends with ⟨p, q⟩ | ⟨⟨a, j, p, q⟩, _⟩
     ·omega
     ·exact ⟨a, j, by rw [hf, if_neg e, p], wid a j q⟩
   ·by_cases e : (n : Int) > x.To
    ·exact ⟨n, i, by rw [hto, if_pos e], .inl ⟨hn, by omega, ht⟩⟩
    ·rcases h.ends with ⟨p, q⟩ | ⟨_, ⟨a, j, p, q⟩⟩
     ·omega
     ·exact ⟨a, j, by rw [hto, if_neg e, p], wid a j q⟩
  ·rw [if_neg hbb] at hy
   subst hy
   have ht : ¬ a7X g k i := fun hh => hbb (hb.2 hh)
   refine ⟨h.pl, fun a j hh => ?_, ?_, rfl⟩
   ·rcases hh with ⟨p, q, r⟩ | hh
    ·by_cases e : a = n
     ·subst e; rw [hn] at p; cases p; exact absurd r ht
     ·exact h.all a j (.inl ⟨p, by omega, r⟩)
    ·exact h.all a j (.inr hh)
   ·rcases h.ends with hh | ⟨⟨a, j, p, q⟩, ⟨b, l, r, s⟩⟩
    ·exact .inl hh
    ·exact .inr ⟨⟨a, j, p, wid a j q⟩, ⟨b, l, r, wid b l s⟩⟩
 unfold elS
 obtain ⟨q1, q2, q3, q4⟩ := @hcase (a7X g k i) (Classical.propDecidable _) Iff.rfl _ rfl
 split
 ·rename_i hh
  refine ⟨q1, q2, q3, ?_⟩
  constructor
  ·intro _; exact ⟨n, i, hn, by omega, hh⟩
  ·intro _; rfl
 ·rename_i hh
  refine ⟨q1, q2, q3, ?_⟩
  rw [q4, h.held]
  constructor
  ·rintro ⟨a, j, p, q, r⟩; exact ⟨a, j, p, by omega, r⟩
  ·rintro ⟨a, j, p, q, r⟩
   by_cases e : a = n
   ·subst e; rw [hn] at p; cases p; exact absurd r hh
   ·exact ⟨a, j, p, by omega, r⟩
theorem a9h {g : b5} {w : List Nat} {k : Nat} (hw : w.length ≤ g.Nodes.length) : ∀ (m n : Nat) (all : List b7) (x : b7), w.length - n = m → n ≤ w.length → all[k]? = some x → EI g w k n x → ∃ y, (a4p g n (w.drop n) all)[k]? = some y ∧ EI g w k w.length y
 | 0, n, all, x, hm, hn, hx, h => by
   have : n = w.length := by omega
   subst this
   rw [List.drop_length]
   exact ⟨x, hx, h⟩
 | m + 1, n, all, x, hm, hn, hx, h => by
   have hlt : n < w.length := by omega
   obtain ⟨i, hi⟩ : ∃ i, w[n]? = some i := ⟨w[n], List.getElem?_eq_getElem hlt⟩
   rw [a4a hi]
   simp only [a4p]
   exact a9h hw m (n + 1) _ _ zO hlt (by rw [b3D, hx]; rfl) (h.step hi zO)
theorem a7Y {g : b5} (hg : a2s g) (hp : a7O g) {w : List Nat} (hw1 : a0J g = w.map (fun (n : Nat) => (n : Int))) (hwl : w.length ≤ g.Nodes.length) {k : Nat} (hk : k < g.Kinds.length) : ∃ x, (b1D g)[k]? = some x ∧ EI g w k w.length x := by
 unfold b1D
 have hmapN : (a0J g).map Int.toNat = w := by rw [hw1, List.map_map]; exact (List.map_congr_left (fun x _ => by simp)).trans (List.map_id w)
 rw [hmapN]
 have h0 : (a5p g)[k]? = some ⟨(k : Int), (g.Nodes.length : Int), -1, false⟩ := by simp [a5p, hk]
 have h1 := a7W 0 k g.Params (a5p g) (fun p hp' => (hp p hp').1)
 rw [h0] at h1
 simp only [Option.map_some] at h1
 have hn0 := hg.n0
 refine a9h hwl _ 0 _ _ rfl (Nat.zero_le _) h1 ?_
 by_cases e : (k : Int) ∈ g.Params
 ·rw [if_pos e]
  have hf : (wk1 0 ⟨(k : Int), (g.Nodes.length : Int), -1, false⟩ : b7).From = 0 := by show (if (0 : Int) < _ then (0 : Int) else _) = 0; rw [if_pos zE]
  have ht : (wk1 0 ⟨(k : Int), (g.Nodes.length : Int), -1, false⟩ : b7).To = 0 := rfl
  refine ⟨rfl, fun a j hh => ?_, .inr ⟨⟨0, 0, by rw [hf]; rfl, .inr ⟨rfl, e⟩⟩, ⟨0, 0, by rw [ht]; rfl, .inr ⟨rfl, e⟩⟩⟩, ?_⟩
  ·rcases hh with ⟨_, q, _⟩ | ⟨rfl, _⟩
   ·omega
   ·rw [hf, ht]; omega
  ·constructor
   ·intro h; cases h
   ·rintro ⟨a, j, _, q, _⟩; omega
 ·rw [if_neg e]
  refine ⟨rfl, fun a j hh => ?_, .inl ⟨rfl, rfl⟩, ?_⟩
  ·rcases hh with ⟨_, q, _⟩ | ⟨_, q⟩
   ·omega
   ·exact absurd q e
  ·constructor
   ·intro h; cases h
   ·rintro ⟨a, j, _, q, _⟩; omega
theorem a7i (g : b5) : ∀ (l : List Nat) (a : Nat) (all : List b7), (a4p g a l all).length = all.length
 | [], _, _ => rfl
 | i :: l, a, all => by simp only [a4p]; rw [a7i g l, b3B]
theorem a4q (g : b5) : (b1D g).length = g.Kinds.length := by
 unfold b1D
 rw [a7i, a2J]; simp [a5p]
end Go.Proofs.YtepdcebjobjjgaaDoor

/- Stable sorting in place, in b5C lists: what swaps, rotations and merges keep. -/
namespace Go.Ab
universe u
variable {α : Type u}

theorem swap_perm {L : List α} {i j : Nat} {x y : α} (hi : L[i]? = some x) (hj : L[j]? = some y) : ((L.set i y).set j x).Perm L := by
 obtain ⟨h1, rfl⟩ := List.getElem?_eq_some_iff.1 hi
 obtain ⟨h2, rfl⟩ := List.getElem?_eq_some_iff.1 hj
 have := Array.swap_perm (xs := L.toArray) (i := i) (j := j) (by simpa using h1) (by simpa using h2)
 have e : (L.toArray.swap i j (by simpa using h1) (by simpa using h2)).toList = (L.set i L[j]).set j L[i] := by
  simp [Array.swap]
 have p := this.toList
 rw [e] at p
 simpa using p
theorem a0t {L : List α} {i j : Nat} {x y : α} (hi : L[i]? = some x) (hj : L[j]? = some y) (k : Nat) : ((L.set i y).set j x)[k]? = if k = j then L[i]? else if k = i then L[j]? else L[k]? := by
 obtain ⟨h1, e1⟩ := List.getElem?_eq_some_iff.1 hi
 obtain ⟨h2, e2⟩ := List.getElem?_eq_some_iff.1 hj
 rw [List.getElem?_set, List.getElem?_set]
 by_cases a : k = j
 ·subst a; simp [h2, hi]
 ·have a' : ¬ j = k := fun h => a h.symm
  by_cases b : k = i
  ·subst b; simp [a, a', h1, hj]
  ·have b' : ¬ i = k := fun h => b h.symm
   simp [a, a', b, b']

structure Mv (a b : Nat) (L L' : List α) : Prop where
 perm : L'.Perm L
 out : ∀ i, i < a ∨ b ≤ i → L'[i]? = L[i]?
 inn : ∀ i, a ≤ i → i < b → ∃ j, a ≤ j ∧ j < b ∧ L'[i]? = L[j]?
variable {a b : Nat} {L L' L'' : List α}
theorem Mv.len (h : Mv a b L L') : L'.length = L.length := h.perm.length_eq
theorem Mv.refl : Mv a b L L := ⟨.refl _, fun _ _ => rfl, fun i h1 h2 => ⟨i, h1, h2, rfl⟩⟩
theorem Mv.trans (h : Mv a b L L') (k : Mv a b L' L'') : Mv a b L L'' :=
 ⟨k.perm.trans h.perm, fun i hi => (k.out i hi).trans (h.out i hi), fun i h1 h2 => by
  obtain ⟨j, h3, h4, e⟩ := k.inn i h1 h2
  obtain ⟨l, h5, h6, e'⟩ := h.inn j h3 h4
  exact ⟨l, h5, h6, e.trans e'⟩⟩
theorem Mv.mono {a' b' : Nat} (h : Mv a b L L') (ha : a' ≤ a) (hb : b ≤ b') : Mv a' b' L L' :=
 ⟨h.perm, fun i hi => h.out i zO, fun i h1 h2 => by
  by_cases c : a ≤ i ∧ i < b
  ·obtain ⟨j, h3, h4, e⟩ := h.inn i c.1 c.2
   exact ⟨j, by omega, by omega, e⟩
  ·exact ⟨i, h1, h2, h.out i zO⟩⟩
theorem Mv.swap {i j : Nat} {x y : α} (hi : L[i]? = some x) (hj : L[j]? = some y) (h1 : a ≤ i) (h2 : i < b) (h3 : a ≤ j) (h4 : j < b) : Mv a b L ((L.set i y).set j x) :=
 ⟨swap_perm hi hj, fun k hk => by rw [a0t hi hj, if_neg zO, if_neg zO], fun k h5 h6 => by
  rw [a0t hi hj]
  by_cases c : k = j
  ·rw [if_pos c]; exact ⟨i, h1, h2, rfl⟩
  ·rw [if_neg c]
   by_cases d : k = i
   ·rw [if_pos d]; exact ⟨j, h3, h4, rfl⟩
   ·rw [if_neg d]; exact ⟨k, h5, h6, rfl⟩⟩

def swI (p q n k : Nat) : Nat := if p ≤ k ∧ k < p + n then k - p + q else if q ≤ k ∧ k < q + n then k - q + p else k
def roI (a m b k : Nat) : Nat := if a ≤ k ∧ k < a + (b - m) then k - a + m else if a + (b - m) ≤ k ∧ k < b then k - (b - m) else k
theorem c1B {m i j k : Nat} (h : j < i) (hi : i ≤ m) : roI (m - i) m (m + j) k = swI (m - i) m j (roI (m - i + j) m (m + j) k) := by
 unfold roI swI
 repeat' split
 all_goals omega
theorem c1C {m i j k : Nat} (h : i < j) (hi : i ≤ m) : roI (m - i) m (m + j) k = swI (m - i) (m + j - i) i (roI (m - i) m (m + j - i) k) := by
 unfold roI swI
 repeat' split
 all_goals omega
theorem c1D {m i k : Nat} (hi : i ≤ m) : roI (m - i) m (m + i) k = swI (m - i) m i k := by
 unfold roI swI
 repeat' split
 all_goals omega
theorem b5c {p q n t k : Nat} (ht : t < n) (h : p + n ≤ q) : swI p q (t + 1) k = if k = p + t then q + t else if k = q + t then p + t else swI p q t k := by
 unfold swI
 repeat' split
 all_goals omega
theorem b5d {p q k : Nat} : swI p q 0 k = k := by
 unfold swI
 repeat' split
 all_goals omega

def SrtR (key : α → Int) (a b : Nat) (L : List α) : Prop := ∀ i j x y, a ≤ i → i ≤ j → j < b → L[i]? = some x → L[j]? = some y → key x ≤ key y
theorem SrtR.nil {key : α → Int} {a b : Nat} {L : List α} (h : b ≤ a + 1) : SrtR key a b L := by
 intro i j x y h1 h2 h3 e1 e2
 have : i = j := by omega
 subst this
 rw [e1] at e2
 cases e2
 exact Int.le_refl _
theorem SrtR.cong {key : α → Int} {a b : Nat} {L L' : List α} (h : SrtR key a b L) (e : ∀ i, a ≤ i → i < b → L'[i]? = L[i]?) : SrtR key a b L' := by
 intro i j x y h1 h2 h3 e1 e2
 rw [e i h1 zO] at e1
 rw [e j zO h3] at e2
 exact h i j x y h1 h2 h3 e1 e2
theorem SrtR.shift {key : α → Int} {a b a' b' : Nat} {L L' : List α} (h : SrtR key a b L) (e : ∀ i, a' ≤ i → i < b' → L'[i]? = L[i - a' + a]?) (hb : b' - a' ≤ b - a) : SrtR key a' b' L' := by
 intro i j x y h1 h2 h3 e1 e2
 rw [e i h1 zO] at e1
 rw [e j zO h3] at e2
 exact h _ _ x y zO zO zO e1 e2
theorem SrtR.sub {key : α → Int} {a b a' b' : Nat} {L : List α} (h : SrtR key a b L) (ha : a ≤ a') (hb : b' ≤ b) : SrtR key a' b' L :=
 fun i j x y h1 h2 h3 e1 e2 => h i j x y zO h2 zO e1 e2
theorem SrtR.join {key : α → Int} {a c b : Nat} {L : List α} (h : SrtR key a c L) (k : SrtR key c b L) (hx : ∀ i j x y, a ≤ i → i < c → c ≤ j → j < b → L[i]? = some x → L[j]? = some y → key x ≤ key y) : SrtR key a b L := by
 intro i j x y h1 h2 h3 e1 e2
 by_cases p : j < c
 ·exact h i j x y h1 h2 p e1 e2
 ·by_cases q : i < c
  ·exact hx i j x y h1 q zO h3 e1 e2
  ·exact k i j x y zO h2 h3 e1 e2
theorem b1u {key : α → Int} {a m b mid s e : Nat} {L L' : List α} (ha : a ≤ m) (hb : m ≤ b) (hbl : b ≤ L.length) (h1 : SrtR key a m L) (h2 : SrtR key m b L) (has : a ≤ s) (hsm : s ≤ m) (hme : m ≤ e) (heb : e ≤ b) (hse : s + e = mid + m)
  (hr : ∀ k, L'[k]? = L[roI s m e k]?)
  (c1 : s = a ∨ e = b ∨ ∀ x y, L[s - 1]? = some x → L[e]? = some y → key x ≤ key y)
  (c2 : s = m ∨ e = m ∨ ∀ x y, L[e - 1]? = some x → L[s]? = some y → key x ≤ key y) :
  SrtR key a s L' ∧ SrtR key s mid L' ∧ SrtR key mid e L' ∧ SrtR key e b L' ∧ ∀ i j x y, a ≤ i → i < mid → mid ≤ j → j < b → L'[i]? = some x → L'[j]? = some y → key x ≤ key y := by
 have g1 : ∀ k, k < s → L'[k]? = L[k]? := fun k hk => by rw [hr]; congr 1; unfold roI; rw [if_neg zO, if_neg zO]
 have g2 : ∀ k, s ≤ k → k < mid → L'[k]? = L[k - s + m]? := fun k hk hk' => by rw [hr]; congr 1; unfold roI; rw [if_pos zO]
 have g3 : ∀ k, mid ≤ k → k < e → L'[k]? = L[k - mid + s]? := fun k hk hk' => by rw [hr]; congr 1; unfold roI; rw [if_neg zO, if_pos zO]; omega
 have g4 : ∀ k, e ≤ k → L'[k]? = L[k]? := fun k hk => by rw [hr]; congr 1; unfold roI; rw [if_neg zO, if_neg zO]
 refine ⟨(h1.sub (Nat.le_refl _) hsm).cong fun i _ h => g1 i h, (h2.sub (Nat.le_refl _) heb).shift (a := m) g2 zO, (h1.sub has (Nat.le_refl _)).shift (a := s) g3 zO, (h2.sub hme (Nat.le_refl _)).cong fun i h _ => g4 i h, ?_⟩
 intro i j x y q1 q2 q3 q4 e1 e2
 by_cases ci : i < s
 ·rw [g1 i ci] at e1
  by_cases cj : j < e
  ·rw [g3 j q3 cj] at e2
   exact h1 _ _ x y q1 zO zO e1 e2
  ·rw [g4 j zO] at e2
   rcases c1 with c | c | c
   ·omega
   ·omega
   ·have hs1 : s - 1 < L.length := by omega
    have he1 : e < L.length := by omega
    have := c _ _ (List.getElem?_eq_getElem hs1) (List.getElem?_eq_getElem he1)
    have d1 := h1 i (s - 1) x _ q1 zO zO e1 (List.getElem?_eq_getElem hs1)
    have d2 := h2 e j _ y zO zO q4 (List.getElem?_eq_getElem he1) e2
    omega
 ·rw [g2 i zO q2] at e1
  by_cases cj : j < e
  ·rw [g3 j q3 cj] at e2
   rcases c2 with c | c | c
   ·omega
   ·omega
   ·have hs1 : s < L.length := by omega
    have he1 : e - 1 < L.length := by omega
    have := c _ _ (List.getElem?_eq_getElem he1) (List.getElem?_eq_getElem hs1)
    have d1 := h2 (i - s + m) (e - 1) x _ zO zO zO e1 (List.getElem?_eq_getElem he1)
    have d2 := h1 s (j - mid + s) _ y zO zO zO (List.getElem?_eq_getElem hs1) e2
    omega
  ·rw [g4 j zO] at e2
   exact h2 _ _ x y zO zO q4 e1 e2
theorem a6r {key : α → Int} {a mid b : Nat} {L' L1 L2 : List α} (h1 : Mv a mid L' L1) (h2 : Mv mid b L1 L2) (hm1 : a ≤ mid) (hm2 : mid ≤ b) (s1 : SrtR key a mid L1) (s2 : SrtR key mid b L2)
  (hx : ∀ i j x y, a ≤ i → i < mid → mid ≤ j → j < b → L'[i]? = some x → L'[j]? = some y → key x ≤ key y) : SrtR key a b L2 := by
 refine SrtR.join (c := mid) (s1.cong fun i p q => h2.out i zO) s2 fun i j x y p1 p2 p3 p4 e1 e2 => ?_
 rw [h2.out i zO] at e1
 obtain ⟨i', r1, r2, r3⟩ := h1.inn i p1 p2
 obtain ⟨j', t1, t2, t3⟩ := h2.inn j p3 p4
 rw [r3] at e1
 rw [t3, h1.out j' zO] at e2
 exact hx i' j' x y r1 r2 t1 t2 e1 e2
end Go.Ab

/- Heaps in b5C lists. -/
namespace Go.Ab
universe u
variable {α : Type u} {key : α → Int} {n j i : Nat} {L : List α}
def HpI (key : α → Int) (n : Nat) (L : List α) : Prop := ∀ c x y, 0 < c → c < n → L[(c - 1) / 2]? = some x → L[c]? = some y → key x ≤ key y
def b3Z (key : α → Int) (n j : Nat) (L : List α) : Prop :=
 (∀ c x y, 0 < c → c < n → c ≠ j → L[(c - 1) / 2]? = some x → L[c]? = some y → key x ≤ key y) ∧
 (∀ c x y, 0 < c → c < n → (c - 1) / 2 = j → 0 < j → L[(j - 1) / 2]? = some x → L[c]? = some y → key x ≤ key y)
def b4a (key : α → Int) (n i : Nat) (L : List α) : Prop :=
 (∀ c x y, 0 < c → c < n → (c - 1) / 2 ≠ i → L[(c - 1) / 2]? = some x → L[c]? = some y → key x ≤ key y) ∧
 (∀ c x y, 0 < c → c < n → (c - 1) / 2 = i → 0 < i → L[(i - 1) / 2]? = some x → L[c]? = some y → key x ≤ key y)
theorem b3Z.fin0 (h : b3Z key n 0 L) : HpI key n L := fun c x y h1 h2 e1 e2 => h.1 c x y h1 h2 zO e1 e2
theorem b3Z.fin1 (h : b3Z key n j L) {x y : α} (hx : L[(j - 1) / 2]? = some x) (hy : L[j]? = some y) (hle : key x ≤ key y) : HpI key n L := by
 intro c x' y' h1 h2 e1 e2
 by_cases q : c = j
 ·subst q; rw [hx] at e1; rw [hy] at e2; cases e1; cases e2; exact hle
 ·exact h.1 c x' y' h1 h2 q e1 e2
theorem b3Z.step (h : b3Z key n j L) (hj : 0 < j) (hjn : j < n) (hnl : n ≤ L.length) {x y : α} (hx : L[(j - 1) / 2]? = some x) (hy : L[j]? = some y) (hlt : key y < key x) : b3Z key n ((j - 1) / 2) ((L.set ((j - 1) / 2) y).set j x) := by
 constructor
 ·intro c x' y' h1 h2 h3 e1 e2
  rw [a0t hx hy] at e1 e2
  by_cases q : c = j
  ·subst q
   rw [if_pos rfl, hx] at e2; cases e2
   rw [if_neg zO, if_pos rfl, hy] at e1; cases e1
   omega
  ·rw [if_neg q, if_neg h3] at e2
   by_cases q2 : (c - 1) / 2 = j
   ·rw [if_pos q2, hx] at e1; cases e1
    exact h.2 c _ y' h1 h2 q2 hj hx e2
   ·rw [if_neg q2] at e1
    by_cases q3 : (c - 1) / 2 = (j - 1) / 2
    ·rw [if_pos q3, hy] at e1; cases e1
     have := h.1 c x y' h1 h2 q (by rw [q3]; exact hx) e2
     omega
    ·rw [if_neg q3] at e1
     exact h.1 c x' y' h1 h2 q e1 e2
 ·intro c x' y' h1 h2 h3 h4 e1 e2
  rw [a0t hx hy] at e1 e2
  rw [if_neg zO, if_neg zO] at e1
  have g1 := h.1 ((j - 1) / 2) x' x h4 zO zO e1 hx
  by_cases q : c = j
  ·rw [if_pos q, hx] at e2; cases e2; exact g1
  ·rw [if_neg q, if_neg zO] at e2
   have := h.1 c x y' h1 h2 q (by rw [h3]; exact hx) e2
   omega
theorem b4a.fin0 (h : b4a key n i L) (hi : n ≤ 2 * i + 1) : HpI key n L := fun c x y h1 h2 e1 e2 => h.1 c x y h1 h2 zO e1 e2
theorem b4a.fin1 (h : b4a key n i L) {x y : α} (hx : L[i]? = some x) (hmin : ∀ c z, 0 < c → c < n → (c - 1) / 2 = i → L[c]? = some z → key y ≤ key z) (hle : key x ≤ key y) : HpI key n L := by
 intro c x' y' h1 h2 e1 e2
 by_cases q : (c - 1) / 2 = i
 ·rw [q, hx] at e1; cases e1
  have := hmin c y' h1 h2 q e2
  omega
 ·exact h.1 c x' y' h1 h2 q e1 e2
theorem b4a.step (h : b4a key n i L) (hj : 0 < j) (hjn : j < n) (hp : (j - 1) / 2 = i) {x y : α} (hx : L[i]? = some x) (hy : L[j]? = some y) (hmin : ∀ c z, 0 < c → c < n → (c - 1) / 2 = i → L[c]? = some z → key y ≤ key z) (hlt : key y < key x) : b4a key n j ((L.set i y).set j x) := by
 constructor
 ·intro c x' y' h1 h2 h3 e1 e2
  rw [a0t hx hy] at e1 e2
  rw [if_neg h3] at e1
  by_cases q : (c - 1) / 2 = i
  ·rw [if_pos q, hy] at e1; cases e1
   by_cases q2 : c = j
   ·rw [if_pos q2, hx] at e2; cases e2; omega
   ·rw [if_neg q2, if_neg zO] at e2
    exact hmin c y' h1 h2 q e2
  ·rw [if_neg q] at e1
   by_cases q2 : c = j
   ·subst q2; exact absurd hp q
   ·rw [if_neg q2] at e2
    by_cases q3 : c = i
    ·subst q3
     rw [if_pos rfl, hy] at e2; cases e2
     exact h.2 j x' _ hj hjn hp h1 e1 hy
    ·rw [if_neg q3] at e2
     exact h.1 c x' y' h1 h2 q e1 e2
 ·intro c x' y' h1 h2 h3 h4 e1 e2
  rw [a0t hx hy] at e1 e2
  rw [if_neg zO, if_pos zO, hy] at e1; cases e1
  rw [if_neg zO, if_neg zO] at e2
  exact h.1 c _ y' h1 h2 zO (by rw [h3]; exact hy) e2
theorem HpI.least (h : HpI key n L) (hnl : n ≤ L.length) {x : α} (hx : L[0]? = some x) : ∀ i y, i < n → L[i]? = some y → key x ≤ key y := by
 intro i
 induction i using Nat.strongRecOn with
 | _ i ih =>
   intro y hi hy
   by_cases q : i = 0
   ·subst q; rw [hx] at hy; cases hy; exact Int.le_refl _
   ·have hz : L[(i - 1) / 2]? = some (L[(i - 1) / 2]'zO) := List.getElem?_eq_getElem _
    have h1 := ih ((i - 1) / 2) zO _ zO hz
    have h2 := h i _ y zO hi hz hy
    omega
theorem HpI.push (h : HpI key L.length L) (x : α) : b3Z key (L.length + 1) L.length (L ++ [x]) := by
 constructor
 ·intro c x' y' h1 h2 h3 e1 e2
  rw [List.getElem?_append_left zO] at e1 e2
  exact h c x' y' h1 zO e1 e2
 ·intro c x' y' h1 h2 h3; omega
theorem HpI.pop (h : HpI key (n + 1) L) (hnl : n < L.length) {x y : α} (hx : L[0]? = some x) (hy : L[n]? = some y) : b4a key n 0 ((L.set 0 y).set n x) := by
 constructor
 ·intro c x' y' h1 h2 h3 e1 e2
  rw [a0t hx hy, if_neg zO, if_neg h3] at e1
  rw [a0t hx hy, if_neg zO, if_neg zO] at e2
  exact h c x' y' h1 zO e1 e2
 ·intro c x' y' h1 h2 h3 h4; omega
end Go.Ab

/- slices.swapRangeCmpFunc, rotateCmpFunc: the walks. -/
namespace Go.Ab
section
variable {P : Program} {ow : List Nat} {fr : Fr} {S : List Ob} {log : List LE} {esh : Option Nat}
theorem w5 {d x i rs} {K : Fr → List Ob → List LE → Prop} {o ver off m k z} (e : ev (Fr.get fr) x = .ref o ver off m esh) (e1 : ev (Fr.get fr) i = .int k z) (n : Nat) (hz : z = (n : Int)) (hn : n < m)
  (h : VTops P ow rs ((d, .ptr o ver (off + n * f4 esh)) :: fr) S (.acc [] none :: log) K) : VTops P ow (⟨some d, none, .op (.iad none esh x i)⟩ :: rs) fr S log K := by
 subst hz
 refine p8 e e1 ⟨by omega, by omega⟩ ?_
 rw [Int.toNat_natCast]; exact h
theorem a9U {a b : Nat} (h : a + b ≤ 4611686018427387904) : IntKind.i64.wrap ((a : Int) + (b : Int)) = ((a + b : Nat) : Int) := by rw [s3 zO]; omega
theorem a5q {a : Nat} (h : a ≤ 4611686018427387904) : IntKind.i64.wrap ((a : Int) + 1) = ((a + 1 : Nat) : Int) := by rw [s3 zO]; omega
theorem a9o {a b : Nat} (h : b ≤ a) (ha : a ≤ 4611686018427387904) : IntKind.i64.wrap ((a : Int) - (b : Int)) = ((a - b : Nat) : Int) := by rw [s3 zO]; omega
theorem a2P {z : Int} {n : Nat} (e : z = (n : Int)) : a8h none (.int .i64 z) (.int .i64 (n : Int)) := by rw [e]; exact .refl _
theorem Enc.part {α : Type} {f : α → AV} {esh : Option Nat} (he : Enc f esh) (x : α) : a0z esh (f x).cells 0 = some (f x) := by
 have h1 := he.form x
 have h2 := he.sz x
 cases esh with
 | none => simp only at h1; rw [h1]; rfl
 | some n => 
   simp only at h1
   have h2 : (f x).cells.length = n := h2
   unfold a0z
   simp only [Nat.zero_add, List.drop_zero]
   rw [if_pos zO, List.take_of_length_le zO, ← h1]
theorem a0M {a b : List AV} {n : Nat} (h1 : a.length = n) (h2 : b.length = n) : splice a 0 b = b := by
 have := a4H b [] a zO
 simpa using this
end
end Go.Ab
namespace Go.Proofs.YtepdcebjobjjgaaDoor
open Go Go.Ab
set_option maxRecDepth 20000
set_option maxHeartbeats 2000000
def c8N : FC := .reg [⟨(some 10), none, .op (.mv (.v (.int .i64 0)))⟩] []
def c8O : FC := .reg [⟨(some 11), none, .op (.mv (.t 10))⟩,  ⟨(some 12), none, .op (.mv (.t 3))⟩,  ⟨(some 13), none, .op (.bin .none .lss (.t 11) (.t 12))⟩] []
def c8P : FC := .cond (.t 13) FC.skip (FC.exit 0)
def c8Q : FC := .seq c8O c8P
def c8R : FC := .reg [⟨(some 16), none, .op (.mv (.t 0))⟩,  ⟨(some 17), none, .op (.mv (.t 1))⟩,  ⟨(some 18), none, .op (.mv (.t 10))⟩,  ⟨(some 19), none, .op (.bin .none .add (.t 17) (.t 18))⟩,  ⟨(some 20), none, .op (.mv (.t 0))⟩,  ⟨(some 21), none, .op (.mv (.t 2))⟩,  ⟨(some 22), none, .op (.mv (.t 10))⟩,  ⟨(some 23), none, .op (.bin .none .add (.t 21) (.t 22))⟩,  ⟨(some 24), none, .op (.mv (.t 0))⟩,  ⟨(some 25), none, .op (.mv (.t 2))⟩,  ⟨(some 26), none, .op (.mv (.t 10))⟩,  ⟨(some 27), none, .op (.bin .none .add (.t 25) (.t 26))⟩,  ⟨(some 28), none, .op (.iad none (some 4) (.t 24) (.t 27))⟩,  ⟨(some 29), none, .op (.load (some 4) (.t 28))⟩,  ⟨(some 30), none, .op (.mv (.t 0))⟩,  ⟨(some 31), none, .op (.mv (.t 1))⟩,  ⟨(some 32), none, .op (.mv (.t 10))⟩,  ⟨(some 33), none, .op (.bin .none .add (.t 31) (.t 32))⟩,  ⟨(some 34), none, .op (.iad none (some 4) (.t 30) (.t 33))⟩,  ⟨(some 35), none, .op (.load (some 4) (.t 34))⟩,  ⟨(some 36), none, .op (.iad none (some 4) (.t 16) (.t 19))⟩,  ⟨none, none, .op (.store 4 (.t 36) (.t 29))⟩,  ⟨(some 37), none, .op (.iad none (some 4) (.t 20) (.t 23))⟩,  ⟨none, none, .op (.store 4 (.t 37) (.t 35))⟩] []
def c8S : FC := .block 1 c8R
def c8T : FC := .reg [⟨(some 14), none, .op (.mv (.t 10))⟩,  ⟨(some 15), none, .op (.bin .none .add (.t 14) (.v (.int .i64 1)))⟩,  ⟨(some 10), none, .op (.mv (.t 15))⟩] []
def c8U : FC := .seq c8S c8T
def c8V : FC := .seq c8Q c8U
def c1E : FC := .loop c8V
def c1F : FC := .block 0 c1E
def c1G : FC := .seq c8N c1F
def d4n : FC := c1G
theorem d4o : Fn3 Tryd.prog 80 38 [] d4n := ⟨_, _, Tryd.func80, rfl, rfl, rfl, by kernel_rfl⟩

def c8W : FC := .reg [⟨(some 12), none, .op (.mv (.t 2))⟩,  ⟨(some 13), none, .op (.mv (.t 1))⟩,  ⟨(some 14), none, .op (.bin .none .sub (.t 12) (.t 13))⟩,  ⟨(some 10), none, .op (.mv (.t 14))⟩] []
def c8X : FC := .reg [⟨(some 15), none, .op (.mv (.t 3))⟩,  ⟨(some 16), none, .op (.mv (.t 2))⟩,  ⟨(some 17), none, .op (.bin .none .sub (.t 15) (.t 16))⟩,  ⟨(some 11), none, .op (.mv (.t 17))⟩] []
def c8Y : FC := .reg [⟨(some 18), none, .op (.mv (.t 10))⟩,  ⟨(some 19), none, .op (.mv (.t 11))⟩,  ⟨(some 20), none, .op (.bin .none .neq (.t 18) (.t 19))⟩] []
def c8Z : FC := .cond (.t 20) FC.skip (FC.exit 0)
def c9a : FC := .seq c8Y c8Z
def c9b : FC := .reg [⟨(some 21), none, .op (.mv (.t 10))⟩,  ⟨(some 22), none, .op (.mv (.t 11))⟩,  ⟨(some 23), none, .op (.bin .none .gtr (.t 21) (.t 22))⟩] []
def c9c : FC := .reg [⟨(some 24), none, .op (.mv (.t 0))⟩,  ⟨(some 25), none, .op (.mv (.t 2))⟩,  ⟨(some 26), none, .op (.mv (.t 10))⟩,  ⟨(some 27), none, .op (.bin .none .sub (.t 25) (.t 26))⟩,  ⟨(some 28), none, .op (.mv (.t 2))⟩,  ⟨(some 29), none, .op (.mv (.t 11))⟩,  ⟨(some 30), none, .op (.mv (.t 4))⟩,  ⟨(some 31), none, .call 80 [(.t 24), (.t 27), (.t 28), (.t 29), (.t 30)]⟩] []
def c9d : FC := .reg [⟨(some 32), none, .op (.mv (.t 10))⟩,  ⟨(some 33), none, .op (.mv (.t 11))⟩,  ⟨(some 34), none, .op (.bin .none .sub (.t 32) (.t 33))⟩,  ⟨(some 10), none, .op (.mv (.t 34))⟩] []
def c9e : FC := .seq c9c c9d
def c1H : FC := .reg [⟨(some 35), none, .op (.mv (.t 0))⟩,  ⟨(some 36), none, .op (.mv (.t 2))⟩,  ⟨(some 37), none, .op (.mv (.t 10))⟩,  ⟨(some 38), none, .op (.bin .none .sub (.t 36) (.t 37))⟩,  ⟨(some 39), none, .op (.mv (.t 2))⟩,  ⟨(some 40), none, .op (.mv (.t 11))⟩,  ⟨(some 41), none, .op (.bin .none .add (.t 39) (.t 40))⟩,  ⟨(some 42), none, .op (.mv (.t 10))⟩,  ⟨(some 43), none, .op (.bin .none .sub (.t 41) (.t 42))⟩,  ⟨(some 44), none, .op (.mv (.t 10))⟩,  ⟨(some 45), none, .op (.mv (.t 4))⟩,  ⟨(some 46), none, .call 80 [(.t 35), (.t 38), (.t 43), (.t 44), (.t 45)]⟩] []
def c1I : FC := .reg [⟨(some 47), none, .op (.mv (.t 11))⟩,  ⟨(some 48), none, .op (.mv (.t 10))⟩,  ⟨(some 49), none, .op (.bin .none .sub (.t 47) (.t 48))⟩,  ⟨(some 11), none, .op (.mv (.t 49))⟩] []
def c1J : FC := .seq c1H c1I
def c1K : FC := .cond (.t 23) c9e c1J
def c1L : FC := .seq c9b c1K
def c1M : FC := .block 1 c1L
def c1N : FC := .seq c9a c1M
def c1O : FC := .loop c1N
def c1P : FC := .block 0 c1O
def c1Q : FC := .reg [⟨(some 50), none, .op (.mv (.t 0))⟩,  ⟨(some 51), none, .op (.mv (.t 2))⟩,  ⟨(some 52), none, .op (.mv (.t 10))⟩,  ⟨(some 53), none, .op (.bin .none .sub (.t 51) (.t 52))⟩,  ⟨(some 54), none, .op (.mv (.t 2))⟩,  ⟨(some 55), none, .op (.mv (.t 10))⟩,  ⟨(some 56), none, .op (.mv (.t 4))⟩,  ⟨(some 57), none, .call 80 [(.t 50), (.t 53), (.t 54), (.t 55), (.t 56)]⟩] []
def c1R : FC := .seq c1P c1Q
def c1S : FC := .seq c8X c1R
def c1T : FC := .seq c8W c1S
def d4p : FC := c1T
theorem d4q : Fn3 Tryd.prog 73 58 [] d4p := ⟨_, _, Tryd.func73, rfl, rfl, rfl, by kernel_rfl⟩

section
variable {α : Type} {f : α → AV}
theorem a6s (he : Enc f (some 4)) {l : List α} {o v a b n : Nat} {j : List AV} {cv : AV} (hl : l.length ≤ 1000000000) (h1 : a + n ≤ b) (h2 : b + n ≤ l.length) :
  Tri Tryd.prog 80 [.ref o v 0 l.length (some 4), .int .i64 a, .int .i64 b, .int .i64 n, cv] [(o, v, flat f l ++ j)] (fun _ L' => ∃ l' : List α, l'.Perm l ∧ (∀ k, l'[k]? = l[swI a b n k]?) ∧ L' = [(o, v, flat f l' ++ j)]) := by
 refine y6 mixed d4o zS [] (fun R S hS => ?_)
 refine aU ?_
 refine j7 (a0e (σ := Nat × List α) (fun s => [(0, .ref o v 0 l.length (some 4)), (1, .int .i64 a), (2, .int .i64 b), (3, .int .i64 n), (10, .int .i64 (s.1 : Int))]) (fun s => (o, v, flat f s.2 ++ j) :: R) (fun s => s.1 ≤ n ∧ s.2.Perm l ∧ ∀ k, s.2[k]? = l[swI a b s.1 k]?) (fun s => n - s.1) (0, l) hS ⟨Nat.zero_le _, .refl _, fun k => by rw [b5d]⟩
  (k9 ⟨.refl _, .refl _, .refl _, .refl _, .refl _, trivial⟩) (fun s S hI hS => ?_))
 obtain ⟨i, m⟩ := s
 obtain ⟨hi, hp, hI⟩ := hI
 dsimp only at hI hi hS hp
 have hm := hp.length_eq
 refine aU ?_
 dsimp only
 refine n6 rfl (fun hb => ?_) (fun hb => ?_)
 ·have hlt : i < n := by simp only [decide_eq_true_eq] at hb; omega
  obtain ⟨x, hx⟩ : ∃ x, m[a + i]? = some x := ⟨m[a + i], List.getElem?_eq_getElem zO⟩
  obtain ⟨y, hy⟩ : ∃ y, m[b + i]? = some y := ⟨m[b + i], List.getElem?_eq_getElem zO⟩
  refine aU ?_
  refine j7 ?_
  refine aU ?_
  refine w5 rfl rfl (b + i) (a9U zO) zO ?_
  refine a0N hS he rfl zM (n := b + i) (fo := 0) (y := y) (by simp [f4]) hy (he.part y) ?_
  refine aU ?_
  refine w5 rfl rfl (a + i) (a9U zO) zO ?_
  refine a0N hS he rfl zM (n := a + i) (fo := 0) (y := x) (by simp [f4]) hx (he.part x) ?_
  refine w5 rfl rfl (a + i) (a9U zO) zO ?_
  refine a4G hS he rfl zC (n := a + i) (fo := 0) (y := x) (y' := y) (by simp [f4]) hx (by first | exact Rp.here | (repeat (first | exact Rp.here | apply Rp.there | apply Rp.skip))) (he.sz _) (he.one _) (by simp [f4]) (by rw [a0M (he.sz _) (he.sz _)]) (fun S hS => ?_)
  refine w5 rfl rfl (b + i) (a9U zO) zO ?_
  refine a4G (l := m.set (a + i) y) (j := j) hS he rfl zC (n := b + i) (fo := 0) (y := y) (y' := x) (by simp [f4]) (by rw [List.getElem?_set_ne zO]; exact hy) (by first | exact Rp.here | (repeat (first | exact Rp.here | apply Rp.there | apply Rp.skip))) (he.sz _) (he.one _) (by simp [f4]) (by rw [a0M (he.sz _) (he.sz _)]) (fun S hS => ?_)
  refine aU ?_
  refine k8 ?_
  refine aU ?_
  refine ⟨(i + 1, (m.set (a + i) y).set (b + i) x), ⟨by simp only; omega, (swap_perm hx hy).trans hp, fun k => ?_⟩, by simp only; omega, hS, k9 ⟨.refl _, .refl _, .refl _, .refl _, a2P (a5q zO), trivial⟩⟩
  simp only
  rw [a0t hx hy, b5c hlt h1]
  by_cases c1 : k = b + i
  ·rw [if_pos c1, if_neg zO, if_pos c1, hI]
   congr 1
   unfold swI
   rw [if_neg zO, if_neg zO]
  ·rw [if_neg c1]
   by_cases c2 : k = a + i
   ·rw [if_pos c2, if_pos c2, hI]
    congr 1
    unfold swI
    rw [if_neg zO, if_neg zO]
   ·rw [if_neg c2, if_neg c2, if_neg c1, hI]
 ·have hge : i = n := by simp only [decide_eq_false_iff_not] at hb; omega
  subst hge
  refine x6 ?_
  (repeat (first | refine n8 ?_ | refine r8 ?_ | refine s4 rfl ?_ | refine j4 ?_ | refine l6 ?_ | refine k8 ?_))
  exact ⟨trivial, _, rfl, _, ⟨m, hp, hI, rfl⟩, hS⟩
theorem b5e (he : Enc f (some 4)) {l : List α} {o v a c b : Nat} {j : List AV} {cv : AV} (hl : l.length ≤ 1000000000) (h1 : a < c) (h2 : c < b) (h3 : b ≤ l.length) :
  Tri Tryd.prog 73 [.ref o v 0 l.length (some 4), .int .i64 a, .int .i64 c, .int .i64 b, cv] [(o, v, flat f l ++ j)] (fun _ L' => ∃ l' : List α, l'.Perm l ∧ (∀ k, l'[k]? = l[roI a c b k]?) ∧ L' = [(o, v, flat f l' ++ j)]) := by
 refine y6 mixed d4q zS [] (fun R S hS => ?_)
 refine aU ?_
 refine j7 (a0e (σ := Nat × Nat × List α) (fun s => [(0, .ref o v 0 l.length (some 4)), (1, .int .i64 a), (2, .int .i64 c), (3, .int .i64 b), (4, cv), (10, .int .i64 (s.1 : Int)), (11, .int .i64 (s.2.1 : Int))]) (fun s => (o, v, flat f s.2.2 ++ j) :: R)
  (fun s => 1 ≤ s.1 ∧ s.1 ≤ c - a ∧ 1 ≤ s.2.1 ∧ s.2.1 ≤ b - c ∧ s.2.2.Perm l ∧ ∀ k, s.2.2[roI (c - s.1) c (c + s.2.1) k]? = l[roI a c b k]?) (fun s => s.1 + s.2.1) (c - a, b - c, l) hS ⟨by simp only; omega, by simp only; omega, by simp only; omega, by simp only; omega, .refl _, fun k => by simp only; rw [show c - (c - a) = a by omega, show c + (b - c) = b by omega]⟩
  (k9 ⟨.refl _, .refl _, .refl _, .refl _, .refl _, a2P (a9o zO zO), a2P (a9o zO zO), trivial⟩) (fun s S hI hS => ?_))
 obtain ⟨x, y, m⟩ := s
 obtain ⟨i1, i2, i3, i4, hp, hI⟩ := hI
 dsimp only at i1 i2 i3 i4 hp hI hS
 have hm := hp.length_eq
 refine aU ?_
 dsimp only
 refine n6 rfl (fun hb => ?_) (fun hb => ?_)
 ·have hne : x ≠ y := by simp only [bne_iff_ne, ne_eq, decide_eq_true_eq] at hb; omega
  refine aU ?_
  refine j7 ?_
  refine aU ?_
  refine n6 rfl (fun hb => ?_) (fun hb => ?_)
  ·have hlt : y < x := by simp only [decide_eq_true_eq] at hb; omega
   refine aU ?_
   refine a4f (a6s he (l := m) (o := o) (v := v) (a := c - x) (b := c) (n := y) (j := j) (cv := cv) zO zO zO) hS (by show [AV.ref o v 0 l.length (some 4), .int .i64 (IntKind.i64.wrap ((c : Int) - (x : Int))), .int .i64 c, .int .i64 y, cv] = _; rw [a9o zO zO, hm]) (by repeat (first | exact Spl.nil | refine Spl.cons (by repeat (first | exact Pk.here | apply Pk.there | apply Pk.skip)) ?_ | refine Spl.app (by repeat (first | exact PkC.here | apply PkC.there | apply PkC.skip)) ?_)) (fun r S L' hL hS => ?_)
   obtain ⟨m', q1, q2, rfl⟩ := hL
   refine aU ?_
   refine k8 ?_
   refine aU ?_
   refine ⟨(x - y, y, m'), ⟨by simp only; omega, by simp only; omega, i3, i4, q1.trans hp, fun k => ?_⟩, by simp only; omega, hS, k9 ⟨.refl _, .refl _, .refl _, .refl _, .refl _, a2P (a9o zO zO), .refl _, trivial⟩⟩
   simp only
   rw [q2, ← hI, c1B hlt zO, show c - (x - y) = c - x + y by omega]
  ·have hlt : x < y := by simp only [decide_eq_false_iff_not] at hb; omega
   refine aU ?_
   refine a4f (a6s he (l := m) (o := o) (v := v) (a := c - x) (b := c + y - x) (n := x) (j := j) (cv := cv) zO zO zO) hS (by show [AV.ref o v 0 l.length (some 4), .int .i64 (IntKind.i64.wrap ((c : Int) - (x : Int))), .int .i64 (IntKind.i64.wrap (IntKind.i64.wrap ((c : Int) + (y : Int)) - (x : Int))), .int .i64 x, cv] = _; rw [a9U zO, a9o zO zO, a9o zO zO, hm]) (by repeat (first | exact Spl.nil | refine Spl.cons (by repeat (first | exact Pk.here | apply Pk.there | apply Pk.skip)) ?_ | refine Spl.app (by repeat (first | exact PkC.here | apply PkC.there | apply PkC.skip)) ?_)) (fun r S L' hL hS => ?_)
   obtain ⟨m', q1, q2, rfl⟩ := hL
   refine aU ?_
   refine k8 ?_
   refine aU ?_
   refine ⟨(x, y - x, m'), ⟨i1, i2, by simp only; omega, by simp only; omega, q1.trans hp, fun k => ?_⟩, by simp only; omega, hS, k9 ⟨.refl _, .refl _, .refl _, .refl _, .refl _, .refl _, a2P (a9o zO zO), trivial⟩⟩
   simp only
   rw [q2, ← hI, c1C hlt zO, show c + (y - x) = c + y - x by omega]
 ·have he' : x = y := by simp only [bne_eq_false_iff_eq, decide_eq_false_iff_not, bne_iff_ne, ne_eq, Decidable.not_not] at hb; omega
  subst he'
  refine x6 ?_
  (repeat (first | refine n8 ?_ | refine r8 ?_ | refine s4 rfl ?_ | refine j4 ?_ | refine l6 ?_ | refine k8 ?_))
  refine aU ?_
  refine a4f (a6s he (l := m) (o := o) (v := v) (a := c - x) (b := c) (n := x) (j := j) (cv := cv) zO zO zO) hS (by show [AV.ref o v 0 l.length (some 4), .int .i64 (IntKind.i64.wrap ((c : Int) - (x : Int))), .int .i64 c, .int .i64 x, cv] = _; rw [a9o zO zO, hm]) (by repeat (first | exact Spl.nil | refine Spl.cons (by repeat (first | exact Pk.here | apply Pk.there | apply Pk.skip)) ?_ | refine Spl.app (by repeat (first | exact PkC.here | apply PkC.there | apply PkC.skip)) ?_)) (fun r S L' hL hS => ?_)
  obtain ⟨m', q1, q2, rfl⟩ := hL
  refine aU ?_
  exact ⟨trivial, _, rfl, _, ⟨m', q1.trans hp, fun k => by rw [q2, ← hI, c1D zO], rfl⟩, hS⟩
end
end Go.Proofs.YtepdcebjobjjgaaDoor

/- slices.insertionSortCmpFunc: the walk. -/
namespace Go.Ab
def c1U (a b : Int) : Int := if a < b then -1 else if a > b then 1 else 0
theorem a1U {a b : Int} : c1U a b < 0 ↔ a < b := by unfold c1U; split <;> (try split) <;> omega
universe u
variable {α : Type u} {key : α → Int} {a b : Nat} {L : List α}
def b4b (key : α → Int) (a b j : Nat) (L : List α) : Prop := ∀ p q x y, a ≤ p → p ≤ q → q < b → q ≠ j → L[p]? = some x → L[q]? = some y → key x ≤ key y
theorem b4b.of {i : Nat} (h : SrtR key a i L) : b4b key a (i + 1) i L := fun p q x y h1 h2 h3 h4 e1 e2 => h p q x y h1 h2 zO e1 e2
theorem b4b.fin0 {j : Nat} (h : b4b key a b j L) (hj : j ≤ a) : SrtR key a b L := by
 intro p q x y h1 h2 h3 e1 e2
 by_cases c : q = j
 ·have : p = q := by omega
  subst this; rw [e1] at e2; cases e2; exact Int.le_refl _
 ·exact h p q x y h1 h2 h3 c e1 e2
theorem b4b.fin1 {j : Nat} (h : b4b key a b j L) (hj : a < j) (hjb : j < b) {x y : α} (hx : L[j]? = some x) (hy : L[j - 1]? = some y) (hle : key y ≤ key x) : SrtR key a b L := by
 intro p q x' y' h1 h2 h3 e1 e2
 by_cases c : q = j
 ·subst c
  rw [hx] at e2; cases e2
  by_cases d : p = q
  ·subst d; rw [hx] at e1; cases e1; exact Int.le_refl _
  ·have := h p (q - 1) x' y h1 zO zO zO e1 hy
   omega
 ·exact h p q x' y' h1 h2 h3 c e1 e2
theorem b4b.step {j : Nat} (h : b4b key a b j L) (hj : a < j) (hjb : j < b) {x y : α} (hx : L[j]? = some x) (hy : L[j - 1]? = some y) (hlt : key x < key y) : b4b key a b (j - 1) ((L.set j y).set (j - 1) x) := by
 intro p q x' y' h1 h2 h3 h4 e1 e2
 rw [a0t hx hy] at e1 e2
 by_cases c : q = j
 ·subst c
  rw [if_neg zO, if_pos rfl, hy] at e2
  cases e2
  by_cases d : p = q - 1
  ·rw [if_pos d, hx] at e1; cases e1; omega
  ·rw [if_neg d] at e1
   by_cases d2 : p = q
   ·rw [if_pos d2, hy] at e1; cases e1; exact Int.le_refl _
   ·rw [if_neg d2] at e1
    exact h p (q - 1) x' y h1 zO zO zO e1 hy
 ·rw [if_neg h4, if_neg c] at e2
  by_cases d : p = j - 1
  ·rw [if_pos d, hx] at e1; cases e1
   exact h j q _ y' zO zO h3 c hx e2
  ·rw [if_neg d] at e1
   by_cases d2 : p = j
   ·rw [if_pos d2, hy] at e1; cases e1
    exact h (j - 1) q _ y' zO zO h3 c hy e2
   ·rw [if_neg d2] at e1
    exact h p q x' y' h1 h2 h3 c e1 e2
end Go.Ab
namespace Go.Proofs.YtepdcebjobjjgaaDoor
open Go Go.Ab
set_option maxRecDepth 20000
set_option maxHeartbeats 2000000
def c9f : FC := .reg [⟨(some 10), none, .op (.mv (.t 1))⟩,  ⟨(some 11), none, .op (.bin .none .add (.t 10) (.v (.int .i64 1)))⟩,  ⟨(some 8), none, .op (.mv (.t 11))⟩] []
def c9g : FC := .reg [⟨(some 12), none, .op (.mv (.t 8))⟩,  ⟨(some 13), none, .op (.mv (.t 2))⟩,  ⟨(some 14), none, .op (.bin .none .lss (.t 12) (.t 13))⟩] []
def c9h : FC := .cond (.t 14) FC.skip (FC.exit 0)
def c9i : FC := .seq c9g c9h
def c9j : FC := .reg [⟨(some 17), none, .op (.mv (.t 8))⟩,  ⟨(some 9), none, .op (.mv (.t 17))⟩] []
def c9k : FC := .reg [⟨(some 18), none, .op (.mv (.t 9))⟩,  ⟨(some 19), none, .op (.mv (.t 1))⟩,  ⟨(some 20), none, .op (.bin .none .gtr (.t 18) (.t 19))⟩,  ⟨(some 21), none, .op (.mv (.t 20))⟩,  ⟨(some 22), some (21, true), .op (.mv (.t 3))⟩,  ⟨(some 23), some (21, true), .op (.mv (.t 0))⟩,  ⟨(some 24), some (21, true), .op (.mv (.t 9))⟩,  ⟨(some 25), some (21, true), .op (.iad none (some 4) (.t 23) (.t 24))⟩,  ⟨(some 26), some (21, true), .op (.load (some 4) (.t 25))⟩,  ⟨(some 27), some (21, true), .op (.mv (.t 0))⟩,  ⟨(some 28), some (21, true), .op (.mv (.t 9))⟩,  ⟨(some 29), some (21, true), .op (.bin .none .sub (.t 28) (.v (.int .i64 1)))⟩,  ⟨(some 30), some (21, true), .op (.iad none (some 4) (.t 27) (.t 29))⟩,  ⟨(some 31), some (21, true), .op (.load (some 4) (.t 30))⟩,  ⟨(some 32), some (21, true), .callv (.t 22) [(.t 26), (.t 31)]⟩,  ⟨(some 33), some (21, true), .op (.bin .none .lss (.t 32) (.v (.int .i64 0)))⟩,  ⟨(some 34), none, .op (.pick (.t 21) (.t 33) (.v (.bool false)))⟩] []
def c9l : FC := .cond (.t 34) FC.skip (FC.exit 2)
def c9m : FC := .seq c9k c9l
def c9n : FC := .reg [⟨(some 37), none, .op (.mv (.t 0))⟩,  ⟨(some 38), none, .op (.mv (.t 9))⟩,  ⟨(some 39), none, .op (.mv (.t 0))⟩,  ⟨(some 40), none, .op (.mv (.t 9))⟩,  ⟨(some 41), none, .op (.bin .none .sub (.t 40) (.v (.int .i64 1)))⟩,  ⟨(some 42), none, .op (.mv (.t 0))⟩,  ⟨(some 43), none, .op (.mv (.t 9))⟩,  ⟨(some 44), none, .op (.bin .none .sub (.t 43) (.v (.int .i64 1)))⟩,  ⟨(some 45), none, .op (.iad none (some 4) (.t 42) (.t 44))⟩,  ⟨(some 46), none, .op (.load (some 4) (.t 45))⟩,  ⟨(some 47), none, .op (.mv (.t 0))⟩,  ⟨(some 48), none, .op (.mv (.t 9))⟩,  ⟨(some 49), none, .op (.iad none (some 4) (.t 47) (.t 48))⟩,  ⟨(some 50), none, .op (.load (some 4) (.t 49))⟩,  ⟨(some 51), none, .op (.iad none (some 4) (.t 37) (.t 38))⟩,  ⟨none, none, .op (.store 4 (.t 51) (.t 46))⟩,  ⟨(some 52), none, .op (.iad none (some 4) (.t 39) (.t 41))⟩,  ⟨none, none, .op (.store 4 (.t 52) (.t 50))⟩] []
def c1V : FC := .block 3 c9n
def c1W : FC := .reg [⟨(some 35), none, .op (.mv (.t 9))⟩,  ⟨(some 36), none, .op (.bin .none .sub (.t 35) (.v (.int .i64 1)))⟩,  ⟨(some 9), none, .op (.mv (.t 36))⟩] []
def c1X : FC := .seq c1V c1W
def c1Y : FC := .seq c9m c1X
def c1Z : FC := .loop c1Y
def c2a : FC := .block 2 c1Z
def c2b : FC := .seq c9j c2a
def c2c : FC := .block 1 c2b
def c2d : FC := .reg [⟨(some 15), none, .op (.mv (.t 8))⟩,  ⟨(some 16), none, .op (.bin .none .add (.t 15) (.v (.int .i64 1)))⟩,  ⟨(some 8), none, .op (.mv (.t 16))⟩] []
def c2e : FC := .seq c2c c2d
def c2f : FC := .seq c9i c2e
def c2g : FC := .loop c2f
def c2h : FC := .block 0 c2g
def c2i : FC := .seq c9f c2h
def d4r : FC := c2i
theorem d4s : Fn3 Tryd.prog 59 53 [] d4r := ⟨_, _, Tryd.func59, rfl, rfl, rfl, by kernel_rfl⟩

section
variable {α : Type} {f : α → AV} {key : α → Int}
def a9i (f : α → AV) (key : α → Int) : Prop := ∀ x y, n5 Tryd.prog 17 [f x, f y] (.int .i64 (c1U (key x) (key y)))
def cvF : AV := .fn (.func 17) [] []
theorem a7Z (he : Enc f (some 4)) (hc : a9i f key) (x y : α) : Tri Tryd.prog 17 [f x, f y] [] (fun v L' => v = .int .i64 (c1U (key x) (key y)) ∧ L' = []) :=
 n5.tri (hc x y) (j5 ⟨he.blw _ 0, he.blw _ 0, trivial⟩) rfl
theorem b0R : p9 Tryd.prog 17 = true := by kernel_rfl
theorem b0S (he : Enc f (some 4)) (hc : a9i f key) {l : List α} {o v a b : Nat} {j : List AV} (hl : l.length ≤ 1000000000) (h1 : a ≤ b) (h2 : b ≤ l.length) :
  Tri Tryd.prog 59 [.ref o v 0 l.length (some 4), .int .i64 a, .int .i64 b, cvF] [(o, v, flat f l ++ j)] (fun _ L' => ∃ l' : List α, Mv a b l l' ∧ SrtR key a b l' ∧ L' = [(o, v, flat f l' ++ j)]) := by
 refine y6 mixed d4s zS [] (fun R S hS => ?_)
 refine aU ?_
 refine j7 (a0e (σ := Nat × List α) (fun s => [(0, .ref o v 0 l.length (some 4)), (1, .int .i64 a), (2, .int .i64 b), (3, cvF), (8, .int .i64 (s.1 : Int))]) (fun s => (o, v, flat f s.2 ++ j) :: R) (fun s => a < s.1 ∧ s.1 ≤ b + 1 ∧ Mv a b l s.2 ∧ SrtR key a s.1 s.2) (fun s => b + 1 - s.1) (a + 1, l) hS ⟨Nat.lt_succ_self _, by simp only; omega, .refl, .nil (Nat.le_refl _)⟩
  (k9 ⟨.refl _, .refl _, .refl _, .refl _, a2P (a5q zO), trivial⟩) (fun s S hI hS => ?_))
 obtain ⟨i, m⟩ := s
 obtain ⟨i1, i2, hM, hI⟩ := hI
 dsimp only at i1 i2 hM hI hS
 refine aU ?_
 dsimp only
 refine n6 rfl (fun hb => ?_) (fun hb => ?_)
 ·have hlt : i < b := by simp only [decide_eq_true_eq] at hb; omega
  refine aU ?_
  refine j7 ?_
  refine aU ?_
  refine j7 (a0e (σ := Nat × List α) (fun s => [(0, .ref o v 0 l.length (some 4)), (1, .int .i64 a), (2, .int .i64 b), (3, cvF), (8, .int .i64 (i : Int)), (9, .int .i64 (s.1 : Int))]) (fun s => (o, v, flat f s.2 ++ j) :: R) (fun s => a ≤ s.1 ∧ s.1 ≤ i ∧ Mv a b l s.2 ∧ b4b key a (i + 1) s.1 s.2) (fun s => s.1) (i, m) hS ⟨by simp only; omega, Nat.le_refl _, hM, .of hI⟩
   (k9 ⟨.refl _, .refl _, .refl _, .refl _, .refl _, .refl _, trivial⟩) (fun s S hI hS => ?_))
  obtain ⟨k, m⟩ := s
  obtain ⟨k1, k2, hM, hI⟩ := hI
  dsimp only at k1 k2 hM hI hS
  have hm := hM.len
  refine aU ?_
  refine m9 (b := decide ((k : Int) > (a : Int))) rfl rfl rfl (fun hb => ?_) (fun hb => ?_)
  ·have hak : a < k := by simp only [decide_eq_true_eq] at hb; omega
   obtain ⟨x, hx⟩ : ∃ x, m[k]? = some x := ⟨m[k], List.getElem?_eq_getElem zO⟩
   obtain ⟨y, hy⟩ : ∃ y, m[k - 1]? = some y := ⟨m[k - 1], List.getElem?_eq_getElem zO⟩
   have w1 : IntKind.i64.wrap ((k : Int) - 1) = ((k - 1 : Nat) : Int) := b8Q zO zO
   refine aU ?_
   refine w5 rfl rfl k rfl zO (oH ?_)
   refine a0N hS he rfl zM (n := k) (fo := 0) (y := x) (by simp [f4]) hx (he.part x) ?_
   refine aU ?_
   refine w5 rfl rfl (k - 1) w1 zO (oH ?_)
   refine a0N hS he rfl zM (n := k - 1) (fo := 0) (y := y) (by simp [f4]) hy (he.part y) (oH ?_)
   refine a2D (a7Z he hc x y) hS rfl b0R rfl (by repeat (first | exact Spl.nil | refine Spl.cons (by repeat (first | exact Pk.here | apply Pk.there | apply Pk.skip)) ?_ | refine Spl.app (by repeat (first | exact PkC.here | apply PkC.there | apply PkC.skip)) ?_)) (fun r S L' hL hS => ?_)
   obtain ⟨rfl, rfl⟩ := hL
   refine aU ?_
   refine n6 rfl (fun hb => ?_) (fun hb => ?_)
   ·have hlt2 : key x < key y := by simp only [decide_eq_true_eq] at hb; exact a1U.1 hb
    refine aU ?_
    refine j7 ?_
    refine aU ?_
    refine w5 rfl rfl (k - 1) w1 zO ?_
    refine a0N hS he rfl zM (n := k - 1) (fo := 0) (y := y) (by simp [f4]) hy (he.part y) ?_
    refine aU ?_
    refine w5 rfl rfl k rfl zO ?_
    refine a0N hS he rfl zM (n := k) (fo := 0) (y := x) (by simp [f4]) hx (he.part x) ?_
    refine w5 rfl rfl k rfl zO ?_
    refine a4G (l := m) (j := j) hS he rfl zC (n := k) (fo := 0) (y := x) (y' := y) (by simp [f4]) hx (by first | exact Rp.here | (repeat (first | exact Rp.here | apply Rp.there | apply Rp.skip))) (he.sz _) (he.one _) (by simp [f4]) (by rw [a0M (he.sz _) (he.sz _)]) (fun S hS => ?_)
    refine w5 rfl rfl (k - 1) w1 zO ?_
    refine a4G (l := m.set k y) (j := j) hS he rfl zC (n := k - 1) (fo := 0) (y := y) (y' := x) (by simp [f4]) (by rw [List.getElem?_set_ne zO]; exact hy) (by first | exact Rp.here | (repeat (first | exact Rp.here | apply Rp.there | apply Rp.skip))) (he.sz _) (he.one _) (by simp [f4]) (by rw [a0M (he.sz _) (he.sz _)]) (fun S hS => ?_)
    refine aU ?_
    refine k8 ?_
    refine aU ?_
    refine ⟨(k - 1, (m.set k y).set (k - 1) x), ⟨by simp only; omega, by simp only; omega, hM.trans (.swap hx hy zO zO zO zO), hI.step hak zO hx hy hlt2⟩, by simp only; omega, hS, k9 ⟨.refl _, .refl _, .refl _, .refl _, .refl _, a2P w1, trivial⟩⟩
   ·have hge : key y ≤ key x := by simp only [decide_eq_false_iff_not] at hb; have := mt a1U.2 hb; omega
    refine x6 ?_
    (repeat (first | refine n8 ?_ | refine r8 ?_ | refine s4 rfl ?_ | refine j4 ?_ | refine l6 ?_ | refine k8 ?_))
    refine aU ?_
    refine ⟨(i + 1, m), ⟨by simp only; omega, by simp only; omega, hM, hI.fin1 hak zO hx hy hge⟩, by simp only; omega, hS, k9 ⟨.refl _, .refl _, .refl _, .refl _, a2P (a5q zO), trivial⟩⟩
  ·have hak : k ≤ a := by simp only [decide_eq_false_iff_not, decide_eq_true_eq, Bool.not_true] at hb; omega
   refine aU ?_
   refine n6 (t := false) rfl (fun hb => by cases hb) (fun _ => ?_)
   refine x6 ?_
   (repeat (first | refine n8 ?_ | refine r8 ?_ | refine s4 rfl ?_ | refine j4 ?_ | refine l6 ?_ | refine k8 ?_))
   refine aU ?_
   refine ⟨(i + 1, m), ⟨by simp only; omega, by simp only; omega, hM, hI.fin0 hak⟩, by simp only; omega, hS, k9 ⟨.refl _, .refl _, .refl _, .refl _, a2P (a5q zO), trivial⟩⟩
 ·have hge : b ≤ i := by simp only [decide_eq_false_iff_not] at hb; omega
  refine x6 ?_
  (repeat (first | refine n8 ?_ | refine r8 ?_ | refine s4 rfl ?_ | refine j4 ?_ | refine l6 ?_ | refine k8 ?_))
  exact ⟨trivial, _, rfl, _, ⟨m, hM, hI.sub (Nat.le_refl _) hge, rfl⟩, hS⟩
end
end Go.Proofs.YtepdcebjobjjgaaDoor

