/- The parts of order.Spans: the walks. -/
import Derived.Test.YtgoejecjmodjiaaDoorGenO
import Derived.Test.YtgoejecjmodjiaaDoorLvC2
set_option linter.unusedVariables false
set_option linter.unusedSimpArgs false
namespace Go.Proofs.YtgoejecjmodjiaaDoor
open Go Go.Ab
set_option maxRecDepth 20000
set_option maxHeartbeats 2000000
def c4O : FC := .reg [⟨(some 7), none, .op (.mv (.t 1))⟩,  ⟨(some 8), none, .op (.len .sl (.t 7))⟩,  ⟨(some 9), none, .op (.mv (.v (.int .i64 0)))⟩] []
def c4P : FC := .reg [⟨(some 11), none, .op (.iad none none (.t 7) (.t 9))⟩,  ⟨(some 12), none, .op (.load none (.t 11))⟩,  ⟨(some 6), none, .op (.mv (.t 12))⟩] []
def c4Q : FC := .reg [⟨(some 13), none, .op (.load none (.t 2))⟩,  ⟨(some 14), none, .op (.mv (.t 6))⟩,  ⟨(some 15), none, .op (.load none (.t 2))⟩,  ⟨(some 16), none, .op (.mv (.t 6))⟩,  ⟨(some 17), none, .op (.load none (.t 2))⟩,  ⟨(some 18), none, .op (.mv (.t 6))⟩,  ⟨(some 19), none, .op (.iad none (some 4) (.t 17) (.t 18))⟩,  ⟨(some 20), none, .op (.fad 1 (.t 19))⟩,  ⟨(some 21), none, .op (.load none (.t 20))⟩,  ⟨(some 22), none, .op (.mv (.t 0))⟩,  ⟨(some 23), none, .op (.mn false (.t 21) (.t 22))⟩,  ⟨(some 24), none, .op (.load none (.t 2))⟩,  ⟨(some 25), none, .op (.mv (.t 6))⟩,  ⟨(some 26), none, .op (.iad none (some 4) (.t 24) (.t 25))⟩,  ⟨(some 27), none, .op (.fad 2 (.t 26))⟩,  ⟨(some 28), none, .op (.load none (.t 27))⟩,  ⟨(some 29), none, .op (.mv (.t 0))⟩,  ⟨(some 30), none, .op (.mn true (.t 28) (.t 29))⟩,  ⟨(some 31), none, .op (.iad none (some 4) (.t 13) (.t 14))⟩,  ⟨(some 32), none, .op (.fad 1 (.t 31))⟩,  ⟨none, none, .op (.store 1 (.t 32) (.t 23))⟩,  ⟨(some 33), none, .op (.iad none (some 4) (.t 15) (.t 16))⟩,  ⟨(some 34), none, .op (.fad 2 (.t 33))⟩,  ⟨none, none, .op (.store 1 (.t 34) (.t 30))⟩] [(2, 20)]
def c4R : FC := .seq c4P c4Q
def c4S : FC := .loop (.seq (.reg [⟨(some 10), none, .op (.bin .none .lss (.t 9) (.t 8))⟩] []) (.seq (.cond (.t 10) .skip (.exit 0)) (.seq (.block 1 c4R) (.reg [⟨(some 35), none, .op (.bin .none .add (.t 9) (.v (.int .i64 1)))⟩,  ⟨(some 9), none, .op (.mv (.t 35))⟩] []))))
def c4T : FC := .block 0 c4S
def c4U : FC := .seq c4O c4T
def c7W : FC := c4U
theorem c7X : Fn3 Tryd.prog 46 36 [] c7W := ⟨_, _, Tryd.func46, rfl, rfl, rfl, by kernel_rfl⟩
def c4V : FC := .reg [⟨(some 4), none, .op (.mv (.v (.int .i64 0)))⟩] []
def c4W : FC := .reg [⟨(some 6), none, .op (.mv (.t 0))⟩,  ⟨(some 7), none, .op (.len .sl (.t 6))⟩,  ⟨(some 8), none, .op (.mv (.v (.int .i64 0)))⟩] []
def c4X : FC := .reg [⟨(some 10), none, .op (.mv (.t 8))⟩,  ⟨(some 5), none, .op (.mv (.t 10))⟩] []
def c4Y : FC := .reg [⟨(some 11), none, .op (.mv (.t 1))⟩,  ⟨(some 12), none, .op (.mv (.t 0))⟩,  ⟨(some 13), none, .op (.mv (.t 5))⟩,  ⟨(some 14), none, .op (.iad none (some 4) (.t 12) (.t 13))⟩,  ⟨(some 15), none, .op (.load (some 4) (.t 14))⟩,  ⟨(some 16), none, .callv (.t 11) [(.t 15)]⟩] []
def c4Z : FC := .reg [⟨(some 17), none, .op (.mv (.t 5))⟩,  ⟨(some 4), none, .op (.mv (.t 17))⟩] []
def c5a : FC := .seq c4Z FC.ret
def c5b : FC := .cond (.t 16) c5a FC.skip
def c5c : FC := .seq c4Y c5b
def c5d : FC := .seq c4X c5c
def b9A : FC := .loop (.seq (.reg [⟨(some 9), none, .op (.bin .none .lss (.t 8) (.t 7))⟩] []) (.seq (.cond (.t 9) .skip (.exit 0)) (.seq (.block 1 c5d) (.reg [⟨(some 18), none, .op (.bin .none .add (.t 8) (.v (.int .i64 1)))⟩,  ⟨(some 8), none, .op (.mv (.t 18))⟩] []))))
def b9B : FC := .block 0 b9A
def b9C : FC := .seq c4W b9B
def b9D : FC := .reg [⟨(some 4), none, .op (.mv (.v (.int .i64 (-1))))⟩] []
def b9E : FC := .seq b9D FC.ret
def b9F : FC := .seq b9C b9E
def b9G : FC := .seq c4V b9F
def c7Y : FC := b9G
theorem c7Z : Fn3 Tryd.prog 75 19 [(4, none)] c7Y := ⟨_, _, Tryd.func75, rfl, rfl, rfl, by kernel_rfl⟩
def c5e : FC := .reg [⟨(some 4), none, .op (.mv (.v .nils))⟩] []
def c5f : FC := .reg [⟨(some 8), none, .op (.mv (.t 0))⟩,  ⟨(some 9), none, .op (.mv (.t 1))⟩,  ⟨(some 10), none, .call 75 [(.t 8), (.t 9)]⟩,  ⟨(some 5), none, .op (.mv (.t 10))⟩] []
def c5g : FC := .reg [⟨(some 11), none, .op (.mv (.t 5))⟩,  ⟨(some 12), none, .op (.bin .none .eql (.t 11) (.v (.int .i64 (-1))))⟩] []
def c5h : FC := .reg [⟨(some 13), none, .op (.mv (.t 0))⟩,  ⟨(some 4), none, .op (.mv (.t 13))⟩] []
def c5i : FC := .seq c5h FC.ret
def c5j : FC := .cond (.t 12) c5i FC.skip
def c5k : FC := .seq c5g c5j
def c5l : FC := .reg [⟨(some 14), none, .op (.mv (.t 5))⟩,  ⟨(some 15), none, .op (.bin .none .add (.t 14) (.v (.int .i64 1)))⟩,  ⟨(some 6), none, .op (.mv (.t 15))⟩] []
def c5m : FC := .reg [⟨(some 16), none, .op (.mv (.t 6))⟩,  ⟨(some 17), none, .op (.mv (.t 0))⟩,  ⟨(some 18), none, .op (.len .sl (.t 17))⟩,  ⟨(some 19), none, .op (.bin .none .lss (.t 16) (.t 18))⟩] []
def b9H : FC := .cond (.t 19) FC.skip (FC.exit 0)
def b9I : FC := .seq c5m b9H
def b9J : FC := .reg [⟨(some 22), none, .op (.mv (.t 0))⟩,  ⟨(some 23), none, .op (.mv (.t 6))⟩,  ⟨(some 24), none, .op (.iad none (some 4) (.t 22) (.t 23))⟩,  ⟨(some 25), none, .op (.load (some 4) (.t 24))⟩,  ⟨(some 7), none, .op (.new [(.int .i64 0), (.int .i64 0), (.int .i64 0), (.bool false)])⟩,  ⟨none, none, .op (.store 4 (.t 7) (.t 25))⟩] []
def b9K : FC := .reg [⟨(some 26), none, .op (.mv (.t 1))⟩,  ⟨(some 27), none, .op (.load (some 4) (.t 7))⟩,  ⟨(some 28), none, .callv (.t 26) [(.t 27)]⟩,  ⟨(some 29), none, .op (.un .not (.t 28))⟩] []
def b9L : FC := .reg [⟨(some 30), none, .op (.mv (.t 0))⟩,  ⟨(some 31), none, .op (.mv (.t 5))⟩,  ⟨(some 32), none, .op (.load (some 4) (.t 7))⟩,  ⟨(some 33), none, .op (.iad none (some 4) (.t 30) (.t 31))⟩,  ⟨none, none, .op (.store 4 (.t 33) (.t 32))⟩] []
def b9M : FC := .reg [⟨(some 34), none, .op (.mv (.t 5))⟩,  ⟨(some 35), none, .op (.bin .none .add (.t 34) (.v (.int .i64 1)))⟩,  ⟨(some 5), none, .op (.mv (.t 35))⟩] []
def b9N : FC := .seq b9L b9M
def b9O : FC := .cond (.t 29) b9N FC.skip
def b9P : FC := .seq b9K b9O
def b9Q : FC := .seq b9J b9P
def b9R : FC := .block 1 b9Q
def b9S : FC := .reg [⟨(some 20), none, .op (.mv (.t 6))⟩,  ⟨(some 21), none, .op (.bin .none .add (.t 20) (.v (.int .i64 1)))⟩,  ⟨(some 6), none, .op (.mv (.t 21))⟩] []
def b9T : FC := .seq b9R b9S
def b9U : FC := .seq b9I b9T
def b9V : FC := .loop b9U
def b9W : FC := .block 0 b9V
def b9X : FC := .seq c5l b9W
def b9Y : FC := .reg [⟨(some 36), none, .op (.mv (.t 0))⟩,  ⟨(some 37), none, .op (.mv (.t 5))⟩,  ⟨(some 38), none, .op (.slc (some 4) (.t 36) (some (.t 37)) none none)⟩,  ⟨none, none, .op (.clr (some 4) [(.int .i64 0), (.int .i64 0), (.int .i64 0), (.bool false)] (.t 38))⟩] []
def b9Z : FC := .reg [⟨(some 39), none, .op (.mv (.t 0))⟩,  ⟨(some 40), none, .op (.mv (.t 5))⟩,  ⟨(some 41), none, .op (.slc (some 4) (.t 39) none (some (.t 40)) none)⟩,  ⟨(some 4), none, .op (.mv (.t 41))⟩] []
def c0a : FC := .seq b9Z FC.ret
def c0b : FC := .seq b9Y c0a
def c0c : FC := .seq b9X c0b
def c0d : FC := .seq c5k c0c
def c0e : FC := .seq c5f c0d
def c0f : FC := .seq c5e c0e
def c8a : FC := c0f
theorem c8b : Fn3 Tryd.prog 49 42 [(4, none)] c8a := ⟨_, _, Tryd.func49, rfl, rfl, rfl, by kernel_rfl⟩

def wk1 (a : Int) (x : b7) : b7 := ⟨x.Place, if a < x.From then a else x.From, if a > x.To then a else x.To, x.Held⟩
def wkP (a : Int) (all : List b7) (p : Int) : List b7 := all.modify p.toNat (wk1 a)
theorem b3B (a : Int) (all : List b7) (p : Int) : (wkP a all p).length = all.length := by unfold wkP; simp
theorem a3p (a : Int) : ∀ (ps : List Int) (all : List b7), (ps.foldl (wkP a) all).length = all.length
 | [], _ => rfl
 | p :: ps, all => by rw [List.foldl_cons, a3p a ps, b3B]
theorem a7J {α : Type} {l : List α} {i : Nat} {x : α} {f : α → α} (h : l[i]? = some x) : l.modify i f = l.set i (f x) := by
 apply List.ext_getElem?
 intro k
 have hi := (List.getElem?_eq_some_iff.1 h).1
 rw [List.getElem?_modify, List.getElem?_set]
 by_cases e : i = k
 ·subst e; rw [if_pos rfl, if_pos hi, h]; simp
 ·rw [if_neg e]; simp [e]
theorem a8u {all : List b7} {oc oa va : Nat} {a : Int} {ps : List Int} (hp : ∀ p ∈ ps, 0 ≤ p ∧ p < all.length) (hl : ps.length ≤ 4611686018427387904) :
  Tri Tryd.prog 46 [.int .i64 a, .sl false 1 (ps.map (avI .i64)), .ptr oc 0 0] [(oc, 0, [.ref oa va 0 all.length (some 4)]), (oa, va, flat b7.av all)]
   (fun _ L' => L' = [(oc, 0, [.ref oa va 0 all.length (some 4)]), (oa, va, flat b7.av (ps.foldl (wkP a) all))]) := by
 refine a9g mixed c7X zS [] (fun R S hS => ?_)
 have hne : oa ≠ oc := by
  have := hS.2
  simp at this
  intro e; exact this.1.1 e.symm
 refine aU ?_
 refine a3S ps.length (fun s : List b7 => [(0, .int .i64 a), (7, .sl false 1 (ps.map (avI .i64))), (2, .ptr oc 0 0)]) (fun s => (oc, 0, [.ref oa va 0 all.length (some 4)]) :: (oa, va, flat b7.av s) :: R) (fun i s => s.length = all.length ∧ (ps.drop i).foldl (wkP a) s = ps.foldl (wkP a) all) all hS ⟨rfl, rfl⟩
  (a0f ⟨.refl _, .refl _, .refl _, .refl _, .refl _, trivial⟩) hl zD zD (fun _ => ⟨rfl, rfl, rfl, rfl⟩) (fun i s S hi hI hS => ?_) (fun s fr' S hI hS hw => ?_)
 ·obtain ⟨hsl, hI⟩ := hI
  obtain ⟨p, hpi⟩ : ∃ p, ps[i]? = some p := ⟨ps[i], List.getElem?_eq_getElem hi⟩
  obtain ⟨hp0, hp1⟩ := hp p (List.mem_of_getElem? hpi)
  obtain ⟨x, hx⟩ : ∃ x, s[p.toNat]? = some x := ⟨s[p.toNat]'zO, List.getElem?_eq_getElem _⟩
  refine aU ?_
  refine k6 rfl rfl (a5R hpi) ?_
  refine oP (.int .i64 p) ?_
  refine aU ?_
  refine a6E ?_
  have h11 : (oc, 0, [AV.ref oa va 0 all.length (some 4)]) ∈ (oc, 0, [AV.ref oa va 0 all.length (some 4)]) :: (oa, va, flat b7.av s) :: R := .head _
  refine a1j hS rfl zM rfl ?_
  refine a0M zC ?_
  refine a1j hS rfl zM rfl ?_
  refine a0M zC ?_
  refine a1j hS rfl zM rfl ?_
  refine a0M zC ?_
  refine p9 rfl rfl ⟨by omega, by omega⟩ ?_
  refine aS ?_
  refine a6M hS b7.enc rfl zM (n := p.toNat) (fo := 1) (y := x) (v := .int .i64 x.From) (by simp [j4]) hx rfl ?_
  refine aS ?_
  refine a1j hS rfl zM rfl ?_
  refine a0M zC ?_
  refine p9 rfl rfl ⟨by omega, by omega⟩ ?_
  refine aS ?_
  refine a6M hS b7.enc rfl zM (n := p.toNat) (fo := 2) (y := x) (v := .int .i64 x.To) (by simp [j4]) hx rfl ?_
  refine aS ?_
  refine p9 rfl rfl ⟨by omega, by omega⟩ ?_
  refine aS ?_
  refine a5N hS b7.enc rfl zC (n := p.toNat) (fo := 1) (y := x) (y' := ⟨x.Place, if a < x.From then a else x.From, x.To, x.Held⟩) (by simp [j4]) hx (by first | exact Rp.here | (repeat (first | exact Rp.here | apply Rp.there | apply Rp.skip))) rfl rfl (by simp [j4]) rfl (fun S hS => ?_)
  refine p9 rfl rfl ⟨by omega, by omega⟩ ?_
  refine aS ?_
  refine a5N (l := s.set p.toNat ⟨x.Place, if a < x.From then a else x.From, x.To, x.Held⟩) hS b7.enc rfl zC (n := p.toNat) (fo := 2) (y := ⟨x.Place, if a < x.From then a else x.From, x.To, x.Held⟩) (y' := wk1 a x) (by simp [j4]) (by rw [List.getElem?_set_self zO]) (by first | exact Rp.here | (repeat (first | exact Rp.here | apply Rp.there | apply Rp.skip))) rfl rfl (by simp [j4]) rfl (fun S hS => ?_)
  refine b6 ?_
  refine And.intro (by simp [a2u, a8F, a1K, a2A, hne]) ?_
  have hw : wkP a s p = s.set p.toNat (wk1 a x) := a7J hx
  refine R_n (wkP a s p) ⟨by rw [b3B]; exact hsl, ?_⟩ (by rw [hw]; simpa using hS) (a0f ⟨.refl _, .refl _, .refl _, .refl _, .refl _, trivial⟩)
  rw [a2T hpi, List.foldl_cons] at hI
  exact hI
 ·obtain ⟨hsl, hI⟩ := hI
  rw [List.drop_length] at hI
  simp only [List.foldl_nil] at hI
  subst hI
  (repeat (first | refine a2h ?_ | refine a3x ?_ | refine a3M rfl ?_ | refine m8 ?_ | refine z9 ?_ | refine a0y ?_))
  exact ⟨trivial, _, rfl, _, rfl, hS⟩
def a7e (x : b7) : Bool := decide (x.To < 0)
theorem b3C (x : b7) : n9 Tryd.prog 50 [(b7.av x)] (.bool (a7e x)) := a5X rfl
theorem b5S : a0I Tryd.prog 50 = true := by kernel_rfl
def ixV (all : List b7) : Int := match all.findIdx? a7e with | some i => (i : Int) | none => -1
theorem b3D {all : List b7} {oa va : Nat} (hl : all.length ≤ 4611686018427387904) :
  Tri Tryd.prog 75 [.ref oa va 0 all.length (some 4), .fn (.func 50) [] []] [(oa, va, flat b7.av all)] (fun r L' => r = .int .i64 (ixV all) ∧ L' = [(oa, va, flat b7.av all)]) := by
 refine a9g mixed c7Z zS [] (fun R S hS => ?_)
 refine aU ?_
 refine a3S all.length (fun _ : Unit => [(0, .ref oa va 0 all.length (some 4)), (1, .fn (.func 50) [] [])]) (fun _ => (oa, va, flat b7.av all) :: R) (fun i _ => ∀ k, k < i → ∀ x, all[k]? = some x → a7e x = false) () hS (fun k hk => absurd hk (Nat.not_lt_zero k))
  (a0f ⟨.refl _, .refl _, .refl _, .refl _, trivial⟩) hl zD zD (fun _ => ⟨rfl, rfl, rfl, rfl⟩) (fun i s S hi hI hS => ?_) (fun s fr' S hI hS hw => ?_)
 ·obtain ⟨x, hx⟩ : ∃ x, all[i]? = some x := ⟨all[i], List.getElem?_eq_getElem hi⟩
  refine aU ?_
  refine p9 rfl rfl ⟨by omega, by omega⟩ ?_
  refine a6M hS b7.enc rfl zM (n := i) (fo := 0) (y := x) (v := b7.av x) (by simp [j4]) hx rfl ?_
  refine a8i rfl b5S (b3C x) rfl ⟨(.refl _), trivial⟩ (i6 ⟨(b7.enc.blw _ 0), trivial⟩) rfl ?_
  refine aU ?_
  refine s5 rfl (fun hb => ?_) (fun hb => ?_)
  ·refine aU ?_
   refine j8 ?_
   (repeat (first | refine a2h ?_ | refine a3x ?_ | refine a3M rfl ?_ | refine m8 ?_ | refine z9 ?_ | refine a0y ?_))
   refine R_r ?_
   (repeat (first | refine a2h ?_ | refine a3x ?_ | refine a3M rfl ?_ | refine m8 ?_ | refine z9 ?_ | refine a0y ?_))
   refine ⟨trivial, _, rfl, _, ⟨?_, rfl⟩, hS⟩
   have : all.findIdx? a7e = some i := by
    rw [List.findIdx?_eq_some_iff_getElem]
    obtain ⟨h1, h2⟩ := List.getElem?_eq_some_iff.1 hx
    refine ⟨h1, by rw [h2]; exact hb, fun k hk => ?_⟩
    have := hI k hk _ (List.getElem?_eq_getElem zO)
    simp [this]
   simp only [ixV, this]; rfl
  ·refine aU ?_
   refine R_n () (fun k hk y hy => ?_) hS (a0f ⟨.refl _, .refl _, .refl _, .refl _, trivial⟩)
   by_cases e : k = i
   ·subst e; rw [hx] at hy; cases hy; exact hb
   ·exact hI k zO y hy
 ·refine a4l hw ?_
  refine aU ?_
  refine j8 ?_
  refine ⟨trivial, _, rfl, _, ⟨?_, rfl⟩, hS⟩
  have : all.findIdx? a7e = none := by
   rw [List.findIdx?_eq_none_iff]
   intro x hx
   obtain ⟨k, hk, rfl⟩ := List.mem_iff_getElem.1 hx
   exact hI k hk _ (List.getElem?_eq_getElem hk)
  simp only [ixV, this]; rfl
structure c8c (all c : List b7) (i k : Nat) : Prop where
 len : c.length = all.length
 ik : i < k
 ki : k ≤ all.length
 fst : c.take i = (all.take k).filter (fun x => !a7e x)
 rst : c.drop k = all.drop k
def c8d (all : List b7) (oa va : Nat) (r : AV) (L' : List It) : Prop := ∃ j, r = .ref oa va 0 (all.filter fun x => !a7e x).length (some 4) ∧ L' = [(oa, va, flat b7.av (all.filter fun x => !a7e x) ++ j)] ∧ a2K 0 j = true ∧ j.all AV.one = true
theorem b6U {all : List b7} {oa va : Nat} (hl : all.length ≤ 4096) :
  Tri Tryd.prog 49 [.ref oa va 0 all.length (some 4), .fn (.func 50) [] []] [(oa, va, flat b7.av all)] (c8d all oa va) := by
 refine a9g mixed c8b zS [7] (fun R S hS => ?_)
 refine aU ?_
 refine b8s (b3D zO) hS rfl (by repeat (first | exact Spl.nil | refine Spl.cons (by repeat (first | exact Pk.here | apply Pk.there | apply Pk.skip)) ?_ | refine Spl.app (by repeat (first | exact PkC.here | apply PkC.there | apply PkC.skip)) ?_)) (fun v S L' hv hS => ?_)
 obtain ⟨rfl, rfl⟩ := hv
 refine aU ?_
 cases hi : all.findIdx? a7e with
 | none =>
   have e : ixV all = -1 := by simp only [ixV, hi]
   rw [e]
   refine a9y rfl ?_
   refine aU ?_
   refine j8 ?_
   (repeat (first | refine a2h ?_ | refine a3x ?_ | refine a3M rfl ?_ | refine m8 ?_ | refine z9 ?_ | refine a0y ?_))
   rw [List.findIdx?_eq_none_iff] at hi
   have hf : (all.filter fun x => !a7e x) = all := List.filter_eq_self.2 (fun x hx => by rw [hi x hx]; rfl)
   exact ⟨trivial, _, rfl, _, ⟨[], by rw [hf]; rfl, by rw [hf, List.append_nil], rfl, rfl⟩, hS⟩
 | some i0 =>
   have e : ixV all = (i0 : Int) := by simp only [ixV, hi]
   rw [e]
   rw [List.findIdx?_eq_some_iff_getElem] at hi
   obtain ⟨hi0, hg0, hlt0⟩ := hi
   refine a9z (by simp [ev, Fr.get]) ?_
   refine aU ?_
   have hwi : IntKind.i64.wrap ((i0 : Int) + 1) = ((i0 + 1 : Nat) : Int) := by rw [a1s zO]; omega
   refine u9 (a4E (σ := List b7 × Nat × Nat) (fun s => [(0, .ref oa va 0 all.length (some 4)), (1, .fn (.func 50) [] []), (5, .int .i64 s.2.1), (6, .int .i64 s.2.2)]) (fun s => (oa, va, flat b7.av s.1) :: R) (fun s => c8c all s.1 s.2.1 s.2.2) (fun s => all.length - s.2.2) (all, i0, i0 + 1) hS ?_
    (a0f ⟨.refl _, .refl _, .refl _, by rw [← hwi]; exact .refl _, trivial⟩) (fun s S hI hS => ?_))
   ·refine ⟨rfl, Nat.lt_succ_self _, hi0, ?_, rfl⟩
    rw [List.take_succ_eq_append_getElem hi0, List.filter_append]
    have h1 : (all.take i0).filter (fun x => !a7e x) = all.take i0 := List.filter_eq_self.2 (fun x hx => by
     obtain ⟨k, hk, rfl⟩ := List.mem_iff_getElem.1 hx
     have hk' : k < i0 := by rw [List.length_take] at hk; omega
     rw [List.getElem_take]
     have := hlt0 k hk'
     simp at this; simp [this])
    rw [h1]
    simp [hg0]
   ·obtain ⟨c, i, k⟩ := s
    dsimp only at hI hS
    refine aU ?_
    dsimp only
    refine s5 rfl (fun hb => ?_) (fun hb => ?_)
    ·have hk : k < all.length := by simpa using hb
     obtain ⟨x, hx⟩ : ∃ x, all[k]? = some x := ⟨all[k], List.getElem?_eq_getElem hk⟩
     have hcx : c[k]? = some x := by
      have := congrArg (fun l => l[0]?) hI.rst
      simp only [List.getElem?_drop, Nat.add_zero] at this
      rw [this]; exact hx
     have hwk : IntKind.i64.wrap ((k : Int) + 1) = ((k + 1 : Nat) : Int) := by rw [a1s zO]; omega
     have hwi2 : IntKind.i64.wrap ((i : Int) + 1) = ((i + 1 : Nat) : Int) := by have := hI.ik; rw [a1s zO]; omega
     have htk : all.take (k + 1) = all.take k ++ [x] := by
      obtain ⟨h1, h2⟩ := List.getElem?_eq_some_iff.1 hx
      rw [List.take_succ_eq_append_getElem h1, h2]
     have hlen := hI.len
     have hik := hI.ik
     refine aU ?_
     refine u9 ?_
     refine aU ?_
     refine p9 rfl rfl ⟨by omega, by omega⟩ ?_
     refine a6M hS b7.enc rfl zM (n := k) (fo := 0) (y := x) (v := b7.av x) (by simp [j4]) hcx rfl ?_
     refine b4H hS rfl (fun o7 S hS => ?_)
     refine E_stS hS rfl zC (by first | exact Rp.here | (repeat (first | exact Rp.here | apply Rp.there | apply Rp.skip))) rfl rfl (by first | exact Nat.le_of_ble_eq_true rfl | (simp; omega) | omega) (fun S hS => ?_)
     refine aU ?_
     replace hS : Sep S ((o7, 0, (b7.av x).cells) :: (oa, va, flat b7.av c) :: R) := hS
     refine a1j hS rfl zM (v := b7.av x) rfl ?_
     refine a8i rfl b5S (b3C x) rfl ⟨(.refl _), trivial⟩ (i6 ⟨(b7.enc.blw _ 0), trivial⟩) rfl ?_
     refine aU ?_
     cases hgx : a7e x with
     | true =>
       refine a9z rfl ?_
       refine aU ?_
       (repeat (first | refine a2h ?_ | refine a3x ?_ | refine a3M rfl ?_ | refine m8 ?_ | refine z9 ?_ | refine a0y ?_))
       refine aU ?_
       refine ⟨(c, i, k + 1), ⟨hlen, by simp only; omega, hk, ?_, ?_⟩, by simp only; omega, hS.sub (List.sublist_cons_self _ _), a0f ⟨.refl _, .refl _, .refl _, by simp only; rw [← hwk]; exact .refl _, trivial⟩⟩
       ·rw [htk, List.filter_append, hI.fst]; simp [hgx]
       ·have := congrArg (List.drop 1) hI.rst
        simpa [List.drop_drop] using this
     | false =>
       refine a9y rfl ?_
       refine aU ?_
       refine a1j hS rfl zM (v := b7.av x) rfl ?_
       obtain ⟨y, hy⟩ : ∃ y, c[i]? = some y := ⟨c[i]'zO, List.getElem?_eq_getElem _⟩
       refine p9 rfl rfl ⟨by omega, by omega⟩ ?_
       refine a5N (l := c) hS b7.enc rfl zC (n := i) (fo := 0) (y := y) (y' := x) (by simp [j4]) hy (by first | exact Rp.here | (repeat (first | exact Rp.here | apply Rp.there | apply Rp.skip))) rfl rfl (by simp [j4]) rfl (fun S hS => ?_)
       refine aU ?_
       (repeat (first | refine a2h ?_ | refine a3x ?_ | refine a3M rfl ?_ | refine m8 ?_ | refine z9 ?_ | refine a0y ?_))
       refine aU ?_
       refine ⟨(c.set i x, i + 1, k + 1), ⟨by simp [hlen], by simp only; omega, hk, ?_, ?_⟩, by simp only; omega, hS.sub (List.sublist_cons_self _ _), a0f ⟨.refl _, .refl _, by simp only; rw [← hwi2]; exact .refl _, by simp only; rw [← hwk]; exact .refl _, trivial⟩⟩
       ·rw [htk, List.filter_append, ← hI.fst]
        rw [List.take_succ_eq_append_getElem zE, List.take_set_of_le (Nat.le_refl _)]
        simp [hgx]
       ·simp only; rw [List.drop_set_of_lt zO]
        have := congrArg (List.drop 1) hI.rst
        simpa [List.drop_drop] using this
    ·have hk : k = all.length := by have := hI.ki; simp at hb; omega
     subst hk
     refine a2w ?_
     (repeat (first | refine a2h ?_ | refine a3x ?_ | refine a3M rfl ?_ | refine m8 ?_ | refine z9 ?_ | refine a0y ?_))
     refine aU ?_
     have hik := hI.ik
     have hlen := hI.len
     refine b0G (a := i) (b := all.length) rfl (by simp [evO, ev, Fr.get, loN]) rfl ⟨by omega, by omega, .inr hik⟩ ?_
     have hfst : c.take i = all.filter (fun x => !a7e x) := by rw [hI.fst, List.take_length]
     have hfl : (all.filter fun x => !a7e x).length = i := by rw [← hfst, List.length_take]; omega
     have hsp : splice (flat b7.av c) (0 + i * j4 (some 4)) (repl (all.length - i) [(.int .i64 0), (.int .i64 0), (.int .i64 0), (.bool false)]) = flat b7.av (all.filter fun x => !a7e x) ++ repl (all.length - i) [(.int .i64 0), (.int .i64 0), (.int .i64 0), (.bool false)] := by
      have e1 : flat b7.av c = flat b7.av (c.take i) ++ flat b7.av (c.drop i) := by rw [← a0S, List.take_append_drop]
      have e2 : 0 + i * j4 (some 4) = (flat b7.av (c.take i)).length := by rw [b7.enc.length, hfst, hfl]; omega
      rw [e1, e2, a7F _ _ _ (by rw [a0Q, b7.enc.length, List.length_drop, hlen]; simp [j4]), hfst]
     refine c4i hS rfl zO rfl (by rw [hsp]; exact Rp.here) (fun S hS => ?_)
     refine aU ?_
     refine b0G (a := 0) (b := i) rfl rfl (by simp [evO, ev, Fr.get, hiN]) ⟨by omega, by omega, .inl rfl⟩ ?_
     refine aU ?_
     refine j8 ?_
     refine ⟨trivial, _, rfl, _, ⟨_, ?_, rfl, ?_, ?_⟩, hS⟩
     ·rw [hfl]; simp only [Nat.zero_mul, Nat.zero_add, Nat.sub_zero]; rfl
     ·rw [a4f]
      intro x hx
      unfold repl at hx
      rw [List.mem_flatten] at hx
      obtain ⟨l, hl1, hl2⟩ := hx
      rw [List.mem_replicate] at hl1
      obtain ⟨_, rfl⟩ := hl1
      simp at hl2
      rcases hl2 with rfl | rfl <;> rfl
     ·rw [List.all_eq_true]
      intro x hx
      unfold repl at hx
      rw [List.mem_flatten] at hx
      obtain ⟨l, hl1, hl2⟩ := hx
      rw [List.mem_replicate] at hl1
      obtain ⟨_, rfl⟩ := hl1
      simp at hl2
      rcases hl2 with rfl | rfl <;> rfl
end Go.Proofs.YtgoejecjmodjiaaDoor

/- order.Spans: the walk. -/
namespace Go.Proofs.YtgoejecjmodjiaaDoor
open Go Go.Ab
set_option maxRecDepth 20000
set_option maxHeartbeats 2000000
def c5n : FC := .reg [⟨(some 2), none, .op (.box (.t 0))⟩,  ⟨(some 4), none, .op (.mv (.v .nils))⟩,  ⟨(some 5), none, .op (.mv (.v (.int .i64 0)))⟩] []
def c5o : FC := .reg [⟨(some 20), none, .op (.load (some 1) (.t 2))⟩,  ⟨(some 21), none, .op (.mv (.t 1))⟩,  ⟨(some 22), none, .call 10 [(.t 20), (.t 21)]⟩,  ⟨(some 19), none, .op (.mv (.t 22))⟩,  ⟨(some 23), none, .op (.ext 0 (.t 19))⟩,  ⟨(some 24), none, .op (.ext 1 (.t 19))⟩,  ⟨(some 6), none, .op (.mv (.t 23))⟩,  ⟨(some 7), none, .op (.mv (.t 24))⟩] []
def c5p : FC := .reg [⟨(some 25), none, .op (.mv (.t 7))⟩,  ⟨(some 26), none, .op (.bin .none .neq (.t 25) (.v (.int .i64 0)))⟩] []
def c5q : FC := .reg [⟨(some 27), none, .op (.mv (.t 7))⟩,  ⟨(some 4), none, .op (.mv (.v .nils))⟩,  ⟨(some 5), none, .op (.mv (.t 27))⟩] []
def c5r : FC := .seq c5q FC.ret
def c5s : FC := .cond (.t 26) c5r FC.skip
def c5t : FC := .seq c5p c5s
def c5u : FC := .reg [⟨(some 29), none, .op (.load (some 1) (.t 2))⟩,  ⟨(some 30), none, .op (.mv (.t 1))⟩,  ⟨(some 31), none, .call 11 [(.t 29), (.t 30)]⟩,  ⟨(some 28), none, .op (.mv (.t 31))⟩,  ⟨(some 32), none, .op (.ext 0 (.t 28))⟩,  ⟨(some 33), none, .op (.ext 1 (.t 28))⟩,  ⟨(some 8), none, .op (.mv (.t 32))⟩,  ⟨(some 9), none, .op (.mv (.t 33))⟩] []
def c5v : FC := .reg [⟨(some 34), none, .op (.fad 0 (.t 2))⟩,  ⟨(some 35), none, .op (.load none (.t 34))⟩,  ⟨(some 36), none, .op (.mv (.t 1))⟩,  ⟨(some 37), none, .op (.iad none (some 8) (.t 35) (.t 36))⟩,  ⟨(some 10), none, .op (.mv (.t 37))⟩] []
def c0g : FC := .reg [⟨(some 38), none, .op (.mv (.t 10))⟩,  ⟨(some 39), none, .op (.nchk (.t 38))⟩,  ⟨(some 40), none, .op (.fad 1 (.t 39))⟩,  ⟨(some 41), none, .op (.load none (.t 40))⟩,  ⟨(some 42), none, .op (.len .sl (.t 41))⟩,  ⟨(some 43), none, .op (.mksl (some 4) 32 [(.int .i64 0), (.int .i64 0), (.int .i64 0), (.bool false)] (.t 42) (.t 42))⟩,  ⟨(some 11), none, .op (.new [.nils])⟩,  ⟨none, none, .op (.store 1 (.t 11) (.t 43))⟩] []
def c0h : FC := .reg [⟨(some 44), none, .op (.load none (.t 11))⟩,  ⟨(some 45), none, .op (.len .sl (.t 44))⟩,  ⟨(some 46), none, .op (.mv (.v (.int .i64 0)))⟩] []
def c0i : FC := .reg [⟨(some 48), none, .op (.mv (.t 46))⟩,  ⟨(some 12), none, .op (.mv (.t 48))⟩] []
def c0j : FC := .reg [⟨(some 49), none, .op (.load none (.t 11))⟩,  ⟨(some 50), none, .op (.mv (.t 12))⟩,  ⟨(some 51), none, .op (.mv (.t 12))⟩,  ⟨(some 52), none, .op (.mv (.t 10))⟩,  ⟨(some 53), none, .op (.nchk (.t 52))⟩,  ⟨(some 54), none, .op (.fad 6 (.t 53))⟩,  ⟨(some 55), none, .op (.load none (.t 54))⟩,  ⟨(some 56), none, .op (.len .sl (.t 55))⟩,  ⟨(some 57), none, .op (.build [(.int .i64 0), (.int .i64 0), (.int .i64 0), (.bool false)] [(0, 1, (.t 51)), (1, 1, (.t 56)), (2, 1, (.v (.int .i64 (-1))))])⟩,  ⟨(some 58), none, .op (.iad none (some 4) (.t 49) (.t 50))⟩,  ⟨none, none, .op (.store 4 (.t 58) (.t 57))⟩] []
def c0k : FC := .seq c0i c0j
def c0l : FC := .loop (.seq (.reg [⟨(some 47), none, .op (.bin .none .lss (.t 46) (.t 45))⟩] []) (.seq (.cond (.t 47) .skip (.exit 0)) (.seq (.block 1 c0k) (.reg [⟨(some 59), none, .op (.bin .none .add (.t 46) (.v (.int .i64 1)))⟩,  ⟨(some 46), none, .op (.mv (.t 59))⟩] []))))
def c0m : FC := .block 0 c0l
def c0n : FC := .seq c0h c0m
def c0o : FC := .reg [⟨(some 60), none, .op (.mkf (.func 46) [] [(.t 11)])⟩,  ⟨(some 13), none, .op (.mv (.t 60))⟩] []
def c0p : FC := .reg [⟨(some 61), none, .op (.mv (.t 13))⟩,  ⟨(some 62), none, .op (.mv (.t 10))⟩,  ⟨(some 63), none, .op (.nchk (.t 62))⟩,  ⟨(some 64), none, .op (.fad 0 (.t 63))⟩,  ⟨(some 65), none, .op (.load none (.t 64))⟩,  ⟨(some 66), none, .callv (.t 61) [(.v (.int .i64 0)), (.t 65)]⟩] []
def c0q : FC := .reg [⟨(some 67), none, .op (.mv (.t 10))⟩,  ⟨(some 68), none, .call 45 [(.t 67)]⟩,  ⟨(some 69), none, .op (.len .sl (.t 68))⟩,  ⟨(some 70), none, .op (.mv (.v (.int .i64 0)))⟩] []
def c0r : FC := .reg [⟨(some 72), none, .op (.mv (.t 70))⟩,  ⟨(some 73), none, .op (.iad none none (.t 68) (.t 70))⟩,  ⟨(some 74), none, .op (.load none (.t 73))⟩,  ⟨(some 14), none, .op (.mv (.t 72))⟩,  ⟨(some 15), none, .op (.mv (.t 74))⟩] []
def c0s : FC := .reg [⟨(some 75), none, .op (.mv (.t 10))⟩,  ⟨(some 76), none, .op (.nchk (.t 75))⟩,  ⟨(some 77), none, .op (.fad 6 (.t 76))⟩,  ⟨(some 78), none, .op (.load none (.t 77))⟩,  ⟨(some 79), none, .op (.mv (.t 15))⟩,  ⟨(some 80), none, .op (.iad none (some 12) (.t 78) (.t 79))⟩,  ⟨(some 81), none, .op (.load (some 12) (.t 80))⟩,  ⟨(some 16), none, .op (.new [(.int .u8 0), (.int .u8 0), (.int .i64 0), (.int .i64 0), (.int .i64 0), (.int .i64 0), (.int .i64 0), (.int .i64 0), (.int .u64 0), .nils, (.int .i64 0), (.int .i64 0)])⟩,  ⟨none, none, .op (.store 12 (.t 16) (.t 81))⟩] []
def c0t : FC := .reg [⟨(some 82), none, .op (.mv (.t 13))⟩,  ⟨(some 83), none, .op (.mv (.t 14))⟩,  ⟨(some 84), none, .op (.mv (.t 6))⟩,  ⟨(some 85), none, .op (.mv (.t 15))⟩,  ⟨(some 86), none, .op (.iad none none (.t 84) (.t 85))⟩,  ⟨(some 87), none, .op (.load none (.t 86))⟩,  ⟨(some 88), none, .callv (.t 82) [(.t 83), (.t 87)]⟩] []
def c0u : FC := .reg [⟨(some 89), none, .op (.mv (.t 13))⟩,  ⟨(some 90), none, .op (.mv (.t 14))⟩,  ⟨(some 91), none, .op (.load (some 12) (.t 16))⟩,  ⟨(some 92), none, .call 47 [(.t 91)]⟩,  ⟨(some 93), none, .callv (.t 89) [(.t 90), (.t 92)]⟩] []
def c0v : FC := .reg [⟨(some 94), none, .op (.fad 0 (.t 16))⟩,  ⟨(some 95), none, .op (.load none (.t 94))⟩,  ⟨(some 96), none, .op (.bin .none .neq (.t 95) (.v (.int .u8 11)))⟩,  ⟨(some 97), none, .op (.mv (.t 96))⟩,  ⟨(some 98), some (97, true), .op (.fad 0 (.t 16))⟩,  ⟨(some 99), some (97, true), .op (.load none (.t 98))⟩,  ⟨(some 100), some (97, true), .op (.bin .none .neq (.t 99) (.v (.int .u8 13)))⟩,  ⟨(some 101), none, .op (.pick (.t 97) (.t 100) (.v (.bool false)))⟩] []
def c0w : FC := .cond (.t 101) (FC.exit 3) FC.skip
def c0x : FC := .seq c0v c0w
def c0y : FC := .reg [⟨(some 102), none, .op (.mv (.t 8))⟩,  ⟨(some 103), none, .op (.mv (.t 15))⟩,  ⟨(some 104), none, .op (.iad none none (.t 102) (.t 103))⟩,  ⟨(some 105), none, .op (.load none (.t 104))⟩,  ⟨(some 106), none, .op (.len .sl (.t 105))⟩,  ⟨(some 107), none, .op (.mv (.v (.int .i64 0)))⟩] []
def c0z : FC := .reg [⟨(some 109), none, .op (.iad none none (.t 105) (.t 107))⟩,  ⟨(some 110), none, .op (.load none (.t 109))⟩,  ⟨(some 18), none, .op (.mv (.t 110))⟩] []
def c0A : FC := .reg [⟨(some 111), none, .op (.load (some 12) (.t 16))⟩,  ⟨(some 112), none, .call 47 [(.t 111)]⟩,  ⟨(some 113), none, .op (.mv (.t 18))⟩,  ⟨(some 114), none, .call 48 [(.t 112), (.t 113)]⟩,  ⟨(some 115), none, .op (.un .not (.t 114))⟩] []
def c0B : FC := .reg [⟨(some 116), none, .op (.load none (.t 11))⟩,  ⟨(some 117), none, .op (.mv (.t 18))⟩,  ⟨(some 118), none, .op (.iad none (some 4) (.t 116) (.t 117))⟩,  ⟨(some 119), none, .op (.fad 3 (.t 118))⟩,  ⟨none, none, .op (.store 1 (.t 119) (.v (.bool true)))⟩] []
def c0C : FC := .cond (.t 115) c0B FC.skip
def c0D : FC := .seq c0A c0C
def c0E : FC := .seq c0z c0D
def c0F : FC := .loop (.seq (.reg [⟨(some 108), none, .op (.bin .none .lss (.t 107) (.t 106))⟩] []) (.seq (.cond (.t 108) .skip (.exit 4)) (.seq (.block 5 c0E) (.reg [⟨(some 120), none, .op (.bin .none .add (.t 107) (.v (.int .i64 1)))⟩,  ⟨(some 107), none, .op (.mv (.t 120))⟩] []))))
def c0G : FC := .block 4 c0F
def b5T : FC := .seq c0y c0G
def c0H : FC := .seq c0x b5T
def c0I : FC := .seq c0u c0H
def c0J : FC := .seq c0t c0I
def c0K : FC := .seq c0s c0J
def c0L : FC := .seq c0r c0K
def c0M : FC := .loop (.seq (.reg [⟨(some 71), none, .op (.bin .none .lss (.t 70) (.t 69))⟩] []) (.seq (.cond (.t 71) .skip (.exit 2)) (.seq (.block 3 c0L) (.reg [⟨(some 121), none, .op (.bin .none .add (.t 70) (.v (.int .i64 1)))⟩,  ⟨(some 70), none, .op (.mv (.t 121))⟩] []))))
def c0N : FC := .block 2 c0M
def c0O : FC := .seq c0q c0N
def c0P : FC := .reg [⟨(some 122), none, .op (.load none (.t 11))⟩,  ⟨(some 123), none, .call 49 [(.t 122), (.v (.fn (.func 50) [] []))]⟩,  ⟨(some 4), none, .op (.mv (.t 123))⟩,  ⟨(some 5), none, .op (.mv (.v (.int .i64 0)))⟩] []
def c0Q : FC := .seq c0P FC.ret
def c0R : FC := .seq c0O c0Q
def c0S : FC := .seq c0p c0R
def c0T : FC := .seq c0o c0S
def c0U : FC := .seq c0n c0T
def c0V : FC := .seq c0g c0U
def c0W : FC := .seq c5v c0V
def c0X : FC := .seq c5u c0W
def c0Y : FC := .seq c5t c0X
def c0Z : FC := .seq c5o c0Y
def c1a : FC := .seq c5n c0Z
def c8e : FC := c1a
theorem c8f : Fn3 Tryd.prog 24 124 [(4, none), (5, none)] c8e := ⟨_, _, Tryd.func24, rfl, rfl, rfl, by kernel_rfl⟩

theorem b3E : a0I Tryd.prog 46 = true := by kernel_rfl
noncomputable def wrS (n : g7) : List Int := Classical.choose (a3V n)
theorem b3F (n : g7) : a1k n = some (wrS n) := (Classical.choose_spec (a3V n)).1
theorem b3G (n : g7) : (wrS n).length ≤ 10000000 := (Classical.choose_spec (a3V n)).2.1
theorem b0g (n : g7) (x : Int) : x ∈ wrS n ↔ (x ∈ a9Z n ∧ 0 ≤ x) := (Classical.choose_spec (a3V n)).2.2 x
theorem b6V {g : b5} {k : Int} {ps : List Int} (h : isB g k ps = true) : ∀ p ∈ ps, 0 ≤ p ∧ p < g.Kinds.length := by
 intro p hp
 have := List.all_eq_true.1 h p hp
 unfold a1H at this
 simp only [Bool.and_eq_true, decide_eq_true_eq] at this
 exact this.1
theorem b3H {all : List b5} {g : b5} {n : g7} (h : a2H all g n = true) : ∀ p ∈ a9Z n, 0 ≤ p → p < g.Kinds.length := by
 unfold a2H at h
 simp only [Bool.and_eq_true] at h
 have ho := h.2
 intro p hp h0
 unfold a9Z at hp
 unfold opB at ho
 have one : ∀ k ps, isB g k ps = true → p ∈ ps → p < g.Kinds.length := fun k ps a b => (b6V a p b).2
 by_cases h1 : n.Op = 1 ∨ n.Op = 16
 ·rw [if_pos h1] at ho
  rw [if_pos zO] at hp
  exact one _ _ ho hp
 rw [if_neg h1] at ho
 by_cases h2 : n.Op = 2
 ·rw [if_pos h2] at ho; rw [if_pos zO] at hp
  simp only [Bool.or_eq_true] at ho
  simp at hp; subst hp
  rcases ho with a | a <;> exact one _ _ a zS
 rw [if_neg h2] at ho
 by_cases h3 : n.Op = 3
 ·rw [if_pos h3] at ho; rw [if_pos zO] at hp
  simp only [Bool.and_eq_true] at ho
  simp at hp; subst hp
  exact one _ _ ho.2 zS
 rw [if_neg h3] at ho
 by_cases h4 : n.Op = 4
 ·rw [if_pos h4] at ho; rw [if_pos zO] at hp
  simp only [Bool.and_eq_true] at ho
  exact one _ _ ho.2 hp
 rw [if_neg h4] at ho
 by_cases h5 : n.Op = 5
 ·rw [if_neg zO, if_neg zO] at hp; cases hp
 rw [if_neg h5] at ho
 by_cases h6 : n.Op = 6
 ·rw [if_pos h6] at ho; rw [if_pos zO] at hp
  simp only [Bool.and_eq_true] at ho
  exact one _ _ ho.2 hp
 rw [if_neg h6] at ho
 by_cases h7 : n.Op = 7
 ·rw [if_pos h7] at ho; rw [if_pos zO] at hp
  simp only [Bool.and_eq_true] at ho
  exact one _ _ ho.1 hp
 rw [if_neg h7] at ho
 by_cases h15 : n.Op = 15
 ·rw [if_neg zO, if_neg zO, if_neg zO, if_pos h15] at ho
  rw [if_neg zO, if_pos h15] at hp
  simp only [Bool.and_eq_true] at ho
  exact one _ _ ho.2 hp
 by_cases h11 : n.Op = 11
 ·rw [if_neg zO, if_neg zO, if_neg zO, if_neg zO, if_neg zO, if_pos h11] at ho
  rw [if_pos zO] at hp
  simp only [Bool.and_eq_true, Bool.or_eq_true, decide_eq_true_eq] at ho
  simp at hp; subst hp
  rcases ho.2 with a | a
  ·omega
  ·exact one _ _ a.1 zS
 rw [if_neg zO, if_neg zO] at hp; cases hp
def a8v (x : b7) : b7 := ⟨x.Place, x.From, x.To, true⟩
def b0Y (w : List Int) (all : List b7) (p : Int) : List b7 := if p ∈ w then all else all.modify p.toNat a8v
theorem a8w (w : List Int) : ∀ (ps : List Int) (all : List b7), (ps.foldl (b0Y w) all).length = all.length
 | [], _ => rfl
 | p :: ps, all => by rw [List.foldl_cons, a8w w ps]; unfold b0Y; split <;> simp
noncomputable def lvI (g : b5) (i : Nat) : List Int := a1R g.Kinds.length (lvB g i)
noncomputable def bhI (g : b5) (i : Nat) : List Int := a1R g.Kinds.length (bhB g i)
noncomputable def wrN (g : b5) (i : Nat) : List Int := match g.Nodes[i]? with | some n => wrS n | none => []
def a2p (g : b5) (i : Nat) : Bool := match g.Nodes[i]? with | some n => n.Op == 11 || n.Op == 13 | none => false
noncomputable def a8x (g : b5) (a : Nat) (all : List b7) (i : Nat) : List b7 :=
 let a2 := (wrN g i).foldl (wkP a) ((lvI g i).foldl (wkP a) all)
 if a2p g i = true then (bhI g i).foldl (b0Y (wrN g i)) a2 else a2
noncomputable def a4v (g : b5) : Nat → List Nat → List b7 → List b7
 | _, [], all => all
 | a, i :: l, all => a4v g (a + 1) l (a8x g a all i)
theorem b3I (g : b5) (a i : Nat) (all : List b7) : (a8x g a all i).length = all.length := by
 unfold a8x
 simp only
 split
 ·rw [a8w, a3p, a3p]
 ·rw [a3p, a3p]
def a5Y (g : b5) : List b7 := (List.range g.Kinds.length).map fun (p : Nat) => ⟨(p : Int), (g.Nodes.length : Int), -1, false⟩
noncomputable def b0h (g : b5) : List b7 := a4v g 0 ((a0Z g).map Int.toNat) (g.Params.foldl (wkP 0) (a5Y g))
noncomputable def a3Y (g : b5) : List b7 := (b0h g).filter fun x => !a7e x
noncomputable def a0t (fuel : Nat) (G : g9) (f : Int) : Option (List b7 × Int) :=
 if 100000000000 ≤ fuel then (if a1P G = true then (match s6 G.Funcs f with | some g => some (a3Y g, 0) | none => some ([], 2)) else some ([], 70)) else none
theorem a6k {K : Nat} {A : Nat → Bool} : ∀ x ∈ a1R K A, 0 ≤ x ∧ x < K := by
 intro x hx
 unfold a1R at hx
 obtain ⟨k, hk, rfl⟩ := List.mem_map.1 hx
 have := (List.mem_filter.1 hk).1
 simp at this; omega
theorem a8y {K : Nat} {A : Nat → Bool} : (a1R K A).length ≤ K := by
 unfold a1R; rw [List.length_map]; exact Nat.le_trans (List.length_filter_le _ _) zS
theorem a4w {fuel : Nat} {g_00 : g9} {f_01 : Int} {r : ((List b7) × Int)} (h : a0t fuel g_00 f_01 = some r) : n9 Tryd.prog 24 [(g9.av g_00), (.int .i64 f_01)] (.tup [(.sl false 4 (List.map b7.av r.1)), (.int .i64 r.2)]) := by
 unfold a0t at h
 split at h
 case isFalse => cases h
 rename_i hfuel
 refine k8 mixed c8f zS [11, 16, 43] 2 ?_
 have hS : Sep [] [] := Sep.nil
 refine g5 (b8 ?_)
 refine oP (.cptr (g9.av g_00).cells 0) ?_
 refine aU ?_
 have hck := a5c g_00 f_01
 by_cases hR : a1P g_00 = true
 case neg =>
  rw [if_neg hR] at h hck
  cases h
  obtain ⟨e1, _⟩ := b0V hck zD (fuel := fuel)
  refine j3 (as' := [g9.av g_00, .int .i64 f_01]) (a4i e1) rfl ⟨(.refl _), (.refl _), trivial⟩ (i6 ⟨(g9.enc.blw _ 0), rfl, trivial⟩) (a2i ⟨((a0E (f4 .i64) 1).blws 0), rfl, trivial⟩) ?_
  refine aU ?_
  refine a9y rfl ?_
  refine aU ?_
  refine j8 ?_
  (repeat (first | refine a2h ?_ | refine a3x ?_ | refine a3M rfl ?_ | refine m8 ?_ | refine z9 ?_ | refine a0y ?_))
  exact ⟨trivial, _, rfl, (a4t ⟨(a0n rfl .nil), (a0n rfl (.refl _)), trivial⟩)⟩
 rw [if_pos hR] at h hck
 cases hgf : s6 g_00.Funcs f_01 with
 | none =>
   rw [hgf] at h
   cases h
   have hnr : ¬ (0 ≤ f_01 ∧ f_01 < g_00.Funcs.length) := by
    rintro ⟨a, b⟩
    rw [b2L a zO] at hgf; cases hgf
   rw [if_neg hnr] at hck
   obtain ⟨e1, _⟩ := b0V hck zD (fuel := fuel)
   refine j3 (as' := [g9.av g_00, .int .i64 f_01]) (a4i e1) rfl ⟨(.refl _), (.refl _), trivial⟩ (i6 ⟨(g9.enc.blw _ 0), rfl, trivial⟩) (a2i ⟨((a0E (f4 .i64) 1).blws 0), rfl, trivial⟩) ?_
   refine aU ?_
   refine a9y rfl ?_
   refine aU ?_
   refine j8 ?_
   (repeat (first | refine a2h ?_ | refine a3x ?_ | refine a3M rfl ?_ | refine m8 ?_ | refine z9 ?_ | refine a0y ?_))
   exact ⟨trivial, _, rfl, (a4t ⟨(a0n rfl .nil), (a0n rfl (.refl _)), trivial⟩)⟩
 | some g =>
   rw [hgf] at h
   cases h
   obtain ⟨h0, h1, h2⟩ := j9 hgf
   rw [if_pos ⟨h0, h1⟩] at hck
   obtain ⟨hg, hhd, hnd⟩ := a3o hR g (List.mem_of_getElem? h2)
   obtain ⟨hK, hp4, hpar, hn1, hN, he0, heN⟩ := a0k hhd
   have hIn := b4X hck hgf hg hfuel
   have hOut := b8O hck hgf hg hfuel
   refine j3 (as' := [g9.av g_00, .int .i64 f_01]) (a4i hIn) rfl ⟨(.refl _), (.refl _), trivial⟩ (i6 ⟨(g9.enc.blw _ 0), rfl, trivial⟩) (a2i ⟨((a0E (f4 .i64) 1).blws 0), rfl, trivial⟩) ?_
   refine aU ?_
   refine a9z rfl ?_
   refine aU ?_
   refine j3 (as' := [g9.av g_00, .int .i64 f_01]) (a9X hOut) rfl ⟨(.refl _), (.refl _), trivial⟩ (i6 ⟨(g9.enc.blw _ 0), rfl, trivial⟩) (a2i ⟨((a0E (f4 .i64) 1).blws 0), rfl, trivial⟩) ?_
   refine aU ?_
   refine k6 rfl rfl hgf ?_
   refine aU ?_
   refine b2Q (f := b7.av) (x := ⟨0, 0, 0, false⟩) hS b7.enc rfl rfl rfl rfl zO (fun oa S hS => ?_)
   simp only [Int.toNat_natCast] at hS ⊢
   refine b4H hS rfl (fun oc S hS => ?_)
   refine E_stS hS rfl zC (by first | exact Rp.here | (repeat (first | exact Rp.here | apply Rp.there | apply Rp.skip))) rfl rfl (by first | exact Nat.le_of_ble_eq_true rfl | (simp; omega) | omega) (fun S hS => ?_)
   replace hS : Sep S [(oc, 0, [.ref oa 0 0 g.Kinds.length (some 4)]), (oa, 0, flat b7.av (List.replicate g.Kinds.length ⟨0, 0, 0, false⟩))] := hS
   refine aU ?_
   refine a1j hS rfl zM rfl ?_
   refine aU ?_
   refine a3S g.Kinds.length (fun _ : List b7 => [(6, .sl false 1 (List.map (avL 1 (avI .i64)) (inL g))), (8, .sl false 1 (List.map (avL 1 (avI .i64)) (b0a g))), (10, gR g), (11, .ptr oc 0 0)]) (fun s => (oc, 0, [.ref oa 0 0 g.Kinds.length (some 4)]) :: (oa, 0, flat b7.av s) :: [])
    (fun i s => s.length = g.Kinds.length ∧ ∀ k, k < i → s[k]? = (a5Y g)[k]?) (List.replicate g.Kinds.length ⟨0, 0, 0, false⟩) hS ⟨by simp, fun k hk => absurd hk (Nat.not_lt_zero k)⟩ (a0f ⟨.refl _, .refl _, .refl _, .refl _, .refl _, .refl _, trivial⟩) zO zD zD (fun _ => ⟨rfl, rfl, rfl, rfl⟩) (fun i s S hi hI hS => ?_) (fun s fr' S hI hS hw => ?_)
   ·obtain ⟨hsl, hI⟩ := hI
    obtain ⟨x, hx⟩ : ∃ x, s[i]? = some x := ⟨s[i]'zO, List.getElem?_eq_getElem _⟩
    refine aU ?_
    refine a1j hS rfl zM rfl ?_
    refine aU ?_
    refine p9 rfl rfl ⟨by omega, by omega⟩ ?_
    refine a5N (l := s) hS b7.enc rfl zC (n := i) (fo := 0) (y := x) (y' := ⟨(i : Int), (g.Nodes.length : Int), -1, false⟩) (by simp [j4]) hx (by first | exact Rp.here | (repeat (first | exact Rp.here | apply Rp.there | apply Rp.skip))) rfl rfl (by simp [j4]) rfl (fun S hS => ?_)
    refine aU ?_
    refine R_n (s.set i ⟨(i : Int), (g.Nodes.length : Int), -1, false⟩) ⟨by simp [hsl], fun k hk => ?_⟩ hS (a0f ⟨.refl _, .refl _, .refl _, .refl _, .refl _, .refl _, trivial⟩)
    rw [List.getElem?_set]
    by_cases e : i = k
    ·subst e
     rw [if_pos rfl, if_pos zO]
     simp [a5Y, hi]
    ·rw [if_neg e]; exact hI k zO
   ·obtain ⟨hsl, hI⟩ := hI
    have hs0 : s = a5Y g := by
     apply List.ext_getElem?
     intro k
     by_cases hk : k < g.Kinds.length
     ·exact hI k hk
     ·rw [List.getElem?_eq_none zO, List.getElem?_eq_none (by simp [a5Y]; omega)]
    subst hs0
    refine a4l hw ?_
    refine g5 (b8 ?_)
    refine oP (.fn (.func 46) [] [.ptr oc 0 0]) ?_
    refine aU ?_
    have hparR : ∀ p ∈ g.Params, 0 ≤ p ∧ p < (a5Y g).length := fun p hp => by rw [hsl]; exact hpar p hp
    refine a8k (a8u (ps := g.Params) (a := 0) (all := a5Y g) hparR zO) hS rfl b3E rfl (by rw [hsl]; exact Spl.cons Pk.here (Spl.cons Pk.here Spl.nil)) (fun v S L' hL hS => ?_)
    subst hL
    rw [hsl] at hS
    refine aU ?_
    have hline : a0V g = some (a0Z g) := if_pos ⟨hg, he0, heN⟩
    refine j3 (a5e hline) rfl ⟨(.refl _), trivial⟩ (i6 ⟨(j6 (b5.enc.blw _ 0)), trivial⟩) ((f4 .i64).blws 0) ?_
    refine aU ?_
    have hlo := b0f hg zO
    obtain ⟨w, hw1, hw2, hw3, _⟩ := hlo.w
    have hwl : w.length = (a0Z g).length := by rw [hw1]; simp
    have hll : (a0Z g).length ≤ g.Nodes.length := by
     rw [← hwl]
     exact a5d _ _ hw2 hw3
    have hmapN : (a0Z g).map Int.toNat = w := by rw [hw1, List.map_map]; exact (List.map_congr_left (fun x _ => by simp)).trans (List.map_id w)
    refine a3S (a0Z g).length (fun _ : List b7 => [(6, .sl false 1 (List.map (avL 1 (avI .i64)) (inL g))), (8, .sl false 1 (List.map (avL 1 (avI .i64)) (b0a g))), (10, gR g), (11, .ptr oc 0 0), (13, .fn (.func 46) [] [.ptr oc 0 0]), (68, .sl false 1 (List.map (avI .i64) (a0Z g)))]) (fun s => (oc, 0, [.ref oa 0 0 g.Kinds.length (some 4)]) :: (oa, 0, flat b7.av s) :: [])
     (fun i s => s.length = g.Kinds.length ∧ a4v g i (w.drop i) s = b0h g) (g.Params.foldl (wkP 0) (a5Y g)) hS ⟨by rw [a3p]; exact hsl, by rw [← hmapN]; rfl⟩ (a0f ⟨.refl _, .refl _, .refl _, .refl _, .refl _, .refl _, .refl _, .refl _, trivial⟩) zO zD zD (fun _ => ⟨rfl, rfl, rfl, rfl⟩) (fun a s S ha hI hS => ?_) (fun s fr' S hI hS hw => ?_)
    ·obtain ⟨hsl, hI⟩ := hI
     obtain ⟨i, hi⟩ : ∃ i, w[a]? = some i := ⟨w[a]'zO, List.getElem?_eq_getElem _⟩
     have hiN : i < g.Nodes.length := hw3 i (List.mem_of_getElem? hi)
     have hli : (a0Z g)[a]? = some (i : Int) := by rw [hw1, List.getElem?_map, hi]; rfl
     obtain ⟨nd, hnd1⟩ : ∃ n, g.Nodes[i]? = some n := ⟨g.Nodes[i], List.getElem?_eq_getElem hiN⟩
     have hwr : wrN g i = wrS nd := by unfold wrN; rw [hnd1]
     have hin : s6 (inL g) (i : Int) = some (lvI g i) := by rw [r8]; unfold inL; simp [hiN, lvI]
     have hout : s6 (b0a g) (i : Int) = some (bhI g i) := by rw [r8]; unfold b0a; simp [hiN, bhI]
     have hwrR : ∀ p ∈ wrS nd, 0 ≤ p ∧ p < g.Kinds.length := fun p hp => by
      obtain ⟨q1, q2⟩ := (b0g nd p).1 hp
      exact ⟨q2, b3H (hnd nd (List.mem_of_getElem? hnd1)) p q1 q2⟩
     rw [a2T hi] at hI
     refine aU ?_
     refine k6 rfl rfl (a5R hli) ?_
     refine oP (.int .i64 (i : Int)) ?_
     refine aU ?_
     refine k6 rfl rfl (a5R hnd1) ?_
     refine oP (g7.av nd) ?_
     refine b4H hS rfl (fun o16 S hS => ?_)
     refine E_stS hS rfl zC (by first | exact Rp.here | (repeat (first | exact Rp.here | apply Rp.there | apply Rp.skip))) rfl rfl (by first | exact Nat.le_of_ble_eq_true rfl | (simp; omega) | omega) (fun S hS => ?_)
     replace hS : Sep S ((o16, 0, (g7.av nd).cells) :: (oc, 0, [.ref oa 0 0 g.Kinds.length (some 4)]) :: (oa, 0, flat b7.av s) :: []) := hS
     refine aU ?_
     refine k6 rfl rfl hin ?_
     refine oP (.sl false 1 ((lvI g i).map (avI .i64))) ?_
     refine a8k (a8u (ps := lvI g i) (a := (a : Int)) (all := s) (oc := oc) (oa := oa) (va := 0) (fun p hp => by rw [hsl]; exact a6k p hp) (Nat.le_trans a8y zO)) hS rfl b3E rfl (by rw [hsl]; exact Spl.cons (Pk.there Pk.here) (Spl.cons (Pk.there Pk.here) Spl.nil)) (fun v S L' hL hS => ?_)
     subst hL
     have hl1 := a3p (a : Int) (lvI g i) s
     refine aU ?_
     refine a1j hS rfl (.tail _ (.tail _ (.head _))) (v := g7.av nd) rfl ?_
     refine j3 (a3U (b3F nd)) rfl ⟨(.refl _), trivial⟩ (i6 ⟨(g7.enc.blw _ 0), trivial⟩) ((f4 .i64).blws 0) ?_
     refine a8k (a8u (ps := wrS nd) (a := (a : Int)) (all := (lvI g i).foldl (wkP a) s) (oc := oc) (oa := oa) (va := 0) (fun p hp => by rw [hl1, hsl]; exact hwrR p hp) (Nat.le_trans (b3G nd) zO)) hS rfl b3E rfl (by rw [hl1]; exact Spl.cons Pk.here (Spl.cons Pk.here Spl.nil)) (fun v S L' hL hS => ?_)
     subst hL
     rw [hl1, hsl] at hS
     refine aU ?_
     refine a1j hS rfl (.tail _ (.tail _ (.head _))) (v := .int .u8 nd.Op) rfl ?_
     refine aU ?_
     have hl2 := a3p (a : Int) (wrS nd) ((lvI g i).foldl (wkP a) s)
     have hic : a2p g i = (nd.Op == 11 || nd.Op == 13) := by unfold a2p; rw [hnd1]
     have e3 : w.drop (a + 1) = w.drop (a + 1) := rfl
     generalize ha2 : (wrS nd).foldl (wkP (a : Int)) ((lvI g i).foldl (wkP a) s) = a2 at hS hl2
     have hnode : a8x g a s i = if a2p g i = true then (bhI g i).foldl (b0Y (wrS nd)) a2 else a2 := by unfold a8x; simp only [hwr, ha2]
     have hlen2 : a2.length = g.Kinds.length := by rw [hl2, hl1, hsl]
     replace hI : a4v g (a + 1) (w.drop (a + 1)) (a8x g a s i) = b0h g := hI
     replace hS : Sep S ((oc, 0, [.ref oa 0 0 g.Kinds.length (some 4)]) :: (oa, 0, flat b7.av a2) :: (o16, 0, (g7.av nd).cells) :: []) := hS
     have hloop : ∀ (S1 : List Ob) (K : Post), Sep S1 ((oc, 0, [.ref oa 0 0 g.Kinds.length (some 4)]) :: (oa, 0, flat b7.av a2) :: (o16, 0, (g7.av nd).cells) :: []) →
       (∀ fr' S', Wk [] fr' S' [(6, .sl false 1 (List.map (avL 1 (avI .i64)) (inL g))), (8, .sl false 1 (List.map (avL 1 (avI .i64)) (b0a g))), (10, gR g), (11, .ptr oc 0 0), (13, .fn (.func 46) [] [.ptr oc 0 0]), (15, .int .i64 (i : Int)), (16, .ptr o16 0 0), (68, .sl false 1 (List.map (avI .i64) (a0Z g))), (70, .int .i64 (a : Int)), (69, .int .i64 ((a0Z g).length : Int))] S' → Sep S' ((oc, 0, [.ref oa 0 0 g.Kinds.length (some 4)]) :: (oa, 0, flat b7.av ((bhI g i).foldl (b0Y (wrS nd)) a2)) :: (o16, 0, (g7.av nd).cells) :: []) → K .normal fr' S') →
       VT Tryd.prog [] [11, 16, 43] b5T [(6, .sl false 1 (List.map (avL 1 (avI .i64)) (inL g))), (8, .sl false 1 (List.map (avL 1 (avI .i64)) (b0a g))), (10, gR g), (11, .ptr oc 0 0), (13, .fn (.func 46) [] [.ptr oc 0 0]), (15, .int .i64 (i : Int)), (16, .ptr o16 0 0), (68, .sl false 1 (List.map (avI .i64) (a0Z g))), (70, .int .i64 (a : Int)), (69, .int .i64 ((a0Z g).length : Int))] S1 K := by
      intro S1 K hS1 hK
      refine aU ?_
      refine k6 rfl rfl hout ?_
      refine oP (.sl false 1 ((bhI g i).map (avI .i64))) ?_
      refine aU ?_
      have hbl : (bhI g i).length ≤ g.Kinds.length := a8y
      refine a3S (bhI g i).length (fun _ : List b7 => [(6, .sl false 1 (List.map (avL 1 (avI .i64)) (inL g))), (8, .sl false 1 (List.map (avL 1 (avI .i64)) (b0a g))), (10, gR g), (11, .ptr oc 0 0), (13, .fn (.func 46) [] [.ptr oc 0 0]), (15, .int .i64 (i : Int)), (16, .ptr o16 0 0), (68, .sl false 1 (List.map (avI .i64) (a0Z g))), (70, .int .i64 (a : Int)), (69, .int .i64 ((a0Z g).length : Int)), (105, .sl false 1 (List.map (avI .i64) (bhI g i)))]) (fun s => (oc, 0, [.ref oa 0 0 g.Kinds.length (some 4)]) :: (oa, 0, flat b7.av s) :: (o16, 0, (g7.av nd).cells) :: [])
       (fun k s => s.length = g.Kinds.length ∧ ((bhI g i).drop k).foldl (b0Y (wrS nd)) s = (bhI g i).foldl (b0Y (wrS nd)) a2) a2 hS1 ⟨hlen2, rfl⟩ (a0f ⟨.refl _, .refl _, .refl _, .refl _, .refl _, .refl _, .refl _, .refl _, .refl _, .refl _, .refl _, .refl _, .refl _, trivial⟩) zO zD zD (fun _ => ⟨rfl, rfl, rfl, rfl⟩) (fun k s S hk hI hS => ?_) (fun s fr' S hI hS hw => ?_)
      ·obtain ⟨hsl, hI⟩ := hI
       obtain ⟨p, hp⟩ : ∃ p, (bhI g i)[k]? = some p := ⟨(bhI g i)[k], List.getElem?_eq_getElem hk⟩
       obtain ⟨hp0, hp1⟩ := a6k p (List.mem_of_getElem? hp)
       obtain ⟨x, hx⟩ : ∃ x, s[p.toNat]? = some x := ⟨s[p.toNat]'zO, List.getElem?_eq_getElem _⟩
       rw [a2T hp, List.foldl_cons] at hI
       refine aU ?_
       refine k6 rfl rfl (a5R hp) ?_
       refine oP (.int .i64 p) ?_
       refine aU ?_
       refine a1j hS rfl (.tail _ (.tail _ (.head _))) (v := g7.av nd) rfl ?_
       refine j3 (a3U (b3F nd)) rfl ⟨(.refl _), trivial⟩ (i6 ⟨(g7.enc.blw _ 0), trivial⟩) ((f4 .i64).blws 0) ?_
       refine aU ?_
       refine j3 (a2x (a5P (wrS nd) p (by have := b3G nd; omega))) rfl ⟨(.refl _), (.refl _), trivial⟩ (i6 ⟨((f4 .i64).blws 0), rfl, trivial⟩) rfl ?_
       refine aU ?_
       by_cases hmem : p ∈ wrS nd
       ·refine a9z (by simp [ev, Fr.get, hmem]) ?_
        refine aU ?_
        refine R_n s ⟨hsl, by rw [show b0Y (wrS nd) s p = s from if_pos hmem] at hI; exact hI⟩ hS (a0f ⟨.refl _, .refl _, .refl _, .refl _, .refl _, .refl _, .refl _, .refl _, .refl _, .refl _, .refl _, .refl _, .refl _, trivial⟩)
       ·refine a9y (by simp [ev, Fr.get, hmem]) ?_
        refine aU ?_
        refine a1j hS rfl (.head _) rfl ?_
        refine aU ?_
        refine p9 rfl rfl ⟨by omega, by omega⟩ ?_
        refine aU ?_
        refine a5N (l := s) hS b7.enc rfl zC (n := p.toNat) (fo := 3) (y := x) (y' := a8v x) (by simp [j4]) hx (by first | exact Rp.here | (repeat (first | exact Rp.here | apply Rp.there | apply Rp.skip))) rfl rfl (by simp [j4]) rfl (fun S hS => ?_)
        refine aU ?_
        have hh : b0Y (wrS nd) s p = s.set p.toNat (a8v x) := by unfold b0Y; rw [if_neg hmem, a7J hx]
        rw [hh] at hI
        exact R_n (s.set p.toNat (a8v x)) ⟨by simp [hsl], hI⟩ hS (a0f ⟨.refl _, .refl _, .refl _, .refl _, .refl _, .refl _, .refl _, .refl _, .refl _, .refl _, .refl _, .refl _, .refl _, trivial⟩)
      ·obtain ⟨hsl, hI⟩ := hI
       rw [List.drop_length] at hI
       have hI : s = (bhI g i).foldl (b0Y (wrS nd)) a2 := hI
       rw [hI] at hS
       exact hK _ _ (a6e hw (a0f ⟨.refl _, .refl _, .refl _, .refl _, .refl _, .refl _, .refl _, .refl _, .refl _, .refl _, trivial⟩)) hS
     have hfin : a2p g i = true → ∀ fr' S', Wk [] fr' S' [(6, .sl false 1 (List.map (avL 1 (avI .i64)) (inL g))), (8, .sl false 1 (List.map (avL 1 (avI .i64)) (b0a g))), (10, gR g), (11, .ptr oc 0 0), (13, .fn (.func 46) [] [.ptr oc 0 0]), (15, .int .i64 (i : Int)), (16, .ptr o16 0 0), (68, .sl false 1 (List.map (avI .i64) (a0Z g))), (70, .int .i64 (a : Int)), (69, .int .i64 ((a0Z g).length : Int))] S' → Sep S' ((oc, 0, [.ref oa 0 0 g.Kinds.length (some 4)]) :: (oa, 0, flat b7.av ((bhI g i).foldl (b0Y (wrS nd)) a2)) :: (o16, 0, (g7.av nd).cells) :: []) →
       ∃ s', (List.length s' = g.Kinds.length ∧ a4v g (a + 1) (w.drop (a + 1)) s' = b0h g) ∧ Sep S' ((oc, 0, [.ref oa 0 0 g.Kinds.length (some 4)]) :: (oa, 0, flat b7.av s') :: []) ∧ Wk [] fr' S' ((70, .int .i64 (a : Int)) :: (69, .int .i64 ((a0Z g).length : Int)) :: [(6, .sl false 1 (List.map (avL 1 (avI .i64)) (inL g))), (8, .sl false 1 (List.map (avL 1 (avI .i64)) (b0a g))), (10, gR g), (11, .ptr oc 0 0), (13, .fn (.func 46) [] [.ptr oc 0 0]), (68, .sl false 1 (List.map (avI .i64) (a0Z g)))]) S' := fun hc fr' S' hw hS' =>
      ⟨_, ⟨by rw [a8w]; exact hlen2, by rw [hnode, if_pos hc] at hI; exact hI⟩, hS'.sub (.cons_cons _ (.cons_cons _ (List.sublist_cons_self _ _))), a6e hw (a0f ⟨.refl _, .refl _, .refl _, .refl _, .refl _, .refl _, .refl _, .refl _, trivial⟩)⟩
     cases h11 : nd.Op != 11 with
     | false =>
       have h11' : nd.Op = 11 := by simpa using h11
       have hc : a2p g i = true := by rw [hic, h11']; rfl
       refine aU ?_
       refine a9z rfl (i9 (a4l (by exact a0f ⟨.refl _, .refl _, .refl _, .refl _, .refl _, .refl _, .refl _, .refl _, .refl _, .refl _, trivial⟩) (hloop _ _ hS (fun fr' S' hw hS' => ?_))))
       obtain ⟨s', q1, q2, q3⟩ := hfin hc fr' S' hw hS'
       exact R_n s' q1 q2 q3
     | true =>
       have h11' : nd.Op ≠ 11 := by simpa using h11
       refine aU ?_
       refine a1j hS rfl (.tail _ (.tail _ (.head _))) (v := .int .u8 nd.Op) rfl ?_
       refine aU ?_
       cases h13 : nd.Op != 13 with
       | false =>
         have h13' : nd.Op = 13 := by simpa using h13
         have hc : a2p g i = true := by rw [hic, h13']; rfl
         refine a9z rfl (i9 (a4l (by exact a0f ⟨.refl _, .refl _, .refl _, .refl _, .refl _, .refl _, .refl _, .refl _, .refl _, .refl _, trivial⟩) (hloop _ _ hS (fun fr' S' hw hS' => ?_))))
         obtain ⟨s', q1, q2, q3⟩ := hfin hc fr' S' hw hS'
         exact R_n s' q1 q2 q3
       | true =>
         have h13' : nd.Op ≠ 13 := by simpa using h13
         have hc : a2p g i = false := by rw [hic]; simp [h11', h13']
         refine a9y rfl (a2w ?_)
         refine a2h ?_
         rw [hnode, hc] at hI
         exact R_c a2 ⟨hlen2, hI⟩ (hS.sub (.cons_cons _ (.cons_cons _ (List.sublist_cons_self _ _)))) (a0f ⟨.refl _, .refl _, .refl _, .refl _, .refl _, .refl _, .refl _, .refl _, trivial⟩)
    ·obtain ⟨hsl, hI⟩ := hI
     rw [← hwl, List.drop_length] at hI
     have hI : s = b0h g := hI
     subst hI
     refine a4l hw ?_
     refine aU ?_
     refine a1j hS rfl zM rfl ?_
     refine b8s (b6U (all := b0h g) (oa := oa) (va := 0) zO) hS (by rw [hsl]; rfl) (Spl.cons (Pk.there Pk.here) Spl.nil) (fun v S L' hv hS => ?_)
     obtain ⟨j, rfl, rfl, hj1, hj2⟩ := hv
     refine aU ?_
     refine j8 ?_
     refine ⟨trivial, _, rfl, ?_⟩
     have := a8l (k := 0) b7.enc hj1 hj2 (hS.at (.head _))
     refine a4t ⟨?_, (a0n rfl (.refl _)), trivial⟩
     show AVw (frz 0 S (0 + 1) (.ref oa 0 0 (a3Y g).length (some 4))) _
     unfold a3Y
     rw [this]
     exact .refl _
end Go.Proofs.YtgoejecjmodjiaaDoor

