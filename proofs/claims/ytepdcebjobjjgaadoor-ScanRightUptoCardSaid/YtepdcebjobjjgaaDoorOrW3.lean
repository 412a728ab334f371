/- The parts of order.Spans: the walks. -/
import Derived.Test.YtepdcebjobjjgaaDoorGenO
import Derived.Test.YtepdcebjobjjgaaDoorLvC2
set_option linter.unusedVariables false
set_option linter.unusedSimpArgs false
namespace Go.Proofs.YtepdcebjobjjgaaDoor
open Go Go.Ab
set_option maxRecDepth 20000
set_option maxHeartbeats 2000000
noncomputable def c5u : FC := fcO 30
theorem c5v : Fn3 Tryd.prog 30 36 [] c5u := ⟨_, _, Tryd.func30, rfl, rfl, rfl, by kernel_rfl⟩
noncomputable def c5w : FC := fcO 58
theorem c5x : Fn3 Tryd.prog 58 19 [(4, none)] c5w := ⟨_, _, Tryd.func58, rfl, rfl, rfl, by kernel_rfl⟩
noncomputable def c5y : FC := fcO 34
theorem c5z : Fn3 Tryd.prog 34 42 [(4, none)] c5y := ⟨_, _, Tryd.func34, rfl, rfl, rfl, by kernel_rfl⟩

def wk1 (a : Int) (x : b6) : b6 := ⟨x.Place, if a < x.From then a else x.From, if a > x.To then a else x.To, x.Held⟩
def wkP (a : Int) (all : List b6) (p : Int) : List b6 := all.modify p.toNat (wk1 a)
theorem b4Q (a : Int) (all : List b6) (p : Int) : (wkP a all p).length = all.length := by unfold wkP; simp
theorem a3A (a : Int) : ∀ (ps : List Int) (all : List b6), (ps.foldl (wkP a) all).length = all.length
 | [], _ => rfl
 | p :: ps, all => by rw [List.foldl_cons, a3A a ps, b4Q]
theorem a8s {α : Type} {l : List α} {i : Nat} {x : α} {f : α -> α} (h : l[i]? = some x) : l.modify i f = l.set i (f x) := by
 apply List.ext_getElem?
 intro k
 have hi := (List.getElem?_eq_some_iff.1 h).1
 rw [List.getElem?_modify, List.getElem?_set]
 by_cases e : i = k
 ·subst e; rw [if_pos rfl, if_pos hi, h]; simp
 ·rw [if_neg e]; simp [e]
theorem a9h {all : List b6} {oc oa va : Nat} {a : Int} {ps : List Int} (hp : ∀ p ∈ ps, 0 <= p /\ p < all.length) (hl : ps.length <= 4611686018427387904) :
  Tri Tryd.prog 30 [.int .i64 a, .sl false 1 (ps.map (avI .i64)), .ptr oc 0 0] [(oc, 0, [.ref oa va 0 all.length (some 4)]), (oa, va, flat b6.av all)]
   (fun _ L' => L' = [(oc, 0, [.ref oa va 0 all.length (some 4)]), (oa, va, flat b6.av (ps.foldl (wkP a) all))]) := by
 refine a0n mixed c5v zS [] (fun R S hS => ?_)
 have hne : oa ≠ oc := by
  have := hS.2
  simp at this
  intro e; exact this.1.1 e.symm
 refine aU ?_
 refine a3c ps.length (fun s : List b6 => [(0, .int .i64 a), (7, .sl false 1 (ps.map (avI .i64))), (2, .ptr oc 0 0)]) (fun s => (oc, 0, [.ref oa va 0 all.length (some 4)]) :: (oa, va, flat b6.av s) :: R) (fun i s => s.length = all.length /\ (ps.drop i).foldl (wkP a) s = ps.foldl (wkP a) all) all hS ⟨rfl, rfl⟩
  wF hl zD zD (fun _ => ⟨rfl, rfl, rfl, rfl⟩) (fun i s S hi hI hS => ?_) (fun s fr' S hI hS hw => ?_)
 ·obtain ⟨hsl, hI⟩ := hI
  obtain ⟨p, hpi⟩ : ∃ p, ps[i]? = some p := ⟨ps[i], List.getElem?_eq_getElem hi⟩
  obtain ⟨hp0, hp1⟩ := hp p (List.mem_of_getElem? hpi)
  obtain ⟨x, hx⟩ : ∃ x, s[p.toNat]? = some x := ⟨s[p.toNat]'zO, List.getElem?_eq_getElem _⟩
  refine aU ?_
  refine j7 rfl rfl (a6g hpi) ?_
  refine oP (.int .i64 p) ?_
  refine aU ?_
  refine a4I ?_
  have h11 : (oc, 0, [AV.ref oa va 0 all.length (some 4)]) ∈ (oc, 0, [AV.ref oa va 0 all.length (some 4)]) :: (oa, va, flat b6.av s) :: R := .head _
  refine v8 hS rfl zM rfl ?_
  refine a0Q zC ?_
  refine v8 hS rfl zM rfl ?_
  refine a0Q zC ?_
  refine v8 hS rfl zM rfl ?_
  refine a0Q zC ?_
  refine n7 rfl rfl ⟨by omega, by omega⟩ ?_
  refine aS ?_
  refine a6c hS b6.enc rfl zM (n := p.toNat) (fo := 1) (y := x) (v := .int .i64 x.From) (by simp [g8]) hx rfl ?_
  refine aS ?_
  refine v8 hS rfl zM rfl ?_
  refine a0Q zC ?_
  refine n7 rfl rfl ⟨by omega, by omega⟩ ?_
  refine aS ?_
  refine a6c hS b6.enc rfl zM (n := p.toNat) (fo := 2) (y := x) (v := .int .i64 x.To) (by simp [g8]) hx rfl ?_
  refine aS ?_
  refine n7 rfl rfl ⟨by omega, by omega⟩ ?_
  refine aS ?_
  refine a4K hS b6.enc rfl zC (n := p.toNat) (fo := 1) (y := x) (y' := ⟨x.Place, if a < x.From then a else x.From, x.To, x.Held⟩) (by simp [g8]) hx (by first | exact Rp.here | (repeat (first | exact Rp.here | apply Rp.there | apply Rp.skip))) rfl rfl (by simp [g8]) rfl (fun S hS => ?_)
  refine n7 rfl rfl ⟨by omega, by omega⟩ ?_
  refine aS ?_
  refine a4K (l := s.set p.toNat ⟨x.Place, if a < x.From then a else x.From, x.To, x.Held⟩) hS b6.enc rfl zC (n := p.toNat) (fo := 2) (y := ⟨x.Place, if a < x.From then a else x.From, x.To, x.Held⟩) (y' := wk1 a x) (by simp [g8]) (by rw [List.getElem?_set_self zO]) (by first | exact Rp.here | (repeat (first | exact Rp.here | apply Rp.there | apply Rp.skip))) rfl rfl (by simp [g8]) rfl (fun S hS => ?_)
  refine b7 ?_
  refine And.intro (by simp [a1X, a7L, a1r, a2z, hne]) ?_
  have hw : wkP a s p = s.set p.toNat (wk1 a x) := a8s hx
  refine R_n (wkP a s p) ⟨by rw [b4Q]; exact hsl, ?_⟩ (by rw [hw]; simpa using hS) wF
  rw [a2Y hpi, List.foldl_cons] at hI
  exact hI
 ·obtain ⟨hsl, hI⟩ := hI
  rw [List.drop_length] at hI
  simp only [List.foldl_nil] at hI
  subst hI
  refine aE ?_
  exact ⟨trivial, _, rfl, _, rfl, hS⟩
def a6E (x : b6) : Bool := decide (x.To < 0)
theorem b4R (x : b6) : m5 Tryd.prog 35 [(b6.av x)] (.bool (a6E x)) := a6o rfl
theorem b7J : t6 Tryd.prog 35 = true := by kernel_rfl
def ixV (all : List b6) : Int := match all.findIdx? a6E with | some i => (i : Int) | none => -1
theorem b4S {all : List b6} {oa va : Nat} (hl : all.length <= 4611686018427387904) :
  Tri Tryd.prog 58 [.ref oa va 0 all.length (some 4), .fn (.func 35) [] []] [(oa, va, flat b6.av all)] (fun r L' => r = .int .i64 (ixV all) /\ L' = [(oa, va, flat b6.av all)]) := by
 refine a0n mixed c5x zS [] (fun R S hS => ?_)
 refine aU ?_
 refine a3c all.length (fun _ : Unit => [(0, .ref oa va 0 all.length (some 4)), (1, .fn (.func 35) [] [])]) (fun _ => (oa, va, flat b6.av all) :: R) (fun i _ => ∀ k, k < i -> ∀ x, all[k]? = some x -> a6E x = false) () hS (fun k hk => absurd hk (Nat.not_lt_zero k))
  wF hl zD zD (fun _ => ⟨rfl, rfl, rfl, rfl⟩) (fun i s S hi hI hS => ?_) (fun s fr' S hI hS hw => ?_)
 ·obtain ⟨x, hx⟩ : ∃ x, all[i]? = some x := ⟨all[i], List.getElem?_eq_getElem hi⟩
  refine aU ?_
  refine n7 rfl rfl ⟨by omega, by omega⟩ ?_
  refine a6c hS b6.enc rfl zM (n := i) (fo := 0) (y := x) (v := b6.av x) (by simp [g8]) hx rfl ?_
  refine a8S rfl b7J (b4R x) rfl ⟨(.refl _), trivial⟩ (i6 ⟨(b6.enc.blw _ 0), trivial⟩) rfl ?_
  refine aU ?_
  refine a1i rfl (fun hb => ?_) (fun hb => ?_)
  ·refine aU ?_
   refine j5 ?_
   refine aE ?_
   refine R_r ?_
   refine aE ?_
   refine ⟨trivial, _, rfl, _, ⟨?_, rfl⟩, hS⟩
   have : all.findIdx? a6E = some i := by
    rw [List.findIdx?_eq_some_iff_getElem]
    obtain ⟨h1, h2⟩ := List.getElem?_eq_some_iff.1 hx
    refine ⟨h1, by rw [h2]; exact hb, fun k hk => ?_⟩
    have := hI k hk _ (List.getElem?_eq_getElem zO)
    simp [this]
   simp only [ixV, this]; rfl
  ·refine aU ?_
   refine R_n () (fun k hk y hy => ?_) hS wF
   by_cases e : k = i
   ·subst e; rw [hx] at hy; cases hy; exact hb
   ·exact hI k zO y hy
 ·refine a3I hw ?_
  refine aU ?_
  refine j5 ?_
  refine ⟨trivial, _, rfl, _, ⟨?_, rfl⟩, hS⟩
  have : all.findIdx? a6E = none := by
   rw [List.findIdx?_eq_none_iff]
   intro x hx
   obtain ⟨k, hk, rfl⟩ := List.mem_iff_getElem.1 hx
   exact hI k hk _ (List.getElem?_eq_getElem hk)
  simp only [ixV, this]; rfl
structure c5A (all c : List b6) (i k : Nat) : Prop where
 len : c.length = all.length
 ik : i < k
 ki : k <= all.length
 fst : c.take i = (all.take k).filter (fun x => !a6E x)
 rst : c.drop k = all.drop k
def c5B (all : List b6) (oa va : Nat) (r : AV) (L' : List It) : Prop := ∃ j, r = .ref oa va 0 (all.filter fun x => !a6E x).length (some 4) /\ L' = [(oa, va, flat b6.av (all.filter fun x => !a6E x) ++ j)] /\ a2B 0 j = true /\ j.all AV.one = true
theorem b8L {all : List b6} {oa va : Nat} (hl : all.length <= 4096) :
  Tri Tryd.prog 34 [.ref oa va 0 all.length (some 4), .fn (.func 35) [] []] [(oa, va, flat b6.av all)] (c5B all oa va) := by
 refine a0n mixed c5z zS [7] (fun R S hS => ?_)
 refine aU ?_
 refine a4S (b4S zO) hS rfl (by repeat (first | exact Spl.nil | refine Spl.cons (by repeat (first | exact Pk.here | apply Pk.there | apply Pk.skip)) ?_ | refine Spl.app (by repeat (first | exact PkC.here | apply PkC.there | apply PkC.skip)) ?_)) (fun v S L' hv hS => ?_)
 obtain ⟨rfl, rfl⟩ := hv
 refine aU ?_
 cases hi : all.findIdx? a6E with
 | none =>
   have e : ixV all = -1 := by simp only [ixV, hi]
   rw [e]
   refine a9x rfl ?_
   refine aU ?_
   refine j5 ?_
   refine aE ?_
   rw [List.findIdx?_eq_none_iff] at hi
   have hf : (all.filter fun x => !a6E x) = all := List.filter_eq_self.2 (fun x hx => by rw [hi x hx]; rfl)
   exact ⟨trivial, _, rfl, _, ⟨[], by rw [hf]; rfl, by rw [hf, List.append_nil], rfl, rfl⟩, hS⟩
 | some i0 =>
   have e : ixV all = (i0 : Int) := by simp only [ixV, hi]
   rw [e]
   rw [List.findIdx?_eq_some_iff_getElem] at hi
   obtain ⟨hi0, hg0, hlt0⟩ := hi
   refine a9S (by simp [ev, Fr.get]) ?_
   refine aU ?_
   have hwi : IntKind.i64.wrap ((i0 : Int) + 1) = ((i0 + 1 : Nat) : Int) := by rw [s5 zO]; omega
   refine k7 (a0h (σ := List b6 × Nat × Nat) (fun s => [(0, .ref oa va 0 all.length (some 4)), (1, .fn (.func 35) [] []), (5, .int .i64 s.2.1), (6, .int .i64 s.2.2)]) (fun s => (oa, va, flat b6.av s.1) :: R) (fun s => c5A all s.1 s.2.1 s.2.2) (fun s => all.length - s.2.2) (all, i0, i0 + 1) hS ?_
    (a0B ⟨.refl _, .refl _, .refl _, by rw [<- hwi]; exact .refl _, trivial⟩) (fun s S hI hS => ?_))
   ·refine ⟨rfl, Nat.lt_succ_self _, hi0, ?_, rfl⟩
    rw [List.take_succ_eq_append_getElem hi0, List.filter_append]
    have h1 : (all.take i0).filter (fun x => !a6E x) = all.take i0 := List.filter_eq_self.2 (fun x hx => by
     obtain ⟨k, hk, rfl⟩ := List.mem_iff_getElem.1 hx
     have hk' : k < i0 := by rw [List.length_take] at hk; omega
     rw [List.getElem_take]
     have := hlt0 k hk'
     simp at this; simp [this])
    rw [h1]
    simp [hg0]
   ·obtain ⟨c, i, k⟩ := s
    dsimp only at hI hS
    refine aU ?_
    dsimp only
    refine a1i rfl (fun hb => ?_) (fun hb => ?_)
    ·have hk : k < all.length := by simpa using hb
     obtain ⟨x, hx⟩ : ∃ x, all[k]? = some x := ⟨all[k], List.getElem?_eq_getElem hk⟩
     have hcx : c[k]? = some x := by
      have := congrArg (fun l => l[0]?) hI.rst
      simp only [List.getElem?_drop, Nat.add_zero] at this
      rw [this]; exact hx
     have hwk : IntKind.i64.wrap ((k : Int) + 1) = ((k + 1 : Nat) : Int) := by rw [s5 zO]; omega
     have hwi2 : IntKind.i64.wrap ((i : Int) + 1) = ((i + 1 : Nat) : Int) := by have := hI.ik; rw [s5 zO]; omega
     have htk : all.take (k + 1) = all.take k ++ [x] := by
      obtain ⟨h1, h2⟩ := List.getElem?_eq_some_iff.1 hx
      rw [List.take_succ_eq_append_getElem h1, h2]
     have hlen := hI.len
     have hik := hI.ik
     refine aU ?_
     refine k7 ?_
     refine aU ?_
     refine n7 rfl rfl ⟨by omega, by omega⟩ ?_
     refine a6c hS b6.enc rfl zM (n := k) (fo := 0) (y := x) (v := b6.av x) (by simp [g8]) hcx rfl ?_
     refine b1d hS rfl (fun o7 S hS => ?_)
     refine E_stS hS rfl zC (by first | exact Rp.here | (repeat (first | exact Rp.here | apply Rp.there | apply Rp.skip))) rfl rfl (by first | exact Nat.le_of_ble_eq_true rfl | (simp; omega) | omega) (fun S hS => ?_)
     refine aU ?_
     replace hS : Sep S ((o7, 0, (b6.av x).cells) :: (oa, va, flat b6.av c) :: R) := hS
     refine v8 hS rfl zM (v := b6.av x) rfl ?_
     refine a8S rfl b7J (b4R x) rfl ⟨(.refl _), trivial⟩ (i6 ⟨(b6.enc.blw _ 0), trivial⟩) rfl ?_
     refine aU ?_
     cases hgx : a6E x with
     | true =>
       refine a9S rfl ?_
       refine aU ?_
       refine aE ?_
       refine aU ?_
       refine ⟨(c, i, k + 1), ⟨hlen, by simp only; omega, hk, ?_, ?_⟩, by simp only; omega, hS.sub (List.sublist_cons_self _ _), a0B ⟨.refl _, .refl _, .refl _, by simp only; rw [<- hwk]; exact .refl _, trivial⟩⟩
       ·rw [htk, List.filter_append, hI.fst]; simp [hgx]
       ·have := congrArg (List.drop 1) hI.rst
        simpa [List.drop_drop] using this
     | false =>
       refine a9x rfl ?_
       refine aU ?_
       refine v8 hS rfl zM (v := b6.av x) rfl ?_
       obtain ⟨y, hy⟩ : ∃ y, c[i]? = some y := ⟨c[i]'zO, List.getElem?_eq_getElem _⟩
       refine n7 rfl rfl ⟨by omega, by omega⟩ ?_
       refine a4K (l := c) hS b6.enc rfl zC (n := i) (fo := 0) (y := y) (y' := x) (by simp [g8]) hy (by first | exact Rp.here | (repeat (first | exact Rp.here | apply Rp.there | apply Rp.skip))) rfl rfl (by simp [g8]) rfl (fun S hS => ?_)
       refine aU ?_
       refine aE ?_
       refine aU ?_
       refine ⟨(c.set i x, i + 1, k + 1), ⟨by simp [hlen], by simp only; omega, hk, ?_, ?_⟩, by simp only; omega, hS.sub (List.sublist_cons_self _ _), a0B ⟨.refl _, .refl _, by simp only; rw [<- hwi2]; exact .refl _, by simp only; rw [<- hwk]; exact .refl _, trivial⟩⟩
       ·rw [htk, List.filter_append, <- hI.fst]
        rw [List.take_succ_eq_append_getElem zE, List.take_set_of_le (Nat.le_refl _)]
        simp [hgx]
       ·simp only; rw [List.drop_set_of_lt zO]
        have := congrArg (List.drop 1) hI.rst
        simpa [List.drop_drop] using this
    ·have hk : k = all.length := by have := hI.ki; simp at hb; omega
     subst hk
     refine w8 ?_
     refine aE ?_
     refine aU ?_
     have hik := hI.ik
     have hlen := hI.len
     refine a8l (a := i) (b := all.length) rfl (by simp [evO, ev, Fr.get, loN]) rfl ⟨by omega, by omega, .inr hik⟩ ?_
     have hfst : c.take i = all.filter (fun x => !a6E x) := by rw [hI.fst, List.take_length]
     have hfl : (all.filter fun x => !a6E x).length = i := by rw [<- hfst, List.length_take]; omega
     have hsp : splice (flat b6.av c) (0 + i * g8 (some 4)) (repl (all.length - i) [(.int .i64 0), (.int .i64 0), (.int .i64 0), (.bool false)]) = flat b6.av (all.filter fun x => !a6E x) ++ repl (all.length - i) [(.int .i64 0), (.int .i64 0), (.int .i64 0), (.bool false)] := by
      have e1 : flat b6.av c = flat b6.av (c.take i) ++ flat b6.av (c.drop i) := by rw [<- a0C, List.take_append_drop]
      have e2 : 0 + i * g8 (some 4) = (flat b6.av (c.take i)).length := by rw [b6.enc.length, hfst, hfl]; omega
      rw [e1, e2, a5H _ _ _ (by rw [a0Y, b6.enc.length, List.length_drop, hlen]; simp [g8]), hfst]
     refine c2y hS rfl zO rfl (by rw [hsp]; exact Rp.here) (fun S hS => ?_)
     refine aU ?_
     refine a8l (a := 0) (b := i) rfl rfl (by simp [evO, ev, Fr.get, hiN]) ⟨by omega, by omega, .inl rfl⟩ ?_
     refine aU ?_
     refine j5 ?_
     refine ⟨trivial, _, rfl, _, ⟨_, ?_, rfl, ?_, ?_⟩, hS⟩
     ·rw [hfl]; simp only [Nat.zero_mul, Nat.zero_add, Nat.sub_zero]; rfl
     ·rw [a4v]
      intro x hx
      unfold repl at hx
      rw [List.mem_flatten] at hx
      obtain ⟨l, hl1, hl2⟩ := hx
      rw [List.mem_replicate] at hl1
      obtain ⟨_, rfl⟩ := hl1
      simp at hl2
      rcases hl2 with rfl | rfl <;> rfl
     ·rw [List.all_eq_true]
      intro x hx
      unfold repl at hx
      rw [List.mem_flatten] at hx
      obtain ⟨l, hl1, hl2⟩ := hx
      rw [List.mem_replicate] at hl1
      obtain ⟨_, rfl⟩ := hl1
      simp at hl2
      rcases hl2 with rfl | rfl <;> rfl
def c0N : FC := .reg [⟨(some 102), none, .op (.mv (.t 8))⟩,  ⟨(some 103), none, .op (.mv (.t 15))⟩,  ⟨(some 104), none, .op (.iad none none (.t 102) (.t 103))⟩,  ⟨(some 105), none, .op (.load none (.t 104))⟩,  ⟨(some 106), none, .op (.len .sl (.t 105))⟩,  ⟨(some 107), none, .op (.mv (.v (.int .i64 0)))⟩] []
def c0O : FC := .reg [⟨(some 109), none, .op (.iad none none (.t 105) (.t 107))⟩,  ⟨(some 110), none, .op (.load none (.t 109))⟩,  ⟨(some 18), none, .op (.mv (.t 110))⟩] []
def c0P : FC := .reg [⟨(some 111), none, .op (.load (some 12) (.t 16))⟩,  ⟨(some 112), none, .call 32 [(.t 111)]⟩,  ⟨(some 113), none, .op (.mv (.t 18))⟩,  ⟨(some 114), none, .call 33 [(.t 112), (.t 113)]⟩,  ⟨(some 115), none, .op (.un .not (.t 114))⟩] []
def c0Q : FC := .reg [⟨(some 116), none, .op (.load none (.t 11))⟩,  ⟨(some 117), none, .op (.mv (.t 18))⟩,  ⟨(some 118), none, .op (.iad none (some 4) (.t 116) (.t 117))⟩,  ⟨(some 119), none, .op (.fad 3 (.t 118))⟩,  ⟨none, none, .op (.store 1 (.t 119) (.v (.bool true)))⟩] []
def c0R : FC := .cond (.t 115) c0Q FC.skip
def c0S : FC := .seq c0P c0R
def c0T : FC := .seq c0O c0S
def c0U : FC := .loop (.seq (.reg [⟨(some 108), none, .op (.bin .none .lss (.t 107) (.t 106))⟩] []) (.seq (.cond (.t 108) .skip (.exit 4)) (.seq (.block 5 c0T) (.reg [⟨(some 120), none, .op (.bin .none .add (.t 107) (.v (.int .i64 1)))⟩,  ⟨(some 107), none, .op (.mv (.t 120))⟩] []))))
def c0V : FC := .block 4 c0U
def c0W : FC := .seq c0N c0V
noncomputable def c5C : FC := fcO 15
theorem c5D : Fn3 Tryd.prog 15 124 [(4, none), (5, none)] c5C := ⟨_, _, Tryd.func15, rfl, rfl, rfl, by kernel_rfl⟩

theorem b4T : t6 Tryd.prog 30 = true := by kernel_rfl
noncomputable def wrS (n : g6) : List Int := Classical.choose (a4k n)
theorem b7K (n : g6) : a1M n = some (wrS n) := (Classical.choose_spec (a4k n)).1
theorem b4U (n : g6) : (wrS n).length <= 10000000 := (Classical.choose_spec (a4k n)).2.1
theorem a9i (n : g6) (x : Int) : x ∈ wrS n ↔ (x ∈ b0B n /\ 0 <= x) := (Classical.choose_spec (a4k n)).2.2 x
theorem b8M {g : b5} {k : Int} {ps : List Int} (h : isB g k ps = true) : ∀ p ∈ ps, 0 <= p /\ p < g.Kinds.length := by
 intro p hp
 have := List.all_eq_true.1 h p hp
 unfold a1Q at this
 simp only [Bool.and_eq_true, decide_eq_true_eq] at this
 exact this.1
theorem b4V {all : List b5} {g : b5} {n : g6} (h : a3i all g n = true) : ∀ p ∈ b0B n, 0 <= p -> p < g.Kinds.length := by
 unfold a3i at h
 simp only [Bool.and_eq_true] at h
 have ho := h.2
 intro p hp h0
 unfold b0B at hp
 unfold opB at ho
 have one : ∀ k ps, isB g k ps = true -> p ∈ ps -> p < g.Kinds.length := fun k ps a b => (b8M a p b).2
 by_cases h1 : n.Op = 1 \/ n.Op = 16
 ·rw [if_pos h1] at ho
  rw [if_pos zO] at hp
  exact one _ _ ho hp
 rw [if_neg h1] at ho
 by_cases h2 : n.Op = 2
 ·rw [if_pos h2] at ho; rw [if_pos zO] at hp
  simp only [Bool.or_eq_true] at ho
  simp at hp; subst hp
  rcases ho with a | a <;> exact one _ _ a zS
 rw [if_neg h2] at ho
 by_cases h3 : n.Op = 3
 ·rw [if_pos h3] at ho; rw [if_pos zO] at hp
  simp only [Bool.and_eq_true] at ho
  simp at hp; subst hp
  exact one _ _ ho.2 zS
 rw [if_neg h3] at ho
 by_cases h4 : n.Op = 4
 ·rw [if_pos h4] at ho; rw [if_pos zO] at hp
  simp only [Bool.and_eq_true] at ho
  exact one _ _ ho.2 hp
 rw [if_neg h4] at ho
 by_cases h5 : n.Op = 5
 ·rw [if_neg zO, if_neg zO] at hp; cases hp
 rw [if_neg h5] at ho
 by_cases h6 : n.Op = 6
 ·rw [if_pos h6] at ho; rw [if_pos zO] at hp
  simp only [Bool.and_eq_true] at ho
  exact one _ _ ho.2 hp
 rw [if_neg h6] at ho
 by_cases h7 : n.Op = 7
 ·rw [if_pos h7] at ho; rw [if_pos zO] at hp
  simp only [Bool.and_eq_true] at ho
  exact one _ _ ho.1 hp
 rw [if_neg h7] at ho
 by_cases h15 : n.Op = 15
 ·rw [if_neg zO, if_neg zO, if_neg zO, if_pos h15] at ho
  rw [if_neg zO, if_pos h15] at hp
  simp only [Bool.and_eq_true] at ho
  exact one _ _ ho.2 hp
 by_cases h11 : n.Op = 11
 ·rw [if_neg zO, if_neg zO, if_neg zO, if_neg zO, if_neg zO, if_pos h11] at ho
  rw [if_pos zO] at hp
  simp only [Bool.and_eq_true, Bool.or_eq_true, decide_eq_true_eq] at ho
  simp at hp; subst hp
  rcases ho.2 with a | a
  ·omega
  ·exact one _ _ a.1 zS
 rw [if_neg zO, if_neg zO] at hp; cases hp
def a9j (x : b6) : b6 := ⟨x.Place, x.From, x.To, true⟩
def b2j (w : List Int) (all : List b6) (p : Int) : List b6 := if p ∈ w then all else all.modify p.toNat a9j
theorem a9k (w : List Int) : ∀ (ps : List Int) (all : List b6), (ps.foldl (b2j w) all).length = all.length
 | [], _ => rfl
 | p :: ps, all => by rw [List.foldl_cons, a9k w ps]; unfold b2j; split <;> simp
noncomputable def lvI (g : b5) (i : Nat) : List Int := a1V g.Kinds.length (lvB g i)
noncomputable def bhI (g : b5) (i : Nat) : List Int := a1V g.Kinds.length (bhB g i)
noncomputable def wrN (g : b5) (i : Nat) : List Int := match g.Nodes[i]? with | some n => wrS n | none => []
def a3H (g : b5) (i : Nat) : Bool := match g.Nodes[i]? with | some n => n.Op == 11 || n.Op == 13 | none => false
noncomputable def b0t (g : b5) (a : Nat) (all : List b6) (i : Nat) : List b6 :=
 let a2 := (wrN g i).foldl (wkP a) ((lvI g i).foldl (wkP a) all)
 if a3H g i = true then (bhI g i).foldl (b2j (wrN g i)) a2 else a2
noncomputable def a5n (g : b5) : Nat -> List Nat -> List b6 -> List b6
 | _, [], all => all
 | a, i :: l, all => a5n g (a + 1) l (b0t g a all i)
theorem b4W (g : b5) (a i : Nat) (all : List b6) : (b0t g a all i).length = all.length := by
 unfold b0t
 simp only
 split
 ·rw [a9k, a3A, a3A]
 ·rw [a3A, a3A]
def a6p (g : b5) : List b6 := (List.range g.Kinds.length).map fun (p : Nat) => ⟨(p : Int), (g.Nodes.length : Int), -1, false⟩
noncomputable def b0C (g : b5) : List b6 := a5n g 0 ((a1l g).map Int.toNat) (g.Params.foldl (wkP 0) (a6p g))
noncomputable def y7 (g : b5) : List b6 := (b0C g).filter fun x => !a6E x
theorem a6F {K : Nat} {A : Nat -> Bool} : ∀ x ∈ a1V K A, 0 <= x /\ x < K := by
 intro x hx
 unfold a1V at hx
 obtain ⟨k, hk, rfl⟩ := List.mem_map.1 hx
 have := (List.mem_filter.1 hk).1
 simp at this; omega
theorem a9l {K : Nat} {A : Nat -> Bool} : (a1V K A).length <= K := by
 unfold a1V; rw [List.length_map]; exact Nat.le_trans (List.length_filter_le _ _) zS
end Go.Proofs.YtepdcebjobjjgaaDoor

