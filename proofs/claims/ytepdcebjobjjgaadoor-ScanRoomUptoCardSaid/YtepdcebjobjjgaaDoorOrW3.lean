/- The parts of order.Spans: the walks. -/
import Derived.Test.YtepdcebjobjjgaaDoorGenO
import Derived.Test.YtepdcebjobjjgaaDoorLvC2
set_option linter.unusedVariables false
set_option linter.unusedSimpArgs false
namespace Go.Proofs.YtepdcebjobjjgaaDoor
open Go Go.Ab
set_option maxRecDepth 20000
set_option maxHeartbeats 2000000
noncomputable def c5w : FC := fcO 30
theorem c5x : Fn3 Tryd.prog 30 36 [] c5w := ⟨_, _, Tryd.func30, rfl, rfl, rfl, by kernel_rfl⟩
noncomputable def c5y : FC := fcO 58
theorem c5z : Fn3 Tryd.prog 58 19 [(4, none)] c5y := ⟨_, _, Tryd.func58, rfl, rfl, rfl, by kernel_rfl⟩
noncomputable def c5A : FC := fcO 34
theorem c5B : Fn3 Tryd.prog 34 42 [(4, none)] c5A := ⟨_, _, Tryd.func34, rfl, rfl, rfl, by kernel_rfl⟩

def wk1 (a : Int) (x : b6) : b6 := ⟨x.Place, if a < x.From then a else x.From, if a > x.To then a else x.To, x.Held⟩
def wkP (a : Int) (all : List b6) (p : Int) : List b6 := all.modify p.toNat (wk1 a)
theorem b4y (a : Int) (all : List b6) (p : Int) : (wkP a all p).length = all.length := by unfold wkP; simp
theorem a3p (a : Int) : ∀ (ps : List Int) (all : List b6), (ps.foldl (wkP a) all).length = all.length
 | [], _ => rfl
 | p :: ps, all => by rw [List.foldl_cons, a3p a ps, b4y]
theorem a8d {α : Type} {l : List α} {i : Nat} {x : α} {f : α → α} (h : l[i]? = some x) : l.modify i f = l.set i (f x) := by
 apply List.ext_getElem?
 intro k
 have hi := (List.getElem?_eq_some_iff.1 h).1
 rw [List.getElem?_modify, List.getElem?_set]
 by_cases e : i = k
 ·subst e; rw [if_pos rfl, if_pos hi, h]; simp
 ·rw [if_neg e]; simp [e]
theorem a8U {all : List b6} {oc oa va : Nat} {a : Int} {ps : List Int} (hp : ∀ p ∈ ps, 0 ≤ p ∧ p < all.length) (hl : ps.length ≤ 4611686018427387904) :
  Tri Tryd.prog 30 [.int .i64 a, .sl false 1 (ps.map (avI .i64)), .ptr oc 0 0] [(oc, 0, [.ref oa va 0 all.length (some 4)]), (oa, va, flat b6.av all)]
   (fun _ L' => L' = [(oc, 0, [.ref oa va 0 all.length (some 4)]), (oa, va, flat b6.av (ps.foldl (wkP a) all))]) := by
 refine a0j mixed c5x zS [] (fun R S hS => ?_)
 have hne : oa ≠ oc := by
  have := hS.2
  simp at this
  intro e; exact this.1.1 e.symm
 refine aU ?_
 refine a2Q ps.length (fun s : List b6 => [(0, .int .i64 a), (7, .sl false 1 (ps.map (avI .i64))), (2, .ptr oc 0 0)]) (fun s => (oc, 0, [.ref oa va 0 all.length (some 4)]) :: (oa, va, flat b6.av s) :: R) (fun i s => s.length = all.length ∧ (ps.drop i).foldl (wkP a) s = ps.foldl (wkP a) all) all hS ⟨rfl, rfl⟩
  (k9 ⟨.refl _, .refl _, .refl _, .refl _, .refl _, trivial⟩) hl zD zD (fun _ => ⟨rfl, rfl, rfl, rfl⟩) (fun i s S hi hI hS => ?_) (fun s fr' S hI hS hw => ?_)
 ·obtain ⟨hsl, hI⟩ := hI
  obtain ⟨p, hpi⟩ : ∃ p, ps[i]? = some p := ⟨ps[i], List.getElem?_eq_getElem hi⟩
  obtain ⟨hp0, hp1⟩ := hp p (List.mem_of_getElem? hpi)
  obtain ⟨x, hx⟩ : ∃ x, s[p.toNat]? = some x := ⟨s[p.toNat]'zO, List.getElem?_eq_getElem _⟩
  refine aU ?_
  refine l8 rfl rfl (a5W hpi) ?_
  refine oP (.int .i64 p) ?_
  refine aU ?_
  refine a4v ?_
  have h11 : (oc, 0, [AV.ref oa va 0 all.length (some 4)]) ∈ (oc, 0, [AV.ref oa va 0 all.length (some 4)]) :: (oa, va, flat b6.av s) :: R := .head _
  refine v9 hS rfl zM rfl ?_
  refine a4U zC ?_
  refine v9 hS rfl zM rfl ?_
  refine a4U zC ?_
  refine v9 hS rfl zM rfl ?_
  refine a4U zC ?_
  refine o6 rfl rfl ⟨by omega, by omega⟩ ?_
  refine aS ?_
  refine a5S hS b6.enc rfl zM (n := p.toNat) (fo := 1) (y := x) (v := .int .i64 x.From) (by simp [f7]) hx rfl ?_
  refine aS ?_
  refine v9 hS rfl zM rfl ?_
  refine a4U zC ?_
  refine o6 rfl rfl ⟨by omega, by omega⟩ ?_
  refine aS ?_
  refine a5S hS b6.enc rfl zM (n := p.toNat) (fo := 2) (y := x) (v := .int .i64 x.To) (by simp [f7]) hx rfl ?_
  refine aS ?_
  refine o6 rfl rfl ⟨by omega, by omega⟩ ?_
  refine aS ?_
  refine a4x hS b6.enc rfl zC (n := p.toNat) (fo := 1) (y := x) (y' := ⟨x.Place, if a < x.From then a else x.From, x.To, x.Held⟩) (by simp [f7]) hx (by first | exact Rp.here | (repeat (first | exact Rp.here | apply Rp.there | apply Rp.skip))) rfl rfl (by simp [f7]) rfl (fun S hS => ?_)
  refine o6 rfl rfl ⟨by omega, by omega⟩ ?_
  refine aS ?_
  refine a4x (l := s.set p.toNat ⟨x.Place, if a < x.From then a else x.From, x.To, x.Held⟩) hS b6.enc rfl zC (n := p.toNat) (fo := 2) (y := ⟨x.Place, if a < x.From then a else x.From, x.To, x.Held⟩) (y' := wk1 a x) (by simp [f7]) (by rw [List.getElem?_set_self zO]) (by first | exact Rp.here | (repeat (first | exact Rp.here | apply Rp.there | apply Rp.skip))) rfl rfl (by simp [f7]) rfl (fun S hS => ?_)
  refine b7 ?_
  refine And.intro (by simp [a1N, a7x, a1k, a2n, hne]) ?_
  have hw : wkP a s p = s.set p.toNat (wk1 a x) := a8d hx
  refine R_n (wkP a s p) ⟨by rw [b4y]; exact hsl, ?_⟩ (by rw [hw]; simpa using hS) (k9 ⟨.refl _, .refl _, .refl _, .refl _, .refl _, trivial⟩)
  rw [a2O hpi, List.foldl_cons] at hI
  exact hI
 ·obtain ⟨hsl, hI⟩ := hI
  rw [List.drop_length] at hI
  simp only [List.foldl_nil] at hI
  subst hI
  (repeat (first | refine s4 ?_ | refine s6 ?_ | refine s9 rfl ?_ | refine j7 ?_ | refine m9 ?_ | refine l7 ?_))
  exact ⟨trivial, _, rfl, _, rfl, hS⟩
def a6t (x : b6) : Bool := decide (x.To < 0)
theorem b4z (x : b6) : m8 Tryd.prog 35 [(b6.av x)] (.bool (a6t x)) := a6f rfl
theorem b7o : t7 Tryd.prog 35 = true := by kernel_rfl
def ixV (all : List b6) : Int := match all.findIdx? a6t with | some i => (i : Int) | none => -1
theorem b4A {all : List b6} {oa va : Nat} (hl : all.length ≤ 4611686018427387904) :
  Tri Tryd.prog 58 [.ref oa va 0 all.length (some 4), .fn (.func 35) [] []] [(oa, va, flat b6.av all)] (fun r L' => r = .int .i64 (ixV all) ∧ L' = [(oa, va, flat b6.av all)]) := by
 refine a0j mixed c5z zS [] (fun R S hS => ?_)
 refine aU ?_
 refine a2Q all.length (fun _ : Unit => [(0, .ref oa va 0 all.length (some 4)), (1, .fn (.func 35) [] [])]) (fun _ => (oa, va, flat b6.av all) :: R) (fun i _ => ∀ k, k < i → ∀ x, all[k]? = some x → a6t x = false) () hS (fun k hk => absurd hk (Nat.not_lt_zero k))
  (k9 ⟨.refl _, .refl _, .refl _, .refl _, trivial⟩) hl zD zD (fun _ => ⟨rfl, rfl, rfl, rfl⟩) (fun i s S hi hI hS => ?_) (fun s fr' S hI hS hw => ?_)
 ·obtain ⟨x, hx⟩ : ∃ x, all[i]? = some x := ⟨all[i], List.getElem?_eq_getElem hi⟩
  refine aU ?_
  refine o6 rfl rfl ⟨by omega, by omega⟩ ?_
  refine a5S hS b6.enc rfl zM (n := i) (fo := 0) (y := x) (v := b6.av x) (by simp [f7]) hx rfl ?_
  refine a8F rfl b7o (b4z x) rfl ⟨(.refl _), trivial⟩ (i8 ⟨(b6.enc.blw _ 0), trivial⟩) rfl ?_
  refine aU ?_
  refine m7 rfl (fun hb => ?_) (fun hb => ?_)
  ·refine aU ?_
   refine j3 ?_
   (repeat (first | refine s4 ?_ | refine s6 ?_ | refine s9 rfl ?_ | refine j7 ?_ | refine m9 ?_ | refine l7 ?_))
   refine R_r ?_
   (repeat (first | refine s4 ?_ | refine s6 ?_ | refine s9 rfl ?_ | refine j7 ?_ | refine m9 ?_ | refine l7 ?_))
   refine ⟨trivial, _, rfl, _, ⟨?_, rfl⟩, hS⟩
   have : all.findIdx? a6t = some i := by
    rw [List.findIdx?_eq_some_iff_getElem]
    obtain ⟨h1, h2⟩ := List.getElem?_eq_some_iff.1 hx
    refine ⟨h1, by rw [h2]; exact hb, fun k hk => ?_⟩
    have := hI k hk _ (List.getElem?_eq_getElem zO)
    simp [this]
   simp only [ixV, this]; rfl
  ·refine aU ?_
   refine R_n () (fun k hk y hy => ?_) hS (k9 ⟨.refl _, .refl _, .refl _, .refl _, trivial⟩)
   by_cases e : k = i
   ·subst e; rw [hx] at hy; cases hy; exact hb
   ·exact hI k zO y hy
 ·refine a3y hw ?_
  refine aU ?_
  refine j3 ?_
  refine ⟨trivial, _, rfl, _, ⟨?_, rfl⟩, hS⟩
  have : all.findIdx? a6t = none := by
   rw [List.findIdx?_eq_none_iff]
   intro x hx
   obtain ⟨k, hk, rfl⟩ := List.mem_iff_getElem.1 hx
   exact hI k hk _ (List.getElem?_eq_getElem hk)
  simp only [ixV, this]; rfl
structure c5C (all c : List b6) (i k : Nat) : Prop where
 len : c.length = all.length
 ik : i < k
 ki : k ≤ all.length
 fst : c.take i = (all.take k).filter (fun x => !a6t x)
 rst : c.drop k = all.drop k
def c5D (all : List b6) (oa va : Nat) (r : AV) (L' : List It) : Prop := ∃ j, r = .ref oa va 0 (all.filter fun x => !a6t x).length (some 4) ∧ L' = [(oa, va, flat b6.av (all.filter fun x => !a6t x) ++ j)] ∧ a2p 0 j = true ∧ j.all AV.one = true
theorem b8r {all : List b6} {oa va : Nat} (hl : all.length ≤ 4096) :
  Tri Tryd.prog 34 [.ref oa va 0 all.length (some 4), .fn (.func 35) [] []] [(oa, va, flat b6.av all)] (c5D all oa va) := by
 refine a0j mixed c5B zS [7] (fun R S hS => ?_)
 refine aU ?_
 refine a4F (b4A zO) hS rfl (by repeat (first | exact Spl.nil | refine Spl.cons (by repeat (first | exact Pk.here | apply Pk.there | apply Pk.skip)) ?_ | refine Spl.app (by repeat (first | exact PkC.here | apply PkC.there | apply PkC.skip)) ?_)) (fun v S L' hv hS => ?_)
 obtain ⟨rfl, rfl⟩ := hv
 refine aU ?_
 cases hi : all.findIdx? a6t with
 | none =>
   have e : ixV all = -1 := by simp only [ixV, hi]
   rw [e]
   refine a9l rfl ?_
   refine aU ?_
   refine j3 ?_
   (repeat (first | refine s4 ?_ | refine s6 ?_ | refine s9 rfl ?_ | refine j7 ?_ | refine m9 ?_ | refine l7 ?_))
   rw [List.findIdx?_eq_none_iff] at hi
   have hf : (all.filter fun x => !a6t x) = all := List.filter_eq_self.2 (fun x hx => by rw [hi x hx]; rfl)
   exact ⟨trivial, _, rfl, _, ⟨[], by rw [hf]; rfl, by rw [hf, List.append_nil], rfl, rfl⟩, hS⟩
 | some i0 =>
   have e : ixV all = (i0 : Int) := by simp only [ixV, hi]
   rw [e]
   rw [List.findIdx?_eq_some_iff_getElem] at hi
   obtain ⟨hi0, hg0, hlt0⟩ := hi
   refine a9F (by simp [ev, Fr.get]) ?_
   refine aU ?_
   have hwi : IntKind.i64.wrap ((i0 : Int) + 1) = ((i0 + 1 : Nat) : Int) := by rw [s5 zO]; omega
   refine j8 (a0g (σ := List b6 × Nat × Nat) (fun s => [(0, .ref oa va 0 all.length (some 4)), (1, .fn (.func 35) [] []), (5, .int .i64 s.2.1), (6, .int .i64 s.2.2)]) (fun s => (oa, va, flat b6.av s.1) :: R) (fun s => c5C all s.1 s.2.1 s.2.2) (fun s => all.length - s.2.2) (all, i0, i0 + 1) hS ?_
    (k9 ⟨.refl _, .refl _, .refl _, by rw [← hwi]; exact .refl _, trivial⟩) (fun s S hI hS => ?_))
   ·refine ⟨rfl, Nat.lt_succ_self _, hi0, ?_, rfl⟩
    rw [List.take_succ_eq_append_getElem hi0, List.filter_append]
    have h1 : (all.take i0).filter (fun x => !a6t x) = all.take i0 := List.filter_eq_self.2 (fun x hx => by
     obtain ⟨k, hk, rfl⟩ := List.mem_iff_getElem.1 hx
     have hk' : k < i0 := by rw [List.length_take] at hk; omega
     rw [List.getElem_take]
     have := hlt0 k hk'
     simp at this; simp [this])
    rw [h1]
    simp [hg0]
   ·obtain ⟨c, i, k⟩ := s
    dsimp only at hI hS
    refine aU ?_
    dsimp only
    refine m7 rfl (fun hb => ?_) (fun hb => ?_)
    ·have hk : k < all.length := by simpa using hb
     obtain ⟨x, hx⟩ : ∃ x, all[k]? = some x := ⟨all[k], List.getElem?_eq_getElem hk⟩
     have hcx : c[k]? = some x := by
      have := congrArg (fun l => l[0]?) hI.rst
      simp only [List.getElem?_drop, Nat.add_zero] at this
      rw [this]; exact hx
     have hwk : IntKind.i64.wrap ((k : Int) + 1) = ((k + 1 : Nat) : Int) := by rw [s5 zO]; omega
     have hwi2 : IntKind.i64.wrap ((i : Int) + 1) = ((i + 1 : Nat) : Int) := by have := hI.ik; rw [s5 zO]; omega
     have htk : all.take (k + 1) = all.take k ++ [x] := by
      obtain ⟨h1, h2⟩ := List.getElem?_eq_some_iff.1 hx
      rw [List.take_succ_eq_append_getElem h1, h2]
     have hlen := hI.len
     have hik := hI.ik
     refine aU ?_
     refine j8 ?_
     refine aU ?_
     refine o6 rfl rfl ⟨by omega, by omega⟩ ?_
     refine a5S hS b6.enc rfl zM (n := k) (fo := 0) (y := x) (v := b6.av x) (by simp [f7]) hcx rfl ?_
     refine b0M hS rfl (fun o7 S hS => ?_)
     refine E_stS hS rfl zC (by first | exact Rp.here | (repeat (first | exact Rp.here | apply Rp.there | apply Rp.skip))) rfl rfl (by first | exact Nat.le_of_ble_eq_true rfl | (simp; omega) | omega) (fun S hS => ?_)
     refine aU ?_
     replace hS : Sep S ((o7, 0, (b6.av x).cells) :: (oa, va, flat b6.av c) :: R) := hS
     refine v9 hS rfl zM (v := b6.av x) rfl ?_
     refine a8F rfl b7o (b4z x) rfl ⟨(.refl _), trivial⟩ (i8 ⟨(b6.enc.blw _ 0), trivial⟩) rfl ?_
     refine aU ?_
     cases hgx : a6t x with
     | true =>
       refine a9F rfl ?_
       refine aU ?_
       (repeat (first | refine s4 ?_ | refine s6 ?_ | refine s9 rfl ?_ | refine j7 ?_ | refine m9 ?_ | refine l7 ?_))
       refine aU ?_
       refine ⟨(c, i, k + 1), ⟨hlen, by simp only; omega, hk, ?_, ?_⟩, by simp only; omega, hS.sub (List.sublist_cons_self _ _), k9 ⟨.refl _, .refl _, .refl _, by simp only; rw [← hwk]; exact .refl _, trivial⟩⟩
       ·rw [htk, List.filter_append, hI.fst]; simp [hgx]
       ·have := congrArg (List.drop 1) hI.rst
        simpa [List.drop_drop] using this
     | false =>
       refine a9l rfl ?_
       refine aU ?_
       refine v9 hS rfl zM (v := b6.av x) rfl ?_
       obtain ⟨y, hy⟩ : ∃ y, c[i]? = some y := ⟨c[i]'zO, List.getElem?_eq_getElem _⟩
       refine o6 rfl rfl ⟨by omega, by omega⟩ ?_
       refine a4x (l := c) hS b6.enc rfl zC (n := i) (fo := 0) (y := y) (y' := x) (by simp [f7]) hy (by first | exact Rp.here | (repeat (first | exact Rp.here | apply Rp.there | apply Rp.skip))) rfl rfl (by simp [f7]) rfl (fun S hS => ?_)
       refine aU ?_
       (repeat (first | refine s4 ?_ | refine s6 ?_ | refine s9 rfl ?_ | refine j7 ?_ | refine m9 ?_ | refine l7 ?_))
       refine aU ?_
       refine ⟨(c.set i x, i + 1, k + 1), ⟨by simp [hlen], by simp only; omega, hk, ?_, ?_⟩, by simp only; omega, hS.sub (List.sublist_cons_self _ _), k9 ⟨.refl _, .refl _, by simp only; rw [← hwi2]; exact .refl _, by simp only; rw [← hwk]; exact .refl _, trivial⟩⟩
       ·rw [htk, List.filter_append, ← hI.fst]
        rw [List.take_succ_eq_append_getElem zE, List.take_set_of_le (Nat.le_refl _)]
        simp [hgx]
       ·simp only; rw [List.drop_set_of_lt zO]
        have := congrArg (List.drop 1) hI.rst
        simpa [List.drop_drop] using this
    ·have hk : k = all.length := by have := hI.ki; simp at hb; omega
     subst hk
     refine y6 ?_
     (repeat (first | refine s4 ?_ | refine s6 ?_ | refine s9 rfl ?_ | refine j7 ?_ | refine m9 ?_ | refine l7 ?_))
     refine aU ?_
     have hik := hI.ik
     have hlen := hI.len
     refine a7W (a := i) (b := all.length) rfl (by simp [evO, ev, Fr.get, loN]) rfl ⟨by omega, by omega, .inr hik⟩ ?_
     have hfst : c.take i = all.filter (fun x => !a6t x) := by rw [hI.fst, List.take_length]
     have hfl : (all.filter fun x => !a6t x).length = i := by rw [← hfst, List.length_take]; omega
     have hsp : splice (flat b6.av c) (0 + i * f7 (some 4)) (repl (all.length - i) [(.int .i64 0), (.int .i64 0), (.int .i64 0), (.bool false)]) = flat b6.av (all.filter fun x => !a6t x) ++ repl (all.length - i) [(.int .i64 0), (.int .i64 0), (.int .i64 0), (.bool false)] := by
      have e1 : flat b6.av c = flat b6.av (c.take i) ++ flat b6.av (c.drop i) := by rw [← a0w, List.take_append_drop]
      have e2 : 0 + i * f7 (some 4) = (flat b6.av (c.take i)).length := by rw [b6.enc.length, hfst, hfl]; omega
      rw [e1, e2, a5w _ _ _ (by rw [a0S, b6.enc.length, List.length_drop, hlen]; simp [f7]), hfst]
     refine c2u hS rfl zO rfl (by rw [hsp]; exact Rp.here) (fun S hS => ?_)
     refine aU ?_
     refine a7W (a := 0) (b := i) rfl rfl (by simp [evO, ev, Fr.get, hiN]) ⟨by omega, by omega, .inl rfl⟩ ?_
     refine aU ?_
     refine j3 ?_
     refine ⟨trivial, _, rfl, _, ⟨_, ?_, rfl, ?_, ?_⟩, hS⟩
     ·rw [hfl]; simp only [Nat.zero_mul, Nat.zero_add, Nat.sub_zero]; rfl
     ·rw [a4i]
      intro x hx
      unfold repl at hx
      rw [List.mem_flatten] at hx
      obtain ⟨l, hl1, hl2⟩ := hx
      rw [List.mem_replicate] at hl1
      obtain ⟨_, rfl⟩ := hl1
      simp at hl2
      rcases hl2 with rfl | rfl <;> rfl
     ·rw [List.all_eq_true]
      intro x hx
      unfold repl at hx
      rw [List.mem_flatten] at hx
      obtain ⟨l, hl1, hl2⟩ := hx
      rw [List.mem_replicate] at hl1
      obtain ⟨_, rfl⟩ := hl1
      simp at hl2
      rcases hl2 with rfl | rfl <;> rfl
end Go.Proofs.YtepdcebjobjjgaaDoor

/- order.Spans: the walk. -/
namespace Go.Proofs.YtepdcebjobjjgaaDoor
open Go Go.Ab
set_option maxRecDepth 20000
set_option maxHeartbeats 2000000
def c2J : FC := .reg [⟨(some 2), none, .op (.box (.t 0))⟩,  ⟨(some 4), none, .op (.mv (.v .nils))⟩,  ⟨(some 5), none, .op (.mv (.v (.int .i64 0)))⟩] []
def c2K : FC := .reg [⟨(some 20), none, .op (.load (some 1) (.t 2))⟩,  ⟨(some 21), none, .op (.mv (.t 1))⟩,  ⟨(some 22), none, .call 28 [(.t 20), (.t 21)]⟩,  ⟨(some 19), none, .op (.mv (.t 22))⟩,  ⟨(some 23), none, .op (.ext 0 (.t 19))⟩,  ⟨(some 24), none, .op (.ext 1 (.t 19))⟩,  ⟨(some 6), none, .op (.mv (.t 23))⟩,  ⟨(some 7), none, .op (.mv (.t 24))⟩] []
def c2L : FC := .reg [⟨(some 25), none, .op (.mv (.t 7))⟩,  ⟨(some 26), none, .op (.bin .none .neq (.t 25) (.v (.int .i64 0)))⟩] []
def c2M : FC := .reg [⟨(some 27), none, .op (.mv (.t 7))⟩,  ⟨(some 4), none, .op (.mv (.v .nils))⟩,  ⟨(some 5), none, .op (.mv (.t 27))⟩] []
def c2N : FC := .seq c2M FC.ret
def c2O : FC := .cond (.t 26) c2N FC.skip
def c2P : FC := .seq c2L c2O
def c2Q : FC := .reg [⟨(some 29), none, .op (.load (some 1) (.t 2))⟩,  ⟨(some 30), none, .op (.mv (.t 1))⟩,  ⟨(some 31), none, .call 29 [(.t 29), (.t 30)]⟩,  ⟨(some 28), none, .op (.mv (.t 31))⟩,  ⟨(some 32), none, .op (.ext 0 (.t 28))⟩,  ⟨(some 33), none, .op (.ext 1 (.t 28))⟩,  ⟨(some 8), none, .op (.mv (.t 32))⟩,  ⟨(some 9), none, .op (.mv (.t 33))⟩] []
def c2R : FC := .reg [⟨(some 34), none, .op (.fad 0 (.t 2))⟩,  ⟨(some 35), none, .op (.load none (.t 34))⟩,  ⟨(some 36), none, .op (.mv (.t 1))⟩,  ⟨(some 37), none, .op (.iad none (some 8) (.t 35) (.t 36))⟩,  ⟨(some 10), none, .op (.mv (.t 37))⟩] []
def c0j : FC := .reg [⟨(some 38), none, .op (.mv (.t 10))⟩,  ⟨(some 39), none, .op (.nchk (.t 38))⟩,  ⟨(some 40), none, .op (.fad 1 (.t 39))⟩,  ⟨(some 41), none, .op (.load none (.t 40))⟩,  ⟨(some 42), none, .op (.len .sl (.t 41))⟩,  ⟨(some 43), none, .op (.mksl (some 4) 32 [(.int .i64 0), (.int .i64 0), (.int .i64 0), (.bool false)] (.t 42) (.t 42))⟩,  ⟨(some 11), none, .op (.new [.nils])⟩,  ⟨none, none, .op (.store 1 (.t 11) (.t 43))⟩] []
def c0k : FC := .reg [⟨(some 44), none, .op (.load none (.t 11))⟩,  ⟨(some 45), none, .op (.len .sl (.t 44))⟩,  ⟨(some 46), none, .op (.mv (.v (.int .i64 0)))⟩] []
def c0l : FC := .reg [⟨(some 48), none, .op (.mv (.t 46))⟩,  ⟨(some 12), none, .op (.mv (.t 48))⟩] []
def c0m : FC := .reg [⟨(some 49), none, .op (.load none (.t 11))⟩,  ⟨(some 50), none, .op (.mv (.t 12))⟩,  ⟨(some 51), none, .op (.mv (.t 12))⟩,  ⟨(some 52), none, .op (.mv (.t 10))⟩,  ⟨(some 53), none, .op (.nchk (.t 52))⟩,  ⟨(some 54), none, .op (.fad 6 (.t 53))⟩,  ⟨(some 55), none, .op (.load none (.t 54))⟩,  ⟨(some 56), none, .op (.len .sl (.t 55))⟩,  ⟨(some 57), none, .op (.build [(.int .i64 0), (.int .i64 0), (.int .i64 0), (.bool false)] [(0, 1, (.t 51)), (1, 1, (.t 56)), (2, 1, (.v (.int .i64 (-1))))])⟩,  ⟨(some 58), none, .op (.iad none (some 4) (.t 49) (.t 50))⟩,  ⟨none, none, .op (.store 4 (.t 58) (.t 57))⟩] []
def c0n : FC := .seq c0l c0m
def c0o : FC := .loop (.seq (.reg [⟨(some 47), none, .op (.bin .none .lss (.t 46) (.t 45))⟩] []) (.seq (.cond (.t 47) .skip (.exit 0)) (.seq (.block 1 c0n) (.reg [⟨(some 59), none, .op (.bin .none .add (.t 46) (.v (.int .i64 1)))⟩,  ⟨(some 46), none, .op (.mv (.t 59))⟩] []))))
def c0p : FC := .block 0 c0o
def c0q : FC := .seq c0k c0p
def c0r : FC := .reg [⟨(some 60), none, .op (.mkf (.func 30) [] [(.t 11)])⟩,  ⟨(some 13), none, .op (.mv (.t 60))⟩] []
def c0s : FC := .reg [⟨(some 61), none, .op (.mv (.t 13))⟩,  ⟨(some 62), none, .op (.mv (.t 10))⟩,  ⟨(some 63), none, .op (.nchk (.t 62))⟩,  ⟨(some 64), none, .op (.fad 0 (.t 63))⟩,  ⟨(some 65), none, .op (.load none (.t 64))⟩,  ⟨(some 66), none, .callv (.t 61) [(.v (.int .i64 0)), (.t 65)]⟩] []
def c0t : FC := .reg [⟨(some 67), none, .op (.mv (.t 10))⟩,  ⟨(some 68), none, .call 31 [(.t 67)]⟩,  ⟨(some 69), none, .op (.len .sl (.t 68))⟩,  ⟨(some 70), none, .op (.mv (.v (.int .i64 0)))⟩] []
def c0u : FC := .reg [⟨(some 72), none, .op (.mv (.t 70))⟩,  ⟨(some 73), none, .op (.iad none none (.t 68) (.t 70))⟩,  ⟨(some 74), none, .op (.load none (.t 73))⟩,  ⟨(some 14), none, .op (.mv (.t 72))⟩,  ⟨(some 15), none, .op (.mv (.t 74))⟩] []
def c0v : FC := .reg [⟨(some 75), none, .op (.mv (.t 10))⟩,  ⟨(some 76), none, .op (.nchk (.t 75))⟩,  ⟨(some 77), none, .op (.fad 6 (.t 76))⟩,  ⟨(some 78), none, .op (.load none (.t 77))⟩,  ⟨(some 79), none, .op (.mv (.t 15))⟩,  ⟨(some 80), none, .op (.iad none (some 12) (.t 78) (.t 79))⟩,  ⟨(some 81), none, .op (.load (some 12) (.t 80))⟩,  ⟨(some 16), none, .op (.new [(.int .u8 0), (.int .u8 0), (.int .i64 0), (.int .i64 0), (.int .i64 0), (.int .i64 0), (.int .i64 0), (.int .i64 0), (.int .u64 0), .nils, (.int .i64 0), (.int .i64 0)])⟩,  ⟨none, none, .op (.store 12 (.t 16) (.t 81))⟩] []
def c0w : FC := .reg [⟨(some 82), none, .op (.mv (.t 13))⟩,  ⟨(some 83), none, .op (.mv (.t 14))⟩,  ⟨(some 84), none, .op (.mv (.t 6))⟩,  ⟨(some 85), none, .op (.mv (.t 15))⟩,  ⟨(some 86), none, .op (.iad none none (.t 84) (.t 85))⟩,  ⟨(some 87), none, .op (.load none (.t 86))⟩,  ⟨(some 88), none, .callv (.t 82) [(.t 83), (.t 87)]⟩] []
def c0x : FC := .reg [⟨(some 89), none, .op (.mv (.t 13))⟩,  ⟨(some 90), none, .op (.mv (.t 14))⟩,  ⟨(some 91), none, .op (.load (some 12) (.t 16))⟩,  ⟨(some 92), none, .call 32 [(.t 91)]⟩,  ⟨(some 93), none, .callv (.t 89) [(.t 90), (.t 92)]⟩] []
def c0y : FC := .reg [⟨(some 94), none, .op (.fad 0 (.t 16))⟩,  ⟨(some 95), none, .op (.load none (.t 94))⟩,  ⟨(some 96), none, .op (.bin .none .neq (.t 95) (.v (.int .u8 11)))⟩,  ⟨(some 97), none, .op (.mv (.t 96))⟩,  ⟨(some 98), some (97, true), .op (.fad 0 (.t 16))⟩,  ⟨(some 99), some (97, true), .op (.load none (.t 98))⟩,  ⟨(some 100), some (97, true), .op (.bin .none .neq (.t 99) (.v (.int .u8 13)))⟩,  ⟨(some 101), none, .op (.pick (.t 97) (.t 100) (.v (.bool false)))⟩] []
def c0z : FC := .cond (.t 101) (FC.exit 3) FC.skip
def c0A : FC := .seq c0y c0z
def c0B : FC := .reg [⟨(some 102), none, .op (.mv (.t 8))⟩,  ⟨(some 103), none, .op (.mv (.t 15))⟩,  ⟨(some 104), none, .op (.iad none none (.t 102) (.t 103))⟩,  ⟨(some 105), none, .op (.load none (.t 104))⟩,  ⟨(some 106), none, .op (.len .sl (.t 105))⟩,  ⟨(some 107), none, .op (.mv (.v (.int .i64 0)))⟩] []
def c0C : FC := .reg [⟨(some 109), none, .op (.iad none none (.t 105) (.t 107))⟩,  ⟨(some 110), none, .op (.load none (.t 109))⟩,  ⟨(some 18), none, .op (.mv (.t 110))⟩] []
def c0D : FC := .reg [⟨(some 111), none, .op (.load (some 12) (.t 16))⟩,  ⟨(some 112), none, .call 32 [(.t 111)]⟩,  ⟨(some 113), none, .op (.mv (.t 18))⟩,  ⟨(some 114), none, .call 33 [(.t 112), (.t 113)]⟩,  ⟨(some 115), none, .op (.un .not (.t 114))⟩] []
def c0E : FC := .reg [⟨(some 116), none, .op (.load none (.t 11))⟩,  ⟨(some 117), none, .op (.mv (.t 18))⟩,  ⟨(some 118), none, .op (.iad none (some 4) (.t 116) (.t 117))⟩,  ⟨(some 119), none, .op (.fad 3 (.t 118))⟩,  ⟨none, none, .op (.store 1 (.t 119) (.v (.bool true)))⟩] []
def c0F : FC := .cond (.t 115) c0E FC.skip
def c0G : FC := .seq c0D c0F
def c0H : FC := .seq c0C c0G
def c0I : FC := .loop (.seq (.reg [⟨(some 108), none, .op (.bin .none .lss (.t 107) (.t 106))⟩] []) (.seq (.cond (.t 108) .skip (.exit 4)) (.seq (.block 5 c0H) (.reg [⟨(some 120), none, .op (.bin .none .add (.t 107) (.v (.int .i64 1)))⟩,  ⟨(some 107), none, .op (.mv (.t 120))⟩] []))))
def c0J : FC := .block 4 c0I
def b7p : FC := .seq c0B c0J
def c0K : FC := .seq c0A b7p
def c0L : FC := .seq c0x c0K
def c0M : FC := .seq c0w c0L
def c0N : FC := .seq c0v c0M
def c0O : FC := .seq c0u c0N
def c0P : FC := .loop (.seq (.reg [⟨(some 71), none, .op (.bin .none .lss (.t 70) (.t 69))⟩] []) (.seq (.cond (.t 71) .skip (.exit 2)) (.seq (.block 3 c0O) (.reg [⟨(some 121), none, .op (.bin .none .add (.t 70) (.v (.int .i64 1)))⟩,  ⟨(some 70), none, .op (.mv (.t 121))⟩] []))))
def c0Q : FC := .block 2 c0P
def c0R : FC := .seq c0t c0Q
def c0S : FC := .reg [⟨(some 122), none, .op (.load none (.t 11))⟩,  ⟨(some 123), none, .call 34 [(.t 122), (.v (.fn (.func 35) [] []))]⟩,  ⟨(some 4), none, .op (.mv (.t 123))⟩,  ⟨(some 5), none, .op (.mv (.v (.int .i64 0)))⟩] []
def c0T : FC := .seq c0S FC.ret
def c0U : FC := .seq c0R c0T
def c0V : FC := .seq c0s c0U
def c0W : FC := .seq c0r c0V
def c0X : FC := .seq c0q c0W
def c0Y : FC := .seq c0j c0X
def c0Z : FC := .seq c2R c0Y
def c1a : FC := .seq c2Q c0Z
def c1b : FC := .seq c2P c1a
def c1c : FC := .seq c2K c1b
def c1d : FC := .seq c2J c1c
def c5E : FC := c1d
theorem c5F : Fn3 Tryd.prog 15 124 [(4, none), (5, none)] c5E := ⟨_, _, Tryd.func15, rfl, rfl, rfl, by kernel_rfl⟩

theorem b4B : t7 Tryd.prog 30 = true := by kernel_rfl
noncomputable def wrS (n : i7) : List Int := Classical.choose (a3X n)
theorem b7q (n : i7) : a1G n = some (wrS n) := (Classical.choose_spec (a3X n)).1
theorem b4C (n : i7) : (wrS n).length ≤ 10000000 := (Classical.choose_spec (a3X n)).2.1
theorem a8V (n : i7) (x : Int) : x ∈ wrS n ↔ (x ∈ b0o n ∧ 0 ≤ x) := (Classical.choose_spec (a3X n)).2.2 x
theorem b8s {g : b5} {k : Int} {ps : List Int} (h : isB g k ps = true) : ∀ p ∈ ps, 0 ≤ p ∧ p < g.Kinds.length := by
 intro p hp
 have := List.all_eq_true.1 h p hp
 unfold b1R at this
 simp only [Bool.and_eq_true, decide_eq_true_eq] at this
 exact this.1
theorem b4D {all : List b5} {g : b5} {n : i7} (h : a5E all g n = true) : ∀ p ∈ b0o n, 0 ≤ p → p < g.Kinds.length := by
 unfold a5E at h
 simp only [Bool.and_eq_true] at h
 have ho := h.2
 intro p hp h0
 unfold b0o at hp
 unfold opB at ho
 have one : ∀ k ps, isB g k ps = true → p ∈ ps → p < g.Kinds.length := fun k ps a b => (b8s a p b).2
 by_cases h1 : n.Op = 1 ∨ n.Op = 16
 ·rw [if_pos h1] at ho
  rw [if_pos zO] at hp
  exact one _ _ ho hp
 rw [if_neg h1] at ho
 by_cases h2 : n.Op = 2
 ·rw [if_pos h2] at ho; rw [if_pos zO] at hp
  simp only [Bool.or_eq_true] at ho
  simp at hp; subst hp
  rcases ho with a | a <;> exact one _ _ a zS
 rw [if_neg h2] at ho
 by_cases h3 : n.Op = 3
 ·rw [if_pos h3] at ho; rw [if_pos zO] at hp
  simp only [Bool.and_eq_true] at ho
  simp at hp; subst hp
  exact one _ _ ho.2 zS
 rw [if_neg h3] at ho
 by_cases h4 : n.Op = 4
 ·rw [if_pos h4] at ho; rw [if_pos zO] at hp
  simp only [Bool.and_eq_true] at ho
  exact one _ _ ho.2 hp
 rw [if_neg h4] at ho
 by_cases h5 : n.Op = 5
 ·rw [if_neg zO, if_neg zO] at hp; cases hp
 rw [if_neg h5] at ho
 by_cases h6 : n.Op = 6
 ·rw [if_pos h6] at ho; rw [if_pos zO] at hp
  simp only [Bool.and_eq_true] at ho
  exact one _ _ ho.2 hp
 rw [if_neg h6] at ho
 by_cases h7 : n.Op = 7
 ·rw [if_pos h7] at ho; rw [if_pos zO] at hp
  simp only [Bool.and_eq_true] at ho
  exact one _ _ ho.1 hp
 rw [if_neg h7] at ho
 by_cases h15 : n.Op = 15
 ·rw [if_neg zO, if_neg zO, if_neg zO, if_pos h15] at ho
  rw [if_neg zO, if_pos h15] at hp
  simp only [Bool.and_eq_true] at ho
  exact one _ _ ho.2 hp
 by_cases h11 : n.Op = 11
 ·rw [if_neg zO, if_neg zO, if_neg zO, if_neg zO, if_neg zO, if_pos h11] at ho
  rw [if_pos zO] at hp
  simp only [Bool.and_eq_true, Bool.or_eq_true, decide_eq_true_eq] at ho
  simp at hp; subst hp
  rcases ho.2 with a | a
  ·omega
  ·exact one _ _ a.1 zS
 rw [if_neg zO, if_neg zO] at hp; cases hp
def a8W (x : b6) : b6 := ⟨x.Place, x.From, x.To, true⟩
def b1T (w : List Int) (all : List b6) (p : Int) : List b6 := if p ∈ w then all else all.modify p.toNat a8W
theorem a8X (w : List Int) : ∀ (ps : List Int) (all : List b6), (ps.foldl (b1T w) all).length = all.length
 | [], _ => rfl
 | p :: ps, all => by rw [List.foldl_cons, a8X w ps]; unfold b1T; split <;> simp
noncomputable def lvI (g : b5) (i : Nat) : List Int := a1L g.Kinds.length (lvB g i)
noncomputable def bhI (g : b5) (i : Nat) : List Int := a1L g.Kinds.length (bhB g i)
noncomputable def wrN (g : b5) (i : Nat) : List Int := match g.Nodes[i]? with | some n => wrS n | none => []
def a3x (g : b5) (i : Nat) : Bool := match g.Nodes[i]? with | some n => n.Op == 11 || n.Op == 13 | none => false
noncomputable def b0g (g : b5) (a : Nat) (all : List b6) (i : Nat) : List b6 :=
 let a2 := (wrN g i).foldl (wkP a) ((lvI g i).foldl (wkP a) all)
 if a3x g i = true then (bhI g i).foldl (b1T (wrN g i)) a2 else a2
noncomputable def a5f (g : b5) : Nat → List Nat → List b6 → List b6
 | _, [], all => all
 | a, i :: l, all => a5f g (a + 1) l (b0g g a all i)
theorem b4E (g : b5) (a i : Nat) (all : List b6) : (b0g g a all i).length = all.length := by
 unfold b0g
 simp only
 split
 ·rw [a8X, a3p, a3p]
 ·rw [a3p, a3p]
def a6g (g : b5) : List b6 := (List.range g.Kinds.length).map fun (p : Nat) => ⟨(p : Int), (g.Nodes.length : Int), -1, false⟩
noncomputable def b0p (g : b5) : List b6 := a5f g 0 ((a1f g).map Int.toNat) (g.Params.foldl (wkP 0) (a6g g))
noncomputable def y4 (g : b5) : List b6 := (b0p g).filter fun x => !a6t x
theorem a6u {K : Nat} {A : Nat → Bool} : ∀ x ∈ a1L K A, 0 ≤ x ∧ x < K := by
 intro x hx
 unfold a1L at hx
 obtain ⟨k, hk, rfl⟩ := List.mem_map.1 hx
 have := (List.mem_filter.1 hk).1
 simp at this; omega
theorem a8Y {K : Nat} {A : Nat → Bool} : (a1L K A).length ≤ K := by
 unfold a1L; rw [List.length_map]; exact Nat.le_trans (List.length_filter_le _ _) zS
end Go.Proofs.YtepdcebjobjjgaaDoor

