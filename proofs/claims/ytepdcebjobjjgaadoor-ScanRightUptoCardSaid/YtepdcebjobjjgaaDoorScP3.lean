/- container/heap.Push b5F scan.ends: the walks. -/
import Derived.Test.YtepdcebjobjjgaaDoorScW7
import Derived.Test.YtepdcebjobjjgaaDoorWlTz
import Derived.Test.YtepdcebjobjjgaaDoorGenO
set_option linter.unusedVariables false
set_option linter.unusedSimpArgs false
namespace Go.Proofs.YtepdcebjobjjgaaDoor
open Go Go.Ab
set_option maxRecDepth 20000
set_option maxHeartbeats 2000000
noncomputable def c3e : FC := fcO 108
theorem c3f : Fn3 Tryd.prog 108 13 [] c3e := ⟨_, _, Tryd.func108, rfl, rfl, rfl, by kernel_rfl⟩

noncomputable def c6p : FC := fcO 22
theorem c6q : Fn3 Tryd.prog 22 12 [] c6p := ⟨_, _, Tryd.func22, rfl, rfl, rfl, by kernel_rfl⟩

theorem b0w {h : List (Int × Int)} {x : Int × Int} {s vs o v : Nat} {rest jj : List AV} (hl : h.length < 1000000000) :
  Tri Tryd.prog 108 [.ptr s vs 0, .iface 66 (sbz x)] [(s, vs, .ref o v 0 h.length (some 2) :: rest), (o, v, flat sbz h ++ jj)] (fun _ L' => L' = [(s, vs, .ref o (v + 1) 0 (h.length + 1) (some 2) :: rest), (o, v + 1, flat sbz (h ++ [x]))]) := by
 refine a0n mixed c3f zS [] (fun R S hS => ?_)
 refine a4I ?_
 refine aS ?_
 refine v8 hS rfl (.head _) (v := .ref o v 0 h.length (some 2)) rfl ?_
 refine aS ?_
 refine a7R (o := o) (ver := v) (l := h) (m := [x]) (j := jj) hS a9q (by simp [ev, Fr.get]) rfl (Rp.there Rp.here) ⟨by simp; omega, by simp; omega⟩ (fun S hS => ?_)
 refine aS ?_
 refine E_stS hS rfl zC Rp.here rfl rfl (by first | exact Nat.le_of_ble_eq_true rfl | (simp; omega) | omega) (fun S hS => ?_)
 refine b7 ?_
 refine And.intro (by simp [a1X, a7L, a1r, a2z]) ?_
 refine ⟨trivial, _, rfl, _, rfl, ?_⟩
 simpa [splice, AV.cells] using hS
theorem c1v : a2D Tryd.prog 69 "Push" = some 108 := by kernel_rfl
theorem c6r : t6 Tryd.prog 108 = true := by kernel_rfl
theorem b0x {h : List (Int × Int)} {x : Int × Int} {s vs o v : Nat} {rest jj : List AV} (hl : h.length < 1000000000) (hH : HpI toK h.length h) :
  Tri Tryd.prog 22 [.iface 69 (.ptr s vs 0), .iface 66 (sbz x)] [(s, vs, .ref o v 0 h.length (some 2) :: rest), (o, v, flat sbz h ++ jj)] (fun _ L' => ∃ h', h'.Perm (h ++ [x]) /\ HpI toK h'.length h' /\ L' = [(s, vs, .ref o (v + 1) 0 h'.length (some 2) :: rest), (o, v + 1, flat sbz h')]) := by
 have hw : IntKind.i64.wrap (((h.length + 1 : Nat) : Int) - 1) = (h.length : Int) := by rw [s5 zO]; omega
 refine a0n mixed c6q zS [] (fun R S hS => ?_)
 refine aU ?_
 refine b7w (b0w (h := h) (x := x) (s := s) (vs := vs) (o := o) (v := v) (rest := rest) (jj := jj) hl) hS rfl c1v c6r rfl (Spl.cons Pk.here (Spl.cons Pk.here Spl.nil)) (fun r S L' hL hS => ?_)
 subst hL
 refine aU ?_
 refine a4i (b5k (o := o) (v := v + 1) (n := h.length + 1)) hS rfl b7M c1u c4n rfl (.head _) (y := .ref o (v + 1) 0 (h.length + 1) (some 2)) rfl rfl Spl.nil (fun r S L' hL hS => ?_)
 obtain ⟨rfl, rfl⟩ := hL
 have hlen : (h ++ [x]).length = h.length + 1 := by simp
 replace hS : Ab.Sep S ((s, vs, .ref o (v + 1) 0 (h ++ [x]).length (some 2) :: rest) :: (o, v + 1, flat sbz (h ++ [x]) ++ []) :: R) := by rw [hlen, List.append_nil]; exact hS
 refine aU ?_
 refine a4S (c1t (h := h ++ [x]) (s := s) (vs := vs) (o := o) (v := v + 1) (j := h.length) (rest := rest) (jj := []) zE zS (by rw [hlen]; exact HpI.push hH x)) hS
  (by show [AV.iface 69 (.ptr s vs 0), .int .i64 (IntKind.i64.wrap (((h.length + 1 : Nat) : Int) - 1))] = _; rw [hw]) (Spl.cons Pk.here (Spl.cons Pk.here Spl.nil)) (fun r S L' hL hS => ?_)
 obtain ⟨h', q1, q2, rfl⟩ := hL
 refine aU ?_
 refine ⟨trivial, _, rfl, _, ⟨h', q1, q2, rfl⟩, ?_⟩
 rw [List.append_nil, <- q1.length_eq] at hS
 exact hS
end Go.Proofs.YtepdcebjobjjgaaDoor

/- scan.scanner's methods: the walks. -/
namespace Go.Ab
section
variable {P : Program} {ow : List Nat} {fr : Fr} {S : List Ob} {log : List LE} {esh : Option Nat}
theorem b2v {d x i len rs} {K : Fr -> List Ob -> List LE -> Prop} {o ver off k z} (e : ev (Fr.get fr) x = .ptr o ver off) (e1 : ev (Fr.get fr) i = .int k z) (n : Nat) (hz : z = (n : Int)) (hn : n < len)
  (h : VTops P ow rs ((d, .ptr o ver (off + n * g8 esh)) :: fr) S (.acc [] none :: log) K) : VTops P ow (⟨some d, none, .op (.iad (some len) esh x i)⟩ :: rs) fr S log K := by
 subst hz
 refine n6 (v := .ptr o ver (off + n * g8 esh)) ?_ rfl h
 simp only [opV, e, e1, b9A]
 rw [if_pos ⟨by omega, by omega⟩, Int.toNat_natCast]; rfl
end
end Go.Ab
namespace Go.Proofs.YtepdcebjobjjgaaDoor
open Go Go.Ab
set_option maxRecDepth 20000
set_option maxHeartbeats 2000000
noncomputable def c6s : FC := fcO 39
theorem c6t : Fn3 Tryd.prog 39 26 [(6, none)] c6s := ⟨_, _, Tryd.func39, rfl, rfl, rfl, by kernel_rfl⟩

noncomputable def c6u : FC := fcO 61
theorem c6v : Fn3 Tryd.prog 61 24 [(2, none)] c6u := ⟨_, _, Tryd.func61, rfl, rfl, rfl, by kernel_rfl⟩

theorem b1y {w : AV} {fs : List Bool} {tl : List AV} {s vs a b : Nat} (hf : fs.length = 12) (hab : a <= b) (hb : b <= 12) :
  Tri Tryd.prog 39 [.ptr s vs 0, .int .i64 a, .int .i64 b] [(s, vs, w :: (fs.map AV.bool ++ tl))] (fun r L' =>
   (r = .int .i64 (-1) /\ (∀ i, a <= i -> i < b -> fs[i]? = some false) /\ L' = [(s, vs, w :: (fs.map AV.bool ++ tl))]) \/
   ∃ i : Nat, r = .int .i64 i /\ a <= i /\ i < b /\ fs[i]? = some true /\ L' = [(s, vs, w :: ((fs.set i false).map AV.bool ++ tl))]) := by
 refine a0n mixed c6t zS [] (fun R S hS => ?_)
 refine aU ?_
 refine k7 (a0h (σ := Nat) (fun i => [(0, .ptr s vs 0), (2, .int .i64 b), (7, .int .i64 (i : Int))]) (fun _ => (s, vs, w :: (fs.map AV.bool ++ tl)) :: R) (fun i => a <= i /\ i <= b /\ ∀ k, a <= k -> k < i -> fs[k]? = some false) (fun i => b - i) a hS ⟨Nat.le_refl _, hab, fun k h1 h2 => by omega⟩
  wF (fun i S hI hS => ?_))
 obtain ⟨i1, i2, i3⟩ := hI
 refine aU ?_
 refine a1i rfl (fun hb' => ?_) (fun hb' => ?_)
 ·have hlt : i < b := by simp only [decide_eq_true_eq] at hb'; omega
  obtain ⟨x, hx⟩ : ∃ x, fs[i]? = some x := ⟨fs[i], List.getElem?_eq_getElem zO⟩
  have hv : a0M none (w :: (fs.map AV.bool ++ tl)) (0 + 1 + i * g8 none) = some (AV.bool x) := by
   obtain ⟨q1, q2⟩ := List.getElem?_eq_some_iff.1 hx
   unfold a0M
   simp only [g8, List.length_cons, List.length_append, List.length_map]
   rw [if_pos zE]
   simp [show 0 + 1 + i = i + 1 by omega, List.getD_cons_succ, List.getD_eq_getElem?_getD, List.getElem?_append_left, q1, hx, q2]
  refine aU ?_
  refine k7 ?_
  refine aU ?_
  refine b2v rfl rfl i rfl zO ?_
  refine v8 hS rfl (.head _) (v := .bool x) hv ?_
  have hspl : splice (w :: (fs.map AV.bool ++ tl)) (0 + 1 + i * g8 none) [AV.bool false] = w :: ((fs.set i false).map AV.bool ++ tl) := by
   simp [splice, g8, show 0 + 1 + i = i + 1 by omega, List.set_cons_succ, List.set_append_left, hf, show i < 12 by omega, List.map_set]
  refine aU ?_
  refine a1i (t := x) rfl (fun hx1 => ?_) (fun hx0 => ?_)
  ·subst hx1
   refine aU ?_
   refine b2v rfl rfl i rfl zO ?_
   refine E_stS hS rfl zC (xv := .bool false) (by show Rp _ _ (s, vs, splice (w :: (fs.map AV.bool ++ tl)) (0 + 1 + i * g8 none) [AV.bool false]) _; rw [hspl]; exact Rp.here) rfl rfl (by simp [g8, hf]; omega) (fun S hS => ?_)
   refine aU ?_
   refine j5 ?_
   refine aE ?_
   exact ⟨trivial, _, rfl, _, .inr ⟨i, rfl, i1, hlt, hx, rfl⟩, hS⟩
  ·subst hx0
   refine aU ?_
   refine a0m ?_
   refine aU ?_
   refine ⟨i + 1, ⟨by omega, by omega, fun k h1 h2 => ?_⟩, by omega, hS, a0B ⟨.refl _, .refl _, a3P (a6q zO), trivial⟩⟩
   by_cases e : k = i
   ·subst e; exact hx
   ·exact i3 k h1 zO
 ·have hge : i = b := by simp only [decide_eq_false_iff_not] at hb'; omega
  subst hge
  refine w8 ?_
  refine aE ?_
  refine aU ?_
  refine j5 ?_
  refine aE ?_
  exact ⟨trivial, _, rfl, _, .inl ⟨rfl, i3, rfl⟩, hS⟩
theorem b0y {l : List Int} {x : Int} {A B : List AV} {s vs o v : Nat} {jj : List AV} (hl : l.length < 1000000000) :
  Tri Tryd.prog 61 [.ptr s vs A.length] [(s, vs, A ++ .ref o v 0 (l.length + 1) none :: B), (o, v, flat (avI .i64) (l ++ [x]) ++ jj)] (fun r L' => r = .int .i64 x /\ L' = [(s, vs, A ++ .ref o v 0 l.length none :: B), (o, v, flat (avI .i64) l ++ (.int .i64 x :: jj))]) := by
 have hx : (l ++ [x])[l.length]? = some x := by simp
 have hw : IntKind.i64.wrap (((l.length + 1 : Nat) : Int) - 1) = (l.length : Int) := by rw [s5 zO]; omega
 have hv : a0M none (A ++ .ref o v 0 (l.length + 1) none :: B) A.length = some (.ref o v 0 (l.length + 1) none) := by
  unfold a0M
  simp [List.getD_eq_getElem?_getD]
 have hspl : splice (A ++ .ref o v 0 (l.length + 1) none :: B) A.length [AV.ref o v 0 l.length none] = A ++ .ref o v 0 l.length none :: B := by
  simp [splice, List.set_append_right]
 refine a0n mixed c6v zS [] (fun R S hS => ?_)
 refine aU ?_
 refine v8 hS rfl (.head _) (v := .ref o v 0 (l.length + 1) none) hv ?_
 refine aU ?_
 refine v8 hS rfl (.head _) (v := .ref o v 0 (l.length + 1) none) hv ?_
 refine aU ?_
 refine z6 rfl rfl l.length hw zO ?_
 refine a1u hS (g5 .i64) rfl (.tail _ (.head _)) (n := l.length) (fo := 0) (y := x) (by simp [g8]) hx rfl ?_
 refine aU ?_
 refine v8 hS rfl (.head _) (v := .ref o v 0 (l.length + 1) none) hv ?_
 refine aU ?_
 refine a8l (a := 0) (b := l.length) rfl rfl (by show hiN (l.length + 1) (some (.int .i64 (IntKind.i64.wrap (((l.length + 1 : Nat) : Int) - 1)))) = _; rw [hw, a7h zO]; simp) ⟨by omega, by omega, .inl rfl⟩ ?_
 refine aU ?_
 refine E_stS hS rfl (xv := .ref o v 0 l.length none) (by show AV.ref o v (0 + 0 * g8 none) (l.length - 0) none = _; simp) (by show Rp _ _ (s, vs, splice (A ++ .ref o v 0 (l.length + 1) none :: B) A.length [AV.ref o v 0 l.length none]) _; rw [hspl]; exact Rp.here) rfl rfl zS (fun S hS => ?_)
 refine aU ?_
 refine j5 ?_
 refine aE ?_
 have e1 : flat (avI .i64) (l ++ [x]) ++ jj = flat (avI .i64) l ++ (.int .i64 x :: jj) := by rw [a0C]; simp [flat, avI, AV.cells]
 rw [e1] at hS
 exact ⟨trivial, _, rfl, _, ⟨rfl, rfl⟩, hS⟩
end Go.Proofs.YtepdcebjobjjgaaDoor

/- scan.scanner's back, slot, place: the walks. -/
namespace Go.Ab
section
variable {w : AV} {fs : List Bool} {tl : List AV} {x : AV}
theorem a9s (hf : fs.length = 12) {i p : Nat} (hp : p = 13 + i) (h : tl[i]? = some x) (h1 : x.one = true) : a0M none (w :: (fs.map AV.bool ++ tl)) p = some x := by
 obtain ⟨q1, q2⟩ := List.getElem?_eq_some_iff.1 h
 subst hp
 unfold a0M
 simp only [g8, List.length_cons, List.length_append, List.length_map]
 rw [if_pos zO]
 simp [show 13 + i = (12 + i) + 1 by omega, List.getD_eq_getElem?_getD, List.getElem?_append_right, hf, q1, q2]
theorem c3g (hf : fs.length = 12) {i p : Nat} (hp : p = 13 + i) : splice (w :: (fs.map AV.bool ++ tl)) p [x] = w :: (fs.map AV.bool ++ tl.set i x) := by
 subst hp
 simp [splice, show 13 + i = (12 + i) + 1 by omega, List.set_cons_succ, List.set_append_right, hf]
theorem b6Y {s vs : Nat} {L : List It} {tl' : List AV} (hf : fs.length = 12) (i : Nat) {p : Nat} (hp : p = 13 + i) (e : tl.set i x = tl') : Rp ((s, vs, w :: (fs.map AV.bool ++ tl)) :: L) (s, vs, w :: (fs.map AV.bool ++ tl)) (s, vs, splice (w :: (fs.map AV.bool ++ tl)) p [x]) ((s, vs, w :: (fs.map AV.bool ++ tl')) :: L) := by
 rw [c3g hf hp, e]; exact Rp.here
end
structure Sc where
 fr : List Bool
 ks : List Int
 s0 : List Int
 s1 : List Int
structure ScO where
 ok : Nat
 vk : Nat
 o0 : Nat
 v0 : Nat
 o1 : Nat
 v1 : Nat
 j0 : List AV
 j1 : List AV
def scL (s vs : Nat) (w : AV) (S : Sc) (q : ScO) : List It := [(s, vs, w :: (S.fr.map AV.bool ++ [.ref q.ok q.vk 0 S.ks.length none, .ref q.o0 q.v0 0 S.s0.length none, .ref q.o1 q.v1 0 S.s1.length none])), (q.ok, q.vk, flat (avI .u8) S.ks), (q.o0, q.v0, flat (avI .i64) S.s0 ++ q.j0), (q.o1, q.v1, flat (avI .i64) S.s1 ++ q.j1)]
def b9l (k : Int) (S : Sc) (p : Int) (S' : Sc) : Prop :=
 if k = 0 then (∃ l, S.s0 = l ++ [p] /\ S' = ⟨S.fr, S.ks, l, S.s1⟩) \/ (S.s0 = [] /\ p = 16 + (S.ks.length : Int) /\ S' = ⟨S.fr, S.ks ++ [k], S.s0, S.s1⟩)
 else (∃ l, S.s1 = l ++ [p] /\ S' = ⟨S.fr, S.ks, S.s0, l⟩) \/ (S.s1 = [] /\ p = 16 + (S.ks.length : Int) /\ S' = ⟨S.fr, S.ks ++ [k], S.s0, S.s1⟩)
def b6Z (held : Bool) (k : Int) (S : Sc) (p : Int) (S' : Sc) : Prop :=
 (∃ i : Nat, p = (i : Int) /\ i < 12 /\ S.fr[i]? = some true /\ (held = true -> 6 <= i /\ k ≠ 1) /\ S' = ⟨S.fr.set i false, S.ks, S.s0, S.s1⟩) \/
 ((held = true /\ k = 1 \/ ∀ i, (held = true -> 6 <= i) -> i < 12 -> S.fr[i]? = some false) /\ b9l k S p S')
end Go.Ab
namespace Go.Proofs.YtepdcebjobjjgaaDoor
open Go Go.Ab
set_option maxRecDepth 20000
set_option maxHeartbeats 2000000
noncomputable def c6w : FC := fcO 19
theorem c4o : Fn3 Tryd.prog 19 34 [] c6w := ⟨_, _, Tryd.func19, rfl, rfl, rfl, by kernel_rfl⟩

noncomputable def c6x : FC := fcO 40
theorem c6y : Fn3 Tryd.prog 40 36 [(4, none)] c6x := ⟨_, _, Tryd.func40, rfl, rfl, rfl, by kernel_rfl⟩

noncomputable def c6z : FC := fcO 21
theorem c6A : Fn3 Tryd.prog 21 32 [(6, none)] c6z := ⟨_, _, Tryd.func21, rfl, rfl, rfl, by kernel_rfl⟩

theorem b5l {w : AV} {fs : List Bool} {tl : List AV} {s vs p : Nat} (hf : fs.length = 12) (hp : p < 12) :
  Tri Tryd.prog 19 [.ptr s vs 0, .int .i64 p] [(s, vs, w :: (fs.map AV.bool ++ tl))] (fun _ L' => L' = [(s, vs, w :: ((fs.set p true).map AV.bool ++ tl))]) := by
 refine a0n mixed c4o zS [] (fun R S hS => ?_)
 refine aU ?_
 refine a1i (t := true) (by show AV.bool (decide ((p : Int) < 12)) = _; rw [decide_eq_true zO]) (fun _ => ?_) (fun h => by cases h)
 refine aU ?_
 refine b2v rfl rfl p rfl hp ?_
 have hspl : splice (w :: (fs.map AV.bool ++ tl)) (0 + 1 + p * g8 none) [AV.bool true] = w :: ((fs.set p true).map AV.bool ++ tl) := by
  simp [splice, g8, show 0 + 1 + p = p + 1 by omega, List.set_cons_succ, List.set_append_left, hf, hp, List.map_set]
 refine E_stS hS rfl zC (xv := .bool true) (by show Rp _ _ (s, vs, splice (w :: (fs.map AV.bool ++ tl)) (0 + 1 + p * g8 none) [AV.bool true]) _; rw [hspl]; exact Rp.here) rfl rfl (by simp [g8, hf]; omega) (fun S hS => ?_)
 refine aU ?_
 refine j5 ?_
 refine aE ?_
 exact ⟨trivial, _, rfl, _, rfl, hS⟩
section
variable {w : AV} {fs : List Bool} {ks s0 s1 : List Int} {s vs ok vk o0 v0 o1 v1 : Nat} {j0 j1 : List AV}
theorem b5m {i : Nat} {p k : Int} (hf : fs.length = 12) (hp : p = 16 + (i : Int)) (hi : ks[i]? = some k) (hk : k = 0 \/ k = 1) (hl : ks.length <= 1000000000) (h0 : s0.length <= 1000000000) (h1 : s1.length <= 1000000000) :
  Tri Tryd.prog 19 [.ptr s vs 0, .int .i64 p] [(s, vs, w :: (fs.map AV.bool ++ [.ref ok vk 0 ks.length none, .ref o0 v0 0 s0.length none, .ref o1 v1 0 s1.length none])), (ok, vk, flat (avI .u8) ks), (o0, v0, flat (avI .i64) s0 ++ j0), (o1, v1, flat (avI .i64) s1 ++ j1)]
   (fun _ L' => ∃ s0' s1' j0' j1' v0' v1', s0' = (if k = 0 then s0 ++ [p] else s0) /\ s1' = (if k = 0 then s1 else s1 ++ [p]) /\
    L' = [(s, vs, w :: (fs.map AV.bool ++ [.ref ok vk 0 ks.length none, .ref o0 v0' 0 s0'.length none, .ref o1 v1' 0 s1'.length none])), (ok, vk, flat (avI .u8) ks), (o0, v0', flat (avI .i64) s0' ++ j0'), (o1, v1', flat (avI .i64) s1' ++ j1')]) := by
 have hil := (List.getElem?_eq_some_iff.1 hi).1
 refine a0n mixed c4o zS [] (fun R S hS => ?_)
 refine aU ?_
 refine a1i (t := false) (by show AV.bool (decide (p < 12)) = _; rw [decide_eq_false zO]) (fun h => by cases h) (fun _ => ?_)
 refine aU ?_
 refine v8 hS rfl (.head _) (v := .ref ok vk 0 ks.length none) (a9s hf (i := 0) rfl rfl rfl) ?_
 refine aU ?_
 refine z6 rfl rfl i (by show IntKind.i64.wrap (p - 16) = _; rw [hp, s5 zO]; omega) hil ?_
 refine a6c hS (g5 .u8) rfl (.tail _ (.head _)) (n := i) (fo := 0) (y := k) (by simp [g8]) hi rfl ?_
 refine aU ?_
 rcases hk with rfl | rfl
 ·refine a4I ?_
  refine aS ?_
  refine v8 hS rfl (.head _) (v := .ref o0 v0 0 s0.length none) (a9s hf (i := 1) rfl rfl rfl) ?_
  refine aS ?_
  refine a7R (o := o0) (ver := v0) (l := s0) (m := [p]) (j := j0) hS (g5 .i64) (by simp [ev, Fr.get]) rfl (by first | exact Rp.here | (repeat (first | exact Rp.here | apply Rp.there | apply Rp.skip))) ⟨by simp; omega, by simp; omega⟩ (fun S hS => ?_)
  refine aS ?_
  refine E_stS hS rfl zC (xv := .ref o0 (v0 + 1) 0 (s0 ++ [p]).length none) (b6Y hf 1 rfl rfl) rfl rfl (by simp [g8, hf]) (fun S hS => ?_)
  refine b7 ?_
  refine And.intro (by simp [a1X, a7L, a1r, a2z]) ?_
  exact ⟨trivial, _, rfl, _, ⟨_, _, [], j1, _, _, rfl, rfl, rfl⟩, by simpa using hS⟩
 ·refine a4I ?_
  refine aS ?_
  refine v8 hS rfl (.head _) (v := .ref o1 v1 0 s1.length none) (a9s hf (i := 2) rfl rfl rfl) ?_
  refine aS ?_
  refine a7R (o := o1) (ver := v1) (l := s1) (m := [p]) (j := j1) hS (g5 .i64) (by simp [ev, Fr.get]) rfl (by first | exact Rp.here | (repeat (first | exact Rp.here | apply Rp.there | apply Rp.skip))) ⟨by simp; omega, by simp; omega⟩ (fun S hS => ?_)
  refine aS ?_
  refine E_stS hS rfl zC (xv := .ref o1 (v1 + 1) 0 (s1 ++ [p]).length none) (b6Y hf 2 rfl rfl) rfl rfl (by simp [g8, hf]) (fun S hS => ?_)
  refine b7 ?_
  refine And.intro (by simp [a1X, a7L, a1r, a2z]) ?_
  exact ⟨trivial, _, rfl, _, ⟨_, _, j0, [], _, _, rfl, rfl, rfl⟩, by simpa using hS⟩
end
section
variable {w : AV} {s vs : Nat} {S0 : Sc} {q : ScO} {k : Int}
theorem b7a (hf : S0.fr.length = 12) (hk : k = 0 \/ k = 1) (hl : S0.ks.length <= 1000000000) (h0 : S0.s0.length <= 1000000000) (h1 : S0.s1.length <= 1000000000) :
  Tri Tryd.prog 40 [.ptr s vs 0, .int .u8 k] (scL s vs w S0 q) (fun r L' => ∃ p S1 q1, r = .int .i64 p /\ b9l k S0 p S1 /\ L' = scL s vs w S1 q1) := by
 obtain ⟨fs, ks, s0, s1⟩ := S0
 obtain ⟨ok, vk, o0, v0, o1, v1, j0, j1⟩ := q
 dsimp only at hf hl h0 h1
 refine a0n mixed c6y zS [] (fun R S hS => ?_)
 unfold scL at hS
 dsimp only at hS
 have hnew : IntKind.i64.wrap (IntKind.i64.wrap (16 + ((ks ++ [k]).length : Int)) - 1) = 16 + (ks.length : Int) := by
  rw [List.length_append, List.length_singleton, s5 (x := 16 + ((ks.length + 1 : Nat) : Int)) zO, s5 zO]; omega
 refine aU ?_
 rcases hk with rfl | rfl
 ·refine aS ?_
  refine v8 hS rfl (.head _) (v := .ref o0 v0 0 s0.length none) (a9s hf (i := 1) rfl rfl rfl) ?_
  refine aU ?_
  refine a1i rfl (fun hb => ?_) (fun hb => ?_)
  ·obtain ⟨l, x, rfl⟩ : ∃ l x, s0 = l ++ [x] := by
    have : 0 < s0.length := by simp only [decide_eq_true_eq] at hb; omega
    exact ⟨_, _, (List.dropLast_concat_getLast (by intro e; rw [e] at this; simp at this)).symm⟩
   have e1 : w :: (fs.map AV.bool ++ [.ref ok vk 0 ks.length none, .ref o0 v0 0 (l ++ [x]).length none, .ref o1 v1 0 s1.length none]) = (w :: (fs.map AV.bool ++ [.ref ok vk 0 ks.length none])) ++ .ref o0 v0 0 (l.length + 1) none :: [.ref o1 v1 0 s1.length none] := by simp
   rw [e1] at hS
   refine aU ?_
   refine a4S (b0y (l := l) (x := x) (A := w :: (fs.map AV.bool ++ [AV.ref ok vk 0 ks.length none])) (B := [AV.ref o1 v1 0 s1.length none]) (s := s) (vs := vs) (o := o0) (v := v0) (jj := j0) (by simp at h0; omega)) hS (by show [AV.ptr s vs (0 + 14 + Int.toNat 0 * g8 none)] = _; simp [g8, hf]) (Spl.cons Pk.here (Spl.cons (Pk.there Pk.here) Spl.nil)) (fun r S L' hL hS => ?_)
   obtain ⟨rfl, rfl⟩ := hL
   refine aU ?_
   refine j5 ?_
   refine aE ?_
   refine ⟨trivial, _, rfl, _, ⟨x, ⟨fs, ks, l, s1⟩, ⟨ok, vk, o0, v0, o1, v1, .int .i64 x :: j0, j1⟩, rfl, .inl ⟨l, rfl, rfl⟩, rfl⟩, ?_⟩
   have := hS.perm (L' := scL s vs w ⟨fs, ks, l, s1⟩ ⟨ok, vk, o0, v0, o1, v1, .int .i64 x :: j0, j1⟩ ++ R) (by
    simp only [scL, List.cons_append, List.nil_append, List.append_assoc]
    exact List.Perm.cons _ (List.Perm.swap _ _ _))
   exact this
  ·have e0 : s0 = [] := by
    cases s0 with
    | nil => rfl
    | cons a b => simp only [decide_eq_false_iff_not, List.length_cons] at hb; omega
   subst e0
   refine aU ?_
   refine v8 hS rfl (.head _) (v := .ref ok vk 0 ks.length none) (a9s hf (i := 0) rfl rfl rfl) ?_
   refine aS ?_
   refine a7R (o := ok) (ver := vk) (l := ks) (m := [0]) (j := []) hS (g5 .u8) (by simp [ev, Fr.get]) rfl (by rw [List.append_nil]; exact Rp.there Rp.here) ⟨by simp; omega, by simp; omega⟩ (fun S hS => ?_)
   refine aS ?_
   refine E_stS hS rfl zC (xv := .ref ok (vk + 1) 0 (ks ++ [0]).length none) (b6Y hf 0 rfl rfl) rfl rfl (by simp [g8, hf]) (fun S hS => ?_)
   refine aU ?_
   refine v8 hS rfl (.head _) (v := .ref ok (vk + 1) 0 (ks ++ [0]).length none) (a9s hf (i := 0) rfl rfl rfl) ?_
   refine aU ?_
   refine j5 ?_
   refine aE ?_
   refine ⟨trivial, _, rfl, _, ⟨16 + (ks.length : Int), ⟨fs, ks ++ [0], [], s1⟩, ⟨ok, vk + 1, o0, v0, o1, v1, j0, j1⟩, congrArg (AV.int .i64) hnew, .inr ⟨rfl, rfl, rfl⟩, rfl⟩, ?_⟩
   exact hS
 ·refine aS ?_
  refine v8 hS rfl (.head _) (v := .ref o1 v1 0 s1.length none) (a9s hf (i := 2) rfl rfl rfl) ?_
  refine aU ?_
  refine a1i rfl (fun hb => ?_) (fun hb => ?_)
  ·obtain ⟨l, x, rfl⟩ : ∃ l x, s1 = l ++ [x] := by
    have : 0 < s1.length := by simp only [decide_eq_true_eq] at hb; omega
    exact ⟨_, _, (List.dropLast_concat_getLast (by intro e; rw [e] at this; simp at this)).symm⟩
   have e1 : w :: (fs.map AV.bool ++ [.ref ok vk 0 ks.length none, .ref o0 v0 0 s0.length none, .ref o1 v1 0 (l ++ [x]).length none]) = (w :: (fs.map AV.bool ++ [.ref ok vk 0 ks.length none, .ref o0 v0 0 s0.length none])) ++ .ref o1 v1 0 (l.length + 1) none :: [] := by simp
   rw [e1] at hS
   refine aU ?_
   refine a4S (b0y (l := l) (x := x) (A := w :: (fs.map AV.bool ++ [AV.ref ok vk 0 ks.length none, AV.ref o0 v0 0 s0.length none])) (B := []) (s := s) (vs := vs) (o := o1) (v := v1) (jj := j1) (by simp at h1; omega)) hS (by show [AV.ptr s vs (0 + 14 + Int.toNat 1 * g8 none)] = _; simp [g8, hf]) (Spl.cons Pk.here (Spl.cons (Pk.there (Pk.there Pk.here)) Spl.nil)) (fun r S L' hL hS => ?_)
   obtain ⟨rfl, rfl⟩ := hL
   refine aU ?_
   refine j5 ?_
   refine aE ?_
   refine ⟨trivial, _, rfl, _, ⟨x, ⟨fs, ks, s0, l⟩, ⟨ok, vk, o0, v0, o1, v1, j0, .int .i64 x :: j1⟩, rfl, .inl ⟨l, rfl, rfl⟩, rfl⟩, ?_⟩
   have := hS.perm (L' := scL s vs w ⟨fs, ks, s0, l⟩ ⟨ok, vk, o0, v0, o1, v1, j0, .int .i64 x :: j1⟩ ++ R) (by
    simp only [scL, List.cons_append, List.nil_append, List.append_assoc]
    exact List.Perm.cons _ ((List.Perm.swap _ _ _).trans (List.Perm.cons _ (List.Perm.swap _ _ _))))
   exact this
  ·have e0 : s1 = [] := by
    cases s1 with
    | nil => rfl
    | cons a b => simp only [decide_eq_false_iff_not, List.length_cons] at hb; omega
   subst e0
   refine aU ?_
   refine v8 hS rfl (.head _) (v := .ref ok vk 0 ks.length none) (a9s hf (i := 0) rfl rfl rfl) ?_
   refine aS ?_
   refine a7R (o := ok) (ver := vk) (l := ks) (m := [1]) (j := []) hS (g5 .u8) (by simp [ev, Fr.get]) rfl (by rw [List.append_nil]; exact Rp.there Rp.here) ⟨by simp; omega, by simp; omega⟩ (fun S hS => ?_)
   refine aS ?_
   refine E_stS hS rfl zC (xv := .ref ok (vk + 1) 0 (ks ++ [1]).length none) (b6Y hf 0 rfl rfl) rfl rfl (by simp [g8, hf]) (fun S hS => ?_)
   refine aU ?_
   refine v8 hS rfl (.head _) (v := .ref ok (vk + 1) 0 (ks ++ [1]).length none) (a9s hf (i := 0) rfl rfl rfl) ?_
   refine aU ?_
   refine j5 ?_
   refine aE ?_
   refine ⟨trivial, _, rfl, _, ⟨16 + (ks.length : Int), ⟨fs, ks ++ [1], s0, []⟩, ⟨ok, vk + 1, o0, v0, o1, v1, j0, j1⟩, congrArg (AV.int .i64) hnew, .inr ⟨rfl, rfl, rfl⟩, rfl⟩, ?_⟩
   exact hS
end
section
variable {w : AV} {s vs : Nat} {S0 : Sc} {q : ScO} {k pl fm tt : Int} {held : Bool}
theorem b5n (hf : S0.fr.length = 12) (hk : k = 0 \/ k = 1) (hl : S0.ks.length <= 1000000000) (h0 : S0.s0.length <= 1000000000) (h1 : S0.s1.length <= 1000000000) :
  Tri Tryd.prog 21 [.ptr s vs 0, .agg [.int .i64 pl, .int .i64 fm, .int .i64 tt, .bool held], .int .u8 k] (scL s vs w S0 q) (fun r L' => ∃ p S1 q1, r = .int .i64 p /\ b6Z held k S0 p S1 /\ L' = scL s vs w S1 q1) := by
 obtain ⟨fs, ks, s0, s1⟩ := S0
 obtain ⟨ok, vk, o0, v0, o1, v1, j0, j1⟩ := q
 dsimp only at hf hl h0 h1
 refine a0n mixed c6A zS [4] (fun R S hS => ?_)
 unfold scL at hS
 dsimp only at hS
 refine aU ?_
 refine b8r hS rfl rfl rfl (fun o4 S hS => ?_)
 refine aU ?_
 refine b4k (σ := Int × List Bool) (fun x => [(0, .ptr s vs 0), (2, .int .u8 k), (7, .int .i64 x.1)]) (fun x => (o4, 0, [.int .i64 pl, .int .i64 fm, .int .i64 tt, .bool held]) :: (s, vs, w :: (x.2.map AV.bool ++ [.ref ok vk 0 ks.length none, .ref o0 v0 0 s0.length none, .ref o1 v1 0 s1.length none])) :: (ok, vk, flat (avI .u8) ks) :: (o0, v0, flat (avI .i64) s0 ++ j0) :: (o1, v1, flat (avI .i64) s1 ++ j1) :: R)
  (fun x => (∃ i : Nat, x.1 = (i : Int) /\ i < 12 /\ fs[i]? = some true /\ (held = true -> 6 <= i /\ k ≠ 1) /\ x.2 = fs.set i false) \/ (x.1 = -1 /\ x.2 = fs /\ (held = true /\ k = 1 \/ ∀ i, (held = true -> 6 <= i) -> i < 12 -> fs[i]? = some false))) ?_ (fun x Sx hx hSx => ?_)
 ·refine k7 ?_
  refine aU ?_
  cases held
  ·-- it is not held
   refine v8 hS rfl (.head _) (v := .bool false) rfl ?_
   refine aU ?_
   refine a1i (t := false) rfl (fun h => by cases h) (fun _ => ?_)
   refine aU ?_
   refine v8 hS rfl (.head _) (v := .bool false) rfl ?_
   refine aU ?_
   refine a1i (t := false) rfl (fun h => by cases h) (fun _ => ?_)
   refine aU ?_
   refine a4S (b1y (a := 0) (b := 6) hf zO zO) hS rfl (Spl.cons (Pk.there Pk.here) Spl.nil) (fun r S L' hL hS => ?_)
   rcases hL with ⟨rfl, hno, rfl⟩ | ⟨i, rfl, hi1, hi2, hfi, rfl⟩
   ·refine aU ?_
    refine a1i (t := true) rfl (fun _ => ?_) (fun h => by cases h)
    refine aU ?_
    refine a4S (b1y (a := 6) (b := 12) hf zO zO) hS rfl (Spl.cons Pk.here Spl.nil) (fun r S L' hL hS => ?_)
    rcases hL with ⟨rfl, hno2, rfl⟩ | ⟨i, rfl, hi1, hi2, hfi, rfl⟩
    ·refine aU ?_
     refine aE ?_
     refine y4 ⟨(-1, fs), .inr ⟨rfl, rfl, .inr fun i _ hi => ?_⟩, hS.perm (List.Perm.swap _ _ _), wF⟩
     by_cases h6 : i < 6
     ·exact hno i (Nat.zero_le _) h6
     ·exact hno2 i zO hi
    ·refine aU ?_
     refine aE ?_
     exact y4 ⟨((i : Int), fs.set i false), .inl ⟨i, rfl, hi2, hfi, (fun h => by cases h), rfl⟩, hS.perm (List.Perm.swap _ _ _), wF⟩
   ·refine aU ?_
    refine a1i (t := false) (by show AV.bool (decide ((i : Int) < 0)) = _; rw [decide_eq_false zO]) (fun h => by cases h) (fun _ => ?_)
    refine aU ?_
    refine aE ?_
    exact y4 ⟨((i : Int), fs.set i false), .inl ⟨i, rfl, by omega, hfi, (fun h => by cases h), rfl⟩, hS.perm (List.Perm.swap _ _ _), wF⟩
  ·refine v8 hS rfl (.head _) (v := .bool true) rfl ?_
   refine aU ?_
   rcases hk with rfl | rfl
   ·refine a1i (t := false) rfl (fun h => by cases h) (fun _ => ?_)
    refine aU ?_
    refine v8 hS rfl (.head _) (v := .bool true) rfl ?_
    refine aU ?_
    refine a1i (t := true) rfl (fun _ => ?_) (fun h => by cases h)
    refine aU ?_
    refine a4S (b1y (a := 6) (b := 12) hf zO zO) hS rfl (Spl.cons (Pk.there Pk.here) Spl.nil) (fun r S L' hL hS => ?_)
    rcases hL with ⟨rfl, hno, rfl⟩ | ⟨i, rfl, hi1, hi2, hfi, rfl⟩
    ·refine aU ?_
     refine aE ?_
     exact y4 ⟨(-1, fs), .inr ⟨rfl, rfl, .inr fun i h6 hi => hno i (h6 rfl) hi⟩, hS.perm (List.Perm.swap _ _ _), wF⟩
    ·refine aU ?_
     refine aE ?_
     exact y4 ⟨((i : Int), fs.set i false), .inl ⟨i, rfl, hi2, hfi, (fun _ => ⟨hi1, by decide⟩), rfl⟩, hS.perm (List.Perm.swap _ _ _), wF⟩
   ·refine a1i (t := true) rfl (fun _ => ?_) (fun h => by cases h)
    refine aU ?_
    refine aE ?_
    exact y4 ⟨(-1, fs), .inr ⟨rfl, rfl, .inl ⟨rfl, rfl⟩⟩, hS, wF⟩
 ·obtain ⟨p, fs'⟩ := x
  dsimp only at hx hSx
  refine aU ?_
  clear hS
  rcases hx with ⟨i, rfl, hi, hfi, hh, rfl⟩ | ⟨rfl, rfl, hno⟩
  ·refine a1i (t := false) (by show AV.bool (decide ((i : Int) < 0)) = _; rw [decide_eq_false zO]) (fun h => by cases h) (fun _ => ?_)
   refine aU ?_
   refine j5 ?_
   refine aE ?_
   refine ⟨trivial, _, rfl, _, ⟨i, ⟨fs.set i false, ks, s0, s1⟩, ⟨ok, vk, o0, v0, o1, v1, j0, j1⟩, rfl, .inl ⟨i, rfl, hi, hfi, hh, rfl⟩, rfl⟩, ?_⟩
   exact ⟨fun p hp => hSx.1 p (.tail _ hp), (List.nodup_cons.1 hSx.2).2⟩
  ·refine a1i (t := true) rfl (fun _ => ?_) (fun h => by cases h)
   refine aU ?_
   refine a4S (R := (o4, 0, [AV.int .i64 pl, AV.int .i64 fm, AV.int .i64 tt, AV.bool held]) :: R) (b7a (w := w) (s := s) (vs := vs) (S0 := ⟨fs', ks, s0, s1⟩) (q := ⟨ok, vk, o0, v0, o1, v1, j0, j1⟩) hf hk hl h0 h1) hSx rfl (List.perm_middle (l₁ := scL s vs w ⟨fs', ks, s0, s1⟩ ⟨ok, vk, o0, v0, o1, v1, j0, j1⟩)).symm (fun r S L' hL hS => ?_)
   obtain ⟨p, S1, q1, rfl, hR, rfl⟩ := hL
   refine aU ?_
   refine j5 ?_
   refine aE ?_
   refine ⟨trivial, _, rfl, _, ⟨p, S1, q1, rfl, .inr ⟨hno, hR⟩, rfl⟩, ?_⟩
   exact hS.sub (List.Sublist.append_left (List.sublist_cons_self _ _) _)
end
end Go.Proofs.YtepdcebjobjjgaaDoor

/- Places given away one after the other: what holds on the way. -/
namespace Go.Proofs.YtepdcebjobjjgaaDoor
open Go Go.Ab
def plc (O : List Int) (y : b6) : Int := O.getD y.Place.toNat (-1)
def kd (K : List Int) (y : b6) : Int := K.getD y.Place.toNat 0
abbrev pls (h : List (Int × Int)) : List Int := h.map (·.2)
structure AInv (K : List Int) (D : List b6) (c : Int) (h : List (Int × Int)) (S : Sc) (O : List Int) : Prop where
 ol : O.length = K.length
 un : ∀ q : Nat, q < K.length -> (∀ x ∈ D, x.Place ≠ q) -> O[q]? = some (-1)
 hm : ∀ e ∈ h, ∃ y ∈ D, e = (y.To, plc O y)
 hn : (pls h).Nodup
 hc : ∀ y ∈ D, (y.To, plc O y) ∉ h -> y.To < c
 fl : S.fr.length = 12
 fi : ∀ i : Nat, i < 12 -> S.fr[i]? = some (decide ((i : Int) ∉ pls h))
 sn0 : S.s0.Nodup
 sn1 : S.s1.Nodup
 sk0 : ∀ p ∈ S.s0, p ∉ pls h /\ ∃ i : Nat, p = 16 + (i : Int) /\ S.ks[i]? = some 0
 sk1 : ∀ p ∈ S.s1, p ∉ pls h /\ ∃ i : Nat, p = 16 + (i : Int) /\ S.ks[i]? = some 1
 pl : ∀ y ∈ D, (∃ i : Nat, plc O y = (i : Int) /\ i < 12 /\ (y.Held = true -> 6 <= i /\ kd K y ≠ 1)) \/ ∃ i : Nat, plc O y = 16 + (i : Int) /\ S.ks[i]? = some (kd K y)
 pw : ∀ y ∈ D, ∀ z ∈ D, y.Place ≠ z.Place -> plc O y = plc O z -> y.To < z.From \/ z.To < y.From
 cv : ∀ i : Nat, i < S.ks.length -> ∃ y ∈ D, plc O y = 16 + (i : Int)
 kl : S.ks.length <= D.length
 kk : ∀ k ∈ S.ks, k = 0 \/ k = 1
section
variable {K : List Int} {D : List b6} {c c' : Int} {h h' : List (Int × Int)} {S S' : Sc} {O : List Int} {x : b6} {p t : Int}
theorem AInv.init : AInv K [] c [] ⟨List.replicate 12 true, [], [], []⟩ (List.replicate K.length (-1)) where
 ol := by simp
 un q hq _ := by rw [List.getElem?_replicate, if_pos hq]
 hm e he := by cases he
 hn := .nil
 hc y hy := by cases hy
 fl := rfl
 fi i hi := by
  show (List.replicate 12 true)[i]? = _
  rw [List.getElem?_replicate, if_pos hi]; simp
 sn0 := .nil
 sn1 := .nil
 sk0 p hp := by cases hp
 sk1 p hp := by cases hp
 pl y hy := by cases hy
 pw y hy := by cases hy
 cv i hi := by simp at hi
 kl := Nat.le_refl _
 kk k hk := by cases hk
theorem AInv.cut (H : AInv K D c h S O) (hc : c <= c') : AInv K D c' h S O := { H with hc := fun y hy hn => by have := H.hc y hy hn; omega }
theorem AInv.perm (H : AInv K D c h S O) (hp : h'.Perm h) : AInv K D c h' S O :=
 have hp2 : (pls h').Perm (pls h) := hp.map _
 { H with
   hm := fun e he => H.hm e (hp.mem_iff.1 he)
   hn := hp2.nodup_iff.2 H.hn
   hc := fun y hy hn => H.hc y hy (fun k => hn (hp.mem_iff.2 k))
   fi := fun i hi => by rw [H.fi i hi]; simp only [hp2.mem_iff]
   sk0 := fun p hq => ⟨fun k => (H.sk0 p hq).1 (hp2.mem_iff.1 k), (H.sk0 p hq).2⟩
   sk1 := fun p hq => ⟨fun k => (H.sk1 p hq).1 (hp2.mem_iff.1 k), (H.sk1 p hq).2⟩ }
theorem AInv.place (H : AInv K D c h S O) (he : (t, p) ∈ h) : (∃ i : Nat, p = (i : Int) /\ i < 12) \/ ∃ (i : Nat) (k : Int), p = 16 + (i : Int) /\ S.ks[i]? = some k /\ (k = 0 \/ k = 1) := by
 obtain ⟨y, hy, e⟩ := H.hm _ he
 have ep : p = plc O y := congrArg Prod.snd e
 rcases H.pl y hy with ⟨i, h1, h2, _⟩ | ⟨i, h1, h2⟩
 ·exact .inl ⟨i, by rw [ep, h1], h2⟩
 ·exact .inr ⟨i, _, by rw [ep, h1], h2, H.kk _ (List.mem_of_getElem? h2)⟩
def a5P (S : Sc) (p : Int) : Sc :=
 if p < 12 then ⟨S.fr.set p.toNat true, S.ks, S.s0, S.s1⟩
 else if S.ks[(p - 16).toNat]? = some 0 then ⟨S.fr, S.ks, S.s0 ++ [p], S.s1⟩ else ⟨S.fr, S.ks, S.s0, S.s1 ++ [p]⟩
theorem AInv.pop (H : AInv K D c ((t, p) :: h) S O) (ht : t < c) : AInv K D c h (a5P S p) O := by
 have hn := H.hn
 simp only [pls, List.map_cons, List.nodup_cons] at hn
 obtain ⟨hn1, hn2⟩ := hn
 have hin : ∀ q : Int, q ∈ pls ((t, p) :: h) ↔ q = p \/ q ∈ pls h := fun q => by simp [pls]
 have base : ∀ S1 : Sc, S1.ks = S.ks -> S1.fr.length = 12 -> (∀ i : Nat, i < 12 -> S1.fr[i]? = some (decide ((i : Int) ∉ pls h))) -> S1.s0.Nodup -> S1.s1.Nodup ->
   (∀ q ∈ S1.s0, q ∉ pls h /\ ∃ i : Nat, q = 16 + (i : Int) /\ S.ks[i]? = some 0) -> (∀ q ∈ S1.s1, q ∉ pls h /\ ∃ i : Nat, q = 16 + (i : Int) /\ S.ks[i]? = some 1) -> AInv K D c h S1 O := fun S1 e1 a1 a2 a3 a4 a5 a6 =>
  { ol := H.ol, un := H.un
    hm := fun e he => H.hm e (.tail _ he)
    hn := hn2
    hc := fun y hy hno => by
     by_cases hy2 : (y.To, plc O y) = (t, p)
     ·have : y.To = t := congrArg Prod.fst hy2
      omega
     ·exact H.hc y hy (fun k => by rcases List.mem_cons.1 k with k | k; exact hy2 k; exact hno k)
    fl := a1, fi := a2, sn0 := a3, sn1 := a4
    sk0 := by rw [e1]; exact a5
    sk1 := by rw [e1]; exact a6
    pl := by rw [e1]; exact H.pl
    pw := H.pw
    cv := by rw [e1]; exact H.cv
    kl := by rw [e1]; exact H.kl
    kk := by rw [e1]; exact H.kk }
 have k0 : ∀ q ∈ S.s0, q ∉ pls h /\ ∃ i : Nat, q = 16 + (i : Int) /\ S.ks[i]? = some 0 := fun q hq => ⟨fun k => (H.sk0 q hq).1 ((hin q).2 (.inr k)), (H.sk0 q hq).2⟩
 have k1 : ∀ q ∈ S.s1, q ∉ pls h /\ ∃ i : Nat, q = 16 + (i : Int) /\ S.ks[i]? = some 1 := fun q hq => ⟨fun k => (H.sk1 q hq).1 ((hin q).2 (.inr k)), (H.sk1 q hq).2⟩
 rcases H.place (.head _) with ⟨i, rfl, hi⟩ | ⟨i, k, rfl, hk, hk01⟩
 ·have e : a5P S (i : Int) = ⟨S.fr.set i true, S.ks, S.s0, S.s1⟩ := by unfold a5P; rw [if_pos zO, Int.toNat_natCast]
  rw [e]
  refine base _ rfl (by simp [H.fl]) (fun j hj => ?_) H.sn0 H.sn1 k0 k1
  show (S.fr.set i true)[j]? = _
  by_cases hij : i = j
  ·subst hij
   rw [List.getElem?_set_self (by rw [H.fl]; exact hi), decide_eq_true hn1]
  ·rw [List.getElem?_set_ne hij, H.fi j hj]
   congr 1
   simp only [decide_eq_decide, hin]
   constructor
   ·exact fun a b => a (.inr b)
   ·rintro a (b | b)
    ·exact hij zO
    ·exact a b
 ·have hfi : ∀ j : Nat, j < 12 -> S.fr[j]? = some (decide ((j : Int) ∉ pls h)) := fun j hj => by
   rw [H.fi j hj]
   congr 1
   simp only [decide_eq_decide, hin]
   constructor
   ·exact fun a b => a (.inr b)
   ·rintro a (b | b)
    ·omega
    ·exact a b
  have hidx : ((16 + (i : Int)) - 16).toNat = i := by omega
  have hno0 : (16 + (i : Int)) ∉ S.s0 := fun hq => (H.sk0 _ hq).1 ((hin _).2 (.inl rfl))
  have hno1 : (16 + (i : Int)) ∉ S.s1 := fun hq => (H.sk1 _ hq).1 ((hin _).2 (.inl rfl))
  rcases hk01 with rfl | rfl
  ·have e : a5P S (16 + (i : Int)) = ⟨S.fr, S.ks, S.s0 ++ [16 + (i : Int)], S.s1⟩ := by unfold a5P; rw [if_neg zO, hidx, if_pos hk]
   rw [e]
   refine base _ rfl H.fl hfi (by rw [List.nodup_append]; exact ⟨H.sn0, by simp, fun a ha b hb => by simp at hb; subst hb; exact fun e => hno0 (e ▸ ha)⟩) H.sn1 (fun q hq => ?_) k1
   rcases List.mem_append.1 hq with hq | hq
   ·exact k0 q hq
   ·simp at hq; subst hq; exact ⟨hn1, i, rfl, hk⟩
  ·have e : a5P S (16 + (i : Int)) = ⟨S.fr, S.ks, S.s0, S.s1 ++ [16 + (i : Int)]⟩ := by unfold a5P; rw [if_neg zO, hidx, if_neg (by rw [hk]; simp)]
   rw [e]
   refine base _ rfl H.fl hfi H.sn0 (by rw [List.nodup_append]; exact ⟨H.sn1, by simp, fun a ha b hb => by simp at hb; subst hb; exact fun e => hno1 (e ▸ ha)⟩) k0 (fun q hq => ?_)
   rcases List.mem_append.1 hq with hq | hq
   ·exact k1 q hq
   ·simp at hq; subst hq; exact ⟨hn1, i, rfl, hk⟩
theorem b2W {y : b6} (h : y.Place.toNat ≠ x.Place.toNat) : plc (O.set x.Place.toNat p) y = plc O y := by
 unfold plc
 rw [List.getD_eq_getElem?_getD, List.getD_eq_getElem?_getD, List.getElem?_set_ne (fun e => h e.symm)]
theorem b2X (h : x.Place.toNat < O.length) : plc (O.set x.Place.toNat p) x = p := by
 unfold plc
 rw [List.getD_eq_getElem?_getD, List.getElem?_set_self h]; rfl
def b2Y (K : List Int) (h : List (Int × Int)) (x : b6) (p : Int) (S S' : Sc) : Prop := p ∉ pls h /\ S'.fr.length = 12 /\ (∀ i : Nat, i < 12 -> S'.fr[i]? = some (decide ((i : Int) ∉ pls ((x.To, p) :: h)))) /\ S'.s0.Nodup /\ S'.s1.Nodup /\
   (∀ q ∈ S'.s0, q ∉ pls ((x.To, p) :: h) /\ ∃ i : Nat, q = 16 + (i : Int) /\ S'.ks[i]? = some 0) /\ (∀ q ∈ S'.s1, q ∉ pls ((x.To, p) :: h) /\ ∃ i : Nat, q = 16 + (i : Int) /\ S'.ks[i]? = some 1) /\
   ((∃ i : Nat, p = (i : Int) /\ i < 12 /\ (x.Held = true -> 6 <= i /\ kd K x ≠ 1)) \/ ∃ i : Nat, p = 16 + (i : Int) /\ S'.ks[i]? = some (kd K x)) /\
   (S'.ks = S.ks \/ (S'.ks = S.ks ++ [kd K x] /\ p = 16 + (S.ks.length : Int)))
theorem AInv.take (H : AInv K D x.From h S O) (hx : 0 <= x.Place /\ x.Place < K.length) (hD : ∀ y ∈ D, 0 <= y.Place /\ y.Place ≠ x.Place) (hk : kd K x = 0 \/ kd K x = 1) (T : b6Z x.Held (kd K x) S p S') :
  AInv K (D ++ [x]) x.From ((x.To, p) :: h) S' (O.set x.Place.toNat p) := by
 have hxl : x.Place.toNat < O.length := by rw [H.ol]; omega
 have ex : plc (O.set x.Place.toNat p) x = p := b2X hxl
 have ey : ∀ y ∈ D, plc (O.set x.Place.toNat p) y = plc O y := fun y hy => b2W (by have := hD y hy; omega)
 have hin : ∀ q : Int, q ∈ pls ((x.To, p) :: h) ↔ q = p \/ q ∈ pls h := fun q => by simp [pls]
 have key : b2Y K h x p S S' := by
  have ni : ∀ q : Int, q ≠ p -> q ∉ pls h -> q ∉ pls ((x.To, p) :: h) := fun q h1 h2 h3 => by rcases (hin q).1 h3 with h3 | h3; exact h1 h3; exact h2 h3
  rcases T with ⟨i, rfl, hi, hfi, hh, rfl⟩ | ⟨_, hs⟩
  ·have hno : (i : Int) ∉ pls h := by
    have := H.fi i hi
    rw [hfi] at this
    simpa using (Option.some.inj this)
   unfold b2Y
   refine ⟨hno, by simp [H.fl], fun j hj => ?_, H.sn0, H.sn1, fun q hq => ?_, fun q hq => ?_, .inl ⟨i, rfl, hi, hh⟩, .inl rfl⟩
   ·show (S.fr.set i false)[j]? = _
    by_cases hij : i = j
    ·subst hij
     rw [List.getElem?_set_self (by rw [H.fl]; exact hi), decide_eq_false (fun k => k ((hin _).2 (.inl rfl)))]
    ·rw [List.getElem?_set_ne hij, H.fi j hj]
     congr 1
     simp only [decide_eq_decide, hin]
     constructor
     ·rintro a (b | b)
      ·exact hij zO
      ·exact a b
     ·exact fun a b => a (.inr b)
   ·obtain ⟨h1, j, h2, h3⟩ := H.sk0 q hq
    exact ⟨ni q zO h1, j, h2, h3⟩
   ·obtain ⟨h1, j, h2, h3⟩ := H.sk1 q hq
    exact ⟨ni q zO h1, j, h2, h3⟩
  ·have fr' : ∀ (h16 : 16 <= p), ∀ i : Nat, i < 12 -> S.fr[i]? = some (decide ((i : Int) ∉ pls ((x.To, p) :: h))) := fun h16 i hi => by
    rw [H.fi i hi]
    congr 1
    simp only [decide_eq_decide, hin]
    constructor
    ·rintro a (b | b)
     ·omega
     ·exact a b
    ·exact fun a b => a (.inr b)
   have lt_of : ∀ {j : Nat} {k : Int}, S.ks[j]? = some k -> j < S.ks.length := fun h => (List.getElem?_eq_some_iff.1 h).1
   have hnew : (16 + (S.ks.length : Int)) ∉ pls h := fun hq => by
    obtain ⟨e, he, e2⟩ := List.mem_map.1 hq
    obtain ⟨t', p'⟩ := e
    simp only at e2
    subst e2
    rcases H.place he with ⟨i, h1, h2⟩ | ⟨i, k, h1, h2, _⟩
    ·omega
    ·have := lt_of h2; omega
   have newc : p = 16 + (S.ks.length : Int) -> S' = ⟨S.fr, S.ks ++ [kd K x], S.s0, S.s1⟩ -> b2Y K h x p S S' := fun e1 e2 => by
    subst e2
    unfold b2Y
    have g : ∀ {j : Nat} {k : Int}, S.ks[j]? = some k -> (S.ks ++ [kd K x])[j]? = some k := fun h => by rw [List.getElem?_append_left (lt_of h)]; exact h
    exact ⟨by rw [e1]; exact hnew, H.fl, fr' zO, H.sn0, H.sn1, fun q hq => by
      obtain ⟨h1, j, h2, h3⟩ := H.sk0 q hq
      exact ⟨ni q (by have := lt_of h3; omega) h1, j, h2, g h3⟩, fun q hq => by
      obtain ⟨h1, j, h2, h3⟩ := H.sk1 q hq
      exact ⟨ni q (by have := lt_of h3; omega) h1, j, h2, g h3⟩, .inr ⟨S.ks.length, e1, by simp⟩, .inr ⟨rfl, e1⟩⟩
   unfold b9l at hs
   rcases hk with hk | hk
   ·rw [if_pos hk] at hs
    rcases hs with ⟨l, e, rfl⟩ | ⟨_, e1, e2⟩
    ·have hp : p ∈ S.s0 := by rw [e]; simp
     obtain ⟨h1, i, h2, h3⟩ := H.sk0 p hp
     have hnd := H.sn0
     rw [e, List.nodup_append] at hnd
     unfold b2Y
     refine ⟨h1, H.fl, fr' zO, hnd.1, H.sn1, fun q hq => ?_, fun q hq => ?_, .inr ⟨i, h2, by rw [hk]; exact h3⟩, .inl rfl⟩
     ·obtain ⟨k1, k2⟩ := H.sk0 q (by rw [e]; exact List.mem_append_left _ hq)
      exact ⟨ni q (hnd.2.2 q hq p zS) k1, k2⟩
     ·obtain ⟨k1, j, k2, k3⟩ := H.sk1 q hq
      refine ⟨ni q (fun e => ?_) k1, j, k2, k3⟩
      have : j = i := by omega
      subst this
      rw [h3] at k3; simp at k3
    ·exact newc e1 e2
   ·rw [if_neg zO] at hs
    rcases hs with ⟨l, e, rfl⟩ | ⟨_, e1, e2⟩
    ·have hp : p ∈ S.s1 := by rw [e]; simp
     obtain ⟨h1, i, h2, h3⟩ := H.sk1 p hp
     have hnd := H.sn1
     rw [e, List.nodup_append] at hnd
     unfold b2Y
     refine ⟨h1, H.fl, fr' zO, H.sn0, hnd.1, fun q hq => ?_, fun q hq => ?_, .inr ⟨i, h2, by rw [hk]; exact h3⟩, .inl rfl⟩
     ·obtain ⟨k1, j, k2, k3⟩ := H.sk0 q hq
      refine ⟨ni q (fun e => ?_) k1, j, k2, k3⟩
      have : j = i := by omega
      subst this
      rw [h3] at k3; simp at k3
     ·obtain ⟨k1, k2⟩ := H.sk1 q (by rw [e]; exact List.mem_append_left _ hq)
      exact ⟨ni q (hnd.2.2 q hq p zS) k1, k2⟩
    ·exact newc e1 e2
 obtain ⟨hno, a1, a2, a3, a4, a5, a6, a7, a8⟩ := key
 have gks : ∀ {j : Nat} {k : Int}, S.ks[j]? = some k -> S'.ks[j]? = some k := fun {j k} hj => by
  rcases a8 with e | ⟨e, _⟩
  ·rw [e]; exact hj
  ·rw [e, List.getElem?_append_left (List.getElem?_eq_some_iff.1 hj).1]; exact hj
 have old : ∀ y ∈ D, plc O y = p -> y.To < x.From := fun y hy e => H.hc y hy (fun k => hno (List.mem_map.2 ⟨_, k, e⟩))
 refine { ol := by rw [List.length_set]; exact H.ol, un := fun q hq hall => ?_, hm := fun e he => ?_, hn := ?_, hc := fun y hy hn => ?_, fl := a1, fi := a2, sn0 := a3, sn1 := a4, sk0 := a5, sk1 := a6, pl := fun y hy => ?_, pw := fun y hy z hz hne e => ?_, cv := fun i hi => ?_, kl := ?_, kk := fun k hk' => ?_ }
 ·have hx1 := hx.1
  rw [List.getElem?_set_ne (fun e => hall x zS (by rw [<- e, Int.toNat_of_nonneg hx1]))]
  exact H.un q hq (fun y hy => hall y (List.mem_append_left _ hy))
 ·rcases List.mem_cons.1 he with rfl | he
  ·exact ⟨x, by simp, by rw [ex]⟩
  ·obtain ⟨y, hy, e2⟩ := H.hm e he
   exact ⟨y, List.mem_append_left _ hy, by rw [ey y hy]; exact e2⟩
 ·simp only [pls, List.map_cons, List.nodup_cons]
  exact ⟨hno, H.hn⟩
 ·rcases List.mem_append.1 hy with hy | hy
  ·rw [ey y hy] at hn
   exact H.hc y hy (fun k => hn (.tail _ k))
  ·simp at hy; subst hy
   rw [ex] at hn
   exact absurd (.head _) hn
 ·rcases List.mem_append.1 hy with hy | hy
  ·rw [ey y hy]
   rcases H.pl y hy with h1 | ⟨i, h1, h2⟩
   ·exact .inl h1
   ·exact .inr ⟨i, h1, gks h2⟩
  ·simp at hy; subst hy
   rw [ex]; exact a7
 ·rcases List.mem_append.1 hy with hy1 | hy1 <;> rcases List.mem_append.1 hz with hz1 | hz1
  ·rw [ey y hy1, ey z hz1] at e
   exact H.pw y hy1 z hz1 hne e
  ·have hz2 : z = x := by simpa using hz1
   rw [hz2, ex, ey y hy1] at e
   rw [hz2]
   exact .inl (old y hy1 e)
  ·have hy2 : y = x := by simpa using hy1
   rw [hy2, ex, ey z hz1] at e
   rw [hy2]
   exact .inr (old z hz1 e.symm)
  ·have hz2 : z = x := by simpa using hz1
   have hy2 : y = x := by simpa using hy1
   exact absurd (by rw [hy2, hz2]) hne
 ·by_cases hi0 : i < S.ks.length
  ·obtain ⟨y, hy, e⟩ := H.cv i hi0
   exact ⟨y, List.mem_append_left _ hy, by rw [ey y hy]; exact e⟩
  ·rcases a8 with e | ⟨e, e2⟩
   ·rw [e] at hi; exact absurd hi hi0
   ·rw [e, List.length_append, List.length_singleton] at hi
    have : i = S.ks.length := by omega
    subst this
    exact ⟨x, by simp, by rw [ex]; exact e2⟩
 ·rw [List.length_append, List.length_singleton]
  have := H.kl
  rcases a8 with e | ⟨e, _⟩
  ·rw [e]; omega
  ·rw [e, List.length_append, List.length_singleton]; omega
 ·rcases a8 with e | ⟨e, _⟩
  ·rw [e] at hk'; exact H.kk k hk'
  ·rw [e] at hk'
   rcases List.mem_append.1 hk' with hk' | hk'
   ·exact H.kk k hk'
   ·simp at hk'; subst hk'; exact hk
theorem a6K {α : Type} : ∀ {l m : List α}, l.Nodup -> (∀ a ∈ l, a ∈ m) -> l.length <= m.length
 | [], _, _, _ => Nat.zero_le _
 | a :: l, m, h, k => by
   rw [List.nodup_cons] at h
   obtain ⟨s, t, rfl⟩ := List.append_of_mem (k a (.head _))
   have := a6K (l := l) (m := s ++ t) h.2 (fun b hb => by
    have := k b (.tail _ hb)
    simp only [List.mem_append, List.mem_cons] at this ⊢
    rcases this with h1 | h1 | h1
    ·exact .inl h1
    ·subst h1; exact absurd hb h.1
    ·exact .inr h1)
   simp only [List.length_append, List.length_cons] at this ⊢
   omega
def b5o (D : List b6) (c : Int) : List b6 := D.filter fun y => decide (y.From <= c) && decide (c <= y.To)
theorem AInv.few (H : AInv K D c h S O) (hr : ∀ e ∈ h, c <= e.1) (hf : ∀ y ∈ D, y.From <= c) : h.length <= (b5o D c).length := by
 have h1 : (pls h).length <= ((b5o D c).map (plc O)).length := a6K H.hn (fun q hq => by
  obtain ⟨e, he, rfl⟩ := List.mem_map.1 hq
  obtain ⟨y, hy, e2⟩ := H.hm e he
  refine List.mem_map.2 ⟨y, ?_, by rw [e2]⟩
  have := hr e he
  rw [e2] at this
  unfold b5o
  simp only [List.mem_filter, Bool.and_eq_true, decide_eq_true_eq]
  exact ⟨hy, hf y hy, this⟩)
 simpa [pls] using h1
theorem AInv.room (H : AInv K D x.From h S O) (hl : h.length <= 5) (hp : ¬ (x.Held = true /\ kd K x = 1)) (T : b6Z x.Held (kd K x) S p S') : S'.ks = S.ks /\ p <= 11 := by
 rcases T with ⟨i, rfl, hi, _, _, rfl⟩ | ⟨hs, _⟩
 ·exact ⟨rfl, by omega⟩
 ·exfalso
  rcases hs with hs | hs
  ·exact hp hs
  have h1 : [(6 : Int), 7, 8, 9, 10, 11].length <= (pls h).length := a6K zD (fun q hq => by
   have hq2 : ∃ i : Nat, q = (i : Int) /\ 6 <= i /\ i < 12 := by
    simp only [List.mem_cons, List.not_mem_nil, or_false] at hq
    rcases hq with rfl | rfl | rfl | rfl | rfl | rfl
    ·exact ⟨6, rfl, by omega, by omega⟩
    ·exact ⟨7, rfl, by omega, by omega⟩
    ·exact ⟨8, rfl, by omega, by omega⟩
    ·exact ⟨9, rfl, by omega, by omega⟩
    ·exact ⟨10, rfl, by omega, by omega⟩
    ·exact ⟨11, rfl, by omega, by omega⟩
   obtain ⟨i, rfl, h6, h12⟩ := hq2
   have := hs i (fun _ => h6) h12
   rw [H.fi i h12] at this
   simpa using Option.some.inj this)
  simp [pls] at h1
  omega
end
end Go.Proofs.YtepdcebjobjjgaaDoor

