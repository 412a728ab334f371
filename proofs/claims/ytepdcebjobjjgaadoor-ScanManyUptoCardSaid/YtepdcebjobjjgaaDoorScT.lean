/- ScanMany: so many numbers held at a time. -/
import Derived.Test.YtepdcebjobjjgaaDoorGenM1
import Derived.Test.YtepdcebjobjjgaaDoorGenS
import Derived.Test.YtepdcebjobjjgaaDoorWlH2
import Derived.Test.YtepdcebjobjjgaaDoorGenB
import Derived.WalkKit
import Derived.ProofKit
import Derived.OpenShut
import Derived.JoinedCond
import Derived.Test.YtepdcebjobjjgaaDoorWlTz
import Derived.Lib.LaidTab
import Derived.Deep.DeepHandedRow
set_option linter.unusedVariables false
set_option linter.unusedSimpArgs false
namespace Go.Proofs.YtepdcebjobjjgaaDoor
open Go Go.Ab
def b7R (k c : Nat) : List f7 :=
 ((List.range k).map fun (p : Nat) => f7.mk 16 0 (p : Int) 0 0 0 0 0 0 [] ((p + 1 : Nat) : Int) 0) ++
 ((List.range c).map fun (_ : Nat) => f7.mk 11 0 (-1) 0 0 0 1 0 0 [] ((k + 1 : Nat) : Int) 0) ++
 ((List.range k).map fun (p : Nat) => f7.mk 17 0 0 0 (p : Int) 0 0 0 0 [] ((k + c + p + 1 : Nat) : Int) 0) ++
 [f7.mk 12 0 0 0 (-1) 0 0 0 0 [] 0 0]
def gM (k c : Nat) : b5 := b5.mk [] (List.replicate k 0) 0 [] false (-1) (b7R k c) 0
def c6y : b5 := b5.mk [] [] 0 [] false (-1) ([(f7.mk 12 0 0 0 (-1) 0 0 0 0 [] 0 0)]) 0
def GM (k c : Nat) : f6 := f6.mk [gM k c, c6y]
def b5t (k c : Nat) : Bool :=
 RightB (GM k c) && (a0J (gM k c) == (List.range (k + c + k + 1)).map fun (n : Nat) => (n : Int)) &&
 (List.range k).all fun p => (wrR (gM k c) p == [(p : Int)]) && (rdR (gM k c) (k + c + p) == [(p : Int)]) && (wrR (gM k c) (k + c + p) == []) && (nxt (gM k c) (k + c + p) == [((k + c + p + 1 : Nat) : Int)]) &&
  (c == 0 || ((wrR (gM k c) k == [-1]) && (nxt (gM k c) k == [((k + 1 : Nat) : Int)]) && a3k (gM k c) k))
def d3p : Bool := (List.range 40).all fun k => b5t (k + 1) 0 && b5t (k + 1) 1
set_option maxRecDepth 100000 in
theorem b7S : d3p = true := by kernel_rfl
theorem b5u {k c : Nat} (h1 : 1 ≤ k) (h2 : k ≤ 40) (hc : c = 0 ∨ c = 1) : b5t k c = true := by
 have h := b7S
 unfold d3p at h
 rw [List.all_eq_true] at h
 have := h (k - 1) (List.mem_range.2 zO)
 rw [Nat.sub_add_cancel h1, Bool.and_eq_true] at this
 rcases hc with rfl | rfl
 ·exact this.1
 ·exact this.2
theorem a9m {K : Nat} {A : Nat → Bool} {p : Nat} : (p : Int) ∈ a3p K A ↔ p < K ∧ A p = true := by
 unfold a3p
 simp only [List.mem_map, List.mem_filter, List.mem_range]
 constructor
 ·rintro ⟨q, h, e⟩
  have : q = p := by omega
  subst this; exact h
 ·intro h
  exact ⟨p, h, rfl⟩
theorem b5v {g : b5} {i p : Nat} : lvB g i p = true ↔ Lv g i p := by unfold lvB; simp
theorem b5w {g : b5} {i p : Nat} : bhB g i p = true ↔ Bh g i p := by unfold bhB; simp
theorem b5x {g : b5} {i k : Nat} : (k : Int) ∈ lvI g i ↔ Lv g i k := by
 unfold lvI
 rw [a9m, b5v]
 exact ⟨fun h => h.2, fun h => ⟨h.lt.2, h⟩⟩
theorem b5y {g : b5} {i k : Nat} : (k : Int) ∈ bhI g i ↔ Bh g i k := by
 unfold bhI
 rw [a9m, b5w]
 exact ⟨fun h => h.2, fun h => ⟨by obtain ⟨to, _, q⟩ := h; exact q.lt.2, h⟩⟩
theorem b3P {g : b5} {i : Nat} {x : Int} : x ∈ wrN g i ↔ (x ∈ wrR g i ∧ 0 ≤ x) := by
 unfold wrN wrR
 cases g.Nodes[i]? with
 | none => simp
 | some n => exact a7T n x
structure d5h (k c : Nat) : Prop where
 right : RightB (GM k c) = true
 good : a2s (gM k c)
 par : a7O (gM k c)
 line : a0J (gM k c) = (List.range (k + c + k + 1)).map fun (n : Nat) => (n : Int)
 len : (gM k c).Nodes.length = k + c + k + 1
 span : ∀ x ∈ x9 (gM k c), ∃ p : Nat, p < k ∧ x.Place = (p : Int) ∧ x.From ≤ p ∧ ((k + c + p : Nat) : Int) ≤ x.To ∧ (c = 1 → x.Held = true)
 there : ∀ p, p < k → ∃ x ∈ x9 (gM k c), x.Place = (p : Int)
theorem d5i {k c : Nat} (h1 : 1 ≤ k) (h2 : k ≤ 40) (hc : c = 0 ∨ c = 1) : d5h k c := by
 have h := b5u h1 h2 hc
 unfold b5t at h
 simp only [Bool.and_eq_true, beq_iff_eq, List.all_eq_true, List.mem_range, Bool.or_eq_true] at h
 obtain ⟨⟨hR, hL⟩, hp⟩ := h
 have hgf : y5 (GM k c).Funcs 0 = some (gM k c) := rfl
 obtain ⟨h0, h01, hm⟩ := i6 hgf
 obtain ⟨hg, hhd, hnd⟩ := a2I hR (gM k c) (List.mem_of_getElem? hm)
 obtain ⟨hK, hp4, hpar, hn1, hN, he0, heN⟩ := a0n hhd
 have hlen : (gM k c).Nodes.length = k + c + k + 1 := by simp [gM, b7R]; omega
 have hKl : (gM k c).Kinds.length = k := by simp [gM]
 have hwl : (List.range (k + c + k + 1)).length ≤ (gM k c).Nodes.length := by simp [hlen]
 have hw : ∀ i, i < k + c + k + 1 → (List.range (k + c + k + 1))[i]? = some i := fun i hi => by rw [List.getElem?_range hi]
 have rdp : ∀ p, p < k → Lv (gM k c) (k + c + p) p := fun p hpk => by
  obtain ⟨⟨⟨⟨_, a2⟩, _⟩, _⟩, _⟩ := hp p hpk
  exact .read zO zO (by rw [a2]; simp)
 have t1 : ∀ p, p < k → a7X (gM k c) p p := fun p hpk => by
  obtain ⟨⟨⟨⟨a1, _⟩, _⟩, _⟩, _⟩ := hp p hpk
  exact .inr (b3P.2 ⟨by rw [a1]; simp, by omega⟩)
 have t2 : ∀ p, p < k → a7X (gM k c) p (k + c + p) := fun p hpk => .inl (b5x.2 (rdp p hpk))
 have back : ∀ p, p < k → ∀ d, d ≤ p → Lv (gM k c) (k + c + (p - d)) p := fun p hpk d => by
  induction d with
  | zero => intro _; exact rdp p hpk
  | succ d ih =>
    intro hd
    obtain ⟨⟨⟨⟨_, _⟩, a3⟩, a4⟩, _⟩ := hp (p - (d + 1)) zO
    refine .step (to := k + c + (p - d)) zO (by rw [a4, show k + c + (p - (d + 1)) + 1 = k + c + (p - d) by omega]; simp) (ih zO) (by rw [a3]; simp)
 refine ⟨hR, hg, hpar, hL, hlen, fun x hx => ?_, fun p hpk => ?_⟩
 ·obtain ⟨p, hpk, hxp, _, he, _, _⟩ := b0a hg hpar hL hwl hx
  rw [hKl] at hpk
  have q1 := he.all p p (.inl ⟨hw p zO, by simp; omega, t1 p hpk⟩)
  have q2 := he.all (k + c + p) (k + c + p) (.inl ⟨hw _ zO, by simp; omega, t2 p hpk⟩)
  refine ⟨p, hpk, hxp, q1.1, q2.2, fun hc1 => ?_⟩
  subst hc1
  obtain ⟨_, a5⟩ := hp p hpk
  rcases a5 with a5 | ⟨⟨a6, a7⟩, a8⟩
  ·simp at a5
  refine he.held.2 ⟨k, k, hw k zO, by simp; omega, a8, b5y.2 ⟨k + 1, by rw [a7]; simp, ?_⟩, fun hin => ?_⟩
  ·have := back p hpk p (Nat.le_refl _)
   simpa using this
  ·have := (b3P.1 hin).1
   rw [a6] at this
   simp at this
 ·obtain ⟨x, hx, hxp, _⟩ := a4r (a := p) (i := p) hg hpar hL hwl (by omega : p < (gM k c).Kinds.length) (hw p zO) (t1 p hpk)
  exact ⟨x, hx, hxp⟩
end Go.Proofs.YtepdcebjobjjgaaDoor

/- f6 are the same as themselves. -/
namespace Go.Proofs.YtepdcebjobjjgaaDoor
open Go Go.Ab
theorem a6u {σ β : Type} {body : Nat → σ → Option (Stp σ (Option β))} {n : Int} {s0 : σ} {F : σ → Option β} {r : Option β} (Inv : Nat → σ → Prop) (hl : n ≤ 4611686018427387904) (h0 : Inv 0 s0)
  (h : ∀ (i : Nat) s, (i : Int) < n → Inv i s → ∃ s', body i s = some (.nxt s') ∧ Inv (i + 1) s') (hF : ∀ s, Inv n.toNat s → F s = r) : (rni body n s0).bind (oc F) = r := by
 obtain ⟨o, e, s, rfl, hs⟩ := b2J (Q := fun o => ∃ s, o = .fin s ∧ Inv n.toNat s) Inv hl h0 (fun i s hx hI => .inl (h i s hx hI)) (fun s hs => ⟨s, rfl, hs⟩)
 rw [e]
 exact hF s hs
end Go.Proofs.YtepdcebjobjjgaaDoor

/- ScanMany: the law. -/
namespace Go.Proofs.YtepdcebjobjjgaaDoor
open Go Go.Ab
theorem a9n {α σ β : Type} {body : Nat → α → σ → Option (Stp σ (Option β))} {xs : List α} {s0 : σ} {F : σ → Option β} {r : Option β} (Inv : Nat → σ → Prop) (hl : xs.length ≤ 4611686018427387904) (h0 : Inv 0 s0)
  (h : ∀ i x s, xs[i]? = some x → Inv i s → ∃ s', body i x s = some (.nxt s') ∧ Inv (i + 1) s') (hF : ∀ s, Inv xs.length s → F s = r) : (rng body xs s0).bind (oc F) = r := by
 obtain ⟨o, e, s, rfl, hs⟩ := b8N (Q := fun o => ∃ s, o = .fin s ∧ Inv xs.length s) Inv hl h0 (fun i x s hx hI => .inl (h i x s hx hI)) (fun s hs => ⟨s, rfl, hs⟩)
 rw [e]
 exact hF s hs
structure d5j (k c : Nat) (O : List Int) : Prop where
 len : O.length = k
 ok : ∀ p : Nat, p < k → ∀ v, O[p]? = some v → 0 ≤ v ∧ ¬ (11 < v ∧ v < 16) ∧ (c = 1 → 6 ≤ v)
 ne : ∀ p q : Nat, p < q → q < k → ∀ v u, O[p]? = some v → O[q]? = some u → v ≠ u
 few : k ≤ 6 → ∀ v ∈ O, v ≤ 11
theorem kdM {k c : Nat} {x : b7} : kd (gM k c).Kinds x = 0 := by
 unfold kd gM
 rw [List.getD_eq_getElem?_getD, List.getElem?_replicate]
 split <;> rfl
theorem d5k {k c : Nat} (h1 : 1 ≤ k) (h2 : k ≤ 40) (hc : c = 0 ∨ c = 1) : d5j k c (a7j (GM k c) 0) ∧ b1y (GM k c) 0 = 0 ∧ b7P (GM k c) = true := by
 have F := d5i h1 h2 hc
 have hpos : b7P (GM k c) = true := by
  unfold b7P GM gM c6y
  simp [List.all_eq_true]
 have hgf : y5 (GM k c).Funcs 0 = some (gM k c) := rfl
 have hKl : (gM k c).Kinds.length = k := by simp [gM]
 obtain ⟨m, cc, h, S, hmp, H, room⟩ := (a8e (a8f.1 hpos) F.right hgf).1
 have hol : (a7j (GM k c) 0).length = k := by rw [H.ol, hKl]
 have hfind : ∀ p, p < k → ∀ v, (a7j (GM k c) 0)[p]? = some v → ∃ x ∈ x9 (gM k c), x.Place = (p : Int) ∧ plc (a7j (GM k c) 0) x = v := fun p hp v hv => by
  obtain ⟨x, hx, hxp⟩ := F.there p hp
  exact ⟨x, hx, hxp, by unfold plc; rw [hxp, Int.toNat_natCast, List.getD_eq_getElem?_getD, hv]; rfl⟩
 refine ⟨⟨hol, fun p hp v hv => ?_, fun p q hpq hq v u hv hu => ?_, fun hk6 => ?_⟩, by unfold b1y; rw [if_pos F.right, hgf], hpos⟩
 ·obtain ⟨x, hx, hxp, hxv⟩ := hfind p hp v hv
  obtain ⟨p', _, hp', _, _, hheld⟩ := F.span x hx
  rcases H.pl x (hmp.mem_iff.2 hx) with ⟨i, e1, e2, e3⟩ | ⟨i, e1, _⟩
  ·rw [hxv] at e1
   exact ⟨by omega, by omega, fun hc1 => by have := (e3 (hheld hc1)).1; omega⟩
  ·rw [hxv] at e1
   exact ⟨by omega, by omega, fun _ => by omega⟩
 ·intro e
  obtain ⟨x, hx, hxp, hxv⟩ := hfind p zO v hv
  obtain ⟨y, hy, hyp, hyv⟩ := hfind q hq u hu
  obtain ⟨p1, k1, l1, f1, t1, _⟩ := F.span x hx
  obtain ⟨q1, k2, l2, f2, t2, _⟩ := F.span y hy
  have := H.pw x (hmp.mem_iff.2 hx) y (hmp.mem_iff.2 hy) zO (by rw [hxv, hyv, e])
  omega
 ·exact (room (fun x _ h => by rw [kdM] at h; simp at h) (fun x hx => by
   have a1 : (b1E (x9 (gM k c)) x.From).length ≤ (x9 (gM k c)).length := List.length_filter_le _ _
   have a2 := a4Q (gM k c)
   omega)).2
def nIn (p : Nat) : f7 := f7.mk 16 0 (p : Int) 0 0 0 0 0 0 [] 0 0
def b5z : f7 := f7.mk 11 0 (-1) 0 0 0 1 0 0 [] 0 0
def c6U (p : Nat) : f7 := f7.mk 17 0 0 0 (p : Int) 0 0 0 0 [] 0 0
def c6V : f7 := f7.mk 12 0 0 0 (-1) 0 0 0 0 [] 0 0
def o3 (k c : Nat) : List f7 := (List.range k).map nIn ++ List.replicate c b5z ++ (List.range k).map c6U
def nx1 (y : f7) (i : Nat) : f7 := f7.mk y.Op y.By y.D y.E y.A y.B y.F y.Cell y.Imm y.Args ((i + 1 : Nat) : Int) y.Else
theorem b6o (k c : Nat) : (o3 k c).length = k + c + k := by simp [o3]; omega
theorem b7T {k c : Nat} {s : List f7} (hc : c = 0 ∨ c = 1) (hl : s.length = k + c + k) (h : ∀ (j : Nat) (y : f7), (o3 k c)[j]? = some y → s[j]? = some (nx1 y j)) : s ++ [c6V] = b7R k c := by
 unfold b7R
 show s ++ [c6V] = _ ++ [c6V]
 congr 1
 apply List.ext_getElem?
 intro j
 by_cases hj : j < k + c + k
 ·have hx := List.getElem?_eq_getElem (show j < (o3 k c).length by rw [b6o]; exact hj)
  rw [h j _ hx]
  have key : ((o3 k c)[j]? : Option f7) = if j < k then some (nIn j) else if j < k + c then some b5z else some (c6U (j - (k + c))) := by
   unfold o3
   by_cases a : j < k
   ·rw [if_pos a, List.append_assoc, List.getElem?_append_left (by simpa using a), List.getElem?_map, List.getElem?_range a]; rfl
   ·rw [if_neg a]
    by_cases b : j < k + c
    ·rw [if_pos b, List.append_assoc, List.getElem?_append_right (by simpa using Nat.le_of_not_lt a), List.getElem?_append_left zE, List.getElem?_replicate, if_pos zE]
    ·rw [if_neg b, List.getElem?_append_right zE]
     simp only [List.length_append, List.length_map, List.length_range, List.length_replicate]
     rw [List.getElem?_map, List.getElem?_range zO]; rfl
  rw [hx] at key
  by_cases a : j < k
  ·rw [if_pos a] at key
   rw [Option.some.inj key, List.append_assoc, List.getElem?_append_left (by simpa using a), List.getElem?_map, List.getElem?_range a]; rfl
  ·rw [if_neg a] at key
   by_cases b : j < k + c
   ·rw [if_pos b] at key
    have e : j = k := by omega
    rw [Option.some.inj key, List.append_assoc, List.getElem?_append_right (by simpa using Nat.le_of_not_lt a), List.getElem?_append_left zE, List.getElem?_map, List.getElem?_range zE]
    subst e; rfl
   ·rw [if_neg b] at key
    rw [Option.some.inj key, List.getElem?_append_right zE]
    simp only [List.length_append, List.length_map, List.length_range]
    rw [List.getElem?_map, List.getElem?_range zO]
    show some (nx1 (c6U (j - (k + c))) j) = some (f7.mk 17 0 0 0 ((j - (k + c) : Nat) : Int) 0 0 0 0 [] ((k + c + (j - (k + c)) + 1 : Nat) : Int) 0)
    rw [show k + c + (j - (k + c)) = j by omega]; rfl
 ·rw [List.getElem?_eq_none zO, List.getElem?_eq_none zE]
theorem b5A (n : Int) (call : Bool) : s7 n call = some true := by
 unfold s7
 obtain ⟨k, hk1, hk2, hk⟩ : ∃ k : Nat, 1 ≤ k ∧ k ≤ 40 ∧ I64 (1 + (I64 (Int.tmod (U64 n) 40))) = (k : Int) := by
  have h0 : 0 ≤ U64 n ∧ U64 n < 18446744073709551616 := by
   show 0 ≤ IntKind.u64.wrap n ∧ IntKind.u64.wrap n < 18446744073709551616
   simp [IntKind.wrap, IntKind.bits, IntKind.signed]; omega
  have h1 : Int.tmod (U64 n) 40 = (U64 n) % 40 := Int.tmod_eq_emod_of_nonneg h0.1
  have h2 : 0 ≤ (U64 n) % 40 ∧ (U64 n) % 40 < 40 := ⟨Int.emod_nonneg _ zD, Int.emod_lt_of_pos _ zD⟩
  refine ⟨(1 + (U64 n) % 40).toNat, by omega, by omega, ?_⟩
  rw [h1, a4e (x := (U64 n) % 40) zO, a4e zO]; omega
 rw [b7Q]
 simp only [Option.bind_some, Bool.not_true, Bool.false_eq_true, if_false, hk]
 have hmk : mkL 1 (k : Int) (k : Int) (0 : Int) = some (List.replicate k 0) := by
  unfold mkL
  rw [if_pos ⟨by omega, by omega, by omega, by omega⟩, Int.toNat_natCast]
 rw [hmk]
 simp only [Option.bind_some]
 refine a6u (fun i s => s = (List.range i).map nIn) zO rfl (fun i s hi hs => ?_) (fun s hs => ?_)
 ·subst hs
  exact ⟨_, by rw [a1F zE]; rfl, by rw [List.range_succ, List.map_append]; rfl⟩
 rw [Int.toNat_natCast] at hs
 subst hs
 obtain ⟨c, hc, hcall⟩ : ∃ c : Nat, (c = 0 ∨ c = 1) ∧ ((call = true ∧ c = 1) ∨ (call = false ∧ c = 0)) := by
  cases call
  ·exact ⟨0, .inl rfl, .inr ⟨rfl, rfl⟩⟩
  ·exact ⟨1, .inr rfl, .inl ⟨rfl, rfl⟩⟩
 have step : ∀ (K : List f7 → Option Bool), K ((List.range k).map nIn ++ List.replicate c b5z) = some true → (jp K (fun k_6 => if call = true then (a5y 104 ((List.range k).map nIn) [f7.mk 11 0 (-1) 0 0 0 1 0 0 [] 0 0]).bind fun l_8 => k_6 l_8 else k_6 ((List.range k).map nIn))) = some true := fun K hK => by
  unfold jp
  simp only []
  rcases hcall with ⟨e1, e2⟩ | ⟨e1, e2⟩
  ·rw [if_pos e1, a1F zE]
   rw [e2] at hK
   exact hK
  ·rw [if_neg (by rw [e1]; simp)]
   rw [e2] at hK
   simpa using hK
 refine step _ ?_
 have hc1 : c ≤ 1 := by omega
 refine a6u (fun i s => s = (List.range k).map nIn ++ List.replicate c b5z ++ (List.range i).map c6U) zO zS (fun i s hi hs => ?_) (fun s hs => ?_)
 ·subst hs
  exact ⟨_, by rw [a1F zE]; rfl, by rw [List.range_succ, List.map_append, ← List.append_assoc]; rfl⟩
 rw [Int.toNat_natCast] at hs
 replace hs : s = o3 k c := hs
 subst hs
 have hol := b6o k c
 refine a6u (fun i s => s.length = k + c + k ∧ ∀ (j : Nat) (y : f7), (o3 k c)[j]? = some y → s[j]? = some (if j < i then nx1 y j else y)) zO ⟨hol, fun j y hy => by rw [if_neg (Nat.not_lt_zero j)]; exact hy⟩ (fun i s hi hs => ?_) (fun s hs => ?_)
 ·obtain ⟨hsl, hs⟩ := hs
  have hil : i < (o3 k c).length := by omega
  have hy := hs i _ (List.getElem?_eq_getElem hil)
  rw [if_neg (Nat.lt_irrefl i)] at hy
  have hgy : y5 s (i : Int) = some (o3 k c)[i] := by
   rw [b2H zO zO]
   rw [List.getElem?_eq_getElem zO] at hy
   simpa using hy
  have hI : I64 ((i : Int) + 1) = ((i + 1 : Nat) : Int) := by rw [a4e zO]; omega
  refine ⟨s.set i (nx1 (o3 k c)[i] i), ?_, by simpa using hsl, fun j y hjy => ?_⟩
  ·rw [hgy]
   simp only [Option.bind_some, hI, Int.toNat_natCast]
   rfl
  ·by_cases e : i = j
   ·subst e
    rw [List.getElem?_eq_getElem hil] at hjy
    rw [List.getElem?_set_self zO, if_pos (Nat.lt_succ_self i), Option.some.inj hjy]
   ·rw [List.getElem?_set_ne e, hs j y hjy]
    by_cases q : j < i
    ·rw [if_pos q, if_pos zO]
    ·rw [if_neg q, if_neg zO]
 obtain ⟨hsl, hs⟩ := hs
 have hnd : s ++ [c6V] = b7R k c := b7T hc hsl (fun j y hy => by
  have hj := (List.getElem?_eq_some_iff.1 hy).1
  rw [hs j y hy, if_pos zO])
 have hap : a5y 104 s [f7.mk 12 0 0 0 (-1) 0 0 0 0 [] 0 0] = some (b7R k c) := by
  rw [a1F zE]; exact congrArg some hnd
 rw [hap]
 obtain ⟨A, hE, hpos⟩ := d5k hk1 hk2 hc
 have hasg : z8 (f6.mk [b5.mk [] (List.replicate k 0) 0 [] false (-1) (b7R k c) 0, b5.mk [] [] 0 [] false (-1) [f7.mk 12 0 0 0 (-1) 0 0 0 0 [] 0 0] 0]) 0 = some (a7j (GM k c) 0, 0) := by
  show z8 (GM k c) 0 = _
  unfold z8
  rw [if_pos hpos, hE]
 simp only [Option.bind_some, hasg]
 generalize a7j (GM k c) 0 = O at A
 have hO : (O.length : Int) = (k : Int) := by rw [A.len]
 simp only [jp, hO, bne_self_eq_false, Bool.false_eq_true, if_false]
 refine a9n (fun i s => k ≤ 6 → s = 0) (by have := A.len; omega) (fun _ => rfl) (fun i v s hv hs => ?_) (fun s hs => ?_)
 ·have hik : i < k := by have := (List.getElem?_eq_some_iff.1 hv).1; rw [A.len] at this; exact this
  obtain ⟨a1, a2, a3⟩ := A.ok i hik v hv
  have hcv : call = true → ¬ v < 6 := fun e => by
   rcases hcall with ⟨_, e2⟩ | ⟨e1, _⟩
   ·have := a3 e2; omega
   ·rw [e] at e1; cases e1
  have hin : ∀ t : Int, ((b0u O 0 (i : Int)).bind fun l_28 => ((rng (fun (i_30 : Nat) (q_31 : Int) (s_29 : Unit) => ((if (v == q_31) then (some (.ret (some (.ret (some false))))) else (some (.nxt ()))) : Option (Stp Unit (Option (Stp Int (Option Bool)))))) l_28 ()).bind (oc (fun (s_29 : Unit) => (some (.nxt t)))))) = some (.nxt t) := fun t => by
   have hsub : b0u O 0 (i : Int) = some (O.take i) := by
    unfold b0u
    rw [if_pos ⟨by omega, by omega, by omega⟩]; simp
   rw [hsub]
   simp only [Option.bind_some]
   refine a9n (fun _ _ => True) (by rw [List.length_take]; omega) trivial (fun j u _ hu _ => ?_) (fun _ _ => rfl)
   have hji : j < i := by have := (List.getElem?_eq_some_iff.1 hu).1; rw [List.length_take] at this; omega
   rw [List.getElem?_take, if_pos hji] at hu
   have hne := A.ne j i hji hik u v hu hv
   exact ⟨(), by rw [if_neg (by simp; exact fun e => hne e.symm)], trivial⟩
  refine ⟨if v ≥ 16 then I64 (s + 1) else s, ?_, fun h6 => ?_⟩
  ·simp only [show ¬ v < 0 by omega, decide_false, Bool.false_eq_true, if_false, hin]
   by_cases h11 : v > 11
   ·have h16 : ¬ v < 16 := by omega
    have h16' : v ≥ 16 := by omega
    cases hcl : call
    ·simp [h11, h16, h16']
    ·simp [h11, h16, h16', hcv hcl]
   ·have h16' : ¬ v ≥ 16 := by omega
    cases hcl : call
    ·simp [h11, h16']
    ·simp [h11, h16', hcv hcl]
  ·have := A.few h6 v (List.mem_of_getElem? hv)
   rw [if_neg zO]
   exact hs h6
 ·by_cases h6 : (k : Int) > 6
  ·simp [h6]
  ·simp [h6, hs zO]
end Go.Proofs.YtepdcebjobjjgaaDoor

/- How arguments are read. -/
namespace Go.Proofs.YtepdcebjobjjgaaDoor
open Go Go.Ab Go.RowKit
set_option maxRecDepth 20000
theorem b3Q {H : Type} {d : DataW H} {l : List (DataW H)} (h : d ∈ l) : Rows.uptoBulk d ≤ Rows.uptoBulkAll l := by
 induction l with
 | nil => cases h
 | cons x r ih =>
   simp only [Rows.uptoBulkAll]
   rcases List.mem_cons.1 h with e | e
   ·subst e; omega
   ·have := ih e; omega
theorem c6z {H : Type} (d : DataW H) : 1 ≤ Rows.uptoBulk d := by
 cases d with
 | lit l => cases l <;> simp [Rows.uptoBulk]
 | _ => simp [Rows.uptoBulk]
theorem b3R {H : Type} (l : List (DataW H)) : l.length ≤ Rows.uptoBulkAll l := by
 induction l with
 | nil => simp [Rows.uptoBulkAll]
 | cons x r ih => have := c6z x; simp only [Rows.uptoBulkAll, List.length_cons]; omega
theorem d2r {H : Type} : c7h (H := H) Rows.uptoBulk :=
 ⟨fun bytes => by simp [Rows.uptoBulk], fun e s => by have := b3R e; simp only [Rows.uptoBulk]; omega, fun e s d h => by have := b3Q h; simp only [Rows.uptoBulk]; omega, fun p d h => by have := b3Q h; simp only [Rows.uptoBulk]; omega⟩

theorem a1V : Tryd.prog.cellsOf 3 = 1 := by kernel_rfl
theorem b7U : Tryd.prog.cellsOf 49 = 1 := by kernel_rfl
theorem b7V : Tryd.prog.cellsOf 39 = 1 := by kernel_rfl
theorem b7W : Tryd.prog.cellsOf 40 = 1 := by kernel_rfl
theorem b7X : Tryd.prog.cellsOf 41 = 1 := by kernel_rfl
theorem b0c : Tryd.prog.cellsOf 26 = 1 := by kernel_rfl
theorem b3S : Tryd.prog.cellsOf 43 = 12 := by kernel_rfl
def f7.Ok (N : Nat) (x : f7) : Prop := (fun n => (Lit.int .u8 n).wf = true) x.Op ∧ (fun n => (Lit.int .u8 n).wf = true) x.By ∧ (fun n => (Lit.int .i64 n).wf = true) x.D ∧ (fun n => (Lit.int .i64 n).wf = true) x.E ∧ (fun n => (Lit.int .i64 n).wf = true) x.A ∧ (fun n => (Lit.int .i64 n).wf = true) x.B ∧ (fun n => (Lit.int .i64 n).wf = true) x.F ∧ (fun n => (Lit.int .i64 n).wf = true) x.Cell ∧ (fun n => (Lit.int .u64 n).wf = true) x.Imm ∧ (fun l => List.length l ≤ N ∧ ∀ a ∈ l, (fun n => (Lit.int .i64 n).wf = true) a) x.Args ∧ (fun n => (Lit.int .i64 n).wf = true) x.Next ∧ (fun n => (Lit.int .i64 n).wf = true) x.Else
theorem f7.rd {N : Nat} : Rd Tryd.prog N f7.av (f7.Ok N) 43 := by
 intro avs ht
 obtain ⟨hl, hf⟩ := a6b Tryd.underlying43 ht
 have e0 : Ty Tryd.prog N 39 ((avs.drop 0).take (Tryd.prog.cellsOf 39)) := hf 0 _ rfl
 rw [b7V] at e0
 obtain ⟨a0, h0, q0⟩ := (rdI Tryd.underlying39) _ e0
 have e1 : Ty Tryd.prog N 40 ((avs.drop 1).take (Tryd.prog.cellsOf 40)) := hf 1 _ rfl
 rw [b7W] at e1
 obtain ⟨a1, h1, q1⟩ := (rdI Tryd.underlying40) _ e1
 have e2 : Ty Tryd.prog N 3 ((avs.drop 2).take (Tryd.prog.cellsOf 3)) := hf 2 _ rfl
 rw [a1V] at e2
 obtain ⟨a2, h2, q2⟩ := (rdI Tryd.underlying3) _ e2
 have e3 : Ty Tryd.prog N 3 ((avs.drop 3).take (Tryd.prog.cellsOf 3)) := hf 3 _ rfl
 rw [a1V] at e3
 obtain ⟨a3, h3, q3⟩ := (rdI Tryd.underlying3) _ e3
 have e4 : Ty Tryd.prog N 3 ((avs.drop 4).take (Tryd.prog.cellsOf 3)) := hf 4 _ rfl
 rw [a1V] at e4
 obtain ⟨a4, h4, q4⟩ := (rdI Tryd.underlying3) _ e4
 have e5 : Ty Tryd.prog N 3 ((avs.drop 5).take (Tryd.prog.cellsOf 3)) := hf 5 _ rfl
 rw [a1V] at e5
 obtain ⟨a5, h5, q5⟩ := (rdI Tryd.underlying3) _ e5
 have e6 : Ty Tryd.prog N 3 ((avs.drop 6).take (Tryd.prog.cellsOf 3)) := hf 6 _ rfl
 rw [a1V] at e6
 obtain ⟨a6, h6, q6⟩ := (rdI Tryd.underlying3) _ e6
 have e7 : Ty Tryd.prog N 3 ((avs.drop 7).take (Tryd.prog.cellsOf 3)) := hf 7 _ rfl
 rw [a1V] at e7
 obtain ⟨a7, h7, q7⟩ := (rdI Tryd.underlying3) _ e7
 have e8 : Ty Tryd.prog N 41 ((avs.drop 8).take (Tryd.prog.cellsOf 41)) := hf 8 _ rfl
 rw [b7X] at e8
 obtain ⟨a8, h8, q8⟩ := (rdI Tryd.underlying41) _ e8
 have e9 : Ty Tryd.prog N 26 ((avs.drop 9).take (Tryd.prog.cellsOf 26)) := hf 9 _ rfl
 rw [b0c] at e9
 obtain ⟨a9, h9, q9⟩ := (rdL (g6 .i64) (fun fs h => by rw [Tryd.underlying3] at h; cases h) Tryd.underlying26 a1V (rdI Tryd.underlying3)) _ e9
 have e10 : Ty Tryd.prog N 3 ((avs.drop 10).take (Tryd.prog.cellsOf 3)) := hf 10 _ rfl
 rw [a1V] at e10
 obtain ⟨a10, h10, q10⟩ := (rdI Tryd.underlying3) _ e10
 have e11 : Ty Tryd.prog N 3 ((avs.drop 11).take (Tryd.prog.cellsOf 3)) := hf 11 _ rfl
 rw [a1V] at e11
 obtain ⟨a11, h11, q11⟩ := (rdI Tryd.underlying3) _ e11
 refine ⟨⟨a0, a1, a2, a3, a4, a5, a6, a7, a8, a9, a10, a11⟩, ?_, ⟨q0, q1, q2, q3, q4, q5, q6, q7, q8, q9, q10, q11⟩⟩
 have := (a0d h0 (a0d h1 (a0d h2 (a0d h3 (a0d h4 (a0d h5 (a0d h6 (a0d h7 (a0d h8 (a0d h9 (a0d h10 (a0d h11 (b2L (hl.trans b3S))))))))))))))
 exact this
theorem b7Y : Tryd.prog.cellsOf 32 = 1 := by kernel_rfl
theorem c6A : Tryd.prog.cellsOf 4 = 1 := by kernel_rfl
theorem b7Z : Tryd.prog.cellsOf 33 = 1 := by kernel_rfl
theorem b3T : Tryd.prog.cellsOf 35 = 8 := by kernel_rfl
def b5.Ok (N : Nat) (x : b5) : Prop := (fun l => List.length l ≤ N ∧ ∀ a ∈ l, (fun n => (Lit.int .i64 n).wf = true) a) x.Params ∧ (fun l => List.length l ≤ N ∧ ∀ a ∈ l, (fun n => (Lit.int .u8 n).wf = true) a) x.Kinds ∧ (fun n => (Lit.int .i64 n).wf = true) x.Cells ∧ (fun l => List.length l ≤ N ∧ ∀ a ∈ l, (fun n => (Lit.int .i64 n).wf = true) a) x.Init ∧ (fun _ => True) x.Result ∧ (fun n => (Lit.int .i64 n).wf = true) x.Keep ∧ (fun l => List.length l ≤ N ∧ ∀ a ∈ l, (f7.Ok N) a) x.Nodes ∧ (fun n => (Lit.int .i64 n).wf = true) x.Entry
theorem b5.rd {N : Nat} : Rd Tryd.prog N b5.av (b5.Ok N) 35 := by
 intro avs ht
 obtain ⟨hl, hf⟩ := a6b Tryd.underlying35 ht
 have e0 : Ty Tryd.prog N 26 ((avs.drop 0).take (Tryd.prog.cellsOf 26)) := hf 0 _ rfl
 rw [b0c] at e0
 obtain ⟨a0, h0, q0⟩ := (rdL (g6 .i64) (fun fs h => by rw [Tryd.underlying3] at h; cases h) Tryd.underlying26 a1V (rdI Tryd.underlying3)) _ e0
 have e1 : Ty Tryd.prog N 32 ((avs.drop 1).take (Tryd.prog.cellsOf 32)) := hf 1 _ rfl
 rw [b7Y] at e1
 obtain ⟨a1, h1, q1⟩ := (rdL (g6 .u8) (fun fs h => by rw [Tryd.underlying49] at h; cases h) Tryd.underlying32 b7U (rdI Tryd.underlying49)) _ e1
 have e2 : Ty Tryd.prog N 3 ((avs.drop 2).take (Tryd.prog.cellsOf 3)) := hf 2 _ rfl
 rw [a1V] at e2
 obtain ⟨a2, h2, q2⟩ := (rdI Tryd.underlying3) _ e2
 have e3 : Ty Tryd.prog N 26 ((avs.drop 3).take (Tryd.prog.cellsOf 26)) := hf 3 _ rfl
 rw [b0c] at e3
 obtain ⟨a3, h3, q3⟩ := (rdL (g6 .i64) (fun fs h => by rw [Tryd.underlying3] at h; cases h) Tryd.underlying26 a1V (rdI Tryd.underlying3)) _ e3
 have e4 : Ty Tryd.prog N 4 ((avs.drop 4).take (Tryd.prog.cellsOf 4)) := hf 4 _ rfl
 rw [c6A] at e4
 obtain ⟨a4, h4, q4⟩ := (rdB Tryd.underlying4) _ e4
 have e5 : Ty Tryd.prog N 3 ((avs.drop 5).take (Tryd.prog.cellsOf 3)) := hf 5 _ rfl
 rw [a1V] at e5
 obtain ⟨a5, h5, q5⟩ := (rdI Tryd.underlying3) _ e5
 have e6 : Ty Tryd.prog N 33 ((avs.drop 6).take (Tryd.prog.cellsOf 33)) := hf 6 _ rfl
 rw [b7Z] at e6
 obtain ⟨a6, h6, q6⟩ := (rdL f7.enc ⟨_, Tryd.underlying43⟩ Tryd.underlying33 b3S f7.rd) _ e6
 have e7 : Ty Tryd.prog N 3 ((avs.drop 7).take (Tryd.prog.cellsOf 3)) := hf 7 _ rfl
 rw [a1V] at e7
 obtain ⟨a7, h7, q7⟩ := (rdI Tryd.underlying3) _ e7
 refine ⟨⟨a0, a1, a2, a3, a4, a5, a6, a7⟩, ?_, ⟨q0, q1, q2, q3, q4, q5, q6, q7⟩⟩
 have := (a0d h0 (a0d h1 (a0d h2 (a0d h3 (a0d h4 (a0d h5 (a0d h6 (a0d h7 (b2L (hl.trans b3T))))))))))
 exact this
theorem b8a : Tryd.prog.cellsOf 22 = 1 := by kernel_rfl
theorem b8b : Tryd.prog.cellsOf 24 = 1 := by kernel_rfl
def f6.Ok (N : Nat) (x : f6) : Prop := (fun l => List.length l ≤ N ∧ ∀ a ∈ l, (b5.Ok N) a) x.Funcs
theorem f6.rd {N : Nat} : Rd Tryd.prog N f6.av (f6.Ok N) 24 := by
 intro avs ht
 obtain ⟨hl, hf⟩ := a6b Tryd.underlying24 ht
 have e0 : Ty Tryd.prog N 22 ((avs.drop 0).take (Tryd.prog.cellsOf 22)) := hf 0 _ rfl
 rw [b8a] at e0
 obtain ⟨a0, h0, q0⟩ := (rdL b5.enc ⟨_, Tryd.underlying35⟩ Tryd.underlying22 b3T b5.rd) _ e0
 refine ⟨⟨a0⟩, ?_, q0⟩
 have := (a0d h0 (b2L (hl.trans b8b)))
 exact this

theorem own : ownKnob Tryd.prog.godebug = none := by kernel_rfl
theorem b3U : laidOutB Tryd.prog = true := by kernel_rfl
end Go.Proofs.YtepdcebjobjjgaaDoor

/- ScanMany b4c its readings. -/
namespace Go.Proofs.YtepdcebjobjjgaaDoor
open Go Go.Ab
theorem b3V (n : Int) (call : Bool) (hn : (Lit.int .i64 n).wf = true) (hc : True) : s7 n call = some true := b5A n call
end Go.Proofs.YtepdcebjobjjgaaDoor

/- From the row's list to the settings: the table for the trailing zeros. -/
namespace Go.Proofs.YtepdcebjobjjgaaDoor
open Go Go.Ab Go.RowKit
set_option maxRecDepth 20000
theorem b8c : (Rows.laid_math_bits_deBruijn64tab : DataW Unit) = Lib.tabData .u8 tzT := by kernel_rfl
theorem b8d {P : Program} {W : World} {nm : String} {k : IntKind} {zs : List Int} {b : Nat} (hg : P.globalNamed nm = some b) (h : Lib.TabIs P W nm k zs) : ∃ t fz, W.heap[b]? = some (.cells (zs.map fun z => Value.int k z).toArray t fz) := by
 unfold Lib.TabIs World.var? at h
 rw [hg, Option.bind_some] at h
 cases e2 : W.heap[b]? with
 | none => rw [e2] at h; cases h
 | some o =>
   rw [e2] at h
   cases o with
   | cells c t fz => cases h; exact ⟨t, fz, rfl⟩
   | _ => cases h
theorem c6B {nm : String} (h0 : Tryd.prog.globalNamed nm = some 0) {W : World} (h : laidMet Tryd.prog [(nm, Rows.laid_math_bits_deBruijn64tab)] W) : b0V W.heap.size W := by
 have h' := h
 rw [b8c] at h'
 have hp := Lib.tabIs_of_head (rest := []) h0 (t := 147) (e := 5) (n := 64) zK Tryd.underlying147 Tryd.underlying5 zK zK h'
 obtain ⟨t, fz, q⟩ := b8d h0 hp
 intro b p e
 match b, e with
 | 0, e => cases Option.some.inj e; exact ⟨(Array.getElem?_eq_some_iff.1 q).1, _, t, fz, q, rfl⟩
 | n + 1, e => cases e
end Go.Proofs.YtepdcebjobjjgaaDoor

