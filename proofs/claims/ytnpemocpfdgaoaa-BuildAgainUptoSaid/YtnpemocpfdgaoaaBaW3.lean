/- Plain laws of kinds: what kinds.function answers. -/
import Derived.Test.YtnpemocpfdgaoaaKdL3
import Derived.Test.YtnpemocpfdgaoaaBdW5
set_option linter.unusedVariables false
set_option linter.unusedSimpArgs false
namespace Go.Proofs.Ytnpemocpfdgaoaa
open Go Go.Ab Go.RowKit
set_option maxRecDepth 20000

theorem c1w {β : Type} (y : List Int) (hy : y.length <= 1000000000) (K : Int -> Option β) :
  jp K (fun k => if decide ((List.length y : Int) > 0) = true then (j9 y (I64 ((List.length y : Int) - 1))).bind fun v => k v else k 0) = K (a4f y) := by
 unfold jp a4f
 cases y with
 | nil => rfl
 | cons a r =>
   have h : ((List.length (a :: r) : Int) > 0) := by simp only [List.length_cons]; omega
   dsimp only
   rw [decide_eq_true h, if_pos rfl, a3l zO, show ((List.length (a :: r) : Int) - 1) = ((r.length : Nat) : Int) by simp only [List.length_cons]; omega, a0f]
   rw [List.getLast?_eq_getElem?]
   simp only [List.length_cons, Nat.add_sub_cancel]
   rw [List.getElem?_eq_getElem zS]
   rfl
def okS (op : Int) (y t : List Int) : Bool := decide (t.length <= y.length /\ y.drop (y.length - t.length) = t /\ ¬ (op = 24 /\ t.length < y.length))
theorem c1x {β : Type} (y t : List Int) (op : Int) (hy : y.length <= 1000000) (ht : t.length <= 1000000) (K : Bool -> Option β) :
  jp K (fun k => if decide (I64 ((List.length y : Int) - (List.length t : Int)) < 0) = true then k true else ((a4n y (I64 ((List.length y : Int) - (List.length t : Int))) (List.length y : Int)).bind fun l => (u4 l t).bind fun q =>
   if (!q) = true then k true else if (op == 24) = true then k (decide (I64 ((List.length y : Int) - (List.length t : Int)) > 0)) else k false)) = K (!okS op y t) := by
 unfold jp okS
 rw [a3l zO]
 by_cases h : t.length <= y.length
 ·have h1 : ¬ ((List.length y : Int) - (List.length t : Int) < 0) := by omega
  rw [decide_eq_false h1]
  simp only [Bool.false_eq_true, if_false]
  unfold a4n
  rw [if_pos zO]
  simp only [Option.bind_some]
  rw [show (((List.length y : Int) - (List.length t : Int))).toNat = y.length - t.length by omega, show ((List.length y : Int)).toNat = y.length by omega, List.take_length, a8F _ _ zE]
  simp only [Option.bind_some]
  by_cases h2 : y.drop (y.length - t.length) = t
  ·rw [decide_eq_true h2]
   simp only [Bool.not_true, Bool.false_eq_true, if_false]
   by_cases h3 : op = 24
   ·have e3 : (op == 24) = true := by simp [h3]
    rw [if_pos e3]
    by_cases h4 : t.length < y.length
    ·have : (List.length y : Int) - (List.length t : Int) > 0 := by omega
     rw [decide_eq_true this, decide_eq_false (fun hh => hh.2.2 ⟨h3, h4⟩)]; rfl
    ·have : ¬ ((List.length y : Int) - (List.length t : Int) > 0) := by omega
     rw [decide_eq_false this, decide_eq_true ⟨h, h2, fun hh => h4 hh.2⟩]; rfl
   ·have e3 : ¬ ((op == 24) = true) := by simp [h3]
    rw [if_neg e3, decide_eq_true ⟨h, h2, fun hh => h3 hh.1⟩]; rfl
  ·have e9 : decide (t.length <= y.length /\ y.drop (y.length - t.length) = t /\ ¬ (op = 24 /\ t.length < y.length)) = false := decide_eq_false (fun hh => h2 hh.2.1)
   rw [decide_eq_false h2, e9]; rfl
 ·have h1 : ((List.length y : Int) - (List.length t : Int) < 0) := by omega
  have e9 : decide (t.length <= y.length /\ y.drop (y.length - t.length) = t /\ ¬ (op = 24 /\ t.length < y.length)) = false := decide_eq_false (fun hh => h hh.1)
  dsimp only
  rw [decide_eq_true h1, e9]; rfl
theorem b5r {β : Type} (d : Bool) (n : Int) (K : Bool -> Option β) : jp K (fun k => if d = true then k true else k (decide (n > 16))) = K (d || decide (n > 16)) := by
 unfold jp; cases d <;> rfl
theorem a8G (p : Program) (f : Func) (i : Instr) (s : List Int) : a3Q p f i s = if okS i.Op s (eff p f i (a4f s)).1 = true then some (s.take (s.length - (eff p f i (a4f s)).1.length) ++ (eff p f i (a4f s)).2) else none := by
 unfold a3Q okS
 simp only [decide_eq_true_eq]
theorem b2I (l : List Int) (h : l.length <= 1000000000) : y0 l = some l := by unfold y0; rw [appL1 (by simp <;> omega)]; simp
theorem b1h (l : List Int) (h : l.length <= 1000000000) : t9 l = some l := by unfold t9; rw [appL1 (by simp <;> omega)]; simp

theorem a7o {r : List Bool} {m : Nat} (h : r[m]? = some false) : (r.set m true).count false + 1 = r.count false := by
 induction r generalizing m with
 | nil => simp at h
 | cons x r ih =>
   cases m with
   | zero => simp at h; subst h; simp
   | succ m =>
     have := ih (m := m) (by simpa using h)
     simp only [List.set_cons_succ, List.count_cons]
     omega

structure c6D (p : Program) (f : Func) (r0 : List Bool) (st0 : List (List Int)) (td0 : List Int) (x' : List Int) (fol : List Int) (k : Nat) (q : List Bool × List (List Int) × List Int) : Prop where
 lr : q.1.length = f.Code.length
 ls : q.2.1.length = f.Code.length
 mono : ∀ m : Nat, r0[m]? = some true -> q.1[m]? = some true /\ q.2.1[m]? = st0[m]?
 new : ∀ m : Nat, q.1[m]? = some true -> r0[m]? = some true \/ (q.2.1[m]? = some x' /\ (m : Int) ∈ q.2.2 /\ Der p f m x')
 un : ∀ m : Nat, q.1[m]? = some false -> r0[m]? = some false /\ q.2.1[m]? = some []
 td : ∀ t ∈ q.2.2, ∃ a : Nat, t = a /\ q.1[a]? = some true
 sub : ∀ t ∈ td0, t ∈ q.2.2
 me : 2 * q.1.count false + q.2.2.length <= 2 * r0.count false + td0.length
 got : ∀ (j : Nat) b, j < k -> fol[j]? = some b -> ∃ m : Nat, b = m /\ m < f.Code.length /\ q.1[m]? = some true /\ q.2.1[m]? = some x'

theorem c3I {ρ : Type} (E : ρ) (p : Program) (f : Func) {r0 : List Bool} {st0 : List (List Int)} {td0 : List Int} {x x' : List Int} {a : Nat} {i : Instr} {fol : List Int}
  (hn : f.Code.length <= 256) (hd : Der p f a x) (hi : f.Code[a]? = some i) (hs : a3Q p f i x = some x') (hx : x'.length <= 100000) (hfol : fol = a8E i a) (hf0 : ∀ b ∈ fol, 0 <= b) (hlr : r0.length = f.Code.length) (hls : st0.length = f.Code.length)
  (hsl : ∀ (m : Nat) (y : List Int), st0[m]? = some y -> y.length <= 100000)
  (hder : ∀ m : Nat, r0[m]? = some true -> ∃ y, st0[m]? = some y /\ Der p f m y) (hun : ∀ m : Nat, r0[m]? = some false -> st0[m]? = some []) (htd : ∀ t ∈ td0, ∃ a : Nat, t = a /\ r0[a]? = some true) (htl : td0.length <= 10000) :
  ∃ o, rng (fun (i_25 : Nat) (vto_26 : Int) (s_24 : ((List Bool) × (List (List Int)) × (List Int))) => ((if (decide (vto_26 >= (List.length f.Code : Int))) then (some (.ret E)) else ((j9 s_24.1 vto_26).bind fun y_28 => (if (!y_28) then ((j9 s_24.1 vto_26).bind fun y_29 => ((j9 s_24.2.1 vto_26).bind fun y_31 => ((a2R 8 s_24.2.2 [vto_26]).bind fun l_33 => (some (.nxt ((List.set s_24.1 (Int.toNat vto_26) true), (List.set s_24.2.1 (Int.toNat vto_26) x'), l_33)))))) else ((j9 s_24.2.1 vto_26).bind fun y_34 => ((u4 y_34 x').bind fun equ_35 => (if (!equ_35) then (some (.ret E)) else (some (.nxt (s_24.1, s_24.2.1, s_24.2.2))))))))) : Option (Stp ((List Bool) × (List (List Int)) × (List Int)) ρ))) fol (r0, st0, td0) = some o /\
   ((∃ q, o = .fin q /\ c6D p f r0 st0 td0 x' fol fol.length q) \/ (o = .ret E /\ Bad p f)) := by
 have hfl : fol.length <= 2 := by rw [hfol]; exact b5p i a
 refine rng_ex (c6D p f r0 st0 td0 x' fol) _ zO ?h0 ?h ?hQ
 case h0 => exact ⟨hlr, hls, fun m h => ⟨h, rfl⟩, fun m h => .inl h, fun m h => ⟨h, hun m h⟩, htd, fun t h => h, Nat.le_refl _, fun j b hj => by omega⟩
 case hQ => exact fun q hq => .inl ⟨q, rfl, hq⟩
 intro j to q hto hq
 have hb : to ∈ a8E i a := hfol ▸ List.mem_of_getElem? hto
 have hto0 : 0 <= to := hf0 to (List.mem_of_getElem? hto)
 obtain ⟨m, rfl⟩ : ∃ m : Nat, to = m := ⟨to.toNat, by omega⟩
 by_cases hge : (m : Int) >= f.Code.length
 ·right
  exact ⟨E, by rw [if_pos (by simpa using hge)], .inr ⟨rfl, .inl ⟨a, x, i, hd, hi, .inr ⟨m, hb, by omega⟩⟩⟩⟩
 have hlt : m < f.Code.length := by omega
 have hdm : Der p f m x' := .go hd hi hs hb
 rw [if_neg (by simpa using hge), a0f]
 have hrm : q.1[m]? = some (q.1[m]'(by rw [hq.lr]; exact hlt)) := List.getElem?_eq_getElem _
 have hsm : q.2.1[m]? = some (q.2.1[m]'(by rw [hq.ls]; exact hlt)) := List.getElem?_eq_getElem _
 generalize q.1[m]'(by rw [hq.lr]; exact hlt) = rb at hrm
 generalize q.2.1[m]'(by rw [hq.ls]; exact hlt) = sb at hsm
 rw [hrm]
 simp only [Option.bind_some]
 cases rb with
 | false =>
   simp only [Bool.not_false, if_true]
   rw [a0f, hsm]
   simp only [Option.bind_some]
   have hql : q.2.2.length <= 11000 := by
    have := hq.me
    have h2 : r0.count false <= r0.length := List.count_le_length
    omega
   rw [appL_of zE]
   left
   refine ⟨_, rfl, ?_⟩
   have hmf := hq.un m hrm
   have hc := a7o hrm
   refine ⟨by simpa using hq.lr, by simpa using hq.ls, fun k hk => ?_, fun k hk => ?_, fun k hk => ?_, fun t ht => ?_, fun t ht => by simp [hq.sub t ht], ?_, fun k b hk hb2 => ?_⟩
   ·have hne : k ≠ m := by rintro rfl; rw [hmf.1] at hk; cases hk
    have := hq.mono k hk
    simp only [Int.toNat_natCast, List.getElem?_set_ne (Ne.symm hne)]
    exact this
   ·by_cases e : k = m
    ·subst e
     right
     refine ⟨?_, by simp, hdm⟩
     simp only [Int.toNat_natCast]
     rw [List.getElem?_set_self (by rw [hq.ls]; exact hlt)]
    ·simp only [Int.toNat_natCast, List.getElem?_set_ne (Ne.symm e)] at hk ⊢
     rcases hq.new k hk with h | ⟨h1, h2, h3⟩
     ·exact .inl h
     ·exact .inr ⟨h1, by simp [h2], h3⟩
   ·by_cases e : k = m
    ·subst e
     simp only [Int.toNat_natCast] at hk
     rw [List.getElem?_set_self (by rw [hq.lr]; exact hlt)] at hk
     cases hk
    ·simp only [Int.toNat_natCast, List.getElem?_set_ne (Ne.symm e)] at hk ⊢
     exact hq.un k hk
   ·simp only [List.mem_append, List.mem_singleton] at ht
    simp only [Int.toNat_natCast]
    rcases ht with ht | rfl
    ·obtain ⟨c, rfl, h1⟩ := hq.td t ht
     refine ⟨c, rfl, ?_⟩
     by_cases e : c = m
     ·subst e; rw [List.getElem?_set_self (by rw [hq.lr]; exact hlt)]
     ·rw [List.getElem?_set_ne (Ne.symm e)]; exact h1
    ·exact ⟨m, rfl, by rw [List.getElem?_set_self (by rw [hq.lr]; exact hlt)]⟩
   ·have := hq.me
    simp only [Int.toNat_natCast, List.length_append, List.length_singleton]
    omega
   ·simp only [Int.toNat_natCast]
    by_cases e : k = j
    ·subst e
     rw [hto] at hb2; cases hb2
     exact ⟨m, rfl, hlt, by rw [List.getElem?_set_self (by rw [hq.lr]; exact hlt)], by rw [List.getElem?_set_self (by rw [hq.ls]; exact hlt)]⟩
    ·obtain ⟨c, rfl, h1, h2, h3⟩ := hq.got k b zO hb2
     have hne : c ≠ m := by rintro rfl; rw [hrm] at h2; cases h2
     exact ⟨c, rfl, h1, by rw [List.getElem?_set_ne (Ne.symm hne)]; exact h2, by rw [List.getElem?_set_ne (Ne.symm hne)]; exact h3⟩
 | true =>
   simp only [Bool.not_true, Bool.false_eq_true, if_false]
   rw [a0f, hsm]
   simp only [Option.bind_some]
   have hsb : sb.length <= 100000 /\ Der p f m sb := by
    rcases hq.new m hrm with h | ⟨h1, _, h3⟩
    ·have := (hq.mono m h).2
     rw [hsm] at this
     obtain ⟨y, e1, e2⟩ := hder m h
     rw [e1] at this
     cases this
     exact ⟨hsl m sb e1, e2⟩
    ·rw [hsm] at h1; cases h1; exact ⟨hx, h3⟩
   rw [a8F sb x' zO]
   simp only [Option.bind_some]
   by_cases e : sb = x'
   ·left
    rw [decide_eq_true e]
    refine ⟨_, rfl, ?_⟩
    refine ⟨hq.lr, hq.ls, hq.mono, hq.new, hq.un, hq.td, hq.sub, hq.me, fun k b hk hb2 => ?_⟩
    by_cases ek : k = j
    ·subst ek
     rw [hto] at hb2; cases hb2
     exact ⟨m, rfl, hlt, hrm, by rw [<- e]; exact hsm⟩
    ·exact hq.got k b zO hb2
   ·right
    rw [decide_eq_false e]
    exact ⟨E, rfl, .inr ⟨rfl, .inr ⟨m, sb, x', hsb.2, hdm, e⟩⟩⟩
structure FOk (p : Program) (f : Func) : Prop where
 ps : ∀ g ∈ p.Funcs, a1k g = true
 fp : a1k f = true
 bd : a5d f = true
 hd : a3O p f = true
theorem FOk.n {p f} (h : FOk p f) : 1 <= f.Code.length /\ f.Code.length <= 256 := by
 have h1 := h.bd
 have h2 := h.hd
 unfold a5d at h1
 unfold a3O a9n at h2
 simp only [Bool.and_eq_true, decide_eq_true_eq] at h1 h2
 omega
theorem FOk.name {p f} (h : FOk p f) {a : Nat} {i : Instr} (hi : f.Code[a]? = some i) : a3s p f i = true := by
 have h2 := h.hd
 unfold a3O a9m at h2
 simp only [Bool.and_eq_true, List.all_eq_true] at h2
 exact (h2.2 i (List.mem_of_getElem? hi)).1
theorem FOk.arg {p f} (h : FOk p f) {a : Nat} {i : Instr} (hi : f.Code[a]? = some i) : 0 <= i.Arg /\ i.Arg <= 65535 := by
 have := a5e (a3P h.fp i (List.mem_of_getElem? hi))
 exact ⟨this.1, this.2.1⟩
theorem FOk.fol {p f} (h : FOk p f) {a : Nat} {i : Instr} (hi : f.Code[a]? = some i) : ∀ b ∈ a8E i a, 0 <= b := by
 have := (h.arg hi).1
 intro b hb
 unfold a8E at hb
 split at hb
 ·simp at hb; omega
 ·split at hb
  ·simp at hb; omega
  ·split at hb
   ·simp at hb
   ·simp at hb; omega
theorem b2J {p f} (h : FOk p f) (i : Instr) (t : Int) : (eff p f i t).1.length <= 255 := by
 have aux : ∀ (g : Func) (x : List Int), g ∈ p.Funcs -> (g.Locals.take g.Params.toNat, x).1.length <= 255 := fun g x hg => by
  have := a2H (h.ps g hg)
  simp; omega
 unfold eff b1G
 by_cases h0 : i.Op = 1 \/ i.Op = 28
 ·rw [if_pos h0]; exact Nat.le_of_ble_eq_true rfl
 rw [if_neg h0]
 by_cases h1 : i.Op = 2
 ·rw [if_pos h1]; exact Nat.le_of_ble_eq_true rfl
 rw [if_neg h1]
 by_cases h2 : i.Op = 3
 ·rw [if_pos h2]; exact Nat.le_of_ble_eq_true rfl
 rw [if_neg h2]
 by_cases h3 : i.Op = 4
 ·rw [if_pos h3]; exact Nat.le_of_ble_eq_true rfl
 rw [if_neg h3]
 by_cases h4 : i.Op = 5
 ·rw [if_pos h4]; exact Nat.le_of_ble_eq_true rfl
 rw [if_neg h4]
 by_cases h5 : i.Op = 6
 ·rw [if_pos h5]; exact Nat.le_of_ble_eq_true rfl
 rw [if_neg h5]
 by_cases h6 : i.Op = 21
 ·rw [if_pos h6]; exact Nat.le_of_ble_eq_true rfl
 rw [if_neg h6]
 by_cases h7 : i.Op = 22 \/ i.Op = 26 \/ i.Op = 29 \/ i.Op = 30
 ·rw [if_pos h7]; exact Nat.le_of_ble_eq_true rfl
 rw [if_neg h7]
 by_cases h8 : i.Op = 23 \/ i.Op = 25
 ·rw [if_pos h8]
  cases e : p.Funcs[i.Arg.toNat]? with
  | none => exact Nat.le_of_ble_eq_true rfl
  | some g => exact aux g _ (List.mem_of_getElem? e)
 rw [if_neg h8]
 by_cases h9 : i.Op = 24
 ·rw [if_pos h9]
  cases f.Result <;> exact Nat.le_of_ble_eq_true rfl
 rw [if_neg h9]
 by_cases h10 : i.Op = 27
 ·rw [if_pos h10]; exact Nat.le_of_ble_eq_true rfl
 rw [if_neg h10]
 by_cases h11 : i.Op = 31
 ·rw [if_pos h11]; exact Nat.le_of_ble_eq_true rfl
 rw [if_neg h11]
 by_cases h12 : i.Op = 32
 ·rw [if_pos h12]; exact Nat.le_of_ble_eq_true rfl
 rw [if_neg h12]
 exact Nat.le_of_ble_eq_true rfl

def muK (s : Bool × List Bool × List (List Int) × List Int) : Nat := 2 * s.2.1.count false + s.2.2.2.length
structure c3J (p : Program) (f : Func) (s : Bool × List Bool × List (List Int) × List Int) : Prop where
 lr : s.2.1.length = f.Code.length
 ls : s.2.2.1.length = f.Code.length
 td : ∀ t ∈ s.2.2.2, ∃ a : Nat, t = a /\ s.2.1[a]? = some true
 z : s.2.1[0]? = some true /\ s.2.2.1[0]? = some []
 der : ∀ a : Nat, s.2.1[a]? = some true -> ∃ x, s.2.2.1[a]? = some x /\ Der p f a x
 un : ∀ a : Nat, s.2.1[a]? = some false -> s.2.2.1[a]? = some []
 done : ∀ a : Nat, s.2.1[a]? = some true -> (a : Int) ∉ s.2.2.2 -> ∃ i x x', f.Code[a]? = some i /\ s.2.2.1[a]? = some x /\ a3Q p f i x = some x' /\ (16 < x'.length -> s.1 = true) /\
  ∀ b ∈ a8E i a, ∃ m : Nat, b = m /\ m < f.Code.length /\ s.2.1[m]? = some true /\ s.2.2.1[m]? = some x'
 dp : s.1 = true -> Deep p f
 len : ∀ (a : Nat) x, s.2.2.1[a]? = some x -> x.length + 4 * muK s <= 8 * f.Code.length + 8

def c6E (p : Program) (f : Func) (o : List Bool × List (List Int) × Bool × Int) : Prop :=
 (Bad p f /\ o = ([], [], false, 50)) \/ ∃ R, Sol p f R /\ o.2.2.2 = 0 /\ o.1.length = f.Code.length /\ o.2.1.length = f.Code.length /\ (o.2.2.1 = true ↔ Deep p f) /\
  ∀ a, a < f.Code.length -> o.1[a]? = some (R a).isSome /\ o.2.1[a]? = some ((R a).getD [])

theorem c3J.ans {p f s} (h : c3J p f s) (ht : s.2.2.2 = []) : c6E p f (s.2.1, s.2.2.1, s.1, 0) := by
 right
 have hget : ∀ a : Nat, a < f.Code.length -> ∃ b x, s.2.1[a]? = some b /\ s.2.2.1[a]? = some x := fun a ha =>
  ⟨_, _, List.getElem?_eq_getElem (by rw [h.lr]; exact ha), List.getElem?_eq_getElem (by rw [h.ls]; exact ha)⟩
 let R : Nat -> Option (List Int) := fun a => if s.2.1[a]? = some true then s.2.2.1[a]? else none
 have hR : Sol p f R := by
  refine ⟨by simp only [R]; rw [if_pos h.z.1]; exact h.z.2, fun a x hx => ?_⟩
  simp only [R] at hx
  split at hx
  ·rename_i hr
   obtain ⟨y, e1, e2⟩ := h.der a hr
   rw [hx] at e1; cases e1
   refine ⟨e2, ?_⟩
   obtain ⟨i, y, x', d1, d2, d3, _, d4⟩ := h.done a hr (by rw [ht]; simp)
   rw [hx] at d2; cases d2
   refine ⟨i, x', d1, d3, fun b hb => ?_⟩
   obtain ⟨m, m1, m2, m3, m4⟩ := d4 b hb
   exact ⟨m, m1, m2, by simp only [R]; rw [if_pos m3]; exact m4⟩
  ·cases hx
 refine ⟨R, hR, rfl, h.lr, h.ls, ⟨h.dp, fun ⟨a, x, i, x', d, hi, hs, hl⟩ => ?_⟩, fun a ha => ?_⟩
 ·have e := hR.all d
  simp only [R] at e
  split at e
  ·rename_i hr
   obtain ⟨i2, y, x2, d1, d2, d3, d5, d4⟩ := h.done a hr (by rw [ht]; simp)
   rw [e] at d2; cases d2
   rw [hi] at d1; cases d1
   rw [hs] at d3; cases d3
   exact d5 hl
  ·cases e
 ·obtain ⟨b, x, e1, e2⟩ := hget a ha
  simp only [R, e1, e2]
  cases b with
  | true => simp
  | false =>
    have := h.un a e1
    rw [e2] at this; cases this
    simp

theorem b2K {l : List Int} {m : Nat} (h : l.length = m + 1) : ∃ x, l[m]? = some x /\ l = l.take m ++ [x] := by
 have hlt : m < l.length := by omega
 refine ⟨l[m], List.getElem?_eq_getElem hlt, ?_⟩
 have := List.take_succ_eq_append_getElem hlt
 rw [<- h, List.take_length] at this
 exact this

theorem a7Y (p : Program) (f : Func) (h : FOk p f) : ∃ o, y2 1048577 p f = some o /\ c6E p f o := by
 obtain ⟨hn1, hn2⟩ := h.n
 unfold y2
 have mk1 : mkL 1 (List.length f.Code : Int) (List.length f.Code : Int) false = some (List.replicate f.Code.length false) := by
  unfold mkL; rw [if_pos zO]; simp
 have mk2 : mkL 24 (List.length f.Code : Int) (List.length f.Code : Int) ([] : List Int) = some (List.replicate f.Code.length []) := by
  unfold mkL; rw [if_pos zO]; simp
 rw [mk1, mk2]
 simp only [Option.bind_some]
 rw [a1U zO zE]
 simp only [Option.bind_some]
 refine b1g (whileN_ex (c3J p f) muK _ ?h 1048577 _ ?h0 ?hm)
 case h0 =>
  have hc : (List.set (List.replicate f.Code.length false) 0 true).count false + 1 = f.Code.length := by
   have := a7o (r := List.replicate f.Code.length false) (m := 0) (by rw [List.getElem?_replicate, if_pos zO])
   simpa using this
  have g : ∀ a : Nat, (List.set (List.replicate f.Code.length false) 0 true)[a]? = some true -> a = 0 := fun a ha => by
   by_cases e : a = 0
   ·exact e
   ·rw [List.getElem?_set_ne (Ne.symm e)] at ha
    rw [List.getElem?_replicate] at ha
    split at ha <;> cases ha
  refine ⟨by simp, by simp, fun t ht => ?_, ⟨?_, ?_⟩, fun a ha => ?_, fun a ha => ?_, fun a ha hn => ?_, (fun e => (Bool.false_ne_true e).elim), fun a x hx => ?_⟩
  ·simp only [List.mem_singleton] at ht
   refine ⟨0, by simpa using ht, ?_⟩
   rw [show Int.toNat 0 = 0 from rfl, List.getElem?_set_self zE]
  ·rw [show Int.toNat 0 = 0 from rfl, List.getElem?_set_self zE]
  ·simp only [List.getElem?_replicate]; rw [if_pos zO]
  ·have := g a ha
   subst this
   exact ⟨[], by simp only [List.getElem?_replicate]; rw [if_pos zO], .start⟩
  ·simp only [List.getElem?_replicate]
   have : a < f.Code.length := by
    have := (List.getElem?_eq_some_iff.1 ha).1
    simpa using this
   rw [if_pos this]
  ·have := g a ha
   subst this
   simp at hn
  ·simp only [List.getElem?_replicate] at hx
   split at hx
   ·cases hx
    simp only [muK, List.length_nil, List.length_singleton]
    rw [show Int.toNat 0 = 0 from rfl]
    omega
   ·cases hx
 case hm =>
  have : (List.set (List.replicate f.Code.length false) 0 true).count false <= f.Code.length := by
   have := List.count_le_length (a := false) (l := List.set (List.replicate f.Code.length false) 0 true)
   simpa using this
  simp only [muK]
  rw [show Int.toNat 0 = 0 from rfl]
  simp only [List.length_singleton]
  omega
 intro s hs
 obtain ⟨dp, rd, st, td⟩ := s
 by_cases htd : td = []
 ·-- the end
  right; left
  subst htd
  refine ⟨(dp, rd, st, []), by simp, ?_⟩
  simp only [oc]
  have L := rni_inv (σ := List (List Int)) (ρ := Option (List Bool × List (List Int) × Bool × Int)) (n := (List.length st : Int)) (s0 := st) (fun i s => s = st)
   (body := fun (i_37 : Nat) (s_36 : (List (List Int))) => (((j9 s_36 (i_37 : Int)).bind fun y_38 => ((t9 y_38).bind fun clo_39 => ((j9 s_36 (i_37 : Int)).bind fun y_40 => (some (.nxt (List.set s_36 (Int.toNat (i_37 : Int)) clo_39)))))))) (by have := hs.ls; simp only at this; omega) rfl (fun i s hi e => by
    subst e
    have hlt : i < s.length := by omega
    rw [a0f, List.getElem?_eq_getElem hlt]
    simp only [Option.bind_some]
    rw [b1h _ (by have := hs.len i _ (List.getElem?_eq_getElem hlt); omega)]
    exact ⟨_, rfl, by simp⟩)
  obtain ⟨s', e1, rfl⟩ := L
  rw [e1]
  exact ⟨_, rfl, hs.ans rfl⟩
 obtain ⟨k, hk⟩ : ∃ k, td.length = k + 1 := ⟨td.length - 1, by have := List.length_pos_iff.2 htd; omega⟩
 obtain ⟨t, ht1, ht2⟩ := b2K hk
 have htl : td.length <= 2100 := by
  have h1 := hs.len 0 [] hs.z.2
  simp only [muK] at h1
  omega
 obtain ⟨a, rfl, hra⟩ := hs.td t (by simp only; rw [ht2]; simp)
 simp only at hra
 obtain ⟨x, hxa, hda⟩ := hs.der a hra
 simp only at hxa
 have halt : a < f.Code.length := by
  have := (List.getElem?_eq_some_iff.1 hra).1
  have h2 := hs.lr
  simp only at h2
  omega
 have hia : f.Code[a]? = some f.Code[a] := List.getElem?_eq_getElem halt
 generalize f.Code[a] = i at hia
 have hxl := hs.len a x hxa
 have hpos : decide ((List.length td : Int) > 0) = true := by simp; omega
 dsimp only
 rw [hpos]
 simp only [if_true]
 rw [show I64 ((List.length td : Int) - 1) = (k : Int) by rw [a3l zO]; omega, a0f, ht1]
 simp only [Option.bind_some]
 have hsub : a4n td 0 (k : Int) = some (td.take k) := by
  unfold a4n; rw [if_pos zO]; simp
 rw [hsub]
 simp only [Option.bind_some]
 rw [a0f, hxa]
 simp only [Option.bind_some]
 rw [a0f, hia]
 simp only [Option.bind_some]
 rw [c1w x zO]
 rw [b1e p f i _ (h.arg hia) (h.name hia) h.ps]
 simp only [Option.bind_some]
 have hel := b2J h i (a4f x)
 have hel2 := b1f p f i (a4f x)
 have hst := a8G p f i x
 generalize eff p f i (a4f x) = e at hel hel2 hst ⊢
 rw [c1x x e.1 i.Op zO zO]
 cases hok : okS i.Op x e.1 with
 | false =>
   right; right
   rw [hok] at hst
   simp only [Bool.false_eq_true, if_false] at hst
   refine ⟨some ([], [], false, 50), by simp, ?_⟩
   exact ⟨_, rfl, .inl ⟨.inl ⟨a, x, i, hda, hia, .inl hst⟩, rfl⟩⟩
 | true =>
   rw [hok] at hst
   simp only [if_true] at hst
   have hle : e.1.length <= x.length := by
    unfold okS at hok
    simp only [decide_eq_true_eq] at hok
    exact hok.1
   simp only [Bool.not_true, Bool.false_eq_true, if_false]
   have hsub2 : a4n x 0 (I64 ((List.length x : Int) - (List.length e.1 : Int))) = some (x.take (x.length - e.1.length)) := by
    rw [a3l zO]
    unfold a4n
    rw [if_pos zO, show (((List.length x : Int) - (List.length e.1 : Int))).toNat = x.length - e.1.length by omega]
    simp
   rw [hsub2]
   simp only [Option.bind_some]
   rw [b2I _ zE]
   simp only [Option.bind_some]
   rw [appL1 zE]
   simp only [Option.bind_some]
   rw [b5r, b1c i a zO]
   simp only [Option.bind_some]
   have hx'l := b2H hst
   generalize x.take (x.length - e.1.length) ++ e.2 = x' at hst hx'l ⊢
   have hmu : muK (dp, rd, st, td) = 2 * rd.count false + (k + 1) := by simp only [muK, hk]
   obtain ⟨o, ho, hq⟩ := c3I (some (.ret (some (([] : List Bool), ([] : List (List Int)), false, (50 : Int)))) : Option (Stp (Bool × List Bool × List (List Int) × List Int) (Option (List Bool × List (List Int) × Bool × Int)))) p f (r0 := rd) (st0 := st) (td0 := td.take k) (x := x) (x' := x') (a := a) (i := i) (fol := a8E i a)
    hn2 hda hia hst zO rfl (h.fol hia) hs.lr hs.ls (fun m y hy => by have := hs.len m y hy; omega) hs.der hs.un (fun t ht => hs.td t (List.mem_of_mem_take ht)) zE
   rw [ho]
   simp only [Option.bind_some]
   rcases hq with ⟨q, rfl, hq⟩ | ⟨rfl, hb⟩
   ·left
    refine ⟨_, rfl, ?_, ?_⟩
    ·have hlk : (td.take k).length = k := by simp; omega
     have hme := hq.me
     rw [hlk] at hme
     have hz := hq.mono 0 hs.z.1
     refine ⟨hq.lr, hq.ls, hq.td, ⟨hz.1, hz.2.trans hs.z.2⟩, fun m hm => ?_, fun m hm => (hq.un m hm).2, fun m hm hmt => ?_, fun hd => ?_, fun m y hy => ?_⟩
     ·rcases hq.new m hm with h1 | ⟨h1, _, h3⟩
      ·obtain ⟨y, e1, e2⟩ := hs.der m h1
       exact ⟨y, (hq.mono m h1).2.trans e1, e2⟩
      ·exact ⟨x', h1, h3⟩
     ·simp only at hm hmt
      rcases hq.new m hm with h1 | ⟨_, h2, _⟩
      ·by_cases hma : m = a
       ·subst hma
        refine ⟨i, x, x', hia, (hq.mono m h1).2.trans hxa, hst, fun hl => by simp; right; omega, fun b hb => ?_⟩
        obtain ⟨j, hj⟩ := List.getElem?_of_mem hb
        exact hq.got j b (List.getElem?_eq_some_iff.1 hj).1 hj
       ·have hnt : (m : Int) ∉ td := by
         intro hin
         rw [ht2] at hin
         simp only [List.mem_append, List.mem_singleton] at hin
         rcases hin with hin | hin
         ·exact hmt (hq.sub _ hin)
         ·exact hma (Int.ofNat.inj hin)
        obtain ⟨i2, y, y', d1, d2, d3, d4, d5⟩ := hs.done m h1 hnt
        refine ⟨i2, y, y', d1, (hq.mono m h1).2.trans d2, d3, fun hl => by have := d4 hl; simp only at this; simp [this], fun b hb => ?_⟩
        obtain ⟨c, c1, c2, c3, c4⟩ := d5 b hb
        exact ⟨c, c1, c2, (hq.mono c c3).1, (hq.mono c c3).2.trans c4⟩
      ·exact (hmt h2).elim
     ·simp only [Bool.or_eq_true, decide_eq_true_eq] at hd
      rcases hd with hd | hd
      ·exact hs.dp hd
      ·exact ⟨a, x, i, x', hda, hia, hst, by omega⟩
     ·have hmu2 : muK (dp || decide ((List.length x' : Int) > 16), q.1, q.2.1, q.2.2) = 2 * q.1.count false + q.2.2.length := rfl
      rw [hmu2]
      simp only at hy
      rw [hmu] at hxl
      have hmlt : m < f.Code.length := by
       have := (List.getElem?_eq_some_iff.1 hy).1
       have h2 := hq.ls
       omega
      have hb : q.1[m]? = some (q.1[m]'(by rw [hq.lr]; exact hmlt)) := List.getElem?_eq_getElem _
      generalize q.1[m]'(by rw [hq.lr]; exact hmlt) = bb at hb
      cases bb with
      | false =>
        have := (hq.un m hb).2
        rw [hy] at this; cases this
        simp; omega
      | true =>
        rcases hq.new m hb with h1 | ⟨h1, _, _⟩
        ·have e1 := (hq.mono m h1).2
         rw [hy] at e1
         have := hs.len m y e1.symm
         rw [hmu] at this
         omega
        ·rw [hy] at h1; cases h1
         omega
    ·have hme := hq.me
     have hlk : (td.take k).length = k := by simp; omega
     rw [hlk] at hme
     rw [hmu]
     simp only [muK]
     omega
   ·right; right
    exact ⟨_, rfl, _, rfl, .inl ⟨hb, rfl⟩⟩
def a9o (p : Program) : Bool := match p.Funcs with | f :: _ => decide (f.Params = 0) && !f.Result | [] => false
def a5u (p : Program) : Bool := encP p && (a3r p && (a9o p && p.Funcs.all (a3O p)))
theorem a6t {p : Program} (h : a5u p = true) {f : Func} (hf : f ∈ p.Funcs) : FOk p f := by
 unfold a5u encP a3r at h
 simp only [Bool.and_eq_true, decide_eq_true_eq, List.all_eq_true] at h
 exact ⟨h.1.2, h.1.2 f hf, h.2.1.1 f hf, h.2.2.2 f hf⟩
def a7Z (p : Program) (f : Func) (rd : List Bool) (st : List (List Int)) : Prop :=
 ∃ R, Sol p f R /\ rd.length = f.Code.length /\ st.length = f.Code.length /\ ∀ a, a < f.Code.length -> rd[a]? = some (R a).isSome /\ st[a]? = some ((R a).getD [])
def c3K (p : Program) (o : Option a0r × Int) : Prop :=
 (encP p = false /\ o = (none, 30)) \/ (encP p = true /\ a3r p = false /\ o = (none, 31)) \/ (encP p = true /\ a3r p = true /\ (a9o p && p.Funcs.all (a3O p)) = false /\ o = (none, 50)) \/
 (a5u p = true /\ (∃ f ∈ p.Funcs, Bad p f) /\ o = (none, 50)) \/
 (a5u p = true /\ (∀ f ∈ p.Funcs, ∃ R, Sol p f R) /\ (∃ f ∈ p.Funcs, Deep p f) /\ o = (none, 31)) \/
 (a5u p = true /\ (∀ f ∈ p.Funcs, ¬ Deep p f) /\ ∃ T : a0r, o = (some T, 0) /\ T.Reached.length = p.Funcs.length /\ T.Stacks.length = p.Funcs.length /\
  ∀ (k : Nat) f, p.Funcs[k]? = some f -> ∃ rd st, T.Reached[k]? = some rd /\ T.Stacks[k]? = some st /\ a7Z p f rd st)

structure c7R (p : Program) (j : Nat) (s : Bool × List (List Bool) × List (List (List Int))) : Prop where
 l1 : s.2.1.length = j
 l2 : s.2.2.length = j
 dp : s.1 = true ↔ ∃ (k : Nat) (f : Func), k < j /\ p.Funcs[k]? = some f /\ Deep p f
 ok : ∀ (k : Nat) f, k < j -> p.Funcs[k]? = some f -> ∃ rd st, s.2.1[k]? = some rd /\ s.2.2[k]? = some st /\ a7Z p f rd st

theorem b2L (p : Program) (hl : p.Funcs.length <= 1048576) : ∃ o, r7 1048577 p = some o /\ c3K p o := by
 unfold r7
 obtain ⟨l, he⟩ := b1b p
 rw [he]
 simp only [Option.bind_some]
 cases henc : encP p with
 | false => exact ⟨(none, 30), rfl, .inl ⟨henc, rfl⟩⟩
 | true =>
   have e0 : ((if true = true then (0 : Int) else 30) != 0) = false := rfl
   simp only [e0, Bool.false_eq_true, if_false]
   rw [a9l p hl]
   simp only [Option.bind_some]
   cases hbd : a3r p with
   | false => exact ⟨(none, 31), rfl, .inr (.inl ⟨henc, hbd, rfl⟩)⟩
   | true =>
     simp only [Bool.not_true, Bool.false_eq_true, if_false]
     have henc2 := henc
     unfold encP at henc2
     simp only [Bool.and_eq_true, decide_eq_true_eq, List.all_eq_true] at henc2
     have hmain : ∀ {β : Type} (K : Bool -> Option β), jp K (fun k_3 => ((j9 p.Funcs 0).bind fun y_5 => (if (decide (y_5.Params > 0)) then (k_3 true) else (k_3 y_5.Result)))) = K (!a9o p) := by
      intro β K
      unfold jp a9o
      match hf : p.Funcs with
      | [] => rw [hf] at henc2; simp at henc2
      | f :: r =>
        have hfp := a2H (henc2.2 f (by rw [hf]; simp))
        show ((j9 (f :: r) ((0 : Nat) : Int)).bind _) = _
        rw [a0f]
        simp only [List.getElem?_cons_zero, Option.bind_some]
        by_cases h0 : f.Params > 0
        ·have : ¬ f.Params = 0 := by omega
         simp [h0, this]
        ·have : f.Params = 0 := by omega
         simp [h0, this]
     rw [hmain]
     cases hm : a9o p with
     | false => exact ⟨(none, 50), rfl, .inr (.inr (.inl ⟨henc, hbd, by rw [hm]; rfl, rfl⟩))⟩
     | true =>
       simp only [Bool.not_true, Bool.false_eq_true, if_false]
       have L := rng_inv (σ := Unit) (ρ := Option (Option a0r × Int)) (xs := p.Funcs) (s0 := ()) (a3O p) (some (none, 50)) (fun _ _ => True)
        (body := fun (i_7 : Nat) (f_8 : Func) (s_6 : Unit) => (((a0o p f_8).bind fun hea_10 => (if (!hea_10) then (some (.ret (some (none, 50)))) else (some (.nxt ())))) : Option (Stp Unit (Option ((Option a0r) × Int))))) zO trivial (fun i x s hx _ => by
         rw [b5o p x (henc2.2 x (List.mem_of_getElem? hx)) hl]
         cases a3O p x with
         | false => rfl
         | true => exact ⟨(), rfl, trivial⟩)
       cases hh : p.Funcs.all (a3O p) with
       | false =>
         rw [hh] at L
         simp only [Bool.false_eq_true, if_false] at L
         rw [L]
         exact ⟨(none, 50), rfl, .inr (.inr (.inl ⟨henc, hbd, by rw [hm, hh]; rfl, rfl⟩))⟩
       | true =>
         rw [hh] at L
         simp only [if_true] at L
         obtain ⟨_, e1, _⟩ := L
         rw [e1]
         simp only [Option.bind_some, oc]
         have hgood : a5u p = true := by unfold a5u; rw [henc, hbd, hm, hh]; rfl
         refine b1g (rng_ex (c7R p) _ zO ?h0 ?h ?hQ)
         case h0 => exact ⟨rfl, rfl, ⟨fun e => (Bool.false_ne_true e).elim, fun ⟨k, f, hk, _⟩ => by omega⟩, fun k f hk => by omega⟩
         case hQ =>
          intro s hs
          cases hd : s.1 with
          | true =>
            refine ⟨(none, 31), by simp only [oc]; rw [hd]; rfl, .inr (.inr (.inr (.inr (.inl ⟨hgood, fun f hf => ?_, ?_, rfl⟩))))⟩
            ·obtain ⟨k, hk⟩ := List.getElem?_of_mem hf
             obtain ⟨_, _, _, _, R, hR, _⟩ := hs.ok k f (List.getElem?_eq_some_iff.1 hk).1 hk
             exact ⟨R, hR⟩
            ·obtain ⟨k, f, _, h2, h3⟩ := hs.dp.1 hd
             exact ⟨f, List.mem_of_getElem? h2, h3⟩
          | false =>
            refine ⟨(some ⟨s.2.1, s.2.2⟩, 0), by simp only [oc]; rw [hd]; rfl, .inr (.inr (.inr (.inr (.inr ⟨hgood, fun f hf hdp => ?_, ⟨s.2.1, s.2.2⟩, rfl, hs.l1, hs.l2, fun k f hk => hs.ok k f (List.getElem?_eq_some_iff.1 hk).1 hk⟩))))⟩
            obtain ⟨k, hk⟩ := List.getElem?_of_mem hf
            have := hs.dp.2 ⟨k, f, (List.getElem?_eq_some_iff.1 hk).1, hk, hdp⟩
            rw [hd] at this; cases this
         intro i f s hi hs
         have hmem := List.mem_of_getElem? hi
         have hilt := (List.getElem?_eq_some_iff.1 hi).1
         have hF := a6t hgood hmem
         obtain ⟨o, ho, ha⟩ := a7Y p f hF
         rw [ho]
         simp only [Option.bind_some]
         rcases ha with ⟨hb, rfl⟩ | ⟨R, hR, h0, h1, h2, h3, h4⟩
         ·right
          exact ⟨some (none, 50), rfl, _, rfl, .inr (.inr (.inr (.inl ⟨hgood, ⟨f, hmem, hb⟩, rfl⟩)))⟩
         ·left
          have e2 : (o.2.2.2 != 0) = false := by rw [h0]; rfl
          simp only [e2, Bool.false_eq_true, if_false]
          have hjp : ∀ {β : Type} (K : Bool -> Option β), jp K (fun k_16 => (if s.1 then (k_16 true) else (k_16 o.2.2.1))) = K (s.1 || o.2.2.1) := by
           intro β K; unfold jp; cases s.1 <;> rfl
          rw [hjp, appL_of (by have := hs.l1; simp; omega)]
          simp only [Option.bind_some]
          rw [appL_of (by have := hs.l2; simp; omega)]
          simp only [Option.bind_some]
          refine ⟨_, rfl, by simp [hs.l1], by simp [hs.l2], ?_, fun k g hk hg => ?_⟩
          ·simp only [Bool.or_eq_true]
           constructor
           ·rintro (e | e)
            ·obtain ⟨k, g, a, b, c⟩ := hs.dp.1 e
             exact ⟨k, g, by omega, b, c⟩
            ·exact ⟨i, f, by omega, hi, h3.1 e⟩
           ·rintro ⟨k, g, a, b, c⟩
            by_cases e : k = i
            ·subst e
             rw [hi] at b; cases b
             exact .inr (h3.2 c)
            ·exact .inl (hs.dp.2 ⟨k, g, by omega, b, c⟩)
          ·by_cases e : k = i
           ·subst e
            rw [hi] at hg; cases hg
            refine ⟨o.1, o.2.1, ?_, ?_, R, hR, h1, h2, h4⟩
            ·show (s.2.1 ++ [o.1])[k]? = _
             rw [List.getElem?_append_right (by rw [hs.l1]; exact Nat.le_refl _), hs.l1]; simp
            ·show (s.2.2 ++ [o.2.1])[k]? = _
             rw [List.getElem?_append_right (by rw [hs.l2]; exact Nat.le_refl _), hs.l2]; simp
           ·obtain ⟨rd, st, a, b, c⟩ := hs.ok k g zO hg
            refine ⟨rd, st, ?_, ?_, c⟩
            ·show (s.2.1 ++ [o.1])[k]? = _
             rw [List.getElem?_append_left (by rw [hs.l1]; omega)]; exact a
            ·show (s.2.2 ++ [o.2.1])[k]? = _
             rw [List.getElem?_append_left (by rw [hs.l2]; omega)]; exact b

theorem Der.le {p f a x} (d : Der p f a x) (h : ¬ Deep p f) : x.length <= 16 := by
 cases d with
 | start => simp
 | go d hi hs hb =>
   rename_i a' s i
   rcases Nat.lt_or_ge 16 x.length with h1 | h1
   ·exact (h ⟨a', s, i, x, d, hi, hs, h1⟩).elim
   ·exact h1
theorem a5g : ∀ (n d : Nat), d < n -> (j3 n)[2 * d]? = some 0 /\ (j3 n)[2 * d + 1]? = some 1
 | n + 1, d, h => by
   show (j3 n ++ [0, 1])[2 * d]? = some 0 /\ (j3 n ++ [0, 1])[2 * d + 1]? = some 1
   have hl := r9 n
   by_cases hd : d < n
   ·obtain ⟨h1, h2⟩ := a5g n d hd
    rw [List.getElem?_append_left zO, List.getElem?_append_left zO]
    exact ⟨h1, h2⟩
   ·have : d = n := by omega
    subst this
    rw [List.getElem?_append_right zO, List.getElem?_append_right zO, hl]
    simp
section
variable {p : Program} {f : Func} {g : a9} {gs : List a9} {s s' : List Int} {i : Instr}
theorem a6u (gK : g.Kinds = f.Locals ++ j3 16) {d k : Int} (hd : 0 <= d /\ d < 16) (hk : k = 0 \/ k = 1) : b1F g k (i9 f d k) = true := by
 unfold b1F i9
 have hl : g.Kinds.length = f.Locals.length + 32 := by rw [gK, List.length_append, r9]
 have hg : j9 g.Kinds ((f.Locals.length : Int) + 2 * d + k) = some k := by
  unfold j9
  rw [if_pos zO, gK, List.getElem?_append_right zO]
  obtain ⟨h1, h2⟩ := a5g 16 d.toNat zO
  rcases hk with rfl | rfl
  ·rw [show ((f.Locals.length : Int) + 2 * d + 0).toNat - f.Locals.length = 2 * d.toNat by omega]; exact h1
  ·rw [show ((f.Locals.length : Int) + 2 * d + 1).toNat - f.Locals.length = 2 * d.toNat + 1 by omega]; exact h2
 rw [hg, hl]
 simp only [Bool.and_eq_true, decide_eq_true_eq, beq_self_eq_true, and_true]
 omega
theorem b1i (gK : g.Kinds = f.Locals ++ j3 16) {j k : Int} (hj : 0 <= j) (h : f.Locals[j.toNat]? = some k) : b1F g k j = true := by
 have hlt := (List.getElem?_eq_some_iff.1 h).1
 unfold b1F
 have hg : j9 g.Kinds j = some k := by
  unfold j9
  rw [if_pos hj, gK, List.getElem?_append_left hlt]; exact h
 rw [hg, gK, List.length_append]
 simp only [Bool.and_eq_true, decide_eq_true_eq, beq_self_eq_true, and_true]
 omega
theorem a8H (h : a3Q p f i s = some s') : ∃ s0, s = s0 ++ (eff p f i (a4f s)).1 /\ s' = s0 ++ (eff p f i (a4f s)).2 := by
 rw [a8G] at h
 split at h
 ·rename_i hk
  unfold okS at hk
  simp only [decide_eq_true_eq] at hk
  cases h
  refine ⟨s.take (s.length - (eff p f i (a4f s)).1.length), ?_, rfl⟩
  conv => lhs; rw [<- List.take_append_drop (s.length - (eff p f i (a4f s)).1.length) s]
  rw [hk.2.1]
 ·cases h
theorem a3R {s0 : List Int} {k : Int} (hs : s = s0 ++ [k]) : a1C f s 1 = some (i9 f ((s.length : Int) - 1) k) := by
 unfold a1C
 have : j9 s ((s.length : Int) - 1) = some k := by
  subst hs
  unfold j9
  rw [if_pos zS]
  simp
 rw [this]; rfl
theorem b1j {s0 : List Int} {k l : Int} (hs : s = s0 ++ [k, l]) : a1C f s 2 = some (i9 f ((s.length : Int) - 2) k) /\ a1C f s 1 = some (i9 f ((s.length : Int) - 1) l) := by
 refine ⟨?_, a3R (s0 := s0 ++ [k]) (by rw [hs]; simp)⟩
 unfold a1C
 have : j9 s ((s.length : Int) - 2) = some k := by
  subst hs
  unfold j9
  rw [if_pos zS]
  simp
 rw [this]; rfl
end
end Go.Proofs.Ytnpemocpfdgaoaa

/- build: nodes of a checked program are right (plain). -/
namespace Go.Proofs.Ytnpemocpfdgaoaa
open Go Go.Ab Go.RowKit
set_option maxRecDepth 20000
section
variable {p : Program} {f : Func} {g : a9} {gs : List a9} {s s' : List Int} {i : Instr} {a : Nat}
theorem b1k {j n : Nat} (h : j <= n) : a0s f j <= a0s f n := by
 induction n with
 | zero => have : j = 0 := by omega
           subst this; exact Nat.le_refl _
 | succ n ih =>
   by_cases hj : j = n + 1
   ·subst hj; exact Nat.le_refl _
   ·have := ih zO
    rw [a3q]; omega
theorem a3t {j : Nat} (hj : j < f.Locals.length) : j9 (j5 f f.Locals.length f.Locals.length) (j : Int) = some (a0N f j) := by
 rw [a7n]; unfold j5; simp [hj]
theorem a6v {j : Nat} (gC : g.Cells = a0s f f.Locals.length) (hj : j < f.Locals.length) (h : a2V f j = true) : 0 <= a0N f j /\ a6s g (a0N f j) = true := by
 unfold a0N
 rw [if_pos h]
 refine ⟨by omega, ?_⟩
 unfold a6s
 rw [gC]
 have h1 := b1k (f := f) (j := j + 1) (n := f.Locals.length) zO
 rw [a3q, if_pos h] at h1
 simp only [decide_eq_true_eq]
 omega
theorem a8I {j : Nat} (F : FOk p f) (h : a2V f j = true) : f.Locals[j]? = some 0 := by
 unfold a2V at h
 simp only [Bool.or_eq_true, decide_eq_true_eq, List.any_eq_true, Bool.and_eq_true, beq_iff_eq] at h
 rcases h with h | ⟨x, hx, h1, h2⟩
 ·have h3 := F.hd
  unfold a3O a9n at h3
  simp only [Bool.and_eq_true, decide_eq_true_eq, Bool.or_eq_true] at h3
  have h4 := h3.1.2
  rw [<- h] at h4
  rcases h4 with h4 | h4
  ·omega
  ·simpa using h4
 ·obtain ⟨q, hq⟩ := List.getElem?_of_mem hx
  have h3 := F.name hq
  unfold a3s at h3
  simp only [h1] at h3
  simp at h3
  rw [h2] at h3
  simpa using h3.2
theorem a8J (F : FOk p f) (gK : g.Kinds = f.Locals ++ j3 16) (gC : g.Cells = a0s f f.Locals.length) {j : Nat} {k d : Int} {w : Bool} (hk : f.Locals[j]? = some k) (hk2 : k = 0 \/ k = 1) (hd : 0 <= d /\ d < 16) : opB gs g (t5 (a0N f j) j (i9 f d k) w) = true := by
 have hj : j < f.Locals.length := (List.getElem?_eq_some_iff.1 hk).1
 have h1 := a6u (f := f) gK hd hk2
 have h2 := b1i (f := f) gK (j := (j : Int)) (k := k) zO (by simpa using hk)
 unfold t5
 by_cases hn : a2V f j = true
 ·obtain ⟨c0, c1⟩ := a6v gC hj hn
  have hk0 := a8I F hn
  rw [hk] at hk0; cases hk0
  rw [if_pos c0]
  cases w <;> simp [opB, isB, c1, h1]
 ·have c0 : ¬ 0 <= a0N f j := by unfold a0N; rw [if_neg hn]; omega
  rw [if_neg c0]
  rcases hk2 with rfl | rfl <;> cases w <;> simp [opB, isB, h1, h2]
def NOk (gs : List a9) (g : a9) (i : Instr) (o : Option b8) : Prop := ∃ n, o = some n /\ opB gs g n = true /\ (n.Op = 9 -> i.Op = 22 /\ n.Else = i.Arg)
end
end Go.Proofs.Ytnpemocpfdgaoaa

/- build: each node of a checked program is right (plain). -/
namespace Go.Proofs.Ytnpemocpfdgaoaa
open Go Go.Ab Go.RowKit
set_option maxRecDepth 20000
set_option maxHeartbeats 1000000
section
variable {p : Program} {f : Func} {g : a9} {gs : List a9} {s s' : List Int} {i : Instr} {a : Nat}
structure GH (p : Program) (f : Func) (gs : List a9) (g : a9) : Prop where
 gK : g.Kinds = f.Locals ++ j3 16
 gC : g.Cells = a0s f f.Locals.length
 gR : g.Result = f.Result
 fn : ∀ (j : Int) (h : Func), j9 p.Funcs j = some h -> ∃ q, j9 gs j = some q /\ q.Params = (List.range h.Params.toNat).map (fun (x : Nat) => (x : Int)) /\ q.Kinds = h.Locals ++ j3 16 /\ q.Result = h.Result
theorem b1l (H : GH p f gs g) {n : b8} {h : Func} {s0 : List Int} (hp : 0 <= h.Params /\ h.Params <= h.Locals.length) (hg : j9 p.Funcs n.F = some h) (hs : s = s0 ++ h.Locals.take h.Params.toNat) (h16 : s.length <= 16) (hlk : ∀ k ∈ h.Locals, k = 0 \/ k = 1)
  (ha : n.Args = m9 f s ((s.length : Int) - h.Params).toNat (s.length - ((s.length : Int) - h.Params).toNat)) : c2g gs g n = true := by
 obtain ⟨q, q1, q2, q3, q4⟩ := H.fn n.F h hg
 have hlt : (h.Locals.take h.Params.toNat).length = h.Params.toNat := by rw [List.length_take]; omega
 have hsl : s.length = s0.length + h.Params.toNat := by rw [hs, List.length_append, hlt]
 have e1 : ((s.length : Int) - h.Params).toNat = s0.length := by omega
 have e2 : s.length - s0.length = h.Params.toNat := by omega
 rw [e1, e2] at ha
 unfold c2g
 rw [q1]
 simp only [Bool.and_eq_true, decide_eq_true_eq]
 refine ⟨by rw [ha, q2]; simp [m9], a5b.2 fun j x hx => ?_⟩
 rw [ha] at hx
 have hj : j < h.Params.toNat := by have := (List.getElem?_eq_some_iff.1 hx).1; simpa [m9] using this
 have hxe : x = i9 f ((s0.length : Int) + j) (s.getD (s0.length + j) 0) := by
  unfold m9 at hx
  simp [hj] at hx
  rw [<- hx]; simp
 have hsd : s[s0.length + j]? = h.Locals[j]? := by
  rw [hs, List.getElem?_append_right zO, Nat.add_sub_cancel_left, List.getElem?_take_of_lt hj]
 have hlj : h.Locals[j]? = some (h.Locals[j]'zO) := List.getElem?_eq_getElem _
 generalize h.Locals[j]'zO = kj at hlj
 have hkj := hlk kj (List.mem_of_getElem? hlj)
 rw [List.getD_eq_getElem?_getD, hsd, hlj, Option.getD_some] at hxe
 unfold c6A
 rw [q2, Nat.zero_add]
 have hr : ((List.range h.Params.toNat).map fun (x : Nat) => (x : Int))[j]? = some (j : Int) := by simp [hj]
 rw [hr]
 have hkq : j9 q.Kinds (j : Int) = some kj := by
  rw [a7n, q3, List.getElem?_append_left zO]; exact hlj
 simp only [hkq]
 rw [hxe]
 exact a6u H.gK zO hkj
theorem c3L (F : FOk p f) (H : GH p f gs g) (hpk : ∀ h ∈ p.Funcs, (0 <= h.Params /\ h.Params <= h.Locals.length) /\ ∀ k ∈ h.Locals, k = 0 \/ k = 1) (hm : f ∈ p.Funcs) (hi : f.Code[a]? = some i) (hs : a3Q p f i s = some s') (h16 : s.length <= 16) (h16' : s'.length <= 16) (hsk : ∀ x ∈ s, x = 0 \/ x = 1) :
  NOk gs g i (ndI p f (j5 f f.Locals.length f.Locals.length) s i) := by
 obtain ⟨s0, e1, e2⟩ := a8H hs
 have hfit : ∀ {d k : Int}, 0 <= d /\ d < 16 -> k = 0 \/ k = 1 -> b1F g k (i9 f d k) = true := fun h1 h2 => a6u H.gK h1 h2
 have hname := F.name hi
 have harg := F.arg hi
 have hlk := (hpk f hm).2
 have hls : s.length = s0.length + (eff p f i (a4f s)).1.length := by rw [<- List.length_append, <- e1]
 have hls' : s'.length = s0.length + (eff p f i (a4f s)).2.length := by rw [<- List.length_append, <- e2]
 unfold ndI
 by_cases h : i.Op = 1
 ·rw [if_pos h]
  simp [eff, h] at hls hls'
  exact ⟨_, rfl, by have := hfit (d := s.length) (k := 0) zO (.inl rfl); simp [opB, isB, this], nofun⟩
 rw [if_neg h]; have n1 := h; clear h
 by_cases h : i.Op = 2
 ·rw [if_pos h]
  unfold a3s at hname
  simp [h] at hname
  obtain ⟨j, hj⟩ : ∃ j : Nat, i.Arg = (j : Int) := ⟨i.Arg.toNat, by omega⟩
  have hjl : j < f.Locals.length := by omega
  have hk : f.Locals[j]? = some f.Locals[j] := List.getElem?_eq_getElem hjl
  simp [eff, h, b1G] at hls hls'
  rw [hj, a3t hjl, Option.bind_some, a7n, hk]
  refine ⟨_, rfl, a8J F H.gK H.gC hk (hlk _ (List.getElem_mem _)) zO, fun h9 => ?_⟩
  unfold t5 at h9; split at h9 <;> simp at h9
 rw [if_neg h]; have n2 := h; clear h
 by_cases h : i.Op = 3
 ·rw [if_pos h]
  unfold a3s at hname
  simp [h] at hname
  obtain ⟨j, hj⟩ : ∃ j : Nat, i.Arg = (j : Int) := ⟨i.Arg.toNat, by omega⟩
  have hjl : j < f.Locals.length := by omega
  have hk : f.Locals[j]? = some f.Locals[j] := List.getElem?_eq_getElem hjl
  have e1' := e1
  simp [eff, h, b1G, hj, hk] at e1' hls
  rw [hj, a3t hjl, Option.bind_some, a3R e1']
  refine ⟨_, rfl, a8J F H.gK H.gC hk (hlk _ (List.getElem_mem _)) zO, fun h9 => ?_⟩
  unfold t5 at h9; split at h9 <;> simp at h9
 rw [if_neg h]; have n3 := h; clear h
 by_cases h : i.Op = 4
 ·rw [if_pos h]
  unfold a3s at hname
  simp [h] at hname
  obtain ⟨j, hj⟩ : ∃ j : Nat, i.Arg = (j : Int) := ⟨i.Arg.toNat, by omega⟩
  have hjl : j < f.Locals.length := by omega
  simp [eff, h] at hls hls'
  have hn : a2V f j = true := by
   unfold a2V
   simp only [Bool.or_eq_true, List.any_eq_true]
   exact .inr ⟨i, List.mem_of_getElem? hi, by simp [h, hj]⟩
  obtain ⟨c0, c1⟩ := a6v H.gC hjl hn
  rw [hj, a3t hjl]
  exact ⟨_, rfl, by have := hfit (d := s.length) (k := 1) zO (.inr rfl); simp [opB, isB, this, c1], nofun⟩
 rw [if_neg h]; have n4 := h; clear h
 by_cases h : i.Op = 5
 ·rw [if_pos h]
  have e1' := e1
  simp [eff, h] at e1' hls
  rw [a3R e1']
  exact ⟨_, rfl, by have h1 := hfit (d := (s.length : Int) - 1) (k := 0) zO (.inl rfl); have h2 := hfit (d := (s.length : Int) - 1) (k := 1) zO (.inr rfl); simp [opB, isB, h1, h2], nofun⟩
 rw [if_neg h]; have n5 := h; clear h
 by_cases h : i.Op = 6
 ·rw [if_pos h]
  have e1' := e1
  simp [eff, h] at e1' hls
  obtain ⟨t2, t1⟩ := b1j e1'
  rw [t1, Option.bind_some, t2]
  exact ⟨_, rfl, by have h1 := hfit (d := (s.length : Int) - 1) (k := 0) zO (.inl rfl); have h2 := hfit (d := (s.length : Int) - 2) (k := 1) zO (.inr rfl); simp [opB, isB, h1, h2], nofun⟩
 rw [if_neg h]; have n6 := h; clear h
 by_cases h : i.Op = 21 \/ i.Op = 31
 ·rw [if_pos h]
  exact ⟨_, rfl, by simp [opB], nofun⟩
 rw [if_neg h]; have n7 := h; clear h
 have one : ∀ {k : Int} {op : Int}, (i.Op = 22 \/ i.Op = 26 \/ i.Op = 29 \/ i.Op = 30) -> a1C f s 1 = some (i9 f ((s.length : Int) - 1) 0) /\ b1F g 0 (i9 f ((s.length : Int) - 1) 0) = true := fun {k op} h => by
  have e1' := e1
  have hx : (eff p f i (a4f s)).1 = [0] := by rcases h with h | h | h | h <;> simp [eff, h]
  rw [hx] at e1' hls
  simp at hls
  exact ⟨a3R e1', hfit zO (.inl rfl)⟩
 by_cases h : i.Op = 22
 ·rw [if_pos h]
  obtain ⟨t1, t2⟩ := one (k := 0) (op := 0) (.inl h)
  rw [t1]
  exact ⟨_, rfl, by simp [opB, isB, t2], fun _ => ⟨h, rfl⟩⟩
 rw [if_neg h]; have n22 := h; clear h
 have call : i.Op = 23 \/ i.Op = 25 -> ∃ h, j9 p.Funcs i.Arg = some h /\ (0 <= h.Params /\ h.Params <= h.Locals.length) /\ (∀ k ∈ h.Locals, k = 0 \/ k = 1) /\ s = s0 ++ h.Locals.take h.Params.toNat /\ h.Params <= s.length /\ s'.length = s0.length + (if i.Op = 23 /\ h.Result = true then 1 else 0) := fun h => by
  unfold a3s at hname
  have hn : i.Arg < p.Funcs.length := by rcases h with h | h <;> simpa [h] using hname
  have hlt : i.Arg.toNat < p.Funcs.length := by omega
  have hg : p.Funcs[i.Arg.toNat]? = some p.Funcs[i.Arg.toNat] := List.getElem?_eq_getElem hlt
  generalize p.Funcs[i.Arg.toNat] = q at hg
  have hq := hpk q (List.mem_of_getElem? hg)
  have hx1 : (eff p f i (a4f s)).1 = q.Locals.take q.Params.toNat := by rcases h with h | h <;> simp [eff, h, hg]
  have hx2 : (eff p f i (a4f s)).2.length = if i.Op = 23 /\ q.Result = true then 1 else 0 := by
   rcases h with h | h
   ·simp [eff, h, hg]; split <;> simp
   ·simp [eff, h, hg]
  rw [hx1] at e1 hls
  rw [hx2] at hls'
  rw [List.length_take] at hls
  exact ⟨q, by unfold j9; rw [if_pos harg.1]; exact hg, hq.1, hq.2, e1, by omega, hls'⟩
 by_cases h : i.Op = 23
 ·rw [if_pos h]
  obtain ⟨q, k1, k2, k3, k4, k5, k6⟩ := call (.inl h)
  rw [k1, Option.bind_some, if_pos ⟨k2.1, k5⟩]
  refine ⟨_, rfl, ?_, nofun⟩
  have hA := b1l (n := ⟨11, 0, if q.Result = true then i9 f ((s.length : Int) - q.Params) 0 else -1, 0, 0, 0, i.Arg, 0, 0, m9 f s ((s.length : Int) - q.Params).toNat (s.length - ((s.length : Int) - q.Params).toNat), 0, 0⟩) H k2 k1 k4 h16 k3 rfl
  have hsl : s.length = s0.length + q.Params.toNat := by rw [k4, List.length_append, List.length_take]; omega
  obtain ⟨q', m1, m2, m3, m4⟩ := H.fn i.Arg q k1
  by_cases hR : q.Result = true
  ·have h1 := hfit (d := (s.length : Int) - q.Params) (k := 0) (by simp [h, hR] at k6; omega) (.inl rfl)
   simp [opB, hA, hR, isB, h1, m1, m4]
   simpa [hR] using hA
  ·simp [opB, hR]
   simpa [hR] using hA
 rw [if_neg h]; have n23 := h; clear h
 by_cases h : i.Op = 25
 ·rw [if_pos h]
  obtain ⟨q, k1, k2, k3, k4, k5, k6⟩ := call (.inr h)
  rw [k1, Option.bind_some, if_pos ⟨k2.1, k5⟩]
  have hA := b1l (n := ⟨13, 0, 0, 0, 0, 0, i.Arg, 0, 0, m9 f s ((s.length : Int) - q.Params).toNat (s.length - ((s.length : Int) - q.Params).toNat), 0, 0⟩) H k2 k1 k4 h16 k3 rfl
  exact ⟨_, rfl, by simp [opB, hA], nofun⟩
 rw [if_neg h]; have n25 := h; clear h
 by_cases h : i.Op = 24
 ·rw [if_pos h]
  by_cases hR : f.Result = true
  ·rw [if_pos hR]
   have e1' := e1
   simp [eff, h, hR] at e1' hls
   rw [a3R e1']
   have h1 := hfit (d := (s.length : Int) - 1) (k := 0) zO (.inl rfl)
   have h2 : i9 f ((s.length : Int) - 1) 0 ≠ -1 := by unfold i9; omega
   exact ⟨_, rfl, by simp [opB, isB, h1, h2, H.gR, hR], nofun⟩
  ·rw [if_neg hR]
   exact ⟨_, rfl, by simp [opB, H.gR, hR], nofun⟩
 rw [if_neg h]; have n24 := h; clear h
 by_cases h : i.Op = 26
 ·rw [if_pos h]
  obtain ⟨t1, t2⟩ := one (k := 0) (op := 0) (.inr (.inl h))
  rw [t1]
  exact ⟨_, rfl, by simp [opB, isB, t2], nofun⟩
 rw [if_neg h]; have n26 := h; clear h
 by_cases h : i.Op = 27
 ·rw [if_pos h]
  simp [eff, h] at hls hls'
  have h1 := hfit (d := s.length) (k := 0) zO (.inl rfl)
  have h2 := hfit (d := (s.length : Int) + 1) (k := 0) zO (.inl rfl)
  have h3 : i9 f s.length 0 ≠ i9 f ((s.length : Int) + 1) 0 := by unfold i9; omega
  exact ⟨_, rfl, by simp [opB, isB, h1, h2, h3], nofun⟩
 rw [if_neg h]; have n27 := h; clear h
 by_cases h : i.Op = 28
 ·rw [if_pos h]
  simp [eff, h] at hls hls'
  exact ⟨_, rfl, by have := hfit (d := s.length) (k := 0) zO (.inl rfl); simp [opB, isB, this], nofun⟩
 rw [if_neg h]; have n28 := h; clear h
 by_cases h : i.Op = 29
 ·rw [if_pos h]
  obtain ⟨t1, t2⟩ := one (k := 0) (op := 0) (.inr (.inr (.inl h)))
  rw [t1]
  exact ⟨_, rfl, by simp [opB, isB, t2], nofun⟩
 rw [if_neg h]; have n29 := h; clear h
 by_cases h : i.Op = 30
 ·rw [if_pos h]
  obtain ⟨t1, t2⟩ := one (k := 0) (op := 0) (.inr (.inr (.inr h)))
  rw [t1]
  exact ⟨_, rfl, by simp [opB, isB, t2], nofun⟩
 rw [if_neg h]; have n30 := h; clear h
 by_cases h : i.Op = 32
 ·rw [if_pos h]
  have e1' := e1
  simp [eff, h] at e1' hls hls'
  obtain ⟨tk, htk⟩ : ∃ tk, a4f s = tk := ⟨_, rfl⟩
  rw [htk] at e1'
  have hk : tk = 0 \/ tk = 1 := hsk _ (by rw [e1']; simp)
  have hg : j9 s ((s.length : Int) - 1) = some tk := by
   unfold j9
   rw [if_pos zO, show ((s.length : Int) - 1).toNat = s0.length by omega, e1']
   simp
  rw [hg, Option.bind_some, a3R e1']
  have h1 := hfit (d := s.length) (k := tk) zO hk
  have h2 := hfit (d := (s.length : Int) - 1) (k := tk) zO hk
  refine ⟨_, rfl, ?_, nofun⟩
  rcases hk with hk | hk <;> rw [hk] at h1 h2 ⊢ <;> simp [opB, isB, h1, h2]
 rw [if_neg h]; have n32 := h; clear h
 clear call one
 have hw := (a5e (a3P F.fp i (List.mem_of_getElem? hi))).2.2
 have hop : 7 <= i.Op /\ i.Op <= 20 := by
  unfold a1j at hw
  have n21 : i.Op ≠ 21 := fun e => n7 (.inl e)
  have n31 : i.Op ≠ 31 := fun e => n7 (.inr e)
  simp [n1, n2, n3, n4, n23, n25, n21, n22] at hw
  split at hw <;> omega
 have hx : (eff p f i (a4f s)).1 = [0, 0] /\ (eff p f i (a4f s)).2 = [0] := by
  have n21 : i.Op ≠ 21 := fun e => n7 (.inl e)
  have n31 : i.Op ≠ 31 := fun e => n7 (.inr e)
  simp [eff, n1, n2, n3, n4, n5, n6, n21, n22, n23, n24, n25, n26, n27, n28, n29, n30, n31, n32]
 rw [hx.1] at e1 hls
 simp at hls
 obtain ⟨t2, t1⟩ := b1j e1
 rw [t1, Option.bind_some, t2]
 have h1 := hfit (d := (s.length : Int) - 1) (k := 0) zO (.inl rfl)
 have h2 := hfit (d := (s.length : Int) - 2) (k := 0) zO (.inl rfl)
 exact ⟨_, rfl, by simp [opB, isB, h1, h2, hop], nofun⟩
end
end Go.Proofs.Ytnpemocpfdgaoaa

/- build: stacks hold kinds; the nodes there are (plain). -/
namespace Go.Proofs.Ytnpemocpfdgaoaa
open Go Go.Ab Go.RowKit
set_option maxRecDepth 20000
set_option maxHeartbeats 1000000
section
variable {p : Program} {f : Func} {g : a9} {gs : List a9} {s s' : List Int} {i : Instr} {a : Nat}
theorem b1m (hlk : ∀ k ∈ f.Locals, k = 0 \/ k = 1) {t : Int} (ht : t = 0 \/ t = 1) : ∀ x ∈ (eff p f i t).2, x = 0 \/ x = 1 := by
 have hloc : ∀ x ∈ b1G f i, x = 0 \/ x = 1 := fun x hx => by
  unfold b1G at hx
  rw [List.mem_singleton] at hx
  subst hx
  cases hl : f.Locals[i.Arg.toNat]? with
  | none => exact .inl rfl
  | some k => exact hlk k (List.mem_of_getElem? hl)
 intro x hx
 unfold eff at hx
 by_cases h0 : i.Op = 1 \/ i.Op = 28
 ·rw [if_pos h0] at hx; simp only [List.mem_cons, List.not_mem_nil, or_false, or_self] at hx; omega
 rw [if_neg h0] at hx
 by_cases h1 : i.Op = 2
 ·rw [if_pos h1] at hx; exact hloc x hx
 rw [if_neg h1] at hx
 by_cases h2 : i.Op = 3
 ·rw [if_pos h2] at hx; exact absurd hx zS
 rw [if_neg h2] at hx
 by_cases h3 : i.Op = 4
 ·rw [if_pos h3] at hx; simp only [List.mem_cons, List.not_mem_nil, or_false, or_self] at hx; omega
 rw [if_neg h3] at hx
 by_cases h4 : i.Op = 5
 ·rw [if_pos h4] at hx; simp only [List.mem_cons, List.not_mem_nil, or_false, or_self] at hx; omega
 rw [if_neg h4] at hx
 by_cases h5 : i.Op = 6
 ·rw [if_pos h5] at hx; exact absurd hx zS
 rw [if_neg h5] at hx
 by_cases h6 : i.Op = 21
 ·rw [if_pos h6] at hx; exact absurd hx zS
 rw [if_neg h6] at hx
 by_cases h7 : i.Op = 22 \/ i.Op = 26 \/ i.Op = 29 \/ i.Op = 30
 ·rw [if_pos h7] at hx; exact absurd hx zS
 rw [if_neg h7] at hx
 by_cases h8 : i.Op = 23 \/ i.Op = 25
 ·rw [if_pos h8] at hx
  cases hq : p.Funcs[i.Arg.toNat]? with
  | none => rw [hq] at hx; exact absurd hx zS
  | some q =>
    rw [hq] at hx
    dsimp only at hx
    by_cases hc : i.Op = 23 /\ q.Result = true
    ·rw [if_pos hc] at hx; simp only [List.mem_cons, List.not_mem_nil, or_false, or_self] at hx; omega
    ·rw [if_neg hc] at hx; exact absurd hx zS
 rw [if_neg h8] at hx
 by_cases h9 : i.Op = 24
 ·rw [if_pos h9] at hx; exact absurd hx zS
 rw [if_neg h9] at hx
 by_cases h10 : i.Op = 27
 ·rw [if_pos h10] at hx; simp only [List.mem_cons, List.not_mem_nil, or_false, or_self] at hx; omega
 rw [if_neg h10] at hx
 by_cases h11 : i.Op = 31
 ·rw [if_pos h11] at hx; exact absurd hx zS
 rw [if_neg h11] at hx
 by_cases h12 : i.Op = 32
 ·rw [if_pos h12] at hx; simp only [List.mem_cons, List.not_mem_nil, or_false, or_self] at hx; omega
 rw [if_neg h12] at hx
 simp only [List.mem_cons, List.not_mem_nil, or_false, or_self] at hx; omega
theorem b1n (h : ∀ x ∈ s, x = 0 \/ x = 1) : a4f s = 0 \/ a4f s = 1 := by
 unfold a4f
 cases hl : s.getLast? with
 | none => exact .inl rfl
 | some y => exact h y (List.mem_of_getLast? hl)
theorem a7p (hlk : ∀ k ∈ f.Locals, k = 0 \/ k = 1) (d : Der p f a s) : ∀ x ∈ s, x = 0 \/ x = 1 := by
 induction d with
 | start => exact nofun
 | go h hi hs hb ih =>
   obtain ⟨s0, e1, e2⟩ := a8H hs
   intro x hx
   rw [e2] at hx
   rcases List.mem_append.1 hx with hx | hx
   ·exact ih x (by rw [e1]; exact List.mem_append_left _ hx)
   ·exact b1m hlk (b1n ih) x hx
end
end Go.Proofs.Ytnpemocpfdgaoaa

/- build: the nodes of a checked function are there and right (plain). -/
namespace Go.Proofs.Ytnpemocpfdgaoaa
open Go Go.Ab Go.RowKit
set_option maxRecDepth 20000
set_option maxHeartbeats 1000000
section
variable {p : Program} {f : Func} {g : a9} {gs : List a9}
theorem b1o {n : b8} {to : Int} (h : to ∈ b0Z n) : to = n.Next \/ (n.Op = 9 /\ to = n.Else) := by
 unfold b0Z at h
 split at h
 ·cases h
 ·split at h
  ·rename_i h9
   simp only [List.mem_cons, List.not_mem_nil, or_false] at h
   rcases h with h | h
   ·exact .inl h
   ·exact .inr ⟨h9.1, h⟩
  ·simp only [List.mem_cons, List.not_mem_nil, or_false] at h
   exact .inl h
theorem b3i (F : FOk p f) (H : GH p f gs g) (hN : g.Nodes.length = f.Code.length) (hpk : ∀ h ∈ p.Funcs, (0 <= h.Params /\ h.Params <= h.Locals.length) /\ ∀ k ∈ h.Locals, k = 0 \/ k = 1) (hm : f ∈ p.Funcs) {rd : List Bool} {st : List (List Int)} (hG : a7Z p f rd st) (nd : ¬ Deep p f) {k : Nat} (hk : k < f.Code.length) :
  ∃ n, ndK p f rd st k = some n /\ b2E gs g n = true := by
 obtain ⟨R, hR, g1, g2, g3⟩ := hG
 obtain ⟨q1, q2⟩ := g3 k hk
 unfold ndK
 rw [q1, Option.bind_some]
 cases hs : R k with
 | none =>
   rw [if_neg zS]
   refine ⟨_, rfl, ?_⟩
   unfold b2E
   simp [b0Z, opB, hN]
   omega
 | some s =>
   rw [if_pos zS, q2, hs, Option.bind_some]
   obtain ⟨d, i, s', hi, hst, hfo⟩ := hR.2 k s hs
   have h16 := d.le nd
   have h16' : s'.length <= 16 := by
    by_cases hd : s'.length <= 16
    ·exact hd
    ·exact absurd ⟨k, s, i, s', d, hi, hst, by omega⟩ nd
   obtain ⟨n, e1, e2, e3⟩ := c3L F H hpk hm hi hst h16 h16' (a7p (hpk f hm).2 d)
   rw [show (some s : Option (List Int)).getD [] = s from rfl, a7n, hi, Option.bind_some, e1]
   refine ⟨_, rfl, ?_⟩
   have hname := F.name hi
   have harg := F.arg hi
   unfold b2E
   simp only [Bool.and_eq_true, List.all_eq_true, decide_eq_true_eq]
   refine ⟨fun to hto => ?_, e2⟩
   rw [hN]
   rcases b1o hto with h | ⟨h, h'⟩
   ·rw [h]
    show 0 <= o9 f k i /\ o9 f k i < _
    unfold o9
    by_cases h21 : i.Op = 21
    ·rw [if_pos h21]
     unfold a3s at hname
     simp [h21] at hname
     omega
    ·rw [if_neg h21]; omega
   ·obtain ⟨h22, h5⟩ := e3 h
    rw [h']
    show 0 <= n.Else /\ n.Else < _
    rw [h5]
    unfold a3s at hname
    simp [h22] at hname
    omega
theorem b3j {rd : List Bool} {st : List (List Int)} : ∀ {k : Nat}, (∀ j, j < k -> ∃ n, ndK p f rd st j = some n) -> ∃ l, ndS p f rd st k = some l
 | 0, _ => ⟨[], rfl⟩
 | k + 1, h => by
   obtain ⟨l, h1⟩ := b3j (k := k) (fun j hj => h j zO)
   obtain ⟨n, h2⟩ := h k zO
   exact ⟨l ++ [n], by unfold ndS; rw [h1, Option.bind_some, h2]; rfl⟩
theorem b1p {rd : List Bool} {st : List (List Int)} : ∀ {k : Nat} {l : List b8}, ndS p f rd st k = some l -> ∀ n ∈ l, ∃ j, j < k /\ ndK p f rd st j = some n
 | 0, l, h => by cases h; exact nofun
 | k + 1, l, h => by
   unfold ndS at h
   obtain ⟨l1, h1, h2⟩ := Option.bind_eq_some_iff.1 h
   obtain ⟨m, h3, rfl⟩ := Option.map_eq_some_iff.1 h2
   intro n hn
   rcases List.mem_append.1 hn with hn | hn
   ·obtain ⟨j, a, b⟩ := b1p h1 n hn; exact ⟨j, by omega, b⟩
   ·rw [List.mem_singleton.1 hn]; exact ⟨k, by omega, h3⟩
def a3S (f : Func) : a9 := ⟨(List.range f.Params.toNat).map fun (j : Nat) => (j : Int), f.Locals ++ j3 16, a0s f f.Locals.length, (j5 f f.Locals.length f.Locals.length).take f.Params.toNat, f.Result, if 0 <= f.Keep then a0N f f.Keep.toNat else -1, [], 0⟩
theorem b2M (F : FOk p f) : (if 0 <= f.Keep then j9 (j5 f f.Locals.length f.Locals.length) f.Keep else some (-1)) = some (if 0 <= f.Keep then a0N f f.Keep.toNat else -1) := by
 by_cases h : 0 <= f.Keep
 ·rw [if_pos h, if_pos h]
  have h3 := F.hd
  unfold a3O a9n at h3
  simp only [Bool.and_eq_true, decide_eq_true_eq] at h3
  have : f.Keep.toNat < f.Locals.length := by have := h3.1.1.2; omega
  rw [show f.Keep = ((f.Keep.toNat : Nat) : Int) by omega, a3t this, Int.toNat_natCast]
 ·rw [if_neg h, if_neg h]
theorem b1q (F : FOk p f) {rd : List Bool} {st : List (List Int)} (hl : rd.length = f.Code.length) (h : ∀ j, j < f.Code.length -> ∃ n, ndK p f rd st j = some n) : ∃ nds, ndS p f rd st f.Code.length = some nds /\ a4V p f rd st = some { a3S f with Nodes := nds } := by
 obtain ⟨l, h1⟩ := b3j h
 refine ⟨l, h1, ?_⟩
 unfold a4V
 rw [hl, h1, Option.bind_some, b2M F]; rfl
end
end Go.Proofs.Ytnpemocpfdgaoaa

/- build: the graphs of a checked program are right (plain). -/
namespace Go.Proofs.Ytnpemocpfdgaoaa
open Go Go.Ab Go.RowKit
set_option maxRecDepth 20000
set_option maxHeartbeats 1000000
theorem a5T : ∀ n, ∀ x ∈ j3 n, x <= 1
 | 0 => nofun
 | n + 1 => fun x hx => by
   rcases List.mem_append.1 (show x ∈ j3 n ++ [0, 1] from hx) with h | h
   ·exact a5T n x h
   ·simp only [List.mem_cons, List.not_mem_nil, or_false] at h; omega
section
variable {p : Program} {f : Func}
theorem a1l (h : FOk p f) : (0 <= f.Params /\ f.Params <= f.Locals.length) /\ f.Params <= 4 /\ f.Locals.length <= 16 /\ (1 <= f.Code.length /\ f.Code.length <= 256) /\ f.Keep < f.Locals.length /\ ∀ k ∈ f.Locals, k <= 1 := by
 have h1 := a2H h.fp
 have h2 := h.bd
 unfold a5d at h2
 simp only [decide_eq_true_eq] at h2
 have h3 := h.hd
 unfold a3O a9n at h3
 simp only [Bool.and_eq_true, decide_eq_true_eq] at h3
 have h4 := h.fp
 unfold a1k at h4
 simp only [Bool.and_eq_true, decide_eq_true_eq, List.all_eq_true] at h4
 exact ⟨⟨h1.1, h1.2.1⟩, h2.1, h2.2.1, h.n, h3.1.1.2, h4.2.1⟩
theorem b5s (F : FOk p f) {nds : List b8} (hn : nds.length = f.Code.length) : b5m { a3S f with Nodes := nds } = true := by
 obtain ⟨b1, b2, b3, b4, b5, b6⟩ := a1l F
 have hcl : (j5 f f.Locals.length f.Locals.length).length = f.Locals.length := by simp [j5]
 have hcn : a0s f f.Locals.length <= f.Locals.length := by unfold a0s; exact Nat.le_trans (List.length_filter_le _ _) zS
 unfold b5m
 simp only [Bool.and_eq_true, decide_eq_true_eq, Bool.or_eq_true]
 refine ⟨?_, ?_, ?_, ?_, ?_, ?_, ?_, ?_⟩
 ·show (f.Locals ++ j3 16).length <= 1024
  rw [List.length_append, r9]; omega
 ·show (!((f.Locals ++ j3 16).any fun k => decide (k > 1))) = true
  rw [Bool.not_eq_true', List.any_eq_false]
  intro x hx
  simp only [decide_eq_true_eq]
  rcases List.mem_append.1 hx with h | h
  ·have := b6 x h; omega
  ·have := a5T 16 x h; omega
 ·show ((List.range f.Params.toNat).map fun (j : Nat) => (j : Int)).length <= 4
  simp; omega
 ·show ((j5 f f.Locals.length f.Locals.length).take f.Params.toNat).length = ((List.range f.Params.toNat).map fun (j : Nat) => (j : Int)).length
  rw [List.length_take, hcl]; simp; omega
 ·show 0 <= ((a0s f f.Locals.length : Nat) : Int) /\ ((a0s f f.Locals.length : Nat) : Int) <= 64
  omega
 ·show (if 0 <= f.Keep then a0N f f.Keep.toNat else -1) = -1 \/ a6s { a3S f with Nodes := nds } (if 0 <= f.Keep then a0N f f.Keep.toNat else -1) = true
  by_cases h : 0 <= f.Keep
  ·rw [if_pos h]
   exact .inr (a6v (g := { a3S f with Nodes := nds }) rfl zO (by unfold a2V; rw [Bool.or_eq_true]; exact .inl zE)).2
  ·rw [if_neg h]; exact .inl rfl
 ·refine a5b.2 fun j x hx => ?_
  have hj : j < f.Params.toNat := by
   have := (List.getElem?_eq_some_iff.1 (show ((List.range f.Params.toNat).map fun (j : Nat) => (j : Int))[j]? = some x from hx)).1
   simpa using this
  have hxe : x = (j : Int) := by
   have h9 : ((List.range f.Params.toNat).map fun (j : Nat) => (j : Int))[j]? = some x := hx
   simp [hj] at h9
   exact h9.symm
  subst hxe
  have hjl : j < f.Locals.length := by omega
  rw [Nat.zero_add]
  unfold c6B
  simp only [Bool.and_eq_true, decide_eq_true_eq]
  refine ⟨⟨by omega, by show (j : Int) < ((f.Locals ++ j3 16).length : Nat); rw [List.length_append]; omega⟩, ?_, ?_⟩
  ·rw [Bool.not_eq_true', decide_eq_false_iff_not]
   show (j : Int) ∉ ((List.range f.Params.toNat).map fun (j : Nat) => (j : Int)).take j
   intro h
   rw [<- List.map_take, List.mem_map] at h
   obtain ⟨y, h1, h2⟩ := h
   have h3 : y < j := by
    obtain ⟨q, hq⟩ := List.getElem?_of_mem h1
    have h4 := (List.getElem?_eq_some_iff.1 hq).1
    rw [List.length_take, List.length_range] at h4
    rw [List.getElem?_take_of_lt zO, List.getElem?_range zO] at hq
    cases hq
    omega
   omega
  ·have hi : ((j5 f f.Locals.length f.Locals.length).take f.Params.toNat)[j]? = some (a0N f j) := by
    rw [List.getElem?_take_of_lt hj, <- a7n]; exact a3t hjl
   show (match ((j5 f f.Locals.length f.Locals.length).take f.Params.toNat)[j]? with | none => false | some k => decide (k = -1) || (a6s { a3S f with Nodes := nds } k && b1F { a3S f with Nodes := nds } 0 (j : Int))) = true
   rw [hi]
   simp only [Bool.or_eq_true, decide_eq_true_eq, Bool.and_eq_true]
   by_cases hn : a2V f j = true
   ·exact .inr ⟨(a6v (g := { a3S f with Nodes := nds }) rfl hjl hn).2, b1i (f := f) rfl zO (by simpa using a8I F hn)⟩
   ·exact .inl (by unfold a0N; rw [if_neg hn])
 ·unfold c6C
  simp only [decide_eq_true_eq]
  show 1 <= nds.length /\ nds.length <= 4096 /\ (0 : Int) <= 0 /\ (0 : Int) < nds.length
  omega
end
end Go.Proofs.Ytnpemocpfdgaoaa

/- build: what Build answers, plainly. -/
namespace Go.Proofs.Ytnpemocpfdgaoaa
open Go Go.Ab Go.RowKit
set_option maxRecDepth 20000
set_option maxHeartbeats 1000000
section
variable {p : Program}
def b5P (p : Program) (f : Func) (g : a9) : Prop := ∃ nds rd st, g = { a3S f with Nodes := nds } /\ nds.length = f.Code.length /\ a7Z p f rd st /\ ndS p f rd st f.Code.length = some nds
theorem c3M {gs : List a9} (hgs : ∀ (k : Nat) f, p.Funcs[k]? = some f -> ∃ g, gs[k]? = some g /\ b5P p f g) {f : Func} {nds : List b8} : GH p f gs { a3S f with Nodes := nds } := by
 refine ⟨rfl, rfl, rfl, fun j h hj => ?_⟩
 obtain ⟨a1, a2, a3⟩ := g9 hj
 obtain ⟨g, b1, nds, rd, st, rfl, _⟩ := hgs _ h a3
 exact ⟨_, by unfold j9; rw [if_pos a1]; exact b1, rfl, rfl, rfl⟩
theorem b2N (hp : a5u p = true) (hu : ∀ f ∈ p.Funcs, ∀ k ∈ f.Locals, 0 <= k) (nd : ∀ f ∈ p.Funcs, ¬ Deep p f) {T : a0r}
  (hT : ∀ (k : Nat) f, p.Funcs[k]? = some f -> ∃ rd st, T.Reached[k]? = some rd /\ T.Stacks[k]? = some st /\ a7Z p f rd st) :
  ∃ gs, gsS p T p.Funcs.length = some gs /\ gs.length = p.Funcs.length /\ (∀ (k : Nat) f, p.Funcs[k]? = some f -> ∃ g, gs[k]? = some g /\ b5P p f g) /\ b1a ⟨gs⟩ = true := by
 have hF : ∀ {f}, f ∈ p.Funcs -> FOk p f := fun h => a6t hp h
 have hpk : ∀ h ∈ p.Funcs, (0 <= h.Params /\ h.Params <= h.Locals.length) /\ ∀ k ∈ h.Locals, k = 0 \/ k = 1 := fun h hh => by
  obtain ⟨b1, _, _, _, _, b6⟩ := a1l (hF hh)
  exact ⟨b1, fun k hk => by have := b6 k hk; have := hu h hh k hk; omega⟩
 have hnode : ∀ {k : Nat} {f rd st}, p.Funcs[k]? = some f -> a7Z p f rd st -> ∀ j, j < f.Code.length -> ∃ n, ndK p f rd st j = some n := fun {k f rd st} hf hG j hj => by
  have hm := List.mem_of_getElem? hf
  have H : GH p f (p.Funcs.map a3S) { a3S f with Nodes := List.replicate f.Code.length zN } := by
   refine ⟨rfl, rfl, rfl, fun j h hj => ?_⟩
   obtain ⟨a1, a2, a3⟩ := g9 hj
   exact ⟨a3S h, by unfold j9; rw [if_pos a1, List.getElem?_map, a3]; rfl, rfl, rfl, rfl⟩
  obtain ⟨n, h1, _⟩ := b3i (hF hm) H zS hpk hm hG (nd f hm) hj
  exact ⟨n, h1⟩
 have hgs : ∀ k, k <= p.Funcs.length -> ∃ gs, gsS p T k = some gs /\ gs.length = k /\ ∀ j, j < k -> ∀ f, p.Funcs[j]? = some f -> ∃ g, gs[j]? = some g /\ b5P p f g := by
  intro k
  induction k with
  | zero => intro _; exact ⟨[], rfl, rfl, fun j hj => absurd hj zO⟩
  | succ k ih =>
    intro hk
    obtain ⟨gs, h1, h2, h3⟩ := ih zO
    have hf : p.Funcs[k]? = some (p.Funcs[k]'zO) := List.getElem?_eq_getElem _
    generalize p.Funcs[k]'zO = f at hf
    obtain ⟨rd, st, q1, q2, q3⟩ := hT k f hf
    have hrl : rd.length = f.Code.length := by obtain ⟨R, _, h, _⟩ := q3; exact h
    obtain ⟨nds, n1, n2⟩ := b1q (hF (List.mem_of_getElem? hf)) hrl (hnode hf q3)
    refine ⟨gs ++ [{ a3S f with Nodes := nds }], ?_, by simp [h2], fun j hj f' hf' => ?_⟩
    ·unfold gsS
     rw [h1, Option.bind_some, hf, Option.bind_some, q1, Option.bind_some, q2, Option.bind_some, n2]; rfl
    ·by_cases hjk : j < k
     ·obtain ⟨g, a, b⟩ := h3 j hjk f' hf'
      exact ⟨g, by rw [List.getElem?_append_left zO]; exact a, b⟩
     ·have : j = k := by omega
      subst this
      rw [hf] at hf'; cases hf'
      exact ⟨_, by rw [List.getElem?_append_right zO, h2]; simp, nds, rd, st, rfl, (a1X n1).1, q3, n1⟩
 obtain ⟨gs, h1, h2, h3⟩ := hgs p.Funcs.length (Nat.le_refl _)
 have h4 : ∀ (k : Nat) f, p.Funcs[k]? = some f -> ∃ g, gs[k]? = some g /\ b5P p f g := fun k f hf => h3 k (List.getElem?_eq_some_iff.1 hf).1 f hf
 refine ⟨gs, h1, h2, h4, ?_⟩
 have hall : ∀ g ∈ gs, ∃ f, f ∈ p.Funcs /\ b5P p f g := fun g hg => by
  obtain ⟨k, hk⟩ := List.getElem?_of_mem hg
  have hlt := (List.getElem?_eq_some_iff.1 hk).1
  have hf : p.Funcs[k]? = some (p.Funcs[k]'zO) := List.getElem?_eq_getElem _
  obtain ⟨g', a, b⟩ := h4 k _ hf
  rw [hk] at a; cases a
  exact ⟨_, List.getElem_mem _, b⟩
 have hgd := hp
 unfold a5u encP a3r at hgd
 simp only [Bool.and_eq_true, decide_eq_true_eq] at hgd
 obtain ⟨⟨l1, _⟩, ⟨_, l2⟩, l3, _⟩ := hgd
 unfold b1a
 simp only [Bool.and_eq_true, decide_eq_true_eq, List.all_eq_true]
 refine ⟨by show 1 <= gs.length /\ gs.length <= 16; omega, ?_, fun g hg => ?_, fun g hg n hn => ?_⟩
 ·have hf : p.Funcs[0]? = some (p.Funcs[0]'zO) := List.getElem?_eq_getElem _
  generalize hfe : p.Funcs[0]'zO = f at hf
  obtain ⟨g, a, nds, rd, st, rfl, _⟩ := h4 0 f hf
  unfold a9o at l3
  unfold c1v
  show (match gs[0]? with | some f => decide (f.Params.length = 0) && !f.Result | none => false) = true
  rw [a]
  cases hq : p.Funcs with
  | nil => rw [hq] at l3; cases l3
  | cons x l =>
    rw [hq] at l3 hf
    cases hf
    simp only [Bool.and_eq_true, decide_eq_true_eq] at l3 ⊢
    refine ⟨?_, l3.2⟩
    show ((List.range f.Params.toNat).map fun (j : Nat) => (j : Int)).length = 0
    simp [l3.1]
 ·obtain ⟨f, hf, nds, rd, st, rfl, e1, _⟩ := hall g hg
  exact b5s (hF hf) e1
 ·obtain ⟨f, hf, nds, rd, st, rfl, e1, e2, e3⟩ := hall g hg
  obtain ⟨j, j1, j2⟩ := b1p e3 n hn
  obtain ⟨n', k1, k2⟩ := b3i (hF hf) (c3M h4 (f := f) (nds := nds)) e1 hpk hf e2 (nd f hf) j1
  rw [j2] at k1; cases k1
  exact k2
end
end Go.Proofs.Ytnpemocpfdgaoaa

/- build.Build as a plain function. -/
namespace Go.Proofs.Ytnpemocpfdgaoaa
open Go Go.Ab Go.RowKit
set_option maxRecDepth 20000
set_option maxHeartbeats 1000000
def b5Q (p : Program) : Bool := decide (p.Funcs.length < 100000) && p.Funcs.all fun f => decide (f.Locals.length < 1000) && (decide (f.Code.length < 100000) && (decide (0 <= f.Params /\ f.Params <= f.Locals.length) && (decide (f.Keep < f.Locals.length) && f.Locals.all fun k => decide (0 <= k /\ k < 256))))
def b5R (T : a0r) : Bool := (T.Reached.all fun rd => decide (rd.length < 100000)) && T.Stacks.all fun st => st.all fun s => decide (s.length < 100000) && s.all fun k => decide (0 <= k /\ k < 256)
def k8 (fuel : Nat) (p : Program) : Option (c9 × Int) := match r7 1048577 p with
 | none => none
 | some (o, e) => if e ≠ 0 then some (⟨[]⟩, e) else match o with
   | none => none
   | some T => if (b5Q p && b5R T) = true then (gsS p T p.Funcs.length).map fun gs => (⟨gs⟩, 0) else none
theorem u5 {fuel : Nat} {p : Program} {r : c9 × Int} (h : k8 fuel p = some r) : p3 Try.prog 13 [Program.av p] (.tup [c9.av r.1, .int .i64 r.2]) := by
 have key : Tri Try.prog 13 [Program.av p] [] (fun x L' => x = .tup [c9.av r.1, .int .i64 r.2] /\ L' = []) := by
  unfold k8 at h
  cases hk : r7 1048577 p with
  | none => rw [hk] at h; cases h
  | some oe =>
    obtain ⟨o, e⟩ := oe
    rw [hk] at h
    dsimp only at h
    by_cases he : e ≠ 0
    ·rw [if_pos he] at h; cases h
     exact a9g hk he
    ·rw [if_neg he] at h
     have he0 : e = 0 := by simpa using he
     subst he0
     cases o with
     | none => cases h
     | some T =>
       dsimp only at h
       split at h
       ·rename_i hb
        obtain ⟨gs, hg, rfl⟩ := Option.map_eq_some_iff.1 h
        unfold b5Q b5R at hb
        simp only [Bool.and_eq_true, decide_eq_true_eq, List.all_eq_true] at hb
        exact b0Q hk (fun f hf => ⟨(hb.1.2 f hf).1, (hb.1.2 f hf).2.1, (hb.1.2 f hf).2.2.1, (hb.1.2 f hf).2.2.2.1, (hb.1.2 f hf).2.2.2.2⟩) hb.1.1 hb.2.1 hb.2.2 hg
       ·cases h
 obtain ⟨v, h7, rfl⟩ := Tri.pure (Q' := fun x => x = .tup [c9.av r.1, .int .i64 r.2]) 1 key (fun v L' S hq hS => ⟨_, by rw [hq.1]; exact a0y (a0i ⟨c9.enc.blw r.1 0, rfl, trivial⟩) (.refl _), rfl⟩)
 exact h7
section
variable {p : Program}
theorem a8K (hl : p.Funcs.length <= 1048576) (hu : ∀ f ∈ p.Funcs, ∀ k ∈ f.Locals, 0 <= k) {fuel : Nat} : ∃ o e, r7 1048577 p = some (o, e) /\ c3K p (o, e) /\ ((e ≠ 0 /\ k8 fuel p = some (⟨[]⟩, e)) \/
  (e = 0 /\ ∃ gs, k8 fuel p = some (⟨gs⟩, 0) /\ gs.length = p.Funcs.length /\ (∀ (k : Nat) f, p.Funcs[k]? = some f -> FOk p f /\ ∃ g, gs[k]? = some g /\ b5P p f g) /\ b1a ⟨gs⟩ = true)) := by
 obtain ⟨⟨o, e⟩, hk, hA⟩ := b2L p hl
 refine ⟨o, e, hk, hA, ?_⟩
 by_cases he : e = 0
 ·subst he
  refine .inr ⟨rfl, ?_⟩
  have hA' := hA
  unfold c3K at hA'
  rcases hA' with ⟨_, h⟩ | ⟨_, _, h⟩ | ⟨_, _, _, h⟩ | ⟨_, _, h⟩ | ⟨_, _, _, h⟩ | ⟨hp, nd, T, h, t1, t2, hT⟩
  ·simp at h
  ·simp at h
  ·simp at h
  ·simp at h
  ·simp at h
  ·obtain ⟨rfl, _⟩ := Prod.mk.inj h
   obtain ⟨gs, g1, g2, g3, g4⟩ := b2N hp hu nd hT
   have hF : ∀ {f}, f ∈ p.Funcs -> FOk p f := fun h => a6t hp h
   have b1 : b5Q p = true := by
    unfold b5Q
    simp only [Bool.and_eq_true, decide_eq_true_eq, List.all_eq_true]
    have hgd := hp
    unfold a5u a3r at hgd
    simp only [Bool.and_eq_true, decide_eq_true_eq] at hgd
    refine ⟨by have := hgd.2.1.2; omega, fun f hf => ?_⟩
    obtain ⟨c1, c2, c3, c4, c5, c6⟩ := a1l (hF hf)
    exact ⟨by omega, by omega, c1, c5, fun k hk => by have := c6 k hk; have := hu f hf k hk; omega⟩
   have hall : ∀ k, k < p.Funcs.length -> ∃ f rd st, f ∈ p.Funcs /\ T.Reached[k]? = some rd /\ T.Stacks[k]? = some st /\ a7Z p f rd st := fun k hk => by
    have hf : p.Funcs[k]? = some p.Funcs[k] := List.getElem?_eq_getElem hk
    obtain ⟨rd, st, a, b, c⟩ := hT k _ hf
    exact ⟨_, rd, st, List.getElem_mem _, a, b, c⟩
   have b2 : b5R T = true := by
    unfold b5R
    simp only [Bool.and_eq_true, decide_eq_true_eq, List.all_eq_true]
    refine ⟨fun rd hrd => ?_, fun st hst s hs => ?_⟩
    ·obtain ⟨k, hk⟩ := List.getElem?_of_mem hrd
     obtain ⟨f, rd', st', hf, a, b, R, _, c1, _⟩ := hall k (by have := (List.getElem?_eq_some_iff.1 hk).1; omega)
     rw [hk] at a; cases a
     obtain ⟨_, _, _, c4, _⟩ := a1l (hF hf)
     omega
    ·obtain ⟨k, hk⟩ := List.getElem?_of_mem hst
     obtain ⟨f, rd', st', hf, a, b, R, hR, c1, c2, c3⟩ := hall k (by have := (List.getElem?_eq_some_iff.1 hk).1; omega)
     rw [hk] at b; cases b
     obtain ⟨j, hj⟩ := List.getElem?_of_mem hs
     have hjl := (List.getElem?_eq_some_iff.1 hj).1
     obtain ⟨_, d2⟩ := c3 j zO
     rw [hj] at d2
     have hse := Option.some.inj d2
     cases hRj : R j with
     | none => rw [hRj] at hse; subst hse; exact ⟨by show 0 < _; omega, nofun⟩
     | some s1 =>
       rw [hRj] at hse
       have hse' : s = s1 := hse
       subst hse'
       have d := (hR.2 j s hRj).1
       have h16 := d.le (nd f hf)
       obtain ⟨_, _, _, _, _, c6⟩ := a1l (hF hf)
       have hk2 := a7p (fun k hk => by have := c6 k hk; have := hu f hf k hk; omega) d
       exact ⟨by omega, fun k hk => by have := hk2 k hk; omega⟩
   refine ⟨gs, ?_, g2, fun k f hf => ⟨hF (List.mem_of_getElem? hf), g3 k f hf⟩, g4⟩
   unfold k8
   rw [hk]
   simp only [ne_eq, not_true_eq_false, if_false, b1, b2, Bool.and_self, if_true, g1, Option.map_some]
 ·refine .inl ⟨he, ?_⟩
  unfold k8
  rw [hk]
  simp only [ne_eq, he, not_false_eq_true, if_true]
end
end Go.Proofs.Ytnpemocpfdgaoaa

/- BuildHeads: what must be answered first. -/
namespace Go.Proofs.Ytnpemocpfdgaoaa
open Go Go.Ab
set_option maxRecDepth 20000
set_option maxHeartbeats 2000000
def c3N : FC := .reg [⟨(some 0), none, .op (.mv (.v (.bool false)))⟩] []
def c3O : FC := .reg [⟨(some 4), none, .op (.build [(.int .u8 0), (.int .i64 0), (.int .u64 0)] [(0, 1, (.v (.int .u8 1))), (2, 1, (.v (.int .u64 7)))])⟩,  ⟨(some 5), none, .op (.build [(.int .u8 0), (.int .i64 0), (.int .u64 0)] [(0, 1, (.v (.int .u8 29)))])⟩,  ⟨(some 6), none, .op (.build [(.int .u8 0), (.int .i64 0), (.int .u64 0)] [(0, 1, (.v (.int .u8 24)))])⟩,  ⟨(some 7), none, .op (.bsl (some 3) [(.int .u8 0), (.int .i64 0), (.int .u64 0)] 3 [(0, 3, (.t 4)), (3, 3, (.t 5)), (6, 3, (.t 6))])⟩,  ⟨(some 8), none, .op (.build [(.int .i64 0), .nils, (.bool false), (.int .i64 0), .nils] [(3, 1, (.v (.int .i64 (-1)))), (4, 1, (.t 7))])⟩,  ⟨(some 9), none, .op (.bsl (some 5) [(.int .i64 0), .nils, (.bool false), (.int .i64 0), .nils] 1 [(0, 5, (.t 8))])⟩,  ⟨(some 10), none, .op (.build [.nils] [(0, 1, (.t 9))])⟩,  ⟨(some 1), none, .op (.new [.nils])⟩,  ⟨none, none, .op (.store 1 (.t 1) (.t 10))⟩] []
def c3P : FC := .reg [⟨(some 12), none, .op (.load (some 1) (.t 1))⟩,  ⟨(some 13), none, .call 13 [(.t 12)]⟩,  ⟨(some 11), none, .op (.mv (.t 13))⟩,  ⟨(some 14), none, .op (.ext 0 (.t 11))⟩,  ⟨(some 15), none, .op (.ext 1 (.t 11))⟩,  ⟨(some 2), none, .op (.new [.nils])⟩,  ⟨none, none, .op (.store 1 (.t 2) (.t 14))⟩,  ⟨(some 3), none, .op (.mv (.t 15))⟩] []
def c3Q : FC := .reg [⟨(some 16), none, .op (.mv (.t 3))⟩,  ⟨(some 17), none, .op (.bin .none .eql (.t 16) (.v (.int .i64 0)))⟩,  ⟨(some 18), none, .op (.mv (.t 17))⟩,  ⟨(some 19), some (18, true), .op (.load (some 1) (.t 2))⟩,  ⟨(some 20), some (18, true), .call 15 [(.t 19), (.v (.bool false))]⟩,  ⟨(some 21), none, .op (.pick (.t 18) (.t 20) (.v (.bool false)))⟩,  ⟨(some 22), none, .op (.mv (.t 21))⟩,  ⟨(some 23), some (22, true), .op (.load (some 1) (.t 2))⟩,  ⟨(some 24), some (22, true), .call 27 [(.t 23), (.v (.bool false)), (.v .nils), (.v (.int .i64 20))]⟩,  ⟨(some 25), some (22, true), .op (.nchk (.t 24))⟩,  ⟨(some 26), some (22, true), .op (.fad 6 (.t 25))⟩,  ⟨(some 27), some (22, true), .op (.load none (.t 26))⟩,  ⟨(some 28), some (22, true), .op (.len .sl (.t 27))⟩,  ⟨(some 29), some (22, true), .op (.bin .none .eql (.t 28) (.v (.int .i64 1)))⟩,  ⟨(some 30), none, .op (.pick (.t 22) (.t 29) (.v (.bool false)))⟩,  ⟨(some 0), none, .op (.mv (.t 30))⟩] []
def c3R : FC := .seq c3Q FC.ret
def c3S : FC := .seq c3P c3R
def c3T : FC := .seq c3O c3S
def c3U : FC := .seq c3N c3T
def c7S : FC := c3U
theorem c7T : Fn3 Try.prog 12 31 [(0, none)] c7S := ⟨_, _, Try.func12, rfl, rfl, rfl, by kernel_rfl⟩

def a8a : Program := ⟨[⟨0, [], false, -1, [⟨1, 0, 7⟩, ⟨29, 0, 0⟩, ⟨24, 0, 0⟩]⟩]⟩
def c2h (g : a9) : Bool := decide (g.Kinds.length < 1000000) && (decide (g.Cells < 1000000) && (decide (g.Params.length < 1000000) && g.Nodes.all fun n => decide (n.Args.length < 100000000)))
theorem b5t {g : a9} (h : c2h g = true) : okG g := by
 unfold c2h at h
 simp only [Bool.and_eq_true, List.all_eq_true, decide_eq_true_eq] at h
 exact h
def c3V (s : S8) (rows : List F8) : Bool := decide (0 <= s.steps /\ s.steps < 4611686018427387904) && (decide (rows.length < 9999998) && (decide (s.pans.length < 9999998) && (decide (0 <= s.depth /\ s.depth < 1000000000) && ((rows.all fun z => decide (z.wa.length < 100000000)) && (decide (waS rows < 900000000) && decide (s.evs.length < 1000000000))))))
theorem b5u {gs : List a9} {s : S8} {rows : List F8} (hok : ∀ g ∈ gs, okG g) (h0 : s.ek = 0) (h : c3V s rows = true) : Bd8 gs s rows := by
 unfold c3V at h
 simp only [Bool.and_eq_true, List.all_eq_true, decide_eq_true_eq] at h
 obtain ⟨a, b, c, d, e, f, g⟩ := h
 exact ⟨hok, h0, a, b, c, d, e, f, g⟩
def a7q (gs : List a9) : Nat -> S8 × List F8 -> Bool
 | 0, _ => true
 | n + 1, t => if t.1.ek = 0 then c3V t.1 t.2 && (match st8 gs t.1 t.2 with
   | none => true
   | some t' => decide (t'.1.steps = t.1.steps + 1) && a7q gs n t') else true
theorem a7r {gs : List a9} (hok : ∀ g ∈ gs, okG g) : ∀ (n : Nat) (t : S8 × List F8), a7q gs n t = true -> b0X gs n t
 | 0, _, _ => trivial
 | n + 1, t, h => fun h0 => by
   unfold a7q at h
   rw [if_pos h0, Bool.and_eq_true] at h
   refine ⟨b5u hok h0 h.1, fun t' ht => ?_⟩
   have h2 := h.2
   rw [ht] at h2
   simp only [Bool.and_eq_true, decide_eq_true_eq] at h2
   exact ⟨h2.1, a7r hok n t' h2.2⟩
theorem b1r : (k8 0 a8a).bind (fun r => (b0R r.1.Funcs 0 [] 0).bind fun f => (a9w r.1.Funcs 20 ({ s08 [] with depth := 1 }, [f])).map fun t => (r.2, t8 r.1 false, r.1.Funcs.all c2h, a7q r.1.Funcs 20 ({ s08 [] with depth := 1 }, [f]), t.1.evs.length)) = some (0, some true, true, true, 1) := by kernel_rfl
end Go.Proofs.Ytnpemocpfdgaoaa

/- BuildHeads: the walk of what must be answered first. -/
namespace Go.Ab
theorem Ev.weaka {P f args args' r} {σ σ' : Hp} (h : Ev P f args' σ r σ') (ha : awL args args') : Ev P f args σ r σ' := by
 intro g w vals hw hv
 exact h g w vals hw ⟨by rw [hv.1, a0J ha], fun j h1 h2 => (hv.2 j (by rw [a0J ha]; exact h1) h2).w (a1w ha j _ h1)⟩
theorem Tri.argw {P : Program} {f : FuncId} {args args' : List AV} {L : List It} {Q : AV -> List It -> Prop} (c : Tri P f args' L Q) (ha : awL args args') : Tri P f args L Q := fun R S hS => by
 obtain ⟨r, S', h1, h2⟩ := c R S hS
 exact ⟨r, S', h1.weaka ha, h2⟩
end Go.Ab
namespace Go.Proofs.Ytnpemocpfdgaoaa
open Go Go.Ab
set_option maxRecDepth 20000
set_option maxHeartbeats 2000000
def b1s : AV := .agg [.sl true 5 [.agg [.int .i64 0, .nils, .bool false, .int .i64 (-1), .sl true 3 [.agg [.int .u8 1, .int .i64 0, .int .u64 7], .agg [.int .u8 29, .int .i64 0, .int .u64 0], .agg [.int .u8 24, .int .i64 0, .int .u64 0]]]]]
theorem b2O : AVw b1s (Program.av a8a) := by
 refine .agg rfl fun j h1 h2 => ?_
 match j, h1 with
 | 0, _ =>
   refine .sl (fun h => rfl) rfl (fun i a b => ?_) (fun i a b j c d => ?_)
   ·match i, a with
    | 0, _ => rfl
   ·match i, a with
    | 0, _ =>
      match j, c with
      | 0, _ => exact .refl _
      | 1, _ => exact .nil
      | 2, _ => exact .refl _
      | 3, _ => exact .refl _
      | 4, _ =>
        refine .sl (fun h => rfl) rfl (fun i a b => ?_) (fun i a b j c d => ?_)
        ·match i, a with
         | 0, _ => rfl
         | 1, _ => rfl
         | 2, _ => rfl
        ·match i, a with
         | 0, _ => exact .refl _
         | 1, _ => exact .refl _
         | 2, _ => exact .refl _
theorem a9p {G : c9} {f : F8} {t : S8 × List F8} (hb : k8 0 a8a = some (G, 0)) (hr : t8 G false = some true) (hf : b0R G.Funcs 0 [] 0 = some f) (hok : ∀ g ∈ G.Funcs, okG g) (h2 : a9w G.Funcs 20 ({ s08 [] with depth := 1 }, [f]) = some t) (h3 : b0X G.Funcs 20 ({ s08 [] with depth := 1 }, [f])) (h4 : t.1.evs.length = 1) :
  Tri Try.prog 12 [] [] (fun v L' => v = .bool true) := by
 refine j7 mixed c7T zS [1, 2] (fun R S hS => ?_)
 refine aU ?_
 refine z7 hS rfl (fun o1 S hS => ?_)
 refine aU ?_
 refine E_stS hS rfl (xv := b1s) rfl Rp.here rfl rfl zqV (fun S hS => ?_)
 refine aU ?_
 refine b7 hS rfl (.head _) (v := b1s) rfl ?_
 refine aU ?_
 refine p6 (u5 hb) rfl (by exact ⟨b2O, trivial⟩) rfl (a0i ⟨c9.enc.blw G 0, rfl, trivial⟩) ?_
 refine aU ?_
 refine z7 hS rfl (fun o2 S hS => ?_)
 refine E_stS hS rfl (xv := c9.av G) rfl Rp.here rfl rfl zqV (fun S hS => ?_)
 refine aU ?_
 refine b7 hS rfl (.head _) (v := c9.av G) rfl ?_
 refine aU ?_
 refine a0x (a2b hr) rfl (f9 ⟨c9.enc.blw G 0, rfl, trivial⟩) rfl ?_
 refine aU ?_
 refine b7 hS rfl (.head _) (v := c9.av G) rfl ?_
 refine aU ?_
 refine a2S ((b2D (tape := []) (fuel := 20) hf hok (by show 0 < _; omega) zD h2 h3).argw (by exact ⟨.refl _, .refl _, .nil, .refl _, trivial⟩)) hS rfl Spl.nil (fun x S L' hL hS => ?_)
 obtain ⟨o3, rows, rj, pj, k1, rfl, rfl⟩ := hL
 refine aU ?_
 refine b7 hS rfl (.head _) (v := .ref o3.te o3.tv 0 1 (some 2)) (by rw [<- h4]; rfl) ?_
 refine aU ?_
 refine f7 ?_
 refine aE ?_
 exact ⟨trivial, _, rfl, [], rfl, hS.sub (List.Sublist.trans (.cons _ (.cons _ (List.Sublist.refl _))) (List.sublist_append_right _ _))⟩
theorem a7s : p3 Try.prog 12 [] (.bool true) := by
 obtain ⟨⟨G, e⟩, hb, h2⟩ := Option.bind_eq_some_iff.1 b1r
 obtain ⟨f, hf, h3⟩ := Option.bind_eq_some_iff.1 h2
 obtain ⟨t, ht, h4⟩ := Option.map_eq_some_iff.1 h3
 dsimp only at hf ht h4
 obtain ⟨he, hr, ho, hs, hl⟩ : e = 0 /\ t8 G false = some true /\ G.Funcs.all c2h = true /\ a7q G.Funcs 20 ({ s08 [] with depth := 1 }, [f]) = true /\ t.1.evs.length = 1 := by
  simpa only [Prod.mk.injEq] using h4
 subst he
 have hok : ∀ g ∈ G.Funcs, okG g := fun g hg => b5t (List.all_eq_true.1 ho g hg)
 obtain ⟨v, h7, rfl⟩ := Tri.pure (Q' := fun x => x = .bool true) 1 (a9p hb hr hf hok ht (a7r hok _ _ hs) hl) (fun v L' S hq hS => ⟨.bool true, by rw [hq]; exact a0y rfl (.refl _), rfl⟩)
 exact h7
section
variable {p : Program} {f : Func} {b cl : Nat} {cs : List AV} {cell : List Int}
theorem a5h {s : List Int} {fi : Int} {g : Func} {n : Nat} (h0 : w9 none cs 0 = some (.cptr (Program.cells p) 0)) (hf : w9 none cs 1 = some (.cptr (Func.cells f) 0)) (hl : f.Locals.length < 1000000) (hs : s.length < 1000000) (hk : ∀ k ∈ s, 0 <= k /\ k < 256) (hg : j9 p.Funcs fi = some g) (hn : (s.length : Int) - g.Params = n) (hn2 : n <= s.length) :
  Tri Try.prog 89 [.ptr b 0 0, .sl false 1 (s.map (avI .u8)), .int .i64 fi] [(b, 0, cs)] (fun x L' => ∃ l : Nat, x = .ref l (s.length - n) 0 (s.length - n) none /\ L' = [(l, s.length - n, flat (avI .i64) (m9 f s n (s.length - n))), (b, 0, cs)]) := by
 refine j7 mixed c6u zS [] (fun R S hS => ?_)
 refine c7 ?_
 refine a8 ?_
 refine aS ?_
 refine a7 ?_
 refine d7 ?_
 refine aQ ?_
 refine aS ?_
 refine a7 ?_
 refine b6G 7 none hS rfl (fun l S hS => ?_)
 refine aU ?_
 refine b7 hS rfl (.tail _ (.head _)) (v := .cptr (Program.cells p) 0) h0 ?_
 refine aU ?_
 refine g8 (esh := some 5) (f := Func.av) (ys := p.Funcs) (y := g) rfl rfl hg ?_
 refine aU ?_
 rw [show IntKind.i64.wrap ((s.length : Int) - g.Params) = (n : Int) by rw [hn, p4 zO]]
 refine p5 (a2t (σ := Nat) (fun m => [(0, .ptr b 0 0), (1, .sl false 1 (s.map (avI .u8))), (7, .ref l m 0 m none), (8, .int .i64 ((n + m : Nat) : Int))]) (fun m => (l, m, flat (avI .i64) (m9 f s n m)) :: ([(b, 0, cs)] ++ R)) (fun m => m <= s.length - n) (fun m => s.length - n - m) 0 hS (Nat.zero_le _) (a5n ⟨.refl _, .refl _, .refl _, by simp; exact .refl _, trivial⟩) (fun m S hI hS => ?_))
 have hlm : (m9 f s n m).length = m := by simp [m9]
 refine aU ?_
 by_cases hm : m < s.length - n
 ·refine E_cs (t := true) (by show AV.bool (decide (((n + m : Nat) : Int) < (s.length : Int))) = _; simp; omega) (fun _ => ?_) (fun h => by cases h)
  have hat : s[n + m]? = some s[n + m] := List.getElem?_eq_getElem zO
  refine aU ?_
  refine p5 ?_
  refine aU ?_
  refine g8 (esh := none) (f := avI .u8) (ys := s) (y := s[n + m]) (n := ((n + m : Nat) : Int)) rfl rfl (by unfold j9; rw [if_pos zO]; exact hat) ?_
  refine aU ?_
  refine a7f (w7 (d := ((n + m : Nat) : Int)) hf hl zO (hk _ (List.getElem_mem _))) hS rfl (Spl.cons (Pk.there Pk.here) Spl.nil) ?_
  refine aU ?_
  refine a3m (o := l) (ver := m) (l := m9 f s n m) (m := [i9 f ((n + m : Nat) : Int) s[n + m]]) (j := []) hS (d8 .i64) (by show AV.ref l m 0 m none = _; rw [hlm]) (u3 [i9 f ((n + m : Nat) : Int) s[n + m]]) (by rw [List.append_nil]; exact Rp.here) ⟨by simp; omega, by simp; omega⟩ (fun S hS => ?_)
  refine aU ?_
  refine aE ?_
  have e : m9 f s n m ++ [i9 f ((n + m : Nat) : Int) s[n + m]] = m9 f s n (m + 1) := by rw [a5R, List.getD_eq_getElem?_getD, hat]; simp
  rw [e] at hS ⊢
  rw [show (m9 f s n (m + 1)).length = m + 1 by simp [m9]]
  refine aU ?_
  exact s7 ⟨m + 1, by omega, by omega, hS, a5n ⟨.refl _, .refl _, .refl _, by
   show a4m none (.int .i64 (IntKind.i64.wrap (((n + m : Nat) : Int) + 1))) (.int .i64 ((n + (m + 1) : Nat) : Int))
   rw [p4 zO, show ((n + m : Nat) : Int) + 1 = ((n + (m + 1) : Nat) : Int) by omega]; exact .refl _, trivial⟩⟩
 ·refine E_cs (t := false) (by show AV.bool (decide (((n + m : Nat) : Int) < (s.length : Int))) = _; simp; omega) (fun h => by cases h) (fun _ => ?_)
  have hme : m = s.length - n := by omega
  subst hme
  refine a3f ?_
  refine aE ?_
  refine d7 ?_
  refine aQ ?_
  refine aS ?_
  refine a7 ?_
  refine d7 ?_
  refine aU ?_
  refine f7 ?_
  refine aE ?_
  exact ⟨trivial, _, rfl, _, ⟨l, rfl, rfl⟩, hS⟩
end
end Go.Proofs.Ytnpemocpfdgaoaa

/- build: a node, instruction by instruction (printed by mkO.py). -/
namespace Go.Proofs.Ytnpemocpfdgaoaa
open Go Go.Ab
set_option maxRecDepth 20000
set_option maxHeartbeats 2000000
section
variable {p : Program} {f : Func} {b cl : Nat} {cs : List AV} {cell s : List Int} {at_ : Int} {i : Instr}
theorem c7U (B : NB p f cl cs cell s at_) (hi : j9 f.Code at_ = some i) (hop : i.Op = 1) :
  Tri Try.prog 54 [.ptr b 0 0, .int .i64 at_, .sl false 1 (s.map (avI .u8))] [(b, 0, cs), (cl, 0, flat (avI .i64) cell)] (fun x L' => x = .agg (nX .nils { (⟨1, 0, i9 f s.length 0, 0, 0, 0, 0, 0, i.Imm, [], 0, 0⟩ : b8) with Next := o9 f at_ i }) /\ L' = [(b, 0, cs), (cl, 0, flat (avI .i64) cell)]) := by
 have hs0 := B.hs
 refine j7 mixed a1D zS [3, 5, 6, 7, 8, 11, 12] (fun R S hS => j4 B.hf B.hl zO hi hS (fun o3 o5 o6 o7 o8 o11 S hS => ?_))
 rw [hop]
 (repeat refine j6 rfl rfl ?_)
 refine x7 rfl rfl ?_
 refine aU ?_
 refine b7 hS rfl (.tail _ (.tail _ (.head _))) (v := .int .u64 i.Imm) rfl ?_
 refine aU ?_
 refine E_stS hS rfl (xv := .agg (nX (.nils) ⟨1, 0, i9 f s.length 0, 0, 0, 0, 0, 0, i.Imm, [], 0, 0⟩)) rfl Rp.here rfl rfl zqV (fun S hS => ?_)
 refine aU ?_
 refine aE ?_
 refine s9 (F := nF o3 o5 o6 o7 o8 o11 at_ f s) wF ?_
 refine g7 (a := .nils) (n := ⟨1, 0, i9 f s.length 0, 0, 0, 0, 0, 0, i.Imm, [], 0, 0⟩) ⟨rfl, rfl⟩ B.hf B.hn B.hat hS (fun S hS fr' hfr => ?_)
 exact ⟨trivial, _, f6 hfr (hS.at (.head _)) rfl, _, ⟨rfl, rfl⟩, hS.sub (List.sublist_cons_self _ _)⟩
theorem c7V {c : Int} (B : NB p f cl cs cell s at_) (hi : j9 f.Code at_ = some i) (hop : i.Op = 4) (hcell : j9 cell i.Arg = some c) :
  Tri Try.prog 54 [.ptr b 0 0, .int .i64 at_, .sl false 1 (s.map (avI .u8))] [(b, 0, cs), (cl, 0, flat (avI .i64) cell)] (fun x L' => x = .agg (nX .nils { (⟨6, 0, i9 f s.length 1, 0, 0, 0, 0, c, 0, [], 0, 0⟩ : b8) with Next := o9 f at_ i }) /\ L' = [(b, 0, cs), (cl, 0, flat (avI .i64) cell)]) := by
 have hs0 := B.hs
 refine j7 mixed a1D zS [3, 5, 6, 7, 8, 11, 12] (fun R S hS => j4 B.hf B.hl zO hi hS (fun o3 o5 o6 o7 o8 o11 S hS => ?_))
 rw [hop]
 (repeat refine j6 rfl rfl ?_)
 refine x7 rfl rfl ?_
 refine s4 ?_
 refine aU ?_
 refine b7 hS rfl (.tail _ (.tail _ (.tail _ (.tail _ (.tail _ (.head _)))))) (v := .ptr b 0 0) rfl ?_
 refine aU ?_
 refine b7 hS rfl (.tail _ (.head _)) (v := .int .i64 s.length) rfl ?_
 refine aU ?_
 refine a7f (w7 (b := b) (d := s.length) (k := 1) B.hf B.hl zO zO) hS rfl (Spl.cons (Pk.there (Pk.there (Pk.there (Pk.there (Pk.there (Pk.there Pk.here)))))) Spl.nil) ?_
 refine aU ?_
 refine b7 hS rfl (.tail _ (.tail _ (.tail _ (.tail _ (.tail _ (.head _)))))) (v := .ptr b 0 0) rfl ?_
 refine aU ?_
 refine b7 hS rfl (.tail _ (.tail _ (.tail _ (.tail _ (.tail _ (.tail _ (.head _))))))) (v := .ref cl 0 0 cell.length none) B.hc ?_
 refine aU ?_
 refine b7 hS rfl (.tail _ (.tail _ (.head _))) (v := .int .i64 i.Arg) rfl ?_
 refine aU ?_
 obtain ⟨q1, q2, q3⟩ := g9 hcell
 refine s6 rfl rfl i.Arg.toNat zO zO ?_
 refine a2K hS (d8 .i64) rfl (.tail _ (.tail _ (.tail _ (.tail _ (.tail _ (.tail _ (.tail _ (.head _)))))))) (n := i.Arg.toNat) (fo := 0) (y := c) (by simp [d9]) q3 (v := .int .i64 c) rfl ?_
 refine aU ?_
 refine E_stS hS rfl (xv := .agg (nX (.nils) ⟨6, 0, i9 f s.length 1, 0, 0, 0, 0, c, 0, [], 0, 0⟩)) rfl Rp.here rfl rfl zqV (fun S hS => ?_)
 refine a7 ?_
 refine And.intro (by simp [u7, a1u, r5, y8]) ?_
 refine aE ?_
 refine s9 (F := nF o3 o5 o6 o7 o8 o11 at_ f s) wF ?_
 refine g7 (a := .nils) (n := ⟨6, 0, i9 f s.length 1, 0, 0, 0, 0, c, 0, [], 0, 0⟩) ⟨rfl, rfl⟩ B.hf B.hn B.hat hS (fun S hS fr' hfr => ?_)
 exact ⟨trivial, _, f6 hfr (hS.at (.head _)) rfl, _, ⟨rfl, rfl⟩, hS.sub (List.sublist_cons_self _ _)⟩
theorem c7W {t1 : Int} (B : NB p f cl cs cell s at_) (hi : j9 f.Code at_ = some i) (hop : i.Op = 5) (h1 : a1C f s 1 = some t1) :
  Tri Try.prog 54 [.ptr b 0 0, .int .i64 at_, .sl false 1 (s.map (avI .u8))] [(b, 0, cs), (cl, 0, flat (avI .i64) cell)] (fun x L' => x = .agg (nX .nils { (⟨7, 0, i9 f ((s.length : Int) - 1) 0, 0, t1, 0, 0, 0, 0, [], 0, 0⟩ : b8) with Next := o9 f at_ i }) /\ L' = [(b, 0, cs), (cl, 0, flat (avI .i64) cell)]) := by
 have hs0 := B.hs
 refine j7 mixed a1D zS [3, 5, 6, 7, 8, 11, 12] (fun R S hS => j4 B.hf B.hl zO hi hS (fun o3 o5 o6 o7 o8 o11 S hS => ?_))
 rw [hop]
 (repeat refine j6 rfl rfl ?_)
 refine x7 rfl rfl ?_
 refine aU ?_
 refine b7 hS rfl (.tail _ (.tail _ (.tail _ (.tail _ (.tail _ (.head _)))))) (v := .ptr b 0 0) rfl ?_
 refine aU ?_
 refine b7 hS rfl (.tail _ (.head _)) (v := .int .i64 s.length) rfl ?_
 refine aU ?_
 rw [p4 (x := (s.length : Int) - 1) zO]
 refine a7f (w7 (b := b) (d := (s.length : Int) - 1) (k := 0) B.hf B.hl zO zO) hS rfl (Spl.cons (Pk.there (Pk.there (Pk.there (Pk.there (Pk.there (Pk.there Pk.here)))))) Spl.nil) ?_
 refine aU ?_
 refine p9 (q6 (b := b) (o3 := o3) (o5 := o5) (o8 := o8) B h1) hS rfl x5 rfl (Spl.cons (Pk.there (Pk.there (Pk.there (Pk.there (Pk.there Pk.here))))) (Spl.cons (Pk.there Pk.here) (Spl.cons (Pk.there (Pk.there (Pk.there Pk.here))) (Spl.cons (Pk.there (Pk.there (Pk.there Pk.here))) Spl.nil)))) ?_
 refine aU ?_
 refine E_stS hS rfl (xv := .agg (nX (.nils) ⟨7, 0, i9 f ((s.length : Int) - 1) 0, 0, t1, 0, 0, 0, 0, [], 0, 0⟩)) rfl Rp.here rfl rfl zqV (fun S hS => ?_)
 refine aU ?_
 refine aE ?_
 refine s9 (F := nF o3 o5 o6 o7 o8 o11 at_ f s) wF ?_
 refine g7 (a := .nils) (n := ⟨7, 0, i9 f ((s.length : Int) - 1) 0, 0, t1, 0, 0, 0, 0, [], 0, 0⟩) ⟨rfl, rfl⟩ B.hf B.hn B.hat hS (fun S hS fr' hfr => ?_)
 exact ⟨trivial, _, f6 hfr (hS.at (.head _)) rfl, _, ⟨rfl, rfl⟩, hS.sub (List.sublist_cons_self _ _)⟩
theorem c7X {t1 t2 : Int} (B : NB p f cl cs cell s at_) (hi : j9 f.Code at_ = some i) (hop : i.Op = 6) (h1 : a1C f s 1 = some t1) (h2 : a1C f s 2 = some t2) :
  Tri Try.prog 54 [.ptr b 0 0, .int .i64 at_, .sl false 1 (s.map (avI .u8))] [(b, 0, cs), (cl, 0, flat (avI .i64) cell)] (fun x L' => x = .agg (nX .nils { (⟨8, 0, 0, 0, t2, t1, 0, 0, 0, [], 0, 0⟩ : b8) with Next := o9 f at_ i }) /\ L' = [(b, 0, cs), (cl, 0, flat (avI .i64) cell)]) := by
 have hs0 := B.hs
 refine j7 mixed a1D zS [3, 5, 6, 7, 8, 11, 12] (fun R S hS => j4 B.hf B.hl zO hi hS (fun o3 o5 o6 o7 o8 o11 S hS => ?_))
 rw [hop]
 (repeat refine j6 rfl rfl ?_)
 refine x7 rfl rfl ?_
 refine aU ?_
 refine p9 (q6 (b := b) (o3 := o3) (o5 := o5) (o8 := o8) B h2) hS rfl x5 rfl (Spl.cons (Pk.there (Pk.there (Pk.there (Pk.there (Pk.there Pk.here))))) (Spl.cons (Pk.there Pk.here) (Spl.cons (Pk.there (Pk.there (Pk.there Pk.here))) (Spl.cons (Pk.there (Pk.there (Pk.there Pk.here))) Spl.nil)))) ?_
 refine aU ?_
 refine p9 (q6 (b := b) (o3 := o3) (o5 := o5) (o8 := o8) B h1) hS rfl x5 rfl (Spl.cons (Pk.there (Pk.there (Pk.there (Pk.there (Pk.there Pk.here))))) (Spl.cons (Pk.there Pk.here) (Spl.cons (Pk.there (Pk.there (Pk.there Pk.here))) (Spl.cons (Pk.there (Pk.there (Pk.there Pk.here))) Spl.nil)))) ?_
 refine aU ?_
 refine E_stS hS rfl (xv := .agg (nX (.nils) ⟨8, 0, 0, 0, t2, t1, 0, 0, 0, [], 0, 0⟩)) rfl Rp.here rfl rfl zqV (fun S hS => ?_)
 refine aU ?_
 refine aE ?_
 refine s9 (F := nF o3 o5 o6 o7 o8 o11 at_ f s) wF ?_
 refine g7 (a := .nils) (n := ⟨8, 0, 0, 0, t2, t1, 0, 0, 0, [], 0, 0⟩) ⟨rfl, rfl⟩ B.hf B.hn B.hat hS (fun S hS fr' hfr => ?_)
 exact ⟨trivial, _, f6 hfr (hS.at (.head _)) rfl, _, ⟨rfl, rfl⟩, hS.sub (List.sublist_cons_self _ _)⟩
theorem c3W {t1 : Int} (B : NB p f cl cs cell s at_) (hi : j9 f.Code at_ = some i) (hop : i.Op = 22) (h1 : a1C f s 1 = some t1) :
  Tri Try.prog 54 [.ptr b 0 0, .int .i64 at_, .sl false 1 (s.map (avI .u8))] [(b, 0, cs), (cl, 0, flat (avI .i64) cell)] (fun x L' => x = .agg (nX .nils { (⟨9, 0, 0, 0, t1, 0, 0, 0, 0, [], 0, i.Arg⟩ : b8) with Next := o9 f at_ i }) /\ L' = [(b, 0, cs), (cl, 0, flat (avI .i64) cell)]) := by
 have hs0 := B.hs
 refine j7 mixed a1D zS [3, 5, 6, 7, 8, 11, 12] (fun R S hS => j4 B.hf B.hl zO hi hS (fun o3 o5 o6 o7 o8 o11 S hS => ?_))
 rw [hop]
 (repeat refine j6 rfl rfl ?_)
 refine a0q rfl zD zD rfl rfl (fun h => by cases h) (fun _ => ?_)
 (repeat refine j6 rfl rfl ?_)
 refine x7 rfl rfl ?_
 refine s4 ?_
 refine aU ?_
 refine p9 (q6 (b := b) (o3 := o3) (o5 := o5) (o8 := o8) B h1) hS rfl x5 rfl (Spl.cons (Pk.there (Pk.there (Pk.there (Pk.there (Pk.there Pk.here))))) (Spl.cons (Pk.there Pk.here) (Spl.cons (Pk.there (Pk.there (Pk.there Pk.here))) (Spl.cons (Pk.there (Pk.there (Pk.there Pk.here))) Spl.nil)))) ?_
 refine aU ?_
 refine b7 hS rfl (.tail _ (.tail _ (.head _))) (v := .int .i64 i.Arg) rfl ?_
 refine aU ?_
 refine E_stS hS rfl (xv := .agg (nX (.nils) ⟨9, 0, 0, 0, t1, 0, 0, 0, 0, [], 0, i.Arg⟩)) rfl Rp.here rfl rfl zqV (fun S hS => ?_)
 refine a7 ?_
 refine And.intro (by simp [u7, a1u, r5, y8]) ?_
 refine aE ?_
 refine s9 (F := nF o3 o5 o6 o7 o8 o11 at_ f s) wF ?_
 refine g7 (a := .nils) (n := ⟨9, 0, 0, 0, t1, 0, 0, 0, 0, [], 0, i.Arg⟩) ⟨rfl, rfl⟩ B.hf B.hn B.hat hS (fun S hS fr' hfr => ?_)
 exact ⟨trivial, _, f6 hfr (hS.at (.head _)) rfl, _, ⟨rfl, rfl⟩, hS.sub (List.sublist_cons_self _ _)⟩
theorem c3X {t1 : Int} (B : NB p f cl cs cell s at_) (hi : j9 f.Code at_ = some i) (hop : i.Op = 26) (h1 : a1C f s 1 = some t1) :
  Tri Try.prog 54 [.ptr b 0 0, .int .i64 at_, .sl false 1 (s.map (avI .u8))] [(b, 0, cs), (cl, 0, flat (avI .i64) cell)] (fun x L' => x = .agg (nX .nils { (⟨14, 0, 0, 0, t1, 0, 0, 0, 0, [], 0, 0⟩ : b8) with Next := o9 f at_ i }) /\ L' = [(b, 0, cs), (cl, 0, flat (avI .i64) cell)]) := by
 have hs0 := B.hs
 refine j7 mixed a1D zS [3, 5, 6, 7, 8, 11, 12] (fun R S hS => j4 B.hf B.hl zO hi hS (fun o3 o5 o6 o7 o8 o11 S hS => ?_))
 rw [hop]
 (repeat refine j6 rfl rfl ?_)
 refine a0q rfl zD zD rfl rfl (fun h => by cases h) (fun _ => ?_)
 (repeat refine j6 rfl rfl ?_)
 refine x7 rfl rfl ?_
 refine aU ?_
 refine p9 (q6 (b := b) (o3 := o3) (o5 := o5) (o8 := o8) B h1) hS rfl x5 rfl (Spl.cons (Pk.there (Pk.there (Pk.there (Pk.there (Pk.there Pk.here))))) (Spl.cons (Pk.there Pk.here) (Spl.cons (Pk.there (Pk.there (Pk.there Pk.here))) (Spl.cons (Pk.there (Pk.there (Pk.there Pk.here))) Spl.nil)))) ?_
 refine aU ?_
 refine E_stS hS rfl (xv := .agg (nX (.nils) ⟨14, 0, 0, 0, t1, 0, 0, 0, 0, [], 0, 0⟩)) rfl Rp.here rfl rfl zqV (fun S hS => ?_)
 refine aU ?_
 refine aE ?_
 refine s9 (F := nF o3 o5 o6 o7 o8 o11 at_ f s) wF ?_
 refine g7 (a := .nils) (n := ⟨14, 0, 0, 0, t1, 0, 0, 0, 0, [], 0, 0⟩) ⟨rfl, rfl⟩ B.hf B.hn B.hat hS (fun S hS fr' hfr => ?_)
 exact ⟨trivial, _, f6 hfr (hS.at (.head _)) rfl, _, ⟨rfl, rfl⟩, hS.sub (List.sublist_cons_self _ _)⟩
theorem c3Y {t1 : Int} (B : NB p f cl cs cell s at_) (hi : j9 f.Code at_ = some i) (hop : i.Op = 29) (h1 : a1C f s 1 = some t1) :
  Tri Try.prog 54 [.ptr b 0 0, .int .i64 at_, .sl false 1 (s.map (avI .u8))] [(b, 0, cs), (cl, 0, flat (avI .i64) cell)] (fun x L' => x = .agg (nX .nils { (⟨17, 0, 0, 0, t1, 0, 0, 0, 0, [], 0, 0⟩ : b8) with Next := o9 f at_ i }) /\ L' = [(b, 0, cs), (cl, 0, flat (avI .i64) cell)]) := by
 have hs0 := B.hs
 refine j7 mixed a1D zS [3, 5, 6, 7, 8, 11, 12] (fun R S hS => j4 B.hf B.hl zO hi hS (fun o3 o5 o6 o7 o8 o11 S hS => ?_))
 rw [hop]
 (repeat refine j6 rfl rfl ?_)
 refine a0q rfl zD zD rfl rfl (fun h => by cases h) (fun _ => ?_)
 (repeat refine j6 rfl rfl ?_)
 refine x7 rfl rfl ?_
 refine aU ?_
 refine p9 (q6 (b := b) (o3 := o3) (o5 := o5) (o8 := o8) B h1) hS rfl x5 rfl (Spl.cons (Pk.there (Pk.there (Pk.there (Pk.there (Pk.there Pk.here))))) (Spl.cons (Pk.there Pk.here) (Spl.cons (Pk.there (Pk.there (Pk.there Pk.here))) (Spl.cons (Pk.there (Pk.there (Pk.there Pk.here))) Spl.nil)))) ?_
 refine aU ?_
 refine E_stS hS rfl (xv := .agg (nX (.nils) ⟨17, 0, 0, 0, t1, 0, 0, 0, 0, [], 0, 0⟩)) rfl Rp.here rfl rfl zqV (fun S hS => ?_)
 refine aU ?_
 refine aE ?_
 refine s9 (F := nF o3 o5 o6 o7 o8 o11 at_ f s) wF ?_
 refine g7 (a := .nils) (n := ⟨17, 0, 0, 0, t1, 0, 0, 0, 0, [], 0, 0⟩) ⟨rfl, rfl⟩ B.hf B.hn B.hat hS (fun S hS fr' hfr => ?_)
 exact ⟨trivial, _, f6 hfr (hS.at (.head _)) rfl, _, ⟨rfl, rfl⟩, hS.sub (List.sublist_cons_self _ _)⟩
theorem c3Z {t1 : Int} (B : NB p f cl cs cell s at_) (hi : j9 f.Code at_ = some i) (hop : i.Op = 30) (h1 : a1C f s 1 = some t1) :
  Tri Try.prog 54 [.ptr b 0 0, .int .i64 at_, .sl false 1 (s.map (avI .u8))] [(b, 0, cs), (cl, 0, flat (avI .i64) cell)] (fun x L' => x = .agg (nX .nils { (⟨18, 0, 0, 0, t1, 0, 0, 0, 0, [], 0, 0⟩ : b8) with Next := o9 f at_ i }) /\ L' = [(b, 0, cs), (cl, 0, flat (avI .i64) cell)]) := by
 have hs0 := B.hs
 refine j7 mixed a1D zS [3, 5, 6, 7, 8, 11, 12] (fun R S hS => j4 B.hf B.hl zO hi hS (fun o3 o5 o6 o7 o8 o11 S hS => ?_))
 rw [hop]
 (repeat refine j6 rfl rfl ?_)
 refine a0q rfl zD zD rfl rfl (fun h => by cases h) (fun _ => ?_)
 (repeat refine j6 rfl rfl ?_)
 refine x7 rfl rfl ?_
 refine aU ?_
 refine p9 (q6 (b := b) (o3 := o3) (o5 := o5) (o8 := o8) B h1) hS rfl x5 rfl (Spl.cons (Pk.there (Pk.there (Pk.there (Pk.there (Pk.there Pk.here))))) (Spl.cons (Pk.there Pk.here) (Spl.cons (Pk.there (Pk.there (Pk.there Pk.here))) (Spl.cons (Pk.there (Pk.there (Pk.there Pk.here))) Spl.nil)))) ?_
 refine aU ?_
 refine E_stS hS rfl (xv := .agg (nX (.nils) ⟨18, 0, 0, 0, t1, 0, 0, 0, 0, [], 0, 0⟩)) rfl Rp.here rfl rfl zqV (fun S hS => ?_)
 refine aU ?_
 refine aE ?_
 refine s9 (F := nF o3 o5 o6 o7 o8 o11 at_ f s) wF ?_
 refine g7 (a := .nils) (n := ⟨18, 0, 0, 0, t1, 0, 0, 0, 0, [], 0, 0⟩) ⟨rfl, rfl⟩ B.hf B.hn B.hat hS (fun S hS fr' hfr => ?_)
 exact ⟨trivial, _, f6 hfr (hS.at (.head _)) rfl, _, ⟨rfl, rfl⟩, hS.sub (List.sublist_cons_self _ _)⟩
theorem c4a (B : NB p f cl cs cell s at_) (hi : j9 f.Code at_ = some i) (hop : i.Op = 27) :
  Tri Try.prog 54 [.ptr b 0 0, .int .i64 at_, .sl false 1 (s.map (avI .u8))] [(b, 0, cs), (cl, 0, flat (avI .i64) cell)] (fun x L' => x = .agg (nX .nils { (⟨15, 0, i9 f s.length 0, i9 f ((s.length : Int) + 1) 0, 0, 0, 0, 0, 0, [], 0, 0⟩ : b8) with Next := o9 f at_ i }) /\ L' = [(b, 0, cs), (cl, 0, flat (avI .i64) cell)]) := by
 have hs0 := B.hs
 refine j7 mixed a1D zS [3, 5, 6, 7, 8, 11, 12] (fun R S hS => j4 B.hf B.hl zO hi hS (fun o3 o5 o6 o7 o8 o11 S hS => ?_))
 rw [hop]
 (repeat refine j6 rfl rfl ?_)
 refine a0q rfl zD zD rfl rfl (fun h => by cases h) (fun _ => ?_)
 (repeat refine j6 rfl rfl ?_)
 refine x7 rfl rfl ?_
 refine aU ?_
 refine b7 hS rfl (.tail _ (.tail _ (.tail _ (.tail _ (.tail _ (.head _)))))) (v := .ptr b 0 0) rfl ?_
 refine aU ?_
 refine b7 hS rfl (.tail _ (.head _)) (v := .int .i64 s.length) rfl ?_
 refine aU ?_
 rw [p4 (x := (s.length : Int) + 1) zO]
 refine a7f (w7 (b := b) (d := (s.length : Int) + 1) (k := 0) B.hf B.hl zO zO) hS rfl (Spl.cons (Pk.there (Pk.there (Pk.there (Pk.there (Pk.there (Pk.there Pk.here)))))) Spl.nil) ?_
 refine aU ?_
 refine E_stS hS rfl (xv := .agg (nX (.nils) ⟨15, 0, i9 f s.length 0, i9 f ((s.length : Int) + 1) 0, 0, 0, 0, 0, 0, [], 0, 0⟩)) rfl Rp.here rfl rfl zqV (fun S hS => ?_)
 refine aU ?_
 refine aE ?_
 refine s9 (F := nF o3 o5 o6 o7 o8 o11 at_ f s) wF ?_
 refine g7 (a := .nils) (n := ⟨15, 0, i9 f s.length 0, i9 f ((s.length : Int) + 1) 0, 0, 0, 0, 0, 0, [], 0, 0⟩) ⟨rfl, rfl⟩ B.hf B.hn B.hat hS (fun S hS fr' hfr => ?_)
 exact ⟨trivial, _, f6 hfr (hS.at (.head _)) rfl, _, ⟨rfl, rfl⟩, hS.sub (List.sublist_cons_self _ _)⟩
theorem c4b (B : NB p f cl cs cell s at_) (hi : j9 f.Code at_ = some i) (hop : i.Op = 28) :
  Tri Try.prog 54 [.ptr b 0 0, .int .i64 at_, .sl false 1 (s.map (avI .u8))] [(b, 0, cs), (cl, 0, flat (avI .i64) cell)] (fun x L' => x = .agg (nX .nils { (⟨16, 0, i9 f s.length 0, 0, 0, 0, 0, 0, 0, [], 0, 0⟩ : b8) with Next := o9 f at_ i }) /\ L' = [(b, 0, cs), (cl, 0, flat (avI .i64) cell)]) := by
 have hs0 := B.hs
 refine j7 mixed a1D zS [3, 5, 6, 7, 8, 11, 12] (fun R S hS => j4 B.hf B.hl zO hi hS (fun o3 o5 o6 o7 o8 o11 S hS => ?_))
 rw [hop]
 (repeat refine j6 rfl rfl ?_)
 refine a0q rfl zD zD rfl rfl (fun h => by cases h) (fun _ => ?_)
 (repeat refine j6 rfl rfl ?_)
 refine x7 rfl rfl ?_
 refine aU ?_
 refine E_stS hS rfl (xv := .agg (nX (.nils) ⟨16, 0, i9 f s.length 0, 0, 0, 0, 0, 0, 0, [], 0, 0⟩)) rfl Rp.here rfl rfl zqV (fun S hS => ?_)
 refine aU ?_
 refine aE ?_
 refine s9 (F := nF o3 o5 o6 o7 o8 o11 at_ f s) wF ?_
 refine g7 (a := .nils) (n := ⟨16, 0, i9 f s.length 0, 0, 0, 0, 0, 0, 0, [], 0, 0⟩) ⟨rfl, rfl⟩ B.hf B.hn B.hat hS (fun S hS fr' hfr => ?_)
 exact ⟨trivial, _, f6 hfr (hS.at (.head _)) rfl, _, ⟨rfl, rfl⟩, hS.sub (List.sublist_cons_self _ _)⟩
theorem c4c {k t1 : Int} (B : NB p f cl cs cell s at_) (hi : j9 f.Code at_ = some i) (hop : i.Op = 32) (hk1 : j9 s ((s.length : Int) - 1) = some k) (h1 : a1C f s 1 = some t1) :
  Tri Try.prog 54 [.ptr b 0 0, .int .i64 at_, .sl false 1 (s.map (avI .u8))] [(b, 0, cs), (cl, 0, flat (avI .i64) cell)] (fun x L' => x = .agg (nX .nils { (⟨2, 0, i9 f s.length k, 0, t1, 0, 0, 0, 0, [], 0, 0⟩ : b8) with Next := o9 f at_ i }) /\ L' = [(b, 0, cs), (cl, 0, flat (avI .i64) cell)]) := by
 have hs0 := B.hs
 refine j7 mixed a1D zS [3, 5, 6, 7, 8, 11, 12] (fun R S hS => j4 B.hf B.hl zO hi hS (fun o3 o5 o6 o7 o8 o11 S hS => ?_))
 rw [hop]
 (repeat refine j6 rfl rfl ?_)
 refine a0q rfl zD zD rfl rfl (fun h => by cases h) (fun _ => ?_)
 (repeat refine j6 rfl rfl ?_)
 refine x7 rfl rfl ?_
 refine aU ?_
 refine b7 hS rfl (.tail _ (.tail _ (.tail _ (.tail _ (.tail _ (.head _)))))) (v := .ptr b 0 0) rfl ?_
 refine aU ?_
 refine b7 hS rfl (.tail _ (.head _)) (v := .int .i64 s.length) rfl ?_
 refine aU ?_
 refine b7 hS rfl (.tail _ (.tail _ (.tail _ (.tail _ (.head _))))) (v := .sl false 1 (s.map (avI .u8))) rfl ?_
 refine aU ?_
 refine b7 hS rfl (.tail _ (.head _)) (v := .int .i64 s.length) rfl ?_
 refine aU ?_
 rw [p4 (x := (s.length : Int) - 1) zO]
 refine g8 (esh := none) (f := avI .u8) (ys := s) (y := k) (n := (s.length : Int) - 1) rfl rfl hk1 ?_
 refine aU ?_
 refine a7f (w7 (b := b) (d := s.length) (k := k) B.hf B.hl zO (B.hk k (a4U hk1))) hS rfl (Spl.cons (Pk.there (Pk.there (Pk.there (Pk.there (Pk.there (Pk.there Pk.here)))))) Spl.nil) ?_
 refine aU ?_
 refine p9 (q6 (b := b) (o3 := o3) (o5 := o5) (o8 := o8) B h1) hS rfl x5 rfl (Spl.cons (Pk.there (Pk.there (Pk.there (Pk.there (Pk.there Pk.here))))) (Spl.cons (Pk.there Pk.here) (Spl.cons (Pk.there (Pk.there (Pk.there Pk.here))) (Spl.cons (Pk.there (Pk.there (Pk.there Pk.here))) Spl.nil)))) ?_
 refine aU ?_
 refine E_stS hS rfl (xv := .agg (nX (.nils) ⟨2, 0, i9 f s.length k, 0, t1, 0, 0, 0, 0, [], 0, 0⟩)) rfl Rp.here rfl rfl zqV (fun S hS => ?_)
 refine aU ?_
 refine aE ?_
 refine s9 (F := nF o3 o5 o6 o7 o8 o11 at_ f s) wF ?_
 refine g7 (a := .nils) (n := ⟨2, 0, i9 f s.length k, 0, t1, 0, 0, 0, 0, [], 0, 0⟩) ⟨rfl, rfl⟩ B.hf B.hn B.hat hS (fun S hS fr' hfr => ?_)
 exact ⟨trivial, _, f6 hfr (hS.at (.head _)) rfl, _, ⟨rfl, rfl⟩, hS.sub (List.sublist_cons_self _ _)⟩
end
end Go.Proofs.Ytnpemocpfdgaoaa

