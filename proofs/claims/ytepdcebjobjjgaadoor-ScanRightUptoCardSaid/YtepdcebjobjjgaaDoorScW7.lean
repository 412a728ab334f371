/- OrderLines: the law. -/
import Derived.Test.YtepdcebjobjjgaaDoorGenOC2
import Derived.Test.YtepdcebjobjjgaaDoorOrP4r
import Derived.Test.YtepdcebjobjjgaaDoorWlH2
import Derived.Test.YtepdcebjobjjgaaDoorWlTz
import Derived.Test.YtepdcebjobjjgaaDoorGenBa
import Derived.Test.YtepdcebjobjjgaaDoorRows
set_option linter.unusedVariables false
set_option linter.unusedSimpArgs false
namespace Go.Proofs.YtepdcebjobjjgaaDoor
open Go Go.Ab
set_option maxRecDepth 20000
set_option maxHeartbeats 1000000
theorem b9g {g : b5} {i k : Nat} : (k : Int) ∈ lvI g i ↔ Lv g i k := by
 unfold lvI
 rw [a6J, b1p]
 exact ⟨fun h => h.2, fun h => ⟨h.lt.2, h⟩⟩
theorem b9h {g : b5} {i k : Nat} : (k : Int) ∈ bhI g i ↔ Bh g i k := by
 unfold bhI
 rw [a6J, b1q]
 exact ⟨fun h => h.2, fun h => ⟨by obtain ⟨_, _, q⟩ := h; exact q.lt.2, h⟩⟩
theorem b1s {g : b5} {i k : Nat} : (k : Int) ∈ wrN g i ↔ (k : Int) ∈ wrR g i := by
 unfold wrN wrR
 cases g.Nodes[i]? with
 | none => simp
 | some n => simp only; rw [a9i]; exact ⟨fun h => h.1, fun h => ⟨h, by omega⟩⟩
theorem b5e {g : b5} {k i : Nat} (hi : i < g.Nodes.length) (h : b6M g k i) : a7U g k i := by
 obtain ⟨_, h2, h3⟩ := h
 obtain ⟨to, q1, q2⟩ := b9h.1 h2
 exact .inl (b9g.2 (.step hi q1 q2 (fun hh => h3 (b1s.2 hh))))
def b5B (g : b5) (k a i : Nat) : Prop := a7U g k i \/ (a = 0 /\ (k : Int) ∈ g.Params)
theorem b5f {g : b5} {w : List Nat} (hp4 : g.Params.length <= 4) {k a i : Nat} (ha : w[a]? = some i) (hi : i < g.Nodes.length) (hK : g.Kinds.length <= 1024) :
  ∃ b, x7 g (w.map (fun (n : Nat) => (n : Int))) (inL g) (k : Int) (a : Int) = some b /\ (b = true ↔ b5B g k a i) := by
 obtain ⟨nd, hnd⟩ : ∃ n, g.Nodes[i]? = some n := ⟨g.Nodes[i], List.getElem?_eq_getElem hi⟩
 have hl : o6 (w.map (fun (n : Nat) => (n : Int))) (a : Int) = some (i : Int) := by rw [n8, List.getElem?_map, ha]; rfl
 have hin : o6 (inL g) (i : Int) = some (lvI g i) := by rw [n8]; unfold inL; simp [hi, lvI]
 obtain ⟨wr, hw1, hw2, hw3⟩ := a4z nd
 have hwr : (k : Int) ∈ wr ↔ (k : Int) ∈ wrN g i := by
  rw [hw3, b1s]; unfold wrR; rw [hnd]; exact ⟨fun h => h.1, fun h => ⟨h, by omega⟩⟩
 unfold x7 b5B a7U
 simp only [jp, hl, hin, Option.bind_some, a5o _ _ (Nat.le_trans (a9l (K := g.Kinds.length) (A := lvB g i)) zO : (lvI g i).length <= 4611686018427387904), n8, hnd, hw1, a5o wr _ zO, a5o g.Params _ zO]
 by_cases c1 : (k : Int) ∈ lvI g i
 ·exact ⟨true, by simp [c1], by simp [c1]⟩
 ·by_cases c2 : (k : Int) ∈ wr
  ·exact ⟨true, by simp [c1, c2], by simp [hwr.1 c2]⟩
  ·have c2' : (k : Int) ∉ wrN g i := fun h => c2 (hwr.2 h)
   by_cases c3 : a = 0
   ·subst c3
    exact ⟨decide ((k : Int) ∈ g.Params), by simp [c1, c2], by simp [c1, c2']⟩
   ·exact ⟨false, by simp [c1, c2, c3], by simp [c1, c2', c3]⟩
def RI (g : b5) (w : List Nat) (k n : Nat) (s : Int × Int × Bool) : Prop :=
 (s = (-1, 0, false) /\ ∀ a i, w[a]? = some i -> a < n -> ¬ b5B g k a i) \/
 ((∃ a i, w[a]? = some i /\ a < n /\ b5B g k a i /\ s.1 = (a : Int)) /\ (∃ a i, w[a]? = some i /\ a < n /\ b5B g k a i /\ s.2.1 = (a : Int)) /\ (∀ a i, w[a]? = some i -> a < n -> b5B g k a i -> s.1 <= a /\ (a : Int) <= s.2.1) /\ (s.2.2 = true ↔ ∃ a i, w[a]? = some i /\ a < n /\ b6M g k i))
theorem RI.step_no {g : b5} {w : List Nat} {k n i : Nat} {s : Int × Int × Bool} (hn : w[n]? = some i) (hw : ∀ x ∈ w, x < g.Nodes.length) (h : RI g w k n s) (ht : ¬ b5B g k n i) : RI g w k (n + 1) s := by
 have hh : ¬ b6M g k i := fun hh => ht (.inl (b5e (hw i (List.mem_of_getElem? hn)) hh))
 rcases h with ⟨h1, h2⟩ | ⟨⟨a, j, p1, p2, p3, p4⟩, ⟨b, l, q1, q2, q3, q4⟩, h3, h4⟩
 ·refine .inl ⟨h1, fun a j ha hlt => ?_⟩
  by_cases e : a = n
  ·subst e; rw [hn] at ha; cases ha; exact ht
  ·exact h2 a j ha zO
 ·refine .inr ⟨⟨a, j, p1, by omega, p3, p4⟩, ⟨b, l, q1, by omega, q3, q4⟩, fun a j ha hlt hta => ?_, ?_⟩
  ·by_cases e : a = n
   ·subst e; rw [hn] at ha; cases ha; exact absurd hta ht
   ·exact h3 a j ha zO hta
  ·rw [h4]
   constructor
   ·rintro ⟨a, j, r1, r2, r3⟩; exact ⟨a, j, r1, by omega, r3⟩
   ·rintro ⟨a, j, r1, r2, r3⟩
    by_cases e : a = n
    ·subst e; rw [hn] at r1; cases r1; exact absurd r3 hh
    ·exact ⟨a, j, r1, by omega, r3⟩
theorem RI.step_yes {g : b5} {w : List Nat} {k n i : Nat} {s : Int × Int × Bool} (hn : w[n]? = some i) (hw : ∀ x ∈ w, x < g.Nodes.length) (h : RI g w k n s) (ht : b5B g k n i) {b : Bool} (hb : b = true ↔ (s.2.2 = true \/ b6M g k i)) : RI g w k (n + 1) (if s.1 < 0 then (n : Int) else s.1, (n : Int), b) := by
 rcases h with ⟨rfl, h2⟩ | ⟨⟨a, j, p1, p2, p3, p4⟩, _, h3, h4⟩
 ·refine .inr ⟨⟨n, i, hn, by omega, ht, by simp⟩, ⟨n, i, hn, by omega, ht, rfl⟩, fun a j ha hlt hta => ?_, ?_⟩
  ·by_cases e : a = n
   ·subst e; simp
   ·exact absurd hta (h2 a j ha zO)
  ·simp only [hb, Bool.false_eq_true, false_or]
   constructor
   ·intro hh; exact ⟨n, i, hn, by omega, hh⟩
   ·rintro ⟨a, j, r1, r2, r3⟩
    by_cases e : a = n
    ·subst e; rw [hn] at r1; cases r1; exact r3
    ·exact absurd (.inl (b5e (hw j (List.mem_of_getElem? r1)) r3)) (h2 a j r1 zO)
 ·have hf : ¬ (s.1 < 0) := by omega
  rw [if_neg hf]
  refine .inr ⟨⟨a, j, p1, by omega, p3, p4⟩, ⟨n, i, hn, by omega, ht, rfl⟩, fun a' j' ha hlt hta => ?_, ?_⟩
  ·by_cases e : a' = n
   ·subst e; simp only; omega
   ·have := h3 a' j' ha zO hta
    simp only; omega
  ·simp only [hb, h4]
   constructor
   ·rintro (⟨a, j, r1, r2, r3⟩ | hh)
    ·exact ⟨a, j, r1, by omega, r3⟩
    ·exact ⟨n, i, hn, by omega, hh⟩
   ·rintro ⟨a, j, r1, r2, r3⟩
    by_cases e : a = n
    ·subst e; rw [hn] at r1; cases r1; exact .inr r3
    ·exact .inl ⟨a, j, r1, by omega, r3⟩
theorem c2O {g : b5} {w : List Nat} {k : Nat} {s : Int × Int × Bool} {x : b6} (hw0 : w ≠ []) (h : RI g w k w.length s) (e : EI g w k w.length x) :
  (0 <= s.1 -> a6E x = false /\ b6.mk (k : Int) s.1 s.2.1 s.2.2 = x) /\ (s.1 < 0 -> a6E x = true) := by
 obtain ⟨i0, hi0⟩ : ∃ i, w[0]? = some i := by
  cases w with
  | nil => exact absurd rfl hw0
  | cons a b => exact ⟨a, rfl⟩
 have hlen : 0 < w.length := (List.getElem?_eq_some_iff.1 hi0).1
 have conv : ∀ a i, ((w[a]? = some i /\ a < w.length /\ a7U g k i) \/ (a = 0 /\ (k : Int) ∈ g.Params)) -> ∃ j, w[a]? = some j /\ a < w.length /\ b5B g k a j := by
  rintro a i (⟨p, q, r⟩ | ⟨rfl, q⟩)
  ·exact ⟨i, p, q, .inl r⟩
  ·exact ⟨i0, hi0, hlen, .inr ⟨rfl, q⟩⟩
 have conv2 : ∀ a j, w[a]? = some j -> a < w.length -> b5B g k a j -> x.From <= a /\ (a : Int) <= x.To := by
  intro a j h1 h2 h3
  rcases h3 with h3 | h3
  ·exact e.all a j (.inl ⟨h1, h2, h3⟩)
  ·exact e.all a j (.inr h3)
 rcases h with ⟨rfl, h2⟩ | ⟨⟨a, j, p1, p2, p3, p4⟩, ⟨b, l, q1, q2, q3, q4⟩, h3, h4⟩
 ·refine ⟨fun h => absurd h zD, fun _ => ?_⟩
  rcases e.ends with ⟨_, q⟩ | ⟨⟨a, i, p, q⟩, _⟩
  ·unfold a6E; simp [q]
  ·obtain ⟨j, r1, r2, r3⟩ := conv a i q
   exact absurd r3 (h2 a j r1 r2)
 ·refine ⟨fun _ => ?_, fun h => absurd h zO⟩
  have c1 := conv2 a j p1 p2 p3
  have c2 := conv2 b l q1 q2 q3
  rcases e.ends with ⟨_, q⟩ | ⟨⟨a', i', r1, r2⟩, ⟨b', l', t1, t2⟩⟩
  ·omega
  ·obtain ⟨j1, u1, u2, u3⟩ := conv a' i' r2
   obtain ⟨j2, v1, v2, v3⟩ := conv b' l' t2
   have d1 := h3 a' j1 u1 u2 u3
   have d2 := h3 b' j2 v1 v2 v3
   have f1 : s.1 = x.From := by omega
   have f2 : s.2.1 = x.To := by omega
   have f3 : s.2.2 = x.Held := by
    rw [Bool.eq_iff_iff, h4, e.held]
   refine ⟨?_, ?_⟩
   ·unfold a6E; simp; omega
   ·rw [f1, f2, f3, <- e.pl]
theorem b5g {g : b5} (hg : a1E g) (hpar : a6n g) (hp4 : g.Params.length <= 4) (he0 : 0 <= g.Entry) (heN : g.Entry < g.Nodes.length) : u7 100000000000 g = some (y7 g) := by
 have hN := hg.nn
 have hK := hg.kn
 obtain ⟨w, hw1, hw2, hw3, hw4, hw5, tl, htl⟩ := (a9f hg zO).w
 have hwl : w.length <= g.Nodes.length := a4y _ _ hw2 hw3
 have hw0 : w ≠ [] := by rw [htl]; simp
 have hl12 : a0E 100000000000 g = some (a1l g) := if_pos ⟨hg, he0, heN⟩
 unfold u7
 rw [hl12, b7L hg (by omega : 10000000 <= 100000000000), b9e hg (by omega : 10000000 <= 100000000000)]
 simp only [Option.bind_some, hw1]
 refine b2r (fun k s => s = ((b0C g).take k).filter fun x => !a6E x) zO zS (fun k s hk hs => ?_) (fun s hs => ?_)
 ·have hk' : k < g.Kinds.length := by omega
  obtain ⟨x, hx, hxe⟩ := a7B hg hpar hw1 hwl hk'
  have htk : (b0C g).take (k + 1) = (b0C g).take k ++ [x] := by
   obtain ⟨q1, q2⟩ := List.getElem?_eq_some_iff.1 hx
   rw [List.take_succ_eq_append_getElem q1, q2]
  have hsl : s.length <= g.Kinds.length := by rw [hs]; exact Nat.le_trans (List.length_filter_le _ _) (by rw [List.length_take, a3B]; omega)
  refine ⟨((b0C g).take (k + 1)).filter (fun x => !a6E x), ?_, rfl⟩
  refine a5p (fun n q => RI g w k n q) zE (.inl ⟨rfl, fun a i _ h => absurd h (Nat.not_lt_zero a)⟩) (fun n y q hy hq => ?_) (fun q hq => ?_)
  ·obtain ⟨i, hi, rfl⟩ : ∃ i, w[n]? = some i /\ y = (i : Int) := by
    rw [List.getElem?_map] at hy
    cases e : w[n]? with
    | none => rw [e] at hy; cases hy
    | some i => rw [e] at hy; cases hy; exact ⟨i, rfl, rfl⟩
   have hiN := hw3 i (List.mem_of_getElem? hi)
   obtain ⟨b, hb, hbt⟩ := b5f (k := k) hp4 hi hiN hK
   obtain ⟨nd, hnd⟩ : ∃ n, g.Nodes[i]? = some n := ⟨g.Nodes[i], List.getElem?_eq_getElem hiN⟩
   have hout : o6 (b1j g) (i : Int) = some (bhI g i) := by rw [n8]; unfold b1j; simp [hiN, bhI]
   obtain ⟨wr, hwr1, hwr2, hwr3⟩ := a4z nd
   have hwr : (k : Int) ∈ wr ↔ (k : Int) ∈ wrN g i := by
    rw [hwr3, b1s]; unfold wrR; rw [hnd]; exact ⟨fun h => h.1, fun h => ⟨h, by omega⟩⟩
   have hic : a3H g i = (nd.Op == 11 || nd.Op == 13) := by unfold a3H; rw [hnd]
   rw [hb]
   simp only [Option.bind_some]
   cases b with
   | false =>
     refine ⟨q, by simp, ?_⟩
     exact hq.step_no hi hw3 (fun h => by have := hbt.2 h; cases this)
   | true =>
     have ht := hbt.1 rfl
     have hbl : (bhI g i).length <= 4611686018427387904 := Nat.le_trans a9l zO
     have hF : (jp (fun (s_12 : Int) => some s_12) (fun k_11 => (if (decide (q.1 < 0)) then (k_11 (n : Int)) else (k_11 q.1))) : Option Int) = some (if q.1 < 0 then (n : Int) else q.1) := by
      unfold jp; by_cases c : q.1 < 0 <;> simp [c]
     refine ⟨(if q.1 < 0 then (n : Int) else q.1, (n : Int), q.2.2 || decide ((nd.Op = 11 \/ nd.Op = 13) /\ (k : Int) ∈ bhI g i /\ (k : Int) ∉ wr)), ?_, hq.step_yes hi hw3 ht ?_⟩
     ·simp only [jp, Bool.not_true, Bool.false_eq_true, if_false, n8, hnd, hout, Option.bind_some, a5o _ _ hbl, hwr1, a5o wr _ zO]
      by_cases c0 : q.1 < 0 <;> by_cases c1 : nd.Op = 11 <;> by_cases c2 : nd.Op = 13 <;> by_cases c3 : (k : Int) ∈ bhI g i <;> by_cases c4 : (k : Int) ∈ wr <;> simp [c0, c1, c2, c3, c4]
     ·simp only [Bool.or_eq_true, decide_eq_true_eq]
      unfold b6M
      rw [hic, hwr]
      simp only [Bool.or_eq_true, beq_iff_eq]
  ·have hq' : RI g w k w.length q := by rw [List.length_map] at hq; exact hq
   obtain ⟨r1, r2⟩ := c2O hw0 hq' hxe
   rw [htk, List.filter_append, <- hs]
   by_cases c : q.1 >= 0
   ·obtain ⟨r3, r4⟩ := r1 c
    have happ : a4R 32 s [b6.mk (k : Int) q.1 q.2.1 q.2.2] = some (s ++ [b6.mk (k : Int) q.1 q.2.1 q.2.2]) := a1L ⟨by simp; omega, by simp; omega⟩
    rw [r4] at happ
    simp only [c, decide_true, if_true, r4, happ, Option.bind_some]
    simp [r3]
   ·have := r2 zO
    simp only [c, decide_false, Bool.false_eq_true, if_false]
    simp [this]
 ·rw [hs]
  unfold y7
  rw [List.take_of_length_le (by rw [a3B]; omega)]
end Go.Proofs.YtepdcebjobjjgaaDoor

/- Stable sorting in place, in b7e lists: what swaps, rotations and merges keep. -/
namespace Go.Ab
universe u
variable {α : Type u}

theorem swap_perm {L : List α} {i j : Nat} {x y : α} (hi : L[i]? = some x) (hj : L[j]? = some y) : ((L.set i y).set j x).Perm L := by
 obtain ⟨h1, rfl⟩ := List.getElem?_eq_some_iff.1 hi
 obtain ⟨h2, rfl⟩ := List.getElem?_eq_some_iff.1 hj
 have := Array.swap_perm (xs := L.toArray) (i := i) (j := j) (by simpa using h1) (by simpa using h2)
 have e : (L.toArray.swap i j (by simpa using h1) (by simpa using h2)).toList = (L.set i L[j]).set j L[i] := by
  simp [Array.swap]
 have p := this.toList
 rw [e] at p
 simpa using p
theorem a0V {L : List α} {i j : Nat} {x y : α} (hi : L[i]? = some x) (hj : L[j]? = some y) (k : Nat) : ((L.set i y).set j x)[k]? = if k = j then L[i]? else if k = i then L[j]? else L[k]? := by
 obtain ⟨h1, e1⟩ := List.getElem?_eq_some_iff.1 hi
 obtain ⟨h2, e2⟩ := List.getElem?_eq_some_iff.1 hj
 rw [List.getElem?_set, List.getElem?_set]
 by_cases a : k = j
 ·subst a; simp [h2, hi]
 ·have a' : ¬ j = k := fun h => a h.symm
  by_cases b : k = i
  ·subst b; simp [a, a', h1, hj]
  ·have b' : ¬ i = k := fun h => b h.symm
   simp [a, a', b, b']

structure Mv (a b : Nat) (L L' : List α) : Prop where
 perm : L'.Perm L
 out : ∀ i, i < a \/ b <= i -> L'[i]? = L[i]?
 inn : ∀ i, a <= i -> i < b -> ∃ j, a <= j /\ j < b /\ L'[i]? = L[j]?
variable {a b : Nat} {L L' L'' : List α}
theorem Mv.len (h : Mv a b L L') : L'.length = L.length := h.perm.length_eq
theorem Mv.refl : Mv a b L L := ⟨.refl _, fun _ _ => rfl, fun i h1 h2 => ⟨i, h1, h2, rfl⟩⟩
theorem Mv.trans (h : Mv a b L L') (k : Mv a b L' L'') : Mv a b L L'' :=
 ⟨k.perm.trans h.perm, fun i hi => (k.out i hi).trans (h.out i hi), fun i h1 h2 => by
  obtain ⟨j, h3, h4, e⟩ := k.inn i h1 h2
  obtain ⟨l, h5, h6, e'⟩ := h.inn j h3 h4
  exact ⟨l, h5, h6, e.trans e'⟩⟩
theorem Mv.mono {a' b' : Nat} (h : Mv a b L L') (ha : a' <= a) (hb : b <= b') : Mv a' b' L L' :=
 ⟨h.perm, fun i hi => h.out i zO, fun i h1 h2 => by
  by_cases c : a <= i /\ i < b
  ·obtain ⟨j, h3, h4, e⟩ := h.inn i c.1 c.2
   exact ⟨j, by omega, by omega, e⟩
  ·exact ⟨i, h1, h2, h.out i zO⟩⟩
theorem Mv.swap {i j : Nat} {x y : α} (hi : L[i]? = some x) (hj : L[j]? = some y) (h1 : a <= i) (h2 : i < b) (h3 : a <= j) (h4 : j < b) : Mv a b L ((L.set i y).set j x) :=
 ⟨swap_perm hi hj, fun k hk => by rw [a0V hi hj, if_neg zO, if_neg zO], fun k h5 h6 => by
  rw [a0V hi hj]
  by_cases c : k = j
  ·rw [if_pos c]; exact ⟨i, h1, h2, rfl⟩
  ·rw [if_neg c]
   by_cases d : k = i
   ·rw [if_pos d]; exact ⟨j, h3, h4, rfl⟩
   ·rw [if_neg d]; exact ⟨k, h5, h6, rfl⟩⟩

def swI (p q n k : Nat) : Nat := if p <= k /\ k < p + n then k - p + q else if q <= k /\ k < q + n then k - q + p else k
def roI (a m b k : Nat) : Nat := if a <= k /\ k < a + (b - m) then k - a + m else if a + (b - m) <= k /\ k < b then k - (b - m) else k
theorem c1n {m i j k : Nat} (h : j < i) (hi : i <= m) : roI (m - i) m (m + j) k = swI (m - i) m j (roI (m - i + j) m (m + j) k) := by
 unfold roI swI
 repeat' split
 all_goals omega
theorem c1o {m i j k : Nat} (h : i < j) (hi : i <= m) : roI (m - i) m (m + j) k = swI (m - i) (m + j - i) i (roI (m - i) m (m + j - i) k) := by
 unfold roI swI
 repeat' split
 all_goals omega
theorem c1p {m i k : Nat} (hi : i <= m) : roI (m - i) m (m + i) k = swI (m - i) m i k := by
 unfold roI swI
 repeat' split
 all_goals omega
theorem b6N {p q n t k : Nat} (ht : t < n) (h : p + n <= q) : swI p q (t + 1) k = if k = p + t then q + t else if k = q + t then p + t else swI p q t k := by
 unfold swI
 repeat' split
 all_goals omega
theorem b6O {p q k : Nat} : swI p q 0 k = k := by
 unfold swI
 repeat' split
 all_goals omega

def SrtR (key : α -> Int) (a b : Nat) (L : List α) : Prop := ∀ i j x y, a <= i -> i <= j -> j < b -> L[i]? = some x -> L[j]? = some y -> key x <= key y
theorem SrtR.nil {key : α -> Int} {a b : Nat} {L : List α} (h : b <= a + 1) : SrtR key a b L := by
 intro i j x y h1 h2 h3 e1 e2
 have : i = j := by omega
 subst this
 rw [e1] at e2
 cases e2
 exact Int.le_refl _
theorem SrtR.cong {key : α -> Int} {a b : Nat} {L L' : List α} (h : SrtR key a b L) (e : ∀ i, a <= i -> i < b -> L'[i]? = L[i]?) : SrtR key a b L' := by
 intro i j x y h1 h2 h3 e1 e2
 rw [e i h1 zO] at e1
 rw [e j zO h3] at e2
 exact h i j x y h1 h2 h3 e1 e2
theorem SrtR.shift {key : α -> Int} {a b a' b' : Nat} {L L' : List α} (h : SrtR key a b L) (e : ∀ i, a' <= i -> i < b' -> L'[i]? = L[i - a' + a]?) (hb : b' - a' <= b - a) : SrtR key a' b' L' := by
 intro i j x y h1 h2 h3 e1 e2
 rw [e i h1 zO] at e1
 rw [e j zO h3] at e2
 exact h _ _ x y zO zO zO e1 e2
theorem SrtR.sub {key : α -> Int} {a b a' b' : Nat} {L : List α} (h : SrtR key a b L) (ha : a <= a') (hb : b' <= b) : SrtR key a' b' L :=
 fun i j x y h1 h2 h3 e1 e2 => h i j x y zO h2 zO e1 e2
theorem SrtR.join {key : α -> Int} {a c b : Nat} {L : List α} (h : SrtR key a c L) (k : SrtR key c b L) (hx : ∀ i j x y, a <= i -> i < c -> c <= j -> j < b -> L[i]? = some x -> L[j]? = some y -> key x <= key y) : SrtR key a b L := by
 intro i j x y h1 h2 h3 e1 e2
 by_cases p : j < c
 ·exact h i j x y h1 h2 p e1 e2
 ·by_cases q : i < c
  ·exact hx i j x y h1 q zO h3 e1 e2
  ·exact k i j x y zO h2 h3 e1 e2
theorem b2V {key : α -> Int} {a m b mid s e : Nat} {L L' : List α} (ha : a <= m) (hb : m <= b) (hbl : b <= L.length) (h1 : SrtR key a m L) (h2 : SrtR key m b L) (has : a <= s) (hsm : s <= m) (hme : m <= e) (heb : e <= b) (hse : s + e = mid + m)
  (hr : ∀ k, L'[k]? = L[roI s m e k]?)
  (c1 : s = a \/ e = b \/ ∀ x y, L[s - 1]? = some x -> L[e]? = some y -> key x <= key y)
  (c2 : s = m \/ e = m \/ ∀ x y, L[e - 1]? = some x -> L[s]? = some y -> key x <= key y) :
  SrtR key a s L' /\ SrtR key s mid L' /\ SrtR key mid e L' /\ SrtR key e b L' /\ ∀ i j x y, a <= i -> i < mid -> mid <= j -> j < b -> L'[i]? = some x -> L'[j]? = some y -> key x <= key y := by
 have g1 : ∀ k, k < s -> L'[k]? = L[k]? := fun k hk => by rw [hr]; congr 1; unfold roI; rw [if_neg zO, if_neg zO]
 have g2 : ∀ k, s <= k -> k < mid -> L'[k]? = L[k - s + m]? := fun k hk hk' => by rw [hr]; congr 1; unfold roI; rw [if_pos zO]
 have g3 : ∀ k, mid <= k -> k < e -> L'[k]? = L[k - mid + s]? := fun k hk hk' => by rw [hr]; congr 1; unfold roI; rw [if_neg zO, if_pos zO]; omega
 have g4 : ∀ k, e <= k -> L'[k]? = L[k]? := fun k hk => by rw [hr]; congr 1; unfold roI; rw [if_neg zO, if_neg zO]
 refine ⟨(h1.sub (Nat.le_refl _) hsm).cong fun i _ h => g1 i h, (h2.sub (Nat.le_refl _) heb).shift (a := m) g2 zO, (h1.sub has (Nat.le_refl _)).shift (a := s) g3 zO, (h2.sub hme (Nat.le_refl _)).cong fun i h _ => g4 i h, ?_⟩
 intro i j x y q1 q2 q3 q4 e1 e2
 by_cases ci : i < s
 ·rw [g1 i ci] at e1
  by_cases cj : j < e
  ·rw [g3 j q3 cj] at e2
   exact h1 _ _ x y q1 zO zO e1 e2
  ·rw [g4 j zO] at e2
   rcases c1 with c | c | c
   ·omega
   ·omega
   ·have hs1 : s - 1 < L.length := by omega
    have he1 : e < L.length := by omega
    have := c _ _ (List.getElem?_eq_getElem hs1) (List.getElem?_eq_getElem he1)
    have d1 := h1 i (s - 1) x _ q1 zO zO e1 (List.getElem?_eq_getElem hs1)
    have d2 := h2 e j _ y zO zO q4 (List.getElem?_eq_getElem he1) e2
    omega
 ·rw [g2 i zO q2] at e1
  by_cases cj : j < e
  ·rw [g3 j q3 cj] at e2
   rcases c2 with c | c | c
   ·omega
   ·omega
   ·have hs1 : s < L.length := by omega
    have he1 : e - 1 < L.length := by omega
    have := c _ _ (List.getElem?_eq_getElem he1) (List.getElem?_eq_getElem hs1)
    have d1 := h2 (i - s + m) (e - 1) x _ zO zO zO e1 (List.getElem?_eq_getElem he1)
    have d2 := h1 s (j - mid + s) _ y zO zO zO (List.getElem?_eq_getElem hs1) e2
    omega
  ·rw [g4 j zO] at e2
   exact h2 _ _ x y zO zO q4 e1 e2
theorem a7C {key : α -> Int} {a mid b : Nat} {L' L1 L2 : List α} (h1 : Mv a mid L' L1) (h2 : Mv mid b L1 L2) (hm1 : a <= mid) (hm2 : mid <= b) (s1 : SrtR key a mid L1) (s2 : SrtR key mid b L2)
  (hx : ∀ i j x y, a <= i -> i < mid -> mid <= j -> j < b -> L'[i]? = some x -> L'[j]? = some y -> key x <= key y) : SrtR key a b L2 := by
 refine SrtR.join (c := mid) (s1.cong fun i p q => h2.out i zO) s2 fun i j x y p1 p2 p3 p4 e1 e2 => ?_
 rw [h2.out i zO] at e1
 obtain ⟨i', r1, r2, r3⟩ := h1.inn i p1 p2
 obtain ⟨j', t1, t2, t3⟩ := h2.inn j p3 p4
 rw [r3] at e1
 rw [t3, h1.out j' zO] at e2
 exact hx i' j' x y r1 r2 t1 t2 e1 e2
end Go.Ab

/- Heaps in b7e lists. -/
namespace Go.Ab
universe u
variable {α : Type u} {key : α -> Int} {n j i : Nat} {L : List α}
def HpI (key : α -> Int) (n : Nat) (L : List α) : Prop := ∀ c x y, 0 < c -> c < n -> L[(c - 1) / 2]? = some x -> L[c]? = some y -> key x <= key y
def b5C (key : α -> Int) (n j : Nat) (L : List α) : Prop :=
 (∀ c x y, 0 < c -> c < n -> c ≠ j -> L[(c - 1) / 2]? = some x -> L[c]? = some y -> key x <= key y) /\
 (∀ c x y, 0 < c -> c < n -> (c - 1) / 2 = j -> 0 < j -> L[(j - 1) / 2]? = some x -> L[c]? = some y -> key x <= key y)
def b5D (key : α -> Int) (n i : Nat) (L : List α) : Prop :=
 (∀ c x y, 0 < c -> c < n -> (c - 1) / 2 ≠ i -> L[(c - 1) / 2]? = some x -> L[c]? = some y -> key x <= key y) /\
 (∀ c x y, 0 < c -> c < n -> (c - 1) / 2 = i -> 0 < i -> L[(i - 1) / 2]? = some x -> L[c]? = some y -> key x <= key y)
theorem b5C.fin0 (h : b5C key n 0 L) : HpI key n L := fun c x y h1 h2 e1 e2 => h.1 c x y h1 h2 zO e1 e2
theorem b5C.fin1 (h : b5C key n j L) {x y : α} (hx : L[(j - 1) / 2]? = some x) (hy : L[j]? = some y) (hle : key x <= key y) : HpI key n L := by
 intro c x' y' h1 h2 e1 e2
 by_cases q : c = j
 ·subst q; rw [hx] at e1; rw [hy] at e2; cases e1; cases e2; exact hle
 ·exact h.1 c x' y' h1 h2 q e1 e2
theorem b5C.step (h : b5C key n j L) (hj : 0 < j) (hjn : j < n) (hnl : n <= L.length) {x y : α} (hx : L[(j - 1) / 2]? = some x) (hy : L[j]? = some y) (hlt : key y < key x) : b5C key n ((j - 1) / 2) ((L.set ((j - 1) / 2) y).set j x) := by
 constructor
 ·intro c x' y' h1 h2 h3 e1 e2
  rw [a0V hx hy] at e1 e2
  by_cases q : c = j
  ·subst q
   rw [if_pos rfl, hx] at e2; cases e2
   rw [if_neg zO, if_pos rfl, hy] at e1; cases e1
   omega
  ·rw [if_neg q, if_neg h3] at e2
   by_cases q2 : (c - 1) / 2 = j
   ·rw [if_pos q2, hx] at e1; cases e1
    exact h.2 c _ y' h1 h2 q2 hj hx e2
   ·rw [if_neg q2] at e1
    by_cases q3 : (c - 1) / 2 = (j - 1) / 2
    ·rw [if_pos q3, hy] at e1; cases e1
     have := h.1 c x y' h1 h2 q (by rw [q3]; exact hx) e2
     omega
    ·rw [if_neg q3] at e1
     exact h.1 c x' y' h1 h2 q e1 e2
 ·intro c x' y' h1 h2 h3 h4 e1 e2
  rw [a0V hx hy] at e1 e2
  rw [if_neg zO, if_neg zO] at e1
  have g1 := h.1 ((j - 1) / 2) x' x h4 zO zO e1 hx
  by_cases q : c = j
  ·rw [if_pos q, hx] at e2; cases e2; exact g1
  ·rw [if_neg q, if_neg zO] at e2
   have := h.1 c x y' h1 h2 q (by rw [h3]; exact hx) e2
   omega
theorem b5D.fin0 (h : b5D key n i L) (hi : n <= 2 * i + 1) : HpI key n L := fun c x y h1 h2 e1 e2 => h.1 c x y h1 h2 zO e1 e2
theorem b5D.fin1 (h : b5D key n i L) {x y : α} (hx : L[i]? = some x) (hmin : ∀ c z, 0 < c -> c < n -> (c - 1) / 2 = i -> L[c]? = some z -> key y <= key z) (hle : key x <= key y) : HpI key n L := by
 intro c x' y' h1 h2 e1 e2
 by_cases q : (c - 1) / 2 = i
 ·rw [q, hx] at e1; cases e1
  have := hmin c y' h1 h2 q e2
  omega
 ·exact h.1 c x' y' h1 h2 q e1 e2
theorem b5D.step (h : b5D key n i L) (hj : 0 < j) (hjn : j < n) (hp : (j - 1) / 2 = i) {x y : α} (hx : L[i]? = some x) (hy : L[j]? = some y) (hmin : ∀ c z, 0 < c -> c < n -> (c - 1) / 2 = i -> L[c]? = some z -> key y <= key z) (hlt : key y < key x) : b5D key n j ((L.set i y).set j x) := by
 constructor
 ·intro c x' y' h1 h2 h3 e1 e2
  rw [a0V hx hy] at e1 e2
  rw [if_neg h3] at e1
  by_cases q : (c - 1) / 2 = i
  ·rw [if_pos q, hy] at e1; cases e1
   by_cases q2 : c = j
   ·rw [if_pos q2, hx] at e2; cases e2; omega
   ·rw [if_neg q2, if_neg zO] at e2
    exact hmin c y' h1 h2 q e2
  ·rw [if_neg q] at e1
   by_cases q2 : c = j
   ·subst q2; exact absurd hp q
   ·rw [if_neg q2] at e2
    by_cases q3 : c = i
    ·subst q3
     rw [if_pos rfl, hy] at e2; cases e2
     exact h.2 j x' _ hj hjn hp h1 e1 hy
    ·rw [if_neg q3] at e2
     exact h.1 c x' y' h1 h2 q e1 e2
 ·intro c x' y' h1 h2 h3 h4 e1 e2
  rw [a0V hx hy] at e1 e2
  rw [if_neg zO, if_pos zO, hy] at e1; cases e1
  rw [if_neg zO, if_neg zO] at e2
  exact h.1 c _ y' h1 h2 zO (by rw [h3]; exact hy) e2
theorem HpI.least (h : HpI key n L) (hnl : n <= L.length) {x : α} (hx : L[0]? = some x) : ∀ i y, i < n -> L[i]? = some y -> key x <= key y := by
 intro i
 induction i using Nat.strongRecOn with
 | _ i ih =>
   intro y hi hy
   by_cases q : i = 0
   ·subst q; rw [hx] at hy; cases hy; exact Int.le_refl _
   ·have hz : L[(i - 1) / 2]? = some (L[(i - 1) / 2]'zO) := List.getElem?_eq_getElem _
    have h1 := ih ((i - 1) / 2) zO _ zO hz
    have h2 := h i _ y zO hi hz hy
    omega
theorem HpI.push (h : HpI key L.length L) (x : α) : b5C key (L.length + 1) L.length (L ++ [x]) := by
 constructor
 ·intro c x' y' h1 h2 h3 e1 e2
  rw [List.getElem?_append_left zO] at e1 e2
  exact h c x' y' h1 zO e1 e2
 ·intro c x' y' h1 h2 h3; omega
theorem HpI.pop (h : HpI key (n + 1) L) (hnl : n < L.length) {x y : α} (hx : L[0]? = some x) (hy : L[n]? = some y) : b5D key n 0 ((L.set 0 y).set n x) := by
 constructor
 ·intro c x' y' h1 h2 h3 e1 e2
  rw [a0V hx hy, if_neg zO, if_neg h3] at e1
  rw [a0V hx hy, if_neg zO, if_neg zO] at e2
  exact h c x' y' h1 zO e1 e2
 ·intro c x' y' h1 h2 h3 h4; omega
end Go.Ab

/- slices.swapRangeCmpFunc, rotateCmpFunc: the walks. -/
namespace Go.Ab
section
variable {P : Program} {ow : List Nat} {fr : Fr} {S : List Ob} {log : List LE} {esh : Option Nat}
theorem z6 {d x i rs} {K : Fr -> List Ob -> List LE -> Prop} {o ver off m k z} (e : ev (Fr.get fr) x = .ref o ver off m esh) (e1 : ev (Fr.get fr) i = .int k z) (n : Nat) (hz : z = (n : Int)) (hn : n < m)
  (h : VTops P ow rs ((d, .ptr o ver (off + n * g8 esh)) :: fr) S (.acc [] none :: log) K) : VTops P ow (⟨some d, none, .op (.iad none esh x i)⟩ :: rs) fr S log K := by
 subst hz
 refine n7 e e1 ⟨by omega, by omega⟩ ?_
 rw [Int.toNat_natCast]; exact h
theorem b1t {a b : Nat} (h : a + b <= 4611686018427387904) : IntKind.i64.wrap ((a : Int) + (b : Int)) = ((a + b : Nat) : Int) := by rw [s5 zO]; omega
theorem a6q {a : Nat} (h : a <= 4611686018427387904) : IntKind.i64.wrap ((a : Int) + 1) = ((a + 1 : Nat) : Int) := by rw [s5 zO]; omega
theorem b0D {a b : Nat} (h : b <= a) (ha : a <= 4611686018427387904) : IntKind.i64.wrap ((a : Int) - (b : Int)) = ((a - b : Nat) : Int) := by rw [s5 zO]; omega
theorem a3P {z : Int} {n : Nat} (e : z = (n : Int)) : a8i none (.int .i64 z) (.int .i64 (n : Int)) := by rw [e]; exact .refl _
theorem Enc.part {α : Type} {f : α -> AV} {esh : Option Nat} (he : Enc f esh) (x : α) : a0M esh (f x).cells 0 = some (f x) := by
 have h1 := he.form x
 have h2 := he.sz x
 cases esh with
 | none => simp only at h1; rw [h1]; rfl
 | some n => 
   simp only at h1
   have h2 : (f x).cells.length = n := h2
   unfold a0M
   simp only [Nat.zero_add, List.drop_zero]
   rw [if_pos zO, List.take_of_length_le zO, <- h1]
theorem a1t {a b : List AV} {n : Nat} (h1 : a.length = n) (h2 : b.length = n) : splice a 0 b = b := by
 have := a5H b [] a zO
 simpa using this
end
end Go.Ab
namespace Go.Proofs.YtepdcebjobjjgaaDoor
open Go Go.Ab
set_option maxRecDepth 20000
set_option maxHeartbeats 2000000
noncomputable def c5U : FC := fcO 80
theorem c5V : Fn3 Tryd.prog 80 38 [] c5U := ⟨_, _, Tryd.func80, rfl, rfl, rfl, by kernel_rfl⟩

noncomputable def c5W : FC := fcO 73
theorem c5X : Fn3 Tryd.prog 73 58 [] c5W := ⟨_, _, Tryd.func73, rfl, rfl, rfl, by kernel_rfl⟩

section
variable {α : Type} {f : α -> AV}
theorem a7D (he : Enc f (some 4)) {l : List α} {o v a b n : Nat} {j : List AV} {cv : AV} (hl : l.length <= 1000000000) (h1 : a + n <= b) (h2 : b + n <= l.length) :
  Tri Tryd.prog 80 [.ref o v 0 l.length (some 4), .int .i64 a, .int .i64 b, .int .i64 n, cv] [(o, v, flat f l ++ j)] (fun _ L' => ∃ l' : List α, l'.Perm l /\ (∀ k, l'[k]? = l[swI a b n k]?) /\ L' = [(o, v, flat f l' ++ j)]) := by
 refine a0n mixed c5V zS [] (fun R S hS => ?_)
 refine aU ?_
 refine k7 (a0h (σ := Nat × List α) (fun s => [(0, .ref o v 0 l.length (some 4)), (1, .int .i64 a), (2, .int .i64 b), (3, .int .i64 n), (10, .int .i64 (s.1 : Int))]) (fun s => (o, v, flat f s.2 ++ j) :: R) (fun s => s.1 <= n /\ s.2.Perm l /\ ∀ k, s.2[k]? = l[swI a b s.1 k]?) (fun s => n - s.1) (0, l) hS ⟨Nat.zero_le _, .refl _, fun k => by rw [b6O]⟩
  wF (fun s S hI hS => ?_))
 obtain ⟨i, m⟩ := s
 obtain ⟨hi, hp, hI⟩ := hI
 dsimp only at hI hi hS hp
 have hm := hp.length_eq
 refine aU ?_
 dsimp only
 refine a1i rfl (fun hb => ?_) (fun hb => ?_)
 ·have hlt : i < n := by simp only [decide_eq_true_eq] at hb; omega
  obtain ⟨x, hx⟩ : ∃ x, m[a + i]? = some x := ⟨m[a + i], List.getElem?_eq_getElem zO⟩
  obtain ⟨y, hy⟩ : ∃ y, m[b + i]? = some y := ⟨m[b + i], List.getElem?_eq_getElem zO⟩
  refine aU ?_
  refine k7 ?_
  refine aU ?_
  refine z6 rfl rfl (b + i) (b1t zO) zO ?_
  refine a1u hS he rfl zM (n := b + i) (fo := 0) (y := y) (by simp [g8]) hy (he.part y) ?_
  refine aU ?_
  refine z6 rfl rfl (a + i) (b1t zO) zO ?_
  refine a1u hS he rfl zM (n := a + i) (fo := 0) (y := x) (by simp [g8]) hx (he.part x) ?_
  refine z6 rfl rfl (a + i) (b1t zO) zO ?_
  refine a5G hS he rfl zC (n := a + i) (fo := 0) (y := x) (y' := y) (by simp [g8]) hx (by first | exact Rp.here | (repeat (first | exact Rp.here | apply Rp.there | apply Rp.skip))) (he.sz _) (he.one _) (by simp [g8]) (by rw [a1t (he.sz _) (he.sz _)]) (fun S hS => ?_)
  refine z6 rfl rfl (b + i) (b1t zO) zO ?_
  refine a5G (l := m.set (a + i) y) (j := j) hS he rfl zC (n := b + i) (fo := 0) (y := y) (y' := x) (by simp [g8]) (by rw [List.getElem?_set_ne zO]; exact hy) (by first | exact Rp.here | (repeat (first | exact Rp.here | apply Rp.there | apply Rp.skip))) (he.sz _) (he.one _) (by simp [g8]) (by rw [a1t (he.sz _) (he.sz _)]) (fun S hS => ?_)
  refine aU ?_
  refine a0m ?_
  refine aU ?_
  refine ⟨(i + 1, (m.set (a + i) y).set (b + i) x), ⟨by simp only; omega, (swap_perm hx hy).trans hp, fun k => ?_⟩, by simp only; omega, hS, a0B ⟨.refl _, .refl _, .refl _, .refl _, a3P (a6q zO), trivial⟩⟩
  simp only
  rw [a0V hx hy, b6N hlt h1]
  by_cases c1 : k = b + i
  ·rw [if_pos c1, if_neg zO, if_pos c1, hI]
   congr 1
   unfold swI
   rw [if_neg zO, if_neg zO]
  ·rw [if_neg c1]
   by_cases c2 : k = a + i
   ·rw [if_pos c2, if_pos c2, hI]
    congr 1
    unfold swI
    rw [if_neg zO, if_neg zO]
   ·rw [if_neg c2, if_neg c2, if_neg c1, hI]
 ·have hge : i = n := by simp only [decide_eq_false_iff_not] at hb; omega
  subst hge
  refine w8 ?_
  refine aE ?_
  exact ⟨trivial, _, rfl, _, ⟨m, hp, hI, rfl⟩, hS⟩
theorem b6P (he : Enc f (some 4)) {l : List α} {o v a c b : Nat} {j : List AV} {cv : AV} (hl : l.length <= 1000000000) (h1 : a < c) (h2 : c < b) (h3 : b <= l.length) :
  Tri Tryd.prog 73 [.ref o v 0 l.length (some 4), .int .i64 a, .int .i64 c, .int .i64 b, cv] [(o, v, flat f l ++ j)] (fun _ L' => ∃ l' : List α, l'.Perm l /\ (∀ k, l'[k]? = l[roI a c b k]?) /\ L' = [(o, v, flat f l' ++ j)]) := by
 refine a0n mixed c5X zS [] (fun R S hS => ?_)
 refine aU ?_
 refine k7 (a0h (σ := Nat × Nat × List α) (fun s => [(0, .ref o v 0 l.length (some 4)), (1, .int .i64 a), (2, .int .i64 c), (3, .int .i64 b), (4, cv), (10, .int .i64 (s.1 : Int)), (11, .int .i64 (s.2.1 : Int))]) (fun s => (o, v, flat f s.2.2 ++ j) :: R)
  (fun s => 1 <= s.1 /\ s.1 <= c - a /\ 1 <= s.2.1 /\ s.2.1 <= b - c /\ s.2.2.Perm l /\ ∀ k, s.2.2[roI (c - s.1) c (c + s.2.1) k]? = l[roI a c b k]?) (fun s => s.1 + s.2.1) (c - a, b - c, l) hS ⟨by simp only; omega, by simp only; omega, by simp only; omega, by simp only; omega, .refl _, fun k => by simp only; rw [show c - (c - a) = a by omega, show c + (b - c) = b by omega]⟩
  (a0B ⟨.refl _, .refl _, .refl _, .refl _, .refl _, a3P (b0D zO zO), a3P (b0D zO zO), trivial⟩) (fun s S hI hS => ?_))
 obtain ⟨x, y, m⟩ := s
 obtain ⟨i1, i2, i3, i4, hp, hI⟩ := hI
 dsimp only at i1 i2 i3 i4 hp hI hS
 have hm := hp.length_eq
 refine aU ?_
 dsimp only
 refine a1i rfl (fun hb => ?_) (fun hb => ?_)
 ·have hne : x ≠ y := by simp only [bne_iff_ne, ne_eq, decide_eq_true_eq] at hb; omega
  refine aU ?_
  refine k7 ?_
  refine aU ?_
  refine a1i rfl (fun hb => ?_) (fun hb => ?_)
  ·have hlt : y < x := by simp only [decide_eq_true_eq] at hb; omega
   refine aU ?_
   refine a4S (a7D he (l := m) (o := o) (v := v) (a := c - x) (b := c) (n := y) (j := j) (cv := cv) zO zO zO) hS (by show [AV.ref o v 0 l.length (some 4), .int .i64 (IntKind.i64.wrap ((c : Int) - (x : Int))), .int .i64 c, .int .i64 y, cv] = _; rw [b0D zO zO, hm]) (by repeat (first | exact Spl.nil | refine Spl.cons (by repeat (first | exact Pk.here | apply Pk.there | apply Pk.skip)) ?_ | refine Spl.app (by repeat (first | exact PkC.here | apply PkC.there | apply PkC.skip)) ?_)) (fun r S L' hL hS => ?_)
   obtain ⟨m', q1, q2, rfl⟩ := hL
   refine aU ?_
   refine a0m ?_
   refine aU ?_
   refine ⟨(x - y, y, m'), ⟨by simp only; omega, by simp only; omega, i3, i4, q1.trans hp, fun k => ?_⟩, by simp only; omega, hS, a0B ⟨.refl _, .refl _, .refl _, .refl _, .refl _, a3P (b0D zO zO), .refl _, trivial⟩⟩
   simp only
   rw [q2, <- hI, c1n hlt zO, show c - (x - y) = c - x + y by omega]
  ·have hlt : x < y := by simp only [decide_eq_false_iff_not] at hb; omega
   refine aU ?_
   refine a4S (a7D he (l := m) (o := o) (v := v) (a := c - x) (b := c + y - x) (n := x) (j := j) (cv := cv) zO zO zO) hS (by show [AV.ref o v 0 l.length (some 4), .int .i64 (IntKind.i64.wrap ((c : Int) - (x : Int))), .int .i64 (IntKind.i64.wrap (IntKind.i64.wrap ((c : Int) + (y : Int)) - (x : Int))), .int .i64 x, cv] = _; rw [b1t zO, b0D zO zO, b0D zO zO, hm]) (by repeat (first | exact Spl.nil | refine Spl.cons (by repeat (first | exact Pk.here | apply Pk.there | apply Pk.skip)) ?_ | refine Spl.app (by repeat (first | exact PkC.here | apply PkC.there | apply PkC.skip)) ?_)) (fun r S L' hL hS => ?_)
   obtain ⟨m', q1, q2, rfl⟩ := hL
   refine aU ?_
   refine a0m ?_
   refine aU ?_
   refine ⟨(x, y - x, m'), ⟨i1, i2, by simp only; omega, by simp only; omega, q1.trans hp, fun k => ?_⟩, by simp only; omega, hS, a0B ⟨.refl _, .refl _, .refl _, .refl _, .refl _, .refl _, a3P (b0D zO zO), trivial⟩⟩
   simp only
   rw [q2, <- hI, c1o hlt zO, show c + (y - x) = c + y - x by omega]
 ·have he' : x = y := by simp only [bne_eq_false_iff_eq, decide_eq_false_iff_not, bne_iff_ne, ne_eq, Decidable.not_not] at hb; omega
  subst he'
  refine w8 ?_
  refine aE ?_
  refine aU ?_
  refine a4S (a7D he (l := m) (o := o) (v := v) (a := c - x) (b := c) (n := x) (j := j) (cv := cv) zO zO zO) hS (by show [AV.ref o v 0 l.length (some 4), .int .i64 (IntKind.i64.wrap ((c : Int) - (x : Int))), .int .i64 c, .int .i64 x, cv] = _; rw [b0D zO zO, hm]) (by repeat (first | exact Spl.nil | refine Spl.cons (by repeat (first | exact Pk.here | apply Pk.there | apply Pk.skip)) ?_ | refine Spl.app (by repeat (first | exact PkC.here | apply PkC.there | apply PkC.skip)) ?_)) (fun r S L' hL hS => ?_)
  obtain ⟨m', q1, q2, rfl⟩ := hL
  refine aU ?_
  exact ⟨trivial, _, rfl, _, ⟨m', q1.trans hp, fun k => by rw [q2, <- hI, c1p zO], rfl⟩, hS⟩
end
end Go.Proofs.YtepdcebjobjjgaaDoor

/- slices.insertionSortCmpFunc: the walk. -/
namespace Go.Ab
def c1q (a b : Int) : Int := if a < b then -1 else if a > b then 1 else 0
theorem a2H {a b : Int} : c1q a b < 0 ↔ a < b := by unfold c1q; split <;> (try split) <;> omega
universe u
variable {α : Type u} {key : α -> Int} {a b : Nat} {L : List α}
def b5E (key : α -> Int) (a b j : Nat) (L : List α) : Prop := ∀ p q x y, a <= p -> p <= q -> q < b -> q ≠ j -> L[p]? = some x -> L[q]? = some y -> key x <= key y
theorem b5E.of {i : Nat} (h : SrtR key a i L) : b5E key a (i + 1) i L := fun p q x y h1 h2 h3 h4 e1 e2 => h p q x y h1 h2 zO e1 e2
theorem b5E.fin0 {j : Nat} (h : b5E key a b j L) (hj : j <= a) : SrtR key a b L := by
 intro p q x y h1 h2 h3 e1 e2
 by_cases c : q = j
 ·have : p = q := by omega
  subst this; rw [e1] at e2; cases e2; exact Int.le_refl _
 ·exact h p q x y h1 h2 h3 c e1 e2
theorem b5E.fin1 {j : Nat} (h : b5E key a b j L) (hj : a < j) (hjb : j < b) {x y : α} (hx : L[j]? = some x) (hy : L[j - 1]? = some y) (hle : key y <= key x) : SrtR key a b L := by
 intro p q x' y' h1 h2 h3 e1 e2
 by_cases c : q = j
 ·subst c
  rw [hx] at e2; cases e2
  by_cases d : p = q
  ·subst d; rw [hx] at e1; cases e1; exact Int.le_refl _
  ·have := h p (q - 1) x' y h1 zO zO zO e1 hy
   omega
 ·exact h p q x' y' h1 h2 h3 c e1 e2
theorem b5E.step {j : Nat} (h : b5E key a b j L) (hj : a < j) (hjb : j < b) {x y : α} (hx : L[j]? = some x) (hy : L[j - 1]? = some y) (hlt : key x < key y) : b5E key a b (j - 1) ((L.set j y).set (j - 1) x) := by
 intro p q x' y' h1 h2 h3 h4 e1 e2
 rw [a0V hx hy] at e1 e2
 by_cases c : q = j
 ·subst c
  rw [if_neg zO, if_pos rfl, hy] at e2
  cases e2
  by_cases d : p = q - 1
  ·rw [if_pos d, hx] at e1; cases e1; omega
  ·rw [if_neg d] at e1
   by_cases d2 : p = q
   ·rw [if_pos d2, hy] at e1; cases e1; exact Int.le_refl _
   ·rw [if_neg d2] at e1
    exact h p (q - 1) x' y h1 zO zO zO e1 hy
 ·rw [if_neg h4, if_neg c] at e2
  by_cases d : p = j - 1
  ·rw [if_pos d, hx] at e1; cases e1
   exact h j q _ y' zO zO h3 c hx e2
  ·rw [if_neg d] at e1
   by_cases d2 : p = j
   ·rw [if_pos d2, hy] at e1; cases e1
    exact h (j - 1) q _ y' zO zO h3 c hy e2
   ·rw [if_neg d2] at e1
    exact h p q x' y' h1 h2 h3 c e1 e2
end Go.Ab
namespace Go.Proofs.YtepdcebjobjjgaaDoor
open Go Go.Ab
set_option maxRecDepth 20000
set_option maxHeartbeats 2000000
noncomputable def c5Y : FC := fcO 59
theorem c5Z : Fn3 Tryd.prog 59 53 [] c5Y := ⟨_, _, Tryd.func59, rfl, rfl, rfl, by kernel_rfl⟩

section
variable {α : Type} {f : α -> AV} {key : α -> Int}
def b0v (f : α -> AV) (key : α -> Int) : Prop := ∀ x y, m5 Tryd.prog 17 [f x, f y] (.int .i64 (c1q (key x) (key y)))
def cvF : AV := .fn (.func 17) [] []
theorem a9o (he : Enc f (some 4)) (hc : b0v f key) (x y : α) : Tri Tryd.prog 17 [f x, f y] [] (fun v L' => v = .int .i64 (c1q (key x) (key y)) /\ L' = []) :=
 m5.tri (hc x y) (i6 ⟨he.blw _ 0, he.blw _ 0, trivial⟩) rfl
theorem b2t : t6 Tryd.prog 17 = true := by kernel_rfl
theorem b2u (he : Enc f (some 4)) (hc : b0v f key) {l : List α} {o v a b : Nat} {j : List AV} (hl : l.length <= 1000000000) (h1 : a <= b) (h2 : b <= l.length) :
  Tri Tryd.prog 59 [.ref o v 0 l.length (some 4), .int .i64 a, .int .i64 b, cvF] [(o, v, flat f l ++ j)] (fun _ L' => ∃ l' : List α, Mv a b l l' /\ SrtR key a b l' /\ L' = [(o, v, flat f l' ++ j)]) := by
 refine a0n mixed c5Z zS [] (fun R S hS => ?_)
 refine aU ?_
 refine k7 (a0h (σ := Nat × List α) (fun s => [(0, .ref o v 0 l.length (some 4)), (1, .int .i64 a), (2, .int .i64 b), (3, cvF), (8, .int .i64 (s.1 : Int))]) (fun s => (o, v, flat f s.2 ++ j) :: R) (fun s => a < s.1 /\ s.1 <= b + 1 /\ Mv a b l s.2 /\ SrtR key a s.1 s.2) (fun s => b + 1 - s.1) (a + 1, l) hS ⟨Nat.lt_succ_self _, by simp only; omega, .refl, .nil (Nat.le_refl _)⟩
  (a0B ⟨.refl _, .refl _, .refl _, .refl _, a3P (a6q zO), trivial⟩) (fun s S hI hS => ?_))
 obtain ⟨i, m⟩ := s
 obtain ⟨i1, i2, hM, hI⟩ := hI
 dsimp only at i1 i2 hM hI hS
 refine aU ?_
 dsimp only
 refine a1i rfl (fun hb => ?_) (fun hb => ?_)
 ·have hlt : i < b := by simp only [decide_eq_true_eq] at hb; omega
  refine aU ?_
  refine k7 ?_
  refine aU ?_
  refine k7 (a0h (σ := Nat × List α) (fun s => [(0, .ref o v 0 l.length (some 4)), (1, .int .i64 a), (2, .int .i64 b), (3, cvF), (8, .int .i64 (i : Int)), (9, .int .i64 (s.1 : Int))]) (fun s => (o, v, flat f s.2 ++ j) :: R) (fun s => a <= s.1 /\ s.1 <= i /\ Mv a b l s.2 /\ b5E key a (i + 1) s.1 s.2) (fun s => s.1) (i, m) hS ⟨by simp only; omega, Nat.le_refl _, hM, .of hI⟩
   wF (fun s S hI hS => ?_))
  obtain ⟨k, m⟩ := s
  obtain ⟨k1, k2, hM, hI⟩ := hI
  dsimp only at k1 k2 hM hI hS
  have hm := hM.len
  refine aU ?_
  refine a7P (b := decide ((k : Int) > (a : Int))) rfl rfl rfl (fun hb => ?_) (fun hb => ?_)
  ·have hak : a < k := by simp only [decide_eq_true_eq] at hb; omega
   obtain ⟨x, hx⟩ : ∃ x, m[k]? = some x := ⟨m[k], List.getElem?_eq_getElem zO⟩
   obtain ⟨y, hy⟩ : ∃ y, m[k - 1]? = some y := ⟨m[k - 1], List.getElem?_eq_getElem zO⟩
   have w1 : IntKind.i64.wrap ((k : Int) - 1) = ((k - 1 : Nat) : Int) := c0q zO zO
   refine aU ?_
   refine z6 rfl rfl k rfl zO (oH ?_)
   refine a1u hS he rfl zM (n := k) (fo := 0) (y := x) (by simp [g8]) hx (he.part x) ?_
   refine aU ?_
   refine z6 rfl rfl (k - 1) w1 zO (oH ?_)
   refine a1u hS he rfl zM (n := k - 1) (fo := 0) (y := y) (by simp [g8]) hy (he.part y) (oH ?_)
   refine a3u (a9o he hc x y) hS rfl b2t rfl (by repeat (first | exact Spl.nil | refine Spl.cons (by repeat (first | exact Pk.here | apply Pk.there | apply Pk.skip)) ?_ | refine Spl.app (by repeat (first | exact PkC.here | apply PkC.there | apply PkC.skip)) ?_)) (fun r S L' hL hS => ?_)
   obtain ⟨rfl, rfl⟩ := hL
   refine aU ?_
   refine a1i rfl (fun hb => ?_) (fun hb => ?_)
   ·have hlt2 : key x < key y := by simp only [decide_eq_true_eq] at hb; exact a2H.1 hb
    refine aU ?_
    refine k7 ?_
    refine aU ?_
    refine z6 rfl rfl (k - 1) w1 zO ?_
    refine a1u hS he rfl zM (n := k - 1) (fo := 0) (y := y) (by simp [g8]) hy (he.part y) ?_
    refine aU ?_
    refine z6 rfl rfl k rfl zO ?_
    refine a1u hS he rfl zM (n := k) (fo := 0) (y := x) (by simp [g8]) hx (he.part x) ?_
    refine z6 rfl rfl k rfl zO ?_
    refine a5G (l := m) (j := j) hS he rfl zC (n := k) (fo := 0) (y := x) (y' := y) (by simp [g8]) hx (by first | exact Rp.here | (repeat (first | exact Rp.here | apply Rp.there | apply Rp.skip))) (he.sz _) (he.one _) (by simp [g8]) (by rw [a1t (he.sz _) (he.sz _)]) (fun S hS => ?_)
    refine z6 rfl rfl (k - 1) w1 zO ?_
    refine a5G (l := m.set k y) (j := j) hS he rfl zC (n := k - 1) (fo := 0) (y := y) (y' := x) (by simp [g8]) (by rw [List.getElem?_set_ne zO]; exact hy) (by first | exact Rp.here | (repeat (first | exact Rp.here | apply Rp.there | apply Rp.skip))) (he.sz _) (he.one _) (by simp [g8]) (by rw [a1t (he.sz _) (he.sz _)]) (fun S hS => ?_)
    refine aU ?_
    refine a0m ?_
    refine aU ?_
    refine ⟨(k - 1, (m.set k y).set (k - 1) x), ⟨by simp only; omega, by simp only; omega, hM.trans (.swap hx hy zO zO zO zO), hI.step hak zO hx hy hlt2⟩, by simp only; omega, hS, a0B ⟨.refl _, .refl _, .refl _, .refl _, .refl _, a3P w1, trivial⟩⟩
   ·have hge : key y <= key x := by simp only [decide_eq_false_iff_not] at hb; have := mt a2H.2 hb; omega
    refine w8 ?_
    refine aE ?_
    refine aU ?_
    refine ⟨(i + 1, m), ⟨by simp only; omega, by simp only; omega, hM, hI.fin1 hak zO hx hy hge⟩, by simp only; omega, hS, a0B ⟨.refl _, .refl _, .refl _, .refl _, a3P (a6q zO), trivial⟩⟩
  ·have hak : k <= a := by simp only [decide_eq_false_iff_not, decide_eq_true_eq, Bool.not_true] at hb; omega
   refine aU ?_
   refine a1i (t := false) rfl (fun hb => by cases hb) (fun _ => ?_)
   refine w8 ?_
   refine aE ?_
   refine aU ?_
   refine ⟨(i + 1, m), ⟨by simp only; omega, by simp only; omega, hM, hI.fin0 hak⟩, by simp only; omega, hS, a0B ⟨.refl _, .refl _, .refl _, .refl _, a3P (a6q zO), trivial⟩⟩
 ·have hge : b <= i := by simp only [decide_eq_false_iff_not] at hb; omega
  refine w8 ?_
  refine aE ?_
  exact ⟨trivial, _, rfl, _, ⟨m, hM, hI.sub (Nat.le_refl _) hge, rfl⟩, hS⟩
end
end Go.Proofs.YtepdcebjobjjgaaDoor

/- slices.symMergeCmpFunc: the walk. -/
namespace Go.Ab
universe u
variable {α : Type u} {key : α -> Int} {a b : Nat} {L : List α}
def upI (a k t : Nat) : Nat := if a <= t /\ t < k then t + 1 else if t = k then a else t
def dnI (c k t : Nat) : Nat := if k < t /\ t <= c then t - 1 else if t = k then c else t
theorem b6Q {a t : Nat} : upI a a t = t := by unfold upI; split; exact absurd ‹_› zO; split <;> omega
theorem b6R {c t : Nat} : dnI c c t = t := by unfold dnI; split; exact absurd ‹_› zO; split <;> omega
theorem b6S {a k t : Nat} (h : a <= k) : upI a (k + 1) t = if t = k + 1 then upI a k k else if t = k then upI a k (k + 1) else upI a k t := by
 unfold upI; repeat' split
 all_goals omega
theorem b6T {c k t : Nat} (h : k <= c) (h0 : 0 < k) : dnI c (k - 1) t = if t = k - 1 then dnI c k k else if t = k then dnI c k (k - 1) else dnI c k t := by
 unfold dnI; repeat' split
 all_goals omega
theorem c1r {i b : Nat} {L L' : List α} (hab : a + 1 <= i) (hib : i <= b) (hbl : b <= L.length) (h2 : SrtR key (a + 1) b L) {x : α} (hx : L[a]? = some x) (hr : ∀ t, L'[t]? = L[upI a (i - 1) t]?)
  (h3 : ∀ k y, a + 1 <= k -> k < i -> L[k]? = some y -> key y < key x) (h4 : ∀ k y, i <= k -> k < b -> L[k]? = some y -> key x <= key y) : SrtR key a b L' := by
 intro p q y z p1 p2 p3 e1 e2
 rw [hr] at e1 e2
 unfold upI at e1 e2
 by_cases c1 : q < i - 1
 ·rw [if_pos zO] at e1 e2
  exact h2 _ _ y z zO zO zO e1 e2
 ·rw [if_neg zO] at e2
  by_cases c2 : q = i - 1
  ·rw [if_pos c2, hx] at e2; cases e2
   by_cases c3 : p < i - 1
   ·rw [if_pos zO] at e1
    have := h3 _ y zO zO e1
    omega
   ·rw [if_neg zO, if_pos zO, hx] at e1; cases e1; exact Int.le_refl _
  ·rw [if_neg c2] at e2
   by_cases c3 : p < i - 1
   ·rw [if_pos zO] at e1
    exact h2 _ _ y z zO zO p3 e1 e2
   ·rw [if_neg zO] at e1
    by_cases c4 : p = i - 1
    ·rw [if_pos c4, hx] at e1; cases e1
     exact h4 q z zO p3 e2
    ·rw [if_neg c4] at e1
     exact h2 _ _ y z zO p2 p3 e1 e2
theorem c1s {i c : Nat} {L L' : List α} (hai : a <= i) (hic : i <= c) (hbl : c < L.length) (h1 : SrtR key a c L) {x : α} (hx : L[c]? = some x) (hr : ∀ t, L'[t]? = L[dnI c i t]?)
  (h3 : ∀ k y, a <= k -> k < i -> L[k]? = some y -> key y <= key x) (h4 : ∀ k y, i <= k -> k < c -> L[k]? = some y -> key x < key y) : SrtR key a (c + 1) L' := by
 intro p q y z p1 p2 p3 e1 e2
 rw [hr] at e1 e2
 unfold dnI at e1 e2
 by_cases c1 : i < p
 ·rw [if_pos zO] at e1 e2
  exact h1 _ _ y z zO zO zO e1 e2
 ·rw [if_neg zO] at e1
  by_cases c2 : p = i
  ·rw [if_pos c2, hx] at e1; cases e1
   by_cases c3 : i < q
   ·rw [if_pos zO] at e2
    have := h4 _ z zO zO e2
    omega
   ·rw [if_neg zO, if_pos zO, hx] at e2; cases e2; exact Int.le_refl _
  ·rw [if_neg c2] at e1
   by_cases c3 : i < q
   ·rw [if_pos zO] at e2
    exact h1 _ _ y z p1 zO zO e1 e2
   ·rw [if_neg zO] at e2
    by_cases c4 : q = i
    ·rw [if_pos c4, hx] at e2; cases e2
     exact h3 p y p1 zO e1
    ·rw [if_neg c4] at e2
     exact h1 _ _ y z p1 p2 zO e1 e2
end Go.Ab
namespace Go.Proofs.YtepdcebjobjjgaaDoor
open Go Go.Ab
set_option maxRecDepth 20000
set_option maxHeartbeats 4000000
noncomputable def c6a : FC := fcO 60
theorem c2P : Fn3 Tryd.prog 60 220 [] c6a := ⟨_, _, Tryd.func60, rfl, rfl, rfl, by kernel_rfl⟩

section
variable {α : Type} {f : α -> AV} {key : α -> Int}
theorem c1T {i j : Nat} (h : i + j <= 4611686018427387904) : IntKind.i64.wrap (Int.fdiv (IntKind.u64.wrap (IntKind.i64.wrap ((i : Int) + (j : Int)))) (2 ^ (min (1 : Int).toNat IntKind.u64.bits))) = (((i + j) / 2 : Nat) : Int) := by
 rw [b1t zO]
 have e1 : IntKind.u64.wrap (((i + j : Nat) : Int)) = ((i + j : Nat) : Int) := by simp [IntKind.wrap, IntKind.bits, IntKind.signed]; omega
 rw [e1]
 have e2 : (2 : Int) ^ (min (1 : Int).toNat IntKind.u64.bits) = 2 := by decide
 rw [e2, Int.fdiv_eq_ediv_of_nonneg _ zO, s5 zO]
 omega
theorem c6b (he : Enc f (some 4)) (hc : b0v f key) {l : List α} {o v a b : Nat} {j : List AV} (hl : l.length <= 1000000000) (h1 : a + 1 < b) (h2 : b <= l.length) (s2 : SrtR key (a + 1) b l) :
  Tri Tryd.prog 60 [.ref o v 0 l.length (some 4), .int .i64 a, .int .i64 (a + 1 : Nat), .int .i64 b, cvF] [(o, v, flat f l ++ j)] (fun _ L' => ∃ l' : List α, Mv a b l l' /\ SrtR key a b l' /\ L' = [(o, v, flat f l' ++ j)]) := by
 obtain ⟨x0, hx0⟩ : ∃ x, l[a]? = some x := ⟨l[a], List.getElem?_eq_getElem zO⟩
 refine a0n mixed c2P zS [] (fun R S hS => ?_)
 refine aU ?_
 refine a1i (t := true) (by show AV.bool (decide (IntKind.i64.wrap (((a + 1 : Nat) : Int) - (a : Int)) = 1)) = _; rw [b0D zO zO]; simp) (fun hb => ?_) (fun hb => by cases hb)
 refine aU ?_
 refine k7 (a0h (σ := Nat × Nat) (fun s => [(0, .ref o v 0 l.length (some 4)), (1, .int .i64 a), (2, .int .i64 (a + 1 : Nat)), (3, .int .i64 b), (4, cvF), (10, .int .i64 (s.1 : Int)), (11, .int .i64 (s.2 : Int))]) (fun s => (o, v, flat f l ++ j) :: R)
  (fun s => a + 1 <= s.1 /\ s.1 <= s.2 /\ s.2 <= b /\ (∀ k y, a + 1 <= k -> k < s.1 -> l[k]? = some y -> key y < key x0) /\ (∀ k y, s.2 <= k -> k < b -> l[k]? = some y -> key x0 <= key y)) (fun s => s.2 - s.1) (a + 1, b) hS ⟨Nat.le_refl _, by simp only; omega, Nat.le_refl _, fun k y p q => by simp only at q; omega, fun k y p q => by simp only at p; omega⟩
  wF (fun s S hI hS => ?_))
 obtain ⟨i, e⟩ := s
 obtain ⟨i1, i2, i3, i4, i5⟩ := hI
 dsimp only at i1 i2 i3 i4 i5 hS
 refine aU ?_
 dsimp only
 refine a1i rfl (fun hb => ?_) (fun hb => ?_)
 ·have hlt : i < e := by simp only [decide_eq_true_eq] at hb; omega
  have hmw := c1T (i := i) (j := e) zO
  obtain ⟨y, hy⟩ : ∃ y, l[(i + e) / 2]? = some y := ⟨l[(i + e) / 2], List.getElem?_eq_getElem zO⟩
  refine aU ?_
  refine k7 ?_
  refine aU ?_
  refine z6 rfl rfl ((i + e) / 2) hmw zO ?_
  refine a1u hS he rfl zM (n := (i + e) / 2) (fo := 0) (y := y) (by simp [g8]) hy (he.part y) ?_
  refine aU ?_
  refine z6 rfl rfl a rfl zO ?_
  refine a1u hS he rfl zM (n := a) (fo := 0) (y := x0) (by simp [g8]) hx0 (he.part x0) ?_
  refine a3u (a9o he hc y x0) hS rfl b2t rfl (by repeat (first | exact Spl.nil | refine Spl.cons (by repeat (first | exact Pk.here | apply Pk.there | apply Pk.skip)) ?_ | refine Spl.app (by repeat (first | exact PkC.here | apply PkC.there | apply PkC.skip)) ?_)) (fun r S L' hL hS => ?_)
  obtain ⟨rfl, rfl⟩ := hL
  refine aU ?_
  refine a1i rfl (fun hb => ?_) (fun hb => ?_)
  ·have hlt2 : key y < key x0 := by simp only [decide_eq_true_eq] at hb; exact a2H.1 hb
   refine aU ?_
   refine a0m ?_
   refine aU ?_
   refine ⟨((i + e) / 2 + 1, e), ⟨by simp only; omega, by simp only; omega, i3, fun k z p q r => ?_, i5⟩, by simp only; omega, hS, a0B ⟨.refl _, .refl _, .refl _, .refl _, .refl _, a3P (by rw [hmw]; exact a6q zO), .refl _, trivial⟩⟩
   simp only at q
   have := s2 k _ z y p (by omega : k <= (i + e) / 2) zO r hy
   omega
  ·have hge : key x0 <= key y := by simp only [decide_eq_false_iff_not] at hb; have := mt a2H.2 hb; omega
   refine aU ?_
   refine a0m ?_
   refine aU ?_
   refine ⟨(i, (i + e) / 2), ⟨i1, by simp only; omega, by simp only; omega, i4, fun k z p q r => ?_⟩, by simp only; omega, hS, a0B ⟨.refl _, .refl _, .refl _, .refl _, .refl _, .refl _, a3P hmw, trivial⟩⟩
   simp only at p
   have := s2 _ k y z (by omega : a + 1 <= (i + e) / 2) p q hy r
   omega
 ·have hge : e = i := by simp only [decide_eq_false_iff_not] at hb; omega
  subst hge
  refine w8 ?_
  refine aE ?_
  refine aU ?_
  refine k7 (a0h (σ := Nat × List α) (fun s => [(0, .ref o v 0 l.length (some 4)), (10, .int .i64 (e : Int)), (13, .int .i64 (s.1 : Int))]) (fun s => (o, v, flat f s.2 ++ j) :: R)
   (fun s => a <= s.1 /\ s.1 <= e - 1 /\ Mv a b l s.2 /\ ∀ t, s.2[t]? = l[upI a s.1 t]?) (fun s => e - 1 - s.1) (a, l) hS ⟨Nat.le_refl _, by simp only; omega, .refl, fun t => by rw [b6Q]⟩
   wF (fun s S hI hS => ?_))
  obtain ⟨k, m⟩ := s
  obtain ⟨k1, k2, hM, hI⟩ := hI
  dsimp only at k1 k2 hM hI hS
  have hm := hM.len
  have we : IntKind.i64.wrap ((e : Int) - 1) = ((e - 1 : Nat) : Int) := c0q zO zO
  refine aU ?_
  dsimp only
  rw [we]
  refine a1i rfl (fun hb => ?_) (fun hb => ?_)
  ·have hlt : k < e - 1 := by simp only [decide_eq_true_eq] at hb; omega
   obtain ⟨x, hx⟩ : ∃ x, m[k]? = some x := ⟨m[k], List.getElem?_eq_getElem zO⟩
   obtain ⟨y, hy⟩ : ∃ y, m[k + 1]? = some y := ⟨m[k + 1], List.getElem?_eq_getElem zO⟩
   have wk1 : IntKind.i64.wrap ((k : Int) + 1) = ((k + 1 : Nat) : Int) := a6q zO
   refine aU ?_
   refine k7 ?_
   refine aU ?_
   refine z6 rfl rfl (k + 1) wk1 zO ?_
   refine a1u hS he rfl zM (n := k + 1) (fo := 0) (y := y) (by simp [g8]) hy (he.part y) ?_
   refine aU ?_
   refine z6 rfl rfl k rfl zO ?_
   refine a1u hS he rfl zM (n := k) (fo := 0) (y := x) (by simp [g8]) hx (he.part x) ?_
   refine z6 rfl rfl k rfl zO ?_
   refine a5G (l := m) (j := j) hS he rfl zC (n := k) (fo := 0) (y := x) (y' := y) (by simp [g8]) hx (by first | exact Rp.here | (repeat (first | exact Rp.here | apply Rp.there | apply Rp.skip))) (he.sz _) (he.one _) (by simp [g8]) (by rw [a1t (he.sz _) (he.sz _)]) (fun S hS => ?_)
   refine z6 rfl rfl (k + 1) wk1 zO ?_
   refine a5G (l := m.set k y) (j := j) hS he rfl zC (n := k + 1) (fo := 0) (y := y) (y' := x) (by simp [g8]) (by rw [List.getElem?_set_ne zO]; exact hy) (by first | exact Rp.here | (repeat (first | exact Rp.here | apply Rp.there | apply Rp.skip))) (he.sz _) (he.one _) (by simp [g8]) (by rw [a1t (he.sz _) (he.sz _)]) (fun S hS => ?_)
   refine aU ?_
   refine a0m ?_
   refine aU ?_
   refine ⟨(k + 1, (m.set k y).set (k + 1) x), ⟨by simp only; omega, by simp only; omega, hM.trans (.swap hx hy zO zO zO zO), fun t => ?_⟩, by simp only; omega, hS, a0B ⟨.refl _, .refl _, a3P wk1, trivial⟩⟩
   simp only
   rw [a0V hx hy, b6S k1]
   by_cases c1 : t = k + 1
   ·rw [if_pos c1, if_pos c1, hI]
   ·rw [if_neg c1, if_neg c1]
    by_cases c2 : t = k
    ·rw [if_pos c2, if_pos c2, hI]
    ·rw [if_neg c2, if_neg c2, hI]
  ·have hge : k = e - 1 := by simp only [decide_eq_false_iff_not] at hb; omega
   subst hge
   refine w8 ?_
   refine aE ?_
   refine aU ?_
   refine j5 ?_
   refine aE ?_
   exact ⟨trivial, _, rfl, _, ⟨m, hM, c1r i1 i3 h2 s2 hx0 hI i4 i5, rfl⟩, hS⟩
theorem c6c (he : Enc f (some 4)) (hc : b0v f key) {l : List α} {o v a c : Nat} {j : List AV} (hl : l.length <= 1000000000) (h0 : a + 1 < c) (h2 : c < l.length) (s1 : SrtR key a c l) :
  Tri Tryd.prog 60 [.ref o v 0 l.length (some 4), .int .i64 a, .int .i64 c, .int .i64 (c + 1 : Nat), cvF] [(o, v, flat f l ++ j)] (fun _ L' => ∃ l' : List α, Mv a (c + 1) l l' /\ SrtR key a (c + 1) l' /\ L' = [(o, v, flat f l' ++ j)]) := by
 obtain ⟨x0, hx0⟩ : ∃ x, l[c]? = some x := ⟨l[c], List.getElem?_eq_getElem zO⟩
 refine a0n mixed c2P zS [] (fun R S hS => ?_)
 refine aU ?_
 refine a1i (t := false) (by show AV.bool (decide (IntKind.i64.wrap ((c : Int) - (a : Int)) = 1)) = _; rw [b0D zO zO]; congr 1; simp only [decide_eq_false_iff_not]; omega) (fun hb => by cases hb) (fun hb => ?_)
 refine aU ?_
 refine a1i (t := true) (by show AV.bool (decide (IntKind.i64.wrap (((c + 1 : Nat) : Int) - (c : Int)) = 1)) = _; rw [b0D zO zO]; simp) (fun hb => ?_) (fun hb => by cases hb)
 refine aU ?_
 refine k7 (a0h (σ := Nat × Nat) (fun s => [(0, .ref o v 0 l.length (some 4)), (1, .int .i64 a), (2, .int .i64 c), (3, .int .i64 (c + 1 : Nat)), (4, cvF), (14, .int .i64 (s.1 : Int)), (15, .int .i64 (s.2 : Int))]) (fun s => (o, v, flat f l ++ j) :: R)
  (fun s => a <= s.1 /\ s.1 <= s.2 /\ s.2 <= c /\ (∀ k y, a <= k -> k < s.1 -> l[k]? = some y -> key y <= key x0) /\ (∀ k y, s.2 <= k -> k < c -> l[k]? = some y -> key x0 < key y)) (fun s => s.2 - s.1) (a, c) hS ⟨Nat.le_refl _, by simp only; omega, Nat.le_refl _, fun k y p q => by simp only at q; omega, fun k y p q => by simp only at p; omega⟩
  wF (fun s S hI hS => ?_))
 obtain ⟨i, e⟩ := s
 obtain ⟨i1, i2, i3, i4, i5⟩ := hI
 dsimp only at i1 i2 i3 i4 i5 hS
 refine aU ?_
 dsimp only
 refine a1i rfl (fun hb => ?_) (fun hb => ?_)
 ·have hlt : i < e := by simp only [decide_eq_true_eq] at hb; omega
  have hmw := c1T (i := i) (j := e) zO
  obtain ⟨y, hy⟩ : ∃ y, l[(i + e) / 2]? = some y := ⟨l[(i + e) / 2], List.getElem?_eq_getElem zO⟩
  refine aU ?_
  refine k7 ?_
  refine aU ?_
  refine z6 rfl rfl c rfl zO ?_
  refine a1u hS he rfl zM (n := c) (fo := 0) (y := x0) (by simp [g8]) hx0 (he.part x0) ?_
  refine aU ?_
  refine z6 rfl rfl ((i + e) / 2) hmw zO ?_
  refine a1u hS he rfl zM (n := (i + e) / 2) (fo := 0) (y := y) (by simp [g8]) hy (he.part y) ?_
  refine a3u (a9o he hc x0 y) hS rfl b2t rfl (by repeat (first | exact Spl.nil | refine Spl.cons (by repeat (first | exact Pk.here | apply Pk.there | apply Pk.skip)) ?_ | refine Spl.app (by repeat (first | exact PkC.here | apply PkC.there | apply PkC.skip)) ?_)) (fun r S L' hL hS => ?_)
  obtain ⟨rfl, rfl⟩ := hL
  refine aU ?_
  refine a1i rfl (fun hb => ?_) (fun hb => ?_)
  ·have hge : key y <= key x0 := by
    simp only [Bool.not_eq_true', decide_eq_false_iff_not] at hb
    have := mt a2H.2 hb
    omega
   refine aU ?_
   refine a0m ?_
   refine aU ?_
   refine ⟨((i + e) / 2 + 1, e), ⟨by simp only; omega, by simp only; omega, i3, fun k z p q r => ?_, i5⟩, by simp only; omega, hS, a0B ⟨.refl _, .refl _, .refl _, .refl _, .refl _, a3P (by rw [hmw]; exact a6q zO), .refl _, trivial⟩⟩
   simp only at q
   have := s1 k _ z y p (by omega : k <= (i + e) / 2) zO r hy
   omega
  ·have hlt2 : key x0 < key y := by
    simp only [Bool.not_eq_false', decide_eq_true_eq] at hb
    exact a2H.1 hb
   refine aU ?_
   refine a0m ?_
   refine aU ?_
   refine ⟨(i, (i + e) / 2), ⟨i1, by simp only; omega, by simp only; omega, i4, fun k z p q r => ?_⟩, by simp only; omega, hS, a0B ⟨.refl _, .refl _, .refl _, .refl _, .refl _, .refl _, a3P hmw, trivial⟩⟩
   simp only at p
   have := s1 _ k y z (by omega : a <= (i + e) / 2) p q hy r
   omega
 ·have hge : e = i := by simp only [decide_eq_false_iff_not] at hb; omega
  subst hge
  refine w8 ?_
  refine aE ?_
  refine aU ?_
  refine k7 (a0h (σ := Nat × List α) (fun s => [(0, .ref o v 0 l.length (some 4)), (14, .int .i64 (e : Int)), (17, .int .i64 (s.1 : Int))]) (fun s => (o, v, flat f s.2 ++ j) :: R)
   (fun s => e <= s.1 /\ s.1 <= c /\ Mv a (c + 1) l s.2 /\ ∀ t, s.2[t]? = l[dnI c s.1 t]?) (fun s => s.1) (c, l) hS ⟨by simp only; omega, Nat.le_refl _, .refl, fun t => by rw [b6R]⟩
   wF (fun s S hI hS => ?_))
  obtain ⟨k, m⟩ := s
  obtain ⟨k1, k2, hM, hI⟩ := hI
  dsimp only at k1 k2 hM hI hS
  have hm := hM.len
  refine aU ?_
  dsimp only
  refine a1i rfl (fun hb => ?_) (fun hb => ?_)
  ·have hlt : e < k := by simp only [decide_eq_true_eq] at hb; omega
   obtain ⟨x, hx⟩ : ∃ x, m[k]? = some x := ⟨m[k], List.getElem?_eq_getElem zO⟩
   obtain ⟨y, hy⟩ : ∃ y, m[k - 1]? = some y := ⟨m[k - 1], List.getElem?_eq_getElem zO⟩
   have wk1 : IntKind.i64.wrap ((k : Int) - 1) = ((k - 1 : Nat) : Int) := c0q zO zO
   refine aU ?_
   refine k7 ?_
   refine aU ?_
   refine z6 rfl rfl (k - 1) wk1 zO ?_
   refine a1u hS he rfl zM (n := k - 1) (fo := 0) (y := y) (by simp [g8]) hy (he.part y) ?_
   refine aU ?_
   refine z6 rfl rfl k rfl zO ?_
   refine a1u hS he rfl zM (n := k) (fo := 0) (y := x) (by simp [g8]) hx (he.part x) ?_
   refine z6 rfl rfl k rfl zO ?_
   refine a5G (l := m) (j := j) hS he rfl zC (n := k) (fo := 0) (y := x) (y' := y) (by simp [g8]) hx (by first | exact Rp.here | (repeat (first | exact Rp.here | apply Rp.there | apply Rp.skip))) (he.sz _) (he.one _) (by simp [g8]) (by rw [a1t (he.sz _) (he.sz _)]) (fun S hS => ?_)
   refine z6 rfl rfl (k - 1) wk1 zO ?_
   refine a5G (l := m.set k y) (j := j) hS he rfl zC (n := k - 1) (fo := 0) (y := y) (y' := x) (by simp [g8]) (by rw [List.getElem?_set_ne zO]; exact hy) (by first | exact Rp.here | (repeat (first | exact Rp.here | apply Rp.there | apply Rp.skip))) (he.sz _) (he.one _) (by simp [g8]) (by rw [a1t (he.sz _) (he.sz _)]) (fun S hS => ?_)
   refine aU ?_
   refine a0m ?_
   refine aU ?_
   refine ⟨(k - 1, (m.set k y).set (k - 1) x), ⟨by simp only; omega, by simp only; omega, hM.trans (.swap hx hy zO zO zO zO), fun t => ?_⟩, by simp only; omega, hS, a0B ⟨.refl _, .refl _, a3P wk1, trivial⟩⟩
   simp only
   rw [a0V hx hy, b6T k2 zO]
   by_cases c1 : t = k - 1
   ·rw [if_pos c1, if_pos c1, hI]
   ·rw [if_neg c1, if_neg c1]
    by_cases c2 : t = k
    ·rw [if_pos c2, if_pos c2, hI]
    ·rw [if_neg c2, if_neg c2, hI]
  ·have hge : k = e := by simp only [decide_eq_false_iff_not] at hb; omega
   subst hge
   refine w8 ?_
   refine aE ?_
   refine aU ?_
   refine j5 ?_
   refine aE ?_
   exact ⟨trivial, _, rfl, _, ⟨m, hM, c1s i1 i3 h2 s1 hx0 hI i4 i5, rfl⟩, hS⟩
end
end Go.Proofs.YtepdcebjobjjgaaDoor

/- slices.symMergeCmpFunc: the general case. -/
namespace Go.Ab
universe u
variable {α : Type u} {key : α -> Int} {a b : Nat} {L L' : List α}
theorem b9i {c e k : Nat} : roI c c e k = k := by unfold roI; split; omega; split <;> omega
theorem b9j {s c k : Nat} : roI s c c k = k := by unfold roI; split; omega; split <;> omega
theorem Mv.of_roI {s c e : Nat} (hp : L'.Perm L) (h : ∀ k, L'[k]? = L[roI s c e k]?) (h1 : a <= s) (h2 : s <= c) (h3 : c <= e) (h4 : e <= b) : Mv a b L L' :=
 ⟨hp, fun i hi => by rw [h]; congr 1; unfold roI; split; omega; split <;> omega, fun i p q => ⟨roI s c e i, by unfold roI; split; omega; split <;> omega, by unfold roI; split; omega; split <;> omega, h i⟩⟩
end Go.Ab
namespace Go.Proofs.YtepdcebjobjjgaaDoor
open Go Go.Ab
set_option maxRecDepth 20000
set_option maxHeartbeats 4000000
section
variable {α : Type} {f : α -> AV} {key : α -> Int}
theorem a9p (he : Enc f (some 4)) (hc : b0v f key) {o v : Nat} {j : List AV} : ∀ (N : Nat) {l : List α} {a c b : Nat}, b - a <= N -> l.length <= 1000000000 -> a < c -> c < b -> b <= l.length -> SrtR key a c l -> SrtR key c b l ->
  Tri Tryd.prog 60 [.ref o v 0 l.length (some 4), .int .i64 a, .int .i64 c, .int .i64 b, cvF] [(o, v, flat f l ++ j)] (fun _ L' => ∃ l' : List α, Mv a b l l' /\ SrtR key a b l' /\ L' = [(o, v, flat f l' ++ j)])
 | 0, l, a, c, b, hN, hl, h1, h2, h3, s1, s2 => by omega
 | N + 1, l, a, c, b, hN, hl, h1, h2, h3, s1, s2 => by
   by_cases k1 : c = a + 1
   ·subst k1; exact c6b he hc hl h2 h3 s2
   by_cases k2 : b = c + 1
   ·subst k2; exact c6c he hc hl zO zO s1
   have hmw := c1T (i := a) (j := b) zO
   have hmid : a < (a + b) / 2 /\ (a + b) / 2 < b := by omega
   generalize hme : (a + b) / 2 = mid at hmw hmid
   refine a0n mixed c2P zS [] (fun R S hS => ?_)
   refine aU ?_
   refine a1i (t := false) (by show AV.bool (decide (IntKind.i64.wrap ((c : Int) - (a : Int)) = 1)) = _; rw [b0D zO zO]; congr 1; simp only [decide_eq_false_iff_not]; omega) (fun hb => by cases hb) (fun hb => ?_)
   refine aU ?_
   refine a1i (t := false) (by show AV.bool (decide (IntKind.i64.wrap ((b : Int) - (c : Int)) = 1)) = _; rw [b0D zO zO]; congr 1; simp only [decide_eq_false_iff_not]; omega) (fun hb => by cases hb) (fun hb => ?_)
   refine i7 ?_
   refine f5 ?_
   refine d9 ?_
   refine b8 ?_
   refine aS ?_
   refine b7 ?_
   refine f5 ?_
   refine d9 ?_
   refine b8 ?_
   refine aS ?_
   refine b7 ?_
   refine f5 ?_
   refine d9 ?_
   refine b8 ?_
   refine aS ?_
   refine b7 ?_
   refine f5 ?_
   refine b0c (σ := Nat × Nat) (fun s => [(0, .ref o v 0 l.length (some 4)), (1, .int .i64 a), (2, .int .i64 c), (3, .int .i64 b), (4, cvF), (18, .int .i64 (mid : Int)), (19, .int .i64 ((mid + c : Nat) : Int)), (20, .int .i64 (s.1 : Int)), (21, .int .i64 (s.2 : Int))]) (fun _ => (o, v, flat f l ++ j) :: R)
    (fun s => (s.1 = a /\ s.2 = c /\ c <= mid) \/ (s.1 + b = mid + c /\ s.2 = mid /\ mid < c)) ?_ (fun s S hI hS => ?_)
   ·refine aU ?_
    refine a1i rfl (fun hb => ?_) (fun hb => ?_)
    ·have hlt : mid < c := by simp only [hmw, decide_eq_true_eq] at hb; omega
     refine aU ?_
     exact y4 ⟨(mid + c - b, mid), .inr ⟨by simp only; omega, rfl, hlt⟩, hS, a0B ⟨.refl _, .refl _, .refl _, .refl _, .refl _, a3P hmw, a3P (by rw [hmw]; exact b1t zO), a3P (by rw [hmw, b1t zO]; exact b0D zO zO), a3P hmw, trivial⟩⟩
    ·have hge : c <= mid := by simp only [hmw, decide_eq_false_iff_not] at hb; omega
     refine aU ?_
     exact y4 ⟨(a, c), .inl ⟨rfl, rfl, hge⟩, hS, a0B ⟨.refl _, .refl _, .refl _, .refl _, .refl _, a3P hmw, a3P (by rw [hmw]; exact b1t zO), .refl _, .refl _, trivial⟩⟩
   obtain ⟨lo, hi⟩ := s
   dsimp only at hI
   have wp : IntKind.i64.wrap (((mid + c : Nat) : Int) - 1) = ((mid + c - 1 : Nat) : Int) := c0q zO zO
   refine aU ?_
   refine k7 (a0h (σ := Nat × Nat) (fun s => [(0, .ref o v 0 l.length (some 4)), (1, .int .i64 a), (2, .int .i64 c), (3, .int .i64 b), (4, cvF), (18, .int .i64 (mid : Int)), (19, .int .i64 ((mid + c : Nat) : Int)), (20, .int .i64 (s.1 : Int)), (21, .int .i64 (s.2 : Int)), (22, .int .i64 ((mid + c - 1 : Nat) : Int))]) (fun _ => (o, v, flat f l ++ j) :: R)
    (fun s => lo <= s.1 /\ s.1 <= s.2 /\ s.2 <= hi /\ (∀ k x y, lo <= k -> k < s.1 -> l[k]? = some x -> l[mid + c - 1 - k]? = some y -> key x <= key y) /\ (∀ k x y, s.2 <= k -> k < hi -> l[k]? = some x -> l[mid + c - 1 - k]? = some y -> key y < key x)) (fun s => s.2 - s.1) (lo, hi) hS
    ⟨Nat.le_refl _, by simp only; omega, Nat.le_refl _, fun k x y p q => by simp only at q; omega, fun k x y p q => by simp only at p; omega⟩
    (a0B ⟨.refl _, .refl _, .refl _, .refl _, .refl _, .refl _, .refl _, .refl _, .refl _, a3P wp, trivial⟩) (fun s S hJ hS => ?_))
   obtain ⟨s, e⟩ := s
   obtain ⟨i1, i2, i3, i4, i5⟩ := hJ
   dsimp only at i1 i2 i3 i4 i5 hS
   refine aU ?_
   dsimp only
   refine a1i rfl (fun hb => ?_) (fun hb => ?_)
   ·have hlt : s < e := by simp only [decide_eq_true_eq] at hb; omega
    have hhw := c1T (i := s) (j := e) zO
    have hh1 : s <= (s + e) / 2 /\ (s + e) / 2 < e := by omega
    generalize (s + e) / 2 = h at hhw hh1
    obtain ⟨x, hx⟩ : ∃ x, l[h]? = some x := ⟨l[h], List.getElem?_eq_getElem zO⟩
    obtain ⟨y, hy⟩ : ∃ y, l[mid + c - 1 - h]? = some y := ⟨l[mid + c - 1 - h], List.getElem?_eq_getElem zO⟩
    refine aU ?_
    refine k7 ?_
    refine aU ?_
    refine z6 rfl rfl (mid + c - 1 - h) (by rw [hhw]; exact b0D zO zO) zO ?_
    refine a1u hS he rfl zM (n := mid + c - 1 - h) (fo := 0) (y := y) (by simp [g8]) hy (he.part y) ?_
    refine aU ?_
    refine z6 rfl rfl h hhw zO ?_
    refine a1u hS he rfl zM (n := h) (fo := 0) (y := x) (by simp [g8]) hx (he.part x) ?_
    refine a3u (a9o he hc y x) hS rfl b2t rfl (by repeat (first | exact Spl.nil | refine Spl.cons (by repeat (first | exact Pk.here | apply Pk.there | apply Pk.skip)) ?_ | refine Spl.app (by repeat (first | exact PkC.here | apply PkC.there | apply PkC.skip)) ?_)) (fun r S L' hL hS => ?_)
    obtain ⟨rfl, rfl⟩ := hL
    refine aU ?_
    refine a1i rfl (fun hb => ?_) (fun hb => ?_)
    ·have hge : key x <= key y := by
      simp only [Bool.not_eq_true', decide_eq_false_iff_not] at hb
      have := mt a2H.2 hb
      omega
     refine aU ?_
     refine a0m ?_
     refine aU ?_
     refine ⟨(h + 1, e), ⟨by simp only; omega, by simp only; omega, i3, fun k x' y' p q r t => ?_, i5⟩, by simp only; omega, hS, a0B ⟨.refl _, .refl _, .refl _, .refl _, .refl _, .refl _, .refl _, a3P (by rw [hhw]; exact a6q zO), .refl _, .refl _, trivial⟩⟩
     simp only at q
     have d1 := s1 k h x' x zO zO zO r hx
     have d2 := s2 (mid + c - 1 - h) (mid + c - 1 - k) y y' zO zO zO hy t
     omega
    ·have hlt2 : key y < key x := by
      simp only [Bool.not_eq_false', decide_eq_true_eq] at hb
      exact a2H.1 hb
     refine aU ?_
     refine a0m ?_
     refine aU ?_
     refine ⟨(s, h), ⟨i1, by simp only; omega, by simp only; omega, i4, fun k x' y' p q r t => ?_⟩, by simp only; omega, hS, a0B ⟨.refl _, .refl _, .refl _, .refl _, .refl _, .refl _, .refl _, .refl _, a3P hhw, .refl _, trivial⟩⟩
     simp only at p
     have d1 := s1 h k x x' zO zO zO hx r
     have d2 := s2 (mid + c - 1 - k) (mid + c - 1 - h) y' y zO zO zO t hy
     omega
   ·have hge : e = s := by simp only [decide_eq_false_iff_not] at hb; omega
    subst hge
    have hee : ∃ n, n + e = mid + c := ⟨mid + c - e, by omega⟩
    obtain ⟨n, hn⟩ := hee
    have hee2 : a <= e /\ e <= c /\ c <= n /\ n <= b := by omega
    have c1 : e = a \/ n = b \/ ∀ x y, l[e - 1]? = some x -> l[n]? = some y -> key x <= key y := by
     by_cases q : e = lo
     ·rcases hI with h | h
      ·exact .inl zO
      ·exact .inr (.inl zO)
     ·exact .inr (.inr fun x y p r => i4 (e - 1) x y zO zO p (by rw [show mid + c - 1 - (e - 1) = n by omega]; exact r))
    have c2 : e = c \/ n = c \/ ∀ x y, l[n - 1]? = some x -> l[e]? = some y -> key x <= key y := by
     by_cases q : e = hi
     ·rcases hI with h | h
      ·exact .inl zO
      ·exact .inr (.inl zO)
     ·exact .inr (.inr fun x y p r => Int.le_of_lt (i5 e y x (Nat.le_refl _) zO r (by rw [show mid + c - 1 - e = n - 1 by omega]; exact p)))
    refine w8 ?_
    refine aE ?_
    refine f5 ?_
    refine d9 ?_
    refine b8 ?_
    refine aS ?_
    refine b7 ?_
    refine f5 ?_
    refine b0c (σ := List α) (fun m => [(0, .ref o v 0 l.length (some 4)), (1, .int .i64 a), (2, .int .i64 c), (3, .int .i64 b), (4, cvF), (18, .int .i64 (mid : Int)), (20, .int .i64 (e : Int)), (24, .int .i64 (n : Int))]) (fun m => (o, v, flat f m ++ j) :: R)
     (fun m => m.Perm l /\ ∀ k, m[k]? = l[roI e c n k]?) ?_ (fun m S hM hS => ?_)
    ·have wn : IntKind.i64.wrap (((mid + c : Nat) : Int) - (e : Int)) = (n : Int) := by rw [b0D zO zO]; omega
     refine aU ?_
     refine a7P (b := decide ((e : Int) < (c : Int))) rfl rfl rfl (fun hb => ?_) (fun hb => ?_)
     ·have hlt : e < c := by simp only [decide_eq_true_eq] at hb; omega
      refine aU ?_
      refine a1i rfl (fun hb => ?_) (fun hb => ?_)
      ·have hlt2 : c < n := by simp only [wn, decide_eq_true_eq] at hb; omega
       refine aU ?_
       refine a4S (b6P he (l := l) (o := o) (v := v) (a := e) (c := c) (b := n) (j := j) (cv := cvF) hl hlt hlt2 zO) hS (by show [AV.ref o v 0 l.length (some 4), .int .i64 e, .int .i64 c, .int .i64 (IntKind.i64.wrap (((mid + c : Nat) : Int) - (e : Int))), cvF] = _; rw [wn]) (by repeat (first | exact Spl.nil | refine Spl.cons (by repeat (first | exact Pk.here | apply Pk.there | apply Pk.skip)) ?_ | refine Spl.app (by repeat (first | exact PkC.here | apply PkC.there | apply PkC.skip)) ?_)) (fun r S L' hL hS => ?_)
       obtain ⟨m, q1, q2, rfl⟩ := hL
       refine aU ?_
       exact y4 ⟨m, ⟨q1, q2⟩, hS, a0B ⟨.refl _, .refl _, .refl _, .refl _, .refl _, .refl _, .refl _, a3P wn, trivial⟩⟩
      ·have hge2 : n = c := by simp only [wn, decide_eq_false_iff_not] at hb; omega
       refine aU ?_
       exact y4 ⟨l, ⟨.refl _, fun k => by rw [hge2, b9j]⟩, hS, a0B ⟨.refl _, .refl _, .refl _, .refl _, .refl _, .refl _, .refl _, a3P wn, trivial⟩⟩
     ·have hge2 : e = c := by simp only [decide_eq_false_iff_not, Bool.not_true] at hb; omega
      refine aU ?_
      refine a1i (t := false) rfl (fun hb => by cases hb) (fun _ => ?_)
      refine aU ?_
      exact y4 ⟨l, ⟨.refl _, fun k => by rw [hge2, b9i]⟩, hS, a0B ⟨.refl _, .refl _, .refl _, .refl _, .refl _, .refl _, .refl _, a3P wn, trivial⟩⟩
    obtain ⟨hp, hr⟩ := hM
    have hml := hp.length_eq
    obtain ⟨t1, t2, t3, t4, t5⟩ := b2V (key := key) (a := a) (m := c) (b := b) (mid := mid) (s := e) (e := n) (L := l) (L' := m) zO zO h3 s1 s2 hee2.1 hee2.2.1 hee2.2.2.1 hee2.2.2.2 zO hr c1 c2
    have hMv : Mv a b l m := Mv.of_roI hp hr hee2.1 hee2.2.1 hee2.2.2.1 hee2.2.2.2
    refine b0c (σ := List α) (fun m => [(0, .ref o v 0 l.length (some 4)), (2, .int .i64 c), (3, .int .i64 b), (4, cvF), (18, .int .i64 (mid : Int)), (24, .int .i64 (n : Int))]) (fun m => (o, v, flat f m ++ j) :: R)
     (fun m2 => Mv a mid m m2 /\ SrtR key a mid m2) ?_ (fun m2 S hM2 hS => ?_)
    ·refine aU ?_
     refine a7P (b := decide ((a : Int) < (e : Int))) rfl rfl rfl (fun hb => ?_) (fun hb => ?_)
     ·have hlt : a < e := by simp only [decide_eq_true_eq] at hb; omega
      refine aU ?_
      refine a1i rfl (fun hb => ?_) (fun hb => ?_)
      ·have hlt2 : e < mid := by simp only [decide_eq_true_eq] at hb; omega
       refine aU ?_
       refine a4S (a9p he hc N (l := m) (o := o) (v := v) (a := a) (c := e) (b := mid) (j := j) zO zO hlt hlt2 zO t1 t2) hS (by rw [hml]; rfl) (by repeat (first | exact Spl.nil | refine Spl.cons (by repeat (first | exact Pk.here | apply Pk.there | apply Pk.skip)) ?_ | refine Spl.app (by repeat (first | exact PkC.here | apply PkC.there | apply PkC.skip)) ?_)) (fun r S L' hL hS => ?_)
       obtain ⟨m2, q1, q2, rfl⟩ := hL
       refine aU ?_
       exact y4 ⟨m2, ⟨q1, q2⟩, hS, wF⟩
      ·have hge2 : e = mid := by simp only [decide_eq_false_iff_not] at hb; omega
       refine aU ?_
       exact y4 ⟨m, ⟨.refl, by rw [<- hge2]; exact t1⟩, hS, wF⟩
     ·have hge2 : e = a := by simp only [decide_eq_false_iff_not, Bool.not_true] at hb; omega
      refine aU ?_
      refine a1i (t := false) rfl (fun hb => by cases hb) (fun _ => ?_)
      refine aU ?_
      exact y4 ⟨m, ⟨.refl, by rw [<- hge2]; exact t2⟩, hS, wF⟩
    obtain ⟨hM2, hs2⟩ := hM2
    have hm2 := hM2.len
    have u3 : SrtR key mid n m2 := t3.cong fun i p q => hM2.out i zO
    have u4 : SrtR key n b m2 := t4.cong fun i p q => hM2.out i zO
    refine aU ?_
    refine a7P (b := decide ((mid : Int) < (n : Int))) rfl rfl rfl (fun hb => ?_) (fun hb => ?_)
    ·have hlt : mid < n := by simp only [decide_eq_true_eq] at hb; omega
     refine aU ?_
     refine a1i rfl (fun hb => ?_) (fun hb => ?_)
     ·have hlt2 : n < b := by simp only [decide_eq_true_eq] at hb; omega
      refine aU ?_
      refine a4S (a9p he hc N (l := m2) (o := o) (v := v) (a := mid) (c := n) (b := b) (j := j) zO zO hlt hlt2 zO u3 u4) hS (by rw [hm2, hml]; rfl) (by repeat (first | exact Spl.nil | refine Spl.cons (by repeat (first | exact Pk.here | apply Pk.there | apply Pk.skip)) ?_ | refine Spl.app (by repeat (first | exact PkC.here | apply PkC.there | apply PkC.skip)) ?_)) (fun r S L' hL hS => ?_)
      obtain ⟨m3, q1, q2, rfl⟩ := hL
      refine aU ?_
      exact ⟨trivial, _, rfl, _, ⟨m3, hMv.trans ((hM2.mono (Nat.le_refl _) zO).trans (q1.mono zO (Nat.le_refl _))), a7C hM2 q1 zO zO hs2 q2 t5, rfl⟩, hS⟩
     ·have hge2 : n = b := by simp only [decide_eq_false_iff_not] at hb; omega
      refine aU ?_
      exact ⟨trivial, _, rfl, _, ⟨m2, hMv.trans (hM2.mono (Nat.le_refl _) zO), a7C hM2 .refl zO zO hs2 (by rw [<- hge2]; exact u3) t5, rfl⟩, hS⟩
    ·have hge2 : n = mid := by simp only [decide_eq_false_iff_not, Bool.not_true] at hb; omega
     refine aU ?_
     refine a1i (t := false) rfl (fun hb => by cases hb) (fun _ => ?_)
     refine aU ?_
     exact ⟨trivial, _, rfl, _, ⟨m2, hMv.trans (hM2.mono (Nat.le_refl _) zO), a7C hM2 .refl zO zO hs2 (by rw [<- hge2]; exact u4) t5, rfl⟩, hS⟩
end
end Go.Proofs.YtepdcebjobjjgaaDoor

/- slices.SortStableFunc: the walk. -/
namespace Go.Ab
universe u
variable {α : Type u} {key : α -> Int} {w lo a n q : Nat} {L L' : List α}
def b5h (key : α -> Int) (w lo n : Nat) (L : List α) : Prop := ∀ t, SrtR key (lo + w * t) (min (lo + w * t + w) n) L
def b6U (key : α -> Int) (w a : Nat) (L : List α) : Prop := ∀ t, w * t < a -> SrtR key (w * t) (w * t + w) L
theorem b6U.zero : b6U key w 0 L := fun t h => by omega
theorem b6U.step (h : b6U key w a L) (ha : a = w * q) (hM : ∀ i, i < a -> L'[i]? = L[i]?) (hs : SrtR key a (a + w) L') : b6U key w (a + w) L' := by
 intro t ht
 by_cases c : t < q
 ·have : w * (t + 1) <= w * q := Nat.mul_le_mul_left _ c
  rw [Nat.mul_succ] at this
  refine (h t (by by_cases d : w = 0; · subst d; simp at *; omega
                  ·omega)).cong fun i p r => hM i zO
 ·by_cases c2 : t = q
  ·subst c2; rw [<- ha]; exact hs
  ·have : w * (q + 1) <= w * t := Nat.mul_le_mul_left _ zO
   rw [Nat.mul_succ] at this
   omega
theorem b6U.fin (h : b6U key w a L) (ha : a = w * q) (hM : ∀ i, i < a -> L'[i]? = L[i]?) (hs : SrtR key a n L') (hn : n < a + w) : b5h key w 0 n L' := by
 intro t
 rw [Nat.zero_add]
 by_cases c : t < q
 ·have : w * (t + 1) <= w * q := Nat.mul_le_mul_left _ c
  rw [Nat.mul_succ] at this
  have hw : 0 < w := by
   rcases Nat.eq_zero_or_pos w with d | d
   ·subst d; simp at *; omega
   ·exact d
  exact ((h t zO).cong fun i p r => hM i zO).sub (Nat.le_refl _) (Nat.min_le_left _ _)
 ·by_cases c2 : t = q
  ·subst c2; rw [<- ha]; exact hs.sub (Nat.le_refl _) (Nat.min_le_right _ _)
  ·have : w * (q + 1) <= w * t := Nat.mul_le_mul_left _ zO
   rw [Nat.mul_succ] at this
   exact .nil zO
theorem b5h.move (h : b5h key w lo n L) (k : Nat) (hM : ∀ i, lo + w * k <= i -> L'[i]? = L[i]?) : b5h key w (lo + w * k) n L' := by
 intro t
 have := h (k + t)
 rw [Nat.mul_add, <- Nat.add_assoc] at this
 exact this.cong fun i p r => hM i zO
theorem b5h.head (h : b5h key w lo n L) : SrtR key lo (min (lo + w) n) L := by simpa using h 0
theorem b5h.snd (h : b5h key w lo n L) : SrtR key (lo + w) (min (lo + w + w) n) L := by simpa using h 1
end Go.Ab
namespace Go.Proofs.YtepdcebjobjjgaaDoor
open Go Go.Ab
set_option maxRecDepth 20000
set_option maxHeartbeats 4000000
noncomputable def c6d : FC := fcO 36
theorem c6e : Fn3 Tryd.prog 36 63 [] c6d := ⟨_, _, Tryd.func36, rfl, rfl, rfl, by kernel_rfl⟩

noncomputable def c6f : FC := fcO 16
theorem c6g : Fn3 Tryd.prog 16 9 [] c6f := ⟨_, _, Tryd.func16, rfl, rfl, rfl, by kernel_rfl⟩

section
variable {α : Type} {f : α -> AV} {key : α -> Int}
theorem c4m {a : Nat} (h : a <= 1000000000) : IntKind.i64.wrap (2 * (a : Int)) = ((2 * a : Nat) : Int) := by rw [s5 zO]; omega
theorem c2Q {a : Nat} (h : a <= 1000000000) : IntKind.i64.wrap ((a : Int) * 2) = ((2 * a : Nat) : Int) := by rw [s5 zO]; omega
theorem b9k (he : Enc f (some 4)) (hc : b0v f key) {l : List α} {o v : Nat} {j : List AV} (hl : l.length <= 100000000) :
  Tri Tryd.prog 36 [.ref o v 0 l.length (some 4), .int .i64 l.length, cvF] [(o, v, flat f l ++ j)] (fun _ L' => ∃ l' : List α, Mv 0 l.length l l' /\ SrtR key 0 l.length l' /\ L' = [(o, v, flat f l' ++ j)]) := by
 refine a0n mixed c6e zS [] (fun R S hS => ?_)
 refine aU ?_
 refine k7 (a0h (σ := Nat × List α) (fun s => [(0, .ref o v 0 l.length (some 4)), (1, .int .i64 l.length), (2, cvF), (6, .int .i64 20), (7, .int .i64 (s.1 : Int)), (8, .int .i64 ((s.1 + 20 : Nat) : Int))]) (fun s => (o, v, flat f s.2 ++ j) :: R)
  (fun s => s.1 <= l.length /\ (∃ q, s.1 = 20 * q) /\ Mv 0 l.length l s.2 /\ b6U key 20 s.1 s.2) (fun s => l.length - s.1) (0, l) hS ⟨Nat.zero_le _, ⟨0, rfl⟩, .refl, .zero⟩
  wF (fun s S hI hS => ?_))
 obtain ⟨a, m⟩ := s
 obtain ⟨i1, ⟨q, i2⟩, hM, hD⟩ := hI
 dsimp only at i1 i2 hM hD hS
 have hm := hM.len
 refine aU ?_
 dsimp only
 refine a1i rfl (fun hb => ?_) (fun hb => ?_)
 ·have hle : a + 20 <= l.length := by simp only [decide_eq_true_eq] at hb; omega
  refine aU ?_
  refine k7 ?_
  refine aU ?_
  refine a4S (b2u he hc (l := m) (o := o) (v := v) (a := a) (b := a + 20) (j := j) zO zO zO) hS (by rw [hm]; rfl) (by repeat (first | exact Spl.nil | refine Spl.cons (by repeat (first | exact Pk.here | apply Pk.there | apply Pk.skip)) ?_ | refine Spl.app (by repeat (first | exact PkC.here | apply PkC.there | apply PkC.skip)) ?_)) (fun r S L' hL hS => ?_)
  obtain ⟨m2, q1, q2, rfl⟩ := hL
  refine aU ?_
  refine a0m ?_
  refine aU ?_
  refine ⟨(a + 20, m2), ⟨hle, ⟨q + 1, by simp only; omega⟩, hM.trans (q1.mono (Nat.zero_le _) hle), hD.step i2 (fun i h => q1.out i zO) q2⟩, by simp only; omega, hS, a0B ⟨.refl _, .refl _, .refl _, .refl _, .refl _, a3P (b1t (b := 20) zO), trivial⟩⟩
 ·have hgt : l.length < a + 20 := by simp only [decide_eq_false_iff_not] at hb; omega
  refine w8 ?_
  refine aE ?_
  refine aU ?_
  refine a4S (b2u he hc (l := m) (o := o) (v := v) (a := a) (b := l.length) (j := j) zO zO zO) hS (by rw [hm]; rfl) (by repeat (first | exact Spl.nil | refine Spl.cons (by repeat (first | exact Pk.here | apply Pk.there | apply Pk.skip)) ?_ | refine Spl.app (by repeat (first | exact PkC.here | apply PkC.there | apply PkC.skip)) ?_)) (fun r S L' hL hS => ?_)
  obtain ⟨m2, q1, q2, rfl⟩ := hL
  have hB := hD.fin (n := l.length) i2 (fun i h => q1.out i zO) q2 hgt
  have hM2 := hM.trans (q1.mono (Nat.zero_le _) (Nat.le_refl _))
  refine aU ?_
  refine k7 (a0h (σ := Nat × List α) (fun s => [(0, .ref o v 0 l.length (some 4)), (1, .int .i64 l.length), (2, cvF), (6, .int .i64 (s.1 : Int))]) (fun s => (o, v, flat f s.2 ++ j) :: R)
   (fun s => 0 < s.1 /\ s.1 <= 1000000000 /\ Mv 0 l.length l s.2 /\ b5h key s.1 0 l.length s.2) (fun s => l.length - s.1) (20, m2) hS ⟨by simp only; omega, by simp only; omega, hM2, hB⟩
   wF (fun s S hI hS => ?_))
  obtain ⟨w, m3⟩ := s
  obtain ⟨w1, w2, hM3, hB3⟩ := hI
  dsimp only at w1 w2 hM3 hB3 hS
  refine aU ?_
  dsimp only
  refine a1i rfl (fun hb => ?_) (fun hb => ?_)
  ·have hlt : w < l.length := by simp only [decide_eq_true_eq] at hb; omega
   refine aU ?_
   refine k7 ?_
   refine aU ?_
   refine k7 (a0h (σ := Nat × List α) (fun s => [(0, .ref o v 0 l.length (some 4)), (1, .int .i64 l.length), (2, cvF), (6, .int .i64 (w : Int)), (7, .int .i64 (s.1 : Int)), (8, .int .i64 ((s.1 + 2 * w : Nat) : Int))]) (fun s => (o, v, flat f s.2 ++ j) :: R)
    (fun s => s.1 <= l.length /\ (∃ q, s.1 = (2 * w) * q) /\ Mv 0 l.length l s.2 /\ b6U key (2 * w) s.1 s.2 /\ b5h key w s.1 l.length s.2) (fun s => l.length - s.1) (0, m3) hS ⟨Nat.zero_le _, ⟨0, rfl⟩, hM3, .zero, hB3⟩
    (a0B ⟨.refl _, .refl _, .refl _, .refl _, .refl _, a3P (by rw [c4m zO]; simp), trivial⟩) (fun s S hI hS => ?_))
   obtain ⟨a, m⟩ := s
   obtain ⟨i1, ⟨q, i2⟩, hM, hD, hB⟩ := hI
   dsimp only at i1 i2 hM hD hB hS
   have hm := hM.len
   refine aU ?_
   dsimp only
   refine a1i rfl (fun hb => ?_) (fun hb => ?_)
   ·have hle : a + 2 * w <= l.length := by simp only [decide_eq_true_eq] at hb; omega
    refine aU ?_
    refine k7 ?_
    refine aU ?_
    refine a4S (a9p he hc l.length (l := m) (o := o) (v := v) (a := a) (c := a + w) (b := a + 2 * w) (j := j) zO zO zO zO zO (hB.head.sub (Nat.le_refl _) zO) (hB.snd.sub (Nat.le_refl _) zO)) hS
     (by show [AV.ref o v 0 l.length (some 4), .int .i64 a, .int .i64 (IntKind.i64.wrap ((a : Int) + (w : Int))), .int .i64 ((a + 2 * w : Nat) : Int), cvF] = _; rw [b1t zO, hm]) (by repeat (first | exact Spl.nil | refine Spl.cons (by repeat (first | exact Pk.here | apply Pk.there | apply Pk.skip)) ?_ | refine Spl.app (by repeat (first | exact PkC.here | apply PkC.there | apply PkC.skip)) ?_)) (fun r S L' hL hS => ?_)
    obtain ⟨m4, q1, q2, rfl⟩ := hL
    refine aU ?_
    refine a0m ?_
    refine aU ?_
    refine ⟨(a + 2 * w, m4), ⟨hle, ⟨q + 1, by simp only; rw [Nat.mul_succ]; omega⟩, hM.trans (q1.mono (Nat.zero_le _) hle), hD.step i2 (fun i h => q1.out i zO) q2, ?_⟩, by simp only; omega, hS, a0B ⟨.refl _, .refl _, .refl _, .refl _, .refl _, a3P (by rw [c4m zO]; exact b1t zO), trivial⟩⟩
    have := hB.move 2 (L' := m4) (fun i h => q1.out i zO)
    rw [Nat.mul_comm w 2] at this
    exact this
   ·have hgt2 : l.length < a + 2 * w := by simp only [decide_eq_false_iff_not] at hb; omega
    refine w8 ?_
    refine aE ?_
    refine f5 ?_
    refine b0c (σ := List α) (fun _ => [(0, .ref o v 0 l.length (some 4)), (1, .int .i64 l.length), (2, cvF), (6, .int .i64 (w : Int))]) (fun m => (o, v, flat f m ++ j) :: R) (fun m2 => Mv 0 l.length l m2 /\ b5h key (2 * w) 0 l.length m2) ?_ (fun m2 S hm2 hS => ?_)
    ·refine aU ?_
     refine a1i rfl (fun hb => ?_) (fun hb => ?_)
     ·have hlt2 : a + w < l.length := by rw [b1t zO] at hb; simp only [decide_eq_true_eq] at hb; omega
      refine aU ?_
      refine a4S (a9p he hc l.length (l := m) (o := o) (v := v) (a := a) (c := a + w) (b := l.length) (j := j) zO zO zO zO zO (hB.head.sub (Nat.le_refl _) zO) (hB.snd.sub (Nat.le_refl _) zO)) hS (by show [AV.ref o v 0 l.length (some 4), .int .i64 a, .int .i64 (IntKind.i64.wrap ((a : Int) + (w : Int))), .int .i64 l.length, cvF] = _; rw [b1t zO, hm]) (by repeat (first | exact Spl.nil | refine Spl.cons (by repeat (first | exact Pk.here | apply Pk.there | apply Pk.skip)) ?_ | refine Spl.app (by repeat (first | exact PkC.here | apply PkC.there | apply PkC.skip)) ?_)) (fun r S L' hL hS => ?_)
      obtain ⟨m4, q1, q2, rfl⟩ := hL
      refine aU ?_
      exact y4 ⟨m4, ⟨hM.trans (q1.mono (Nat.zero_le _) (Nat.le_refl _)), hD.fin i2 (fun i h => q1.out i zO) q2 hgt2⟩, hS, wF⟩
     ·have hge2 : l.length <= a + w := by rw [b1t zO] at hb; simp only [decide_eq_false_iff_not] at hb; omega
      refine aU ?_
      exact y4 ⟨m, ⟨hM, hD.fin i2 (fun i h => rfl) (hB.head.sub (Nat.le_refl _) zO) hgt2⟩, hS, wF⟩
    refine aU ?_
    refine a0m ?_
    refine aU ?_
    refine ⟨(2 * w, m2), ⟨by simp only; omega, by simp only; omega, hm2.1, hm2.2⟩, by simp only; omega, hS, a0B ⟨.refl _, .refl _, .refl _, a3P (c2Q zO), trivial⟩⟩
  ·have hge : l.length <= w := by simp only [decide_eq_false_iff_not] at hb; omega
   refine w8 ?_
   refine aE ?_
   exact ⟨trivial, _, rfl, _, ⟨m3, hM3, hB3.head.sub (Nat.le_refl _) zO, rfl⟩, hS⟩
theorem b6V (he : Enc f (some 4)) (hc : b0v f key) {l : List α} {o v : Nat} {j : List AV} (hl : l.length <= 100000000) :
  Tri Tryd.prog 16 [.ref o v 0 l.length (some 4), cvF] [(o, v, flat f l ++ j)] (fun _ L' => ∃ l' : List α, l'.Perm l /\ SrtR key 0 l'.length l' /\ L' = [(o, v, flat f l' ++ j)]) := by
 refine a0n mixed c6g zS [] (fun R S hS => ?_)
 refine aU ?_
 refine a4S (b9k he hc (l := l) (o := o) (v := v) (j := j) hl) hS rfl (by repeat (first | exact Spl.nil | refine Spl.cons (by repeat (first | exact Pk.here | apply Pk.there | apply Pk.skip)) ?_ | refine Spl.app (by repeat (first | exact PkC.here | apply PkC.there | apply PkC.skip)) ?_)) (fun r S L' hL hS => ?_)
 obtain ⟨m, q1, q2, rfl⟩ := hL
 refine aU ?_
 exact ⟨trivial, _, rfl, _, ⟨m, q1.perm, by rw [q1.len]; exact q2, rfl⟩, hS⟩
end
end Go.Proofs.YtepdcebjobjjgaaDoor

/- container/heap b5F scan.ends: the walks. -/
namespace Go.Proofs.YtepdcebjobjjgaaDoor
open Go Go.Ab
set_option maxRecDepth 20000
set_option maxHeartbeats 2000000
noncomputable def c2R : FC := fcO 105
theorem c2S : Fn3 Tryd.prog 105 18 [(6, none)] c2R := ⟨_, _, Tryd.func105, rfl, rfl, rfl, by kernel_rfl⟩

noncomputable def c2T : FC := fcO 106
theorem c2U : Fn3 Tryd.prog 106 20 [] c2T := ⟨_, _, Tryd.func106, rfl, rfl, rfl, by kernel_rfl⟩

noncomputable def c6h : FC := fcO 41
theorem c6i : Fn3 Tryd.prog 41 23 [] c6h := ⟨_, _, Tryd.func41, rfl, rfl, rfl, by kernel_rfl⟩

noncomputable def c6j : FC := fcO 38
theorem c6k : Fn3 Tryd.prog 38 48 [(6, none)] c6j := ⟨_, _, Tryd.func38, rfl, rfl, rfl, by kernel_rfl⟩

def sbz (x : Int × Int) : AV := .agg [.int .i64 x.1, .int .i64 x.2]
theorem a9q : Enc sbz (some 2) := ⟨fun _ => rfl, fun _ => rfl, fun _ => rfl, fun x n => i6 ⟨rfl, rfl, trivial⟩⟩
def toK (x : Int × Int) : Int := x.1
theorem a9r {h : List (Int × Int)} {o v i j : Nat} {jj : List AV} {x y : Int × Int} (hl : h.length <= 1000000000) (hx : h[i]? = some x) (hy : h[j]? = some y) :
  Tri Tryd.prog 105 [.ref o v 0 h.length (some 2), .int .i64 i, .int .i64 j] [(o, v, flat sbz h ++ jj)] (fun r L' => r = .bool (decide (toK x < toK y)) /\ L' = [(o, v, flat sbz h ++ jj)]) := by
 have h1 := (List.getElem?_eq_some_iff.1 hx).1
 have h2 := (List.getElem?_eq_some_iff.1 hy).1
 refine a0n mixed c2S zS [] (fun R S hS => ?_)
 refine aU ?_
 refine z6 rfl rfl i rfl h1 ?_
 refine aU ?_
 refine a1u hS a9q rfl zM (n := i) (fo := 0) (y := x) (by simp [g8]) hx rfl ?_
 refine aU ?_
 refine z6 rfl rfl j rfl h2 ?_
 refine aU ?_
 refine a1u hS a9q rfl zM (n := j) (fo := 0) (y := y) (by simp [g8]) hy rfl ?_
 refine aU ?_
 refine j5 ?_
 refine aE ?_
 exact ⟨trivial, _, rfl, _, ⟨rfl, rfl⟩, hS⟩
theorem a7E {h : List (Int × Int)} {o v i j : Nat} {jj : List AV} {x y : Int × Int} (hl : h.length <= 1000000000) (hx : h[i]? = some x) (hy : h[j]? = some y) :
  Tri Tryd.prog 106 [.ref o v 0 h.length (some 2), .int .i64 i, .int .i64 j] [(o, v, flat sbz h ++ jj)] (fun _ L' => L' = [(o, v, flat sbz ((h.set i y).set j x) ++ jj)]) := by
 have h1 := (List.getElem?_eq_some_iff.1 hx).1
 have h2 := (List.getElem?_eq_some_iff.1 hy).1
 have hz : (h.set i y)[j]? = some y := by
  by_cases e : i = j
  ·subst e; rw [List.getElem?_set_self h1]
  ·rw [List.getElem?_set_ne e]; exact hy
 refine a0n mixed c2U zS [] (fun R S hS => ?_)
 refine aU ?_
 refine z6 rfl rfl j rfl h2 ?_
 refine a1u hS a9q rfl zM (n := j) (fo := 0) (y := y) (by simp [g8]) hy rfl ?_
 refine aU ?_
 refine z6 rfl rfl i rfl h1 ?_
 refine a1u hS a9q rfl zM (n := i) (fo := 0) (y := x) (by simp [g8]) hx rfl ?_
 refine z6 rfl rfl i rfl h1 ?_
 refine a5G (l := h) (j := jj) hS a9q rfl zC (n := i) (fo := 0) (y := x) (y' := y) (by simp [g8]) hx (by first | exact Rp.here | (repeat (first | exact Rp.here | apply Rp.there | apply Rp.skip))) rfl rfl (by simp [g8]) rfl (fun S hS => ?_)
 refine z6 rfl rfl j rfl h2 ?_
 refine a5G (l := h.set i y) (j := jj) hS a9q rfl zC (n := j) (fo := 0) (y := y) (y' := x) (by simp [g8]) hz (by first | exact Rp.here | (repeat (first | exact Rp.here | apply Rp.there | apply Rp.skip))) rfl rfl (by simp [g8]) rfl (fun S hS => ?_)
 refine aU ?_
 exact ⟨trivial, _, rfl, _, rfl, hS⟩
theorem c6l {k : Nat} (h : k <= 4611686018427387904) : IntKind.i64.wrap ((IntKind.i64.wrap ((k : Int) - 1)).tdiv 2) = (((k - 1) / 2 : Nat) : Int) := by
 by_cases e : k = 0
 ·subst e; decide
 ·have e1 : IntKind.i64.wrap ((k : Int) - 1) = ((k - 1 : Nat) : Int) := c0q zO zO
  rw [e1, Int.tdiv_eq_ediv_of_nonneg zO, s5 zO]
  omega
theorem b1u : a2D Tryd.prog 69 "Less" = none := by kernel_rfl
theorem b5i : a3Y Tryd.prog 69 "Less" = some (105, none) := by kernel_rfl
theorem b1v : a2D Tryd.prog 69 "Swap" = none := by kernel_rfl
theorem b5j : a3Y Tryd.prog 69 "Swap" = some (106, none) := by kernel_rfl
theorem c2V : t6 Tryd.prog 105 = true := by kernel_rfl
theorem c2W : t6 Tryd.prog 106 = true := by kernel_rfl
theorem c1t {h : List (Int × Int)} {s vs o v j : Nat} {rest jj : List AV} (hl : h.length <= 1000000000) (hj : j < h.length) (hU : b5C toK h.length j h) :
  Tri Tryd.prog 41 [.iface 69 (.ptr s vs 0), .int .i64 j] [(s, vs, .ref o v 0 h.length (some 2) :: rest), (o, v, flat sbz h ++ jj)] (fun _ L' => ∃ h', h'.Perm h /\ HpI toK h'.length h' /\ L' = [(s, vs, .ref o v 0 h.length (some 2) :: rest), (o, v, flat sbz h' ++ jj)]) := by
 refine a0n mixed c6i zS [] (fun R S hS => ?_)
 refine k7 (a0h (σ := Nat × List (Int × Int)) (fun q => [(0, .iface 69 (.ptr s vs 0)), (1, .int .i64 (q.1 : Int))]) (fun q => (s, vs, .ref o v 0 h.length (some 2) :: rest) :: (o, v, flat sbz q.2 ++ jj) :: R) (fun q => q.1 < h.length /\ q.2.Perm h /\ b5C toK h.length q.1 q.2) (fun q => q.1) (j, h) hS ⟨hj, .refl _, hU⟩
  wF (fun q S hI hS => ?_))
 obtain ⟨k, m⟩ := q
 obtain ⟨i1, hp, hU⟩ := hI
 dsimp only at i1 hp hU hS
 have hm := hp.length_eq
 refine k7 ?_
 refine aU ?_
 dsimp only
 have hq := c6l (k := k) zO
 refine a7P (b := (IntKind.i64.wrap ((IntKind.i64.wrap ((k : Int) - 1)).tdiv 2) == (k : Int))) rfl rfl rfl (fun hb => ?_) (fun hb => ?_)
 ·have hk : 0 < k := by
   rw [hq] at hb
   simp only [beq_eq_false_iff_ne, ne_eq] at hb
   omega
  obtain ⟨y, hy⟩ : ∃ y, m[k]? = some y := ⟨m[k], List.getElem?_eq_getElem zO⟩
  obtain ⟨x, hx⟩ : ∃ x, m[(k - 1) / 2]? = some x := ⟨m[(k - 1) / 2], List.getElem?_eq_getElem zO⟩
  refine aU ?_
  refine a4i (a9r (h := m) (o := o) (v := v) (i := k) (j := (k - 1) / 2) (jj := jj) zO hy hx) hS rfl b1u b5i c2V rfl (.head _) (y := .ref o v 0 h.length (some 2)) rfl
   (by show [AV.ref o v 0 h.length (some 2), .int .i64 k, .int .i64 (IntKind.i64.wrap ((IntKind.i64.wrap ((k : Int) - 1)).tdiv 2))] = _; rw [hq, hm]) (Spl.cons (Pk.there Pk.here) Spl.nil) (fun r S L' hL hS => ?_)
  obtain ⟨rfl, rfl⟩ := hL
  replace hS : Ab.Sep S ((s, vs, .ref o v 0 h.length (some 2) :: rest) :: (o, v, flat sbz m ++ jj) :: R) := hS.perm (List.Perm.swap _ _ _)
  refine aU ?_
  refine a1i rfl (fun hb => ?_) (fun hb => ?_)
  ·have hle : toK x <= toK y := by
    simp only [Bool.not_eq_true', decide_eq_false_iff_not] at hb; omega
   refine w8 ?_
   refine aE ?_
   exact ⟨trivial, _, rfl, _, ⟨m, hp, by rw [hm]; exact hU.fin1 hx hy hle, rfl⟩, hS⟩
  ·have hlt : toK y < toK x := by
    simp only [Bool.not_eq_false', decide_eq_true_eq] at hb; exact hb
   refine aU ?_
   refine a4i (a7E (h := m) (o := o) (v := v) (i := (k - 1) / 2) (j := k) (jj := jj) zO hx hy) hS rfl b1v b5j c2W rfl (.head _) (y := .ref o v 0 h.length (some 2)) rfl
    (by show [AV.ref o v 0 h.length (some 2), .int .i64 (IntKind.i64.wrap ((IntKind.i64.wrap ((k : Int) - 1)).tdiv 2)), .int .i64 k] = _; rw [hq, hm]) (Spl.cons (Pk.there Pk.here) Spl.nil) (fun r S L' hL hS => ?_)
   subst hL
   replace hS : Ab.Sep S ((s, vs, .ref o v 0 h.length (some 2) :: rest) :: (o, v, flat sbz ((m.set ((k - 1) / 2) y).set k x) ++ jj) :: R) := hS.perm (List.Perm.swap _ _ _)
   refine aU ?_
   refine a0m ?_
   refine aU ?_
   refine ⟨((k - 1) / 2, (m.set ((k - 1) / 2) y).set k x), ⟨by simp only; omega, (swap_perm hx hy).trans hp, hU.step hk i1 zO hx hy hlt⟩, by simp only; omega, hS, a0B ⟨.refl _, a3P hq, trivial⟩⟩
 ·have hk : k = 0 := by
   rw [hq] at hb
   simp only [Bool.not_false, beq_iff_eq] at hb
   omega
  subst hk
  refine aU ?_
  refine a1i (t := true) rfl (fun _ => ?_) (fun hb => by cases hb)
  refine w8 ?_
  refine aE ?_
  exact ⟨trivial, _, rfl, _, ⟨m, hp, by rw [hm]; exact hU.fin0, rfl⟩, hS⟩
theorem chw {k : Nat} (h : k <= 1000000000) : IntKind.i64.wrap (IntKind.i64.wrap (2 * (k : Int)) + 1) = ((2 * k + 1 : Nat) : Int) := by
 have e1 : IntKind.i64.wrap (2 * (k : Int)) = ((2 * k : Nat) : Int) := by rw [s5 zO]; omega
 rw [e1]; exact a6q zO
theorem b6W {h : List (Int × Int)} {s vs o v n : Nat} {rest jj : List AV} (hl : h.length <= 1000000000) (hn : n <= h.length) (hU : b5D toK n 0 h) :
  Tri Tryd.prog 38 [.iface 69 (.ptr s vs 0), .int .i64 0, .int .i64 n] [(s, vs, .ref o v 0 h.length (some 2) :: rest), (o, v, flat sbz h ++ jj)] (fun _ L' => ∃ h', h'.Perm h /\ HpI toK n h' /\ (∀ k, n <= k -> h'[k]? = h[k]?) /\ L' = [(s, vs, .ref o v 0 h.length (some 2) :: rest), (o, v, flat sbz h' ++ jj)]) := by
 refine a0n mixed c6k zS [] (fun R S hS => ?_)
 refine aU ?_
 refine k7 (a0h (σ := Nat × List (Int × Int)) (fun q => [(0, .iface 69 (.ptr s vs 0)), (1, .int .i64 0), (2, .int .i64 n), (6, .bool false), (7, .int .i64 (q.1 : Int))]) (fun q => (s, vs, .ref o v 0 h.length (some 2) :: rest) :: (o, v, flat sbz q.2 ++ jj) :: R) (fun q => q.1 <= h.length /\ q.2.Perm h /\ b5D toK n q.1 q.2 /\ ∀ k, n <= k -> q.2[k]? = h[k]?) (fun q => n - q.1) (0, h) hS ⟨Nat.zero_le _, .refl _, hU, fun _ _ => rfl⟩
  wF (fun q S hI hS => ?_))
 obtain ⟨i, m⟩ := q
 obtain ⟨i1, hp, hU, hO⟩ := hI
 dsimp only at i1 hp hU hS hO
 have hm := hp.length_eq
 have hq := chw (k := i) zO
 refine k7 ?_
 refine aU ?_
 dsimp only
 refine a7P (b := decide (IntKind.i64.wrap (IntKind.i64.wrap (2 * (i : Int)) + 1) >= (n : Int))) rfl rfl rfl (fun hb => ?_) (fun hb => ?_)
 ·have hin : 2 * i + 1 < n := by rw [hq] at hb; simp only [decide_eq_false_iff_not] at hb; omega
  refine aU ?_
  refine a1i (t := false) (by show AV.bool (decide (IntKind.i64.wrap (IntKind.i64.wrap (2 * (i : Int)) + 1) < 0)) = _; rw [hq]; exact congrArg AV.bool (decide_eq_false zO)) (fun hb => by cases hb) (fun _ => ?_)
  refine i7 ?_
  refine f5 ?_
  refine d9 ?_
  refine b8 ?_
  refine aS ?_
  refine b7 ?_
  refine f5 ?_
  obtain ⟨x, hx⟩ : ∃ x, m[i]? = some x := ⟨m[i], List.getElem?_eq_getElem zO⟩
  obtain ⟨y1, hy1⟩ : ∃ x, m[2 * i + 1]? = some x := ⟨m[2 * i + 1], List.getElem?_eq_getElem zO⟩
  have hq2 : IntKind.i64.wrap (IntKind.i64.wrap (IntKind.i64.wrap (2 * (i : Int)) + 1) + 1) = ((2 * i + 2 : Nat) : Int) := by rw [hq]; exact a6q zO
  refine b0c (σ := Nat) (fun j => [(0, .iface 69 (.ptr s vs 0)), (1, .int .i64 0), (2, .int .i64 n), (6, .bool false), (7, .int .i64 (i : Int)), (9, .int .i64 (j : Int))]) (fun _ => (s, vs, .ref o v 0 h.length (some 2) :: rest) :: (o, v, flat sbz m ++ jj) :: R)
   (fun j => (j = 2 * i + 1 \/ j = 2 * i + 2) /\ j < n /\ ∀ c y z, 0 < c -> c < n -> (c - 1) / 2 = i -> m[j]? = some y -> m[c]? = some z -> toK y <= toK z) ?_ (fun j S hj hS => ?_)
  ·refine aU ?_
   refine a7P (b := decide (IntKind.i64.wrap (IntKind.i64.wrap (IntKind.i64.wrap (2 * (i : Int)) + 1) + 1) < (n : Int))) rfl rfl rfl (fun hb => ?_) (fun hb => ?_)
   ·have h2n : 2 * i + 2 < n := by rw [hq2] at hb; simp only [decide_eq_true_eq] at hb; omega
    obtain ⟨y2, hy2⟩ : ∃ x, m[2 * i + 2]? = some x := ⟨m[2 * i + 2], List.getElem?_eq_getElem zO⟩
    refine aU ?_
    refine a4i (a9r (h := m) (o := o) (v := v) (i := 2 * i + 2) (j := 2 * i + 1) (jj := jj) zO hy2 hy1) hS rfl b1u b5i c2V rfl (.head _) (y := .ref o v 0 h.length (some 2)) rfl
     (by show [AV.ref o v 0 h.length (some 2), .int .i64 (IntKind.i64.wrap (IntKind.i64.wrap (IntKind.i64.wrap (2 * (i : Int)) + 1) + 1)), .int .i64 (IntKind.i64.wrap (IntKind.i64.wrap (2 * (i : Int)) + 1))] = _; rw [hq2, hq, hm]) (Spl.cons (Pk.there Pk.here) Spl.nil) (fun r S L' hL hS => ?_)
    obtain ⟨rfl, rfl⟩ := hL
    replace hS : Ab.Sep S ((s, vs, .ref o v 0 h.length (some 2) :: rest) :: (o, v, flat sbz m ++ jj) :: R) := hS.perm (List.Perm.swap _ _ _)
    refine aU ?_
    refine a1i rfl (fun hb => ?_) (fun hb => ?_)
    ·have hlt : toK y2 < toK y1 := by simpa using hb
     refine aU ?_
     refine y4 ⟨2 * i + 2, ⟨.inr rfl, h2n, fun c y z c1 c2 c3 e1 e2 => ?_⟩, hS, a0B ⟨.refl _, .refl _, .refl _, .refl _, .refl _, a3P hq2, trivial⟩⟩
     rw [hy2] at e1; cases e1
     have : c = 2 * i + 1 \/ c = 2 * i + 2 := by omega
     rcases this with rfl | rfl
     ·rw [hy1] at e2; cases e2; omega
     ·rw [hy2] at e2; cases e2; exact Int.le_refl _
    ·have hge : toK y1 <= toK y2 := by simp only [decide_eq_false_iff_not] at hb; omega
     refine aU ?_
     refine y4 ⟨2 * i + 1, ⟨.inl rfl, hin, fun c y z c1 c2 c3 e1 e2 => ?_⟩, hS, a0B ⟨.refl _, .refl _, .refl _, .refl _, .refl _, a3P hq, trivial⟩⟩
     rw [hy1] at e1; cases e1
     have : c = 2 * i + 1 \/ c = 2 * i + 2 := by omega
     rcases this with rfl | rfl
     ·rw [hy1] at e2; cases e2; exact Int.le_refl _
     ·rw [hy2] at e2; cases e2; exact hge
   ·have h2n : n <= 2 * i + 2 := by rw [hq2] at hb; simp only [Bool.not_true, decide_eq_false_iff_not] at hb; omega
    refine aU ?_
    refine a1i (t := false) rfl (fun hb => by cases hb) (fun _ => ?_)
    refine aU ?_
    refine y4 ⟨2 * i + 1, ⟨.inl rfl, hin, fun c y z c1 c2 c3 e1 e2 => ?_⟩, hS, a0B ⟨.refl _, .refl _, .refl _, .refl _, .refl _, a3P hq, trivial⟩⟩
    rw [hy1] at e1; cases e1
    have : c = 2 * i + 1 := by omega
    subst this
    rw [hy1] at e2; cases e2; exact Int.le_refl _
  obtain ⟨hj1, hj2, hj3⟩ := hj
  obtain ⟨y, hy⟩ : ∃ y, m[j]? = some y := ⟨m[j], List.getElem?_eq_getElem zO⟩
  refine aU ?_
  refine a4i (a9r (h := m) (o := o) (v := v) (i := j) (j := i) (jj := jj) zO hy hx) hS rfl b1u b5i c2V rfl (.head _) (y := .ref o v 0 h.length (some 2)) rfl
   (by rw [hm]; rfl) (Spl.cons (Pk.there Pk.here) Spl.nil) (fun r S L' hL hS => ?_)
  obtain ⟨rfl, rfl⟩ := hL
  replace hS : Ab.Sep S ((s, vs, .ref o v 0 h.length (some 2) :: rest) :: (o, v, flat sbz m ++ jj) :: R) := hS.perm (List.Perm.swap _ _ _)
  refine aU ?_
  refine a1i rfl (fun hb => ?_) (fun hb => ?_)
  ·have hle : toK x <= toK y := by
    simp only [Bool.not_eq_true', decide_eq_false_iff_not] at hb; omega
   refine w8 ?_
   refine aE ?_
   refine aU ?_
   refine j5 ?_
   refine aE ?_
   exact ⟨trivial, _, rfl, _, ⟨m, hp, hU.fin1 hx (fun c z c1 c2 c3 e2 => hj3 c y z c1 c2 c3 hy e2) hle, hO, rfl⟩, hS⟩
  ·have hlt : toK y < toK x := by
    simp only [Bool.not_eq_false', decide_eq_true_eq] at hb; exact hb
   refine aU ?_
   refine a4i (a7E (h := m) (o := o) (v := v) (i := i) (j := j) (jj := jj) zO hx hy) hS rfl b1v b5j c2W rfl (.head _) (y := .ref o v 0 h.length (some 2)) rfl
    (by rw [hm]; rfl) (Spl.cons (Pk.there Pk.here) Spl.nil) (fun r S L' hL hS => ?_)
   subst hL
   replace hS : Ab.Sep S ((s, vs, .ref o v 0 h.length (some 2) :: rest) :: (o, v, flat sbz ((m.set i y).set j x) ++ jj) :: R) := hS.perm (List.Perm.swap _ _ _)
   refine aU ?_
   refine a0m ?_
   refine aU ?_
   refine ⟨(j, (m.set i y).set j x), ⟨by simp only; omega, (swap_perm hx hy).trans hp, hU.step zO hj2 zO hx hy (fun c z c1 c2 c3 e2 => hj3 c y z c1 c2 c3 hy e2) hlt, fun k hk => ?_⟩, by simp only; omega, hS, wF⟩
   simp only
   rw [a0V hx hy, if_neg zO, if_neg zO]
   exact hO k hk
 ·have hin : n <= 2 * i + 1 := by
   rw [hq] at hb
   simp only [Bool.not_false, decide_eq_true_eq] at hb
   omega
  refine aU ?_
  refine a1i (t := true) rfl (fun _ => ?_) (fun hb => by cases hb)
  refine w8 ?_
  refine aE ?_
  refine aU ?_
  refine j5 ?_
  refine aE ?_
  exact ⟨trivial, _, rfl, _, ⟨m, hp, hU.fin0 hin, hO, rfl⟩, hS⟩
noncomputable def c2X : FC := fcO 109
theorem c2Y : Fn3 Tryd.prog 109 24 [(2, (some (some 2)))] c2X := ⟨_, _, Tryd.func109, rfl, rfl, rfl, by kernel_rfl⟩

noncomputable def c2Z : FC := fcO 107
theorem c3a : Fn3 Tryd.prog 107 6 [(2, none)] c2Z := ⟨_, _, Tryd.func107, rfl, rfl, rfl, by kernel_rfl⟩

noncomputable def c3b : FC := fcO 104
theorem c3c : Fn3 Tryd.prog 104 5 [(2, none)] c3b := ⟨_, _, Tryd.func104, rfl, rfl, rfl, by kernel_rfl⟩

noncomputable def c6m : FC := fcO 20
theorem c6n : Fn3 Tryd.prog 20 15 [(2, none)] c6m := ⟨_, _, Tryd.func20, rfl, rfl, rfl, by kernel_rfl⟩

theorem b6X {h0 : List (Int × Int)} {x : Int × Int} {s vs o v : Nat} {rest jj : List AV} (hl : h0.length < 1000000000) :
  Tri Tryd.prog 109 [.ptr s vs 0] [(s, vs, .ref o v 0 (h0.length + 1) (some 2) :: rest), (o, v, flat sbz (h0 ++ [x]) ++ jj)] (fun r L' => r = sbz x /\ L' = [(s, vs, .ref o v 0 h0.length (some 2) :: rest), (o, v, flat sbz h0 ++ ((sbz x).cells ++ jj))]) := by
 have hx : (h0 ++ [x])[h0.length]? = some x := by simp
 have hw : IntKind.i64.wrap (((h0.length + 1 : Nat) : Int) - 1) = (h0.length : Int) := by rw [s5 zO]; omega
 refine a0n mixed c2Y zS [2, 4] (fun R S hS => ?_)
 refine aU ?_
 refine b1d hS rfl (fun o2 S hS => ?_)
 refine aU ?_
 refine v8 hS rfl (.tail _ (.head _)) (v := .ref o v 0 (h0.length + 1) (some 2)) rfl ?_
 refine aU ?_
 refine v8 hS rfl (.tail _ (.head _)) (v := .ref o v 0 (h0.length + 1) (some 2)) rfl ?_
 refine aU ?_
 refine z6 rfl rfl h0.length hw zO ?_
 refine a1u hS a9q rfl (.tail _ (.tail _ (.head _))) (n := h0.length) (fo := 0) (y := x) (by simp [g8]) hx rfl ?_
 refine b1d hS rfl (fun o4 S hS => ?_)
 refine E_stS hS rfl zC Rp.here rfl rfl (by first | exact Nat.le_of_ble_eq_true rfl | (simp; omega) | omega) (fun S hS => ?_)
 refine aU ?_
 refine v8 hS rfl (.tail _ (.tail _ (.head _))) (v := .ref o v 0 (h0.length + 1) (some 2)) rfl ?_
 refine aU ?_
 refine a8l (a := 0) (b := h0.length) rfl rfl (by show hiN (h0.length + 1) (some (.int .i64 (IntKind.i64.wrap (((h0.length + 1 : Nat) : Int) - 1)))) = _; rw [hw, a7h zO]; simp) ⟨by omega, by omega, .inl rfl⟩ ?_
 refine aU ?_
 refine E_stS hS rfl zC (Rp.there (Rp.there Rp.here)) rfl rfl (by first | exact Nat.le_of_ble_eq_true rfl | (simp; omega) | omega) (fun S hS => ?_)
 refine aU ?_
 refine v8 hS rfl (.head _) (v := sbz x) rfl ?_
 refine E_stS hS rfl zC (Rp.there Rp.here) rfl rfl (by first | exact Nat.le_of_ble_eq_true rfl | (simp; omega) | omega) (fun S hS => ?_)
 refine aU ?_
 refine j5 ?_
 refine aE ?_
 have h2 := hS.at (o := o2) (v := 0) (cs := [.int .i64 x.1, .int .i64 x.2]) (.tail _ (.head _))
 have hr : a6Y (some 2) (.ptr o2 0 0) S = some (sbz x, [o2], none) := by simp [a6Y, a0s, h2, a0M, sbz]
 have e1 : flat sbz (h0 ++ [x]) ++ jj = flat sbz h0 ++ ((sbz x).cells ++ jj) := by rw [a0C]; simp [flat]
 refine ⟨trivial, sbz x, (by show (a6Y (some 2) (.ptr o2 0 0) S).map (·.1) = some (sbz x); rw [hr]; rfl), _, ⟨rfl, rfl⟩, ?_⟩
 have hS2 : Ab.Sep S ((s, vs, .ref o v 0 h0.length (some 2) :: rest) :: [(o, v, flat sbz (h0 ++ [x]) ++ jj)].append R) :=
  ⟨fun p hp => hS.1 p (.tail _ (.tail _ hp)), (List.nodup_cons.1 (List.nodup_cons.1 hS.2).2).2⟩
 rw [e1] at hS2
 exact hS2
theorem b1w {h0 : List (Int × Int)} {x : Int × Int} {s vs o v : Nat} {rest jj : List AV} (hl : h0.length < 1000000000) :
  Tri Tryd.prog 107 [.ptr s vs 0] [(s, vs, .ref o v 0 (h0.length + 1) (some 2) :: rest), (o, v, flat sbz (h0 ++ [x]) ++ jj)] (fun r L' => r = .iface 66 (sbz x) /\ L' = [(s, vs, .ref o v 0 h0.length (some 2) :: rest), (o, v, flat sbz h0 ++ ((sbz x).cells ++ jj))]) := by
 refine a0n mixed c3a zS [] (fun R S hS => ?_)
 refine aU ?_
 refine a4S (b6X (h0 := h0) (x := x) (s := s) (vs := vs) (o := o) (v := v) (rest := rest) (jj := jj) hl) hS rfl (Spl.cons Pk.here (Spl.cons Pk.here Spl.nil)) (fun r S L' hL hS => ?_)
 obtain ⟨rfl, rfl⟩ := hL
 refine aU ?_
 refine j5 ?_
 refine aE ?_
 exact ⟨trivial, _, rfl, _, ⟨rfl, rfl⟩, hS⟩
theorem b5k {o v n : Nat} : Tri Tryd.prog 104 [.ref o v 0 n (some 2)] [] (fun r L' => r = .int .i64 n /\ L' = []) := by
 refine a0n mixed c3c zS [] (fun R S hS => ?_)
 refine aU ?_
 refine j5 ?_
 refine aE ?_
 exact ⟨trivial, _, rfl, _, ⟨rfl, rfl⟩, hS⟩
theorem b7M : a2D Tryd.prog 69 "Len" = none := by kernel_rfl
theorem c1u : a3Y Tryd.prog 69 "Len" = some (104, none) := by kernel_rfl
theorem c4n : t6 Tryd.prog 104 = true := by kernel_rfl
theorem c3d : a2D Tryd.prog 69 "Pop" = some 107 := by kernel_rfl
theorem c6o : t6 Tryd.prog 107 = true := by kernel_rfl
theorem b1x {h : List (Int × Int)} {n s vs o v : Nat} {rest jj : List AV} (hl : h.length < 1000000000) (hn : h.length = n + 1) (hH : HpI toK h.length h) :
  Tri Tryd.prog 20 [.iface 69 (.ptr s vs 0)] [(s, vs, .ref o v 0 h.length (some 2) :: rest), (o, v, flat sbz h ++ jj)] (fun r L' => ∃ x h' jj', r = .iface 66 (sbz x) /\ (h' ++ [x]).Perm h /\ (∀ i y, i < h.length -> h[i]? = some y -> toK x <= toK y) /\ HpI toK h'.length h' /\ L' = [(s, vs, .ref o v 0 h'.length (some 2) :: rest), (o, v, flat sbz h' ++ jj')]) := by
 obtain ⟨x, hx⟩ : ∃ x, h[0]? = some x := ⟨h[0], List.getElem?_eq_getElem zO⟩
 obtain ⟨y, hy⟩ : ∃ y, h[n]? = some y := ⟨h[n], List.getElem?_eq_getElem zO⟩
 have hw : IntKind.i64.wrap ((h.length : Int) - 1) = (n : Int) := by rw [s5 zO]; omega
 refine a0n mixed c6n zS [] (fun R S hS => ?_)
 refine aU ?_
 refine a4i (b5k (o := o) (v := v) (n := h.length)) hS rfl b7M c1u c4n rfl (.head _) (y := .ref o v 0 h.length (some 2)) rfl rfl Spl.nil (fun r S L' hL hS => ?_)
 obtain ⟨rfl, rfl⟩ := hL
 refine aU ?_
 refine a4i (a7E (h := h) (o := o) (v := v) (i := 0) (j := n) (jj := jj) zO hx hy) hS rfl b1v b5j c2W rfl (.head _) (y := .ref o v 0 h.length (some 2)) rfl
  (by show [AV.ref o v 0 h.length (some 2), .int .i64 0, .int .i64 (IntKind.i64.wrap ((h.length : Int) - 1))] = _; rw [hw]; rfl) (Spl.cons (Pk.there Pk.here) Spl.nil) (fun r S L' hL hS => ?_)
 subst hL
 generalize hh1 : (h.set 0 y).set n x = h1 at hS
 have hp1 : h1.Perm h := by rw [<- hh1]; exact swap_perm hx hy
 have hl1 := hp1.length_eq
 replace hS : Ab.Sep S ((s, vs, .ref o v 0 h1.length (some 2) :: rest) :: (o, v, flat sbz h1 ++ jj) :: R) := by rw [hl1]; exact hS.perm (List.Perm.swap _ _ _)
 refine aU ?_
 refine a4S (b6W (h := h1) (s := s) (vs := vs) (o := o) (v := v) (n := n) (rest := rest) (jj := jj) zO zO (by rw [<- hh1]; exact HpI.pop (by rw [<- hn]; exact hH) zO hx hy)) hS
  (by show [AV.iface 69 (.ptr s vs 0), .int .i64 0, .int .i64 (IntKind.i64.wrap ((h.length : Int) - 1))] = _; rw [hw]) (Spl.cons Pk.here (Spl.cons Pk.here Spl.nil)) (fun r S L' hL hS => ?_)
 obtain ⟨h2, hp2, hH2, hO2, rfl⟩ := hL
 have hl2 := hp2.length_eq
 have e2 : h2 = h2.take n ++ [x] := by
  have hxn : h2[n]? = some x := by
   rw [hO2 n (Nat.le_refl _), <- hh1, a0V hx hy, if_pos rfl, hx]
  obtain ⟨q1, q2⟩ := List.getElem?_eq_some_iff.1 hxn
  rw [<- q2, <- List.take_succ_eq_append_getElem q1, List.take_of_length_le zO]
 generalize hg : h2.take n = g at e2
 have hgl : g.length = n := by rw [<- hg, List.length_take]; omega
 replace hS : Ab.Sep S ((s, vs, .ref o v 0 (g.length + 1) (some 2) :: rest) :: (o, v, flat sbz (g ++ [x]) ++ jj) :: R) := by
  rw [<- e2, hgl, <- hn, <- hl1]; exact hS
 refine aU ?_
 refine b7w (b1w (h0 := g) (x := x) (s := s) (vs := vs) (o := o) (v := v) (rest := rest) (jj := jj) zO) hS rfl c3d c6o rfl (Spl.cons Pk.here (Spl.cons Pk.here Spl.nil)) (fun r S L' hL hS => ?_)
 obtain ⟨rfl, rfl⟩ := hL
 refine aU ?_
 refine j5 ?_
 refine aE ?_
 refine ⟨trivial, _, rfl, _, ⟨x, g, _, rfl, ?_, fun i y hi hy => hH.least (Nat.le_refl _) hx i y hi hy, ?_, rfl⟩, hS⟩
 ·rw [<- e2]; exact hp2.trans hp1
 ·intro c x' y' c1 c2 q1 q2
  refine hH2 c x' y' c1 zO ?_ ?_
  ·rw [e2, List.getElem?_append_left zO]; exact q1
  ·rw [e2, List.getElem?_append_left zO]; exact q2
end Go.Proofs.YtepdcebjobjjgaaDoor

