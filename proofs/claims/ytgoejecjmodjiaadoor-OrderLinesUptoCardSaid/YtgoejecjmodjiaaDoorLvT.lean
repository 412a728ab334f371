/- OrderLines: the law. -/
import Derived.Test.YtgoejecjmodjiaaDoorGenOC
import Derived.Test.YtgoejecjmodjiaaDoorOrW4
import Derived.Test.YtgoejecjmodjiaaDoorLvD5
import Derived.Test.YtgoejecjmodjiaaDoorGenB
import Derived.Test.YtgoejecjmodjiaaDoorWlH2
import Derived.WalkKit
import Derived.ProofKit
import Derived.OpenShut
import Derived.JoinedCond
import Derived.Test.YtgoejecjmodjiaaDoorWlTz
import Derived.Lib.LaidTab
import Derived.Deep.DeepHandedRow
set_option linter.unusedVariables false
set_option linter.unusedSimpArgs false
namespace Go.Proofs.YtgoejecjmodjiaaDoor
open Go Go.Ab
set_option maxRecDepth 20000
set_option maxHeartbeats 1000000
theorem b7v {g : b5} {i k : Nat} : (k : Int) ∈ lvI g i ↔ Lv g i k := by
 unfold lvI
 rw [a6o, b0j]
 exact ⟨fun h => h.2, fun h => ⟨h.lt.2, h⟩⟩
theorem b7w {g : b5} {i k : Nat} : (k : Int) ∈ bhI g i ↔ Bh g i k := by
 unfold bhI
 rw [a6o, b0k]
 exact ⟨fun h => h.2, fun h => ⟨by obtain ⟨_, _, q⟩ := h; exact q.lt.2, h⟩⟩
theorem b0m {g : b5} {i k : Nat} : (k : Int) ∈ wrN g i ↔ (k : Int) ∈ wrR g i := by
 unfold wrN wrR
 cases g.Nodes[i]? with
 | none => simp
 | some n => simp only; rw [b0g]; exact ⟨fun h => h.1, fun h => ⟨h, by omega⟩⟩
theorem b3R {g : b5} {k i : Nat} (hi : i < g.Nodes.length) (h : b5l g k i) : a8B g k i := by
 obtain ⟨_, h2, h3⟩ := h
 obtain ⟨to, q1, q2⟩ := b7w.1 h2
 exact .inl (b7v.2 (.step hi q1 q2 (fun hh => h3 (b0m.2 hh))))
def b4d (g : b5) (k a i : Nat) : Prop := a8B g k i ∨ (a = 0 ∧ (k : Int) ∈ g.Params)
theorem b3S {g : b5} {w : List Nat} (hp4 : g.Params.length ≤ 4) {k a i : Nat} (ha : w[a]? = some i) (hi : i < g.Nodes.length) (hK : g.Kinds.length ≤ 1024) :
  ∃ b, x5 g (w.map (fun (n : Nat) => (n : Int))) (inL g) (k : Int) (a : Int) = some b ∧ (b = true ↔ b4d g k a i) := by
 obtain ⟨nd, hnd⟩ : ∃ n, g.Nodes[i]? = some n := ⟨g.Nodes[i], List.getElem?_eq_getElem hi⟩
 have hl : s6 (w.map (fun (n : Nat) => (n : Int))) (a : Int) = some (i : Int) := by rw [r8, List.getElem?_map, ha]; rfl
 have hin : s6 (inL g) (i : Int) = some (lvI g i) := by rw [r8]; unfold inL; simp [hi, lvI]
 obtain ⟨wr, hw1, hw2, hw3⟩ := a4j nd
 have hwr : (k : Int) ∈ wr ↔ (k : Int) ∈ wrN g i := by
  rw [hw3, b0m]; unfold wrR; rw [hnd]; exact ⟨fun h => h.1, fun h => ⟨h, by omega⟩⟩
 unfold x5 b4d a8B
 simp only [jp, hl, hin, Option.bind_some, a5g _ _ (Nat.le_trans (a8y (K := g.Kinds.length) (A := lvB g i)) zO : (lvI g i).length ≤ 4611686018427387904), r8, hnd, hw1, a5g wr _ zO, a5g g.Params _ zO]
 by_cases c1 : (k : Int) ∈ lvI g i
 ·exact ⟨true, by simp [c1], by simp [c1]⟩
 ·by_cases c2 : (k : Int) ∈ wr
  ·exact ⟨true, by simp [c1, c2], by simp [hwr.1 c2]⟩
  ·have c2' : (k : Int) ∉ wrN g i := fun h => c2 (hwr.2 h)
   by_cases c3 : a = 0
   ·subst c3
    exact ⟨decide ((k : Int) ∈ g.Params), by simp [c1, c2], by simp [c1, c2']⟩
   ·exact ⟨false, by simp [c1, c2, c3], by simp [c1, c2', c3]⟩
def RI (g : b5) (w : List Nat) (k n : Nat) (s : Int × Int × Bool) : Prop :=
 (s = (-1, 0, false) ∧ ∀ a i, w[a]? = some i → a < n → ¬ b4d g k a i) ∨
 ((∃ a i, w[a]? = some i ∧ a < n ∧ b4d g k a i ∧ s.1 = (a : Int)) ∧ (∃ a i, w[a]? = some i ∧ a < n ∧ b4d g k a i ∧ s.2.1 = (a : Int)) ∧ (∀ a i, w[a]? = some i → a < n → b4d g k a i → s.1 ≤ a ∧ (a : Int) ≤ s.2.1) ∧ (s.2.2 = true ↔ ∃ a i, w[a]? = some i ∧ a < n ∧ b5l g k i))
theorem RI.step_no {g : b5} {w : List Nat} {k n i : Nat} {s : Int × Int × Bool} (hn : w[n]? = some i) (hw : ∀ x ∈ w, x < g.Nodes.length) (h : RI g w k n s) (ht : ¬ b4d g k n i) : RI g w k (n + 1) s := by
 have hh : ¬ b5l g k i := fun hh => ht (.inl (b3R (hw i (List.mem_of_getElem? hn)) hh))
 rcases h with ⟨h1, h2⟩ | ⟨⟨a, j, p1, p2, p3, p4⟩, ⟨b, l, q1, q2, q3, q4⟩, h3, h4⟩
 ·refine .inl ⟨h1, fun a j ha hlt => ?_⟩
  by_cases e : a = n
  ·subst e; rw [hn] at ha; cases ha; exact ht
  ·exact h2 a j ha zO
 ·refine .inr ⟨⟨a, j, p1, by omega, p3, p4⟩, ⟨b, l, q1, by omega, q3, q4⟩, fun a j ha hlt hta => ?_, ?_⟩
  ·by_cases e : a = n
   ·subst e; rw [hn] at ha; cases ha; exact absurd hta ht
   ·exact h3 a j ha zO hta
  ·rw [h4]
   constructor
   ·rintro ⟨a, j, r1, r2, r3⟩; exact ⟨a, j, r1, by omega, r3⟩
   ·rintro ⟨a, j, r1, r2, r3⟩
    by_cases e : a = n
    ·subst e; rw [hn] at r1; cases r1; exact absurd r3 hh
    ·exact ⟨a, j, r1, by omega, r3⟩
theorem RI.step_yes {g : b5} {w : List Nat} {k n i : Nat} {s : Int × Int × Bool} (hn : w[n]? = some i) (hw : ∀ x ∈ w, x < g.Nodes.length) (h : RI g w k n s) (ht : b4d g k n i) {b : Bool} (hb : b = true ↔ (s.2.2 = true ∨ b5l g k i)) : RI g w k (n + 1) (if s.1 < 0 then (n : Int) else s.1, (n : Int), b) := by
 rcases h with ⟨rfl, h2⟩ | ⟨⟨a, j, p1, p2, p3, p4⟩, _, h3, h4⟩
 ·refine .inr ⟨⟨n, i, hn, by omega, ht, by simp⟩, ⟨n, i, hn, by omega, ht, rfl⟩, fun a j ha hlt hta => ?_, ?_⟩
  ·by_cases e : a = n
   ·subst e; simp
   ·exact absurd hta (h2 a j ha zO)
  ·simp only [hb, Bool.false_eq_true, false_or]
   constructor
   ·intro hh; exact ⟨n, i, hn, by omega, hh⟩
   ·rintro ⟨a, j, r1, r2, r3⟩
    by_cases e : a = n
    ·subst e; rw [hn] at r1; cases r1; exact r3
    ·exact absurd (.inl (b3R (hw j (List.mem_of_getElem? r1)) r3)) (h2 a j r1 zO)
 ·have hf : ¬ (s.1 < 0) := by omega
  rw [if_neg hf]
  refine .inr ⟨⟨a, j, p1, by omega, p3, p4⟩, ⟨n, i, hn, by omega, ht, rfl⟩, fun a' j' ha hlt hta => ?_, ?_⟩
  ·by_cases e : a' = n
   ·subst e; simp only; omega
   ·have := h3 a' j' ha zO hta
    simp only; omega
  ·simp only [hb, h4]
   constructor
   ·rintro (⟨a, j, r1, r2, r3⟩ | hh)
    ·exact ⟨a, j, r1, by omega, r3⟩
    ·exact ⟨n, i, hn, by omega, hh⟩
   ·rintro ⟨a, j, r1, r2, r3⟩
    by_cases e : a = n
    ·subst e; rw [hn] at r1; cases r1; exact .inr r3
    ·exact .inl ⟨a, j, r1, by omega, r3⟩
theorem c6a {g : b5} {w : List Nat} {k : Nat} {s : Int × Int × Bool} {x : b7} (hw0 : w ≠ []) (h : RI g w k w.length s) (e : EI g w k w.length x) :
  (0 ≤ s.1 → a7e x = false ∧ b7.mk (k : Int) s.1 s.2.1 s.2.2 = x) ∧ (s.1 < 0 → a7e x = true) := by
 obtain ⟨i0, hi0⟩ : ∃ i, w[0]? = some i := by
  cases w with
  | nil => exact absurd rfl hw0
  | cons a b => exact ⟨a, rfl⟩
 have hlen : 0 < w.length := (List.getElem?_eq_some_iff.1 hi0).1
 have conv : ∀ a i, ((w[a]? = some i ∧ a < w.length ∧ a8B g k i) ∨ (a = 0 ∧ (k : Int) ∈ g.Params)) → ∃ j, w[a]? = some j ∧ a < w.length ∧ b4d g k a j := by
  rintro a i (⟨p, q, r⟩ | ⟨rfl, q⟩)
  ·exact ⟨i, p, q, .inl r⟩
  ·exact ⟨i0, hi0, hlen, .inr ⟨rfl, q⟩⟩
 have conv2 : ∀ a j, w[a]? = some j → a < w.length → b4d g k a j → x.From ≤ a ∧ (a : Int) ≤ x.To := by
  intro a j h1 h2 h3
  rcases h3 with h3 | h3
  ·exact e.all a j (.inl ⟨h1, h2, h3⟩)
  ·exact e.all a j (.inr h3)
 rcases h with ⟨rfl, h2⟩ | ⟨⟨a, j, p1, p2, p3, p4⟩, ⟨b, l, q1, q2, q3, q4⟩, h3, h4⟩
 ·refine ⟨fun h => absurd h zD, fun _ => ?_⟩
  rcases e.ends with ⟨_, q⟩ | ⟨⟨a, i, p, q⟩, _⟩
  ·unfold a7e; simp [q]
  ·obtain ⟨j, r1, r2, r3⟩ := conv a i q
   exact absurd r3 (h2 a j r1 r2)
 ·refine ⟨fun _ => ?_, fun h => absurd h zO⟩
  have c1 := conv2 a j p1 p2 p3
  have c2 := conv2 b l q1 q2 q3
  rcases e.ends with ⟨_, q⟩ | ⟨⟨a', i', r1, r2⟩, ⟨b', l', t1, t2⟩⟩
  ·omega
  ·obtain ⟨j1, u1, u2, u3⟩ := conv a' i' r2
   obtain ⟨j2, v1, v2, v3⟩ := conv b' l' t2
   have d1 := h3 a' j1 u1 u2 u3
   have d2 := h3 b' j2 v1 v2 v3
   have f1 : s.1 = x.From := by omega
   have f2 : s.2.1 = x.To := by omega
   have f3 : s.2.2 = x.Held := by
    rw [Bool.eq_iff_iff, h4, e.held]
   refine ⟨?_, ?_⟩
   ·unfold a7e; simp; omega
   ·rw [f1, f2, f3, ← e.pl]
theorem b3T {g : b5} (hg : a1E g) (hpar : a7n g) (hp4 : g.Params.length ≤ 4) (he0 : 0 ≤ g.Entry) (heN : g.Entry < g.Nodes.length) : y7 100000000000 g = some (a3Y g) := by
 have hN := hg.nn
 have hK := hg.kn
 obtain ⟨w, hw1, hw2, hw3, hw4, hw5, tl, htl⟩ := (b0f hg zO).w
 have hwl : w.length ≤ g.Nodes.length := a5d _ _ hw2 hw3
 have hw0 : w ≠ [] := by rw [htl]; simp
 have hl12 : w5 100000000000 g = some (a0Z g) := if_pos ⟨hg, he0, heN⟩
 unfold y7
 rw [hl12, b5W hg (by omega : 10000000 ≤ 100000000000), b7s hg (by omega : 10000000 ≤ 100000000000)]
 simp only [Option.bind_some, hw1]
 refine b1e (fun k s => s = ((b0h g).take k).filter fun x => !a7e x) zO zS (fun k s hk hs => ?_) (fun s hs => ?_)
 ·have hk' : k < g.Kinds.length := by omega
  obtain ⟨x, hx, hxe⟩ := b7u hg hpar hw1 hwl hk'
  have htk : (b0h g).take (k + 1) = (b0h g).take k ++ [x] := by
   obtain ⟨q1, q2⟩ := List.getElem?_eq_some_iff.1 hx
   rw [List.take_succ_eq_append_getElem q1, q2]
  have hsl : s.length ≤ g.Kinds.length := by rw [hs]; exact Nat.le_trans (List.length_filter_le _ _) (by rw [List.length_take, a8C]; omega)
  refine ⟨((b0h g).take (k + 1)).filter (fun x => !a7e x), ?_, rfl⟩
  refine b5f (fun n q => RI g w k n q) zE (.inl ⟨rfl, fun a i _ h => absurd h (Nat.not_lt_zero a)⟩) (fun n y q hy hq => ?_) (fun q hq => ?_)
  ·obtain ⟨i, hi, rfl⟩ : ∃ i, w[n]? = some i ∧ y = (i : Int) := by
    rw [List.getElem?_map] at hy
    cases e : w[n]? with
    | none => rw [e] at hy; cases hy
    | some i => rw [e] at hy; cases hy; exact ⟨i, rfl, rfl⟩
   have hiN := hw3 i (List.mem_of_getElem? hi)
   obtain ⟨b, hb, hbt⟩ := b3S (k := k) hp4 hi hiN hK
   obtain ⟨nd, hnd⟩ : ∃ n, g.Nodes[i]? = some n := ⟨g.Nodes[i], List.getElem?_eq_getElem hiN⟩
   have hout : s6 (b0a g) (i : Int) = some (bhI g i) := by rw [r8]; unfold b0a; simp [hiN, bhI]
   obtain ⟨wr, hwr1, hwr2, hwr3⟩ := a4j nd
   have hwr : (k : Int) ∈ wr ↔ (k : Int) ∈ wrN g i := by
    rw [hwr3, b0m]; unfold wrR; rw [hnd]; exact ⟨fun h => h.1, fun h => ⟨h, by omega⟩⟩
   have hic : a2p g i = (nd.Op == 11 || nd.Op == 13) := by unfold a2p; rw [hnd]
   rw [hb]
   simp only [Option.bind_some]
   cases b with
   | false =>
     refine ⟨q, by simp, ?_⟩
     exact hq.step_no hi hw3 (fun h => by have := hbt.2 h; cases this)
   | true =>
     have ht := hbt.1 rfl
     have hbl : (bhI g i).length ≤ 4611686018427387904 := Nat.le_trans a8y zO
     have hF : (jp (fun (s_12 : Int) => some s_12) (fun k_11 => (if (decide (q.1 < 0)) then (k_11 (n : Int)) else (k_11 q.1))) : Option Int) = some (if q.1 < 0 then (n : Int) else q.1) := by
      unfold jp; by_cases c : q.1 < 0 <;> simp [c]
     refine ⟨(if q.1 < 0 then (n : Int) else q.1, (n : Int), q.2.2 || decide ((nd.Op = 11 ∨ nd.Op = 13) ∧ (k : Int) ∈ bhI g i ∧ (k : Int) ∉ wr)), ?_, hq.step_yes hi hw3 ht ?_⟩
     ·simp only [jp, Bool.not_true, Bool.false_eq_true, if_false, r8, hnd, hout, Option.bind_some, a5g _ _ hbl, hwr1, a5g wr _ zO]
      by_cases c0 : q.1 < 0 <;> by_cases c1 : nd.Op = 11 <;> by_cases c2 : nd.Op = 13 <;> by_cases c3 : (k : Int) ∈ bhI g i <;> by_cases c4 : (k : Int) ∈ wr <;> simp [c0, c1, c2, c3, c4]
     ·simp only [Bool.or_eq_true, decide_eq_true_eq]
      unfold b5l
      rw [hic, hwr]
      simp only [Bool.or_eq_true, beq_iff_eq]
  ·have hq' : RI g w k w.length q := by rw [List.length_map] at hq; exact hq
   obtain ⟨r1, r2⟩ := c6a hw0 hq' hxe
   rw [htk, List.filter_append, ← hs]
   by_cases c : q.1 ≥ 0
   ·obtain ⟨r3, r4⟩ := r1 c
    have happ : a4C 32 s [b7.mk (k : Int) q.1 q.2.1 q.2.2] = some (s ++ [b7.mk (k : Int) q.1 q.2.1 q.2.2]) := a1D ⟨by simp; omega, by simp; omega⟩
    rw [r4] at happ
    simp only [c, decide_true, if_true, r4, happ, Option.bind_some]
    simp [r3]
   ·have := r2 zO
    simp only [c, decide_false, Bool.false_eq_true, if_false]
    simp [this]
 ·rw [hs]
  unfold a3Y
  rw [List.take_of_length_le (by rw [a8C]; omega)]
theorem b5n (y : b7) : ((y.Place == y.Place) && ((y.From == y.From) && ((y.To == y.To) && ((y.Held == y.Held) && true)))) = true := by simp
theorem b3U (G : g9) (f : Int) : w7 100000000000 G f = some true := by
 unfold w7
 rw [b7i, b7j, b5m]
 simp only [Option.bind_some, Bool.not_true, Bool.false_eq_true, if_false, b5e]
 by_cases hR : a1P G = true
 case neg =>
  rw [if_neg hR, if_neg hR]
  have : a1P G = false := by simpa using hR
  rw [this]
  rfl
 rw [if_pos hR, if_pos hR, hR]
 simp only [Bool.not_true, Bool.false_eq_true, if_false]
 cases hgf : s6 G.Funcs f with
 | none =>
   have hc : (jp (fun (s : Bool) => some s) (fun (k : Bool → Option Bool) => (if (decide (f < 0)) then (k true) else (k (decide (f ≥ (List.length G.Funcs : Int)))))) : Option Bool) = some true := by
    unfold jp
    by_cases c : f < 0
    ·simp [c]
    ·have : f ≥ (List.length G.Funcs : Int) := by
      unfold s6 at hgf
      by_cases c2 : f ≥ (List.length G.Funcs : Int)
      ·exact c2
      ·exfalso
       revert hgf
       simp [c]
       omega
     simp [c, this]
   unfold jp at hc ⊢
   by_cases c : f < 0
   ·simp [c]
    rfl
   ·have h1 : f ≥ (List.length G.Funcs : Int) := by simpa [c] using hc
    simp [c, h1]
    rfl
 | some g =>
   obtain ⟨h0, h1, h2⟩ := j9 hgf
   obtain ⟨hg, hpar, he0, heN, hnd, hp4⟩ := b1I hR hgf
   have hN := hg.nn
   have hK := hg.kn
   obtain ⟨w, hw1, hw2, hw3, hw4, hw5, tl, htl⟩ := (b0f hg zO).w
   have hwl : w.length ≤ g.Nodes.length := a5d _ _ hw2 hw3
   have hl12 : w5 100000000000 g = some (a0Z g) := if_pos ⟨hg, he0, heN⟩
   have hspl : (a3Y g).length ≤ g.Kinds.length := by unfold a3Y; exact Nat.le_trans (List.length_filter_le _ _) (by rw [a8C]; exact Nat.le_refl _)
   have c1 : ¬ f < 0 := by omega
   have c2 : ¬ f ≥ (List.length G.Funcs : Int) := by omega
   have hll : (a0Z g).length ≤ 4611686018427387904 := by rw [hw1, List.length_map]; omega
   simp only [jp, b3T hg hpar hp4 he0 heN, hl12, Option.bind_some, c1, c2, decide_false, Bool.false_eq_true, if_false, b3O _ hll]
   simp only [bne_self_eq_false, Bool.not_true, Bool.false_eq_true, if_false]
   refine b1e (fun _ _ => True) zO trivial (fun i s hi _ => ?_) (fun s _ => rfl)
   have : i < (a3Y g).length := by omega
   simp only [r8, List.getElem?_eq_getElem this, Option.bind_some, b5n]
   exact ⟨_, rfl, trivial⟩
end Go.Proofs.YtgoejecjmodjiaaDoor

/- How arguments are read. -/
namespace Go.Proofs.YtgoejecjmodjiaaDoor
open Go Go.Ab Go.RowKit
set_option maxRecDepth 20000
theorem b3V {H : Type} {d : DataW H} {l : List (DataW H)} (h : d ∈ l) : Rows.uptoBulk d ≤ Rows.uptoBulkAll l := by
 induction l with
 | nil => cases h
 | cons x r ih =>
   simp only [Rows.uptoBulkAll]
   rcases List.mem_cons.1 h with e | e
   ·subst e; omega
   ·have := ih e; omega
theorem c3m {H : Type} (d : DataW H) : 1 ≤ Rows.uptoBulk d := by
 cases d with
 | lit l => cases l <;> simp [Rows.uptoBulk]
 | _ => simp [Rows.uptoBulk]
theorem b3W {H : Type} (l : List (DataW H)) : l.length ≤ Rows.uptoBulkAll l := by
 induction l with
 | nil => simp [Rows.uptoBulkAll]
 | cons x r ih => have := c3m x; simp only [Rows.uptoBulkAll, List.length_cons]; omega
theorem c6b {H : Type} : c3S (H := H) Rows.uptoBulk :=
 ⟨fun bytes => by simp [Rows.uptoBulk], fun e s => by have := b3W e; simp only [Rows.uptoBulk]; omega, fun e s d h => by have := b3V h; simp only [Rows.uptoBulk]; omega, fun p d h => by have := b3V h; simp only [Rows.uptoBulk]; omega⟩

theorem a2y : Tryd.prog.cellsOf 3 = 1 := by kernel_rfl
theorem b7x : Tryd.prog.cellsOf 24 = 1 := by kernel_rfl
theorem b7y : Tryd.prog.cellsOf 30 = 1 := by kernel_rfl
theorem b7z : Tryd.prog.cellsOf 31 = 1 := by kernel_rfl
theorem b7A : Tryd.prog.cellsOf 32 = 1 := by kernel_rfl
theorem b0n : Tryd.prog.cellsOf 26 = 1 := by kernel_rfl
theorem b3X : Tryd.prog.cellsOf 34 = 12 := by kernel_rfl
def g7.Ok (N : Nat) (x : g7) : Prop := (fun n => (Lit.int .u8 n).wf = true) x.Op ∧ (fun n => (Lit.int .u8 n).wf = true) x.By ∧ (fun n => (Lit.int .i64 n).wf = true) x.D ∧ (fun n => (Lit.int .i64 n).wf = true) x.E ∧ (fun n => (Lit.int .i64 n).wf = true) x.A ∧ (fun n => (Lit.int .i64 n).wf = true) x.B ∧ (fun n => (Lit.int .i64 n).wf = true) x.F ∧ (fun n => (Lit.int .i64 n).wf = true) x.Cell ∧ (fun n => (Lit.int .u64 n).wf = true) x.Imm ∧ (fun l => List.length l ≤ N ∧ ∀ a ∈ l, (fun n => (Lit.int .i64 n).wf = true) a) x.Args ∧ (fun n => (Lit.int .i64 n).wf = true) x.Next ∧ (fun n => (Lit.int .i64 n).wf = true) x.Else
theorem g7.rd {N : Nat} : Rd Tryd.prog N g7.av (g7.Ok N) 34 := by
 intro avs ht
 obtain ⟨hl, hf⟩ := a6L Tryd.underlying34 ht
 have e0 : Ty Tryd.prog N 30 ((avs.drop 0).take (Tryd.prog.cellsOf 30)) := hf 0 _ rfl
 rw [b7y] at e0
 obtain ⟨a0, h0, q0⟩ := (rdI Tryd.underlying30) _ e0
 have e1 : Ty Tryd.prog N 31 ((avs.drop 1).take (Tryd.prog.cellsOf 31)) := hf 1 _ rfl
 rw [b7z] at e1
 obtain ⟨a1, h1, q1⟩ := (rdI Tryd.underlying31) _ e1
 have e2 : Ty Tryd.prog N 3 ((avs.drop 2).take (Tryd.prog.cellsOf 3)) := hf 2 _ rfl
 rw [a2y] at e2
 obtain ⟨a2, h2, q2⟩ := (rdI Tryd.underlying3) _ e2
 have e3 : Ty Tryd.prog N 3 ((avs.drop 3).take (Tryd.prog.cellsOf 3)) := hf 3 _ rfl
 rw [a2y] at e3
 obtain ⟨a3, h3, q3⟩ := (rdI Tryd.underlying3) _ e3
 have e4 : Ty Tryd.prog N 3 ((avs.drop 4).take (Tryd.prog.cellsOf 3)) := hf 4 _ rfl
 rw [a2y] at e4
 obtain ⟨a4, h4, q4⟩ := (rdI Tryd.underlying3) _ e4
 have e5 : Ty Tryd.prog N 3 ((avs.drop 5).take (Tryd.prog.cellsOf 3)) := hf 5 _ rfl
 rw [a2y] at e5
 obtain ⟨a5, h5, q5⟩ := (rdI Tryd.underlying3) _ e5
 have e6 : Ty Tryd.prog N 3 ((avs.drop 6).take (Tryd.prog.cellsOf 3)) := hf 6 _ rfl
 rw [a2y] at e6
 obtain ⟨a6, h6, q6⟩ := (rdI Tryd.underlying3) _ e6
 have e7 : Ty Tryd.prog N 3 ((avs.drop 7).take (Tryd.prog.cellsOf 3)) := hf 7 _ rfl
 rw [a2y] at e7
 obtain ⟨a7, h7, q7⟩ := (rdI Tryd.underlying3) _ e7
 have e8 : Ty Tryd.prog N 32 ((avs.drop 8).take (Tryd.prog.cellsOf 32)) := hf 8 _ rfl
 rw [b7A] at e8
 obtain ⟨a8, h8, q8⟩ := (rdI Tryd.underlying32) _ e8
 have e9 : Ty Tryd.prog N 26 ((avs.drop 9).take (Tryd.prog.cellsOf 26)) := hf 9 _ rfl
 rw [b0n] at e9
 obtain ⟨a9, h9, q9⟩ := (rdL (f4 .i64) (fun fs h => by rw [Tryd.underlying3] at h; cases h) Tryd.underlying26 a2y (rdI Tryd.underlying3)) _ e9
 have e10 : Ty Tryd.prog N 3 ((avs.drop 10).take (Tryd.prog.cellsOf 3)) := hf 10 _ rfl
 rw [a2y] at e10
 obtain ⟨a10, h10, q10⟩ := (rdI Tryd.underlying3) _ e10
 have e11 : Ty Tryd.prog N 3 ((avs.drop 11).take (Tryd.prog.cellsOf 3)) := hf 11 _ rfl
 rw [a2y] at e11
 obtain ⟨a11, h11, q11⟩ := (rdI Tryd.underlying3) _ e11
 refine ⟨⟨a0, a1, a2, a3, a4, a5, a6, a7, a8, a9, a10, a11⟩, ?_, ⟨q0, q1, q2, q3, q4, q5, q6, q7, q8, q9, q10, q11⟩⟩
 have := (a0w h0 (a0w h1 (a0w h2 (a0w h3 (a0w h4 (a0w h5 (a0w h6 (a0w h7 (a0w h8 (a0w h9 (a0w h10 (a0w h11 (b2O (hl.trans b3X))))))))))))))
 exact this
theorem b7B : Tryd.prog.cellsOf 25 = 1 := by kernel_rfl
theorem c3n : Tryd.prog.cellsOf 4 = 1 := by kernel_rfl
theorem b7C : Tryd.prog.cellsOf 27 = 1 := by kernel_rfl
theorem b3Y : Tryd.prog.cellsOf 29 = 8 := by kernel_rfl
def b5.Ok (N : Nat) (x : b5) : Prop := (fun l => List.length l ≤ N ∧ ∀ a ∈ l, (fun n => (Lit.int .i64 n).wf = true) a) x.Params ∧ (fun l => List.length l ≤ N ∧ ∀ a ∈ l, (fun n => (Lit.int .u8 n).wf = true) a) x.Kinds ∧ (fun n => (Lit.int .i64 n).wf = true) x.Cells ∧ (fun l => List.length l ≤ N ∧ ∀ a ∈ l, (fun n => (Lit.int .i64 n).wf = true) a) x.Init ∧ (fun _ => True) x.Result ∧ (fun n => (Lit.int .i64 n).wf = true) x.Keep ∧ (fun l => List.length l ≤ N ∧ ∀ a ∈ l, (g7.Ok N) a) x.Nodes ∧ (fun n => (Lit.int .i64 n).wf = true) x.Entry
theorem b5.rd {N : Nat} : Rd Tryd.prog N b5.av (b5.Ok N) 29 := by
 intro avs ht
 obtain ⟨hl, hf⟩ := a6L Tryd.underlying29 ht
 have e0 : Ty Tryd.prog N 26 ((avs.drop 0).take (Tryd.prog.cellsOf 26)) := hf 0 _ rfl
 rw [b0n] at e0
 obtain ⟨a0, h0, q0⟩ := (rdL (f4 .i64) (fun fs h => by rw [Tryd.underlying3] at h; cases h) Tryd.underlying26 a2y (rdI Tryd.underlying3)) _ e0
 have e1 : Ty Tryd.prog N 25 ((avs.drop 1).take (Tryd.prog.cellsOf 25)) := hf 1 _ rfl
 rw [b7B] at e1
 obtain ⟨a1, h1, q1⟩ := (rdL (f4 .u8) (fun fs h => by rw [Tryd.underlying24] at h; cases h) Tryd.underlying25 b7x (rdI Tryd.underlying24)) _ e1
 have e2 : Ty Tryd.prog N 3 ((avs.drop 2).take (Tryd.prog.cellsOf 3)) := hf 2 _ rfl
 rw [a2y] at e2
 obtain ⟨a2, h2, q2⟩ := (rdI Tryd.underlying3) _ e2
 have e3 : Ty Tryd.prog N 26 ((avs.drop 3).take (Tryd.prog.cellsOf 26)) := hf 3 _ rfl
 rw [b0n] at e3
 obtain ⟨a3, h3, q3⟩ := (rdL (f4 .i64) (fun fs h => by rw [Tryd.underlying3] at h; cases h) Tryd.underlying26 a2y (rdI Tryd.underlying3)) _ e3
 have e4 : Ty Tryd.prog N 4 ((avs.drop 4).take (Tryd.prog.cellsOf 4)) := hf 4 _ rfl
 rw [c3n] at e4
 obtain ⟨a4, h4, q4⟩ := (rdB Tryd.underlying4) _ e4
 have e5 : Ty Tryd.prog N 3 ((avs.drop 5).take (Tryd.prog.cellsOf 3)) := hf 5 _ rfl
 rw [a2y] at e5
 obtain ⟨a5, h5, q5⟩ := (rdI Tryd.underlying3) _ e5
 have e6 : Ty Tryd.prog N 27 ((avs.drop 6).take (Tryd.prog.cellsOf 27)) := hf 6 _ rfl
 rw [b7C] at e6
 obtain ⟨a6, h6, q6⟩ := (rdL g7.enc ⟨_, Tryd.underlying34⟩ Tryd.underlying27 b3X g7.rd) _ e6
 have e7 : Ty Tryd.prog N 3 ((avs.drop 7).take (Tryd.prog.cellsOf 3)) := hf 7 _ rfl
 rw [a2y] at e7
 obtain ⟨a7, h7, q7⟩ := (rdI Tryd.underlying3) _ e7
 refine ⟨⟨a0, a1, a2, a3, a4, a5, a6, a7⟩, ?_, ⟨q0, q1, q2, q3, q4, q5, q6, q7⟩⟩
 have := (a0w h0 (a0w h1 (a0w h2 (a0w h3 (a0w h4 (a0w h5 (a0w h6 (a0w h7 (b2O (hl.trans b3Y))))))))))
 exact this
theorem b7D : Tryd.prog.cellsOf 39 = 1 := by kernel_rfl
theorem b7E : Tryd.prog.cellsOf 41 = 1 := by kernel_rfl
def g9.Ok (N : Nat) (x : g9) : Prop := (fun l => List.length l ≤ N ∧ ∀ a ∈ l, (b5.Ok N) a) x.Funcs
theorem g9.rd {N : Nat} : Rd Tryd.prog N g9.av (g9.Ok N) 41 := by
 intro avs ht
 obtain ⟨hl, hf⟩ := a6L Tryd.underlying41 ht
 have e0 : Ty Tryd.prog N 39 ((avs.drop 0).take (Tryd.prog.cellsOf 39)) := hf 0 _ rfl
 rw [b7D] at e0
 obtain ⟨a0, h0, q0⟩ := (rdL b5.enc ⟨_, Tryd.underlying29⟩ Tryd.underlying39 b3Y b5.rd) _ e0
 refine ⟨⟨a0⟩, ?_, q0⟩
 have := (a0w h0 (b2O (hl.trans b7E)))
 exact this

theorem own : ownKnob Tryd.prog.godebug = none := by kernel_rfl
theorem b3Z : laidOutB Tryd.prog = true := by kernel_rfl
end Go.Proofs.YtgoejecjmodjiaaDoor

/- From the row's list to the settings: the table for the trailing zeros. -/
namespace Go.Proofs.YtgoejecjmodjiaaDoor
open Go Go.Ab Go.RowKit
set_option maxRecDepth 20000
theorem b7F : (Rows.laid_math_bits_deBruijn64tab : DataW Unit) = Lib.tabData .u8 tzT := by kernel_rfl
theorem b7G {P : Program} {W : World} {nm : String} {k : IntKind} {zs : List Int} {b : Nat} (hg : P.globalNamed nm = some b) (h : Lib.TabIs P W nm k zs) : ∃ t fz, W.heap[b]? = some (.cells (zs.map fun z => Value.int k z).toArray t fz) := by
 unfold Lib.TabIs World.var? at h
 rw [hg, Option.bind_some] at h
 cases e2 : W.heap[b]? with
 | none => rw [e2] at h; cases h
 | some o =>
   rw [e2] at h
   cases o with
   | cells c t fz => cases h; exact ⟨t, fz, rfl⟩
   | _ => cases h
theorem c3o {nm : String} (h0 : Tryd.prog.globalNamed nm = some 0) {W : World} (h : laidMet Tryd.prog [(nm, Rows.laid_math_bits_deBruijn64tab)] W) : b1h W.heap.size W := by
 have h' := h
 rw [b7F] at h'
 have hp := Lib.tabIs_of_head (rest := []) h0 (t := 146) (e := 5) (n := 64) zK Tryd.underlying146 Tryd.underlying5 zK zK h'
 obtain ⟨t, fz, q⟩ := b7G h0 hp
 intro b p e
 match b, e with
 | 0, e => cases Option.some.inj e; exact ⟨(Array.getElem?_eq_some_iff.1 q).1, _, t, fz, q, rfl⟩
 | n + 1, e => cases e
end Go.Proofs.YtgoejecjmodjiaaDoor

