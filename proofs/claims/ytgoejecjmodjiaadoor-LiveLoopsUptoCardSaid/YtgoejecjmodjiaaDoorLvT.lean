/- Rings: the law of LiveLoops. -/
import Derived.Test.YtgoejecjmodjiaaDoorLvC2
import Derived.Test.YtgoejecjmodjiaaDoorGenB
import Derived.Test.YtgoejecjmodjiaaDoorWlH2
import Derived.WalkKit
import Derived.ProofKit
import Derived.OpenShut
import Derived.JoinedCond
import Derived.Test.YtgoejecjmodjiaaDoorWlTz
import Derived.Lib.LaidTab
import Derived.Deep.DeepHandedRow
namespace Go.Proofs.YtgoejecjmodjiaaDoor
open Go Go.Ab
set_option linter.unusedVariables false
set_option linter.unusedSimpArgs false
theorem first_eq : windlasslaw11_first_s 100000000000 = some true := by kernel_rfl
def ringN (k a b i : Nat) : Node := ⟨if i = b then 17 else if i = a then 1 else 10, 0, 0, 0, 0, 0, 0, 0, 0, [], ((i + 1) % k : Nat), 0⟩
def ringG (k a b : Nat) : Graph := ⟨[], [0], 0, [], false, -1, (List.range k).map (ringN k a b), 0⟩
def dist (k i t : Nat) : Nat := if i ≤ t then t - i else t + k - i
section
variable {k a b : Nat}
theorem dist_step (hk : 3 ≤ k) {i t : Nat} (hi : i < k) (ht : t < k) (h : i ≠ t) : dist k i t = dist k ((i + 1) % k) t + 1 := by
  rcases Nat.lt_or_ge (i + 1) k with h1 | h1
  · rw [Nat.mod_eq_of_lt h1]; unfold dist; split <;> split <;> omega
  · have : i + 1 = k := by omega
    rw [this, Nat.mod_self]; unfold dist; split <;> split <;> omega
theorem ring_nd {i : Nat} (hi : i < k) : (ringG k a b).Nodes[i]? = some (ringN k a b i) := by simp [ringG, hi]
theorem ring_len : (ringG k a b).Nodes.length = k := by simp [ringG]
theorem ring_nx {i : Nat} (hi : i < k) : nxt (ringG k a b) i = [(((i + 1) % k : Nat) : Int)] := by
  unfold nxt; rw [ring_nd hi]
  show nextL (ringN k a b i) = _
  unfold nextL ringN
  by_cases h1 : i = b
  · simp [h1]
  · by_cases h2 : i = a
    · subst h2; simp [h1]
    · simp [h1, h2]
theorem ring_rd {i : Nat} (hi : i < k) : rdR (ringG k a b) i = if i = b then [0] else [] := by
  unfold rdR; rw [ring_nd hi]
  show rawR (ringN k a b i) = _
  unfold rawR ringN
  by_cases h1 : i = b
  · simp [h1]
  · by_cases h2 : i = a
    · subst h2; simp [h1]
    · simp [h1, h2]
theorem ring_wr (hab : a ≠ b) {i : Nat} (hi : i < k) : wrR (ringG k a b) i = if i = a then [0] else [] := by
  unfold wrR; rw [ring_nd hi]
  show rawW (ringN k a b i) = _
  unfold rawW ringN
  by_cases h1 : i = b
  · have : ¬ b = a := fun e => hab e.symm
    simp [h1, this]
  · by_cases h2 : i = a
    · simp [h2, hab]
    · simp [h1, h2]
theorem ring_lv (hk : 3 ≤ k) (ha : a < k) (hb : b < k) (hab : a ≠ b) {i : Nat} (hi : i < k) : Lv (ringG k a b) i 0 ↔ dist k i b < dist k i a := by
  constructor
  · intro h
    have key : ∀ i p, Lv (ringG k a b) i p → dist k i b < dist k i a := by
      intro i p h
      induction h with
      | @read i p h1 h2 h3 =>
        rw [ring_len] at h1
        rw [ring_rd h1] at h3
        split at h3
        · rename_i e; subst e; unfold dist; split <;> split <;> omega
        · cases h3
      | @step i p to h1 h2 h3 h4 ih =>
        rw [ring_len] at h1
        rw [ring_nx h1, List.mem_singleton] at h2
        have hp : p = 0 := by have := h3.lt.2; simp [ringG] at this; exact this
        subst hp
        rw [ring_wr hab h1] at h4
        have hia : i ≠ a := fun e => by rw [if_pos e] at h4; simp at h4
        have ht : to = (i + 1) % k := by exact_mod_cast h2
        subst ht
        rw [dist_step hk h1 ha hia]
        by_cases e : i = b
        · subst e
          have : dist k i i = 0 := by unfold dist; simp
          omega
        · rw [dist_step hk h1 hb e]; omega
    exact key i 0 h
  · have key : ∀ d i, i < k → dist k i b = d → dist k i b < dist k i a → Lv (ringG k a b) i 0 := by
      intro d
      induction d with
      | zero =>
        intro i hi hd h
        have e : i = b := by unfold dist at hd; split at hd <;> omega
        refine .read (by rw [ring_len]; exact hi) (by simp [ringG]) ?_
        rw [ring_rd hi, if_pos e]; simp
      | succ d ih =>
        intro i hi hd h
        have hib : i ≠ b := fun e => by subst e; unfold dist at hd; simp at hd
        have hia : i ≠ a := fun e => by subst e; unfold dist at h; simp at h
        have e1 := dist_step hk hi hb hib
        have e2 := dist_step hk hi ha hia
        refine .step (to := (i + 1) % k) (by rw [ring_len]; exact hi) (by rw [ring_nx hi]; simp) (ih _ (Nat.mod_lt _ (by omega)) (by omega) (by omega)) ?_
        rw [ring_wr hab hi, if_neg hia]; simp
    exact key _ i hi rfl
theorem ring_right (hk : 3 ≤ k) (hk2 : k ≤ 62) (ha : a < k) (hb : b < k) : RightB ⟨[ringG k a b]⟩ = true := by
  have hh : headB (ringG k a b) = true := by
    simp only [headB, endB, ring_len]
    simp [ringG, allIx]; omega
  have hn : ∀ n ∈ (ringG k a b).Nodes, nodeB [ringG k a b] (ringG k a b) n = true := by
    intro n hn
    obtain ⟨i, hi, rfl⟩ := List.mem_map.1 hn
    simp at hi
    have hlt : (i + 1) % k < k := Nat.mod_lt _ (by omega)
    have hf : fitB (ringG k a b) 0 0 = true := rfl
    have hnx : (nextL (ringN k a b i)) = [(((i + 1) % k : Nat) : Int)] := by
      have := ring_nx (a := a) (b := b) hi
      unfold nxt at this; rw [ring_nd hi] at this; exact this
    unfold nodeB
    rw [hnx, ring_len]
    have ho : opB [ringG k a b] (ringG k a b) (ringN k a b i) = true := by
      unfold opB ringN isB
      by_cases h1 : i = b
      · simp [h1, hf]
      · by_cases h2 : i = a
        · subst h2; simp [h1, hf]
        · simp [h1, h2, hf]
    rw [ho]
    simp only [List.all_cons, List.all_nil, Bool.and_true, decide_eq_true_eq]
    omega
  unfold RightB
  simp only [Bool.and_eq_true, decide_eq_true_eq, List.all_eq_true]
  refine ⟨by simp, by simp [mainB, ringG], ?_, ?_⟩
  · intro f hf; simp at hf; subst hf; exact hh
  · intro f hf; simp at hf; subst hf; exact hn
theorem setL_one {A : Nat → Bool} : setL 1 A = if A 0 = true then [0] else [] := by
  unfold setL
  cases h : A 0 <;> simp [List.range_succ, h]
end
theorem dist_tmod {k i t : Nat} (hk : 3 ≤ k) (hk2 : k ≤ 62) (hi : i < k) (ht : t < k) : Int.tmod (I64 ((I64 ((t : Int) - (i : Int))) + (k : Int))) (k : Int) = (dist k i t : Int) := by
  rw [I64_of (x := (t : Int) - (i : Int)) (by omega), I64_of (by omega), Int.tmod_eq_emod_of_nonneg (by omega)]
  unfold dist
  split
  · rename_i h
    rw [show (t : Int) - (i : Int) + (k : Int) = ((t - i : Nat) : Int) + (k : Int) by omega, Int.add_emod_right, Int.emod_eq_of_lt (by omega) (by omega)]
  · rename_i h
    rw [show (t : Int) - (i : Int) + (k : Int) = ((t + k - i : Nat) : Int) by omega, Int.emod_eq_of_lt (by omega) (by omega)]
theorem loops_law (n w d : Int) : windlasslaw11_LiveLoops_s 100000000000 n w d = some true := by
  have hU : ∀ x : Int, ∃ m : Nat, U64 x = (m : Int) := fun x => by
    have h : 0 ≤ U64 x := by
      show 0 ≤ IntKind.u64.wrap x
      simp [IntKind.wrap, IntKind.bits, IntKind.signed]; omega
    exact ⟨(U64 x).toNat, by omega⟩
  obtain ⟨n', hn⟩ := hU n
  obtain ⟨w', hw⟩ := hU w
  obtain ⟨d', hd⟩ := hU d
  obtain ⟨k, hkd⟩ : ∃ k, k = 3 + n' % 60 := ⟨_, rfl⟩
  have hk : 3 ≤ k := by omega
  have hk2 : k ≤ 62 := by omega
  have e1 : I64 (3 + (I64 (Int.tmod (U64 n) 60))) = (k : Int) := by
    rw [hn, Int.tmod_eq_emod_of_nonneg (by omega), I64_of (x := (n' : Int) % 60) (by omega), I64_of (by omega)]; omega
  have e2 : U64 (k : Int) = (k : Int) := U64_of (by omega)
  have em : ∀ m : Nat, I64 (Int.tmod (m : Int) (k : Int)) = ((m % k : Nat) : Int) := fun m => by
    have := Nat.mod_lt m (show 0 < k by omega)
    rw [Int.tmod_eq_emod_of_nonneg (by omega), ← Int.natCast_emod, I64_of (by omega)]
  obtain ⟨a, had⟩ : ∃ a, a = w' % k := ⟨_, rfl⟩
  obtain ⟨b, hbd⟩ : ∃ b, b = d' % k := ⟨_, rfl⟩
  have ha : a < k := by rw [had]; exact Nat.mod_lt _ (by omega)
  have hb : b < k := by rw [hbd]; exact Nat.mod_lt _ (by omega)
  have hk0 : ((k : Int) ≠ 0) = True := by simp; omega
  unfold windlasslaw11_LiveLoops_s
  rw [first_eq]
  simp only [Option.bind_some, Bool.not_true, Bool.false_eq_true, if_false, e1, e2, hw, hd, em, ← had, ← hbd]
  rw [gd_true (by omega), gd_true (by omega)]
  by_cases hab : a = b
  · simp [hab]
  have hab' : ((a : Int) == (b : Int)) = false := by simp; omega
  rw [hab']
  simp only [Bool.false_eq_true, if_false]
  obtain ⟨l, l1, l2⟩ : ∃ l, _ ∧ l = (List.range (k : Int).toNat).map (ringN k a b) := rni_inv (n := (k : Int)) (s0 := ([] : List Node)) (fun i l => l = (List.range i).map (ringN k a b)) (by omega) rfl (fun i l hi hl => by
    refine ⟨l ++ [ringN k a b i], ?_, by rw [hl, List.range_succ, List.map_append]; rfl⟩
    have hi2 : i < k := by omega
    have en : Int.tmod (I64 ((i : Int) + 1)) (k : Int) = (((i + 1) % k : Nat) : Int) := by
      rw [I64_of (by omega), Int.tmod_eq_emod_of_nonneg (by omega)]; norm_cast
    have hap : ∀ op : Int, appL 104 l [(Node.mk op 0 0 0 0 0 0 0 0 [] (((i + 1) % k : Nat) : Int) 0)] = some (l ++ [(Node.mk op 0 0 0 0 0 0 0 0 [] (((i + 1) % k : Nat) : Int) 0)]) := fun op => appL_of (by rw [hl]; simp; omega)
    show (gd ((k : Int) ≠ 0) (jp (fun (s_8 : Int) => (jp (fun (s_11 : Int) => ((appL 104 l [(Node.mk s_11 0 0 0 0 0 0 0 0 [] (Int.tmod (I64 ((i : Int) + 1)) (k : Int)) 0)]).bind fun l_13 => (some (.nxt l_13)))) (fun k_10 => (if ((i : Int) == (b : Int)) then (gd ((k : Int) ≠ 0) (k_10 17)) else (k_10 s_8))))) (fun k_7 => (if ((i : Int) == (a : Int)) then (gd ((k : Int) ≠ 0) (k_7 1)) else (k_7 10)))) : Option (Stp (List Node) (Option Bool))) = _
    rw [gd_true (by omega)]
    simp only [jp, en, hap, Option.bind_some]
    have hgd : ∀ {α : Type} (x : Option α), gd ((k : Int) ≠ 0) x = x := fun x => gd_true (by omega)
    simp only [hgd]
    by_cases q1 : i = b
    · have q2 : ¬ i = a := by omega
      have q1' : ((i : Int) == (b : Int)) = true := by simp [q1]
      have q2' : ((i : Int) == (a : Int)) = false := by simp; omega
      simp [q1', q2', ringN, q1]
    · have q1' : ((i : Int) == (b : Int)) = false := by simp; omega
      by_cases q2 : i = a
      · have q2' : ((i : Int) == (a : Int)) = true := by simp [q2]
        have q3 : ¬ ((a : Int) = (b : Int)) := by omega
        simp [q1', q2', ringN, q1, q2, hab, q3]
      · have q2' : ((i : Int) == (a : Int)) = false := by simp; omega
        simp [q1', q2', ringN, q1, q2])
  refine (congrArg (fun o => Option.bind o _) l1).trans ?_
  have hG : Graph.mk [] [0] 0 [] false (-1) l 0 = ringG k a b := by rw [l2, Int.toNat_natCast]; rfl
  have hR := ring_right hk hk2 ha hb
  have hc : live_check_s ⟨[ringG k a b]⟩ 0 = some 0 := by rw [live_check_eq, if_pos hR]; rfl
  have hgood := (RightB_good hR (ringG k a b) (by simp)).1
  have hIn := In_ok hc (show getI [ringG k a b] 0 = some (ringG k a b) from rfl) hgood (Nat.le_refl 100000000000)
  simp only [Option.bind_some, oc, hG, hIn, jp]
  have hlen : (inL (ringG k a b)).length = k := by unfold inL; simp [ring_len]
  have hlen' : (((inL (ringG k a b)).length : Int) != (k : Int)) = false := by simp [hlen]
  simp only [bne_self_eq_false, Bool.false_eq_true, if_false, hlen']
  obtain ⟨u, u1, u2⟩ : ∃ u, _ ∧ True := rni_inv (n := (k : Int)) (s0 := ()) (fun i u => True) (by omega) trivial (fun i u hi _ => by
    refine ⟨(), ?_, trivial⟩
    have hi2 : i < k := by omega
    have hgI : getI (inL (ringG k a b)) (i : Int) = some (setL 1 (lvB (ringG k a b) i)) := by
      rw [getI_n]; unfold inL; rw [ring_len]; simp [hi2]; rfl
    have hb1 := dist_tmod hk hk2 hi2 hb
    have ha1 := dist_tmod hk hk2 hi2 ha
    have hlv := ring_lv hk ha hb hab hi2
    have hgd : ∀ {α : Type} (x : Option α), gd ((k : Int) ≠ 0) x = x := fun x => gd_true (by omega)
    show (gd ((k : Int) ≠ 0) (gd ((k : Int) ≠ 0) (if ((i : Int) == (a : Int)) then ((getI (inL (ringG k a b)) (i : Int)).bind fun y_23 => (if (!(((List.length y_23 : Int) == 1) == false)) then (some (.ret (some false))) else (some (.nxt ())))) else ((getI (inL (ringG k a b)) (i : Int)).bind fun y_23 => (if (!(((List.length y_23 : Int) == 1) == (decide ((Int.tmod (I64 ((I64 ((b : Int) - (i : Int))) + (k : Int))) (k : Int)) < (Int.tmod (I64 ((I64 ((a : Int) - (i : Int))) + (k : Int))) (k : Int)))))) then (some (.ret (some false))) else (some (.nxt ())))))) : Option (Stp Unit (Option Bool))) = _
    rw [hgd, hgd, hgI, hb1, ha1]
    simp only [Option.bind_some, setL_one]
    have hdec : lvB (ringG k a b) i 0 = decide (dist k i b < dist k i a) := by
      refine bool_of ?_
      rw [← hlv]
      unfold lvB
      exact @decide_eq_true_iff _ (Classical.propDecidable _)
    have hz : i = a → ¬ dist k i b < dist k i a := fun e => by subst e; unfold dist; simp
    by_cases q : i = a
    · have q' : ((i : Int) == (a : Int)) = true := by simp [q]
      rw [if_pos q', hdec, decide_eq_false (hz q)]
      simp
    · have q' : ¬ ((i : Int) == (a : Int)) = true := by simp; omega
      rw [if_neg q', hdec]
      by_cases q2 : dist k i b < dist k i a
      · simp [q2]
      · simp [q2])
  refine (congrArg (fun o => Option.bind o _) u1).trans ?_
  rfl
theorem loops_end (a0 a1 a2 : Int) {P Q R : Prop} (_ : P) (_ : Q) (_ : R) : windlasslaw11_LiveLoops_s 100000000000 a0 a1 a2 = some true := loops_law a0 a1 a2
end Go.Proofs.YtgoejecjmodjiaaDoor
/- How arguments are read. -/
namespace Go.Proofs.YtgoejecjmodjiaaDoor
open Go Go.Ab Go.RowKit
set_option maxRecDepth 20000
set_option linter.unusedVariables false
set_option linter.unusedSimpArgs false
theorem part_le {H : Type} {d : DataW H} {l : List (DataW H)} (h : d ∈ l) : Rows.uptoBulk d ≤ Rows.uptoBulkAll l := by
  induction l with
  | nil => cases h
  | cons x r ih =>
    simp only [Rows.uptoBulkAll]
    rcases List.mem_cons.1 h with e | e
    · subst e; omega
    · have := ih e; omega
theorem one_le {H : Type} (d : DataW H) : 1 ≤ Rows.uptoBulk d := by
  cases d with
  | lit l => cases l <;> simp [Rows.uptoBulk]
  | _ => simp [Rows.uptoBulk]
theorem length_le {H : Type} (l : List (DataW H)) : l.length ≤ Rows.uptoBulkAll l := by
  induction l with
  | nil => simp [Rows.uptoBulkAll]
  | cons x r ih => have := one_le x; simp only [Rows.uptoBulkAll, List.length_cons]; omega
theorem bulk {H : Type} : Bulk (H := H) Rows.uptoBulk :=
  ⟨fun bytes => by simp [Rows.uptoBulk], fun e s => by have := length_le e; simp only [Rows.uptoBulk]; omega, fun e s d h => by have := part_le h; simp only [Rows.uptoBulk]; omega, fun p d h => by have := part_le h; simp only [Rows.uptoBulk]; omega⟩

theorem cells3 : Tryd.prog.cellsOf 3 = 1 := by kernel_rfl
theorem cells24 : Tryd.prog.cellsOf 24 = 1 := by kernel_rfl
theorem cells30 : Tryd.prog.cellsOf 30 = 1 := by kernel_rfl
theorem cells31 : Tryd.prog.cellsOf 31 = 1 := by kernel_rfl
theorem cells32 : Tryd.prog.cellsOf 32 = 1 := by kernel_rfl
theorem cells26 : Tryd.prog.cellsOf 26 = 1 := by kernel_rfl
theorem cells34 : Tryd.prog.cellsOf 34 = 12 := by kernel_rfl
def Node.Ok (N : Nat) (x : Node) : Prop := (fun n => (Lit.int .u8 n).wf = true) x.Op ∧ (fun n => (Lit.int .u8 n).wf = true) x.By ∧ (fun n => (Lit.int .i64 n).wf = true) x.D ∧ (fun n => (Lit.int .i64 n).wf = true) x.E ∧ (fun n => (Lit.int .i64 n).wf = true) x.A ∧ (fun n => (Lit.int .i64 n).wf = true) x.B ∧ (fun n => (Lit.int .i64 n).wf = true) x.F ∧ (fun n => (Lit.int .i64 n).wf = true) x.Cell ∧ (fun n => (Lit.int .u64 n).wf = true) x.Imm ∧ (fun l => List.length l ≤ N ∧ ∀ a ∈ l, (fun n => (Lit.int .i64 n).wf = true) a) x.Args ∧ (fun n => (Lit.int .i64 n).wf = true) x.Next ∧ (fun n => (Lit.int .i64 n).wf = true) x.Else
theorem Node.rd {N : Nat} : Rd Tryd.prog N Node.av (Node.Ok N) 34 := by
  intro avs ht
  obtain ⟨hl, hf⟩ := ty_struct Tryd.underlying34 ht
  have e0 : Ty Tryd.prog N 30 ((avs.drop 0).take (Tryd.prog.cellsOf 30)) := hf 0 _ rfl
  rw [cells30] at e0
  obtain ⟨a0, h0, q0⟩ := (rdI Tryd.underlying30) _ e0
  have e1 : Ty Tryd.prog N 31 ((avs.drop 1).take (Tryd.prog.cellsOf 31)) := hf 1 _ rfl
  rw [cells31] at e1
  obtain ⟨a1, h1, q1⟩ := (rdI Tryd.underlying31) _ e1
  have e2 : Ty Tryd.prog N 3 ((avs.drop 2).take (Tryd.prog.cellsOf 3)) := hf 2 _ rfl
  rw [cells3] at e2
  obtain ⟨a2, h2, q2⟩ := (rdI Tryd.underlying3) _ e2
  have e3 : Ty Tryd.prog N 3 ((avs.drop 3).take (Tryd.prog.cellsOf 3)) := hf 3 _ rfl
  rw [cells3] at e3
  obtain ⟨a3, h3, q3⟩ := (rdI Tryd.underlying3) _ e3
  have e4 : Ty Tryd.prog N 3 ((avs.drop 4).take (Tryd.prog.cellsOf 3)) := hf 4 _ rfl
  rw [cells3] at e4
  obtain ⟨a4, h4, q4⟩ := (rdI Tryd.underlying3) _ e4
  have e5 : Ty Tryd.prog N 3 ((avs.drop 5).take (Tryd.prog.cellsOf 3)) := hf 5 _ rfl
  rw [cells3] at e5
  obtain ⟨a5, h5, q5⟩ := (rdI Tryd.underlying3) _ e5
  have e6 : Ty Tryd.prog N 3 ((avs.drop 6).take (Tryd.prog.cellsOf 3)) := hf 6 _ rfl
  rw [cells3] at e6
  obtain ⟨a6, h6, q6⟩ := (rdI Tryd.underlying3) _ e6
  have e7 : Ty Tryd.prog N 3 ((avs.drop 7).take (Tryd.prog.cellsOf 3)) := hf 7 _ rfl
  rw [cells3] at e7
  obtain ⟨a7, h7, q7⟩ := (rdI Tryd.underlying3) _ e7
  have e8 : Ty Tryd.prog N 32 ((avs.drop 8).take (Tryd.prog.cellsOf 32)) := hf 8 _ rfl
  rw [cells32] at e8
  obtain ⟨a8, h8, q8⟩ := (rdI Tryd.underlying32) _ e8
  have e9 : Ty Tryd.prog N 26 ((avs.drop 9).take (Tryd.prog.cellsOf 26)) := hf 9 _ rfl
  rw [cells26] at e9
  obtain ⟨a9, h9, q9⟩ := (rdL (encI .i64) (fun fs h => by rw [Tryd.underlying3] at h; cases h) Tryd.underlying26 cells3 (rdI Tryd.underlying3)) _ e9
  have e10 : Ty Tryd.prog N 3 ((avs.drop 10).take (Tryd.prog.cellsOf 3)) := hf 10 _ rfl
  rw [cells3] at e10
  obtain ⟨a10, h10, q10⟩ := (rdI Tryd.underlying3) _ e10
  have e11 : Ty Tryd.prog N 3 ((avs.drop 11).take (Tryd.prog.cellsOf 3)) := hf 11 _ rfl
  rw [cells3] at e11
  obtain ⟨a11, h11, q11⟩ := (rdI Tryd.underlying3) _ e11
  refine ⟨⟨a0, a1, a2, a3, a4, a5, a6, a7, a8, a9, a10, a11⟩, ?_, ⟨q0, q1, q2, q3, q4, q5, q6, q7, q8, q9, q10, q11⟩⟩
  have := (st_cons h0 (st_cons h1 (st_cons h2 (st_cons h3 (st_cons h4 (st_cons h5 (st_cons h6 (st_cons h7 (st_cons h8 (st_cons h9 (st_cons h10 (st_cons h11 (st_nil (hl.trans cells34))))))))))))))
  exact this
theorem cells25 : Tryd.prog.cellsOf 25 = 1 := by kernel_rfl
theorem cells4 : Tryd.prog.cellsOf 4 = 1 := by kernel_rfl
theorem cells27 : Tryd.prog.cellsOf 27 = 1 := by kernel_rfl
theorem cells29 : Tryd.prog.cellsOf 29 = 8 := by kernel_rfl
def Graph.Ok (N : Nat) (x : Graph) : Prop := (fun l => List.length l ≤ N ∧ ∀ a ∈ l, (fun n => (Lit.int .i64 n).wf = true) a) x.Params ∧ (fun l => List.length l ≤ N ∧ ∀ a ∈ l, (fun n => (Lit.int .u8 n).wf = true) a) x.Kinds ∧ (fun n => (Lit.int .i64 n).wf = true) x.Cells ∧ (fun l => List.length l ≤ N ∧ ∀ a ∈ l, (fun n => (Lit.int .i64 n).wf = true) a) x.Init ∧ (fun _ => True) x.Result ∧ (fun n => (Lit.int .i64 n).wf = true) x.Keep ∧ (fun l => List.length l ≤ N ∧ ∀ a ∈ l, (Node.Ok N) a) x.Nodes ∧ (fun n => (Lit.int .i64 n).wf = true) x.Entry
theorem Graph.rd {N : Nat} : Rd Tryd.prog N Graph.av (Graph.Ok N) 29 := by
  intro avs ht
  obtain ⟨hl, hf⟩ := ty_struct Tryd.underlying29 ht
  have e0 : Ty Tryd.prog N 26 ((avs.drop 0).take (Tryd.prog.cellsOf 26)) := hf 0 _ rfl
  rw [cells26] at e0
  obtain ⟨a0, h0, q0⟩ := (rdL (encI .i64) (fun fs h => by rw [Tryd.underlying3] at h; cases h) Tryd.underlying26 cells3 (rdI Tryd.underlying3)) _ e0
  have e1 : Ty Tryd.prog N 25 ((avs.drop 1).take (Tryd.prog.cellsOf 25)) := hf 1 _ rfl
  rw [cells25] at e1
  obtain ⟨a1, h1, q1⟩ := (rdL (encI .u8) (fun fs h => by rw [Tryd.underlying24] at h; cases h) Tryd.underlying25 cells24 (rdI Tryd.underlying24)) _ e1
  have e2 : Ty Tryd.prog N 3 ((avs.drop 2).take (Tryd.prog.cellsOf 3)) := hf 2 _ rfl
  rw [cells3] at e2
  obtain ⟨a2, h2, q2⟩ := (rdI Tryd.underlying3) _ e2
  have e3 : Ty Tryd.prog N 26 ((avs.drop 3).take (Tryd.prog.cellsOf 26)) := hf 3 _ rfl
  rw [cells26] at e3
  obtain ⟨a3, h3, q3⟩ := (rdL (encI .i64) (fun fs h => by rw [Tryd.underlying3] at h; cases h) Tryd.underlying26 cells3 (rdI Tryd.underlying3)) _ e3
  have e4 : Ty Tryd.prog N 4 ((avs.drop 4).take (Tryd.prog.cellsOf 4)) := hf 4 _ rfl
  rw [cells4] at e4
  obtain ⟨a4, h4, q4⟩ := (rdB Tryd.underlying4) _ e4
  have e5 : Ty Tryd.prog N 3 ((avs.drop 5).take (Tryd.prog.cellsOf 3)) := hf 5 _ rfl
  rw [cells3] at e5
  obtain ⟨a5, h5, q5⟩ := (rdI Tryd.underlying3) _ e5
  have e6 : Ty Tryd.prog N 27 ((avs.drop 6).take (Tryd.prog.cellsOf 27)) := hf 6 _ rfl
  rw [cells27] at e6
  obtain ⟨a6, h6, q6⟩ := (rdL Node.enc ⟨_, Tryd.underlying34⟩ Tryd.underlying27 cells34 Node.rd) _ e6
  have e7 : Ty Tryd.prog N 3 ((avs.drop 7).take (Tryd.prog.cellsOf 3)) := hf 7 _ rfl
  rw [cells3] at e7
  obtain ⟨a7, h7, q7⟩ := (rdI Tryd.underlying3) _ e7
  refine ⟨⟨a0, a1, a2, a3, a4, a5, a6, a7⟩, ?_, ⟨q0, q1, q2, q3, q4, q5, q6, q7⟩⟩
  have := (st_cons h0 (st_cons h1 (st_cons h2 (st_cons h3 (st_cons h4 (st_cons h5 (st_cons h6 (st_cons h7 (st_nil (hl.trans cells29))))))))))
  exact this
theorem cells39 : Tryd.prog.cellsOf 39 = 1 := by kernel_rfl
theorem cells41 : Tryd.prog.cellsOf 41 = 1 := by kernel_rfl
def Graphs.Ok (N : Nat) (x : Graphs) : Prop := (fun l => List.length l ≤ N ∧ ∀ a ∈ l, (Graph.Ok N) a) x.Funcs
theorem Graphs.rd {N : Nat} : Rd Tryd.prog N Graphs.av (Graphs.Ok N) 41 := by
  intro avs ht
  obtain ⟨hl, hf⟩ := ty_struct Tryd.underlying41 ht
  have e0 : Ty Tryd.prog N 39 ((avs.drop 0).take (Tryd.prog.cellsOf 39)) := hf 0 _ rfl
  rw [cells39] at e0
  obtain ⟨a0, h0, q0⟩ := (rdL Graph.enc ⟨_, Tryd.underlying29⟩ Tryd.underlying39 cells29 Graph.rd) _ e0
  refine ⟨⟨a0⟩, ?_, q0⟩
  have := (st_cons h0 (st_nil (hl.trans cells41)))
  exact this

theorem own : ownKnob Tryd.prog.godebug = none := by kernel_rfl
theorem laidOut : laidOutB Tryd.prog = true := by kernel_rfl
end Go.Proofs.YtgoejecjmodjiaaDoor
/- From the row's list to the settings: the table for the trailing zeros. -/
namespace Go.Proofs.YtgoejecjmodjiaaDoor
open Go Go.Ab Go.RowKit
set_option maxRecDepth 20000
set_option linter.unusedVariables false
set_option linter.unusedSimpArgs false
theorem tz_laid : (Rows.laid_math_bits_deBruijn64tab : DataW Unit) = Lib.tabData .u8 tzT := by kernel_rfl
theorem tab_isH {P : Program} {W : World} {nm : String} {k : IntKind} {zs : List Int} {b : Nat} (hg : P.globalNamed nm = some b) (h : Lib.TabIs P W nm k zs) : ∃ t fz, W.heap[b]? = some (.cells (zs.map fun z => Value.int k z).toArray t fz) := by
  unfold Lib.TabIs World.var? at h
  rw [hg, Option.bind_some] at h
  cases e2 : W.heap[b]? with
  | none => rw [e2] at h; cases h
  | some o =>
    rw [e2] at h
    cases o with
    | cells c t fz => cases h; exact ⟨t, fz, rfl⟩
    | _ => cases h
theorem tab_of {nm : String} (h0 : Tryd.prog.globalNamed nm = some 0) {W : World} (h : laidMet Tryd.prog [(nm, Rows.laid_math_bits_deBruijn64tab)] W) : TabOK W.heap.size W := by
  have h' := h
  rw [tz_laid] at h'
  have hp := Lib.tabIs_of_head (rest := []) h0 (t := 146) (e := 5) (n := 64) (by kernel_rfl) Tryd.underlying146 Tryd.underlying5 (by kernel_rfl) (by kernel_rfl) h'
  obtain ⟨t, fz, q⟩ := tab_isH h0 hp
  intro b p e
  match b, e with
  | 0, e => cases Option.some.inj e; exact ⟨(Array.getElem?_eq_some_iff.1 q).1, _, t, fz, q, rfl⟩
  | n + 1, e => cases e
end Go.Proofs.YtgoejecjmodjiaaDoor
