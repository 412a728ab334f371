/- How arguments are read. -/
import Derived.Test.YtekkiedpcgaddaaDoorGenT
import Derived.Test.YtekkiedpcgaddaaDoorWlP2
import Derived.WalkKit
import Derived.ProofKit
import Derived.OpenShut
import Derived.JoinedCond
namespace Go.Proofs.YtekkiedpcgaddaaDoor
open Go Go.Ab Go.RowKit
set_option maxRecDepth 20000
set_option linter.unusedVariables false
set_option linter.unusedSimpArgs false
theorem part_le {H : Type} {d : DataW H} {l : List (DataW H)} (h : d ∈ l) : Rows.uptoBulk d ≤ Rows.uptoBulkAll l := by
  induction l with
  | nil => cases h
  | cons x r ih =>
    simp only [Rows.uptoBulkAll]
    rcases List.mem_cons.1 h with e | e
    · subst e; omega
    · have := ih e; omega
theorem one_le {H : Type} (d : DataW H) : 1 ≤ Rows.uptoBulk d := by
  cases d with
  | lit l => cases l <;> simp [Rows.uptoBulk]
  | _ => simp [Rows.uptoBulk]
theorem length_le {H : Type} (l : List (DataW H)) : l.length ≤ Rows.uptoBulkAll l := by
  induction l with
  | nil => simp [Rows.uptoBulkAll]
  | cons x r ih => have := one_le x; simp only [Rows.uptoBulkAll, List.length_cons]; omega
theorem bulk {H : Type} : Bulk (H := H) Rows.uptoBulk :=
  ⟨fun bytes => by simp [Rows.uptoBulk], fun e s => by have := length_le e; simp only [Rows.uptoBulk]; omega, fun e s d h => by have := part_le h; simp only [Rows.uptoBulk]; omega, fun p d h => by have := part_le h; simp only [Rows.uptoBulk]; omega⟩

theorem cells26 : Tryd.prog.cellsOf 26 = 1 := by kernel_rfl
theorem cells29 : Tryd.prog.cellsOf 29 = 1 := by kernel_rfl
theorem cells31 : Tryd.prog.cellsOf 31 = 2 := by kernel_rfl
def Event.Ok (N : Nat) (x : Event) : Prop := (fun n => (Lit.int .i64 n).wf = true) x.Kind ∧ (fun n => (Lit.int .u64 n).wf = true) x.Value
theorem Event.rd {N : Nat} : Rd Tryd.prog N Event.av (Event.Ok N) 31 := by
  intro avs ht
  obtain ⟨hl, hf⟩ := ty_struct Tryd.underlying31 ht
  have e0 : Ty Tryd.prog N 29 ((avs.drop 0).take (Tryd.prog.cellsOf 29)) := hf 0 _ rfl
  rw [cells29] at e0
  obtain ⟨a0, h0, q0⟩ := (rdI Tryd.underlying29) _ e0
  have e1 : Ty Tryd.prog N 26 ((avs.drop 1).take (Tryd.prog.cellsOf 26)) := hf 1 _ rfl
  rw [cells26] at e1
  obtain ⟨a1, h1, q1⟩ := (rdI Tryd.underlying26) _ e1
  refine ⟨⟨a0, a1⟩, ?_, ⟨q0, q1⟩⟩
  have := (st_cons h0 (st_cons h1 (st_nil (hl.trans cells31))))
  exact this
theorem cells36 : Tryd.prog.cellsOf 36 = 1 := by kernel_rfl
theorem cells38 : Tryd.prog.cellsOf 38 = 2 := by kernel_rfl
def End.Ok (N : Nat) (x : End) : Prop := (fun n => (Lit.int .i64 n).wf = true) x.Kind ∧ (fun n => (Lit.int .u64 n).wf = true) x.Value
theorem End.rd {N : Nat} : Rd Tryd.prog N End.av (End.Ok N) 38 := by
  intro avs ht
  obtain ⟨hl, hf⟩ := ty_struct Tryd.underlying38 ht
  have e0 : Ty Tryd.prog N 36 ((avs.drop 0).take (Tryd.prog.cellsOf 36)) := hf 0 _ rfl
  rw [cells36] at e0
  obtain ⟨a0, h0, q0⟩ := (rdI Tryd.underlying36) _ e0
  have e1 : Ty Tryd.prog N 26 ((avs.drop 1).take (Tryd.prog.cellsOf 26)) := hf 1 _ rfl
  rw [cells26] at e1
  obtain ⟨a1, h1, q1⟩ := (rdI Tryd.underlying26) _ e1
  refine ⟨⟨a0, a1⟩, ?_, ⟨q0, q1⟩⟩
  have := (st_cons h0 (st_cons h1 (st_nil (hl.trans cells38))))
  exact this

theorem own : ownKnob Tryd.prog.godebug = none := by kernel_rfl
theorem laidOut : laidOutB Tryd.prog = true := by kernel_rfl
end Go.Proofs.YtekkiedpcgaddaaDoor
/- Plain laws of the trace: the first question; equal lists, beginnings. -/
namespace Go.Proofs.YtekkiedpcgaddaaDoor
open Go Go.Ab Go.RowKit
set_option maxRecDepth 20000
set_option linter.unusedVariables false
set_option linter.unusedSimpArgs false

theorem first_eq : windlasslaw02_first_s = some true := by
  unfold windlasslaw02_first_s trace_Print_s trace_event_s trace_ending_s
  simp only [toList_data]
  decide +kernel

def eqE (x y : Event) : Bool := (x.Kind == y.Kind) && ((x.Value == y.Value) && true)
theorem eqE_iff {x y : Event} : eqE x y = true ↔ x = y := by
  cases x; cases y; simp [eqE]
noncomputable instance : DecidableEq Event := fun _ _ => Classical.propDecidable _

theorem cmp_rangeN {σ ρ : Type} (a b : List Event) (s : σ) (v : ρ) {body : Nat → σ → Option (Stp σ ρ)}
    (hb : ∀ i x y, a[i]? = some x → b[i]? = some y → body i s = if eqE x y = true then some (.nxt s) else some (.ret v)) (hl : a.length ≤ b.length) :
    ∀ (n k : Nat), k + n = a.length → rangeN body n k s = some (if a.drop k = (b.drop k).take n then .fin s else .ret v)
  | 0, k, hk => by
    rw [rangeN, if_pos]
    rw [List.take_zero, List.drop_eq_nil_iff]; omega
  | n + 1, k, hk => by
    have ha : k < a.length := by omega
    have hb' : k < b.length := by omega
    have := hb k a[k] b[k] (List.getElem?_eq_getElem ha) (List.getElem?_eq_getElem hb')
    rw [List.drop_eq_getElem_cons ha, List.drop_eq_getElem_cons hb', List.take_succ_cons]
    cases e : eqE a[k] b[k] with
    | true =>
      rw [e, if_pos rfl] at this
      simp only [rangeN, this]
      rw [cmp_rangeN a b s v hb hl n (k + 1) (by omega), eqE_iff.1 e]
      by_cases h : a.drop (k + 1) = (b.drop (k + 1)).take n
      · rw [if_pos h, if_pos (by rw [h])]
      · rw [if_neg h, if_neg (fun q => h (List.cons.inj q).2)]
    | false =>
      rw [e, if_neg (by simp)] at this
      simp only [rangeN, this]
      rw [if_neg (fun q => by rw [eqE_iff.2 (List.cons.inj q).1] at e; cases e)]

theorem cmp_rni {σ ρ : Type} (a b : List Event) (s : σ) (v : ρ) {body : Nat → σ → Option (Stp σ ρ)}
    (hb : ∀ i x y, a[i]? = some x → b[i]? = some y → body i s = if eqE x y = true then some (.nxt s) else some (.ret v)) (hl : a.length ≤ b.length) (hn : a.length ≤ 4611686018427387904) :
    rni body (a.length : Int) s = some (if a = b.take a.length then .fin s else .ret v) := by
  unfold rni
  rw [if_pos (by omega), Int.toNat_natCast, cmp_rangeN a b s v hb hl _ 0 (by omega), List.drop_zero, List.drop_zero]

theorem oc_if {σ β : Type} (f : σ → Option β) (c : Prop) [Decidable c] (s : σ) (v : Option β) : oc f (if c then .fin s else .ret v) = if c then f s else v := by
  split <;> rfl

theorem body_eq {σ : Type} (x y : Event) (s : σ) : (if (!((x.Kind == y.Kind) && ((x.Value == y.Value) && true))) = true then (some (.ret (some false)) : Option (Stp σ (Option Bool))) else some (.nxt s)) = if eqE x y = true then some (.nxt s) else some (.ret (some false)) := by
  show (if (!eqE x y) = true then _ else _) = _
  cases eqE x y <;> rfl

theorem Equal_eq (a b : List Event) (hn : a.length ≤ 4611686018427387904) : slices_Equal_s a b = some (decide (a = b)) := by
  unfold slices_Equal_s
  by_cases h : a.length = b.length
  · rw [if_neg (by simp [h]), cmp_rni a b b (some false) (fun i x y hx hy => by rw [getI_nat, hx, getI_nat, hy]; exact body_eq x y b) (by omega) hn]
    simp only [Option.bind_some]
    rw [oc_if, h, List.take_length]
    split <;> rename_i q
    · rw [decide_eq_true q]
    · rw [decide_eq_false q]
  · rw [if_pos (by rw [bne_iff_ne]; omega), decide_eq_false (fun q => h (by rw [q]))]

theorem Begins_eq (a b : List Event) (hn : a.length ≤ 4611686018427387904) : windlassref02_Begins_s a b = some (decide (a.length ≤ b.length ∧ a = b.take a.length)) := by
  unfold windlassref02_Begins_s
  by_cases h : a.length ≤ b.length
  · rw [if_neg (by simp; omega), cmp_rni a b b (some false) (fun i x y hx hy => by rw [getI_nat, hx, getI_nat, hy]; exact body_eq x y b) h hn]
    simp only [Option.bind_some]
    rw [oc_if]
    split <;> rename_i q
    · rw [decide_eq_true ⟨h, q⟩]
    · rw [decide_eq_false (fun r => q r.2)]
  · rw [if_pos (by simp; omega), decide_eq_false (fun r => h r.1)]

theorem Begins_eq' (a b : List Event) (hn : a.length ≤ 4611686018427387904) : windlassref02_Begins_r_r_s a b = some (decide (a.length ≤ b.length ∧ a = b.take a.length)) := by
  unfold windlassref02_Begins_r_r_s
  by_cases h : a.length ≤ b.length
  · rw [if_neg (by simp; omega), cmp_rni a b () (some false) (fun i x y hx hy => by rw [getI_nat, hx, getI_nat, hy]; exact body_eq x y ()) h hn]
    simp only [Option.bind_some]
    rw [oc_if]
    split <;> rename_i q
    · rw [decide_eq_true ⟨h, q⟩]
    · rw [decide_eq_false (fun r => q r.2)]
  · rw [if_pos (by simp; omega), decide_eq_false (fun r => h r.1)]

theorem same_core (a b : List Event) : (if ((a.length : Int) == (b.length : Int)) = true then decide (a.length ≤ b.length ∧ a = b.take a.length) else false) = decide (a = b) := by
  by_cases h : a.length = b.length
  · rw [if_pos (by simp [h])]
    apply decide_eq_decide.2
    rw [h, List.take_length]
    exact ⟨fun q => q.2, fun q => ⟨Nat.le_refl _, q⟩⟩
  · rw [if_neg (by rw [beq_iff_eq]; omega), decide_eq_false (fun q => h (by rw [q]))]

theorem Same_eq (a b : List Event) (hn : a.length ≤ 4611686018427387904) : windlassref02_Same_s a b = some (decide (a = b)) := by
  unfold windlassref02_Same_s
  rw [Begins_eq a b hn, ← same_core]
  simp only [jp, Option.bind_some]
  split <;> rfl
theorem Same_eq' (a b : List Event) (hn : a.length ≤ 4611686018427387904) : windlassref02_Same_r_r_s a b = some (decide (a = b)) := by
  unfold windlassref02_Same_r_r_s
  rw [Begins_eq' a b hn, ← same_core]
  simp only [jp, Option.bind_some]
  split <;> rfl

theorem TSame_eq (a b : List Event) (hn : a.length ≤ 4611686018427387904) : trace_Same_s a b = some (decide (a = b)) := by
  unfold trace_Same_s; rw [Equal_eq a b hn]; rfl

theorem Prefix_eq (a b : List Event) (hn : a.length ≤ 4611686018427387904) : trace_Prefix_s a b = some (decide (a.length ≤ b.length ∧ a = b.take a.length)) := by
  unfold trace_Prefix_s
  simp only [jp]
  by_cases h : a.length ≤ b.length
  · rw [if_pos (by simpa using h)]
    unfold subL
    rw [if_pos (by omega), Option.bind_some, Equal_eq _ _ hn]
    simp only [Int.toNat_natCast, Int.toNat_zero, List.drop_zero, Option.bind_some]
    congr 1
    exact decide_eq_decide.2 ⟨fun q => ⟨h, q⟩, fun q => q.2⟩
  · rw [if_neg (by simpa using h), decide_eq_false (fun r => h r.1)]

theorem compares_law (a b : List Event) (e : End) (ha : a.length ≤ 1048576 ∧ ∀ x ∈ a, Event.Ok 1048576 x) (hb : b.length ≤ 1048576 ∧ ∀ x ∈ b, Event.Ok 1048576 x) (he : End.Ok 1048576 e) :
    windlasslaw02_TraceCompares_s a b e = some true := by
  unfold windlasslaw02_TraceCompares_s
  have h1 : a.length ≤ 4611686018427387904 := by omega
  have h2 : b.length ≤ 4611686018427387904 := by omega
  simp only [first_eq, Option.bind_some, Bool.not_true, Bool.false_eq_true, if_false, TSame_eq _ _ h1, Same_eq _ _ h1, Prefix_eq _ _ h1, Prefix_eq _ _ h2, Begins_eq _ _ h1, Begins_eq _ _ h2, beq_self_eq_true, if_true, decide_true]
  unfold trace_Ended_s
  simp only [jp]
  by_cases h : e.Kind = 1
  · simp [h]
  · simp [h]
end Go.Proofs.YtekkiedpcgaddaaDoor
/- Plain laws of the trace: beginnings are an order. -/
namespace Go.Proofs.YtekkiedpcgaddaaDoor
open Go Go.Ab Go.RowKit
set_option maxRecDepth 20000
set_option linter.unusedVariables false
set_option linter.unusedSimpArgs false

theorem take_pre (a : List Event) (i j : Nat) (hi : i ≤ a.length) (hj : j ≤ a.length) :
    decide ((a.take i).length ≤ (a.take j).length ∧ a.take i = (a.take j).take (a.take i).length) = decide (i ≤ j) := by
  apply decide_eq_decide.2
  rw [List.length_take, List.length_take, Nat.min_eq_left hi, Nat.min_eq_left hj, List.take_take]
  exact ⟨fun h => h.1, fun h => ⟨h, by rw [Nat.min_eq_left h]⟩⟩
theorem take_same (a : List Event) (i j : Nat) (hi : i ≤ a.length) (hj : j ≤ a.length) : decide (a.take i = a.take j) = decide (i = j) := by
  apply decide_eq_decide.2
  refine ⟨fun h => ?_, fun h => by rw [h]⟩
  have := congrArg List.length h
  rw [List.length_take, List.length_take, Nat.min_eq_left hi, Nat.min_eq_left hj] at this
  exact this

theorem order_law (a : List Event) (c : St45) (ha : a.length ≤ 1048576 ∧ ∀ x ∈ a, Event.Ok 1048576 x) : windlasslaw02_TraceOrder_s a c = some true := by
  unfold windlasslaw02_TraceOrder_s
  have hl := ha.1
  have hU : U64 (I64 ((a.length : Int) + 1)) = ((a.length + 1 : Nat) : Int) := by rw [I64_of (by omega), U64_of (by omega)]; omega
  have cut : ∀ x : Int, ∃ i : Nat, i ≤ a.length ∧ I64 (Int.tmod (U64 x) ((a.length + 1 : Nat) : Int)) = i := by
    intro x
    have h0 : 0 ≤ U64 x := by
      show 0 ≤ IntKind.wrap .u64 x
      rw [IntKind.wrap_u64]; omega
    have h1 := Int.tmod_nonneg ((a.length + 1 : Nat) : Int) h0
    have h2 := Int.tmod_lt_of_pos (U64 x) (show (0 : Int) < ((a.length + 1 : Nat) : Int) by omega)
    refine ⟨(Int.tmod (U64 x) ((a.length + 1 : Nat) : Int)).toNat, by omega, ?_⟩
    rw [I64_of (by omega)]; omega
  obtain ⟨i, hi, ei⟩ := cut c.e0
  obtain ⟨j, hj, ej⟩ := cut c.e1
  have sub : ∀ k : Nat, k ≤ a.length → subL a 0 (k : Int) = some (a.take k) := fun k hk => by
    unfold subL; rw [if_pos (by omega)]; simp
  have e0 : ∀ x y : List Event, x.length ≤ 1048576 → trace_Prefix_s x y = some (decide (x.length ≤ y.length ∧ x = y.take x.length)) := fun x y h => Prefix_eq x y (by omega)
  have p1 : trace_Prefix_s a a = some true := by rw [e0 _ _ hl, decide_eq_true ⟨Nat.le_refl _, by rw [List.take_length]⟩]
  have p2 : ∀ k : Nat, k ≤ a.length → trace_Prefix_s (a.take k) a = some true := fun k hk => by
    rw [e0 _ _ (by rw [List.length_take]; omega), List.length_take, Nat.min_eq_left hk, decide_eq_true ⟨hk, rfl⟩]
  have p3 : ∀ k m : Nat, k ≤ a.length → m ≤ a.length → trace_Prefix_s (a.take k) (a.take m) = some (decide (k ≤ m)) := fun k m hk hm => by
    rw [e0 _ _ (by rw [List.length_take]; omega), take_pre a k m hk hm]
  have p4 : trace_Same_s (a.take i) (a.take j) = some (decide (i = j)) := by rw [TSame_eq _ _ (by rw [List.length_take]; omega), take_same a i j hi hj]
  have p5 : trace_Prefix_s [] a = some true := by rw [e0 _ _ (by simp), decide_eq_true ⟨by simp, by simp⟩]
  simp only [first_eq, Option.bind_some, Bool.not_true, Bool.false_eq_true, if_false, hU, jp]
  rw [gd_true (by omega), gd_true (by omega), ei, ej, sub i hi, Option.bind_some, sub j hj, Option.bind_some]
  simp only [p1, p2 i hi, p2 j hj, p3 i j hi hj, p3 j i hj hi, p4, p5, Option.bind_some, if_true]
  by_cases h1 : i ≤ j
  · by_cases h2 : j ≤ i
    · have : i = j := by omega
      simp [h1, h2, this]
    · have : ¬ i = j := by omega
      simp [h1, h2, this]
  · have h2 : j ≤ i := by omega
    have : ¬ i = j := by omega
    simp [h1, h2, this]
end Go.Proofs.YtekkiedpcgaddaaDoor
