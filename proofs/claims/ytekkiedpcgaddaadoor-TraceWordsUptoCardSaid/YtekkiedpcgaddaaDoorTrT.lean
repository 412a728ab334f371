/- How arguments are read. -/
import Derived.Test.YtekkiedpcgaddaaDoorGenT
import Derived.Test.YtekkiedpcgaddaaDoorWlP2
import Derived.WalkKit
import Derived.ProofKit
import Derived.OpenShut
import Derived.JoinedCond
import Derived.Test.YtekkiedpcgaddaaDoorWlT2
import Derived.Lib.LaidTab
import Derived.Deep.DeepHandedRow
namespace Go.Proofs.YtekkiedpcgaddaaDoor
open Go Go.Ab Go.RowKit
set_option maxRecDepth 20000
set_option linter.unusedVariables false
set_option linter.unusedSimpArgs false
theorem part_le {H : Type} {d : DataW H} {l : List (DataW H)} (h : d ∈ l) : Rows.uptoBulk d ≤ Rows.uptoBulkAll l := by
  induction l with
  | nil => cases h
  | cons x r ih =>
    simp only [Rows.uptoBulkAll]
    rcases List.mem_cons.1 h with e | e
    · subst e; omega
    · have := ih e; omega
theorem one_le {H : Type} (d : DataW H) : 1 ≤ Rows.uptoBulk d := by
  cases d with
  | lit l => cases l <;> simp [Rows.uptoBulk]
  | _ => simp [Rows.uptoBulk]
theorem length_le {H : Type} (l : List (DataW H)) : l.length ≤ Rows.uptoBulkAll l := by
  induction l with
  | nil => simp [Rows.uptoBulkAll]
  | cons x r ih => have := one_le x; simp only [Rows.uptoBulkAll, List.length_cons]; omega
theorem bulk {H : Type} : Bulk (H := H) Rows.uptoBulk :=
  ⟨fun bytes => by simp [Rows.uptoBulk], fun e s => by have := length_le e; simp only [Rows.uptoBulk]; omega, fun e s d h => by have := part_le h; simp only [Rows.uptoBulk]; omega, fun p d h => by have := part_le h; simp only [Rows.uptoBulk]; omega⟩

theorem cells26 : Tryd.prog.cellsOf 26 = 1 := by kernel_rfl
theorem cells29 : Tryd.prog.cellsOf 29 = 1 := by kernel_rfl
theorem cells31 : Tryd.prog.cellsOf 31 = 2 := by kernel_rfl
def Event.Ok (N : Nat) (x : Event) : Prop := (fun n => (Lit.int .i64 n).wf = true) x.Kind ∧ (fun n => (Lit.int .u64 n).wf = true) x.Value
theorem Event.rd {N : Nat} : Rd Tryd.prog N Event.av (Event.Ok N) 31 := by
  intro avs ht
  obtain ⟨hl, hf⟩ := ty_struct Tryd.underlying31 ht
  have e0 : Ty Tryd.prog N 29 ((avs.drop 0).take (Tryd.prog.cellsOf 29)) := hf 0 _ rfl
  rw [cells29] at e0
  obtain ⟨a0, h0, q0⟩ := (rdI Tryd.underlying29) _ e0
  have e1 : Ty Tryd.prog N 26 ((avs.drop 1).take (Tryd.prog.cellsOf 26)) := hf 1 _ rfl
  rw [cells26] at e1
  obtain ⟨a1, h1, q1⟩ := (rdI Tryd.underlying26) _ e1
  refine ⟨⟨a0, a1⟩, ?_, ⟨q0, q1⟩⟩
  have := (st_cons h0 (st_cons h1 (st_nil (hl.trans cells31))))
  exact this
theorem cells36 : Tryd.prog.cellsOf 36 = 1 := by kernel_rfl
theorem cells38 : Tryd.prog.cellsOf 38 = 2 := by kernel_rfl
def End.Ok (N : Nat) (x : End) : Prop := (fun n => (Lit.int .i64 n).wf = true) x.Kind ∧ (fun n => (Lit.int .u64 n).wf = true) x.Value
theorem End.rd {N : Nat} : Rd Tryd.prog N End.av (End.Ok N) 38 := by
  intro avs ht
  obtain ⟨hl, hf⟩ := ty_struct Tryd.underlying38 ht
  have e0 : Ty Tryd.prog N 36 ((avs.drop 0).take (Tryd.prog.cellsOf 36)) := hf 0 _ rfl
  rw [cells36] at e0
  obtain ⟨a0, h0, q0⟩ := (rdI Tryd.underlying36) _ e0
  have e1 : Ty Tryd.prog N 26 ((avs.drop 1).take (Tryd.prog.cellsOf 26)) := hf 1 _ rfl
  rw [cells26] at e1
  obtain ⟨a1, h1, q1⟩ := (rdI Tryd.underlying26) _ e1
  refine ⟨⟨a0, a1⟩, ?_, ⟨q0, q1⟩⟩
  have := (st_cons h0 (st_cons h1 (st_nil (hl.trans cells38))))
  exact this

theorem own : ownKnob Tryd.prog.godebug = none := by kernel_rfl
theorem laidOut : laidOutB Tryd.prog = true := by kernel_rfl
end Go.Proofs.YtekkiedpcgaddaaDoor
/- Plain laws of the trace: the first question; equal lists, beginnings. -/
namespace Go.Proofs.YtekkiedpcgaddaaDoor
open Go Go.Ab Go.RowKit
set_option maxRecDepth 20000
set_option linter.unusedVariables false
set_option linter.unusedSimpArgs false

theorem first_eq : windlasslaw02_first_s = some true := by
  unfold windlasslaw02_first_s trace_Print_s trace_event_s trace_ending_s
  simp only [toList_data]
  decide +kernel

def eqE (x y : Event) : Bool := (x.Kind == y.Kind) && ((x.Value == y.Value) && true)
theorem eqE_iff {x y : Event} : eqE x y = true ↔ x = y := by
  cases x; cases y; simp [eqE]
noncomputable instance : DecidableEq Event := fun _ _ => Classical.propDecidable _

theorem cmp_rangeN {σ ρ : Type} (a b : List Event) (s : σ) (v : ρ) {body : Nat → σ → Option (Stp σ ρ)}
    (hb : ∀ i x y, a[i]? = some x → b[i]? = some y → body i s = if eqE x y = true then some (.nxt s) else some (.ret v)) (hl : a.length ≤ b.length) :
    ∀ (n k : Nat), k + n = a.length → rangeN body n k s = some (if a.drop k = (b.drop k).take n then .fin s else .ret v)
  | 0, k, hk => by
    rw [rangeN, if_pos]
    rw [List.take_zero, List.drop_eq_nil_iff]; omega
  | n + 1, k, hk => by
    have ha : k < a.length := by omega
    have hb' : k < b.length := by omega
    have := hb k a[k] b[k] (List.getElem?_eq_getElem ha) (List.getElem?_eq_getElem hb')
    rw [List.drop_eq_getElem_cons ha, List.drop_eq_getElem_cons hb', List.take_succ_cons]
    cases e : eqE a[k] b[k] with
    | true =>
      rw [e, if_pos rfl] at this
      simp only [rangeN, this]
      rw [cmp_rangeN a b s v hb hl n (k + 1) (by omega), eqE_iff.1 e]
      by_cases h : a.drop (k + 1) = (b.drop (k + 1)).take n
      · rw [if_pos h, if_pos (by rw [h])]
      · rw [if_neg h, if_neg (fun q => h (List.cons.inj q).2)]
    | false =>
      rw [e, if_neg (by simp)] at this
      simp only [rangeN, this]
      rw [if_neg (fun q => by rw [eqE_iff.2 (List.cons.inj q).1] at e; cases e)]

theorem cmp_rni {σ ρ : Type} (a b : List Event) (s : σ) (v : ρ) {body : Nat → σ → Option (Stp σ ρ)}
    (hb : ∀ i x y, a[i]? = some x → b[i]? = some y → body i s = if eqE x y = true then some (.nxt s) else some (.ret v)) (hl : a.length ≤ b.length) (hn : a.length ≤ 4611686018427387904) :
    rni body (a.length : Int) s = some (if a = b.take a.length then .fin s else .ret v) := by
  unfold rni
  rw [if_pos (by omega), Int.toNat_natCast, cmp_rangeN a b s v hb hl _ 0 (by omega), List.drop_zero, List.drop_zero]

theorem oc_if {σ β : Type} (f : σ → Option β) (c : Prop) [Decidable c] (s : σ) (v : Option β) : oc f (if c then .fin s else .ret v) = if c then f s else v := by
  split <;> rfl

theorem body_eq {σ : Type} (x y : Event) (s : σ) : (if (!((x.Kind == y.Kind) && ((x.Value == y.Value) && true))) = true then (some (.ret (some false)) : Option (Stp σ (Option Bool))) else some (.nxt s)) = if eqE x y = true then some (.nxt s) else some (.ret (some false)) := by
  show (if (!eqE x y) = true then _ else _) = _
  cases eqE x y <;> rfl

theorem Equal_eq (a b : List Event) (hn : a.length ≤ 4611686018427387904) : slices_Equal_s a b = some (decide (a = b)) := by
  unfold slices_Equal_s
  by_cases h : a.length = b.length
  · rw [if_neg (by simp [h]), cmp_rni a b b (some false) (fun i x y hx hy => by rw [getI_nat, hx, getI_nat, hy]; exact body_eq x y b) (by omega) hn]
    simp only [Option.bind_some]
    rw [oc_if, h, List.take_length]
    split <;> rename_i q
    · rw [decide_eq_true q]
    · rw [decide_eq_false q]
  · rw [if_pos (by rw [bne_iff_ne]; omega), decide_eq_false (fun q => h (by rw [q]))]

theorem Begins_eq (a b : List Event) (hn : a.length ≤ 4611686018427387904) : windlassref02_Begins_s a b = some (decide (a.length ≤ b.length ∧ a = b.take a.length)) := by
  unfold windlassref02_Begins_s
  by_cases h : a.length ≤ b.length
  · rw [if_neg (by simp; omega), cmp_rni a b b (some false) (fun i x y hx hy => by rw [getI_nat, hx, getI_nat, hy]; exact body_eq x y b) h hn]
    simp only [Option.bind_some]
    rw [oc_if]
    split <;> rename_i q
    · rw [decide_eq_true ⟨h, q⟩]
    · rw [decide_eq_false (fun r => q r.2)]
  · rw [if_pos (by simp; omega), decide_eq_false (fun r => h r.1)]

theorem Begins_eq' (a b : List Event) (hn : a.length ≤ 4611686018427387904) : windlassref02_Begins_r_r_s a b = some (decide (a.length ≤ b.length ∧ a = b.take a.length)) := by
  unfold windlassref02_Begins_r_r_s
  by_cases h : a.length ≤ b.length
  · rw [if_neg (by simp; omega), cmp_rni a b () (some false) (fun i x y hx hy => by rw [getI_nat, hx, getI_nat, hy]; exact body_eq x y ()) h hn]
    simp only [Option.bind_some]
    rw [oc_if]
    split <;> rename_i q
    · rw [decide_eq_true ⟨h, q⟩]
    · rw [decide_eq_false (fun r => q r.2)]
  · rw [if_pos (by simp; omega), decide_eq_false (fun r => h r.1)]

theorem same_core (a b : List Event) : (if ((a.length : Int) == (b.length : Int)) = true then decide (a.length ≤ b.length ∧ a = b.take a.length) else false) = decide (a = b) := by
  by_cases h : a.length = b.length
  · rw [if_pos (by simp [h])]
    apply decide_eq_decide.2
    rw [h, List.take_length]
    exact ⟨fun q => q.2, fun q => ⟨Nat.le_refl _, q⟩⟩
  · rw [if_neg (by rw [beq_iff_eq]; omega), decide_eq_false (fun q => h (by rw [q]))]

theorem Same_eq (a b : List Event) (hn : a.length ≤ 4611686018427387904) : windlassref02_Same_s a b = some (decide (a = b)) := by
  unfold windlassref02_Same_s
  rw [Begins_eq a b hn, ← same_core]
  simp only [jp, Option.bind_some]
  split <;> rfl
theorem Same_eq' (a b : List Event) (hn : a.length ≤ 4611686018427387904) : windlassref02_Same_r_r_s a b = some (decide (a = b)) := by
  unfold windlassref02_Same_r_r_s
  rw [Begins_eq' a b hn, ← same_core]
  simp only [jp, Option.bind_some]
  split <;> rfl

theorem TSame_eq (a b : List Event) (hn : a.length ≤ 4611686018427387904) : trace_Same_s a b = some (decide (a = b)) := by
  unfold trace_Same_s; rw [Equal_eq a b hn]; rfl

theorem Prefix_eq (a b : List Event) (hn : a.length ≤ 4611686018427387904) : trace_Prefix_s a b = some (decide (a.length ≤ b.length ∧ a = b.take a.length)) := by
  unfold trace_Prefix_s
  simp only [jp]
  by_cases h : a.length ≤ b.length
  · rw [if_pos (by simpa using h)]
    unfold subL
    rw [if_pos (by omega), Option.bind_some, Equal_eq _ _ hn]
    simp only [Int.toNat_natCast, Int.toNat_zero, List.drop_zero, Option.bind_some]
    congr 1
    exact decide_eq_decide.2 ⟨fun q => ⟨h, q⟩, fun q => q.2⟩
  · rw [if_neg (by simpa using h), decide_eq_false (fun r => h r.1)]

theorem compares_law (a b : List Event) (e : End) (ha : a.length ≤ 1048576 ∧ ∀ x ∈ a, Event.Ok 1048576 x) (hb : b.length ≤ 1048576 ∧ ∀ x ∈ b, Event.Ok 1048576 x) (he : End.Ok 1048576 e) :
    windlasslaw02_TraceCompares_s a b e = some true := by
  unfold windlasslaw02_TraceCompares_s
  have h1 : a.length ≤ 4611686018427387904 := by omega
  have h2 : b.length ≤ 4611686018427387904 := by omega
  simp only [first_eq, Option.bind_some, Bool.not_true, Bool.false_eq_true, if_false, TSame_eq _ _ h1, Same_eq _ _ h1, Prefix_eq _ _ h1, Prefix_eq _ _ h2, Begins_eq _ _ h1, Begins_eq _ _ h2, beq_self_eq_true, if_true, decide_true]
  unfold trace_Ended_s
  simp only [jp]
  by_cases h : e.Kind = 1
  · simp [h]
  · simp [h]
end Go.Proofs.YtekkiedpcgaddaaDoor
/- Plain laws of the trace: numbers that come in and go out. -/
namespace Go.Proofs.YtekkiedpcgaddaaDoor
open Go Go.Ab Go.RowKit
set_option maxRecDepth 20000
set_option linter.unusedVariables false
set_option linter.unusedSimpArgs false

theorem rangeL_exb {α σ ρ : Type} {body : Nat → α → σ → Option (Stp σ ρ)} (Inv : Nat → σ → Prop) (Q : Out σ ρ → Prop) : ∀ (xs : List α) (k : Nat) (s : σ), Inv k s →
    (∀ i x s, xs[i]? = some x → Inv (k + i) s → (∃ s', body (k + i) x s = some (.nxt s') ∧ Inv (k + i + 1) s') ∨ (∃ s', body (k + i) x s = some (.brk s') ∧ Q (.fin s')) ∨ ∃ v, body (k + i) x s = some (.ret v) ∧ Q (.ret v)) →
    (∀ s, Inv (k + xs.length) s → Q (.fin s)) → ∃ o, rangeL body xs k s = some o ∧ Q o
  | [], k, s, hi, h, hQ => ⟨_, rfl, hQ s (by simpa using hi)⟩
  | x :: r, k, s, hi, h, hQ => by
    rcases h 0 x s rfl (by simpa using hi) with ⟨s', e1, e2⟩ | ⟨s', e1, e2⟩ | ⟨v, e1, e2⟩
    · simp only [Nat.add_zero] at e1 e2
      simp only [rangeL, e1]
      refine rangeL_exb Inv Q r (k + 1) s' e2 (fun i y s hy hs => ?_) (fun s hs => hQ s (by rw [List.length_cons]; rwa [show k + (r.length + 1) = k + 1 + r.length by omega]))
      have := h (i + 1) y s (by simpa using hy) (by rwa [show k + (i + 1) = k + 1 + i by omega])
      rwa [show k + (i + 1) = k + 1 + i by omega] at this
    · simp only [Nat.add_zero] at e1
      simp only [rangeL, e1]
      exact ⟨_, rfl, e2⟩
    · simp only [Nat.add_zero] at e1
      simp only [rangeL, e1]
      exact ⟨_, rfl, e2⟩
theorem rng_exb {α σ ρ : Type} {body : Nat → α → σ → Option (Stp σ ρ)} {xs : List α} {s0 : σ} (Inv : Nat → σ → Prop) (Q : Out σ ρ → Prop) (hl : xs.length ≤ 4611686018427387904) (h0 : Inv 0 s0)
    (h : ∀ i x s, xs[i]? = some x → Inv i s → (∃ s', body i x s = some (.nxt s') ∧ Inv (i + 1) s') ∨ (∃ s', body i x s = some (.brk s') ∧ Q (.fin s')) ∨ ∃ v, body i x s = some (.ret v) ∧ Q (.ret v)) (hQ : ∀ s, Inv xs.length s → Q (.fin s)) : ∃ o, rng body xs s0 = some o ∧ Q o := by
  unfold rng
  rw [if_pos hl]
  exact rangeL_exb Inv Q xs 0 s0 h0 (fun i x s hx hs => by simpa using h i x s hx (by simpa using hs)) (fun s hs => hQ s (by simpa using hs))

theorem whileN_fin {σ ρ : Type} {body : σ → Option (Stp σ ρ)} (Inv : σ → Prop) (μ : σ → Nat) (e : σ)
    (h : ∀ s, Inv s → (∃ s', body s = some (.nxt s') ∧ Inv s' ∧ μ s' < μ s) ∨ body s = some (.brk e)) (n : Nat) (s : σ) (hi : Inv s) (hn : μ s < n) : whileN body n s = some (.fin e) := by
  obtain ⟨o, h1, h2⟩ := whileN_ex Inv μ (fun o => o = .fin e) (fun s hs => (h s hs).elim .inl fun q => .inr (.inl ⟨e, q, rfl⟩)) n s hi hn
  rw [h1, h2]

theorem New_eq (t : List Int) (h : t.length ≤ 1048576) : trace_New_o_s t = some t := by
  unfold trace_New_o_s slices_Clone_0_z_s
  rw [appL_of (by simp; omega)]; simp
theorem New_eq' (t : List Int) (h : t.length ≤ 1048576) : trace_New_r_o_s t = some t := by
  unfold trace_New_r_o_s slices_Clone_0_r_z_s
  rw [appL_of (by simp; omega)]; simp
theorem In_eq (t : List Int) (l : List Event) (ht : t.length ≤ 1048576) (hl : l.length ≤ 1048576) : trace_Trace_In_pNR_s t l = some (t.headD 0, t.tail, l ++ [Event.mk 2 (t.headD 0)]) := by
  unfold trace_Trace_In_pNR_s
  simp only [jp]
  cases t with
  | nil =>
    simp only [List.length_nil]
    rw [if_neg (by decide), appL_of (by simp; omega)]; rfl
  | cons x r =>
    rw [if_pos (by simp)]
    rw [show getI (x :: r) 0 = some x from rfl, Option.bind_some]
    unfold subL
    rw [if_pos (by simp; omega), Option.bind_some, appL_of (by simp; omega)]
    simp only [Option.bind_some, Int.toNat_natCast, List.take_length, List.headD_cons, List.tail_cons]
    rfl
theorem Out_eq (t : List Int) (l : List Event) (v : Int) (hl : l.length ≤ 1048576) : trace_Trace_Out_pNR_s t l v = some (t, l ++ [Event.mk 1 v]) := by
  unfold trace_Trace_Out_pNR_s
  rw [appL_of (by simp; omega)]; rfl
theorem Events_eq (t : List Int) (l : List Event) (hl : l.length ≤ 1048576) : trace_Trace_Events_pNR_s t l = some (l, t) := by
  unfold trace_Trace_Events_pNR_s slices_Clone_1_r_z_s
  rw [appL_of (by simp; omega)]; simp
theorem Events_eq' (t : List Int) (l : List Event) (hl : l.length ≤ 1048576) : trace_Trace_Events_pNR_o_s t l = some (t, l) := by
  unfold trace_Trace_Events_pNR_o_s slices_Clone_1_r_s
  rw [appL_of (by simp; omega)]; simp
theorem Events_none (t : List Int) : trace_Trace_Events_pNn_s t = some ([], t) := by
  unfold trace_Trace_Events_pNn_s slices_Clone_1_z_s
  rw [appL_of (by simp)]; rfl

theorem headD_drop (t : List Int) (i : Nat) : (t.drop i).headD 0 = t.getD i 0 := by
  rw [List.headD_eq_head?_getD, List.head?_drop, List.getD_eq_getElem?_getD]

/-- What two numbers in and out leave. -/
def evs (vs : List Int) : List Event := vs.flatMap fun v => [Event.mk 2 v, Event.mk 1 v]
theorem evs_len (vs : List Int) : (evs vs).length = 2 * vs.length := by
  induction vs with
  | nil => rfl
  | cons v r ih => simp only [evs, List.flatMap_cons, List.length_append, List.length_cons, List.length_nil] at *; omega
theorem evs_snoc (vs : List Int) (v : Int) : evs (vs ++ [v]) = evs vs ++ [Event.mk 2 v] ++ [Event.mk 1 v] := by
  simp [evs]
theorem evs_get (vs : List Int) (m : Nat) : (evs vs)[2 * m]? = vs[m]?.map (fun v => Event.mk 2 v) ∧ (evs vs)[2 * m + 1]? = vs[m]?.map (fun v => Event.mk 1 v) := by
  induction vs generalizing m with
  | nil => simp [evs]
  | cons v r ih =>
    have e : evs (v :: r) = Event.mk 2 v :: Event.mk 1 v :: evs r := rfl
    rw [e]
    cases m with
    | zero => simp
    | succ m =>
      have := ih m
      rw [show 2 * (m + 1) = 2 * m + 1 + 1 by omega]
      simpa using this

def valsT (t : List Int) (i : Nat) : List Int := (List.range i).map fun j => t.getD j 0
theorem valsT_len (t : List Int) (i : Nat) : (valsT t i).length = i := by simp [valsT]
theorem valsT_succ (t : List Int) (i : Nat) : valsT t (i + 1) = valsT t i ++ [t.getD i 0] := by simp [valsT, List.range_succ]

theorem tapes_law (tape : List Int) (more : Int) (ht : tape.length ≤ 1048576 ∧ ∀ x ∈ tape, (Lit.int .u64 x).wf = true) (hm : (Lit.int .i64 more).wf = true) :
    windlasslaw02_TraceTapes_s 1048577 tape more = some true := by
  unfold windlasslaw02_TraceTapes_s
  have hk : 0 ≤ Int.tmod (U64 more) 20 ∧ Int.tmod (U64 more) 20 < 20 := by
    have h0 : 0 ≤ U64 more := by
      show 0 ≤ IntKind.wrap .u64 more
      rw [IntKind.wrap_u64]; omega
    exact ⟨Int.tmod_nonneg _ h0, Int.tmod_lt_of_pos _ (by decide)⟩
  generalize Int.tmod (U64 more) 20 = K at hk
  obtain ⟨k, rfl⟩ : ∃ k : Nat, K = k := ⟨K.toNat, by omega⟩
  have e1 : I64 (k : Int) = k := I64_of (by omega)
  have e2 : I64 ((tape.length : Int) + k) = ((tape.length + k : Nat) : Int) := by rw [I64_of (by omega)]; omega
  simp only [first_eq, Option.bind_some, Bool.not_true, Bool.false_eq_true, if_false, New_eq tape ht.1, e1, e2, jp]
  generalize hN : min (tape.length + k) 100 = N
  refine bind_eq ⟨.fin ((N : Int), tape.drop N, evs (valsT tape N)), ?_, ?_⟩
  · refine whileN_fin (fun s => ∃ i : Nat, i ≤ N ∧ s = ((i : Int), tape.drop i, evs (valsT tape i))) (fun s => 100 - s.1.toNat) _ ?_ _ _ ⟨0, by omega, rfl⟩ (by simp)
    rintro s ⟨i, hi, rfl⟩
    have hi100 : i ≤ 100 := by omega
    have hd : (tape.drop i).length ≤ 1048576 := by rw [List.length_drop]; omega
    have hev : (evs (valsT tape i)).length ≤ 1048575 := by rw [evs_len, valsT_len]; omega
    dsimp only
    by_cases hlt : i < N
    · left
      refine ⟨((i + 1 : Nat), tape.drop (i + 1), evs (valsT tape (i + 1))), ?_, ⟨i + 1, by omega, rfl⟩, by simp; omega⟩
      have hOut : trace_Trace_Out_pNR_s ((tape.drop i).tail) (evs (valsT tape i) ++ [Event.mk 2 (tape.getD i 0)]) (tape.getD i 0) = some (tape.drop (i + 1), evs (valsT tape (i + 1))) := by
        rw [Out_eq _ _ _ (by simp; omega), valsT_succ, evs_snoc, List.tail_drop]
      have hI : I64 ((i : Int) + 1) = ((i + 1 : Nat) : Int) := by rw [I64_of (by omega)]; omega
      rw [if_pos (by simp; omega), if_pos (by simp; omega), In_eq _ _ hd (by omega)]
      simp only [Option.bind_some, headD_drop, hOut, hI]
      by_cases hl : i < tape.length
      · rw [if_pos (by simpa using hl), getI_nat, List.getElem?_eq_getElem hl]
        have hg : tape.getD i 0 = tape[i] := by simp [List.getD_eq_getElem?_getD, hl]
        simp only [Option.bind_some, hg, bne_self_eq_false, Bool.false_eq_true, if_false]
        rw [if_neg (by simp; omega)]

      · have hg : tape.getD i 0 = 0 := by simp [List.getD_eq_getElem?_getD, List.getElem?_eq_none (show tape.length ≤ i by omega)]
        rw [if_neg (by simpa using hl), if_pos (by simp; omega), hg]
        rfl
    · right
      obtain rfl : i = N := by omega
      by_cases h1 : i < tape.length + k
      · rw [if_pos (by simp; omega), if_neg (by simp; omega)]
      · rw [if_neg (by simp; omega)]
  · simp only [oc, Events_none, Option.bind_some, List.length_nil]
    rw [if_neg (by simp), Events_eq _ _ (by rw [evs_len, valsT_len]; omega)]
    simp only [Option.bind_some]
    refine bind_eq ⟨.fin ((2 * N : Nat) : Int), ?_, ?_⟩
    · refine whileN_fin (fun s => ∃ m : Nat, m ≤ N ∧ s = ((2 * m : Nat) : Int)) (fun s => 200 - s.toNat) _ ?_ _ _ ⟨0, by omega, rfl⟩ (by simp)
      rintro s ⟨m, hm, rfl⟩

      have hI1 : I64 (((2 * m : Nat) : Int) + 1) = ((2 * m + 1 : Nat) : Int) := by rw [I64_of (by omega)]; omega
      have hI2 : I64 (((2 * m : Nat) : Int) + 2) = ((2 * (m + 1) : Nat) : Int) := by rw [I64_of (by omega)]; omega
      rw [hI1, hI2, evs_len, valsT_len]
      by_cases hlt : m < N
      · left
        refine ⟨((2 * (m + 1) : Nat) : Int), ?_, ⟨m + 1, by omega, rfl⟩, by simp; omega⟩
        rw [if_pos (by simp; omega), getI_nat, getI_nat, (evs_get _ m).1, (evs_get _ m).2]
        have : m < (valsT tape N).length := by rw [valsT_len]; exact hlt
        rw [List.getElem?_eq_getElem this]
        simp
      · right
        obtain rfl : m = N := by omega
        rw [if_neg (by simp; omega)]
    · simp only [oc]
      rw [evs_len, valsT_len]
      have : (if 100 < ((tape.length + k : Nat) : Int) then (100 : Int) else ((tape.length + k : Nat) : Int)) = (N : Int) := by
        split <;> omega
      rw [this, I64_of (by omega)]
      simp
end Go.Proofs.YtekkiedpcgaddaaDoor
/- Plain laws of the trace: how a trace is written; one word for each event. -/
namespace Go.Proofs.YtekkiedpcgaddaaDoor
open Go Go.Ab Go.RowKit
set_option maxRecDepth 20000
set_option linter.unusedVariables false
set_option linter.unusedSimpArgs false

def bsl (l : List UInt8) : ByteArray := ⟨l.toArray⟩
theorem bsl_data (l : List UInt8) : (bsl l).data.toList = l := by simp [bsl]
theorem bsl_toList (l : List UInt8) : (bsl l).toList = l := by rw [toList_data, bsl_data]
theorem bsl_size (l : List UInt8) : (bsl l).size = l.length := by simp [bsl, ByteArray.size]
theorem bsl_inj {a b : ByteArray} (h : a.data.toList = b.data.toList) : a = b := by
  cases a; cases b; simp only [ByteArray.mk.injEq]; exact Array.toList_inj.1 h
theorem bsl_eq (b : ByteArray) : b = bsl b.data.toList := bsl_inj (by rw [bsl_data])
theorem cat_b (a b : List UInt8) (h : a.length + b.length ≤ 1000000000) : catS (bsl a) (bsl b) = some (bsl (a ++ b)) := by
  unfold catS
  rw [bsl_size, bsl_size, if_pos (by omega)]
  exact congrArg some (bsl_inj (by rw [ByteArray.data_append, Array.toList_append, bsl_data, bsl_data, bsl_data]))
theorem Lib.extract_toList' (s : ByteArray) (i j : Nat) : (s.extract i j).data.toList = (s.data.toList.drop i).take (j - i) := by
  rw [ByteArray.data_extract, Array.toList_extract, List.extract]

theorem sub_b (a : List UInt8) (i j : Nat) (hij : i ≤ j) (hj : j ≤ a.length) : subS (bsl a) i j = some (bsl ((a.take j).drop i)) := by
  unfold subS
  rw [bsl_size, if_pos (by omega)]
  congr 1
  apply bsl_inj
  rw [bsl_data, Int.toNat_natCast, Int.toNat_natCast, Lib.extract_toList', bsl_data, List.drop_take]
theorem strI_b (a : List UInt8) (i : Nat) (h : i < a.length) : strI (bsl a) i = some (a[i].toNat : Int) := by
  unfold strI
  rw [bsl_size, if_pos (by omega)]
  have : (bsl a)[i]? = some a[i] := by
    rw [getElem?_pos (bsl a) i (by show i < (bsl a).size; rw [bsl_size]; exact h)]
    rfl
  simp [this]

theorem digs_len : ∀ (k u : Nat), 1 ≤ (digs k u).length ∧ (digs k u).length ≤ k + 1
  | 0, u => by simp [digs]
  | k + 1, u => by
    rw [digs]
    split
    · simp
    · have := digs_len k (u / 10)
      simp; omega
theorem digs_num : ∀ (k u : Nat), ∀ b ∈ digs k u, b ≠ 32
  | 0, u => by
    intro b hb
    simp only [digs, List.mem_singleton] at hb
    subst hb
    have : u % 10 < 10 := Nat.mod_lt _ (by decide)
    intro e
    have := congrArg UInt8.toNat e
    rw [UInt8.toNat_ofNat', Nat.mod_eq_of_lt (by omega)] at this
    simp at this
    omega
  | k + 1, u => by
    intro b hb
    rw [digs] at hb
    have : u % 10 < 10 := Nat.mod_lt _ (by decide)
    split at hb
    · simp only [List.mem_singleton] at hb
      subst hb
      intro e
      have := congrArg UInt8.toNat e
      rw [UInt8.toNat_ofNat', Nat.mod_eq_of_lt (by omega)] at this
      simp at this
      omega
    · simp only [List.mem_append, List.mem_singleton] at hb
      rcases hb with hb | hb
      · exact digs_num k _ b hb
      · subst hb
        intro e
        have := congrArg UInt8.toNat e
        rw [UInt8.toNat_ofNat', Nat.mod_eq_of_lt (by omega)] at this
        simp at this
        omega

def word (x : Event) : List UInt8 :=
  if x.Kind = 1 then [111, 117, 116, 61] ++ digs 19 x.Value.toNat else if x.Kind = 2 then [105, 110, 61] ++ digs 19 x.Value.toNat else [63]
def endw (e : End) : List UInt8 :=
  if e.Kind = 1 then [101, 120, 105, 116, 61] ++ digs 19 e.Value.toNat else if e.Kind = 2 then [112, 97, 110, 105, 99, 61] ++ digs 19 e.Value.toNat
  else if e.Kind = 3 then [102, 117, 101, 108] else if e.Kind = 4 then [115, 116, 97, 99, 107] else if e.Kind = 5 then [115, 116, 117, 99, 107] else [63]
def bodyW (ws : List (List UInt8)) : List UInt8 := ws.flatMap fun w => w ++ [32]

theorem word_len (x : Event) : (word x).length ≤ 26 := by
  unfold word
  have := digs_len 19 x.Value.toNat
  split
  · simp; omega
  · split
    · simp; omega
    · simp
theorem endw_len (e : End) : 1 ≤ (endw e).length ∧ (endw e).length ≤ 26 := by
  unfold endw
  have := digs_len 19 e.Value.toNat
  repeat' split
  all_goals simp
  all_goals omega
theorem word_num (x : Event) : ∀ b ∈ word x, b ≠ 32 := by
  intro b hb
  unfold word at hb
  split at hb
  · rcases List.mem_append.1 hb with h | h
    · intro e; subst e; simp at h
    · exact digs_num _ _ b h
  · split at hb
    · rcases List.mem_append.1 hb with h | h
      · intro e; subst e; simp at h
      · exact digs_num _ _ b h
    · intro e; subst e; simp at hb
theorem endw_num (x : End) : ∀ b ∈ endw x, b ≠ 32 := by
  intro b hb
  unfold endw at hb
  split at hb
  · rcases List.mem_append.1 hb with h | h
    · intro e; subst e; simp at h
    · exact digs_num _ _ b h
  · split at hb
    · rcases List.mem_append.1 hb with h | h
      · intro e; subst e; simp at h
      · exact digs_num _ _ b h
    · repeat' split at hb
      all_goals (intro e; subst e; simp at hb)

theorem bodyW_len (ws : List (List UInt8)) (h : ∀ w ∈ ws, w.length ≤ 26) : (bodyW ws).length ≤ 27 * ws.length := by
  induction ws with
  | nil => simp [bodyW]
  | cons w r ih =>
    have h1 := h w (by simp)
    have h2 := ih (fun x hx => h x (by simp [hx]))
    simp only [bodyW, List.flatMap_cons, List.length_append, List.length_cons, List.length_nil] at h2 ⊢
    omega
theorem join_body (e : List UInt8) : ∀ ws : List (List UInt8), Lib.join (ws ++ [e]) [32] = bodyW ws ++ e
  | [] => by rw [List.nil_append, Lib.join_one]; rfl
  | w :: r => by
    rw [List.cons_append, Lib.join_cons]
    induction r generalizing w with
    | nil => simp [Lib.joinTail, bodyW]
    | cons x r ih =>
      have := ih x
      simp only [Lib.joinTail, List.cons_append, List.map_cons, List.flatten_cons, bodyW, List.flatMap_cons, List.append_assoc] at this ⊢
      rw [this]

theorem fmt_eq (v : Int) (h : (Lit.int .u64 v).wf = true) : strconv_FormatUint_s v 10 = some (bsl (digs 19 v.toNat)) := by
  have hb : 0 ≤ v ∧ v < 18446744073709551616 := by
    simp only [Lit.wf, Bool.and_eq_true, decide_eq_true_eq] at h
    have h1 : IntKind.u64.min = 0 := by decide
    have h2 : IntKind.u64.max = 18446744073709551615 := by decide
    omega
  unfold strconv_FormatUint_s internal_strconv_FormatUint_s
  rw [if_pos ⟨rfl, hb.1, hb.2⟩]
  rfl

theorem Print_eq (l : List Event) (e : End) (hl : l.length ≤ 1048576) (h : ∀ x ∈ l, Event.Ok 1048576 x) (he : End.Ok 1048576 e) :
    trace_Print_s l e = some (bsl (bodyW (l.map word) ++ endw e)) := by
  unfold trace_Print_s
  have L := rng_inv (σ := End × List ByteArray) (ρ := Option ByteArray) (xs := l) (s0 := (e, [])) (fun _ => true) none (fun i s => s = (e, (l.take i).map fun x => bsl (word x)))
    (body := fun (i_2 : Nat) (x_3 : Event) (s_1 : (End × (List ByteArray))) => (((trace_event_s x_3.Kind).bind fun eve_5 => (jp (fun (s_7 : ByteArray) => ((appL 16 s_1.2 [s_7]).bind fun l_11 => (some (.nxt (s_1.1, l_11))))) (fun k_6 => (if (!(ByteArray.toList eve_5 == ByteArray.toList (ByteArray.mk #[]))) then ((catS eve_5 (ByteArray.mk #[61])).bind fun s_8 => ((strconv_FormatUint_s x_3.Value 10).bind fun vfor_9 => ((catS s_8 vfor_9).bind fun s_10 => (k_6 s_10)))) else (k_6 (ByteArray.mk #[63])))))) : Option (Stp (End × (List ByteArray)) (Option ByteArray))))
    (by omega) rfl (fun i x s hx hs => by
      subst hs
      rw [if_pos rfl]
      have hi : i < l.length := (List.getElem?_eq_some_iff.1 hx).1
      have hxl : x ∈ l := List.mem_of_getElem? hx
      have key : ∀ w : List UInt8, w = word x → (appL 16 ((l.take i).map fun x => bsl (word x)) [bsl w]) = some ((l.take (i + 1)).map fun x => bsl (word x)) := by
        intro w hw
        rw [appL_of (by simp; omega), hw, List.take_add_one, hx]
        simp
      refine ⟨_, ?_, rfl⟩
      have hf := fmt_eq x.Value (h x hxl).2
      have hd := digs_len 19 x.Value.toNat
      unfold trace_event_s
      simp only [jp]
      by_cases h1 : x.Kind = 1
      · have hw : word x = [111, 117, 116, 61] ++ digs 19 x.Value.toNat := by rw [word, if_pos h1]
        rw [if_pos (by simpa using h1), Option.bind_some, if_pos (by simp only [toList_data]; decide), show (ByteArray.mk #[111, 117, 116]) = bsl [111, 117, 116] from rfl, show (ByteArray.mk #[61]) = bsl [61] from rfl, cat_b _ _ (by simp), Option.bind_some, hf, Option.bind_some, cat_b _ _ (by simp; omega), Option.bind_some, key _ (by rw [hw]; rfl), Option.bind_some]
      · by_cases h2 : x.Kind = 2
        · have hw : word x = [105, 110, 61] ++ digs 19 x.Value.toNat := by rw [word, if_neg h1, if_pos h2]
          rw [if_neg (by simpa using h1), if_pos (by simpa using h2), Option.bind_some, if_pos (by simp only [toList_data]; decide), show (ByteArray.mk #[105, 110]) = bsl [105, 110] from rfl, show (ByteArray.mk #[61]) = bsl [61] from rfl, cat_b _ _ (by simp), Option.bind_some, hf, Option.bind_some, cat_b _ _ (by simp; omega), Option.bind_some, key _ (by rw [hw]; rfl), Option.bind_some]
        · have hw : word x = [63] := by rw [word, if_neg h1, if_neg h2]
          rw [if_neg (by simpa using h1), if_neg (by simpa using h2), Option.bind_some, if_neg (by simp only [toList_data]; decide), show (ByteArray.mk #[63]) = bsl [63] from rfl, key _ hw.symm, Option.bind_some])
  rw [if_pos (by simp)] at L
  obtain ⟨s', L, rfl⟩ := L
  rw [L]
  simp only [Option.bind_some, oc, List.take_length]
  have hd := digs_len 19 e.Value.toNat
  have fin : ∀ w : List UInt8, w = endw e → ((appL 16 (l.map fun x => bsl (word x)) [bsl w]).bind fun l_19 => ((strings_Join_s l_19 (ByteArray.mk #[32])).bind fun joi_20 => (some joi_20))) = some (bsl (bodyW (l.map word) ++ endw e)) := by
    intro w hw
    rw [appL_of (by simp; omega), Option.bind_some]
    have hj : (Lib.join (((l.map fun x => bsl (word x)) ++ [bsl w]).map (·.data.toList)) (ByteArray.mk #[32]).data.toList) = bodyW (l.map word) ++ endw e := by
      rw [List.map_append, List.map_map, hw]
      simp only [Function.comp_def, bsl_data, List.map_cons, List.map_nil]
      exact join_body (endw e) (l.map word)
    have hlen : (bodyW (l.map word) ++ endw e).length ≤ 140737488355328 := by
      have h1 := bodyW_len (l.map word) (fun w hw => by obtain ⟨x, _, rfl⟩ := List.mem_map.1 hw; exact word_len x)
      have h2 := endw_len e
      rw [List.length_map] at h1
      rw [List.length_append]; omega
    unfold strings_Join_s
    rw [hj, if_pos ⟨by simp; omega, hlen⟩]
    rfl
  have hEnd : trace_ending_s e.Kind = some (if e.Kind = 1 then bsl [101, 120, 105, 116] else if e.Kind = 2 then bsl [112, 97, 110, 105, 99] else if e.Kind = 3 then bsl [102, 117, 101, 108] else if e.Kind = 4 then bsl [115, 116, 97, 99, 107] else if e.Kind = 5 then bsl [115, 116, 117, 99, 107] else bsl []) := by
    unfold trace_ending_s
    simp only [jp]
    by_cases h0 : e.Kind < 1
    · rw [if_pos (by simpa using h0), if_pos trivial, if_neg (by omega), if_neg (by omega), if_neg (by omega), if_neg (by omega), if_neg (by omega)]; rfl
    · rw [if_neg (by simpa using h0)]
      by_cases h6 : e.Kind > 5
      · rw [if_pos (by simpa using h6), if_neg (by omega), if_neg (by omega), if_neg (by omega), if_neg (by omega), if_neg (by omega)]; rfl
      · rw [if_neg (by simpa using h6)]
        have : e.Kind = 1 ∨ e.Kind = 2 ∨ e.Kind = 3 ∨ e.Kind = 4 ∨ e.Kind = 5 := by omega
        rcases this with h | h | h | h | h <;> rw [h] <;> rfl
  rw [hEnd, Option.bind_some]
  unfold trace_Ended_s
  simp only [jp]
  by_cases h1 : e.Kind = 1
  · have hw : endw e = [101, 120, 105, 116, 61] ++ digs 19 e.Value.toNat := by rw [endw, if_pos h1]
    rw [if_pos h1, if_neg (by simp only [toList_data]; decide), if_pos (by simpa using h1), Option.bind_some, if_pos rfl, fmt_eq _ he.2, Option.bind_some, show (ByteArray.mk #[61]) = bsl [61] from rfl, cat_b _ _ (by simp; omega), Option.bind_some, cat_b _ _ (by simp; omega), Option.bind_some]
    exact fin _ (by rw [hw]; rfl)
  · by_cases h2 : e.Kind = 2
    · have hw : endw e = [112, 97, 110, 105, 99, 61] ++ digs 19 e.Value.toNat := by rw [endw, if_neg h1, if_pos h2]
      rw [if_neg h1, if_pos h2, if_neg (by simp only [toList_data]; decide), if_neg (by simpa using h1), Option.bind_some, if_pos (by simpa using h2), fmt_eq _ he.2, Option.bind_some, show (ByteArray.mk #[61]) = bsl [61] from rfl, cat_b _ _ (by simp; omega), Option.bind_some, cat_b _ _ (by simp; omega), Option.bind_some]
      exact fin _ (by rw [hw]; rfl)
    · rw [if_neg h1, if_neg h2]
      have go : ∀ w : List UInt8, w ≠ [] → w = endw e → (if (ByteArray.toList (bsl w) == ByteArray.toList (ByteArray.mk #[])) = true then ((appL 16 (l.map fun x => bsl (word x)) [(ByteArray.mk #[63])]).bind fun l_19 => ((strings_Join_s l_19 (ByteArray.mk #[32])).bind fun joi_20 => (some joi_20)))
          else ((if (e.Kind == 1) = true then some true else some (e.Kind == 2)).bind fun vend_15 => if vend_15 = true then ((strconv_FormatUint_s e.Value 10).bind fun vfor_16 => (catS (ByteArray.mk #[61]) vfor_16).bind fun s_17 => (catS (bsl w) s_17).bind fun s_18 => ((appL 16 (l.map fun x => bsl (word x)) [s_18]).bind fun l_19 => ((strings_Join_s l_19 (ByteArray.mk #[32])).bind fun joi_20 => (some joi_20)))) else ((appL 16 (l.map fun x => bsl (word x)) [bsl w]).bind fun l_19 => ((strings_Join_s l_19 (ByteArray.mk #[32])).bind fun joi_20 => (some joi_20))))) = some (bsl (bodyW (l.map word) ++ endw e)) := by
        intro w hw hwe
        rw [if_neg (by rw [bsl_toList, toList_data]; simpa using hw), if_neg (by simpa using h1), Option.bind_some, if_neg (by simpa using h2)]
        exact fin w hwe
      by_cases h3 : e.Kind = 3
      · rw [if_pos h3]; exact go _ (by simp) (by rw [endw, if_neg h1, if_neg h2, if_pos h3])
      · rw [if_neg h3]
        by_cases h4 : e.Kind = 4
        · rw [if_pos h4]; exact go _ (by simp) (by rw [endw, if_neg h1, if_neg h2, if_neg h3, if_pos h4])
        · rw [if_neg h4]
          by_cases h5 : e.Kind = 5
          · rw [if_pos h5]; exact go _ (by simp) (by rw [endw, if_neg h1, if_neg h2, if_neg h3, if_neg h4, if_pos h5])
          · rw [if_neg h5, if_pos (by simp only [toList_data]; decide)]
            exact fin [63] (by rw [endw, if_neg h1, if_neg h2, if_neg h3, if_neg h4, if_neg h5])
end Go.Proofs.YtekkiedpcgaddaaDoor
/- Plain laws of the trace: one word for each event, the longer one beginning as the shorter. -/
namespace Go.Proofs.YtekkiedpcgaddaaDoor
open Go Go.Ab Go.RowKit
set_option maxRecDepth 20000
set_option linter.unusedVariables false
set_option linter.unusedSimpArgs false

theorem count_none (l : List UInt8) (h : ∀ b ∈ l, b ≠ 32) : l.count 32 = 0 := by
  rw [List.count_eq_zero]; exact fun hm => h 32 hm rfl
theorem count_body (ws : List (List UInt8)) (h : ∀ w ∈ ws, ∀ b ∈ w, b ≠ 32) : (bodyW ws).count 32 = ws.length := by
  induction ws with
  | nil => rfl
  | cons w r ih =>
    have := ih (fun x hx => h x (by simp [hx]))
    simp only [bodyW, List.flatMap_cons, List.count_append, List.length_cons] at this ⊢
    rw [this, count_none w (h w (by simp))]
    simp
    omega

theorem words_law (a : List Event) (e : End) (n : Int) (ha : a.length ≤ 1048576 ∧ ∀ x ∈ a, Event.Ok 1048576 x) (he : End.Ok 1048576 e) (hn : (Lit.int .i64 n).wf = true) :
    windlasslaw02_TraceWords_s 40000000 a e n = some true := by
  unfold windlasslaw02_TraceWords_s
  have hl := ha.1
  have hU : U64 (I64 ((a.length : Int) + 1)) = ((a.length + 1 : Nat) : Int) := by rw [I64_of (by omega), U64_of (by omega)]; omega
  obtain ⟨k, hk, ek⟩ : ∃ i : Nat, i ≤ a.length ∧ I64 (Int.tmod (U64 n) ((a.length + 1 : Nat) : Int)) = i := by
    have h0 : 0 ≤ U64 n := by
      show 0 ≤ IntKind.wrap .u64 n
      rw [IntKind.wrap_u64]; omega
    have h1 := Int.tmod_nonneg ((a.length + 1 : Nat) : Int) h0
    have h2 := Int.tmod_lt_of_pos (U64 n) (show (0 : Int) < ((a.length + 1 : Nat) : Int) by omega)
    refine ⟨(Int.tmod (U64 n) ((a.length + 1 : Nat) : Int)).toNat, by omega, ?_⟩
    rw [I64_of (by omega)]; omega
  have sub : subL a 0 (k : Int) = some (a.take k) := by
    unfold subL; rw [if_pos (by omega)]; simp
  have P1 := Print_eq a e ha.1 ha.2 he
  have P2 := Print_eq (a.take k) e (by rw [List.length_take]; omega) (fun x hx => ha.2 x (List.mem_of_mem_take hx)) he
  have P3 := Print_eq [] e (by simp) (fun x hx => by simp at hx) he
  simp only [List.map_nil, show bodyW [] = [] from rfl, List.nil_append] at P3
  have hb1 : (bodyW (a.map word)).length ≤ 27 * a.length := by
    have := bodyW_len (a.map word) (fun w hw => by obtain ⟨x, _, rfl⟩ := List.mem_map.1 hw; exact word_len x)
    rwa [List.length_map] at this
  have hsplit : bodyW (a.map word) = bodyW ((a.take k).map word) ++ bodyW ((a.drop k).map word) := by
    have : a.map word = (a.take k).map word ++ (a.drop k).map word := by rw [← List.map_append, List.take_append_drop]
    rw [this, bodyW, List.flatMap_append]; rfl
  have hc : (bodyW (a.map word) ++ endw e).count 32 = a.length := by
    rw [List.count_append, count_body _ (fun w hw => by obtain ⟨x, _, rfl⟩ := List.mem_map.1 hw; exact word_num x), count_none _ (endw_num e), List.length_map]; rfl
  have hel := endw_len e
  generalize hB : bodyW (a.map word) = B at *
  generalize hB1 : bodyW ((a.take k).map word) = B1 at *
  generalize bodyW ((a.drop k).map word) = B2 at *
  have hBl : B.length = B1.length + B2.length := by rw [hsplit, List.length_append]
  simp only [first_eq, Option.bind_some, Bool.not_true, Bool.false_eq_true, if_false, hU, jp]
  rw [gd_true (by omega), ek, P1, Option.bind_some, sub, Option.bind_some, P2, Option.bind_some]
  generalize hS : B ++ endw e = S at *
  have hSl : S.length ≤ 28400000 := by rw [← hS, List.length_append]; omega
  refine bind_eq ⟨.fin ((a.length : Int), (S.length : Int)), ?_, ?_⟩
  · refine whileN_fin (fun s => ∃ i : Nat, i ≤ S.length ∧ s = (((S.take i).count 32 : Int), (i : Int))) (fun s => S.length - s.2.toNat) _ ?_ _ _ ⟨0, by omega, rfl⟩ (by simp; omega)
    rintro s ⟨i, hi, rfl⟩
    dsimp only
    rw [bsl_size]
    by_cases hlt : i < S.length
    · left
      have hI : I64 ((i : Int) + 1) = ((i + 1 : Nat) : Int) := by rw [I64_of (by omega)]; omega
      have hcn : (S.take i).count 32 ≤ i := Nat.le_trans List.count_le_length (by rw [List.length_take]; omega)
      rw [if_pos (by simpa using hlt), strI_b S i hlt, Option.bind_some, hI]
      have ht : S.take (i + 1) = S.take i ++ [S[i]] := by rw [List.take_add_one, List.getElem?_eq_getElem hlt]; rfl
      by_cases h32 : S[i] = 32
      · have h1 : (((S[i].toNat : Nat) : Int) == 32) = true := by rw [h32]; rfl
        rw [if_pos h1]
        refine ⟨_, rfl, ⟨i + 1, by omega, ?_⟩, by simp; omega⟩
        rw [ht, List.count_append, h32, I64_of (by omega)]
        simp
      · have h1 : ¬ (((S[i].toNat : Nat) : Int) == 32) = true := by
          rw [beq_iff_eq]
          intro q
          apply h32
          apply UInt8.toNat_inj.1
          show S[i].toNat = 32
          omega
        rw [if_neg h1]
        refine ⟨_, rfl, ⟨i + 1, by omega, ?_⟩, by simp; omega⟩
        rw [ht, List.count_append, List.count_cons_of_ne (Ne.symm (fun q => h32 q.symm)), List.count_nil]
        rfl
    · right
      obtain rfl : i = S.length := by omega
      rw [if_neg (by simp), List.take_length, hc]
  · simp only [oc]
    rw [P3, Option.bind_some, if_pos (by simp)]
    simp only [bsl_size]
    have hI : I64 (((B1 ++ endw e).length : Int) - ((endw e).length : Int)) = (B1.length : Int) := by
      rw [List.length_append, I64_of (by omega)]; omega
    rw [hI, if_pos (by simp), sub_b _ _ _ (by simp) (Nat.le_refl _), Option.bind_some]
    have e1 : ((B1 ++ endw e).take (B1 ++ endw e).length).drop B1.length = endw e := by rw [List.take_length, List.drop_left]
    rw [e1, if_pos (by simp)]
    have e2 : subS (bsl S) 0 (B1.length : Int) = some (bsl B1) := by
      have := sub_b S 0 B1.length (by omega) (by rw [← hS, List.length_append]; omega)
      rw [show ((0 : Nat) : Int) = 0 from rfl] at this
      rw [this, ← hS, hsplit]
      simp
    have e3 : subS (bsl (B1 ++ endw e)) 0 (B1.length : Int) = some (bsl B1) := by
      have := sub_b (B1 ++ endw e) 0 B1.length (by omega) (by rw [List.length_append]; omega)
      rw [show ((0 : Nat) : Int) = 0 from rfl] at this
      rw [this]
      simp
    rw [e2, Option.bind_some, e3, Option.bind_some, if_pos (by simp)]
    have : decide (((endw e).length : Int) > 0) = true := by simp; omega
    rw [this]
end Go.Proofs.YtekkiedpcgaddaaDoor
/- From the row's list to the settings: the table of the powers of ten. -/
namespace Go.Proofs.YtekkiedpcgaddaaDoor
open Go Go.Ab Go.RowKit
set_option maxRecDepth 20000
set_option linter.unusedVariables false
set_option linter.unusedSimpArgs false

theorem pow10_laid : (Rows.laid_internal_strconv_uint64pow10 : DataW Unit) = Lib.tabData .u64 pow10T := by kernel_rfl

theorem laid_third {P : Program} {W : World} {a b c : String × DataW Unit} (h : laidMet P [a, b, c] W) : laidMet P [c] W := by
  obtain ⟨ps, ⟨_, _, _, _, _, _, _, _, _, _, h1, rfl⟩, hn, ho⟩ := h
  obtain ⟨_, _, _, _, _, _, _, _, _, _, h2, rfl⟩ := h1
  exact ⟨_, h2, (List.nodup_append.1 (List.nodup_append.1 hn).2.1).2.1, fun x y hm => ho x y (List.mem_append_right _ (List.mem_append_right _ hm))⟩

theorem tab_of {nm1 nm2 nm3 : String} (h3 : Tryd.prog.globalNamed nm3 = some 0) {W : World} (h : laidMet Tryd.prog [(nm1, Rows.laid_math_bits_deBruijn32tab), (nm2, Rows.laid_math_bits_deBruijn64tab), (nm3, Rows.laid_internal_strconv_uint64pow10)] W) : TabOK W.heap.size W := by
  have h' := laid_third h
  rw [pow10_laid] at h'
  refine tabOK_of h3 (Lib.tabIs_of_head (rest := []) h3 (t := 155) (e := 26) (n := 20) (by kernel_rfl) Tryd.underlying155 Tryd.underlying26 (by kernel_rfl) (by kernel_rfl) h') (fun b' cs e => ?_)
  match b', e with
  | 0, e => exact ⟨rfl, (Option.some.inj e).symm⟩
  | n + 1, e => cases e
end Go.Proofs.YtekkiedpcgaddaaDoor
