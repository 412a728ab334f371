/- How arguments are read. -/
import Derived.Test.YtekkiedpcgaddaaDoorGenT
import Derived.Test.YtekkiedpcgaddaaDoorWlP2
import Derived.WalkKit
import Derived.ProofKit
import Derived.OpenShut
import Derived.JoinedCond
namespace Go.Proofs.YtekkiedpcgaddaaDoor
open Go Go.Ab Go.RowKit
set_option maxRecDepth 20000
set_option linter.unusedVariables false
set_option linter.unusedSimpArgs false
theorem part_le {H : Type} {d : DataW H} {l : List (DataW H)} (h : d ∈ l) : Rows.uptoBulk d ≤ Rows.uptoBulkAll l := by
  induction l with
  | nil => cases h
  | cons x r ih =>
    simp only [Rows.uptoBulkAll]
    rcases List.mem_cons.1 h with e | e
    · subst e; omega
    · have := ih e; omega
theorem one_le {H : Type} (d : DataW H) : 1 ≤ Rows.uptoBulk d := by
  cases d with
  | lit l => cases l <;> simp [Rows.uptoBulk]
  | _ => simp [Rows.uptoBulk]
theorem length_le {H : Type} (l : List (DataW H)) : l.length ≤ Rows.uptoBulkAll l := by
  induction l with
  | nil => simp [Rows.uptoBulkAll]
  | cons x r ih => have := one_le x; simp only [Rows.uptoBulkAll, List.length_cons]; omega
theorem bulk {H : Type} : Bulk (H := H) Rows.uptoBulk :=
  ⟨fun bytes => by simp [Rows.uptoBulk], fun e s => by have := length_le e; simp only [Rows.uptoBulk]; omega, fun e s d h => by have := part_le h; simp only [Rows.uptoBulk]; omega, fun p d h => by have := part_le h; simp only [Rows.uptoBulk]; omega⟩

theorem cells26 : Tryd.prog.cellsOf 26 = 1 := by kernel_rfl
theorem cells29 : Tryd.prog.cellsOf 29 = 1 := by kernel_rfl
theorem cells31 : Tryd.prog.cellsOf 31 = 2 := by kernel_rfl
def Event.Ok (N : Nat) (x : Event) : Prop := (fun n => (Lit.int .i64 n).wf = true) x.Kind ∧ (fun n => (Lit.int .u64 n).wf = true) x.Value
theorem Event.rd {N : Nat} : Rd Tryd.prog N Event.av (Event.Ok N) 31 := by
  intro avs ht
  obtain ⟨hl, hf⟩ := ty_struct Tryd.underlying31 ht
  have e0 : Ty Tryd.prog N 29 ((avs.drop 0).take (Tryd.prog.cellsOf 29)) := hf 0 _ rfl
  rw [cells29] at e0
  obtain ⟨a0, h0, q0⟩ := (rdI Tryd.underlying29) _ e0
  have e1 : Ty Tryd.prog N 26 ((avs.drop 1).take (Tryd.prog.cellsOf 26)) := hf 1 _ rfl
  rw [cells26] at e1
  obtain ⟨a1, h1, q1⟩ := (rdI Tryd.underlying26) _ e1
  refine ⟨⟨a0, a1⟩, ?_, ⟨q0, q1⟩⟩
  have := (st_cons h0 (st_cons h1 (st_nil (hl.trans cells31))))
  exact this
theorem cells36 : Tryd.prog.cellsOf 36 = 1 := by kernel_rfl
theorem cells38 : Tryd.prog.cellsOf 38 = 2 := by kernel_rfl
def End.Ok (N : Nat) (x : End) : Prop := (fun n => (Lit.int .i64 n).wf = true) x.Kind ∧ (fun n => (Lit.int .u64 n).wf = true) x.Value
theorem End.rd {N : Nat} : Rd Tryd.prog N End.av (End.Ok N) 38 := by
  intro avs ht
  obtain ⟨hl, hf⟩ := ty_struct Tryd.underlying38 ht
  have e0 : Ty Tryd.prog N 36 ((avs.drop 0).take (Tryd.prog.cellsOf 36)) := hf 0 _ rfl
  rw [cells36] at e0
  obtain ⟨a0, h0, q0⟩ := (rdI Tryd.underlying36) _ e0
  have e1 : Ty Tryd.prog N 26 ((avs.drop 1).take (Tryd.prog.cellsOf 26)) := hf 1 _ rfl
  rw [cells26] at e1
  obtain ⟨a1, h1, q1⟩ := (rdI Tryd.underlying26) _ e1
  refine ⟨⟨a0, a1⟩, ?_, ⟨q0, q1⟩⟩
  have := (st_cons h0 (st_cons h1 (st_nil (hl.trans cells38))))
  exact this

theorem own : ownKnob Tryd.prog.godebug = none := by kernel_rfl
theorem laidOut : laidOutB Tryd.prog = true := by kernel_rfl
end Go.Proofs.YtekkiedpcgaddaaDoor
/- Plain laws of the trace: the first question; equal lists, beginnings. -/
namespace Go.Proofs.YtekkiedpcgaddaaDoor
open Go Go.Ab Go.RowKit
set_option maxRecDepth 20000
set_option linter.unusedVariables false
set_option linter.unusedSimpArgs false

theorem first_eq : windlasslaw02_first_s = some true := by
  unfold windlasslaw02_first_s trace_Print_s trace_event_s trace_ending_s
  simp only [toList_data]
  decide +kernel

def eqE (x y : Event) : Bool := (x.Kind == y.Kind) && ((x.Value == y.Value) && true)
theorem eqE_iff {x y : Event} : eqE x y = true ↔ x = y := by
  cases x; cases y; simp [eqE]
noncomputable instance : DecidableEq Event := fun _ _ => Classical.propDecidable _

theorem cmp_rangeN {σ ρ : Type} (a b : List Event) (s : σ) (v : ρ) {body : Nat → σ → Option (Stp σ ρ)}
    (hb : ∀ i x y, a[i]? = some x → b[i]? = some y → body i s = if eqE x y = true then some (.nxt s) else some (.ret v)) (hl : a.length ≤ b.length) :
    ∀ (n k : Nat), k + n = a.length → rangeN body n k s = some (if a.drop k = (b.drop k).take n then .fin s else .ret v)
  | 0, k, hk => by
    rw [rangeN, if_pos]
    rw [List.take_zero, List.drop_eq_nil_iff]; omega
  | n + 1, k, hk => by
    have ha : k < a.length := by omega
    have hb' : k < b.length := by omega
    have := hb k a[k] b[k] (List.getElem?_eq_getElem ha) (List.getElem?_eq_getElem hb')
    rw [List.drop_eq_getElem_cons ha, List.drop_eq_getElem_cons hb', List.take_succ_cons]
    cases e : eqE a[k] b[k] with
    | true =>
      rw [e, if_pos rfl] at this
      simp only [rangeN, this]
      rw [cmp_rangeN a b s v hb hl n (k + 1) (by omega), eqE_iff.1 e]
      by_cases h : a.drop (k + 1) = (b.drop (k + 1)).take n
      · rw [if_pos h, if_pos (by rw [h])]
      · rw [if_neg h, if_neg (fun q => h (List.cons.inj q).2)]
    | false =>
      rw [e, if_neg (by simp)] at this
      simp only [rangeN, this]
      rw [if_neg (fun q => by rw [eqE_iff.2 (List.cons.inj q).1] at e; cases e)]

theorem cmp_rni {σ ρ : Type} (a b : List Event) (s : σ) (v : ρ) {body : Nat → σ → Option (Stp σ ρ)}
    (hb : ∀ i x y, a[i]? = some x → b[i]? = some y → body i s = if eqE x y = true then some (.nxt s) else some (.ret v)) (hl : a.length ≤ b.length) (hn : a.length ≤ 4611686018427387904) :
    rni body (a.length : Int) s = some (if a = b.take a.length then .fin s else .ret v) := by
  unfold rni
  rw [if_pos (by omega), Int.toNat_natCast, cmp_rangeN a b s v hb hl _ 0 (by omega), List.drop_zero, List.drop_zero]

theorem oc_if {σ β : Type} (f : σ → Option β) (c : Prop) [Decidable c] (s : σ) (v : Option β) : oc f (if c then .fin s else .ret v) = if c then f s else v := by
  split <;> rfl

theorem body_eq {σ : Type} (x y : Event) (s : σ) : (if (!((x.Kind == y.Kind) && ((x.Value == y.Value) && true))) = true then (some (.ret (some false)) : Option (Stp σ (Option Bool))) else some (.nxt s)) = if eqE x y = true then some (.nxt s) else some (.ret (some false)) := by
  show (if (!eqE x y) = true then _ else _) = _
  cases eqE x y <;> rfl

theorem Equal_eq (a b : List Event) (hn : a.length ≤ 4611686018427387904) : slices_Equal_s a b = some (decide (a = b)) := by
  unfold slices_Equal_s
  by_cases h : a.length = b.length
  · rw [if_neg (by simp [h]), cmp_rni a b b (some false) (fun i x y hx hy => by rw [getI_nat, hx, getI_nat, hy]; exact body_eq x y b) (by omega) hn]
    simp only [Option.bind_some]
    rw [oc_if, h, List.take_length]
    split <;> rename_i q
    · rw [decide_eq_true q]
    · rw [decide_eq_false q]
  · rw [if_pos (by rw [bne_iff_ne]; omega), decide_eq_false (fun q => h (by rw [q]))]

theorem Begins_eq (a b : List Event) (hn : a.length ≤ 4611686018427387904) : windlassref02_Begins_s a b = some (decide (a.length ≤ b.length ∧ a = b.take a.length)) := by
  unfold windlassref02_Begins_s
  by_cases h : a.length ≤ b.length
  · rw [if_neg (by simp; omega), cmp_rni a b b (some false) (fun i x y hx hy => by rw [getI_nat, hx, getI_nat, hy]; exact body_eq x y b) h hn]
    simp only [Option.bind_some]
    rw [oc_if]
    split <;> rename_i q
    · rw [decide_eq_true ⟨h, q⟩]
    · rw [decide_eq_false (fun r => q r.2)]
  · rw [if_pos (by simp; omega), decide_eq_false (fun r => h r.1)]

theorem Begins_eq' (a b : List Event) (hn : a.length ≤ 4611686018427387904) : windlassref02_Begins_r_r_s a b = some (decide (a.length ≤ b.length ∧ a = b.take a.length)) := by
  unfold windlassref02_Begins_r_r_s
  by_cases h : a.length ≤ b.length
  · rw [if_neg (by simp; omega), cmp_rni a b () (some false) (fun i x y hx hy => by rw [getI_nat, hx, getI_nat, hy]; exact body_eq x y ()) h hn]
    simp only [Option.bind_some]
    rw [oc_if]
    split <;> rename_i q
    · rw [decide_eq_true ⟨h, q⟩]
    · rw [decide_eq_false (fun r => q r.2)]
  · rw [if_pos (by simp; omega), decide_eq_false (fun r => h r.1)]

theorem same_core (a b : List Event) : (if ((a.length : Int) == (b.length : Int)) = true then decide (a.length ≤ b.length ∧ a = b.take a.length) else false) = decide (a = b) := by
  by_cases h : a.length = b.length
  · rw [if_pos (by simp [h])]
    apply decide_eq_decide.2
    rw [h, List.take_length]
    exact ⟨fun q => q.2, fun q => ⟨Nat.le_refl _, q⟩⟩
  · rw [if_neg (by rw [beq_iff_eq]; omega), decide_eq_false (fun q => h (by rw [q]))]

theorem Same_eq (a b : List Event) (hn : a.length ≤ 4611686018427387904) : windlassref02_Same_s a b = some (decide (a = b)) := by
  unfold windlassref02_Same_s
  rw [Begins_eq a b hn, ← same_core]
  simp only [jp, Option.bind_some]
  split <;> rfl
theorem Same_eq' (a b : List Event) (hn : a.length ≤ 4611686018427387904) : windlassref02_Same_r_r_s a b = some (decide (a = b)) := by
  unfold windlassref02_Same_r_r_s
  rw [Begins_eq' a b hn, ← same_core]
  simp only [jp, Option.bind_some]
  split <;> rfl

theorem TSame_eq (a b : List Event) (hn : a.length ≤ 4611686018427387904) : trace_Same_s a b = some (decide (a = b)) := by
  unfold trace_Same_s; rw [Equal_eq a b hn]; rfl

theorem Prefix_eq (a b : List Event) (hn : a.length ≤ 4611686018427387904) : trace_Prefix_s a b = some (decide (a.length ≤ b.length ∧ a = b.take a.length)) := by
  unfold trace_Prefix_s
  simp only [jp]
  by_cases h : a.length ≤ b.length
  · rw [if_pos (by simpa using h)]
    unfold subL
    rw [if_pos (by omega), Option.bind_some, Equal_eq _ _ hn]
    simp only [Int.toNat_natCast, Int.toNat_zero, List.drop_zero, Option.bind_some]
    congr 1
    exact decide_eq_decide.2 ⟨fun q => ⟨h, q⟩, fun q => q.2⟩
  · rw [if_neg (by simpa using h), decide_eq_false (fun r => h r.1)]

theorem compares_law (a b : List Event) (e : End) (ha : a.length ≤ 1048576 ∧ ∀ x ∈ a, Event.Ok 1048576 x) (hb : b.length ≤ 1048576 ∧ ∀ x ∈ b, Event.Ok 1048576 x) (he : End.Ok 1048576 e) :
    windlasslaw02_TraceCompares_s a b e = some true := by
  unfold windlasslaw02_TraceCompares_s
  have h1 : a.length ≤ 4611686018427387904 := by omega
  have h2 : b.length ≤ 4611686018427387904 := by omega
  simp only [first_eq, Option.bind_some, Bool.not_true, Bool.false_eq_true, if_false, TSame_eq _ _ h1, Same_eq _ _ h1, Prefix_eq _ _ h1, Prefix_eq _ _ h2, Begins_eq _ _ h1, Begins_eq _ _ h2, beq_self_eq_true, if_true, decide_true]
  unfold trace_Ended_s
  simp only [jp]
  by_cases h : e.Kind = 1
  · simp [h]
  · simp [h]
end Go.Proofs.YtekkiedpcgaddaaDoor
/- Plain laws of the trace: numbers that come in and go out. -/
namespace Go.Proofs.YtekkiedpcgaddaaDoor
open Go Go.Ab Go.RowKit
set_option maxRecDepth 20000
set_option linter.unusedVariables false
set_option linter.unusedSimpArgs false

theorem rangeL_exb {α σ ρ : Type} {body : Nat → α → σ → Option (Stp σ ρ)} (Inv : Nat → σ → Prop) (Q : Out σ ρ → Prop) : ∀ (xs : List α) (k : Nat) (s : σ), Inv k s →
    (∀ i x s, xs[i]? = some x → Inv (k + i) s → (∃ s', body (k + i) x s = some (.nxt s') ∧ Inv (k + i + 1) s') ∨ (∃ s', body (k + i) x s = some (.brk s') ∧ Q (.fin s')) ∨ ∃ v, body (k + i) x s = some (.ret v) ∧ Q (.ret v)) →
    (∀ s, Inv (k + xs.length) s → Q (.fin s)) → ∃ o, rangeL body xs k s = some o ∧ Q o
  | [], k, s, hi, h, hQ => ⟨_, rfl, hQ s (by simpa using hi)⟩
  | x :: r, k, s, hi, h, hQ => by
    rcases h 0 x s rfl (by simpa using hi) with ⟨s', e1, e2⟩ | ⟨s', e1, e2⟩ | ⟨v, e1, e2⟩
    · simp only [Nat.add_zero] at e1 e2
      simp only [rangeL, e1]
      refine rangeL_exb Inv Q r (k + 1) s' e2 (fun i y s hy hs => ?_) (fun s hs => hQ s (by rw [List.length_cons]; rwa [show k + (r.length + 1) = k + 1 + r.length by omega]))
      have := h (i + 1) y s (by simpa using hy) (by rwa [show k + (i + 1) = k + 1 + i by omega])
      rwa [show k + (i + 1) = k + 1 + i by omega] at this
    · simp only [Nat.add_zero] at e1
      simp only [rangeL, e1]
      exact ⟨_, rfl, e2⟩
    · simp only [Nat.add_zero] at e1
      simp only [rangeL, e1]
      exact ⟨_, rfl, e2⟩
theorem rng_exb {α σ ρ : Type} {body : Nat → α → σ → Option (Stp σ ρ)} {xs : List α} {s0 : σ} (Inv : Nat → σ → Prop) (Q : Out σ ρ → Prop) (hl : xs.length ≤ 4611686018427387904) (h0 : Inv 0 s0)
    (h : ∀ i x s, xs[i]? = some x → Inv i s → (∃ s', body i x s = some (.nxt s') ∧ Inv (i + 1) s') ∨ (∃ s', body i x s = some (.brk s') ∧ Q (.fin s')) ∨ ∃ v, body i x s = some (.ret v) ∧ Q (.ret v)) (hQ : ∀ s, Inv xs.length s → Q (.fin s)) : ∃ o, rng body xs s0 = some o ∧ Q o := by
  unfold rng
  rw [if_pos hl]
  exact rangeL_exb Inv Q xs 0 s0 h0 (fun i x s hx hs => by simpa using h i x s hx (by simpa using hs)) (fun s hs => hQ s (by simpa using hs))

theorem whileN_fin {σ ρ : Type} {body : σ → Option (Stp σ ρ)} (Inv : σ → Prop) (μ : σ → Nat) (e : σ)
    (h : ∀ s, Inv s → (∃ s', body s = some (.nxt s') ∧ Inv s' ∧ μ s' < μ s) ∨ body s = some (.brk e)) (n : Nat) (s : σ) (hi : Inv s) (hn : μ s < n) : whileN body n s = some (.fin e) := by
  obtain ⟨o, h1, h2⟩ := whileN_ex Inv μ (fun o => o = .fin e) (fun s hs => (h s hs).elim .inl fun q => .inr (.inl ⟨e, q, rfl⟩)) n s hi hn
  rw [h1, h2]

theorem New_eq (t : List Int) (h : t.length ≤ 1048576) : trace_New_o_s t = some t := by
  unfold trace_New_o_s slices_Clone_0_z_s
  rw [appL_of (by simp; omega)]; simp
theorem New_eq' (t : List Int) (h : t.length ≤ 1048576) : trace_New_r_o_s t = some t := by
  unfold trace_New_r_o_s slices_Clone_0_r_z_s
  rw [appL_of (by simp; omega)]; simp
theorem In_eq (t : List Int) (l : List Event) (ht : t.length ≤ 1048576) (hl : l.length ≤ 1048576) : trace_Trace_In_pNR_s t l = some (t.headD 0, t.tail, l ++ [Event.mk 2 (t.headD 0)]) := by
  unfold trace_Trace_In_pNR_s
  simp only [jp]
  cases t with
  | nil =>
    simp only [List.length_nil]
    rw [if_neg (by decide), appL_of (by simp; omega)]; rfl
  | cons x r =>
    rw [if_pos (by simp)]
    rw [show getI (x :: r) 0 = some x from rfl, Option.bind_some]
    unfold subL
    rw [if_pos (by simp; omega), Option.bind_some, appL_of (by simp; omega)]
    simp only [Option.bind_some, Int.toNat_natCast, List.take_length, List.headD_cons, List.tail_cons]
    rfl
theorem Out_eq (t : List Int) (l : List Event) (v : Int) (hl : l.length ≤ 1048576) : trace_Trace_Out_pNR_s t l v = some (t, l ++ [Event.mk 1 v]) := by
  unfold trace_Trace_Out_pNR_s
  rw [appL_of (by simp; omega)]; rfl
theorem Events_eq (t : List Int) (l : List Event) (hl : l.length ≤ 1048576) : trace_Trace_Events_pNR_s t l = some (l, t) := by
  unfold trace_Trace_Events_pNR_s slices_Clone_1_r_z_s
  rw [appL_of (by simp; omega)]; simp
theorem Events_eq' (t : List Int) (l : List Event) (hl : l.length ≤ 1048576) : trace_Trace_Events_pNR_o_s t l = some (t, l) := by
  unfold trace_Trace_Events_pNR_o_s slices_Clone_1_r_s
  rw [appL_of (by simp; omega)]; simp
theorem Events_none (t : List Int) : trace_Trace_Events_pNn_s t = some ([], t) := by
  unfold trace_Trace_Events_pNn_s slices_Clone_1_z_s
  rw [appL_of (by simp)]; rfl

theorem headD_drop (t : List Int) (i : Nat) : (t.drop i).headD 0 = t.getD i 0 := by
  rw [List.headD_eq_head?_getD, List.head?_drop, List.getD_eq_getElem?_getD]

/-- What two numbers in and out leave. -/
def evs (vs : List Int) : List Event := vs.flatMap fun v => [Event.mk 2 v, Event.mk 1 v]
theorem evs_len (vs : List Int) : (evs vs).length = 2 * vs.length := by
  induction vs with
  | nil => rfl
  | cons v r ih => simp only [evs, List.flatMap_cons, List.length_append, List.length_cons, List.length_nil] at *; omega
theorem evs_snoc (vs : List Int) (v : Int) : evs (vs ++ [v]) = evs vs ++ [Event.mk 2 v] ++ [Event.mk 1 v] := by
  simp [evs]
theorem evs_get (vs : List Int) (m : Nat) : (evs vs)[2 * m]? = vs[m]?.map (fun v => Event.mk 2 v) ∧ (evs vs)[2 * m + 1]? = vs[m]?.map (fun v => Event.mk 1 v) := by
  induction vs generalizing m with
  | nil => simp [evs]
  | cons v r ih =>
    have e : evs (v :: r) = Event.mk 2 v :: Event.mk 1 v :: evs r := rfl
    rw [e]
    cases m with
    | zero => simp
    | succ m =>
      have := ih m
      rw [show 2 * (m + 1) = 2 * m + 1 + 1 by omega]
      simpa using this

def valsT (t : List Int) (i : Nat) : List Int := (List.range i).map fun j => t.getD j 0
theorem valsT_len (t : List Int) (i : Nat) : (valsT t i).length = i := by simp [valsT]
theorem valsT_succ (t : List Int) (i : Nat) : valsT t (i + 1) = valsT t i ++ [t.getD i 0] := by simp [valsT, List.range_succ]

theorem tapes_law (tape : List Int) (more : Int) (ht : tape.length ≤ 1048576 ∧ ∀ x ∈ tape, (Lit.int .u64 x).wf = true) (hm : (Lit.int .i64 more).wf = true) :
    windlasslaw02_TraceTapes_s 1048577 tape more = some true := by
  unfold windlasslaw02_TraceTapes_s
  have hk : 0 ≤ Int.tmod (U64 more) 20 ∧ Int.tmod (U64 more) 20 < 20 := by
    have h0 : 0 ≤ U64 more := by
      show 0 ≤ IntKind.wrap .u64 more
      rw [IntKind.wrap_u64]; omega
    exact ⟨Int.tmod_nonneg _ h0, Int.tmod_lt_of_pos _ (by decide)⟩
  generalize Int.tmod (U64 more) 20 = K at hk
  obtain ⟨k, rfl⟩ : ∃ k : Nat, K = k := ⟨K.toNat, by omega⟩
  have e1 : I64 (k : Int) = k := I64_of (by omega)
  have e2 : I64 ((tape.length : Int) + k) = ((tape.length + k : Nat) : Int) := by rw [I64_of (by omega)]; omega
  simp only [first_eq, Option.bind_some, Bool.not_true, Bool.false_eq_true, if_false, New_eq tape ht.1, e1, e2, jp]
  generalize hN : min (tape.length + k) 100 = N
  refine bind_eq ⟨.fin ((N : Int), tape.drop N, evs (valsT tape N)), ?_, ?_⟩
  · refine whileN_fin (fun s => ∃ i : Nat, i ≤ N ∧ s = ((i : Int), tape.drop i, evs (valsT tape i))) (fun s => 100 - s.1.toNat) _ ?_ _ _ ⟨0, by omega, rfl⟩ (by simp)
    rintro s ⟨i, hi, rfl⟩
    have hi100 : i ≤ 100 := by omega
    have hd : (tape.drop i).length ≤ 1048576 := by rw [List.length_drop]; omega
    have hev : (evs (valsT tape i)).length ≤ 1048575 := by rw [evs_len, valsT_len]; omega
    dsimp only
    by_cases hlt : i < N
    · left
      refine ⟨((i + 1 : Nat), tape.drop (i + 1), evs (valsT tape (i + 1))), ?_, ⟨i + 1, by omega, rfl⟩, by simp; omega⟩
      have hOut : trace_Trace_Out_pNR_s ((tape.drop i).tail) (evs (valsT tape i) ++ [Event.mk 2 (tape.getD i 0)]) (tape.getD i 0) = some (tape.drop (i + 1), evs (valsT tape (i + 1))) := by
        rw [Out_eq _ _ _ (by simp; omega), valsT_succ, evs_snoc, List.tail_drop]
      have hI : I64 ((i : Int) + 1) = ((i + 1 : Nat) : Int) := by rw [I64_of (by omega)]; omega
      rw [if_pos (by simp; omega), if_pos (by simp; omega), In_eq _ _ hd (by omega)]
      simp only [Option.bind_some, headD_drop, hOut, hI]
      by_cases hl : i < tape.length
      · rw [if_pos (by simpa using hl), getI_nat, List.getElem?_eq_getElem hl]
        have hg : tape.getD i 0 = tape[i] := by simp [List.getD_eq_getElem?_getD, hl]
        simp only [Option.bind_some, hg, bne_self_eq_false, Bool.false_eq_true, if_false]
        rw [if_neg (by simp; omega)]

      · have hg : tape.getD i 0 = 0 := by simp [List.getD_eq_getElem?_getD, List.getElem?_eq_none (show tape.length ≤ i by omega)]
        rw [if_neg (by simpa using hl), if_pos (by simp; omega), hg]
        rfl
    · right
      obtain rfl : i = N := by omega
      by_cases h1 : i < tape.length + k
      · rw [if_pos (by simp; omega), if_neg (by simp; omega)]
      · rw [if_neg (by simp; omega)]
  · simp only [oc, Events_none, Option.bind_some, List.length_nil]
    rw [if_neg (by simp), Events_eq _ _ (by rw [evs_len, valsT_len]; omega)]
    simp only [Option.bind_some]
    refine bind_eq ⟨.fin ((2 * N : Nat) : Int), ?_, ?_⟩
    · refine whileN_fin (fun s => ∃ m : Nat, m ≤ N ∧ s = ((2 * m : Nat) : Int)) (fun s => 200 - s.toNat) _ ?_ _ _ ⟨0, by omega, rfl⟩ (by simp)
      rintro s ⟨m, hm, rfl⟩

      have hI1 : I64 (((2 * m : Nat) : Int) + 1) = ((2 * m + 1 : Nat) : Int) := by rw [I64_of (by omega)]; omega
      have hI2 : I64 (((2 * m : Nat) : Int) + 2) = ((2 * (m + 1) : Nat) : Int) := by rw [I64_of (by omega)]; omega
      rw [hI1, hI2, evs_len, valsT_len]
      by_cases hlt : m < N
      · left
        refine ⟨((2 * (m + 1) : Nat) : Int), ?_, ⟨m + 1, by omega, rfl⟩, by simp; omega⟩
        rw [if_pos (by simp; omega), getI_nat, getI_nat, (evs_get _ m).1, (evs_get _ m).2]
        have : m < (valsT tape N).length := by rw [valsT_len]; exact hlt
        rw [List.getElem?_eq_getElem this]
        simp
      · right
        obtain rfl : m = N := by omega
        rw [if_neg (by simp; omega)]
    · simp only [oc]
      rw [evs_len, valsT_len]
      have : (if 100 < ((tape.length + k : Nat) : Int) then (100 : Int) else ((tape.length + k : Nat) : Int)) = (N : Int) := by
        split <;> omega
      rw [this, I64_of (by omega)]
      simp
end Go.Proofs.YtekkiedpcgaddaaDoor
/- Plain laws of the trace: numbers come by the tape and are kept. -/
namespace Go.Proofs.YtekkiedpcgaddaaDoor
open Go Go.Ab Go.RowKit
set_option maxRecDepth 20000
set_option linter.unusedVariables false
set_option linter.unusedSimpArgs false

theorem keeps_law (tape ops : List Int) (ht : tape.length ≤ 1048576 ∧ ∀ x ∈ tape, (Lit.int .u64 x).wf = true) (ho : ops.length ≤ 1048576 ∧ ∀ x ∈ ops, (Lit.int .u64 x).wf = true) :
    windlasslaw02_TraceKeeps_s tape ops = some true := by
  unfold windlasslaw02_TraceKeeps_s
  simp only [first_eq, Option.bind_some, Bool.not_true, Bool.false_eq_true, if_false, jp]
  rw [appL_of (by simp; omega), List.nil_append, Option.bind_some, New_eq' tape ht.1, Option.bind_some]
  obtain ⟨s', h1, _⟩ := rni_inv (σ := List Int) (ρ := Option Bool) (n := (tape.length : Int)) (s0 := tape) (fun _ s => s.length = tape.length) (by omega) rfl
    (body := fun (i_5 : Nat) (s_4 : (List Int)) => (((getI s_4 (i_5 : Int)).bind fun y_6 => (some (.nxt (List.set s_4 (Int.toNat (i_5 : Int)) 99)))) : Option (Stp (List Int) (Option Bool))))
    (fun i s hi hs => ⟨_, by rw [getI_nat, List.getElem?_eq_getElem (show i < s.length by omega), Option.bind_some], by rw [List.length_set]; exact hs⟩)
  rw [h1]
  simp only [Option.bind_some, oc]
  refine bind_eq (rng_exb (σ := Int × List Int × List Event × List Event) (fun i s => ∃ at' : Nat, ∃ l : List Event, at' ≤ i ∧ l.length ≤ i ∧ i ≤ 50 ∧ s = ((at' : Int), tape.drop at', l, l)) _ (by omega) ⟨0, [], by omega, by simp, by omega, rfl⟩ ?_ ?_)
  · rintro i o s ho2 ⟨a, l, ha, hl, hi50, rfl⟩
    have hd : (tape.drop a).length ≤ 1048576 := by rw [List.length_drop]; omega
    dsimp only
    by_cases h50 : i < 50
    · left
      rw [if_neg (by simp; omega)]
      have wr : ∀ (m : List Event) (x : Int) (y : List Int) (z : List Event × List Event), m.length ≤ 1048576 → ∃ q, rni (fun (i_24 : Nat) (s_23 : (List Event)) => (((getI s_23 (i_24 : Int)).bind fun y_25 => (some (.nxt (List.set s_23 (Int.toNat (i_24 : Int)) (Event.mk y_25.Kind 1))))) : Option (Stp (List Event) (Option (Stp (Int × (List Int) × (List Event) × (List Event)) (Option Bool)))))) (List.length m : Int) m = some (.fin q) := by
        intro m _ _ _ hm
        obtain ⟨q, h, _⟩ := rni_inv (σ := List Event) (ρ := Option (Stp (Int × (List Int) × (List Event) × (List Event)) (Option Bool))) (n := (m.length : Int)) (s0 := m) (fun _ s => s.length = m.length) (by omega) rfl
          (body := fun (i_24 : Nat) (s_23 : (List Event)) => (((getI s_23 (i_24 : Int)).bind fun y_25 => (some (.nxt (List.set s_23 (Int.toNat (i_24 : Int)) (Event.mk y_25.Kind 1))))) : Option (Stp (List Event) (Option (Stp (Int × (List Int) × (List Event) × (List Event)) (Option Bool))))))
          (fun i s hi hs => ⟨_, by rw [getI_nat, List.getElem?_eq_getElem (show i < s.length by omega), Option.bind_some], by rw [List.length_set]; exact hs⟩)
        exact ⟨q, h⟩
      by_cases he : (Int.tmod o 2 == 0) = true
      · rw [if_pos he]
        have tl : ∀ v : Int, (tape.drop a).headD 0 = v → ∃ s', ((trace_Trace_In_pNR_s (tape.drop a) l).bind fun (vin_17 : (Int × (List Int) × (List Event))) => (if (vin_17.1 != v) then (some (.ret (some false)) : Option (Stp (Int × List Int × List Event × List Event) (Option Bool))) else ((appL 16 l [(Event.mk 2 v)]).bind fun l_18 => ((trace_Trace_Events_pNR_o_s vin_17.2.1 vin_17.2.2).bind fun (eve_21 : ((List Int) × (List Event))) => ((windlassref02_Same_r_r_s eve_21.2 l_18).bind fun (sam_22 : Bool) => (if (!sam_22) then (some (.ret (some false))) else ((rni (fun (i_24 : Nat) (s_23 : (List Event)) => (((getI s_23 (i_24 : Int)).bind fun y_25 => (some (.nxt (List.set s_23 (Int.toNat (i_24 : Int)) (Event.mk y_25.Kind 1))))) : Option (Stp (List Event) (Option (Stp (Int × (List Int) × (List Event) × (List Event)) (Option Bool)))))) (List.length eve_21.2 : Int) eve_21.2).bind (oc (fun (s_23 : (List Event)) => (some (.nxt ((I64 ((a : Int) + 1)), eve_21.1, vin_17.2.2, l_18))))))))))))
            = some (.nxt s') ∧ ∃ at' : Nat, ∃ l : List Event, at' ≤ i + 1 ∧ l.length ≤ i + 1 ∧ i + 1 ≤ 50 ∧ s' = ((at' : Int), tape.drop at', l, l) := by
          intro v hv
          rw [In_eq _ _ hd (by omega), Option.bind_some, hv, if_neg (by simp), appL_of (by simp; omega), Option.bind_some, Events_eq' _ _ (by simp; omega), Option.bind_some, Same_eq' _ _ (by simp; omega), Option.bind_some, decide_eq_true rfl, if_neg (by simp)]
          obtain ⟨q, hq⟩ := wr (l ++ [Event.mk 2 v]) 0 [] ([], []) (by simp; omega)
          simp only [hq, Option.bind_some, oc]
          refine ⟨_, rfl, a + 1, l ++ [Event.mk 2 v], by omega, by simp; omega, by omega, ?_⟩
          rw [I64_of (by omega), List.tail_drop]
          simp
        by_cases hlt : a < tape.length
        · rw [if_pos (by simpa using hlt), getI_nat, List.getElem?_eq_getElem hlt, Option.bind_some]
          exact tl _ (by rw [headD_drop]; simp [List.getD_eq_getElem?_getD, hlt])
        · rw [if_neg (by simpa using hlt)]
          exact tl _ (by rw [headD_drop]; simp [List.getD_eq_getElem?_getD, List.getElem?_eq_none (show tape.length ≤ a by omega)])
      · rw [if_neg he, Out_eq _ _ _ (by omega), Option.bind_some, appL_of (by simp; omega), Option.bind_some, Events_eq' _ _ (by simp; omega), Option.bind_some, Same_eq' _ _ (by simp; omega), Option.bind_some, decide_eq_true rfl, if_neg (by simp)]
        obtain ⟨q, hq⟩ := wr (l ++ [Event.mk 1 o]) 0 [] ([], []) (by simp; omega)
        simp only [hq, Option.bind_some, oc]
        exact ⟨_, rfl, a, l ++ [Event.mk 1 o], by omega, by simp; omega, by omega, rfl⟩
    · right; left
      rw [if_pos (by simp; omega)]
      exact ⟨_, rfl, rfl⟩
  · rintro s ⟨a, l, _, _, _, rfl⟩
    rfl
end Go.Proofs.YtekkiedpcgaddaaDoor
