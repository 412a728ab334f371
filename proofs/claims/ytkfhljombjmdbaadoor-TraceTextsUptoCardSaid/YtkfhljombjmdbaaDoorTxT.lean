/- How arguments are read. -/
import Derived.Test.YtkfhljombjmdbaaDoorGenX
import Derived.Test.YtkfhljombjmdbaaDoorWlP2
import Derived.WalkKit
import Derived.ProofKit
import Derived.OpenShut
import Derived.JoinedCond
import Derived.Lib.ParseIntB
import Derived.Lib.ItoaNum
import Derived.Lib.Split
import Derived.Lib.IndexBytes
import Derived.Lib.Join
import Derived.Lib.SplitLaws
import Derived.Test.YtkfhljombjmdbaaDoorWlT3
import Derived.Lib.LaidTab
import Derived.Stop.LaidErr
import Derived.Deep.DeepHandedRow
namespace Go.Proofs.YtkfhljombjmdbaaDoor
open Go Go.Ab Go.RowKit
set_option maxRecDepth 20000
set_option linter.unusedVariables false
set_option linter.unusedSimpArgs false
theorem part_le {H : Type} {d : DataW H} {l : List (DataW H)} (h : d ∈ l) : Rows.uptoBulk d ≤ Rows.uptoBulkAll l := by
  induction l with
  | nil => cases h
  | cons x r ih =>
    simp only [Rows.uptoBulkAll]
    rcases List.mem_cons.1 h with e | e
    · subst e; omega
    · have := ih e; omega
theorem one_le {H : Type} (d : DataW H) : 1 ≤ Rows.uptoBulk d := by
  cases d with
  | lit l => cases l <;> simp [Rows.uptoBulk]
  | _ => simp [Rows.uptoBulk]
theorem length_le {H : Type} (l : List (DataW H)) : l.length ≤ Rows.uptoBulkAll l := by
  induction l with
  | nil => simp [Rows.uptoBulkAll]
  | cons x r ih => have := one_le x; simp only [Rows.uptoBulkAll, List.length_cons]; omega
theorem bulk {H : Type} : Bulk (H := H) Rows.uptoBulk :=
  ⟨fun bytes => by simp [Rows.uptoBulk], fun e s => by have := length_le e; simp only [Rows.uptoBulk]; omega, fun e s d h => by have := part_le h; simp only [Rows.uptoBulk]; omega, fun p d h => by have := part_le h; simp only [Rows.uptoBulk]; omega⟩

theorem cells97 : Tryd.prog.cellsOf 97 = 1 := by kernel_rfl
theorem cells24 : Tryd.prog.cellsOf 24 = 1 := by kernel_rfl
theorem cells99 : Tryd.prog.cellsOf 99 = 2 := by kernel_rfl
def Event.Ok (N : Nat) (x : Event) : Prop := (fun n => (Lit.int .i64 n).wf = true) x.Kind ∧ (fun n => (Lit.int .u64 n).wf = true) x.Value
theorem Event.rd {N : Nat} : Rd Tryd.prog N Event.av (Event.Ok N) 99 := by
  intro avs ht
  obtain ⟨hl, hf⟩ := ty_struct Tryd.underlying99 ht
  have e0 : Ty Tryd.prog N 97 ((avs.drop 0).take (Tryd.prog.cellsOf 97)) := hf 0 _ rfl
  rw [cells97] at e0
  obtain ⟨a0, h0, q0⟩ := (rdI Tryd.underlying97) _ e0
  have e1 : Ty Tryd.prog N 24 ((avs.drop 1).take (Tryd.prog.cellsOf 24)) := hf 1 _ rfl
  rw [cells24] at e1
  obtain ⟨a1, h1, q1⟩ := (rdI Tryd.underlying24) _ e1
  refine ⟨⟨a0, a1⟩, ?_, ⟨q0, q1⟩⟩
  have := (st_cons h0 (st_cons h1 (st_nil (hl.trans cells99))))
  exact this
theorem cells23 : Tryd.prog.cellsOf 23 = 1 := by kernel_rfl
theorem cells26 : Tryd.prog.cellsOf 26 = 2 := by kernel_rfl
def End.Ok (N : Nat) (x : End) : Prop := (fun n => (Lit.int .i64 n).wf = true) x.Kind ∧ (fun n => (Lit.int .u64 n).wf = true) x.Value
theorem End.rd {N : Nat} : Rd Tryd.prog N End.av (End.Ok N) 26 := by
  intro avs ht
  obtain ⟨hl, hf⟩ := ty_struct Tryd.underlying26 ht
  have e0 : Ty Tryd.prog N 23 ((avs.drop 0).take (Tryd.prog.cellsOf 23)) := hf 0 _ rfl
  rw [cells23] at e0
  obtain ⟨a0, h0, q0⟩ := (rdI Tryd.underlying23) _ e0
  have e1 : Ty Tryd.prog N 24 ((avs.drop 1).take (Tryd.prog.cellsOf 24)) := hf 1 _ rfl
  rw [cells24] at e1
  obtain ⟨a1, h1, q1⟩ := (rdI Tryd.underlying24) _ e1
  refine ⟨⟨a0, a1⟩, ?_, ⟨q0, q1⟩⟩
  have := (st_cons h0 (st_cons h1 (st_nil (hl.trans cells26))))
  exact this

theorem own : ownKnob Tryd.prog.godebug = none := by kernel_rfl
theorem laidOut : laidOutB Tryd.prog = true := by kernel_rfl
end Go.Proofs.YtkfhljombjmdbaaDoor
/- Plain laws of numerals: which texts are a number's, and how they are read. -/
namespace Go.Ab
open Go

def isDig (c : UInt8) : Bool := decide (48 ≤ c.toNat ∧ c.toNat ≤ 57)
/-- What digits say. -/
def valD : Nat → List UInt8 → Nat
  | a, [] => a
  | a, c :: r => valD (a * 10 + (c.toNat - 48)) r
theorem valD_nil (a : Nat) : valD a [] = a := by unfold valD; rfl
theorem valD_cons (a : Nat) (c : UInt8) (r : List UInt8) : valD a (c :: r) = valD (a * 10 + (c.toNat - 48)) r := by conv => lhs; unfold valD
theorem valD_snoc (l : List UInt8) : ∀ (a : Nat) (c : UInt8), valD a (l ++ [c]) = valD a l * 10 + (c.toNat - 48) := by
  induction l with
  | nil => intro a c; rw [List.nil_append, valD_cons, valD_nil, valD_nil]
  | cons x l ih => intro a c; rw [List.cons_append, valD_cons, ih, valD_cons]
theorem valD_ge (l : List UInt8) : ∀ (a : Nat), a ≤ valD a l := by
  induction l with
  | nil => intro a; rw [valD_nil]; exact Nat.le_refl _
  | cons x l ih => intro a; rw [valD_cons]; exact Nat.le_trans (show a ≤ a * 10 + (x.toNat - 48) by omega) (ih _)
/-- A numeral: digits, no nought ahead. -/
def numP (l : List UInt8) : Bool := l.all isDig && decide (l ≠ []) && (decide (l.length = 1) || decide (l.head? ≠ some 48))

theorem dig_of (d : Nat) (h : d < 10) : isDig (UInt8.ofNat (48 + d)) = true ∧ (UInt8.ofNat (48 + d)).toNat = 48 + d := by
  have e : (UInt8.ofNat (48 + d)).toNat = 48 + d := by rw [UInt8.toNat_ofNat', Nat.mod_eq_of_lt (by omega)]
  exact ⟨by unfold isDig; rw [e]; simp; omega, e⟩
theorem dig_back {c : UInt8} (h : isDig c = true) : UInt8.ofNat (48 + (c.toNat - 48)) = c := by
  unfold isDig at h
  simp only [decide_eq_true_eq] at h
  rw [show 48 + (c.toNat - 48) = c.toNat by omega, UInt8.ofNat_toNat]

theorem numP_snoc {l : List UInt8} {c : UInt8} (hl : l ≠ []) (h : numP (l ++ [c]) = true) : numP l = true ∧ l.head? ≠ some 48 ∧ isDig c = true := by
  unfold numP at h ⊢
  simp only [Bool.and_eq_true, decide_eq_true_eq, Bool.or_eq_true, List.all_append, List.all_cons, List.all_nil, Bool.and_true] at h ⊢
  obtain ⟨⟨⟨h1, h2⟩, _⟩, h3⟩ := h
  cases l with
  | nil => exact (hl rfl).elim
  | cons x r =>
    simp only [List.cons_append, List.length_cons, List.length_append, List.head?_cons] at h3 ⊢
    rcases h3 with h3 | h3
    · simp at h3
    · exact ⟨⟨⟨h1, by simp⟩, .inr h3⟩, h3, h2⟩

theorem dec_len (u : Nat) : Lib.decDigits u ≠ [] := by
  rw [Lib.decDigits]; split <;> simp
theorem dec_head : ∀ (u : Nat), 1 ≤ u → (Lib.decDigits u).head? ≠ some 48 := by
  intro u
  induction u using Nat.strongRecOn with
  | _ u ih =>
    intro h
    rw [Lib.decDigits]
    split
    · rename_i hu
      simp only [List.head?_cons, ne_eq, Option.some.injEq]
      intro e
      have := congrArg UInt8.toNat e
      rw [(dig_of u hu).2] at this
      simp at this
      omega
    · have := ih (u / 10) (by omega) (by omega)
      have hne := dec_len (u / 10)
      rw [List.head?_append]
      cases e : Lib.decDigits (u / 10) with
      | nil => exact (hne e).elim
      | cons x r => rw [e] at this; simpa using this
theorem dec_digs : ∀ (u : Nat), (Lib.decDigits u).all isDig = true := by
  intro u
  induction u using Nat.strongRecOn with
  | _ u ih =>
    rw [Lib.decDigits]
    split
    · rename_i hu
      rw [List.all_cons, (dig_of u hu).1]; rfl
    · rw [List.all_append, ih (u / 10) (by omega), List.all_cons, (dig_of (u % 10) (Nat.mod_lt _ (by decide))).1]; rfl
theorem dec_val : ∀ (u : Nat), valD 0 (Lib.decDigits u) = u := by
  intro u
  induction u using Nat.strongRecOn with
  | _ u ih =>
    rw [Lib.decDigits]
    split
    · rename_i hu
      rw [valD_cons, valD_nil, (dig_of u hu).2]; omega
    · rw [valD_snoc, ih (u / 10) (by omega), (dig_of (u % 10) (Nat.mod_lt _ (by decide))).2]; omega
theorem dec_numP (u : Nat) : numP (Lib.decDigits u) = true := by
  unfold numP
  simp only [Bool.and_eq_true, decide_eq_true_eq, Bool.or_eq_true]
  refine ⟨⟨dec_digs u, dec_len u⟩, ?_⟩
  by_cases h : 1 ≤ u
  · exact .inr (dec_head u h)
  · left
    have : u = 0 := by omega
    subst this
    rw [Lib.decDigits, dif_pos (by decide)]; rfl

theorem val_pos {l : List UInt8} (h : numP l = true) (h0 : l.head? ≠ some 48) : 1 ≤ valD 0 l := by
  unfold numP at h
  simp only [Bool.and_eq_true, decide_eq_true_eq, Bool.or_eq_true] at h
  cases l with
  | nil => exact (h.1.2 rfl).elim
  | cons c r =>
    rw [valD_cons]
    have hc : isDig c = true := by have := h.1.1; simp only [List.all_cons, Bool.and_eq_true] at this; exact this.1
    unfold isDig at hc
    simp only [decide_eq_true_eq] at hc
    have hne : c.toNat ≠ 48 := fun e => h0 (by
      simp only [List.head?_cons, Option.some.injEq]
      exact UInt8.toNat_inj.1 (by rw [e]; rfl))
    have := valD_ge r (0 * 10 + (c.toNat - 48))
    omega

/-- A numeral is the digits of what it says. -/
theorem num_decN : ∀ (k : Nat) (l : List UInt8), l.length = k → numP l = true → Lib.decDigits (valD 0 l) = l := by
  intro k
  induction k with
  | zero =>
    intro l hk h
    have : l = [] := List.eq_nil_of_length_eq_zero hk
    subst this
    simp [numP] at h
  | succ k ih =>
    intro l hk h
    have hne : l ≠ [] := fun e => by subst e; simp at hk
    obtain ⟨l', c, rfl⟩ : ∃ l' c, l = l' ++ [c] := ⟨l.dropLast, l.getLast hne, (List.dropLast_concat_getLast hne).symm⟩
    have hk' : l'.length = k := by simpa using hk
    by_cases hl : l' = []
    · subst hl
      unfold numP at h
      rw [List.nil_append] at h ⊢
      simp only [List.all_cons, List.all_nil, Bool.and_true, Bool.and_eq_true] at h
      have hc := h.1.1
      have hc' := hc
      unfold isDig at hc'
      simp only [decide_eq_true_eq] at hc'
      rw [valD_cons, valD_nil]
      rw [Lib.decDigits, dif_pos (by omega), Nat.zero_mul, Nat.zero_add, dig_back hc]
    · obtain ⟨h1, h2, h3⟩ := numP_snoc hl h
      have hp := val_pos h1 h2
      have e0 := ih l' hk' h1
      rw [valD_snoc]
      generalize valD 0 l' = v at *
      have h3' := h3
      unfold isDig at h3'
      simp only [decide_eq_true_eq] at h3'
      rw [Lib.decDigits, dif_neg (by omega)]
      have e1 : (v * 10 + (c.toNat - 48)) / 10 = v := by omega
      have e2 : (v * 10 + (c.toNat - 48)) % 10 = c.toNat - 48 := by omega
      rw [e1, e2, e0, dig_back h3]
theorem num_dec (l : List UInt8) (h : numP l = true) : Lib.decDigits (valD 0 l) = l := num_decN _ l rfl h
theorem num_iff (l : List UInt8) (n : Nat) : l = Lib.decDigits n ↔ numP l = true ∧ valD 0 l = n :=
  ⟨fun h => by subst h; exact ⟨dec_numP n, dec_val n⟩, fun ⟨h, e⟩ => by rw [← e, num_dec l h]⟩
theorem parseM_cons (M a : Nat) (c : UInt8) (r : List UInt8) : Lib.parseUintM M a (c :: r) = if 48 ≤ c.toNat ∧ c.toNat ≤ 57 then (if 1844674407370955162 ≤ a then .range else if M < a * 10 + (c.toNat - 48) then .range else Lib.parseUintM M (a * 10 + (c.toNat - 48)) r) else .«syntax» := by
  conv => lhs; unfold Lib.parseUintM
theorem parseM_nil (M a : Nat) : Lib.parseUintM M a [] = .ok a := by unfold Lib.parseUintM; rfl
theorem parseM_ok (l : List UInt8) : ∀ a, l.all isDig = true → valD a l ≤ 18446744073709551615 → Lib.parseUintM 18446744073709551615 a l = .ok (valD a l) := by
  induction l with
  | nil => intro a _ _; rw [parseM_nil, valD_nil]
  | cons c r ih =>
    intro a h hv
    rw [List.all_cons, Bool.and_eq_true] at h
    have hc := h.1
    unfold isDig at hc
    simp only [decide_eq_true_eq] at hc
    rw [valD_cons] at hv ⊢
    have hg := valD_ge r (a * 10 + (c.toNat - 48))
    rw [parseM_cons, if_pos hc, if_neg (by omega), if_neg (by omega)]
    exact ih _ h.2 hv
theorem parseM_le (l : List UInt8) : ∀ a u, a ≤ 18446744073709551615 → Lib.parseUintM 18446744073709551615 a l = .ok u → u ≤ 18446744073709551615 := by
  induction l with
  | nil => intro a u ha h; rw [parseM_nil] at h; cases h; exact ha
  | cons c r ih =>
    intro a u ha h
    rw [parseM_cons] at h
    split at h
    · split at h
      · cases h
      · split at h
        · cases h
        · exact ih _ u (by omega) h
    · cases h
/-- A text is a number's numeral just when it is read and written back. -/
theorem parse_num (l : List UInt8) (u : Nat) (hu : u < 18446744073709551616) (h : l = Lib.decDigits u) : Lib.parseUintB 64 l = .ok u := by
  subst h
  unfold Lib.parseUintB
  rw [if_neg (dec_len u)]
  have := parseM_ok (Lib.decDigits u) 0 (dec_digs u) (by rw [dec_val]; omega)
  rw [dec_val] at this
  exact this
theorem parse_lt (l : List UInt8) (u : Nat) (h : Lib.parseUintB 64 l = .ok u) : u < 18446744073709551616 := by
  unfold Lib.parseUintB at h
  split at h
  · cases h
  · have := parseM_le l 0 u (by omega) h
    omega
/-- The number that a text is the numeral of. -/
def numOf (l : List UInt8) : Option Nat := if numP l = true ∧ valD 0 l < 18446744073709551616 then some (valD 0 l) else none
theorem numOf_iff (l : List UInt8) (n : Nat) : numOf l = some n ↔ l = Lib.decDigits n ∧ n < 18446744073709551616 := by
  unfold numOf
  rw [num_iff]
  split
  · rename_i h
    constructor
    · intro e; cases e; exact ⟨⟨h.1, rfl⟩, h.2⟩
    · rintro ⟨⟨_, e⟩, _⟩; rw [e]
  · rename_i h
    constructor
    · intro e; cases e
    · rintro ⟨⟨a, e⟩, b⟩; exact (h ⟨a, by rw [e]; exact b⟩).elim
end Go.Ab
/- Plain laws of pieces of texts. -/
namespace Go.Ab
open Go

/-- Pieces between single bytes. -/
def splitL (c : UInt8) : List UInt8 → List (List UInt8)
  | [] => [[]]
  | x :: r => if x = c then [] :: splitL c r else match splitL c r with
    | w :: ws => (x :: w) :: ws
    | [] => [[x]]
theorem splitL_ne (c : UInt8) (l : List UInt8) : splitL c l ≠ [] := by
  cases l with
  | nil => simp [splitL]
  | cons x r =>
    unfold splitL
    split
    · simp
    · split <;> simp
theorem splitL_app (c : UInt8) (a : List UInt8) (h : c ∉ a) (b : List UInt8) : splitL c (a ++ c :: b) = a :: splitL c b := by
  induction a with
  | nil => rw [List.nil_append, splitL, if_pos rfl]
  | cons x a ih =>
    have h1 : x ≠ c := fun e => h (by rw [e]; simp)
    rw [List.cons_append, splitL, if_neg h1, ih (fun hm => h (by simp [hm]))]
theorem splitL_none (c : UInt8) (a : List UInt8) (h : c ∉ a) : splitL c a = [a] := by
  induction a with
  | nil => rfl
  | cons x a ih =>
    have h1 : x ≠ c := fun e => h (by rw [e]; simp)
    rw [splitL, if_neg h1, ih (fun hm => h (by simp [hm]))]
theorem splitL_join (c : UInt8) (l : List UInt8) : Lib.join (splitL c l) [c] = l := by
  induction l with
  | nil => rfl
  | cons x r ih =>
    unfold splitL
    split
    · rename_i e
      subst e
      have : splitL x r ≠ [] := splitL_ne x r
      obtain ⟨w, ws, e⟩ := List.exists_cons_of_ne_nil this
      rw [e] at ih ⊢
      rw [Lib.join_cons] at ih ⊢
      simp only [Lib.joinTail, List.map_cons, List.flatten_cons, List.nil_append, List.cons_append] at ih ⊢
      rw [ih]
    · split
      · rename_i w ws e
        rw [e, Lib.join_cons] at ih
        rw [Lib.join_cons, List.cons_append, ih]
      · rename_i e
        exact (splitL_ne c r e).elim
theorem splitL_free (c : UInt8) (l : List UInt8) : ∀ w ∈ splitL c l, c ∉ w := by
  induction l with
  | nil => intro w hw; simp [splitL] at hw; subst hw; simp
  | cons x r ih =>
    intro w hw
    unfold splitL at hw
    split at hw
    · rcases List.mem_cons.1 hw with rfl | hw
      · simp
      · exact ih w hw
    · rename_i hx
      split at hw
      · rename_i u us e
        rcases List.mem_cons.1 hw with rfl | hw
        · intro hm
          rcases List.mem_cons.1 hm with q | q
          · exact hx q.symm
          · exact ih u (by rw [e]; simp) q
        · exact ih w (by rw [e]; simp [hw])
      · rename_i e; exact (splitL_ne c r e).elim

theorem indexByte_cases (c : UInt8) (s : List UInt8) : (Lib.indexByte s c = -1 ∧ c ∉ s) ∨ ∃ a b, s = a ++ c :: b ∧ c ∉ a ∧ Lib.indexByte s c = a.length := by
  induction s with
  | nil => left; exact ⟨rfl, by simp⟩
  | cons x r ih =>
    by_cases hx : x = c
    · right
      exact ⟨[], r, by rw [hx]; rfl, by simp, by unfold Lib.indexByte; rw [if_pos (by simpa using hx)]; rfl⟩
    · rcases ih with ⟨h1, h2⟩ | ⟨a, b, h1, h2, h3⟩
      · left
        refine ⟨?_, ?_⟩
        · unfold Lib.indexByte
          rw [if_neg (by simpa using hx), if_pos (by simpa using h1)]
        · intro hm
          rcases List.mem_cons.1 hm with q | q
          · exact hx q.symm
          · exact h2 q
      · right
        refine ⟨x :: a, b, by rw [h1]; rfl, ?_, ?_⟩
        · intro hm
          rcases List.mem_cons.1 hm with q | q
          · exact hx q.symm
          · exact h2 q
        · unfold Lib.indexByte
          rw [if_neg (by simpa using hx), h3, if_neg (by simp)]
          simp

theorem splitK_ge (c : UInt8) : ∀ (k : Nat) (s : List UInt8), s.count c ≤ k → Lib.splitK [c] 0 k s = splitL c s
  | 0, s, h => by
    have : c ∉ s := by
      intro hm
      have := List.count_pos_iff.2 hm
      omega
    rw [splitL_none c s this]; rfl
  | k + 1, s, h => by
    unfold Lib.splitK
    rw [Lib.index_one]
    rcases indexByte_cases c s with ⟨h1, h2⟩ | ⟨a, b, h1, h2, h3⟩
    · rw [h1, if_pos (by rfl), splitL_none c s h2]
    · rw [h3, if_neg (by simp)]
      subst h1
      rw [splitL_app c a h2]
      have hc : b.count c ≤ k := by
        rw [List.count_append, List.count_cons_self] at h
        omega
      simp only [Int.toNat_natCast, Nat.add_zero, List.length_singleton]
      have e1 : (a ++ c :: b).take a.length = a := by simp
      have e2 : (a ++ c :: b).drop (a.length + 1) = b := by
        rw [← List.drop_drop, List.drop_left]; rfl
      rw [e1, e2, splitK_ge c k b hc]
end Go.Ab
/- Plain laws of the trace: the first question; equal lists, beginnings. -/
namespace Go.Proofs.YtkfhljombjmdbaaDoor
open Go Go.Ab Go.RowKit
set_option maxRecDepth 20000
set_option linter.unusedVariables false
set_option linter.unusedSimpArgs false

theorem first_eq : windlasslaw02_first_s = some true := by
  unfold windlasslaw02_first_s trace_Print_s trace_event_s trace_ending_s
  simp only [toList_data]
  decide +kernel

def eqE (x y : Event) : Bool := (x.Kind == y.Kind) && ((x.Value == y.Value) && true)
theorem eqE_iff {x y : Event} : eqE x y = true ↔ x = y := by
  cases x; cases y; simp [eqE]
noncomputable instance : DecidableEq Event := fun _ _ => Classical.propDecidable _

theorem cmp_rangeN {σ ρ : Type} (a b : List Event) (s : σ) (v : ρ) {body : Nat → σ → Option (Stp σ ρ)}
    (hb : ∀ i x y, a[i]? = some x → b[i]? = some y → body i s = if eqE x y = true then some (.nxt s) else some (.ret v)) (hl : a.length ≤ b.length) :
    ∀ (n k : Nat), k + n = a.length → rangeN body n k s = some (if a.drop k = (b.drop k).take n then .fin s else .ret v)
  | 0, k, hk => by
    rw [rangeN, if_pos]
    rw [List.take_zero, List.drop_eq_nil_iff]; omega
  | n + 1, k, hk => by
    have ha : k < a.length := by omega
    have hb' : k < b.length := by omega
    have := hb k a[k] b[k] (List.getElem?_eq_getElem ha) (List.getElem?_eq_getElem hb')
    rw [List.drop_eq_getElem_cons ha, List.drop_eq_getElem_cons hb', List.take_succ_cons]
    cases e : eqE a[k] b[k] with
    | true =>
      rw [e, if_pos rfl] at this
      simp only [rangeN, this]
      rw [cmp_rangeN a b s v hb hl n (k + 1) (by omega), eqE_iff.1 e]
      by_cases h : a.drop (k + 1) = (b.drop (k + 1)).take n
      · rw [if_pos h, if_pos (by rw [h])]
      · rw [if_neg h, if_neg (fun q => h (List.cons.inj q).2)]
    | false =>
      rw [e, if_neg (by simp)] at this
      simp only [rangeN, this]
      rw [if_neg (fun q => by rw [eqE_iff.2 (List.cons.inj q).1] at e; cases e)]

theorem cmp_rni {σ ρ : Type} (a b : List Event) (s : σ) (v : ρ) {body : Nat → σ → Option (Stp σ ρ)}
    (hb : ∀ i x y, a[i]? = some x → b[i]? = some y → body i s = if eqE x y = true then some (.nxt s) else some (.ret v)) (hl : a.length ≤ b.length) (hn : a.length ≤ 4611686018427387904) :
    rni body (a.length : Int) s = some (if a = b.take a.length then .fin s else .ret v) := by
  unfold rni
  rw [if_pos (by omega), Int.toNat_natCast, cmp_rangeN a b s v hb hl _ 0 (by omega), List.drop_zero, List.drop_zero]

theorem oc_if {σ β : Type} (f : σ → Option β) (c : Prop) [Decidable c] (s : σ) (v : Option β) : oc f (if c then .fin s else .ret v) = if c then f s else v := by
  split <;> rfl

theorem body_eq {σ : Type} (x y : Event) (s : σ) : (if (!((x.Kind == y.Kind) && ((x.Value == y.Value) && true))) = true then (some (.ret (some false)) : Option (Stp σ (Option Bool))) else some (.nxt s)) = if eqE x y = true then some (.nxt s) else some (.ret (some false)) := by
  show (if (!eqE x y) = true then _ else _) = _
  cases eqE x y <;> rfl

theorem Begins_eq (a b : List Event) (hn : a.length ≤ 4611686018427387904) : windlassref02_Begins_s a b = some (decide (a.length ≤ b.length ∧ a = b.take a.length)) := by
  unfold windlassref02_Begins_s
  by_cases h : a.length ≤ b.length
  · rw [if_neg (by simp; omega), cmp_rni a b b (some false) (fun i x y hx hy => by rw [getI_nat, hx, getI_nat, hy]; exact body_eq x y b) h hn]
    simp only [Option.bind_some]
    rw [oc_if]
    split <;> rename_i q
    · rw [decide_eq_true ⟨h, q⟩]
    · rw [decide_eq_false (fun r => q r.2)]
  · rw [if_pos (by simp; omega), decide_eq_false (fun r => h r.1)]

theorem same_core (a b : List Event) : (if ((a.length : Int) == (b.length : Int)) = true then decide (a.length ≤ b.length ∧ a = b.take a.length) else false) = decide (a = b) := by
  by_cases h : a.length = b.length
  · rw [if_pos (by simp [h])]
    apply decide_eq_decide.2
    rw [h, List.take_length]
    exact ⟨fun q => q.2, fun q => ⟨Nat.le_refl _, q⟩⟩
  · rw [if_neg (by rw [beq_iff_eq]; omega), decide_eq_false (fun q => h (by rw [q]))]

theorem Same_eq (a b : List Event) (hn : a.length ≤ 4611686018427387904) : windlassref02_Same_s a b = some (decide (a = b)) := by
  unfold windlassref02_Same_s
  rw [Begins_eq a b hn, ← same_core]
  simp only [jp, Option.bind_some]
  split <;> rfl
end Go.Proofs.YtkfhljombjmdbaaDoor
/- Plain laws of the trace: how a trace is written; one word for each event. -/
namespace Go.Proofs.YtkfhljombjmdbaaDoor
open Go Go.Ab Go.RowKit
set_option maxRecDepth 20000
set_option linter.unusedVariables false
set_option linter.unusedSimpArgs false

def bsl (l : List UInt8) : ByteArray := ⟨l.toArray⟩
theorem bsl_data (l : List UInt8) : (bsl l).data.toList = l := by simp [bsl]
theorem bsl_toList (l : List UInt8) : (bsl l).toList = l := by rw [toList_data, bsl_data]
theorem bsl_size (l : List UInt8) : (bsl l).size = l.length := by simp [bsl, ByteArray.size]
theorem bsl_inj {a b : ByteArray} (h : a.data.toList = b.data.toList) : a = b := by
  cases a; cases b; simp only [ByteArray.mk.injEq]; exact Array.toList_inj.1 h
theorem bsl_eq (b : ByteArray) : b = bsl b.data.toList := bsl_inj (by rw [bsl_data])
theorem cat_b (a b : List UInt8) (h : a.length + b.length ≤ 1000000000) : catS (bsl a) (bsl b) = some (bsl (a ++ b)) := by
  unfold catS
  rw [bsl_size, bsl_size, if_pos (by omega)]
  exact congrArg some (bsl_inj (by rw [ByteArray.data_append, Array.toList_append, bsl_data, bsl_data, bsl_data]))
theorem Lib.extract_toList' (s : ByteArray) (i j : Nat) : (s.extract i j).data.toList = (s.data.toList.drop i).take (j - i) := by
  rw [ByteArray.data_extract, Array.toList_extract, List.extract]

theorem sub_b (a : List UInt8) (i j : Nat) (hij : i ≤ j) (hj : j ≤ a.length) : subS (bsl a) i j = some (bsl ((a.take j).drop i)) := by
  unfold subS
  rw [bsl_size, if_pos (by omega)]
  congr 1
  apply bsl_inj
  rw [bsl_data, Int.toNat_natCast, Int.toNat_natCast, Lib.extract_toList', bsl_data, List.drop_take]
theorem strI_b (a : List UInt8) (i : Nat) (h : i < a.length) : strI (bsl a) i = some (a[i].toNat : Int) := by
  unfold strI
  rw [bsl_size, if_pos (by omega)]
  have : (bsl a)[i]? = some a[i] := by
    rw [getElem?_pos (bsl a) i (by show i < (bsl a).size; rw [bsl_size]; exact h)]
    rfl
  simp [this]

theorem digs_len : ∀ (k u : Nat), 1 ≤ (digs k u).length ∧ (digs k u).length ≤ k + 1
  | 0, u => by simp [digs]
  | k + 1, u => by
    rw [digs]
    split
    · simp
    · have := digs_len k (u / 10)
      simp; omega
theorem digs_num : ∀ (k u : Nat), ∀ b ∈ digs k u, b ≠ 32
  | 0, u => by
    intro b hb
    simp only [digs, List.mem_singleton] at hb
    subst hb
    have : u % 10 < 10 := Nat.mod_lt _ (by decide)
    intro e
    have := congrArg UInt8.toNat e
    rw [UInt8.toNat_ofNat', Nat.mod_eq_of_lt (by omega)] at this
    simp at this
    omega
  | k + 1, u => by
    intro b hb
    rw [digs] at hb
    have : u % 10 < 10 := Nat.mod_lt _ (by decide)
    split at hb
    · simp only [List.mem_singleton] at hb
      subst hb
      intro e
      have := congrArg UInt8.toNat e
      rw [UInt8.toNat_ofNat', Nat.mod_eq_of_lt (by omega)] at this
      simp at this
      omega
    · simp only [List.mem_append, List.mem_singleton] at hb
      rcases hb with hb | hb
      · exact digs_num k _ b hb
      · subst hb
        intro e
        have := congrArg UInt8.toNat e
        rw [UInt8.toNat_ofNat', Nat.mod_eq_of_lt (by omega)] at this
        simp at this
        omega

def word (x : Event) : List UInt8 :=
  if x.Kind = 1 then [111, 117, 116, 61] ++ digs 19 x.Value.toNat else if x.Kind = 2 then [105, 110, 61] ++ digs 19 x.Value.toNat else [63]
def endw (e : End) : List UInt8 :=
  if e.Kind = 1 then [101, 120, 105, 116, 61] ++ digs 19 e.Value.toNat else if e.Kind = 2 then [112, 97, 110, 105, 99, 61] ++ digs 19 e.Value.toNat
  else if e.Kind = 3 then [102, 117, 101, 108] else if e.Kind = 4 then [115, 116, 97, 99, 107] else if e.Kind = 5 then [115, 116, 117, 99, 107] else [63]
def bodyW (ws : List (List UInt8)) : List UInt8 := ws.flatMap fun w => w ++ [32]

theorem word_len (x : Event) : (word x).length ≤ 26 := by
  unfold word
  have := digs_len 19 x.Value.toNat
  split
  · simp; omega
  · split
    · simp; omega
    · simp
theorem endw_len (e : End) : 1 ≤ (endw e).length ∧ (endw e).length ≤ 26 := by
  unfold endw
  have := digs_len 19 e.Value.toNat
  repeat' split
  all_goals simp
  all_goals omega
theorem word_num (x : Event) : ∀ b ∈ word x, b ≠ 32 := by
  intro b hb
  unfold word at hb
  split at hb
  · rcases List.mem_append.1 hb with h | h
    · intro e; subst e; simp at h
    · exact digs_num _ _ b h
  · split at hb
    · rcases List.mem_append.1 hb with h | h
      · intro e; subst e; simp at h
      · exact digs_num _ _ b h
    · intro e; subst e; simp at hb
theorem endw_num (x : End) : ∀ b ∈ endw x, b ≠ 32 := by
  intro b hb
  unfold endw at hb
  split at hb
  · rcases List.mem_append.1 hb with h | h
    · intro e; subst e; simp at h
    · exact digs_num _ _ b h
  · split at hb
    · rcases List.mem_append.1 hb with h | h
      · intro e; subst e; simp at h
      · exact digs_num _ _ b h
    · repeat' split at hb
      all_goals (intro e; subst e; simp at hb)

theorem bodyW_len (ws : List (List UInt8)) (h : ∀ w ∈ ws, w.length ≤ 26) : (bodyW ws).length ≤ 27 * ws.length := by
  induction ws with
  | nil => simp [bodyW]
  | cons w r ih =>
    have h1 := h w (by simp)
    have h2 := ih (fun x hx => h x (by simp [hx]))
    simp only [bodyW, List.flatMap_cons, List.length_append, List.length_cons, List.length_nil] at h2 ⊢
    omega
theorem join_body (e : List UInt8) : ∀ ws : List (List UInt8), Lib.join (ws ++ [e]) [32] = bodyW ws ++ e
  | [] => by rw [List.nil_append, Lib.join_one]; rfl
  | w :: r => by
    rw [List.cons_append, Lib.join_cons]
    induction r generalizing w with
    | nil => simp [Lib.joinTail, bodyW]
    | cons x r ih =>
      have := ih x
      simp only [Lib.joinTail, List.cons_append, List.map_cons, List.flatten_cons, bodyW, List.flatMap_cons, List.append_assoc] at this ⊢
      rw [this]

theorem fmt_eq (v : Int) (h : (Lit.int .u64 v).wf = true) : strconv_FormatUint_s v 10 = some (bsl (digs 19 v.toNat)) := by
  have hb : 0 ≤ v ∧ v < 18446744073709551616 := by
    simp only [Lit.wf, Bool.and_eq_true, decide_eq_true_eq] at h
    have h1 : IntKind.u64.min = 0 := by decide
    have h2 : IntKind.u64.max = 18446744073709551615 := by decide
    omega
  unfold strconv_FormatUint_s internal_strconv_FormatUint_s
  rw [if_pos ⟨rfl, hb.1, hb.2⟩]
  rfl

theorem Print_eq (l : List Event) (e : End) (hl : l.length ≤ 1048576) (h : ∀ x ∈ l, Event.Ok 1048576 x) (he : End.Ok 1048576 e) :
    trace_Print_s l e = some (bsl (bodyW (l.map word) ++ endw e)) := by
  unfold trace_Print_s
  have L := rng_inv (σ := End × List ByteArray) (ρ := Option ByteArray) (xs := l) (s0 := (e, [])) (fun _ => true) none (fun i s => s = (e, (l.take i).map fun x => bsl (word x)))
    (body := fun (i_2 : Nat) (x_3 : Event) (s_1 : (End × (List ByteArray))) => (((trace_event_s x_3.Kind).bind fun eve_5 => (jp (fun (s_7 : ByteArray) => ((appL 16 s_1.2 [s_7]).bind fun l_11 => (some (.nxt (s_1.1, l_11))))) (fun k_6 => (if (!(ByteArray.toList eve_5 == ByteArray.toList (ByteArray.mk #[]))) then ((catS eve_5 (ByteArray.mk #[61])).bind fun s_8 => ((strconv_FormatUint_s x_3.Value 10).bind fun vfor_9 => ((catS s_8 vfor_9).bind fun s_10 => (k_6 s_10)))) else (k_6 (ByteArray.mk #[63])))))) : Option (Stp (End × (List ByteArray)) (Option ByteArray))))
    (by omega) rfl (fun i x s hx hs => by
      subst hs
      rw [if_pos rfl]
      have hi : i < l.length := (List.getElem?_eq_some_iff.1 hx).1
      have hxl : x ∈ l := List.mem_of_getElem? hx
      have key : ∀ w : List UInt8, w = word x → (appL 16 ((l.take i).map fun x => bsl (word x)) [bsl w]) = some ((l.take (i + 1)).map fun x => bsl (word x)) := by
        intro w hw
        rw [appL_of (by simp; omega), hw, List.take_add_one, hx]
        simp
      refine ⟨_, ?_, rfl⟩
      have hf := fmt_eq x.Value (h x hxl).2
      have hd := digs_len 19 x.Value.toNat
      unfold trace_event_s
      simp only [jp]
      by_cases h1 : x.Kind = 1
      · have hw : word x = [111, 117, 116, 61] ++ digs 19 x.Value.toNat := by rw [word, if_pos h1]
        rw [if_pos (by simpa using h1), Option.bind_some, if_pos (by simp only [toList_data]; decide), show (ByteArray.mk #[111, 117, 116]) = bsl [111, 117, 116] from rfl, show (ByteArray.mk #[61]) = bsl [61] from rfl, cat_b _ _ (by simp), Option.bind_some, hf, Option.bind_some, cat_b _ _ (by simp; omega), Option.bind_some, key _ (by rw [hw]; rfl), Option.bind_some]
      · by_cases h2 : x.Kind = 2
        · have hw : word x = [105, 110, 61] ++ digs 19 x.Value.toNat := by rw [word, if_neg h1, if_pos h2]
          rw [if_neg (by simpa using h1), if_pos (by simpa using h2), Option.bind_some, if_pos (by simp only [toList_data]; decide), show (ByteArray.mk #[105, 110]) = bsl [105, 110] from rfl, show (ByteArray.mk #[61]) = bsl [61] from rfl, cat_b _ _ (by simp), Option.bind_some, hf, Option.bind_some, cat_b _ _ (by simp; omega), Option.bind_some, key _ (by rw [hw]; rfl), Option.bind_some]
        · have hw : word x = [63] := by rw [word, if_neg h1, if_neg h2]
          rw [if_neg (by simpa using h1), if_neg (by simpa using h2), Option.bind_some, if_neg (by simp only [toList_data]; decide), show (ByteArray.mk #[63]) = bsl [63] from rfl, key _ hw.symm, Option.bind_some])
  rw [if_pos (by simp)] at L
  obtain ⟨s', L, rfl⟩ := L
  rw [L]
  simp only [Option.bind_some, oc, List.take_length]
  have hd := digs_len 19 e.Value.toNat
  have fin : ∀ w : List UInt8, w = endw e → ((appL 16 (l.map fun x => bsl (word x)) [bsl w]).bind fun l_19 => ((strings_Join_s l_19 (ByteArray.mk #[32])).bind fun joi_20 => (some joi_20))) = some (bsl (bodyW (l.map word) ++ endw e)) := by
    intro w hw
    rw [appL_of (by simp; omega), Option.bind_some]
    have hj : (Lib.join (((l.map fun x => bsl (word x)) ++ [bsl w]).map (·.data.toList)) (ByteArray.mk #[32]).data.toList) = bodyW (l.map word) ++ endw e := by
      rw [List.map_append, List.map_map, hw]
      simp only [Function.comp_def, bsl_data, List.map_cons, List.map_nil]
      exact join_body (endw e) (l.map word)
    have hlen : (bodyW (l.map word) ++ endw e).length ≤ 140737488355328 := by
      have h1 := bodyW_len (l.map word) (fun w hw => by obtain ⟨x, _, rfl⟩ := List.mem_map.1 hw; exact word_len x)
      have h2 := endw_len e
      rw [List.length_map] at h1
      rw [List.length_append]; omega
    unfold strings_Join_s
    rw [hj, if_pos ⟨by simp; omega, hlen⟩]
    rfl
  have hEnd : trace_ending_s e.Kind = some (if e.Kind = 1 then bsl [101, 120, 105, 116] else if e.Kind = 2 then bsl [112, 97, 110, 105, 99] else if e.Kind = 3 then bsl [102, 117, 101, 108] else if e.Kind = 4 then bsl [115, 116, 97, 99, 107] else if e.Kind = 5 then bsl [115, 116, 117, 99, 107] else bsl []) := by
    unfold trace_ending_s
    simp only [jp]
    by_cases h0 : e.Kind < 1
    · rw [if_pos (by simpa using h0), if_pos trivial, if_neg (by omega), if_neg (by omega), if_neg (by omega), if_neg (by omega), if_neg (by omega)]; rfl
    · rw [if_neg (by simpa using h0)]
      by_cases h6 : e.Kind > 5
      · rw [if_pos (by simpa using h6), if_neg (by omega), if_neg (by omega), if_neg (by omega), if_neg (by omega), if_neg (by omega)]; rfl
      · rw [if_neg (by simpa using h6)]
        have : e.Kind = 1 ∨ e.Kind = 2 ∨ e.Kind = 3 ∨ e.Kind = 4 ∨ e.Kind = 5 := by omega
        rcases this with h | h | h | h | h <;> rw [h] <;> rfl
  rw [hEnd, Option.bind_some]
  unfold trace_Ended_s
  simp only [jp]
  by_cases h1 : e.Kind = 1
  · have hw : endw e = [101, 120, 105, 116, 61] ++ digs 19 e.Value.toNat := by rw [endw, if_pos h1]
    rw [if_pos h1, if_neg (by simp only [toList_data]; decide), if_pos (by simpa using h1), Option.bind_some, if_pos rfl, fmt_eq _ he.2, Option.bind_some, show (ByteArray.mk #[61]) = bsl [61] from rfl, cat_b _ _ (by simp; omega), Option.bind_some, cat_b _ _ (by simp; omega), Option.bind_some]
    exact fin _ (by rw [hw]; rfl)
  · by_cases h2 : e.Kind = 2
    · have hw : endw e = [112, 97, 110, 105, 99, 61] ++ digs 19 e.Value.toNat := by rw [endw, if_neg h1, if_pos h2]
      rw [if_neg h1, if_pos h2, if_neg (by simp only [toList_data]; decide), if_neg (by simpa using h1), Option.bind_some, if_pos (by simpa using h2), fmt_eq _ he.2, Option.bind_some, show (ByteArray.mk #[61]) = bsl [61] from rfl, cat_b _ _ (by simp; omega), Option.bind_some, cat_b _ _ (by simp; omega), Option.bind_some]
      exact fin _ (by rw [hw]; rfl)
    · rw [if_neg h1, if_neg h2]
      have go : ∀ w : List UInt8, w ≠ [] → w = endw e → (if (ByteArray.toList (bsl w) == ByteArray.toList (ByteArray.mk #[])) = true then ((appL 16 (l.map fun x => bsl (word x)) [(ByteArray.mk #[63])]).bind fun l_19 => ((strings_Join_s l_19 (ByteArray.mk #[32])).bind fun joi_20 => (some joi_20)))
          else ((if (e.Kind == 1) = true then some true else some (e.Kind == 2)).bind fun vend_15 => if vend_15 = true then ((strconv_FormatUint_s e.Value 10).bind fun vfor_16 => (catS (ByteArray.mk #[61]) vfor_16).bind fun s_17 => (catS (bsl w) s_17).bind fun s_18 => ((appL 16 (l.map fun x => bsl (word x)) [s_18]).bind fun l_19 => ((strings_Join_s l_19 (ByteArray.mk #[32])).bind fun joi_20 => (some joi_20)))) else ((appL 16 (l.map fun x => bsl (word x)) [bsl w]).bind fun l_19 => ((strings_Join_s l_19 (ByteArray.mk #[32])).bind fun joi_20 => (some joi_20))))) = some (bsl (bodyW (l.map word) ++ endw e)) := by
        intro w hw hwe
        rw [if_neg (by rw [bsl_toList, toList_data]; simpa using hw), if_neg (by simpa using h1), Option.bind_some, if_neg (by simpa using h2)]
        exact fin w hwe
      by_cases h3 : e.Kind = 3
      · rw [if_pos h3]; exact go _ (by simp) (by rw [endw, if_neg h1, if_neg h2, if_pos h3])
      · rw [if_neg h3]
        by_cases h4 : e.Kind = 4
        · rw [if_pos h4]; exact go _ (by simp) (by rw [endw, if_neg h1, if_neg h2, if_neg h3, if_pos h4])
        · rw [if_neg h4]
          by_cases h5 : e.Kind = 5
          · rw [if_pos h5]; exact go _ (by simp) (by rw [endw, if_neg h1, if_neg h2, if_neg h3, if_neg h4, if_pos h5])
          · rw [if_neg h5, if_pos (by simp only [toList_data]; decide)]
            exact fin [63] (by rw [endw, if_neg h1, if_neg h2, if_neg h3, if_neg h4, if_neg h5])
end Go.Proofs.YtkfhljombjmdbaaDoor
/- Plain laws of the trace's texts: numerals, and the document's text. -/
namespace Go.Proofs.YtkfhljombjmdbaaDoor
open Go Go.Ab Go.RowKit
set_option maxRecDepth 20000
set_option linter.unusedVariables false
set_option linter.unusedSimpArgs false

theorem u64_wf {v : Int} (h : (Lit.int .u64 v).wf = true) : 0 ≤ v ∧ v < 18446744073709551616 := by
  simp only [Lit.wf, Bool.and_eq_true, decide_eq_true_eq] at h
  have h1 : IntKind.u64.min = 0 := by decide
  have h2 : IntKind.u64.max = 18446744073709551615 := by decide
  omega
theorem digs19 (u : Nat) (h : u < 18446744073709551616) : digs 19 u = Lib.decDigits u := digs_eq 19 u (by
  have : (10 : Nat) ^ (19 + 1) = 100000000000000000000 := by decide
  omega)
theorem toStr_one (c : Nat) (h : c < 256) : toStr [(c : Int)] = some (bsl [UInt8.ofNat c]) := by
  unfold toStr
  simp only [List.map_cons, List.map_nil, avI, bytesOf]
  rw [if_pos (by omega)]
  simp [bsl]

theorem Number_run {body : Int × ByteArray → Option (Stp (Int × ByteArray) (Option ByteArray))}
    (hb : ∀ n a, body (n, a) = (toStr ([(U8 (U64 (48 + (Int.tmod n 10))))])).bind fun s_2 => ((catS s_2 a).bind fun s_3 => (if ((U64 (Int.tdiv n 10)) == 0) = true then (some (.ret (some s_3))) else (some (.nxt ((U64 (Int.tdiv n 10)), s_3)))))) :
    ∀ (F n : Nat) (acc : List UInt8), n < 10 ^ F → n < 18446744073709551616 → 1 ≤ F → acc.length + F ≤ 1000 → whileN body F ((n : Int), bsl acc) = some (.ret (some (bsl (Lib.decDigits n ++ acc))))
  | 0, n, acc, _, _, h, _ => by omega
  | F + 1, n, acc, hF, hn, _, hl => by
    have hm : n % 10 < 10 := Nat.mod_lt _ (by decide)
    have e1 : Int.tmod (n : Int) 10 = ((n % 10 : Nat) : Int) := rfl
    have e2 : Int.tdiv (n : Int) 10 = ((n / 10 : Nat) : Int) := rfl
    have e3 : U8 (U64 (48 + ((n % 10 : Nat) : Int))) = ((48 + n % 10 : Nat) : Int) := by
      rw [U64_of (by omega), U8_of (by omega)]; omega
    have e4 : U64 ((n / 10 : Nat) : Int) = ((n / 10 : Nat) : Int) := U64_of (by omega)
    have hbd : body ((n : Int), bsl acc) = if n / 10 = 0 then some (.ret (some (bsl (UInt8.ofNat (48 + n % 10) :: acc)))) else some (.nxt (((n / 10 : Nat) : Int), bsl (UInt8.ofNat (48 + n % 10) :: acc))) := by
      rw [hb, e1, e2, e3, e4, toStr_one _ (by omega), Option.bind_some, cat_b _ _ (by simp; omega), Option.bind_some]
      by_cases h : n / 10 = 0
      · rw [if_pos h, if_pos (by rw [h]; rfl)]; rfl
      · rw [if_neg h, if_neg (by rw [beq_iff_eq]; omega)]; rfl
    by_cases h : n / 10 = 0
    · rw [if_pos h] at hbd
      rw [whileN_ret hbd, Lib.decDigits, dif_pos (by omega), Nat.mod_eq_of_lt (by omega)]; rfl
    · rw [if_neg h] at hbd
      rw [whileN_step hbd]
      have hF' : n / 10 < 10 ^ F := by rw [Nat.pow_succ] at hF; exact Nat.div_lt_of_lt_mul (by omega)
      have h1 : 1 ≤ F := by
        cases F with
        | zero => simp at hF'; omega
        | succ F => omega
      rw [Number_run hb F (n / 10) _ hF' (by omega) h1 (by simp; omega), Lib.decDigits.eq_1 n, dif_neg (by omega), List.append_assoc]
      rfl

theorem whileN_more {σ ρ : Type} {body : σ → Option (Stp σ ρ)} : ∀ (n m : Nat) (s : σ) (o : Out σ ρ), whileN body n s = some o → n ≤ m → whileN body m s = some o
  | 0, m, s, o, h, _ => by simp [whileN] at h
  | n + 1, 0, s, o, h, hm => by omega
  | n + 1, m + 1, s, o, h, hm => by
    simp only [whileN] at h ⊢
    cases e : body s with
    | none => rw [e] at h; cases h
    | some x =>
      rw [e] at h
      cases x with
      | nxt s' => exact whileN_more n m s' o h (by omega)
      | brk s' => exact h
      | ret v => exact h

theorem Number_eq (F : Nat) (hF : 20 ≤ F) (v : Int) (h : 0 ≤ v ∧ v < 18446744073709551616) : windlassref02_Number_s F v = some (bsl (digs 19 v.toNat)) := by
  unfold windlassref02_Number_s
  obtain ⟨n, rfl⟩ : ∃ n : Nat, v = n := ⟨v.toNat, by omega⟩
  have e : (10 : Nat) ^ 20 = 100000000000000000000 := by decide
  have := whileN_more 20 F _ _ (Number_run (body := fun (s_1 : (Int × ByteArray)) => (((toStr ([(U8 (U64 (48 + (Int.tmod s_1.1 10))))])).bind fun s_2 => ((catS s_2 s_1.2).bind fun s_3 => (if ((U64 (Int.tdiv s_1.1 10)) == 0) then (some (.ret (some s_3))) else (some (.nxt ((U64 (Int.tdiv s_1.1 10)), s_3)))))) : Option (Stp (Int × ByteArray) (Option ByteArray))))
    (fun n a => rfl) 20 n [] (by omega) (by omega) (by omega) (by simp)) hF
  rw [show (ByteArray.mk #[]) = bsl [] from rfl, this, List.append_nil, Int.toNat_natCast, digs19 n (by omega)]
  rfl

theorem Text_eq (F : Nat) (hF : 20 ≤ F) (l : List Event) (e : End) (hl : l.length ≤ 1048576) (h : ∀ x ∈ l, Event.Ok 1048576 x) (he : End.Ok 1048576 e) :
    windlassref02_Text_s F l e = some (bsl (bodyW (l.map word) ++ endw e)) := by
  unfold windlassref02_Text_s
  have hbl : ∀ k, (bodyW ((l.take k).map word)).length ≤ 28311552 := by
    intro k
    have := bodyW_len ((l.take k).map word) (fun w hw => by obtain ⟨x, _, rfl⟩ := List.mem_map.1 hw; exact word_len x)
    rw [List.length_map, List.length_take] at this
    omega
  have hsucc : ∀ (i : Nat) (x : Event), l[i]? = some x → bodyW ((l.take (i + 1)).map word) = bodyW ((l.take i).map word) ++ (word x ++ [32]) := by
    intro i x hx
    rw [List.take_add_one, hx]
    simp [bodyW]
  have L := rng_inv (σ := End × ByteArray) (ρ := Option ByteArray) (xs := l) (s0 := (e, bsl [])) (fun _ => true) none (fun i s => s = (e, bsl (bodyW ((l.take i).map word))))
    (body := fun (i_2 : Nat) (x_3 : Event) (s_1 : (End × ByteArray)) => ((if (x_3.Kind == 1) then ((windlassref02_Number_s F x_3.Value).bind fun num_5 => ((catS (ByteArray.mk #[111, 117, 116, 61]) num_5).bind fun s_6 => ((catS s_6 (ByteArray.mk #[32])).bind fun s_7 => ((catS s_1.2 s_7).bind fun s_8 => (some (.nxt (s_1.1, s_8))))))) else (if (x_3.Kind == 2) then ((windlassref02_Number_s F x_3.Value).bind fun num_9 => ((catS (ByteArray.mk #[105, 110, 61]) num_9).bind fun s_10 => ((catS s_10 (ByteArray.mk #[32])).bind fun s_11 => ((catS s_1.2 s_11).bind fun s_12 => (some (.nxt (s_1.1, s_12))))))) else ((catS s_1.2 (ByteArray.mk #[63, 32])).bind fun s_13 => (some (.nxt (s_1.1, s_13)))))) : Option (Stp (End × ByteArray) (Option ByteArray))))
    (by omega) rfl (fun i x s hx hs => by
      subst hs
      rw [if_pos rfl]
      have hxl : x ∈ l := List.mem_of_getElem? hx
      have hv := u64_wf (h x hxl).2
      have hN := Number_eq F hF x.Value hv
      have hd := digs_len 19 x.Value.toNat
      have hb := hbl i
      refine ⟨_, ?_, rfl⟩
      rw [hsucc i x hx]
      by_cases h1 : x.Kind = 1
      · have hw : word x = [111, 117, 116, 61] ++ digs 19 x.Value.toNat := by rw [word, if_pos h1]
        rw [if_pos (by simpa using h1), hN, Option.bind_some, show (ByteArray.mk #[111, 117, 116, 61]) = bsl [111, 117, 116, 61] from rfl, cat_b _ _ (by simp only [List.length_append, List.length_cons, List.length_nil]; omega), Option.bind_some, show (ByteArray.mk #[32]) = bsl [32] from rfl, cat_b _ _ (by simp only [List.length_append, List.length_cons, List.length_nil]; omega), Option.bind_some, cat_b _ _ (by simp only [List.length_append, List.length_cons, List.length_nil]; omega), Option.bind_some, hw]
      · by_cases h2 : x.Kind = 2
        · have hw : word x = [105, 110, 61] ++ digs 19 x.Value.toNat := by rw [word, if_neg h1, if_pos h2]
          rw [if_neg (by simpa using h1), if_pos (by simpa using h2), hN, Option.bind_some, show (ByteArray.mk #[105, 110, 61]) = bsl [105, 110, 61] from rfl, cat_b _ _ (by simp only [List.length_append, List.length_cons, List.length_nil]; omega), Option.bind_some, show (ByteArray.mk #[32]) = bsl [32] from rfl, cat_b _ _ (by simp only [List.length_append, List.length_cons, List.length_nil]; omega), Option.bind_some, cat_b _ _ (by simp only [List.length_append, List.length_cons, List.length_nil]; omega), Option.bind_some, hw]
        · have hw : word x = [63] := by rw [word, if_neg h1, if_neg h2]
          rw [if_neg (by simpa using h1), if_neg (by simpa using h2), show (ByteArray.mk #[63, 32]) = bsl [63, 32] from rfl, cat_b _ _ (by simp only [List.length_append, List.length_cons, List.length_nil]; omega), Option.bind_some, hw]; rfl)
  rw [if_pos (by simp)] at L
  obtain ⟨s', L, rfl⟩ := L
  rw [show (ByteArray.mk #[]) = bsl [] from rfl, L]
  simp only [Option.bind_some, oc, List.take_length]
  have hb := hbl l.length
  rw [List.take_length] at hb
  have hv := u64_wf he.2
  have hN := Number_eq F hF e.Value hv
  have hd := digs_len 19 e.Value.toNat
  generalize bodyW (l.map word) = B at *
  unfold endw
  by_cases h1 : e.Kind = 1
  · rw [if_pos (by simpa using h1), if_pos h1, show (ByteArray.mk #[101, 120, 105, 116, 61]) = bsl [101, 120, 105, 116, 61] from rfl, cat_b _ _ (by simp only [List.length_append, List.length_cons, List.length_nil]; omega), Option.bind_some, hN, Option.bind_some, cat_b _ _ (by simp only [List.length_append, List.length_cons, List.length_nil]; omega), Option.bind_some, List.append_assoc]
  · rw [if_neg (by simpa using h1), if_neg h1]
    by_cases h2 : e.Kind = 2
    · rw [if_pos (by simpa using h2), if_pos h2, show (ByteArray.mk #[112, 97, 110, 105, 99, 61]) = bsl [112, 97, 110, 105, 99, 61] from rfl, cat_b _ _ (by simp only [List.length_append, List.length_cons, List.length_nil]; omega), Option.bind_some, hN, Option.bind_some, cat_b _ _ (by simp only [List.length_append, List.length_cons, List.length_nil]; omega), Option.bind_some, List.append_assoc]
    · rw [if_neg (by simpa using h2), if_neg h2]
      by_cases h3 : e.Kind = 3
      · rw [if_pos (by simpa using h3), if_pos h3, show (ByteArray.mk #[102, 117, 101, 108]) = bsl [102, 117, 101, 108] from rfl, cat_b _ _ (by simp only [List.length_append, List.length_cons, List.length_nil]; omega)]; rfl
      · rw [if_neg (by simpa using h3), if_neg h3]
        by_cases h4 : e.Kind = 4
        · rw [if_pos (by simpa using h4), if_pos h4, show (ByteArray.mk #[115, 116, 97, 99, 107]) = bsl [115, 116, 97, 99, 107] from rfl, cat_b _ _ (by simp only [List.length_append, List.length_cons, List.length_nil]; omega)]; rfl
        · rw [if_neg (by simpa using h4), if_neg h4]
          by_cases h5 : e.Kind = 5
          · rw [if_pos (by simpa using h5), if_pos h5, show (ByteArray.mk #[115, 116, 117, 99, 107]) = bsl [115, 116, 117, 99, 107] from rfl, cat_b _ _ (by simp only [List.length_append, List.length_cons, List.length_nil]; omega)]; rfl
          · rw [if_neg (by simpa using h5), if_neg h5, show (ByteArray.mk #[63]) = bsl [63] from rfl, cat_b _ _ (by simp only [List.length_append, List.length_cons, List.length_nil]; omega)]; rfl
end Go.Proofs.YtkfhljombjmdbaaDoor
/- Plain laws of the trace's texts: what stands behind a beginning, what numerals say, pieces. -/
namespace Go.Proofs.YtkfhljombjmdbaaDoor
open Go Go.Ab Go.RowKit
set_option maxRecDepth 20000
set_option linter.unusedVariables false
set_option linter.unusedSimpArgs false

theorem whileN_fin {σ ρ : Type} {body : σ → Option (Stp σ ρ)} (Inv : σ → Prop) (μ : σ → Nat) (e : σ)
    (h : ∀ s, Inv s → (∃ s', body s = some (.nxt s') ∧ Inv s' ∧ μ s' < μ s) ∨ body s = some (.brk e)) (n : Nat) (s : σ) (hi : Inv s) (hn : μ s < n) : whileN body n s = some (.fin e) := by
  obtain ⟨o, h1, h2⟩ := whileN_ex Inv μ (fun o => o = .fin e) (fun s hs => (h s hs).elim .inl fun q => .inr (.inl ⟨e, q, rfl⟩)) n s hi hn
  rw [h1, h2]

theorem beq_bsl (a b : List UInt8) : (ByteArray.toList (bsl a) == ByteArray.toList (bsl b)) = decide (a = b) := by
  rw [bsl_toList, bsl_toList]
  by_cases h : a = b
  · subst h; simp
  · rw [decide_eq_false h, beq_eq_false_iff_ne]; exact h

theorem behind_eq (s h : List UInt8) : windlassref02_behind_s (bsl s) (bsl h) = some (if h <+: s then (bsl (s.drop h.length), true) else (bsl [], false)) := by
  unfold windlassref02_behind_s
  simp only [jp, bsl_size]
  by_cases hl : s.length < h.length
  · rw [if_pos (by simpa using hl), if_pos trivial, if_neg (fun q => by have := q.length_le; omega)]; rfl
  · have e0 : subS (bsl s) 0 (h.length : Int) = some (bsl (s.take h.length)) := by
      have := sub_b s 0 h.length (by omega) (by omega)
      rw [show ((0 : Nat) : Int) = 0 from rfl] at this
      rw [this, List.drop_zero]
    rw [if_neg (by simpa using hl), e0, Option.bind_some, beq_bsl]
    by_cases hp : h <+: s
    · have : s.take h.length = h := (List.prefix_iff_eq_take.1 hp).symm
      rw [decide_eq_true this, if_neg (by simp), if_pos hp, sub_b _ _ _ (by omega) (Nat.le_refl _), Option.bind_some, List.take_length]
    · have : ¬ s.take h.length = h := fun q => hp (List.prefix_iff_eq_take.2 q.symm)
      rw [decide_eq_false this, if_pos (by simp), if_neg hp]; rfl

def valR (l : List UInt8) : Int × Bool := match numOf l with
  | some n => ((n : Int), true)
  | none => (0, false)

theorem numOf_none {l : List UInt8} (h : numP l = false ∨ 18446744073709551616 ≤ valD 0 l) : numOf l = none := by
  unfold numOf
  rw [if_neg]
  rintro ⟨h1, h2⟩
  rcases h with h | h
  · rw [h] at h1; cases h1
  · omega

theorem valD_take (l : List UInt8) (i : Nat) (h : i < l.length) (a : Nat) : valD a (l.take (i + 1)) = valD a (l.take i) * 10 + (l[i].toNat - 48) := by
  rw [List.take_add_one, List.getElem?_eq_getElem h, show (some l[i]).toList = [l[i]] from rfl, valD_snoc]
theorem valD_mono (l : List UInt8) (i : Nat) : valD 0 (l.take i) ≤ valD 0 l := by
  have e : l = l.take i ++ l.drop i := (List.take_append_drop i l).symm
  have app : ∀ (a b : List UInt8) (k : Nat), valD k (a ++ b) = valD (valD k a) b := by
    intro a
    induction a with
    | nil => intro b k; rw [List.nil_append, valD_nil]
    | cons x a ih => intro b k; rw [List.cons_append, valD_cons, ih, valD_cons]
  have h1 := valD_ge (l.drop i) (valD 0 (l.take i))
  rw [← app, List.take_append_drop] at h1
  exact h1
theorem all_take (l : List UInt8) (i : Nat) (h : i < l.length) (ha : (l.take i).all isDig = true) (hc : isDig l[i] = true) : (l.take (i + 1)).all isDig = true := by
  rw [List.take_add_one, List.getElem?_eq_getElem h, show (some l[i]).toList = [l[i]] from rfl, List.all_append, ha, List.all_cons, hc]; rfl
theorem not_all (l : List UInt8) (i : Nat) (h : i < l.length) (hc : isDig l[i] = false) : numP l = false := by
  unfold numP
  have : l.all isDig = false := by
    rw [Bool.eq_false_iff]
    intro q
    rw [List.all_eq_true.1 q l[i] (List.getElem_mem h)] at hc
    cases hc
  rw [this]; rfl

theorem value_eq (F : Nat) (l : List UInt8) (hF : l.length < F) (hl : l.length ≤ 28400000) : windlassref02_value_s F (bsl l) = some (valR l) := by
  unfold windlassref02_value_s
  simp only [jp, bsl_size]
  by_cases h0 : l.length = 0
  · have : l = [] := List.eq_nil_of_length_eq_zero h0
    subst this
    rfl
  · rw [if_neg (by simpa using h0)]
    have run : numP l = l.all isDig → ∀ {body : Int × Int → Option (Stp (Int × Int) (Option (Int × Bool)))},
        (∀ (n i : Nat) (h : i < l.length), n < 18446744073709551616 → body ((n : Int), (i : Int)) = if isDig l[i] = true then (if n * 10 + (l[i].toNat - 48) < 18446744073709551616 then some (.nxt (((n * 10 + (l[i].toNat - 48) : Nat) : Int), ((i + 1 : Nat) : Int))) else some (.ret (some (0, false)))) else some (.ret (some (0, false)))) →
        (∀ n : Int, body (n, (l.length : Int)) = some (.brk (n, (l.length : Int)))) →
        (whileN body F (0, 0)).bind (oc (fun (s_4 : (Int × Int)) => (some (s_4.1, true)))) = some (valR l) := by
      intro hnum body hb1 hb2
      refine bind_eq (whileN_ex (fun s => ∃ i : Nat, i ≤ l.length ∧ (l.take i).all isDig = true ∧ valD 0 (l.take i) < 18446744073709551616 ∧ s = ((valD 0 (l.take i) : Int), (i : Int))) (fun s => l.length - s.2.toNat) _ ?_ F _ ⟨0, by omega, rfl, by rw [List.take_zero, valD_nil]; omega, by rw [List.take_zero, valD_nil]; rfl⟩ (by simp; omega))
      rintro s ⟨i, hi, hall, hv, rfl⟩
      by_cases hlt : i < l.length
      · rw [hb1 _ i hlt hv]
        by_cases hd : isDig l[i] = true
        · rw [if_pos hd]
          have hvt := valD_take l i hlt 0
          by_cases hov : valD 0 (l.take i) * 10 + (l[i].toNat - 48) < 18446744073709551616
          · rw [if_pos hov]
            left
            exact ⟨_, rfl, ⟨i + 1, by omega, all_take l i hlt hall hd, by rw [hvt]; exact hov, by rw [hvt]⟩, by simp; omega⟩
          · rw [if_neg hov]
            right; right
            refine ⟨_, rfl, ?_⟩
            have := valD_mono l (i + 1)
            have hn : numOf l = none := numOf_none (.inr (by omega))
            simp only [oc, valR, hn]
        · rw [if_neg hd]
          right; right
          refine ⟨_, rfl, ?_⟩
          have hn : numOf l = none := numOf_none (.inl (not_all l i hlt (by simpa using hd)))
          simp only [oc, valR, hn]
      · obtain rfl : i = l.length := by omega
        rw [hb2]
        right; left
        refine ⟨_, rfl, ?_⟩
        rw [List.take_length] at hall hv ⊢
        have hn : numOf l = some (valD 0 l) := by
          unfold numOf; rw [if_pos ⟨by rw [hnum]; exact hall, hv⟩]
        simp only [oc, valR, hn]
    have step : ∀ (n i : Nat) (h : i < l.length), n < 18446744073709551616 →
        (if (decide ((i : Int) < (l.length : Int))) then ((strI (bsl l) (i : Int)).bind fun b_7 => (if (decide (b_7 < 48)) then (some (.ret (some (0, false)))) else ((strI (bsl l) (i : Int)).bind fun b_8 => (if (decide (b_8 > 57)) = true then (some (.ret (some (0, false)))) else ((strI (bsl l) (i : Int)).bind fun b_9 => (if (decide ((n : Int) > 1844674407370955161)) then (some (.ret (some (0, false)))) else (if ((n : Int) == 1844674407370955161) then (if (decide ((U64 (U8 (b_9 - 48))) > 5)) = true then (some (.ret (some (0, false)))) else (some (.nxt ((U64 ((U64 (10 * (n : Int))) + (U64 (U8 (b_9 - 48))))), (I64 ((i : Int) + 1)))))) else (some (.nxt ((U64 ((U64 (10 * (n : Int))) + (U64 (U8 (b_9 - 48))))), (I64 ((i : Int) + 1))))))))))) : Option (Stp (Int × Int) (Option (Int × Bool)))) else (some (.brk ((n : Int), (i : Int)))))
        = if isDig l[i] = true then (if n * 10 + (l[i].toNat - 48) < 18446744073709551616 then some (.nxt (((n * 10 + (l[i].toNat - 48) : Nat) : Int), ((i + 1 : Nat) : Int))) else some (.ret (some (0, false)))) else some (.ret (some (0, false))) := by
      intro n i h hn
      rw [if_pos (by simpa using h), strI_b l i h]
      simp only [Option.bind_some]
      generalize hc : l[i].toNat = c
      have hc2 : c < 256 := by rw [← hc]; exact UInt8.toNat_lt _
      by_cases hd : isDig l[i] = true
      · rw [if_pos hd]
        have hd' := hd
        unfold isDig at hd'
        simp only [decide_eq_true_eq, hc] at hd'
        have e8 : U64 (U8 ((c : Int) - 48)) = ((c - 48 : Nat) : Int) := by rw [U8_of (by omega), U64_of (by omega)]; omega
        have eI : I64 ((i : Int) + 1) = ((i + 1 : Nat) : Int) := by rw [I64_of (by omega)]; omega
        rw [if_neg (by simp; omega), if_neg (by simp; omega), e8, eI]
        by_cases hbig : 1844674407370955161 < n
        · rw [if_pos (by simp; omega), if_neg (by omega)]
        · rw [if_neg (by simp; omega)]
          have e10 : U64 (10 * (n : Int)) = ((n * 10 : Nat) : Int) := by rw [U64_of (by omega)]; omega
          rw [e10]
          by_cases heq : n = 1844674407370955161
          · rw [if_pos (by rw [heq]; rfl)]
            by_cases h5 : 5 < c - 48
            · rw [if_pos (by simp; omega), if_neg (by omega)]
            · have e11 : U64 (((n * 10 : Nat) : Int) + ((c - 48 : Nat) : Int)) = ((n * 10 + (c - 48) : Nat) : Int) := by rw [U64_of (by omega)]; omega
              rw [if_neg (by simp; omega), if_pos (by omega), e11]
          · have e11 : U64 (((n * 10 : Nat) : Int) + ((c - 48 : Nat) : Int)) = ((n * 10 + (c - 48) : Nat) : Int) := by rw [U64_of (by omega)]; omega
            rw [if_neg (by rw [beq_iff_eq]; omega), if_pos (by omega), e11]
      · rw [if_neg hd]
        have hd' : ¬ (48 ≤ c ∧ c ≤ 57) := by
          intro q
          apply hd
          unfold isDig
          rw [hc]
          simpa using q
        by_cases h1 : c < 48
        · rw [if_pos (by simp; omega)]
        · rw [if_neg (by simp; omega), if_pos (by simp; omega)]
    by_cases h1 : 1 < l.length
    · have hs0 := strI_b l 0 (by omega)
      rw [show ((0 : Nat) : Int) = 0 from rfl] at hs0
      rw [if_pos (by simp only [decide_eq_true_eq]; omega), hs0, Option.bind_some]
      by_cases h48 : l[0] = 48
      · have hnP : numP l = false := by
          unfold numP
          cases l with
          | nil => simp at h0
          | cons x r =>
            simp only [List.getElem_cons_zero] at h48
            have : ¬ (x :: r).length = 1 := by omega
            have e1 : decide ((x :: r).length = 1) = false := decide_eq_false this
            have e2 : decide ((x :: r).head? ≠ some 48) = false := by simp [h48]
            rw [e1, e2, Bool.or_false, Bool.and_false]
        rw [if_pos (by rw [h48]; rfl), valR, numOf_none (.inl hnP)]
      · have hh : ¬ (((l[0].toNat : Nat) : Int) == 48) = true := by
          rw [beq_iff_eq]
          intro q
          exact h48 (UInt8.toNat_inj.1 (by show l[0].toNat = 48; omega))
        rw [if_neg hh]
        refine run ?_ (fun n i h hn => ?_) (fun n => by rw [if_neg (by simp)])
        · unfold numP
          cases l with
          | nil => simp at h0
          | cons x r =>
            simp only [List.getElem_cons_zero] at h48
            simp [h48]
        · exact step n i h hn
    · rw [if_neg (by simp only [decide_eq_true_eq]; omega)]
      refine run ?_ (fun n i h hn => ?_) (fun n => by rw [if_neg (by simp)])
      · unfold numP
        have e1 : l.length = 1 := by omega
        have : l ≠ [] := fun q => by subst q; simp at h0
        simp [e1, this]
      · exact step n i h hn

theorem Split_eq (F : Nat) (l : List UInt8) (hF : l.length + 2 < F) (hl : l.length ≤ 28400000) : windlassref02_Split_s F (bsl l) 32 = some ((splitL 32 l).map bsl) := by
  unfold windlassref02_Split_s
  refine bind_eq ⟨.fin ((32 : Int), ((l.length + 1 : Nat) : Int), ((l.length + 1 : Nat) : Int), (splitL 32 l).map bsl), ?_, rfl⟩
  refine whileN_fin (fun s => ∃ (fr i : Nat) (ws : List (List UInt8)), fr ≤ i ∧ i ≤ l.length + 1 ∧ s = ((32 : Int), (fr : Int), (i : Int), ws.map bsl) ∧ ws.length ≤ i ∧
      (i ≤ l.length → (32 : UInt8) ∉ (l.drop fr).take (i - fr) ∧ splitL 32 l = ws ++ splitL 32 (l.drop fr)) ∧ (i = l.length + 1 → fr = l.length + 1 ∧ splitL 32 l = ws)) (fun s => l.length + 1 - s.2.2.1.toNat) _ ?_ _ _ ⟨0, 0, [], by omega, by omega, rfl, by simp, fun _ => ⟨by simp, by simp⟩, fun q => by omega⟩ (by simp; omega)
  rintro s ⟨fr, i, ws, hfi, hi, rfl, hws, hmid, hend⟩
  dsimp only [jp]
  rw [bsl_size]
  by_cases hle : i ≤ l.length
  · left
    obtain ⟨hno, hsp⟩ := hmid hle
    have eI : I64 ((i : Int) + 1) = ((i + 1 : Nat) : Int) := by rw [I64_of (by omega)]; omega
    rw [if_pos (by simpa using hle), eI]
    have hpiece : subS (bsl l) (fr : Int) (i : Int) = some (bsl ((l.drop fr).take (i - fr))) := by
      rw [sub_b l fr i hfi hle, List.drop_take]
    have happ : ∀ w : List UInt8, appL 16 (ws.map bsl) [bsl w] = some ((ws ++ [w]).map bsl) := by
      intro w; rw [appL_of (by simp; omega), List.map_append]; rfl
    by_cases hil : i = l.length
    · rw [if_pos (by rw [hil]; simp)]
      rw [if_pos rfl, hpiece, Option.bind_some, happ, Option.bind_some]
      refine ⟨_, rfl, ⟨i + 1, i + 1, ws ++ [(l.drop fr).take (i - fr)], by omega, by omega, rfl, by simp; omega, fun q => by omega, fun _ => ⟨by omega, ?_⟩⟩, by simp; omega⟩
      have e : (l.drop fr).take (i - fr) = l.drop fr := List.take_of_length_le (by rw [List.length_drop]; omega)
      rw [hsp, e, splitL_none 32 (l.drop fr) (by rw [← e]; exact hno)]
    · have hlt : i < l.length := by omega
      rw [if_neg (by rw [beq_iff_eq]; omega), strI_b l i hlt, Option.bind_some]
      have hdr : l.drop fr = (l.drop fr).take (i - fr) ++ l[i] :: l.drop (i + 1) := by
        have h1 : (l.drop fr).drop (i - fr) = l.drop i := by rw [List.drop_drop]; congr 1; omega
        have h2 : l.drop i = l[i] :: l.drop (i + 1) := List.drop_eq_getElem_cons hlt
        rw [← h2, ← h1, List.take_append_drop]
      by_cases h32 : l[i] = 32
      · rw [if_pos (by rw [h32]; rfl), hpiece, Option.bind_some, happ, Option.bind_some]
        refine ⟨_, rfl, ⟨i + 1, i + 1, ws ++ [(l.drop fr).take (i - fr)], by omega, by omega, rfl, by simp; omega, fun _ => ⟨by simp, ?_⟩, fun q => by omega⟩, by simp; omega⟩
        rw [hsp]
        conv => lhs; rw [hdr, h32, splitL_app 32 _ hno]
        simp
      · have hh : ¬ (((l[i].toNat : Nat) : Int) == 32) = true := by
          rw [beq_iff_eq]
          intro q
          exact h32 (UInt8.toNat_inj.1 (by show l[i].toNat = 32; omega))
        rw [if_neg hh]
        refine ⟨_, rfl, ⟨fr, i + 1, ws, by omega, by omega, rfl, by omega, fun _ => ⟨?_, hsp⟩, fun q => by omega⟩, by simp; omega⟩
        rw [show i + 1 - fr = (i - fr) + 1 by omega, List.take_add_one]
        have : (l.drop fr)[i - fr]? = some l[i] := by
          rw [List.getElem?_drop, show fr + (i - fr) = i by omega, List.getElem?_eq_getElem hlt]
        rw [this]
        intro hm
        rcases List.mem_append.1 hm with q | q
        · exact hno q
        · simp at q; exact h32 q.symm
  · right
    obtain rfl : i = l.length + 1 := by omega
    obtain ⟨rfl, hsp⟩ := hend rfl
    rw [if_neg (by simp; omega), hsp]
end Go.Proofs.YtkfhljombjmdbaaDoor
/- Plain laws of the trace's texts: what every text is read as, by the program and by the document. -/
namespace Go.Proofs.YtkfhljombjmdbaaDoor
open Go Go.Ab Go.RowKit
set_option maxRecDepth 20000
set_option linter.unusedVariables false
set_option linter.unusedSimpArgs false

theorem TSplit_eq (l : List UInt8) (hl : l.length ≤ 28400000) : strings_Split_s (bsl l) (ByteArray.mk #[32]) = some ((splitL 32 l).map bsl) := by
  unfold strings_Split_s
  rw [if_pos ⟨by rw [bsl_size]; omega, by decide⟩]
  congr 1
  have h1 := Lib.splitB_data (bsl [32]) 0 (Lib.countB (bsl l) (bsl [32])) (bsl l)
  have h2 : Lib.countB (bsl l) (bsl [32]) = l.count 32 := by
    show Lib.count (bsl l).data.toList (bsl [32]).data.toList = _
    rw [bsl_data, bsl_data, Lib.count_one]
  rw [bsl_data, bsl_data, splitK_ge 32 _ l (by rw [h2]; exact Nat.le_refl _)] at h1
  rw [← h1, List.map_map]
  show _ = List.map (bsl ∘ fun (x : ByteArray) => x.data.toList) _
  rw [show (bsl ∘ fun (x : ByteArray) => x.data.toList) = id from funext fun x => (bsl_eq x).symm, List.map_id]
  rfl

def numAt (w h : List UInt8) : Option Nat := if h <+: w then numOf (w.drop h.length) else none

theorem cut_eq (w h : List UInt8) : strings_CutPrefix_s (bsl w) (bsl h) = some (if h <+: w then (bsl (w.drop h.length), true) else (bsl w, false)) := by
  unfold strings_CutPrefix_s
  rw [bsl_data, bsl_data]
  by_cases hp : h <+: w
  · have h1 : Lib.hasPrefix w h = true := by unfold Lib.hasPrefix; exact List.isPrefixOf_iff_prefix.2 hp
    have h2 : Lib.trimPrefix w h = w.drop h.length := by unfold Lib.trimPrefix; rw [if_pos h1]
    rw [if_pos hp, h1, h2]; rfl
  · have h1 : Lib.hasPrefix w h = false := by
      rw [Bool.eq_false_iff]; intro q; unfold Lib.hasPrefix at q; exact hp (List.isPrefixOf_iff_prefix.1 q)
    have h2 : Lib.trimPrefix w h = w := by unfold Lib.trimPrefix; rw [h1, if_neg (by simp)]
    rw [if_neg hp, h1, h2]; rfl

theorem fmtN (u : Nat) (h : u < 18446744073709551616) : strconv_FormatUint_s (u : Int) 10 = some (bsl (Lib.decDigits u)) := by
  unfold strconv_FormatUint_s internal_strconv_FormatUint_s
  rw [if_pos ⟨rfl, by omega, by omega⟩, Int.toNat_natCast, digs19 u h]; rfl

theorem parse_eq (r : List UInt8) (hr : r.length ≤ 28400000) : ∃ p : Int × Bool, strconv_ParseUint_s (bsl r) 10 64 = some p ∧ ((∃ u : Nat, p = ((u : Int), false) ∧ Lib.parseUintB 64 r = .ok u) ∨ (p.2 = true ∧ numOf r = none)) := by
  have hno : (∀ u, Lib.parseUintB 64 r ≠ .ok u) → numOf r = none := by
    intro h
    cases q : numOf r with
    | none => rfl
    | some m =>
      obtain ⟨q1, q2⟩ := (numOf_iff r m).1 q
      exact (h m (parse_num r m q2 q1)).elim
  unfold strconv_ParseUint_s
  rw [if_pos ⟨rfl, rfl, by rw [bsl_size]; omega⟩, bsl_data]
  cases e : Lib.parseUintB 64 r with
  | ok u => exact ⟨_, rfl, .inl ⟨u, rfl, rfl⟩⟩
  | «syntax» => exact ⟨_, rfl, .inr ⟨rfl, hno (fun u q => by rw [e] at q; cases q)⟩⟩
  | range => exact ⟨_, rfl, .inr ⟨rfl, hno (fun u q => by rw [e] at q; cases q)⟩⟩

theorem number_eq (w name : List UInt8) (hw : w.length ≤ 28400000) (hn : name.length ≤ 10) :
    ∃ n' : Int, trace_number_s (bsl w) (bsl name) = some (n', (numAt w (name ++ [61])).isSome) ∧ ∀ n : Nat, numAt w (name ++ [61]) = some n → n' = n := by
  unfold trace_number_s
  rw [show (ByteArray.mk #[61]) = bsl [61] from rfl, cat_b _ _ (by simp; omega), Option.bind_some, cut_eq, Option.bind_some]
  unfold numAt
  simp only [jp]
  by_cases hp : name ++ [61] <+: w
  · rw [if_pos hp, if_pos hp]
    generalize hr : w.drop (name ++ [61]).length = r
    have hrl : r.length ≤ 28400000 := by rw [← hr, List.length_drop]; omega
    obtain ⟨p, hp1, hp2⟩ := parse_eq r hrl
    rw [hp1, Option.bind_some]
    rcases hp2 with ⟨u, rfl, e⟩ | ⟨h2, hN⟩
    · have hu := parse_lt r u e
      simp only [Bool.not_false, if_true]
      rw [fmtN u hu, Option.bind_some, beq_bsl]
      by_cases hd : Lib.decDigits u = r
      · have hN : numOf r = some u := (numOf_iff r u).2 ⟨hd.symm, hu⟩
        rw [hN, decide_eq_true hd]
        exact ⟨u, rfl, fun n q => by cases q; rfl⟩
      · have hN : numOf r = none := by
          cases q : numOf r with
          | none => rfl
          | some m =>
            obtain ⟨q1, q2⟩ := (numOf_iff r m).1 q
            have := parse_num r m q2 q1
            rw [e] at this
            cases this
            exact (hd q1.symm).elim
        rw [hN, decide_eq_false hd]
        exact ⟨u, rfl, fun n q => by cases q⟩
    · rw [hN, h2, if_pos rfl, if_neg (by simp)]
      exact ⟨p.1, rfl, fun n q => by cases q⟩
  · rw [if_neg hp, if_neg hp]
    obtain ⟨p, hp1, hp2⟩ := parse_eq w hw
    rw [hp1, Option.bind_some, if_neg (by simp)]
    exact ⟨p.1, rfl, fun n q => by cases q⟩

def wordEv (w : List UInt8) : Option Event := match numAt w [111, 117, 116, 61] with
  | some n => some (Event.mk 1 n)
  | none => match numAt w [105, 110, 61] with
    | some n => some (Event.mk 2 n)
    | none => none
def endEv (w : List UInt8) : Option End := match numAt w [101, 120, 105, 116, 61] with
  | some n => some (End.mk 1 n)
  | none => match numAt w [112, 97, 110, 105, 99, 61] with
    | some n => some (End.mk 2 n)
    | none => if w = [102, 117, 101, 108] then some (End.mk 3 0) else if w = [115, 116, 97, 99, 107] then some (End.mk 4 0) else if w = [115, 116, 117, 99, 107] then some (End.mk 5 0) else none
def evsOf : List (List UInt8) → Option (List Event)
  | [] => some []
  | w :: r => match wordEv w with
    | none => none
    | some e => match evsOf r with
      | none => none
      | some l => some (e :: l)

theorem two_heads {w : List UInt8} {a b : UInt8} {h k : List UInt8} (hab : a ≠ b) (h1 : a :: h <+: w) : ¬ b :: k <+: w := by
  intro h2
  cases w with
  | nil => have := h1.length_le; simp at this
  | cons x r =>
    have e1 := (List.cons_prefix_cons.1 h1).1
    have e2 := (List.cons_prefix_cons.1 h2).1
    exact hab (e1.trans e2.symm)
theorem numAt_none {w h : List UInt8} (hp : ¬ h <+: w) : numAt w h = none := if_neg hp
theorem numAt_pre {w h : List UInt8} {n : Nat} (e : numAt w h = some n) : h <+: w := by
  unfold numAt at e
  split at e
  · assumption
  · cases e

theorem inner_eq (w : List UInt8) (hw : w.length ≤ 28400000) (l : List Event) (hl : l.length ≤ 28400000) {ρ : Type} :
    rng (fun (i_8 : Nat) (k_9 : Int) (s_7 : (Bool × (List Event))) => (((trace_event_s k_9).bind fun eve_11 => ((trace_number_s (bsl w) eve_11).bind fun num_12 => (if num_12.2 then ((appL 16 s_7.2 [(Event.mk k_9 num_12.1)]).bind fun l_13 => (some (.nxt (true, l_13)))) else (some (.nxt (s_7.1, s_7.2)))))) : Option (Stp (Bool × (List Event)) ρ))) [1, 2] (false, l)
      = some (.fin (match wordEv w with | some ev => (true, l ++ [ev]) | none => (false, l))) := by
  unfold rng
  rw [if_pos (by simp)]
  have e1 : trace_event_s 1 = some (bsl [111, 117, 116]) := rfl
  have e2 : trace_event_s 2 = some (bsl [105, 110]) := rfl
  obtain ⟨n1, q1, r1⟩ := number_eq w [111, 117, 116] hw (by simp)
  obtain ⟨n2, q2, r2⟩ := number_eq w [105, 110] hw (by simp)
  simp only [rangeL, e1, e2, Option.bind_some, q1, q2]
  simp only [List.cons_append, List.nil_append] at r1 r2 ⊢
  have c1 : ∀ m : Int, appL 16 l [Event.mk m n1] = some (l ++ [Event.mk m n1]) := fun m => appL_of (by simp; omega)
  have c2 : ∀ m : Int, appL 16 l [Event.mk m n2] = some (l ++ [Event.mk m n2]) := fun m => appL_of (by simp; omega)
  rw [c1]
  by_cases h1 : ∃ n, numAt w [111, 117, 116, 61] = some n
  · obtain ⟨n, h1⟩ := h1
    have h2 : numAt w [105, 110, 61] = none := numAt_none (two_heads (by decide) (numAt_pre h1))
    have e3 : wordEv w = some (Event.mk 1 n) := by unfold wordEv; simp only [h1]
    rw [e3, r1 n h1]
    simp only [h1, h2, Option.isSome_some, if_true, Option.isSome_none, Bool.false_eq_true, if_false, Option.bind_some]
  · have h1' : numAt w [111, 117, 116, 61] = none := by
      cases q : numAt w [111, 117, 116, 61] with
      | none => rfl
      | some n => exact (h1 ⟨n, q⟩).elim
    by_cases h2 : ∃ n, numAt w [105, 110, 61] = some n
    · obtain ⟨n, h2⟩ := h2
      have e3 : wordEv w = some (Event.mk 2 n) := by unfold wordEv; simp only [h1', h2]
      rw [e3, ← r2 n h2]
      simp only [h1', h2, Option.isSome_some, if_true, Option.isSome_none, Bool.false_eq_true, if_false, c2, Option.bind_some]
    · have h2' : numAt w [105, 110, 61] = none := by
        cases q : numAt w [105, 110, 61] with
        | none => rfl
        | some n => exact (h2 ⟨n, q⟩).elim
      have e3 : wordEv w = none := by unfold wordEv; simp only [h1', h2']
      rw [e3]
      simp only [h1', h2', Option.isSome_none, Bool.false_eq_true, if_false]
end Go.Proofs.YtkfhljombjmdbaaDoor
/- Plain laws of the trace's texts: Parse and Read. -/
namespace Go.Proofs.YtkfhljombjmdbaaDoor
open Go Go.Ab Go.RowKit
set_option maxRecDepth 20000
set_option linter.unusedVariables false
set_option linter.unusedSimpArgs false

theorem outer_run {ρ : Type} (v : ρ) {body : Nat → ByteArray → List Event → Option (Stp (List Event) ρ)}
    (hb : ∀ i w l, w.length ≤ 28400000 → l.length ≤ 28400000 → body i (bsl w) l = match wordEv w with | some ev => some (.nxt (l ++ [ev])) | none => some (.ret v)) :
    ∀ (ws : List (List UInt8)) (k : Nat) (l : List Event), (∀ w ∈ ws, w.length ≤ 28400000) → l.length + ws.length ≤ 28400000 →
      rangeL body (ws.map bsl) k l = some (match evsOf ws with | some evs => .fin (l ++ evs) | none => .ret v)
  | [], k, l, _, _ => by simp [rangeL, evsOf]
  | w :: r, k, l, h, hl => by
    rw [List.map_cons, rangeL, hb k w l (h w (by simp)) (by simp at hl; omega)]
    cases e : wordEv w with
    | none => simp [evsOf, e]
    | some ev =>
      simp only
      rw [outer_run v hb r (k + 1) (l ++ [ev]) (fun x hx => h x (by simp [hx])) (by simp at hl ⊢; omega)]
      simp only [evsOf, e]
      cases evsOf r with
      | none => rfl
      | some evs => simp

/-- What every text is read as. -/
def parseX (l : List UInt8) : Option (List Event × End) :=
  match evsOf (splitL 32 l).dropLast, endEv ((splitL 32 l).getLast (splitL_ne 32 l)) with
  | some evs, some e => some (evs, e)
  | _, _ => none

theorem split_parts (l : List UInt8) : ∃ ini last, splitL 32 l = ini ++ [last] ∧ ini = (splitL 32 l).dropLast ∧ last = (splitL 32 l).getLast (splitL_ne 32 l) :=
  ⟨_, _, (List.dropLast_concat_getLast (splitL_ne 32 l)).symm, rfl, rfl⟩
theorem parseX_eq {l : List UInt8} {ini : List (List UInt8)} {last : List UInt8} (h : splitL 32 l = ini ++ [last]) : parseX l = match evsOf ini, endEv last with
    | some evs, some e => some (evs, e)
    | _, _ => none := by
  unfold parseX
  have e1 : (splitL 32 l).dropLast = ini := by rw [h, List.dropLast_concat]
  have e2 : (splitL 32 l).getLast (splitL_ne 32 l) = last := by
    have : ∀ (x : List (List UInt8)) (hx : x ≠ []), x = ini ++ [last] → x.getLast hx = last := by
      intro x hx e; subst e; simp
    exact this _ _ h
  rw [e1, e2]

theorem join_len (ws : List (List UInt8)) : ∀ w ∈ ws, w.length ≤ (Lib.join ws [32]).length ∧ ws.length ≤ (Lib.join ws [32]).length + 1 := by
  intro w hw
  obtain ⟨x, r, rfl⟩ := List.exists_cons_of_ne_nil (List.ne_nil_of_mem hw)
  rw [Lib.join_length]
  have h1 : ∀ (l : List (List UInt8)), ∀ u ∈ l, u.length ≤ Lib.lens l := by
    intro l
    induction l with
    | nil => intro u hu; simp at hu
    | cons a b ih =>
      intro u hu
      have : Lib.lens (a :: b) = a.length + Lib.lens b := by simp [Lib.lens]
      rcases List.mem_cons.1 hu with rfl | q
      · omega
      · have := ih u q; omega
  have := h1 (x :: r) w hw
  refine ⟨by omega, ?_⟩
  simp
theorem split_len (l : List UInt8) : (splitL 32 l).length ≤ l.length + 1 ∧ ∀ w ∈ splitL 32 l, w.length ≤ l.length := by
  have h := join_len (splitL 32 l)
  rw [splitL_join] at h
  obtain ⟨x, r, e⟩ := List.exists_cons_of_ne_nil (splitL_ne 32 l)
  exact ⟨(h x (by rw [e]; simp)).2, fun w hw => (h w hw).1⟩

theorem endV (w : List UInt8) (hw : w.length ≤ 28400000) (evs : List Event) {β : Type} {v : End → β} {body : Int → Option (Stp Int β)}
    (hb : ∀ k : Int, body k = if decide (k ≤ 5) = true then ((trace_Ended_s (End.mk k 0)).bind fun vend_18 => (if vend_18 then ((trace_ending_s k).bind fun vend_19 => ((trace_number_s (bsl w) vend_19).bind fun num_20 => (if num_20.2 then (some (.ret (v (End.mk k num_20.1)))) else (some (.nxt (I64 (k + 1))))))) else ((trace_ending_s k).bind fun vend_21 => (if (ByteArray.toList (bsl w) == ByteArray.toList vend_21) then (some (.ret (v (End.mk k 0)))) else (some (.nxt (I64 (k + 1)))))))) else some (.brk k)) (F : Nat) (hF : 6 ≤ F) :
    whileN body F 1 = some (match endEv w with | some e => .ret (v e) | none => .fin 6) := by
  have x1 : trace_Ended_s (End.mk 1 0) = some true := rfl
  have x2 : trace_Ended_s (End.mk 2 0) = some true := rfl
  have x3 : trace_Ended_s (End.mk 3 0) = some false := rfl
  have x4 : trace_Ended_s (End.mk 4 0) = some false := rfl
  have x5 : trace_Ended_s (End.mk 5 0) = some false := rfl
  have y1 : trace_ending_s 1 = some (bsl [101, 120, 105, 116]) := rfl
  have y2 : trace_ending_s 2 = some (bsl [112, 97, 110, 105, 99]) := rfl
  have y3 : trace_ending_s 3 = some (bsl [102, 117, 101, 108]) := rfl
  have y4 : trace_ending_s 4 = some (bsl [115, 116, 97, 99, 107]) := rfl
  have y5 : trace_ending_s 5 = some (bsl [115, 116, 117, 99, 107]) := rfl
  obtain ⟨n1, q1, r1⟩ := number_eq w [101, 120, 105, 116] hw (by simp)
  obtain ⟨n2, q2, r2⟩ := number_eq w [112, 97, 110, 105, 99] hw (by simp)
  simp only [List.cons_append, List.nil_append] at q1 q2 r1 r2
  have b1 : body 1 = if (numAt w [101, 120, 105, 116, 61]).isSome = true then some (.ret (v (End.mk 1 n1))) else some (.nxt 2) := by
    rw [hb, if_pos (by decide), x1, Option.bind_some, if_pos rfl, y1, Option.bind_some, q1]; rfl
  have b2 : body 2 = if (numAt w [112, 97, 110, 105, 99, 61]).isSome = true then some (.ret (v (End.mk 2 n2))) else some (.nxt 3) := by
    rw [hb, if_pos (by decide), x2, Option.bind_some, if_pos rfl, y2, Option.bind_some, q2]; rfl
  have b3 : body 3 = if w = [102, 117, 101, 108] then some (.ret (v (End.mk 3 0))) else some (.nxt 4) := by
    rw [hb, if_pos (by decide), x3, Option.bind_some, if_neg (by simp), y3, Option.bind_some, beq_bsl]
    by_cases h : w = [102, 117, 101, 108] <;> simp [h] <;> rfl
  have b4 : body 4 = if w = [115, 116, 97, 99, 107] then some (.ret (v (End.mk 4 0))) else some (.nxt 5) := by
    rw [hb, if_pos (by decide), x4, Option.bind_some, if_neg (by simp), y4, Option.bind_some, beq_bsl]
    by_cases h : w = [115, 116, 97, 99, 107] <;> simp [h] <;> rfl
  have b5 : body 5 = if w = [115, 116, 117, 99, 107] then some (.ret (v (End.mk 5 0))) else some (.nxt 6) := by
    rw [hb, if_pos (by decide), x5, Option.bind_some, if_neg (by simp), y5, Option.bind_some, beq_bsl]
    by_cases h : w = [115, 116, 117, 99, 107] <;> simp [h] <;> rfl
  have b6 : body 6 = some (.brk 6) := by rw [hb, if_neg (by decide)]
  refine whileN_more 6 F _ _ ?_ hF
  unfold endEv
  cases h1 : numAt w [101, 120, 105, 116, 61] with
  | some n =>
    rw [h1, if_pos (by rfl), r1 n h1] at b1
    rw [whileN_ret b1]
  | none =>
    rw [h1, if_neg (by simp)] at b1
    rw [whileN_step b1]
    cases h2 : numAt w [112, 97, 110, 105, 99, 61] with
    | some n =>
      rw [h2, if_pos (by rfl), r2 n h2] at b2
      rw [whileN_ret b2]
    | none =>
      rw [h2, if_neg (by simp)] at b2
      rw [whileN_step b2]
      by_cases h3 : w = [102, 117, 101, 108]
      · rw [if_pos h3] at b3; rw [whileN_ret b3]; simp only [if_pos h3]
      · rw [if_neg h3] at b3; rw [whileN_step b3]; simp only [if_neg h3]
        by_cases h4 : w = [115, 116, 97, 99, 107]
        · rw [if_pos h4] at b4; rw [whileN_ret b4]; simp only [if_pos h4]
        · rw [if_neg h4] at b4; rw [whileN_step b4]; simp only [if_neg h4]
          by_cases h5 : w = [115, 116, 117, 99, 107]
          · rw [if_pos h5] at b5; rw [whileN_ret b5]; simp only [if_pos h5]
          · rw [if_neg h5] at b5; rw [whileN_step b5, whileN_brk b6]; simp only [if_neg h5]

theorem Parse_eq (F : Nat) (hF : 6 ≤ F) (l : List UInt8) (hl : l.length ≤ 28399990) :
    trace_Parse_s F (bsl l) = some (match parseX l with | some (evs, e) => (evs, e, 0) | none => ([], End.mk 0 0, 30)) := by
  unfold trace_Parse_s
  obtain ⟨ini, last, hs, _, _⟩ := split_parts l
  obtain ⟨hn, hw⟩ := split_len l
  rw [TSplit_eq l (by omega), Option.bind_some, parseX_eq hs]
  rw [hs] at hn hw ⊢
  have hini : ini.length ≤ l.length := by simp at hn; omega
  have eI : I64 (((((ini ++ [last]).map bsl).length : Nat) : Int) - 1) = (ini.length : Int) := by rw [I64_of (by simp; omega)]; simp
  rw [eI]
  have hsub : subL ((ini ++ [last]).map bsl) 0 (ini.length : Int) = some (ini.map bsl) := by
    unfold subL
    rw [if_pos (by simp; omega)]
    simp
  rw [hsub, Option.bind_some]
  have hrun := outer_run (ρ := Option (List Event × End × Int)) (some ([], (End.mk 0 0), 30)) (body := fun (i_4 : Nat) (w_5 : ByteArray) (s_3 : (List Event)) => (((rng (fun (i_8 : Nat) (k_9 : Int) (s_7 : (Bool × (List Event))) => (((trace_event_s k_9).bind fun eve_11 => ((trace_number_s w_5 eve_11).bind fun num_12 => (if num_12.2 then ((appL 16 s_7.2 [(Event.mk k_9 num_12.1)]).bind fun l_13 => (some (.nxt (true, l_13)))) else (some (.nxt (s_7.1, s_7.2)))))) : Option (Stp (Bool × (List Event)) (Option (Stp (List Event) (Option ((List Event) × End × Int))))))) [1, 2] (false, s_3)).bind (oc (fun (s_7 : (Bool × (List Event))) => (if (!s_7.1) then (some (.ret (some ([], (End.mk 0 0), 30)))) else (some (.nxt s_7.2)))))) : Option (Stp (List Event) (Option ((List Event) × End × Int)))))
    (fun i w l h1 h2 => by
      rw [inner_eq w h1 l h2]
      cases wordEv w <;> rfl) ini 0 [] (fun w h => by have := hw w (by simp [h]); omega) (by simp; omega)
  unfold rng at hrun ⊢
  rw [if_pos (by simp; omega), hrun, Option.bind_some]
  cases h1 : evsOf ini with
  | none => rfl
  | some evs =>
    simp only [oc, List.nil_append]
    rw [getI_nat]
    rw [show ((ini ++ [last]).map bsl)[ini.length]? = some (bsl last) by simp, Option.bind_some]
    have hv := endV last (by have := hw last (by simp); omega) evs (v := fun e => some (evs, e, (0 : Int))) (body := fun (s_15 : Int) => ((if (decide (s_15 ≤ 5)) then (jp (fun (s_17 : Unit) => (some (.nxt (I64 (s_15 + 1))))) (fun k_16 => ((trace_Ended_s (End.mk s_15 0)).bind fun vend_18 => (if vend_18 then ((trace_ending_s s_15).bind fun vend_19 => ((trace_number_s (bsl last) vend_19).bind fun num_20 => (if num_20.2 then (some (.ret (some (evs, (End.mk s_15 num_20.1), 0)))) else (k_16 ())))) else ((trace_ending_s s_15).bind fun vend_21 => (if (ByteArray.toList (bsl last) == ByteArray.toList vend_21) then (some (.ret (some (evs, (End.mk s_15 0), 0)))) else (k_16 ()))))))) else (some (.brk s_15))) : Option (Stp Int (Option ((List Event) × End × Int)))))
      (fun k => rfl) F hF
    rw [hv, Option.bind_some]
    cases endEv last <;> rfl
end Go.Proofs.YtkfhljombjmdbaaDoor
/- Plain laws of the trace's texts: the document's reading, and the law. -/
namespace Go.Proofs.YtkfhljombjmdbaaDoor
open Go Go.Ab Go.RowKit
set_option maxRecDepth 20000
set_option linter.unusedVariables false
set_option linter.unusedSimpArgs false

theorem valR_some {l : List UInt8} {n : Nat} (h : numOf l = some n) : valR l = ((n : Int), true) := by unfold valR; rw [h]
theorem valR_none {l : List UInt8} (h : numOf l = none) : valR l = (0, false) := by unfold valR; rw [h]

/-- A word, tried as an event. -/
theorem heads_eq (F : Nat) (hF : 28400000 < F) (w : List UInt8) (hw : w.length ≤ 28400000) {ρ : Type} {body : Nat → ByteArray → Int × Int → Option (Stp (Int × Int) ρ)}
    (hb : ∀ i h s, body i h s = (windlassref02_behind_s (bsl w) h).bind fun beh_8 => (if beh_8.2 then ((windlassref02_value_s F beh_8.1).bind fun val_9 => (if val_9.2 then (some (.nxt ((I64 ((i : Int) + 1)), val_9.1))) else (some (.nxt (s.1, s.2))))) else (some (.nxt (s.1, s.2))))) :
    rng body [(ByteArray.mk #[111, 117, 116, 61]), (ByteArray.mk #[105, 110, 61])] (0, 0) = some (.fin (match wordEv w with | some ev => (ev.Kind, ev.Value) | none => (0, 0))) := by
  unfold rng
  rw [if_pos (by simp)]
  have st : ∀ (i : Nat) (h : List UInt8) (s : Int × Int), i ≤ 1 → body i (bsl h) s = some (.nxt (match numAt w h with | some n => (((i + 1 : Nat) : Int), (n : Int)) | none => s)) := by
    intro i h s hi
    rw [hb, behind_eq, Option.bind_some]
    by_cases hp : h <+: w
    · have hl : (w.drop h.length).length ≤ 28400000 := by rw [List.length_drop]; omega
      rw [if_pos hp, if_pos rfl, value_eq F _ (by omega) hl, Option.bind_some]
      have e : numAt w h = numOf (w.drop h.length) := if_pos hp
      rw [e]
      cases q : numOf (w.drop h.length) with
      | some n =>
        rw [valR_some q, if_pos rfl, I64_of (by omega)]
        congr 3
        
      | none => rw [valR_none q, if_neg (by simp)]
    · rw [if_neg hp, if_neg (by simp), numAt_none hp]
  have s1 := st 0 [111, 117, 116, 61] (0, 0) (by omega)
  simp only [rangeL]
  rw [show (ByteArray.mk #[111, 117, 116, 61]) = bsl [111, 117, 116, 61] from rfl, show (ByteArray.mk #[105, 110, 61]) = bsl [105, 110, 61] from rfl, s1]
  simp only
  rw [st 1 [105, 110, 61] _ (by omega)]
  simp only
  unfold wordEv
  cases h1 : numAt w [111, 117, 116, 61] with
  | some n =>
    have h2 : numAt w [105, 110, 61] = none := numAt_none (two_heads (by decide) (numAt_pre h1))
    rw [h2]; rfl
  | none =>
    cases h2 : numAt w [105, 110, 61] with
    | some n => rfl
    | none => rfl

theorem read_run {ws : List ByteArray} {ini : List (List UInt8)} {last : List UInt8} (hws : ws = (ini ++ [last]).map bsl) (hlen : ini.length ≤ 28400000) {β : Type} {v : β}
    {body : Int × List Event → Option (Stp (Int × List Event) β)}
    (hb : ∀ (i : Nat) (w : List UInt8) (out : List Event), ini[i]? = some w → out.length ≤ i → body ((i : Int), out) = match wordEv w with | some ev => some (.nxt (((i + 1 : Nat) : Int), out ++ [ev])) | none => some (.ret v))
    (he : ∀ out : List Event, body ((ini.length : Int), out) = some (.brk ((ini.length : Int), out))) :
    ∀ (d i F : Nat) (out : List Event), i + d = ini.length → out.length ≤ i → d < F → whileN body F ((i : Int), out) = some (match evsOf (ini.drop i) with | some evs => .fin ((ini.length : Int), out ++ evs) | none => .ret v)
  | 0, i, F, out, hi, ho, hF => by
    obtain rfl : i = ini.length := by omega
    obtain ⟨F, rfl⟩ : ∃ k, F = k + 1 := ⟨F - 1, by omega⟩
    rw [whileN_brk (he out), List.drop_length]
    simp [evsOf]
  | d + 1, i, F, out, hi, ho, hF => by
    obtain ⟨F, rfl⟩ : ∃ k, F = k + 1 := ⟨F - 1, by omega⟩
    have hlt : i < ini.length := by omega
    have hbi := hb i ini[i] out (List.getElem?_eq_getElem hlt) ho
    rw [List.drop_eq_getElem_cons hlt]
    cases e : wordEv ini[i] with
    | none =>
      rw [e] at hbi
      rw [whileN_ret hbi]
      simp [evsOf, e]
    | some ev =>
      rw [e] at hbi
      rw [whileN_step hbi, read_run hws hlen hb he d (i + 1) F (out ++ [ev]) (by omega) (by simp; omega) (by omega)]
      simp only [evsOf, e]
      cases evsOf (ini.drop (i + 1)) with
      | none => rfl
      | some evs => simp

theorem ends_eq (F : Nat) (hF : 28400000 < F) (w : List UInt8) (hw : w.length ≤ 28400000) (evs : List Event) {b1 b2 : Nat → ByteArray → Unit → Option (Stp Unit (Option (List Event × End × Bool)))}
    (h1 : ∀ i h s, b1 i h s = (windlassref02_behind_s (bsl w) h).bind fun beh_16 => (if beh_16.2 then ((windlassref02_value_s F beh_16.1).bind fun val_17 => (if (!val_17.2) then (some (.ret (some ([], (End.mk 0 0), false)))) else (some (.ret (some (evs, (End.mk (I64 ((i : Int) + 1)) val_17.1), true)))))) else (some (.nxt ()))))
    (h2 : ∀ i n s, b2 i n s = if (ByteArray.toList (bsl w) == ByteArray.toList n) then (some (.ret (some (evs, (End.mk (I64 ((i : Int) + 3)) 0), true)))) else (some (.nxt ()))) :
    ((rng b1 [(ByteArray.mk #[101, 120, 105, 116, 61]), (ByteArray.mk #[112, 97, 110, 105, 99, 61])] ()).bind (oc (fun (s_12 : Unit) => ((rng b2 [(ByteArray.mk #[102, 117, 101, 108]), (ByteArray.mk #[115, 116, 97, 99, 107]), (ByteArray.mk #[115, 116, 117, 99, 107])] ()).bind (oc (fun (s_18 : Unit) => (some ([], (End.mk 0 0), false))))))))
      = some (match endEv w with | some e => (evs, e, true) | none => ([], End.mk 0 0, false)) := by
  have st : ∀ (i : Nat) (h : List UInt8), i ≤ 1 → b1 i (bsl h) () = if h <+: w then (match numOf (w.drop h.length) with | some n => some (.ret (some (evs, End.mk ((i + 1 : Nat) : Int) n, true))) | none => some (.ret (some ([], (End.mk 0 0), false)))) else some (.nxt ()) := by
    intro i h hi
    rw [h1, behind_eq, Option.bind_some]
    by_cases hp : h <+: w
    · have hl : (w.drop h.length).length ≤ 28400000 := by rw [List.length_drop]; omega
      rw [if_pos hp, if_pos hp, if_pos rfl, value_eq F _ (by omega) hl, Option.bind_some]
      cases q : numOf (w.drop h.length) with
      | some n => rw [valR_some q, if_neg (by simp), I64_of (by omega)]; rfl
      | none => rw [valR_none q]; rfl
    · rw [if_neg hp, if_neg hp, if_neg (by simp)]
  have st2 : ∀ (i : Nat) (n : List UInt8), i ≤ 2 → b2 i (bsl n) () = if w = n then some (.ret (some (evs, End.mk ((i + 3 : Nat) : Int) 0, true))) else some (.nxt ()) := by
    intro i n hi
    rw [h2, beq_bsl]
    by_cases h : w = n
    · rw [decide_eq_true h, if_pos rfl, if_pos h, I64_of (by omega)]; rfl
    · rw [decide_eq_false h, if_neg (by simp), if_neg h]
  unfold rng
  rw [if_pos (by simp), if_pos (by simp)]
  rw [show (ByteArray.mk #[101, 120, 105, 116, 61]) = bsl [101, 120, 105, 116, 61] from rfl, show (ByteArray.mk #[112, 97, 110, 105, 99, 61]) = bsl [112, 97, 110, 105, 99, 61] from rfl, show (ByteArray.mk #[102, 117, 101, 108]) = bsl [102, 117, 101, 108] from rfl, show (ByteArray.mk #[115, 116, 97, 99, 107]) = bsl [115, 116, 97, 99, 107] from rfl, show (ByteArray.mk #[115, 116, 117, 99, 107]) = bsl [115, 116, 117, 99, 107] from rfl]
  simp only [rangeL]
  rw [st 0 _ (by omega)]
  have no : ∀ {a : UInt8} {h : List UInt8}, a :: h <+: w → ∀ {b : UInt8} {k : List UInt8}, a ≠ b → w ≠ b :: k := fun hp _ _ hab e => two_heads hab hp (by rw [e]; exact List.prefix_refl _)
  unfold endEv
  by_cases p1 : [101, 120, 105, 116, 61] <+: w
  · rw [if_pos p1]
    have e1 : numAt w [101, 120, 105, 116, 61] = numOf (w.drop 5) := if_pos p1
    have e2 : numAt w [112, 97, 110, 105, 99, 61] = none := numAt_none (two_heads (by decide) p1)
    rw [e1, e2]
    cases q : numOf (w.drop 5) with
    | some n => simp only [List.length_cons, List.length_nil, Nat.zero_add, Nat.reduceAdd, q]; rfl
    | none =>
      simp only [List.length_cons, List.length_nil, Nat.zero_add, Nat.reduceAdd, q]
      rw [if_neg (no p1 (by decide)), if_neg (no p1 (by decide)), if_neg (no p1 (by decide))]; rfl
  · rw [if_neg p1]
    simp only
    rw [st 1 _ (by omega)]
    rw [numAt_none p1]
    by_cases p2 : [112, 97, 110, 105, 99, 61] <+: w
    · rw [if_pos p2]
      have e2 : numAt w [112, 97, 110, 105, 99, 61] = numOf (w.drop 6) := if_pos p2
      rw [e2]
      cases q : numOf (w.drop 6) with
      | some n => simp only [List.length_cons, List.length_nil, Nat.zero_add, Nat.reduceAdd, q]; rfl
      | none =>
        simp only [List.length_cons, List.length_nil, Nat.zero_add, Nat.reduceAdd, q]
        rw [if_neg (no p2 (by decide)), if_neg (no p2 (by decide)), if_neg (no p2 (by decide))]; rfl
    · rw [if_neg p2, numAt_none p2]
      simp only [Option.bind_some, oc]
      rw [st2 0 _ (by omega)]
      by_cases h3 : w = [102, 117, 101, 108]
      · rw [if_pos h3, if_pos h3]; rfl
      · rw [if_neg h3, if_neg h3]
        simp only
        rw [st2 1 _ (by omega)]
        by_cases h4 : w = [115, 116, 97, 99, 107]
        · rw [if_pos h4, if_pos h4]; rfl
        · rw [if_neg h4, if_neg h4]
          simp only
          rw [st2 2 _ (by omega)]
          by_cases h5 : w = [115, 116, 117, 99, 107]
          · rw [if_pos h5, if_pos h5]; rfl
          · rw [if_neg h5, if_neg h5]; rfl

theorem Read_eq (F : Nat) (hF : 28400000 < F) (l : List UInt8) (hl : l.length ≤ 28399990) :
    windlassref02_Read_s F (bsl l) = some (match parseX l with | some (evs, e) => (evs, e, true) | none => ([], End.mk 0 0, false)) := by
  unfold windlassref02_Read_s
  obtain ⟨ini, last, hs, _, _⟩ := split_parts l
  obtain ⟨hn, hw⟩ := split_len l
  rw [Split_eq F l (by omega) (by omega), Option.bind_some, parseX_eq hs]
  rw [hs] at hn hw ⊢
  have hini : ini.length ≤ l.length := by simp at hn; omega
  have eI : I64 (((((ini ++ [last]).map bsl).length : Nat) : Int) - 1) = (ini.length : Int) := by rw [I64_of (by simp; omega)]; simp
  rw [eI]
  have hrun := read_run (ws := (ini ++ [last]).map bsl) rfl (by omega) (β := Option (List Event × End × Bool)) (v := some ([], (End.mk 0 0), false))
    (body := fun (s_2 : (Int × (List Event))) => ((if (decide (s_2.1 < (ini.length : Int))) then ((rng (fun (i_4 : Nat) (head_5 : ByteArray) (s_3 : (Int × Int)) => (((getI ((ini ++ [last]).map bsl) s_2.1).bind fun y_7 => ((windlassref02_behind_s y_7 head_5).bind fun beh_8 => (if beh_8.2 then ((windlassref02_value_s F beh_8.1).bind fun val_9 => (if val_9.2 then (some (.nxt ((I64 ((i_4 : Int) + 1)), val_9.1))) else (some (.nxt (s_3.1, s_3.2))))) else (some (.nxt (s_3.1, s_3.2)))))) : Option (Stp (Int × Int) (Option (Stp (Int × (List Event)) (Option ((List Event) × End × Bool))))))) [(ByteArray.mk #[111, 117, 116, 61]), (ByteArray.mk #[105, 110, 61])] (0, 0)).bind (oc (fun (s_3 : (Int × Int)) => (if (s_3.1 == 0) then (some (.ret (some ([], (End.mk 0 0), false)))) else ((appL 16 s_2.2 [(Event.mk s_3.1 s_3.2)]).bind fun l_10 => (some (.nxt ((I64 (s_2.1 + 1)), l_10)))))))) else (some (.brk (s_2.1, s_2.2)))) : Option (Stp (Int × (List Event)) (Option ((List Event) × End × Bool)))))
    (fun i w out hi ho => by
      have hlt : i < ini.length := (List.getElem?_eq_some_iff.1 hi).1
      have hwl : w.length ≤ l.length := hw w (by simp [List.mem_of_getElem? hi])
      have hg : getI ((ini ++ [last]).map bsl) (i : Int) = some (bsl w) := by
        rw [getI_nat, List.getElem?_map, List.getElem?_append_left hlt, hi]; rfl
      simp only
      rw [if_pos (by simpa using hlt), heads_eq F hF w (by omega) (fun i h s => by rw [hg, Option.bind_some]), Option.bind_some]
      have eJ : I64 ((i : Int) + 1) = ((i + 1 : Nat) : Int) := by rw [I64_of (by omega)]; omega
      cases e : wordEv w with
      | none => rfl
      | some ev =>
        simp only [oc]
        have hk : ¬ (ev.Kind == 0) = true := by
          unfold wordEv at e
          cases q1 : numAt w [111, 117, 116, 61] with
          | some n => rw [q1] at e; cases e; simp
          | none =>
            rw [q1] at e
            cases q2 : numAt w [105, 110, 61] with
            | some n => rw [q2] at e; cases e; simp
            | none => rw [q2] at e; cases e
        rw [if_neg hk, appL_of (by simp; omega), Option.bind_some, eJ])
    (fun out => by simp only; rw [if_neg (by simp)]) ini.length 0 F [] (by omega) (by simp) (by omega)
  simp only [List.drop_zero, List.nil_append] at hrun
  rw [show ((0 : Nat) : Int) = 0 from rfl] at hrun
  rw [hrun, Option.bind_some]
  cases h1 : evsOf ini with
  | none => rfl
  | some evs =>
    simp only [oc]
    rw [getI_nat, show ((ini ++ [last]).map bsl)[ini.length]? = some (bsl last) by simp, Option.bind_some]
    have := ends_eq F hF last (by have := hw last (by simp); omega) evs (b1 := fun (i_13 : Nat) (head_14 : ByteArray) (s_12 : Unit) => (((windlassref02_behind_s (bsl last) head_14).bind fun beh_16 => (if beh_16.2 then ((windlassref02_value_s F beh_16.1).bind fun val_17 => (if (!val_17.2) then (some (.ret (some ([], (End.mk 0 0), false)))) else (some (.ret (some (evs, (End.mk (I64 ((i_13 : Int) + 1)) val_17.1), true)))))) else (some (.nxt ())))) : Option (Stp Unit (Option ((List Event) × End × Bool)))))
      (b2 := fun (i_19 : Nat) (name_20 : ByteArray) (s_18 : Unit) => ((if (ByteArray.toList (bsl last) == ByteArray.toList name_20) then (some (.ret (some (evs, (End.mk (I64 ((i_19 : Int) + 3)) 0), true)))) else (some (.nxt ()))) : Option (Stp Unit (Option ((List Event) × End × Bool))))) (fun _ _ _ => rfl) (fun _ _ _ => rfl)
    rw [this]
    cases endEv last <;> rfl
end Go.Proofs.YtkfhljombjmdbaaDoor
/- Plain laws of the trace's texts: the law. -/
namespace Go.Proofs.YtkfhljombjmdbaaDoor
open Go Go.Ab Go.RowKit
set_option maxRecDepth 20000
set_option linter.unusedVariables false
set_option linter.unusedSimpArgs false

theorem numAt_back {w h : List UInt8} {n : Nat} (e : numAt w h = some n) : w = h ++ digs 19 n ∧ n < 18446744073709551616 := by
  have hp := numAt_pre e
  unfold numAt at e
  rw [if_pos hp] at e
  obtain ⟨h1, h2⟩ := (numOf_iff _ n).1 e
  refine ⟨?_, h2⟩
  rw [digs19 n h2, ← h1]
  obtain ⟨t, rfl⟩ := hp
  rw [List.drop_left]

theorem wfI {k : Int} (h : 0 ≤ k ∧ k ≤ 10) : (Lit.int .i64 k).wf = true := by
  simp only [Lit.wf, Bool.and_eq_true, decide_eq_true_eq]
  have h1 : IntKind.i64.min = -9223372036854775808 := by decide
  have h2 : IntKind.i64.max = 9223372036854775807 := by decide
  omega
theorem wfU {n : Nat} (h : n < 18446744073709551616) : (Lit.int .u64 (n : Int)).wf = true := by
  simp only [Lit.wf, Bool.and_eq_true, decide_eq_true_eq]
  have h1 : IntKind.u64.min = 0 := by decide
  have h2 : IntKind.u64.max = 18446744073709551615 := by decide
  omega

theorem wordEv_back {w : List UInt8} {ev : Event} (e : wordEv w = some ev) : word ev = w ∧ Event.Ok 1048576 ev := by
  unfold wordEv at e
  cases q1 : numAt w [111, 117, 116, 61] with
  | some n =>
    rw [q1] at e
    cases e
    obtain ⟨h1, h2⟩ := numAt_back q1
    exact ⟨by rw [word, if_pos rfl, Int.toNat_natCast, ← h1], wfI ⟨by simp, by simp⟩, wfU h2⟩
  | none =>
    rw [q1] at e
    cases q2 : numAt w [105, 110, 61] with
    | some n =>
      rw [q2] at e
      cases e
      obtain ⟨h1, h2⟩ := numAt_back q2
      exact ⟨by rw [word, if_neg (by simp), if_pos rfl, Int.toNat_natCast, ← h1], wfI ⟨by simp, by simp⟩, wfU h2⟩
    | none => rw [q2] at e; cases e
theorem endEv_back {w : List UInt8} {x : End} (e : endEv w = some x) : endw x = w ∧ End.Ok 1048576 x := by
  unfold endEv at e
  cases q1 : numAt w [101, 120, 105, 116, 61] with
  | some n =>
    rw [q1] at e
    cases e
    obtain ⟨h1, h2⟩ := numAt_back q1
    exact ⟨by rw [endw, if_pos rfl, Int.toNat_natCast, ← h1], wfI ⟨by simp, by simp⟩, wfU h2⟩
  | none =>
    rw [q1] at e
    cases q2 : numAt w [112, 97, 110, 105, 99, 61] with
    | some n =>
      rw [q2] at e
      cases e
      obtain ⟨h1, h2⟩ := numAt_back q2
      exact ⟨by rw [endw, if_neg (by simp), if_pos rfl, Int.toNat_natCast, ← h1], wfI ⟨by simp, by simp⟩, wfU h2⟩
    | none =>
      rw [q2] at e
      simp only at e
      split at e
      · rename_i h; cases e; exact ⟨by rw [h]; rfl, wfI (by decide), wfU (n := 0) (by decide)⟩
      · split at e
        · rename_i h; cases e; exact ⟨by rw [h]; rfl, wfI (by decide), wfU (n := 0) (by decide)⟩
        · split at e
          · rename_i h; cases e; exact ⟨by rw [h]; rfl, wfI (by decide), wfU (n := 0) (by decide)⟩
          · cases e
theorem evsOf_back : ∀ {ws : List (List UInt8)} {evs : List Event}, evsOf ws = some evs → evs.map word = ws ∧ (∀ x ∈ evs, Event.Ok 1048576 x) ∧ evs.length = ws.length
  | [], evs, e => by cases e; exact ⟨rfl, fun x hx => by simp at hx, rfl⟩
  | w :: r, evs, e => by
    rw [evsOf] at e
    cases q1 : wordEv w with
    | none => rw [q1] at e; cases e
    | some ev =>
      rw [q1] at e
      cases q2 : evsOf r with
      | none => rw [q2] at e; cases e
      | some l =>
        rw [q2] at e
        cases e
        obtain ⟨h1, h2, h3⟩ := evsOf_back q2
        obtain ⟨h4, h5⟩ := wordEv_back q1
        exact ⟨by rw [List.map_cons, h1, h4], fun x hx => by
          rcases List.mem_cons.1 hx with rfl | hx
          · exact h5
          · exact h2 x hx, by simp [h3]⟩

/-- Parse, then Print. -/
theorem back_eq (l : List UInt8) (evs : List Event) (e : End) (h : parseX l = some (evs, e)) (hn : (splitL 32 l).length ≤ 1048577) : trace_Print_s evs e = some (bsl l) ∧ evs.length ≤ 1048576 := by
  obtain ⟨ini, last, hs, _, _⟩ := split_parts l
  rw [parseX_eq hs] at h
  cases q1 : evsOf ini with
  | none => rw [q1] at h; cases h
  | some evs' =>
    cases q2 : endEv last with
    | none => rw [q1, q2] at h; cases h
    | some e' =>
      rw [q1, q2] at h
      cases h
      obtain ⟨h1, h2, h3⟩ := evsOf_back q1
      obtain ⟨h4, h5⟩ := endEv_back q2
      have hl : evs.length ≤ 1048576 := by rw [hs] at hn; simp at hn; omega
      refine ⟨?_, hl⟩
      rw [Print_eq evs e hl h2 h5, h1, h4, ← join_body, ← hs, splitL_join]

theorem texts_law (l : List Event) (e : End) (text : ByteArray) (hl : l.length ≤ 1048576 ∧ ∀ x ∈ l, Event.Ok 1048576 x) (he : End.Ok 1048576 e) (ht : text.size ≤ 1048576) :
    windlasslaw02_TraceTexts_s 40000000 l e text = some true := by
  unfold windlasslaw02_TraceTexts_s
  generalize hF : 40000000 = F
  have hF1 : 28400000 < F := by omega
  have P1 := Print_eq l e hl.1 hl.2 he
  have T1 := Text_eq F (by omega) l e hl.1 hl.2 he
  have hb1 : (bodyW (l.map word)).length ≤ 27 * l.length := by
    have := bodyW_len (l.map word) (fun w hw => by obtain ⟨x, _, rfl⟩ := List.mem_map.1 hw; exact word_len x)
    rwa [List.length_map] at this
  have hel := endw_len e
  have hcs : ∀ (S : List UInt8), (splitL 32 S).length = S.count 32 + 1 := by
    intro S
    induction S with
    | nil => rfl
    | cons x r ih =>
      unfold splitL
      split
      · rename_i hx; subst hx; simp [ih]
      · rename_i hx
        have : (x :: r).count 32 = r.count 32 := List.count_cons_of_ne hx
        rw [this]
        split
        · rename_i w ws ee; rw [ee] at ih; simpa using ih
        · rename_i ee; exact (splitL_ne 32 r ee).elim
  have hcw : ∀ (x : Event), (word x).count 32 = 0 := fun x => List.count_eq_zero.2 (fun hm => word_num x 32 hm rfl)
  have hce : (endw e).count 32 = 0 := List.count_eq_zero.2 (fun hm => endw_num e 32 hm rfl)
  have hcb : ∀ (m : List Event), (bodyW (m.map word)).count 32 = m.length := by
    intro m
    induction m with
    | nil => rfl
    | cons x r ih =>
      simp only [bodyW, List.map_cons, List.flatMap_cons, List.count_append, hcw, List.length_cons] at ih ⊢
      rw [ih]
      simp
      omega
  have hs1 : (splitL 32 (bodyW (l.map word) ++ endw e)).length ≤ 1048577 := by
    rw [hcs, List.count_append, hcb, hce]; omega
  have hS1 : (bodyW (l.map word) ++ endw e).length ≤ 28399990 := by rw [List.length_append]; omega
  have ht2 : text.data.toList.length ≤ 1048576 := by
    have : text.size = text.data.toList.length := by rw [Array.length_toList]; rfl
    omega
  have hs2 : (splitL 32 text.data.toList).length ≤ 1048577 := by have := (split_len text.data.toList).1; omega
  generalize bodyW (l.map word) ++ endw e = S at *
  have two : ∀ {b : Nat → ByteArray → Unit → Option (Stp Unit (Option Bool))} {x y : ByteArray}, b 0 x () = some (.nxt ()) → b 1 y () = some (.nxt ()) → rng b [x, y] () = some (.fin ()) := by
    intro b x y h1 h2
    unfold rng
    rw [if_pos (by simp)]
    simp only [rangeL, h1, h2]
  simp only [first_eq, Option.bind_some, Bool.not_true, Bool.false_eq_true, if_false, P1, T1]
  rw [if_neg (by simp)]
  refine bind_eq ⟨.fin (), two ?_ ?_, rfl⟩
  · rw [Parse_eq F (by omega) S hS1, Read_eq F hF1 S hS1, Option.bind_some, Option.bind_some]
    simp only [jp]
    cases q : parseX S with
    | none =>
      simp only
      rw [Same_eq [] [] (by simp), Option.bind_some]
      rfl
    | some ab =>
      obtain ⟨a, b⟩ := ab
      obtain ⟨hp, hal⟩ := back_eq S a b q hs1
      simp only
      rw [Same_eq a a (by omega), Option.bind_some, decide_eq_true rfl, if_neg (by simp), if_neg (by simp), if_neg (by simp), if_neg (by simp)]
      simp only [if_true, if_false, Bool.false_eq_true]
      rw [hp, Option.bind_some, if_neg (by simp)]
  · have X := bsl_eq text
    generalize text.data.toList = T at *
    subst X
    rw [Parse_eq F (by omega) T (by omega), Read_eq F hF1 T (by omega), Option.bind_some, Option.bind_some]
    simp only [jp]
    cases q : parseX T with
    | none =>
      simp only
      rw [Same_eq [] [] (by simp), Option.bind_some]
      rfl
    | some ab =>
      obtain ⟨a, b⟩ := ab
      obtain ⟨hp, hal⟩ := back_eq T a b q hs2
      simp only
      rw [Same_eq a a (by omega), Option.bind_some, decide_eq_true rfl, if_neg (by simp), if_neg (by simp), if_neg (by simp), if_neg (by simp)]
      simp only [if_true, if_false, Bool.false_eq_true]
      rw [hp, Option.bind_some, if_neg (by simp)]
end Go.Proofs.YtkfhljombjmdbaaDoor
/- From the row's list to the settings: the powers of ten, MaxLen, the two errors. -/
namespace Go.Proofs.YtkfhljombjmdbaaDoor
open Go Go.Ab Go.RowKit
set_option maxRecDepth 20000
set_option linter.unusedVariables false
set_option linter.unusedSimpArgs false

theorem pow10_laid : (Rows.laid_internal_strconv_uint64pow10 : DataW Unit) = Lib.tabData .u64 pow10T := by kernel_rfl
theorem glob_pow10 : Tryd.prog.globalNamed "internal/strconv.uint64pow10" = some 0 := by kernel_rfl
theorem glob_range : Tryd.prog.globalNamed "strconv.ErrRange" = some 3 := by kernel_rfl
theorem glob_syntax : Tryd.prog.globalNamed "strconv.ErrSyntax" = some 2 := by kernel_rfl
theorem rows_tail {P : Program} {W : World} : ∀ {l : List (String × DataW Unit)} {x}, laidMet P (x :: l) W → laidMet P l W := fun h => h.tail

theorem star248 : "*" ++ "errors.errorString" = "*errors.errorString" := by decide
theorem only248 (u : TypeId) (h : Tryd.prog.typeName? 3 u = some "*errors.errorString") : u = 248 :=
  typeName_ptr_named (nm := "errors.errorString") (by rw [star248]; kernel_rfl) (by kernel_rfl) (by decide) u (by rw [star248]; exact h)

theorem err_at {W : World} {nm : String} {b : Nat} {ti : TypeId} {v : Value} (hg : Tryd.prog.globalNamed nm = some b) (h : W.var? Tryd.prog nm = some #[v]) (hv : v = .nilIface ∨ ∃ te pe, v = .iface te pe) : b < W.heap.size ∧ ∃ cs t fz, W.heap[b]? = some (.cells cs t fz) ∧ someErr cs := by
  have := World.var?_cell hg h 0
  obtain ⟨cs, t, fz, e, q⟩ := tab_cell (b := b) (W := W) (v := v) (by simpa using this)
  exact tab_here e ⟨v, q, hv⟩

theorem tab_of {W : World} (h : laidMet Tryd.prog Rows.traceTextsUptoRow.laid W) (hsh : W.ShapedOpen Tryd.prog) : TabOK W.heap.size W := by
  have h3 := h.tail.tail
  have h5 := h3.tail.tail
  have h6 := h5.tail
  obtain ⟨m, hm⟩ : ∃ m, W.cell? ⟨1, 0, none⟩ = some (.int .i64 m) := Tryd.laysM146.s1_3 W hsh
  obtain ⟨a0, s0, hv0, -, -, -⟩ := laid_sentinel h5 glob_range (by kernel_rfl) Tryd.underlying129 only248 Tryd.underlying248 Tryd.underlying250 rfl rfl Tryd.underlying9 (by kernel_rfl) (by kernel_rfl)
  obtain ⟨a1, s1, hv1, -, -, -⟩ := laid_sentinel h6 glob_syntax (by kernel_rfl) Tryd.underlying129 only248 Tryd.underlying248 Tryd.underlying250 rfl rfl Tryd.underlying9 (by kernel_rfl) (by kernel_rfl)
  have hp : Lib.TabIs Tryd.prog W "internal/strconv.uint64pow10" .u64 pow10T := by
    have h3' : laidMet Tryd.prog (("internal/strconv.uint64pow10", Rows.laid_internal_strconv_uint64pow10) :: _) W := h3
    rw [pow10_laid] at h3'
    exact Lib.tabIs_of_head glob_pow10 (t := 212) (e := 24) (n := 20) (by kernel_rfl) Tryd.underlying212 Tryd.underlying24 (by kernel_rfl) (by kernel_rfl) h3'
  intro b p e
  match b, e with
  | 0, e =>
    cases Option.some.inj e
    obtain ⟨t, fz, q⟩ := tab_is glob_pow10 hp
    exact tab_here q rfl
  | 1, e =>
    cases Option.some.inj e
    obtain ⟨cs, t, fz, q1, q2⟩ := tab_cell hm
    exact tab_here q1 ⟨m, q2⟩
  | 2, e => cases Option.some.inj e; exact err_at (ti := 129) glob_syntax hv1 (Or.inr ⟨_, _, rfl⟩)
  | 3, e => cases Option.some.inj e; exact err_at (ti := 129) glob_range hv0 (Or.inr ⟨_, _, rfl⟩)
  | n + 4, e => cases e
end Go.Proofs.YtkfhljombjmdbaaDoor
