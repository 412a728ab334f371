/- Plain laws of numerals: which texts are a number's, and how they are read. -/
import Derived.Lib.ParseIntB
import Derived.Lib.ItoaNum
import Derived.Lib.Split
import Derived.Lib.IndexBytes
import Derived.Lib.Join
import Derived.Test.YtkfhljombjmdbaaDoorTyP
import Derived.Test.YtkfhljombjmdbaaDoorWlH1
import Derived.Lib.SplitLaws
namespace Go.Ab
open Go

def isDig (c : UInt8) : Bool := decide (48 ≤ c.toNat ∧ c.toNat ≤ 57)
/-- What digits say. -/
def valD : Nat → List UInt8 → Nat
  | a, [] => a
  | a, c :: r => valD (a * 10 + (c.toNat - 48)) r
theorem valD_nil (a : Nat) : valD a [] = a := by unfold valD; rfl
theorem valD_cons (a : Nat) (c : UInt8) (r : List UInt8) : valD a (c :: r) = valD (a * 10 + (c.toNat - 48)) r := by conv => lhs; unfold valD
theorem valD_snoc (l : List UInt8) : ∀ (a : Nat) (c : UInt8), valD a (l ++ [c]) = valD a l * 10 + (c.toNat - 48) := by
  induction l with
  | nil => intro a c; rw [List.nil_append, valD_cons, valD_nil, valD_nil]
  | cons x l ih => intro a c; rw [List.cons_append, valD_cons, ih, valD_cons]
theorem valD_ge (l : List UInt8) : ∀ (a : Nat), a ≤ valD a l := by
  induction l with
  | nil => intro a; rw [valD_nil]; exact Nat.le_refl _
  | cons x l ih => intro a; rw [valD_cons]; exact Nat.le_trans (show a ≤ a * 10 + (x.toNat - 48) by omega) (ih _)
/-- A numeral: digits, no nought ahead. -/
def numP (l : List UInt8) : Bool := l.all isDig && decide (l ≠ []) && (decide (l.length = 1) || decide (l.head? ≠ some 48))

theorem dig_of (d : Nat) (h : d < 10) : isDig (UInt8.ofNat (48 + d)) = true ∧ (UInt8.ofNat (48 + d)).toNat = 48 + d := by
  have e : (UInt8.ofNat (48 + d)).toNat = 48 + d := by rw [UInt8.toNat_ofNat', Nat.mod_eq_of_lt (by omega)]
  exact ⟨by unfold isDig; rw [e]; simp; omega, e⟩
theorem dig_back {c : UInt8} (h : isDig c = true) : UInt8.ofNat (48 + (c.toNat - 48)) = c := by
  unfold isDig at h
  simp only [decide_eq_true_eq] at h
  rw [show 48 + (c.toNat - 48) = c.toNat by omega, UInt8.ofNat_toNat]

theorem numP_snoc {l : List UInt8} {c : UInt8} (hl : l ≠ []) (h : numP (l ++ [c]) = true) : numP l = true ∧ l.head? ≠ some 48 ∧ isDig c = true := by
  unfold numP at h ⊢
  simp only [Bool.and_eq_true, decide_eq_true_eq, Bool.or_eq_true, List.all_append, List.all_cons, List.all_nil, Bool.and_true] at h ⊢
  obtain ⟨⟨⟨h1, h2⟩, _⟩, h3⟩ := h
  cases l with
  | nil => exact (hl rfl).elim
  | cons x r =>
    simp only [List.cons_append, List.length_cons, List.length_append, List.head?_cons] at h3 ⊢
    rcases h3 with h3 | h3
    · simp at h3
    · exact ⟨⟨⟨h1, by simp⟩, .inr h3⟩, h3, h2⟩

theorem dec_len (u : Nat) : Lib.decDigits u ≠ [] := by
  rw [Lib.decDigits]; split <;> simp
theorem dec_head : ∀ (u : Nat), 1 ≤ u → (Lib.decDigits u).head? ≠ some 48 := by
  intro u
  induction u using Nat.strongRecOn with
  | _ u ih =>
    intro h
    rw [Lib.decDigits]
    split
    · rename_i hu
      simp only [List.head?_cons, ne_eq, Option.some.injEq]
      intro e
      have := congrArg UInt8.toNat e
      rw [(dig_of u hu).2] at this
      simp at this
      omega
    · have := ih (u / 10) (by omega) (by omega)
      have hne := dec_len (u / 10)
      rw [List.head?_append]
      cases e : Lib.decDigits (u / 10) with
      | nil => exact (hne e).elim
      | cons x r => rw [e] at this; simpa using this
theorem dec_digs : ∀ (u : Nat), (Lib.decDigits u).all isDig = true := by
  intro u
  induction u using Nat.strongRecOn with
  | _ u ih =>
    rw [Lib.decDigits]
    split
    · rename_i hu
      rw [List.all_cons, (dig_of u hu).1]; rfl
    · rw [List.all_append, ih (u / 10) (by omega), List.all_cons, (dig_of (u % 10) (Nat.mod_lt _ (by decide))).1]; rfl
theorem dec_val : ∀ (u : Nat), valD 0 (Lib.decDigits u) = u := by
  intro u
  induction u using Nat.strongRecOn with
  | _ u ih =>
    rw [Lib.decDigits]
    split
    · rename_i hu
      rw [valD_cons, valD_nil, (dig_of u hu).2]; omega
    · rw [valD_snoc, ih (u / 10) (by omega), (dig_of (u % 10) (Nat.mod_lt _ (by decide))).2]; omega
theorem dec_numP (u : Nat) : numP (Lib.decDigits u) = true := by
  unfold numP
  simp only [Bool.and_eq_true, decide_eq_true_eq, Bool.or_eq_true]
  refine ⟨⟨dec_digs u, dec_len u⟩, ?_⟩
  by_cases h : 1 ≤ u
  · exact .inr (dec_head u h)
  · left
    have : u = 0 := by omega
    subst this
    rw [Lib.decDigits, dif_pos (by decide)]; rfl

theorem val_pos {l : List UInt8} (h : numP l = true) (h0 : l.head? ≠ some 48) : 1 ≤ valD 0 l := by
  unfold numP at h
  simp only [Bool.and_eq_true, decide_eq_true_eq, Bool.or_eq_true] at h
  cases l with
  | nil => exact (h.1.2 rfl).elim
  | cons c r =>
    rw [valD_cons]
    have hc : isDig c = true := by have := h.1.1; simp only [List.all_cons, Bool.and_eq_true] at this; exact this.1
    unfold isDig at hc
    simp only [decide_eq_true_eq] at hc
    have hne : c.toNat ≠ 48 := fun e => h0 (by
      simp only [List.head?_cons, Option.some.injEq]
      exact UInt8.toNat_inj.1 (by rw [e]; rfl))
    have := valD_ge r (0 * 10 + (c.toNat - 48))
    omega

/-- A numeral is the digits of what it says. -/
theorem num_decN : ∀ (k : Nat) (l : List UInt8), l.length = k → numP l = true → Lib.decDigits (valD 0 l) = l := by
  intro k
  induction k with
  | zero =>
    intro l hk h
    have : l = [] := List.eq_nil_of_length_eq_zero hk
    subst this
    simp [numP] at h
  | succ k ih =>
    intro l hk h
    have hne : l ≠ [] := fun e => by subst e; simp at hk
    obtain ⟨l', c, rfl⟩ : ∃ l' c, l = l' ++ [c] := ⟨l.dropLast, l.getLast hne, (List.dropLast_concat_getLast hne).symm⟩
    have hk' : l'.length = k := by simpa using hk
    by_cases hl : l' = []
    · subst hl
      unfold numP at h
      rw [List.nil_append] at h ⊢
      simp only [List.all_cons, List.all_nil, Bool.and_true, Bool.and_eq_true] at h
      have hc := h.1.1
      have hc' := hc
      unfold isDig at hc'
      simp only [decide_eq_true_eq] at hc'
      rw [valD_cons, valD_nil]
      rw [Lib.decDigits, dif_pos (by omega), Nat.zero_mul, Nat.zero_add, dig_back hc]
    · obtain ⟨h1, h2, h3⟩ := numP_snoc hl h
      have hp := val_pos h1 h2
      have e0 := ih l' hk' h1
      rw [valD_snoc]
      generalize valD 0 l' = v at *
      have h3' := h3
      unfold isDig at h3'
      simp only [decide_eq_true_eq] at h3'
      rw [Lib.decDigits, dif_neg (by omega)]
      have e1 : (v * 10 + (c.toNat - 48)) / 10 = v := by omega
      have e2 : (v * 10 + (c.toNat - 48)) % 10 = c.toNat - 48 := by omega
      rw [e1, e2, e0, dig_back h3]
theorem num_dec (l : List UInt8) (h : numP l = true) : Lib.decDigits (valD 0 l) = l := num_decN _ l rfl h
theorem num_iff (l : List UInt8) (n : Nat) : l = Lib.decDigits n ↔ numP l = true ∧ valD 0 l = n :=
  ⟨fun h => by subst h; exact ⟨dec_numP n, dec_val n⟩, fun ⟨h, e⟩ => by rw [← e, num_dec l h]⟩
theorem parseM_cons (M a : Nat) (c : UInt8) (r : List UInt8) : Lib.parseUintM M a (c :: r) = if 48 ≤ c.toNat ∧ c.toNat ≤ 57 then (if 1844674407370955162 ≤ a then .range else if M < a * 10 + (c.toNat - 48) then .range else Lib.parseUintM M (a * 10 + (c.toNat - 48)) r) else .«syntax» := by
  conv => lhs; unfold Lib.parseUintM
theorem parseM_nil (M a : Nat) : Lib.parseUintM M a [] = .ok a := by unfold Lib.parseUintM; rfl
theorem parseM_ok (l : List UInt8) : ∀ a, l.all isDig = true → valD a l ≤ 18446744073709551615 → Lib.parseUintM 18446744073709551615 a l = .ok (valD a l) := by
  induction l with
  | nil => intro a _ _; rw [parseM_nil, valD_nil]
  | cons c r ih =>
    intro a h hv
    rw [List.all_cons, Bool.and_eq_true] at h
    have hc := h.1
    unfold isDig at hc
    simp only [decide_eq_true_eq] at hc
    rw [valD_cons] at hv ⊢
    have hg := valD_ge r (a * 10 + (c.toNat - 48))
    rw [parseM_cons, if_pos hc, if_neg (by omega), if_neg (by omega)]
    exact ih _ h.2 hv
theorem parseM_le (l : List UInt8) : ∀ a u, a ≤ 18446744073709551615 → Lib.parseUintM 18446744073709551615 a l = .ok u → u ≤ 18446744073709551615 := by
  induction l with
  | nil => intro a u ha h; rw [parseM_nil] at h; cases h; exact ha
  | cons c r ih =>
    intro a u ha h
    rw [parseM_cons] at h
    split at h
    · split at h
      · cases h
      · split at h
        · cases h
        · exact ih _ u (by omega) h
    · cases h
/-- A text is a number's numeral just when it is read and written back. -/
theorem parse_num (l : List UInt8) (u : Nat) (hu : u < 18446744073709551616) (h : l = Lib.decDigits u) : Lib.parseUintB 64 l = .ok u := by
  subst h
  unfold Lib.parseUintB
  rw [if_neg (dec_len u)]
  have := parseM_ok (Lib.decDigits u) 0 (dec_digs u) (by rw [dec_val]; omega)
  rw [dec_val] at this
  exact this
theorem parse_lt (l : List UInt8) (u : Nat) (h : Lib.parseUintB 64 l = .ok u) : u < 18446744073709551616 := by
  unfold Lib.parseUintB at h
  split at h
  · cases h
  · have := parseM_le l 0 u (by omega) h
    omega
/-- The number that a text is the numeral of. -/
def numOf (l : List UInt8) : Option Nat := if numP l = true ∧ valD 0 l < 18446744073709551616 then some (valD 0 l) else none
theorem numOf_iff (l : List UInt8) (n : Nat) : numOf l = some n ↔ l = Lib.decDigits n ∧ n < 18446744073709551616 := by
  unfold numOf
  rw [num_iff]
  split
  · rename_i h
    constructor
    · intro e; cases e; exact ⟨⟨h.1, rfl⟩, h.2⟩
    · rintro ⟨⟨_, e⟩, _⟩; rw [e]
  · rename_i h
    constructor
    · intro e; cases e
    · rintro ⟨⟨a, e⟩, b⟩; exact (h ⟨a, by rw [e]; exact b⟩).elim
end Go.Ab
/- Plain laws of pieces of texts. -/
namespace Go.Ab
open Go

/-- Pieces between single bytes. -/
def splitL (c : UInt8) : List UInt8 → List (List UInt8)
  | [] => [[]]
  | x :: r => if x = c then [] :: splitL c r else match splitL c r with
    | w :: ws => (x :: w) :: ws
    | [] => [[x]]
theorem splitL_ne (c : UInt8) (l : List UInt8) : splitL c l ≠ [] := by
  cases l with
  | nil => simp [splitL]
  | cons x r =>
    unfold splitL
    split
    · simp
    · split <;> simp
theorem splitL_app (c : UInt8) (a : List UInt8) (h : c ∉ a) (b : List UInt8) : splitL c (a ++ c :: b) = a :: splitL c b := by
  induction a with
  | nil => rw [List.nil_append, splitL, if_pos rfl]
  | cons x a ih =>
    have h1 : x ≠ c := fun e => h (by rw [e]; simp)
    rw [List.cons_append, splitL, if_neg h1, ih (fun hm => h (by simp [hm]))]
theorem splitL_none (c : UInt8) (a : List UInt8) (h : c ∉ a) : splitL c a = [a] := by
  induction a with
  | nil => rfl
  | cons x a ih =>
    have h1 : x ≠ c := fun e => h (by rw [e]; simp)
    rw [splitL, if_neg h1, ih (fun hm => h (by simp [hm]))]
theorem splitL_join (c : UInt8) (l : List UInt8) : Lib.join (splitL c l) [c] = l := by
  induction l with
  | nil => rfl
  | cons x r ih =>
    unfold splitL
    split
    · rename_i e
      subst e
      have : splitL x r ≠ [] := splitL_ne x r
      obtain ⟨w, ws, e⟩ := List.exists_cons_of_ne_nil this
      rw [e] at ih ⊢
      rw [Lib.join_cons] at ih ⊢
      simp only [Lib.joinTail, List.map_cons, List.flatten_cons, List.nil_append, List.cons_append] at ih ⊢
      rw [ih]
    · split
      · rename_i w ws e
        rw [e, Lib.join_cons] at ih
        rw [Lib.join_cons, List.cons_append, ih]
      · rename_i e
        exact (splitL_ne c r e).elim
theorem splitL_free (c : UInt8) (l : List UInt8) : ∀ w ∈ splitL c l, c ∉ w := by
  induction l with
  | nil => intro w hw; simp [splitL] at hw; subst hw; simp
  | cons x r ih =>
    intro w hw
    unfold splitL at hw
    split at hw
    · rcases List.mem_cons.1 hw with rfl | hw
      · simp
      · exact ih w hw
    · rename_i hx
      split at hw
      · rename_i u us e
        rcases List.mem_cons.1 hw with rfl | hw
        · intro hm
          rcases List.mem_cons.1 hm with q | q
          · exact hx q.symm
          · exact ih u (by rw [e]; simp) q
        · exact ih w (by rw [e]; simp [hw])
      · rename_i e; exact (splitL_ne c r e).elim

theorem indexByte_cases (c : UInt8) (s : List UInt8) : (Lib.indexByte s c = -1 ∧ c ∉ s) ∨ ∃ a b, s = a ++ c :: b ∧ c ∉ a ∧ Lib.indexByte s c = a.length := by
  induction s with
  | nil => left; exact ⟨rfl, by simp⟩
  | cons x r ih =>
    by_cases hx : x = c
    · right
      exact ⟨[], r, by rw [hx]; rfl, by simp, by unfold Lib.indexByte; rw [if_pos (by simpa using hx)]; rfl⟩
    · rcases ih with ⟨h1, h2⟩ | ⟨a, b, h1, h2, h3⟩
      · left
        refine ⟨?_, ?_⟩
        · unfold Lib.indexByte
          rw [if_neg (by simpa using hx), if_pos (by simpa using h1)]
        · intro hm
          rcases List.mem_cons.1 hm with q | q
          · exact hx q.symm
          · exact h2 q
      · right
        refine ⟨x :: a, b, by rw [h1]; rfl, ?_, ?_⟩
        · intro hm
          rcases List.mem_cons.1 hm with q | q
          · exact hx q.symm
          · exact h2 q
        · unfold Lib.indexByte
          rw [if_neg (by simpa using hx), h3, if_neg (by simp)]
          simp

theorem splitK_ge (c : UInt8) : ∀ (k : Nat) (s : List UInt8), s.count c ≤ k → Lib.splitK [c] 0 k s = splitL c s
  | 0, s, h => by
    have : c ∉ s := by
      intro hm
      have := List.count_pos_iff.2 hm
      omega
    rw [splitL_none c s this]; rfl
  | k + 1, s, h => by
    unfold Lib.splitK
    rw [Lib.index_one]
    rcases indexByte_cases c s with ⟨h1, h2⟩ | ⟨a, b, h1, h2, h3⟩
    · rw [h1, if_pos (by rfl), splitL_none c s h2]
    · rw [h3, if_neg (by simp)]
      subst h1
      rw [splitL_app c a h2]
      have hc : b.count c ≤ k := by
        rw [List.count_append, List.count_cons_self] at h
        omega
      simp only [Int.toNat_natCast, Nat.add_zero, List.length_singleton]
      have e1 : (a ++ c :: b).take a.length = a := by simp
      have e2 : (a ++ c :: b).drop (a.length + 1) = b := by
        rw [← List.drop_drop, List.drop_left]; rfl
      rw [e1, e2, splitK_ge c k b hc]
end Go.Ab
/- Plain lemmas of texts: bytes, numerals, pieces. -/
namespace Go.Proofs.YtkfhljombjmdbaaDoor
open Go Go.Ab Go.RowKit
set_option maxRecDepth 20000
set_option linter.unusedVariables false
set_option linter.unusedSimpArgs false

def bsl (l : List UInt8) : ByteArray := ⟨l.toArray⟩
theorem bsl_data (l : List UInt8) : (bsl l).data.toList = l := by simp [bsl]
theorem bsl_toList (l : List UInt8) : (bsl l).toList = l := by rw [toList_data, bsl_data]
theorem bsl_size (l : List UInt8) : (bsl l).size = l.length := by simp [bsl, ByteArray.size]
theorem bsl_inj {a b : ByteArray} (h : a.data.toList = b.data.toList) : a = b := by
  cases a; cases b; simp only [ByteArray.mk.injEq]; exact Array.toList_inj.1 h
theorem bsl_eq (b : ByteArray) : b = bsl b.data.toList := bsl_inj (by rw [bsl_data])
theorem cat_b (a b : List UInt8) (h : a.length + b.length ≤ 1000000000) : catS (bsl a) (bsl b) = some (bsl (a ++ b)) := by
  unfold catS
  rw [bsl_size, bsl_size, if_pos (by omega)]
  exact congrArg some (bsl_inj (by rw [ByteArray.data_append, Array.toList_append, bsl_data, bsl_data, bsl_data]))
theorem Lib.extract_toList' (s : ByteArray) (i j : Nat) : (s.extract i j).data.toList = (s.data.toList.drop i).take (j - i) := by
  rw [ByteArray.data_extract, Array.toList_extract, List.extract]

theorem sub_b (a : List UInt8) (i j : Nat) (hij : i ≤ j) (hj : j ≤ a.length) : subS (bsl a) i j = some (bsl ((a.take j).drop i)) := by
  unfold subS
  rw [bsl_size, if_pos (by omega)]
  congr 1
  apply bsl_inj
  rw [bsl_data, Int.toNat_natCast, Int.toNat_natCast, Lib.extract_toList', bsl_data, List.drop_take]
theorem strI_b (a : List UInt8) (i : Nat) (h : i < a.length) : strI (bsl a) i = some (a[i].toNat : Int) := by
  unfold strI
  rw [bsl_size, if_pos (by omega)]
  have : (bsl a)[i]? = some a[i] := by
    rw [getElem?_pos (bsl a) i (by show i < (bsl a).size; rw [bsl_size]; exact h)]
    rfl
  simp [this]

theorem digs_len : ∀ (k u : Nat), 1 ≤ (digs k u).length ∧ (digs k u).length ≤ k + 1
  | 0, u => by simp [digs]
  | k + 1, u => by
    rw [digs]
    split
    · simp
    · have := digs_len k (u / 10)
      simp; omega
theorem digs_num : ∀ (k u : Nat), ∀ b ∈ digs k u, b ≠ 32
  | 0, u => by
    intro b hb
    simp only [digs, List.mem_singleton] at hb
    subst hb
    have : u % 10 < 10 := Nat.mod_lt _ (by decide)
    intro e
    have := congrArg UInt8.toNat e
    rw [UInt8.toNat_ofNat', Nat.mod_eq_of_lt (by omega)] at this
    simp at this
    omega
  | k + 1, u => by
    intro b hb
    rw [digs] at hb
    have : u % 10 < 10 := Nat.mod_lt _ (by decide)
    split at hb
    · simp only [List.mem_singleton] at hb
      subst hb
      intro e
      have := congrArg UInt8.toNat e
      rw [UInt8.toNat_ofNat', Nat.mod_eq_of_lt (by omega)] at this
      simp at this
      omega
    · simp only [List.mem_append, List.mem_singleton] at hb
      rcases hb with hb | hb
      · exact digs_num k _ b hb
      · subst hb
        intro e
        have := congrArg UInt8.toNat e
        rw [UInt8.toNat_ofNat', Nat.mod_eq_of_lt (by omega)] at this
        simp at this
        omega

theorem fmt_eq (v : Int) (h : (Lit.int .u64 v).wf = true) : strconv_FormatUint_s v 10 = some (bsl (digs 19 v.toNat)) := by
  have hb : 0 ≤ v ∧ v < 18446744073709551616 := by
    simp only [Lit.wf, Bool.and_eq_true, decide_eq_true_eq] at h
    have h1 : IntKind.u64.min = 0 := by decide
    have h2 : IntKind.u64.max = 18446744073709551615 := by decide
    omega
  unfold strconv_FormatUint_s internal_strconv_FormatUint_s
  rw [if_pos ⟨rfl, hb.1, hb.2⟩]
  rfl

theorem u64_wf {v : Int} (h : (Lit.int .u64 v).wf = true) : 0 ≤ v ∧ v < 18446744073709551616 := by
  simp only [Lit.wf, Bool.and_eq_true, decide_eq_true_eq] at h
  have h1 : IntKind.u64.min = 0 := by decide
  have h2 : IntKind.u64.max = 18446744073709551615 := by decide
  omega
theorem digs19 (u : Nat) (h : u < 18446744073709551616) : digs 19 u = Lib.decDigits u := digs_eq 19 u (by
  have : (10 : Nat) ^ (19 + 1) = 100000000000000000000 := by decide
  omega)
theorem toStr_one (c : Nat) (h : c < 256) : toStr [(c : Int)] = some (bsl [UInt8.ofNat c]) := by
  unfold toStr
  simp only [List.map_cons, List.map_nil, avI, bytesOf]
  rw [if_pos (by omega)]
  simp [bsl]

theorem Number_run {body : Int × ByteArray → Option (Stp (Int × ByteArray) (Option ByteArray))}
    (hb : ∀ n a, body (n, a) = (toStr ([(U8 (U64 (48 + (Int.tmod n 10))))])).bind fun s_2 => ((catS s_2 a).bind fun s_3 => (if ((U64 (Int.tdiv n 10)) == 0) = true then (some (.ret (some s_3))) else (some (.nxt ((U64 (Int.tdiv n 10)), s_3)))))) :
    ∀ (F n : Nat) (acc : List UInt8), n < 10 ^ F → n < 18446744073709551616 → 1 ≤ F → acc.length + F ≤ 1000 → whileN body F ((n : Int), bsl acc) = some (.ret (some (bsl (Lib.decDigits n ++ acc))))
  | 0, n, acc, _, _, h, _ => by omega
  | F + 1, n, acc, hF, hn, _, hl => by
    have hm : n % 10 < 10 := Nat.mod_lt _ (by decide)
    have e1 : Int.tmod (n : Int) 10 = ((n % 10 : Nat) : Int) := rfl
    have e2 : Int.tdiv (n : Int) 10 = ((n / 10 : Nat) : Int) := rfl
    have e3 : U8 (U64 (48 + ((n % 10 : Nat) : Int))) = ((48 + n % 10 : Nat) : Int) := by
      rw [U64_of (by omega), U8_of (by omega)]; omega
    have e4 : U64 ((n / 10 : Nat) : Int) = ((n / 10 : Nat) : Int) := U64_of (by omega)
    have hbd : body ((n : Int), bsl acc) = if n / 10 = 0 then some (.ret (some (bsl (UInt8.ofNat (48 + n % 10) :: acc)))) else some (.nxt (((n / 10 : Nat) : Int), bsl (UInt8.ofNat (48 + n % 10) :: acc))) := by
      rw [hb, e1, e2, e3, e4, toStr_one _ (by omega), Option.bind_some, cat_b _ _ (by simp; omega), Option.bind_some]
      by_cases h : n / 10 = 0
      · rw [if_pos h, if_pos (by rw [h]; rfl)]; rfl
      · rw [if_neg h, if_neg (by rw [beq_iff_eq]; omega)]; rfl
    by_cases h : n / 10 = 0
    · rw [if_pos h] at hbd
      rw [whileN_ret hbd, Lib.decDigits, dif_pos (by omega), Nat.mod_eq_of_lt (by omega)]; rfl
    · rw [if_neg h] at hbd
      rw [whileN_step hbd]
      have hF' : n / 10 < 10 ^ F := by rw [Nat.pow_succ] at hF; exact Nat.div_lt_of_lt_mul (by omega)
      have h1 : 1 ≤ F := by
        cases F with
        | zero => simp at hF'; omega
        | succ F => omega
      rw [Number_run hb F (n / 10) _ hF' (by omega) h1 (by simp; omega), Lib.decDigits.eq_1 n, dif_neg (by omega), List.append_assoc]
      rfl

theorem whileN_more {σ ρ : Type} {body : σ → Option (Stp σ ρ)} : ∀ (n m : Nat) (s : σ) (o : Out σ ρ), whileN body n s = some o → n ≤ m → whileN body m s = some o
  | 0, m, s, o, h, _ => by simp [whileN] at h
  | n + 1, 0, s, o, h, hm => by omega
  | n + 1, m + 1, s, o, h, hm => by
    simp only [whileN] at h ⊢
    cases e : body s with
    | none => rw [e] at h; cases h
    | some x =>
      rw [e] at h
      cases x with
      | nxt s' => exact whileN_more n m s' o h (by omega)
      | brk s' => exact h
      | ret v => exact h

theorem Number_eq (F : Nat) (hF : 20 ≤ F) (v : Int) (h : 0 ≤ v ∧ v < 18446744073709551616) : windlassref02_Number_s F v = some (bsl (digs 19 v.toNat)) := by
  unfold windlassref02_Number_s
  obtain ⟨n, rfl⟩ : ∃ n : Nat, v = n := ⟨v.toNat, by omega⟩
  have e : (10 : Nat) ^ 20 = 100000000000000000000 := by decide
  have := whileN_more 20 F _ _ (Number_run (body := fun (s_1 : (Int × ByteArray)) => (((toStr ([(U8 (U64 (48 + (Int.tmod s_1.1 10))))])).bind fun s_2 => ((catS s_2 s_1.2).bind fun s_3 => (if ((U64 (Int.tdiv s_1.1 10)) == 0) then (some (.ret (some s_3))) else (some (.nxt ((U64 (Int.tdiv s_1.1 10)), s_3)))))) : Option (Stp (Int × ByteArray) (Option ByteArray))))
    (fun n a => rfl) 20 n [] (by omega) (by omega) (by omega) (by simp)) hF
  rw [show (ByteArray.mk #[]) = bsl [] from rfl, this, List.append_nil, Int.toNat_natCast, digs19 n (by omega)]
  rfl

theorem whileN_fin {σ ρ : Type} {body : σ → Option (Stp σ ρ)} (Inv : σ → Prop) (μ : σ → Nat) (e : σ)
    (h : ∀ s, Inv s → (∃ s', body s = some (.nxt s') ∧ Inv s' ∧ μ s' < μ s) ∨ body s = some (.brk e)) (n : Nat) (s : σ) (hi : Inv s) (hn : μ s < n) : whileN body n s = some (.fin e) := by
  obtain ⟨o, h1, h2⟩ := whileN_ex Inv μ (fun o => o = .fin e) (fun s hs => (h s hs).elim .inl fun q => .inr (.inl ⟨e, q, rfl⟩)) n s hi hn
  rw [h1, h2]

theorem beq_bsl (a b : List UInt8) : (ByteArray.toList (bsl a) == ByteArray.toList (bsl b)) = decide (a = b) := by
  rw [bsl_toList, bsl_toList]
  by_cases h : a = b
  · subst h; simp
  · rw [decide_eq_false h, beq_eq_false_iff_ne]; exact h

def valR (l : List UInt8) : Int × Bool := match numOf l with
  | some n => ((n : Int), true)
  | none => (0, false)

theorem numOf_none {l : List UInt8} (h : numP l = false ∨ 18446744073709551616 ≤ valD 0 l) : numOf l = none := by
  unfold numOf
  rw [if_neg]
  rintro ⟨h1, h2⟩
  rcases h with h | h
  · rw [h] at h1; cases h1
  · omega

theorem valD_take (l : List UInt8) (i : Nat) (h : i < l.length) (a : Nat) : valD a (l.take (i + 1)) = valD a (l.take i) * 10 + (l[i].toNat - 48) := by
  rw [List.take_add_one, List.getElem?_eq_getElem h, show (some l[i]).toList = [l[i]] from rfl, valD_snoc]
theorem valD_mono (l : List UInt8) (i : Nat) : valD 0 (l.take i) ≤ valD 0 l := by
  have e : l = l.take i ++ l.drop i := (List.take_append_drop i l).symm
  have app : ∀ (a b : List UInt8) (k : Nat), valD k (a ++ b) = valD (valD k a) b := by
    intro a
    induction a with
    | nil => intro b k; rw [List.nil_append, valD_nil]
    | cons x a ih => intro b k; rw [List.cons_append, valD_cons, ih, valD_cons]
  have h1 := valD_ge (l.drop i) (valD 0 (l.take i))
  rw [← app, List.take_append_drop] at h1
  exact h1
theorem all_take (l : List UInt8) (i : Nat) (h : i < l.length) (ha : (l.take i).all isDig = true) (hc : isDig l[i] = true) : (l.take (i + 1)).all isDig = true := by
  rw [List.take_add_one, List.getElem?_eq_getElem h, show (some l[i]).toList = [l[i]] from rfl, List.all_append, ha, List.all_cons, hc]; rfl
theorem not_all (l : List UInt8) (i : Nat) (h : i < l.length) (hc : isDig l[i] = false) : numP l = false := by
  unfold numP
  have : l.all isDig = false := by
    rw [Bool.eq_false_iff]
    intro q
    rw [List.all_eq_true.1 q l[i] (List.getElem_mem h)] at hc
    cases hc
  rw [this]; rfl

theorem value_eq (F : Nat) (l : List UInt8) (hF : l.length < F) (hl : l.length ≤ 28400000) : windlassref02_value_s F (bsl l) = some (valR l) := by
  unfold windlassref02_value_s
  simp only [jp, bsl_size]
  by_cases h0 : l.length = 0
  · have : l = [] := List.eq_nil_of_length_eq_zero h0
    subst this
    rfl
  · rw [if_neg (by simpa using h0)]
    have run : numP l = l.all isDig → ∀ {body : Int × Int → Option (Stp (Int × Int) (Option (Int × Bool)))},
        (∀ (n i : Nat) (h : i < l.length), n < 18446744073709551616 → body ((n : Int), (i : Int)) = if isDig l[i] = true then (if n * 10 + (l[i].toNat - 48) < 18446744073709551616 then some (.nxt (((n * 10 + (l[i].toNat - 48) : Nat) : Int), ((i + 1 : Nat) : Int))) else some (.ret (some (0, false)))) else some (.ret (some (0, false)))) →
        (∀ n : Int, body (n, (l.length : Int)) = some (.brk (n, (l.length : Int)))) →
        (whileN body F (0, 0)).bind (oc (fun (s_4 : (Int × Int)) => (some (s_4.1, true)))) = some (valR l) := by
      intro hnum body hb1 hb2
      refine bind_eq (whileN_ex (fun s => ∃ i : Nat, i ≤ l.length ∧ (l.take i).all isDig = true ∧ valD 0 (l.take i) < 18446744073709551616 ∧ s = ((valD 0 (l.take i) : Int), (i : Int))) (fun s => l.length - s.2.toNat) _ ?_ F _ ⟨0, by omega, rfl, by rw [List.take_zero, valD_nil]; omega, by rw [List.take_zero, valD_nil]; rfl⟩ (by simp; omega))
      rintro s ⟨i, hi, hall, hv, rfl⟩
      by_cases hlt : i < l.length
      · rw [hb1 _ i hlt hv]
        by_cases hd : isDig l[i] = true
        · rw [if_pos hd]
          have hvt := valD_take l i hlt 0
          by_cases hov : valD 0 (l.take i) * 10 + (l[i].toNat - 48) < 18446744073709551616
          · rw [if_pos hov]
            left
            exact ⟨_, rfl, ⟨i + 1, by omega, all_take l i hlt hall hd, by rw [hvt]; exact hov, by rw [hvt]⟩, by simp; omega⟩
          · rw [if_neg hov]
            right; right
            refine ⟨_, rfl, ?_⟩
            have := valD_mono l (i + 1)
            have hn : numOf l = none := numOf_none (.inr (by omega))
            simp only [oc, valR, hn]
        · rw [if_neg hd]
          right; right
          refine ⟨_, rfl, ?_⟩
          have hn : numOf l = none := numOf_none (.inl (not_all l i hlt (by simpa using hd)))
          simp only [oc, valR, hn]
      · obtain rfl : i = l.length := by omega
        rw [hb2]
        right; left
        refine ⟨_, rfl, ?_⟩
        rw [List.take_length] at hall hv ⊢
        have hn : numOf l = some (valD 0 l) := by
          unfold numOf; rw [if_pos ⟨by rw [hnum]; exact hall, hv⟩]
        simp only [oc, valR, hn]
    have step : ∀ (n i : Nat) (h : i < l.length), n < 18446744073709551616 →
        (if (decide ((i : Int) < (l.length : Int))) then ((strI (bsl l) (i : Int)).bind fun b_7 => (if (decide (b_7 < 48)) then (some (.ret (some (0, false)))) else ((strI (bsl l) (i : Int)).bind fun b_8 => (if (decide (b_8 > 57)) = true then (some (.ret (some (0, false)))) else ((strI (bsl l) (i : Int)).bind fun b_9 => (if (decide ((n : Int) > 1844674407370955161)) then (some (.ret (some (0, false)))) else (if ((n : Int) == 1844674407370955161) then (if (decide ((U64 (U8 (b_9 - 48))) > 5)) = true then (some (.ret (some (0, false)))) else (some (.nxt ((U64 ((U64 (10 * (n : Int))) + (U64 (U8 (b_9 - 48))))), (I64 ((i : Int) + 1)))))) else (some (.nxt ((U64 ((U64 (10 * (n : Int))) + (U64 (U8 (b_9 - 48))))), (I64 ((i : Int) + 1))))))))))) : Option (Stp (Int × Int) (Option (Int × Bool)))) else (some (.brk ((n : Int), (i : Int)))))
        = if isDig l[i] = true then (if n * 10 + (l[i].toNat - 48) < 18446744073709551616 then some (.nxt (((n * 10 + (l[i].toNat - 48) : Nat) : Int), ((i + 1 : Nat) : Int))) else some (.ret (some (0, false)))) else some (.ret (some (0, false))) := by
      intro n i h hn
      rw [if_pos (by simpa using h), strI_b l i h]
      simp only [Option.bind_some]
      generalize hc : l[i].toNat = c
      have hc2 : c < 256 := by rw [← hc]; exact UInt8.toNat_lt _
      by_cases hd : isDig l[i] = true
      · rw [if_pos hd]
        have hd' := hd
        unfold isDig at hd'
        simp only [decide_eq_true_eq, hc] at hd'
        have e8 : U64 (U8 ((c : Int) - 48)) = ((c - 48 : Nat) : Int) := by rw [U8_of (by omega), U64_of (by omega)]; omega
        have eI : I64 ((i : Int) + 1) = ((i + 1 : Nat) : Int) := by rw [I64_of (by omega)]; omega
        rw [if_neg (by simp; omega), if_neg (by simp; omega), e8, eI]
        by_cases hbig : 1844674407370955161 < n
        · rw [if_pos (by simp; omega), if_neg (by omega)]
        · rw [if_neg (by simp; omega)]
          have e10 : U64 (10 * (n : Int)) = ((n * 10 : Nat) : Int) := by rw [U64_of (by omega)]; omega
          rw [e10]
          by_cases heq : n = 1844674407370955161
          · rw [if_pos (by rw [heq]; rfl)]
            by_cases h5 : 5 < c - 48
            · rw [if_pos (by simp; omega), if_neg (by omega)]
            · have e11 : U64 (((n * 10 : Nat) : Int) + ((c - 48 : Nat) : Int)) = ((n * 10 + (c - 48) : Nat) : Int) := by rw [U64_of (by omega)]; omega
              rw [if_neg (by simp; omega), if_pos (by omega), e11]
          · have e11 : U64 (((n * 10 : Nat) : Int) + ((c - 48 : Nat) : Int)) = ((n * 10 + (c - 48) : Nat) : Int) := by rw [U64_of (by omega)]; omega
            rw [if_neg (by rw [beq_iff_eq]; omega), if_pos (by omega), e11]
      · rw [if_neg hd]
        have hd' : ¬ (48 ≤ c ∧ c ≤ 57) := by
          intro q
          apply hd
          unfold isDig
          rw [hc]
          simpa using q
        by_cases h1 : c < 48
        · rw [if_pos (by simp; omega)]
        · rw [if_neg (by simp; omega), if_pos (by simp; omega)]
    by_cases h1 : 1 < l.length
    · have hs0 := strI_b l 0 (by omega)
      rw [show ((0 : Nat) : Int) = 0 from rfl] at hs0
      rw [if_pos (by simp only [decide_eq_true_eq]; omega), hs0, Option.bind_some]
      by_cases h48 : l[0] = 48
      · have hnP : numP l = false := by
          unfold numP
          cases l with
          | nil => simp at h0
          | cons x r =>
            simp only [List.getElem_cons_zero] at h48
            have : ¬ (x :: r).length = 1 := by omega
            have e1 : decide ((x :: r).length = 1) = false := decide_eq_false this
            have e2 : decide ((x :: r).head? ≠ some 48) = false := by simp [h48]
            rw [e1, e2, Bool.or_false, Bool.and_false]
        rw [if_pos (by rw [h48]; rfl), valR, numOf_none (.inl hnP)]
      · have hh : ¬ (((l[0].toNat : Nat) : Int) == 48) = true := by
          rw [beq_iff_eq]
          intro q
          exact h48 (UInt8.toNat_inj.1 (by show l[0].toNat = 48; omega))
        rw [if_neg hh]
        refine run ?_ (fun n i h hn => ?_) (fun n => by rw [if_neg (by simp)])
        · unfold numP
          cases l with
          | nil => simp at h0
          | cons x r =>
            simp only [List.getElem_cons_zero] at h48
            simp [h48]
        · exact step n i h hn
    · rw [if_neg (by simp only [decide_eq_true_eq]; omega)]
      refine run ?_ (fun n i h hn => ?_) (fun n => by rw [if_neg (by simp)])
      · unfold numP
        have e1 : l.length = 1 := by omega
        have : l ≠ [] := fun q => by subst q; simp at h0
        simp [e1, this]
      · exact step n i h hn

theorem Split_eq (c : UInt8) (F : Nat) (l : List UInt8) (hF : l.length + 2 < F) (hl : l.length ≤ 28400000) : windlassref02_Split_s F (bsl l) (c.toNat : Int) = some ((splitL c l).map bsl) := by
  unfold windlassref02_Split_s
  refine bind_eq ⟨.fin ((c.toNat : Int), ((l.length + 1 : Nat) : Int), ((l.length + 1 : Nat) : Int), (splitL c l).map bsl), ?_, rfl⟩
  refine whileN_fin (fun s => ∃ (fr i : Nat) (ws : List (List UInt8)), fr ≤ i ∧ i ≤ l.length + 1 ∧ s = ((c.toNat : Int), (fr : Int), (i : Int), ws.map bsl) ∧ ws.length ≤ i ∧
      (i ≤ l.length → c ∉ (l.drop fr).take (i - fr) ∧ splitL c l = ws ++ splitL c (l.drop fr)) ∧ (i = l.length + 1 → fr = l.length + 1 ∧ splitL c l = ws)) (fun s => l.length + 1 - s.2.2.1.toNat) _ ?_ _ _ ⟨0, 0, [], by omega, by omega, rfl, by simp, fun _ => ⟨by simp, by simp⟩, fun q => by omega⟩ (by simp; omega)
  rintro s ⟨fr, i, ws, hfi, hi, rfl, hws, hmid, hend⟩
  dsimp only [jp]
  rw [bsl_size]
  by_cases hle : i ≤ l.length
  · left
    obtain ⟨hno, hsp⟩ := hmid hle
    have eI : I64 ((i : Int) + 1) = ((i + 1 : Nat) : Int) := by rw [I64_of (by omega)]; omega
    rw [if_pos (by simpa using hle), eI]
    have hpiece : subS (bsl l) (fr : Int) (i : Int) = some (bsl ((l.drop fr).take (i - fr))) := by
      rw [sub_b l fr i hfi hle, List.drop_take]
    have happ : ∀ w : List UInt8, appL 16 (ws.map bsl) [bsl w] = some ((ws ++ [w]).map bsl) := by
      intro w; rw [appL_of (by simp; omega), List.map_append]; rfl
    by_cases hil : i = l.length
    · rw [if_pos (by rw [hil]; simp)]
      rw [if_pos rfl, hpiece, Option.bind_some, happ, Option.bind_some]
      refine ⟨_, rfl, ⟨i + 1, i + 1, ws ++ [(l.drop fr).take (i - fr)], by omega, by omega, rfl, by simp; omega, fun q => by omega, fun _ => ⟨by omega, ?_⟩⟩, by simp; omega⟩
      have e : (l.drop fr).take (i - fr) = l.drop fr := List.take_of_length_le (by rw [List.length_drop]; omega)
      rw [hsp, e, splitL_none c (l.drop fr) (by rw [← e]; exact hno)]
    · have hlt : i < l.length := by omega
      rw [if_neg (by rw [beq_iff_eq]; omega), strI_b l i hlt, Option.bind_some]
      have hdr : l.drop fr = (l.drop fr).take (i - fr) ++ l[i] :: l.drop (i + 1) := by
        have h1 : (l.drop fr).drop (i - fr) = l.drop i := by rw [List.drop_drop]; congr 1; omega
        have h2 : l.drop i = l[i] :: l.drop (i + 1) := List.drop_eq_getElem_cons hlt
        rw [← h2, ← h1, List.take_append_drop]
      by_cases h32 : l[i] = c
      · rw [if_pos (by rw [h32, beq_iff_eq]), hpiece, Option.bind_some, happ, Option.bind_some]
        refine ⟨_, rfl, ⟨i + 1, i + 1, ws ++ [(l.drop fr).take (i - fr)], by omega, by omega, rfl, by simp; omega, fun _ => ⟨by simp, ?_⟩, fun q => by omega⟩, by simp; omega⟩
        rw [hsp]
        conv => lhs; rw [hdr, h32, splitL_app c _ hno]
        simp
      · have hh : ¬ (((l[i].toNat : Nat) : Int) == (c.toNat : Int)) = true := by
          rw [beq_iff_eq]
          intro q
          exact h32 (UInt8.toNat_inj.1 (by omega))
        rw [if_neg hh]
        refine ⟨_, rfl, ⟨fr, i + 1, ws, by omega, by omega, rfl, by omega, fun _ => ⟨?_, hsp⟩, fun q => by omega⟩, by simp; omega⟩
        rw [show i + 1 - fr = (i - fr) + 1 by omega, List.take_add_one]
        have : (l.drop fr)[i - fr]? = some l[i] := by
          rw [List.getElem?_drop, show fr + (i - fr) = i by omega, List.getElem?_eq_getElem hlt]
        rw [this]
        intro hm
        rcases List.mem_append.1 hm with q | q
        · exact hno q
        · simp at q; exact h32 q.symm
  · right
    obtain rfl : i = l.length + 1 := by omega
    obtain ⟨rfl, hsp⟩ := hend rfl
    rw [if_neg (by simp; omega), hsp]
theorem TSplit_eq (c : UInt8) (l : List UInt8) (hl : l.length ≤ 28400000) : strings_Split_s (bsl l) (bsl [c]) = some ((splitL c l).map bsl) := by
  unfold strings_Split_s
  rw [if_pos ⟨by rw [bsl_size]; omega, by rw [bsl_size]; simp⟩]
  congr 1
  have h1 := Lib.splitB_data (bsl [c]) 0 (Lib.countB (bsl l) (bsl [c])) (bsl l)
  have h2 : Lib.countB (bsl l) (bsl [c]) = l.count c := by
    show Lib.count (bsl l).data.toList (bsl [c]).data.toList = _
    rw [bsl_data, bsl_data, Lib.count_one]
  rw [bsl_data, bsl_data, splitK_ge c _ l (by rw [h2]; exact Nat.le_refl _)] at h1
  rw [← h1, List.map_map]
  show _ = List.map (bsl ∘ fun (x : ByteArray) => x.data.toList) _
  rw [show (bsl ∘ fun (x : ByteArray) => x.data.toList) = id from funext fun x => (bsl_eq x).symm, List.map_id]

theorem fmtN (u : Nat) (h : u < 18446744073709551616) : strconv_FormatUint_s (u : Int) 10 = some (bsl (Lib.decDigits u)) := by
  unfold strconv_FormatUint_s internal_strconv_FormatUint_s
  rw [if_pos ⟨rfl, by omega, by omega⟩, Int.toNat_natCast, digs19 u h]; rfl

theorem parse_eq (r : List UInt8) (hr : r.length ≤ 28400000) : ∃ p : Int × Bool, strconv_ParseUint_s (bsl r) 10 64 = some p ∧ ((∃ u : Nat, p = ((u : Int), false) ∧ Lib.parseUintB 64 r = .ok u) ∨ (p.2 = true ∧ numOf r = none)) := by
  have hno : (∀ u, Lib.parseUintB 64 r ≠ .ok u) → numOf r = none := by
    intro h
    cases q : numOf r with
    | none => rfl
    | some m =>
      obtain ⟨q1, q2⟩ := (numOf_iff r m).1 q
      exact (h m (parse_num r m q2 q1)).elim
  unfold strconv_ParseUint_s
  rw [if_pos ⟨rfl, rfl, by rw [bsl_size]; omega⟩, bsl_data]
  cases e : Lib.parseUintB 64 r with
  | ok u => exact ⟨_, rfl, .inl ⟨u, rfl, rfl⟩⟩
  | «syntax» => exact ⟨_, rfl, .inr ⟨rfl, hno (fun u q => by rw [e] at q; cases q)⟩⟩
  | range => exact ⟨_, rfl, .inr ⟨rfl, hno (fun u q => by rw [e] at q; cases q)⟩⟩

theorem join_len (c : UInt8) (ws : List (List UInt8)) : ∀ w ∈ ws, w.length ≤ (Lib.join ws [c]).length ∧ ws.length ≤ (Lib.join ws [c]).length + 1 := by
  intro w hw
  obtain ⟨x, r, rfl⟩ := List.exists_cons_of_ne_nil (List.ne_nil_of_mem hw)
  rw [Lib.join_length]
  have h1 : ∀ (l : List (List UInt8)), ∀ u ∈ l, u.length ≤ Lib.lens l := by
    intro l
    induction l with
    | nil => intro u hu; simp at hu
    | cons a b ih =>
      intro u hu
      have : Lib.lens (a :: b) = a.length + Lib.lens b := by simp [Lib.lens]
      rcases List.mem_cons.1 hu with rfl | q
      · omega
      · have := ih u q; omega
  have := h1 (x :: r) w hw
  refine ⟨by omega, ?_⟩
  simp
theorem split_len (c : UInt8) (l : List UInt8) : (splitL c l).length ≤ l.length + 1 ∧ ∀ w ∈ splitL c l, w.length ≤ l.length := by
  have h := join_len c (splitL c l)
  rw [splitL_join] at h
  obtain ⟨x, r, e⟩ := List.exists_cons_of_ne_nil (splitL_ne c l)
  exact ⟨(h x (by rw [e]; simp)).2, fun w hw => (h w hw).1⟩

theorem valR_some {l : List UInt8} {n : Nat} (h : numOf l = some n) : valR l = ((n : Int), true) := by unfold valR; rw [h]
theorem valR_none {l : List UInt8} (h : numOf l = none) : valR l = (0, false) := by unfold valR; rw [h]

end Go.Proofs.YtkfhljombjmdbaaDoor
/- Plain laws of the texts: words, names, numbers, one line's instruction (text.instruction). -/
namespace Go.Proofs.YtkfhljombjmdbaaDoor
open Go Go.Ab Go.RowKit
set_option maxRecDepth 20000
set_option linter.unusedVariables false
set_option linter.unusedSimpArgs false

/-- The words of a line. -/
def wordsOf (l : List UInt8) : List (List UInt8) := (splitL 32 l).filter fun w => decide (w ≠ [])
theorem wordsOf_mem {l w : List UInt8} (h : w ∈ wordsOf l) : w ≠ [] ∧ (32 : UInt8) ∉ w ∧ w.length ≤ l.length := by
  obtain ⟨h1, h2⟩ := List.mem_filter.1 h
  exact ⟨by simpa using h2, splitL_free 32 l w h1, (split_len 32 l).2 w h1⟩
theorem wordsOf_len (l : List UInt8) : (wordsOf l).length ≤ l.length + 1 := Nat.le_trans (List.length_filter_le _ _) (split_len 32 l).1
theorem emptyS_b (w : List UInt8) : Go.Proofs.emptyS (bsl w) = decide (w = []) := by
  unfold Go.Proofs.emptyS
  rw [show (ByteArray.mk #[]) = bsl [] from rfl, beq_bsl]
theorem delE_eq (ws : List (List UInt8)) : delE (ws.map bsl) = (ws.filter fun w => decide (w ≠ [])).map bsl := by
  unfold delE
  rw [List.filter_map]
  congr 1
  apply List.filter_congr
  intro w _
  simp only [Function.comp, emptyS_b]
  by_cases h : w = [] <;> simp [h]
theorem text_words (l : List UInt8) (hl : l.length ≤ 28400000) : (strings_Split_s (bsl l) (ByteArray.mk #[32])).bind delS = some ((wordsOf l).map bsl) := by
  rw [show (ByteArray.mk #[32]) = bsl [32] from rfl, TSplit_eq 32 l hl, Option.bind_some]
  have h1 := (split_len 32 l).1
  unfold delS
  rw [if_pos ⟨by simpa using splitL_ne 32 l, by rw [List.length_map]; omega⟩, delE_eq]
  rfl
theorem Words_eq (F : Nat) (l : List UInt8) (hF : l.length + 2 < F) (hl : l.length ≤ 28400000) : windlassref04_Words_s F (bsl l) = some ((wordsOf l).map bsl) := by
  unfold windlassref04_Words_s
  have := Split_eq 32 F l hF hl
  rw [show ((32 : UInt8).toNat : Int) = 32 from rfl] at this
  rw [this, Option.bind_some]
  have h1 := (split_len 32 l).1
  have run : ∀ (ws : List (List UInt8)) (k : Nat) (a : List (List UInt8)), a.length + ws.length ≤ 28400001 →
      rangeL (fun (i_3 : Nat) (w_4 : ByteArray) (s_2 : (List ByteArray)) => ((if (!(ByteArray.toList w_4 == ByteArray.toList (bsl []))) then ((appL 16 s_2 [w_4]).bind fun l_6 => (some (.nxt l_6))) else (some (.nxt s_2))) : Option (Stp (List ByteArray) (Option (List ByteArray))))) (ws.map bsl) k (a.map bsl) = some (.fin ((a ++ ws.filter fun w => decide (w ≠ [])).map bsl)) := by
    intro ws
    induction ws with
    | nil => intro k a _; simp [rangeL]
    | cons w r ih =>
      intro k a ha
      simp only [List.length_cons] at ha
      rw [List.map_cons, rangeL]
      rw [beq_bsl]
      by_cases hw : w = []
      · subst hw
        simp only [decide_true, Bool.not_true, Bool.false_eq_true, if_false]
        rw [ih (k + 1) a (by omega)]
        simp
      · rw [if_pos (by simp [hw]), appL_of (by simp; omega), Option.bind_some]
        simp only
        have := ih (k + 1) (a ++ [w]) (by simp; omega)
        rw [List.map_append] at this
        rw [show [bsl w] = [w].map bsl from rfl, this, List.filter_cons, if_pos (by simpa using hw)]
        simp
  refine bind_eq ⟨.fin ((wordsOf l).map bsl), ?_, rfl⟩
  unfold rng
  rw [if_pos (by rw [List.length_map]; omega)]
  have := run (splitL 32 l) 0 [] (by simp; omega)
  rw [List.nil_append] at this
  exact this

/-- The operations' names. -/
def nm : List (List UInt8) := [[99, 111, 110, 115, 116], [103, 101, 116], [115, 101, 116], [97, 100, 100, 114], [108, 111, 97, 100], [115, 116, 111, 114, 101], [97, 100, 100], [115, 117, 98], [109, 117, 108], [100, 105, 118], [114, 101, 109], [97, 110, 100], [111, 114], [120, 111, 114], [115, 104, 108], [115, 104, 114], [115, 97, 114], [101, 113], [108, 116], [98, 101, 108, 111, 119], [106, 117, 109, 112], [122, 101, 114, 111], [99, 97, 108, 108], [114, 101, 116], [100, 101, 102, 101, 114], [112, 97, 110, 105, 99], [114, 101, 99, 111, 118, 101, 114], [105, 110], [111, 117, 116], [101, 120, 105, 116], [100, 114, 111, 112], [100, 117, 112]]
theorem nm_len : nm.length = 32 := rfl
theorem nm_free : ∀ w ∈ nm, w ≠ [] ∧ (32 : UInt8) ∉ w ∧ w.length ≤ 7 := by decide
theorem nm_nodup : nm.Nodup := by decide
theorem names_eq : text_names_s = some (nm.map bsl) := by
  unfold text_names_s
  rw [show (ByteArray.mk #[32]) = bsl [32] from rfl]
  have := TSplit_eq 32 [99, 111, 110, 115, 116, 32, 103, 101, 116, 32, 115, 101, 116, 32, 97, 100, 100, 114, 32, 108, 111, 97, 100, 32, 115, 116, 111, 114, 101, 32, 97, 100, 100, 32, 115, 117, 98, 32, 109, 117, 108, 32, 100, 105, 118, 32, 114, 101, 109, 32, 97, 110, 100, 32, 111, 114, 32, 120, 111, 114, 32, 115, 104, 108, 32, 115, 104, 114, 32, 115, 97, 114, 32, 101, 113, 32, 108, 116, 32, 98, 101, 108, 111, 119, 32, 106, 117, 109, 112, 32, 122, 101, 114, 111, 32, 99, 97, 108, 108, 32, 114, 101, 116, 32, 100, 101, 102, 101, 114, 32, 112, 97, 110, 105, 99, 32, 114, 101, 99, 111, 118, 101, 114, 32, 105, 110, 32, 111, 117, 116, 32, 101, 120, 105, 116, 32, 100, 114, 111, 112, 32, 100, 117, 112] (by decide)
  refine (congrArg (fun (o : Option (List ByteArray)) => o.bind fun s => some s) this).trans ?_
  kernel_rfl
theorem Name_eq (k : Nat) (h : k < 32) : windlassref04_Name_s ((k + 1 : Nat) : Int) = (nm[k]?).map bsl := by
  have : ∀ k, k < 32 → windlassref04_Name_s ((k + 1 : Nat) : Int) = (nm[k]?).map bsl := by
    intro k hk
    unfold windlassref04_Name_s
    have e : (U8 (((k + 1 : Nat) : Int) - 1)) = (k : Int) := by
      rw [show (((k + 1 : Nat) : Int) - 1) = (k : Int) by omega]
      exact U8_of (by omega)
    rw [e]
    unfold getI
    rw [if_pos (by omega), Int.toNat_natCast, Option.bind_fun_some]
    exact (congrArg (fun (l : List ByteArray) => l[k]?) (show _ = nm.map bsl from rfl)).trans List.getElem?_map
  exact this k h
def ixOf (w : List UInt8) : Option Nat := nm.findIdx? fun x => decide (w = x)
theorem Index_run (w : List UInt8) : ∀ (n k : Nat), k + n = 32 → (∀ j, j < k → nm[j]? ≠ some w) →
    ∃ r, rangeN (fun (i_2 : Nat) (s_1 : ByteArray) => (((getI (nm.map bsl) (i_2 : Int)).bind fun y_3 => (if (ByteArray.toList s_1 == ByteArray.toList y_3) then (some (.ret (some (i_2 : Int)))) else (some (.nxt s_1)))) : Option (Stp ByteArray (Option Int)))) n k (bsl w) = some r ∧
      ((∃ j : Nat, nm[j]? = some w ∧ r = .ret (some (j : Int))) ∨ (w ∉ nm ∧ r = .fin (bsl w)))
  | 0, k, hk, h => ⟨_, rfl, .inr ⟨fun hm => by
      obtain ⟨j, hj, e⟩ := List.getElem_of_mem hm
      exact h j (by rw [nm_len] at hj; omega) (by rw [← e]; exact List.getElem?_eq_getElem hj), rfl⟩⟩
  | n + 1, k, hk, h => by
    have hk2 : k < nm.length := by rw [nm_len]; omega
    have hg : getI (nm.map bsl) (k : Int) = some (bsl nm[k]) := by
      refine getI_of ?_
      rw [List.getElem?_map, List.getElem?_eq_getElem hk2]; rfl
    rw [rangeN]
    simp only [hg, Option.bind_some]
    rw [beq_bsl]
    by_cases hw : w = nm[k]
    · rw [if_pos (by simpa using hw)]
      exact ⟨_, rfl, .inl ⟨k, by rw [hw]; exact List.getElem?_eq_getElem hk2, rfl⟩⟩
    · rw [if_neg (by simpa using hw)]
      exact Index_run w n (k + 1) (by omega) (fun j hj => by
        by_cases hjk : j = k
        · subst hjk; rw [List.getElem?_eq_getElem hk2]; intro q; exact hw (Option.some.inj q).symm
        · exact h j (by omega))
theorem Index_eq (w : List UInt8) : (∃ j : Nat, nm[j]? = some w ∧ slices_Index_0_s (nm.map bsl) (bsl w) = some (j : Int)) ∨ (w ∉ nm ∧ slices_Index_0_s (nm.map bsl) (bsl w) = some (-1)) := by
  unfold slices_Index_0_s rni
  rw [if_pos (by rw [List.length_map, nm_len]; decide)]
  obtain ⟨r, h1, h2⟩ := Index_run w 32 0 rfl (fun j hj => by omega)
  have e : (((nm.map bsl).length : Int)).toNat = 32 := rfl
  rw [e, h1, Option.bind_some]
  rcases h2 with ⟨j, hj, rfl⟩ | ⟨hn, rfl⟩
  · exact .inl ⟨j, hj, rfl⟩
  · exact .inr ⟨hn, rfl⟩

/-- How wide an operand is, by the operation's number from 0 on; the greatest one. -/
def mostN (k : Nat) : Nat := if k = 0 then 18446744073709551615 else if k = 1 ∨ k = 2 ∨ k = 3 ∨ k = 22 ∨ k = 24 then 255 else if k = 20 ∨ k = 21 then 65535 else 0
theorem most_eq (k : Nat) (h : k < 32) : text_most_s ((k + 1 : Nat) : Int) = some (mostN k : Int) := by
  have : ∀ k : Fin 32, text_most_s ((k.val + 1 : Nat) : Int) = some (mostN k.val : Int) := by decide +kernel
  exact this ⟨k, h⟩
/-- A number that is at most so great, in the one form. -/
def numM (m : Nat) (w : List UInt8) : Option Nat := (numOf w).bind fun n => if n ≤ m then some n else none
theorem numM_some {m n : Nat} {w : List UInt8} (h : numM m w = some n) : n ≤ m ∧ w = Lib.decDigits n ∧ n < 18446744073709551616 := by
  unfold numM at h
  cases e : numOf w with
  | none => rw [e] at h; cases h
  | some k =>
    rw [e, Option.bind_some] at h
    split at h
    · cases h; exact ⟨by assumption, (numOf_iff w n).1 e⟩
    · cases h
theorem number_eq (w : List UInt8) (m : Nat) (hw : w.length ≤ 28400000) : ∃ n' : Int, text_number_s (bsl w) (m : Int) = some (n', (numM m w).isSome) ∧ (∀ n : Nat, numM m w = some n → n' = n) := by
  unfold text_number_s
  obtain ⟨p, hp, hc⟩ := parse_eq w hw
  rw [hp, Option.bind_some]
  rcases hc with ⟨u, rfl, hu⟩ | ⟨h2, hn⟩
  · have hlt := parse_lt w u hu
    dsimp only [jp]
    rw [if_pos (by rfl)]
    by_cases hm : (u : Int) ≤ (m : Int)
    · rw [if_pos (by simpa using hm), fmtN u hlt, Option.bind_some, beq_bsl]
      by_cases he : Lib.decDigits u = w
      · have hnm : numM m w = some u := by
          unfold numM
          rw [(numOf_iff w u).2 ⟨he.symm, hlt⟩, Option.bind_some, if_pos (by omega)]
        refine ⟨(u : Int), by rw [hnm, decide_eq_true he]; rfl, fun n h => ?_⟩
        rw [hnm] at h; exact congrArg Int.ofNat (Option.some.inj h)
      · have hnm : numM m w = none := by
          cases e : numM m w with
          | none => rfl
          | some n =>
            obtain ⟨a, b, c⟩ := numM_some e
            rw [parse_num w n c b] at hu
            cases hu
            exact (he b.symm).elim
        refine ⟨(u : Int), by rw [hnm, decide_eq_false he]; rfl, fun n h => by rw [hnm] at h; cases h⟩
    · have hnm : numM m w = none := by
        cases e : numM m w with
        | none => rfl
        | some n =>
          obtain ⟨a, b, c⟩ := numM_some e
          rw [parse_num w n c b] at hu
          cases hu
          omega
      rw [if_neg (by simpa using hm)]
      exact ⟨(u : Int), by rw [hnm]; rfl, fun n h => by rw [hnm] at h; cases h⟩
  · have hnm : numM m w = none := by unfold numM; rw [hn]; rfl
    obtain ⟨p1, p2⟩ := p
    simp only at h2
    subst h2
    dsimp only [jp]
    rw [if_neg (by simp)]
    exact ⟨p1, by rw [hnm]; rfl, fun n h => by rw [hnm] at h; cases h⟩

/-- The instruction that a line's words say. -/
def instrOf : List (List UInt8) → Option Instr
  | [w0] => (ixOf w0).bind fun k => if mostN k = 0 then some ⟨(k + 1 : Nat), 0, 0⟩ else none
  | [w0, w1] => (ixOf w0).bind fun k => if mostN k = 0 then none else (numM (mostN k) w1).map fun n : Nat => if k = 0 then ⟨1, 0, (n : Int)⟩ else ⟨((k + 1 : Nat) : Int), (n : Int), 0⟩
  | _ => none
theorem nm_inj : ∀ i j : Fin 32, i < j → nm[i] ≠ nm[j] := by decide
theorem ixOf_some {w : List UInt8} {j : Nat} (h : nm[j]? = some w) : ixOf w = some j := by
  unfold ixOf
  obtain ⟨hj, e⟩ := List.getElem?_eq_some_iff.1 h
  rw [List.findIdx?_eq_some_iff_getElem]
  refine ⟨hj, by simpa using e.symm, fun i hi => ?_⟩
  intro q
  have q : w = nm[i] := by simpa using q
  have hj2 : j < 32 := hj
  exact nm_inj ⟨i, by omega⟩ ⟨j, hj2⟩ hi (q.symm.trans e.symm)
theorem ixOf_none {w : List UInt8} (h : w ∉ nm) : ixOf w = none := by
  unfold ixOf
  rw [List.findIdx?_eq_none_iff]
  intro x hx
  exact decide_eq_false (p := w = x) (fun q => h (q ▸ hx))
theorem ixOf_lt {w : List UInt8} {j : Nat} (h : ixOf w = some j) : j < 32 ∧ nm[j]? = some w := by
  unfold ixOf at h
  rw [List.findIdx?_eq_some_iff_getElem] at h
  obtain ⟨hj, e, _⟩ := h
  have e : w = nm[j] := by simpa using e
  exact ⟨hj, by rw [e]; exact List.getElem?_eq_getElem hj⟩
theorem zip_names (ws : List (List UInt8)) (w0 : List UInt8) (r : List (List UInt8)) (h : ws = w0 :: r) (i : Int) (hi : i = 0) : getI (ws.map bsl) i = some (bsl w0) := by
  subst h; subst hi; rfl
theorem instruction_eq (w0 : List UInt8) (r : List (List UInt8)) (hr : ∀ w ∈ r, w.length ≤ 28400000) (hn : r.length ≤ 28400000) :
    ∃ i : Instr, text_instruction_s ((w0 :: r).map bsl) = some (i, (instrOf (w0 :: r)).isSome) ∧ ∀ j, instrOf (w0 :: r) = some j → i = j := by
  unfold text_instruction_s
  rw [names_eq, Option.bind_some, zip_names (w0 :: r) w0 r rfl 0 rfl, Option.bind_some]
  rcases Index_eq w0 with ⟨k, hk, e⟩ | ⟨hno, e⟩
  · have hk2 : k < 32 := by
      have := (List.getElem?_eq_some_iff.1 hk).1
      rwa [nm_len] at this
    have hix := ixOf_some hk
    have e1 : U8 (I64 ((k : Int) + 1)) = ((k + 1 : Nat) : Int) := by rw [I64_of (by omega), U8_of (by omega)]; omega
    rw [e, Option.bind_some, e1, if_neg (by rw [beq_iff_eq]; omega), most_eq k hk2, Option.bind_some]
    have e2 : (((k + 1 : Nat) : Int) == 1) = decide (k = 0) := by
      by_cases h : k = 0
      · subst h; rfl
      · rw [decide_eq_false h, beq_eq_false_iff_ne]; omega
    by_cases hm : mostN k = 0
    · rw [if_pos (by rw [hm]; rfl)]
      match r with
      | [] => exact ⟨_, by simp only [instrOf, hix, Option.bind_some, if_pos hm]; rfl, fun j hj => by simp only [instrOf, hix, Option.bind_some, if_pos hm] at hj; exact Option.some.inj hj⟩
      | [w1] => exact ⟨_, by simp only [instrOf, hix, Option.bind_some, if_pos hm]; rfl, fun j hj => by simp [instrOf, hix, hm] at hj⟩
      | w1 :: w2 :: t =>
        refine ⟨⟨((k + 1 : Nat) : Int), 0, 0⟩, ?_, fun j hj => by simp [instrOf] at hj⟩
        have : (((((w0 :: w1 :: w2 :: t).map bsl).length : Nat) : Int) == 1) = false := by
          rw [beq_eq_false_iff_ne]; simp; omega
        rw [this]; rfl
    · rw [if_neg (by rw [beq_iff_eq]; omega)]
      match r, hr, hn with
      | [], _, _ =>
        rw [if_pos (by rfl)]
        exact ⟨_, by simp only [instrOf, hix, Option.bind_some, if_neg hm]; rfl, fun j hj => by simp [instrOf, hix, hm] at hj⟩
      | [w1], hr, _ =>
        rw [if_neg (by simp)]
        have hg : getI ((w0 :: [w1]).map bsl) 1 = some (bsl w1) := rfl
        obtain ⟨n', h1, h2⟩ := number_eq w1 (mostN k) (hr w1 (by simp))
        rw [hg, Option.bind_some, h1, Option.bind_some, e2]
        dsimp only [jp]
        cases hnum : numM (mostN k) w1 with
        | none =>
          by_cases h0 : k = 0
          · rw [decide_eq_true h0, if_pos rfl]
            exact ⟨_, by simp only [instrOf, hix, Option.bind_some, if_neg hm, hnum]; rfl, fun j hj => by simp [instrOf, hix, hm, hnum] at hj⟩
          · rw [decide_eq_false h0, if_neg (by simp)]
            exact ⟨_, by simp only [instrOf, hix, Option.bind_some, if_neg hm, hnum]; rfl, fun j hj => by simp [instrOf, hix, hm, hnum] at hj⟩
        | some n =>
          have hn' := h2 n hnum
          subst hn'
          obtain ⟨b1, b2, b3⟩ := numM_some hnum
          by_cases h0 : k = 0
          · subst h0
            rw [decide_eq_true rfl, if_pos rfl]
            refine ⟨_, by simp only [instrOf, hix, Option.bind_some, if_neg hm, hnum]; rfl, fun j hj => ?_⟩
            simp only [instrOf, hix, Option.bind_some, if_neg hm, hnum, Option.map_some, if_true] at hj
            exact Option.some.inj hj
          · rw [decide_eq_false h0, if_neg (by simp)]
            have hle : n ≤ 65535 := by
              have : mostN k ≤ 65535 := by unfold mostN; rw [if_neg h0]; split <;> (try split) <;> omega
              omega
            have e3 : I64 (n : Int) = (n : Int) := I64_of (by omega)
            refine ⟨_, by simp only [instrOf, hix, Option.bind_some, if_neg hm, hnum]; rfl, fun j hj => ?_⟩
            simp only [instrOf, hix, Option.bind_some, if_neg hm, hnum, Option.map_some, if_neg h0] at hj
            rw [e3]
            exact Option.some.inj hj
      | w1 :: w2 :: t, _, hn =>
        rw [if_pos (by rw [bne_iff_ne]; simp; omega)]
        exact ⟨_, by simp only [instrOf]; rfl, fun j hj => by simp [instrOf] at hj⟩
  · have hix := ixOf_none hno
    rw [e, Option.bind_some]
    have e1 : U8 (I64 ((-1 : Int) + 1)) = 0 := by decide
    rw [e1, if_pos (by rfl)]
    refine ⟨⟨0, 0, 0⟩, ?_, fun j hj => ?_⟩
    · match r with
      | [] => simp only [instrOf, hix, Option.bind_none]; rfl
      | [w1] => simp only [instrOf, hix, Option.bind_none]; rfl
      | w1 :: w2 :: t => rfl
    · match r with
      | [] => simp [instrOf, hix] at hj
      | [w1] => simp [instrOf, hix] at hj
      | w1 :: w2 :: t => simp [instrOf] at hj
end Go.Proofs.YtkfhljombjmdbaaDoor
/- Plain laws of the texts: one line's function (text.function). -/
namespace Go.Proofs.YtkfhljombjmdbaaDoor
open Go Go.Ab Go.RowKit
set_option maxRecDepth 20000
set_option linter.unusedVariables false
set_option linter.unusedSimpArgs false

def kindC (c : UInt8) : Int := if c = 112 then 1 else 0
def okC (c : UInt8) : Bool := decide (c = 110 ∨ c = 112)
def kindsOf (w : List UInt8) : Option (List Int) := if w = [45] then some [] else if w.all okC = true then some (w.map kindC) else none
def flagOf (w : List UInt8) : Option Bool := if w = [48] then some false else if w = [49] then some true else none
def keepOf (w : List UInt8) : Option Int := if w = [45] then some (-1) else (numM 254 w).map fun n => (n : Int)
/-- The function that a line's words say. -/
def funcOf : List (List UInt8) → Option Func
  | [_, w1, w2, w3, w4] => (numM 255 w1).bind fun n => (kindsOf w2).bind fun ks => (flagOf w3).bind fun fl => (keepOf w4).map fun kp => ⟨n, ks, fl, kp, []⟩
  | _ => none
theorem np_eq : ∀ u : Fin 256, Lib.indexByte [110, 112] (UInt8.ofNat u.val) = if u.val = 110 then 0 else if u.val = 112 then 1 else -1 := by decide +kernel
theorem np_at (c : UInt8) : strings_IndexByte_s (ByteArray.mk #[110, 112]) (c.toNat : Int) = some (if c = 110 then 0 else if c = 112 then 1 else -1) := by
  unfold strings_IndexByte_s
  have h := np_eq ⟨c.toNat, c.toNat_lt⟩
  have e : UInt8.ofNat c.toNat = c := UInt8.ofNat_toNat
  simp only [e] at h
  rw [Int.toNat_natCast]
  have e2 : c.toNat.toUInt8 = c := by rw [← e]; simp
  rw [e2, show (ByteArray.mk #[110, 112]).data.toList = [110, 112] from rfl, h]
  congr 1
  have a1 : (c.toNat = 110) ↔ c = 110 := ⟨fun q => UInt8.toNat_inj.1 q, fun q => by rw [q]; rfl⟩
  have a2 : (c.toNat = 112) ↔ c = 112 := ⟨fun q => UInt8.toNat_inj.1 q, fun q => by rw [q]; rfl⟩
  simp only [a1, a2]
theorem kinds_run : ∀ (w : List UInt8) (k : Nat) (b : Bool) (a : List Int), a.length + w.length ≤ 28400000 →
    rangeL (fun (i_8 : Nat) (c_9 : Int) (s_7 : (Bool × (List Int))) => (((strings_IndexByte_s (ByteArray.mk #[110, 112]) c_9).bind fun ind_11 => (jp (fun (s_13 : Bool) => ((appL 1 s_7.2 [(U8 (if 0 > ind_11 then 0 else ind_11))]).bind fun l_14 => (some (.nxt (s_13, l_14))))) (fun k_12 => (if s_7.1 then (k_12 (decide (ind_11 ≥ 0))) else (k_12 false))))) : Option (Stp (Bool × (List Int)) (Option (Func × Bool)))))
      (w.map fun c => (c.toNat : Int)) k (b, a) = some (.fin (b && w.all okC, a ++ w.map kindC))
  | [], k, b, a, _ => by simp [rangeL]
  | c :: r, k, b, a, h => by
    simp only [List.length_cons] at h
    have key : ∃ z : Int, strings_IndexByte_s (ByteArray.mk #[110, 112]) (c.toNat : Int) = some z ∧ U8 (if 0 > z then 0 else z) = kindC c ∧ decide (z ≥ 0) = okC c := by
      refine ⟨_, np_at c, ?_, ?_⟩
      · unfold kindC
        by_cases h1 : c = 110
        · subst h1; decide
        · by_cases h2 : c = 112
          · subst h2; decide
          · simp only [if_neg h1, if_neg h2]; decide
      · unfold okC
        by_cases h1 : c = 110
        · subst h1; decide
        · by_cases h2 : c = 112
          · subst h2; decide
          · simp only [if_neg h1, if_neg h2, h1, h2, or_self]; decide
    obtain ⟨z, hz, hk, ho⟩ := key
    rw [List.map_cons, rangeL]
    simp only [hz, Option.bind_some, jp, hk, ho]
    have e : ∀ b2 : Bool, ((appL 1 a [kindC c]).bind fun l_14 => (some (.nxt (b2, l_14)) : Option (Stp (Bool × (List Int)) (Option (Func × Bool))))) = some (.nxt (b2, a ++ [kindC c])) := fun b2 => by rw [appL_of (by simp; omega), Option.bind_some]
    cases b with
    | true =>
      simp only [if_true, e]
      have := kinds_run r (k + 1) (okC c) (a ++ [kindC c]) (by simp; omega)
      refine this.trans ?_
      simp
    | false =>
      simp only [Bool.false_eq_true, if_false, e]
      have := kinds_run r (k + 1) false (a ++ [kindC c]) (by simp; omega)
      refine this.trans ?_
      simp
theorem kinds_eq (w : List UInt8) (hw : w.length ≤ 28400000) (b : Bool) :
    rng (fun (i_8 : Nat) (c_9 : Int) (s_7 : (Bool × (List Int))) => (((strings_IndexByte_s (ByteArray.mk #[110, 112]) c_9).bind fun ind_11 => (jp (fun (s_13 : Bool) => ((appL 1 s_7.2 [(U8 (if 0 > ind_11 then 0 else ind_11))]).bind fun l_14 => (some (.nxt (s_13, l_14))))) (fun k_12 => (if s_7.1 then (k_12 (decide (ind_11 ≥ 0))) else (k_12 false))))) : Option (Stp (Bool × (List Int)) (Option (Func × Bool)))))
      (ofStr (bsl w)) (b, []) = some (.fin (b && w.all okC, w.map kindC)) := by
  have e : ofStr (bsl w) = w.map fun c => (c.toNat : Int) := by
    unfold ofStr
    first | rw [bsl_data] | (rw [bsl_toList])
  unfold rng
  rw [e, if_pos (by rw [List.length_map]; omega), kinds_run w 0 b [] (by simp; omega)]
  simp
theorem numM_none_iff {m : Nat} {w : List UInt8} : (numM m w).isSome = false → numM m w = none := by cases numM m w <;> simp
theorem function_eq (ws : List (List UInt8)) (hr : ∀ w ∈ ws, w.length ≤ 28400000) :
    ∃ f : Func, text_function_s (ws.map bsl) = some (f, (funcOf ws).isSome) ∧ f.Code = [] ∧ ∀ j, funcOf ws = some j → f = j := by
  by_cases h5 : ws.length = 5
  · match ws, h5, hr with
    | [w0, w1, w2, w3, w4], _, hr =>
      unfold text_function_s
      obtain ⟨n1, e1, c1⟩ := number_eq w1 255 (hr w1 (by simp))
      obtain ⟨n4, e4, c4⟩ := number_eq w4 254 (hr w4 (by simp))
      rw [if_neg (by simp)]
      have g1 : getI (([w0, w1, w2, w3, w4] : List (List UInt8)).map bsl) 1 = some (bsl w1) := rfl
      have g2 : getI (([w0, w1, w2, w3, w4] : List (List UInt8)).map bsl) 2 = some (bsl w2) := rfl
      have g3 : getI (([w0, w1, w2, w3, w4] : List (List UInt8)).map bsl) 3 = some (bsl w3) := rfl
      have g4 : getI (([w0, w1, w2, w3, w4] : List (List UInt8)).map bsl) 4 = some (bsl w4) := rfl
      have ee1 : text_number_s (bsl w1) 255 = some (n1, (numM 255 w1).isSome) := e1
      have ee4 : text_number_s (bsl w4) 254 = some (n4, (numM 254 w4).isSome) := e4
      simp only [g1, g2, g3, g4, Option.bind_some, ee1, ee4]
      rw [show (ByteArray.mk #[45]) = bsl [45] from rfl, show (ByteArray.mk #[48]) = bsl [48] from rfl, show (ByteArray.mk #[49]) = bsl [49] from rfl]
      simp only [beq_bsl, jp]
      have hkk : kindsOf w2 = if w2 = [45] then some [] else if w2.all okC = true then some (w2.map kindC) else none := rfl
      -- what the function is, and whether it is one, in one form
      have fin : ∀ (ks : List Int) (b : Bool), ((b = true ∧ kindsOf w2 = some ks ∧ (numM 255 w1).isSome = true) ∨ (b = false ∧ (kindsOf w2 = none ∨ numM 255 w1 = none))) →
          ∃ f : Func, (if (!decide (w4 = [45])) = true then if b = true then if (numM 254 w4).isSome = true then if decide (w3 = [48]) = true then some (Func.mk (I64 n1) ks (decide (w3 = [49])) (I64 n4) [], true) else some (Func.mk (I64 n1) ks (decide (w3 = [49])) (I64 n4) [], decide (w3 = [49])) else some (Func.mk (I64 n1) ks (decide (w3 = [49])) (I64 n4) [], false) else some (Func.mk (I64 n1) ks (decide (w3 = [49])) (I64 n4) [], false)
            else if b = true then if decide (w3 = [48]) = true then some (Func.mk (I64 n1) ks (decide (w3 = [49])) (-1) [], true) else some (Func.mk (I64 n1) ks (decide (w3 = [49])) (-1) [], decide (w3 = [49])) else some (Func.mk (I64 n1) ks (decide (w3 = [49])) (-1) [], false)) =
            some (f, (funcOf [w0, w1, w2, w3, w4]).isSome) ∧ f.Code = [] ∧ ∀ j, funcOf [w0, w1, w2, w3, w4] = some j → f = j := by
        intro ks b hb
        rcases hb with ⟨rfl, h1, h2⟩ | ⟨rfl, h1⟩
        · obtain ⟨m1, hm1⟩ := Option.isSome_iff_exists.1 h2
          have hn1 := c1 m1 hm1
          subst hn1
          obtain ⟨q1, _, _⟩ := numM_some hm1
          have eI1 : I64 (m1 : Int) = (m1 : Int) := I64_of (by omega)
          have hfl : flagOf w3 = if w3 = [48] then some false else if w3 = [49] then some true else none := rfl
          simp only [funcOf, hm1, h1, Option.bind_some, hfl, eI1, if_true]
          by_cases hk : w4 = [45]
          · have hkp : keepOf w4 = some (-1) := if_pos hk
            simp only [hkp, Option.map_some, decide_eq_true hk, Bool.not_true, Bool.false_eq_true, if_false]
            by_cases h48 : w3 = [48]
            · have h49 : ¬ w3 = [49] := by rw [h48]; decide
              simp only [decide_eq_true h48, decide_eq_false h49, if_pos h48, if_true, Option.bind_some]
              exact ⟨_, rfl, rfl, fun j hj => Option.some.inj hj⟩
            · by_cases h49 : w3 = [49]
              · simp only [decide_eq_false h48, decide_eq_true h49, if_neg h48, if_pos h49, Option.bind_some, Bool.false_eq_true, if_false]
                exact ⟨_, rfl, rfl, fun j hj => Option.some.inj hj⟩
              · simp only [decide_eq_false h48, decide_eq_false h49, if_neg h48, if_neg h49, Option.bind_none, Bool.false_eq_true, if_false]
                exact ⟨_, rfl, rfl, fun j hj => by cases hj⟩
          · simp only [decide_eq_false hk, Bool.not_false, if_true]
            cases hm4 : numM 254 w4 with
            | none =>
              have hkp : keepOf w4 = none := by unfold keepOf; rw [if_neg hk, hm4]; rfl
              simp only [hkp, Option.map_none, Option.isSome_none, Bool.false_eq_true, if_false]
              refine ⟨⟨(m1 : Int), ks, decide (w3 = [49]), I64 n4, []⟩, ?_, rfl, fun j hj => ?_⟩
              · by_cases h48 : w3 = [48]
                · simp [h48]
                · by_cases h49 : w3 = [49] <;> simp [h48, h49]
              · by_cases h48 : w3 = [48]
                · simp [h48] at hj
                · by_cases h49 : w3 = [49] <;> simp [h48, h49] at hj
            | some m4 =>
              have hn4 := c4 m4 hm4
              subst hn4
              obtain ⟨q4, _, _⟩ := numM_some hm4
              have eI4 : I64 (m4 : Int) = (m4 : Int) := I64_of (by omega)
              have hkp : keepOf w4 = some (m4 : Int) := by unfold keepOf; rw [if_neg hk, hm4]; rfl
              simp only [hkp, Option.map_some, Option.isSome_some, if_true, eI4]
              by_cases h48 : w3 = [48]
              · have h49 : ¬ w3 = [49] := by rw [h48]; decide
                simp only [decide_eq_true h48, decide_eq_false h49, if_pos h48, if_true, Option.bind_some]
                exact ⟨_, rfl, rfl, fun j hj => Option.some.inj hj⟩
              · by_cases h49 : w3 = [49]
                · simp only [decide_eq_false h48, decide_eq_true h49, if_neg h48, if_pos h49, Option.bind_some, Bool.false_eq_true, if_false]
                  exact ⟨_, rfl, rfl, fun j hj => Option.some.inj hj⟩
                · simp only [decide_eq_false h48, decide_eq_false h49, if_neg h48, if_neg h49, Option.bind_none, Bool.false_eq_true, if_false]
                  exact ⟨_, rfl, rfl, fun j hj => by cases hj⟩
        · have hno : funcOf [w0, w1, w2, w3, w4] = none := by
            rcases h1 with h1 | h1
            · simp only [funcOf, h1, Option.bind_none]; cases numM 255 w1 <;> rfl
            · simp only [funcOf, h1, Option.bind_none]
          rw [hno]
          simp only [Bool.false_eq_true, if_false]
          by_cases hk : w4 = [45]
          · rw [decide_eq_true hk, if_neg (by simp)]
            exact ⟨_, rfl, rfl, fun j hj => by cases hj⟩
          · rw [decide_eq_false hk, if_pos (by simp)]
            exact ⟨_, rfl, rfl, fun j hj => by cases hj⟩
      by_cases hw2 : w2 = [45]
      · rw [decide_eq_true hw2, if_neg (by simp)]
        refine fin [] (numM 255 w1).isSome ?_
        cases hm : numM 255 w1 with
        | none => exact .inr ⟨rfl, .inr rfl⟩
        | some m => exact .inl ⟨rfl, by rw [hkk, if_pos hw2], rfl⟩
      · rw [decide_eq_false hw2, if_pos (by simp)]
        have hk := kinds_eq w2 (hr w2 (by simp)) (numM 255 w1).isSome
        simp only [jp] at hk
        rw [hk, Option.bind_some]
        simp only [oc]
        refine fin (w2.map kindC) ((numM 255 w1).isSome && w2.all okC) ?_
        cases hm : numM 255 w1 with
        | none => exact .inr ⟨rfl, .inr rfl⟩
        | some m =>
          cases ha : w2.all okC with
          | true => exact .inl ⟨rfl, by rw [hkk, if_neg hw2, if_pos ha], rfl⟩
          | false => exact .inr ⟨rfl, .inl (by rw [hkk, if_neg hw2, if_neg (by rw [ha]; simp)])⟩
  · unfold text_function_s
    rw [if_pos (by rw [bne_iff_ne, List.length_map]; omega)]
    have hno : funcOf ws = none := by
      match ws, h5 with
      | [], _ => rfl
      | [_], _ => rfl
      | [_, _], _ => rfl
      | [_, _, _], _ => rfl
      | [_, _, _, _], _ => rfl
      | [_, _, _, _, _], h => exact (h rfl).elim
      | _ :: _ :: _ :: _ :: _ :: _ :: _, _ => rfl
    rw [hno]
    exact ⟨_, rfl, rfl, fun j hj => by cases hj⟩
end Go.Proofs.YtkfhljombjmdbaaDoor
/- Plain laws of the texts: words joined, an instruction's line (windlassref04.Line, joined), what a line says by the document (windlassref04.one). -/
namespace Go.Proofs.YtkfhljombjmdbaaDoor
open Go Go.Ab Go.RowKit
set_option maxRecDepth 20000
set_option linter.unusedVariables false
set_option linter.unusedSimpArgs false

/-- Words with blanks between. -/
def joinW : List (List UInt8) → List UInt8
  | [] => []
  | [w] => w
  | w :: x :: r => w ++ 32 :: joinW (x :: r)
theorem splitL_joinW : ∀ (ws : List (List UInt8)), ws ≠ [] → (∀ w ∈ ws, (32 : UInt8) ∉ w) → splitL 32 (joinW ws) = ws
  | [], h, _ => (h rfl).elim
  | [w], _, h => splitL_none 32 w (h w (by simp))
  | w :: x :: r, _, h => by
    show splitL 32 (w ++ 32 :: joinW (x :: r)) = _
    rw [splitL_app 32 w (h w (by simp)), splitL_joinW (x :: r) (by simp) (fun y hy => h y (by simp [hy]))]
theorem joinW_inj {a b : List (List UInt8)} (ha : a ≠ []) (hb : b ≠ []) (fa : ∀ w ∈ a, (32 : UInt8) ∉ w) (fb : ∀ w ∈ b, (32 : UInt8) ∉ w) : joinW a = joinW b ↔ a = b :=
  ⟨fun h => by rw [← splitL_joinW a ha fa, h, splitL_joinW b hb fb], fun h => by rw [h]⟩
def lensW (ws : List (List UInt8)) : Nat := (ws.map fun w => w.length + 1).sum
theorem joinW_len : ∀ ws : List (List UInt8), (joinW ws).length ≤ lensW ws
  | [] => by simp [joinW]
  | [w] => by simp [joinW, lensW]
  | w :: x :: r => by
    have := joinW_len (x :: r)
    simp only [joinW, List.length_append, List.length_cons]
    simp only [lensW, List.map_cons, List.sum_cons] at this ⊢
    omega
theorem joined_run : ∀ (r : List (List UInt8)) (k : Nat) (a : List UInt8), 1 ≤ k → a.length + lensW r ≤ 100000000 →
    rangeL (fun (i_2 : Nat) (x_3 : ByteArray) (s_1 : ByteArray) => ((jp (fun (s_6 : ByteArray) => ((catS s_6 x_3).bind fun s_8 => (some (.nxt s_8)))) (fun k_5 => (if (decide ((i_2 : Int) > 0)) then ((catS s_1 (bsl [32])).bind fun s_7 => (k_5 s_7)) else (k_5 s_1)))) : Option (Stp ByteArray (Option ByteArray)))) (r.map bsl) k (bsl a) = some (.fin (bsl (a ++ r.flatMap fun w => 32 :: w)))
  | [], k, a, _, _ => by simp [rangeL]
  | w :: r, k, a, hk, hl => by
    have hl2 : a.length + (w.length + 1 + lensW r) ≤ 100000000 := by simpa [lensW] using hl
    rw [List.map_cons, rangeL]
    simp only [jp]
    rw [if_pos (by simp; omega), cat_b _ _ (by simp; omega), Option.bind_some, cat_b _ _ (by simp; omega), Option.bind_some]
    simp only
    refine (joined_run r (k + 1) (a ++ [32] ++ w) (by omega) (by simp; omega)).trans ?_
    simp
theorem joinW_flat : ∀ (w : List UInt8) (r : List (List UInt8)), joinW (w :: r) = w ++ r.flatMap fun w => 32 :: w
  | w, [] => by simp [joinW]
  | w, x :: r => by rw [joinW, joinW_flat x r]; simp
theorem joined_eq (w : List UInt8) (r : List (List UInt8)) (hl : lensW (w :: r) ≤ 100000000) (hn : (w :: r).length ≤ 28400001) : windlassref04_joined_s ((w :: r).map bsl) = some (bsl (joinW (w :: r))) := by
  unfold windlassref04_joined_s
  have hl2 : w.length + 1 + lensW r ≤ 100000000 := by simpa [lensW] using hl
  refine bind_eq ⟨.fin (bsl (joinW (w :: r))), ?_, rfl⟩
  unfold rng
  rw [if_pos (by rw [List.length_map]; omega), List.map_cons, rangeL]
  simp only [jp]
  rw [if_neg (by simp), show (ByteArray.mk #[]) = bsl [] from rfl, cat_b _ _ (by simp; omega), Option.bind_some]
  simp only
  have := joined_run r 1 w (by omega) (by omega)
  rw [joinW_flat, List.nil_append]
  exact this

/-- How wide an operation's operand is in bytes, by its number from 0 on. -/
def widN (k : Nat) : Nat := if k = 0 then 8 else if k = 1 ∨ k = 2 ∨ k = 3 ∨ k = 22 ∨ k = 24 then 1 else if k = 20 ∨ k = 21 then 2 else 0
theorem Width_eq (k : Nat) (h : k < 32) : windlassref03_Width_s ((k + 1 : Nat) : Int) = some (widN k : Int) := by
  have : ∀ k : Fin 32, windlassref03_Width_s ((k.val + 1 : Nat) : Int) = some (widN k.val : Int) := by decide +kernel
  exact this ⟨k, h⟩
/-- What a candidate says: the operation's number and the operand. -/
def lineP (k : Nat) (name : List UInt8) (v : Nat) : List (List UInt8) := if widN k = 0 then [name] else [name, Lib.decDigits v]
theorem dec_free (v : Nat) : (32 : UInt8) ∉ Lib.decDigits v := by
  intro h
  have := List.all_eq_true.1 (dec_digs v) _ h
  revert this; decide
theorem dec_le {v : Nat} (h : v < 18446744073709551616) : (Lib.decDigits v).length ≤ 20 := by
  rw [← digs19 v h]
  exact (digs_len 19 v).2
/-- The line of an instruction with an operand v (in Imm, if the operation is the first one, else in Arg). -/
theorem Line_eq (F : Nat) (hF : 20 ≤ F) (k : Nat) (name : List UInt8) (hk : nm[k]? = some name) (v : Nat) (hv : v < 18446744073709551616) (i : Instr) (hop : i.Op = ((k + 1 : Nat) : Int))
    (h0 : k = 0 → i.Imm = (v : Int)) (h1 : k ≠ 0 → i.Arg = (v : Int)) : windlassref04_Line_s F i = some (bsl (joinW (lineP k name v))) := by
  have hk2 : k < 32 := (List.getElem?_eq_some_iff.1 hk).1
  have hname : name.length ≤ 7 := (nm_free name (List.mem_of_getElem? hk)).2.2
  have hd := dec_le hv
  have hnum : ∀ z : Int, z = (v : Int) → windlassref02_Number_s F z = some (bsl (Lib.decDigits v)) := by
    intro z hz
    subst hz
    rw [Number_eq F hF (v : Int) ⟨by omega, by omega⟩, Int.toNat_natCast, digs19 v hv]
  unfold windlassref04_Line_s
  rw [hop, Width_eq k hk2, Option.bind_some, Name_eq k hk2, hk]
  simp only [Option.map_some, Option.bind_some]
  have hj : joinW [name, Lib.decDigits v] = name ++ [32] ++ Lib.decDigits v := by simp [joinW]
  rw [show (ByteArray.mk #[32]) = bsl [32] from rfl, cat_b _ _ (by simp; omega), Option.bind_some, Option.bind_some]
  by_cases hk0 : k = 0
  · have hw : widN k = 8 := by rw [hk0]; rfl
    rw [if_pos (by rw [hw]; rfl), hnum _ (h0 hk0), Option.bind_some, cat_b _ _ (by simp; omega), Option.bind_some]
    unfold lineP
    rw [if_neg (by rw [hw]; decide), hj]
  · have hw8 : widN k ≠ 8 := by unfold widN; rw [if_neg hk0]; split <;> (try split) <;> omega
    rw [if_neg (by rw [beq_iff_eq]; omega)]
    by_cases hw : widN k = 0
    · rw [if_pos (by rw [hw]; rfl)]
      unfold lineP
      rw [if_pos hw]
      rfl
    · rw [if_neg (by rw [beq_iff_eq]; omega)]
      have e : U64 i.Arg = (v : Int) := by rw [h1 hk0]; exact U64_of (by omega)
      rw [hnum _ e, Option.bind_some, cat_b _ _ (by simp; omega), Option.bind_some]
      unfold lineP
      rw [if_neg hw, hj]
theorem lineP_free (k : Nat) (name : List UInt8) (hk : nm[k]? = some name) (v : Nat) : lineP k name v ≠ [] ∧ ∀ w ∈ lineP k name v, (32 : UInt8) ∉ w := by
  have hn := (nm_free name (List.mem_of_getElem? hk)).2.1
  unfold lineP
  split
  · exact ⟨by simp, fun w hw => by rw [List.mem_singleton.1 hw]; exact hn⟩
  · refine ⟨by simp, fun w hw => ?_⟩
    rcases List.mem_cons.1 hw with e | e
    · rw [e]; exact hn
    · rw [List.mem_singleton.1 e]; exact dec_free v
end Go.Proofs.YtkfhljombjmdbaaDoor
/- Plain laws of the texts: one line's instruction by the document (windlassref04.one). -/
namespace Go.Proofs.YtkfhljombjmdbaaDoor
open Go Go.Ab Go.RowKit
set_option maxRecDepth 20000
set_option linter.unusedVariables false
set_option linter.unusedSimpArgs false

def saysN (k v : Nat) : Bool := if widN k = 8 then true else if widN k = 1 then decide (v ≤ 255) else if widN k = 2 then decide (v ≤ 65535) else decide (v = 0)
theorem Says_eq (k v : Nat) (hk : k < 32) (i : Instr) (hop : i.Op = ((k + 1 : Nat) : Int)) (h0 : k = 0 → i.Imm = (v : Int) ∧ i.Arg = 0) (h1 : k ≠ 0 → i.Arg = (v : Int) ∧ i.Imm = 0) : windlassref03_Says_s i = some (saysN k v) := by
  unfold windlassref03_Says_s
  rw [hop, Width_eq k hk, Option.bind_some]
  by_cases hk0 : k = 0
  · have hw : widN k = 8 := by rw [hk0]; rfl
    have hs : saysN k v = true := by unfold saysN; rw [if_pos hw]
    rw [if_pos (by rw [hw]; rfl), (h0 hk0).2, hs]; rfl
  · obtain ⟨e1, e2⟩ := h1 hk0
    have hw8 : widN k ≠ 8 := by unfold widN; rw [if_neg hk0]; split <;> (try split) <;> omega
    have hwc : widN k = 1 ∨ widN k = 2 ∨ widN k = 0 := by unfold widN; rw [if_neg hk0]; split <;> (try split) <;> simp
    rw [if_neg (by rw [beq_iff_eq]; omega), e1, e2]
    simp only [jp]
    rcases hwc with h | h | h
    · have hs : saysN k v = decide (v ≤ 255) := by unfold saysN; rw [if_neg hw8, if_pos h]
      rw [if_pos (by rw [h]; rfl), if_pos (by rfl), if_pos (by simp), hs]
      congr 1
      exact decide_eq_decide.2 (by omega)
    · have hs : saysN k v = decide (v ≤ 65535) := by unfold saysN; rw [if_neg hw8, if_neg (by omega), if_pos h]
      rw [if_neg (by rw [h]; decide), if_pos (by rw [h]; rfl), if_pos (by rfl), if_pos (by simp), hs]
      congr 1
      exact decide_eq_decide.2 (by omega)
    · have hs : saysN k v = decide (v = 0) := by unfold saysN; rw [if_neg hw8, if_neg (by omega), if_neg (by omega)]
      rw [if_neg (by rw [h]; decide), if_neg (by rw [h]; decide), if_pos (by rw [h]; rfl), if_pos (by rfl), hs]
      congr 1
      by_cases hv : v = 0
      · subst hv; rfl
      · rw [decide_eq_false hv, beq_eq_false_iff_ne]; omega

/-- The operand that a candidate of number k has, if it is one. -/
def opnd (k : Nat) (ws : List (List UInt8)) : Option Nat := match ws with
  | [_, w1] => (numOf w1).bind fun n => if k ≠ 0 ∧ 65535 < n then none else some n
  | _ => some 0
def mkI (k v : Nat) : Instr := if k = 0 then ⟨((k + 1 : Nat) : Int), 0, (v : Int)⟩ else ⟨((k + 1 : Nat) : Int), (v : Int), 0⟩
def cand (k : Nat) (ws : List (List UInt8)) : Option Instr := (opnd k ws).bind fun v => if saysN k v = true ∧ lineP k (nm.getD k []) v = ws then some (mkI k v) else none
theorem opnd_lt {k v : Nat} {ws : List (List UInt8)} (h : opnd k ws = some v) : v < 18446744073709551616 := by
  unfold opnd at h
  split at h
  · rename_i w1
    cases e : numOf w1 with
    | none => rw [e] at h; cases h
    | some n =>
      rw [e, Option.bind_some] at h
      split at h
      · cases h
      · cases h; exact ((numOf_iff w1 _).1 e).2
  · cases h; omega
theorem nm_at {k : Nat} (h : k < 32) : nm[k]? = some (nm.getD k []) := by
  have : k < nm.length := h
  simp [List.getElem?_eq_getElem this]
theorem wid_most : ∀ k : Fin 32, (widN k.val = 0 ↔ mostN k.val = 0) ∧ (k.val ≠ 0 → widN k.val ≠ 0 → mostN k.val = 255 ∧ widN k.val = 1 ∨ mostN k.val = 65535 ∧ widN k.val = 2 ∨ widN k.val = 0) := by decide
theorem cand_iff {k : Nat} (hk : k < 32) {ws : List (List UInt8)} {i : Instr} : cand k ws = some i ↔ instrOf ws = some i ∧ ∃ w0 r, ws = w0 :: r ∧ ixOf w0 = some k := by
  have hat := nm_at hk
  have hix := ixOf_some hat
  obtain ⟨wm1, wm2⟩ := wid_most ⟨k, hk⟩
  simp only at wm1 wm2
  generalize nm.getD k [] = name at hat hix ⊢
  have hcd : cand k ws = (opnd k ws).bind fun v => if saysN k v = true ∧ lineP k name v = ws then some (mkI k v) else none := by
    unfold cand
    have : nm.getD k [] = name := Option.some.inj ((nm_at hk).symm.trans hat)
    rw [this]
  rw [hcd]
  have back : ∀ {w0 : List UInt8}, ixOf w0 = some k → w0 = name := fun h => Option.some.inj ((ixOf_lt h).2.symm.trans hat)
  match ws with
  | [] =>
    have : ∀ v, lineP k name v ≠ [] := fun v => (lineP_free k name hat v).1
    simp [opnd, instrOf, this]
  | [w0] =>
    simp only [opnd, Option.bind_some]
    constructor
    · intro h
      split at h
      case isFalse => cases h
      rename_i q
      cases h
      have hw : widN k = 0 := by
        unfold lineP at q
        by_cases hw : widN k = 0
        · exact hw
        · rw [if_neg hw] at q; have := q.2; simp at this
      unfold lineP at q
      rw [if_pos hw] at q
      have e0 : name = w0 := by simpa using q.2
      subst e0
      refine ⟨?_, name, [], rfl, hix⟩
      simp only [instrOf, hix, Option.bind_some, if_pos (wm1.1 hw)]
      have hk0 : k ≠ 0 := fun q => by rw [q] at hw; exact absurd hw (by decide)
      unfold mkI
      rw [if_neg hk0]; rfl
    · rintro ⟨h, w0', r', he, hw0⟩
      cases he
      have e0 := back hw0
      subst e0
      simp only [instrOf, hw0, Option.bind_some] at h
      split at h
      case isFalse => cases h
      rename_i hm
      have hw := wm1.2 hm
      have hk0 : k ≠ 0 := fun q => by rw [q] at hw; exact absurd hw (by decide)
      have hs : saysN k 0 = true := by unfold saysN; rw [if_neg (by omega), if_neg (by omega), if_neg (by omega)]; rfl
      rw [if_pos ⟨hs, by unfold lineP; rw [if_pos hw]⟩]
      unfold mkI
      rw [if_neg hk0]
      exact h
  | [w0, w1] =>
    simp only [opnd]
    constructor
    · intro h
      cases e : numOf w1 with
      | none => rw [e] at h; cases h
      | some n =>
        rw [e, Option.bind_some] at h
        split at h
        · cases h
        · rename_i hb
          rw [Option.bind_some] at h
          split at h
          case isFalse => cases h
          rename_i q
          cases h
          have hw : widN k ≠ 0 := by
            intro hw
            unfold lineP at q
            rw [if_pos hw] at q
            have := q.2; simp at this
          unfold lineP at q
          rw [if_neg hw] at q
          have e0 : name = w0 ∧ Lib.decDigits n = w1 := by simpa using q.2
          obtain ⟨rfl, e1⟩ := e0
          refine ⟨?_, name, [w1], rfl, hix⟩
          have hm : mostN k ≠ 0 := fun h => hw (wm1.2 h)
          obtain ⟨_, hlt⟩ := (numOf_iff w1 n).1 e
          have hle : n ≤ mostN k := by
            by_cases hk0 : k = 0
            · subst hk0; show n ≤ 18446744073709551615; omega
            · rcases wm2 hk0 hw with ⟨a, b⟩ | ⟨a, b⟩ | a
              · have := q.1; unfold saysN at this; rw [if_neg (by omega), if_pos b] at this; rw [a]; simpa using this
              · have := q.1; unfold saysN at this; rw [if_neg (by omega), if_neg (by omega), if_pos b] at this; rw [a]; simpa using this
              · exact absurd a hw
          have hn : numM (mostN k) w1 = some n := by unfold numM; rw [e, Option.bind_some, if_pos hle]
          simp only [instrOf, hix, Option.bind_some, if_neg hm, hn, Option.map_some]
          unfold mkI
          by_cases hk0 : k = 0
          · subst hk0; rfl
          · rw [if_neg hk0, if_neg hk0]
    · rintro ⟨h, w0', r', he, hw0⟩
      cases he
      have e0 := back hw0
      subst e0
      simp only [instrOf, hw0, Option.bind_some] at h
      split at h
      · cases h
      · rename_i hm
        have hw : widN k ≠ 0 := fun h => hm (wm1.1 h)
        obtain ⟨n, hn, rfl⟩ := Option.map_eq_some_iff.1 h
        obtain ⟨q1, q2, q3⟩ := numM_some hn
        have hno : numOf w1 = some n := (numOf_iff w1 n).2 ⟨q2, q3⟩
        have hbd : ¬ (k ≠ 0 ∧ 65535 < n) := by
          rintro ⟨hk0, hb⟩
          rcases wm2 hk0 hw with ⟨a, b⟩ | ⟨a, b⟩ | a
          · omega
          · omega
          · exact hw a
        have hs : saysN k n = true := by
          unfold saysN
          by_cases hk0 : k = 0
          · subst hk0; rfl
          · rcases wm2 hk0 hw with ⟨a, b⟩ | ⟨a, b⟩ | a
            · rw [if_neg (by omega), if_pos b]; rw [a] at q1; simpa using q1
            · rw [if_neg (by omega), if_neg (by omega), if_pos b]; rw [a] at q1; simpa using q1
            · exact absurd a hw
        rw [hno, Option.bind_some, if_neg hbd, Option.bind_some, if_pos ⟨hs, by unfold lineP; rw [if_neg hw, ← q2]⟩]
        unfold mkI
        by_cases hk0 : k = 0
        · subst hk0; rfl
        · rw [if_neg hk0, if_neg hk0]
  | w0 :: w1 :: w2 :: t =>
    have : ∀ v, lineP k name v ≠ w0 :: w1 :: w2 :: t := fun v q => by
      have := congrArg List.length q
      unfold lineP at this
      split at this <;> simp at this
    simp [opnd, instrOf, this]
end Go.Proofs.YtkfhljombjmdbaaDoor
/- Plain laws of the texts: windlassref04.one's loop. -/
namespace Go.Proofs.YtkfhljombjmdbaaDoor
open Go Go.Ab Go.RowKit
set_option maxRecDepth 20000
set_option linter.unusedVariables false
set_option linter.unusedSimpArgs false

/-- What is asked of a line's words. -/
def WOK (ws : List (List UInt8)) : Prop := (∀ w ∈ ws, (32 : UInt8) ∉ w ∧ w.length ≤ 28400000) ∧ ws ≠ [] ∧ lensW ws ≤ 100000000 ∧ ws.length ≤ 28400000
theorem WOK.joined {ws : List (List UInt8)} (h : WOK ws) : windlassref04_joined_s (ws.map bsl) = some (bsl (joinW ws)) := by
  obtain ⟨w, r, rfl⟩ := List.exists_cons_of_ne_nil h.2.1
  exact joined_eq w r h.2.2.1 (Nat.le_trans h.2.2.2 (by omega))
theorem Value_eq (F : Nat) (l : List UInt8) (hF : l.length < F) (hl : l.length ≤ 28400000) : windlassref02_Value_s F (bsl l) = some (valR l) := by
  unfold windlassref02_Value_s
  rw [value_eq F l hF hl, Option.bind_some]
def oneB (F : Nat) (ws : List ByteArray) : Int → Option (Stp Int (Option (Instr × Bool))) :=
  (fun (s_1 : Int) => ((if (decide (s_1 ≤ 32)) then (jp (fun (s_3 : Unit) => (some (.nxt (U8 (s_1 + 1))))) (fun k_2 => (jp (fun (s_5 : (Int × Int)) => (jp (fun (s_11 : Bool) => (if s_11 then (some (.ret (some ((Instr.mk s_1 s_5.1 s_5.2), true)))) else (k_2 ()))) (fun k_10 => ((windlassref03_Says_s (Instr.mk s_1 s_5.1 s_5.2)).bind fun say_12 => (if say_12 then ((windlassref04_Line_s F (Instr.mk s_1 s_5.1 s_5.2)).bind fun lin_13 => ((windlassref04_joined_s ws).bind fun joi_14 => (k_10 (ByteArray.toList lin_13 == ByteArray.toList joi_14)))) else (k_10 false)))))) (fun k_4 => (if ((List.length ws : Int) == 2) then ((getI ws 1).bind fun y_6 => ((windlassref02_Value_s F y_6).bind fun val_7 => (jp (fun (s_9 : Bool) => (if s_9 then (k_2 ()) else (if (s_1 == 1) then (k_4 (0, val_7.1)) else (k_4 ((I64 val_7.1), 0))))) (fun k_8 => (if (!val_7.2) then (k_8 true) else (if (s_1 != 1) then (k_8 (decide (val_7.1 > 65535))) else (k_8 false))))))) else (k_4 (0, 0))))))) else (some (.brk s_1))) : Option (Stp Int (Option (Instr × Bool)))))
theorem tst_eq (F : Nat) (hF : 20 ≤ F) {ws : List (List UInt8)} (hw : WOK ws) (k v : Nat) (hk : k < 32) (hv : v < 18446744073709551616) {β : Type} (K : Bool → Option β) :
    ((windlassref03_Says_s (mkI k v)).bind fun say_12 => (if say_12 then ((windlassref04_Line_s F (mkI k v)).bind fun lin_13 => ((windlassref04_joined_s (ws.map bsl)).bind fun joi_14 => (K (ByteArray.toList lin_13 == ByteArray.toList joi_14)))) else (K false))) =
      K (decide (saysN k v = true ∧ lineP k (nm.getD k []) v = ws)) := by
  have hat := nm_at hk
  have hop : (mkI k v).Op = ((k + 1 : Nat) : Int) := by unfold mkI; split <;> rfl
  have h0 : k = 0 → (mkI k v).Imm = (v : Int) ∧ (mkI k v).Arg = 0 := fun h => by unfold mkI; rw [if_pos h]; exact ⟨rfl, rfl⟩
  have h1 : k ≠ 0 → (mkI k v).Arg = (v : Int) ∧ (mkI k v).Imm = 0 := fun h => by unfold mkI; rw [if_neg h]; exact ⟨rfl, rfl⟩
  rw [Says_eq k v hk _ hop h0 h1, Option.bind_some]
  by_cases hs : saysN k v = true
  · rw [if_pos hs, Line_eq F hF k _ hat v hv _ hop (fun h => (h0 h).1) (fun h => (h1 h).1), Option.bind_some, hw.joined, Option.bind_some, beq_bsl]
    congr 1
    obtain ⟨a, b⟩ := lineP_free k _ hat v
    exact decide_eq_decide.2 ⟨fun h => ⟨hs, (joinW_inj a hw.2.1 b (fun w hm => (hw.1 w hm).1)).1 h⟩, fun h => by rw [h.2]⟩
  · rw [if_neg hs, decide_eq_false (fun h => hs h.1)]
theorem oneB_eq (F : Nat) (hF : 28400000 < F) {ws : List (List UInt8)} (hw : WOK ws) (k : Nat) (hk : k < 32) :
    oneB F (ws.map bsl) ((k + 1 : Nat) : Int) = some (match cand k ws with | some i => .ret (some (i, true)) | none => .nxt ((k + 1 + 1 : Nat) : Int)) := by
  unfold oneB
  rw [if_pos (by simp; omega)]
  have eU : U8 (((k + 1 : Nat) : Int) + 1) = ((k + 1 + 1 : Nat) : Int) := by rw [U8_of (by omega)]; omega
  simp only [jp, eU]
  have e1 : (((k + 1 : Nat) : Int) == 1) = decide (k = 0) := by
    by_cases h : k = 0
    · subst h; rfl
    · rw [decide_eq_false h, beq_eq_false_iff_ne]; omega
  have tst : ∀ v, v < 18446744073709551616 → opnd k ws = some v →
      ((windlassref03_Says_s (mkI k v)).bind fun say_12 => (if say_12 then ((windlassref04_Line_s F (mkI k v)).bind fun lin_13 => ((windlassref04_joined_s (ws.map bsl)).bind fun joi_14 => (if (ByteArray.toList lin_13 == ByteArray.toList joi_14) = true then (some (.ret (some (mkI k v, true))) : Option (Stp Int (Option (Instr × Bool)))) else some (.nxt ((k + 1 + 1 : Nat) : Int))))) else (if false = true then (some (.ret (some (mkI k v, true)))) else some (.nxt ((k + 1 + 1 : Nat) : Int))))) =
        some (match cand k ws with | some i => .ret (some (i, true)) | none => .nxt ((k + 1 + 1 : Nat) : Int)) := by
    intro v hv ho
    have := tst_eq F (by omega) hw k v hk hv (fun b => if b = true then (some (.ret (some (mkI k v, true))) : Option (Stp Int (Option (Instr × Bool)))) else some (.nxt ((k + 1 + 1 : Nat) : Int)))
    refine this.trans ?_
    unfold cand
    rw [ho, Option.bind_some]
    by_cases hc : saysN k v = true ∧ lineP k (nm.getD k []) v = ws
    · simp only [decide_eq_true hc, if_pos hc, if_true]
    · simp only [decide_eq_false hc, if_neg hc, Bool.false_eq_true, if_false]
  have m0 : ∀ v : Nat, k = 0 → Instr.mk ((k + 1 : Nat) : Int) 0 (v : Int) = mkI k v := fun v h => by unfold mkI; rw [if_pos h]
  have m1 : ∀ v : Nat, k ≠ 0 → Instr.mk ((k + 1 : Nat) : Int) (v : Int) 0 = mkI k v := fun v h => by unfold mkI; rw [if_neg h]
  have m00 : Instr.mk ((k + 1 : Nat) : Int) 0 0 = mkI k 0 := by unfold mkI; split <;> rfl
  by_cases h2 : ws.length = 2
  · match ws, h2, hw, tst with
    | [w0, w1], _, hw, tst =>
      rw [if_pos (by simp)]
      have hg : getI (([w0, w1] : List (List UInt8)).map bsl) 1 = some (bsl w1) := rfl
      have hl := (hw.1 w1 (by simp)).2
      rw [hg, Option.bind_some, Value_eq F w1 (by omega) hl, Option.bind_some]
      unfold valR
      cases e : numOf w1 with
      | none =>
        simp only
        rw [if_pos (by rfl), if_pos trivial]
        have : cand k [w0, w1] = none := by unfold cand opnd; simp only [e, Option.bind_none]
        rw [this]
      | some n =>
        simp only
        have hlt := ((numOf_iff w1 n).1 e).2
        rw [if_neg (by simp)]
        by_cases hk0 : k = 0
        · have ho : opnd k [w0, w1] = some n := by unfold opnd; simp only [e, Option.bind_some]; rw [if_neg (by simp [hk0])]
          rw [if_neg (by rw [bne_iff_ne]; omega), if_neg (by simp), e1, decide_eq_true hk0, if_pos rfl]
          rw [m0 n hk0]
          exact tst n hlt ho
        · rw [if_pos (by rw [bne_iff_ne]; omega)]
          by_cases hb : 65535 < n
          · rw [if_pos (by simp; omega)]
            have : cand k [w0, w1] = none := by unfold cand opnd; simp only [e, Option.bind_some]; rw [if_pos ⟨hk0, hb⟩]; rfl
            rw [this]
          · have ho : opnd k [w0, w1] = some n := by unfold opnd; simp only [e, Option.bind_some]; rw [if_neg (by omega)]
            have eI : I64 (n : Int) = (n : Int) := I64_of (by omega)
            rw [if_neg (by simp; omega), e1, decide_eq_false hk0, if_neg (by simp), eI]
            rw [m1 n hk0]
            exact tst n hlt ho
  · rw [if_neg (by rw [beq_iff_eq, List.length_map]; omega)]
    have ho : opnd k ws = some 0 := by
      unfold opnd
      match ws, h2 with
      | [], _ => rfl
      | [_], _ => rfl
      | [_, _], h => exact (h rfl).elim
      | _ :: _ :: _ :: _, _ => rfl
    rw [m00]
    exact tst 0 (by omega) ho
theorem one_run (F : Nat) (hF : 28400000 < F) {ws : List (List UInt8)} (hw : WOK ws) : ∀ (d n k : Nat), k + d = 32 → d < n →
    (∃ j i, k ≤ j ∧ j < 32 ∧ cand j ws = some i ∧ whileN (oneB F (ws.map bsl)) n ((k + 1 : Nat) : Int) = some (.ret (some (i, true)))) ∨ ((∀ j, k ≤ j → j < 32 → cand j ws = none) ∧ whileN (oneB F (ws.map bsl)) n ((k + 1 : Nat) : Int) = some (.fin 33))
  | 0, n + 1, k, hk, _ => by
    obtain rfl : k = 32 := by omega
    refine .inr ⟨fun j a b => by omega, ?_⟩
    rw [whileN]
    have : oneB F (ws.map bsl) ((32 + 1 : Nat) : Int) = some (.brk 33) := by unfold oneB; rw [if_neg (by decide)]; rfl
    rw [this]
  | d + 1, n + 1, k, hk, hn => by
    rw [whileN, oneB_eq F hF hw k (by omega)]
    cases e : cand k ws with
    | some i => exact .inl ⟨k, i, Nat.le_refl _, by omega, e, rfl⟩
    | none =>
      rcases one_run F hF hw d n (k + 1) (by omega) (by omega) with ⟨j, i, h1, h2, h3, h4⟩ | ⟨h1, h2⟩
      · exact .inl ⟨j, i, by omega, h2, h3, h4⟩
      · refine .inr ⟨fun j a b => ?_, h2⟩
        by_cases hj : j = k
        · rw [hj]; exact e
        · exact h1 j (by omega) b
theorem one_eq (F : Nat) (hF : 28400000 < F) {ws : List (List UInt8)} (hw : WOK ws) : ∃ i : Instr, windlassref04_one_s F (ws.map bsl) = some (i, (instrOf ws).isSome) ∧ ∀ j, instrOf ws = some j → i = j := by
  unfold windlassref04_one_s
  rcases one_run F hF hw 32 F 0 rfl (by omega) with ⟨j, i, _, h2, h3, h4⟩ | ⟨h1, h2⟩
  · have hi := ((cand_iff h2).1 h3).1
    refine ⟨i, ?_, fun j hj => by rw [hi] at hj; exact Option.some.inj hj⟩
    refine bind_eq ⟨_, h4, ?_⟩
    rw [hi]; rfl
  · have hno : instrOf ws = none := by
      cases e : instrOf ws with
      | none => rfl
      | some i =>
        have : ∃ w0 r k, ws = w0 :: r ∧ ixOf w0 = some k := by
          match ws, e with
          | [w0], e =>
            cases q : ixOf w0 with
            | none => simp [instrOf, q] at e
            | some k => exact ⟨w0, [], k, rfl, q⟩
          | [w0, w1], e =>
            cases q : ixOf w0 with
            | none => simp [instrOf, q] at e
            | some k => exact ⟨w0, [w1], k, rfl, q⟩
          | w0 :: w1 :: w2 :: t, e => simp [instrOf] at e
        obtain ⟨w0, r, k, h3, h4⟩ := this
        have hk := (ixOf_lt h4).1
        have := (cand_iff hk).2 ⟨e, w0, r, h3, h4⟩
        rw [h1 k (by omega) hk] at this
        cases this
    refine ⟨⟨0, 0, 0⟩, ?_, fun j hj => by rw [hno] at hj; cases hj⟩
    refine bind_eq ⟨_, h2, ?_⟩
    rw [hno]; rfl
end Go.Proofs.YtkfhljombjmdbaaDoor
/- Plain laws of the texts: a function's head (windlassref04.Head), one line's function by the document (windlassref04.begin). -/
namespace Go.Proofs.YtkfhljombjmdbaaDoor
open Go Go.Ab Go.RowKit
set_option maxRecDepth 20000
set_option linter.unusedVariables false
set_option linter.unusedSimpArgs false

def fw : List UInt8 := [102, 117, 110, 99]
def letC (k : Int) : UInt8 := if k = 0 then 110 else 112
def kstr (ks : List Int) : List UInt8 := if ks = [] then [45] else ks.map letC
def fstr (b : Bool) : List UInt8 := if b = true then [49] else [48]
def pstr (kp : Int) : List UInt8 := if kp < 0 then [45] else Lib.decDigits kp.toNat
/-- The words of a function's head. -/
def headW (f : Func) : List (List UInt8) := [fw, Lib.decDigits f.Params.toNat, kstr f.Locals, fstr f.Result, pstr f.Keep]
theorem lets_run : ∀ (ks : List Int) (k : Nat) (a : List UInt8), a.length + ks.length ≤ 100000000 →
    rangeL (fun (i_5 : Nat) (k_6 : Int) (s_4 : ByteArray) => ((if (k_6 == 0) then ((catS s_4 (ByteArray.mk #[110])).bind fun s_8 => (some (.nxt s_8))) else ((catS s_4 (ByteArray.mk #[112])).bind fun s_9 => (some (.nxt s_9)))) : Option (Stp ByteArray (Option ByteArray)))) ks k (bsl a) = some (.fin (bsl (a ++ ks.map letC)))
  | [], k, a, _ => by simp [rangeL]
  | c :: r, k, a, h => by
    simp only [List.length_cons] at h
    have e1 : catS (bsl a) (ByteArray.mk #[110]) = some (bsl (a ++ [110])) := cat_b a [110] (by simp; omega)
    have e2 : catS (bsl a) (ByteArray.mk #[112]) = some (bsl (a ++ [112])) := cat_b a [112] (by simp; omega)
    rw [rangeL]
    by_cases hc : c = 0
    · rw [if_pos (by rw [hc]; rfl), e1, Option.bind_some]
      simp only
      refine (lets_run r (k + 1) (a ++ [110]) (by simp; omega)).trans ?_
      simp [letC, hc]
    · rw [if_neg (by rw [beq_iff_eq]; exact hc), e2, Option.bind_some]
      simp only
      refine (lets_run r (k + 1) (a ++ [112]) (by simp; omega)).trans ?_
      simp [letC, hc]
theorem Head_eq (F : Nat) (hF : 20 ≤ F) (f : Func) (h1 : 0 ≤ f.Params ∧ f.Params < 4294967296) (h2 : f.Locals.length ≤ 28400000) (h3 : -1 ≤ f.Keep ∧ f.Keep < 4294967296) : windlassref04_Head_s F f = some (bsl (joinW (headW f))) := by
  unfold windlassref04_Head_s
  obtain ⟨n, hn⟩ : ∃ n : Nat, f.Params = n := ⟨f.Params.toNat, by omega⟩
  have hd := dec_le (v := n) (by omega)
  have eU : U64 f.Params = (n : Int) := by rw [hn]; exact U64_of (by omega)
  have eN : windlassref02_Number_s F (n : Int) = some (bsl (Lib.decDigits n)) := by
    rw [Number_eq F hF (n : Int) ⟨by omega, by omega⟩, Int.toNat_natCast, digs19 n (by omega)]
  rw [eU, eN, Option.bind_some]
  rw [show (ByteArray.mk #[102, 117, 110, 99, 32]) = bsl [102, 117, 110, 99, 32] from rfl, show (ByteArray.mk #[32]) = bsl [32] from rfl, show (ByteArray.mk #[45]) = bsl [45] from rfl, show (ByteArray.mk #[32, 49, 32]) = bsl [32, 49, 32] from rfl, show (ByteArray.mk #[32, 48, 32]) = bsl [32, 48, 32] from rfl]
  rw [cat_b _ _ (by simp; omega), Option.bind_some, cat_b _ _ (by simp; omega), Option.bind_some]
  refine bind_eq ⟨.fin (bsl ([102, 117, 110, 99, 32] ++ Lib.decDigits n ++ [32] ++ f.Locals.map letC)), ?_, ?_⟩
  · unfold rng
    rw [if_pos (by omega)]
    exact lets_run f.Locals 0 _ (by simp; omega)
  · simp only [oc, jp]
    have hk : ∀ (s : List UInt8), s.length ≤ 40000000 → (if decide (f.Keep < 0) = true then ((catS (bsl s) (bsl [45])).bind fun s_17 => (some s_17)) else ((windlassref02_Number_s F (U64 f.Keep)).bind fun num_18 => ((catS (bsl s) num_18).bind fun s_19 => (some s_19)))) = some (bsl (s ++ pstr f.Keep)) := by
      intro s hs
      unfold pstr
      by_cases hk : f.Keep < 0
      · rw [if_pos (by simpa using hk), cat_b _ _ (by simp; omega), if_pos hk]; rfl
      · obtain ⟨p, hp⟩ : ∃ p : Nat, f.Keep = p := ⟨f.Keep.toNat, by omega⟩
        have hd2 := dec_le (v := p) (by omega)
        have eU : U64 f.Keep = (p : Int) := by rw [hp]; exact U64_of (by omega)
        rw [if_neg (by simpa using hk), if_neg hk, eU, Number_eq F hF (p : Int) ⟨by omega, by omega⟩, Int.toNat_natCast, digs19 p (by omega), Option.bind_some]
        show ((catS (bsl s) (bsl (Lib.decDigits p))).bind fun s_19 => (some s_19)) = _
        rw [cat_b _ _ (by omega), hp, Int.toNat_natCast]; rfl
    have hr : ∀ (s : List UInt8), s.length ≤ 30000000 → (if f.Result = true then ((catS (bsl s) (bsl [32, 49, 32])).bind fun s_15 => (if decide (f.Keep < 0) = true then ((catS s_15 (bsl [45])).bind fun s_17 => (some s_17)) else ((windlassref02_Number_s F (U64 f.Keep)).bind fun num_18 => ((catS s_15 num_18).bind fun s_19 => (some s_19))))) else ((catS (bsl s) (bsl [32, 48, 32])).bind fun s_16 => (if decide (f.Keep < 0) = true then ((catS s_16 (bsl [45])).bind fun s_17 => (some s_17)) else ((windlassref02_Number_s F (U64 f.Keep)).bind fun num_18 => ((catS s_16 num_18).bind fun s_19 => (some s_19)))))) =
        some (bsl (s ++ 32 :: (fstr f.Result ++ 32 :: pstr f.Keep))) := by
      intro s hs
      by_cases hr : f.Result = true
      · rw [if_pos hr, cat_b _ _ (by simp; omega), Option.bind_some, hk _ (by simp; omega)]
        unfold fstr
        rw [if_pos hr]; simp
      · rw [if_neg hr, cat_b _ _ (by simp; omega), Option.bind_some, hk _ (by simp; omega)]
        unfold fstr
        rw [if_neg hr]; simp
    have hj : joinW (headW f) = ([102, 117, 110, 99, 32] ++ Lib.decDigits n ++ [32] ++ kstr f.Locals) ++ 32 :: (fstr f.Result ++ 32 :: pstr f.Keep) := by
      simp [headW, joinW, fw, hn]
    rw [hj]
    unfold kstr
    by_cases hl : f.Locals = []
    · rw [if_pos (by rw [hl]; rfl), cat_b _ _ (by simp; omega), Option.bind_some, hr _ (by simp; omega), if_pos hl, hl]
      simp
    · rw [if_neg (by rw [beq_iff_eq]; have := List.length_pos_iff.2 hl; omega), hr _ (by simp; omega), if_neg hl]
theorem letC_kindC (c : UInt8) : letC (kindC c) = c ↔ okC c = true := by
  unfold okC kindC letC
  by_cases h1 : c = 112
  · subst h1; decide
  · rw [if_neg h1, if_pos rfl]
    simp only [h1, or_false, decide_eq_true_eq]
    exact eq_comm
theorem kstr_kindC {w : List UInt8} (h0 : w ≠ []) : kstr (w.map kindC) = w ↔ w.all okC = true := by
  unfold kstr
  rw [if_neg (by simpa using h0), List.map_map, List.all_eq_true]
  constructor
  · intro h c hc
    exact (letC_kindC c).1 ((List.map_inj_left.1 (h.trans (List.map_id w).symm)) c hc)
  · intro h
    exact (List.map_congr_left (fun c hc => (letC_kindC c).2 (h c hc))).trans (List.map_id w)
end Go.Proofs.YtkfhljombjmdbaaDoor
