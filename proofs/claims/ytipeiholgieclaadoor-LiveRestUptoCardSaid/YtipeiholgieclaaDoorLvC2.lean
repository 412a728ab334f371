/- Words as sets of numbers. -/
import Derived.Test.YtipeiholgieclaaDoorLvS4
import Derived.Test.YtipeiholgieclaaDoorWlK3
import Derived.Test.YtipeiholgieclaaDoorGenL
set_option linter.unusedVariables false
set_option linter.unusedSimpArgs false
namespace Go.Proofs.YtipeiholgieclaaDoor
open Go Go.Ab
def tb (w : Int) (i : Nat) : Bool := w.toNat.testBit i
def Wd (w : Int) : Prop := 0 <= w /\ w < 18446744073709551616
theorem b6Q (n : Nat) (h : n < 18446744073709551616) : IntKind.u64.wrap (n : Int) = (n : Int) := b1r zO
theorem c5V {w : Int} (h : Wd w) : (BitVec.ofInt 64 w) = BitVec.ofNat 64 w.toNat := by
 have : w = (w.toNat : Int) := by have := h.1; omega
 rw [this, BitVec.ofInt_natCast, <- this]
theorem a7K {w : Int} (h : Wd w) : (BitVec.ofInt 64 w).toNat = w.toNat := by
 rw [c5V h, BitVec.toNat_ofNat]
 have := h.1; have := h.2
 exact Nat.mod_eq_of_lt zO
theorem b0z (x : BitVec 64) : IntKind.u64.wrap (x.toNat : Int) = (x.toNat : Int) := b6Q _ x.isLt
theorem b4k {a b : Int} (ha : Wd a) (hb : Wd b) : a0U .u64 a b = ((a.toNat &&& b.toNat : Nat) : Int) := by
 show IntKind.u64.wrap ((BitVec.ofInt 64 a &&& BitVec.ofInt 64 b).toNat : Int) = _
 rw [b0z, BitVec.toNat_and, a7K ha, a7K hb]
theorem c0P {a b : Int} (ha : Wd a) (hb : Wd b) : a3I .u64 a b = ((a.toNat ||| b.toNat : Nat) : Int) := by
 show IntKind.u64.wrap ((BitVec.ofInt 64 a ||| BitVec.ofInt 64 b).toNat : Int) = _
 rw [b0z, BitVec.toNat_or, a7K ha, a7K hb]
theorem a7L {n : Nat} (h : n < 18446744073709551616) : Wd (n : Int) := ⟨by omega, by omega⟩
theorem c5W (x : BitVec 64) : Wd (x.toNat : Int) := a7L x.isLt
theorem b4l {k : Nat} (h : k < 64) : shL .u64 1 (k : Int) = ((2 ^ k : Nat) : Int) := by
 have h2 : 2 ^ k < 18446744073709551616 := by
  have := Nat.pow_lt_pow_right (a := 2) zD h
  exact this
 show IntKind.u64.wrap (1 * 2 ^ (min (k : Int).toNat 64)) = _
 rw [show min (k : Int).toNat 64 = k by simp; omega, Int.one_mul, <- b6Q _ h2]
 simp
theorem b4m {k : Nat} (h : k < 64) : Wd (shL .u64 1 (k : Int)) := by
 rw [b4l h]
 exact a7L (Nat.pow_lt_pow_right (a := 2) zD h)
theorem c0Q {w : Int} {k : Nat} (hw : Wd w) (hk : k < 64) (i : Nat) : tb (a3I .u64 w (shL .u64 1 (k : Int))) i = (tb w i || decide (i = k)) := by
 have := b4m hk
 rw [c0P hw this, b4l hk]
 simp only [tb, Int.toNat_natCast, Nat.testBit_or, Nat.testBit_two_pow]
 congr 1
 exact decide_eq_decide.2 ⟨Eq.symm, Eq.symm⟩
theorem c5X {a b : Int} (ha : Wd a) (hb : Wd b) : Wd (a3I .u64 a b) := by
 rw [c0P ha hb]
 exact a7L (Nat.or_lt_two_pow (n := 64) (by have := ha.2; have := ha.1; omega) (by have := hb.2; have := hb.1; omega))
theorem a9y {a b : Int} : a1r .u64 a b = ((BitVec.ofInt 64 a &&& ~~~ BitVec.ofInt 64 b).toNat : Int) := b0z _
theorem b4n {a b : Int} : Wd (a1r .u64 a b) := by rw [a9y]; exact c5W _
theorem a9z {w : Int} {k : Nat} (hw : Wd w) (hk : k < 64) (i : Nat) : tb (a1r .u64 w (shL .u64 1 (k : Int))) i = (tb w i && !decide (i = k)) := by
 rw [a9y]
 simp only [tb, Int.toNat_natCast]
 rw [BitVec.toNat_and, Nat.testBit_and, a7K hw, BitVec.testBit_toNat, BitVec.getLsbD_not]
 have h1 : (BitVec.ofInt 64 (shL .u64 1 (k : Int))).getLsbD i = decide (i = k) := by
  rw [<- BitVec.testBit_toNat, a7K (b4m hk), b4l hk, Int.toNat_natCast, Nat.testBit_two_pow]
  exact decide_eq_decide.2 ⟨Eq.symm, Eq.symm⟩
 rw [h1]
 by_cases hi : i < 64
 ·simp [hi]
 ·have : w.toNat.testBit i = false := Nat.testBit_lt_two_pow (by
   have := hw.2; have := hw.1
   have h64 : 2 ^ 64 <= 2 ^ i := Nat.pow_le_pow_right zD zO
   omega)
  simp [hi, this]
theorem b6R {w : Int} {k : Nat} (hw : Wd w) (hk : k < 64) : shR .u64 w (k : Int) = ((w.toNat >>> k : Nat) : Int) := by
 have e : w = (w.toNat : Int) := by have := hw.1; omega
 show w.fdiv (2 ^ (min (k : Int).toNat 64)) = _
 rw [show min (k : Int).toNat 64 = k by simp; omega]
 rw [Nat.shiftRight_eq_div_pow]
 conv => lhs; rw [e]
 rw [Int.fdiv_eq_ediv_of_nonneg _ (by exact_mod_cast Nat.zero_le _)]
 norm_cast
theorem c0R {w : Int} {k : Nat} (hw : Wd w) (hk : k < 64) : (a0U .u64 (shR .u64 w (k : Int)) 1 == 1) = tb w k := by
 have h1 : Wd (shR .u64 w (k : Int)) := by
  rw [b6R hw hk]
  refine a7L (Nat.lt_of_le_of_lt (Nat.shiftRight_le _ _) ?_)
  have := hw.2; have := hw.1; omega
 rw [b4k h1 (by constructor <;> decide), b6R hw hk]
 simp only [Int.toNat_natCast, show (1 : Int).toNat = 1 from rfl, tb, Nat.testBit, Nat.and_comm]
 rcases Nat.mod_two_eq_zero_or_one (w.toNat >>> k) with h | h <;> simp [Nat.and_one_is_mod, Nat.one_and_eq_mod_two, h]
theorem b8a {w : Int} (hw : Wd w) (h0 : w ≠ 0) : Lib.ctz 64 w.toNat < 64 /\ tb w (Lib.ctz 64 w.toNat) = true /\ (∀ i, i < Lib.ctz 64 w.toNat -> tb w i = false) /\ ∀ i, tb (a0U .u64 w (U64 (w - 1))) i = (tb w i && !decide (i = Lib.ctz 64 w.toNat)) := by
 have hn : w.toNat ≠ 0 := by have := hw.1; omega
 have hl : w.toNat < 2 ^ 64 := by have := hw.2; omega
 obtain ⟨m, hm, hk⟩ := Lib.ctzFrom_spec 64 w.toNat zO hl
 have ec : Lib.ctz 64 w.toNat = Lib.ctzFrom 64 w.toNat := by simp [Lib.ctz, hn]
 rw [ec]
 generalize Lib.ctzFrom 64 w.toNat = c at hm hk
 have h2 : 0 < 2 ^ c := Nat.two_pow_pos c
 have b1 : ∀ i, tb w i = (decide (c <= i) && (2 * m + 1).testBit (i - c)) := fun i => by
  unfold tb; rw [hm, Nat.testBit_two_pow_mul]
 have e1 : U64 (w - 1) = ((w.toNat - 1 : Nat) : Int) := by
  rw [b1r (by have := hw.1; have := hw.2; omega)]
  have := hw.1; omega
 have hw1 : Wd (U64 (w - 1)) := by rw [e1]; exact a7L zO
 have e2 : w.toNat - 1 = 2 ^ c * (2 * m) + (2 ^ c - 1) := by
  rw [hm, Nat.mul_add]; omega
 refine ⟨hk, by rw [b1]; simp, fun i hi => by rw [b1]; simp; omega, fun i => ?_⟩
 rw [b4k hw hw1, e1]
 simp only [tb, Int.toNat_natCast, Nat.testBit_and]
 have b1' : w.toNat.testBit i = (decide (c <= i) && (2 * m + 1).testBit (i - c)) := b1 i
 rw [b1', e2, Nat.testBit_two_pow_mul_add _ zO]
 rcases Nat.lt_trichotomy i c with h | h | h
 ·have : ¬ c <= i := by omega
  simp [this]
 ·subst h
  simp
 ·have h3 : ¬ i < c := by omega
  have h4 : c <= i := by omega
  have h5 : i ≠ c := by omega
  obtain ⟨d, rfl⟩ : ∃ d, i = c + (d + 1) := ⟨i - c - 1, by omega⟩
  have e3 : c + (d + 1) - c = d + 1 := by omega
  rw [e3]
  have e4 : (2 * m + 1).testBit (d + 1) = m.testBit d := by rw [Nat.testBit_succ]; congr 1; omega
  have e5 : (2 * m).testBit (d + 1) = m.testBit d := by rw [Nat.testBit_succ]; congr 1; omega
  simp [h3, e4, e5]
theorem c0S {a b : Int} (ha : Wd a) (hb : Wd b) : Wd (a0U .u64 a b) := by
 rw [b4k ha hb]
 exact a7L (Nat.lt_of_le_of_lt Nat.and_le_left (by have := ha.2; have := ha.1; omega))
theorem c0T {w : Int} (hw : Wd w) {i : Nat} (hi : 64 <= i) : tb w i = false := Nat.testBit_lt_two_pow (by
 have := hw.2; have := hw.1
 have h64 : 2 ^ 64 <= 2 ^ i := Nat.pow_le_pow_right zD hi
 omega)
theorem a9A {ρ : Type} (k : Nat) (hk : k <= 20000) : ∀ (d m fuel : Nat) (w : Int) (l : List Int), m + d = 64 -> Wd w -> (∀ i, i < m -> tb w i = false) -> d < fuel -> l.length + d <= 10000000 ->
  whileN (fun (s : Int × List Int) => ((if (s.1 != 0) then ((k6 s.1).bind fun t => ((a8F 8 s.2 [(I64 ((I64 (64 * (k : Int))) + t))]).bind fun l => (some (.nxt ((a0U .u64 s.1 (U64 (s.1 - 1))), l))))) else (some (.brk (s.1, s.2)))) : Option (Stp (Int × (List Int)) ρ))) fuel (w, l)
   = some (.fin (0, l ++ ((List.range' m d).filter (tb w)).map fun i => ((64 * k + i : Nat) : Int))) := by
 intro d
 induction d using Nat.strongRecOn with
 | _ d ih =>
   intro m fuel w l hmd hw hlo hf hl
   obtain ⟨fuel, rfl⟩ : ∃ f, fuel = f + 1 := ⟨fuel - 1, by omega⟩
   by_cases h0 : w = 0
   ·subst h0
    rw [a5H (s' := (0, l)) zS]
    have : (List.range' m d).filter (tb 0) = [] := by
     rw [List.filter_eq_nil_iff]; intro a _; simp [tb]
    rw [this]; simp
   ·obtain ⟨c1, c2, c3, c4⟩ := b8a hw h0
    have hT : k6 w = some (Lib.ctz 64 w.toNat : Int) := if_pos hw
    generalize Lib.ctz 64 w.toNat = c at c1 c2 c3 c4 hT
    have hmc : m <= c := by
     rcases Nat.lt_or_ge c m with h | h
     ·rw [hlo c h] at c2; cases c2
     ·exact h
    have e1 : I64 ((I64 (64 * (k : Int))) + (c : Int)) = ((64 * k + c : Nat) : Int) := by
     rw [a7F (x := 64 * (k : Int)) zO, a7F zO]; omega
    have hwp : Wd (U64 (w - 1)) := by
     rw [b1r (by have := hw.1; have := hw.2; omega)]
     constructor <;> (have := hw.1; have := hw.2; omega)
    rw [a4T (s' := (a0U .u64 w (U64 (w - 1)), l ++ [((64 * k + c : Nat) : Int)])) (by
     simp only [bne_iff_ne, ne_eq, h0, not_false_eq_true, if_true, hT, Option.bind_some, e1]
     rw [a4U zE]; rfl)]
    rw [ih (63 - c) zO (c + 1) fuel _ _ zO (c0S hw hwp) (fun i hi => by
     rw [c4]
     rcases Nat.lt_or_ge i c with h | h
     ·rw [c3 i h]; rfl
     ·have : i = c := by omega
      simp [this]) zO zE]
    have er : List.range' m d = List.range' m (c - m) ++ c :: List.range' (c + 1) (63 - c) := by
     have h1 : List.range' m d = List.range' m (c - m) ++ List.range' (m + 1 * (c - m)) (d - (c - m)) := by
      rw [List.range'_append]; congr 1; omega
     rw [h1, show m + 1 * (c - m) = c by omega, show d - (c - m) = (63 - c) + 1 by omega, List.range'_succ]
    have f1 : (List.range' m (c - m)).filter (tb w) = [] := by
     rw [List.filter_eq_nil_iff]
     intro a ha
     rw [List.mem_range'_1] at ha
     rw [c3 a zO]; decide
    have f2 : (List.range' (c + 1) (63 - c)).filter (tb (a0U .u64 w (U64 (w - 1)))) = (List.range' (c + 1) (63 - c)).filter (tb w) := by
     apply List.filter_congr
     intro a ha
     rw [List.mem_range'_1] at ha
     rw [c4]
     have : a ≠ c := by omega
     simp [this]
    rw [er, List.filter_append, f1, List.nil_append, List.filter_cons_of_pos c2, f2, List.map_cons, List.append_assoc]
    rfl
def a2s (ws : List Int) (i : Nat) : Bool := tb (ws.getD (i / 64) 0) (i % 64)
structure OkS (K : Nat) (s : b9) : Prop where
 n : s.n = K
 len : s.words.length = (K + 63) / 64
 wd : ∀ (j : Nat) (w : Int), s.words[j]? = some w -> Wd w
 top : ∀ i, K <= i -> a2s s.words i = false
def mem (s : b9) (i : Nat) : Bool := a2s s.words i
def setL (K : Nat) (A : Nat -> Bool) : List Int := ((List.range K).filter A).map fun (i : Nat) => (i : Int)
section
variable {K : Nat} {s : b9}
theorem OkS.lt (h : OkS K s) {i : Nat} (hi : mem s i = true) : i < K := by
 rcases Nat.lt_or_ge i K with a | a
 ·exact a
 ·have := h.top i a; unfold mem at hi; rw [this] at hi; cases hi
theorem OkS.word (h : OkS K s) {i : Nat} (hi : i < K) : ∃ w, s.words[i / 64]? = some w /\ Wd w /\ mem s i = tb w (i % 64) := by
 have : i / 64 < s.words.length := by rw [h.len]; omega
 refine ⟨s.words[i / 64], List.getElem?_eq_getElem this, h.wd _ _ (List.getElem?_eq_getElem this), ?_⟩
 unfold mem a2s
 rw [List.getD_eq_getElem?_getD, List.getElem?_eq_getElem this]; rfl
theorem b4o {i : Nat} (hi : i <= 2000000) : I64 (Int.tdiv (i : Int) 64) = ((i / 64 : Nat) : Int) /\ U64 (Int.tmod (i : Int) 64) = ((i % 64 : Nat) : Int) := by
 have h1 : Int.tdiv (i : Int) 64 = ((i / 64 : Nat) : Int) := by rw [Int.tdiv_eq_ediv_of_nonneg zO]; omega
 have h2 : Int.tmod (i : Int) 64 = ((i % 64 : Nat) : Int) := by rw [Int.tmod_eq_emod_of_nonneg zO]; omega
 rw [h1, h2, a7F zO, b1r zO]
 exact ⟨rfl, rfl⟩
theorem a0d {α : Type} {l : List α} {i : Nat} : m0 l (i : Int) = l[i]? := a8p l i
theorem b1A (n : Int) (ws : List Int) (i : Int) : a0g n ws i = some (decide (0 <= i /\ i < n), n) := by
 unfold a0g
 simp only [jp]
 by_cases h : 0 <= i
 ·simp [h]
 ·simp [h]
theorem b6S (h : OkS K s) (hK : K <= 1048576) {i : Nat} (hi : i < K) : v7 s.n s.words (i : Int) = some (mem s i, s.n) := by
 unfold v7
 obtain ⟨w, w1, w2, w3⟩ := h.word hi
 obtain ⟨e1, e2⟩ := b4o (i := i) zO
 have hd : (0 : Int) <= (i : Int) /\ (i : Int) < s.n := by rw [h.n]; omega
 simp only [jp, b1A, Option.bind_some, hd, and_self, decide_true, if_true, e1, e2, a0d, w1]
 rw [a2y zO, c0R w2 zO, w3]
theorem b8b {i : Int} (hi : ¬ (0 <= i /\ i < s.n)) : v7 s.n s.words i = some (false, s.n) := by
 unfold v7
 simp only [jp, b1A, Option.bind_some, hi, decide_false, Bool.false_eq_true, if_false]
theorem a6W {ws : List Int} {i j : Nat} {w : Int} (hi : i / 64 < ws.length) : a2s (ws.set (i / 64) w) j = if j / 64 = i / 64 then tb w (j % 64) else a2s ws j := by
 unfold a2s
 split
 ·rename_i e
  rw [e, List.getD_eq_getElem?_getD, List.getElem?_set_self hi]; rfl
 ·rename_i e
  rw [List.getD_eq_getElem?_getD, List.getElem?_set_ne (Ne.symm e), <- List.getD_eq_getElem?_getD]
theorem b6T (h : OkS K s) {i : Nat} (hi : i < K) {w : Int} (hw : Wd w) (hb : ∀ j, tb w j = true -> K <= 64 * (i / 64) + j -> False) : OkS K ⟨s.n, s.words.set (i / 64) w⟩ := by
 have hl : i / 64 < s.words.length := by rw [h.len]; omega
 refine ⟨h.n, by rw [<- h.len]; simp, fun j v hv => ?_, fun j hj => ?_⟩
 ·by_cases e : i / 64 = j
  ·subst e
   rw [List.getElem?_set_self hl] at hv; cases hv; exact hw
  ·rw [List.getElem?_set_ne e] at hv; exact h.wd j v hv
 ·rw [a6W hl]
  split
  ·rename_i e
   cases hv : tb w (j % 64) with
   | false => rfl
   | true => exact (hb _ hv zO).elim
  ·exact h.top j hj
theorem a9B (h : OkS K s) (hK : K <= 1048576) {i : Nat} (hi : i < K) : ∃ t, a6U s (i : Int) = some t /\ t8 s.n s.words (i : Int) = some (!mem s i, t.n, t.words) /\ OkS K t /\ ∀ j, mem t j = (mem s j || decide (j = i)) := by
 obtain ⟨w, w1, w2, w3⟩ := h.word hi
 obtain ⟨e1, e2⟩ := b4o (i := i) zO
 have hd : (0 : Int) <= (i : Int) /\ (i : Int) < s.n := by rw [h.n]; omega
 have hl : i / 64 < s.words.length := by rw [h.len]; omega
 have hA : t8 s.n s.words (i : Int) = if mem s i = true then some (false, s.n, s.words) else some (true, s.n, s.words.set (i / 64) (a3I .u64 w (shL .u64 1 ((i % 64 : Nat) : Int)))) := by
  unfold t8
  simp only [jp, b1A, Option.bind_some, hd, and_self, decide_true, Bool.not_true, Bool.false_eq_true, if_false, b6S h hK hi]
  cases mem s i with
  | true => simp
  | false =>
    simp only [Bool.false_eq_true, if_false, e1, e2, a0d, w1, Option.bind_some]
    rw [a2y zO, Int.toNat_natCast]
 cases hm : mem s i with
 | true =>
   rw [hm] at hA
   refine ⟨s, by simp [a6U, hA], by rw [hA]; rfl, h, fun j => ?_⟩
   by_cases e : j = i
   ·subst e; simp [hm]
   ·simp [e]
 | false =>
   rw [hm] at hA
   have hk : i % 64 < 64 := by omega
   refine ⟨⟨s.n, s.words.set (i / 64) (a3I .u64 w (shL .u64 1 ((i % 64 : Nat) : Int)))⟩, by simp [a6U, hA], by rw [hA]; rfl, b6T h hi (c5X w2 (b4m hk)) (fun j hj hKj => ?_), fun j => ?_⟩
   ·rw [c0Q w2 hk, Bool.or_eq_true, decide_eq_true_eq] at hj
    rcases hj with hj | hj
    ·have hj64 : j < 64 := by
      rcases Nat.lt_or_ge j 64 with a | a
      ·exact a
      ·rw [c0T w2 a] at hj; cases hj
     have := h.top (64 * (i / 64) + j) hKj
     unfold a2s at this
     rw [show (64 * (i / 64) + j) / 64 = i / 64 by omega, show (64 * (i / 64) + j) % 64 = j by omega, List.getD_eq_getElem?_getD, w1] at this
     rw [show (some w).getD 0 = w from rfl, hj] at this; cases this
    ·omega
   ·show a2s (s.words.set (i / 64) _) j = _
    rw [a6W hl]
    split
    ·rename_i e
     rw [c0Q w2 hk]
     have : mem s j = tb w (j % 64) := by
      unfold mem a2s; rw [e, List.getD_eq_getElem?_getD, w1]; rfl
     rw [this]
     congr 1
     exact decide_eq_decide.2 ⟨fun a => by omega, fun a => by omega⟩
    ·rename_i e
     have : j ≠ i := fun a => e (by rw [a])
     simp [this, mem]
theorem b2y (h : OkS K s) {i : Int} (hi : ¬ (0 <= i /\ i < K)) : a6U s i = some s := by
 have hd : ¬ ((0 : Int) <= i /\ i < s.n) := by rw [h.n]; exact hi
 unfold a6U t8
 simp only [jp, b1A, Option.bind_some, hd, decide_false, Bool.not_false, if_true]
theorem b4p (h : OkS K s) (hK : K <= 1048576) {i : Nat} (hi : i < K) : ∃ t, a6T s (i : Int) = some t /\ OkS K t /\ ∀ j, mem t j = (mem s j && !decide (j = i)) := by
 obtain ⟨w, w1, w2, w3⟩ := h.word hi
 obtain ⟨e1, e2⟩ := b4o (i := i) zO
 have hl : i / 64 < s.words.length := by rw [h.len]; omega
 have hk : i % 64 < 64 := by omega
 have hA : x6 s.n s.words (i : Int) = if mem s i = true then some (true, s.n, s.words.set (i / 64) (a1r .u64 w (shL .u64 1 ((i % 64 : Nat) : Int)))) else some (false, s.n, s.words) := by
  unfold x6
  simp only [b6S h hK hi, Option.bind_some]
  cases mem s i with
  | false => simp
  | true =>
    simp only [Bool.not_true, Bool.false_eq_true, if_false, e1, e2, a0d, w1, Option.bind_some, if_true]
    rw [a2y zO, Int.toNat_natCast]
 cases hm : mem s i with
 | false =>
   rw [hm] at hA
   refine ⟨s, by simp [a6T, hA], h, fun j => ?_⟩
   by_cases e : j = i
   ·subst e; simp [hm]
   ·simp [e]
 | true =>
   rw [hm] at hA
   refine ⟨⟨s.n, s.words.set (i / 64) (a1r .u64 w (shL .u64 1 ((i % 64 : Nat) : Int)))⟩, by simp [a6T, hA], b6T h hi b4n (fun j hj hKj => ?_), fun j => ?_⟩
   ·rw [a9z w2 hk, Bool.and_eq_true] at hj
    have hj64 : j < 64 := by
     rcases Nat.lt_or_ge j 64 with a | a
     ·exact a
     ·rw [c0T w2 a] at hj; cases hj.1
    have := h.top (64 * (i / 64) + j) hKj
    unfold a2s at this
    rw [show (64 * (i / 64) + j) / 64 = i / 64 by omega, show (64 * (i / 64) + j) % 64 = j by omega, List.getD_eq_getElem?_getD, w1] at this
    rw [show (some w).getD 0 = w from rfl, hj.1] at this; cases this
   ·show a2s (s.words.set (i / 64) _) j = _
    rw [a6W hl]
    split
    ·rename_i e
     rw [a9z w2 hk]
     have : mem s j = tb w (j % 64) := by
      unfold mem a2s; rw [e, List.getD_eq_getElem?_getD, w1]; rfl
     rw [this]
     congr 2
     exact decide_eq_decide.2 ⟨fun a => by omega, fun a => by omega⟩
    ·rename_i e
     have : j ≠ i := fun a => e (by rw [a])
     simp [this, mem]
theorem b2z (h : OkS K s) {i : Int} (hi : ¬ (0 <= i /\ i < K)) : a6T s i = some s := by
 have hd : ¬ ((0 : Int) <= i /\ i < s.n) := by rw [h.n]; exact hi
 unfold a6T x6
 rw [b8b hd]
 simp
theorem b4q {K : Nat} (hK : K <= 1048576) : ∃ t, a9s (K : Int) = some t /\ OkS K t /\ ∀ j, mem t j = false := by
 have e1 : (if 1048576 < (if 0 > (K : Int) then 0 else (K : Int)) then 1048576 else (if 0 > (K : Int) then 0 else (K : Int))) = (K : Int) := by
  rw [if_neg (by split <;> omega), if_neg zO]
 have e2 : I64 (Int.tdiv (I64 ((K : Int) + 63)) 64) = (((K + 63) / 64 : Nat) : Int) := by
  rw [a7F (x := (K : Int) + 63) zO, Int.tdiv_eq_ediv_of_nonneg zO, a7F zO]; omega
 have hM : mkL 8 (((K + 63) / 64 : Nat) : Int) (((K + 63) / 64 : Nat) : Int) (0 : Int) = some (List.replicate ((K + 63) / 64) 0) := by
  unfold mkL; rw [if_pos zO, Int.toNat_natCast]
 have hb : ∀ i, a2s (List.replicate ((K + 63) / 64) (0 : Int)) i = false := fun i => by
  unfold a2s
  have : (List.replicate ((K + 63) / 64) (0 : Int)).getD (i / 64) 0 = 0 := by
   rw [List.getD_eq_getElem?_getD, List.getElem?_replicate]; split <;> rfl
  rw [this]; simp [tb]
 refine ⟨⟨(K : Int), List.replicate ((K + 63) / 64) 0⟩, ?_, ⟨rfl, by simp, fun j w hw => ?_, fun i _ => hb i⟩, fun j => hb j⟩
 ·unfold a9s a2g
  simp only [e1, e2, hM, Option.bind_some]
 ·rw [List.getElem?_replicate] at hw
  split at hw
  ·cases hw; constructor <;> decide
  ·cases hw
theorem b2A (h : OkS K s) (hK : K <= 1048576) : a8u s = some s := by
 unfold a8u a0b a1w
 rw [a4U (by have := h.len; simp; omega)]
 simp [gd]
theorem a7M (ws : List Int) (k : Nat) (hk : k < ws.length) : ((List.range (64 * (k + 1))).filter (a2s ws)) = ((List.range (64 * k)).filter (a2s ws)) ++ ((List.range' 0 64).filter (tb ws[k])).map fun i => 64 * k + i := by
 rw [show 64 * (k + 1) = 64 * k + 64 by omega, List.range_add, List.filter_append]
 congr 1
 rw [List.filter_map]
 rw [List.range_eq_range']
 congr 1
 apply List.filter_congr
 intro i hi
 rw [List.mem_range'_1] at hi
 show a2s ws (64 * k + i) = _
 unfold a2s
 rw [show (64 * k + i) / 64 = k by omega, show (64 * k + i) % 64 = i by omega, List.getD_eq_getElem?_getD, List.getElem?_eq_getElem hk]; rfl
theorem a9C (h : OkS K s) : (List.range (64 * s.words.length)).filter (a2s s.words) = (List.range K).filter (mem s) := by
 have hl := h.len
 rw [show 64 * s.words.length = K + (64 * s.words.length - K) by omega, List.range_add, List.filter_append]
 have : ((List.range (64 * s.words.length - K)).map (K + ·)).filter (a2s s.words) = [] := by
  rw [List.filter_eq_nil_iff]
  intro a ha
  obtain ⟨b, _, rfl⟩ := List.mem_map.1 ha
  rw [h.top _ zO]; decide
 rw [this, List.append_nil]; rfl
theorem b1B (ws : List Int) (k : Nat) : ((List.range (64 * k)).filter (a2s ws)).length <= 64 * k := by
 have := List.length_filter_le (a2s ws) (List.range (64 * k)); simpa using this
theorem b4r (h : OkS K s) (hK : K <= 1048576) {fuel : Nat} (hf : 64 < fuel) : a0v fuel s.n s.words = some (setL K (mem s), s.n) /\ a0M fuel s = some (setL K (mem s)) := by
 have hl : s.words.length <= 16384 := by rw [h.len]; omega
 constructor
 ·unfold a0v
  obtain ⟨l, e1, e2⟩ := b0q (n := (s.words.length : Int)) (s0 := ([] : List Int)) (body := (fun (i_2 : Nat) (s_1 : (List Int)) => (((m0 s.words (i_2 : Int)).bind fun y_3 => ((whileN (fun (s_4 : (Int × (List Int))) => ((if (s_4.1 != 0) then ((k6 s_4.1).bind fun tra_5 => ((a8F 8 s_4.2 [(I64 ((I64 (64 * (i_2 : Int))) + tra_5))]).bind fun l_6 => (some (.nxt ((a0U .u64 s_4.1 (U64 (s_4.1 - 1))), l_6))))) else (some (.brk (s_4.1, s_4.2)))) : Option (Stp (Int × (List Int)) (Option (Stp (List Int) (Option ((List Int) × Int))))))) fuel (y_3, s_1)).bind (oc (fun (s_4 : (Int × (List Int))) => (some (.nxt s_4.2)))))) : Option (Stp (List Int) (Option ((List Int) × Int)))))) (fun k l => l = ((List.range (64 * k)).filter (a2s s.words)).map fun (i : Nat) => (i : Int)) zO zS (fun i l hi hl2 => by
    have hi2 : i < s.words.length := by omega
    have hw := h.wd i _ (List.getElem?_eq_getElem hi2)
    have hp := b1B s.words i
    refine ⟨l ++ ((List.range' 0 64).filter (tb s.words[i])).map fun j => ((64 * i + j : Nat) : Int), ?_, ?_⟩
    ·simp only [a0d, List.getElem?_eq_getElem hi2, Option.bind_some]
     rw [a9A i zO 64 0 fuel _ _ rfl hw (fun _ a => by omega) hf (by rw [hl2, List.length_map]; omega)]
     rfl
    ·rw [a7M _ _ hi2, hl2]; simp [Function.comp_def])
  rw [e1]
  simp only [Option.bind_some, oc, e2, Int.toNat_natCast, a9C h]; rfl
 ·unfold a0M
  have := a2B (xs := s.words) (s0 := ([] : List Int)) (body := (fun (i_2 : Nat) (w_3 : Int) (s_1 : (List Int)) => (((whileN (fun (s_5 : (Int × (List Int))) => ((if (s_5.1 != 0) then ((k6 s_5.1).bind fun tra_6 => ((a8F 8 s_5.2 [(I64 ((I64 (64 * (i_2 : Int))) + tra_6))]).bind fun l_7 => (some (.nxt ((a0U .u64 s_5.1 (U64 (s_5.1 - 1))), l_7))))) else (some (.brk (s_5.1, s_5.2)))) : Option (Stp (Int × (List Int)) (Option (Stp (List Int) (Option (List Int))))))) fuel (w_3, s_1)).bind (oc (fun (s_5 : (Int × (List Int))) => (some (.nxt s_5.2))))) : Option (Stp (List Int) (Option (List Int)))))) (fun _ => true) none (fun k l => l = ((List.range (64 * k)).filter (a2s s.words)).map fun (i : Nat) => (i : Int)) zO zS (fun i x l hx hl2 => by
    have hi2 : i < s.words.length := (List.getElem?_eq_some_iff.1 hx).1
    have hxe : s.words[i] = x := (List.getElem?_eq_some_iff.1 hx).2
    have hw := h.wd i _ hx
    have hp := b1B s.words i
    simp only [if_true]
    refine ⟨l ++ ((List.range' 0 64).filter (tb x)).map fun j => ((64 * i + j : Nat) : Int), ?_, ?_⟩
    ·rw [a9A i zO 64 0 fuel _ _ rfl hw (fun _ a => by omega) hf (by rw [hl2, List.length_map]; omega)]
     rfl
    ·rw [a7M _ _ hi2, hl2, hxe]; simp [Function.comp_def])
  rw [if_pos zS] at this
  obtain ⟨l, e1, e2⟩ := this
  rw [e1]
  simp only [Option.bind_some, oc, e2, a9C h]; rfl
theorem a5p {A : Nat -> Bool} {x : Int} : x ∈ setL K A ↔ ∃ i, i < K /\ A i = true /\ x = (i : Int) := by
 unfold setL
 simp only [List.mem_map, List.mem_filter, List.mem_range]
 exact ⟨fun ⟨i, ⟨a, b⟩, c⟩ => ⟨i, a, b, c.symm⟩, fun ⟨i, a, b, c⟩ => ⟨i, ⟨a, b⟩, c.symm⟩⟩
theorem b1C {t : b9} (h : OkS K s) (ht : OkS K t) (hK : K <= 1048576) {fuel : Nat} (hf : 64 < fuel) : ∃ b u, b4h fuel s t = some (b, u) /\ OkS K u /\ (∀ j, mem u j = (mem s j || mem t j)) /\ (b = true ↔ ∃ j, mem t j = true /\ mem s j = false) := by
 unfold b4h a0a
 rw [(b4r ht hK hf).1]
 simp only [Option.bind_some]
 have hlen : (setL K (mem t)).length <= 1048576 := by
  unfold setL; rw [List.length_map]
  have := List.length_filter_le (mem t) (List.range K); simp at this; omega
 have := a2B (xs := setL K (mem t)) (s0 := (false, s.n, s.words)) (body := (fun (i_3 : Nat) (i_4 : Int) (s_2 : (Bool × Int × (List Int))) => (((t8 s_2.2.1 s_2.2.2 i_4).bind fun (add_6 : (Bool × Int × (List Int))) => (if add_6.1 then (some (.nxt (true, add_6.2.1, add_6.2.2))) else (some (.nxt (s_2.1, add_6.2.1, add_6.2.2))))) : Option (Stp (Bool × Int × (List Int)) (Option (Bool × Int × (List Int) × Int)))))) (fun _ => true) none
  (fun k q => OkS K ⟨q.2.1, q.2.2⟩ /\ (∀ j : Nat, mem ⟨q.2.1, q.2.2⟩ j = (mem s j || decide ((j : Int) ∈ (setL K (mem t)).take k))) /\ (q.1 = true ↔ ∃ j : Nat, (j : Int) ∈ (setL K (mem t)).take k /\ mem s j = false)) zO ⟨h, fun j => by simp, by simp⟩ (fun k x q hx hq => by
   obtain ⟨q1, q2, q3⟩ := hq
   obtain ⟨b, n, ws⟩ := q
   simp only at q1 q2 q3
   obtain ⟨i, i1, i2, rfl⟩ := a5p.1 (List.mem_of_getElem? hx)
   obtain ⟨u, u1, u2, u3, u4⟩ := a9B q1 hK i1
   simp only at u2
   simp only [if_true, u2, Option.bind_some]
   have hk : k < (setL K (mem t)).length := (List.getElem?_eq_some_iff.1 hx).1
   have htk : (setL K (mem t)).take (k + 1) = (setL K (mem t)).take k ++ [(i : Int)] := by
    rw [List.take_add_one, hx]; rfl
   have hnd : (setL K (mem t)).Nodup := by
    unfold setL
    have h0 : ((List.range K).filter (mem t)).Pairwise (fun a b => a ≠ b) := List.Pairwise.filter _ List.nodup_range
    exact h0.map _ (fun a b (hab : a ≠ b) => by omega)
   have hni : (i : Int) ∉ (setL K (mem t)).take k := by
    intro hin
    rw [<- List.take_append_drop (k + 1) (setL K (mem t)), htk, List.append_assoc] at hnd
    exact (List.nodup_append.1 hnd).2.2 _ hin _ zS rfl
   have hmi : mem ⟨n, ws⟩ i = mem s i := by rw [q2]; simp [hni]
   have key : ∀ j : Nat, mem u j = (mem s j || decide ((j : Int) ∈ (setL K (mem t)).take (k + 1))) := fun j => by
    rw [u4, q2, htk]
    by_cases e : j = i
    ·subst e; simp
    ·have : ¬ ((j : Int) = (i : Int)) := by omega
     simp [e, this]
   cases hs : mem s i with
   | true =>
     rw [hmi, hs]
     simp only [Bool.not_true, Bool.false_eq_true, if_false]
     refine ⟨_, rfl, u3, key, ?_⟩
     simp only
     rw [q3, htk]
     constructor
     ·rintro ⟨j, a, c⟩; exact ⟨j, by simp [a], c⟩
     ·rintro ⟨j, a, c⟩
      rw [List.mem_append, List.mem_singleton] at a
      rcases a with a | a
      ·exact ⟨j, a, c⟩
      ·have : j = i := by omega
       subst this; rw [hs] at c; cases c
   | false =>
     rw [hmi, hs]
     simp only [Bool.not_false, if_true]
     refine ⟨_, rfl, u3, key, ?_⟩
     simp only [true_iff]
     exact ⟨i, by rw [htk]; simp, hs⟩)
 rw [if_pos zS] at this
 obtain ⟨q, e1, e2, e3, e4⟩ := this
 rw [e1]
 simp only [Option.bind_some, oc]
 rw [a2y trivial]
 refine ⟨q.1, ⟨q.2.1, q.2.2⟩, rfl, e2, fun j => ?_, ?_⟩
 ·rw [e3, List.take_length]
  congr 1
  cases hj : mem t j with
  | true => simp only [decide_eq_true_eq]; exact a5p.2 ⟨j, ht.lt hj, hj, rfl⟩
  | false =>
    simp only [decide_eq_false_iff_not]
    intro hin
    obtain ⟨i, _, i2, i3⟩ := a5p.1 hin
    have : i = j := by omega
    subst this; rw [hj] at i2; cases i2
 ·rw [e4, List.take_length]
  constructor
  ·rintro ⟨j, a, b⟩
   obtain ⟨i, _, i2, i3⟩ := a5p.1 a
   have : i = j := by omega
   subst this; exact ⟨i, i2, b⟩
  ·rintro ⟨j, a, b⟩; exact ⟨j, a5p.2 ⟨j, ht.lt a, a, rfl⟩, b⟩
end
end Go.Proofs.YtipeiholgieclaaDoor

/- What nodes read and write and who comes behind; the parts of solve. -/
namespace Go.Proofs.YtipeiholgieclaaDoor
open Go Go.Ab
def a0O (n : f6) : List Int :=
 if n.Op < 1 \/ n.Op > 18 \/ n.Op = 12 \/ n.Op = 14 \/ n.Op = 18 then [] else if n.Op = 9 /\ n.Else ≠ n.Next then [n.Next, n.Else] else [n.Next]
theorem b0A (n : f6) : a2C n = some (a0O n) := by
 unfold a2C a0O
 simp only [jp, beq_iff_eq, decide_eq_true_eq, bne_iff_ne, ne_eq]
 by_cases h12 : n.Op = 12
 ·simp [h12]
 by_cases h14 : n.Op = 14
 ·simp [h14]
 by_cases h18 : n.Op = 18
 ·simp [h18]
 by_cases h9 : n.Op = 9
 ·by_cases he : n.Else = n.Next <;> simp [h9, he]
 by_cases h1 : n.Op < 1
 ·simp [h1, h12, h14, h18, h9]
 by_cases h2 : n.Op > 18 <;> simp [h1, h2, h12, h14, h18, h9]
theorem a5q (n : f6) : (a0O n).length <= 2 := by unfold a0O; repeat' split <;> simp
def a6a (n : f6) : List Int :=
 if n.Op = 2 \/ n.Op = 5 \/ n.Op = 7 \/ n.Op = 9 \/ n.Op = 12 \/ n.Op = 14 \/ n.Op = 17 \/ n.Op = 18 then [n.A] else if n.Op = 3 \/ n.Op = 8 then [n.A, n.B] else if n.Op = 11 \/ n.Op = 13 then n.Args else []
def a6b (n : f6) : List Int :=
 if n.Op = 1 \/ n.Op = 2 \/ n.Op = 3 \/ n.Op = 4 \/ n.Op = 6 \/ n.Op = 7 \/ n.Op = 11 \/ n.Op = 16 then [n.D] else if n.Op = 15 then [n.D, n.E] else []
theorem b1D (n : f6) : (a6b n).length <= 2 := by
 unfold a6b
 split
 ·simp
 ·split <;> simp
theorem a6X (l : List Int) (v : Int) (hl : l.length <= 4611686018427387904) : w4 l v = some (decide (v ∈ l)) := by
 unfold w4 a1v
 obtain ⟨o, e1, e2⟩ := b6I (n := (l.length : Int)) (s0 := v) (body := (fun (i_2 : Nat) (s_1 : Int) => (((m0 l (i_2 : Int)).bind fun y_3 => (if (s_1 == y_3) then (some (.ret (some (i_2 : Int)))) else (some (.nxt s_1)))) : Option (Stp Int (Option Int)))))
  (fun k s => s = v /\ v ∉ l.take k) (fun o => match o with | .fin s => v ∉ l | .ret (some x) => v ∈ l /\ 0 <= x | .ret none => False) zO ⟨rfl, by simp⟩ (fun i s hi hs => by
   obtain ⟨rfl, hs2⟩ := hs
   have hi2 : i < l.length := by omega
   simp only [a0d, List.getElem?_eq_getElem hi2, Option.bind_some, beq_iff_eq]
   by_cases e : s = l[i]
   ·right
    refine ⟨some (i : Int), by rw [if_pos e], by rw [e]; exact List.getElem_mem _, by omega⟩
   ·left
    refine ⟨s, by rw [if_neg e], rfl, ?_⟩
    rw [List.take_add_one, List.getElem?_eq_getElem hi2]
    intro hm
    rcases List.mem_append.1 hm with a | a
    ·exact hs2 a
    ·exact e (by simpa using a)) (fun s hs => by
   obtain ⟨rfl, h2⟩ := hs
   simpa using h2)
 rw [e1]
 cases o with
 | fin s => simp only [Option.bind_some, oc]; have e2' : v ∉ l := e2; simp [e2']
 | ret x =>
   cases x with
   | none => exact e2.elim
   | some x => obtain ⟨a, b⟩ := e2; simp only [Option.bind_some, oc]; simp [a, b]
theorem a8v (l : List Int) (hl : l.length <= 10000000) : ∃ r, a1g l = some r /\ r.length <= l.length /\ ∀ x, x ∈ r ↔ (x ∈ l /\ 0 <= x) := by
 unfold a1g
 have := a2B (xs := l) (s0 := ([] : List Int)) (body := (fun (i_2 : Nat) (p_3 : Int) (s_1 : (List Int)) => ((jp (fun (s_6 : Bool) => (if s_6 then ((a8F 8 s_1 [p_3]).bind fun l_8 => (some (.nxt l_8))) else (some (.nxt s_1)))) (fun k_5 => (if (decide (p_3 >= 0)) then ((w4 s_1 p_3).bind fun (con_7 : Bool) => (k_5 (!con_7))) else (k_5 false)))) : Option (Stp (List Int) (Option (List Int)))))) (fun _ => true) none
  (fun k r => r.length <= k /\ ∀ x, x ∈ r ↔ (x ∈ l.take k /\ 0 <= x)) zO ⟨by simp, by simp⟩ (fun k x r hx hr => by
   obtain ⟨h1, h2⟩ := hr
   have hk : k < l.length := (List.getElem?_eq_some_iff.1 hx).1
   have ht : l.take (k + 1) = l.take k ++ [x] := by rw [List.take_add_one, hx]; rfl
   simp only [if_true, jp, decide_eq_true_eq]
   by_cases h0 : x >= 0
   ·rw [if_pos h0, a6X _ _ zO]
    simp only [Option.bind_some]
    by_cases hm : x ∈ r
    ·refine ⟨r, by simp [hm], by omega, fun y => ?_⟩
     rw [h2, ht]
     simp only [List.mem_append, List.mem_singleton]
     constructor
     ·rintro ⟨a, b⟩; exact ⟨.inl a, b⟩
     ·rintro ⟨a | a, b⟩
      ·exact ⟨a, b⟩
      ·subst a; exact (h2 y).1 hm
    ·refine ⟨r ++ [x], ?_, by simp; omega, fun y => ?_⟩
     ·simp only [hm, decide_false, Bool.not_false, if_true]
      rw [a4U zE]; rfl
     ·rw [ht]
      simp only [List.mem_append, List.mem_singleton, h2]
      constructor
      ·rintro (⟨a, b⟩ | a)
       ·exact ⟨.inl a, b⟩
       ·subst a; exact ⟨.inr rfl, h0⟩
      ·rintro ⟨a | a, b⟩
       ·exact .inl ⟨a, b⟩
       ·exact .inr a
   ·refine ⟨r, by rw [if_neg h0]; simp, by omega, fun y => ?_⟩
    rw [h2, ht]
    simp only [List.mem_append, List.mem_singleton]
    constructor
    ·rintro ⟨a, b⟩; exact ⟨.inl a, b⟩
    ·rintro ⟨a | a, b⟩
     ·exact ⟨a, b⟩
     ·subst a; exact (h0 b).elim)
 rw [if_pos zS] at this
 obtain ⟨r, e1, e2, e3⟩ := this
 rw [e1]
 exact ⟨r, rfl, e2, fun x => by rw [e3, List.take_length]⟩
theorem b5L (n : f6) (hl : (a6a n).length <= 10000000) : ∃ r, a3f n = some r /\ r.length <= 10000000 /\ ∀ x, x ∈ r ↔ (x ∈ a6a n /\ 0 <= x) := by
 obtain ⟨r, h1, h0, h2⟩ := a8v (a6a n) hl
 refine ⟨r, ?_, by omega, h2⟩
 rw [<- h1]
 have e0 : a1g [] = some [] := by
  obtain ⟨r, a, _, b⟩ := a8v [] zS
  rw [a]
  cases r with
  | nil => rfl
  | cons x l => have := (b x).1 zS; simp at this
 unfold a3f a6a
 simp only [jp, beq_iff_eq]
 have bs : ∀ o : Option (List Int), (o.bind fun x => some x) = o := fun o => by cases o <;> rfl
 simp only [bs]
 by_cases h2 : n.Op = 2
 ·simp [h2]
 by_cases h5 : n.Op = 5
 ·simp [h5]
 by_cases h7 : n.Op = 7
 ·simp [h7]
 by_cases h9 : n.Op = 9
 ·simp [h9]
 by_cases h12 : n.Op = 12
 ·simp [h12]
 by_cases h14 : n.Op = 14
 ·simp [h14]
 by_cases h17 : n.Op = 17
 ·simp [h17]
 by_cases h18 : n.Op = 18
 ·simp [h18]
 by_cases h3 : n.Op = 3
 ·simp [h3]
 by_cases h8 : n.Op = 8
 ·simp [h8]
 by_cases h11 : n.Op = 11
 ·simp [h11]
 by_cases h13 : n.Op = 13
 ·simp [h13]
 simp [h2, h5, h7, h9, h12, h14, h17, h18, h3, h8, h11, h13, e0]
theorem b4s (n : f6) : ∃ r, a2D n = some r /\ r.length <= 10000000 /\ ∀ x, x ∈ r ↔ (x ∈ a6b n /\ 0 <= x) := by
 obtain ⟨r, h1, h0, h2⟩ := a8v (a6b n) (by have := b1D n; omega)
 refine ⟨r, ?_, by have := b1D n; omega, h2⟩
 rw [<- h1]
 have e0 : a1g [] = some [] := by
  obtain ⟨r, a, _, b⟩ := a8v [] zS
  rw [a]
  cases r with
  | nil => rfl
  | cons x l => have := (b x).1 zS; simp at this
 unfold a2D a6b
 simp only [jp, beq_iff_eq]
 have bs : ∀ o : Option (List Int), (o.bind fun x => some x) = o := fun o => by cases o <;> rfl
 simp only [bs]
 by_cases h1 : n.Op = 1
 ·simp [h1]
 by_cases h2 : n.Op = 2
 ·simp [h2]
 by_cases h3 : n.Op = 3
 ·simp [h3]
 by_cases h4 : n.Op = 4
 ·simp [h4]
 by_cases h6 : n.Op = 6
 ·simp [h6]
 by_cases h7 : n.Op = 7
 ·simp [h7]
 by_cases h11 : n.Op = 11
 ·simp [h11]
 by_cases h16 : n.Op = 16
 ·simp [h16]
 by_cases h15 : n.Op = 15
 ·simp [h15]
 simp [h1, h2, h3, h4, h6, h7, h11, h16, h15, e0]
def d0 : b9 := ⟨0, []⟩
def at_ (l : List b9) (i : Nat) : b9 := l.getD i d0
def mm (l : List b9) (i p : Nat) : Bool := mem (at_ l i) p
def b2B (K N : Nat) (l : List b9) : Prop := l.length = N /\ ∀ i, i < N -> OkS K (at_ l i)
section
variable {K N : Nat}
theorem b2B.get {l : List b9} (h : b2B K N l) {i : Nat} (hi : i < N) : m0 l (i : Int) = some (at_ l i) := by
 rw [a0d, List.getElem?_eq_getElem (by rw [h.1]; exact hi)]
 simp [at_, List.getD_eq_getElem?_getD, List.getElem?_eq_getElem (show i < l.length by rw [h.1]; exact hi)]
theorem b1E {l : List b9} {i j : Nat} {u : b9} (hi : i < l.length) : at_ (l.set i u) j = if j = i then u else at_ l j := by
 unfold at_
 by_cases h : j = i
 ·subst h; simp [List.getD_eq_getElem?_getD, List.getElem?_set_self hi]
 ·simp [List.getD_eq_getElem?_getD, List.getElem?_set_ne (Ne.symm h), h]
theorem b2B.set {l : List b9} (h : b2B K N l) {i : Nat} {u : b9} (hi : i < N) (hu : OkS K u) : b2B K N (l.set i u) := by
 refine ⟨by rw [List.length_set]; exact h.1, fun j hj => ?_⟩
 rw [b1E (by rw [h.1]; exact hi)]
 split
 ·exact hu
 ·exact h.2 j hj
theorem a6Y {l : List b9} {i j p : Nat} {u : b9} (hi : i < l.length) : mm (l.set i u) j p = if j = i then mem u p else mm l j p := by
 unfold mm; rw [b1E hi]; split <;> rfl
theorem a1Q {α : Type} {l : List α} {k : Nat} {x : α} (hx : l[k]? = some x) : l.take (k + 1) = l.take k ++ [x] := by rw [List.take_add_one, hx]; rfl
theorem b5M (hK : K <= 1048576) {c : b9} (hc : OkS K c) (l : List Int) (hl : l.length <= 4611686018427387904) : ∃ t, rng a9w l c = some (.fin t) /\ OkS K t /\ ∀ j : Nat, mem t j = (mem c j || decide (j < K /\ (j : Int) ∈ l)) := by
 have := a2B (xs := l) (s0 := c) (body := a9w) (fun _ => true) none (fun k t => OkS K t /\ ∀ j : Nat, mem t j = (mem c j || decide (j < K /\ (j : Int) ∈ l.take k))) hl ⟨hc, fun j => by simp⟩ (fun k x t hx ht => by
  obtain ⟨h1, h2⟩ := ht
  simp only [if_true]
  unfold a9w
  by_cases hr : 0 <= x /\ x < K
  ·obtain ⟨i, rfl⟩ : ∃ i : Nat, x = (i : Int) := ⟨x.toNat, by omega⟩
   obtain ⟨u, u1, _, u3, u4⟩ := a9B h1 hK (i := i) zO
   refine ⟨u, by rw [u1]; rfl, u3, fun j => ?_⟩
   rw [u4, h2, a1Q hx, Bool.or_assoc]
   congr 1
   simp only [List.mem_append, List.mem_singleton]
   by_cases e : j = i
   ·subst e; simp; omega
   ·have : ¬ ((j : Int) = (i : Int)) := by omega
    simp [e, this]
  ·refine ⟨t, by rw [b2y h1 hr]; rfl, h1, fun j => ?_⟩
   rw [h2, a1Q hx]
   congr 1
   simp only [List.mem_append, List.mem_singleton]
   refine decide_eq_decide.2 ⟨fun ⟨a, b⟩ => ⟨a, .inl b⟩, fun ⟨a, b⟩ => ⟨a, b.resolve_right (fun e => hr zO)⟩⟩)
 rw [if_pos zS] at this
 obtain ⟨t, e1, e2, e3⟩ := this
 exact ⟨t, e1, e2, fun j => by rw [e3, List.take_length]⟩
theorem b5N (hK : K <= 1048576) {c : b9} (hc : OkS K c) (l : List Int) (hl : l.length <= 4611686018427387904) : ∃ t, rng a9v l c = some (.fin t) /\ OkS K t /\ ∀ j : Nat, mem t j = (mem c j && !decide ((j : Int) ∈ l)) := by
 have := a2B (xs := l) (s0 := c) (body := a9v) (fun _ => true) none (fun k t => OkS K t /\ ∀ j : Nat, mem t j = (mem c j && !decide ((j : Int) ∈ l.take k))) hl ⟨hc, fun j => by simp⟩ (fun k x t hx ht => by
  obtain ⟨h1, h2⟩ := ht
  simp only [if_true]
  unfold a9v
  by_cases hr : 0 <= x /\ x < K
  ·obtain ⟨i, rfl⟩ : ∃ i : Nat, x = (i : Int) := ⟨x.toNat, by omega⟩
   obtain ⟨u, u1, u3, u4⟩ := b4p h1 hK (i := i) zO
   refine ⟨u, by rw [u1]; rfl, u3, fun j => ?_⟩
   rw [u4, h2, a1Q hx, Bool.and_assoc]
   congr 1
   rw [<- Bool.not_or]
   congr 1
   by_cases e : j = i
   ·subst e; simp
   ·have : ¬ ((j : Int) = (i : Int)) := by omega
    simp [e, this]
  ·refine ⟨t, by rw [b2z h1 hr]; rfl, h1, fun j => ?_⟩
   rw [h2, a1Q hx]
   cases hcj : mem c j with
   | false => simp
   | true =>
     have hj := hc.lt hcj
     congr 2
     simp only [List.mem_append, List.mem_singleton]
     exact decide_eq_decide.2 ⟨fun a => .inl a, fun a => a.resolve_right (fun e => hr zO)⟩)
 rw [if_pos zS] at this
 obtain ⟨t, e1, e2, e3⟩ := this
 exact ⟨t, e1, e2, fun j => by rw [e3, List.take_length]⟩
theorem b8c (hK : K <= 1048576) {fuel : Nat} (hf : 64 < fuel) {ins outs : List b9} (hi : b2B K N ins) (ho : b2B K N outs) {i : Nat} (hlt : i < N) (l : List Int) (hl : l.length <= 2) (hr : ∀ x ∈ l, 0 <= x /\ x < N) :
  ∃ u, rng (b4i fuel ins (i : Int)) l outs = some (.fin (outs.set i u)) /\ OkS K u /\ ∀ p, mem u p = true ↔ (mm outs i p = true \/ ∃ to : Nat, (to : Int) ∈ l /\ mm ins to p = true) := by
 have hset : ∀ u v : b9, (outs.set i u).set i v = outs.set i v := fun u v => by rw [List.set_set]
 have h0 : outs.set i (at_ outs i) = outs := by
  apply List.ext_getElem?
  intro j
  by_cases e : i = j
  ·subst e
   have hl : i < outs.length := by rw [ho.1]; exact hlt
   rw [List.getElem?_set_self hl]
   simp [at_, List.getD_eq_getElem?_getD, List.getElem?_eq_getElem hl]
  ·rw [List.getElem?_set_ne e]
 have := a2B (xs := l) (s0 := outs) (body := b4i fuel ins (i : Int)) (fun _ => true) none (fun k o => ∃ u, o = outs.set i u /\ OkS K u /\ ∀ p, mem u p = true ↔ (mm outs i p = true \/ ∃ to : Nat, (to : Int) ∈ l.take k /\ mm ins to p = true)) zO ⟨at_ outs i, h0.symm, ho.2 i hlt, fun p => by simp [mm]⟩ (fun k x o hx hq => by
  obtain ⟨u, rfl, u1, u2⟩ := hq
  simp only [if_true]
  obtain ⟨x0, x1⟩ := hr x (List.mem_of_getElem? hx)
  obtain ⟨to, rfl⟩ : ∃ i : Nat, x = (i : Int) := ⟨x.toNat, by omega⟩
  have hS := ho.set hlt u1
  have hg := hS.get hlt
  rw [b1E (by rw [ho.1]; exact hlt), if_pos rfl] at hg
  have hg2 := hi.get (i := to) zO
  obtain ⟨b, w, w1, w2, w3, _⟩ := b1C u1 (hi.2 to zO) hK hf
  refine ⟨outs.set i w, ?_, w, rfl, w2, fun p => ?_⟩
  ·unfold b4i
   rw [a2y (by rw [hS.1, hi.1]), hg, hg2]
   simp only [Option.bind_some, w1, Int.toNat_natCast, hset]
  ·rw [w3, Bool.or_eq_true, u2, a1Q hx]
   constructor
   ·rintro ((a | ⟨t, a, b⟩) | a)
    ·exact .inl a
    ·exact .inr ⟨t, by simp [a], b⟩
    ·exact .inr ⟨to, by simp, a⟩
   ·rintro (a | ⟨t, a, b⟩)
    ·exact .inl (.inl a)
    ·rw [List.mem_append, List.mem_singleton] at a
     rcases a with a | a
     ·exact .inl (.inr ⟨t, a, b⟩)
     ·have : t = to := by omega
      subst this; exact .inr b)
 rw [if_pos zS] at this
 obtain ⟨o, e1, u, rfl, e2, e3⟩ := this
 exact ⟨u, e1, e2, fun p => by rw [e3, List.take_length]⟩
theorem b5O {td : List Int} {ws : List Bool} (hN : ws.length = N) (hNN : N <= 5000) (l : List Int) (hl : l.length <= 100000) (hr : ∀ x ∈ l, 0 <= x /\ x < N) (htl : td.length <= 100000) (hnd : td.Nodup) (htr : ∀ x ∈ td, 0 <= x /\ x < N)
  (hw : ∀ i : Nat, i < N -> (ws[i]? = some true ↔ (i : Int) ∈ td)) :
  ∃ td' ws', rng a9x l (td, ws) = some (.fin (td', ws')) /\ ws'.length = N /\ td'.length <= td.length + l.length /\ td'.Nodup /\ (∀ x ∈ td', 0 <= x /\ x < N) /\ (∀ i : Nat, i < N -> (ws'[i]? = some true ↔ (i : Int) ∈ td')) /\ ∀ x, x ∈ td' ↔ (x ∈ td \/ x ∈ l) := by
 have := a2B (xs := l) (s0 := (td, ws)) (body := a9x) (fun _ => true) none (fun k q => q.2.length = N /\ q.1.length <= td.length + k /\ q.1.Nodup /\ (∀ x ∈ q.1, 0 <= x /\ x < N) /\ (∀ i : Nat, i < N -> (q.2[i]? = some true ↔ (i : Int) ∈ q.1)) /\ ∀ x, x ∈ q.1 ↔ (x ∈ td \/ x ∈ l.take k)) zO ⟨hN, by simp, hnd, htr, hw, by simp⟩ (fun k x q hx hq => by
  obtain ⟨t, w⟩ := q
  obtain ⟨h1, h2, h3, h4, h5, h6⟩ := hq
  simp only at h1 h2 h3 h4 h5 h6
  simp only [if_true]
  have hk : k < l.length := (List.getElem?_eq_some_iff.1 hx).1
  obtain ⟨x0, x1⟩ := hr x (List.mem_of_getElem? hx)
  obtain ⟨b, rfl⟩ : ∃ i : Nat, x = (i : Int) := ⟨x.toNat, by omega⟩
  have hb : b < w.length := by omega
  unfold a9x
  simp only [a0d, List.getElem?_eq_getElem hb, Option.bind_some]
  cases hwb : w[b] with
  | true =>
    have hin : (b : Int) ∈ t := (h5 b zO).1 (by rw [List.getElem?_eq_getElem hb, hwb])
    refine ⟨(t, w), by simp, h1, by show t.length <= _; omega, h3, h4, h5, fun y => ?_⟩
    rw [h6, a1Q hx, List.mem_append, List.mem_singleton]
    constructor
    ·rintro (a | a)
     ·exact .inl a
     ·exact .inr (.inl a)
    ·rintro (a | a | a)
     ·exact .inl a
     ·exact .inr a
     ·subst a; exact (h6 _).1 hin
  | false =>
    have hnin : (b : Int) ∉ t := fun hin => by
     have := (h5 b zO).2 hin
     rw [List.getElem?_eq_getElem hb, hwb] at this; cases this
    refine ⟨(t ++ [(b : Int)], w.set b true), ?_, by simp [h1], by simp; omega, ?_, ?_, fun j hj => ?_, fun y => ?_⟩
    ·simp only [Bool.not_false, if_true]
     rw [a4U zE]; simp
    ·show (t ++ [(b : Int)]).Nodup
     rw [List.nodup_append]
     exact ⟨h3, by simp, fun a ha c hc => by simp at hc; subst hc; exact fun e => hnin (e ▸ ha)⟩
    ·intro y hy
     rcases List.mem_append.1 hy with a | a
     ·exact h4 y a
     ·simp at a; subst a; exact ⟨x0, x1⟩
    ·show (w.set b true)[j]? = some true ↔ (j : Int) ∈ t ++ [(b : Int)]
     rw [List.mem_append, List.mem_singleton]
     by_cases e : b = j
     ·subst e; rw [List.getElem?_set_self hb]; simp
     ·rw [List.getElem?_set_ne e, h5 j hj]
      constructor
      ·exact fun a => .inl a
      ·rintro (a | a)
       ·exact a
       ·exact (e zO).elim
    ·show y ∈ t ++ [(b : Int)] ↔ _
     rw [a1Q hx]
     simp only [List.mem_append, List.mem_singleton, h6, or_assoc])
 rw [if_pos zS] at this
 obtain ⟨q, e1, h1, h2, h3, h4, h5, h6⟩ := this
 exact ⟨q.1, q.2, e1, h1, h2, h3, h4, h5, fun x => by rw [h6, List.take_length]⟩
end
end Go.Proofs.YtipeiholgieclaaDoor

/- Solve finds the least answer. -/
namespace Go.Proofs.YtipeiholgieclaaDoor
open Go Go.Ab
def nxt (g : b5) (i : Nat) : List Int := match g.Nodes[i]? with | some n => a0O n | none => []
def rdR (g : b5) (i : Nat) : List Int := match g.Nodes[i]? with | some n => a6a n | none => []
def wrR (g : b5) (i : Nat) : List Int := match g.Nodes[i]? with | some n => a6b n | none => []
structure a7o (g : b5) : Prop where
 kn : g.Kinds.length <= 1024
 n0 : 1 <= g.Nodes.length
 nn : g.Nodes.length <= 4096
 nx : ∀ i, ∀ x ∈ nxt g i, 0 <= x /\ x < g.Nodes.length
 rd : ∀ i, (rdR g i).length <= 1000000
inductive Lv (g : b5) : Nat -> Nat -> Prop
 | read {i p : Nat} (hi : i < g.Nodes.length) (hp : p < g.Kinds.length) (h : (p : Int) ∈ rdR g i) : Lv g i p
 | step {i p to : Nat} (hi : i < g.Nodes.length) (ht : (to : Int) ∈ nxt g i) (h : Lv g to p) (hw : (p : Int) ∉ wrR g i) : Lv g i p
theorem Lv.lt {g : b5} {i p : Nat} (h : Lv g i p) : i < g.Nodes.length /\ p < g.Kinds.length := by
 induction h with
 | read a b _ => exact ⟨a, b⟩
 | step a _ _ _ ih => exact ⟨a, ih.2⟩
def Bh (g : b5) (i p : Nat) : Prop := ∃ to : Nat, (to : Int) ∈ nxt g i /\ Lv g to p
structure Inv (g : b5) (ins outs : List b9) (todo : List Int) (waits : List Bool) : Prop where
 aI : b2B g.Kinds.length g.Nodes.length ins
 aO : b2B g.Kinds.length g.Nodes.length outs
 wl : waits.length = g.Nodes.length
 tl : todo.length <= 100000
 nd : todo.Nodup
 tr : ∀ x ∈ todo, 0 <= x /\ x < g.Nodes.length
 wt : ∀ i : Nat, i < g.Nodes.length -> (waits[i]? = some true ↔ (i : Int) ∈ todo)
 s1 : ∀ i p, i < g.Nodes.length -> mm ins i p = true -> Lv g i p
 s2 : ∀ i p, i < g.Nodes.length -> mm outs i p = true -> Bh g i p
 c1 : ∀ i : Nat, i < g.Nodes.length -> (i : Int) ∉ todo -> ∀ (to p : Nat), (to : Int) ∈ nxt g i -> mm ins to p = true -> mm outs i p = true
 c2 : ∀ i : Nat, i < g.Nodes.length -> (i : Int) ∉ todo -> ∀ p : Nat, p < g.Kinds.length -> (p : Int) ∈ rdR g i -> mm ins i p = true
 c3 : ∀ i : Nat, i < g.Nodes.length -> (i : Int) ∉ todo -> ∀ p : Nat, mm outs i p = true -> (p : Int) ∉ wrR g i -> mm ins i p = true
structure c0U (g : b5) (bef : List (List Int)) : Prop where
 len : bef.length = g.Nodes.length
 rg : ∀ (to : Nat) l, bef[to]? = some l -> l.length <= 10000 /\ ∀ x ∈ l, 0 <= x /\ x < g.Nodes.length
 al : ∀ (to : Nat) l, bef[to]? = some l -> ∀ b : Nat, b < g.Nodes.length -> (to : Int) ∈ nxt g b -> (b : Int) ∈ l
theorem Inv.end {g : b5} {ins outs : List b9} {waits : List Bool} (hg : a7o g) (h : Inv g ins outs [] waits) : (∀ i p, i < g.Nodes.length -> (mm ins i p = true ↔ Lv g i p)) /\ ∀ i p, i < g.Nodes.length -> (mm outs i p = true ↔ Bh g i p) := by
 have key : ∀ i p, Lv g i p -> mm ins i p = true := by
  intro i p hl
  induction hl with
  | read a b c => exact h.c2 _ a zS _ b c
  | step a t l w ih => exact h.c3 _ a zS _ (h.c1 _ a zS _ _ t ih) w
 refine ⟨fun i p hi => ⟨h.s1 i p hi, key i p⟩, fun i p hi => ⟨h.s2 i p hi, fun ⟨to, a, b⟩ => h.c1 i hi zS to p a (key _ _ b)⟩⟩
def cnt (K : Nat) (s : b9) : Nat := ((List.range K).filter (mem s)).length
theorem c0V {K : Nat} {s : b9} : cnt K s <= K := by
 have := List.length_filter_le (mem s) (List.range K); simpa [cnt] using this
theorem a6Z {α : Type} {A B : α -> Bool} : ∀ (l : List α), (∀ x ∈ l, A x = true -> B x = true) -> (l.filter A).length <= (l.filter B).length
 | [], _ => Nat.le_refl _
 | x :: l, h => by
   have ih := a6Z l (fun y hy => h y (List.mem_cons_of_mem _ hy))
   have hx := h x List.mem_cons_self
   simp only [List.filter_cons]
   cases ha : A x with
   | true => rw [ha] at hx; simp [hx rfl]; exact ih
   | false =>
     cases hb : B x with
     | true => simp; omega
     | false => simpa using ih
theorem filter_lt {α : Type} {A B : α -> Bool} : ∀ (l : List α), (∀ x ∈ l, A x = true -> B x = true) -> (∃ x ∈ l, B x = true /\ A x = false) -> (l.filter A).length < (l.filter B).length
 | [], _, h => by obtain ⟨x, hx, _⟩ := h; simp at hx
 | x :: l, h, hex => by
   have hm := a6Z l (fun y hy => h y (List.mem_cons_of_mem _ hy))
   have hx := h x List.mem_cons_self
   simp only [List.filter_cons]
   cases ha : A x with
   | true =>
     rw [ha] at hx
     have : (l.filter A).length < (l.filter B).length := filter_lt l (fun y hy => h y (List.mem_cons_of_mem _ hy)) (by
      obtain ⟨y, hy, h1, h2⟩ := hex
      rcases List.mem_cons.1 hy with e | e
      ·subst e; rw [ha] at h2; cases h2
      ·exact ⟨y, e, h1, h2⟩)
     simp [hx rfl]; exact this
   | false =>
     cases hb : B x with
     | true => simp; omega
     | false =>
       have : (l.filter A).length < (l.filter B).length := filter_lt l (fun y hy => h y (List.mem_cons_of_mem _ hy)) (by
        obtain ⟨y, hy, h1, h2⟩ := hex
        rcases List.mem_cons.1 hy with e | e
        ·subst e; rw [hb] at h1; cases h1
        ·exact ⟨y, e, h1, h2⟩)
       simpa using this
theorem b4t {f : b9 -> Nat} {u : b9} : ∀ (l : List b9) (i : Nat), i < l.length -> ((l.set i u).map f).sum + f (at_ l i) = (l.map f).sum + f u
 | [], i, h => by simp at h
 | x :: l, 0, h => by simp [at_]; omega
 | x :: l, i + 1, h => by
   have := b4t (f := f) (u := u) l i (by simpa using h)
   simp only [List.set_cons_succ, List.map_cons, List.sum_cons]
   have e : at_ (x :: l) (i + 1) = at_ l i := by simp [at_]
   rw [e]; omega
def tot (K : Nat) (l : List b9) : Nat := (l.map (fun s => K - cnt K s)).sum
theorem b6U {K : Nat} : ∀ l : List b9, tot K l <= l.length * K
 | [] => by simp [tot]
 | x :: l => by
   have := b6U (K := K) l
   simp only [tot, List.map_cons, List.sum_cons, List.length_cons] at this ⊢
   have e : (l.length + 1) * K = l.length * K + K := by rw [Nat.add_mul]; omega
   omega
def mu (g : b5) (q : T2) : Nat := tot g.Kinds.length q.1 * 10001 + q.2.2.1.length
theorem a9D : ∀ (N : Nat) (l : List Int), l.Nodup -> (∀ x ∈ l, 0 <= x /\ x < N) -> l.length <= N
 | 0, l, _, h => by
   cases l with
   | nil => exact Nat.le_refl _
   | cons x l => have := h x zS; omega
 | N + 1, l, hn, h => by
   have h1 : (l.filter (fun x => decide (x ≠ (N : Int)))).length <= N := a9D N _ (List.Pairwise.filter _ hn) (fun x hx => by
    obtain ⟨a, b⟩ := List.mem_filter.1 hx
    have := h x a
    simp at b
    omega)
   have h2 : l.length <= (l.filter (fun x => decide (x ≠ (N : Int)))).length + 1 := by
    clear h h1
    induction l with
    | nil => simp
    | cons x l ih =>
      have hn' := List.nodup_cons.1 hn
      by_cases hx : x = (N : Int)
      ·have : (l.filter (fun x => decide (x ≠ (N : Int)))) = l := by
        rw [List.filter_eq_self]; intro a ha; simp; intro e; subst e; subst hx; exact hn'.1 ha
       rw [List.filter_cons_of_neg (by simp [hx]), this]; simp
      ·rw [List.filter_cons_of_pos (by simp [hx])]
       have := ih hn'.2
       simp only [List.length_cons]; omega
   omega
theorem b1F {g : b5} {ins outs : List b9} {td td' ext : List Int} {waits ws' : List Bool} {i : Nat} {u v : b9} (hg : a7o g) (hI : Inv g ins outs (td ++ [(i : Int)]) waits) (hi : i < g.Nodes.length)
  (hu : OkS g.Kinds.length u) (hv : OkS g.Kinds.length v) (mu_ : ∀ p, mem u p = true ↔ (mm outs i p = true \/ ∃ to : Nat, (to : Int) ∈ nxt g i /\ mm ins to p = true))
  (mv : ∀ p, mem v p = true ↔ (mm ins i p = true \/ (mem u p = true /\ (p : Int) ∉ wrR g i) \/ (p < g.Kinds.length /\ (p : Int) ∈ rdR g i)))
  (wl : ws'.length = g.Nodes.length) (nd : td'.Nodup) (tr : ∀ x ∈ td', 0 <= x /\ x < g.Nodes.length) (wt : ∀ i : Nat, i < g.Nodes.length -> (ws'[i]? = some true ↔ (i : Int) ∈ td'))
  (he : ∀ x, x ∈ td' ↔ (x ∈ td \/ x ∈ ext)) (hch : ∀ p, mem v p = true -> mm ins i p = false -> ∀ b : Nat, b < g.Nodes.length -> (i : Int) ∈ nxt g b -> (b : Int) ∈ ext) :
  Inv g (ins.set i v) (outs.set i u) td' ws' := by
 have li : i < ins.length := by rw [hI.aI.1]; exact hi
 have lo : i < outs.length := by rw [hI.aO.1]; exact hi
 have nx : ∀ to : Nat, ∀ j, (to : Int) ∈ nxt g j -> to < g.Nodes.length := fun to j h => by have := hg.nx j _ h; omega
 have hnt : ∀ j : Nat, (j : Int) ∉ td' -> j ≠ i -> (j : Int) ∉ td ++ [(i : Int)] := fun j h1 h2 h3 => by
  rcases List.mem_append.1 h3 with a | a
  ·exact h1 ((he _).2 (.inl a))
  ·simp at a; exact h2 zO
 refine ⟨hI.aI.set hi hv, hI.aO.set hi hu, wl, by have := a9D _ _ nd tr; have := hg.nn; omega, nd, tr, wt, fun j p hj h => ?_, fun j p hj h => ?_, fun j hj hn to p ht h => ?_, fun j hj hn p hp h => ?_, fun j hj hn p h hw => ?_⟩
 ·rw [a6Y li] at h
  split at h
  ·rename_i e; subst e
   rcases (mv p).1 h with a | ⟨a, b⟩ | ⟨a, b⟩
   ·exact hI.s1 _ _ hj a
   ·rcases (mu_ p).1 a with c | ⟨to, c, d⟩
    ·obtain ⟨to, e1, e2⟩ := hI.s2 _ _ hj c
     exact .step hj e1 e2 b
    ·exact .step hj c (hI.s1 _ _ (nx _ _ c) d) b
   ·exact .read hj a b
  ·exact hI.s1 _ _ hj h
 ·rw [a6Y lo] at h
  split at h
  ·rename_i e; subst e
   rcases (mu_ p).1 h with c | ⟨to, c, d⟩
   ·exact hI.s2 _ _ hj c
   ·exact ⟨to, c, hI.s1 _ _ (nx _ _ c) d⟩
  ·exact hI.s2 _ _ hj h
 ·rw [a6Y li] at h
  rw [a6Y lo]
  by_cases hti : to = i
  ·subst hti
   rw [if_pos rfl] at h
   cases ha : mm ins to p with
   | false => exact (hn ((he _).2 (.inr (hch p h ha j hj ht)))).elim
   | true =>
     by_cases e : j = to
     ·subst e; rw [if_pos rfl]; exact (mu_ p).2 (.inr ⟨j, ht, ha⟩)
     ·rw [if_neg e]; exact hI.c1 j hj (hnt j hn e) to p ht ha
  ·rw [if_neg hti] at h
   by_cases e : j = i
   ·subst e; rw [if_pos rfl]; exact (mu_ p).2 (.inr ⟨to, ht, h⟩)
   ·rw [if_neg e]; exact hI.c1 j hj (hnt j hn e) to p ht h
 ·rw [a6Y li]
  by_cases e : j = i
  ·subst e; rw [if_pos rfl]; exact (mv p).2 (.inr (.inr ⟨hp, h⟩))
  ·rw [if_neg e]; exact hI.c2 j hj (hnt j hn e) p hp h
 ·rw [a6Y lo] at h
  rw [a6Y li]
  by_cases e : j = i
  ·subst e; rw [if_pos rfl] at h; rw [if_pos rfl]; exact (mv p).2 (.inr (.inl ⟨h, hw⟩))
  ·rw [if_neg e] at h; rw [if_neg e]; exact hI.c3 j hj (hnt j hn e) p h hw
theorem b8d {g : b5} (hg : a7o g) {fuel : Nat} (hf : 64 < fuel) {bef : List (List Int)} (hb : c0U g bef) (q : T2) (hI : Inv g q.1 q.2.1 q.2.2.1 q.2.2.2) :
  (∃ q', a5N fuel g bef q = some (.nxt q') /\ Inv g q'.1 q'.2.1 q'.2.2.1 q'.2.2.2 /\ mu g q' < mu g q) \/ (∃ q', a5N fuel g bef q = some (.brk q') /\ Inv g q'.1 q'.2.1 [] q'.2.2.2) := by
 obtain ⟨ins, outs, todo, waits⟩ := q
 simp only at hI
 have hK : g.Kinds.length <= 1048576 := by have := hg.kn; omega
 have hN : g.Nodes.length <= 4096 := hg.nn
 unfold a5N
 simp only
 rw [a2y ⟨hI.aI.1, hI.aO.1, hb.len⟩]
 rcases List.eq_nil_or_concat todo with rfl | ⟨td, x, rfl⟩
 ·right
  refine ⟨(ins, outs, [], waits), by simp, hI⟩
 left
 rw [List.concat_eq_append] at hI ⊢
 have hx := hI.tr x zS
 obtain ⟨i, rfl⟩ : ∃ i : Nat, x = (i : Int) := ⟨x.toNat, by omega⟩
 have hi : i < g.Nodes.length := by omega
 have htl := hI.tl
 simp only [List.length_append, List.length_singleton] at htl
 have hnd := List.nodup_append.1 hI.nd
 have hnin : (i : Int) ∉ td := fun h => hnd.2.2 _ h _ zS rfl
 have hlen : I64 (((td ++ [(i : Int)]).length : Int) - 1) = (td.length : Int) := by
  rw [a7F zE]; simp
 have hgt : (decide (((td ++ [(i : Int)]).length : Int) > 0)) = true := by simp
 have hget : m0 (td ++ [(i : Int)]) ((td.length : Nat) : Int) = some (i : Int) := by rw [a0d]; simp
 have hsub : b2r (td ++ [(i : Int)]) 0 ((td.length : Nat) : Int) = some td := by
  unfold b2r; rw [if_pos zE]; simp
 have hw : i < waits.length := by rw [hI.wl]; exact hi
 obtain ⟨n, hn⟩ : ∃ n, g.Nodes[i]? = some n := ⟨_, List.getElem?_eq_getElem hi⟩
 have enx : nxt g i = a0O n := by unfold nxt; rw [hn]
 have erd : rdR g i = a6a n := by unfold rdR; rw [hn]
 have ewr : wrR g i = a6b n := by unfold wrR; rw [hn]
 obtain ⟨u, u1, u2, u3⟩ := b8c hK hf hI.aI hI.aO hi (a0O n) (a5q n) (by rw [<- enx]; exact hg.nx i)
 have aO' := hI.aO.set hi u2
 have hcp := b2A u2 hK
 obtain ⟨wr, wr1, wrl, wr2⟩ := b4s n
 obtain ⟨rd, rd1, rdl, rd2⟩ := b5L n (by rw [<- erd]; have := hg.rd i; omega)
 obtain ⟨t1, t11, t12, t13⟩ := b5N hK u2 wr zO
 obtain ⟨t2, t21, t22, t23⟩ := b5M hK t12 rd zO
 obtain ⟨b, v, v1, v2, v3, v4⟩ := b1C (hI.aI.2 i hi) t22 hK hf
 have hgo : m0 (outs.set i u) (i : Int) = some u := by
  rw [aO'.get hi, b1E (by rw [hI.aO.1]; exact hi), if_pos rfl]
 have mu_ : ∀ p, mem u p = true ↔ (mm outs i p = true \/ ∃ to : Nat, (to : Int) ∈ nxt g i /\ mm ins to p = true) := by rw [enx]; exact u3
 have mt : ∀ p : Nat, mem t2 p = true ↔ ((mem u p = true /\ (p : Int) ∉ wrR g i) \/ (p < g.Kinds.length /\ (p : Int) ∈ rdR g i)) := fun p => by
  rw [t23, t13, ewr, erd]
  have a1 : (p : Int) ∈ wr ↔ (p : Int) ∈ a6b n := by rw [wr2]; simp
  have a2 : (p : Int) ∈ rd ↔ (p : Int) ∈ a6a n := by rw [rd2]; simp
  simp [a1, a2]
 have mv : ∀ p, mem v p = true ↔ (mm ins i p = true \/ (mem u p = true /\ (p : Int) ∉ wrR g i) \/ (p < g.Kinds.length /\ (p : Int) ∈ rdR g i)) := fun p => by
  rw [v3, Bool.or_eq_true, mt]; rfl
 have li : i < ins.length := by rw [hI.aI.1]; exact hi
 have hsum := b4t (f := fun s => g.Kinds.length - cnt g.Kinds.length s) (u := v) ins i li
 have hsum' : tot g.Kinds.length (ins.set i v) + (g.Kinds.length - cnt g.Kinds.length (at_ ins i)) = tot g.Kinds.length ins + (g.Kinds.length - cnt g.Kinds.length v) := hsum
 have hwt0 : ∀ j : Nat, j < g.Nodes.length -> ((waits.set i false)[j]? = some true ↔ (j : Int) ∈ td) := fun j hj => by
  by_cases e : i = j
  ·subst e; rw [List.getElem?_set_self hw]; simp [hnin]
  ·rw [List.getElem?_set_ne e, hI.wt j hj, List.mem_append, List.mem_singleton]
   constructor
   ·rintro (a | a)
    ·exact a
    ·exact (e zO).elim
   ·exact fun a => .inl a
 have htr0 : ∀ x ∈ td, 0 <= x /\ x < g.Nodes.length := fun x hx => hI.tr x (List.mem_append_left _ hx)
 have hgw : m0 waits (i : Int) = some waits[i] := by rw [a0d, List.getElem?_eq_getElem hw]
 have hgn : m0 g.Nodes (i : Int) = some n := by rw [a0d, hn]
 have hlo : (outs.set i u).length = g.Nodes.length := aO'.1
 simp only [hgt, if_true, hlen, hget, hsub, Option.bind_some, hgw, hgn, b0A, u1, oc]
 rw [a2y hlo]
 simp only [hgo, hcp, wr1, t11, rd1, t21, hI.aI.get hi, v1, Option.bind_some, oc, Int.toNat_natCast]
 cases b with
 | false =>
   simp only [Bool.not_false, if_true]
   have hsame : ∀ p, mem v p = mem (at_ ins i) p := fun p => by
    rw [v3]
    cases e1 : mem (at_ ins i) p with
    | true => rfl
    | false =>
      cases e2 : mem t2 p with
      | false => rfl
      | true => exact Bool.noConfusion (v4.2 ⟨p, e2, e1⟩)
   refine ⟨_, rfl, b1F hg hI hi u2 v2 mu_ mv (by simp [hI.wl]) hnd.1 htr0 hwt0 (ext := []) (fun x => by simp) (fun p h1 h2 => by
    rw [hsame] at h1; unfold mm at h2; rw [h1] at h2; cases h2), ?_⟩
   have hc : cnt g.Kinds.length v = cnt g.Kinds.length (at_ ins i) := by
    unfold cnt; congr 1; exact List.filter_congr (fun p _ => hsame p)
   rw [hc] at hsum'
   simp only [mu, List.length_append, List.length_singleton]
   omega
 | true =>
   simp only [Bool.not_true, Bool.false_eq_true, if_false]
   obtain ⟨bs, hbs⟩ : ∃ bs, bef[i]? = some bs := ⟨_, List.getElem?_eq_getElem (by rw [hb.len]; exact hi)⟩
   obtain ⟨bl, br⟩ := hb.rg i bs hbs
   obtain ⟨td', ws', p1, p2, p3, p4, p5, p6, p7⟩ := b5O (td := td) (ws := waits.set i false) (N := g.Nodes.length) (by simp [hI.wl]) zO bs zO br zO hnd.1 htr0 hwt0
   have hgb : m0 bef (i : Int) = some bs := by rw [a0d, hbs]
   simp only [hgb, Option.bind_some, p1, oc]
   refine ⟨_, rfl, b1F hg hI hi u2 v2 mu_ mv p2 p4 p5 p6 p7 (fun p _ _ b hb' hin => hb.al i bs hbs b hb' hin), ?_⟩
   obtain ⟨j, j1, j2⟩ := v4.1 rfl
   have hjK := t22.lt j1
   have hc : cnt g.Kinds.length (at_ ins i) < cnt g.Kinds.length v := by
    unfold cnt
    refine filter_lt _ (fun x _ hx => by rw [v3, hx]; rfl) ⟨j, by simpa using hjK, by rw [v3, j1]; simp, j2⟩
   have := c0V (K := g.Kinds.length) (s := v)
   simp only [mu, List.length_append, List.length_singleton]
   omega
section
variable {g : b5}
structure c5n (g : b5) (k m : Nat) (nx : List Int) (bef : List (List Int)) : Prop where
 len : bef.length = g.Nodes.length
 rg : ∀ (to : Nat) l, bef[to]? = some l -> l.length <= 2 * k + m /\ ∀ x ∈ l, 0 <= x /\ x < g.Nodes.length
 al : ∀ (to : Nat) l, bef[to]? = some l -> (∀ b : Nat, b < k -> (to : Int) ∈ nxt g b -> (b : Int) ∈ l) /\ ((to : Int) ∈ nx.take m -> (k : Int) ∈ l)
theorem b5P (hg : a7o g) {k : Nat} (hk : k < g.Nodes.length) {bef : List (List Int)} (hb : c5n g k 0 (nxt g k) bef) (hl : (nxt g k).length <= 2) : ∃ bef', rng (a9t g.Nodes.length k) (nxt g k) bef = some (.fin bef') /\ c5n g (k + 1) 0 (nxt g (k + 1)) bef' := by
 have hN := hg.nn
 have := a2B (xs := nxt g k) (s0 := bef) (body := a9t g.Nodes.length k) (fun _ => true) none (fun m b => c5n g k m (nxt g k) b) zO hb (fun m x b hx h => by
  simp only [if_true]
  have hm : m < (nxt g k).length := (List.getElem?_eq_some_iff.1 hx).1
  obtain ⟨x0, x1⟩ := hg.nx k x (List.mem_of_getElem? hx)
  obtain ⟨to, rfl⟩ : ∃ i : Nat, x = (i : Int) := ⟨x.toNat, by omega⟩
  have hto : to < b.length := by rw [h.len]; omega
  obtain ⟨r1, r2⟩ := h.rg to _ (List.getElem?_eq_getElem hto)
  obtain ⟨a1, a2⟩ := h.al to _ (List.getElem?_eq_getElem hto)
  refine ⟨b.set to (b[to] ++ [(k : Int)]), ?_, by rw [List.length_set]; exact h.len, fun t l hl2 => ?_, fun t l hl2 => ?_⟩
  ·unfold a9t
   rw [a2y h.len, a0d, List.getElem?_eq_getElem hto]
   simp only [Option.bind_some]
   rw [a4U zE]; simp
  ·by_cases e : to = t
   ·subst e
    rw [List.getElem?_set_self hto] at hl2; cases hl2
    refine ⟨by simp; omega, fun y hy => ?_⟩
    rcases List.mem_append.1 hy with a | a
    ·exact r2 y a
    ·simp at a; subst a; omega
   ·rw [List.getElem?_set_ne e] at hl2
    obtain ⟨q1, q2⟩ := h.rg t l hl2
    exact ⟨by omega, q2⟩
  ·rw [a1Q hx]
   by_cases e : to = t
   ·subst e
    rw [List.getElem?_set_self hto] at hl2; cases hl2
    exact ⟨fun b' h1 h2 => List.mem_append_left _ (a1 b' h1 h2), fun _ => by simp⟩
   ·rw [List.getElem?_set_ne e] at hl2
    obtain ⟨q1, q2⟩ := h.al t l hl2
    refine ⟨q1, fun h1 => ?_⟩
    rw [List.mem_append, List.mem_singleton] at h1
    rcases h1 with a | a
    ·exact q2 a
    ·exact (e zO).elim)
 rw [if_pos zS] at this
 obtain ⟨b', e1, h⟩ := this
 refine ⟨b', e1, h.len, fun t l hl2 => ?_, fun t l hl2 => ?_⟩
 ·obtain ⟨q1, q2⟩ := h.rg t l hl2
  exact ⟨by omega, q2⟩
 ·obtain ⟨q1, q2⟩ := h.al t l hl2
  refine ⟨fun b hb2 hin => ?_, fun h1 => by simp at h1⟩
  by_cases e : b = k
  ·subst e; exact q2 (by rw [List.take_length]; exact hin)
  ·exact q1 b zO hin
def c0W (K : Nat) (l : List b9) : Prop := ∀ s ∈ l, OkS K s /\ ∀ j, mem s j = false
theorem b5Q (hg : a7o g) : ∃ ins outs bef, rng (a9u g) g.Nodes ([], [], List.replicate g.Nodes.length [], []) = some (.fin (ins, outs, bef, (List.range g.Nodes.length).map fun (i : Nat) => (i : Int))) /\
  ins.length = g.Nodes.length /\ outs.length = g.Nodes.length /\ c0W g.Kinds.length ins /\ c0W g.Kinds.length outs /\ c0U g bef := by
 have hN := hg.nn
 have hK : g.Kinds.length <= 1048576 := by have := hg.kn; omega
 have := a2B (xs := g.Nodes) (s0 := (([], [], List.replicate g.Nodes.length [], []) : T1)) (body := a9u g) (fun _ => true) none
  (fun k s => s.1.length = k /\ s.2.1.length = k /\ c0W g.Kinds.length s.1 /\ c0W g.Kinds.length s.2.1 /\ c5n g k 0 (nxt g k) s.2.2.1 /\ s.2.2.2 = (List.range k).map fun (i : Nat) => (i : Int)) zO ⟨rfl, rfl, fun s h => by simp at h, fun s h => by simp at h, ⟨by simp, fun to l h => by
   rw [List.getElem?_replicate] at h
   split at h
   ·cases h; simp
   ·(cases h), fun to l h => ⟨fun b hb => by omega, fun h => by simp at h⟩⟩, rfl⟩ (fun k n s hx hs => by
  obtain ⟨h1, h2, h3, h4, h5, h6⟩ := hs
  simp only [if_true]
  have hk : k < g.Nodes.length := (List.getElem?_eq_some_iff.1 hx).1
  have enx : nxt g k = a0O n := by unfold nxt; rw [hx]
  obtain ⟨a, a1, a2, a3⟩ := b4q hK
  obtain ⟨bef', b1, b2⟩ := b5P hg hk h5 (by rw [enx]; exact a5q n)
  refine ⟨(s.1 ++ [a], s.2.1 ++ [a], bef', s.2.2.2 ++ [(k : Int)]), ?_, by simp [h1], by simp [h2], ?_, ?_, b2, by rw [h6, List.range_succ, List.map_append]; rfl⟩
  ·unfold a9u
   rw [a2y ⟨h1, h2⟩]
   simp only [a1, Option.bind_some, b0A, <- enx, b1, oc]
   rw [a4U (by rw [h6]; simp; omega)]; rfl
  ·intro t ht
   rcases List.mem_append.1 ht with e | e
   ·exact h3 t e
   ·simp at e; subst e; exact ⟨a2, a3⟩
  ·intro t ht
   rcases List.mem_append.1 ht with e | e
   ·exact h4 t e
   ·simp at e; subst e; exact ⟨a2, a3⟩)
 rw [if_pos zS] at this
 obtain ⟨s, e1, h1, h2, h3, h4, h5, h6⟩ := this
 obtain ⟨ins, outs, bef, todo⟩ := s
 simp only at h1 h2 h3 h4 h5 h6
 subst h6
 exact ⟨ins, outs, bef, e1, h1, h2, h3, h4, h5.len, fun to l h => ⟨by have := (h5.rg to l h).1; omega, (h5.rg to l h).2⟩, fun to l h => (h5.al to l h).1⟩
theorem b4u (N : Nat) (hN : N <= 5000) : rni a6V ((List.replicate N false).length : Int) (List.replicate N false) = some (.fin (List.replicate N true)) := by
 obtain ⟨w, e1, e2, e3⟩ := b0q (n := ((List.replicate N false).length : Int)) (s0 := List.replicate N false) (body := a6V) (fun k w => w.length = N /\ ∀ j, j < N -> w[j]? = some (decide (j < k))) zE ⟨by simp, fun j hj => by simp [hj]⟩ (fun i w hi h => by
  obtain ⟨h1, h2⟩ := h
  have hiN : i < w.length := by simp at hi; omega
  refine ⟨w.set i true, ?_, by simp [h1], fun j hj => ?_⟩
  ·unfold a6V
   rw [a0d, List.getElem?_eq_getElem hiN]; simp
  ·by_cases e : i = j
   ·subst e; rw [List.getElem?_set_self hiN]; simp
   ·rw [List.getElem?_set_ne e, h2 j hj]
    congr 1
    exact decide_eq_decide.2 ⟨fun a => by omega, fun a => by omega⟩)
 rw [e1]
 congr 2
 apply List.ext_getElem?
 intro j
 by_cases hj : j < N
 ·rw [e3 j hj]; simp [hj]
 ·rw [List.getElem?_eq_none zO, List.getElem?_eq_none zE]
theorem b5R (hg : a7o g) {fuel : Nat} (hf : 100000000000 <= fuel) : ∃ ins outs, a1P fuel g = some (ins, outs) /\ b2B g.Kinds.length g.Nodes.length ins /\ b2B g.Kinds.length g.Nodes.length outs /\
  (∀ i p, i < g.Nodes.length -> (mm ins i p = true ↔ Lv g i p)) /\ ∀ i p, i < g.Nodes.length -> (mm outs i p = true ↔ Bh g i p) := by
 have hN := hg.nn
 have hKn := hg.kn
 obtain ⟨ins, outs, bef, e1, l1, l2, z1, z2, hb⟩ := b5Q hg
 have hat : ∀ l : List b9, l.length = g.Nodes.length -> c0W g.Kinds.length l -> b2B g.Kinds.length g.Nodes.length l /\ ∀ i p, i < g.Nodes.length -> mm l i p = false := fun l hl hz => by
  have hin : ∀ i, i < g.Nodes.length -> at_ l i ∈ l := fun i hi => by
   unfold at_
   rw [List.getD_eq_getElem?_getD, List.getElem?_eq_getElem zO]
   exact List.getElem_mem _
  exact ⟨⟨hl, fun i hi => (hz _ (hin i hi)).1⟩, fun i p hi => (hz _ (hin i hi)).2 p⟩
 obtain ⟨a1, m1⟩ := hat ins l1 z1
 obtain ⟨a2, m2⟩ := hat outs l2 z2
 have htd : ∀ i : Nat, i < g.Nodes.length -> (i : Int) ∈ (List.range g.Nodes.length).map fun (i : Nat) => (i : Int) := fun i hi => List.mem_map.2 ⟨i, by simpa using hi, rfl⟩
 have hI : Inv g ins outs ((List.range g.Nodes.length).map fun (i : Nat) => (i : Int)) (List.replicate g.Nodes.length true) := by
  refine ⟨a1, a2, by simp, by simp; omega, ?_, fun x hx => ?_, fun i hi => ?_, fun i p hi h => ?_, fun i p hi h => ?_, fun i hi hn => ?_, fun i hi hn => ?_, fun i hi hn => ?_⟩
  ·have h0 : (List.range g.Nodes.length).Pairwise (fun a b => a ≠ b) := List.nodup_range
   exact h0.map _ (fun a b (hab : a ≠ b) => by omega)
  ·obtain ⟨i, h1, rfl⟩ := List.mem_map.1 hx
   simp at h1; omega
  ·simp only [htd i hi, iff_true]; simp [hi]
  ·rw [m1 i p hi] at h; cases h
  ·rw [m2 i p hi] at h; cases h
  ·exact (hn (htd i hi)).elim
  ·exact (hn (htd i hi)).elim
  ·exact (hn (htd i hi)).elim
 obtain ⟨o, w1, w2⟩ := a9j (body := a5N fuel g bef) (fun q : T2 => Inv g q.1 q.2.1 q.2.2.1 q.2.2.2) (mu g) (fun o => match o with | .fin q => Inv g q.1 q.2.1 [] q.2.2.2 | .ret _ => False)
  (fun q hq => by
   rcases b8d hg (by omega : 64 < fuel) hb q hq with ⟨q', h1, h2, h3⟩ | ⟨q', h1, h2⟩
   ·exact .inl ⟨q', h1, h2, h3⟩
   ·exact .inr (.inl ⟨q', h1, h2⟩)) fuel (ins, outs, (List.range g.Nodes.length).map fun (i : Nat) => (i : Int), List.replicate g.Nodes.length true) hI (by
   have h1 := b6U (K := g.Kinds.length) ins
   have h2 : ins.length * g.Kinds.length <= 4096 * 1024 := by rw [l1]; exact Nat.mul_le_mul hN hKn
   simp only [mu, List.length_map, List.length_range]
   omega)
 have hm : ∀ {α : Type} (b : Nat) (x : α), b <= 100 -> mkL b (g.Nodes.length : Int) (g.Nodes.length : Int) x = some (List.replicate g.Nodes.length x) := fun b x hb => by
  unfold mkL
  rw [if_pos ⟨by omega, by omega, by
   have : (g.Nodes.length : Int) * (b : Int) <= 4096 * 100 := Int.mul_le_mul zO zO zO zO
   omega, by omega⟩, Int.toNat_natCast]
 have hm0 : mkL 8 (0 : Int) (g.Nodes.length : Int) (0 : Int) = some [] := by
  unfold mkL; rw [if_pos zO]; rfl
 cases o with
 | ret _ => exact w2.elim
 | fin q =>
   obtain ⟨h1, h2⟩ := Inv.end hg (w2 : Inv g q.1 q.2.1 [] q.2.2.2)
   have w2' : Inv g q.1 q.2.1 [] q.2.2.2 := w2
   refine ⟨q.1, q.2.1, ?_, w2'.aI, w2'.aO, h1, h2⟩
   unfold a1P
   rw [hm 8 () zO, hm 24 [] zO, hm 1 false zO, hm0]
   simp only [Option.bind_some, e1, oc]
   rw [a2y ⟨l1, l2, hb.len⟩, b4u _ zO]
   simp only [Option.bind_some, oc, w1]
   rw [a2y ⟨w2'.aI.1, w2'.aO.1⟩]
theorem b1G {K N : Nat} {l : List b9} (h : b2B K N l) (hK : K <= 1048576) (hN : N <= 5000) {fuel : Nat} (hf : 64 < fuel) : a0P fuel (l.map some) = some ((List.range N).map fun i => setL K (mm l i)) := by
 unfold a0P
 have := a2B (xs := l.map some) (s0 := ([] : List (List Int))) (body := (fun (i_2 : Nat) (s_3 : (Option b9)) (s_1 : (List (List Int))) => ((s_3.bind fun p_5 => ((a0M fuel p_5).bind fun vli_6 => ((a8F 24 s_1 [vli_6]).bind fun l_7 => (some (.nxt l_7))))) : Option (Stp (List (List Int)) (Option (List (List Int))))))) (fun _ => true) none
  (fun k r => r = (List.range k).map fun i => setL K (mm l i)) (by rw [List.length_map, h.1]; omega) rfl (fun k x r hx hr => by
  simp only [if_true]
  rw [List.getElem?_map] at hx
  have hk : k < l.length := by
   rcases Nat.lt_or_ge k l.length with a | a
   ·exact a
   ·rw [List.getElem?_eq_none a] at hx; cases hx
  rw [List.getElem?_eq_getElem hk] at hx
  cases hx
  have ea : at_ l k = l[k] := by unfold at_; rw [List.getD_eq_getElem?_getD, List.getElem?_eq_getElem hk]; rfl
  have hok := h.2 k (by rw [<- h.1]; exact hk)
  rw [ea] at hok
  refine ⟨r ++ [setL K (mem l[k])], ?_, ?_⟩
  ·simp only [Option.bind_some, (b4r hok hK hf).2]
   rw [a4U (by rw [hr]; simp; have := h.1; omega)]; rfl
  ·rw [List.range_succ, List.map_append, <- hr]
   have : mm l k = mem l[k] := by funext p; unfold mm; rw [ea]
   simp [this])
 rw [if_pos zS] at this
 obtain ⟨r, e1, e2⟩ := this
 rw [e1]
 simp only [Option.bind_some, oc, e2, List.length_map, h.1]
theorem a7N {K : Nat} {A B : Nat -> Bool} (h : ∀ p, p < K -> A p = B p) : setL K A = setL K B := by
 unfold setL; congr 1; exact List.filter_congr (fun p hp => h p (by simpa using hp))
open Classical in
noncomputable def lvB (g : b5) (i p : Nat) : Bool := decide (Lv g i p)
open Classical in
noncomputable def bhB (g : b5) (i p : Nat) : Bool := decide (Bh g i p)
noncomputable def inL (g : b5) : List (List Int) := (List.range g.Nodes.length).map fun i => setL g.Kinds.length (lvB g i)
noncomputable def c8U (g : b5) : List (List Int) := (List.range g.Nodes.length).map fun i => setL g.Kinds.length (bhB g i)
theorem b4v {b : Bool} {P : Prop} [Decidable P] (h : b = true ↔ P) : b = decide P := by
 cases b
 ·simp at h; simp [h]
 ·simp at h; simp [h]
theorem b0B (hg : a7o g) {fuel : Nat} (hf : 100000000000 <= fuel) : ∃ ins outs, a1F fuel g = some (ins, outs) /\ a0P fuel ins = some (inL g) /\ a0P fuel outs = some (c8U g) := by
 obtain ⟨ins, outs, e, a1, a2, h1, h2⟩ := b5R hg hf
 have hK := hg.kn
 have hN := hg.nn
 refine ⟨ins.map some, outs.map some, by unfold a1F; rw [e]; rfl, ?_, ?_⟩
 ·rw [b1G a1 zO zO zO]
  unfold inL
  congr 1
  refine List.map_congr_left (fun i hi => a7N (fun p hp => ?_))
  exact @b4v _ _ (Classical.propDecidable _) (h1 i p (by simpa using hi))
 ·rw [b1G a2 zO zO zO]
  unfold c8U
  congr 1
  refine List.map_congr_left (fun i hi => a7N (fun p hp => ?_))
  exact @b4v _ _ (Classical.propDecidable _) (h2 i p (by simpa using hi))
end
theorem c5Y {G : g7} {f : Int} {g : b5} (hc : a1f G f = some 0) (hf : m0 G.Funcs f = some g) (hg : a7o g) {fuel : Nat} (hfu : 100000000000 <= fuel) : a3g fuel G f = some (inL g, 0) := by
 obtain ⟨ins, outs, e1, e2, e3⟩ := b0B hg hfu
 unfold a3g
 simp [hc, hf, e1, e2]
end Go.Proofs.YtipeiholgieclaaDoor

/- What ir.Check says. -/
namespace Go.Proofs.YtipeiholgieclaaDoor
open Go Go.Ab
def a1Y (g : b5) (k p : Int) : Bool := decide (0 <= p /\ p < g.Kinds.length) && (m0 g.Kinds p == some k)
def isB (g : b5) (k : Int) (ps : List Int) : Bool := ps.all (a1Y g k)
theorem b4w (all : List b5) (g : b5) (k : Int) (ps : List Int) (hl : ps.length <= 4611686018427387904) : f4 all g false k ps = some (isB g k ps, all, g, false) := by
 unfold f4
 have := a2B (xs := ps) (s0 := (k, ps)) (body := (fun (i_2 : Nat) (p_3 : Int) (s_1 : (Int × (List Int))) => (((m0 s_1.2 (i_2 : Int)).bind fun y_5 => (jp (fun (s_7 : Bool) => (if s_7 then (some (.ret (some (false, all, g, false)))) else (some (.nxt (s_1.1, s_1.2))))) (fun k_6 => (if (decide (y_5 < 0)) then (k_6 true) else (if (decide (y_5 >= (List.length g.Kinds : Int))) then (k_6 true) else (if (!false) then ((m0 g.Kinds y_5).bind fun y_8 => (k_6 (y_8 != s_1.1))) else (k_6 false))))))) : Option (Stp (Int × (List Int)) (Option (Bool × (List b5) × b5 × Bool)))))) (a1Y g k) (some (false, all, g, false)) (fun _ s => s = (k, ps)) hl rfl (fun i p s hx hs => by
  subst hs
  simp only [a0d, hx, Option.bind_some, jp, decide_eq_true_eq]
  by_cases h1 : p < 0
  ·have : a1Y g k p = false := by unfold a1Y; simp; omega
   simp [this, h1]
  by_cases h2 : p >= (List.length g.Kinds : Int)
  ·have : a1Y g k p = false := by unfold a1Y; simp; omega
   simp [this, h1, h2]
  obtain ⟨q, rfl⟩ : ∃ i : Nat, p = (i : Int) := ⟨p.toNat, by omega⟩
  have hq : q < g.Kinds.length := by omega
  have e : a1Y g k (q : Int) = (g.Kinds[q] == k) := by
   unfold a1Y
   rw [a0d, List.getElem?_eq_getElem hq]
   simp [hq]
  rw [e, if_neg h1, if_neg h2, a0d, List.getElem?_eq_getElem hq]
  simp only [Bool.not_false, if_true, Option.bind_some]
  by_cases h3 : g.Kinds[q] = k <;> simp [h3])
 unfold isB
 cases ha : ps.all (a1Y g k) with
 | true =>
   rw [ha, if_pos rfl] at this
   obtain ⟨s, e1, e2⟩ := this
   rw [e1]; simp [oc]
 | false =>
   rw [ha] at this
   simp only [Bool.false_eq_true, if_false] at this
   rw [this]; simp [oc]
def a1n (g : b5) (n : Int) : Bool := decide (0 <= n /\ n < g.Cells)
theorem b0C (all : List b5) (g : b5) (n : Int) : p8 all g false n = some (a1n g n, all, g, false) := by
 unfold p8 a1n
 simp only [jp, decide_eq_true_eq]
 by_cases h : n >= 0
 ·have h' : 0 <= n := h
  simp [h']
 ·have h' : ¬ 0 <= n := h
  simp [h']
theorem a9E (l : List Int) (v : Int) (hl : l.length <= 4611686018427387904) : a0N l v = some (decide (v ∈ l)) := by
 have : a0N l v = w4 l v := rfl
 rw [this, a6X l v hl]
theorem b5S (l : List Int) (hl : l.length <= 4611686018427387904) : u5 l = some (l.any fun k => decide (k > 1)) := by
 unfold u5 a0x
 obtain ⟨o, e1, e2⟩ := b6I (n := (l.length : Int)) (s0 := ()) (body := (fun (i_2 : Nat) (s_1 : Unit) => (((m0 l (i_2 : Int)).bind fun y_3 => ((a0u y_3).bind fun v1_4 => (if v1_4 then (some (.ret (some (i_2 : Int)))) else (some (.nxt ()))))) : Option (Stp Unit (Option Int)))))
  (fun k s => (l.take k).any (fun k => decide (k > 1)) = false) (fun o => match o with | .fin s => l.any (fun k => decide (k > 1)) = false | .ret (some x) => l.any (fun k => decide (k > 1)) = true /\ 0 <= x | .ret none => False) zO zS (fun i s hi hs => by
   have hi2 : i < l.length := by omega
   simp only [a0d, List.getElem?_eq_getElem hi2, Option.bind_some, a0u]
   by_cases e : l[i] > 1
   ·right
    refine ⟨some (i : Int), by simp [e], ?_, by omega⟩
    rw [List.any_eq_true]; exact ⟨l[i], List.getElem_mem _, by simpa using e⟩
   ·left
    refine ⟨(), by simp [e], ?_⟩
    rw [a1Q (List.getElem?_eq_getElem hi2), List.any_append, hs]
    simp [e]) (fun s hs => by simpa using hs)
 rw [e1]
 cases o with
 | fin s => simp only [Option.bind_some, oc]; have e2' : l.any (fun k => decide (k > 1)) = false := e2; rw [e2']; rfl
 | ret x =>
   cases x with
   | none => exact e2.elim
   | some x => obtain ⟨a, b⟩ := e2; simp only [Option.bind_some, oc]; rw [a]; simp [b]
def w5 {α : Type} (ok : Nat -> α -> Bool) : Nat -> List α -> Bool
 | _, [] => true
 | i, x :: r => ok i x && w5 ok (i + 1) r
theorem a6c {α σ ρ : Type} {body : Nat -> α -> σ -> Option (Stp σ ρ)} (st : σ) (ok : Nat -> α -> Bool) (v : ρ) : ∀ (xs : List α) (k : Nat), (∀ i x, xs[i]? = some x -> body (k + i) x st = some (if ok (k + i) x = true then .nxt st else .ret v)) ->
  a3c body xs k st = some (if w5 ok k xs = true then .fin st else .ret v)
 | [], k, h => by simp [a3c, w5]
 | x :: r, k, h => by
   have h0 := h 0 x rfl
   simp only [Nat.add_zero] at h0
   by_cases ho : ok k x = true
   ·rw [if_pos ho] at h0
    simp only [a3c, w5, h0, ho, Bool.true_and]
    exact a6c st ok v r (k + 1) (fun i y hy => by
     have := h (i + 1) y (by simpa using hy)
     rwa [show k + (i + 1) = k + 1 + i by omega] at this)
   ·rw [if_neg ho] at h0
    simp only [a3c, w5, h0]
    simp [ho]
theorem a0D {α σ β : Type} {body : Nat -> α -> σ -> Option (Stp σ (Option β))} {xs : List α} {f : σ -> Option β} (st : σ) (ok : Nat -> α -> Bool) (v : β) (hl : xs.length <= 4611686018427387904)
  (h : ∀ i x, xs[i]? = some x -> body i x st = some (if ok i x = true then .nxt st else .ret (some v))) : (rng body xs st).bind (oc f) = if w5 ok 0 xs = true then f st else some v := by
 unfold rng
 rw [if_pos hl, a6c st ok (some v) xs 0 (fun i x hx => by simpa using h i x hx)]
 simp only [Option.bind_some]
 split <;> rfl
theorem a5r {α : Type} {ok : Nat -> α -> Bool} : ∀ {xs : List α} {k : Nat}, w5 ok k xs = true ↔ ∀ i x, xs[i]? = some x -> ok (k + i) x = true
 | [], k => by simp [w5]
 | x :: r, k => by
   simp only [w5, Bool.and_eq_true, a5r (xs := r)]
   constructor
   ·rintro ⟨a, b⟩ i y hy
    cases i with
    | zero => simp at hy; subst hy; exact a
    | succ i =>
      have := b i y (by simpa using hy)
      rwa [show k + 1 + i = k + (i + 1) by omega] at this
   ·intro h
    refine ⟨by simpa using h 0 x rfl, fun i y hy => ?_⟩
    have := h (i + 1) y (by simpa using hy)
    rwa [show k + (i + 1) = k + 1 + i by omega] at this
theorem a9F {α σ β : Type} {body : Nat -> σ -> Option (Stp σ (Option β))} {xs : List α} {f : σ -> Option β} (st : σ) (ok : Nat -> α -> Bool) (v : β) (hl : xs.length <= 4611686018427387904)
  (h : ∀ i x, xs[i]? = some x -> body i st = some (if ok i x = true then .nxt st else .ret (some v))) : (rni body (xs.length : Int) st).bind (oc f) = if w5 ok 0 xs = true then f st else some v := by
 have e : rni body (xs.length : Int) st = rni (fun i s => xs[i]?.bind fun _ => body i s) xs.length st := by
  unfold rni
  rw [if_pos zO, if_pos zO, Int.toNat_natCast]
  have : ∀ (m k : Nat) (s : σ), k + m = xs.length -> a2o body m k s = a2o (fun i s => xs[i]?.bind fun _ => body i s) m k s := by
   intro m
   induction m with
   | zero => intro k s _; rfl
   | succ m ih =>
     intro k s hk
     simp only [a2o]
     have : (xs[k]?.bind fun _ => body k s) = body k s := by
      rw [List.getElem?_eq_getElem zO]; simp
     simp only [this]
     cases body k s with
     | none => rfl
     | some c =>
       cases c with
       | nxt s' => exact ih (k + 1) s' zO
       | brk s' => rfl
       | ret v => rfl
  exact this xs.length 0 st zO
 have e2 : rng (fun i (_ : α) s => body i s) xs st = rni (fun i s => xs[i]?.bind fun x => body i s) xs.length st := b3y _ _ _
 rw [e, <- e2]
 exact a0D st ok v hl (fun i x hx => h i x hx)
def b2G (g f : b5) (i : Nat) (p : Int) : Bool := match f.Params[i]? with
 | none => false
 | some q => match m0 f.Kinds q with
   | some k => a1Y g k p
   | none => false
def a9G (all : List b5) (g : b5) (n : f6) : Bool := match m0 all n.F with
 | none => false
 | some f => decide (n.Args.length = f.Params.length) && w5 (b2G g f) 0 n.Args
def b0D (g : b5) : Prop := ∀ x ∈ g.Params, 0 <= x /\ x < g.Kinds.length
theorem b8e (all : List b5) (g : b5) (n : f6) (hp : ∀ f ∈ all, b0D f /\ f.Params.length <= 4) : v9 all g false n = some (a9G all g n, all, g, false) := by
 unfold v9 a9G
 simp only [jp]
 by_cases h1 : n.F < 0
 ·have : m0 all n.F = none := by unfold m0; rw [if_neg zO]
  simp [h1, this]
 simp only [h1, decide_false, Bool.false_eq_true, if_false]
 obtain ⟨F, hF⟩ : ∃ i : Nat, n.F = (i : Int) := ⟨n.F.toNat, by omega⟩
 rw [hF, a0d]
 by_cases h2 : F < all.length
 ·rw [List.getElem?_eq_getElem h2]
  have h2' : ¬ ((F : Int) >= (all.length : Int)) := by omega
  simp only [h2', decide_false, Bool.false_eq_true, if_false, Option.bind_some]
  obtain ⟨hpF, hp4⟩ := hp _ (List.getElem_mem h2)
  generalize all[F] = f at hpF hp4
  by_cases h3 : n.Args.length = f.Params.length
  ·have h3' : ((n.Args.length : Int) != (f.Params.length : Int)) = false := by simp [h3]
   rw [h3']
   simp only [Bool.false_eq_true, if_false]
   refine (a0D (all, g, false) (b2G g f) (false, all, g, false) zO (fun i p hx => ?_)).trans ?_
   ·have hi : i < n.Args.length := (List.getElem?_eq_some_iff.1 hx).1
    have hip : i < f.Params.length := by omega
    have hr := hpF _ (List.getElem_mem hip)
    obtain ⟨q, hq⟩ : ∃ q : Nat, f.Params[i] = (q : Int) := ⟨f.Params[i].toNat, by omega⟩
    have hqk : q < f.Kinds.length := by omega
    simp only [Bool.not_false, if_true, a0d, List.getElem?_eq_getElem hip, Option.bind_some, hq, List.getElem?_eq_getElem hqk, b2G]
    rw [b4w _ _ _ _ zS]
    simp only [Option.bind_some, isB, List.all_cons, List.all_nil, Bool.and_true]
    cases a1Y g f.Kinds[q] p <;> simp
   ·simp only [h3, decide_true, Bool.true_and]
    cases w5 (b2G g f) 0 n.Args <;> simp
  ·have h3' : ((n.Args.length : Int) != (f.Params.length : Int)) = true := by simp; omega
   rw [h3']
   simp [h3]
 ·have h2' : ((F : Int) >= (all.length : Int)) := by omega
  rw [List.getElem?_eq_none zO]
  simp [h2']
def b5T (g : b5) (i : Nat) (p : Int) : Bool := decide (0 <= p /\ p < g.Kinds.length) && (!decide (p ∈ g.Params.take i) && (match g.Init[i]? with | none => false | some k => decide (k = -1) || (a1n g k && a1Y g 0 p)))
def c5o (g : b5) : Bool := decide (1 <= g.Nodes.length /\ g.Nodes.length <= 4096 /\ 0 <= g.Entry /\ g.Entry < g.Nodes.length)
def a3h (g : b5) : Bool := decide (g.Kinds.length <= 1024) && (!(g.Kinds.any fun k => decide (k > 1)) && (decide (g.Params.length <= 4) && (decide (g.Init.length = g.Params.length) && (decide (0 <= g.Cells /\ g.Cells <= 64) && ((decide (g.Keep = -1) || a1n g g.Keep) && (w5 (b5T g) 0 g.Params && c5o g))))))
theorem b8f (all : List b5) (g : b5) : x7 all g false = some (a3h g, all, g, false) := by
 unfold x7 a3h
 simp only [jp]
 by_cases h1 : g.Kinds.length <= 1024
 case neg =>
  have h1' : (g.Kinds.length : Int) > 1024 := by omega
  simp [h1, h1']
 have h1' : ¬ ((g.Kinds.length : Int) > 1024) := by omega
 simp only [h1', decide_false, Bool.false_eq_true, if_false, b5S g.Kinds zO, Option.bind_some, h1, decide_true, Bool.true_and]
 cases h2 : g.Kinds.any fun k => decide (k > 1) with
 | true => simp
 | false =>
 simp only [Bool.false_eq_true, if_false, Bool.not_false, Bool.true_and]
 by_cases h3 : g.Params.length <= 4
 case neg =>
  have h3' : (g.Params.length : Int) > 4 := by omega
  simp [h3, h3']
 have h3' : ¬ ((g.Params.length : Int) > 4) := by omega
 simp only [h3', decide_false, Bool.false_eq_true, if_false, h3, decide_true, Bool.true_and]
 by_cases h4 : g.Init.length = g.Params.length
 case neg =>
  have h4' : ((g.Init.length : Int) != (g.Params.length : Int)) = true := by simp; omega
  simp [h4, h4']
 have h4' : ((g.Init.length : Int) != (g.Params.length : Int)) = false := by simp; omega
 simp only [h4', Bool.false_eq_true, if_false]
 simp only [h4, decide_true, Bool.true_and]
 by_cases h5 : 0 <= g.Cells
 case neg =>
  have h5' : g.Cells < 0 := by omega
  simp [h5, h5']
 have h5' : ¬ (g.Cells < 0) := by omega
 by_cases h6 : g.Cells <= 64
 case neg =>
  have h6' : g.Cells > 64 := by omega
  simp [h5', h6, h6']
 have h6' : ¬ (g.Cells > 64) := by omega
 simp only [h5', h6', decide_false, Bool.false_eq_true, if_false, h5, h6, and_self, decide_true, Bool.true_and]
 have hkeep : ∀ (F X : Option (Bool × List b5 × b5 × Bool)), (if (g.Keep != -1) = true then (if (!a1n g g.Keep) = true then F else X) else X) = if (!(decide (g.Keep = -1) || a1n g g.Keep)) = true then F else X := fun F X => by
  by_cases h7 : g.Keep = -1
  ·simp [h7]
  ·simp [h7]
 simp only [b0C, Option.bind_some]
 rw [hkeep]
 cases h7 : decide (g.Keep = -1) || a1n g g.Keep with
 | false => simp
 | true =>
 simp only [Bool.not_true, Bool.false_eq_true, if_false, Bool.true_and]
 refine (a0D (all, g, false) (b5T g) (false, all, g, false) zO (fun i p hx => ?_)).trans ?_
 ·have hi : i < g.Params.length := (List.getElem?_eq_some_iff.1 hx).1
  have hi2 : i < g.Init.length := by omega
  have hsub : b2r g.Params 0 (i : Int) = some (g.Params.take i) := by
   unfold b2r; rw [if_pos zO]; simp
  simp only [b5T, List.getElem?_eq_getElem hi2, hsub, Option.bind_some, a0d]
  by_cases q1 : 0 <= p
  case neg =>
   have q1' : p < 0 := by omega
   simp [q1, q1']
  have q1' : ¬ (p < 0) := by omega
  by_cases q2 : p < (g.Kinds.length : Int)
  case neg =>
   have q2' : p >= (g.Kinds.length : Int) := by omega
   simp [q1', q2, q2']
  have q2' : ¬ (p >= (g.Kinds.length : Int)) := by omega
  simp only [q1', q2', decide_false, Bool.false_eq_true, if_false, q1, q2, and_self, decide_true, Bool.true_and]
  rw [a9E _ _ zE]
  by_cases q3 : p ∈ g.Params.take i
  ·simp [q3]
  simp only [q3, decide_false, Option.bind_some, Bool.false_eq_true, if_false, Bool.not_false, Bool.true_and]
  by_cases q4 : g.Init[i] = -1
  ·simp [q4]
  have q4' : (g.Init[i] != -1) = true := by simpa using q4
  simp only [q4', if_true, b0C, Option.bind_some, q4, decide_false, Bool.false_or]
  cases q5 : a1n g g.Init[i] with
  | false => simp
  | true =>
    simp only [Bool.not_true, Bool.false_eq_true, if_false, b4w all g 0 [p] zS, Option.bind_some, isB, List.all_cons, List.all_nil, Bool.and_true, Bool.true_and]
    cases a1Y g 0 p <;> simp
 ·cases w5 (b5T g) 0 g.Params with
  | false => simp
  | true =>
    simp only [if_true, Bool.true_and, c5o]
    by_cases r1 : 1 <= g.Nodes.length
    case neg =>
     have r1' : ¬ ((g.Nodes.length : Int) > 0) := by omega
     simp only [r1, r1', decide_false, Bool.false_eq_true, if_false, false_and]
    have r1' : (g.Nodes.length : Int) > 0 := by omega
    by_cases r2 : g.Nodes.length <= 4096
    case neg =>
     have r2' : ¬ ((g.Nodes.length : Int) <= 4096) := by omega
     simp only [r1', r2, r2', decide_true, decide_false, Bool.false_eq_true, if_true, if_false, false_and, and_false]
    have r2' : (g.Nodes.length : Int) <= 4096 := by omega
    by_cases r3 : 0 <= g.Entry
    case neg =>
     have r3' : ¬ (g.Entry >= 0) := by omega
     simp only [r1', r2', r3, r3', decide_true, decide_false, Bool.false_eq_true, if_true, if_false, false_and, and_false]
    have r3' : g.Entry >= 0 := r3
    simp only [r1, r1', r2, r2', r3, r3', decide_true, if_true, true_and]
def opB (all : List b5) (g : b5) (n : f6) : Bool :=
 if n.Op = 1 \/ n.Op = 16 then isB g 0 [n.D] else if n.Op = 2 then isB g 0 [n.D, n.A] || isB g 1 [n.D, n.A] else if n.Op = 3 then decide (7 <= n.By /\ n.By <= 20) && isB g 0 [n.D, n.A, n.B]
 else if n.Op = 4 then a1n g n.Cell && isB g 0 [n.D] else if n.Op = 5 then a1n g n.Cell && isB g 0 [n.A] else if n.Op = 6 then a1n g n.Cell && isB g 1 [n.D] else if n.Op = 7 then isB g 0 [n.D] && isB g 1 [n.A]
 else if n.Op = 8 then isB g 1 [n.A] && isB g 0 [n.B] else if n.Op = 10 then true else if n.Op = 9 \/ n.Op = 14 \/ n.Op = 18 \/ n.Op = 17 then isB g 0 [n.A] else if n.Op = 15 then decide (n.D ≠ n.E) && isB g 0 [n.D, n.E]
 else if n.Op = 13 then a9G all g n else if n.Op = 11 then a9G all g n && (decide (n.D = -1) || (isB g 0 [n.D] && (match m0 all n.F with | some f => f.Result | none => false)))
 else if n.Op = 12 then (decide (n.A = -1) && !g.Result) || (decide (n.A ≠ -1) && (g.Result && isB g 0 [n.A])) else false
def a2h (all : List b5) (g : b5) (n : f6) : Bool := ((a0O n).all fun to => decide (0 <= to /\ to < g.Nodes.length)) && opB all g n
theorem a3i {α : Type} {ok : α -> Bool} : ∀ (xs : List α) (k : Nat), w5 (fun _ x => ok x) k xs = xs.all ok
 | [], _ => rfl
 | x :: r, k => by simp only [w5, List.all_cons, a3i r]
theorem b8g (all : List b5) (g : b5) (n : f6) (hp : ∀ f ∈ all, b0D f /\ f.Params.length <= 4) : x9 all g false n = some (a2h all g n, all, g, false) := by
 unfold x9 a2h
 rw [b0A]
 simp only [Option.bind_some]
 refine (a0D (xs := a0O n) () (fun _ to => decide (0 <= to /\ to < g.Nodes.length)) (false, all, g, false) (by have := a5q n; omega) (fun i to hx => ?_)).trans ?_
 ·simp only [jp]
  by_cases q1 : 0 <= to
  case neg =>
   have q1' : to < 0 := by omega
   simp [q1, q1']
  have q1' : ¬ (to < 0) := by omega
  by_cases q2 : to < (g.Nodes.length : Int)
  case neg =>
   have q2' : to >= (g.Nodes.length : Int) := by omega
   simp [q1', q2, q2']
  have q2' : ¬ (to >= (g.Nodes.length : Int)) := by omega
  simp [q1, q1', q2, q2']
 rw [a3i]
 cases (a0O n).all fun to => decide (0 <= to /\ to < g.Nodes.length) with
 | false => simp
 | true =>
 simp only [if_true, Bool.true_and]
 have i1 : ∀ k a, f4 all g false k [a] = some (isB g k [a], all, g, false) := fun k a => b4w _ _ _ _ zS
 have i2 : ∀ k a b, f4 all g false k [a, b] = some (isB g k [a, b], all, g, false) := fun k a b => b4w _ _ _ _ zS
 have i3 : ∀ k a b c, f4 all g false k [a, b, c] = some (isB g k [a, b, c], all, g, false) := fun k a b c => b4w _ _ _ _ zS
 have ia := b8e all g n hp
 simp only [jp, opB, i1, i2, i3, ia, b0C, Option.bind_some, beq_iff_eq]
 by_cases h1 : n.Op = 1
 ·simp [h1]
 by_cases h16 : n.Op = 16
 ·simp [h16]
 by_cases h2 : n.Op = 2
 ·simp only [h2]; cases isB g 0 [n.D, n.A] <;> simp
 by_cases h3 : n.Op = 3
 ·simp only [h3]
  by_cases q1 : n.By >= 7
  ·by_cases q2 : n.By <= 20
   ·have : 7 <= n.By := q1
    simp [q1, q2, this]
   ·simp [q1, q2]
  ·have : ¬ 7 <= n.By := q1
   simp [q1, this]
 by_cases h4 : n.Op = 4
 ·simp only [h4]; cases a1n g n.Cell <;> simp
 by_cases h5 : n.Op = 5
 ·simp only [h5]; cases a1n g n.Cell <;> simp
 by_cases h6 : n.Op = 6
 ·simp only [h6]; cases a1n g n.Cell <;> simp
 by_cases h7 : n.Op = 7
 ·simp only [h7]; cases isB g 0 [n.D] <;> simp
 by_cases h8 : n.Op = 8
 ·simp only [h8]; cases isB g 1 [n.A] <;> simp
 by_cases h10 : n.Op = 10
 ·simp [h10]
 by_cases h9 : n.Op = 9
 ·simp [h9]
 by_cases h14 : n.Op = 14
 ·simp [h14]
 by_cases h18 : n.Op = 18
 ·simp [h18]
 by_cases h17 : n.Op = 17
 ·simp [h17]
 by_cases h15 : n.Op = 15
 ·simp only [h15]
  by_cases q : n.D = n.E <;> simp [q]
 by_cases h13 : n.Op = 13
 ·simp [h13]
 by_cases h11 : n.Op = 11
 ·simp only [h11]
  cases ha : a9G all g n with
  | false => simp
  | true =>
    by_cases q : n.D = -1
    ·simp [q]
    ·cases hi : isB g 0 [n.D] with
     | false => simp [q]
     | true =>
       obtain ⟨f, hf⟩ : ∃ f, m0 all n.F = some f := by
        unfold a9G at ha
        cases e : m0 all n.F with
        | none => rw [e] at ha; cases ha
        | some f => exact ⟨f, rfl⟩
       cases hr : f.Result <;> simp [q, hf, hr]
 by_cases h12 : n.Op = 12
 ·simp only [h12]
  by_cases q : n.A = -1 <;> cases hr : g.Result <;> simp [q]
 simp [h1, h2, h3, h4, h5, h6, h7, h8, h9, h10, h11, h12, h13, h14, h15, h16, h17, h18]
def b2C (G : g7) : Bool := match G.Funcs[0]? with
 | some f => decide (f.Params.length = 0) && !f.Result
 | none => false
def a4k (G : g7) : Bool := decide (1 <= G.Funcs.length /\ G.Funcs.length <= 16) && (b2C G && (G.Funcs.all a3h && G.Funcs.all fun f => f.Nodes.all (a2h G.Funcs f)))
theorem a0R {g : b5} (h : a3h g = true) : g.Kinds.length <= 1024 /\ g.Params.length <= 4 /\ b0D g /\ 1 <= g.Nodes.length /\ g.Nodes.length <= 4096 /\ 0 <= g.Entry /\ g.Entry < g.Nodes.length := by
 unfold a3h at h
 simp only [Bool.and_eq_true, decide_eq_true_eq] at h
 obtain ⟨h1, h2, h3, h4, h5, h6, h7, h8⟩ := h
 unfold c5o at h8
 simp only [decide_eq_true_eq] at h8
 refine ⟨h1, h3, fun x hx => ?_, h8⟩
 obtain ⟨i, hi⟩ := List.getElem?_of_mem hx
 have := a5r.1 h7 i x hi
 simp only [b5T, Bool.and_eq_true, decide_eq_true_eq] at this
 exact this.1
theorem a1Z {α : Type} {ok : α -> Bool} {xs : List α} : w5 (fun _ x => ok x) 0 xs = xs.all ok := a3i xs 0
theorem b5U (G : g7) : a3d G false = some (if a4k G = true then 0 else 70) := by
 unfold a3d a4k
 simp only [jp, beq_iff_eq]
 by_cases h1 : 1 <= G.Funcs.length
 case neg =>
  have h1' : (G.Funcs.length : Int) = 0 := by omega
  simp [h1, h1']
 have h1' : ¬ (G.Funcs.length : Int) = 0 := by omega
 rw [if_neg h1']
 by_cases h2 : G.Funcs.length <= 16
 case neg =>
  have h2' : (G.Funcs.length : Int) > 16 := by omega
  simp [h2, h2']
 have h2' : ¬ (G.Funcs.length : Int) > 16 := by omega
 obtain ⟨f0, hf0⟩ : ∃ f, G.Funcs[0]? = some f := ⟨_, List.getElem?_eq_getElem (show 0 < G.Funcs.length by omega)⟩
 have hg0 : m0 G.Funcs 0 = some f0 := by
  have := a0d (l := G.Funcs) (i := 0)
  rw [hf0] at this; exact this
 have hm : b2C G = (decide (f0.Params.length = 0) && !f0.Result) := by unfold b2C; rw [hf0]
 simp only [h2', decide_false, Bool.false_eq_true, if_false, hg0, Option.bind_some, h1, h2, and_self, decide_true, Bool.true_and, hm]
 by_cases h3 : f0.Params.length = 0
 case neg =>
  have h3' : (f0.Params.length : Int) > 0 := by omega
  simp [h3, h3']
 have h3' : ¬ (f0.Params.length : Int) > 0 := by omega
 simp only [h3', decide_false, Bool.false_eq_true, if_false, h3, decide_true, Bool.true_and]
 cases h4 : f0.Result with
 | true => simp
 | false =>
 simp only [Bool.false_eq_true, if_false, Bool.not_false, Bool.true_and]
 refine (a9F (xs := G.Funcs) () (fun _ f => a3h f) (70 : Int) zO (fun i f hx => ?_)).trans ?_
 ·simp only [a0d, hx, Option.bind_some, b8f]
  cases a3h f <;> simp
 rw [a1Z]
 cases h5 : G.Funcs.all a3h with
 | false => simp
 | true =>
 simp only [if_true, Bool.true_and]
 have hh : ∀ f ∈ G.Funcs, a3h f = true := List.all_eq_true.1 h5
 have hp : ∀ f ∈ G.Funcs, b0D f /\ f.Params.length <= 4 := fun f hf => ⟨(a0R (hh f hf)).2.2.1, (a0R (hh f hf)).2.1⟩
 refine (a9F (xs := G.Funcs) () (fun _ f => f.Nodes.all (a2h G.Funcs f)) (70 : Int) zO (fun i f hx => ?_)).trans ?_
 ·simp only [a0d, hx, Option.bind_some]
  have hn := a0R (hh f (List.mem_of_getElem? hx))
  refine (a0D (G.Funcs, f, false) (fun _ n => a2h G.Funcs f n) (Stp.ret (some (70 : Int))) zO (fun j n hy => ?_)).trans ?_
  ·simp only [b8g _ _ _ hp, Option.bind_some]
   cases a2h G.Funcs f n <;> simp
  ·rw [a1Z]
   cases f.Nodes.all (a2h G.Funcs f) <;> simp
 ·rw [a1Z]
  cases (G.Funcs.all fun f => f.Nodes.all (a2h G.Funcs f)) <;> simp
theorem a8w (G : g7) (f : Int) : a1f G f = some (if a4k G = true then (if 0 <= f /\ f < G.Funcs.length then 0 else 2) else 70) := by
 unfold a1f
 rw [b5U]
 cases a4k G with
 | false => simp
 | true =>
   simp only [if_true, Option.bind_some, jp, bne_self_eq_false, Bool.false_eq_true, if_false]
   by_cases h1 : 0 <= f
   case neg =>
    have h1' : f < 0 := by omega
    simp [h1, h1']
   have h1' : ¬ f < 0 := by omega
   by_cases h2 : f < (G.Funcs.length : Int)
   ·have h2' : ¬ f >= (G.Funcs.length : Int) := by omega
    simp [h1, h1', h2, h2']
   ·have h2' : f >= (G.Funcs.length : Int) := by omega
    simp [h1, h1', h2, h2']
theorem b0E {G : g7} (h : a4k G = true) : ∀ f ∈ G.Funcs, a7o f /\ a3h f = true /\ ∀ n ∈ f.Nodes, a2h G.Funcs f n = true := by
 intro f hf
 unfold a4k at h
 simp only [Bool.and_eq_true, decide_eq_true_eq] at h
 obtain ⟨h1, h2, h3, h4⟩ := h
 have hh := List.all_eq_true.1 h3
 have hn := List.all_eq_true.1 (List.all_eq_true.1 h4 f hf)
 have hF := a0R (hh f hf)
 refine ⟨⟨hF.1, hF.2.2.2.1, hF.2.2.2.2.1, fun i x hx => ?_, fun i => ?_⟩, hh f hf, hn⟩
 ·unfold nxt at hx
  cases e : f.Nodes[i]? with
  | none => rw [e] at hx; cases hx
  | some n =>
    rw [e] at hx
    have := hn n (List.mem_of_getElem? e)
    unfold a2h at this
    simp only [Bool.and_eq_true, List.all_eq_true, decide_eq_true_eq] at this
    exact this.1 x hx
 ·unfold rdR
  cases e : f.Nodes[i]? with
  | none => simp
  | some n =>
    have hnb := hn n (List.mem_of_getElem? e)
    show (a6a n).length <= 1000000
    unfold a6a
    split
    ·simp
    ·split
     ·simp
     ·split
      ·rename_i h5 h6 h7
       unfold a2h at hnb
       simp only [Bool.and_eq_true] at hnb
       have ho := hnb.2
       have ha : a9G G.Funcs f n = true := by
        rcases h7 with e7 | e7
        ·unfold opB at ho
         simp [e7] at ho
         exact ho.1
        ·unfold opB at ho
         simpa [e7] using ho
       unfold a9G at ha
       cases eF : m0 G.Funcs n.F with
       | none => rw [eF] at ha; cases ha
       | some q =>
         rw [eF] at ha
         simp only [Bool.and_eq_true, decide_eq_true_eq] at ha
         have : q ∈ G.Funcs := by
          unfold m0 at eF; split at eF
          ·exact List.mem_of_getElem? eF
          ·cases eF
         have := a0R (hh q this)
         omega
      ·simp
end Go.Proofs.YtipeiholgieclaaDoor

