/- Plain laws of kinds: the document's stacks are the one solution, or something is bad. -/
import Derived.Test.YtiocagilhbomgaaKdC2
namespace Go.Proofs.Ytiocagilhbomgaa
open Go Go.Ab Go.RowKit
set_option maxRecDepth 20000
set_option maxHeartbeats 1000000
set_option linter.unusedVariables false
set_option linter.unusedSimpArgs false

abbrev OS := Option (List Int)
def qK : OS → ByteArray
  | some x => strK x
  | none => quest
def nn (A : List OS) : Nat := A.countP (·.isNone)
theorem nn_set {A : List OS} {m : Nat} {x : List Int} (h : A[m]? = some none) : nn (A.set m (some x)) + 1 = nn A := by
  unfold nn
  induction A generalizing m with
  | nil => simp at h
  | cons y r ih =>
    cases m with
    | zero => simp at h; subst h; simp
    | succ m =>
      have := ih (m := m) (by simpa using h)
      simp only [List.set_cons_succ, List.countP_cons]
      omega
theorem nn_le (A : List OS) : nn A ≤ A.length := List.countP_le_length
theorem qK_quest {o : OS} : qK o = quest ↔ o = none := by
  cases o with
  | none => exact ⟨fun _ => rfl, fun _ => rfl⟩
  | some x => exact ⟨fun h => (strK_quest x h).elim, fun h => by cases h⟩
theorem K01.locals {p : Program} {f : Func} (h : FOk p f) (hK : ∀ g ∈ p.Funcs, K01 g.Locals) (hf : K01 f.Locals) {i : Instr} {s s' : List Int} (ks : K01 s) (hs : stepK p f i s = some s') : K01 s' := by
  have kt : topK s = 0 ∨ topK s = 1 := by
    unfold topK
    cases e : s.getLast? with
    | none => exact .inl rfl
    | some k => exact ks k (List.mem_of_getLast? e)
  have ke : K01 (eff p f i (topK s)).2 := by
    have l1 : ∀ {k : Int}, (k = 0 ∨ k = 1) → K01 [k] := K01_one
    have lk : K01 (locK f i) := by
      unfold locK
      apply K01_one
      cases e : f.Locals[i.Arg.toNat]? with
      | none => exact .inl rfl
      | some k => exact hf k (List.mem_of_getElem? e)
    have ki : ∀ {c : Prop} [Decidable c], K01 (if c then [(0 : Int)] else []) := fun {c} _ => by
      split
      · exact K01_one (.inl rfl)
      · exact K01_nil
    unfold eff
    by_cases h0 : i.Op = 1 ∨ i.Op = 28
    · rw [if_pos h0]; exact K01_one (.inl rfl)
    rw [if_neg h0]
    by_cases h1 : i.Op = 2
    · rw [if_pos h1]; exact lk
    rw [if_neg h1]
    by_cases h2 : i.Op = 3
    · rw [if_pos h2]; exact K01_nil
    rw [if_neg h2]
    by_cases h3 : i.Op = 4
    · rw [if_pos h3]; exact K01_one (.inr rfl)
    rw [if_neg h3]
    by_cases h4 : i.Op = 5
    · rw [if_pos h4]; exact K01_one (.inl rfl)
    rw [if_neg h4]
    by_cases h5 : i.Op = 6
    · rw [if_pos h5]; exact K01_nil
    rw [if_neg h5]
    by_cases h6 : i.Op = 21
    · rw [if_pos h6]; exact K01_nil
    rw [if_neg h6]
    by_cases h7 : i.Op = 22 ∨ i.Op = 26 ∨ i.Op = 29 ∨ i.Op = 30
    · rw [if_pos h7]; exact K01_nil
    rw [if_neg h7]
    by_cases h8 : i.Op = 23 ∨ i.Op = 25
    · rw [if_pos h8]
      cases e : p.Funcs[i.Arg.toNat]? with
      | none => exact K01_nil
      | some g => exact ki
    rw [if_neg h8]
    by_cases h9 : i.Op = 24
    · rw [if_pos h9]; exact K01_nil
    rw [if_neg h9]
    by_cases h10 : i.Op = 27
    · rw [if_pos h10]; exact k01_lit _ rfl
    rw [if_neg h10]
    by_cases h11 : i.Op = 31
    · rw [if_pos h11]; exact K01_nil
    rw [if_neg h11]
    by_cases h12 : i.Op = 32
    · rw [if_pos h12]
      intro k hk
      simp only [List.mem_cons, List.not_mem_nil, or_false, or_self] at hk
      rw [hk]; exact kt
    rw [if_neg h12]
    exact K01_one (.inl rfl)
  unfold stepK at hs
  simp only at hs
  split at hs
  · cases hs
    intro k hk
    rcases List.mem_append.1 hk with hk | hk
    · exact ks k (List.mem_of_mem_take hk)
    · exact ke k hk
  · cases hs
theorem Der.k01 {p : Program} {f : Func} (h : FOk p f) (hK : ∀ g ∈ p.Funcs, K01 g.Locals) (hf : K01 f.Locals) {a : Nat} {x : List Int} (d : Der p f a x) : K01 x := by
  induction d with
  | start => exact K01_nil
  | go _ _ hs _ ih => exact K01.locals h hK hf ih hs
theorem fol_le {p : Program} {f : Func} (h : FOk p f) {a : Nat} {i : Instr} (hi : f.Code[a]? = some i) {b : Int} (hb : b ∈ folL i a) : 0 ≤ b ∧ b ≤ f.Code.length := by
  have h0 := h.fol hi b hb
  refine ⟨h0, ?_⟩
  have hlt := (List.getElem?_eq_some_iff.1 hi).1
  have hn := h.name hi
  have harg : i.Op = 21 ∨ i.Op = 22 → i.Arg < f.Code.length := fun e => by
    unfold nameP at hn
    rw [if_neg (by omega), if_neg (by omega), if_neg (by omega), if_pos e] at hn
    simpa using hn
  unfold folL at hb
  split at hb
  · rename_i e; simp at hb; have := harg (.inl e); omega
  · split at hb
    · rename_i e
      simp at hb
      have := harg (.inr e)
      omega
    · split at hb
      · simp at hb
      · simp at hb; omega

structure NInv (p : Program) (f : Func) (A0 : List OS) (x' : List Int) (fol : List Int) (mr : Bool) (b : Nat) (A : List OS) (mr' : Bool) : Prop where
  la : A.length = f.Code.length
  mono : ∀ (m : Nat) y, A0[m]? = some (some y) → A[m]? = some (some y)
  new : ∀ (m : Nat) y, A[m]? = some (some y) → A0[m]? = some (some y) ∨ (y = x' ∧ Der p f m x')
  ch : (A = A0 ∧ mr' = mr) ∨ (mr' = true ∧ nn A < nn A0)
  got : ∀ b' : Nat, b' < b → (b' : Int) ∈ fol → b' < f.Code.length ∧ A[b']? = some (some x')

theorem innerR {ρ : Type} (E : ρ) (p : Program) (f : Func) (h : FOk p f) (hK : ∀ g ∈ p.Funcs, K01 g.Locals) (hf : K01 f.Locals) {a : Nat} {i : Instr} (hi : f.Code[a]? = some i) {x x' : List Int} (hd : Der p f a x) (hs : stepK p f i x = some x')
    {A0 : List OS} (hla : A0.length = f.Code.length) (hder : ∀ (m : Nat) y, A0[m]? = some (some y) → Der p f m y) (mr : Bool) :
    ∃ o, whileN (fun (s_17 : (Bool × Int × (List ByteArray))) => ((if (decide (s_17.2.1 ≤ (List.length f.Code : Int))) then (jp (fun (s_19 : (Bool × (List ByteArray))) => (some (.nxt (s_19.1, (I64 (s_17.2.1 + 1)), s_19.2)))) (fun k_18 => ((getI f.Code (a : Int)).bind fun y_20 => ((windlassref05_Next_s y_20 (a : Int) s_17.2.1).bind fun nex_21 => (if (!nex_21) then (k_18 (s_17.1, s_17.2.2)) else (if (s_17.2.1 == (List.length f.Code : Int)) then (some (.ret E)) else ((getI s_17.2.2 s_17.2.1).bind fun y_22 => (jp (fun (s_24 : (Bool × (List ByteArray))) => ((getI s_24.2 s_17.2.1).bind fun y_27 => (if (!(ByteArray.toList y_27 == ByteArray.toList (strK x'))) then (some (.ret E)) else (k_18 (s_24.1, s_24.2))))) (fun k_23 => (if (ByteArray.toList y_22 == ByteArray.toList (ByteArray.mk #[63])) then ((getI s_17.2.2 s_17.2.1).bind fun y_25 => (k_23 (true, (List.set s_17.2.2 (Int.toNat s_17.2.1) (strK x'))))) else (k_23 (s_17.1, s_17.2.2)))))))))))) else (some (.brk (s_17.1, s_17.2.1, s_17.2.2)))) : Option (Stp (Bool × Int × (List ByteArray)) ρ))) 1048577 (mr, 0, A0.map qK) = some o ∧
      ((∃ A mr' b, o = .fin (mr', b, A.map qK) ∧ NInv p f A0 x' (folL i a) mr (f.Code.length + 1) A mr') ∨ (o = .ret E ∧ Bad p f)) := by
  obtain ⟨hn1, hn2⟩ := h.n
  have halt := (List.getElem?_eq_some_iff.1 hi).1
  have kx' := Der.k01 h hK hf hd
  have kx2 : K01 x' := K01.locals h hK hf kx' hs
  refine whileN_ex (fun s => ∃ (b : Nat) (A : List OS), b ≤ f.Code.length + 1 ∧ s.2.1 = ((b : Nat) : Int) ∧ s.2.2 = A.map qK ∧ NInv p f A0 x' (folL i a) mr b A s.1) (fun s => f.Code.length + 1 - s.2.1.toNat) _ ?_ 1048577 _ ?_ (by simp only; omega)
  · rintro ⟨m1, b1, at1⟩ ⟨b, A, hb, e1, e2, hA⟩
    simp only at e1 e2
    subst e1; subst e2
    simp only at hA
    by_cases hbe : b = f.Code.length + 1
    · right; left
      subst hbe
      refine ⟨_, by rw [if_neg (by simp; omega)], .inl ⟨A, m1, _, rfl, hA⟩⟩
    have hbl : b ≤ f.Code.length := by omega
    dsimp only
    rw [if_pos (by simp; omega)]
    simp only [jp]
    rw [getI_nat, hi]
    simp only [Option.bind_some]
    rw [Next_eq i a b (by omega)]
    simp only [Option.bind_some]
    have hI : I64 ((b : Int) + 1) = ((b + 1 : Nat) : Int) := by rw [I64_of (by omega)]; omega
    by_cases hm : (b : Int) ∈ folL i a
    · rw [decide_eq_true hm]
      simp only [Bool.not_true, Bool.false_eq_true, if_false]
      have hdb : Der p f b x' := .go hd hi hs hm
      by_cases hbn : b = f.Code.length
      · right; right
        have : ((b : Int) == (List.length f.Code : Int)) = true := by simp [hbn]
        rw [if_pos this]
        exact ⟨_, rfl, .inr ⟨rfl, .inl ⟨a, x, i, hd, hi, .inr ⟨b, hm, by omega⟩⟩⟩⟩
      have hblt : b < f.Code.length := by omega
      have n1 : ((b : Int) == (List.length f.Code : Int)) = false := by simp; omega
      simp only [n1, Bool.false_eq_true, if_false]
      have hAb : A[b]? = some (A[b]'(by rw [hA.la]; exact hblt)) := List.getElem?_eq_getElem _
      generalize A[b]'(by rw [hA.la]; exact hblt) = ob at hAb
      have hmb : (A.map qK)[b]? = some (qK ob) := by rw [List.getElem?_map, hAb]; rfl
      rw [getI_nat, hmb]
      simp only [Option.bind_some]
      rw [eqS]
      cases ob with
      | none =>
        left
        have e0 : decide (qK none = ByteArray.mk #[63]) = true := decide_eq_true rfl
        rw [if_pos e0]
        have hset : (A.map qK).set b (strK x') = (A.set b (some x')).map qK := by rw [List.map_set]; rfl
        simp only [Int.toNat_natCast]
        rw [hset]
        have hgs : ((A.set b (some x')).map qK)[b]? = some (strK x') := by
          rw [List.getElem?_map, List.getElem?_set_self (by rw [hA.la]; exact hblt)]; rfl
        rw [getI_nat, hgs]
        simp only [Option.bind_some]
        rw [eqS, decide_eq_true rfl]
        simp only [Bool.not_true, Bool.false_eq_true, if_false]
        refine ⟨_, rfl, ⟨b + 1, A.set b (some x'), by omega, hI, rfl, ?_⟩, by rw [hI]; simp only [Int.toNat_natCast]; omega⟩
        have hnn := nn_set (x := x') hAb
        have hA0b : A0[b]? = some none := by
          have e1 : A0[b]? = some (A0[b]'(by rw [hla]; exact hblt)) := List.getElem?_eq_getElem _
          cases e2 : A0[b]'(by rw [hla]; exact hblt) with
          | none => rw [e1, e2]
          | some y =>
            rw [e2] at e1
            have := hA.mono b y e1
            rw [hAb] at this; cases this
        refine ⟨by simp [hA.la], fun m y hy => ?_, fun m y hy => ?_, .inr ⟨rfl, ?_⟩, fun b' hb' hbf => ?_⟩
        · have hne : m ≠ b := by rintro rfl; rw [hA0b] at hy; cases hy
          rw [List.getElem?_set_ne (Ne.symm hne)]; exact hA.mono m y hy
        · by_cases e : m = b
          · subst e
            rw [List.getElem?_set_self (by rw [hA.la]; exact hblt)] at hy
            cases hy
            exact .inr ⟨rfl, hdb⟩
          · rw [List.getElem?_set_ne (Ne.symm e)] at hy
            exact hA.new m y hy
        · rcases hA.ch with ⟨e, _⟩ | ⟨_, e⟩
          · show nn (A.set b (some x')) < nn A0
            rw [← e]; omega
          · omega
        · by_cases e : b' = b
          · subst e
            exact ⟨hblt, by rw [List.getElem?_set_self (by rw [hA.la]; exact hblt)]⟩
          · obtain ⟨g1, g2⟩ := hA.got b' (by omega) hbf
            exact ⟨g1, by rw [List.getElem?_set_ne (Ne.symm e)]; exact g2⟩
      | some y =>
        have e0 : decide (qK (some y) = ByteArray.mk #[63]) = false := decide_eq_false (strK_quest y)
        rw [e0]
        simp only [Bool.false_eq_true, if_false, Option.bind_some]
        rw [eqS]
        have dy : Der p f b y := by
          rcases hA.new b y hAb with e | ⟨rfl, e⟩
          · exact hder b y e
          · exact e
        have ky : K01 y := Der.k01 h hK hf dy
        by_cases e : y = x'
        · left
          have : decide (qK (some y) = strK x') = true := decide_eq_true (by rw [e]; rfl)
          rw [this]
          simp only [Bool.not_true, Bool.false_eq_true, if_false]
          refine ⟨_, rfl, ⟨b + 1, A, by omega, hI, rfl, hA.la, hA.mono, hA.new, hA.ch, fun b' hb' hbf => ?_⟩, by rw [hI]; simp only [Int.toNat_natCast]; omega⟩
          by_cases e2 : b' = b
          · subst e2; exact ⟨hblt, by rw [hAb, e]⟩
          · exact hA.got b' (by omega) hbf
        · right; right
          have : decide (qK (some y) = strK x') = false := decide_eq_false (fun hh => e ((strK_inj ky kx2).1 hh))
          rw [this]
          exact ⟨_, rfl, .inr ⟨rfl, .inr ⟨b, y, x', dy, hdb, e⟩⟩⟩
    · left
      rw [decide_eq_false hm]
      simp only [Bool.not_false, if_true]
      refine ⟨_, rfl, ⟨b + 1, A, by omega, hI, rfl, hA.la, hA.mono, hA.new, hA.ch, fun b' hb' hbf => ?_⟩, by rw [hI]; simp only [Int.toNat_natCast]; omega⟩
      by_cases e2 : b' = b
      · subst e2; exact (hm hbf).elim
      · exact hA.got b' (by omega) hbf
  · exact ⟨0, A0, by omega, rfl, rfl, hla, fun m y hy => hy, fun m y hy => .inl hy, .inl ⟨rfl, rfl⟩, fun b' hb' => by omega⟩
end Go.Proofs.Ytiocagilhbomgaa
/- Plain laws of kinds: the document's rounds. -/
namespace Go.Proofs.Ytiocagilhbomgaa
open Go Go.Ab Go.RowKit
set_option maxRecDepth 20000
set_option maxHeartbeats 1000000
set_option linter.unusedVariables false
set_option linter.unusedSimpArgs false

def DoneA (p : Program) (f : Func) (dp : Bool) (A : List OS) (a : Nat) (x : List Int) : Prop :=
  ∃ i x', f.Code[a]? = some i ∧ stepK p f i x = some x' ∧ (16 < x'.length → dp = true) ∧ ∀ b ∈ folL i a, ∃ m : Nat, b = m ∧ m < f.Code.length ∧ A[m]? = some (some x')
structure RInv (p : Program) (f : Func) (dp : Bool) (A : List OS) : Prop where
  la : A.length = f.Code.length
  z : A[0]? = some (some [])
  der : ∀ (m : Nat) y, A[m]? = some (some y) → Der p f m y ∧ y.length + 2 * nn A ≤ 2 * f.Code.length
  dpD : dp = true → Deep p f
def qn (l : List ByteArray) : Nat := l.countP (fun b => decide (b = quest))
theorem qn_map (A : List OS) : qn (A.map qK) = nn A := by
  unfold qn nn
  rw [List.countP_map]
  congr 1
  funext o
  cases o with
  | none => rfl
  | some x => simp only [Function.comp, Option.isNone_some]; exact decide_eq_false (strK_quest x)
def RAns (p : Program) (f : Func) (o : List ByteArray × Bool × Bool) : Prop :=
  (Bad p f ∧ o = ([], false, false)) ∨ ∃ R, Sol p f R ∧ o.2.2 = true ∧ (o.2.1 = true ↔ Deep p f) ∧ o.1.length = f.Code.length ∧ ∀ a, a < f.Code.length → o.1[a]? = some (qK (R a))
theorem RInv.ans {p f dp A} (h : RInv p f dp A) (hd : ∀ a, a < f.Code.length → ∀ x, A[a]? = some (some x) → DoneA p f dp A a x) : RAns p f (A.map qK, dp, true) := by
  right
  let R : Nat → Option (List Int) := fun a => match A[a]? with | some o => o | none => none
  have hRs : ∀ a x, R a = some x ↔ A[a]? = some (some x) := fun a x => by
    simp only [R]
    cases e : A[a]? with
    | none => simp
    | some o => simp
  have hR : Sol p f R := by
    refine ⟨(hRs 0 []).2 h.z, fun a x hx => ?_⟩
    have hx' := (hRs a x).1 hx
    have halt : a < f.Code.length := by rw [← h.la]; exact (List.getElem?_eq_some_iff.1 hx').1
    obtain ⟨i, x', d1, d2, _, d4⟩ := hd a halt x hx'
    refine ⟨(h.der a x hx').1, i, x', d1, d2, fun b hb => ?_⟩
    obtain ⟨m, m1, m2, m3⟩ := d4 b hb
    exact ⟨m, m1, m2, (hRs m x').2 m3⟩
  refine ⟨R, hR, rfl, ⟨h.dpD, fun ⟨a, x, i, x', d, hi, hs, hl⟩ => ?_⟩, by simp [h.la], fun a ha => ?_⟩
  · have e := (hRs a x).1 (hR.all d)
    obtain ⟨i2, x2, d1, d2, d3, _⟩ := hd a (by rw [← h.la]; exact (List.getElem?_eq_some_iff.1 e).1) x e
    rw [hi] at d1; cases d1
    rw [hs] at d2; cases d2
    exact d3 hl
  · have e : A[a]? = some (A[a]'(by rw [h.la]; exact ha)) := List.getElem?_eq_getElem _
    show (A.map qK)[a]? = some (qK (R a))
    simp only [R]
    rw [List.getElem?_map, e]; rfl

def rbody (p : Program) (f : Func) : Nat → (Bool × Bool × (List ByteArray)) → Option (Stp (Bool × Bool × (List ByteArray)) (Option (Stp (Bool × Bool × (List ByteArray)) (Option ((List ByteArray) × Bool × Bool))))) :=
  fun (i_10 : Nat) (s_9 : (Bool × Bool × (List ByteArray))) => (((getI s_9.2.2 (i_10 : Int)).bind fun y_11 => (if (ByteArray.toList y_11 == ByteArray.toList (ByteArray.mk #[63])) then (some (.nxt (s_9.1, s_9.2.1, s_9.2.2))) else ((getI f.Code (i_10 : Int)).bind fun y_12 => ((getI s_9.2.2 (i_10 : Int)).bind fun y_13 => ((windlassref05_After_s p f y_12 y_13).bind fun aft_14 => (if (ByteArray.toList aft_14 == ByteArray.toList (ByteArray.mk #[33])) then (some (.ret (some (.ret (some ([], false, false)))))) else (jp (fun (s_16 : Bool) => ((whileN (fun (s_17 : (Bool × Int × (List ByteArray))) => ((if (decide (s_17.2.1 ≤ (List.length f.Code : Int))) then (jp (fun (s_19 : (Bool × (List ByteArray))) => (some (.nxt (s_19.1, (I64 (s_17.2.1 + 1)), s_19.2)))) (fun k_18 => ((getI f.Code (i_10 : Int)).bind fun y_20 => ((windlassref05_Next_s y_20 (i_10 : Int) s_17.2.1).bind fun nex_21 => (if (!nex_21) then (k_18 (s_17.1, s_17.2.2)) else (if (s_17.2.1 == (List.length f.Code : Int)) then (some (.ret (some (.ret (some (.ret (some ([], false, false)))))))) else ((getI s_17.2.2 s_17.2.1).bind fun y_22 => (jp (fun (s_24 : (Bool × (List ByteArray))) => ((getI s_24.2 s_17.2.1).bind fun y_27 => (if (!(ByteArray.toList y_27 == ByteArray.toList aft_14)) then (some (.ret (some (.ret (some (.ret (some ([], false, false)))))))) else (k_18 (s_24.1, s_24.2))))) (fun k_23 => (if (ByteArray.toList y_22 == ByteArray.toList (ByteArray.mk #[63])) then ((getI s_17.2.2 s_17.2.1).bind fun y_25 => (k_23 (true, (List.set s_17.2.2 (Int.toNat s_17.2.1) aft_14)))) else (k_23 (s_17.1, s_17.2.2)))))))))))) else (some (.brk (s_17.1, s_17.2.1, s_17.2.2)))) : Option (Stp (Bool × Int × (List ByteArray)) (Option (Stp (Bool × Bool × (List ByteArray)) (Option (Stp (Bool × Bool × (List ByteArray)) (Option ((List ByteArray) × Bool × Bool))))))))) 1048577 (s_9.2.1, 0, s_9.2.2)).bind (oc (fun (s_17 : (Bool × Int × (List ByteArray))) => (some (.nxt (s_16, s_17.1, s_17.2.2))))))) (fun k_15 => (if s_9.1 then (k_15 true) else (k_15 (decide ((ByteArray.size aft_14 : Int) > 16)))))))))))) : Option (Stp (Bool × Bool × (List ByteArray)) (Option (Stp (Bool × Bool × (List ByteArray)) (Option ((List ByteArray) × Bool × Bool))))))
theorem Stacks_ok (p : Program) (f : Func) (h : FOk p f) (hK : ∀ g ∈ p.Funcs, K01 g.Locals) (hf : K01 f.Locals) : ∃ o, windlassref05_Stacks_s 1048577 p f = some o ∧ RAns p f o := by
  obtain ⟨hn1, hn2⟩ := h.n
  unfold windlassref05_Stacks_s
  have mk1 : mkL 16 (List.length f.Code : Int) (List.length f.Code : Int) (ByteArray.mk #[]) = some (List.replicate f.Code.length (ByteArray.mk #[])) := by
    unfold mkL; rw [if_pos (by omega)]; simp
  rw [mk1]
  simp only [Option.bind_some]
  have L := rni_inv (σ := List ByteArray) (ρ := Option (List ByteArray × Bool × Bool)) (n := (List.length (List.replicate f.Code.length (ByteArray.mk #[])) : Int)) (s0 := List.replicate f.Code.length (ByteArray.mk #[])) (fun i s => s.length = f.Code.length ∧ ∀ k, k < i → s[k]? = some quest)
    (body := fun (i_3 : Nat) (s_2 : (List ByteArray)) => (((getI s_2 (i_3 : Int)).bind fun y_4 => (some (.nxt (List.set s_2 (Int.toNat (i_3 : Int)) (ByteArray.mk #[63]))))))) (by simp; omega) (by simp) (fun i s hi hs => by
      simp only [List.length_replicate] at hi
      rw [getI_nat, List.getElem?_eq_getElem (by omega)]
      refine ⟨_, rfl, by simp [hs.1], fun k hk => ?_⟩
      simp only [Int.toNat_natCast]
      by_cases e : k = i
      · subst e; rw [List.getElem?_set_self (by omega)]; rfl
      · rw [List.getElem?_set_ne (Ne.symm e)]; exact hs.2 k (by omega))
  obtain ⟨s2, e1, e2, e3⟩ := L
  rw [e1]
  simp only [Option.bind_some, oc]
  simp only [List.length_replicate, Int.toNat_natCast] at e3
  have hs2 : s2 = (List.replicate f.Code.length (none : OS)).map qK := by
    apply List.ext_getElem?
    intro k
    by_cases hk : k < f.Code.length
    · rw [e3 k hk, List.getElem?_map, List.getElem?_replicate, if_pos hk]; rfl
    · rw [List.getElem?_eq_none (by omega), List.getElem?_eq_none (by simp; omega)]
  subst hs2
  have hq0 : ((List.replicate f.Code.length (none : OS)).map qK)[0]? = some quest := by rw [List.getElem?_map, List.getElem?_replicate, if_pos (by omega)]; rfl
  rw [show getI ((List.replicate f.Code.length (none : OS)).map qK) 0 = some quest from (getI_nat _ 0).trans hq0]
  simp only [Option.bind_some]
  have hz : ((List.replicate f.Code.length (none : OS)).map qK).set (Int.toNat 0) (ByteArray.mk #[]) = ((List.replicate f.Code.length (none : OS)).set 0 (some [])).map qK := by
    rw [List.map_set]; rfl
  rw [hz]
  have hn0 : (List.replicate f.Code.length (none : OS))[0]? = some none := by rw [List.getElem?_replicate, if_pos (by omega)]
  have hnn0 := nn_set (x := []) hn0
  have hnn1 : nn (List.replicate f.Code.length (none : OS)) = f.Code.length := by unfold nn; rw [List.countP_replicate]; rfl
  refine bind_ex (whileN_ex (fun s => ∃ A : List OS, s.2.2 = A.map qK ∧ RInv p f s.1 A ∧ (s.2.1 = false → ∀ a, a < f.Code.length → ∀ x, A[a]? = some (some x) → DoneA p f s.1 A a x)) (fun s => 2 * qn s.2.2 + (if s.2.1 = true then 1 else 0)) _ ?h 1048577 _ ?h0 ?hm)
  case h0 =>
    refine ⟨_, rfl, ⟨by simp, by rw [List.getElem?_set_self (by simp; omega)], fun m y hy => ?_, fun e => (Bool.false_ne_true e).elim⟩, fun e => by cases e⟩
    by_cases e : m = 0
    · subst e
      rw [List.getElem?_set_self (by simp; omega)] at hy
      cases hy
      exact ⟨.start, by simp; omega⟩
    · rw [List.getElem?_set_ne (Ne.symm e), List.getElem?_replicate] at hy
      split at hy <;> cases hy
  case hm => simp only [qn_map, if_true]; omega
  rintro ⟨dp, mr, at1⟩ ⟨A0, e0, hR0, hD0⟩
  simp only at e0 hR0 hD0
  subst e0
  cases mr with
  | false =>
    right; left
    refine ⟨(dp, false, A0.map qK), rfl, ?_⟩
    exact ⟨_, rfl, hR0.ans (hD0 rfl)⟩
  | true =>
    simp only [if_true]
    have key : ∃ o, rni (rbody p f) (List.length f.Code : Int) (dp, false, A0.map qK) = some o ∧
        ((∃ dp' mr' A, o = .fin (dp', mr', A.map qK) ∧ RInv p f dp' A ∧ ((A = A0 ∧ mr' = false) ∨ (mr' = true ∧ nn A < nn A0)) ∧ (mr' = false → ∀ a, a < f.Code.length → ∀ x, A[a]? = some (some x) → DoneA p f dp' A a x)) ∨ (o = .ret (some (.ret (some ([], false, false)))) ∧ Bad p f)) := by
      refine rni_ex (body := rbody p f)
        (fun a s => ∃ A : List OS, s.2.2 = A.map qK ∧ RInv p f s.1 A ∧ (∀ (m : Nat) y, A0[m]? = some (some y) → A[m]? = some (some y)) ∧ ((A = A0 ∧ s.2.1 = false) ∨ (s.2.1 = true ∧ nn A < nn A0)) ∧ ∀ a', a' < a → ∀ x, A0[a']? = some (some x) → DoneA p f s.1 A a' x) _ (by omega) ?i0 ?ih ?iQ
      case i0 => exact ⟨A0, rfl, hR0, fun m y hy => hy, .inl ⟨rfl, rfl⟩, fun a' ha' => by omega⟩
      case iQ =>
        rintro ⟨dp', mr', at'⟩ ⟨A, e, hR, _, hch, hD⟩
        simp only at e hR hch hD
        subst e
        refine .inl ⟨dp', mr', A, rfl, hR, hch, fun em a ha x hx => ?_⟩
        rcases hch with ⟨e, _⟩ | ⟨e, _⟩
        · exact hD a (by omega) x (by rw [← e]; exact hx)
        · rw [em] at e; cases e
      rintro a ⟨dp', mr', at'⟩ hia ⟨A, e, hR, hmono, hch, hD⟩
      simp only at e hR hch hD
      subst e
      have halt : a < f.Code.length := by omega
      have hAa : A[a]? = some (A[a]'(by rw [hR.la]; exact halt)) := List.getElem?_eq_getElem _
      generalize A[a]'(by rw [hR.la]; exact halt) = oa at hAa
      have hma : (A.map qK)[a]? = some (qK oa) := by rw [List.getElem?_map, hAa]; rfl
      unfold rbody
      dsimp only
      rw [getI_nat, hma]
      simp only [Option.bind_some]
      rw [eqS]
      cases oa with
      | none =>
        left
        have e0 : decide (qK none = ByteArray.mk #[63]) = true := decide_eq_true rfl
        rw [if_pos e0]
        refine ⟨_, rfl, A, rfl, hR, hmono, hch, fun a' ha' x hx => ?_⟩
        by_cases e : a' = a
        · subst e
          have := hmono a' x hx
          rw [hAa] at this; cases this
        · exact hD a' (by omega) x hx
      | some x =>
        have e0 : decide (qK (some x) = ByteArray.mk #[63]) = false := decide_eq_false (strK_quest x)
        rw [e0]
        simp only [Bool.false_eq_true, if_false]
        have hia2 : f.Code[a]? = some f.Code[a] := List.getElem?_eq_getElem halt
        generalize f.Code[a] = i at hia2
        obtain ⟨dx, lx⟩ := hR.der a x hAa
        have kx := Der.k01 h hK hf dx
        rw [getI_nat, hia2]
        simp only [Option.bind_some]
        rw [show qK (some x) = strK x from rfl, After_eq p f h hK hf hia2 x (by omega) kx]
        simp only [Option.bind_some]
        rw [eqS]
        cases hst : stepK p f i x with
        | none =>
          right
          have : decide (stK none = ByteArray.mk #[33]) = true := decide_eq_true rfl
          rw [if_pos this]
          exact ⟨_, rfl, .inr ⟨rfl, .inl ⟨a, x, i, dx, hia2, .inl hst⟩⟩⟩
        | some x' =>
          have : decide (stK (some x') = ByteArray.mk #[33]) = false := decide_eq_false (strK_bang x')
          rw [this]
          simp only [Bool.false_eq_true, if_false]
          rw [deep_jp, show stK (some x') = strK x' from rfl, strK_size]
          have hx'l := step_len hst
          obtain ⟨o, ho, hq⟩ := innerR (some (.ret (some (.ret (some (([] : List ByteArray), false, false))))) : Option (Stp (Bool × Bool × (List ByteArray)) (Option (Stp (Bool × Bool × (List ByteArray)) (Option ((List ByteArray) × Bool × Bool)))))) p f h hK hf hia2 dx hst hR.la (fun m y hy => (hR.der m y hy).1) mr'
          rw [getI_nat, hia2] at ho
          simp only [Option.bind_some] at ho
          rw [ho]
          simp only [Option.bind_some]
          rcases hq with ⟨A2, mr2, b2, rfl, hN⟩ | ⟨rfl, hb⟩
          · left
            have hle : nn A2 ≤ nn A := by
              rcases hN.ch with ⟨e, _⟩ | ⟨_, e⟩
              · rw [e]; exact Nat.le_refl _
              · omega
            have hR2 : RInv p f (dp' || decide ((x'.length : Int) > 16)) A2 := by
              refine ⟨hN.la, hN.mono 0 [] hR.z, fun m y hy => ?_, fun hd => ?_⟩
              · rcases hN.ch with ⟨e, _⟩ | ⟨_, e⟩
                · rw [e] at hy ⊢; exact hR.der m y hy
                · rcases hN.new m y hy with h1 | ⟨rfl, h1⟩
                  · have := hR.der m y h1
                    exact ⟨this.1, by omega⟩
                  · exact ⟨h1, by omega⟩
              · simp only [Bool.or_eq_true, decide_eq_true_eq] at hd
                rcases hd with hd | hd
                · exact hR.dpD hd
                · exact ⟨a, x, i, x', dx, hia2, hst, by omega⟩
            refine ⟨_, rfl, A2, rfl, hR2, fun m y hy => hN.mono m y (hmono m y hy), ?_, fun a' ha' y hy => ?_⟩
            · simp only
              rcases hN.ch with ⟨e, em⟩ | ⟨em, e⟩
              · rw [e, em]; exact hch
              · right
                refine ⟨em, ?_⟩
                rcases hch with ⟨e2, _⟩ | ⟨_, e2⟩
                · rw [e2] at e; exact e
                · omega
            · by_cases e : a' = a
              · subst e
                have := hmono a' y hy
                rw [hAa] at this; cases this
                refine ⟨i, x', hia2, hst, fun hl => by simp; right; omega, fun b hb => ?_⟩
                obtain ⟨b0, b1⟩ := fol_le h hia2 hb
                obtain ⟨m, rfl⟩ : ∃ m : Nat, b = m := ⟨b.toNat, by omega⟩
                obtain ⟨g1, g2⟩ := hN.got m (by omega) hb
                exact ⟨m, rfl, g1, g2⟩
              · obtain ⟨i2, y', d1, d2, d3, d4⟩ := hD a' (by omega) y hy
                refine ⟨i2, y', d1, d2, fun hl => by simp [d3 hl], fun b hb => ?_⟩
                obtain ⟨m, m1, m2, m3⟩ := d4 b hb
                exact ⟨m, m1, m2, hN.mono m y' m3⟩
          · right
            exact ⟨_, rfl, .inr ⟨rfl, hb⟩⟩
    obtain ⟨o, ho, hq⟩ := key
    unfold rbody at ho
    rw [ho]
    simp only [Option.bind_some]
    rcases hq with ⟨dp', mr', A, rfl, hR, hch, hD⟩ | ⟨rfl, hb⟩
    · left
      refine ⟨_, rfl, ⟨A, rfl, hR, hD⟩, ?_⟩
      simp only [qn_map]
      rcases hch with ⟨e, em⟩ | ⟨em, e⟩
      · rw [e, em]; simp
      · rw [em]; simp; omega
    · right; right
      exact ⟨_, rfl, _, rfl, .inl ⟨hb, rfl⟩⟩
end Go.Proofs.Ytiocagilhbomgaa
/- Plain laws of kinds: the document's bytes, bounds, names. -/
namespace Go.Proofs.Ytiocagilhbomgaa
open Go Go.Ab Go.RowKit
set_option maxRecDepth 20000
set_option maxHeartbeats 1000000
set_option linter.unusedVariables false
set_option linter.unusedSimpArgs false

theorem jp_ite {σ β : Type} (c : Bool) (a b : σ) (K : σ → Option β) : jp K (fun k => if c = true then k a else k b) = K (if c = true then a else b) := by unfold jp; cases c <;> rfl
theorem Width_eq (op : Int) : windlassref03_Width_s op = some (widthI op) := by
  unfold windlassref03_Width_s
  simp only [jp]
  by_cases h9 : op < 1
  · have h1 : ¬ op = 1 := by omega
    have h2 : ¬ (op = 2 ∨ op = 3 ∨ op = 4 ∨ op = 23 ∨ op = 25) := by omega
    have h3 : ¬ (op = 21 ∨ op = 22) := by omega
    have e : widthI op = -1 := by unfold widthI; rw [if_neg h1, if_neg h2, if_neg h3, if_pos (.inl h9)]
    rw [e]
    simp [h9]
  by_cases h10 : op > 32
  · have h1 : ¬ op = 1 := by omega
    have h2 : ¬ (op = 2 ∨ op = 3 ∨ op = 4 ∨ op = 23 ∨ op = 25) := by omega
    have h3 : ¬ (op = 21 ∨ op = 22) := by omega
    have e : widthI op = -1 := by unfold widthI; rw [if_neg h1, if_neg h2, if_neg h3, if_pos (.inr h10)]
    rw [e]
    simp [h9, h10]
  simp only [decide_eq_false h9, decide_eq_false h10, Bool.false_eq_true, if_false]
  unfold widthI
  by_cases h1 : op = 1
  · simp [h1]
  by_cases h2 : op = 2
  · simp [h2]
  by_cases h3 : op = 3
  · simp [h3]
  by_cases h4 : op = 4
  · simp [h4]
  by_cases h5 : op = 23
  · simp [h5]
  by_cases h6 : op = 25
  · simp [h6]
  by_cases h7 : op = 21
  · simp [h7]
  by_cases h8 : op = 22
  · simp [h8]
  have e : ¬ (op < 1 ∨ op > 32) := by omega
  have q2 : ¬ (op = 2 ∨ op = 3 ∨ op = 4 ∨ op = 23 ∨ op = 25) := by omega
  have q3 : ¬ (op = 21 ∨ op = 22) := by omega
  rw [if_neg h1, if_neg q2, if_neg q3, if_neg e]
  simp [h1, h2, h3, h4, h5, h6, h7, h8]
theorem Says_eq (i : Instr) : windlassref03_Says_s i = some (instrP i) := by
  unfold windlassref03_Says_s instrP
  rw [Width_eq]
  simp only [Option.bind_some, jp]
  have hw := width_cases i.Op
  generalize widthI i.Op = w at hw ⊢
  rcases hw with rfl | rfl | rfl | rfl | rfl
  · simp
  · by_cases h1 : i.Imm = 0
    · simp [h1]; rw [Bool.eq_iff_iff]; simp; omega
    · simp [h1]
  · by_cases h1 : i.Imm = 0
    · by_cases h2 : i.Arg ≥ 0
      · simp [h1, h2]; omega
      · have : ¬ 0 ≤ i.Arg := h2
        simp [h1, h2, this]
    · simp [h1]
  · by_cases h1 : i.Imm = 0
    · by_cases h2 : i.Arg ≥ 0
      · simp [h1, h2]; omega
      · have : ¬ 0 ≤ i.Arg := h2
        simp [h1, h2, this]
    · simp [h1]
  · by_cases h1 : i.Arg = 0 <;> simp [h1]
theorem low_ok (v n : Int) (hn : 0 ≤ n ∧ n ≤ 8) : ∃ l, windlassref03_low_s 1048577 v n = some l ∧ l.length ≤ 8 := by
  unfold windlassref03_low_s
  refine bind_ex (whileN_ex (fun s => s.2.1 = n ∧ ∃ k : Nat, s.2.2.1 = (k : Int) ∧ (k : Int) ≤ n ∧ s.2.2.2.length = k) (fun s => 9 - s.2.2.1.toNat) _ ?_ 1048577 _ ⟨rfl, 0, rfl, by simpa using hn.1, rfl⟩ (by simp only; omega))
  rintro ⟨v1, n1, k1, l1⟩ ⟨h1, k, h2, h3, h4⟩
  simp only at h1 h2 h4
  subst h1; subst h2
  dsimp only
  by_cases hk : (k : Int) < n1
  · left
    rw [if_pos (by simpa using hk), appL1 (by simp; omega)]
    have hI : I64 ((k : Int) + 1) = ((k + 1 : Nat) : Int) := by rw [I64_of (by omega)]; omega
    exact ⟨_, rfl, ⟨rfl, k + 1, hI, by omega, by simp [h4]⟩, by simp only [hI, Int.toNat_natCast]; omega⟩
  · right; left
    rw [if_neg (by simpa using hk)]
    exact ⟨_, rfl, l1, rfl, by omega⟩

theorem Bytes_ok (p : Program) (hk : ∀ f ∈ p.Funcs, ∀ k ∈ f.Locals, 0 ≤ k) : ∃ l, windlassref03_Bytes_s 1048577 p = some (l, encP p) := by
  unfold windlassref03_Bytes_s
  have hj : ∀ {β : Type} (K : Bool → Option β), jp K (fun k_1 => (if (decide ((List.length p.Funcs : Int) < 1)) then (k_1 true) else (k_1 (decide ((List.length p.Funcs : Int) > 255))))) = K (!decide (1 ≤ p.Funcs.length ∧ p.Funcs.length ≤ 255)) := by
    intro β K
    unfold jp
    by_cases h1 : (p.Funcs.length : Int) < 1
    · have e : decide (1 ≤ p.Funcs.length ∧ p.Funcs.length ≤ 255) = false := decide_eq_false (by omega)
      rw [e]; simp [h1]
    · by_cases h2 : (p.Funcs.length : Int) > 255
      · have e : decide (1 ≤ p.Funcs.length ∧ p.Funcs.length ≤ 255) = false := decide_eq_false (by omega)
        rw [e]; simp [h1, h2]
      · have e : decide (1 ≤ p.Funcs.length ∧ p.Funcs.length ≤ 255) = true := decide_eq_true (by omega)
        rw [e]; simp [h1, h2]
  rw [hj]
  by_cases hc : 1 ≤ p.Funcs.length ∧ p.Funcs.length ≤ 255
  case neg =>
    have : encP p = false := by unfold encP; rw [decide_eq_false hc]; rfl
    rw [decide_eq_false hc, this]
    exact ⟨[], rfl⟩
  rw [decide_eq_true hc]
  simp only [Bool.not_true, Bool.false_eq_true, if_false]
  have he : encP p = p.Funcs.all funcP := by unfold encP; rw [decide_eq_true hc]; rfl
  have L := rng_inv (σ := List Int) (ρ := Option (List Int × Bool)) (xs := p.Funcs) (s0 := ([87, 76, U8 (List.length p.Funcs : Int)] : List Int)) funcP (some ([], false)) (fun i s => s.length ≤ 3 + 700000 * i)
    (body := fun (i_4 : Nat) (f_5 : Func) (s_3 : (List Int)) => ((jp (fun (s_8 : Bool) => (if s_8 then (some (.ret (some ([], false)))) else ((appL 1 s_3 [(U8 f_5.Params), (U8 (List.length f_5.Locals : Int))]).bind fun l_9 => ((rng (fun (i_11 : Nat) (k_12 : Int) (s_10 : (List Int)) => ((jp (fun (s_15 : Bool) => (if s_15 then (some (.ret (some (.ret (some ([], false)))))) else ((appL 1 s_10 [k_12]).bind fun l_16 => (some (.nxt l_16))))) (fun k_14 => (if (k_12 != 0) then (k_14 (k_12 != 1)) else (k_14 false)))) : Option (Stp (List Int) (Option (Stp (List Int) (Option ((List Int) × Bool))))))) f_5.Locals l_9).bind (oc (fun (s_10 : (List Int)) => (jp (fun (s_18 : Int) => (jp (fun (s_20 : Int) => ((appL 1 s_10 [s_18, s_20]).bind fun l_21 => ((windlassref03_low_s 1048577 (U64 (List.length f_5.Code : Int)) 2).bind fun low_22 => ((appL 1 l_21 low_22).bind fun l_23 => ((rng (fun (i_25 : Nat) (i_26 : Instr) (s_24 : (List Int)) => (((windlassref03_Says_s i_26).bind fun say_28 => (if (!say_28) then (some (.ret (some (.ret (some ([], false)))))) else ((appL 1 s_24 [i_26.Op]).bind fun l_29 => ((windlassref03_Width_s i_26.Op).bind fun wid_30 => (if (wid_30 == 8) then ((windlassref03_low_s 1048577 i_26.Imm 8).bind fun low_31 => ((appL 1 l_29 low_31).bind fun l_32 => (some (.nxt l_32)))) else ((windlassref03_low_s 1048577 (U64 i_26.Arg) wid_30).bind fun low_33 => ((appL 1 l_29 low_33).bind fun l_34 => (some (.nxt l_34))))))))) : Option (Stp (List Int) (Option (Stp (List Int) (Option ((List Int) × Bool))))))) f_5.Code l_23).bind (oc (fun (s_24 : (List Int)) => (some (.nxt s_24))))))))) (fun k_19 => (if (decide (f_5.Keep ≥ 0)) then (k_19 (U8 f_5.Keep)) else (k_19 255))))) (fun k_17 => (if f_5.Result then (k_17 1) else (k_17 0)))))))))) (fun k_7 => (if (decide (f_5.Params < 0)) then (k_7 true) else (if (decide (f_5.Params > (List.length f_5.Locals : Int))) then (k_7 true) else (if (decide ((List.length f_5.Locals : Int) > 255)) then (k_7 true) else (if (decide (f_5.Keep < (-1))) then (k_7 true) else (if (decide (f_5.Keep > 254)) then (k_7 true) else (k_7 (decide ((List.length f_5.Code : Int) > 65535)))))))))) : Option (Stp (List Int) (Option ((List Int) × Bool))))) (by omega) (Nat.le_of_ble_eq_true rfl) ?body
  case body =>
    intro i f s hi hs
    have hmem := List.mem_of_getElem? hi
    have hilt := (List.getElem?_eq_some_iff.1 hi).1
    have hsl : s.length ≤ 3 + 700000 * 255 := Nat.le_trans hs (Nat.add_le_add_left (Nat.mul_le_mul_left _ (by omega)) _)
    have hjf : ∀ {β : Type} (K : Bool → Option β), jp K (fun k_7 => (if (decide (f.Params < 0)) then (k_7 true) else (if (decide (f.Params > (List.length f.Locals : Int))) then (k_7 true) else (if (decide ((List.length f.Locals : Int) > 255)) then (k_7 true) else (if (decide (f.Keep < (-1))) then (k_7 true) else (if (decide (f.Keep > 254)) then (k_7 true) else (k_7 (decide ((List.length f.Code : Int) > 65535))))))))) = K (!decide (0 ≤ f.Params ∧ f.Params ≤ f.Locals.length ∧ f.Locals.length ≤ 255 ∧ -1 ≤ f.Keep ∧ f.Keep ≤ 254 ∧ f.Code.length ≤ 65535)) := by
      intro β K
      unfold jp
      by_cases h1 : f.Params < 0
      · have e : decide (0 ≤ f.Params ∧ f.Params ≤ f.Locals.length ∧ f.Locals.length ≤ 255 ∧ -1 ≤ f.Keep ∧ f.Keep ≤ 254 ∧ f.Code.length ≤ 65535) = false := decide_eq_false (by omega)
        rw [e]; simp [h1]
      by_cases h2 : f.Params > f.Locals.length
      · have e : decide (0 ≤ f.Params ∧ f.Params ≤ f.Locals.length ∧ f.Locals.length ≤ 255 ∧ -1 ≤ f.Keep ∧ f.Keep ≤ 254 ∧ f.Code.length ≤ 65535) = false := decide_eq_false (by omega)
        rw [e]; simp [h1, h2]
      by_cases h3 : (f.Locals.length : Int) > 255
      · have e : decide (0 ≤ f.Params ∧ f.Params ≤ f.Locals.length ∧ f.Locals.length ≤ 255 ∧ -1 ≤ f.Keep ∧ f.Keep ≤ 254 ∧ f.Code.length ≤ 65535) = false := decide_eq_false (by omega)
        rw [e]; simp [h1, h2, h3]
      by_cases h4 : f.Keep < -1
      · have e : decide (0 ≤ f.Params ∧ f.Params ≤ f.Locals.length ∧ f.Locals.length ≤ 255 ∧ -1 ≤ f.Keep ∧ f.Keep ≤ 254 ∧ f.Code.length ≤ 65535) = false := decide_eq_false (by omega)
        rw [e]; simp [h1, h2, h3, h4]
      by_cases h5 : f.Keep > 254
      · have e : decide (0 ≤ f.Params ∧ f.Params ≤ f.Locals.length ∧ f.Locals.length ≤ 255 ∧ -1 ≤ f.Keep ∧ f.Keep ≤ 254 ∧ f.Code.length ≤ 65535) = false := decide_eq_false (by omega)
        rw [e]; simp [h1, h2, h3, h4, h5]
      by_cases h6 : (f.Code.length : Int) > 65535
      · have e : decide (0 ≤ f.Params ∧ f.Params ≤ f.Locals.length ∧ f.Locals.length ≤ 255 ∧ -1 ≤ f.Keep ∧ f.Keep ≤ 254 ∧ f.Code.length ≤ 65535) = false := decide_eq_false (by omega)
        rw [e]; simp [h1, h2, h3, h4, h5, h6]
      · have e : decide (0 ≤ f.Params ∧ f.Params ≤ f.Locals.length ∧ f.Locals.length ≤ 255 ∧ -1 ≤ f.Keep ∧ f.Keep ≤ 254 ∧ f.Code.length ≤ 65535) = true := decide_eq_true (by omega)
        rw [e]; simp [h1, h2, h3, h4, h5, h6]
    rw [hjf]
    by_cases hcf : 0 ≤ f.Params ∧ f.Params ≤ f.Locals.length ∧ f.Locals.length ≤ 255 ∧ -1 ≤ f.Keep ∧ f.Keep ≤ 254 ∧ f.Code.length ≤ 65535
    case neg =>
      have : funcP f = false := by unfold funcP; rw [decide_eq_false hcf]; rfl
      rw [this, decide_eq_false hcf]; rfl
    rw [decide_eq_true hcf]
    simp only [Bool.not_true, Bool.false_eq_true, if_false]
    rw [appL1 (by simp; omega)]
    simp only [Option.bind_some]
    have hf : funcP f = (f.Locals.all (fun k => decide (k ≤ 1)) && f.Code.all instrP) := by unfold funcP; rw [decide_eq_true hcf]; rfl
    have L1 := rng_inv (σ := List Int) (ρ := Option (Stp (List Int) (Option (List Int × Bool)))) (xs := f.Locals) (s0 := s ++ [U8 f.Params, U8 (List.length f.Locals : Int)]) (fun k => decide (k ≤ 1)) (some (.ret (some ([], false))))
      (fun i q => q.length = s.length + 2 + i) (body := fun (i_11 : Nat) (k_12 : Int) (s_10 : (List Int)) => ((jp (fun (s_15 : Bool) => (if s_15 then (some (.ret (some (.ret (some ([], false)))))) else ((appL 1 s_10 [k_12]).bind fun l_16 => (some (.nxt l_16))))) (fun k_14 => (if (k_12 != 0) then (k_14 (k_12 != 1)) else (k_14 false)))) : Option (Stp (List Int) (Option (Stp (List Int) (Option ((List Int) × Bool))))))) (by omega) (by simp) (fun j x q hx hq => by
        have hj := (List.getElem?_eq_some_iff.1 hx).1
        have hx0 := hk f hmem x (List.mem_of_getElem? hx)
        simp only [jp]
        by_cases h0 : x = 0
        · rw [if_pos (by simp [h0])]
          have : (x != 0) = false := by simp [h0]
          simp only [this, Bool.false_eq_true, if_false]
          rw [appL1 (by simp <;> omega)]
          exact ⟨_, rfl, by simp <;> omega⟩
        · have n0 : (x != 0) = true := by simpa using h0
          simp only [n0, if_true]
          by_cases h1 : x = 1
          · rw [if_pos (by simp [h1])]
            have : (x != 1) = false := by simp [h1]
            simp only [this, Bool.false_eq_true, if_false]
            rw [appL1 (by simp <;> omega)]
            exact ⟨_, rfl, by simp <;> omega⟩
          · have n1 : (x != 1) = true := by simpa using h1
            rw [if_neg (by simp; omega), if_pos n1])
    cases hl : f.Locals.all (fun k => decide (k ≤ 1)) with
    | false =>
      rw [hl] at L1
      simp only [Bool.false_eq_true, if_false] at L1
      rw [L1, hf, hl]; rfl
    | true =>
      rw [hl] at L1
      simp only [if_true] at L1
      obtain ⟨s1, e1, e2⟩ := L1
      rw [e1]
      simp only [Option.bind_some, oc]
      rw [jp_ite, jp_ite]
      generalize (if f.Result = true then (1 : Int) else 0) = r
      generalize (if decide (f.Keep ≥ 0) = true then U8 f.Keep else (255 : Int)) = r2
      rw [appL1 (by simp; omega)]
      simp only [Option.bind_some]
      obtain ⟨lw, e3, e4⟩ := low_ok (U64 (List.length f.Code : Int)) 2 (by omega)
      rw [e3]
      simp only [Option.bind_some]
      rw [appL1 (by simp; omega)]
      simp only [Option.bind_some]
      have L2 := rng_inv (σ := List Int) (ρ := Option (Stp (List Int) (Option (List Int × Bool)))) (xs := f.Code) (s0 := s1 ++ [r, r2] ++ lw) instrP (some (.ret (some ([], false)))) (fun i q => q.length ≤ s.length + 300 + 9 * i)
        (body := fun (i_25 : Nat) (i_26 : Instr) (s_24 : (List Int)) => (((windlassref03_Says_s i_26).bind fun say_28 => (if (!say_28) then (some (.ret (some (.ret (some ([], false)))))) else ((appL 1 s_24 [i_26.Op]).bind fun l_29 => ((windlassref03_Width_s i_26.Op).bind fun wid_30 => (if (wid_30 == 8) then ((windlassref03_low_s 1048577 i_26.Imm 8).bind fun low_31 => ((appL 1 l_29 low_31).bind fun l_32 => (some (.nxt l_32)))) else ((windlassref03_low_s 1048577 (U64 i_26.Arg) wid_30).bind fun low_33 => ((appL 1 l_29 low_33).bind fun l_34 => (some (.nxt l_34))))))))) : Option (Stp (List Int) (Option (Stp (List Int) (Option ((List Int) × Bool))))))) (by omega) (by simp; omega) (fun j x q hx hq => by
          have hj := (List.getElem?_eq_some_iff.1 hx).1
          rw [Says_eq]
          cases hi2 : instrP x with
          | false => rfl
          | true =>
            have hw0 := (instr_arg hi2).2.2
            have hw := width_cases x.Op
            simp only [Option.bind_some, Bool.not_true, Bool.false_eq_true, if_false, if_true]
            rw [appL1 (by simp <;> omega)]
            simp only [Option.bind_some]
            rw [Width_eq]
            simp only [Option.bind_some]
            have fin : ∀ v n : Int, 0 ≤ n ∧ n ≤ 8 → ∃ s', ((windlassref03_low_s 1048577 v n).bind fun low => ((appL 1 (q ++ [x.Op]) low).bind fun l => (some (.nxt l : Stp (List Int) (Option (Stp (List Int) (Option ((List Int) × Bool)))))))) = some (.nxt s') ∧ s'.length ≤ s.length + 300 + 9 * (j + 1) := fun v n hn => by
              obtain ⟨lv, e5, e6⟩ := low_ok v n hn
              rw [e5]
              simp only [Option.bind_some]
              rw [appL1 (by simp; omega)]
              exact ⟨_, rfl, by simp; omega⟩
            by_cases h8 : widthI x.Op = 8
            · have n8 : (widthI x.Op == 8) = true := by simpa using h8
              rw [if_pos n8]
              exact fin _ 8 (by omega)
            · have n8 : ¬ ((widthI x.Op == 8) = true) := by simpa using h8
              rw [if_neg n8]
              exact fin _ _ (by omega))
      cases hci : f.Code.all instrP with
      | false =>
        rw [hci] at L2
        simp only [Bool.false_eq_true, if_false] at L2
        rw [L2, hf, hl, hci]; rfl
      | true =>
        rw [hci] at L2
        simp only [if_true] at L2
        obtain ⟨s3, e5, e6⟩ := L2
        rw [e5, hf, hl, hci]
        refine ⟨s3, rfl, big_aux (s := s.length) ?_ hs⟩
        have : s3.length ≤ s.length + 300 + 9 * f.Code.length := e6
        omega
  rw [he]
  cases e : p.Funcs.all funcP with
  | false =>
    rw [e] at L
    simp only [Bool.false_eq_true, if_false] at L
    rw [L]
    exact ⟨[], rfl⟩
  | true =>
    rw [e] at L
    simp only [if_true] at L
    obtain ⟨s, a, _⟩ := L
    rw [a]
    exact ⟨s, rfl⟩
end Go.Proofs.Ytiocagilhbomgaa
/- Plain laws of kinds: the document's answer; copies. -/
namespace Go.Proofs.Ytiocagilhbomgaa
open Go Go.Ab Go.RowKit
set_option maxRecDepth 20000
set_option maxHeartbeats 1000000
set_option linter.unusedVariables false
set_option linter.unusedSimpArgs false

theorem rBounded_eq (p : Program) (hp : p.Funcs.length ≤ 1048576) : windlassref03_Bounded_s p = some (boundP p) := by
  unfold windlassref03_Bounded_s
  have L := rng_inv (σ := Bool) (ρ := Option Bool) (xs := p.Funcs) (s0 := decide ((List.length p.Funcs : Int) ≤ 16)) (fun _ => true) none (fun i s => s = (decide ((List.length p.Funcs : Int) ≤ 16) && (p.Funcs.take i).all boundF))
    (body := fun (i_2 : Nat) (f_3 : Func) (s_1 : Bool) => ((if s_1 then (if (decide (f_3.Params ≤ 4)) then (if (decide ((List.length f_3.Locals : Int) ≤ 16)) then (some (.nxt (decide ((List.length f_3.Code : Int) ≤ 256)))) else (some (.nxt false))) else (some (.nxt false))) else (some (.nxt false))) : Option (Stp Bool (Option Bool)))) (by omega) (by simp) (fun i x s hx hs => by
      have hlt := (List.getElem?_eq_some_iff.1 hx).1
      have e : (p.Funcs.take (i + 1)).all boundF = ((p.Funcs.take i).all boundF && boundF x) := by
        rw [List.take_succ_eq_append_getElem hlt, List.all_append]
        rw [List.getElem?_eq_getElem hlt] at hx
        cases hx
        simp
      rw [if_pos rfl, e, ← Bool.and_assoc, ← hs]
      cases s with
      | false => exact ⟨false, rfl, rfl⟩
      | true =>
        unfold boundF
        by_cases h1 : x.Params ≤ 4
        · by_cases h2 : (x.Locals.length : Int) ≤ 16
          · refine ⟨_, by rw [if_pos rfl, if_pos (by simpa using h1), if_pos (by simpa using h2)], ?_⟩
            have h2' : x.Locals.length ≤ 16 := by omega
            simp [h1, h2']
            omega
          · refine ⟨_, by rw [if_pos rfl, if_pos (by simpa using h1), if_neg (by simpa using h2)], ?_⟩
            have : ¬ (x.Params ≤ 4 ∧ x.Locals.length ≤ 16 ∧ x.Code.length ≤ 256) := by omega
            rw [decide_eq_false this]; rfl
        · refine ⟨_, by rw [if_pos rfl, if_neg (by simpa using h1)], ?_⟩
          have : ¬ (x.Params ≤ 4 ∧ x.Locals.length ≤ 16 ∧ x.Code.length ≤ 256) := by omega
          rw [decide_eq_false this]; rfl)
  simp only [List.all_eq_true, implies_true, if_true] at L
  obtain ⟨s, e1, e2⟩ := L
  rw [e1]
  simp only [Option.bind_some, oc]
  rw [e2, List.take_length]
  unfold boundP
  rw [Bool.and_comm]
  congr 2
  exact decide_eq_decide.2 (by omega)

theorem rnames_eq (p : Program) (f : Func) (hf : funcP f = true) (hp : p.Funcs.length ≤ 1048576) : windlassref05_names_s p f = some (headP p f) := by
  have hc := funcP_code hf
  have hd := (funcP_head hf).2.2.2.2.2
  unfold windlassref05_names_s headP
  have hj : ∀ {β : Type} (K : Func × Bool → Option β), jp K (fun k_1 => (if ((List.length f.Code : Int) == 0) then (k_1 (f, true)) else (if (decide (f.Keep ≥ (List.length f.Locals : Int))) then (k_1 (f, true)) else (if (decide (f.Keep ≥ 0)) then ((getI f.Locals f.Keep).bind fun y_3 => (k_1 (f, (y_3 != 0)))) else (k_1 (f, false)))))) = K (f, !keepP f) := by
    intro β K
    unfold jp keepP
    by_cases h1 : f.Code.length = 0
    · simp [h1]
    have h1' : ((f.Code.length : Int) == 0) = false := by simpa using h1
    by_cases h2 : f.Keep ≥ f.Locals.length
    · have : ¬ (f.Keep < f.Locals.length) := by omega
      simp [h1', h2, this]
    have h2' : f.Keep < f.Locals.length := by omega
    have h2'' : ¬ f.Locals.length ≤ f.Keep := by omega
    by_cases h3 : f.Keep ≥ 0
    · have h3' : ¬ f.Keep < 0 := by omega
      simp only [h1', Bool.false_eq_true, if_false, decide_eq_false h2, decide_eq_true h3, if_true]
      rw [getI_lt h3 (by omega), List.getElem?_eq_getElem (show f.Keep.toNat < f.Locals.length by omega)]
      simp only [Option.bind_some]
      by_cases h4 : f.Locals[f.Keep.toNat] = 0
      · simp [h1, h2', h3', h4]
      · have e4 : (f.Locals[f.Keep.toNat] != 0) = true := by simpa using h4
        rw [e4]
        simp [h1, h2', h3', h4]
    · have h3' : f.Keep < 0 := by omega
      simp only [h1', Bool.false_eq_true, if_false, decide_eq_false h2, decide_eq_false h3]
      simp [h1, h2', h3']
  rw [hj]
  cases hkp : keepP f with
  | false => rfl
  | true =>
    simp only [Bool.not_true, Bool.false_eq_true, if_false, Bool.true_and]
    have L := rng_inv (σ := Unit) (ρ := Option Bool) (xs := f.Code) (s0 := ()) (codeP p f) (some false) (fun _ _ => True)
      (body := fun (i_5 : Nat) (i_6 : Instr) (s_4 : Unit) => ((jp (fun (s_9 : Bool) => (if s_9 then (if (decide (i_6.Arg ≥ (List.length f.Locals : Int))) then (some (.ret (some false))) else (some (.nxt ()))) else (if (i_6.Op == 4) then (jp (fun (s_11 : Bool) => (if s_11 then (some (.ret (some false))) else (some (.nxt ())))) (fun k_10 => (if (decide (i_6.Arg ≥ (List.length f.Locals : Int))) then (k_10 true) else ((getI f.Locals i_6.Arg).bind fun y_12 => (k_10 (y_12 != 0)))))) else (jp (fun (s_14 : Bool) => (if s_14 then (if (decide (i_6.Arg ≥ (List.length f.Code : Int))) then (some (.ret (some false))) else (some (.nxt ()))) else (jp (fun (s_16 : Bool) => (if s_16 then (jp (fun (s_18 : Bool) => (if s_18 then (some (.ret (some false))) else (some (.nxt ())))) (fun k_17 => (if (decide (i_6.Arg ≥ (List.length p.Funcs : Int))) then (k_17 true) else (if (i_6.Op == 25) then (if f.Result then (k_17 (decide (f.Keep < 0))) else (k_17 false)) else (k_17 false))))) else (some (.nxt ())))) (fun k_15 => (if (i_6.Op == 23) then (k_15 (i_6.Op == 23)) else (k_15 (i_6.Op == 25))))))) (fun k_13 => (if (i_6.Op == 21) then (k_13 (i_6.Op == 21)) else (k_13 (i_6.Op == 22)))))))) (fun k_8 => (if (i_6.Op == 2) then (k_8 (i_6.Op == 2)) else (k_8 (i_6.Op == 3))))) : Option (Stp Unit (Option Bool)))) (by omega) trivial (fun j x s hx _ => by
        have ha := (instr_arg (hc x (List.mem_of_getElem? hx))).1
        unfold codeP nameP
        simp only [jp]
        have n25 : ∀ c : Int, x.Op = c → c ≠ 25 → decide (x.Op = 25) = false := fun c h1 h2 => decide_eq_false (by omega)
        by_cases h2 : x.Op = 2 ∨ x.Op = 3
        · have e25 : decide (x.Op = 25) = false := decide_eq_false (by omega)
          rw [if_pos h2, e25]
          simp only [Bool.false_and, Bool.not_false, Bool.and_true]
          have : (if (x.Op == 2) = true then (x.Op == 2) else (x.Op == 3)) = true := by rcases h2 with h | h <;> simp [h]
          have hb : ∀ A B : Option (Stp Unit (Option Bool)), (if (x.Op == 2) = true then (if (x.Op == 2) = true then A else B) else (if (x.Op == 3) = true then A else B)) = A := fun A B => by rcases h2 with h | h <;> simp [h]
          rw [hb]
          by_cases hl : x.Arg < f.Locals.length
          · rw [if_pos (by simpa using hl), if_neg (by simp; omega)]; exact ⟨(), rfl, trivial⟩
          · rw [if_neg (by simpa using hl), if_pos (by simp; omega)]
        have h2a : ¬ x.Op = 2 := fun h => h2 (.inl h)
        have h2b : ¬ x.Op = 3 := fun h => h2 (.inr h)
        have m2 : (x.Op == 2) = false := by simpa using h2a
        have m3 : (x.Op == 3) = false := by simpa using h2b
        rw [if_neg h2]
        simp only [m2, m3, Bool.false_eq_true, if_false]
        by_cases h4 : x.Op = 4
        · have e25 : decide (x.Op = 25) = false := decide_eq_false (by omega)
          have m4 : (x.Op == 4) = true := by simpa using h4
          rw [if_pos h4, e25]
          simp only [m4, if_true, Bool.false_and, Bool.not_false, Bool.and_true]
          by_cases hl : x.Arg < f.Locals.length
          · rw [if_neg (show ¬ (decide (x.Arg ≥ (f.Locals.length : Int)) = true) by simp; omega), getI_lt ha (by omega), List.getElem?_eq_getElem (show x.Arg.toNat < f.Locals.length by omega)]
            simp only [Option.bind_some]
            by_cases h0 : f.Locals[x.Arg.toNat] = 0
            · rw [decide_eq_true ⟨hl, by rw [h0]⟩]
              have : (f.Locals[x.Arg.toNat] != 0) = false := by simp [h0]
              rw [this]; exact ⟨(), rfl, trivial⟩
            · have e : decide (x.Arg < f.Locals.length ∧ some f.Locals[x.Arg.toNat] = some 0) = false := decide_eq_false (fun hh => h0 (Option.some.inj hh.2))
              rw [e]
              have : (f.Locals[x.Arg.toNat] != 0) = true := by simpa using h0
              rw [this]; rfl
          · rw [if_pos (show decide (x.Arg ≥ (f.Locals.length : Int)) = true by simp; omega), decide_eq_false (fun hh => hl hh.1)]; rfl
        have m4 : (x.Op == 4) = false := by simpa using h4
        rw [if_neg h4]
        simp only [m4, Bool.false_eq_true, if_false]
        by_cases h21 : x.Op = 21 ∨ x.Op = 22
        · have e25 : decide (x.Op = 25) = false := decide_eq_false (by omega)
          rw [if_neg (show ¬ (x.Op = 23 ∨ x.Op = 25) by omega), if_pos h21, e25]
          simp only [Bool.false_and, Bool.not_false, Bool.and_true]
          have hb : ∀ A B : Option (Stp Unit (Option Bool)), (if (x.Op == 21) = true then (if (x.Op == 21) = true then A else B) else (if (x.Op == 22) = true then A else B)) = A := fun A B => by rcases h21 with h | h <;> simp [h]
          rw [hb]
          by_cases hl : x.Arg < f.Code.length
          · rw [if_pos (by simpa using hl), if_neg (by simp; omega)]; exact ⟨(), rfl, trivial⟩
          · rw [if_neg (by simpa using hl), if_pos (by simp; omega)]
        have h21a : ¬ x.Op = 21 := fun h => h21 (.inl h)
        have h21b : ¬ x.Op = 22 := fun h => h21 (.inr h)
        have m21 : (x.Op == 21) = false := by simpa using h21a
        have m22 : (x.Op == 22) = false := by simpa using h21b
        simp only [m21, m22, Bool.false_eq_true, if_false]
        by_cases h23 : x.Op = 23
        · have e25 : decide (x.Op = 25) = false := decide_eq_false (by omega)
          rw [if_pos (show x.Op = 23 ∨ x.Op = 25 from .inl h23), e25]
          have m23 : (x.Op == 23) = true := by simpa using h23
          have m25 : (x.Op == 25) = false := by rw [h23]; rfl
          simp only [m23, m25, if_true, Bool.false_eq_true, if_false, Bool.false_and, Bool.not_false, Bool.and_true]
          by_cases hl : x.Arg < p.Funcs.length
          · rw [if_pos (by simpa using hl), if_neg (by simp; omega)]; exact ⟨(), rfl, trivial⟩
          · rw [if_neg (by simpa using hl), if_pos (by simp; omega)]
        have m23 : (x.Op == 23) = false := by simpa using h23
        by_cases h25 : x.Op = 25
        · rw [if_pos (show x.Op = 23 ∨ x.Op = 25 from .inr h25), decide_eq_true h25]
          have m25 : (x.Op == 25) = true := by simpa using h25
          simp only [m23, m25, if_true, Bool.false_eq_true, if_false, Bool.true_and]
          by_cases hl : x.Arg < p.Funcs.length
          · rw [decide_eq_true hl, if_neg (show ¬ (decide (x.Arg ≥ (p.Funcs.length : Int)) = true) by simp; omega)]
            simp only [Bool.true_and]
            cases f.Result with
            | false => exact ⟨(), rfl, trivial⟩
            | true =>
              simp only [if_true, Bool.true_and]
              cases decide (f.Keep < 0) with
              | false => exact ⟨(), rfl, trivial⟩
              | true => rfl
          · rw [decide_eq_false hl, if_pos (show decide (x.Arg ≥ (p.Funcs.length : Int)) = true by simp; omega)]; rfl
        have m25 : (x.Op == 25) = false := by simpa using h25
        rw [if_neg (show ¬ (x.Op = 23 ∨ x.Op = 25) by omega), if_neg (show ¬ (x.Op = 21 ∨ x.Op = 22) from h21), decide_eq_false h25]
        simp only [m23, m25, Bool.false_eq_true, if_false]
        exact ⟨(), by simp, trivial⟩)
    cases e : f.Code.all (codeP p f) with
    | false =>
      rw [e] at L
      simp only [Bool.false_eq_true, if_false] at L
      rw [L]; rfl
    | true =>
      rw [e] at L
      simp only [if_true] at L
      obtain ⟨s, a, _⟩ := L
      rw [a]; rfl
end Go.Proofs.Ytiocagilhbomgaa
/- Plain laws of kinds: what the document's Check answers. -/
namespace Go.Proofs.Ytiocagilhbomgaa
open Go Go.Ab Go.RowKit
set_option maxRecDepth 20000
set_option maxHeartbeats 1000000
set_option linter.unusedVariables false
set_option linter.unusedSimpArgs false

def RGood (p : Program) (f : Func) (l : List ByteArray) : Prop := ∃ R, Sol p f R ∧ l.length = f.Code.length ∧ ∀ a, a < f.Code.length → l[a]? = some (qK (R a))
def RCAns (p : Program) (o : List (List ByteArray) × Int) : Prop :=
  (encP p = false ∧ o = ([], 30)) ∨ (encP p = true ∧ boundP p = false ∧ o = ([], 31)) ∨ (encP p = true ∧ boundP p = true ∧ (mainP p && p.Funcs.all (headP p)) = false ∧ o = ([], 50)) ∨
  (goodP p = true ∧ (∃ f ∈ p.Funcs, Bad p f) ∧ o = ([], 50)) ∨
  (goodP p = true ∧ (∀ f ∈ p.Funcs, ∃ R, Sol p f R) ∧ (∃ f ∈ p.Funcs, Deep p f) ∧ o = ([], 31)) ∨
  (goodP p = true ∧ (∀ f ∈ p.Funcs, ¬ Deep p f) ∧ o.2 = 0 ∧ o.1.length = p.Funcs.length ∧ ∀ (k : Nat) f, p.Funcs[k]? = some f → ∃ l, o.1[k]? = some l ∧ RGood p f l)
structure RLInv (p : Program) (j : Nat) (s : Bool × List (List ByteArray)) : Prop where
  l2 : s.2.length = j
  dp : s.1 = true ↔ ∃ (k : Nat) (f : Func), k < j ∧ p.Funcs[k]? = some f ∧ Deep p f
  ok : ∀ (k : Nat) f, k < j → p.Funcs[k]? = some f → ∃ l, s.2[k]? = some l ∧ RGood p f l

theorem rCheck_ok (p : Program) (hl : p.Funcs.length ≤ 1048576) (hu : ∀ f ∈ p.Funcs, ∀ k ∈ f.Locals, 0 ≤ k) : ∃ o, windlassref05_Check_s 1048577 p = some o ∧ RCAns p o := by
  unfold windlassref05_Check_s
  obtain ⟨l, he⟩ := Bytes_ok p hu
  rw [he]
  simp only [Option.bind_some]
  cases henc : encP p with
  | false => exact ⟨([], 30), rfl, .inl ⟨henc, rfl⟩⟩
  | true =>
    simp only [Bool.not_true, Bool.false_eq_true, if_false]
    rw [rBounded_eq p hl]
    simp only [Option.bind_some]
    cases hbd : boundP p with
    | false => exact ⟨([], 31), rfl, .inr (.inl ⟨henc, hbd, rfl⟩)⟩
    | true =>
      simp only [Bool.not_true, Bool.false_eq_true, if_false]
      have henc2 := henc
      unfold encP at henc2
      simp only [Bool.and_eq_true, decide_eq_true_eq, List.all_eq_true] at henc2
      have hmain : ∀ {β : Type} (K : Bool → Option β), jp K (fun k_3 => ((getI p.Funcs 0).bind fun y_5 => (if (y_5.Params != 0) then (k_3 true) else (k_3 y_5.Result)))) = K (!mainP p) := by
        intro β K
        unfold jp mainP
        match hf : p.Funcs with
        | [] => rw [hf] at henc2; simp at henc2
        | f :: r =>
          show ((getI (f :: r) ((0 : Nat) : Int)).bind _) = _
          rw [getI_nat]
          simp only [List.getElem?_cons_zero, Option.bind_some]
          by_cases h0 : f.Params = 0
          · simp [h0]
          · have : (f.Params != 0) = true := by simpa using h0
            simp [h0, this]
      rw [hmain]
      cases hm : mainP p with
      | false => exact ⟨([], 50), rfl, .inr (.inr (.inl ⟨henc, hbd, by rw [hm]; rfl, rfl⟩))⟩
      | true =>
        simp only [Bool.not_true, Bool.false_eq_true, if_false]
        have L := rng_inv (σ := Unit) (ρ := Option (List (List ByteArray) × Int)) (xs := p.Funcs) (s0 := ()) (headP p) (some ([], 50)) (fun _ _ => True)
          (body := fun (i_7 : Nat) (f_8 : Func) (s_6 : Unit) => (((windlassref05_names_s p f_8).bind fun nam_10 => (if (!nam_10) then (some (.ret (some ([], 50)))) else (some (.nxt ())))) : Option (Stp Unit (Option ((List (List ByteArray)) × Int))))) (by omega) trivial (fun i x s hx _ => by
            rw [rnames_eq p x (henc2.2 x (List.mem_of_getElem? hx)) hl]
            cases headP p x with
            | false => rfl
            | true => exact ⟨(), rfl, trivial⟩)
        cases hh : p.Funcs.all (headP p) with
        | false =>
          rw [hh] at L
          simp only [Bool.false_eq_true, if_false] at L
          rw [L]
          exact ⟨([], 50), rfl, .inr (.inr (.inl ⟨henc, hbd, by rw [hm, hh]; rfl, rfl⟩))⟩
        | true =>
          rw [hh] at L
          simp only [if_true] at L
          obtain ⟨_, e1, _⟩ := L
          rw [e1]
          simp only [Option.bind_some, oc]
          have hgood : goodP p = true := by unfold goodP; rw [henc, hbd, hm, hh]; rfl
          have h01 : ∀ g ∈ p.Funcs, K01 g.Locals := fun g hg k hk => by
            have h1 := henc2.2 g hg
            unfold funcP at h1
            simp only [Bool.and_eq_true, decide_eq_true_eq, List.all_eq_true] at h1
            have h2 := h1.2.1 k hk
            have h3 := hu g hg k hk
            omega
          refine bind_ex (rng_ex (RLInv p) _ (by omega) ?h0 ?h ?hQ)
          case h0 => exact ⟨rfl, ⟨fun e => (Bool.false_ne_true e).elim, fun ⟨k, f, hk, _⟩ => by omega⟩, fun k f hk => by omega⟩
          case hQ =>
            intro s hs
            cases hd : s.1 with
            | true =>
              refine ⟨([], 31), by simp only [oc]; rw [hd]; rfl, .inr (.inr (.inr (.inr (.inl ⟨hgood, fun f hf => ?_, ?_, rfl⟩))))⟩
              · obtain ⟨k, hk⟩ := List.getElem?_of_mem hf
                obtain ⟨_, _, R, hR, _⟩ := hs.ok k f (List.getElem?_eq_some_iff.1 hk).1 hk
                exact ⟨R, hR⟩
              · obtain ⟨k, f, _, h2, h3⟩ := hs.dp.1 hd
                exact ⟨f, List.mem_of_getElem? h2, h3⟩
            | false =>
              refine ⟨(s.2, 0), by simp only [oc]; rw [hd]; rfl, .inr (.inr (.inr (.inr (.inr ⟨hgood, fun f hf hdp => ?_, rfl, hs.l2, fun k f hk => hs.ok k f (List.getElem?_eq_some_iff.1 hk).1 hk⟩))))⟩
              obtain ⟨k, hk⟩ := List.getElem?_of_mem hf
              have := hs.dp.2 ⟨k, f, (List.getElem?_eq_some_iff.1 hk).1, hk, hdp⟩
              rw [hd] at this; cases this
          intro i f s hi hs
          have hmem := List.mem_of_getElem? hi
          have hilt := (List.getElem?_eq_some_iff.1 hi).1
          have hF := goodP_ok hgood hmem
          obtain ⟨o, ho, ha⟩ := Stacks_ok p f hF h01 (h01 f hmem)
          rw [ho]
          simp only [Option.bind_some]
          rcases ha with ⟨hb, rfl⟩ | ⟨R, hR, h0, h3, h1, h4⟩
          · right
            exact ⟨some ([], 50), rfl, _, rfl, .inr (.inr (.inr (.inl ⟨hgood, ⟨f, hmem, hb⟩, rfl⟩)))⟩
          · left
            rw [h0]
            simp only [Bool.not_true, Bool.false_eq_true, if_false]
            have hjp : ∀ {β : Type} (K : Bool → Option β), jp K (fun k_16 => (if s.1 then (k_16 true) else (k_16 o.2.1))) = K (s.1 || o.2.1) := by
              intro β K; unfold jp; cases s.1 <;> rfl
            rw [hjp, appL_of (by have := hs.l2; simp; omega)]
            simp only [Option.bind_some]
            refine ⟨_, rfl, by simp [hs.l2], ?_, fun k g hk hg => ?_⟩
            · simp only [Bool.or_eq_true]
              constructor
              · rintro (e | e)
                · obtain ⟨k, g, a, b, c⟩ := hs.dp.1 e
                  exact ⟨k, g, by omega, b, c⟩
                · exact ⟨i, f, by omega, hi, h3.1 e⟩
              · rintro ⟨k, g, a, b, c⟩
                by_cases e : k = i
                · subst e
                  rw [hi] at b; cases b
                  exact .inr (h3.2 c)
                · exact .inl (hs.dp.2 ⟨k, g, by omega, b, c⟩)
            · by_cases e : k = i
              · subst e
                rw [hi] at hg; cases hg
                refine ⟨o.1, ?_, R, hR, h1, h4⟩
                show (s.2 ++ [o.1])[k]? = _
                rw [List.getElem?_append_right (by rw [hs.l2]; exact Nat.le_refl _), hs.l2]; simp
              · obtain ⟨l, a, c⟩ := hs.ok k g (by omega) hg
                refine ⟨l, ?_, c⟩
                show (s.2 ++ [o.1])[k]? = _
                rw [List.getElem?_append_left (by rw [hs.l2]; omega)]; exact a

theorem Copy_eq (p : Program) (hl : p.Funcs.length ≤ 1048576) (hs : ∀ f ∈ p.Funcs, f.Locals.length ≤ 1048576 ∧ f.Code.length ≤ 1048576) : windlassref03_Copy_s p = some p := by
  unfold windlassref03_Copy_s
  have L := rng_inv (σ := List Func) (ρ := Option Program) (xs := p.Funcs) (s0 := []) (fun _ => true) none (fun i s => s = p.Funcs.take i)
    (body := fun (i_2 : Nat) (f_3 : Func) (s_1 : (List Func)) => (((appL 1 ([] : List Int) f_3.Locals).bind fun l_5 => ((appL 24 ([] : List Instr) f_3.Code).bind fun l_6 => ((appL 72 s_1 [(Func.mk f_3.Params l_5 f_3.Result f_3.Keep l_6)]).bind fun l_7 => (some (.nxt l_7))))) : Option (Stp (List Func) (Option Program)))) (by omega) rfl (fun i x s hx e => by
      subst e
      have hlt := (List.getElem?_eq_some_iff.1 hx).1
      have hb := hs x (List.mem_of_getElem? hx)
      rw [if_pos rfl, appL_of (by simp; omega)]
      simp only [Option.bind_some]
      rw [appL_of (by simp; omega)]
      simp only [Option.bind_some]
      rw [appL_of (by simp; omega)]
      refine ⟨_, rfl, ?_⟩
      rw [List.take_succ_eq_append_getElem hlt]
      rw [List.getElem?_eq_getElem hlt] at hx
      cases hx
      rfl)
  simp only [List.all_eq_true, implies_true, if_true] at L
  obtain ⟨s, e1, e2⟩ := L
  rw [e1, e2]
  simp [oc]

theorem rni_all {ρ : Type} {n : Nat} {σ : Type} (s : σ) {body : Nat → σ → Option (Stp σ ρ)} (hn : n ≤ 4611686018427387904) (h : ∀ i, i < n → body i s = some (.nxt s)) : rni body (n : Int) s = some (.fin s) := by
  obtain ⟨s', e1, e2⟩ := rni_inv (body := body) (n := (n : Int)) (s0 := s) (fun _ q => q = s) (by omega) rfl (fun i q hi e => by subst e; exact ⟨q, h i (by omega), rfl⟩)
  rw [e1, e2]
theorem Same_eq (p : Program) (hl : p.Funcs.length ≤ 1048576) (hs : ∀ f ∈ p.Funcs, f.Locals.length ≤ 1048576 ∧ f.Code.length ≤ 1048576) : windlassref03_Same_s p p = some true := by
  unfold windlassref03_Same_s
  simp only [bne_self_eq_false, Bool.false_eq_true, if_false]
  rw [rni_all p (by omega) (fun i hi => ?_)]
  · rfl
  have hlt : i < p.Funcs.length := hi
  have hb := hs _ (List.getElem_mem hlt)
  rw [getI_nat, List.getElem?_eq_getElem hlt]
  simp only [Option.bind_some]
  generalize p.Funcs[i] = f at hb
  have e5 : ∀ {β : Type} (K : Bool → Option β), jp K (fun k_5 => (if (f.Params != f.Params) then (k_5 true) else (if (!(f.Result == f.Result)) then (k_5 true) else (if (f.Keep != f.Keep) then (k_5 true) else (if ((List.length f.Locals : Int) != (List.length f.Locals : Int)) then (k_5 true) else (k_5 ((List.length f.Code : Int) != (List.length f.Code : Int)))))))) = K false := by
    intro β K; unfold jp; simp
  rw [e5]
  simp only [Bool.false_eq_true, if_false]
  rw [rni_all () (by omega) (fun j hj => ?_)]
  · simp only [Option.bind_some, oc]
    rw [rni_all () (by omega) (fun j hj => ?_)]
    · rfl
    rw [getI_nat, List.getElem?_eq_getElem hj]
    simp
  · rw [getI_nat, List.getElem?_eq_getElem hj]
    simp
end Go.Proofs.Ytiocagilhbomgaa
/- KindsChecks: the program's answer is the document's. -/
namespace Go.Proofs.Ytiocagilhbomgaa
open Go Go.Ab Go.RowKit
set_option maxRecDepth 20000
set_option maxHeartbeats 1000000
set_option linter.unusedVariables false
set_option linter.unusedSimpArgs false

theorem both {p : Program} {o1 : Option Types × Int} {o2 : List (List ByteArray) × Int} (h1 : CAns p o1) (h2 : RCAns p o2) :
    (∃ e : Int, e ≠ 0 ∧ o1 = (none, e) ∧ o2 = ([], e)) ∨ (goodP p = true ∧ (∀ f ∈ p.Funcs, ¬ Deep p f) ∧ ∃ T : Types, o1 = (some T, 0) ∧ o2.2 = 0 ∧ T.Reached.length = p.Funcs.length ∧ T.Stacks.length = p.Funcs.length ∧ o2.1.length = p.Funcs.length ∧
      ∀ (k : Nat) f, p.Funcs[k]? = some f → ∃ rd st l, T.Reached[k]? = some rd ∧ T.Stacks[k]? = some st ∧ o2.1[k]? = some l ∧ FGood p f rd st ∧ RGood p f l) := by
  have g : goodP p = true → encP p = true ∧ boundP p = true ∧ (mainP p && p.Funcs.all (headP p)) = true := fun h => by
    unfold goodP at h
    simp only [Bool.and_eq_true] at h ⊢
    exact ⟨h.1, h.2.1, h.2.2⟩
  have ex : (∃ f ∈ p.Funcs, Bad p f) → (∀ f ∈ p.Funcs, ∃ R, Sol p f R) → False := fun ⟨f, hf, hb⟩ hs => by
    obtain ⟨R, hR⟩ := hs f hf
    exact hR.good hb
  have ed : (∃ f ∈ p.Funcs, Deep p f) → (∀ f ∈ p.Funcs, ¬ Deep p f) → False := fun ⟨f, hf, hd⟩ hn => hn f hf hd
  have e01 : encP p = false → encP p = true → False := fun a b => by rw [a] at b; cases b
  have e02 : boundP p = false → boundP p = true → False := fun a b => by rw [a] at b; cases b
  have e03 : (mainP p && p.Funcs.all (headP p)) = false → (mainP p && p.Funcs.all (headP p)) = true → False := fun a b => by rw [a] at b; cases b
  rcases h1 with ⟨a1, rfl⟩ | ⟨a1, a2, rfl⟩ | ⟨a1, a2, a3, rfl⟩ | ⟨a1, a2, rfl⟩ | ⟨a1, a2, a3, rfl⟩ | ⟨a1, a2, T, rfl, a3, a4, a5⟩
  · rcases h2 with ⟨b1, rfl⟩ | ⟨b1, b2, rfl⟩ | ⟨b1, b2, b3, rfl⟩ | ⟨b1, b2, rfl⟩ | ⟨b1, b2, b3, rfl⟩ | ⟨b1, b2, b0, b3, b4⟩
    · exact .inl ⟨30, by decide, rfl, rfl⟩
    · exact (e01 a1 b1).elim
    · exact (e01 a1 b1).elim
    · exact (e01 a1 (g b1).1).elim
    · exact (e01 a1 (g b1).1).elim
    · exact (e01 a1 (g b1).1).elim
  · rcases h2 with ⟨b1, rfl⟩ | ⟨b1, b2, rfl⟩ | ⟨b1, b2, b3, rfl⟩ | ⟨b1, b2, rfl⟩ | ⟨b1, b2, b3, rfl⟩ | ⟨b1, b2, b0, b3, b4⟩
    · exact (e01 b1 a1).elim
    · exact .inl ⟨31, by decide, rfl, rfl⟩
    · exact (e02 a2 b2).elim
    · exact (e02 a2 (g b1).2.1).elim
    · exact (e02 a2 (g b1).2.1).elim
    · exact (e02 a2 (g b1).2.1).elim
  · rcases h2 with ⟨b1, rfl⟩ | ⟨b1, b2, rfl⟩ | ⟨b1, b2, b3, rfl⟩ | ⟨b1, b2, rfl⟩ | ⟨b1, b2, b3, rfl⟩ | ⟨b1, b2, b0, b3, b4⟩
    · exact (e01 b1 a1).elim
    · exact (e02 b2 a2).elim
    · exact .inl ⟨50, by decide, rfl, rfl⟩
    · exact (e03 a3 (g b1).2.2).elim
    · exact (e03 a3 (g b1).2.2).elim
    · exact (e03 a3 (g b1).2.2).elim
  · rcases h2 with ⟨b1, rfl⟩ | ⟨b1, b2, rfl⟩ | ⟨b1, b2, b3, rfl⟩ | ⟨b1, b2, rfl⟩ | ⟨b1, b2, b3, rfl⟩ | ⟨b1, b2, b0, b3, b4⟩
    · exact (e01 b1 (g a1).1).elim
    · exact (e02 b2 (g a1).2.1).elim
    · exact (e03 b3 (g a1).2.2).elim
    · exact .inl ⟨50, by decide, rfl, rfl⟩
    · exact (ex a2 b2).elim
    · refine (ex a2 (fun f hf => ?_)).elim
      obtain ⟨k, hk⟩ := List.getElem?_of_mem hf
      obtain ⟨_, _, R, hR, _⟩ := b4 k f hk
      exact ⟨R, hR⟩
  · rcases h2 with ⟨b1, rfl⟩ | ⟨b1, b2, rfl⟩ | ⟨b1, b2, b3, rfl⟩ | ⟨b1, b2, rfl⟩ | ⟨b1, b2, b3, rfl⟩ | ⟨b1, b2, b0, b3, b4⟩
    · exact (e01 b1 (g a1).1).elim
    · exact (e02 b2 (g a1).2.1).elim
    · exact (e03 b3 (g a1).2.2).elim
    · exact (ex b2 a2).elim
    · exact .inl ⟨31, by decide, rfl, rfl⟩
    · exact (ed a3 b2).elim
  · have hsol : ∀ f ∈ p.Funcs, ∃ R, Sol p f R := fun f hf => by
      obtain ⟨k, hk⟩ := List.getElem?_of_mem hf
      obtain ⟨_, _, _, _, R, hR, _⟩ := a5 k f hk
      exact ⟨R, hR⟩
    rcases h2 with ⟨b1, rfl⟩ | ⟨b1, b2, rfl⟩ | ⟨b1, b2, b3, rfl⟩ | ⟨b1, b2, rfl⟩ | ⟨b1, b2, b3, rfl⟩ | ⟨b1, b2, b0, b3, b4⟩
    · exact (e01 b1 (g a1).1).elim
    · exact (e02 b2 (g a1).2.1).elim
    · exact (e03 b3 (g a1).2.2).elim
    · exact (ex b2 hsol).elim
    · exact (ed b3 a2).elim
    · refine .inr ⟨a1, a2, T, rfl, b0, a3, a4, b3, fun k f hk => ?_⟩
      obtain ⟨rd, st, c1, c2, c3⟩ := a5 k f hk
      obtain ⟨l, d1, d2⟩ := b4 k f hk
      exact ⟨rd, st, l, c1, c2, d1, c3, d2⟩

theorem bind_eq {α β : Type} {x : Option α} {F : α → Option β} {r : β} (h : ∃ o, x = some o ∧ F o = some r) : x.bind F = some r := by
  obtain ⟨o, rfl, h⟩ := h
  exact h

/-- Stacks of a solution are not long: each is of a place, and a place's stack is longer than one before it by two at most. -/
theorem Der.any {p : Program} {f : Func} {R : Nat → Option (List Int)} (hR : Sol p f R) {a : Nat} {y : List Int} (h : R a = some y) : Der p f a y := (hR.2 a y h).1
theorem u8_wf {k : Int} (h : (Lit.int .u8 k).wf = true) : 0 ≤ k ∧ k ≤ 255 := by
  simp [Lit.wf, IntKind.min, IntKind.max, IntKind.bits, IntKind.signed] at h; omega
theorem checks_law (p : Program) (hp : Program.Ok 1048576 p) : windlasslaw05_KindsChecks_s 1048577 p = some true := by
  have hl : p.Funcs.length ≤ 1048576 := hp.1
  have hs : ∀ f ∈ p.Funcs, f.Locals.length ≤ 1048576 ∧ f.Code.length ≤ 1048576 := fun f hf => by
    obtain ⟨_, ⟨a, _⟩, _, _, ⟨b, _⟩⟩ := hp.2 f hf
    exact ⟨a, b⟩
  have hu : ∀ f ∈ p.Funcs, ∀ k ∈ f.Locals, 0 ≤ k := fun f hf k hk => by
    obtain ⟨_, ⟨_, a⟩, _⟩ := hp.2 f hf
    exact (u8_wf (a k hk)).1
  obtain ⟨o1, e1, a1⟩ := Check_ok p hl
  obtain ⟨o2, e2, a2⟩ := rCheck_ok p hl hu
  unfold windlasslaw05_KindsChecks_s
  have e0 : windlasslaw05_first_s 1048577 = some true := by kernel_rfl
  rw [e0, Copy_eq p hl hs]
  simp only [Option.bind_some, Bool.not_true, Bool.false_eq_true, if_false]
  rw [e1]
  simp only [Option.bind_some]
  rw [e2]
  simp only [Option.bind_some]
  rw [Same_eq p hl hs]
  simp only [Option.bind_some, Bool.not_true, Bool.false_eq_true, if_false]
  rcases both a1 a2 with ⟨e, he, rfl, rfl⟩ | ⟨hg, hnd, T, rfl, h0, hT1, hT2, hL, hk⟩
  · have n0 : (e != 0) = true := by simpa using he
    simp only [n0, if_true, jp, Option.isNone_none, beq_self_eq_true]
  · obtain ⟨L, z⟩ := o2
    simp only at h0 hL hk
    subst h0
    simp only [jp, bne_self_eq_false, Bool.false_eq_true, if_false, Option.isNone_some, Option.bind_some]
    have n1 : ((List.length T.Reached : Int) != (List.length L : Int)) = false := by simp; omega
    have n2 : ((List.length T.Stacks : Int) != (List.length L : Int)) = false := by simp; omega
    simp only [n1, n2, Bool.false_eq_true, if_false]
    refine bind_eq ⟨_, rni_all () (by omega) (fun i hi => ?_), rfl⟩
    have hi' : i < p.Funcs.length := by omega
    have hf := List.getElem?_eq_getElem hi'
    obtain ⟨rd, st, l, c1, c2, c3, ⟨R, hR, c4, c5, c6⟩, R', hR', c7, c8⟩ := hk i _ hf
    have hF := goodP_ok hg (List.mem_of_getElem? hf)
    have hndf := hnd _ (List.mem_of_getElem? hf)
    generalize p.Funcs[i] = f at *
    have hRR := hR.uniq hR'
    subst hRR
    rw [getI_nat, c1]
    simp only [Option.bind_some]
    rw [getI_nat, c3]
    simp only [Option.bind_some]
    have m1 : ((List.length rd : Int) != (List.length l : Int)) = false := by simp; omega
    simp only [m1, Bool.false_eq_true, if_false]
    rw [getI_nat, c2]
    simp only [Option.bind_some]
    have m2 : ((List.length st : Int) != (List.length l : Int)) = false := by simp; omega
    simp only [m2, Bool.false_eq_true, if_false]
    refine bind_eq (rng_ex (fun _ _ => True) _ (by have := hF.n; omega) trivial (fun a x s hx _ => .inl ⟨(), ?_, trivial⟩) (fun s _ => rfl))
    have hal := (List.getElem?_eq_some_iff.1 hx).1
    have ha : a < f.Code.length := by omega
    obtain ⟨d1, d2⟩ := c6 a ha
    have d3 := c8 a ha
    rw [hx] at d3
    have hxR : x = qK (R a) := Option.some.inj d3
    subst hxR
    rw [getI_nat, d1]
    simp only [Option.bind_some]
    rw [eqS]
    cases hRa : R a with
    | none =>
      rw [hRa] at d2
      have q0 : decide (qK none = ByteArray.mk #[63]) = true := decide_eq_true rfl
      rw [q0]
      simp only [Option.isSome_none, Bool.not_true, beq_self_eq_true, Bool.not_true, Bool.false_eq_true, if_false, if_true]
      rw [getI_nat, d2]
      rfl
    | some y =>
      rw [hRa] at d2
      have q0 : decide (qK (some y) = ByteArray.mk #[63]) = false := decide_eq_false (strK_quest y)
      rw [q0]
      simp only [Option.isSome_some, Bool.not_false, beq_self_eq_true, Bool.not_true, Bool.false_eq_true, if_false, if_true]
      rw [getI_nat, d2]
      simp only [Option.bind_some, Option.getD_some]
      have hy := (Der.any hR hRa).le hndf
      unfold windlassref05_Told_s
      rw [letters_eq y (by omega)]
      simp only [Option.bind_some]
      rw [eqS]
      have : decide (strK y = qK (some y)) = true := decide_eq_true rfl
      rw [this]
      rfl
end Go.Proofs.Ytiocagilhbomgaa
