/- Plain laws of kinds: what kinds.function answers. -/
import Derived.Test.YtiocagilhbomgaaKdL3
namespace Go.Proofs.Ytiocagilhbomgaa
open Go Go.Ab Go.RowKit
set_option maxRecDepth 20000
set_option linter.unusedVariables false
set_option linter.unusedSimpArgs false

theorem top_jp {β : Type} (y : List Int) (hy : y.length ≤ 1000000000) (K : Int → Option β) :
    jp K (fun k => if decide ((List.length y : Int) > 0) = true then (getI y (I64 ((List.length y : Int) - 1))).bind fun v => k v else k 0) = K (topK y) := by
  unfold jp topK
  cases y with
  | nil => rfl
  | cons a r =>
    have h : ((List.length (a :: r) : Int) > 0) := by simp only [List.length_cons]; omega
    dsimp only
    rw [decide_eq_true h, if_pos rfl, I64_of (by omega), show ((List.length (a :: r) : Int) - 1) = ((r.length : Nat) : Int) by simp only [List.length_cons]; omega, getI_nat]
    rw [List.getLast?_eq_getElem?]
    simp only [List.length_cons, Nat.add_sub_cancel]
    rw [List.getElem?_eq_getElem (by simp)]
    rfl
def okS (op : Int) (y t : List Int) : Bool := decide (t.length ≤ y.length ∧ y.drop (y.length - t.length) = t ∧ ¬ (op = 24 ∧ t.length < y.length))
theorem bad_jp {β : Type} (y t : List Int) (op : Int) (hy : y.length ≤ 1000000) (ht : t.length ≤ 1000000) (K : Bool → Option β) :
    jp K (fun k => if decide (I64 ((List.length y : Int) - (List.length t : Int)) < 0) = true then k true else ((subL y (I64 ((List.length y : Int) - (List.length t : Int))) (List.length y : Int)).bind fun l => (slices_Equal_s l t).bind fun q =>
      if (!q) = true then k true else if (op == 24) = true then k (decide (I64 ((List.length y : Int) - (List.length t : Int)) > 0)) else k false)) = K (!okS op y t) := by
  unfold jp okS
  rw [I64_of (by omega)]
  by_cases h : t.length ≤ y.length
  · have h1 : ¬ ((List.length y : Int) - (List.length t : Int) < 0) := by omega
    rw [decide_eq_false h1]
    simp only [Bool.false_eq_true, if_false]
    unfold subL
    rw [if_pos (by omega)]
    simp only [Option.bind_some]
    rw [show (((List.length y : Int) - (List.length t : Int))).toNat = y.length - t.length by omega, show ((List.length y : Int)).toNat = y.length by omega, List.take_length, Equal_eq _ _ (by simp; omega)]
    simp only [Option.bind_some]
    by_cases h2 : y.drop (y.length - t.length) = t
    · rw [decide_eq_true h2]
      simp only [Bool.not_true, Bool.false_eq_true, if_false]
      by_cases h3 : op = 24
      · have e3 : (op == 24) = true := by simp [h3]
        rw [if_pos e3]
        by_cases h4 : t.length < y.length
        · have : (List.length y : Int) - (List.length t : Int) > 0 := by omega
          rw [decide_eq_true this, decide_eq_false (fun hh => hh.2.2 ⟨h3, h4⟩)]; rfl
        · have : ¬ ((List.length y : Int) - (List.length t : Int) > 0) := by omega
          rw [decide_eq_false this, decide_eq_true ⟨h, h2, fun hh => h4 hh.2⟩]; rfl
      · have e3 : ¬ ((op == 24) = true) := by simp [h3]
        rw [if_neg e3, decide_eq_true ⟨h, h2, fun hh => h3 hh.1⟩]; rfl
    · have e9 : decide (t.length ≤ y.length ∧ y.drop (y.length - t.length) = t ∧ ¬ (op = 24 ∧ t.length < y.length)) = false := decide_eq_false (fun hh => h2 hh.2.1)
      rw [decide_eq_false h2, e9]; rfl
  · have h1 : ((List.length y : Int) - (List.length t : Int) < 0) := by omega
    have e9 : decide (t.length ≤ y.length ∧ y.drop (y.length - t.length) = t ∧ ¬ (op = 24 ∧ t.length < y.length)) = false := decide_eq_false (fun hh => h hh.1)
    dsimp only
    rw [decide_eq_true h1, e9]; rfl
theorem deep_jp {β : Type} (d : Bool) (n : Int) (K : Bool → Option β) : jp K (fun k => if d = true then k true else k (decide (n > 16))) = K (d || decide (n > 16)) := by
  unfold jp; cases d <;> rfl
theorem stepK_eq (p : Program) (f : Func) (i : Instr) (s : List Int) : stepK p f i s = if okS i.Op s (eff p f i (topK s)).1 = true then some (s.take (s.length - (eff p f i (topK s)).1.length) ++ (eff p f i (topK s)).2) else none := by
  unfold stepK okS
  simp only [decide_eq_true_eq]
theorem clone_eq (l : List Int) (h : l.length ≤ 1000000000) : slices_Clone_s l = some l := by unfold slices_Clone_s; rw [appL1 (by simp <;> omega)]; simp
theorem clonez_eq (l : List Int) (h : l.length ≤ 1000000000) : slices_Clone_z_s l = some l := by unfold slices_Clone_z_s; rw [appL1 (by simp <;> omega)]; simp

theorem count_set {r : List Bool} {m : Nat} (h : r[m]? = some false) : (r.set m true).count false + 1 = r.count false := by
  induction r generalizing m with
  | nil => simp at h
  | cons x r ih =>
    cases m with
    | zero => simp at h; subst h; simp
    | succ m =>
      have := ih (m := m) (by simpa using h)
      simp only [List.set_cons_succ, List.count_cons]
      omega

structure IInv (p : Program) (f : Func) (r0 : List Bool) (st0 : List (List Int)) (td0 : List Int) (x' : List Int) (fol : List Int) (k : Nat) (q : List Bool × List (List Int) × List Int) : Prop where
  lr : q.1.length = f.Code.length
  ls : q.2.1.length = f.Code.length
  mono : ∀ m : Nat, r0[m]? = some true → q.1[m]? = some true ∧ q.2.1[m]? = st0[m]?
  new : ∀ m : Nat, q.1[m]? = some true → r0[m]? = some true ∨ (q.2.1[m]? = some x' ∧ (m : Int) ∈ q.2.2 ∧ Der p f m x')
  un : ∀ m : Nat, q.1[m]? = some false → r0[m]? = some false ∧ q.2.1[m]? = some []
  td : ∀ t ∈ q.2.2, ∃ a : Nat, t = a ∧ q.1[a]? = some true
  sub : ∀ t ∈ td0, t ∈ q.2.2
  me : 2 * q.1.count false + q.2.2.length ≤ 2 * r0.count false + td0.length
  got : ∀ (j : Nat) b, j < k → fol[j]? = some b → ∃ m : Nat, b = m ∧ m < f.Code.length ∧ q.1[m]? = some true ∧ q.2.1[m]? = some x'

theorem inner {ρ : Type} (E : ρ) (p : Program) (f : Func) {r0 : List Bool} {st0 : List (List Int)} {td0 : List Int} {x x' : List Int} {a : Nat} {i : Instr} {fol : List Int}
    (hn : f.Code.length ≤ 256) (hd : Der p f a x) (hi : f.Code[a]? = some i) (hs : stepK p f i x = some x') (hx : x'.length ≤ 100000) (hfol : fol = folL i a) (hf0 : ∀ b ∈ fol, 0 ≤ b) (hlr : r0.length = f.Code.length) (hls : st0.length = f.Code.length)
    (hsl : ∀ (m : Nat) (y : List Int), st0[m]? = some y → y.length ≤ 100000)
    (hder : ∀ m : Nat, r0[m]? = some true → ∃ y, st0[m]? = some y ∧ Der p f m y) (hun : ∀ m : Nat, r0[m]? = some false → st0[m]? = some []) (htd : ∀ t ∈ td0, ∃ a : Nat, t = a ∧ r0[a]? = some true) (htl : td0.length ≤ 10000) :
    ∃ o, rng (fun (i_25 : Nat) (vto_26 : Int) (s_24 : ((List Bool) × (List (List Int)) × (List Int))) => ((if (decide (vto_26 ≥ (List.length f.Code : Int))) then (some (.ret E)) else ((getI s_24.1 vto_26).bind fun y_28 => (if (!y_28) then ((getI s_24.1 vto_26).bind fun y_29 => ((getI s_24.2.1 vto_26).bind fun y_31 => ((appL 8 s_24.2.2 [vto_26]).bind fun l_33 => (some (.nxt ((List.set s_24.1 (Int.toNat vto_26) true), (List.set s_24.2.1 (Int.toNat vto_26) x'), l_33)))))) else ((getI s_24.2.1 vto_26).bind fun y_34 => ((slices_Equal_s y_34 x').bind fun equ_35 => (if (!equ_35) then (some (.ret E)) else (some (.nxt (s_24.1, s_24.2.1, s_24.2.2))))))))) : Option (Stp ((List Bool) × (List (List Int)) × (List Int)) ρ))) fol (r0, st0, td0) = some o ∧
      ((∃ q, o = .fin q ∧ IInv p f r0 st0 td0 x' fol fol.length q) ∨ (o = .ret E ∧ Bad p f)) := by
  have hfl : fol.length ≤ 2 := by rw [hfol]; exact folL_le i a
  refine rng_ex (IInv p f r0 st0 td0 x' fol) _ (by omega) ?h0 ?h ?hQ
  case h0 => exact ⟨hlr, hls, fun m h => ⟨h, rfl⟩, fun m h => .inl h, fun m h => ⟨h, hun m h⟩, htd, fun t h => h, Nat.le_refl _, fun j b hj => by omega⟩
  case hQ => exact fun q hq => .inl ⟨q, rfl, hq⟩
  intro j to q hto hq
  have hb : to ∈ folL i a := hfol ▸ List.mem_of_getElem? hto
  have hto0 : 0 ≤ to := hf0 to (List.mem_of_getElem? hto)
  obtain ⟨m, rfl⟩ : ∃ m : Nat, to = m := ⟨to.toNat, by omega⟩
  by_cases hge : (m : Int) ≥ f.Code.length
  · right
    exact ⟨E, by rw [if_pos (by simpa using hge)], .inr ⟨rfl, .inl ⟨a, x, i, hd, hi, .inr ⟨m, hb, by omega⟩⟩⟩⟩
  have hlt : m < f.Code.length := by omega
  have hdm : Der p f m x' := .go hd hi hs hb
  rw [if_neg (by simpa using hge), getI_nat]
  have hrm : q.1[m]? = some (q.1[m]'(by rw [hq.lr]; exact hlt)) := List.getElem?_eq_getElem _
  have hsm : q.2.1[m]? = some (q.2.1[m]'(by rw [hq.ls]; exact hlt)) := List.getElem?_eq_getElem _
  generalize q.1[m]'(by rw [hq.lr]; exact hlt) = rb at hrm
  generalize q.2.1[m]'(by rw [hq.ls]; exact hlt) = sb at hsm
  rw [hrm]
  simp only [Option.bind_some]
  cases rb with
  | false =>
    simp only [Bool.not_false, if_true]
    rw [getI_nat, hsm]
    simp only [Option.bind_some]
    have hql : q.2.2.length ≤ 11000 := by
      have := hq.me
      have h2 : r0.count false ≤ r0.length := List.count_le_length
      omega
    rw [appL_of (by simp; omega)]
    left
    refine ⟨_, rfl, ?_⟩
    have hmf := hq.un m hrm
    have hc := count_set hrm
    refine ⟨by simpa using hq.lr, by simpa using hq.ls, fun k hk => ?_, fun k hk => ?_, fun k hk => ?_, fun t ht => ?_, fun t ht => by simp [hq.sub t ht], ?_, fun k b hk hb2 => ?_⟩
    · have hne : k ≠ m := by rintro rfl; rw [hmf.1] at hk; cases hk
      have := hq.mono k hk
      simp only [Int.toNat_natCast, List.getElem?_set_ne (Ne.symm hne)]
      exact this
    · by_cases e : k = m
      · subst e
        right
        refine ⟨?_, by simp, hdm⟩
        simp only [Int.toNat_natCast]
        rw [List.getElem?_set_self (by rw [hq.ls]; exact hlt)]
      · simp only [Int.toNat_natCast, List.getElem?_set_ne (Ne.symm e)] at hk ⊢
        rcases hq.new k hk with h | ⟨h1, h2, h3⟩
        · exact .inl h
        · exact .inr ⟨h1, by simp [h2], h3⟩
    · by_cases e : k = m
      · subst e
        simp only [Int.toNat_natCast] at hk
        rw [List.getElem?_set_self (by rw [hq.lr]; exact hlt)] at hk
        cases hk
      · simp only [Int.toNat_natCast, List.getElem?_set_ne (Ne.symm e)] at hk ⊢
        exact hq.un k hk
    · simp only [List.mem_append, List.mem_singleton] at ht
      simp only [Int.toNat_natCast]
      rcases ht with ht | rfl
      · obtain ⟨c, rfl, h1⟩ := hq.td t ht
        refine ⟨c, rfl, ?_⟩
        by_cases e : c = m
        · subst e; rw [List.getElem?_set_self (by rw [hq.lr]; exact hlt)]
        · rw [List.getElem?_set_ne (Ne.symm e)]; exact h1
      · exact ⟨m, rfl, by rw [List.getElem?_set_self (by rw [hq.lr]; exact hlt)]⟩
    · have := hq.me
      simp only [Int.toNat_natCast, List.length_append, List.length_singleton]
      omega
    · simp only [Int.toNat_natCast]
      by_cases e : k = j
      · subst e
        rw [hto] at hb2; cases hb2
        exact ⟨m, rfl, hlt, by rw [List.getElem?_set_self (by rw [hq.lr]; exact hlt)], by rw [List.getElem?_set_self (by rw [hq.ls]; exact hlt)]⟩
      · obtain ⟨c, rfl, h1, h2, h3⟩ := hq.got k b (by omega) hb2
        have hne : c ≠ m := by rintro rfl; rw [hrm] at h2; cases h2
        exact ⟨c, rfl, h1, by rw [List.getElem?_set_ne (Ne.symm hne)]; exact h2, by rw [List.getElem?_set_ne (Ne.symm hne)]; exact h3⟩
  | true =>
    simp only [Bool.not_true, Bool.false_eq_true, if_false]
    rw [getI_nat, hsm]
    simp only [Option.bind_some]
    have hsb : sb.length ≤ 100000 ∧ Der p f m sb := by
      rcases hq.new m hrm with h | ⟨h1, _, h3⟩
      · have := (hq.mono m h).2
        rw [hsm] at this
        obtain ⟨y, e1, e2⟩ := hder m h
        rw [e1] at this
        cases this
        exact ⟨hsl m sb e1, e2⟩
      · rw [hsm] at h1; cases h1; exact ⟨hx, h3⟩
    rw [Equal_eq sb x' (by omega)]
    simp only [Option.bind_some]
    by_cases e : sb = x'
    · left
      rw [decide_eq_true e]
      refine ⟨_, rfl, ?_⟩
      refine ⟨hq.lr, hq.ls, hq.mono, hq.new, hq.un, hq.td, hq.sub, hq.me, fun k b hk hb2 => ?_⟩
      by_cases ek : k = j
      · subst ek
        rw [hto] at hb2; cases hb2
        exact ⟨m, rfl, hlt, hrm, by rw [← e]; exact hsm⟩
      · exact hq.got k b (by omega) hb2
    · right
      rw [decide_eq_false e]
      exact ⟨E, rfl, .inr ⟨rfl, .inr ⟨m, sb, x', hsb.2, hdm, e⟩⟩⟩
end Go.Proofs.Ytiocagilhbomgaa
