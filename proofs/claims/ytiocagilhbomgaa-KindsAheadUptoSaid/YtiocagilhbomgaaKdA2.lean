/- Plain laws of kinds: what kinds.function answers. -/
import Derived.Test.YtiocagilhbomgaaKdL3
namespace Go.Proofs.Ytiocagilhbomgaa
open Go Go.Ab Go.RowKit
set_option maxRecDepth 20000
set_option linter.unusedVariables false
set_option linter.unusedSimpArgs false

theorem top_jp {β : Type} (y : List Int) (hy : y.length ≤ 1000000000) (K : Int → Option β) :
    jp K (fun k => if decide ((List.length y : Int) > 0) = true then (getI y (I64 ((List.length y : Int) - 1))).bind fun v => k v else k 0) = K (topK y) := by
  unfold jp topK
  cases y with
  | nil => rfl
  | cons a r =>
    have h : ((List.length (a :: r) : Int) > 0) := by simp only [List.length_cons]; omega
    dsimp only
    rw [decide_eq_true h, if_pos rfl, I64_of (by omega), show ((List.length (a :: r) : Int) - 1) = ((r.length : Nat) : Int) by simp only [List.length_cons]; omega, getI_nat]
    rw [List.getLast?_eq_getElem?]
    simp only [List.length_cons, Nat.add_sub_cancel]
    rw [List.getElem?_eq_getElem (by simp)]
    rfl
def okS (op : Int) (y t : List Int) : Bool := decide (t.length ≤ y.length ∧ y.drop (y.length - t.length) = t ∧ ¬ (op = 24 ∧ t.length < y.length))
theorem bad_jp {β : Type} (y t : List Int) (op : Int) (hy : y.length ≤ 1000000) (ht : t.length ≤ 1000000) (K : Bool → Option β) :
    jp K (fun k => if decide (I64 ((List.length y : Int) - (List.length t : Int)) < 0) = true then k true else ((subL y (I64 ((List.length y : Int) - (List.length t : Int))) (List.length y : Int)).bind fun l => (slices_Equal_s l t).bind fun q =>
      if (!q) = true then k true else if (op == 24) = true then k (decide (I64 ((List.length y : Int) - (List.length t : Int)) > 0)) else k false)) = K (!okS op y t) := by
  unfold jp okS
  rw [I64_of (by omega)]
  by_cases h : t.length ≤ y.length
  · have h1 : ¬ ((List.length y : Int) - (List.length t : Int) < 0) := by omega
    rw [decide_eq_false h1]
    simp only [Bool.false_eq_true, if_false]
    unfold subL
    rw [if_pos (by omega)]
    simp only [Option.bind_some]
    rw [show (((List.length y : Int) - (List.length t : Int))).toNat = y.length - t.length by omega, show ((List.length y : Int)).toNat = y.length by omega, List.take_length, Equal_eq _ _ (by simp; omega)]
    simp only [Option.bind_some]
    by_cases h2 : y.drop (y.length - t.length) = t
    · rw [decide_eq_true h2]
      simp only [Bool.not_true, Bool.false_eq_true, if_false]
      by_cases h3 : op = 24
      · have e3 : (op == 24) = true := by simp [h3]
        rw [if_pos e3]
        by_cases h4 : t.length < y.length
        · have : (List.length y : Int) - (List.length t : Int) > 0 := by omega
          rw [decide_eq_true this, decide_eq_false (fun hh => hh.2.2 ⟨h3, h4⟩)]; rfl
        · have : ¬ ((List.length y : Int) - (List.length t : Int) > 0) := by omega
          rw [decide_eq_false this, decide_eq_true ⟨h, h2, fun hh => h4 hh.2⟩]; rfl
      · have e3 : ¬ ((op == 24) = true) := by simp [h3]
        rw [if_neg e3, decide_eq_true ⟨h, h2, fun hh => h3 hh.1⟩]; rfl
    · have e9 : decide (t.length ≤ y.length ∧ y.drop (y.length - t.length) = t ∧ ¬ (op = 24 ∧ t.length < y.length)) = false := decide_eq_false (fun hh => h2 hh.2.1)
      rw [decide_eq_false h2, e9]; rfl
  · have h1 : ((List.length y : Int) - (List.length t : Int) < 0) := by omega
    have e9 : decide (t.length ≤ y.length ∧ y.drop (y.length - t.length) = t ∧ ¬ (op = 24 ∧ t.length < y.length)) = false := decide_eq_false (fun hh => h hh.1)
    dsimp only
    rw [decide_eq_true h1, e9]; rfl
theorem deep_jp {β : Type} (d : Bool) (n : Int) (K : Bool → Option β) : jp K (fun k => if d = true then k true else k (decide (n > 16))) = K (d || decide (n > 16)) := by
  unfold jp; cases d <;> rfl
theorem stepK_eq (p : Program) (f : Func) (i : Instr) (s : List Int) : stepK p f i s = if okS i.Op s (eff p f i (topK s)).1 = true then some (s.take (s.length - (eff p f i (topK s)).1.length) ++ (eff p f i (topK s)).2) else none := by
  unfold stepK okS
  simp only [decide_eq_true_eq]
theorem clone_eq (l : List Int) (h : l.length ≤ 1000000000) : slices_Clone_s l = some l := by unfold slices_Clone_s; rw [appL1 (by simp <;> omega)]; simp
theorem clonez_eq (l : List Int) (h : l.length ≤ 1000000000) : slices_Clone_z_s l = some l := by unfold slices_Clone_z_s; rw [appL1 (by simp <;> omega)]; simp

theorem count_set {r : List Bool} {m : Nat} (h : r[m]? = some false) : (r.set m true).count false + 1 = r.count false := by
  induction r generalizing m with
  | nil => simp at h
  | cons x r ih =>
    cases m with
    | zero => simp at h; subst h; simp
    | succ m =>
      have := ih (m := m) (by simpa using h)
      simp only [List.set_cons_succ, List.count_cons]
      omega

structure IInv (p : Program) (f : Func) (r0 : List Bool) (st0 : List (List Int)) (td0 : List Int) (x' : List Int) (fol : List Int) (k : Nat) (q : List Bool × List (List Int) × List Int) : Prop where
  lr : q.1.length = f.Code.length
  ls : q.2.1.length = f.Code.length
  mono : ∀ m : Nat, r0[m]? = some true → q.1[m]? = some true ∧ q.2.1[m]? = st0[m]?
  new : ∀ m : Nat, q.1[m]? = some true → r0[m]? = some true ∨ (q.2.1[m]? = some x' ∧ (m : Int) ∈ q.2.2 ∧ Der p f m x')
  un : ∀ m : Nat, q.1[m]? = some false → r0[m]? = some false ∧ q.2.1[m]? = some []
  td : ∀ t ∈ q.2.2, ∃ a : Nat, t = a ∧ q.1[a]? = some true
  sub : ∀ t ∈ td0, t ∈ q.2.2
  me : 2 * q.1.count false + q.2.2.length ≤ 2 * r0.count false + td0.length
  got : ∀ (j : Nat) b, j < k → fol[j]? = some b → ∃ m : Nat, b = m ∧ m < f.Code.length ∧ q.1[m]? = some true ∧ q.2.1[m]? = some x'

theorem inner {ρ : Type} (E : ρ) (p : Program) (f : Func) {r0 : List Bool} {st0 : List (List Int)} {td0 : List Int} {x x' : List Int} {a : Nat} {i : Instr} {fol : List Int}
    (hn : f.Code.length ≤ 256) (hd : Der p f a x) (hi : f.Code[a]? = some i) (hs : stepK p f i x = some x') (hx : x'.length ≤ 100000) (hfol : fol = folL i a) (hf0 : ∀ b ∈ fol, 0 ≤ b) (hlr : r0.length = f.Code.length) (hls : st0.length = f.Code.length)
    (hsl : ∀ (m : Nat) (y : List Int), st0[m]? = some y → y.length ≤ 100000)
    (hder : ∀ m : Nat, r0[m]? = some true → ∃ y, st0[m]? = some y ∧ Der p f m y) (hun : ∀ m : Nat, r0[m]? = some false → st0[m]? = some []) (htd : ∀ t ∈ td0, ∃ a : Nat, t = a ∧ r0[a]? = some true) (htl : td0.length ≤ 10000) :
    ∃ o, rng (fun (i_25 : Nat) (vto_26 : Int) (s_24 : ((List Bool) × (List (List Int)) × (List Int))) => ((if (decide (vto_26 ≥ (List.length f.Code : Int))) then (some (.ret E)) else ((getI s_24.1 vto_26).bind fun y_28 => (if (!y_28) then ((getI s_24.1 vto_26).bind fun y_29 => ((getI s_24.2.1 vto_26).bind fun y_31 => ((appL 8 s_24.2.2 [vto_26]).bind fun l_33 => (some (.nxt ((List.set s_24.1 (Int.toNat vto_26) true), (List.set s_24.2.1 (Int.toNat vto_26) x'), l_33)))))) else ((getI s_24.2.1 vto_26).bind fun y_34 => ((slices_Equal_s y_34 x').bind fun equ_35 => (if (!equ_35) then (some (.ret E)) else (some (.nxt (s_24.1, s_24.2.1, s_24.2.2))))))))) : Option (Stp ((List Bool) × (List (List Int)) × (List Int)) ρ))) fol (r0, st0, td0) = some o ∧
      ((∃ q, o = .fin q ∧ IInv p f r0 st0 td0 x' fol fol.length q) ∨ (o = .ret E ∧ Bad p f)) := by
  have hfl : fol.length ≤ 2 := by rw [hfol]; exact folL_le i a
  refine rng_ex (IInv p f r0 st0 td0 x' fol) _ (by omega) ?h0 ?h ?hQ
  case h0 => exact ⟨hlr, hls, fun m h => ⟨h, rfl⟩, fun m h => .inl h, fun m h => ⟨h, hun m h⟩, htd, fun t h => h, Nat.le_refl _, fun j b hj => by omega⟩
  case hQ => exact fun q hq => .inl ⟨q, rfl, hq⟩
  intro j to q hto hq
  have hb : to ∈ folL i a := hfol ▸ List.mem_of_getElem? hto
  have hto0 : 0 ≤ to := hf0 to (List.mem_of_getElem? hto)
  obtain ⟨m, rfl⟩ : ∃ m : Nat, to = m := ⟨to.toNat, by omega⟩
  by_cases hge : (m : Int) ≥ f.Code.length
  · right
    exact ⟨E, by rw [if_pos (by simpa using hge)], .inr ⟨rfl, .inl ⟨a, x, i, hd, hi, .inr ⟨m, hb, by omega⟩⟩⟩⟩
  have hlt : m < f.Code.length := by omega
  have hdm : Der p f m x' := .go hd hi hs hb
  rw [if_neg (by simpa using hge), getI_nat]
  have hrm : q.1[m]? = some (q.1[m]'(by rw [hq.lr]; exact hlt)) := List.getElem?_eq_getElem _
  have hsm : q.2.1[m]? = some (q.2.1[m]'(by rw [hq.ls]; exact hlt)) := List.getElem?_eq_getElem _
  generalize q.1[m]'(by rw [hq.lr]; exact hlt) = rb at hrm
  generalize q.2.1[m]'(by rw [hq.ls]; exact hlt) = sb at hsm
  rw [hrm]
  simp only [Option.bind_some]
  cases rb with
  | false =>
    simp only [Bool.not_false, if_true]
    rw [getI_nat, hsm]
    simp only [Option.bind_some]
    have hql : q.2.2.length ≤ 11000 := by
      have := hq.me
      have h2 : r0.count false ≤ r0.length := List.count_le_length
      omega
    rw [appL_of (by simp; omega)]
    left
    refine ⟨_, rfl, ?_⟩
    have hmf := hq.un m hrm
    have hc := count_set hrm
    refine ⟨by simpa using hq.lr, by simpa using hq.ls, fun k hk => ?_, fun k hk => ?_, fun k hk => ?_, fun t ht => ?_, fun t ht => by simp [hq.sub t ht], ?_, fun k b hk hb2 => ?_⟩
    · have hne : k ≠ m := by rintro rfl; rw [hmf.1] at hk; cases hk
      have := hq.mono k hk
      simp only [Int.toNat_natCast, List.getElem?_set_ne (Ne.symm hne)]
      exact this
    · by_cases e : k = m
      · subst e
        right
        refine ⟨?_, by simp, hdm⟩
        simp only [Int.toNat_natCast]
        rw [List.getElem?_set_self (by rw [hq.ls]; exact hlt)]
      · simp only [Int.toNat_natCast, List.getElem?_set_ne (Ne.symm e)] at hk ⊢
        rcases hq.new k hk with h | ⟨h1, h2, h3⟩
        · exact .inl h
        · exact .inr ⟨h1, by simp [h2], h3⟩
    · by_cases e : k = m
      · subst e
        simp only [Int.toNat_natCast] at hk
        rw [List.getElem?_set_self (by rw [hq.lr]; exact hlt)] at hk
        cases hk
      · simp only [Int.toNat_natCast, List.getElem?_set_ne (Ne.symm e)] at hk ⊢
        exact hq.un k hk
    · simp only [List.mem_append, List.mem_singleton] at ht
      simp only [Int.toNat_natCast]
      rcases ht with ht | rfl
      · obtain ⟨c, rfl, h1⟩ := hq.td t ht
        refine ⟨c, rfl, ?_⟩
        by_cases e : c = m
        · subst e; rw [List.getElem?_set_self (by rw [hq.lr]; exact hlt)]
        · rw [List.getElem?_set_ne (Ne.symm e)]; exact h1
      · exact ⟨m, rfl, by rw [List.getElem?_set_self (by rw [hq.lr]; exact hlt)]⟩
    · have := hq.me
      simp only [Int.toNat_natCast, List.length_append, List.length_singleton]
      omega
    · simp only [Int.toNat_natCast]
      by_cases e : k = j
      · subst e
        rw [hto] at hb2; cases hb2
        exact ⟨m, rfl, hlt, by rw [List.getElem?_set_self (by rw [hq.lr]; exact hlt)], by rw [List.getElem?_set_self (by rw [hq.ls]; exact hlt)]⟩
      · obtain ⟨c, rfl, h1, h2, h3⟩ := hq.got k b (by omega) hb2
        have hne : c ≠ m := by rintro rfl; rw [hrm] at h2; cases h2
        exact ⟨c, rfl, h1, by rw [List.getElem?_set_ne (Ne.symm hne)]; exact h2, by rw [List.getElem?_set_ne (Ne.symm hne)]; exact h3⟩
  | true =>
    simp only [Bool.not_true, Bool.false_eq_true, if_false]
    rw [getI_nat, hsm]
    simp only [Option.bind_some]
    have hsb : sb.length ≤ 100000 ∧ Der p f m sb := by
      rcases hq.new m hrm with h | ⟨h1, _, h3⟩
      · have := (hq.mono m h).2
        rw [hsm] at this
        obtain ⟨y, e1, e2⟩ := hder m h
        rw [e1] at this
        cases this
        exact ⟨hsl m sb e1, e2⟩
      · rw [hsm] at h1; cases h1; exact ⟨hx, h3⟩
    rw [Equal_eq sb x' (by omega)]
    simp only [Option.bind_some]
    by_cases e : sb = x'
    · left
      rw [decide_eq_true e]
      refine ⟨_, rfl, ?_⟩
      refine ⟨hq.lr, hq.ls, hq.mono, hq.new, hq.un, hq.td, hq.sub, hq.me, fun k b hk hb2 => ?_⟩
      by_cases ek : k = j
      · subst ek
        rw [hto] at hb2; cases hb2
        exact ⟨m, rfl, hlt, hrm, by rw [← e]; exact hsm⟩
      · exact hq.got k b (by omega) hb2
    · right
      rw [decide_eq_false e]
      exact ⟨E, rfl, .inr ⟨rfl, .inr ⟨m, sb, x', hsb.2, hdm, e⟩⟩⟩
end Go.Proofs.Ytiocagilhbomgaa
/- Plain laws of kinds: kinds.function's answer is the one solution, or something is bad. -/
namespace Go.Proofs.Ytiocagilhbomgaa
open Go Go.Ab Go.RowKit
set_option maxRecDepth 20000
set_option linter.unusedVariables false
set_option linter.unusedSimpArgs false

/-- Which functions come to kinds.function. -/
structure FOk (p : Program) (f : Func) : Prop where
  ps : ∀ g ∈ p.Funcs, funcP g = true
  fp : funcP f = true
  bd : boundF f = true
  hd : headP p f = true
theorem FOk.n {p f} (h : FOk p f) : 1 ≤ f.Code.length ∧ f.Code.length ≤ 256 := by
  have h1 := h.bd
  have h2 := h.hd
  unfold boundF at h1
  unfold headP keepP at h2
  simp only [Bool.and_eq_true, decide_eq_true_eq] at h1 h2
  omega
theorem FOk.name {p f} (h : FOk p f) {a : Nat} {i : Instr} (hi : f.Code[a]? = some i) : nameP p f i = true := by
  have h2 := h.hd
  unfold headP codeP at h2
  simp only [Bool.and_eq_true, List.all_eq_true] at h2
  exact (h2.2 i (List.mem_of_getElem? hi)).1
theorem FOk.arg {p f} (h : FOk p f) {a : Nat} {i : Instr} (hi : f.Code[a]? = some i) : 0 ≤ i.Arg ∧ i.Arg ≤ 65535 := by
  have := instr_arg (funcP_code h.fp i (List.mem_of_getElem? hi))
  exact ⟨this.1, this.2.1⟩
theorem FOk.fol {p f} (h : FOk p f) {a : Nat} {i : Instr} (hi : f.Code[a]? = some i) : ∀ b ∈ folL i a, 0 ≤ b := by
  have := (h.arg hi).1
  intro b hb
  unfold folL at hb
  split at hb
  · simp at hb; omega
  · split at hb
    · simp at hb; omega
    · split at hb
      · simp at hb
      · simp at hb; omega
theorem eff_len1 {p f} (h : FOk p f) (i : Instr) (t : Int) : (eff p f i t).1.length ≤ 255 := by
  have aux : ∀ (g : Func) (x : List Int), g ∈ p.Funcs → (g.Locals.take g.Params.toNat, x).1.length ≤ 255 := fun g x hg => by
    have := funcP_head (h.ps g hg)
    simp; omega
  unfold eff locK
  by_cases h0 : i.Op = 1 ∨ i.Op = 28
  · rw [if_pos h0]; exact Nat.le_of_ble_eq_true rfl
  rw [if_neg h0]
  by_cases h1 : i.Op = 2
  · rw [if_pos h1]; exact Nat.le_of_ble_eq_true rfl
  rw [if_neg h1]
  by_cases h2 : i.Op = 3
  · rw [if_pos h2]; exact Nat.le_of_ble_eq_true rfl
  rw [if_neg h2]
  by_cases h3 : i.Op = 4
  · rw [if_pos h3]; exact Nat.le_of_ble_eq_true rfl
  rw [if_neg h3]
  by_cases h4 : i.Op = 5
  · rw [if_pos h4]; exact Nat.le_of_ble_eq_true rfl
  rw [if_neg h4]
  by_cases h5 : i.Op = 6
  · rw [if_pos h5]; exact Nat.le_of_ble_eq_true rfl
  rw [if_neg h5]
  by_cases h6 : i.Op = 21
  · rw [if_pos h6]; exact Nat.le_of_ble_eq_true rfl
  rw [if_neg h6]
  by_cases h7 : i.Op = 22 ∨ i.Op = 26 ∨ i.Op = 29 ∨ i.Op = 30
  · rw [if_pos h7]; exact Nat.le_of_ble_eq_true rfl
  rw [if_neg h7]
  by_cases h8 : i.Op = 23 ∨ i.Op = 25
  · rw [if_pos h8]
    cases e : p.Funcs[i.Arg.toNat]? with
    | none => exact Nat.le_of_ble_eq_true rfl
    | some g => exact aux g _ (List.mem_of_getElem? e)
  rw [if_neg h8]
  by_cases h9 : i.Op = 24
  · rw [if_pos h9]
    cases f.Result <;> exact Nat.le_of_ble_eq_true rfl
  rw [if_neg h9]
  by_cases h10 : i.Op = 27
  · rw [if_pos h10]; exact Nat.le_of_ble_eq_true rfl
  rw [if_neg h10]
  by_cases h11 : i.Op = 31
  · rw [if_pos h11]; exact Nat.le_of_ble_eq_true rfl
  rw [if_neg h11]
  by_cases h12 : i.Op = 32
  · rw [if_pos h12]; exact Nat.le_of_ble_eq_true rfl
  rw [if_neg h12]
  exact Nat.le_of_ble_eq_true rfl

def muK (s : Bool × List Bool × List (List Int) × List Int) : Nat := 2 * s.2.1.count false + s.2.2.2.length
structure KInv (p : Program) (f : Func) (s : Bool × List Bool × List (List Int) × List Int) : Prop where
  lr : s.2.1.length = f.Code.length
  ls : s.2.2.1.length = f.Code.length
  td : ∀ t ∈ s.2.2.2, ∃ a : Nat, t = a ∧ s.2.1[a]? = some true
  z : s.2.1[0]? = some true ∧ s.2.2.1[0]? = some []
  der : ∀ a : Nat, s.2.1[a]? = some true → ∃ x, s.2.2.1[a]? = some x ∧ Der p f a x
  un : ∀ a : Nat, s.2.1[a]? = some false → s.2.2.1[a]? = some []
  done : ∀ a : Nat, s.2.1[a]? = some true → (a : Int) ∉ s.2.2.2 → ∃ i x x', f.Code[a]? = some i ∧ s.2.2.1[a]? = some x ∧ stepK p f i x = some x' ∧ (16 < x'.length → s.1 = true) ∧
    ∀ b ∈ folL i a, ∃ m : Nat, b = m ∧ m < f.Code.length ∧ s.2.1[m]? = some true ∧ s.2.2.1[m]? = some x'
  dp : s.1 = true → Deep p f
  len : ∀ (a : Nat) x, s.2.2.1[a]? = some x → x.length + 4 * muK s ≤ 8 * f.Code.length + 8

/-- What kinds.function is to answer. -/
def FAns (p : Program) (f : Func) (o : List Bool × List (List Int) × Bool × Int) : Prop :=
  (Bad p f ∧ o = ([], [], false, 50)) ∨ ∃ R, Sol p f R ∧ o.2.2.2 = 0 ∧ o.1.length = f.Code.length ∧ o.2.1.length = f.Code.length ∧ (o.2.2.1 = true ↔ Deep p f) ∧
    ∀ a, a < f.Code.length → o.1[a]? = some (R a).isSome ∧ o.2.1[a]? = some ((R a).getD [])

theorem KInv.ans {p f s} (h : KInv p f s) (ht : s.2.2.2 = []) : FAns p f (s.2.1, s.2.2.1, s.1, 0) := by
  right
  have hget : ∀ a : Nat, a < f.Code.length → ∃ b x, s.2.1[a]? = some b ∧ s.2.2.1[a]? = some x := fun a ha =>
    ⟨_, _, List.getElem?_eq_getElem (by rw [h.lr]; exact ha), List.getElem?_eq_getElem (by rw [h.ls]; exact ha)⟩
  let R : Nat → Option (List Int) := fun a => if s.2.1[a]? = some true then s.2.2.1[a]? else none
  have hR : Sol p f R := by
    refine ⟨by simp only [R]; rw [if_pos h.z.1]; exact h.z.2, fun a x hx => ?_⟩
    simp only [R] at hx
    split at hx
    · rename_i hr
      obtain ⟨y, e1, e2⟩ := h.der a hr
      rw [hx] at e1; cases e1
      refine ⟨e2, ?_⟩
      obtain ⟨i, y, x', d1, d2, d3, _, d4⟩ := h.done a hr (by rw [ht]; simp)
      rw [hx] at d2; cases d2
      refine ⟨i, x', d1, d3, fun b hb => ?_⟩
      obtain ⟨m, m1, m2, m3, m4⟩ := d4 b hb
      exact ⟨m, m1, m2, by simp only [R]; rw [if_pos m3]; exact m4⟩
    · cases hx
  refine ⟨R, hR, rfl, h.lr, h.ls, ⟨h.dp, fun ⟨a, x, i, x', d, hi, hs, hl⟩ => ?_⟩, fun a ha => ?_⟩
  · have e := hR.all d
    simp only [R] at e
    split at e
    · rename_i hr
      obtain ⟨i2, y, x2, d1, d2, d3, d5, d4⟩ := h.done a hr (by rw [ht]; simp)
      rw [e] at d2; cases d2
      rw [hi] at d1; cases d1
      rw [hs] at d3; cases d3
      exact d5 hl
    · cases e
  · obtain ⟨b, x, e1, e2⟩ := hget a ha
    simp only [R, e1, e2]
    cases b with
    | true => simp
    | false =>
      have := h.un a e1
      rw [e2] at this; cases this
      simp

theorem last_mem {l : List Int} {m : Nat} (h : l.length = m + 1) : ∃ x, l[m]? = some x ∧ l = l.take m ++ [x] := by
  have hlt : m < l.length := by omega
  refine ⟨l[m], List.getElem?_eq_getElem hlt, ?_⟩
  have := List.take_succ_eq_append_getElem hlt
  rw [← h, List.take_length] at this
  exact this

theorem function_ok (p : Program) (f : Func) (h : FOk p f) : ∃ o, kinds_function_s 1048577 p f = some o ∧ FAns p f o := by
  obtain ⟨hn1, hn2⟩ := h.n
  unfold kinds_function_s
  have mk1 : mkL 1 (List.length f.Code : Int) (List.length f.Code : Int) false = some (List.replicate f.Code.length false) := by
    unfold mkL; rw [if_pos (by omega)]; simp
  have mk2 : mkL 24 (List.length f.Code : Int) (List.length f.Code : Int) ([] : List Int) = some (List.replicate f.Code.length []) := by
    unfold mkL; rw [if_pos (by omega)]; simp
  rw [mk1, mk2]
  simp only [Option.bind_some]
  rw [getI_lt (by omega) (by simp; omega)]
  simp only [Option.bind_some]
  refine bind_ex (whileN_ex (KInv p f) muK _ ?h 1048577 _ ?h0 ?hm)
  case h0 =>
    have hc : (List.set (List.replicate f.Code.length false) 0 true).count false + 1 = f.Code.length := by
      have := count_set (r := List.replicate f.Code.length false) (m := 0) (by rw [List.getElem?_replicate, if_pos (by omega)])
      simpa using this
    have g : ∀ a : Nat, (List.set (List.replicate f.Code.length false) 0 true)[a]? = some true → a = 0 := fun a ha => by
      by_cases e : a = 0
      · exact e
      · rw [List.getElem?_set_ne (Ne.symm e)] at ha
        rw [List.getElem?_replicate] at ha
        split at ha <;> cases ha
    refine ⟨by simp, by simp, fun t ht => ?_, ⟨?_, ?_⟩, fun a ha => ?_, fun a ha => ?_, fun a ha hn => ?_, (fun e => (Bool.false_ne_true e).elim), fun a x hx => ?_⟩
    · simp only [List.mem_singleton] at ht
      refine ⟨0, by simpa using ht, ?_⟩
      rw [show Int.toNat 0 = 0 from rfl, List.getElem?_set_self (by simp; omega)]
    · rw [show Int.toNat 0 = 0 from rfl, List.getElem?_set_self (by simp; omega)]
    · simp only [List.getElem?_replicate]; rw [if_pos (by omega)]
    · have := g a ha
      subst this
      exact ⟨[], by simp only [List.getElem?_replicate]; rw [if_pos (by omega)], .start⟩
    · simp only [List.getElem?_replicate]
      have : a < f.Code.length := by
        have := (List.getElem?_eq_some_iff.1 ha).1
        simpa using this
      rw [if_pos this]
    · have := g a ha
      subst this
      simp at hn
    · simp only [List.getElem?_replicate] at hx
      split at hx
      · cases hx
        simp only [muK, List.length_nil, List.length_singleton]
        rw [show Int.toNat 0 = 0 from rfl]
        omega
      · cases hx
  case hm =>
    have : (List.set (List.replicate f.Code.length false) 0 true).count false ≤ f.Code.length := by
      have := List.count_le_length (a := false) (l := List.set (List.replicate f.Code.length false) 0 true)
      simpa using this
    simp only [muK]
    rw [show Int.toNat 0 = 0 from rfl]
    simp only [List.length_singleton]
    omega
  intro s hs
  obtain ⟨dp, rd, st, td⟩ := s
  by_cases htd : td = []
  · -- the end
    right; left
    subst htd
    refine ⟨(dp, rd, st, []), by simp, ?_⟩
    simp only [oc]
    have L := rni_inv (σ := List (List Int)) (ρ := Option (List Bool × List (List Int) × Bool × Int)) (n := (List.length st : Int)) (s0 := st) (fun i s => s = st)
      (body := fun (i_37 : Nat) (s_36 : (List (List Int))) => (((getI s_36 (i_37 : Int)).bind fun y_38 => ((slices_Clone_z_s y_38).bind fun clo_39 => ((getI s_36 (i_37 : Int)).bind fun y_40 => (some (.nxt (List.set s_36 (Int.toNat (i_37 : Int)) clo_39)))))))) (by have := hs.ls; simp only at this; omega) rfl (fun i s hi e => by
        subst e
        have hlt : i < s.length := by omega
        rw [getI_nat, List.getElem?_eq_getElem hlt]
        simp only [Option.bind_some]
        rw [clonez_eq _ (by have := hs.len i _ (List.getElem?_eq_getElem hlt); omega)]
        exact ⟨_, rfl, by simp⟩)
    obtain ⟨s', e1, rfl⟩ := L
    rw [e1]
    exact ⟨_, rfl, hs.ans rfl⟩
  obtain ⟨k, hk⟩ : ∃ k, td.length = k + 1 := ⟨td.length - 1, by have := List.length_pos_iff.2 htd; omega⟩
  obtain ⟨t, ht1, ht2⟩ := last_mem hk
  have htl : td.length ≤ 2100 := by
    have h1 := hs.len 0 [] hs.z.2
    simp only [muK] at h1
    omega
  obtain ⟨a, rfl, hra⟩ := hs.td t (by simp only; rw [ht2]; simp)
  simp only at hra
  obtain ⟨x, hxa, hda⟩ := hs.der a hra
  simp only at hxa
  have halt : a < f.Code.length := by
    have := (List.getElem?_eq_some_iff.1 hra).1
    have h2 := hs.lr
    simp only at h2
    omega
  have hia : f.Code[a]? = some f.Code[a] := List.getElem?_eq_getElem halt
  generalize f.Code[a] = i at hia
  have hxl := hs.len a x hxa
  have hpos : decide ((List.length td : Int) > 0) = true := by simp; omega
  dsimp only
  rw [hpos]
  simp only [if_true]
  rw [show I64 ((List.length td : Int) - 1) = (k : Int) by rw [I64_of (by omega)]; omega, getI_nat, ht1]
  simp only [Option.bind_some]
  have hsub : subL td 0 (k : Int) = some (td.take k) := by
    unfold subL; rw [if_pos (by omega)]; simp
  rw [hsub]
  simp only [Option.bind_some]
  rw [getI_nat, hxa]
  simp only [Option.bind_some]
  rw [getI_nat, hia]
  simp only [Option.bind_some]
  rw [top_jp x (by omega)]
  rw [effect_eq p f i _ (h.arg hia) (h.name hia) h.ps]
  simp only [Option.bind_some]
  have hel := eff_len1 h i (topK x)
  have hel2 := eff_len p f i (topK x)
  have hst := stepK_eq p f i x
  generalize eff p f i (topK x) = e at hel hel2 hst ⊢
  rw [bad_jp x e.1 i.Op (by omega) (by omega)]
  cases hok : okS i.Op x e.1 with
  | false =>
    right; right
    rw [hok] at hst
    simp only [Bool.false_eq_true, if_false] at hst
    refine ⟨some ([], [], false, 50), by simp, ?_⟩
    exact ⟨_, rfl, .inl ⟨.inl ⟨a, x, i, hda, hia, .inl hst⟩, rfl⟩⟩
  | true =>
    rw [hok] at hst
    simp only [if_true] at hst
    have hle : e.1.length ≤ x.length := by
      unfold okS at hok
      simp only [decide_eq_true_eq] at hok
      exact hok.1
    simp only [Bool.not_true, Bool.false_eq_true, if_false]
    have hsub2 : subL x 0 (I64 ((List.length x : Int) - (List.length e.1 : Int))) = some (x.take (x.length - e.1.length)) := by
      rw [I64_of (by omega)]
      unfold subL
      rw [if_pos (by omega), show (((List.length x : Int) - (List.length e.1 : Int))).toNat = x.length - e.1.length by omega]
      simp
    rw [hsub2]
    simp only [Option.bind_some]
    rw [clone_eq _ (by simp; omega)]
    simp only [Option.bind_some]
    rw [appL1 (by simp; omega)]
    simp only [Option.bind_some]
    rw [deep_jp, follow_eq i a (by omega)]
    simp only [Option.bind_some]
    have hx'l := step_len hst
    generalize x.take (x.length - e.1.length) ++ e.2 = x' at hst hx'l ⊢
    have hmu : muK (dp, rd, st, td) = 2 * rd.count false + (k + 1) := by simp only [muK, hk]
    obtain ⟨o, ho, hq⟩ := inner (some (.ret (some (([] : List Bool), ([] : List (List Int)), false, (50 : Int)))) : Option (Stp (Bool × List Bool × List (List Int) × List Int) (Option (List Bool × List (List Int) × Bool × Int)))) p f (r0 := rd) (st0 := st) (td0 := td.take k) (x := x) (x' := x') (a := a) (i := i) (fol := folL i a)
      hn2 hda hia hst (by omega) rfl (h.fol hia) hs.lr hs.ls (fun m y hy => by have := hs.len m y hy; omega) hs.der hs.un (fun t ht => hs.td t (List.mem_of_mem_take ht)) (by simp; omega)
    rw [ho]
    simp only [Option.bind_some]
    rcases hq with ⟨q, rfl, hq⟩ | ⟨rfl, hb⟩
    · left
      refine ⟨_, rfl, ?_, ?_⟩
      · have hlk : (td.take k).length = k := by simp; omega
        have hme := hq.me
        rw [hlk] at hme
        have hz := hq.mono 0 hs.z.1
        refine ⟨hq.lr, hq.ls, hq.td, ⟨hz.1, hz.2.trans hs.z.2⟩, fun m hm => ?_, fun m hm => (hq.un m hm).2, fun m hm hmt => ?_, fun hd => ?_, fun m y hy => ?_⟩
        · rcases hq.new m hm with h1 | ⟨h1, _, h3⟩
          · obtain ⟨y, e1, e2⟩ := hs.der m h1
            exact ⟨y, (hq.mono m h1).2.trans e1, e2⟩
          · exact ⟨x', h1, h3⟩
        · simp only at hm hmt
          rcases hq.new m hm with h1 | ⟨_, h2, _⟩
          · by_cases hma : m = a
            · subst hma
              refine ⟨i, x, x', hia, (hq.mono m h1).2.trans hxa, hst, fun hl => by simp; right; omega, fun b hb => ?_⟩
              obtain ⟨j, hj⟩ := List.getElem?_of_mem hb
              exact hq.got j b (List.getElem?_eq_some_iff.1 hj).1 hj
            · have hnt : (m : Int) ∉ td := by
                intro hin
                rw [ht2] at hin
                simp only [List.mem_append, List.mem_singleton] at hin
                rcases hin with hin | hin
                · exact hmt (hq.sub _ hin)
                · exact hma (Int.ofNat.inj hin)
              obtain ⟨i2, y, y', d1, d2, d3, d4, d5⟩ := hs.done m h1 hnt
              refine ⟨i2, y, y', d1, (hq.mono m h1).2.trans d2, d3, fun hl => by have := d4 hl; simp only at this; simp [this], fun b hb => ?_⟩
              obtain ⟨c, c1, c2, c3, c4⟩ := d5 b hb
              exact ⟨c, c1, c2, (hq.mono c c3).1, (hq.mono c c3).2.trans c4⟩
          · exact (hmt h2).elim
        · simp only [Bool.or_eq_true, decide_eq_true_eq] at hd
          rcases hd with hd | hd
          · exact hs.dp hd
          · exact ⟨a, x, i, x', hda, hia, hst, by omega⟩
        · have hmu2 : muK (dp || decide ((List.length x' : Int) > 16), q.1, q.2.1, q.2.2) = 2 * q.1.count false + q.2.2.length := rfl
          rw [hmu2]
          simp only at hy
          rw [hmu] at hxl
          have hmlt : m < f.Code.length := by
            have := (List.getElem?_eq_some_iff.1 hy).1
            have h2 := hq.ls
            omega
          have hb : q.1[m]? = some (q.1[m]'(by rw [hq.lr]; exact hmlt)) := List.getElem?_eq_getElem _
          generalize q.1[m]'(by rw [hq.lr]; exact hmlt) = bb at hb
          cases bb with
          | false =>
            have := (hq.un m hb).2
            rw [hy] at this; cases this
            simp; omega
          | true =>
            rcases hq.new m hb with h1 | ⟨h1, _, _⟩
            · have e1 := (hq.mono m h1).2
              rw [hy] at e1
              have := hs.len m y e1.symm
              rw [hmu] at this
              omega
            · rw [hy] at h1; cases h1
              omega
      · have hme := hq.me
        have hlk : (td.take k).length = k := by simp; omega
        rw [hlk] at hme
        rw [hmu]
        simp only [muK]
        omega
    · right; right
      exact ⟨_, rfl, _, rfl, .inl ⟨hb, rfl⟩⟩
end Go.Proofs.Ytiocagilhbomgaa
/- Plain laws of kinds: what kinds.Check answers; what is reached goes on to what is reached. -/
namespace Go.Proofs.Ytiocagilhbomgaa
open Go Go.Ab Go.RowKit
set_option maxRecDepth 20000
set_option linter.unusedVariables false
set_option linter.unusedSimpArgs false

def mainP (p : Program) : Bool := match p.Funcs with | f :: _ => decide (f.Params = 0) && !f.Result | [] => false
def goodP (p : Program) : Bool := encP p && (boundP p && (mainP p && p.Funcs.all (headP p)))
theorem goodP_ok {p : Program} (h : goodP p = true) {f : Func} (hf : f ∈ p.Funcs) : FOk p f := by
  unfold goodP encP boundP at h
  simp only [Bool.and_eq_true, decide_eq_true_eq, List.all_eq_true] at h
  exact ⟨h.1.2, h.1.2 f hf, h.2.1.1 f hf, h.2.2.2 f hf⟩
/-- A function's types are the solution. -/
def FGood (p : Program) (f : Func) (rd : List Bool) (st : List (List Int)) : Prop :=
  ∃ R, Sol p f R ∧ rd.length = f.Code.length ∧ st.length = f.Code.length ∧ ∀ a, a < f.Code.length → rd[a]? = some (R a).isSome ∧ st[a]? = some ((R a).getD [])
def CAns (p : Program) (o : Option Types × Int) : Prop :=
  (encP p = false ∧ o = (none, 30)) ∨ (encP p = true ∧ boundP p = false ∧ o = (none, 31)) ∨ (encP p = true ∧ boundP p = true ∧ (mainP p && p.Funcs.all (headP p)) = false ∧ o = (none, 50)) ∨
  (goodP p = true ∧ (∃ f ∈ p.Funcs, Bad p f) ∧ o = (none, 50)) ∨
  (goodP p = true ∧ (∀ f ∈ p.Funcs, ∃ R, Sol p f R) ∧ (∃ f ∈ p.Funcs, Deep p f) ∧ o = (none, 31)) ∨
  (goodP p = true ∧ (∀ f ∈ p.Funcs, ¬ Deep p f) ∧ ∃ T : Types, o = (some T, 0) ∧ T.Reached.length = p.Funcs.length ∧ T.Stacks.length = p.Funcs.length ∧
    ∀ (k : Nat) f, p.Funcs[k]? = some f → ∃ rd st, T.Reached[k]? = some rd ∧ T.Stacks[k]? = some st ∧ FGood p f rd st)

structure LInv (p : Program) (j : Nat) (s : Bool × List (List Bool) × List (List (List Int))) : Prop where
  l1 : s.2.1.length = j
  l2 : s.2.2.length = j
  dp : s.1 = true ↔ ∃ (k : Nat) (f : Func), k < j ∧ p.Funcs[k]? = some f ∧ Deep p f
  ok : ∀ (k : Nat) f, k < j → p.Funcs[k]? = some f → ∃ rd st, s.2.1[k]? = some rd ∧ s.2.2[k]? = some st ∧ FGood p f rd st

theorem Check_ok (p : Program) (hl : p.Funcs.length ≤ 1048576) : ∃ o, kinds_Check_s 1048577 p = some o ∧ CAns p o := by
  unfold kinds_Check_s
  obtain ⟨l, he⟩ := Encode_eq p
  rw [he]
  simp only [Option.bind_some]
  cases henc : encP p with
  | false => exact ⟨(none, 30), rfl, .inl ⟨henc, rfl⟩⟩
  | true =>
    have e0 : ((if true = true then (0 : Int) else 30) != 0) = false := rfl
    simp only [e0, Bool.false_eq_true, if_false]
    rw [Bounded_eq p hl]
    simp only [Option.bind_some]
    cases hbd : boundP p with
    | false => exact ⟨(none, 31), rfl, .inr (.inl ⟨henc, hbd, rfl⟩)⟩
    | true =>
      simp only [Bool.not_true, Bool.false_eq_true, if_false]
      have henc2 := henc
      unfold encP at henc2
      simp only [Bool.and_eq_true, decide_eq_true_eq, List.all_eq_true] at henc2
      have hmain : ∀ {β : Type} (K : Bool → Option β), jp K (fun k_3 => ((getI p.Funcs 0).bind fun y_5 => (if (decide (y_5.Params > 0)) then (k_3 true) else (k_3 y_5.Result)))) = K (!mainP p) := by
        intro β K
        unfold jp mainP
        match hf : p.Funcs with
        | [] => rw [hf] at henc2; simp at henc2
        | f :: r =>
          have hfp := funcP_head (henc2.2 f (by rw [hf]; simp))
          show ((getI (f :: r) ((0 : Nat) : Int)).bind _) = _
          rw [getI_nat]
          simp only [List.getElem?_cons_zero, Option.bind_some]
          by_cases h0 : f.Params > 0
          · have : ¬ f.Params = 0 := by omega
            simp [h0, this]
          · have : f.Params = 0 := by omega
            simp [h0, this]
      rw [hmain]
      cases hm : mainP p with
      | false => exact ⟨(none, 50), rfl, .inr (.inr (.inl ⟨henc, hbd, by rw [hm]; rfl, rfl⟩))⟩
      | true =>
        simp only [Bool.not_true, Bool.false_eq_true, if_false]
        have L := rng_inv (σ := Unit) (ρ := Option (Option Types × Int)) (xs := p.Funcs) (s0 := ()) (headP p) (some (none, 50)) (fun _ _ => True)
          (body := fun (i_7 : Nat) (f_8 : Func) (s_6 : Unit) => (((kinds_head_s p f_8).bind fun hea_10 => (if (!hea_10) then (some (.ret (some (none, 50)))) else (some (.nxt ())))) : Option (Stp Unit (Option ((Option Types) × Int))))) (by omega) trivial (fun i x s hx _ => by
            rw [head_eq p x (henc2.2 x (List.mem_of_getElem? hx)) hl]
            cases headP p x with
            | false => rfl
            | true => exact ⟨(), rfl, trivial⟩)
        cases hh : p.Funcs.all (headP p) with
        | false =>
          rw [hh] at L
          simp only [Bool.false_eq_true, if_false] at L
          rw [L]
          exact ⟨(none, 50), rfl, .inr (.inr (.inl ⟨henc, hbd, by rw [hm, hh]; rfl, rfl⟩))⟩
        | true =>
          rw [hh] at L
          simp only [if_true] at L
          obtain ⟨_, e1, _⟩ := L
          rw [e1]
          simp only [Option.bind_some, oc]
          have hgood : goodP p = true := by unfold goodP; rw [henc, hbd, hm, hh]; rfl
          refine bind_ex (rng_ex (LInv p) _ (by omega) ?h0 ?h ?hQ)
          case h0 => exact ⟨rfl, rfl, ⟨fun e => (Bool.false_ne_true e).elim, fun ⟨k, f, hk, _⟩ => by omega⟩, fun k f hk => by omega⟩
          case hQ =>
            intro s hs
            cases hd : s.1 with
            | true =>
              refine ⟨(none, 31), by simp only [oc]; rw [hd]; rfl, .inr (.inr (.inr (.inr (.inl ⟨hgood, fun f hf => ?_, ?_, rfl⟩))))⟩
              · obtain ⟨k, hk⟩ := List.getElem?_of_mem hf
                obtain ⟨_, _, _, _, R, hR, _⟩ := hs.ok k f (List.getElem?_eq_some_iff.1 hk).1 hk
                exact ⟨R, hR⟩
              · obtain ⟨k, f, _, h2, h3⟩ := hs.dp.1 hd
                exact ⟨f, List.mem_of_getElem? h2, h3⟩
            | false =>
              refine ⟨(some ⟨s.2.1, s.2.2⟩, 0), by simp only [oc]; rw [hd]; rfl, .inr (.inr (.inr (.inr (.inr ⟨hgood, fun f hf hdp => ?_, ⟨s.2.1, s.2.2⟩, rfl, hs.l1, hs.l2, fun k f hk => hs.ok k f (List.getElem?_eq_some_iff.1 hk).1 hk⟩))))⟩
              obtain ⟨k, hk⟩ := List.getElem?_of_mem hf
              have := hs.dp.2 ⟨k, f, (List.getElem?_eq_some_iff.1 hk).1, hk, hdp⟩
              rw [hd] at this; cases this
          intro i f s hi hs
          have hmem := List.mem_of_getElem? hi
          have hilt := (List.getElem?_eq_some_iff.1 hi).1
          have hF := goodP_ok hgood hmem
          obtain ⟨o, ho, ha⟩ := function_ok p f hF
          rw [ho]
          simp only [Option.bind_some]
          rcases ha with ⟨hb, rfl⟩ | ⟨R, hR, h0, h1, h2, h3, h4⟩
          · right
            exact ⟨some (none, 50), rfl, _, rfl, .inr (.inr (.inr (.inl ⟨hgood, ⟨f, hmem, hb⟩, rfl⟩)))⟩
          · left
            have e2 : (o.2.2.2 != 0) = false := by rw [h0]; rfl
            simp only [e2, Bool.false_eq_true, if_false]
            have hjp : ∀ {β : Type} (K : Bool → Option β), jp K (fun k_16 => (if s.1 then (k_16 true) else (k_16 o.2.2.1))) = K (s.1 || o.2.2.1) := by
              intro β K; unfold jp; cases s.1 <;> rfl
            rw [hjp, appL_of (by have := hs.l1; simp; omega)]
            simp only [Option.bind_some]
            rw [appL_of (by have := hs.l2; simp; omega)]
            simp only [Option.bind_some]
            refine ⟨_, rfl, by simp [hs.l1], by simp [hs.l2], ?_, fun k g hk hg => ?_⟩
            · simp only [Bool.or_eq_true]
              constructor
              · rintro (e | e)
                · obtain ⟨k, g, a, b, c⟩ := hs.dp.1 e
                  exact ⟨k, g, by omega, b, c⟩
                · exact ⟨i, f, by omega, hi, h3.1 e⟩
              · rintro ⟨k, g, a, b, c⟩
                by_cases e : k = i
                · subst e
                  rw [hi] at b; cases b
                  exact .inr (h3.2 c)
                · exact .inl (hs.dp.2 ⟨k, g, by omega, b, c⟩)
            · by_cases e : k = i
              · subst e
                rw [hi] at hg; cases hg
                refine ⟨o.1, o.2.1, ?_, ?_, R, hR, h1, h2, h4⟩
                · show (s.2.1 ++ [o.1])[k]? = _
                  rw [List.getElem?_append_right (by rw [hs.l1]; exact Nat.le_refl _), hs.l1]; simp
                · show (s.2.2 ++ [o.2.1])[k]? = _
                  rw [List.getElem?_append_right (by rw [hs.l2]; exact Nat.le_refl _), hs.l2]; simp
              · obtain ⟨rd, st, a, b, c⟩ := hs.ok k g (by omega) hg
                refine ⟨rd, st, ?_, ?_, c⟩
                · show (s.2.1 ++ [o.1])[k]? = _
                  rw [List.getElem?_append_left (by rw [hs.l1]; omega)]; exact a
                · show (s.2.2 ++ [o.2.1])[k]? = _
                  rw [List.getElem?_append_left (by rw [hs.l2]; omega)]; exact b

/-- A stack that can come to be where none is too deep. -/
theorem Der.le {p f a x} (d : Der p f a x) (h : ¬ Deep p f) : x.length ≤ 16 := by
  cases d with
  | start => simp
  | go d hi hs hb =>
    rename_i a' s i
    rcases Nat.lt_or_ge 16 x.length with h1 | h1
    · exact (h ⟨a', s, i, x, d, hi, hs, h1⟩).elim
    · exact h1
theorem step_ret {p f i s s'} (h : stepK p f i s = some s') (h24 : i.Op = 24) : s.length = if f.Result = true then 1 else 0 := by
  rw [stepK_eq] at h
  split at h
  · rename_i hok
    unfold okS at hok
    simp only [decide_eq_true_eq] at hok
    obtain ⟨h1, _, h3⟩ := hok
    have e : (eff p f i (topK s)).1 = if f.Result = true then [0] else [] := by
      unfold eff; simp [h24]
    rw [e] at h1 h3
    have h4 : ¬ (if f.Result = true then [(0 : Int)] else []).length < s.length := fun hh => h3 ⟨h24, hh⟩
    cases hr : f.Result <;> rw [hr] at h1 h4 <;> simp at h1 h4 ⊢ <;> omega
  · cases h
end Go.Proofs.Ytiocagilhbomgaa
/- Plain law: what does nothing, put ahead of a function's code, changes no answer of kinds.Check. -/
namespace Go.Proofs.Ytiocagilhbomgaa
open Go Go.Ab Go.RowKit
set_option maxRecDepth 20000
set_option linter.unusedVariables false
set_option linter.unusedSimpArgs false

def shI (i : Instr) : Instr := if i.Op = 21 ∨ i.Op = 22 then ⟨i.Op, i.Arg + 2, i.Imm⟩ else i
def aheadF (f : Func) : Func := { f with Code := ⟨1, 0, 0⟩ :: ⟨31, 0, 0⟩ :: f.Code.map shI }
def JOK (f : Func) : Prop := ∀ i ∈ f.Code, (i.Op = 21 ∨ i.Op = 22) → 0 ≤ i.Arg ∧ i.Arg ≤ 65533
theorem shI_op (i : Instr) : (shI i).Op = i.Op := by unfold shI; split <;> rfl
theorem shI_imm (i : Instr) : (shI i).Imm = i.Imm := by unfold shI; split <;> rfl
theorem shI_no {i : Instr} (h : ¬ (i.Op = 21 ∨ i.Op = 22)) : shI i = i := if_neg h
theorem shI_yes {i : Instr} (h : i.Op = 21 ∨ i.Op = 22) : shI i = ⟨i.Op, i.Arg + 2, i.Imm⟩ := if_pos h
theorem instrP_sh {i : Instr} (h : (i.Op = 21 ∨ i.Op = 22) → 0 ≤ i.Arg ∧ i.Arg ≤ 65533) : instrP (shI i) = instrP i := by
  by_cases hj : i.Op = 21 ∨ i.Op = 22
  · obtain ⟨h1, h2⟩ := h hj
    have hw : widthI i.Op = 2 := by rcases hj with e | e <;> rw [e] <;> rfl
    unfold instrP
    rw [shI_op, shI_imm, shI_yes hj, hw]
    have e1 : (i.Imm = 0 ∧ 0 ≤ i.Arg + 2 ∧ i.Arg + 2 < 256 ^ (2 : Int).toNat) ↔ (i.Imm = 0 ∧ 0 ≤ i.Arg ∧ i.Arg < 256 ^ (2 : Int).toNat) := by
      have : (256 : Int) ^ (2 : Int).toNat = 65536 := by decide
      rw [this]
      constructor <;> rintro ⟨a, b, c⟩ <;> exact ⟨a, by omega, by omega⟩
    simp only [e1]
    rw [if_neg (by decide), if_neg (by decide)]
  · rw [shI_no hj]
theorem all_map_sh {P Q : Instr → Bool} : ∀ (l : List Instr), (∀ i ∈ l, P (shI i) = Q i) → (l.map shI).all P = l.all Q
  | [], _ => rfl
  | i :: r, h => by rw [List.map_cons, List.all_cons, List.all_cons, h i (by simp), all_map_sh r (fun j hj => h j (by simp [hj]))]
theorem funcP_ahead {f : Func} (hj : JOK f) (hl : 1 ≤ f.Code.length ∧ f.Code.length ≤ 254) : funcP (aheadF f) = funcP f := by
  unfold funcP
  have e1 : (aheadF f).Code.all instrP = f.Code.all instrP := by
    show (instrP ⟨1, 0, 0⟩ && (instrP ⟨31, 0, 0⟩ && (f.Code.map shI).all instrP)) = _
    rw [all_map_sh f.Code (fun i hi => instrP_sh (hj i hi))]
    rfl
  have e2 : (0 ≤ (aheadF f).Params ∧ (aheadF f).Params ≤ (aheadF f).Locals.length ∧ (aheadF f).Locals.length ≤ 255 ∧ -1 ≤ (aheadF f).Keep ∧ (aheadF f).Keep ≤ 254 ∧ (aheadF f).Code.length ≤ 65535) ↔
      (0 ≤ f.Params ∧ f.Params ≤ f.Locals.length ∧ f.Locals.length ≤ 255 ∧ -1 ≤ f.Keep ∧ f.Keep ≤ 254 ∧ f.Code.length ≤ 65535) := by
    have : (aheadF f).Code.length = f.Code.length + 2 := by simp [aheadF]
    rw [this]
    show (0 ≤ f.Params ∧ f.Params ≤ f.Locals.length ∧ f.Locals.length ≤ 255 ∧ -1 ≤ f.Keep ∧ f.Keep ≤ 254 ∧ f.Code.length + 2 ≤ 65535) ↔ _
    constructor <;> rintro ⟨a, b, c, d, e, g⟩ <;> exact ⟨a, b, c, d, e, by omega⟩
  rw [e1]
  simp only [e2]
  rfl
theorem boundF_ahead {f : Func} (hl : 1 ≤ f.Code.length ∧ f.Code.length ≤ 254) : boundF (aheadF f) = boundF f := by
  unfold boundF
  have : (aheadF f).Code.length = f.Code.length + 2 := by simp [aheadF]
  rw [this]
  show decide (f.Params ≤ 4 ∧ f.Locals.length ≤ 16 ∧ f.Code.length + 2 ≤ 256) = _
  exact decide_eq_decide.2 (by constructor <;> rintro ⟨a, b, c⟩ <;> exact ⟨a, b, by omega⟩)
theorem all_set {α : Type} {P Q : α → Bool} : ∀ (xs : List α) (k : Nat) (f f' : α), xs[k]? = some f → (∀ g, P g = Q g) → P f' = Q f → (xs.set k f').all P = xs.all Q
  | [], k, f, f', h, _, _ => by simp at h
  | x :: r, 0, f, f', h, hg, hf => by
    have : x = f := by simpa using h
    subst this
    simp only [List.set_cons_zero, List.all_cons, hf]
    congr 1
    exact List.all_congr rfl hg
  | x :: r, k + 1, f, f', h, hg, hf => by
    simp only [List.set_cons_succ, List.all_cons, hg x]
    rw [all_set r k f f' (by simpa using h) hg hf]
structure Ah (p q : Program) (k : Nat) (f : Func) : Prop where
  at' : p.Funcs[k]? = some f
  q : q = ⟨p.Funcs.set k (aheadF f)⟩
  j : JOK f
  l : 1 ≤ f.Code.length ∧ f.Code.length ≤ 254
variable {p q : Program} {k : Nat} {f : Func}
theorem Ah.len (h : Ah p q k f) : q.Funcs.length = p.Funcs.length := by rw [h.q]; simp
theorem Ah.klt (h : Ah p q k f) : k < p.Funcs.length := (List.getElem?_eq_some_iff.1 h.at').1
theorem Ah.get (h : Ah p q k f) (n : Nat) : q.Funcs[n]? = if n = k then some (aheadF f) else p.Funcs[n]? := by
  rw [h.q]
  show (p.Funcs.set k (aheadF f))[n]? = _
  by_cases hn : n = k
  · subst hn; rw [if_pos rfl, List.getElem?_set_self h.klt]
  · rw [if_neg hn, List.getElem?_set_ne (fun e => hn e.symm)]
theorem Ah.enc (h : Ah p q k f) : encP q = encP p := by
  unfold encP
  rw [h.len]
  congr 1
  rw [h.q]
  exact all_set _ _ _ _ h.at' (fun _ => rfl) (funcP_ahead h.j h.l)
theorem Ah.bound (h : Ah p q k f) : boundP q = boundP p := by
  unfold boundP
  rw [h.len]
  congr 1
  rw [h.q]
  exact all_set _ _ _ _ h.at' (fun _ => rfl) (boundF_ahead h.l)
theorem Ah.main (h : Ah p q k f) : mainP q = mainP p := by
  have h0 := h.get 0
  unfold mainP
  match e : p.Funcs, e' : q.Funcs with
  | [], [] => rfl
  | [], y :: _ => have := h.len; rw [e, e'] at this; simp at this
  | x :: _, [] => have := h.len; rw [e, e'] at this; simp at this
  | x :: _, y :: _ =>
    rw [e, e'] at h0
    simp only [List.getElem?_cons_zero] at h0
    by_cases hk : 0 = k
    · rw [if_pos hk] at h0
      have := h.at'
      rw [← hk, e] at this
      have hx : x = f := by simpa using this
      have hy : y = aheadF f := by simpa using h0
      subst hx; subst hy
      rfl
    · rw [if_neg hk] at h0
      have hy : y = x := by simpa using h0
      subst hy
      rfl
theorem Ah.name (h : Ah p q k f) (g : Func) (i : Instr) : nameP q g i = nameP p g i := by unfold nameP; rw [h.len]
theorem Ah.head (h : Ah p q k f) (g : Func) : headP q g = headP p g := by
  unfold headP
  congr 1
  exact List.all_congr rfl (fun i => by unfold codeP; rw [h.name])
theorem Ah.name' (h : Ah p q k f) {i : Instr} : nameP q (aheadF f) (shI i) = nameP p f i := by
  have hc : (aheadF f).Code.length = f.Code.length + 2 := by simp [aheadF]
  unfold nameP
  rw [shI_op, h.len, hc]
  by_cases hj : i.Op = 21 ∨ i.Op = 22
  · have h1 : ¬ (i.Op = 2 ∨ i.Op = 3) := by omega
    have h2 : ¬ i.Op = 4 := by omega
    have h3 : ¬ (i.Op = 23 ∨ i.Op = 25) := by omega
    rw [if_neg h1, if_neg h1, if_neg h2, if_neg h2, if_neg h3, if_neg h3, if_pos hj, if_pos hj, shI_yes hj]
    exact decide_eq_decide.2 (by simp only; omega)
  · rw [shI_no hj, if_neg hj, if_neg hj]
    rfl
theorem Ah.head' (h : Ah p q k f) : headP q (aheadF f) = headP p f := by
  have hc : (aheadF f).Code.length = f.Code.length + 2 := by simp [aheadF]
  unfold headP
  have e1 : keepP (aheadF f) = keepP f := by
    unfold keepP
    rw [hc]
    congr 1
    show decide (f.Code.length + 2 ≠ 0 ∧ f.Keep < f.Locals.length) = _
    exact decide_eq_decide.2 (by have := h.l.1; constructor <;> rintro ⟨a, b⟩ <;> exact ⟨by omega, b⟩)
  rw [e1]
  congr 1
  show (codeP q (aheadF f) ⟨1, 0, 0⟩ && (codeP q (aheadF f) ⟨31, 0, 0⟩ && (f.Code.map shI).all (codeP q (aheadF f)))) = _
  rw [all_map_sh (Q := codeP p f) f.Code (fun i _ => by unfold codeP; rw [h.name', shI_op]; rfl)]
  rfl
theorem Ah.heads (h : Ah p q k f) : q.Funcs.all (headP q) = p.Funcs.all (headP p) := by
  rw [show q.Funcs = p.Funcs.set k (aheadF f) by rw [h.q]]
  exact all_set _ _ _ _ h.at' h.head h.head'

/-! ### stacks -/
theorem Ah.eff (h : Ah p q k f) (g : Func) (i : Instr) (t : Int) : eff q g i t = eff p g i t := by
  unfold Go.Proofs.Ytiocagilhbomgaa.eff
  rw [h.get i.Arg.toNat]
  by_cases hn : i.Arg.toNat = k
  · rw [if_pos hn, hn, h.at']; rfl
  · rw [if_neg hn]
theorem Ah.step (h : Ah p q k f) (g : Func) (i : Instr) (s : List Int) : stepK q g i s = stepK p g i s := by
  unfold stepK
  rw [h.eff]
theorem eff_sh (p : Program) (f : Func) (i : Instr) (t : Int) : Go.Proofs.Ytiocagilhbomgaa.eff p (aheadF f) (shI i) t = Go.Proofs.Ytiocagilhbomgaa.eff p f i t := by
  unfold Go.Proofs.Ytiocagilhbomgaa.eff
  rw [shI_op]
  by_cases hj : i.Op = 21 ∨ i.Op = 22
  · have h1 : ¬ (i.Op = 2) := by omega
    have h2 : ¬ (i.Op = 3) := by omega
    have h3 : ¬ (i.Op = 23 ∨ i.Op = 25) := by omega
    simp only [if_neg h1, if_neg h2, if_neg h3]
    rfl
  · rw [shI_no hj]
    rfl
theorem Ah.step' (h : Ah p q k f) (i : Instr) (s : List Int) : stepK q (aheadF f) (shI i) s = stepK p f i s := by
  rw [h.step]
  unfold stepK
  rw [eff_sh, shI_op]
theorem fol_sh (i : Instr) (a : Nat) : folL (shI i) (a + 2) = (folL i a).map (· + 2) := by
  unfold folL
  rw [shI_op]
  by_cases h1 : i.Op = 21
  · rw [if_pos h1, if_pos h1, shI_yes (.inl h1)]; rfl
  · by_cases h2 : i.Op = 22
    · rw [if_neg h1, if_neg h1, if_pos h2, if_pos h2, shI_yes (.inr h2)]
      simp only [List.map_cons, List.map_nil]
      congr 1
    · rw [if_neg h1, if_neg h1, if_neg h2, if_neg h2]
      split
      · rfl
      · simp only [List.map_cons, List.map_nil]
        congr 1
theorem der_mono {p q : Program} {g : Func} (h : ∀ i s, stepK q g i s = stepK p g i s) {a s} (d : Der p g a s) : Der q g a s := by
  induction d with
  | start => exact .start
  | go _ hi hs hb ih => exact .go ih hi (by rw [h]; exact hs) hb
theorem bad_mono {p q : Program} {g : Func} (h : ∀ i s, stepK q g i s = stepK p g i s) (b : Bad p g) : Bad q g := by
  rcases b with ⟨a, s, i, d, hi, hb⟩ | ⟨b, s1, s2, d1, d2, hne⟩
  · exact .inl ⟨a, s, i, der_mono h d, hi, by rw [h]; exact hb⟩
  · exact .inr ⟨b, s1, s2, der_mono h d1, der_mono h d2, hne⟩
theorem deep_mono {p q : Program} {g : Func} (h : ∀ i s, stepK q g i s = stepK p g i s) (b : Deep p g) : Deep q g := by
  obtain ⟨a, s, i, s', d, hi, hs, hl⟩ := b
  exact ⟨a, s, i, s', der_mono h d, hi, by rw [h]; exact hs, hl⟩
theorem code_at (f : Func) (a : Nat) : (aheadF f).Code[a + 2]? = (f.Code[a]?).map shI := by
  show (f.Code.map shI)[a]? = _
  rw [List.getElem?_map]
theorem step0 (q : Program) (g : Func) : stepK q g ⟨1, 0, 0⟩ [] = some [0] := by
  unfold stepK Go.Proofs.Ytiocagilhbomgaa.eff; simp
theorem step1 (q : Program) (g : Func) : stepK q g ⟨31, 0, 0⟩ [0] = some [] := by
  unfold stepK Go.Proofs.Ytiocagilhbomgaa.eff; simp [topK]
theorem der0 : Der q (aheadF f) 0 [] := .start
theorem der1 : Der q (aheadF f) 1 [0] := .go (i := ⟨1, 0, 0⟩) der0 rfl (step0 _ _) (by simp [folL])
theorem der2 : Der q (aheadF f) 2 [] := .go (i := ⟨31, 0, 0⟩) der1 rfl (step1 _ _) (by simp [folL])
theorem Ah.up (h : Ah p q k f) {a s} (d : Der p f a s) : Der q (aheadF f) (a + 2) s := by
  induction d with
  | start => exact der2
  | @go a s s' i b _ hi hs hb ih =>
    refine .go (i := shI i) ih (by rw [code_at, hi]; rfl) (by rw [h.step']; exact hs) ?_
    rw [fol_sh]
    exact List.mem_map.2 ⟨(b : Int), hb, by omega⟩
theorem fol_ge {i : Instr} {a : Nat} (hi : (i.Op = 21 ∨ i.Op = 22) → 0 ≤ i.Arg) : ∀ b ∈ folL i a, 0 ≤ b := by
  intro b hb
  unfold folL at hb
  split at hb
  · have := hi (.inl (by assumption)); simp at hb; omega
  · split at hb
    · have := hi (.inr (by assumption)); simp at hb; omega
    · split at hb
      · simp at hb
      · simp at hb; omega
theorem Ah.down (h : Ah p q k f) {a s} (d : Der q (aheadF f) a s) : (a = 0 ∧ s = []) ∨ (a = 1 ∧ s = [0]) ∨ ∃ c, a = c + 2 ∧ Der p f c s := by
  induction d with
  | start => exact .inl ⟨rfl, rfl⟩
  | @go a s s' i b _ hi hs hb ih =>
    rcases ih with ⟨rfl, rfl⟩ | ⟨rfl, rfl⟩ | ⟨c, rfl, dc⟩
    · have : i = ⟨1, 0, 0⟩ := (Option.some.inj hi).symm
      subst this
      rw [step0] at hs
      cases hs
      simp [folL] at hb
      exact .inr (.inl ⟨by omega, rfl⟩)
    · have : i = ⟨31, 0, 0⟩ := (Option.some.inj hi).symm
      subst this
      rw [step1] at hs
      cases hs
      simp [folL] at hb
      exact .inr (.inr ⟨0, by omega, .start⟩)
    · rw [code_at] at hi
      obtain ⟨i0, hi0, rfl⟩ := Option.map_eq_some_iff.1 hi
      rw [h.step'] at hs
      rw [fol_sh] at hb
      obtain ⟨b0, hb0, e⟩ := List.mem_map.1 hb
      have hge := fol_ge (fun q => (h.j i0 (List.mem_of_getElem? hi0) q).1) b0 hb0
      exact .inr (.inr ⟨b0.toNat, by omega, .go dc hi0 hs (by rw [Int.toNat_of_nonneg hge]; exact hb0)⟩)
theorem Ah.bad' (h : Ah p q k f) : Bad q (aheadF f) ↔ Bad p f := by
  have hc : ((aheadF f).Code.length : Int) = (f.Code.length : Int) + 2 := by simp [aheadF]; omega
  constructor
  · rintro (⟨a, s, i, d, hi, hb⟩ | ⟨b, s1, s2, d1, d2, hne⟩)
    · rcases h.down d with ⟨rfl, rfl⟩ | ⟨rfl, rfl⟩ | ⟨c, rfl, dc⟩
      · have : i = ⟨1, 0, 0⟩ := (Option.some.inj hi).symm
        subst this
        rw [step0] at hb
        rcases hb with hb | ⟨b, hb, hl⟩
        · cases hb
        · simp [folL] at hb; have := h.l.1; omega
      · have : i = ⟨31, 0, 0⟩ := (Option.some.inj hi).symm
        subst this
        rw [step1] at hb
        rcases hb with hb | ⟨b, hb, hl⟩
        · cases hb
        · simp [folL] at hb; have := h.l.1; omega
      · rw [code_at] at hi
        obtain ⟨i0, hi0, rfl⟩ := Option.map_eq_some_iff.1 hi
        rw [h.step', fol_sh] at hb
        refine .inl ⟨c, s, i0, dc, hi0, hb.imp id ?_⟩
        rintro ⟨b, hb, hl⟩
        obtain ⟨b0, hb0, rfl⟩ := List.mem_map.1 hb
        exact ⟨b0, hb0, by omega⟩
    · rcases h.down d1 with ⟨rfl, rfl⟩ | ⟨rfl, rfl⟩ | ⟨c, rfl, dc⟩
      · rcases h.down d2 with ⟨_, rfl⟩ | ⟨e, _⟩ | ⟨c, e, _⟩
        · exact (hne rfl).elim
        · omega
        · omega
      · rcases h.down d2 with ⟨e, _⟩ | ⟨_, rfl⟩ | ⟨c, e, _⟩
        · omega
        · exact (hne rfl).elim
        · omega
      · rcases h.down d2 with ⟨e, _⟩ | ⟨e, _⟩ | ⟨c2, e, dc2⟩
        · omega
        · omega
        · obtain rfl : c = c2 := by omega
          exact .inr ⟨c, s1, s2, dc, dc2, hne⟩
  · rintro (⟨a, s, i, d, hi, hb⟩ | ⟨b, s1, s2, d1, d2, hne⟩)
    · refine .inl ⟨a + 2, s, shI i, h.up d, by rw [code_at, hi]; rfl, ?_⟩
      rw [h.step', fol_sh]
      refine hb.imp id ?_
      rintro ⟨b, hb, hl⟩
      exact ⟨b + 2, List.mem_map.2 ⟨b, hb, rfl⟩, by omega⟩
    · exact .inr ⟨b + 2, s1, s2, h.up d1, h.up d2, hne⟩
theorem Ah.deep' (h : Ah p q k f) : Deep q (aheadF f) ↔ Deep p f := by
  constructor
  · rintro ⟨a, s, i, s', d, hi, hs, hl⟩
    rcases h.down d with ⟨rfl, rfl⟩ | ⟨rfl, rfl⟩ | ⟨c, rfl, dc⟩
    · have : i = ⟨1, 0, 0⟩ := (Option.some.inj hi).symm
      subst this
      rw [step0] at hs
      cases hs
      simp at hl
    · have : i = ⟨31, 0, 0⟩ := (Option.some.inj hi).symm
      subst this
      rw [step1] at hs
      cases hs
      simp at hl
    · rw [code_at] at hi
      obtain ⟨i0, hi0, rfl⟩ := Option.map_eq_some_iff.1 hi
      rw [h.step'] at hs
      exact ⟨c, s, i0, s', dc, hi0, hs, hl⟩
  · rintro ⟨a, s, i, s', d, hi, hs, hl⟩
    exact ⟨a + 2, s, shI i, s', h.up d, by rw [code_at, hi]; rfl, by rw [h.step']; exact hs, hl⟩
theorem Ah.ex (h : Ah p q k f) {B : Program → Func → Prop} (h1 : ∀ g, B q g ↔ B p g) (h2 : B q (aheadF f) ↔ B p f) : (∃ g ∈ q.Funcs, B q g) ↔ ∃ g ∈ p.Funcs, B p g := by
  constructor
  · rintro ⟨g, hg, hb⟩
    obtain ⟨n, hn⟩ := List.mem_iff_getElem?.1 hg
    rw [h.get n] at hn
    by_cases e : n = k
    · rw [if_pos e] at hn
      cases hn
      exact ⟨f, List.mem_of_getElem? h.at', h2.1 hb⟩
    · rw [if_neg e] at hn
      exact ⟨g, List.mem_of_getElem? hn, (h1 g).1 hb⟩
  · rintro ⟨g, hg, hb⟩
    obtain ⟨n, hn⟩ := List.mem_iff_getElem?.1 hg
    by_cases e : n = k
    · subst e
      rw [h.at'] at hn
      cases hn
      exact ⟨aheadF f, List.mem_of_getElem? ((h.get n).trans (if_pos rfl)), h2.2 hb⟩
    · exact ⟨g, List.mem_of_getElem? ((h.get n).trans ((if_neg e).trans hn)), (h1 g).2 hb⟩
/-- What Check's error is. -/
def ErrIs (p : Program) (e : Int) : Prop :=
  (encP p = false ∧ e = 30) ∨ (encP p = true ∧ boundP p = false ∧ e = 31) ∨ (encP p = true ∧ boundP p = true ∧ (mainP p && p.Funcs.all (headP p)) = false ∧ e = 50) ∨
  (goodP p = true ∧ (∃ f ∈ p.Funcs, Bad p f) ∧ e = 50) ∨ (goodP p = true ∧ (¬ ∃ f ∈ p.Funcs, Bad p f) ∧ (∃ f ∈ p.Funcs, Deep p f) ∧ e = 31) ∨
  (goodP p = true ∧ (¬ ∃ f ∈ p.Funcs, Bad p f) ∧ (¬ ∃ f ∈ p.Funcs, Deep p f) ∧ e = 0)
theorem CAns.err {p : Program} {o : Option Types × Int} (h : CAns p o) : ErrIs p o.2 := by
  rcases h with ⟨h, rfl⟩ | ⟨h1, h2, rfl⟩ | ⟨h1, h2, h3, rfl⟩ | ⟨h1, h2, rfl⟩ | ⟨h1, h2, h3, rfl⟩ | ⟨h1, h2, T, rfl, l1, l2, h3⟩
  · exact .inl ⟨h, rfl⟩
  · exact .inr (.inl ⟨h1, h2, rfl⟩)
  · exact .inr (.inr (.inl ⟨h1, h2, h3, rfl⟩))
  · exact .inr (.inr (.inr (.inl ⟨h1, h2, rfl⟩)))
  · refine .inr (.inr (.inr (.inr (.inl ⟨h1, ?_, h3, rfl⟩))))
    rintro ⟨g, hg, hb⟩
    obtain ⟨R, hR⟩ := h2 g hg
    exact hR.good hb
  · refine .inr (.inr (.inr (.inr (.inr ⟨h1, ?_, ?_, rfl⟩))))
    · rintro ⟨g, hg, hb⟩
      obtain ⟨n, hn⟩ := List.mem_iff_getElem?.1 hg
      obtain ⟨rd, st, _, _, R, hR, _⟩ := h3 n g hn
      exact hR.good hb
    · rintro ⟨g, hg, hb⟩
      exact h2 g hg hb
theorem Ah.err (h : Ah p q k f) {e e' : Int} (he : ErrIs p e) (he' : ErrIs q e') : e = e' := by
  have hb : (∃ g ∈ q.Funcs, Bad q g) ↔ ∃ g ∈ p.Funcs, Bad p g := h.ex (fun g => ⟨bad_mono (fun i s => (h.step g i s).symm), bad_mono (h.step g)⟩) h.bad'
  have hd : (∃ g ∈ q.Funcs, Deep q g) ↔ ∃ g ∈ p.Funcs, Deep p g := h.ex (fun g => ⟨deep_mono (fun i s => (h.step g i s).symm), deep_mono (h.step g)⟩) h.deep'
  unfold ErrIs goodP at he he'
  rw [h.enc, h.bound, h.main, h.heads, hb, hd] at he'
  generalize encP p = a at he he'
  generalize boundP p = b at he he'
  generalize (mainP p && p.Funcs.all (headP p)) = c at he he'
  generalize (∃ g ∈ p.Funcs, Bad p g) = B at he he'
  generalize (∃ g ∈ p.Funcs, Deep p g) = D at he he'
  cases a <;> cases b <;> cases c <;> simp at he he' <;> (try omega)
  by_cases hB : B <;> by_cases hD : D <;> simp [hB, hD] at he he' <;> omega
end Go.Proofs.Ytiocagilhbomgaa
/- Plain law: KindsAhead. -/
namespace Go.Proofs.Ytiocagilhbomgaa
open Go Go.Ab Go.RowKit
set_option maxRecDepth 20000
set_option linter.unusedVariables false
set_option linter.unusedSimpArgs false

theorem bindA {α β : Type} {x : Option α} {F : α → Option β} {r : β} (h : ∃ o, x = some o ∧ F o = some r) : x.bind F = some r := by
  obtain ⟨o, rfl, h⟩ := h
  exact h
theorem CopyA_eq (p : Program) (hl : p.Funcs.length ≤ 1048576) (hs : ∀ f ∈ p.Funcs, f.Locals.length ≤ 1048576 ∧ f.Code.length ≤ 1048576) : windlassref03_Copy_s p = some p := by
  unfold windlassref03_Copy_s
  have L := rng_inv (σ := List Func) (ρ := Option Program) (xs := p.Funcs) (s0 := []) (fun _ => true) none (fun i s => s = p.Funcs.take i)
    (body := fun (i_2 : Nat) (f_3 : Func) (s_1 : (List Func)) => (((appL 1 ([] : List Int) f_3.Locals).bind fun l_5 => ((appL 24 ([] : List Instr) f_3.Code).bind fun l_6 => ((appL 72 s_1 [(Func.mk f_3.Params l_5 f_3.Result f_3.Keep l_6)]).bind fun l_7 => (some (.nxt l_7))))) : Option (Stp (List Func) (Option Program)))) (by omega) rfl (fun i x s hx e => by
      subst e
      have hlt := (List.getElem?_eq_some_iff.1 hx).1
      have hb := hs x (List.mem_of_getElem? hx)
      rw [if_pos rfl, appL_of (by simp; omega)]
      simp only [Option.bind_some]
      rw [appL_of (by simp; omega)]
      simp only [Option.bind_some]
      rw [appL_of (by simp; omega)]
      refine ⟨_, rfl, ?_⟩
      rw [List.take_succ_eq_append_getElem hlt]
      rw [List.getElem?_eq_getElem hlt] at hx
      cases hx
      rfl)
  simp only [List.all_eq_true, implies_true, if_true] at L
  obtain ⟨s, e1, e2⟩ := L
  rw [e1, e2]
  simp [oc]
/-- One round of the loop. -/
def ahB (i : Nat) (s : List Instr) : Option (Stp (List Instr) (Option Bool)) :=
  jp (fun (s_10 : Bool) => (if s_10 then (jp (fun (s_13 : Bool) => (if s_13 then (some (.ret (some true))) else ((getI s (i : Int)).bind fun y_17 => (some (.nxt (List.set s (Int.toNat (i : Int)) ⟨y_17.Op, I64 (y_17.Arg + 2), y_17.Imm⟩)))))) (fun k_12 => ((getI s (i : Int)).bind fun y_14 => (if (decide (y_14.Arg < 0)) then (k_12 true) else (k_12 (decide (y_14.Arg > 65533))))))) else (some (.nxt s)))) (fun k_9 => ((getI s (i : Int)).bind fun y_11 => (if (y_11.Op == 21) then (k_9 true) else (k_9 (y_11.Op == 22)))))
theorem ahB_eq {i : Nat} {s : List Instr} {x : Instr} (h : s[i]? = some x) :
    ahB i s = if x.Op = 21 ∨ x.Op = 22 then (if 0 ≤ x.Arg ∧ x.Arg ≤ 65533 then some (.nxt (s.set i (shI x))) else some (.ret (some true))) else some (.nxt s) := by
  unfold ahB
  simp only [getI_nat, h, Option.bind_some, jp, Int.toNat_natCast]
  have key : (if (x.Op == 21) = true then true else (x.Op == 22)) = decide (x.Op = 21 ∨ x.Op = 22) := by
    by_cases h1 : x.Op = 21 <;> by_cases h2 : x.Op = 22 <;> simp [h1, h2]
  by_cases hj : x.Op = 21 ∨ x.Op = 22
  · have e2 : ∀ (F : Bool → Option (Stp (List Instr) (Option Bool))), (if (x.Op == 21) = true then F true else F (x.Op == 22)) = F true := by
      intro F
      rcases hj with e | e
      · rw [e]; rfl
      · rw [e]; rfl
    rw [if_pos hj]
    have := e2 (fun b => if b = true then (if decide (x.Arg < 0) = true then (if true = true then some (.ret (some true)) else some (.nxt (List.set s i ⟨x.Op, I64 (x.Arg + 2), x.Imm⟩))) else (if decide (x.Arg > 65533) = true then some (.ret (some true)) else some (.nxt (List.set s i ⟨x.Op, I64 (x.Arg + 2), x.Imm⟩)))) else some (.nxt s))
    refine Eq.trans this ?_
    rw [if_pos rfl]
    by_cases h0 : x.Arg < 0
    · rw [if_pos (by simpa using h0), if_pos rfl, if_neg (by omega)]
    · rw [if_neg (by simpa using h0)]
      by_cases h1 : x.Arg > 65533
      · rw [if_pos (by simpa using h1), if_neg (by omega)]
      · rw [if_neg (by simpa using h1), if_pos (by omega), I64_of (by omega), shI_yes hj]
  · have n1 : (x.Op == 21) = false := by simp; exact fun e => hj (.inl e)
    have n2 : (x.Op == 22) = false := by simp; exact fun e => hj (.inr e)
    rw [if_neg hj]
    simp [n1, n2]
theorem ah_loop (l : List Instr) (hl : l.length ≤ 254) : ∃ o, rni ahB (l.length : Int) l = some o ∧ (o = .ret (some true) ∨ (o = .fin (l.map shI) ∧ ∀ x ∈ l, (x.Op = 21 ∨ x.Op = 22) → 0 ≤ x.Arg ∧ x.Arg ≤ 65533)) := by
  refine rni_ex (fun i s => s = (l.take i).map shI ++ l.drop i ∧ ∀ x ∈ l.take i, (x.Op = 21 ∨ x.Op = 22) → 0 ≤ x.Arg ∧ x.Arg ≤ 65533) _ (by omega) (by simp) ?_ ?_
  · rintro i s hi ⟨rfl, hj⟩
    have hlt : i < l.length := by omega
    have hx : ((l.take i).map shI ++ l.drop i)[i]? = some l[i] := by
      have h1 : ((l.take i).map shI).length = i := by simp; omega
      rw [List.getElem?_append_right (by omega), h1, Nat.sub_self, List.getElem?_drop, Nat.add_zero, List.getElem?_eq_getElem hlt]
    have hset : ∀ y, ((l.take i).map shI ++ l.drop i).set i y = (l.take i).map shI ++ y :: l.drop (i + 1) := by
      intro y
      have h1 : ((l.take i).map shI).length = i := by simp; omega
      rw [List.set_append_right _ _ (by omega), h1, Nat.sub_self, List.drop_eq_getElem_cons hlt, List.set_cons_zero]
    have htk : (l.take (i + 1)).map shI ++ l.drop (i + 1) = (l.take i).map shI ++ shI l[i] :: l.drop (i + 1) := by
      rw [List.take_succ_eq_append_getElem hlt, List.map_append, List.append_assoc]; rfl
    rw [ahB_eq hx]
    by_cases hop : l[i].Op = 21 ∨ l[i].Op = 22
    · rw [if_pos hop]
      by_cases ha : 0 ≤ l[i].Arg ∧ l[i].Arg ≤ 65533
      · rw [if_pos ha]
        refine .inl ⟨_, rfl, by rw [hset, htk], ?_⟩
        intro x hx
        rw [List.take_succ_eq_append_getElem hlt] at hx
        rcases List.mem_append.1 hx with h | h
        · exact hj x h
        · rw [List.mem_singleton.1 h]; exact fun _ => ha
      · rw [if_neg ha]
        exact .inr ⟨_, rfl, .inl rfl⟩
    · rw [if_neg hop]
      refine .inl ⟨_, rfl, ?_, ?_⟩
      · rw [htk, shI_no hop, List.drop_eq_getElem_cons hlt]
      · intro x hx
        rw [List.take_succ_eq_append_getElem hlt] at hx
        rcases List.mem_append.1 hx with h | h
        · exact hj x h
        · rw [List.mem_singleton.1 h]; exact fun h => (hop h).elim
  · rintro s ⟨rfl, hj⟩
    refine .inr ⟨by simp, fun x hx => hj x (by simpa using hx)⟩
theorem U64_nn (x : Int) : 0 ≤ U64 x := by
  show 0 ≤ IntKind.u64.wrap x
  unfold IntKind.wrap
  exact Int.emod_nonneg _ (by decide)
theorem ahead_law (p : Program) (f : Int) (hp : Program.Ok 1048576 p) (hf : (Lit.int .i64 f).wf = true) : windlasslaw05_KindsAhead_s 1048577 p f = some true := by
  have hl : p.Funcs.length ≤ 1048576 := hp.1
  unfold windlasslaw05_KindsAhead_s
  have e1 : windlasslaw05_first_s 1048577 = some true := by kernel_rfl
  rw [e1]
  simp only [Option.bind_some, Bool.not_true, Bool.false_eq_true, if_false]
  by_cases h0 : (p.Funcs.length : Int) = 0
  · rw [if_pos (by simpa using h0)]
  rw [if_neg (by simpa using h0), CopyA_eq p hl (fun g hg => ⟨(hp.2 g hg).2.1.1, (hp.2 g hg).2.2.2.2.1⟩)]
  simp only [Option.bind_some]
  rw [U64_of (x := (p.Funcs.length : Int)) (by omega)]
  rw [gd_true h0]
  have hm0 : 0 ≤ Int.tmod (U64 f) (p.Funcs.length : Int) := Int.tmod_nonneg _ (U64_nn f)
  have hm1 : Int.tmod (U64 f) (p.Funcs.length : Int) < p.Funcs.length := Int.tmod_lt_of_pos _ (by omega)
  rw [I64_of (by omega)]
  generalize Int.tmod (U64 f) (p.Funcs.length : Int) = m at hm0 hm1
  obtain ⟨K, rfl⟩ := Int.eq_ofNat_of_zero_le hm0
  have hK : K < p.Funcs.length := by omega
  rw [getI_nat, List.getElem?_eq_getElem hK]
  simp only [Option.bind_some, Int.toNat_natCast]
  generalize hy : p.Funcs[K] = y
  have hjp : ∀ (G : Bool → Option Bool), jp G (fun k_5 => (if ((List.length y.Code : Int) == 0) then (k_5 true) else (k_5 (decide ((List.length y.Code : Int) > 254))))) = G (decide (¬ (1 ≤ y.Code.length ∧ y.Code.length ≤ 254))) := by
    intro G
    show (if ((List.length y.Code : Int) == 0) then (G true) else (G (decide ((List.length y.Code : Int) > 254)))) = _
    by_cases h1 : y.Code.length = 0
    · rw [if_pos (by simpa using h1), decide_eq_true (by omega)]
    · rw [if_neg (by simpa using h1)]
      congr 1
      exact decide_eq_decide.2 (by omega)
  rw [hjp]
  by_cases hc : 1 ≤ y.Code.length ∧ y.Code.length ≤ 254
  · rw [if_neg (by simp [hc])]
    obtain ⟨o, ho, hq⟩ := ah_loop y.Code hc.2
    refine bindA ⟨o, ho, ?_⟩
    rcases hq with rfl | ⟨rfl, hj⟩
    · rfl
    have hq : Ah p ⟨p.Funcs.set K (aheadF y)⟩ K y := ⟨by rw [List.getElem?_eq_getElem hK, hy], rfl, hj, hc⟩
    simp only [oc]
    rw [appL_of (by simp; omega)]
    simp only [Option.bind_some]
    obtain ⟨a, ha, ca⟩ := Check_ok p hl
    obtain ⟨b, hb, cb⟩ := Check_ok ⟨p.Funcs.set K (aheadF y)⟩ (by simpa using hl)
    rw [ha]
    simp only [Option.bind_some]
    refine bindA ⟨b, hb, ?_⟩
    rw [hq.err ca.err cb.err]
    simp
  · rw [if_pos (by simp only [decide_eq_true_eq]; exact hc)]
end Go.Proofs.Ytiocagilhbomgaa
