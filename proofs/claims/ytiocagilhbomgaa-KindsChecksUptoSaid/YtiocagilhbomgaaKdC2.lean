/- How arguments are read. -/
import Derived.Test.YtiocagilhbomgaaGenK
import Derived.Test.YtiocagilhbomgaaWlR
import Derived.WalkKit
import Derived.ProofKit
import Derived.OpenShut
import Derived.JoinedCond
namespace Go.Proofs.Ytiocagilhbomgaa
open Go Go.Ab Go.RowKit
set_option maxRecDepth 20000
set_option linter.unusedVariables false
set_option linter.unusedSimpArgs false
theorem part_le {H : Type} {d : DataW H} {l : List (DataW H)} (h : d ∈ l) : Rows.uptoBulk d ≤ Rows.uptoBulkAll l := by
  induction l with
  | nil => cases h
  | cons x r ih =>
    simp only [Rows.uptoBulkAll]
    rcases List.mem_cons.1 h with e | e
    · subst e; omega
    · have := ih e; omega
theorem one_le {H : Type} (d : DataW H) : 1 ≤ Rows.uptoBulk d := by
  cases d with
  | lit l => cases l <;> simp [Rows.uptoBulk]
  | _ => simp [Rows.uptoBulk]
theorem length_le {H : Type} (l : List (DataW H)) : l.length ≤ Rows.uptoBulkAll l := by
  induction l with
  | nil => simp [Rows.uptoBulkAll]
  | cons x r ih => have := one_le x; simp only [Rows.uptoBulkAll, List.length_cons]; omega
theorem bulk {H : Type} : Bulk (H := H) Rows.uptoBulk :=
  ⟨fun bytes => by simp [Rows.uptoBulk], fun e s => by have := length_le e; simp only [Rows.uptoBulk]; omega, fun e s d h => by have := part_le h; simp only [Rows.uptoBulk]; omega, fun p d h => by have := part_le h; simp only [Rows.uptoBulk]; omega⟩

theorem cells57 : Try.prog.cellsOf 57 = 1 := by kernel_rfl
theorem cells48 : Try.prog.cellsOf 48 = 1 := by kernel_rfl
theorem cells3 : Try.prog.cellsOf 3 = 1 := by kernel_rfl
theorem cells49 : Try.prog.cellsOf 49 = 1 := by kernel_rfl
theorem cells51 : Try.prog.cellsOf 51 = 3 := by kernel_rfl
def Instr.Ok (N : Nat) (x : Instr) : Prop := (fun n => (Lit.int .u8 n).wf = true) x.Op ∧ (fun n => (Lit.int .i64 n).wf = true) x.Arg ∧ (fun n => (Lit.int .u64 n).wf = true) x.Imm
theorem Instr.rd {N : Nat} : Rd Try.prog N Instr.av (Instr.Ok N) 51 := by
  intro avs ht
  obtain ⟨hl, hf⟩ := ty_struct Try.underlying51 ht
  have e0 : Ty Try.prog N 48 ((avs.drop 0).take (Try.prog.cellsOf 48)) := hf 0 _ rfl
  rw [cells48] at e0
  obtain ⟨a0, h0, q0⟩ := (rdI Try.underlying48) _ e0
  have e1 : Ty Try.prog N 3 ((avs.drop 1).take (Try.prog.cellsOf 3)) := hf 1 _ rfl
  rw [cells3] at e1
  obtain ⟨a1, h1, q1⟩ := (rdI Try.underlying3) _ e1
  have e2 : Ty Try.prog N 49 ((avs.drop 2).take (Try.prog.cellsOf 49)) := hf 2 _ rfl
  rw [cells49] at e2
  obtain ⟨a2, h2, q2⟩ := (rdI Try.underlying49) _ e2
  refine ⟨⟨a0, a1, a2⟩, ?_, ⟨q0, q1, q2⟩⟩
  have := (st_cons h0 (st_cons h1 (st_cons h2 (st_nil (hl.trans cells51)))))
  exact this
theorem cells43 : Try.prog.cellsOf 43 = 1 := by kernel_rfl
theorem cells4 : Try.prog.cellsOf 4 = 1 := by kernel_rfl
theorem cells45 : Try.prog.cellsOf 45 = 1 := by kernel_rfl
theorem cells47 : Try.prog.cellsOf 47 = 5 := by kernel_rfl
def Func.Ok (N : Nat) (x : Func) : Prop := (fun n => (Lit.int .i64 n).wf = true) x.Params ∧ (fun l => List.length l ≤ N ∧ ∀ a ∈ l, (fun n => (Lit.int .u8 n).wf = true) a) x.Locals ∧ (fun _ => True) x.Result ∧ (fun n => (Lit.int .i64 n).wf = true) x.Keep ∧ (fun l => List.length l ≤ N ∧ ∀ a ∈ l, (Instr.Ok N) a) x.Code
theorem Func.rd {N : Nat} : Rd Try.prog N Func.av (Func.Ok N) 47 := by
  intro avs ht
  obtain ⟨hl, hf⟩ := ty_struct Try.underlying47 ht
  have e0 : Ty Try.prog N 3 ((avs.drop 0).take (Try.prog.cellsOf 3)) := hf 0 _ rfl
  rw [cells3] at e0
  obtain ⟨a0, h0, q0⟩ := (rdI Try.underlying3) _ e0
  have e1 : Ty Try.prog N 43 ((avs.drop 1).take (Try.prog.cellsOf 43)) := hf 1 _ rfl
  rw [cells43] at e1
  obtain ⟨a1, h1, q1⟩ := (rdL (encI .u8) (fun fs h => by rw [Try.underlying57] at h; cases h) Try.underlying43 cells57 (rdI Try.underlying57)) _ e1
  have e2 : Ty Try.prog N 4 ((avs.drop 2).take (Try.prog.cellsOf 4)) := hf 2 _ rfl
  rw [cells4] at e2
  obtain ⟨a2, h2, q2⟩ := (rdB Try.underlying4) _ e2
  have e3 : Ty Try.prog N 3 ((avs.drop 3).take (Try.prog.cellsOf 3)) := hf 3 _ rfl
  rw [cells3] at e3
  obtain ⟨a3, h3, q3⟩ := (rdI Try.underlying3) _ e3
  have e4 : Ty Try.prog N 45 ((avs.drop 4).take (Try.prog.cellsOf 45)) := hf 4 _ rfl
  rw [cells45] at e4
  obtain ⟨a4, h4, q4⟩ := (rdL Instr.enc ⟨_, Try.underlying51⟩ Try.underlying45 cells51 Instr.rd) _ e4
  refine ⟨⟨a0, a1, a2, a3, a4⟩, ?_, ⟨q0, q1, q2, q3, q4⟩⟩
  have := (st_cons h0 (st_cons h1 (st_cons h2 (st_cons h3 (st_cons h4 (st_nil (hl.trans cells47)))))))
  exact this
theorem cells22 : Try.prog.cellsOf 22 = 1 := by kernel_rfl
theorem cells24 : Try.prog.cellsOf 24 = 1 := by kernel_rfl
def Program.Ok (N : Nat) (x : Program) : Prop := (fun l => List.length l ≤ N ∧ ∀ a ∈ l, (Func.Ok N) a) x.Funcs
theorem Program.rd {N : Nat} : Rd Try.prog N Program.av (Program.Ok N) 24 := by
  intro avs ht
  obtain ⟨hl, hf⟩ := ty_struct Try.underlying24 ht
  have e0 : Ty Try.prog N 22 ((avs.drop 0).take (Try.prog.cellsOf 22)) := hf 0 _ rfl
  rw [cells22] at e0
  obtain ⟨a0, h0, q0⟩ := (rdL Func.enc ⟨_, Try.underlying47⟩ Try.underlying22 cells47 Func.rd) _ e0
  refine ⟨⟨a0⟩, ?_, q0⟩
  have := (st_cons h0 (st_nil (hl.trans cells24)))
  exact this

theorem own : ownKnob Try.prog.godebug = none := by kernel_rfl
theorem laidOut : laidOutB Try.prog = true := by kernel_rfl
end Go.Proofs.Ytiocagilhbomgaa
/- Plain laws of kinds: loops; which programs have bytes. -/
namespace Go.Proofs.Ytiocagilhbomgaa
open Go Go.Ab Go.RowKit
set_option maxRecDepth 20000
set_option linter.unusedVariables false
set_option linter.unusedSimpArgs false

theorem rangeL_inv {α σ ρ : Type} {body : Nat → α → σ → Option (Stp σ ρ)} (ok : α → Bool) (v : ρ) (Inv : Nat → σ → Prop) : ∀ (xs : List α) (k : Nat) (s : σ), Inv k s →
    (∀ i x s, xs[i]? = some x → Inv (k + i) s → if ok x = true then ∃ s', body (k + i) x s = some (.nxt s') ∧ Inv (k + i + 1) s' else body (k + i) x s = some (.ret v)) →
    if xs.all ok = true then ∃ s', rangeL body xs k s = some (.fin s') ∧ Inv (k + xs.length) s' else rangeL body xs k s = some (.ret v)
  | [], k, s, hi, h => by simp only [List.all_nil, if_true, rangeL]; exact ⟨s, rfl, by simpa using hi⟩
  | x :: r, k, s, hi, h => by
    have h0 := h 0 x s rfl hi
    cases hx : ok x with
    | false =>
      rw [hx] at h0
      simp only [Nat.add_zero, Bool.false_eq_true, if_false] at h0
      simp only [List.all_cons, hx, Bool.false_and, Bool.false_eq_true, if_false, rangeL, h0]
    | true =>
      rw [hx] at h0
      simp only [Nat.add_zero, if_true] at h0
      obtain ⟨s', e1, e2⟩ := h0
      have := rangeL_inv ok v Inv r (k + 1) s' e2 (fun i y s hy hs => by
        have := h (i + 1) y s (by simpa using hy) (by rwa [show k + (i + 1) = k + 1 + i by omega])
        rwa [show k + (i + 1) = k + 1 + i by omega] at this)
      simp only [List.all_cons, hx, Bool.true_and, rangeL, e1, List.length_cons]
      rw [show k + (r.length + 1) = k + 1 + r.length by omega]
      exact this
theorem rng_inv {α σ ρ : Type} {body : Nat → α → σ → Option (Stp σ ρ)} {xs : List α} {s0 : σ} (ok : α → Bool) (v : ρ) (Inv : Nat → σ → Prop) (hl : xs.length ≤ 4611686018427387904) (h0 : Inv 0 s0)
    (h : ∀ i x s, xs[i]? = some x → Inv i s → if ok x = true then ∃ s', body i x s = some (.nxt s') ∧ Inv (i + 1) s' else body i x s = some (.ret v)) :
    if xs.all ok = true then ∃ s', rng body xs s0 = some (.fin s') ∧ Inv xs.length s' else rng body xs s0 = some (.ret v) := by
  unfold rng
  rw [if_pos hl]
  have := rangeL_inv ok v Inv xs 0 s0 h0 (fun i x s hx hs => by simpa using h i x s hx (by simpa using hs))
  simpa using this
theorem rangeN_inv {σ ρ : Type} {body : Nat → σ → Option (Stp σ ρ)} (Inv : Nat → σ → Prop) : ∀ (n k : Nat) (s : σ), Inv k s →
    (∀ i s, k ≤ i → i < k + n → Inv i s → ∃ s', body i s = some (.nxt s') ∧ Inv (i + 1) s') → ∃ s', rangeN body n k s = some (.fin s') ∧ Inv (k + n) s'
  | 0, k, s, hi, h => ⟨s, rfl, hi⟩
  | n + 1, k, s, hi, h => by
    obtain ⟨s', e1, e2⟩ := h k s (by omega) (by omega) hi
    obtain ⟨s2, e3, e4⟩ := rangeN_inv Inv n (k + 1) s' e2 (fun i s a b c => h i s (by omega) (by omega) c)
    exact ⟨s2, by simp only [rangeN, e1, e3], by rwa [show k + (n + 1) = k + 1 + n by omega]⟩
theorem rni_inv {σ ρ : Type} {body : Nat → σ → Option (Stp σ ρ)} {n : Int} {s0 : σ} (Inv : Nat → σ → Prop) (hn : n ≤ 4611686018427387904) (h0 : Inv 0 s0)
    (h : ∀ (i : Nat) s, (i : Int) < n → Inv i s → ∃ s', body i s = some (.nxt s') ∧ Inv (i + 1) s') : ∃ s', rni body n s0 = some (.fin s') ∧ Inv n.toNat s' := by
  unfold rni
  rw [if_pos hn]
  obtain ⟨s', a, b⟩ := rangeN_inv (body := body) Inv n.toNat 0 s0 h0 (fun i s _ hi hs => h i s (by omega) hs)
  exact ⟨s', a, by simpa using b⟩
theorem appL_of {α : Type} {b : Nat} {l m : List α} (h : (l.length + m.length) * b ≤ 140737488355328 ∧ l.length + m.length ≤ 140737488355328) : appL b l m = some (l ++ m) := if_pos h
theorem appL1 {l m : List Int} (h : l.length + m.length ≤ 140737488355328) : appL 1 l m = some (l ++ m) := appL_of (by omega)

/-! ### bytes -/
def widthI (op : Int) : Int := if op = 1 then 8 else if op = 2 ∨ op = 3 ∨ op = 4 ∨ op = 23 ∨ op = 25 then 1 else if op = 21 ∨ op = 22 then 2 else if op < 1 ∨ op > 32 then -1 else 0
theorem width_eq (op : Int) : code_width_s op = some (widthI op) := by
  unfold code_width_s widthI
  simp only [jp, beq_iff_eq, decide_eq_true_eq]
  by_cases h1 : op = 1
  · simp [h1]
  by_cases h2 : op = 2
  · simp [h2]
  by_cases h3 : op = 3
  · simp [h3]
  by_cases h4 : op = 4
  · simp [h4]
  by_cases h5 : op = 23
  · simp [h5]
  by_cases h6 : op = 25
  · simp [h6]
  by_cases h7 : op = 21
  · simp [h7]
  by_cases h8 : op = 22
  · simp [h8]
  by_cases h9 : op < 1
  · simp [h1, h2, h3, h4, h5, h6, h7, h8, h9]
  by_cases h10 : op > 32 <;> simp [h1, h2, h3, h4, h5, h6, h7, h8, h9, h10]
theorem width_cases (op : Int) : widthI op = -1 ∨ widthI op = 0 ∨ widthI op = 1 ∨ widthI op = 2 ∨ widthI op = 8 := by
  unfold widthI
  split
  · simp
  · split
    · simp
    · split
      · simp
      · split <;> simp
/-- Which instructions have bytes. -/
def instrP (i : Instr) : Bool := decide (0 ≤ widthI i.Op) && (if widthI i.Op = 8 then decide (i.Arg = 0) else decide (i.Imm = 0 ∧ 0 ≤ i.Arg ∧ i.Arg < 256 ^ (widthI i.Op).toNat))

theorem put_len (b : List Int) (v n : Int) (hb : b.length ≤ 1000000000) (hn : 0 ≤ n ∧ n ≤ 8) : ∃ l, code_put_r_s b v n = some l ∧ l.length = b.length + n.toNat := by
  unfold code_put_r_s
  obtain ⟨s', e1, e2⟩ := rni_inv (σ := Int × List Int) (ρ := Option (List Int)) (n := n) (s0 := (v, b)) (body := fun (i_2 : Nat) (s_1 : (Int × (List Int))) => ((gd (0 ≤ (U64 (I64 (8 * (i_2 : Int))))) ((appL 1 s_1.2 [(U8 (shR .u64 s_1.1 (U64 (I64 (8 * (i_2 : Int))))))]).bind fun l_4 => (some (.nxt (s_1.1, l_4))))) : Option (Stp (Int × (List Int)) (Option (List Int)))))
    (fun i s => s.2.length = b.length + i) (by omega) (by simp) (fun i s hi hs => by
      have e : U64 (I64 (8 * (i : Int))) = 8 * i := by rw [I64_of (by omega), U64_of (by omega)]
      rw [e, gd_true (by omega), appL1 (by simp <;> omega)]
      exact ⟨_, rfl, by simp [hs]; omega⟩)
  rw [e1]
  exact ⟨s'.2, rfl, e2⟩

theorem instruction_eq (b : List Int) (i : Instr) (hb : b.length ≤ 900000000) : ∃ l, code_instruction_r_s b i = some (instrP i, l) ∧ l.length ≤ b.length + 9 := by
  unfold code_instruction_r_s
  rw [width_eq]
  simp only [Option.bind_some, jp]
  have hw := width_cases i.Op
  unfold instrP
  generalize widthI i.Op = w at hw ⊢
  by_cases h0 : w < 0
  · have : ¬ 0 ≤ w := by omega
    simp [h0, this]
  have h0' : 0 ≤ w := by omega
  have hd0 : decide (w < 0) = false := by simpa using h0'
  simp only [hd0, Bool.false_eq_true, if_false]
  by_cases h8 : w = 8
  · subst h8
    simp only [bne_self_eq_false, beq_self_eq_true, Bool.false_eq_true, if_false, if_true]
    rw [appL1 (by simp <;> omega)]
    simp only [Option.bind_some]
    obtain ⟨l, e1, e2⟩ := put_len (b ++ [i.Op]) i.Imm 8 (by simp <;> omega) (by omega)
    rw [e1]
    refine ⟨l, ?_, by rw [e2]; simp⟩
    simp
    by_cases ha : i.Arg = 0 <;> simp [ha]
  · have e8 : (w != 8) = true := by simpa using h8
    have e8' : (w == 8) = false := by simpa using h8
    rw [if_pos e8]
    by_cases hi : i.Imm = 0
    · have : (i.Imm != 0) = false := by simp [hi]
      rw [this]
      simp only [Bool.false_eq_true, if_false]
      rw [appL1 (by simp <;> omega)]
      simp only [Option.bind_some, e8', Bool.false_eq_true, if_false]
      obtain ⟨l, e1, e2⟩ := put_len (b ++ [i.Op]) (U64 i.Arg) w (by simp <;> omega) (by omega)
      rw [e1]
      simp only [Option.bind_some]
      by_cases ha : i.Arg ≥ 0
      · rw [if_pos (by simpa using ha), gd_true (by rw [I64_of (by omega), U64_of (by omega)]; omega)]
        refine ⟨l, ?_, by rw [e2]; simp; omega⟩
        have : shL .i64 1 (U64 (I64 (8 * w))) = 256 ^ w.toNat := by
          rw [I64_of (by omega), U64_of (by omega)]
          rcases hw with h | h | h | h | h <;> first | omega | (subst h; rfl)
        rw [this]
        simp [h0', h8, hi]
        by_cases hb2 : i.Arg < 256 ^ w.toNat <;> simp [hb2] <;> omega
      · rw [if_neg (by simpa using ha)]
        refine ⟨l, ?_, by rw [e2]; simp; omega⟩
        simp [h8]
        intro _ _ h; omega
    · have : (i.Imm != 0) = true := by simpa using hi
      rw [this]
      simp only [if_true]
      refine ⟨[], ?_, by simp⟩
      simp [h8, hi]

/-- Which functions have bytes. -/
def funcP (f : Func) : Bool := decide (0 ≤ f.Params ∧ f.Params ≤ f.Locals.length ∧ f.Locals.length ≤ 255 ∧ -1 ≤ f.Keep ∧ f.Keep ≤ 254 ∧ f.Code.length ≤ 65535) && (f.Locals.all (fun k => decide (k ≤ 1)) && f.Code.all instrP)
theorem function_eq (b : List Int) (f : Func) (hb : b.length ≤ 800000000) : ∃ l, code_function_r_s b f = some (funcP f, l) ∧ (funcP f = true → l.length ≤ b.length + 600000) := by
  unfold code_function_r_s
  simp only [jp]
  by_cases hc : 0 ≤ f.Params ∧ f.Params ≤ f.Locals.length ∧ f.Locals.length ≤ 255 ∧ -1 ≤ f.Keep ∧ f.Keep ≤ 254 ∧ f.Code.length ≤ 65535
  case neg =>
    have hf : funcP f = false := by unfold funcP; rw [decide_eq_false hc]; rfl
    refine ⟨[], ?_, by rw [hf]; simp⟩
    rw [hf]
    by_cases h1 : f.Params < 0
    · simp [h1]
    by_cases h2 : f.Params > f.Locals.length
    · simp [h1, h2]
    by_cases h3 : (f.Locals.length : Int) > 255
    · simp [h1, h2, h3]
    by_cases h4 : f.Keep < -1
    · simp [h1, h2, h3, h4]
    by_cases h5 : f.Keep > 254
    · simp [h1, h2, h3, h4, h5]
    by_cases h6 : (f.Code.length : Int) > 65535
    · simp [h1, h2, h3, h4, h5, h6]
    · omega
  obtain ⟨c1, c2, c3, c4, c5, c6⟩ := hc
  have n1 : ¬ f.Params < 0 := by omega
  have n2 : ¬ f.Params > f.Locals.length := by omega
  have n3 : ¬ (f.Locals.length : Int) > 255 := by omega
  have n4 : ¬ f.Keep < -1 := by omega
  have n5 : ¬ f.Keep > 254 := by omega
  have n6 : ¬ (f.Code.length : Int) > 65535 := by omega
  simp only [n1, n2, n3, n4, n5, n6, decide_false, Bool.false_eq_true, if_false]
  rw [appL1 (by simp <;> omega)]
  simp only [Option.bind_some]
  have hf : funcP f = (f.Locals.all (fun k => decide (k ≤ 1)) && f.Code.all instrP) := by
    unfold funcP; rw [decide_eq_true (by omega)]; rfl
  have L1 := rng_inv (σ := List Int) (ρ := Option (Bool × List Int)) (xs := f.Locals) (s0 := b ++ [U8 f.Params, U8 f.Locals.length]) (fun k => decide (k ≤ 1)) (some (false, []))
    (fun i s => s.length = b.length + 2 + i) (body := fun (i_5 : Nat) (k_6 : Int) (s_4 : (List Int)) => ((if (decide (k_6 > 1)) then (some (.ret (some (false, [])))) else ((appL 1 s_4 [k_6]).bind fun l_8 => (some (.nxt l_8)))) : Option (Stp (List Int) (Option (Bool × (List Int)))))) (by omega) (by simp) (fun i x s hx hs => by
      have hi := (List.getElem?_eq_some_iff.1 hx).1
      by_cases h : x ≤ 1
      · rw [if_pos (by simpa using h), if_neg (by simpa using h), appL1 (by simp <;> omega)]
        exact ⟨_, rfl, by simp <;> omega⟩
      · rw [if_neg (by simpa using h), if_pos (by simpa using h)])
  cases hl : f.Locals.all (fun k => decide (k ≤ 1)) with
  | false =>
    rw [hl] at L1
    simp only [Bool.false_eq_true, if_false] at L1
    rw [L1]
    exact ⟨[], by rw [hf, hl]; rfl, by rw [hf, hl]; simp⟩
  | true =>
    rw [hl] at L1
    simp only [if_true] at L1
    obtain ⟨s1, e1, e2⟩ := L1
    rw [e1]
    simp only [Option.bind_some, oc]
    have key : ∀ (r : Int), ∃ l, ((appL 1 s1 [r, (U8 f.Keep)]).bind fun l_11 => ((code_put_r_s l_11 (U64 (List.length f.Code : Int)) 2).bind fun (put_12 : (List Int)) => ((rng (fun (i_14 : Nat) (i_15 : Instr) (s_13 : (List Int)) => (((code_instruction_r_s s_13 i_15).bind fun (ins_17 : (Bool × (List Int))) => (if (!ins_17.1) then (some (.ret (some (false, [])))) else (some (.nxt ins_17.2)))) : Option (Stp (List Int) (Option (Bool × (List Int)))))) f.Code put_12).bind (oc (fun (s_13 : (List Int)) => (some (true, s_13))))))) = some (funcP f, l) ∧ (funcP f = true → l.length ≤ b.length + 600000) := by
      intro r
      rw [appL1 (by simp <;> omega)]
      simp only [Option.bind_some]
      obtain ⟨l2, e3, e4⟩ := put_len (s1 ++ [r, U8 f.Keep]) (U64 f.Code.length) 2 (by simp <;> omega) (by omega)
      rw [e3]
      simp only [Option.bind_some]
      have L2 := rng_inv (σ := List Int) (ρ := Option (Bool × List Int)) (xs := f.Code) (s0 := l2) instrP (some (false, [])) (fun i s => s.length ≤ b.length + 300 + 9 * i)
        (body := fun (i_14 : Nat) (i_15 : Instr) (s_13 : (List Int)) => (((code_instruction_r_s s_13 i_15).bind fun (ins_17 : (Bool × (List Int))) => (if (!ins_17.1) then (some (.ret (some (false, [])))) else (some (.nxt ins_17.2)))) : Option (Stp (List Int) (Option (Bool × (List Int)))))) (by omega) (by rw [e4]; simp; omega) (fun i x s hx hs => by
          have hi := (List.getElem?_eq_some_iff.1 hx).1
          obtain ⟨l, a, c⟩ := instruction_eq s x (by omega)
          rw [a]
          cases instrP x with
          | false => rfl
          | true => exact ⟨l, rfl, by omega⟩)
      cases hc : f.Code.all instrP with
      | false =>
        rw [hc] at L2
        simp only [Bool.false_eq_true, if_false] at L2
        rw [L2]
        exact ⟨[], by rw [hf, hl, hc]; rfl, by rw [hf, hl, hc]; simp⟩
      | true =>
        rw [hc] at L2
        simp only [if_true] at L2
        obtain ⟨s3, a, c⟩ := L2
        rw [a]
        exact ⟨s3, by rw [hf, hl, hc]; rfl, fun _ => by omega⟩
    cases f.Result with
    | false => exact key 0
    | true => exact key 1

theorem big_aux {a s i C : Nat} (h : a ≤ s + C) (k : s ≤ 3 + C * i) : a ≤ 3 + C * (i + 1) := by
  rw [Nat.mul_add, Nat.mul_one]
  generalize C * i = q at k ⊢
  omega
/-- Which programs have bytes. -/
def encP (p : Program) : Bool := decide (1 ≤ p.Funcs.length ∧ p.Funcs.length ≤ 255) && p.Funcs.all funcP
theorem Encode_eq (p : Program) : ∃ l, code_Encode_s p = some (l, if encP p = true then 0 else 30) := by
  unfold code_Encode_s
  simp only [jp]
  by_cases hc : 1 ≤ p.Funcs.length ∧ p.Funcs.length ≤ 255
  case neg =>
    have : encP p = false := by unfold encP; rw [decide_eq_false hc]; rfl
    rw [this]
    refine ⟨[], ?_⟩
    by_cases h1 : p.Funcs.length = 0
    · simp [h1]
    · have h2 : (p.Funcs.length : Int) > 255 := by omega
      have h1' : ((p.Funcs.length : Int) == 0) = false := by simpa using h1
      simp [h1', h2]
  have h1' : ((p.Funcs.length : Int) == 0) = false := by simp; intro h; simp [h] at hc
  have h2 : ¬ (p.Funcs.length : Int) > 255 := by omega
  simp only [h1', h2, decide_false, Bool.false_eq_true, if_false]
  have L := rng_inv (σ := List Int) (ρ := Option (List Int × Int)) (xs := p.Funcs) (s0 := [87, 76, U8 p.Funcs.length]) funcP (some ([], 30)) (fun i s => s.length ≤ 3 + 600000 * i)
    (body := fun (i_4 : Nat) (f_5 : Func) (s_3 : (List Int)) => (((code_function_r_s s_3 f_5).bind fun (vfun_7 : (Bool × (List Int))) => (if (!vfun_7.1) then (some (.ret (some ([], 30)))) else (some (.nxt vfun_7.2)))) : Option (Stp (List Int) (Option ((List Int) × Int))))) (by omega) (by simp) (fun i x s hx hs => by
      have hi := (List.getElem?_eq_some_iff.1 hx).1
      obtain ⟨l, a, c⟩ := function_eq s x (by omega)
      rw [a]
      cases e : funcP x with
      | false => rfl
      | true => exact ⟨l, rfl, big_aux (c e) hs⟩)
  have he : encP p = p.Funcs.all funcP := by unfold encP; rw [decide_eq_true hc]; rfl
  rw [he]
  cases e : p.Funcs.all funcP with
  | false =>
    rw [e] at L
    simp only [Bool.false_eq_true, if_false] at L
    rw [L]
    exact ⟨[], rfl⟩
  | true =>
    rw [e] at L
    simp only [if_true] at L
    obtain ⟨s, a, _⟩ := L
    rw [a]
    exact ⟨s, rfl⟩
/-- Within the bounds. -/
def boundF (f : Func) : Bool := decide (f.Params ≤ 4 ∧ f.Locals.length ≤ 16 ∧ f.Code.length ≤ 256)
def boundP (p : Program) : Bool := p.Funcs.all boundF && decide (p.Funcs.length ≤ 16)
theorem Bounded_eq (p : Program) (hp : p.Funcs.length ≤ 1048576) : code_Bounded_s p = some (boundP p) := by
  unfold code_Bounded_s boundP
  simp only [jp]
  have L := rng_inv (σ := Unit) (ρ := Option Bool) (xs := p.Funcs) (s0 := ()) boundF (some false) (fun _ _ => True)
    (body := fun (i_2 : Nat) (f_3 : Func) (s_1 : Unit) => ((if (decide (f_3.Params > 4)) then (if true = true then (some (.ret (some false))) else (some (.nxt ()))) else (if (decide ((List.length f_3.Locals : Int) > 16)) then (if true = true then (some (.ret (some false))) else (some (.nxt ()))) else (if decide ((List.length f_3.Code : Int) > 256) = true then (some (.ret (some false))) else (some (.nxt ()))))) : Option (Stp Unit (Option Bool)))) (by omega) trivial (fun i x s hx _ => by
      unfold boundF
      by_cases h1 : x.Params > 4
      · have : ¬ (x.Params ≤ 4 ∧ x.Locals.length ≤ 16 ∧ x.Code.length ≤ 256) := by omega
        simp [h1, this]
      by_cases h2 : (x.Locals.length : Int) > 16
      · have : ¬ (x.Params ≤ 4 ∧ x.Locals.length ≤ 16 ∧ x.Code.length ≤ 256) := by omega
        simp [h1, h2, this]
      by_cases h3 : (x.Code.length : Int) > 256
      · have : ¬ (x.Params ≤ 4 ∧ x.Locals.length ≤ 16 ∧ x.Code.length ≤ 256) := by omega
        simp [h1, h2, h3, this]
      · have : (x.Params ≤ 4 ∧ x.Locals.length ≤ 16 ∧ x.Code.length ≤ 256) := by omega
        simp [h1, h2, h3, this])
  cases e : p.Funcs.all boundF with
  | false =>
    rw [e] at L
    simp only [Bool.false_eq_true, if_false] at L
    simp only [if_true] at L ⊢
    rw [L]; rfl
  | true =>
    rw [e] at L
    simp only [if_true] at L ⊢
    obtain ⟨s, a, _⟩ := L
    rw [a]
    simp [oc]
    omega
end Go.Proofs.Ytiocagilhbomgaa
/- Plain laws of kinds: what instructions name, take, leave; what follows them. -/
namespace Go.Proofs.Ytiocagilhbomgaa
open Go Go.Ab Go.RowKit
set_option maxRecDepth 20000
set_option linter.unusedVariables false
set_option linter.unusedSimpArgs false

/-! ### loops that may end in more than one way -/
theorem whileN_ex {σ ρ : Type} {body : σ → Option (Stp σ ρ)} (Inv : σ → Prop) (μ : σ → Nat) (Q : Out σ ρ → Prop)
    (h : ∀ s, Inv s → (∃ s', body s = some (.nxt s') ∧ Inv s' ∧ μ s' < μ s) ∨ (∃ s', body s = some (.brk s') ∧ Q (.fin s')) ∨ (∃ v, body s = some (.ret v) ∧ Q (.ret v))) :
    ∀ (n : Nat) (s : σ), Inv s → μ s < n → ∃ o, whileN body n s = some o ∧ Q o
  | 0, s, _, hn => by omega
  | n + 1, s, hi, hn => by
    rcases h s hi with ⟨s', h1, h2, h3⟩ | ⟨s', h1, h2⟩ | ⟨v, h1, h2⟩
    · rw [whileN_step h1]; exact whileN_ex Inv μ Q h n s' h2 (by omega)
    · rw [whileN_brk h1]; exact ⟨_, rfl, h2⟩
    · rw [whileN_ret h1]; exact ⟨_, rfl, h2⟩
theorem rangeL_ex {α σ ρ : Type} {body : Nat → α → σ → Option (Stp σ ρ)} (Inv : Nat → σ → Prop) (Q : Out σ ρ → Prop) : ∀ (xs : List α) (k : Nat) (s : σ), Inv k s →
    (∀ i x s, xs[i]? = some x → Inv (k + i) s → (∃ s', body (k + i) x s = some (.nxt s') ∧ Inv (k + i + 1) s') ∨ ∃ v, body (k + i) x s = some (.ret v) ∧ Q (.ret v)) →
    (∀ s, Inv (k + xs.length) s → Q (.fin s)) → ∃ o, rangeL body xs k s = some o ∧ Q o
  | [], k, s, hi, h, hQ => ⟨_, rfl, hQ s (by simpa using hi)⟩
  | x :: r, k, s, hi, h, hQ => by
    rcases h 0 x s rfl (by simpa using hi) with ⟨s', e1, e2⟩ | ⟨v, e1, e2⟩
    · simp only [Nat.add_zero] at e1 e2
      simp only [rangeL, e1]
      refine rangeL_ex Inv Q r (k + 1) s' e2 (fun i y s hy hs => ?_) (fun s hs => hQ s (by rw [List.length_cons]; rwa [show k + (r.length + 1) = k + 1 + r.length by omega]))
      have := h (i + 1) y s (by simpa using hy) (by rwa [show k + (i + 1) = k + 1 + i by omega])
      rwa [show k + (i + 1) = k + 1 + i by omega] at this
    · simp only [Nat.add_zero] at e1
      simp only [rangeL, e1]
      exact ⟨_, rfl, e2⟩
theorem rng_ex {α σ ρ : Type} {body : Nat → α → σ → Option (Stp σ ρ)} {xs : List α} {s0 : σ} (Inv : Nat → σ → Prop) (Q : Out σ ρ → Prop) (hl : xs.length ≤ 4611686018427387904) (h0 : Inv 0 s0)
    (h : ∀ i x s, xs[i]? = some x → Inv i s → (∃ s', body i x s = some (.nxt s') ∧ Inv (i + 1) s') ∨ ∃ v, body i x s = some (.ret v) ∧ Q (.ret v)) (hQ : ∀ s, Inv xs.length s → Q (.fin s)) : ∃ o, rng body xs s0 = some o ∧ Q o := by
  unfold rng
  rw [if_pos hl]
  exact rangeL_ex Inv Q xs 0 s0 h0 (fun i x s hx hs => by simpa using h i x s hx (by simpa using hs)) (fun s hs => hQ s (by simpa using hs))
theorem rangeN_ex {σ ρ : Type} {body : Nat → σ → Option (Stp σ ρ)} (Inv : Nat → σ → Prop) (Q : Out σ ρ → Prop) : ∀ (n k : Nat) (s : σ), Inv k s →
    (∀ i s, k ≤ i → i < k + n → Inv i s → (∃ s', body i s = some (.nxt s') ∧ Inv (i + 1) s') ∨ ∃ v, body i s = some (.ret v) ∧ Q (.ret v)) →
    (∀ s, Inv (k + n) s → Q (.fin s)) → ∃ o, rangeN body n k s = some o ∧ Q o
  | 0, k, s, hi, h, hQ => ⟨_, rfl, hQ s hi⟩
  | n + 1, k, s, hi, h, hQ => by
    rcases h k s (by omega) (by omega) hi with ⟨s', e1, e2⟩ | ⟨v, e1, e2⟩
    · simp only [rangeN, e1]
      exact rangeN_ex Inv Q n (k + 1) s' e2 (fun i s a b c => h i s (by omega) (by omega) c) (fun s hs => hQ s (by rwa [show k + (n + 1) = k + 1 + n by omega]))
    · simp only [rangeN, e1]
      exact ⟨_, rfl, e2⟩
theorem rni_ex {σ ρ : Type} {body : Nat → σ → Option (Stp σ ρ)} {n : Int} {s0 : σ} (Inv : Nat → σ → Prop) (Q : Out σ ρ → Prop) (hn : n ≤ 4611686018427387904) (h0 : Inv 0 s0)
    (h : ∀ (i : Nat) s, (i : Int) < n → Inv i s → (∃ s', body i s = some (.nxt s') ∧ Inv (i + 1) s') ∨ ∃ v, body i s = some (.ret v) ∧ Q (.ret v)) (hQ : ∀ s, Inv n.toNat s → Q (.fin s)) : ∃ o, rni body n s0 = some o ∧ Q o := by
  unfold rni
  rw [if_pos hn]
  exact rangeN_ex Inv Q n.toNat 0 s0 h0 (fun i s _ hi hs => h i s (by omega) hs) (fun s hs => hQ s (by simpa using hs))

/-! ### names -/
def nameP (p : Program) (f : Func) (i : Instr) : Bool :=
  if i.Op = 2 ∨ i.Op = 3 then decide (i.Arg < f.Locals.length)
  else if i.Op = 4 then decide (i.Arg < f.Locals.length ∧ f.Locals[i.Arg.toNat]? = some 0)
  else if i.Op = 23 ∨ i.Op = 25 then decide (i.Arg < p.Funcs.length)
  else if i.Op = 21 ∨ i.Op = 22 then decide (i.Arg < f.Code.length) else true
theorem names_eq (p : Program) (f : Func) (i : Instr) (ha : 0 ≤ i.Arg) : kinds_names_s p f i = some (nameP p f i) := by
  unfold kinds_names_s nameP
  simp only [jp]
  by_cases h2 : i.Op = 2
  · simp [h2]
  by_cases h3 : i.Op = 3
  · simp [h3]
  by_cases h4 : i.Op = 4
  · simp only [h4]
    simp
    by_cases h : i.Arg < f.Locals.length
    · rw [if_pos h, getI_lt ha (by omega)]
      simp [h, List.getElem?_eq_getElem (show i.Arg.toNat < f.Locals.length by omega)]
      rfl
    · rw [if_neg h]; simp [h]
  by_cases h5 : i.Op = 23
  · simp [h5]
  by_cases h6 : i.Op = 25
  · simp [h6]
  by_cases h7 : i.Op = 21
  · simp [h7]
  by_cases h8 : i.Op = 22
  · simp [h8]
  simp [h2, h3, h4, h5, h6, h7, h8]

def codeP (p : Program) (f : Func) (i : Instr) : Bool := nameP p f i && !(decide (i.Op = 25) && (f.Result && decide (f.Keep < 0)))
def keepP (f : Func) : Bool := decide (f.Code.length ≠ 0 ∧ f.Keep < f.Locals.length) && (decide (f.Keep < 0) || decide (f.Locals[f.Keep.toNat]? = some 0))
def headP (p : Program) (f : Func) : Bool := keepP f && f.Code.all (codeP p f)
theorem instr_arg {i : Instr} (h : instrP i = true) : 0 ≤ i.Arg ∧ i.Arg ≤ 65535 ∧ 0 ≤ widthI i.Op := by
  unfold instrP at h
  simp only [Bool.and_eq_true, decide_eq_true_eq] at h
  obtain ⟨h1, h2⟩ := h
  split at h2
  · simp at h2; omega
  · rename_i h8
    simp only [decide_eq_true_eq] at h2
    obtain ⟨_, h3, h4⟩ := h2
    have hw := width_cases i.Op
    have : (256 : Int) ^ (widthI i.Op).toNat ≤ 65536 := by
      rcases hw with e | e | e | e | e <;> rw [e] at h1 h8 ⊢ <;> first | omega | decide
    omega
theorem funcP_code {f : Func} (h : funcP f = true) : ∀ i ∈ f.Code, instrP i = true := by
  unfold funcP at h
  simp only [Bool.and_eq_true, decide_eq_true_eq, List.all_eq_true] at h
  exact h.2.2
theorem head_eq (p : Program) (f : Func) (hf : funcP f = true) (hp : p.Funcs.length ≤ 1048576) : kinds_head_s p f = some (headP p f) := by
  have hc := funcP_code hf
  have hd : f.Code.length ≤ 65535 := by
    unfold funcP at hf
    simp only [Bool.and_eq_true, decide_eq_true_eq] at hf
    omega
  unfold kinds_head_s headP
  simp only [jp]
  have L := rng_inv (σ := Unit) (ρ := Option Bool) (xs := f.Code) (s0 := ()) (codeP p f) (some false) (fun _ _ => True)
    (body := fun (i_5 : Nat) (i_6 : Instr) (s_4 : Unit) => (((kinds_names_s p f i_6).bind fun nam_10 => (if (!nam_10) then (if true = true then (some (.ret (some false))) else (some (.nxt ()))) else (if (i_6.Op == 25) then (if f.Result then (if (decide (f.Keep < 0)) = true then (some (.ret (some false))) else (some (.nxt ()))) else (if false = true then (some (.ret (some false))) else (some (.nxt ())))) else (if false = true then (some (.ret (some false))) else (some (.nxt ())))))) : Option (Stp Unit (Option Bool)))) (by omega) trivial (fun i x s hx _ => by
      have hm := List.mem_of_getElem? hx
      rw [names_eq p f x (instr_arg (hc x hm)).1]
      unfold codeP
      cases nameP p f x with
      | false => rfl
      | true =>
        simp only [Option.bind_some, Bool.not_true, Bool.false_eq_true, if_false, Bool.true_and]
        by_cases h25 : x.Op = 25
        · simp only [h25, beq_self_eq_true, if_true, decide_true, Bool.true_and]
          cases f.Result with
          | false => exact ⟨(), rfl, trivial⟩
          | true =>
            simp only [if_true, Bool.true_and]
            cases decide (f.Keep < 0) with
            | false => exact ⟨(), rfl, trivial⟩
            | true => rfl
        · have : (x.Op == 25) = false := by simpa using h25
          simp only [this, Bool.false_eq_true, if_false, decide_eq_false h25, Bool.false_and, Bool.not_false, if_true]
          exact ⟨(), by simp, trivial⟩)
  have key : ((rng (fun (i_5 : Nat) (i_6 : Instr) (s_4 : Unit) => (((kinds_names_s p f i_6).bind fun nam_10 => (if (!nam_10) then (if true = true then (some (.ret (some false))) else (some (.nxt ()))) else (if (i_6.Op == 25) then (if f.Result then (if (decide (f.Keep < 0)) = true then (some (.ret (some false))) else (some (.nxt ()))) else (if false = true then (some (.ret (some false))) else (some (.nxt ())))) else (if false = true then (some (.ret (some false))) else (some (.nxt ())))))) : Option (Stp Unit (Option Bool)))) f.Code ()).bind (oc (fun (s_4 : Unit) => (some true)))) = some (f.Code.all (codeP p f)) := by
    cases e : f.Code.all (codeP p f) with
    | false =>
      rw [e] at L
      simp only [Bool.false_eq_true, if_false] at L ⊢
      rw [L]; rfl
    | true =>
      rw [e] at L
      simp only [if_true] at L ⊢
      obtain ⟨s, a, _⟩ := L
      rw [a]; rfl
  unfold keepP
  by_cases h1 : f.Code.length = 0
  · simp [h1]
  have h1' : ((f.Code.length : Int) == 0) = false := by simpa using h1
  by_cases h2 : f.Keep ≥ f.Locals.length
  · have : ¬ (f.Keep < f.Locals.length) := by omega
    simp only [h1', Bool.false_eq_true, if_false, decide_eq_true h2, if_true]
    simp [this]
  have h2' : f.Keep < f.Locals.length := by omega
  simp only [h1', Bool.false_eq_true, if_false, decide_eq_false h2, decide_eq_true (show f.Code.length ≠ 0 ∧ f.Keep < f.Locals.length from ⟨h1, h2'⟩), Bool.true_and]
  by_cases h3 : f.Keep ≥ 0
  · have h3' : ¬ f.Keep < 0 := by omega
    simp only [decide_eq_true h3, if_true, decide_eq_false h3', Bool.false_or]
    rw [getI_lt h3 (by omega), List.getElem?_eq_getElem (show f.Keep.toNat < f.Locals.length by omega)]
    simp only [Option.bind_some]
    by_cases h4 : f.Locals[f.Keep.toNat] = 0
    · simp only [h4, bne_self_eq_false, Bool.false_eq_true, if_false, decide_true, Bool.true_and]
      simp only [decide_eq_false h3', Bool.false_eq_true, if_false] at key ⊢
      exact key
    · have : (f.Locals[f.Keep.toNat] != 0) = true := by simpa using h4
      simp [this, h4]
  · have h3' : f.Keep < 0 := by omega
    simp only [decide_eq_false h3, Bool.false_eq_true, if_false, decide_eq_true h3', Bool.true_or, Bool.true_and]
    simp only [decide_eq_true h3', Bool.false_eq_true, if_false] at key ⊢
    exact key

/-! ### what follows -/
def folL (i : Instr) (a : Nat) : List Int := if i.Op = 21 then [i.Arg] else if i.Op = 22 then [(a : Int) + 1, i.Arg] else if i.Op = 24 ∨ i.Op = 26 ∨ i.Op = 30 then [] else [(a : Int) + 1]
theorem follow_eq (i : Instr) (a : Nat) (ha : a ≤ 1048576) : kinds_follow_s i a = some (folL i a) := by
  unfold kinds_follow_s folL
  simp only [jp]
  rw [I64_of (x := (a : Int) + 1) (by omega)]
  by_cases h1 : i.Op = 21
  · simp [h1]
  by_cases h2 : i.Op = 22
  · simp [h2]
  by_cases h3 : i.Op = 24
  · simp [h3]
  by_cases h4 : i.Op = 26
  · simp [h4]
  by_cases h5 : i.Op = 30
  · simp [h5]
  simp [h1, h2, h3, h4, h5]
theorem folL_le (i : Instr) (a : Nat) : (folL i a).length ≤ 2 := by
  unfold folL
  split
  · simp
  · split
    · simp
    · split <;> simp

/-! ### equal lists -/
theorem rangeN_same {σ ρ : Type} {a b : List Int} {body : Nat → σ → Option (Stp σ ρ)} (s : σ) (v : ρ) (hl : a.length = b.length)
    (h : ∀ (i : Nat) (h1 : i < a.length) (h2 : i < b.length), body i s = some (if a[i] = b[i] then .nxt s else .ret v)) :
    ∀ (m k : Nat), k + m = a.length → rangeN body m k s = some (if a.drop k = b.drop k then .fin s else .ret v)
  | 0, k, hk => by
    rw [List.drop_eq_nil_of_le (by omega), List.drop_eq_nil_of_le (by omega)]; rfl
  | m + 1, k, hk => by
    have h1 : k < a.length := by omega
    have h2 : k < b.length := by omega
    have key : a.drop k = b.drop k ↔ a[k] = b[k] ∧ a.drop (k + 1) = b.drop (k + 1) := by
      rw [List.drop_eq_getElem_cons h1, List.drop_eq_getElem_cons h2, List.cons.injEq]
    simp only [rangeN, h k h1 h2]
    by_cases e : a[k] = b[k]
    · rw [if_pos e]
      simp only
      rw [rangeN_same s v hl h m (k + 1) (by omega)]
      by_cases e2 : a.drop (k + 1) = b.drop (k + 1)
      · rw [if_pos e2, if_pos (key.2 ⟨e, e2⟩)]
      · rw [if_neg e2, if_neg (fun hh => e2 (key.1 hh).2)]
    · rw [if_neg e, if_neg (fun hh => e (key.1 hh).1)]
theorem Equal_r_eq (a b : List Int) (ha : a.length ≤ 1000000) : slices_Equal_r_s a b = some (decide (a = b)) := by
  unfold slices_Equal_r_s
  by_cases hl : a.length = b.length
  · have e : ((a.length : Int) != b.length) = false := by simp [hl]
    simp only [e, Bool.false_eq_true, if_false, rni]
    rw [if_pos (by omega), show ((a.length : Int)).toNat = a.length by omega]
    rw [rangeN_same (a := a) (b := b) () (some false) hl (fun i h1 h2 => ?_) a.length 0 (by omega)]
    · simp only [List.drop_zero, Option.bind_some]
      by_cases e : a = b
      · rw [if_pos e, decide_eq_true e]; rfl
      · rw [if_neg e, decide_eq_false e]; rfl
    · rw [getI_nat, getI_nat, List.getElem?_eq_getElem h1, List.getElem?_eq_getElem h2]
      simp only [Option.bind_some]
      by_cases e : a[i] = b[i]
      · rw [if_pos e]; simp [e]
      · rw [if_neg e]; simp [e]
  · have e : ((a.length : Int) != b.length) = true := by simp; omega
    rw [if_pos e, decide_eq_false (fun h => hl (by rw [h]))]
theorem Equal_eq (a b : List Int) (ha : a.length ≤ 1000000) : slices_Equal_s a b = some (decide (a = b)) := by
  unfold slices_Equal_s
  by_cases hl : a.length = b.length
  · have e : ((a.length : Int) != b.length) = false := by simp [hl]
    simp only [e, Bool.false_eq_true, if_false, rni]
    rw [if_pos (by omega), show ((a.length : Int)).toNat = a.length by omega]
    rw [rangeN_same (a := a) (b := b) b (some false) hl (fun i h1 h2 => ?_) a.length 0 (by omega)]
    · simp only [List.drop_zero, Option.bind_some]
      by_cases e : a = b
      · rw [if_pos e, decide_eq_true e]; rfl
      · rw [if_neg e, decide_eq_false e]; rfl
    · rw [getI_nat, getI_nat, List.getElem?_eq_getElem h1, List.getElem?_eq_getElem h2]
      simp only [Option.bind_some]
      by_cases e : a[i] = b[i]
      · rw [if_pos e]; simp [e]
      · rw [if_neg e]; simp [e]
  · have e : ((a.length : Int) != b.length) = true := by simp; omega
    rw [if_pos e, decide_eq_false (fun h => hl (by rw [h]))]
end Go.Proofs.Ytiocagilhbomgaa
/- Plain laws of kinds: one step of a stack; the function's types. -/
namespace Go.Proofs.Ytiocagilhbomgaa
open Go Go.Ab Go.RowKit
set_option maxRecDepth 20000
set_option linter.unusedVariables false
set_option linter.unusedSimpArgs false

def locK (f : Func) (i : Instr) : List Int := [f.Locals[i.Arg.toNat]?.getD 0]
def eff (p : Program) (f : Func) (i : Instr) (top : Int) : List Int × List Int :=
  if i.Op = 1 ∨ i.Op = 28 then ([], [0]) else if i.Op = 2 then ([], locK f i) else if i.Op = 3 then (locK f i, []) else if i.Op = 4 then ([], [1]) else if i.Op = 5 then ([1], [0])
  else if i.Op = 6 then ([1, 0], []) else if i.Op = 21 then ([], []) else if i.Op = 22 ∨ i.Op = 26 ∨ i.Op = 29 ∨ i.Op = 30 then ([0], [])
  else if i.Op = 23 ∨ i.Op = 25 then (match p.Funcs[i.Arg.toNat]? with | some g => (g.Locals.take g.Params.toNat, if i.Op = 23 ∧ g.Result = true then [0] else []) | none => ([], []))
  else if i.Op = 24 then (if f.Result = true then [0] else [], []) else if i.Op = 27 then ([], [0, 0]) else if i.Op = 31 then ([top], []) else if i.Op = 32 then ([top], [top, top]) else ([0, 0], [0])
theorem sub_one {l : List Int} {a : Int} (h0 : 0 ≤ a) (h : a < l.length) (hb : a ≤ 65535) : subL l a (I64 (a + 1)) = some [l[a.toNat]?.getD 0] := by
  rw [I64_of (by omega)]
  unfold subL
  rw [if_pos (by omega)]
  have hlt : a.toNat < l.length := by omega
  rw [show (a + 1).toNat = a.toNat + 1 by omega, List.getElem?_eq_getElem hlt]
  rw [List.take_succ_eq_append_getElem hlt, List.drop_append_of_le_length (by simp; omega)]
  simp
theorem funcP_head {f : Func} (h : funcP f = true) : 0 ≤ f.Params ∧ f.Params ≤ f.Locals.length ∧ f.Locals.length ≤ 255 ∧ -1 ≤ f.Keep ∧ f.Keep ≤ 254 ∧ f.Code.length ≤ 65535 := by
  unfold funcP at h
  simp only [Bool.and_eq_true, decide_eq_true_eq] at h
  exact h.1
theorem effect_eq (p : Program) (f : Func) (i : Instr) (top : Int) (ha : 0 ≤ i.Arg ∧ i.Arg ≤ 65535) (hn : nameP p f i = true) (hg : ∀ g ∈ p.Funcs, funcP g = true) : kinds_effect_s p f i top = some (eff p f i top) := by
  unfold kinds_effect_s eff
  simp only [jp]
  unfold nameP at hn
  by_cases h1 : i.Op = 1
  · simp [h1]
  by_cases h28 : i.Op = 28
  · simp [h28]
  by_cases h2 : i.Op = 2
  · simp [h2] at hn
    simp [h2, sub_one ha.1 hn ha.2, locK]
  by_cases h3 : i.Op = 3
  · simp [h3] at hn
    simp [h3, sub_one ha.1 hn ha.2, locK]
  by_cases h4 : i.Op = 4
  · simp [h4]
  by_cases h5 : i.Op = 5
  · simp [h5]
  by_cases h6 : i.Op = 6
  · simp [h6]
  by_cases h21 : i.Op = 21
  · simp [h21]
  by_cases h22 : i.Op = 22
  · simp [h22]
  by_cases h26 : i.Op = 26
  · simp [h26]
  by_cases h29 : i.Op = 29
  · simp [h29]
  by_cases h30 : i.Op = 30
  · simp [h30]
  by_cases hc : i.Op = 23 ∨ i.Op = 25
  · have hlt : i.Arg < p.Funcs.length := by
      rcases hc with h | h <;> simpa [h] using hn
    have hlt' : i.Arg.toNat < p.Funcs.length := by omega
    have hf := funcP_head (hg _ (List.getElem_mem hlt'))
    have hs : subL (p.Funcs[i.Arg.toNat]).Locals 0 (p.Funcs[i.Arg.toNat]).Params = some ((p.Funcs[i.Arg.toNat]).Locals.take (p.Funcs[i.Arg.toNat]).Params.toNat) := by
      unfold subL
      rw [if_pos (by omega)]
      simp
    rw [List.getElem?_eq_getElem hlt']
    rcases hc with h | h
    · simp only [h]
      simp
      rw [getI_lt ha.1 hlt']
      simp only [Option.bind_some, hs]
      cases (p.Funcs[i.Arg.toNat]).Result <;> simp
    · simp only [h]
      simp
      rw [getI_lt ha.1 hlt']
      simp [hs]
  have h23 : ¬ i.Op = 23 := fun h => hc (.inl h)
  have h25 : ¬ i.Op = 25 := fun h => hc (.inr h)
  by_cases h24 : i.Op = 24
  · simp [h24]
    cases f.Result <;> simp
  by_cases h27 : i.Op = 27
  · simp [h27]
  by_cases h31 : i.Op = 31
  · simp [h31]
  by_cases h32 : i.Op = 32
  · simp [h32]
  simp [h1, h28, h2, h3, h4, h5, h6, h21, h22, h26, h29, h30, h23, h25, h24, h27, h31, h32]

def topK (s : List Int) : Int := s.getLast?.getD 0
/-- The stack behind an instruction. -/
def stepK (p : Program) (f : Func) (i : Instr) (s : List Int) : Option (List Int) :=
  let e := eff p f i (topK s)
  if e.1.length ≤ s.length ∧ s.drop (s.length - e.1.length) = e.1 ∧ ¬ (i.Op = 24 ∧ e.1.length < s.length) then some (s.take (s.length - e.1.length) ++ e.2) else none
theorem ite_len {c : Prop} [Decidable c] : (if c then [(0 : Int)] else []).length ≤ 2 := by split <;> exact Nat.le_of_ble_eq_true rfl
theorem eff_len (p : Program) (f : Func) (i : Instr) (t : Int) : (eff p f i t).2.length ≤ 2 := by
  unfold eff locK
  by_cases h0 : i.Op = 1 ∨ i.Op = 28
  · rw [if_pos h0]
    exact Nat.le_of_ble_eq_true rfl
  rw [if_neg h0]
  by_cases h1 : i.Op = 2
  · rw [if_pos h1]
    exact Nat.le_of_ble_eq_true rfl
  rw [if_neg h1]
  by_cases h2 : i.Op = 3
  · rw [if_pos h2]
    exact Nat.le_of_ble_eq_true rfl
  rw [if_neg h2]
  by_cases h3 : i.Op = 4
  · rw [if_pos h3]
    exact Nat.le_of_ble_eq_true rfl
  rw [if_neg h3]
  by_cases h4 : i.Op = 5
  · rw [if_pos h4]
    exact Nat.le_of_ble_eq_true rfl
  rw [if_neg h4]
  by_cases h5 : i.Op = 6
  · rw [if_pos h5]
    exact Nat.le_of_ble_eq_true rfl
  rw [if_neg h5]
  by_cases h6 : i.Op = 21
  · rw [if_pos h6]
    exact Nat.le_of_ble_eq_true rfl
  rw [if_neg h6]
  by_cases h7 : i.Op = 22 ∨ i.Op = 26 ∨ i.Op = 29 ∨ i.Op = 30
  · rw [if_pos h7]
    exact Nat.le_of_ble_eq_true rfl
  rw [if_neg h7]
  by_cases h8 : i.Op = 23 ∨ i.Op = 25
  · rw [if_pos h8]
    cases p.Funcs[i.Arg.toNat]? with
    | none => exact Nat.le_of_ble_eq_true rfl
    | some g => exact ite_len
  rw [if_neg h8]
  by_cases h9 : i.Op = 24
  · rw [if_pos h9]
    exact Nat.le_of_ble_eq_true rfl
  rw [if_neg h9]
  by_cases h10 : i.Op = 27
  · rw [if_pos h10]
    exact Nat.le_of_ble_eq_true rfl
  rw [if_neg h10]
  by_cases h11 : i.Op = 31
  · rw [if_pos h11]
    exact Nat.le_of_ble_eq_true rfl
  rw [if_neg h11]
  by_cases h12 : i.Op = 32
  · rw [if_pos h12]
    exact Nat.le_of_ble_eq_true rfl
  rw [if_neg h12]
  exact Nat.le_of_ble_eq_true rfl
theorem step_len {p f i s s'} (h : stepK p f i s = some s') : s'.length ≤ s.length + 2 := by
  unfold stepK at h
  simp only at h
  split at h
  · cases h
    have := eff_len p f i (topK s)
    simp; omega
  · cases h

/-- What can come to be. -/
inductive Der (p : Program) (f : Func) : Nat → List Int → Prop
  | start : Der p f 0 []
  | go {a : Nat} {s s' : List Int} {i : Instr} {b : Nat} (h : Der p f a s) (hi : f.Code[a]? = some i) (hs : stepK p f i s = some s') (hb : (b : Int) ∈ folL i a) : Der p f b s'
def Bad (p : Program) (f : Func) : Prop :=
  (∃ a s i, Der p f a s ∧ f.Code[a]? = some i ∧ (stepK p f i s = none ∨ ∃ b ∈ folL i a, (f.Code.length : Int) ≤ b)) ∨ ∃ b s1 s2, Der p f b s1 ∧ Der p f b s2 ∧ s1 ≠ s2
def Deep (p : Program) (f : Func) : Prop := ∃ a s i s', Der p f a s ∧ f.Code[a]? = some i ∧ stepK p f i s = some s' ∧ 16 < s'.length
def Sol (p : Program) (f : Func) (R : Nat → Option (List Int)) : Prop :=
  R 0 = some [] ∧ ∀ a s, R a = some s → Der p f a s ∧ ∃ i s', f.Code[a]? = some i ∧ stepK p f i s = some s' ∧ ∀ b ∈ folL i a, ∃ m : Nat, b = m ∧ m < f.Code.length ∧ R m = some s'
theorem Sol.all {p f R} (h : Sol p f R) {a s} (d : Der p f a s) : R a = some s := by
  induction d with
  | start => exact h.1
  | go d hi hs hb ih =>
    obtain ⟨_, i, s', h1, h2, h3⟩ := h.2 _ _ ih
    rw [hi] at h1; cases h1
    rw [hs] at h2; cases h2
    obtain ⟨m, e, _, h4⟩ := h3 _ hb
    have : m = _ := Int.ofNat.inj e.symm
    subst this
    exact h4
theorem Sol.good {p f R} (h : Sol p f R) : ¬ Bad p f := by
  rintro (⟨a, s, i, d, hi, hb⟩ | ⟨b, s1, s2, d1, d2, hne⟩)
  · obtain ⟨_, i', s', h1, h2, h3⟩ := h.2 _ _ (h.all d)
    rw [hi] at h1; cases h1
    rcases hb with hb | ⟨b, hb, hl⟩
    · rw [hb] at h2; cases h2
    · obtain ⟨m, e, hm, _⟩ := h3 b hb
      omega
  · have e1 := h.all d1
    have e2 := h.all d2
    rw [e1] at e2
    exact hne (Option.some.inj e2)
theorem Sol.uniq {p f R R'} (h : Sol p f R) (h' : Sol p f R') : R = R' := by
  funext a
  cases e : R a with
  | some s => exact (h'.all (h.2 _ _ e).1).symm
  | none =>
    cases e' : R' a with
    | none => rfl
    | some s =>
      have := h.all (h'.2 _ _ e').1
      rw [e] at this; cases this

theorem bind_ex {α β : Type} {x : Option α} {F : α → Option β} {P : β → Prop} (h : ∃ o, x = some o ∧ ∃ r, F o = some r ∧ P r) : ∃ r, x.bind F = some r ∧ P r := by
  obtain ⟨o, rfl, r, h1, h2⟩ := h
  exact ⟨r, h1, h2⟩
end Go.Proofs.Ytiocagilhbomgaa
/- Plain laws of kinds: what kinds.function answers. -/
namespace Go.Proofs.Ytiocagilhbomgaa
open Go Go.Ab Go.RowKit
set_option maxRecDepth 20000
set_option linter.unusedVariables false
set_option linter.unusedSimpArgs false

theorem top_jp {β : Type} (y : List Int) (hy : y.length ≤ 1000000000) (K : Int → Option β) :
    jp K (fun k => if decide ((List.length y : Int) > 0) = true then (getI y (I64 ((List.length y : Int) - 1))).bind fun v => k v else k 0) = K (topK y) := by
  unfold jp topK
  cases y with
  | nil => rfl
  | cons a r =>
    have h : ((List.length (a :: r) : Int) > 0) := by simp only [List.length_cons]; omega
    dsimp only
    rw [decide_eq_true h, if_pos rfl, I64_of (by omega), show ((List.length (a :: r) : Int) - 1) = ((r.length : Nat) : Int) by simp only [List.length_cons]; omega, getI_nat]
    rw [List.getLast?_eq_getElem?]
    simp only [List.length_cons, Nat.add_sub_cancel]
    rw [List.getElem?_eq_getElem (by simp)]
    rfl
def okS (op : Int) (y t : List Int) : Bool := decide (t.length ≤ y.length ∧ y.drop (y.length - t.length) = t ∧ ¬ (op = 24 ∧ t.length < y.length))
theorem bad_jp {β : Type} (y t : List Int) (op : Int) (hy : y.length ≤ 1000000) (ht : t.length ≤ 1000000) (K : Bool → Option β) :
    jp K (fun k => if decide (I64 ((List.length y : Int) - (List.length t : Int)) < 0) = true then k true else ((subL y (I64 ((List.length y : Int) - (List.length t : Int))) (List.length y : Int)).bind fun l => (slices_Equal_s l t).bind fun q =>
      if (!q) = true then k true else if (op == 24) = true then k (decide (I64 ((List.length y : Int) - (List.length t : Int)) > 0)) else k false)) = K (!okS op y t) := by
  unfold jp okS
  rw [I64_of (by omega)]
  by_cases h : t.length ≤ y.length
  · have h1 : ¬ ((List.length y : Int) - (List.length t : Int) < 0) := by omega
    rw [decide_eq_false h1]
    simp only [Bool.false_eq_true, if_false]
    unfold subL
    rw [if_pos (by omega)]
    simp only [Option.bind_some]
    rw [show (((List.length y : Int) - (List.length t : Int))).toNat = y.length - t.length by omega, show ((List.length y : Int)).toNat = y.length by omega, List.take_length, Equal_eq _ _ (by simp; omega)]
    simp only [Option.bind_some]
    by_cases h2 : y.drop (y.length - t.length) = t
    · rw [decide_eq_true h2]
      simp only [Bool.not_true, Bool.false_eq_true, if_false]
      by_cases h3 : op = 24
      · have e3 : (op == 24) = true := by simp [h3]
        rw [if_pos e3]
        by_cases h4 : t.length < y.length
        · have : (List.length y : Int) - (List.length t : Int) > 0 := by omega
          rw [decide_eq_true this, decide_eq_false (fun hh => hh.2.2 ⟨h3, h4⟩)]; rfl
        · have : ¬ ((List.length y : Int) - (List.length t : Int) > 0) := by omega
          rw [decide_eq_false this, decide_eq_true ⟨h, h2, fun hh => h4 hh.2⟩]; rfl
      · have e3 : ¬ ((op == 24) = true) := by simp [h3]
        rw [if_neg e3, decide_eq_true ⟨h, h2, fun hh => h3 hh.1⟩]; rfl
    · have e9 : decide (t.length ≤ y.length ∧ y.drop (y.length - t.length) = t ∧ ¬ (op = 24 ∧ t.length < y.length)) = false := decide_eq_false (fun hh => h2 hh.2.1)
      rw [decide_eq_false h2, e9]; rfl
  · have h1 : ((List.length y : Int) - (List.length t : Int) < 0) := by omega
    have e9 : decide (t.length ≤ y.length ∧ y.drop (y.length - t.length) = t ∧ ¬ (op = 24 ∧ t.length < y.length)) = false := decide_eq_false (fun hh => h hh.1)
    dsimp only
    rw [decide_eq_true h1, e9]; rfl
theorem deep_jp {β : Type} (d : Bool) (n : Int) (K : Bool → Option β) : jp K (fun k => if d = true then k true else k (decide (n > 16))) = K (d || decide (n > 16)) := by
  unfold jp; cases d <;> rfl
theorem stepK_eq (p : Program) (f : Func) (i : Instr) (s : List Int) : stepK p f i s = if okS i.Op s (eff p f i (topK s)).1 = true then some (s.take (s.length - (eff p f i (topK s)).1.length) ++ (eff p f i (topK s)).2) else none := by
  unfold stepK okS
  simp only [decide_eq_true_eq]
theorem clone_eq (l : List Int) (h : l.length ≤ 1000000000) : slices_Clone_s l = some l := by unfold slices_Clone_s; rw [appL1 (by simp <;> omega)]; simp
theorem clonez_eq (l : List Int) (h : l.length ≤ 1000000000) : slices_Clone_z_s l = some l := by unfold slices_Clone_z_s; rw [appL1 (by simp <;> omega)]; simp

theorem count_set {r : List Bool} {m : Nat} (h : r[m]? = some false) : (r.set m true).count false + 1 = r.count false := by
  induction r generalizing m with
  | nil => simp at h
  | cons x r ih =>
    cases m with
    | zero => simp at h; subst h; simp
    | succ m =>
      have := ih (m := m) (by simpa using h)
      simp only [List.set_cons_succ, List.count_cons]
      omega

structure IInv (p : Program) (f : Func) (r0 : List Bool) (st0 : List (List Int)) (td0 : List Int) (x' : List Int) (fol : List Int) (k : Nat) (q : List Bool × List (List Int) × List Int) : Prop where
  lr : q.1.length = f.Code.length
  ls : q.2.1.length = f.Code.length
  mono : ∀ m : Nat, r0[m]? = some true → q.1[m]? = some true ∧ q.2.1[m]? = st0[m]?
  new : ∀ m : Nat, q.1[m]? = some true → r0[m]? = some true ∨ (q.2.1[m]? = some x' ∧ (m : Int) ∈ q.2.2 ∧ Der p f m x')
  un : ∀ m : Nat, q.1[m]? = some false → r0[m]? = some false ∧ q.2.1[m]? = some []
  td : ∀ t ∈ q.2.2, ∃ a : Nat, t = a ∧ q.1[a]? = some true
  sub : ∀ t ∈ td0, t ∈ q.2.2
  me : 2 * q.1.count false + q.2.2.length ≤ 2 * r0.count false + td0.length
  got : ∀ (j : Nat) b, j < k → fol[j]? = some b → ∃ m : Nat, b = m ∧ m < f.Code.length ∧ q.1[m]? = some true ∧ q.2.1[m]? = some x'

theorem inner {ρ : Type} (E : ρ) (p : Program) (f : Func) {r0 : List Bool} {st0 : List (List Int)} {td0 : List Int} {x x' : List Int} {a : Nat} {i : Instr} {fol : List Int}
    (hn : f.Code.length ≤ 256) (hd : Der p f a x) (hi : f.Code[a]? = some i) (hs : stepK p f i x = some x') (hx : x'.length ≤ 100000) (hfol : fol = folL i a) (hf0 : ∀ b ∈ fol, 0 ≤ b) (hlr : r0.length = f.Code.length) (hls : st0.length = f.Code.length)
    (hsl : ∀ (m : Nat) (y : List Int), st0[m]? = some y → y.length ≤ 100000)
    (hder : ∀ m : Nat, r0[m]? = some true → ∃ y, st0[m]? = some y ∧ Der p f m y) (hun : ∀ m : Nat, r0[m]? = some false → st0[m]? = some []) (htd : ∀ t ∈ td0, ∃ a : Nat, t = a ∧ r0[a]? = some true) (htl : td0.length ≤ 10000) :
    ∃ o, rng (fun (i_25 : Nat) (vto_26 : Int) (s_24 : ((List Bool) × (List (List Int)) × (List Int))) => ((if (decide (vto_26 ≥ (List.length f.Code : Int))) then (some (.ret E)) else ((getI s_24.1 vto_26).bind fun y_28 => (if (!y_28) then ((getI s_24.1 vto_26).bind fun y_29 => ((getI s_24.2.1 vto_26).bind fun y_31 => ((appL 8 s_24.2.2 [vto_26]).bind fun l_33 => (some (.nxt ((List.set s_24.1 (Int.toNat vto_26) true), (List.set s_24.2.1 (Int.toNat vto_26) x'), l_33)))))) else ((getI s_24.2.1 vto_26).bind fun y_34 => ((slices_Equal_s y_34 x').bind fun equ_35 => (if (!equ_35) then (some (.ret E)) else (some (.nxt (s_24.1, s_24.2.1, s_24.2.2))))))))) : Option (Stp ((List Bool) × (List (List Int)) × (List Int)) ρ))) fol (r0, st0, td0) = some o ∧
      ((∃ q, o = .fin q ∧ IInv p f r0 st0 td0 x' fol fol.length q) ∨ (o = .ret E ∧ Bad p f)) := by
  have hfl : fol.length ≤ 2 := by rw [hfol]; exact folL_le i a
  refine rng_ex (IInv p f r0 st0 td0 x' fol) _ (by omega) ?h0 ?h ?hQ
  case h0 => exact ⟨hlr, hls, fun m h => ⟨h, rfl⟩, fun m h => .inl h, fun m h => ⟨h, hun m h⟩, htd, fun t h => h, Nat.le_refl _, fun j b hj => by omega⟩
  case hQ => exact fun q hq => .inl ⟨q, rfl, hq⟩
  intro j to q hto hq
  have hb : to ∈ folL i a := hfol ▸ List.mem_of_getElem? hto
  have hto0 : 0 ≤ to := hf0 to (List.mem_of_getElem? hto)
  obtain ⟨m, rfl⟩ : ∃ m : Nat, to = m := ⟨to.toNat, by omega⟩
  by_cases hge : (m : Int) ≥ f.Code.length
  · right
    exact ⟨E, by rw [if_pos (by simpa using hge)], .inr ⟨rfl, .inl ⟨a, x, i, hd, hi, .inr ⟨m, hb, by omega⟩⟩⟩⟩
  have hlt : m < f.Code.length := by omega
  have hdm : Der p f m x' := .go hd hi hs hb
  rw [if_neg (by simpa using hge), getI_nat]
  have hrm : q.1[m]? = some (q.1[m]'(by rw [hq.lr]; exact hlt)) := List.getElem?_eq_getElem _
  have hsm : q.2.1[m]? = some (q.2.1[m]'(by rw [hq.ls]; exact hlt)) := List.getElem?_eq_getElem _
  generalize q.1[m]'(by rw [hq.lr]; exact hlt) = rb at hrm
  generalize q.2.1[m]'(by rw [hq.ls]; exact hlt) = sb at hsm
  rw [hrm]
  simp only [Option.bind_some]
  cases rb with
  | false =>
    simp only [Bool.not_false, if_true]
    rw [getI_nat, hsm]
    simp only [Option.bind_some]
    have hql : q.2.2.length ≤ 11000 := by
      have := hq.me
      have h2 : r0.count false ≤ r0.length := List.count_le_length
      omega
    rw [appL_of (by simp; omega)]
    left
    refine ⟨_, rfl, ?_⟩
    have hmf := hq.un m hrm
    have hc := count_set hrm
    refine ⟨by simpa using hq.lr, by simpa using hq.ls, fun k hk => ?_, fun k hk => ?_, fun k hk => ?_, fun t ht => ?_, fun t ht => by simp [hq.sub t ht], ?_, fun k b hk hb2 => ?_⟩
    · have hne : k ≠ m := by rintro rfl; rw [hmf.1] at hk; cases hk
      have := hq.mono k hk
      simp only [Int.toNat_natCast, List.getElem?_set_ne (Ne.symm hne)]
      exact this
    · by_cases e : k = m
      · subst e
        right
        refine ⟨?_, by simp, hdm⟩
        simp only [Int.toNat_natCast]
        rw [List.getElem?_set_self (by rw [hq.ls]; exact hlt)]
      · simp only [Int.toNat_natCast, List.getElem?_set_ne (Ne.symm e)] at hk ⊢
        rcases hq.new k hk with h | ⟨h1, h2, h3⟩
        · exact .inl h
        · exact .inr ⟨h1, by simp [h2], h3⟩
    · by_cases e : k = m
      · subst e
        simp only [Int.toNat_natCast] at hk
        rw [List.getElem?_set_self (by rw [hq.lr]; exact hlt)] at hk
        cases hk
      · simp only [Int.toNat_natCast, List.getElem?_set_ne (Ne.symm e)] at hk ⊢
        exact hq.un k hk
    · simp only [List.mem_append, List.mem_singleton] at ht
      simp only [Int.toNat_natCast]
      rcases ht with ht | rfl
      · obtain ⟨c, rfl, h1⟩ := hq.td t ht
        refine ⟨c, rfl, ?_⟩
        by_cases e : c = m
        · subst e; rw [List.getElem?_set_self (by rw [hq.lr]; exact hlt)]
        · rw [List.getElem?_set_ne (Ne.symm e)]; exact h1
      · exact ⟨m, rfl, by rw [List.getElem?_set_self (by rw [hq.lr]; exact hlt)]⟩
    · have := hq.me
      simp only [Int.toNat_natCast, List.length_append, List.length_singleton]
      omega
    · simp only [Int.toNat_natCast]
      by_cases e : k = j
      · subst e
        rw [hto] at hb2; cases hb2
        exact ⟨m, rfl, hlt, by rw [List.getElem?_set_self (by rw [hq.lr]; exact hlt)], by rw [List.getElem?_set_self (by rw [hq.ls]; exact hlt)]⟩
      · obtain ⟨c, rfl, h1, h2, h3⟩ := hq.got k b (by omega) hb2
        have hne : c ≠ m := by rintro rfl; rw [hrm] at h2; cases h2
        exact ⟨c, rfl, h1, by rw [List.getElem?_set_ne (Ne.symm hne)]; exact h2, by rw [List.getElem?_set_ne (Ne.symm hne)]; exact h3⟩
  | true =>
    simp only [Bool.not_true, Bool.false_eq_true, if_false]
    rw [getI_nat, hsm]
    simp only [Option.bind_some]
    have hsb : sb.length ≤ 100000 ∧ Der p f m sb := by
      rcases hq.new m hrm with h | ⟨h1, _, h3⟩
      · have := (hq.mono m h).2
        rw [hsm] at this
        obtain ⟨y, e1, e2⟩ := hder m h
        rw [e1] at this
        cases this
        exact ⟨hsl m sb e1, e2⟩
      · rw [hsm] at h1; cases h1; exact ⟨hx, h3⟩
    rw [Equal_eq sb x' (by omega)]
    simp only [Option.bind_some]
    by_cases e : sb = x'
    · left
      rw [decide_eq_true e]
      refine ⟨_, rfl, ?_⟩
      refine ⟨hq.lr, hq.ls, hq.mono, hq.new, hq.un, hq.td, hq.sub, hq.me, fun k b hk hb2 => ?_⟩
      by_cases ek : k = j
      · subst ek
        rw [hto] at hb2; cases hb2
        exact ⟨m, rfl, hlt, hrm, by rw [← e]; exact hsm⟩
      · exact hq.got k b (by omega) hb2
    · right
      rw [decide_eq_false e]
      exact ⟨E, rfl, .inr ⟨rfl, .inr ⟨m, sb, x', hsb.2, hdm, e⟩⟩⟩
end Go.Proofs.Ytiocagilhbomgaa
/- Plain laws of kinds: kinds.function's answer is the one solution, or something is bad. -/
namespace Go.Proofs.Ytiocagilhbomgaa
open Go Go.Ab Go.RowKit
set_option maxRecDepth 20000
set_option linter.unusedVariables false
set_option linter.unusedSimpArgs false

/-- Which functions come to kinds.function. -/
structure FOk (p : Program) (f : Func) : Prop where
  ps : ∀ g ∈ p.Funcs, funcP g = true
  fp : funcP f = true
  bd : boundF f = true
  hd : headP p f = true
theorem FOk.n {p f} (h : FOk p f) : 1 ≤ f.Code.length ∧ f.Code.length ≤ 256 := by
  have h1 := h.bd
  have h2 := h.hd
  unfold boundF at h1
  unfold headP keepP at h2
  simp only [Bool.and_eq_true, decide_eq_true_eq] at h1 h2
  omega
theorem FOk.name {p f} (h : FOk p f) {a : Nat} {i : Instr} (hi : f.Code[a]? = some i) : nameP p f i = true := by
  have h2 := h.hd
  unfold headP codeP at h2
  simp only [Bool.and_eq_true, List.all_eq_true] at h2
  exact (h2.2 i (List.mem_of_getElem? hi)).1
theorem FOk.arg {p f} (h : FOk p f) {a : Nat} {i : Instr} (hi : f.Code[a]? = some i) : 0 ≤ i.Arg ∧ i.Arg ≤ 65535 := by
  have := instr_arg (funcP_code h.fp i (List.mem_of_getElem? hi))
  exact ⟨this.1, this.2.1⟩
theorem FOk.fol {p f} (h : FOk p f) {a : Nat} {i : Instr} (hi : f.Code[a]? = some i) : ∀ b ∈ folL i a, 0 ≤ b := by
  have := (h.arg hi).1
  intro b hb
  unfold folL at hb
  split at hb
  · simp at hb; omega
  · split at hb
    · simp at hb; omega
    · split at hb
      · simp at hb
      · simp at hb; omega
theorem eff_len1 {p f} (h : FOk p f) (i : Instr) (t : Int) : (eff p f i t).1.length ≤ 255 := by
  have aux : ∀ (g : Func) (x : List Int), g ∈ p.Funcs → (g.Locals.take g.Params.toNat, x).1.length ≤ 255 := fun g x hg => by
    have := funcP_head (h.ps g hg)
    simp; omega
  unfold eff locK
  by_cases h0 : i.Op = 1 ∨ i.Op = 28
  · rw [if_pos h0]; exact Nat.le_of_ble_eq_true rfl
  rw [if_neg h0]
  by_cases h1 : i.Op = 2
  · rw [if_pos h1]; exact Nat.le_of_ble_eq_true rfl
  rw [if_neg h1]
  by_cases h2 : i.Op = 3
  · rw [if_pos h2]; exact Nat.le_of_ble_eq_true rfl
  rw [if_neg h2]
  by_cases h3 : i.Op = 4
  · rw [if_pos h3]; exact Nat.le_of_ble_eq_true rfl
  rw [if_neg h3]
  by_cases h4 : i.Op = 5
  · rw [if_pos h4]; exact Nat.le_of_ble_eq_true rfl
  rw [if_neg h4]
  by_cases h5 : i.Op = 6
  · rw [if_pos h5]; exact Nat.le_of_ble_eq_true rfl
  rw [if_neg h5]
  by_cases h6 : i.Op = 21
  · rw [if_pos h6]; exact Nat.le_of_ble_eq_true rfl
  rw [if_neg h6]
  by_cases h7 : i.Op = 22 ∨ i.Op = 26 ∨ i.Op = 29 ∨ i.Op = 30
  · rw [if_pos h7]; exact Nat.le_of_ble_eq_true rfl
  rw [if_neg h7]
  by_cases h8 : i.Op = 23 ∨ i.Op = 25
  · rw [if_pos h8]
    cases e : p.Funcs[i.Arg.toNat]? with
    | none => exact Nat.le_of_ble_eq_true rfl
    | some g => exact aux g _ (List.mem_of_getElem? e)
  rw [if_neg h8]
  by_cases h9 : i.Op = 24
  · rw [if_pos h9]
    cases f.Result <;> exact Nat.le_of_ble_eq_true rfl
  rw [if_neg h9]
  by_cases h10 : i.Op = 27
  · rw [if_pos h10]; exact Nat.le_of_ble_eq_true rfl
  rw [if_neg h10]
  by_cases h11 : i.Op = 31
  · rw [if_pos h11]; exact Nat.le_of_ble_eq_true rfl
  rw [if_neg h11]
  by_cases h12 : i.Op = 32
  · rw [if_pos h12]; exact Nat.le_of_ble_eq_true rfl
  rw [if_neg h12]
  exact Nat.le_of_ble_eq_true rfl

def muK (s : Bool × List Bool × List (List Int) × List Int) : Nat := 2 * s.2.1.count false + s.2.2.2.length
structure KInv (p : Program) (f : Func) (s : Bool × List Bool × List (List Int) × List Int) : Prop where
  lr : s.2.1.length = f.Code.length
  ls : s.2.2.1.length = f.Code.length
  td : ∀ t ∈ s.2.2.2, ∃ a : Nat, t = a ∧ s.2.1[a]? = some true
  z : s.2.1[0]? = some true ∧ s.2.2.1[0]? = some []
  der : ∀ a : Nat, s.2.1[a]? = some true → ∃ x, s.2.2.1[a]? = some x ∧ Der p f a x
  un : ∀ a : Nat, s.2.1[a]? = some false → s.2.2.1[a]? = some []
  done : ∀ a : Nat, s.2.1[a]? = some true → (a : Int) ∉ s.2.2.2 → ∃ i x x', f.Code[a]? = some i ∧ s.2.2.1[a]? = some x ∧ stepK p f i x = some x' ∧ (16 < x'.length → s.1 = true) ∧
    ∀ b ∈ folL i a, ∃ m : Nat, b = m ∧ m < f.Code.length ∧ s.2.1[m]? = some true ∧ s.2.2.1[m]? = some x'
  dp : s.1 = true → Deep p f
  len : ∀ (a : Nat) x, s.2.2.1[a]? = some x → x.length + 4 * muK s ≤ 8 * f.Code.length + 8

/-- What kinds.function is to answer. -/
def FAns (p : Program) (f : Func) (o : List Bool × List (List Int) × Bool × Int) : Prop :=
  (Bad p f ∧ o = ([], [], false, 50)) ∨ ∃ R, Sol p f R ∧ o.2.2.2 = 0 ∧ o.1.length = f.Code.length ∧ o.2.1.length = f.Code.length ∧ (o.2.2.1 = true ↔ Deep p f) ∧
    ∀ a, a < f.Code.length → o.1[a]? = some (R a).isSome ∧ o.2.1[a]? = some ((R a).getD [])

theorem KInv.ans {p f s} (h : KInv p f s) (ht : s.2.2.2 = []) : FAns p f (s.2.1, s.2.2.1, s.1, 0) := by
  right
  have hget : ∀ a : Nat, a < f.Code.length → ∃ b x, s.2.1[a]? = some b ∧ s.2.2.1[a]? = some x := fun a ha =>
    ⟨_, _, List.getElem?_eq_getElem (by rw [h.lr]; exact ha), List.getElem?_eq_getElem (by rw [h.ls]; exact ha)⟩
  let R : Nat → Option (List Int) := fun a => if s.2.1[a]? = some true then s.2.2.1[a]? else none
  have hR : Sol p f R := by
    refine ⟨by simp only [R]; rw [if_pos h.z.1]; exact h.z.2, fun a x hx => ?_⟩
    simp only [R] at hx
    split at hx
    · rename_i hr
      obtain ⟨y, e1, e2⟩ := h.der a hr
      rw [hx] at e1; cases e1
      refine ⟨e2, ?_⟩
      obtain ⟨i, y, x', d1, d2, d3, _, d4⟩ := h.done a hr (by rw [ht]; simp)
      rw [hx] at d2; cases d2
      refine ⟨i, x', d1, d3, fun b hb => ?_⟩
      obtain ⟨m, m1, m2, m3, m4⟩ := d4 b hb
      exact ⟨m, m1, m2, by simp only [R]; rw [if_pos m3]; exact m4⟩
    · cases hx
  refine ⟨R, hR, rfl, h.lr, h.ls, ⟨h.dp, fun ⟨a, x, i, x', d, hi, hs, hl⟩ => ?_⟩, fun a ha => ?_⟩
  · have e := hR.all d
    simp only [R] at e
    split at e
    · rename_i hr
      obtain ⟨i2, y, x2, d1, d2, d3, d5, d4⟩ := h.done a hr (by rw [ht]; simp)
      rw [e] at d2; cases d2
      rw [hi] at d1; cases d1
      rw [hs] at d3; cases d3
      exact d5 hl
    · cases e
  · obtain ⟨b, x, e1, e2⟩ := hget a ha
    simp only [R, e1, e2]
    cases b with
    | true => simp
    | false =>
      have := h.un a e1
      rw [e2] at this; cases this
      simp

theorem last_mem {l : List Int} {m : Nat} (h : l.length = m + 1) : ∃ x, l[m]? = some x ∧ l = l.take m ++ [x] := by
  have hlt : m < l.length := by omega
  refine ⟨l[m], List.getElem?_eq_getElem hlt, ?_⟩
  have := List.take_succ_eq_append_getElem hlt
  rw [← h, List.take_length] at this
  exact this

theorem function_ok (p : Program) (f : Func) (h : FOk p f) : ∃ o, kinds_function_s 1048577 p f = some o ∧ FAns p f o := by
  obtain ⟨hn1, hn2⟩ := h.n
  unfold kinds_function_s
  have mk1 : mkL 1 (List.length f.Code : Int) (List.length f.Code : Int) false = some (List.replicate f.Code.length false) := by
    unfold mkL; rw [if_pos (by omega)]; simp
  have mk2 : mkL 24 (List.length f.Code : Int) (List.length f.Code : Int) ([] : List Int) = some (List.replicate f.Code.length []) := by
    unfold mkL; rw [if_pos (by omega)]; simp
  rw [mk1, mk2]
  simp only [Option.bind_some]
  rw [getI_lt (by omega) (by simp; omega)]
  simp only [Option.bind_some]
  refine bind_ex (whileN_ex (KInv p f) muK _ ?h 1048577 _ ?h0 ?hm)
  case h0 =>
    have hc : (List.set (List.replicate f.Code.length false) 0 true).count false + 1 = f.Code.length := by
      have := count_set (r := List.replicate f.Code.length false) (m := 0) (by rw [List.getElem?_replicate, if_pos (by omega)])
      simpa using this
    have g : ∀ a : Nat, (List.set (List.replicate f.Code.length false) 0 true)[a]? = some true → a = 0 := fun a ha => by
      by_cases e : a = 0
      · exact e
      · rw [List.getElem?_set_ne (Ne.symm e)] at ha
        rw [List.getElem?_replicate] at ha
        split at ha <;> cases ha
    refine ⟨by simp, by simp, fun t ht => ?_, ⟨?_, ?_⟩, fun a ha => ?_, fun a ha => ?_, fun a ha hn => ?_, (fun e => (Bool.false_ne_true e).elim), fun a x hx => ?_⟩
    · simp only [List.mem_singleton] at ht
      refine ⟨0, by simpa using ht, ?_⟩
      rw [show Int.toNat 0 = 0 from rfl, List.getElem?_set_self (by simp; omega)]
    · rw [show Int.toNat 0 = 0 from rfl, List.getElem?_set_self (by simp; omega)]
    · simp only [List.getElem?_replicate]; rw [if_pos (by omega)]
    · have := g a ha
      subst this
      exact ⟨[], by simp only [List.getElem?_replicate]; rw [if_pos (by omega)], .start⟩
    · simp only [List.getElem?_replicate]
      have : a < f.Code.length := by
        have := (List.getElem?_eq_some_iff.1 ha).1
        simpa using this
      rw [if_pos this]
    · have := g a ha
      subst this
      simp at hn
    · simp only [List.getElem?_replicate] at hx
      split at hx
      · cases hx
        simp only [muK, List.length_nil, List.length_singleton]
        rw [show Int.toNat 0 = 0 from rfl]
        omega
      · cases hx
  case hm =>
    have : (List.set (List.replicate f.Code.length false) 0 true).count false ≤ f.Code.length := by
      have := List.count_le_length (a := false) (l := List.set (List.replicate f.Code.length false) 0 true)
      simpa using this
    simp only [muK]
    rw [show Int.toNat 0 = 0 from rfl]
    simp only [List.length_singleton]
    omega
  intro s hs
  obtain ⟨dp, rd, st, td⟩ := s
  by_cases htd : td = []
  · -- the end
    right; left
    subst htd
    refine ⟨(dp, rd, st, []), by simp, ?_⟩
    simp only [oc]
    have L := rni_inv (σ := List (List Int)) (ρ := Option (List Bool × List (List Int) × Bool × Int)) (n := (List.length st : Int)) (s0 := st) (fun i s => s = st)
      (body := fun (i_37 : Nat) (s_36 : (List (List Int))) => (((getI s_36 (i_37 : Int)).bind fun y_38 => ((slices_Clone_z_s y_38).bind fun clo_39 => ((getI s_36 (i_37 : Int)).bind fun y_40 => (some (.nxt (List.set s_36 (Int.toNat (i_37 : Int)) clo_39)))))))) (by have := hs.ls; simp only at this; omega) rfl (fun i s hi e => by
        subst e
        have hlt : i < s.length := by omega
        rw [getI_nat, List.getElem?_eq_getElem hlt]
        simp only [Option.bind_some]
        rw [clonez_eq _ (by have := hs.len i _ (List.getElem?_eq_getElem hlt); omega)]
        exact ⟨_, rfl, by simp⟩)
    obtain ⟨s', e1, rfl⟩ := L
    rw [e1]
    exact ⟨_, rfl, hs.ans rfl⟩
  obtain ⟨k, hk⟩ : ∃ k, td.length = k + 1 := ⟨td.length - 1, by have := List.length_pos_iff.2 htd; omega⟩
  obtain ⟨t, ht1, ht2⟩ := last_mem hk
  have htl : td.length ≤ 2100 := by
    have h1 := hs.len 0 [] hs.z.2
    simp only [muK] at h1
    omega
  obtain ⟨a, rfl, hra⟩ := hs.td t (by simp only; rw [ht2]; simp)
  simp only at hra
  obtain ⟨x, hxa, hda⟩ := hs.der a hra
  simp only at hxa
  have halt : a < f.Code.length := by
    have := (List.getElem?_eq_some_iff.1 hra).1
    have h2 := hs.lr
    simp only at h2
    omega
  have hia : f.Code[a]? = some f.Code[a] := List.getElem?_eq_getElem halt
  generalize f.Code[a] = i at hia
  have hxl := hs.len a x hxa
  have hpos : decide ((List.length td : Int) > 0) = true := by simp; omega
  dsimp only
  rw [hpos]
  simp only [if_true]
  rw [show I64 ((List.length td : Int) - 1) = (k : Int) by rw [I64_of (by omega)]; omega, getI_nat, ht1]
  simp only [Option.bind_some]
  have hsub : subL td 0 (k : Int) = some (td.take k) := by
    unfold subL; rw [if_pos (by omega)]; simp
  rw [hsub]
  simp only [Option.bind_some]
  rw [getI_nat, hxa]
  simp only [Option.bind_some]
  rw [getI_nat, hia]
  simp only [Option.bind_some]
  rw [top_jp x (by omega)]
  rw [effect_eq p f i _ (h.arg hia) (h.name hia) h.ps]
  simp only [Option.bind_some]
  have hel := eff_len1 h i (topK x)
  have hel2 := eff_len p f i (topK x)
  have hst := stepK_eq p f i x
  generalize eff p f i (topK x) = e at hel hel2 hst ⊢
  rw [bad_jp x e.1 i.Op (by omega) (by omega)]
  cases hok : okS i.Op x e.1 with
  | false =>
    right; right
    rw [hok] at hst
    simp only [Bool.false_eq_true, if_false] at hst
    refine ⟨some ([], [], false, 50), by simp, ?_⟩
    exact ⟨_, rfl, .inl ⟨.inl ⟨a, x, i, hda, hia, .inl hst⟩, rfl⟩⟩
  | true =>
    rw [hok] at hst
    simp only [if_true] at hst
    have hle : e.1.length ≤ x.length := by
      unfold okS at hok
      simp only [decide_eq_true_eq] at hok
      exact hok.1
    simp only [Bool.not_true, Bool.false_eq_true, if_false]
    have hsub2 : subL x 0 (I64 ((List.length x : Int) - (List.length e.1 : Int))) = some (x.take (x.length - e.1.length)) := by
      rw [I64_of (by omega)]
      unfold subL
      rw [if_pos (by omega), show (((List.length x : Int) - (List.length e.1 : Int))).toNat = x.length - e.1.length by omega]
      simp
    rw [hsub2]
    simp only [Option.bind_some]
    rw [clone_eq _ (by simp; omega)]
    simp only [Option.bind_some]
    rw [appL1 (by simp; omega)]
    simp only [Option.bind_some]
    rw [deep_jp, follow_eq i a (by omega)]
    simp only [Option.bind_some]
    have hx'l := step_len hst
    generalize x.take (x.length - e.1.length) ++ e.2 = x' at hst hx'l ⊢
    have hmu : muK (dp, rd, st, td) = 2 * rd.count false + (k + 1) := by simp only [muK, hk]
    obtain ⟨o, ho, hq⟩ := inner (some (.ret (some (([] : List Bool), ([] : List (List Int)), false, (50 : Int)))) : Option (Stp (Bool × List Bool × List (List Int) × List Int) (Option (List Bool × List (List Int) × Bool × Int)))) p f (r0 := rd) (st0 := st) (td0 := td.take k) (x := x) (x' := x') (a := a) (i := i) (fol := folL i a)
      hn2 hda hia hst (by omega) rfl (h.fol hia) hs.lr hs.ls (fun m y hy => by have := hs.len m y hy; omega) hs.der hs.un (fun t ht => hs.td t (List.mem_of_mem_take ht)) (by simp; omega)
    rw [ho]
    simp only [Option.bind_some]
    rcases hq with ⟨q, rfl, hq⟩ | ⟨rfl, hb⟩
    · left
      refine ⟨_, rfl, ?_, ?_⟩
      · have hlk : (td.take k).length = k := by simp; omega
        have hme := hq.me
        rw [hlk] at hme
        have hz := hq.mono 0 hs.z.1
        refine ⟨hq.lr, hq.ls, hq.td, ⟨hz.1, hz.2.trans hs.z.2⟩, fun m hm => ?_, fun m hm => (hq.un m hm).2, fun m hm hmt => ?_, fun hd => ?_, fun m y hy => ?_⟩
        · rcases hq.new m hm with h1 | ⟨h1, _, h3⟩
          · obtain ⟨y, e1, e2⟩ := hs.der m h1
            exact ⟨y, (hq.mono m h1).2.trans e1, e2⟩
          · exact ⟨x', h1, h3⟩
        · simp only at hm hmt
          rcases hq.new m hm with h1 | ⟨_, h2, _⟩
          · by_cases hma : m = a
            · subst hma
              refine ⟨i, x, x', hia, (hq.mono m h1).2.trans hxa, hst, fun hl => by simp; right; omega, fun b hb => ?_⟩
              obtain ⟨j, hj⟩ := List.getElem?_of_mem hb
              exact hq.got j b (List.getElem?_eq_some_iff.1 hj).1 hj
            · have hnt : (m : Int) ∉ td := by
                intro hin
                rw [ht2] at hin
                simp only [List.mem_append, List.mem_singleton] at hin
                rcases hin with hin | hin
                · exact hmt (hq.sub _ hin)
                · exact hma (Int.ofNat.inj hin)
              obtain ⟨i2, y, y', d1, d2, d3, d4, d5⟩ := hs.done m h1 hnt
              refine ⟨i2, y, y', d1, (hq.mono m h1).2.trans d2, d3, fun hl => by have := d4 hl; simp only at this; simp [this], fun b hb => ?_⟩
              obtain ⟨c, c1, c2, c3, c4⟩ := d5 b hb
              exact ⟨c, c1, c2, (hq.mono c c3).1, (hq.mono c c3).2.trans c4⟩
          · exact (hmt h2).elim
        · simp only [Bool.or_eq_true, decide_eq_true_eq] at hd
          rcases hd with hd | hd
          · exact hs.dp hd
          · exact ⟨a, x, i, x', hda, hia, hst, by omega⟩
        · have hmu2 : muK (dp || decide ((List.length x' : Int) > 16), q.1, q.2.1, q.2.2) = 2 * q.1.count false + q.2.2.length := rfl
          rw [hmu2]
          simp only at hy
          rw [hmu] at hxl
          have hmlt : m < f.Code.length := by
            have := (List.getElem?_eq_some_iff.1 hy).1
            have h2 := hq.ls
            omega
          have hb : q.1[m]? = some (q.1[m]'(by rw [hq.lr]; exact hmlt)) := List.getElem?_eq_getElem _
          generalize q.1[m]'(by rw [hq.lr]; exact hmlt) = bb at hb
          cases bb with
          | false =>
            have := (hq.un m hb).2
            rw [hy] at this; cases this
            simp; omega
          | true =>
            rcases hq.new m hb with h1 | ⟨h1, _, _⟩
            · have e1 := (hq.mono m h1).2
              rw [hy] at e1
              have := hs.len m y e1.symm
              rw [hmu] at this
              omega
            · rw [hy] at h1; cases h1
              omega
      · have hme := hq.me
        have hlk : (td.take k).length = k := by simp; omega
        rw [hlk] at hme
        rw [hmu]
        simp only [muK]
        omega
    · right; right
      exact ⟨_, rfl, _, rfl, .inl ⟨hb, rfl⟩⟩
end Go.Proofs.Ytiocagilhbomgaa
/- Plain laws of kinds: what kinds.Check answers; what is reached goes on to what is reached. -/
namespace Go.Proofs.Ytiocagilhbomgaa
open Go Go.Ab Go.RowKit
set_option maxRecDepth 20000
set_option linter.unusedVariables false
set_option linter.unusedSimpArgs false

def mainP (p : Program) : Bool := match p.Funcs with | f :: _ => decide (f.Params = 0) && !f.Result | [] => false
def goodP (p : Program) : Bool := encP p && (boundP p && (mainP p && p.Funcs.all (headP p)))
theorem goodP_ok {p : Program} (h : goodP p = true) {f : Func} (hf : f ∈ p.Funcs) : FOk p f := by
  unfold goodP encP boundP at h
  simp only [Bool.and_eq_true, decide_eq_true_eq, List.all_eq_true] at h
  exact ⟨h.1.2, h.1.2 f hf, h.2.1.1 f hf, h.2.2.2 f hf⟩
/-- A function's types are the solution. -/
def FGood (p : Program) (f : Func) (rd : List Bool) (st : List (List Int)) : Prop :=
  ∃ R, Sol p f R ∧ rd.length = f.Code.length ∧ st.length = f.Code.length ∧ ∀ a, a < f.Code.length → rd[a]? = some (R a).isSome ∧ st[a]? = some ((R a).getD [])
def CAns (p : Program) (o : Option Types × Int) : Prop :=
  (encP p = false ∧ o = (none, 30)) ∨ (encP p = true ∧ boundP p = false ∧ o = (none, 31)) ∨ (encP p = true ∧ boundP p = true ∧ (mainP p && p.Funcs.all (headP p)) = false ∧ o = (none, 50)) ∨
  (goodP p = true ∧ (∃ f ∈ p.Funcs, Bad p f) ∧ o = (none, 50)) ∨
  (goodP p = true ∧ (∀ f ∈ p.Funcs, ∃ R, Sol p f R) ∧ (∃ f ∈ p.Funcs, Deep p f) ∧ o = (none, 31)) ∨
  (goodP p = true ∧ (∀ f ∈ p.Funcs, ¬ Deep p f) ∧ ∃ T : Types, o = (some T, 0) ∧ T.Reached.length = p.Funcs.length ∧ T.Stacks.length = p.Funcs.length ∧
    ∀ (k : Nat) f, p.Funcs[k]? = some f → ∃ rd st, T.Reached[k]? = some rd ∧ T.Stacks[k]? = some st ∧ FGood p f rd st)

structure LInv (p : Program) (j : Nat) (s : Bool × List (List Bool) × List (List (List Int))) : Prop where
  l1 : s.2.1.length = j
  l2 : s.2.2.length = j
  dp : s.1 = true ↔ ∃ (k : Nat) (f : Func), k < j ∧ p.Funcs[k]? = some f ∧ Deep p f
  ok : ∀ (k : Nat) f, k < j → p.Funcs[k]? = some f → ∃ rd st, s.2.1[k]? = some rd ∧ s.2.2[k]? = some st ∧ FGood p f rd st

theorem Check_ok (p : Program) (hl : p.Funcs.length ≤ 1048576) : ∃ o, kinds_Check_s 1048577 p = some o ∧ CAns p o := by
  unfold kinds_Check_s
  obtain ⟨l, he⟩ := Encode_eq p
  rw [he]
  simp only [Option.bind_some]
  cases henc : encP p with
  | false => exact ⟨(none, 30), rfl, .inl ⟨henc, rfl⟩⟩
  | true =>
    have e0 : ((if true = true then (0 : Int) else 30) != 0) = false := rfl
    simp only [e0, Bool.false_eq_true, if_false]
    rw [Bounded_eq p hl]
    simp only [Option.bind_some]
    cases hbd : boundP p with
    | false => exact ⟨(none, 31), rfl, .inr (.inl ⟨henc, hbd, rfl⟩)⟩
    | true =>
      simp only [Bool.not_true, Bool.false_eq_true, if_false]
      have henc2 := henc
      unfold encP at henc2
      simp only [Bool.and_eq_true, decide_eq_true_eq, List.all_eq_true] at henc2
      have hmain : ∀ {β : Type} (K : Bool → Option β), jp K (fun k_3 => ((getI p.Funcs 0).bind fun y_5 => (if (decide (y_5.Params > 0)) then (k_3 true) else (k_3 y_5.Result)))) = K (!mainP p) := by
        intro β K
        unfold jp mainP
        match hf : p.Funcs with
        | [] => rw [hf] at henc2; simp at henc2
        | f :: r =>
          have hfp := funcP_head (henc2.2 f (by rw [hf]; simp))
          show ((getI (f :: r) ((0 : Nat) : Int)).bind _) = _
          rw [getI_nat]
          simp only [List.getElem?_cons_zero, Option.bind_some]
          by_cases h0 : f.Params > 0
          · have : ¬ f.Params = 0 := by omega
            simp [h0, this]
          · have : f.Params = 0 := by omega
            simp [h0, this]
      rw [hmain]
      cases hm : mainP p with
      | false => exact ⟨(none, 50), rfl, .inr (.inr (.inl ⟨henc, hbd, by rw [hm]; rfl, rfl⟩))⟩
      | true =>
        simp only [Bool.not_true, Bool.false_eq_true, if_false]
        have L := rng_inv (σ := Unit) (ρ := Option (Option Types × Int)) (xs := p.Funcs) (s0 := ()) (headP p) (some (none, 50)) (fun _ _ => True)
          (body := fun (i_7 : Nat) (f_8 : Func) (s_6 : Unit) => (((kinds_head_s p f_8).bind fun hea_10 => (if (!hea_10) then (some (.ret (some (none, 50)))) else (some (.nxt ())))) : Option (Stp Unit (Option ((Option Types) × Int))))) (by omega) trivial (fun i x s hx _ => by
            rw [head_eq p x (henc2.2 x (List.mem_of_getElem? hx)) hl]
            cases headP p x with
            | false => rfl
            | true => exact ⟨(), rfl, trivial⟩)
        cases hh : p.Funcs.all (headP p) with
        | false =>
          rw [hh] at L
          simp only [Bool.false_eq_true, if_false] at L
          rw [L]
          exact ⟨(none, 50), rfl, .inr (.inr (.inl ⟨henc, hbd, by rw [hm, hh]; rfl, rfl⟩))⟩
        | true =>
          rw [hh] at L
          simp only [if_true] at L
          obtain ⟨_, e1, _⟩ := L
          rw [e1]
          simp only [Option.bind_some, oc]
          have hgood : goodP p = true := by unfold goodP; rw [henc, hbd, hm, hh]; rfl
          refine bind_ex (rng_ex (LInv p) _ (by omega) ?h0 ?h ?hQ)
          case h0 => exact ⟨rfl, rfl, ⟨fun e => (Bool.false_ne_true e).elim, fun ⟨k, f, hk, _⟩ => by omega⟩, fun k f hk => by omega⟩
          case hQ =>
            intro s hs
            cases hd : s.1 with
            | true =>
              refine ⟨(none, 31), by simp only [oc]; rw [hd]; rfl, .inr (.inr (.inr (.inr (.inl ⟨hgood, fun f hf => ?_, ?_, rfl⟩))))⟩
              · obtain ⟨k, hk⟩ := List.getElem?_of_mem hf
                obtain ⟨_, _, _, _, R, hR, _⟩ := hs.ok k f (List.getElem?_eq_some_iff.1 hk).1 hk
                exact ⟨R, hR⟩
              · obtain ⟨k, f, _, h2, h3⟩ := hs.dp.1 hd
                exact ⟨f, List.mem_of_getElem? h2, h3⟩
            | false =>
              refine ⟨(some ⟨s.2.1, s.2.2⟩, 0), by simp only [oc]; rw [hd]; rfl, .inr (.inr (.inr (.inr (.inr ⟨hgood, fun f hf hdp => ?_, ⟨s.2.1, s.2.2⟩, rfl, hs.l1, hs.l2, fun k f hk => hs.ok k f (List.getElem?_eq_some_iff.1 hk).1 hk⟩))))⟩
              obtain ⟨k, hk⟩ := List.getElem?_of_mem hf
              have := hs.dp.2 ⟨k, f, (List.getElem?_eq_some_iff.1 hk).1, hk, hdp⟩
              rw [hd] at this; cases this
          intro i f s hi hs
          have hmem := List.mem_of_getElem? hi
          have hilt := (List.getElem?_eq_some_iff.1 hi).1
          have hF := goodP_ok hgood hmem
          obtain ⟨o, ho, ha⟩ := function_ok p f hF
          rw [ho]
          simp only [Option.bind_some]
          rcases ha with ⟨hb, rfl⟩ | ⟨R, hR, h0, h1, h2, h3, h4⟩
          · right
            exact ⟨some (none, 50), rfl, _, rfl, .inr (.inr (.inr (.inl ⟨hgood, ⟨f, hmem, hb⟩, rfl⟩)))⟩
          · left
            have e2 : (o.2.2.2 != 0) = false := by rw [h0]; rfl
            simp only [e2, Bool.false_eq_true, if_false]
            have hjp : ∀ {β : Type} (K : Bool → Option β), jp K (fun k_16 => (if s.1 then (k_16 true) else (k_16 o.2.2.1))) = K (s.1 || o.2.2.1) := by
              intro β K; unfold jp; cases s.1 <;> rfl
            rw [hjp, appL_of (by have := hs.l1; simp; omega)]
            simp only [Option.bind_some]
            rw [appL_of (by have := hs.l2; simp; omega)]
            simp only [Option.bind_some]
            refine ⟨_, rfl, by simp [hs.l1], by simp [hs.l2], ?_, fun k g hk hg => ?_⟩
            · simp only [Bool.or_eq_true]
              constructor
              · rintro (e | e)
                · obtain ⟨k, g, a, b, c⟩ := hs.dp.1 e
                  exact ⟨k, g, by omega, b, c⟩
                · exact ⟨i, f, by omega, hi, h3.1 e⟩
              · rintro ⟨k, g, a, b, c⟩
                by_cases e : k = i
                · subst e
                  rw [hi] at b; cases b
                  exact .inr (h3.2 c)
                · exact .inl (hs.dp.2 ⟨k, g, by omega, b, c⟩)
            · by_cases e : k = i
              · subst e
                rw [hi] at hg; cases hg
                refine ⟨o.1, o.2.1, ?_, ?_, R, hR, h1, h2, h4⟩
                · show (s.2.1 ++ [o.1])[k]? = _
                  rw [List.getElem?_append_right (by rw [hs.l1]; exact Nat.le_refl _), hs.l1]; simp
                · show (s.2.2 ++ [o.2.1])[k]? = _
                  rw [List.getElem?_append_right (by rw [hs.l2]; exact Nat.le_refl _), hs.l2]; simp
              · obtain ⟨rd, st, a, b, c⟩ := hs.ok k g (by omega) hg
                refine ⟨rd, st, ?_, ?_, c⟩
                · show (s.2.1 ++ [o.1])[k]? = _
                  rw [List.getElem?_append_left (by rw [hs.l1]; omega)]; exact a
                · show (s.2.2 ++ [o.2.1])[k]? = _
                  rw [List.getElem?_append_left (by rw [hs.l2]; omega)]; exact b

/-- A stack that can come to be where none is too deep. -/
theorem Der.le {p f a x} (d : Der p f a x) (h : ¬ Deep p f) : x.length ≤ 16 := by
  cases d with
  | start => simp
  | go d hi hs hb =>
    rename_i a' s i
    rcases Nat.lt_or_ge 16 x.length with h1 | h1
    · exact (h ⟨a', s, i, x, d, hi, hs, h1⟩).elim
    · exact h1
theorem step_ret {p f i s s'} (h : stepK p f i s = some s') (h24 : i.Op = 24) : s.length = if f.Result = true then 1 else 0 := by
  rw [stepK_eq] at h
  split at h
  · rename_i hok
    unfold okS at hok
    simp only [decide_eq_true_eq] at hok
    obtain ⟨h1, _, h3⟩ := hok
    have e : (eff p f i (topK s)).1 = if f.Result = true then [0] else [] := by
      unfold eff; simp [h24]
    rw [e] at h1 h3
    have h4 : ¬ (if f.Result = true then [(0 : Int)] else []).length < s.length := fun hh => h3 ⟨h24, hh⟩
    cases hr : f.Result <;> rw [hr] at h1 h4 <;> simp at h1 h4 ⊢ <;> omega
  · cases h
end Go.Proofs.Ytiocagilhbomgaa
/- Plain laws of kinds: stacks as texts. -/
namespace Go.Proofs.Ytiocagilhbomgaa
open Go Go.Ab Go.RowKit
set_option maxRecDepth 20000
set_option linter.unusedVariables false
set_option linter.unusedSimpArgs false

theorem toList_loop (bs : ByteArray) : ∀ (d i : Nat) (r : List UInt8), bs.size - i = d → ByteArray.toList.loop bs i r = r.reverse ++ bs.data.toList.drop i
  | 0, i, r, h => by
    rw [ByteArray.toList.loop.eq_1, if_neg (by omega)]
    rw [List.drop_eq_nil_of_le (by have : bs.data.toList.length = bs.size := by rw [Array.length_toList]; rfl
                                   omega)]
    simp
  | d + 1, i, r, h => by
    have hlt : i < bs.data.toList.length := by
      have : bs.data.toList.length = bs.size := by rw [Array.length_toList]; rfl
      omega
    rw [ByteArray.toList.loop.eq_1, if_pos (by omega), toList_loop bs d (i + 1) _ (by omega)]
    rw [List.drop_eq_getElem_cons hlt]
    have : bs.get! i = bs.data.toList[i] := by
      simp only [ByteArray.get!]
      rw [getElem!_pos bs.data i (by simpa using hlt)]
      simp
    rw [this]
    simp
theorem toList_data (bs : ByteArray) : bs.toList = bs.data.toList := by
  rw [ByteArray.toList.eq_1, toList_loop bs _ 0 [] rfl]; simp
theorem eqS (a b : ByteArray) : (ByteArray.toList a == ByteArray.toList b) = decide (a = b) := by
  rw [toList_data, toList_data]
  by_cases h : a = b
  · subst h; simp
  · rw [decide_eq_false h]
    rw [beq_eq_false_iff_ne]
    intro e
    apply h
    cases a; cases b
    simp only [ByteArray.mk.injEq]
    simp only at e
    exact Array.toList_inj.1 e

def letB (k : Int) : UInt8 := if k = 1 then 112 else 110
def strK (l : List Int) : ByteArray := ⟨(l.map letB).toArray⟩
def bang : ByteArray := ByteArray.mk #[33]
def quest : ByteArray := ByteArray.mk #[63]
def K01 (l : List Int) : Prop := ∀ k ∈ l, k = 0 ∨ k = 1
theorem strK_size (l : List Int) : (strK l).size = l.length := by simp [strK, ByteArray.size]
theorem letB_inj {a b : Int} (ha : a = 0 ∨ a = 1) (hb : b = 0 ∨ b = 1) (h : letB a = letB b) : a = b := by
  rcases ha with rfl | rfl <;> rcases hb with rfl | rfl <;> first | rfl | (exact absurd h (by decide))
theorem map_inj : ∀ {a b : List Int}, K01 a → K01 b → a.map letB = b.map letB → a = b
  | [], [], _, _, _ => rfl
  | [], _ :: _, _, _, h => by simp at h
  | _ :: _, [], _, _, h => by simp at h
  | x :: a, y :: b, ha, hb, h => by
    simp only [List.map_cons, List.cons.injEq] at h
    rw [letB_inj (ha x (by simp)) (hb y (by simp)) h.1, map_inj (fun k hk => ha k (by simp [hk])) (fun k hk => hb k (by simp [hk])) h.2]
theorem strK_inj {a b : List Int} (ha : K01 a) (hb : K01 b) : strK a = strK b ↔ a = b := by
  constructor
  · intro h
    simp only [strK, ByteArray.mk.injEq] at h
    exact map_inj ha hb (List.toArray_inj h)
  · rintro rfl; rfl
theorem strK_ne {l : List Int} {c : UInt8} (hc : c ≠ 112 ∧ c ≠ 110) : strK l ≠ ByteArray.mk #[c] := by
  intro h
  simp only [strK, ByteArray.mk.injEq] at h
  have h2 : l.map letB = [c] := List.toArray_inj h
  match l, h2 with
  | [k], h2 =>
    simp only [List.map_cons, List.map_nil, List.cons.injEq, and_true] at h2
    unfold letB at h2
    split at h2
    · exact hc.1 h2.symm
    · exact hc.2 h2.symm
theorem strK_bang (l : List Int) : strK l ≠ bang := strK_ne ⟨by decide, by decide⟩
theorem strK_quest (l : List Int) : strK l ≠ quest := strK_ne ⟨by decide, by decide⟩
theorem catK (a b : List Int) (h : a.length + b.length ≤ 1000000000) : catS (strK a) (strK b) = some (strK (a ++ b)) := by
  unfold catS
  rw [strK_size, strK_size, if_pos (by omega)]
  congr 1
  apply ByteArray.ext
  apply Array.toList_inj.1
  simp [strK]
theorem subK (l : List Int) (lo hi : Int) (h : 0 ≤ lo ∧ lo ≤ hi ∧ hi ≤ l.length) : subS (strK l) lo hi = some (strK ((l.take hi.toNat).drop lo.toNat)) := by
  unfold subS
  rw [strK_size, if_pos h]
  congr 1
  apply ByteArray.ext
  apply Array.toList_inj.1
  simp only [strK]
  rw [ByteArray.data_extract]
  simp [List.map_take, List.map_drop]
  rw [List.drop_take]
theorem letter_eq {k : Int} : windlassref05_letter_s k = some (strK [k]) := by
  unfold windlassref05_letter_s strK letB
  by_cases h : k = 1 <;> simp [h]
theorem letters_eq (l : List Int) (h : l.length ≤ 100000) : windlassref05_letters_s l = some (strK l) := by
  unfold windlassref05_letters_s
  have L := rng_inv (σ := ByteArray) (ρ := Option ByteArray) (xs := l) (s0 := ByteArray.mk #[]) (fun _ => true) none (fun i s => s = strK (l.take i))
    (body := fun (i_2 : Nat) (k_3 : Int) (s_1 : ByteArray) => (((windlassref05_letter_s k_3).bind fun vlet_5 => ((catS s_1 vlet_5).bind fun s_6 => (some (.nxt s_6)))) : Option (Stp ByteArray (Option ByteArray)))) (by omega) (by simp [strK]) (fun i x s hx hs => by
      subst hs
      rw [letter_eq]
      simp only [Option.bind_some, if_true]
      have hlt := (List.getElem?_eq_some_iff.1 hx).1
      rw [catK _ _ (by simp <;> omega)]
      refine ⟨_, rfl, ?_⟩
      rw [List.take_succ_eq_append_getElem hlt]
      rw [List.getElem?_eq_getElem hlt] at hx
      cases hx; rfl)
  simp only [List.all_eq_true, implies_true, if_true] at L
  obtain ⟨s', e1, e2⟩ := L
  rw [e1, e2]
  simp [oc]

def stK : Option (List Int) → ByteArray
  | some x => strK x
  | none => bang
def finK (t l s : List Int) : ByteArray := if t.length ≤ s.length ∧ s.drop (s.length - t.length) = t then strK (s.take (s.length - t.length) ++ l) else bang
theorem step_fin {p f i} {s t l : List Int} (h : i.Op ≠ 24) (e : eff p f i (topK s) = (t, l)) : finK t l s = stK (stepK p f i s) := by
  unfold finK stepK
  simp only [e]
  by_cases h1 : t.length ≤ s.length ∧ s.drop (s.length - t.length) = t
  · rw [if_pos h1, if_pos ⟨h1.1, h1.2, fun hh => h hh.1⟩]; rfl
  · rw [if_neg h1, if_neg (fun hh => h1 ⟨hh.1, hh.2.1⟩)]; rfl
theorem fin_eq {s t l : List Int} (hs : s.length ≤ 100000) (ht : t.length ≤ 100000) (hl : l.length ≤ 100000) (ks : K01 s) (kt : K01 t) :
    (jp (fun (s_25 : Bool) => (if s_25 then (some (ByteArray.mk #[33])) else ((subS (strK s) 0 (I64 ((ByteArray.size (strK s) : Int) - (ByteArray.size (strK t) : Int)))).bind fun s_27 => ((catS s_27 (strK l)).bind fun s_28 => (some s_28))))) (fun k_24 => (if (decide ((ByteArray.size (strK s) : Int) < (ByteArray.size (strK t) : Int))) then (k_24 true) else ((subS (strK s) (I64 ((ByteArray.size (strK s) : Int) - (ByteArray.size (strK t) : Int))) (ByteArray.size (strK s) : Int)).bind fun s_26 => (k_24 (!(ByteArray.toList s_26 == ByteArray.toList (strK t)))))))) = some (finK t l s) := by
  unfold jp
  rw [strK_size, strK_size, I64_of (by omega)]
  by_cases h : s.length < t.length
  · have h1 : decide ((s.length : Int) < t.length) = true := by simpa using h
    have hf : finK t l s = bang := if_neg (fun hh => by omega)
    rw [hf]
    dsimp only
    rw [h1]; rfl
  · have h1 : decide ((s.length : Int) < t.length) = false := by simp; omega
    dsimp only
    rw [h1]
    simp only [Bool.false_eq_true, if_false]
    rw [subK s ((s.length : Int) - t.length) s.length (by omega), show (((s.length : Int) - t.length)).toNat = s.length - t.length by omega, show ((s.length : Int)).toNat = s.length by omega, List.take_length]
    simp only [Option.bind_some]
    rw [eqS]
    have kd : K01 (s.drop (s.length - t.length)) := fun k hk => ks k (List.mem_of_mem_drop hk)
    by_cases h2 : s.drop (s.length - t.length) = t
    · have hf : finK t l s = strK (s.take (s.length - t.length) ++ l) := if_pos ⟨by omega, h2⟩
      have hd : decide (strK (s.drop (s.length - t.length)) = strK t) = true := decide_eq_true (by rw [h2])
      rw [hf, hd]
      simp only [Bool.not_true, Bool.false_eq_true, if_false]
      rw [subK s _ _ (by omega)]
      simp only [Option.bind_some]
      rw [catK _ _ (by simp; omega)]
      simp
    · have hf : finK t l s = bang := if_neg (fun hh => h2 hh.2)
      have hd : decide (strK (s.drop (s.length - t.length)) = strK t) = false := decide_eq_false (fun hh => h2 ((strK_inj kd kt).1 hh))
      rw [hf, hd]
      rfl
end Go.Proofs.Ytiocagilhbomgaa
/- Plain laws of kinds: the document's step is the step. -/
namespace Go.Proofs.Ytiocagilhbomgaa
open Go Go.Ab Go.RowKit
set_option maxRecDepth 20000
set_option maxHeartbeats 1000000
set_option linter.unusedVariables false
set_option linter.unusedSimpArgs false

theorem jp_gen {σ β : Type} {K : σ → Option β} {f : (σ → Option β) → Option β} {r : Option β} (P : (σ → Option β) → Prop) (h1 : P K) (h2 : ∀ K, P K → f K = r) : jp K f = r := h2 K h1
theorem K01_nil : K01 [] := fun k hk => by simp at hk
theorem K01_one {k : Int} (h : k = 0 ∨ k = 1) : K01 [k] := fun x hx => by simp at hx; subst hx; exact h
theorem k01_lit (l : List Int) (h : l.all (fun k => k == 0 || k == 1) = true) : K01 l := fun k hk => by
  have := List.all_eq_true.1 h k hk
  simpa using this
theorem op_range {i : Instr} (h : instrP i = true) : 1 ≤ i.Op ∧ i.Op ≤ 32 := by
  have h0 := (instr_arg h).2.2
  unfold widthI at h0
  by_cases h1 : i.Op = 1
  · omega
  by_cases h2 : i.Op = 2 ∨ i.Op = 3 ∨ i.Op = 4 ∨ i.Op = 23 ∨ i.Op = 25
  · omega
  by_cases h3 : i.Op = 21 ∨ i.Op = 22
  · omega
  rw [if_neg h1, if_neg h2, if_neg h3] at h0
  split at h0 <;> omega

theorem After_eq (p : Program) (f : Func) (h : FOk p f) (hK : ∀ g ∈ p.Funcs, K01 g.Locals) (hf : K01 f.Locals) {a : Nat} {i : Instr} (hi : f.Code[a]? = some i) (s : List Int) (hs : s.length ≤ 10000) (ks : K01 s) :
    windlassref05_After_s p f i (strK s) = some (stK (stepK p f i s)) := by
  have hn := h.name hi
  have ha := h.arg hi
  have ho := op_range (funcP_code h.fp i (List.mem_of_getElem? hi))
  unfold windlassref05_After_s
  refine jp_gen (fun K => ∀ t l : List Int, t.length ≤ 1000 → l.length ≤ 1000 → K01 t → K (strK s, strK t, strK l) = some (finK t l s)) (fun t l h1 h2 h3 => fin_eq (by omega) (by omega) (by omega) ks h3) (fun K hk => ?_)
  simp only [jp]
  have fin : ∀ {t l : List Int}, t.length ≤ 1000 → l.length ≤ 1000 → K01 t → i.Op ≠ 24 → eff p f i (topK s) = (t, l) → K (strK s, strK t, strK l) = some (stK (stepK p f i s)) := fun a b c d e => by
    rw [hk _ _ a b c, step_fin d e]
  have len1 : ∀ {k : Int}, [k].length ≤ 1000 := by simp
  by_cases h1 : i.Op = 1
  · simp only [h1]
    exact fin (t := []) (l := [0]) (by simp) len1 K01_nil (by omega) (by simp [eff, h1])
  by_cases h28 : i.Op = 28
  · simp only [h28]
    exact fin (t := []) (l := [0]) (by simp) len1 K01_nil (by omega) (by simp [eff, h28])
  have n1 : (i.Op == 1) = false := by simpa using h1
  have n28 : (i.Op == 28) = false := by simpa using h28
  simp only [n1, n28, Bool.false_eq_true, if_false]
  have hloc : ∀ (_ : i.Op = 2 ∨ i.Op = 3), ∃ k, getI f.Locals i.Arg = some k ∧ locK f i = [k] ∧ (k = 0 ∨ k = 1) := fun h2 => by
    unfold nameP at hn
    rw [if_pos h2] at hn
    simp only [decide_eq_true_eq] at hn
    have hlt : i.Arg.toNat < f.Locals.length := by omega
    refine ⟨f.Locals[i.Arg.toNat], getI_lt ha.1 hlt, ?_, hf _ (List.getElem_mem hlt)⟩
    unfold locK; rw [List.getElem?_eq_getElem hlt]; rfl
  by_cases h2 : i.Op = 2
  · obtain ⟨k, k1, k2, k3⟩ := hloc (.inl h2)
    have n2 : (i.Op == 2) = true := by simpa using h2
    rw [if_pos n2, k1]
    simp only [Option.bind_some]
    rw [letter_eq]
    exact fin (t := []) (l := [k]) (by simp) len1 K01_nil (by omega) (by rw [← k2]; simp [eff, h2])
  have n2 : (i.Op == 2) = false := by simpa using h2
  simp only [n2, Bool.false_eq_true, if_false]
  by_cases h3 : i.Op = 3
  · obtain ⟨k, k1, k2, k3⟩ := hloc (.inr h3)
    have n3 : (i.Op == 3) = true := by simpa using h3
    rw [if_pos n3, k1]
    simp only [Option.bind_some]
    rw [letter_eq]
    exact fin (t := [k]) (l := []) len1 (by simp) (K01_one k3) (by omega) (by rw [← k2]; simp [eff, h3])
  have n3 : (i.Op == 3) = false := by simpa using h3
  simp only [n3, Bool.false_eq_true, if_false]
  by_cases h4 : i.Op = 4
  · simp only [h4]
    exact fin (t := []) (l := [1]) (by simp) len1 K01_nil (by omega) (by simp [eff, h4])
  have n4 : (i.Op == 4) = false := by simpa using h4
  simp only [n4, Bool.false_eq_true, if_false]
  by_cases h5 : i.Op = 5
  · simp only [h5]
    exact fin (t := [1]) (l := [0]) len1 len1 (K01_one (.inr rfl)) (by omega) (by simp [eff, h5])
  have n5 : (i.Op == 5) = false := by simpa using h5
  simp only [n5, Bool.false_eq_true, if_false]
  by_cases h6 : i.Op = 6
  · simp only [h6]
    exact fin (t := [1, 0]) (l := []) (by simp) (by simp) (k01_lit _ rfl) (by omega) (by simp [eff, h6])
  have n6 : (i.Op == 6) = false := by simpa using h6
  simp only [n6, Bool.false_eq_true, if_false]
  by_cases h7 : 7 ≤ i.Op ∧ i.Op ≤ 20
  · rw [if_pos (by simpa using h7.1), if_pos (by simpa using h7.2)]
    refine fin (t := [0, 0]) (l := [0]) (by simp) len1 (k01_lit _ rfl) (by omega) ?_
    unfold eff
    rw [if_neg (by omega), if_neg (by omega), if_neg (by omega), if_neg (by omega), if_neg (by omega), if_neg (by omega), if_neg (by omega), if_neg (by omega), if_neg (by omega), if_neg (by omega), if_neg (by omega), if_neg (by omega), if_neg (by omega)]
  have hgt : i.Op ≥ 21 := by omega
  have d7 : decide (i.Op ≥ 7) = true := by simp; omega
  have d20 : decide (i.Op ≤ 20) = false := by simp; omega
  simp only [d7, d20, if_true, Bool.false_eq_true, if_false]
  by_cases h21 : i.Op = 21
  · simp only [h21]
    exact fin (t := []) (l := []) (by simp) (by simp) K01_nil (by omega) (by simp [eff, h21])
  have n21 : (i.Op == 21) = false := by simpa using h21
  simp only [n21, Bool.false_eq_true, if_false]
  by_cases h22 : i.Op = 22
  · simp only [h22]
    exact fin (t := [0]) (l := []) len1 (by simp) (K01_one (.inl rfl)) (by omega) (by simp [eff, h22])
  by_cases h26 : i.Op = 26
  · simp only [h26]
    exact fin (t := [0]) (l := []) len1 (by simp) (K01_one (.inl rfl)) (by omega) (by simp [eff, h26])
  by_cases h29 : i.Op = 29
  · simp only [h29]
    exact fin (t := [0]) (l := []) len1 (by simp) (K01_one (.inl rfl)) (by omega) (by simp [eff, h29])
  by_cases h30 : i.Op = 30
  · simp only [h30]
    exact fin (t := [0]) (l := []) len1 (by simp) (K01_one (.inl rfl)) (by omega) (by simp [eff, h30])
  have n22 : (i.Op == 22) = false := by simpa using h22
  have n26 : (i.Op == 26) = false := by simpa using h26
  have n29 : (i.Op == 29) = false := by simpa using h29
  have n30 : (i.Op == 30) = false := by simpa using h30
  simp only [n22, n26, n29, n30, Bool.false_eq_true, if_false]
  by_cases hc : i.Op = 23 ∨ i.Op = 25
  · have hlt : i.Arg.toNat < p.Funcs.length := by
      unfold nameP at hn
      rw [if_neg (by omega), if_neg (by omega), if_pos hc] at hn
      simp only [decide_eq_true_eq] at hn
      omega
    have hg := funcP_head (h.ps _ (List.getElem_mem hlt))
    have kg := hK _ (List.getElem_mem hlt)
    have hsub : subL (p.Funcs[i.Arg.toNat]).Locals 0 (p.Funcs[i.Arg.toNat]).Params = some ((p.Funcs[i.Arg.toNat]).Locals.take (p.Funcs[i.Arg.toNat]).Params.toNat) := by
      unfold subL
      rw [if_pos (by omega)]
      simp
    have kt : K01 ((p.Funcs[i.Arg.toNat]).Locals.take (p.Funcs[i.Arg.toNat]).Params.toNat) := fun k hk => kg k (List.mem_of_mem_take hk)
    have hlt2 : ((p.Funcs[i.Arg.toNat]).Locals.take (p.Funcs[i.Arg.toNat]).Params.toNat).length ≤ 255 := by simp; omega
    have he : ∀ l, (if i.Op = 23 ∧ (p.Funcs[i.Arg.toNat]).Result = true then [0] else []) = l → eff p f i (topK s) = ((p.Funcs[i.Arg.toNat]).Locals.take (p.Funcs[i.Arg.toNat]).Params.toNat, l) := fun l hl => by
      unfold eff
      rw [if_neg (by omega), if_neg (by omega), if_neg (by omega), if_neg (by omega), if_neg (by omega), if_neg (by omega), if_neg (by omega), if_neg (by omega), if_pos hc, List.getElem?_eq_getElem hlt]
      simp only
      rw [hl]
    rcases hc with h23 | h25
    · have n23 : (i.Op == 23) = true := by simpa using h23
      simp only [n23, if_true]
      rw [getI_lt ha.1 hlt]
      simp only [Option.bind_some, hsub]
      rw [letters_eq _ (by omega)]
      simp only [Option.bind_some]
      cases hr : (p.Funcs[i.Arg.toNat]).Result with
      | true => exact fin (l := [0]) (by omega) len1 kt (by omega) (he [0] (by rw [hr]; simp [h23]))
      | false => exact fin (l := []) (by omega) (by simp) kt (by omega) (he [] (by rw [hr]; simp))
    · have n23 : (i.Op == 23) = false := by rw [h25]; rfl
      have n25 : (i.Op == 25) = true := by simpa using h25
      simp only [n23, n25, if_true, Bool.false_eq_true, if_false]
      rw [getI_lt ha.1 hlt]
      simp only [Option.bind_some, hsub]
      rw [letters_eq _ (by omega)]
      simp only [Option.bind_some]
      exact fin (l := []) (by omega) (by simp) kt (by omega) (he [] (by simp [h25]))
  have n23 : (i.Op == 23) = false := by simp; omega
  have n25 : (i.Op == 25) = false := by simp; omega
  simp only [n23, n25, Bool.false_eq_true, if_false]
  by_cases h24 : i.Op = 24
  · have n24 : (i.Op == 24) = true := by simpa using h24
    simp only [n24, if_true]
    have ret : ∀ t : List Int, t.length ≤ 1 → K01 t → eff p f i (topK s) = (t, []) → (if (!(ByteArray.toList (strK s) == ByteArray.toList (strK t))) = true then some (ByteArray.mk #[33]) else K (strK s, strK t, ByteArray.mk #[])) = some (stK (stepK p f i s)) := by
      intro t ht kt he
      rw [eqS]
      unfold stepK
      simp only [he]
      by_cases e : s = t
      · subst e
        rw [decide_eq_true rfl]
        simp only [Bool.not_true, Bool.false_eq_true, if_false]
        have := hk s [] (by omega) (by simp) kt
        have hz : finK s [] s = strK [] := by unfold finK; rw [if_pos ⟨Nat.le_refl _, by simp⟩]; simp
        rw [hz] at this
        rw [if_pos ⟨Nat.le_refl _, by simp, by simp⟩]
        simp only [Nat.sub_self, List.take_zero, List.append_nil]
        exact this
      · rw [decide_eq_false (fun hh => e ((strK_inj ks kt).1 hh))]
        have : ¬ (t.length ≤ s.length ∧ s.drop (s.length - t.length) = t ∧ ¬ (i.Op = 24 ∧ t.length < s.length)) := by
          rintro ⟨q1, q2, q3⟩
          have : s.length = t.length := by
            rcases Nat.lt_or_ge t.length s.length with q | q
            · exact (q3 ⟨h24, q⟩).elim
            · omega
          rw [this, Nat.sub_self, List.drop_zero] at q2
          exact e q2
        rw [if_neg this]; rfl
    cases hr : f.Result with
    | true => exact ret [0] (by simp) (K01_one (.inl rfl)) (by simp [eff, h24, hr])
    | false => exact ret [] (by simp) K01_nil (by simp [eff, h24, hr])
  have n24 : (i.Op == 24) = false := by simpa using h24
  simp only [n24, Bool.false_eq_true, if_false]
  by_cases h27 : i.Op = 27
  · simp only [h27]
    exact fin (t := []) (l := [0, 0]) (by simp) (by simp) K01_nil (by omega) (by simp [eff, h27])
  have n27 : (i.Op == 27) = false := by simpa using h27
  simp only [n27, Bool.false_eq_true, if_false]
  have h3132 : i.Op = 31 ∨ i.Op = 32 := by omega
  have heff : eff p f i (topK s) = ([topK s], if i.Op = 32 then [topK s, topK s] else []) := by
    unfold eff
    rw [if_neg (by omega), if_neg (by omega), if_neg (by omega), if_neg (by omega), if_neg (by omega), if_neg (by omega), if_neg (by omega), if_neg (by omega), if_neg (by omega), if_neg (by omega), if_neg (by omega)]
    rcases h3132 with e | e <;> simp [e]
  rw [eqS]
  by_cases hs0 : s = []
  · subst hs0
    have : decide (strK [] = ByteArray.mk #[]) = true := decide_eq_true rfl
    rw [if_pos this]
    unfold stepK
    simp only [heff]
    rw [if_neg (by simp)]; rfl
  · obtain ⟨x, r, rfl⟩ := List.exists_cons_of_ne_nil hs0
    have hne : decide (strK (x :: r) = ByteArray.mk #[]) = false := decide_eq_false (fun hh => by
      have := congrArg ByteArray.size hh
      rw [strK_size] at this
      simp [ByteArray.size] at this)
    rw [hne]
    simp only [Bool.false_eq_true, if_false]
    have htop : (x :: r).drop r.length = [topK (x :: r)] := by
      unfold topK
      rw [List.drop_eq_getElem_cons (by simp), List.drop_eq_nil_of_le (by simp), List.getLast?_eq_getElem?]
      simp
    have kt : topK (x :: r) = 0 ∨ topK (x :: r) = 1 := ks _ (List.mem_of_mem_drop (by rw [htop]; simp))
    rw [strK_size, I64_of (by simp only [List.length_cons] at hs ⊢; omega), subK (x :: r) _ _ (by simp only [List.length_cons]; omega)]
    rw [show (((x :: r).length : Int)).toNat = (x :: r).length by omega, List.take_length, show (((x :: r).length : Int) - 1).toNat = r.length by simp only [List.length_cons]; omega, htop]
    simp only [Option.bind_some]
    rcases h3132 with e | e
    · have n32 : (i.Op == 32) = false := by rw [e]; rfl
      simp only [n32, Bool.false_eq_true, if_false]
      exact fin (t := [topK (x :: r)]) (l := []) len1 (by simp) (K01_one kt) (by omega) (by rw [heff, e]; rfl)
    · have n32 : (i.Op == 32) = true := by rw [e]; rfl
      simp only [n32, if_true]
      rw [catK _ _ (by simp)]
      exact fin (t := [topK (x :: r)]) (l := [topK (x :: r), topK (x :: r)]) len1 (by simp) (K01_one kt) (by omega) (by rw [heff, e]; rfl)

theorem Next_eq (i : Instr) (a b : Nat) (ha : a ≤ 100000) : windlassref05_Next_s i a b = some (decide ((b : Int) ∈ folL i a)) := by
  unfold windlassref05_Next_s folL
  rw [I64_of (by omega)]
  simp only [jp]
  by_cases h21 : i.Op = 21
  · simp [h21]
    rw [Bool.eq_iff_iff]; simp
  have n21 : (i.Op == 21) = false := by simpa using h21
  by_cases h22 : i.Op = 22
  · simp only [h22]
    by_cases h1 : (b : Int) = a + 1
    · simp [h1]
    · simp [h1]
      rw [Bool.eq_iff_iff]; simp
  have n22 : (i.Op == 22) = false := by simpa using h22
  by_cases h24 : i.Op = 24
  · simp [h24]
  by_cases h26 : i.Op = 26
  · simp [h26]
  by_cases h30 : i.Op = 30
  · simp [h30]
  have n24 : (i.Op == 24) = false := by simpa using h24
  have n26 : (i.Op == 26) = false := by simpa using h26
  have n30 : (i.Op == 30) = false := by simpa using h30
  simp [n21, n22, n24, n26, n30, h21, h22, h24, h26, h30]
  rw [Bool.eq_iff_iff]; simp
end Go.Proofs.Ytiocagilhbomgaa
