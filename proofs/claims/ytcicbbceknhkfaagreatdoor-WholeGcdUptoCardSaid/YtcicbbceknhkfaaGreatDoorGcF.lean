/- WholeGcd: what is said of the two runs; its own loop: evaluated. -/
import Derived.Test.YtcicbbceknhkfaaGreatDoorGcU2
import Derived.Test.YtcicbbceknhkfaaGreatDoorGcC
namespace Go.Proofs.YtcicbbceknhkfaaGreatDoor
set_option linter.constructorNameAsVariable false
set_option linter.unusedSimpArgs false
set_option linter.unusedVariables false
open Go Go.Ab Go.RowKit
set_option maxRecDepth 100000
set_option linter.unusedVariables false
set_option maxHeartbeats 2000000
abbrev ev3 : XV := .sl false 2 [.agg [.int .i64 2, .sym .u64 (.var 0)], .agg [.int .i64 2, .sym .u64 (.var 1)], .agg [.int .i64 1, .sym .u64 (.var 2)]]
abbrev valS : XV := .tup [.agg [ev3, .int .i64 1, .int .u64 0, .sym .i64 (.var 3), .int .i64 1, .int .i64 0, .int .i64 0], .int .i64 0]
abbrev valU (pk : Bool) : XV := .tup [.agg [ev3, .int .i64 1, .int .u64 0, .sym .i64 (.var 4), .int .i64 1, .int .i64 (bif pk then 1 else 0)], .int .i64 0]
def pvs (pk : Bool) : List (FuncId × List XV × XV) := [(10, [progV], imgT), (11, argsS, valS), (12, argsU, valU pk)]
abbrev wY : XV := .agg [.slt false 1 [], .sym .i64 (.var 5)]
abbrev argsY : List XV := [progV, tapeV, wY, .sl false 1 [.sym .u64 (.var 2)], zeroV]
def fsY : List (SE × SE) := [(.bop .gtr .i64 (.bop .mul .i64 (.num 400) (.bop .add .i64 (.var 3) (.num 1))) (.num 1048576), .num 0)]
theorem says_f : isT (runR Tryz.prog (pvL (pvs false)) (codeT tabL) (ovA (ovPv (pvL (pvs false)) ov0) []) 200 6 argsY ⟨0, .e, ⟨fsY, .e, 1000000000, false, 0⟩⟩) = true := by kernel_rfl
theorem says_t : isT (runR Tryz.prog (pvL (pvs true)) (codeT tabL) (ovA (ovPv (pvL (pvs true)) ov0) []) 200 6 argsY ⟨0, .e, ⟨fsY, .e, 1000000000, false, 0⟩⟩) = true := by kernel_rfl
theorem says_e : ∀ pk, isT (runR Tryz.prog (pvL (pvs pk)) (codeT tabL) (ovA (ovPv (pvL (pvs pk)) ov0) []) 200 6 argsY ⟨0, .e, ⟨fsY, .e, 1000000000, false, 0⟩⟩) = true
  | false => says_f
  | true => says_t
theorem says_ev (pk : Bool) (ρ : Env) (ht : blwL 0 ρ.t = true) (hφ : ρ.φ = []) (hN : 1000000000 ≤ ρ.N) (hf : FactsOK ρ fsY) (h1 : PureEv Tryz.prog 11 (argsS.map (XV.av ρ)) (valS.av ρ)) (h2 : PureEv Tryz.prog 12 (argsU.map (XV.av ρ)) ((valU pk).av ρ)) : PureEv Tryz.prog 6 (argsY.map (XV.av ρ)) (.bool true) := by
  have hp : PvsOK ρ Tryz.prog (pvs pk) := ⟨⟨compiled_ev ρ ht hφ hN, by kernel_rfl, by kernel_rfl⟩, ⟨h1, by kernel_rfl, by kernel_rfl⟩, ⟨h2, by kernel_rfl, by cases pk <;> kernel_rfl⟩, trivial⟩
  exact law_R ρ hf (pvL_ok ht hp) mixed hφ hN tabL_ok (ovA_ok hf (ovPv_ok (pvL_ok ht hp) ov0_ok) (ms := []) trivial) (says_e pk)
/-! ### its own loop -/
def slW : List (Nat × XV) := [(0, .sym .u64 (.var 3)), (1, .sym .u64 (.var 4)), (5, .ptr 0 0 0), (7, .ref 19 0 0 18 (some 3)), (8, .sym .u64 (.var 0)), (9, .sym .u64 (.var 1))]
def insC : List XV := [ins 28 0, ins 3 0, ins 28 0, ins 3 1, ins 2 1, ins 22 15, ins 2 0, ins 2 1, ins 11 0, ins 3 2, ins 2 1, ins 3 0, ins 2 2, ins 3 1, ins 21 4, ins 2 0, ins 29 0, ins 24 0].flatMap XV.cells
def pW : Pat := ⟨slW, 20, [(0, 0, [.slt false 1 [], .sym .i64 (.var 5)]), (19, 0, insC)]⟩
def sK : Nat → SE
  | 3 => .var 0 | 4 => .var 1 | n => .var n
def sW : Nat → SE
  | 0 => Y | 1 => .bop .rem .u64 X Y | n => .var n
def fs3 : List (SE × SE) := [(.bop .shr .u64 (.var 6) (.num 1), .var 0), (.bop .shr .u64 (.var 7) (.num 1), .var 1)]
def fsWA : List (SE × SE) := [(.bop .neq .u64 Y (.num 0), .num 1)]
def fsWB : List (SE × SE) := [(.bop .neq .u64 Y (.num 0), .num 0)]
abbrev args3 : List XV := [.sym .u64 (.var 6), .sym .u64 (.var 7), wY]
abbrev argsW : List XV := [progV, .sl false 1 [.sym .u64 (.var 3), .sym .u64 (.var 4)], wY, .sl false 1 [.sym .u64 (.var 0)], zeroV]
noncomputable abbrev callW := runR Tryz.prog pvZ (codeT tabL) (ovLk 6 argsW (ovA ovL [])) 200
abbrev b3 : FC := bodyF (fstF (tlF 5 (fcO c3.1)))
theorem code3 : codeT tabL 3 = some (56, [(6, none)], fcO c3.1) := by kernel_rfl
theorem cut3 : fcO c3.1 = seqs (hdF 4 (fcO c3.1)) (.seq (fstF (tlF 4 (fcO c3.1))) (.seq (.block 0 (.loop b3)) (tlF 6 (fcO c3.1)))) := by kernel_rfl
theorem e3 : chkR 0 pW sK (exs exS (hdF 4 (fcO c3.1) ++ [fstF (tlF 4 (fcO c3.1))]) (XF.ofL args3 .nil 0) ⟨0, .e, ⟨fs3, .e, 1000000000, false, 0⟩⟩) = true := by kernel_rfl
theorem eWA : stepOK 0 (exS b3) 1 pW fsWA sW = true := by kernel_rfl
theorem eWB : (match loopX (exS b3) 2 (frS pW.l) (pW.H fsWB) with | some (.exit i, F, H) => Nat.beq i 0 && endOK (.bool true) [(6, none)] (exR Tryz.prog callW rdS (tlF 6 (fcO c3.1)) F H) | _ => false) = true := by kernel_rfl
end Go.Proofs.YtcicbbceknhkfaaGreatDoor
/- WholeGcd: what is known of the numbers on the way. -/
namespace Go.Proofs.YtcicbbceknhkfaaGreatDoor
set_option linter.constructorNameAsVariable false
set_option linter.unusedSimpArgs false
set_option linter.unusedVariables false
open Go Go.Ab Go.RowKit
set_option linter.unusedVariables false
set_option maxRecDepth 10000
theorem wrap64 {z : Nat} (h : z < 9223372036854775808) : IntKind.wrap .i64 (z : Int) = z := wrap_low .i64 z h
theorem wrapU64 {z : Nat} (h : z < 18446744073709551616) : IntKind.wrap .u64 (z : Int) = z := wrap_low .u64 z h
theorem stN_val {ρ : Env} {v : SE} {m : Nat} (hm : v.val ρ = m) : ∀ i, m + i < 9223372036854775808 → (stN .i64 v i).val ρ = (m + i : Nat)
  | 0, _ => hm
  | i + 1, h => by
    have := stN_val hm i (by omega)
    simp only [stN, SE.val, this, intBin]
    exact wrap64 (z := m + (i + 1)) h
variable {ρ : Env} {x y m : Nat}
theorem b_neq {k : IntKind} {a b : SE} (h : a.val ρ ≠ b.val ρ) : (SE.bop .neq k a b).val ρ = 1 := by
  have : (a.val ρ != b.val ρ) = true := by simpa using h
  simp only [SE.val, intBin, this]
theorem b_eqn {k : IntKind} {a b : SE} (h : a.val ρ ≠ b.val ρ) : (SE.bop .eql k a b).val ρ = 0 := by
  have : (a.val ρ == b.val ρ) = false := by simpa using h
  simp only [SE.val, intBin, this]
theorem b_eqy {k : IntKind} {a b : SE} (h : a.val ρ = b.val ρ) : (SE.bop .eql k a b).val ρ = 1 := by
  have : (a.val ρ == b.val ρ) = true := by simpa using h
  simp only [SE.val, intBin, this]
theorem b_neqn {k : IntKind} {a b : SE} (h : a.val ρ = b.val ρ) : (SE.bop .neq k a b).val ρ = 0 := by
  have : (a.val ρ != b.val ρ) = false := by simpa using h
  simp only [SE.val, intBin, this]
theorem Y_cv (hy : ρ.v 1 = y) (by_ : y < 9223372036854775808) : (SE.cv .i64 Y).val ρ = y := by
  simp only [SE.val, hy]; exact wrap64 by_
theorem rem_val (hx : ρ.v 0 = x) (hy : ρ.v 1 = y) (h0 : y ≠ 0) : (SE.bop .rem .u64 X Y).val ρ = (x % y : Nat) := by
  have : ¬ (y : Int) = 0 := by omega
  simp only [SE.val, hx, hy, intBin, if_neg this]
  rfl
theorem rem_fact (hx : ρ.v 0 = x) (hy : ρ.v 1 = y) (bx : x < 9223372036854775808) (by_ : y < 9223372036854775808) (h0 : y ≠ 0) : (SE.cv .u64 (.bop .rem .i64 (.cv .i64 X) (.cv .i64 Y))).val ρ = (SE.bop .rem .u64 X Y).val ρ := by
  rw [rem_val hx hy h0]
  have : ¬ (y : Int) = 0 := by omega
  simp only [SE.val, hx, hy, wrap64 bx, wrap64 by_, intBin, if_neg this]
  have h1 : ((x : Int).tmod y) = (x % y : Nat) := rfl
  rw [h1]
  exact wrapU64 (Nat.lt_of_le_of_lt (Nat.mod_le _ _) (by omega))
theorem st_fact (hm : ρ.v 5 = m) (k : Nat) (bm : m + k ≤ 1048576) : FactsOK ρ ((List.range k).map fun i => (.bop .eql .i64 (stN .i64 (.var 5) i) (.num 1048576), .num 0)) := by
  intro p hp
  obtain ⟨i, hi, rfl⟩ := List.mem_map.1 hp
  have hi := List.mem_range.1 hi
  have := stN_val (v := .var 5) (ρ := ρ) hm i (by omega)
  refine b_eqn ?_
  rw [this]
  show ((m + i : Nat) : Int) ≠ 1048576
  omega
theorem go_fact (hx : ρ.v 0 = x) (hy : ρ.v 1 = y) (bx : x < 9223372036854775808) (by_ : y < 9223372036854775808) (h0 : y ≠ 0) {l : List (SE × SE)} (hl : FactsOK ρ l) : FactsOK ρ ((.bop .neq .u64 Y (.num 0), .num 1) :: (.bop .eql .u64 Y (.num 0), .num 0) :: (.bop .neq .i64 (.cv .i64 Y) (.num 0), .num 1) :: (.bop .eql .i64 (.cv .i64 Y) (.num 0), .num 0) :: (.bop .eql .i64 (.cv .i64 Y) (.num (-1)), .num 0) :: (.cv .u64 (.bop .rem .i64 (.cv .i64 X) (.cv .i64 Y)), .bop .rem .u64 X Y) :: l) := by
  intro p hp
  have hY : (SE.val ρ Y) = y := hy
  have h1 : SE.val ρ Y ≠ SE.val ρ (.num 0) := by rw [hY]; show (y : Int) ≠ 0; omega
  have h2 : SE.val ρ (.cv .i64 Y) ≠ SE.val ρ (.num 0) := by rw [Y_cv hy by_]; show (y : Int) ≠ 0; omega
  have h3 : SE.val ρ (.cv .i64 Y) ≠ SE.val ρ (.num (-1)) := by rw [Y_cv hy by_]; show (y : Int) ≠ -1; omega
  simp only [List.mem_cons] at hp
  rcases hp with rfl | rfl | rfl | rfl | rfl | rfl | hp
  · exact b_neq h1
  · exact b_eqn h1
  · exact b_neq h2
  · exact b_eqn h2
  · exact b_eqn h3
  · exact rem_fact hx hy bx by_ h0
  · exact hl p hp
theorem fA (hx : ρ.v 0 = x) (hy : ρ.v 1 = y) (hm : ρ.v 5 = m) (bx : x < 9223372036854775808) (by_ : y < 9223372036854775808) (h0 : y ≠ 0) (bm : m + 12 ≤ 1048576) : FactsOK ρ fsA := go_fact hx hy bx by_ h0 (st_fact hm 12 bm)
theorem fAU (hx : ρ.v 0 = x) (hy : ρ.v 1 = y) (hm : ρ.v 5 = m) (bx : x < 9223372036854775808) (by_ : y < 9223372036854775808) (h0 : y ≠ 0) (bm : m + 13 ≤ 1048576) : FactsOK ρ fsAU := go_fact hx hy bx by_ h0 (st_fact hm 13 bm)
theorem fB (hy : ρ.v 1 = (0 : Nat)) (hm : ρ.v 5 = m) (bm : m + 12 ≤ 1048576) : FactsOK ρ fsB := by
  intro p hp
  rcases List.mem_cons.1 hp with rfl | hp
  · exact b_eqy hy
  · exact st_fact hm 12 bm p hp
theorem fBU (hy : ρ.v 1 = (0 : Nat)) (hm : ρ.v 5 = m) (bm : m + 13 ≤ 1048576) : FactsOK ρ fsBU := by
  intro p hp
  simp only [fsBU, List.mem_cons] at hp
  rcases hp with rfl | rfl | hp
  · exact b_neqn hy
  · exact b_eqy hy
  · exact st_fact hm 13 bm p hp
/-! ### the numbers -/
def gS : Nat → Nat → Nat → Nat × Nat
  | x, y, 0 => (x, y)
  | x, y, i + 1 => ((gS x y i).2, (gS x y i).1 % (gS x y i).2)
theorem gS_lt {B : Nat} (hx : x < B) (hy : y < B) : ∀ i, (gS x y i).1 < B ∧ (gS x y i).2 < B
  | 0 => ⟨hx, hy⟩
  | i + 1 => ⟨(gS_lt hx hy i).2, Nat.lt_of_le_of_lt (Nat.mod_le _ _) (gS_lt hx hy i).1⟩
/-- In two rounds the second number is halved. -/
theorem gS_half (i : Nat) (h : (gS x y i).2 ≠ 0) (hr : (gS x y (i + 1)).2 ≠ 0) : (gS x y (i + 2)).2 ≤ (gS x y i).2 / 2 := by
  show (gS x y i).2 % ((gS x y i).1 % (gS x y i).2) ≤ _
  have hr : (gS x y i).1 % (gS x y i).2 ≠ 0 := hr
  generalize (gS x y i).2 = b at *
  generalize (gS x y i).1 = a at *
  have h1 : a % b < b := Nat.mod_lt _ (by omega)
  generalize a % b = r at *
  rcases Nat.lt_or_ge (b / 2) r with h2 | h2
  · have : b % r = b - r := by
      rw [Nat.mod_eq_sub_mod (by omega), Nat.mod_eq_of_lt (by omega)]
    omega
  · have := Nat.mod_lt b (Nat.pos_of_ne_zero hr)
    omega
theorem gS_pow (k : Nat) (h : ∀ i, i ≤ 2 * k → (gS x y i).2 ≠ 0) : (gS x y (2 * k)).2 * 2 ^ k ≤ y := by
  induction k with
  | zero => exact Nat.le_of_eq (Nat.mul_one _)
  | succ k ih =>
    have := ih (fun i hi => h i (by omega))
    have h2 := gS_half (2 * k) (h _ (by omega)) (h _ (by omega))
    have e : 2 * (k + 1) = 2 * k + 2 := by omega
    rw [e, Nat.pow_succ]
    generalize (gS x y (2 * k + 2)).2 = c at *
    generalize (gS x y (2 * k)).2 = d at *
    have h3 : c * 2 ≤ d := by omega
    calc c * (2 ^ k * 2) = (c * 2) * 2 ^ k := by rw [Nat.mul_comm (2 ^ k) 2, Nat.mul_assoc]
      _ ≤ d * 2 ^ k := Nat.mul_le_mul_right _ h3
      _ ≤ y := this
theorem gS_end (hy : y < 9223372036854775808) : ∃ n, n ≤ 126 ∧ (gS x y n).2 = 0 ∧ ∀ i, i < n → (gS x y i).2 ≠ 0 := by
  have key : ∀ m, m ≤ 127 → (∃ n, n < m ∧ (gS x y n).2 = 0 ∧ ∀ i, i < n → (gS x y i).2 ≠ 0) ∨ ∀ i, i < m → (gS x y i).2 ≠ 0 := by
    intro m
    induction m with
    | zero => intro _; exact .inr (fun i hi => absurd hi (Nat.not_lt_zero _))
    | succ m ih =>
      intro hm
      rcases ih (by omega) with ⟨n, a, b, c⟩ | h
      · exact .inl ⟨n, by omega, b, c⟩
      · by_cases e : (gS x y m).2 = 0
        · exact .inl ⟨m, by omega, e, h⟩
        · refine .inr (fun i hi => ?_)
          rcases Nat.lt_or_ge i m with h1 | h1
          · exact h i h1
          · obtain rfl : i = m := by omega
            exact e
  rcases key 127 (Nat.le_refl _) with ⟨n, a, b, c⟩ | h
  · exact ⟨n, by omega, b, c⟩
  · have h1 := gS_pow (x := x) (y := y) 63 (fun i hi => h i (by omega))
    have h2 := h 126 (by omega)
    have h3 : (gS x y 126).2 * 2 ^ 63 ≤ y := h1
    have : 1 * 2 ^ 63 ≤ (gS x y 126).2 * 2 ^ 63 := Nat.mul_le_mul_right _ (Nat.pos_of_ne_zero h2)
    omega
end Go.Proofs.YtcicbbceknhkfaaGreatDoor
/- WholeGcd: the numbers in the three loops. -/
namespace Go.Proofs.YtcicbbceknhkfaaGreatDoor
set_option linter.constructorNameAsVariable false
set_option linter.unusedSimpArgs false
set_option linter.unusedVariables false
open Go Go.Ab Go.RowKit
set_option linter.unusedVariables false
set_option maxRecDepth 100000
theorem eW0 : exS (.loop b3) (frS pW.l) (pW.H fsWB) = loopX (exS b3) 2 (frS pW.l) (pW.H fsWB) := by kernel_rfl
variable {ρ : Env} {x y : Nat}
theorem ρS_v (hx : ρ.v 0 = x) (hy : ρ.v 1 = y) {n : Nat} (hn : n ≤ 126) (h0 : ∀ i, i < n → (gS x y i).2 ≠ 0) : ∀ i, i ≤ n → (ρS ρ i).v 0 = (gS x y i).1 ∧ (ρS ρ i).v 1 = (gS x y i).2 ∧ (ρS ρ i).v 3 = x ∧ (ρS ρ i).v 4 = y ∧ (ρS ρ i).v 5 = (4 + 11 * i : Nat)
  | 0, _ => ⟨hx, hy, hx, hy, rfl⟩
  | i + 1, hi => by
    obtain ⟨a, b, c, d, e⟩ := ρS_v hx hy hn h0 i (by omega)
    refine ⟨b, rem_val a b (h0 i (by omega)), c, d, ?_⟩
    have := stN_val (v := .var 5) (ρ := ρS ρ i) e 11 (by omega)
    exact this
theorem ρU_v (hx : ρ.v 0 = x) (hy : ρ.v 1 = y) {n : Nat} (hn : n ≤ 126) (h0 : ∀ i, i < n → (gS x y i).2 ≠ 0) : ∀ i, i ≤ n → (ρU ρ i).v 0 = (gS x y i).1 ∧ (ρU ρ i).v 1 = (gS x y i).2 ∧ (ρU ρ i).v 3 = x ∧ (ρU ρ i).v 4 = y ∧ (ρU ρ i).v 5 = (5 + 12 * i : Nat)
  | 0, _ => ⟨hx, hy, hx, hy, rfl⟩
  | i + 1, hi => by
    obtain ⟨a, b, c, d, e⟩ := ρU_v hx hy hn h0 i (by omega)
    refine ⟨b, rem_val a b (h0 i (by omega)), c, d, ?_⟩
    have := stN_val (v := .var 5) (ρ := ρU ρ i) e 12 (by omega)
    exact this
def ρW (ρ : Env) : Nat → Env
  | 0 => ρ.sb sK
  | i + 1 => (ρW ρ i).sb sW
theorem ρW_t (ρ : Env) : ∀ i, (ρW ρ i).t = ρ.t ∧ (ρW ρ i).φ = ρ.φ ∧ (ρW ρ i).N = ρ.N
  | 0 => ⟨rfl, rfl, rfl⟩
  | i + 1 => ρW_t ρ i
theorem ρW_v (hx : ρ.v 0 = x) (hy : ρ.v 1 = y) {n : Nat} (h0 : ∀ i, i < n → (gS x y i).2 ≠ 0) : ∀ i, i ≤ n → (ρW ρ i).v 0 = (gS x y i).1 ∧ (ρW ρ i).v 1 = (gS x y i).2 ∧ (ρW ρ i).v 3 = x ∧ (ρW ρ i).v 4 = y ∧ (ρW ρ i).v 5 = ρ.v 5
  | 0, _ => ⟨hx, hy, hx, hy, rfl⟩
  | i + 1, hi => by
    obtain ⟨a, b, c, d, e⟩ := ρW_v hx hy h0 i (by omega)
    exact ⟨b, rem_val a b (h0 i (by omega)), c, d, e⟩
/-- What is said, at the numbers of the three loops' ends. -/
def sY (m k : Nat) : Nat → SE
  | 0 => .var 3 | 1 => .var 4 | 2 => .var 0 | 3 => .num (.ofNat m) | 4 => .num (.ofNat k) | n => .var n
end Go.Proofs.YtcicbbceknhkfaaGreatDoor
/- WholeGcd: says answers true at the loops' numbers. -/
namespace Go.Proofs.YtcicbbceknhkfaaGreatDoor
set_option linter.constructorNameAsVariable false
set_option linter.unusedSimpArgs false
set_option linter.unusedVariables false
open Go Go.Ab Go.RowKit
set_option linter.unusedVariables false
set_option maxRecDepth 100000
variable {ρ : Env} {x y : Nat}
theorem resS_eq {σ τ : Env} (h3 : τ.v 3 = σ.v 0) (h4 : τ.v 4 = σ.v 1) (h0 : τ.v 0 = σ.v 2) (h5 : (stN .i64 (.var 5) 5).val τ = σ.v 3) : resS.av τ = valS.av σ := by
  simp only [resS, ev3, XV.av, avs_eq, List.map_cons, List.map_nil, h5]
  simp only [SE.val, h3, h4, h0]
theorem resU_eq {σ τ : Env} (pk : Bool) (h3 : τ.v 3 = σ.v 0) (h4 : τ.v 4 = σ.v 1) (h0 : τ.v 0 = σ.v 2) (h5 : (stN .i64 (.var 5) 8).val τ = σ.v 4) : (resU pk).av τ = (valU pk).av σ := by
  simp only [resU, ev3, XV.av, avs_eq, List.map_cons, List.map_nil, h5]
  simp only [SE.val, h3, h4, h0]
theorem fY {σ : Env} {m : Nat} (h : σ.v 3 = m) (hm : 400 * (m + 1) ≤ 1048576) : FactsOK σ fsY := by
  intro p hp
  simp only [fsY, List.mem_singleton] at hp
  subst hp
  have e1 : IntKind.wrap .i64 ((m : Int) + 1) = (m + 1 : Nat) := wrap64 (z := m + 1) (by omega)
  have e2 : IntKind.wrap .i64 (400 * ((m + 1 : Nat) : Int)) = (400 * (m + 1) : Nat) := wrap64 (z := 400 * (m + 1)) (by omega)
  have e3 : decide (((400 * (m + 1) : Nat) : Int) > 1048576) = false := by simp only [decide_eq_false_iff_not]; omega
  simp only [SE.val, h, intBin, e1, e2, e3]
theorem says_at (hx : ρ.v 0 = x) (hy : ρ.v 1 = y) (bx : x < 9223372036854775808) (by_ : y < 9223372036854775808) {l : List Int} (ht : ρ.t = l.map (AV.int .i64)) (hl : l.length ≤ 9223372036854775807) (hφ : ρ.φ = []) (hN : 1000000000 ≤ ρ.N) {n : Nat} (hn : n ≤ 126) (h0 : ∀ i, i < n → (gS x y i).2 ≠ 0) (hz : (gS x y n).2 = 0) :
    PureEv Tryz.prog 6 (argsW.map (XV.av (ρW ρ n))) (.bool true) := by
  obtain ⟨w0, w1, w3, w4, w5⟩ := ρW_v hx hy h0 n (Nat.le_refl _)
  let σ := (ρW ρ n).sb (sY (9 + 11 * n) (13 + 12 * n))
  have hs0 : σ.v 0 = x := w3
  have hs1 : σ.v 1 = y := w4
  have hst : σ.t = l.map (AV.int .i64) := (ρW_t ρ n).1.trans ht
  have hsφ : σ.φ = [] := (ρW_t ρ n).2.1.trans hφ
  have hsN : 1000000000 ≤ σ.N := by show _ ≤ (ρW ρ n).N; rw [(ρW_t ρ n).2.2]; exact hN
  have hbl : blwL 0 σ.t = true := by rw [hst]; exact blw_i64 l
  have vs := ρS_v hs0 hs1 hn h0
  have vu := ρU_v hs0 hs1 hn h0
  have bd := gS_lt bx by_
  obtain ⟨s0, s1, s3, s4, s5⟩ := vs n (Nat.le_refl _)
  obtain ⟨u0, u1, u3, u4, u5⟩ := vu n (Nat.le_refl _)
  have h1 : PureEv Tryz.prog 11 (argsS.map (XV.av σ)) (valS.av σ) := by
    rw [← resS_eq (σ := σ) (τ := ρS σ n) (s3.trans hs0.symm) (s4.trans hs1.symm) (s0.trans w0.symm) ((stN_val (v := .var 5) s5 5 (by omega)).trans (by show _ = ((9 + 11 * n : Nat) : Int); omega))]
    exact sem_ev σ hbl hsφ hsN n (fun i hi => by
      obtain ⟨a, b, _, _, e⟩ := vs i (by omega)
      exact fA a b e (bd i).1 (bd i).2 (h0 i hi) (by omega)) (fB (s1.trans (by rw [hz])) s5 (by omega))
  have h2 : ∀ pk, PicksOK l [(1, pk)] → PureEv Tryz.prog 12 (argsU.map (XV.av σ)) ((valU pk).av σ) := fun pk hp => by
    rw [← resU_eq (σ := σ) (τ := ρU σ n) pk (u3.trans hs0.symm) (u4.trans hs1.symm) (u0.trans w0.symm) ((stN_val (v := .var 5) u5 8 (by omega)).trans (by show _ = ((13 + 12 * n : Nat) : Int); omega))]
    have hA : ∀ i, i < n → FactsOK (ρU σ i) fsAU := fun i hi => by
      obtain ⟨a, b, _, _, e⟩ := vu i (by omega)
      exact fAU a b e (bd i).1 (bd i).2 (h0 i hi) (by omega)
    have hB : FactsOK (ρU σ n) fsBU := fBU (u1.trans (by rw [hz])) u5 (by omega)
    cases pk
    · exact unw_f σ hst hl hp hsφ hsN n hA hB
    · exact unw_t σ hst hl hp hsφ hsN n hA hB
  have hp : PicksOK l [(1, l.contains 1)] := by
    intro p hp
    simp only [List.mem_singleton] at hp
    subst hp; rfl
  have := says_ev _ σ hbl hsφ hsN (fY (m := 9 + 11 * n) rfl (by omega)) h1 (h2 _ hp)
  exact this
end Go.Proofs.YtcicbbceknhkfaaGreatDoor
/- WholeGcd answers true: its own loop. -/
namespace Go.Proofs.YtcicbbceknhkfaaGreatDoor
set_option linter.constructorNameAsVariable false
set_option linter.unusedSimpArgs false
set_option linter.unusedVariables false
open Go Go.Ab Go.RowKit
set_option linter.unusedVariables false
set_option maxRecDepth 100000
set_option maxHeartbeats 2000000
variable {ρ : Env} {x y : Nat}
theorem gcd_ev (hx : ρ.v 0 = x) (hy : ρ.v 1 = y) (bx : x < 9223372036854775808) (by_ : y < 9223372036854775808) (h3 : FactsOK ρ fs3) {l : List Int} (ht : ρ.t = l.map (AV.int .i64)) (hl : l.length ≤ 9223372036854775807) (hφ : ρ.φ = []) (hN : 1000000000 ≤ ρ.N) :
    PureEv Tryz.prog 3 (args3.map (XV.av ρ)) (.bool true) := by
  obtain ⟨n, hn, hz, h0⟩ := gS_end (x := x) by_
  have hsay := says_at hx hy bx by_ ht hl hφ hN hn h0 hz
  have vw := ρW_v hx hy h0
  have bd := gS_lt bx by_
  have hbl : blwL 0 ρ.t = true := by rw [ht]; exact blw_i64 l
  have hbs : ∀ i, blwL 0 (ρW ρ i).t = true := fun i => by rw [(ρW_t ρ i).1]; exact hbl
  have hφs : ∀ i, (ρW ρ i).φ = [] := fun i => by rw [(ρW_t ρ i).2.1]; exact hφ
  have hNs : ∀ i, 1000000000 ≤ (ρW ρ i).N := fun i => by rw [(ρW_t ρ i).2.2]; exact hN
  have hE := eWB
  split at hE
  · rename_i i F' H' e1
    simp only [Bool.and_eq_true] at hE
    obtain ⟨hi, hE⟩ := hE
    have hi := Nat.eq_of_beq_eq_true hi
    subst hi
    generalize e2 : exR Tryz.prog callW rdS (tlF 6 (fcO c3.1)) F' H' = r at hE
    unfold endOK at hE
    split at hE
    · rename_i F2 H2
      split at hE
      · rename_i v hv
        split at hE
        · rename_i v' hv'
          have hs := sameV_ok (ρ := ρW ρ n) _ _ hE
          show PureEv Tryz.prog 3 _ (XV.av (ρW ρ n) (.bool true))
          rw [← hs]
          refine PureEv_fz (σ' := hpx (ρW ρ n) H2) ?_ (fzX_ok (hbs n) 20 _ _ hv')
          have hk0 : XH.ok ⟨0, .e, ⟨fs3, .e, 1000000000, false, 0⟩⟩ ρ := ⟨fun o _ => Tr.get_e o, ⟨h3, hN⟩, fun o es e => by simp at e⟩
          have h00 : hp [] = hpx ρ ⟨0, .e, ⟨fs3, .e, 1000000000, false, 0⟩⟩ := by funext o; simp [hpx, hφ, hp]
          have hos : okO pW.nx pW.os = true := by kernel_rfl
          have hB : FactsOK (ρW ρ n) fsWB := by
            intro p hp
            simp only [fsWB, List.mem_singleton] at hp
            subst hp
            exact b_neqn ((vw n (Nat.le_refl _)).2.1.trans (by rw [hz]; rfl))
          have hA : ∀ i, i < n → FactsOK (ρW ρ i) fsWA := fun i hi p hp => by
            simp only [fsWA, List.mem_singleton] at hp
            subst hp
            refine b_neq ?_
            show (ρW ρ i).v 1 ≠ 0
            rw [(vw i (by omega)).2.1]
            have := h0 i hi
            omega
          have hcW : CallOK (ρW ρ n) Tryz.prog callW := by
            unfold callW
            rw [runR_eq]
            exact runX_ok pvZ_ok mixed (codeT_ok tabL_ok) (ovLk_ok (hbs n) hsay (ovA_ok (fs := []) nofun ovL_ok (ms := []) trivial)) 200
          obtain ⟨kB, _, _, _⟩ := pat_ex (ρ := ρW ρ n) pW (hφs n) hos (fs := fsWB) hB (hNs n)
          have e1' : loopX (exX Tryz.prog callS rdS b3) 2 (frS pW.l) (pW.H fsWB) = some (.exit 0, F', H') := by rw [← loop_R]; exact e1
          have kE : H'.ok (ρW ρ n) := loop_ok (callS_ok _) (rdS_ok _) 2 kB e1'
          have e2' : exX Tryz.prog callW rdS (tlF 6 (fcO c3.1)) F' H' = some (.ret, F2, H2) := by rw [← exR_eq]; exact e2
          obtain ⟨k2, v2⟩ := exX_ok hcW (rdS_ok _) _ _ _ _ _ _ kE e2'
          have main : VC Tryz.prog [] (fcO c3.1) (initFr 0 (args3.map (XV.av ρ))) [] (fun e fr1 S1 => isRet e ∧ hp S1 = hpx (ρW ρ n) H2 ∧ retR (hpx (ρW ρ n) H2) (Fr.get fr1) [(6, none)] (v.av (ρW ρ n))) := by
            rw [cut3]
            refine vc_pats (n0 := 0) (fun o _ => rfl) (callS_ok ρ) (rdS_ok ρ) hk0 e3 hbl hφ hN (fm_args _).symm h00 (fun fr1 S1 f1 f2 => ?_)
            have f1 : Fr.get fr1 = fm (ρW ρ 0) (frS pW.l) := f1
            have f2 : hp S1 = hpx (ρW ρ 0) (pW.H []) := f2
            simp only [VC]
            have fin : ∀ fr' S', Fr.get fr' = fm (ρW ρ n) F' → hp S' = hpx (ρW ρ n) H' → Post.blk 0 (Post.thn (fun fr' S' => ∃ F T, Wk [] fr' S' F T ∧ VC Tryz.prog [] (tlF 6 (fcO c3.1)) F T (fun e fr1 S1 => isRet e ∧ hp S1 = hpx (ρW ρ n) H2 ∧ retR (hpx (ρW ρ n) H2) (Fr.get fr1) [(6, none)] (v.av (ρW ρ n)))) (fun e fr1 S1 => isRet e ∧ hp S1 = hpx (ρW ρ n) H2 ∧ retR (hpx (ρW ρ n) H2) (Fr.get fr1) [(6, none)] (v.av (ρW ρ n)))) (exitOf (.exit 0)) fr' S' := fun fr' S' r1 r2 => by
              simp only [exitOf, Post.blk, if_true, Post.thn]
              refine ⟨fr', S', wk_refl, v2 [] _ S' _ r1 r2 (fun fr3 S3 q1 q2 => ⟨trivial, q2, ?_⟩)⟩
              rw [q1]
              exact retX_ok k2 hv
            cases n with
            | zero =>
              have e3' : exX Tryz.prog callS rdS (.loop b3) (frS pW.l) (pW.H fsWB) = some (.exit 0, F', H') := by rw [← exR_eq]; exact eW0.trans e1
              obtain ⟨_, v3⟩ := exX_ok (callS_ok (ρW ρ 0)) (rdS_ok _) _ _ _ _ _ _ kB e3'
              have := v3 [] fr1 S1 _ f1 f2 fin
              simp only [VC] at this
              exact this
            | succ n =>
              obtain ⟨kA, _, _, _⟩ := pat_ex (ρ := ρW ρ 0) pW (hφs 0) hos (fs := fsWA) (hA 0 (by omega)) (hNs 0)
              exact loop_inv (n0 := 0) (fun o _ => rfl) (by decide) (by decide) kA (sI := sW) (p := pW) (kI := 1) (by have h := eWA; unfold stepOK exS at h; rw [iter_R] at h; exact h) (kA := 1) (fsA := fsWA) (s := sW) (by have h := eWA; unfold stepOK exS at h; unfold stepOK; rw [iter_R] at h; exact h) e1' n (fun i => ρW ρ (i + 1)) rfl (fun i _ => rfl) (hφs 0) (fun i => hφs _) (fun i => hNs _) (hbs 0) (fun i => hbs _) (fun i hi => hA (i + 1) (by omega)) hB (callS_ok _) (rdS_ok _) (fun i _ => callS_ok _) (fun i _ => rdS_ok _) fr1 S1 _ f1 f2 fin
          exact EvX_end mixed (codeT_ok tabL_ok 3 _ _ _ code3) (by simp) main
        · cases hE
      · cases hE
    · cases hE
  · cases hE
end Go.Proofs.YtcicbbceknhkfaaGreatDoor
