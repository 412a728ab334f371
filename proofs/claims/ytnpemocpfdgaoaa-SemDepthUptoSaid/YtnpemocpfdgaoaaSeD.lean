/- How arguments are read. -/
import Derived.Test.YtnpemocpfdgaoaaGenF
import Derived.Test.YtnpemocpfdgaoaaWlH2
import Derived.WalkKit
import Derived.ProofKit
import Derived.OpenShut
import Derived.JoinedCond
set_option linter.unusedVariables false
set_option linter.unusedSimpArgs false
namespace Go.Proofs.Ytnpemocpfdgaoaa
open Go Go.Ab Go.RowKit
set_option maxRecDepth 20000
theorem b0Y {H : Type} {d : DataW H} {l : List (DataW H)} (h : d ∈ l) : Rows.uptoBulk d ≤ Rows.uptoBulkAll l := by
 induction l with
 | nil => cases h
 | cons x r ih =>
   simp only [Rows.uptoBulkAll]
   rcases List.mem_cons.1 h with e | e
   ·subst e; omega
   ·have := ih e; omega
theorem c2k {H : Type} (d : DataW H) : 1 ≤ Rows.uptoBulk d := by
 cases d with
 | lit l => cases l <;> simp [Rows.uptoBulk]
 | _ => simp [Rows.uptoBulk]
theorem b0Z {H : Type} (l : List (DataW H)) : l.length ≤ Rows.uptoBulkAll l := by
 induction l with
 | nil => simp [Rows.uptoBulkAll]
 | cons x r ih => have := c2k x; simp only [Rows.uptoBulkAll, List.length_cons]; omega
theorem c5u {H : Type} : c2w (H := H) Rows.uptoBulk :=
 ⟨fun bytes => by simp [Rows.uptoBulk], fun e s => by have := b0Z e; simp only [Rows.uptoBulk]; omega, fun e s d h => by have := b0Y h; simp only [Rows.uptoBulk]; omega, fun p d h => by have := b0Y h; simp only [Rows.uptoBulk]; omega⟩

theorem b7w : Try.prog.cellsOf 50 = 1 := by kernel_rfl
theorem b7x : Try.prog.cellsOf 54 = 1 := by kernel_rfl
theorem a8k : Try.prog.cellsOf 3 = 1 := by kernel_rfl
theorem b7y : Try.prog.cellsOf 55 = 1 := by kernel_rfl
theorem b1a : Try.prog.cellsOf 78 = 3 := by kernel_rfl
def Instr.Ok (N : Nat) (x : Instr) : Prop := (fun n => (Lit.int .u8 n).wf = true) x.Op ∧ (fun n => (Lit.int .i64 n).wf = true) x.Arg ∧ (fun n => (Lit.int .u64 n).wf = true) x.Imm
theorem Instr.rd {N : Nat} : Rd Try.prog N Instr.av (Instr.Ok N) 78 := by
 intro avs ht
 obtain ⟨hl, hf⟩ := a3Z Try.underlying78 ht
 have e0 : Ty Try.prog N 54 ((avs.drop 0).take (Try.prog.cellsOf 54)) := hf 0 _ rfl
 rw [b7x] at e0
 obtain ⟨a0, h0, q0⟩ := (rdI Try.underlying54) _ e0
 have e1 : Ty Try.prog N 3 ((avs.drop 1).take (Try.prog.cellsOf 3)) := hf 1 _ rfl
 rw [a8k] at e1
 obtain ⟨a1, h1, q1⟩ := (rdI Try.underlying3) _ e1
 have e2 : Ty Try.prog N 55 ((avs.drop 2).take (Try.prog.cellsOf 55)) := hf 2 _ rfl
 rw [b7y] at e2
 obtain ⟨a2, h2, q2⟩ := (rdI Try.underlying55) _ e2
 refine ⟨⟨a0, a1, a2⟩, ?_, ⟨q0, q1, q2⟩⟩
 have := (a1n h0 (a1n h1 (a1n h2 (b0f (hl.trans b1a)))))
 exact this
theorem b7z : Try.prog.cellsOf 42 = 1 := by kernel_rfl
theorem c2l : Try.prog.cellsOf 4 = 1 := by kernel_rfl
theorem b7A : Try.prog.cellsOf 43 = 1 := by kernel_rfl
theorem b1b : Try.prog.cellsOf 45 = 5 := by kernel_rfl
def Func.Ok (N : Nat) (x : Func) : Prop := (fun n => (Lit.int .i64 n).wf = true) x.Params ∧ (fun l => List.length l ≤ N ∧ ∀ a ∈ l, (fun n => (Lit.int .u8 n).wf = true) a) x.Locals ∧ (fun _ => True) x.Result ∧ (fun n => (Lit.int .i64 n).wf = true) x.Keep ∧ (fun l => List.length l ≤ N ∧ ∀ a ∈ l, (Instr.Ok N) a) x.Code
theorem Func.rd {N : Nat} : Rd Try.prog N Func.av (Func.Ok N) 45 := by
 intro avs ht
 obtain ⟨hl, hf⟩ := a3Z Try.underlying45 ht
 have e0 : Ty Try.prog N 3 ((avs.drop 0).take (Try.prog.cellsOf 3)) := hf 0 _ rfl
 rw [a8k] at e0
 obtain ⟨a0, h0, q0⟩ := (rdI Try.underlying3) _ e0
 have e1 : Ty Try.prog N 42 ((avs.drop 1).take (Try.prog.cellsOf 42)) := hf 1 _ rfl
 rw [b7z] at e1
 obtain ⟨a1, h1, q1⟩ := (rdL (f4 .u8) (fun fs h => by rw [Try.underlying50] at h; cases h) Try.underlying42 b7w (rdI Try.underlying50)) _ e1
 have e2 : Ty Try.prog N 4 ((avs.drop 2).take (Try.prog.cellsOf 4)) := hf 2 _ rfl
 rw [c2l] at e2
 obtain ⟨a2, h2, q2⟩ := (rdB Try.underlying4) _ e2
 have e3 : Ty Try.prog N 3 ((avs.drop 3).take (Try.prog.cellsOf 3)) := hf 3 _ rfl
 rw [a8k] at e3
 obtain ⟨a3, h3, q3⟩ := (rdI Try.underlying3) _ e3
 have e4 : Ty Try.prog N 43 ((avs.drop 4).take (Try.prog.cellsOf 43)) := hf 4 _ rfl
 rw [b7A] at e4
 obtain ⟨a4, h4, q4⟩ := (rdL Instr.enc ⟨_, Try.underlying78⟩ Try.underlying43 b1a Instr.rd) _ e4
 refine ⟨⟨a0, a1, a2, a3, a4⟩, ?_, ⟨q0, q1, q2, q3, q4⟩⟩
 have := (a1n h0 (a1n h1 (a1n h2 (a1n h3 (a1n h4 (b0f (hl.trans b1b)))))))
 exact this
theorem b7B : Try.prog.cellsOf 22 = 1 := by kernel_rfl
theorem b7C : Try.prog.cellsOf 24 = 1 := by kernel_rfl
def Program.Ok (N : Nat) (x : Program) : Prop := (fun l => List.length l ≤ N ∧ ∀ a ∈ l, (Func.Ok N) a) x.Funcs
theorem Program.rd {N : Nat} : Rd Try.prog N Program.av (Program.Ok N) 24 := by
 intro avs ht
 obtain ⟨hl, hf⟩ := a3Z Try.underlying24 ht
 have e0 : Ty Try.prog N 22 ((avs.drop 0).take (Try.prog.cellsOf 22)) := hf 0 _ rfl
 rw [b7B] at e0
 obtain ⟨a0, h0, q0⟩ := (rdL Func.enc ⟨_, Try.underlying45⟩ Try.underlying22 b1b Func.rd) _ e0
 refine ⟨⟨a0⟩, ?_, q0⟩
 have := (a1n h0 (b0f (hl.trans b7C)))
 exact this
def a8Q.Ok (N : Nat) (x : a8Q) : Prop := (fun n => (Lit.int .i64 n).wf = true) x.e0 ∧ (fun n => (Lit.int .i64 n).wf = true) x.e1
theorem a8Q.arg {H : Type} {enc : TypeId × Value → H} {W : World} {N b0 : Nat} {r : Reach} {v : Value} {d : DataW H} {ps : List MemPlace} (hval : Value.okWide Try.prog W r b0 74 v) (h : DataW.Trod enc Try.prog W 0 (fun _ => true) true 74 v d ps) (hbk : Rows.uptoBulk d ≤ N) :
  ∃ a : a8Q, a8Q.Ok N a ∧ VR (g00 W).pm (g00 W).L a5S (a8Q.av a) v := by
 obtain ⟨avs, h1, h2, h3⟩ := b3x (m := 12) c5u Try.underlying74 hval h zK zK zK hbk
 rw [a8k] at h1 h2
 obtain ⟨a0, e0, q0⟩ := (rdI Try.underlying3) _ (h2 0 zD)
 obtain ⟨a1, e1, q1⟩ := (rdI Try.underlying3) _ (h2 1 zD)
 match avs, h1 with
 | [x0, x1], _ =>
   cases e0
   cases e1
   exact ⟨⟨a0, a1⟩, ⟨q0, q1⟩, h3⟩
theorem own : ownKnob Try.prog.godebug = none := by kernel_rfl
theorem b7D : laidOutB Try.prog = true := by kernel_rfl
end Go.Proofs.Ytnpemocpfdgaoaa

/- Plain laws of sem: what must be answered first; less fuel. -/
namespace Go.Proofs.Ytnpemocpfdgaoaa
open Go Go.Ab Go.RowKit
set_option maxRecDepth 20000
def a8l : Program := Program.mk ([(Func.mk 0 [] false (-1) ([(Instr.mk 25 1 0), (Instr.mk 1 0 5), (Instr.mk 26 0 0)])), (Func.mk 0 [] false (-1) ([(Instr.mk 27 0 0), (Instr.mk 31 0 0), (Instr.mk 29 0 0), (Instr.mk 24 0 0)]))])
theorem a7x : (l9 1048577 a8l).map (·.2) = some 0 := by kernel_rfl
theorem b1c : ((as1 a8l []).bind fun s => runN a8l 100 s).map (fun s => (s.ek, s.ev, s.steps, s.evs.map (fun e => (e.Kind, e.Value)))) = some (1, 0, 7, [(1, 5)]) := by kernel_rfl
theorem c5v {p : Program} (h : (p.Funcs.all fun f => f.Code.all fun i => decide (0 ≤ i.Imm ∧ i.Imm < 18446744073709551616)) = true) : ∀ f ∈ p.Funcs, ∀ i ∈ f.Code, WV i.Imm := by
 simp only [List.all_eq_true, decide_eq_true_eq] at h
 exact h
theorem b2y : n0 1048577 = some true := by
 obtain ⟨c, hc, hc0⟩ := Option.map_eq_some_iff.1 a7x
 have G := a5c (by exact Nat.le_of_ble_eq_true rfl) (c5v zK) hc hc0
 obtain ⟨s1, s2, h1, _, _, h4, h5, _⟩ := a8j G (tape := []) (fl := 100) hc hc0 nofun (by exact Nat.le_of_ble_eq_true rfl) ⟨by decide, by decide⟩
 have hr := b1c
 rw [h1, Option.bind_some, show (100 : Nat) = (100 : Int).toNat from rfl, h4, Option.map_some] at hr
 have hr := Option.some.inj hr
 simp only [Prod.mk.injEq] at hr
 obtain ⟨r1, r2, r3, r4⟩ := hr
 unfold n0
 change ((y7 1048577 a8l [] 100).bind _) = _
 rw [h5, Option.bind_some]
 cases he : s2.evs with
 | nil => rw [he] at r4; cases r4
 | cons e l =>
   cases l with
   | cons e2 l => rw [he] at r4; simp at r4
   | nil =>
     rw [he] at r4
     simp only [List.map_cons, List.map_nil, List.cons.injEq, Prod.mk.injEq, and_true] at r4
     simp only [jp, b7L, r1, r2, r3, he]
     rw [show (0 : Int) = ((0 : Nat) : Int) from rfl, t9]
     simp [r4]
end Go.Proofs.Ytnpemocpfdgaoaa

/- Plain laws of sem: how deep calls go. -/
namespace Go.Proofs.Ytnpemocpfdgaoaa
open Go Go.Ab Go.RowKit
set_option maxRecDepth 20000
def dF : Func := Func.mk 1 ([0]) false (-1) ([(Instr.mk 2 0 0), (Instr.mk 22 6 0), (Instr.mk 2 0 0), (Instr.mk 1 0 1), (Instr.mk 8 0 0), (Instr.mk 23 1 0), (Instr.mk 24 0 0)])
def dM (K : Int) : Func := Func.mk 0 [] false (-1) ([(Instr.mk 1 0 K), (Instr.mk 23 1 0), (Instr.mk 24 0 0)])
def dP (K : Int) : Program := Program.mk [dM K, dF]
def dS (rows : List ARow) (a d : Int) : AS := ⟨[], [], 0, 0, a, d, 0, 0, rows, [], 0⟩
def dZ (j : Int) (pc : Int) (st : List Int) (nu : Int) : ARow := ⟨⟨dF, [j], st, pc, nu⟩, 0, [], 0⟩
theorem u7 {p : Program} {s s' : AS} {n : Nat} (h : a1T p { s with steps := s.steps + 1 } = some s') (h0 : s.ek = 0) : runN p (n + 1) s = runN p n s' := by
 conv => lhs; unfold runN
 rw [if_neg (by simpa using h0)]
 simp only [h, Option.bind_some]
section
variable {K : Int} {r : List ARow} {a d nu : Int} {n : Nat}
theorem d0 {j : Int} : runN (dP K) (n + 1) (dS (dZ j 0 [] nu :: r) a d) = runN (dP K) n (dS (dZ j 1 [j] nu :: r) (a + 1) d) := u7 rfl rfl
theorem d1 {j : Int} (h : j ≠ 0) : runN (dP K) (n + 1) (dS (dZ j 1 [j] nu :: r) a d) = runN (dP K) n (dS (dZ j 2 [] nu :: r) (a + 1) d) := by
 refine u7 ?_ rfl
 show some (dS (⟨if j = 0 then ⟨dF, [j], [], 6, nu⟩ else ⟨dF, [j], [], 2, nu⟩, 0, [], 0⟩ :: r) (a + 1) d) = _
 rw [if_neg h]; rfl
theorem d1z : runN (dP K) (n + 1) (dS (dZ 0 1 [0] nu :: r) a d) = runN (dP K) n (dS (dZ 0 6 [] nu :: r) (a + 1) d) := u7 rfl rfl
theorem d2 {j : Int} : runN (dP K) (n + 1) (dS (dZ j 2 [] nu :: r) a d) = runN (dP K) n (dS (dZ j 3 [j] nu :: r) (a + 1) d) := u7 rfl rfl
theorem d3 {j : Int} : runN (dP K) (n + 1) (dS (dZ j 3 [j] nu :: r) a d) = runN (dP K) n (dS (dZ j 4 [1, j] nu :: r) (a + 1) d) := u7 rfl rfl
theorem d4 {j : Int} (h : 0 < j ∧ j < 1000) : runN (dP K) (n + 1) (dS (dZ j 4 [1, j] nu :: r) a d) = runN (dP K) n (dS (dZ j 5 [j - 1] nu :: r) (a + 1) d) := by
 refine u7 ?_ rfl
 show some (dS (dZ j 5 [U64 (j - 1)] nu :: r) (a + 1) d) = _
 rw [a4R zO]
theorem d5 {j i : Int} : runN (dP K) (n + 1) (dS (dZ j 5 [i] nu :: r) a d) = runN (dP K) n (dS (dZ i 0 [] ((r.length : Int) + 1) :: dZ j 6 [] nu :: r) (a + 1) (max d ((r.length : Int) + 2))) := by
 refine u7 ?_ rfl
 have e : ((r.length + 2 : Nat) : Int) - 1 = (r.length : Int) + 1 := by omega
 show some (dS (⟨⟨dF, [i], [], 0, ((r.length + 2 : Nat) : Int) - 1⟩, 0, [], 0⟩ :: dZ j 6 [] nu :: r) (a + 1) (max d ((r.length : Int) + 2))) = _
 rw [e]; rfl
theorem d6 {j : Int} {y : ARow} (hy : y.fr.back (dP K) 0 = some y.fr) : runN (dP K) (n + 1) (dS (dZ j 6 [] nu :: y :: r) a d) = runN (dP K) n (dS (y :: r) (a + 1) d) := by
 refine u7 ?_ rfl
 have e : a1T (dP K) { (dS (dZ j 6 [] nu :: y :: r) a d) with steps := (dS (dZ j 6 [] nu :: y :: r) a d).steps + 1 } = (((y.fr.back (dP K) 0).map fun f => (⟨none, false, { y with fr := f } :: r, []⟩ : RO)).map fun u =>
  ({ (dS (dZ j 6 [] nu :: y :: r) (a + 1) d) with rows := u.A, pans := u.ps, ek := u.en.elim 0 (·.1), ev := u.en.elim 0 (·.2), depth := if u.push then max d (u.A.length : Int) else d, live := if u.push then 0 - 1 else 0 } : AS)) := rfl
 rw [e, hy]; rfl
theorem dgo : ∀ (j : Nat), j < 1000 → ∀ (n : Nat) (y : ARow) (t : List ARow) (a d nu : Int), y.fr.back (dP K) 0 = some y.fr → (t.length : Int) + 2 ≤ d →
  runN (dP K) (n + (7 * j + 3)) (dS (dZ j 0 [] nu :: y :: t) a d) = runN (dP K) n (dS (y :: t) (a + (7 * j + 3 : Nat)) (max d ((t.length : Int) + 2 + j)))
 | 0, _, n, y, t, a, d, nu, hy, hd => by
   show runN (dP K) (n + 1 + 1 + 1) (dS (dZ 0 0 [] nu :: y :: t) a d) = _
   rw [d0, d1z, d6 hy]
   congr 1
   unfold dS
   congr 1 <;> simp <;> omega
 | j + 1, hj, n, y, t, a, d, nu, hy, hd => by
   have hb : (dZ ((j + 1 : Nat) : Int) 6 [] nu).fr.back (dP K) 0 = some (dZ ((j + 1 : Nat) : Int) 6 [] nu).fr := rfl
   rw [show n + (7 * (j + 1) + 3) = (n + 1) + (7 * j + 3) + 1 + 1 + 1 + 1 + 1 + 1 by omega, d0, d1 zO, d2, d3, d4 zO, d5]
   rw [show ((j + 1 : Nat) : Int) - 1 = (j : Int) by omega]
   rw [dgo j zO (n + 1) _ (y :: t) _ _ _ hb zE, d6 hy]
   congr 1
   unfold dS
   congr 1
   ·simp; omega
   ·simp; omega
theorem c4U {k : Nat} (hk : k < 1000) : runN (dP K) (n + (7 * k + 4)) (dS [dZ k 0 [] 1, ⟨⟨dM K, [], [], 2, 0⟩, 0, [], 0⟩] a 2) = some { dS [] (a + (7 * k + 4 : Nat)) ((k : Int) + 2) with ek := 1 } := by
 rw [show n + (7 * k + 4) = (n + 1) + (7 * k + 3) by omega, dgo k hk (n + 1) _ [] _ _ _ rfl zS]
 rw [u7 (s' := { dS [] (a + (7 * k + 4 : Nat)) ((k : Int) + 2) with ek := 1 }) ?_ rfl]
 ·unfold runN; rw [if_pos (by show (1 : Int) ≠ 0; decide)]
 ·have e1 : a + (7 * k + 3 : Nat) + 1 = a + (7 * k + 4 : Nat) := by omega
  have e2 : max (2 : Int) ((([] : List ARow).length : Int) + 2 + k) = (k : Int) + 2 := by simp; omega
  rw [e2]
  show some _ = some _
  rw [← e1]
  rfl
end
theorem b1d {k : Nat} (hk : k < 300) : (as1 (dP k) []).bind (runN (dP k) 10000) = some { dS [] ((7 * k + 6 : Nat) : Int) ((k : Int) + 2) with ek := 1 } := by
 have e : as1 (dP k) [] = some (dS [⟨⟨dM k, [], [], 0, 0⟩, 0, [], 0⟩] 0 1) := rfl
 rw [e, Option.bind_some, show 10000 = (10000 - (7 * k + 6)) + (7 * k + 4) + 1 + 1 by omega]
 rw [u7 (s' := dS [⟨⟨dM k, [], [k], 1, 0⟩, 0, [], 0⟩] 1 1) rfl rfl, u7 (s' := dS [dZ k 0 [] 1, ⟨⟨dM k, [], [], 2, 0⟩, 0, [], 0⟩] 2 2) rfl rfl, c4U zO, show (2 : Int) + ((7 * k + 4 : Nat) : Int) = ((7 * k + 6 : Nat) : Int) by omega]
theorem a7y : ((List.range 300).all fun k => decide ((l9 1048577 (dP k)).map (·.2) = some 0)) = true := by kernel_rfl
theorem a6E (n : Int) (hn : (Lit.int .i64 n).wf = true) : n8 1048577 n = some true := by
 unfold n8
 rw [b2y, Option.bind_some]
 simp only [Bool.not_true, Bool.false_eq_true, if_false]
 have hu := WV.u n
 obtain ⟨k, hk, hk3⟩ : ∃ k : Nat, I64 (Int.tmod (U64 n) 300) = (k : Int) ∧ k < 300 := by
  have h1 : 0 ≤ Int.tmod (U64 n) 300 := Int.tmod_nonneg _ hu.1
  have h2 : Int.tmod (U64 n) 300 < 300 := Int.tmod_lt_of_pos _ zD
  rw [a1d zO]
  exact ⟨(Int.tmod (U64 n) 300).toNat, by omega, by omega⟩
 rw [hk, a4R zO, a1d (x := (k : Int) + 2) zO, a1d (x := 7 * (k : Int)) zO, a1d (x := 7 * (k : Int) + 6) zO]
 have hch := a7y
 rw [List.all_eq_true] at hch
 have hck := of_decide_eq_true (hch k (List.mem_range.2 hk3))
 obtain ⟨c, hc, hc0⟩ := Option.map_eq_some_iff.1 hck
 have G := a5c (by exact Nat.le_of_ble_eq_true rfl) (c5v (by
  simp only [dP, dM, dF, List.all_cons, List.all_nil, Bool.and_true, Bool.and_eq_true, decide_eq_true_eq]
  refine ⟨⟨⟨by omega, by omega⟩, by decide, by decide⟩, by decide⟩)) hc hc0
 obtain ⟨s1, s2, h1, _, _, h4, h5, _⟩ := a8j G (tape := []) (fl := 10000) hc hc0 nofun (by exact Nat.le_of_ble_eq_true rfl) ⟨by decide, by decide⟩
 have hr := b1d hk3
 rw [h1, Option.bind_some, show (10000 : Nat) = (10000 : Int).toNat from rfl, h4] at hr
 cases hr
 change ((y7 1048577 (dP k) [] 10000).bind _) = _
 rw [h5, Option.bind_some]
 simp [jp, b7L, dS]
end Go.Proofs.Ytnpemocpfdgaoaa

