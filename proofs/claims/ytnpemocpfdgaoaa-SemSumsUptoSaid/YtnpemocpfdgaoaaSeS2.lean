/- How arguments are read. -/
import Derived.Test.YtnpemocpfdgaoaaGenF
import Derived.Test.YtnpemocpfdgaoaaWlH2
import Derived.WalkKit
import Derived.ProofKit
import Derived.OpenShut
import Derived.JoinedCond
import Derived.Test.YtnpemocpfdgaoaaWlK8
set_option linter.unusedVariables false
set_option linter.unusedSimpArgs false
namespace Go.Proofs.Ytnpemocpfdgaoaa
open Go Go.Ab Go.RowKit
set_option maxRecDepth 20000
theorem b1o {H : Type} {d : DataW H} {l : List (DataW H)} (h : d ∈ l) : Rows.uptoBulk d ≤ Rows.uptoBulkAll l := by
 induction l with
 | nil => cases h
 | cons x r ih =>
   simp only [Rows.uptoBulkAll]
   rcases List.mem_cons.1 h with e | e
   ·subst e; omega
   ·have := ih e; omega
theorem c2C {H : Type} (d : DataW H) : 1 ≤ Rows.uptoBulk d := by
 cases d with
 | lit l => cases l <;> simp [Rows.uptoBulk]
 | _ => simp [Rows.uptoBulk]
theorem b1p {H : Type} (l : List (DataW H)) : l.length ≤ Rows.uptoBulkAll l := by
 induction l with
 | nil => simp [Rows.uptoBulkAll]
 | cons x r ih => have := c2C x; simp only [Rows.uptoBulkAll, List.length_cons]; omega
theorem c5r {H : Type} : c2U (H := H) Rows.uptoBulk :=
 ⟨fun bytes => by simp [Rows.uptoBulk], fun e s => by have := b1p e; simp only [Rows.uptoBulk]; omega, fun e s d h => by have := b1o h; simp only [Rows.uptoBulk]; omega, fun p d h => by have := b1o h; simp only [Rows.uptoBulk]; omega⟩

theorem b7N : Try.prog.cellsOf 50 = 1 := by kernel_rfl
theorem b7O : Try.prog.cellsOf 54 = 1 := by kernel_rfl
theorem a8y : Try.prog.cellsOf 3 = 1 := by kernel_rfl
theorem b1q : Try.prog.cellsOf 55 = 1 := by kernel_rfl
theorem b1r : Try.prog.cellsOf 78 = 3 := by kernel_rfl
def Instr.Ok (N : Nat) (x : Instr) : Prop := (fun n => (Lit.int .u8 n).wf = true) x.Op ∧ (fun n => (Lit.int .i64 n).wf = true) x.Arg ∧ (fun n => (Lit.int .u64 n).wf = true) x.Imm
theorem Instr.rd {N : Nat} : Rd Try.prog N Instr.av (Instr.Ok N) 78 := by
 intro avs ht
 obtain ⟨hl, hf⟩ := a4k Try.underlying78 ht
 have e0 : Ty Try.prog N 54 ((avs.drop 0).take (Try.prog.cellsOf 54)) := hf 0 _ rfl
 rw [b7O] at e0
 obtain ⟨a0, h0, q0⟩ := (rdI Try.underlying54) _ e0
 have e1 : Ty Try.prog N 3 ((avs.drop 1).take (Try.prog.cellsOf 3)) := hf 1 _ rfl
 rw [a8y] at e1
 obtain ⟨a1, h1, q1⟩ := (rdI Try.underlying3) _ e1
 have e2 : Ty Try.prog N 55 ((avs.drop 2).take (Try.prog.cellsOf 55)) := hf 2 _ rfl
 rw [b1q] at e2
 obtain ⟨a2, h2, q2⟩ := (rdI Try.underlying55) _ e2
 refine ⟨⟨a0, a1, a2⟩, ?_, ⟨q0, q1, q2⟩⟩
 have := (a1o h0 (a1o h1 (a1o h2 (b0t (hl.trans b1r)))))
 exact this
theorem b7P : Try.prog.cellsOf 42 = 1 := by kernel_rfl
theorem c2D : Try.prog.cellsOf 4 = 1 := by kernel_rfl
theorem b7Q : Try.prog.cellsOf 43 = 1 := by kernel_rfl
theorem b1s : Try.prog.cellsOf 45 = 5 := by kernel_rfl
def Func.Ok (N : Nat) (x : Func) : Prop := (fun n => (Lit.int .i64 n).wf = true) x.Params ∧ (fun l => List.length l ≤ N ∧ ∀ a ∈ l, (fun n => (Lit.int .u8 n).wf = true) a) x.Locals ∧ (fun _ => True) x.Result ∧ (fun n => (Lit.int .i64 n).wf = true) x.Keep ∧ (fun l => List.length l ≤ N ∧ ∀ a ∈ l, (Instr.Ok N) a) x.Code
theorem Func.rd {N : Nat} : Rd Try.prog N Func.av (Func.Ok N) 45 := by
 intro avs ht
 obtain ⟨hl, hf⟩ := a4k Try.underlying45 ht
 have e0 : Ty Try.prog N 3 ((avs.drop 0).take (Try.prog.cellsOf 3)) := hf 0 _ rfl
 rw [a8y] at e0
 obtain ⟨a0, h0, q0⟩ := (rdI Try.underlying3) _ e0
 have e1 : Ty Try.prog N 42 ((avs.drop 1).take (Try.prog.cellsOf 42)) := hf 1 _ rfl
 rw [b7P] at e1
 obtain ⟨a1, h1, q1⟩ := (rdL (f4 .u8) (fun fs h => by rw [Try.underlying50] at h; cases h) Try.underlying42 b7N (rdI Try.underlying50)) _ e1
 have e2 : Ty Try.prog N 4 ((avs.drop 2).take (Try.prog.cellsOf 4)) := hf 2 _ rfl
 rw [c2D] at e2
 obtain ⟨a2, h2, q2⟩ := (rdB Try.underlying4) _ e2
 have e3 : Ty Try.prog N 3 ((avs.drop 3).take (Try.prog.cellsOf 3)) := hf 3 _ rfl
 rw [a8y] at e3
 obtain ⟨a3, h3, q3⟩ := (rdI Try.underlying3) _ e3
 have e4 : Ty Try.prog N 43 ((avs.drop 4).take (Try.prog.cellsOf 43)) := hf 4 _ rfl
 rw [b7Q] at e4
 obtain ⟨a4, h4, q4⟩ := (rdL Instr.enc ⟨_, Try.underlying78⟩ Try.underlying43 b1r Instr.rd) _ e4
 refine ⟨⟨a0, a1, a2, a3, a4⟩, ?_, ⟨q0, q1, q2, q3, q4⟩⟩
 have := (a1o h0 (a1o h1 (a1o h2 (a1o h3 (a1o h4 (b0t (hl.trans b1s)))))))
 exact this
theorem b7R : Try.prog.cellsOf 22 = 1 := by kernel_rfl
theorem b7S : Try.prog.cellsOf 24 = 1 := by kernel_rfl
def Program.Ok (N : Nat) (x : Program) : Prop := (fun l => List.length l ≤ N ∧ ∀ a ∈ l, (Func.Ok N) a) x.Funcs
theorem Program.rd {N : Nat} : Rd Try.prog N Program.av (Program.Ok N) 24 := by
 intro avs ht
 obtain ⟨hl, hf⟩ := a4k Try.underlying24 ht
 have e0 : Ty Try.prog N 22 ((avs.drop 0).take (Try.prog.cellsOf 22)) := hf 0 _ rfl
 rw [b7R] at e0
 obtain ⟨a0, h0, q0⟩ := (rdL Func.enc ⟨_, Try.underlying45⟩ Try.underlying22 b1s Func.rd) _ e0
 refine ⟨⟨a0⟩, ?_, q0⟩
 have := (a1o h0 (b0t (hl.trans b7S)))
 exact this
def a9e.Ok (N : Nat) (x : a9e) : Prop := (fun n => (Lit.int .i64 n).wf = true) x.e0 ∧ (fun n => (Lit.int .i64 n).wf = true) x.e1
theorem a9e.arg {H : Type} {enc : TypeId × Value → H} {W : World} {N b0 : Nat} {r : Reach} {v : Value} {d : DataW H} {ps : List MemPlace} (hval : Value.okWide Try.prog W r b0 74 v) (h : DataW.Trod enc Try.prog W 0 (fun _ => true) true 74 v d ps) (hbk : Rows.uptoBulk d ≤ N) :
  ∃ a : a9e, a9e.Ok N a ∧ VR (g00 W).pm (g00 W).L a6b (a9e.av a) v := by
 obtain ⟨avs, h1, h2, h3⟩ := b3Q (m := 12) c5r Try.underlying74 hval h zK zK zK hbk
 rw [a8y] at h1 h2
 obtain ⟨a0, e0, q0⟩ := (rdI Try.underlying3) _ (h2 0 zD)
 obtain ⟨a1, e1, q1⟩ := (rdI Try.underlying3) _ (h2 1 zD)
 match avs, h1 with
 | [x0, x1], _ =>
   cases e0
   cases e1
   exact ⟨⟨a0, a1⟩, ⟨q0, q1⟩, h3⟩
theorem c2E : Try.prog.cellsOf 5 = 1 := by kernel_rfl

theorem own : ownKnob Try.prog.godebug = none := by kernel_rfl
theorem b1t : laidOutB Try.prog = true := by kernel_rfl
end Go.Proofs.Ytnpemocpfdgaoaa

/- Plain laws of sem: what must be answered first; less fuel. -/
namespace Go.Proofs.Ytnpemocpfdgaoaa
open Go Go.Ab Go.RowKit
set_option maxRecDepth 20000
theorem c2F {k : Int} (h : (Lit.int .u64 k).wf = true) : WV k := by
 unfold WV
 simp [Lit.wf, IntKind.min, IntKind.max, IntKind.bits, IntKind.signed] at h; omega
def a8z : Program := Program.mk ([(Func.mk 0 [] false (-1) ([(Instr.mk 25 1 0), (Instr.mk 1 0 5), (Instr.mk 26 0 0)])), (Func.mk 0 [] false (-1) ([(Instr.mk 27 0 0), (Instr.mk 31 0 0), (Instr.mk 29 0 0), (Instr.mk 24 0 0)]))])
theorem a7G : (l7 1048577 a8z).map (·.2) = some 0 := by kernel_rfl
theorem b1u : ((as1 a8z []).bind fun s => a1y a8z 100 s).map (fun s => (s.ek, s.ev, s.steps, s.evs.map (fun e => (e.Kind, e.Value)))) = some (1, 0, 7, [(1, 5)]) := by kernel_rfl
theorem c7B {p : Program} (h : (p.Funcs.all fun f => f.Code.all fun i => decide (0 ≤ i.Imm ∧ i.Imm < 18446744073709551616)) = true) : ∀ f ∈ p.Funcs, ∀ i ∈ f.Code, WV i.Imm := by
 simp only [List.all_eq_true, decide_eq_true_eq] at h
 exact h
theorem b2N : p6 1048577 = some true := by
 obtain ⟨c, hc, hc0⟩ := Option.map_eq_some_iff.1 a7G
 have G := a5k (by exact Nat.le_of_ble_eq_true rfl) (c7B zK) hc hc0
 obtain ⟨s1, s2, h1, _, _, h4, h5, _⟩ := a8x G (tape := []) (fl := 100) hc hc0 nofun (by exact Nat.le_of_ble_eq_true rfl) ⟨by decide, by decide⟩
 have hr := b1u
 rw [h1, Option.bind_some, show (100 : Nat) = (100 : Int).toNat from rfl, h4, Option.map_some] at hr
 have hr := Option.some.inj hr
 simp only [Prod.mk.injEq] at hr
 obtain ⟨r1, r2, r3, r4⟩ := hr
 unfold p6
 change ((y4 1048577 a8z [] 100).bind _) = _
 rw [h5, Option.bind_some]
 cases he : s2.evs with
 | nil => rw [he] at r4; cases r4
 | cons e l =>
   cases l with
   | cons e2 l => rw [he] at r4; simp at r4
   | nil =>
     rw [he] at r4
     simp only [List.map_cons, List.map_nil, List.cons.injEq, Prod.mk.injEq, and_true] at r4
     simp only [jp, c1S, r1, r2, r3, he]
     rw [show (0 : Int) = ((0 : Nat) : Int) from rfl, p5]
     simp [r4]
end Go.Proofs.Ytnpemocpfdgaoaa

/- Plain laws of sem: how deep calls go. -/
namespace Go.Proofs.Ytnpemocpfdgaoaa
open Go Go.Ab Go.RowKit
set_option maxRecDepth 20000
def dF : Func := Func.mk 1 ([0]) false (-1) ([(Instr.mk 2 0 0), (Instr.mk 22 6 0), (Instr.mk 2 0 0), (Instr.mk 1 0 1), (Instr.mk 8 0 0), (Instr.mk 23 1 0), (Instr.mk 24 0 0)])
def dM (K : Int) : Func := Func.mk 0 [] false (-1) ([(Instr.mk 1 0 K), (Instr.mk 23 1 0), (Instr.mk 24 0 0)])
def dP (K : Int) : Program := Program.mk [dM K, dF]
def dS (rows : List ARow) (a d : Int) : AS := ⟨[], [], 0, 0, a, d, 0, 0, rows, [], 0⟩
def dZ (j : Int) (pc : Int) (st : List Int) (nu : Int) : ARow := ⟨⟨dF, [j], st, pc, nu⟩, 0, [], 0⟩
theorem v6 {p : Program} {s s' : AS} {n : Nat} (h : a1p p { s with steps := s.steps + 1 } = some s') (h0 : s.ek = 0) : a1y p (n + 1) s = a1y p n s' := by
 conv => lhs; unfold a1y
 rw [if_neg (by simpa using h0)]
 simp only [h, Option.bind_some]
section
variable {K : Int} {r : List ARow} {a d nu : Int} {n : Nat}
theorem d0 {j : Int} : a1y (dP K) (n + 1) (dS (dZ j 0 [] nu :: r) a d) = a1y (dP K) n (dS (dZ j 1 [j] nu :: r) (a + 1) d) := v6 rfl rfl
theorem d1 {j : Int} (h : j ≠ 0) : a1y (dP K) (n + 1) (dS (dZ j 1 [j] nu :: r) a d) = a1y (dP K) n (dS (dZ j 2 [] nu :: r) (a + 1) d) := by
 refine v6 ?_ rfl
 show some (dS (⟨if j = 0 then ⟨dF, [j], [], 6, nu⟩ else ⟨dF, [j], [], 2, nu⟩, 0, [], 0⟩ :: r) (a + 1) d) = _
 rw [if_neg h]; rfl
theorem d2 {j : Int} : a1y (dP K) (n + 1) (dS (dZ j 2 [] nu :: r) a d) = a1y (dP K) n (dS (dZ j 3 [j] nu :: r) (a + 1) d) := v6 rfl rfl
theorem d3 {j : Int} : a1y (dP K) (n + 1) (dS (dZ j 3 [j] nu :: r) a d) = a1y (dP K) n (dS (dZ j 4 [1, j] nu :: r) (a + 1) d) := v6 rfl rfl
theorem d4 {j : Int} (h : 0 < j ∧ j < 1000) : a1y (dP K) (n + 1) (dS (dZ j 4 [1, j] nu :: r) a d) = a1y (dP K) n (dS (dZ j 5 [j - 1] nu :: r) (a + 1) d) := by
 refine v6 ?_ rfl
 show some (dS (dZ j 5 [U64 (j - 1)] nu :: r) (a + 1) d) = _
 rw [a6x zO]
theorem d5 {j i : Int} : a1y (dP K) (n + 1) (dS (dZ j 5 [i] nu :: r) a d) = a1y (dP K) n (dS (dZ i 0 [] ((r.length : Int) + 1) :: dZ j 6 [] nu :: r) (a + 1) (max d ((r.length : Int) + 2))) := by
 refine v6 ?_ rfl
 have e : ((r.length + 2 : Nat) : Int) - 1 = (r.length : Int) + 1 := by omega
 show some (dS (⟨⟨dF, [i], [], 0, ((r.length + 2 : Nat) : Int) - 1⟩, 0, [], 0⟩ :: dZ j 6 [] nu :: r) (a + 1) (max d ((r.length : Int) + 2))) = _
 rw [e]; rfl
end
end Go.Proofs.Ytnpemocpfdgaoaa

/- Plain laws of sem: reckoning. -/
namespace Go.Proofs.Ytnpemocpfdgaoaa
open Go Go.Ab Go.RowKit
set_option maxRecDepth 20000
def a3q (o : Int) : Int := if Int.tmod o 4 = 0 then 7 else if Int.tmod o 4 = 1 then 14 else if Int.tmod o 4 = 2 then 9 else 8
theorem z4 (o : Int) : a3q o = 7 ∨ a3q o = 14 ∨ a3q o = 9 ∨ a3q o = 8 := by unfold a3q; split <;> (try split) <;> (try split) <;> simp
def a5R (o w v : Int) : Int := if a3q o = 7 then IntKind.u64.wrap (w + v) else if a3q o = 14 then a6t .u64 w v else if a3q o = 9 then IntKind.u64.wrap (w * v) else IntKind.u64.wrap (w - v)
theorem b7T (o w v : Int) : z9 (a3q o) w v = some (a5R o w v, 0) := by
 unfold a5R
 rcases z4 o with h | h | h | h <;> rw [h] <;> rfl
def body : List Int → List Instr
 | [] => [⟨30, 0, 0⟩]
 | o :: l => ⟨28, 0, 0⟩ :: ⟨a3q o, 0, 0⟩ :: body l
def want : List Int → List Int → Int → Int
 | [], _, w => w
 | o :: l, tape, w => want l tape.tail (a5R o w (inV tape))
def sF (l : List Int) : Func := Func.mk 0 [] false (-1) (⟨1, 0, 0⟩ :: body l)
def sP (l : List Int) : Program := Program.mk [sF l]
def sS (f : Func) (tape : List Int) (evs : List j7) (w : Int) (k : Nat) (a : Int) : AS := ⟨tape, evs, 0, 0, a, 1, 0, 0, [⟨⟨f, [], [w], k, 0⟩, 0, [], 0⟩], [], 0⟩
theorem a3O : ∀ l : List Int, (body l).length = 2 * l.length + 1
 | [] => rfl
 | o :: l => by show (body l).length + 1 + 1 = _; rw [a3O l]; simp; omega
theorem a4v {α : Type} {c : List α} {k : Nat} {x : α} {l : List α} (h : c.drop k = x :: l) : r7 c (k : Int) = some x ∧ c.drop (k + 1) = l := by
 have h1 : c[k]? = some x := by
  have := congrArg List.head? h
  simpa [List.head?_drop] using this
 refine ⟨by rw [p5]; exact h1, ?_⟩
 rw [← List.drop_drop, h]; rfl
theorem c6L {p : Program} {f : Func} : ∀ (l : List Int) (n k : Nat) (tape : List Int) (evs : List j7) (w a : Int), f.Code.drop k = body l →
  ∃ s, a1y p (n + (2 * l.length + 1)) (sS f tape evs w k a) = some s ∧ s.ek = 1 ∧ s.ev = want l tape w ∧ s.steps = a + (2 * l.length + 1 : Nat)
 | [], n, k, tape, evs, w, a, h => by
   obtain ⟨h1, _⟩ := a4v (show f.Code.drop k = ⟨30, 0, 0⟩ :: [] from h)
   refine ⟨⟨tape, evs, 1, w, a + 1, 1, 0, 0, [⟨⟨f, [], [], (k : Int) + 1, 0⟩, 0, [], 0⟩], [], 0⟩, ?_, rfl, rfl, rfl⟩
   show a1y p (n + 1) _ = _
   rw [v6 (s' := ⟨tape, evs, 1, w, a + 1, 1, 0, 0, [⟨⟨f, [], [], (k : Int) + 1, 0⟩, 0, [], 0⟩], [], 0⟩) ?_ rfl]
   ·unfold a1y; rw [if_pos (by show (1 : Int) ≠ 0; decide)]
   ·unfold a1p sS
    simp only [h1, Option.bind_some]
    rfl
 | o :: l, n, k, tape, evs, w, a, h => by
   obtain ⟨h1, h1'⟩ := a4v (show f.Code.drop k = ⟨28, 0, 0⟩ :: ⟨a3q o, 0, 0⟩ :: body l from h)
   obtain ⟨h2, h2'⟩ := a4v h1'
   obtain ⟨s, i1, i2, i3, i4⟩ := c6L (p := p) l n (k + 2) tape.tail (evs ++ [⟨2, inV tape⟩]) (a5R o w (inV tape)) (a + 1 + 1) h2'
   refine ⟨s, ?_, i2, i3, by rw [i4]; simp; omega⟩
   rw [show n + (2 * (o :: l).length + 1) = (n + (2 * l.length + 1)) + 1 + 1 by simp; omega]
   rw [v6 (s' := ⟨tape.tail, evs ++ [⟨2, inV tape⟩], 0, 0, a + 1, 1, 0, 0, [⟨⟨f, [], [inV tape, w], (k : Int) + 1, 0⟩, 0, [], 0⟩], [], 0⟩) ?_ rfl, v6 (s' := sS f tape.tail (evs ++ [⟨2, inV tape⟩]) (a5R o w (inV tape)) (k + 2) (a + 1 + 1)) ?_ rfl]
   ·exact i1
   ·have hne : ∀ x ∈ [(1 : Int), 2, 3, 4, 5, 6, 21, 22, 31, 32, 28, 29, 23, 25, 24, 26, 27, 30], a3q o ≠ x := by
     rcases z4 o with h | h | h | h <;> rw [h] <;> decide
    simp only [List.mem_cons, List.not_mem_nil, or_false, forall_eq_or_imp, forall_eq] at hne
    obtain ⟨a1, a2, a3, a4, a5, a6, a7, a8, a9, a10, a11, a12, a13, a14, a15, a16, a17, a18⟩ := hne
    unfold a1p
    have h2n : r7 f.Code ((k : Int) + 1) = some ⟨a3q o, 0, 0⟩ := h2
    simp only [h2n, Option.bind_some]
    unfold w8
    simp only [a1, a2, a3, a4, a5, a6, a7, a8, a9, a10, a11, a12, a13, a14, a15, a16, a17, a18, if_false, b7T, Option.bind_some, if_true]
    unfold goA sS
    have e : (k : Int) + 1 + 1 = ((k + 2 : Nat) : Int) := by omega
    rw [e]
   ·unfold a1p sS
    simp only [h1, Option.bind_some]
    rfl
theorem a4w : ∀ (l : List Int) (i : Nat), (i < l.length → (body l)[2 * i]? = some ⟨28, 0, 0⟩ ∧ ∃ o, (body l)[2 * i + 1]? = some ⟨a3q o, 0, 0⟩) ∧ (i = l.length → (body l)[2 * i]? = some ⟨30, 0, 0⟩)
 | [], i => ⟨fun h => by simp at h, fun h => by subst h; rfl⟩
 | o :: l, 0 => ⟨fun _ => ⟨rfl, o, rfl⟩, fun h => by simp at h⟩
 | o :: l, i + 1 => by
   have ih := a4w l i
   rw [show 2 * (i + 1) = 2 * i + 1 + 1 by omega]
   refine ⟨fun h => ?_, fun h => ?_⟩
   ·exact ih.1 (by simp at h; omega)
   ·exact ih.2 (by simp at h; omega)
def sR (m a : Nat) : Option (List Int) := if a = 0 then some [] else if a ≤ 2 * m + 1 then (if a % 2 = 1 then some [0] else some [0, 0]) else none
theorem b1v {p : Program} {f : Func} {o : Int} : a3E p f ⟨a3q o, 0, 0⟩ [0, 0] = some [0] := by
 rcases z4 o with h | h | h | h <;> rw [h] <;> rfl
theorem b3n {o : Int} {a : Nat} : a4y ⟨a3q o, 0, 0⟩ a = [(a : Int) + 1] := by
 rcases z4 o with h | h | h | h <;> rw [h] <;> rfl
theorem b2O {l : List Int} : ∀ i, i ≤ l.length → Der (sP l) (sF l) (2 * i + 1) [0]
 | 0, _ => .go .start rfl rfl (by show ((1 : Nat) : Int) ∈ [((0 : Nat) : Int) + 1]; simp)
 | i + 1, h => by
   obtain ⟨h1, o, h2⟩ := (a4w l i).1 zO
   have d1 : Der (sP l) (sF l) (2 * i + 2) [0, 0] := .go (b2O i zO) (by show (body l)[2 * i]? = _; exact h1) rfl (by show ((2 * i + 2 : Nat) : Int) ∈ [((2 * i + 1 : Nat) : Int) + 1]; simp; omega)
   exact .go d1 (by show (body l)[2 * i + 1]? = _; exact h2) b1v (by rw [b3n, List.mem_singleton]; omega)
theorem c2G (l : List Int) : Sol (sP l) (sF l) (sR l.length) := by
 refine ⟨rfl, fun a s h => ?_⟩
 have hcl : (sF l).Code.length = 2 * l.length + 2 := by show (body l).length + 1 = _; rw [a3O]
 unfold sR at h
 split at h
 ·rename_i h0
  subst h0; cases h
  refine ⟨.start, ⟨1, 0, 0⟩, [0], rfl, rfl, fun b hb => ⟨1, ?_, by omega, rfl⟩⟩
  have : b ∈ [((0 : Nat) : Int) + 1] := hb
  simpa using this
 ·rename_i h0
  split at h
  case isFalse => cases h
  rename_i hle
  by_cases hodd : a % 2 = 1
  ·rw [if_pos hodd] at h; cases h
   obtain ⟨i, rfl⟩ : ∃ i, a = 2 * i + 1 := ⟨a / 2, by omega⟩
   by_cases hi : i = l.length
   ·exact ⟨b2O i zO, ⟨30, 0, 0⟩, [], by show (body l)[2 * i]? = _; exact (a4w l i).2 hi, rfl, fun b hb => by cases (show b ∈ ([] : List Int) from hb)⟩
   ·obtain ⟨h1, o, h2⟩ := (a4w l i).1 zO
    refine ⟨b2O i zO, ⟨28, 0, 0⟩, [0, 0], by show (body l)[2 * i]? = _; exact h1, rfl, fun b hb => ⟨2 * i + 2, ?_, by omega, ?_⟩⟩
    ·have : b ∈ [((2 * i + 1 : Nat) : Int) + 1] := hb
     rw [List.mem_singleton] at this; omega
    ·unfold sR
     rw [if_neg zO, if_pos zO, if_neg zO]
  ·rw [if_neg hodd] at h; cases h
   obtain ⟨i, rfl⟩ : ∃ i, a = 2 * i + 2 := ⟨a / 2 - 1, by omega⟩
   obtain ⟨h1, o, h2⟩ := (a4w l i).1 zO
   have d1 : Der (sP l) (sF l) (2 * i + 2) [0, 0] := .go (b2O i zO) (by show (body l)[2 * i]? = _; exact h1) rfl (by show ((2 * i + 2 : Nat) : Int) ∈ [((2 * i + 1 : Nat) : Int) + 1]; simp; omega)
   refine ⟨d1, ⟨a3q o, 0, 0⟩, [0], by show (body l)[2 * i + 1]? = _; exact h2, b1v, fun b hb => ⟨2 * i + 3, ?_, by omega, ?_⟩⟩
   ·rw [b3n, List.mem_singleton] at hb; omega
   ·unfold sR
    rw [if_neg zO, if_pos zO, if_pos zO]
theorem a3P {q : Instr → Bool} (h1 : q ⟨28, 0, 0⟩ = true) (h2 : ∀ o, q ⟨a3q o, 0, 0⟩ = true) (h3 : q ⟨30, 0, 0⟩ = true) : ∀ l : List Int, (body l).all q = true
 | [] => by simp [body, h3]
 | o :: l => by simp [body, h1, h2 o, a3P h1 h2 h3 l]
theorem c2H {l : List Int} (hl : l.length ≤ 60) : a3F (sP l) = true := by
 have hi : (sF l).Code.all a1c = true := by
  show (a1c ⟨1, 0, 0⟩ && (body l).all a1c) = true
  rw [a3P zD (fun o => by rcases z4 o with h | h | h | h <;> rw [h] <;> decide) zD]
  decide
 have hc : (sF l).Code.all (a3o (sP l) (sF l)) = true := by
  show (a3o (sP l) (sF l) ⟨1, 0, 0⟩ && (body l).all (a3o (sP l) (sF l))) = true
  rw [a3P rfl (fun o => by rcases z4 o with h | h | h | h <;> rw [h] <;> rfl) rfl]
  rfl
 have hcl : (sF l).Code.length = 2 * l.length + 2 := by show (body l).length + 1 = _; rw [a3O]
 have hfp : a0i (sF l) = true := by
  unfold a0i
  rw [hi]
  simp only [Bool.and_true, Bool.and_eq_true, decide_eq_true_eq]
  exact ⟨⟨Int.le_refl _, Int.le_refl _, Nat.zero_le _, Int.le_refl _, by show (-1 : Int) ≤ 254; decide, by omega⟩, rfl⟩
 have hbp : a2k (sF l) = true := by
  unfold a2k
  simp only [decide_eq_true_eq]
  exact ⟨by show (0 : Int) ≤ 4; decide, Nat.zero_le _, by omega⟩
 have hhp : a2g (sP l) (sF l) = true := by
  unfold a2g b1c
  rw [hc]
  simp only [Bool.and_true, Bool.and_eq_true, decide_eq_true_eq]
  exact ⟨⟨by omega, by show (-1 : Int) < 0; decide⟩, rfl⟩
 unfold a3F encP a3A a6O
 show ((decide (1 ≤ 1 ∧ 1 ≤ 255) && (a0i (sF l) && true)) && (((a2k (sF l) && true) && decide (1 ≤ 16)) && ((decide ((0 : Int) = 0) && !false) && (a2g (sP l) (sF l) && true)))) = true
 rw [hfp, hbp, hhp]; rfl
theorem b7U {l : List Int} (hl : l.length ≤ 60) : ∃ c, l7 1048577 (sP l) = some c ∧ c.2 = 0 := by
 obtain ⟨c, hc, hA⟩ := a8v (sP l) (by show 1 ≤ _; omega)
 refine ⟨c, hc, ?_⟩
 have hg := c2H hl
 have hg2 := hg
 unfold a3F at hg2
 simp only [Bool.and_eq_true] at hg2
 have hf : ∀ f ∈ (sP l).Funcs, f = sF l := fun f hf => by simpa [sP] using hf
 rcases hA with ⟨h, _⟩ | ⟨_, h, _⟩ | ⟨_, _, h, _⟩ | ⟨_, ⟨f, h1, h2⟩, _⟩ | ⟨_, _, ⟨f, h1, h2⟩, _⟩ | ⟨_, _, T, rfl, _⟩
 ·rw [hg2.1] at h; cases h
 ·rw [hg2.2.1] at h; cases h
 ·rw [show (a6O (sP l) && (sP l).Funcs.all (a2g (sP l))) = true by rw [hg2.2.2.1, hg2.2.2.2]; rfl] at h; cases h
 ·rw [hf f h1] at h2; exact absurd h2 (c2G l).good
 ·rw [hf f h1] at h2
  obtain ⟨a, s, i, s', d, _, h3, h4⟩ := h2
  have h5 := (c2G l).all d
  have h6 := a8t h3
  have : s.length ≤ 2 := by
   unfold sR at h5
   split at h5
   ·cases h5; simp
   ·split at h5
    ·split at h5 <;> cases h5 <;> simp
    ·cases h5
  omega
 ·rfl
theorem c5s {l tape : List Int} (hl : l.length ≤ 60) (ht : ∀ v ∈ tape, WV v) (htl : tape.length < 1000000000) : ∃ r : Result, y4 1048577 (sP l) tape 1000 = some (r, 0) ∧ r.End = ⟨1, want l tape 0⟩ ∧ r.Steps = ((2 * l.length + 2 : Nat) : Int) := by
 obtain ⟨c, hc, hc0⟩ := b7U hl
 have hq : ∀ i ∈ (sF l).Code, i.Imm = 0 := by
  have := a3P (q := fun i => decide (i.Imm = 0)) rfl (fun o => by simp) rfl l
  rw [List.all_eq_true] at this
  intro i hi
  rcases List.mem_cons.1 hi with rfl | hi
  ·rfl
  ·simpa using this i hi
 have G := a5k (by show 1 ≤ _; omega) (fun f hf i hi => by
  have : f = sF l := by simpa [sP] using hf
  subst this
  rw [hq i hi]; exact .zero) hc hc0
 obtain ⟨s1, s2, h1, _, _, h4, h5, _⟩ := a8x G (fl := 1000) hc hc0 ht htl ⟨by decide, by decide⟩
 refine ⟨_, h5, ?_⟩
 have e : as1 (sP l) tape = some ⟨tape, [], 0, 0, 0, 1, 0, 0, [⟨⟨sF l, [], [], 0, 0⟩, 0, [], 0⟩], [], 0⟩ := rfl
 rw [e] at h1; cases h1
 obtain ⟨s, i1, i2, i3, i4⟩ := c6L (p := sP l) (f := sF l) l (1000 - (2 * l.length + 2)) 1 tape [] 0 1 rfl
 have : a1y (sP l) ((1000 : Int).toNat) ⟨tape, [], 0, 0, 0, 1, 0, 0, [⟨⟨sF l, [], [], 0, 0⟩, 0, [], 0⟩], [], 0⟩ = some s := by
  rw [show (1000 : Int).toNat = (1000 - (2 * l.length + 2)) + (2 * l.length + 1) + 1 by omega, v6 (s' := sS (sF l) tape [] 0 1 1) rfl rfl]
  exact i1
 rw [h4] at this
 cases this
 refine ⟨?_, ?_⟩
 ·show (⟨s2.ek, s2.ev⟩ : End) = _; rw [i2, i3]
 ·show s2.steps = _; rw [i4]; omega
end Go.Proofs.Ytnpemocpfdgaoaa

/- The law SemSums: the walk. -/
namespace Go.Ab
theorem c2I {P : Program} {f : FuncId} {args : List AV} {n : Nat} {ts : List RS} {fc : FC} (hm : P.follows .mixedOrders = true) (hfn : b8b P f n ts fc) (hn : args.length ≤ n) {S : List Ob} (ow : List Nat) {Q : AV → List Ob → Prop}
  (h : VT P S ow fc (a0j 0 args) S (fun e fr1 S1 => a3d e ∧ ∃ v, a1n S1 (Fr.get fr1) ts = some v ∧ Q v S1)) : ∃ r S', Ev P f args (hp S) r (hp S') ∧ Q r S' := by
 obtain ⟨e, fr', S', ⟨he, v, h1, h2⟩, h3⟩ := b2Y h
 exact ⟨v, S', b0r hm hfn hn ow (h3 _ ⟨he, v, _, h1, GWk.refl, .refl _⟩), h2⟩
theorem b7V {P : Program} {f : FuncId} {args : List AV} {L : List It} {Q : AV → List It → Prop} {n : Nat} {ts : List RS} {fc : FC} (hm : P.follows .mixedOrders = true) (hfn : b8b P f n ts fc) (hn : args.length ≤ n) (ow : List Nat)
  (h : ∀ R S, Sep S (L ++ R) → VT P S ow fc (a0j 0 args) S (fun e fr1 S1 => a3d e ∧ ∃ v, a1n S1 (Fr.get fr1) ts = some v ∧ ∃ L', Q v L' ∧ Sep S1 (L' ++ R))) : Tri P f args L Q := fun R S hS =>
 c2I hm hfn hn ow (h R S hS)
end Go.Ab
namespace Go.Proofs.Ytnpemocpfdgaoaa
open Go Go.Ab
set_option maxRecDepth 20000
set_option maxHeartbeats 2000000
def c7C : FC := .reg [⟨(some 4), none, .op (.mv (.v (.bool false)))⟩] []
def c7D : FC := .reg [⟨(some 13), none, .call 20 []⟩,  ⟨(some 14), none, .op (.un .not (.t 13))⟩] []
def c7E : FC := .reg [⟨(some 4), none, .op (.mv (.v (.bool false)))⟩] []
def c7F : FC := .seq c7E FC.ret
def c7G : FC := .cond (.t 14) c7F FC.skip
def c7H : FC := .seq c7D c7G
def c7I : FC := .reg [⟨(some 15), none, .op (.build [(.int .u8 0), (.int .i64 0), (.int .u64 0)] [(0, 1, (.v (.int .u8 1)))])⟩,  ⟨(some 16), none, .op (.bsl (some 3) [(.int .u8 0), (.int .i64 0), (.int .u64 0)] 1 [(0, 3, (.t 15))])⟩,  ⟨(some 5), none, .op (.mv (.t 16))⟩] []
def c7J : FC := .reg [⟨(some 6), none, .op (.mv (.v (.int .u64 0)))⟩] []
def c7K : FC := .reg [⟨(some 17), none, .op (.mv (.t 1))⟩,  ⟨(some 18), none, .op (.len .sl (.t 17))⟩,  ⟨(some 19), none, .op (.mv (.v (.int .i64 0)))⟩] []
def c5t : FC := .reg [⟨(some 21), none, .op (.mv (.t 19))⟩,  ⟨(some 22), none, .op (.iad none none (.t 17) (.t 19))⟩,  ⟨(some 23), none, .op (.load none (.t 22))⟩,  ⟨(some 7), none, .op (.mv (.t 21))⟩,  ⟨(some 8), none, .op (.mv (.t 23))⟩] []
def c5u : FC := .reg [⟨(some 24), none, .op (.mv (.t 7))⟩,  ⟨(some 25), none, .op (.bin .none .geq (.t 24) (.v (.int .i64 60)))⟩] []
def c5v : FC := .cond (.t 25) (FC.exit 0) FC.skip
def c5w : FC := .seq c5u c5v
def c5x : FC := .reg [⟨(some 9), none, .op (.mv (.v (.int .u64 0)))⟩] []
def c5y : FC := .reg [⟨(some 26), none, .op (.mv (.t 7))⟩,  ⟨(some 27), none, .op (.mv (.t 0))⟩,  ⟨(some 28), none, .op (.len .sl (.t 27))⟩,  ⟨(some 29), none, .op (.bin .none .lss (.t 26) (.t 28))⟩] []
def c5z : FC := .reg [⟨(some 30), none, .op (.mv (.t 0))⟩,  ⟨(some 31), none, .op (.mv (.t 7))⟩,  ⟨(some 32), none, .op (.iad none none (.t 30) (.t 31))⟩,  ⟨(some 33), none, .op (.load none (.t 32))⟩,  ⟨(some 9), none, .op (.mv (.t 33))⟩] []
def c5A : FC := .cond (.t 29) c5z FC.skip
def c5B : FC := .seq c5y c5A
def c5C : FC := .reg [⟨(some 34), none, .op (.bsl none [(.int .u8 0)] 4 [(0, 1, (.v (.int .u8 7))), (1, 1, (.v (.int .u8 14))), (2, 1, (.v (.int .u8 9))), (3, 1, (.v (.int .u8 8)))])⟩,  ⟨(some 35), none, .op (.mv (.t 8))⟩,  ⟨(some 36), none, .op (.bin .none .rem (.t 35) (.v (.int .u8 4)))⟩,  ⟨(some 37), none, .op (.iad none none (.t 34) (.t 36))⟩,  ⟨(some 38), none, .op (.load none (.t 37))⟩,  ⟨(some 10), none, .op (.mv (.t 38))⟩] []
def c5D : FC := .reg [⟨(some 39), none, .op (.mv (.t 5))⟩,  ⟨(some 40), none, .op (.build [(.int .u8 0), (.int .i64 0), (.int .u64 0)] [(0, 1, (.v (.int .u8 28)))])⟩,  ⟨(some 41), none, .op (.mv (.t 10))⟩,  ⟨(some 42), none, .op (.build [(.int .u8 0), (.int .i64 0), (.int .u64 0)] [(0, 1, (.t 41))])⟩,  ⟨(some 43), none, .op (.bsl (some 3) [(.int .u8 0), (.int .i64 0), (.int .u64 0)] 2 [(0, 3, (.t 40)), (3, 3, (.t 42))])⟩,  ⟨(some 44), none, .op (.app (some 3) 24 (.t 39) (.t 43))⟩,  ⟨(some 5), none, .op (.mv (.t 44))⟩] []
def c5E : FC := .reg [⟨(some 45), none, .op (.mv (.t 10))⟩] []
def c5F : FC := .reg [⟨(some 50), none, .op (.bin .none .eql (.t 45) (.v (.int .u8 7)))⟩,  ⟨(some 49), none, .op (.mv (.t 50))⟩] []
def c5G : FC := .reg [⟨(some 51), none, .op (.mv (.t 6))⟩,  ⟨(some 52), none, .op (.mv (.t 9))⟩,  ⟨(some 53), none, .op (.bin .none .add (.t 51) (.t 52))⟩,  ⟨(some 6), none, .op (.mv (.t 53))⟩] []
def c5H : FC := .reg [⟨(some 55), none, .op (.bin .none .eql (.t 45) (.v (.int .u8 14)))⟩,  ⟨(some 54), none, .op (.mv (.t 55))⟩] []
def c5I : FC := .reg [⟨(some 56), none, .op (.mv (.t 6))⟩,  ⟨(some 57), none, .op (.mv (.t 9))⟩,  ⟨(some 58), none, .op (.bin .none .xor (.t 56) (.t 57))⟩,  ⟨(some 6), none, .op (.mv (.t 58))⟩] []
def c5J : FC := .reg [⟨(some 60), none, .op (.bin .none .eql (.t 45) (.v (.int .u8 9)))⟩,  ⟨(some 59), none, .op (.mv (.t 60))⟩] []
def c5K : FC := .reg [⟨(some 61), none, .op (.mv (.t 6))⟩,  ⟨(some 62), none, .op (.mv (.t 9))⟩,  ⟨(some 63), none, .op (.bin .none .mul (.t 61) (.t 62))⟩,  ⟨(some 6), none, .op (.mv (.t 63))⟩] []
def c5L : FC := .reg [⟨(some 46), none, .op (.mv (.t 6))⟩,  ⟨(some 47), none, .op (.mv (.t 9))⟩,  ⟨(some 48), none, .op (.bin .none .sub (.t 46) (.t 47))⟩,  ⟨(some 6), none, .op (.mv (.t 48))⟩] []
def c5M : FC := .cond (.t 59) c5K c5L
def c5N : FC := .seq c5J c5M
def c5O : FC := .cond (.t 54) c5I c5N
def c5P : FC := .seq c5H c5O
def c5Q : FC := .cond (.t 49) c5G c5P
def c5R : FC := .seq c5F c5Q
def c5S : FC := .block 2 c5R
def c5T : FC := .seq c5E c5S
def c5U : FC := .seq c5D c5T
def c5V : FC := .seq c5C c5U
def c5W : FC := .seq c5B c5V
def c5X : FC := .seq c5x c5W
def c5Y : FC := .seq c5w c5X
def c5Z : FC := .seq c5t c5Y
def c6a : FC := .loop (.seq (.reg [⟨(some 20), none, .op (.bin .none .lss (.t 19) (.t 18))⟩] []) (.seq (.cond (.t 20) .skip (.exit 0)) (.seq (.block 1 c5Z) (.reg [⟨(some 64), none, .op (.bin .none .add (.t 19) (.v (.int .i64 1)))⟩,  ⟨(some 19), none, .op (.mv (.t 64))⟩] []))))
def c6b : FC := .block 0 c6a
def c6c : FC := .seq c7K c6b
def c6d : FC := .block 1000003 (.seq (.reg [⟨(some 66), none, .op (.mv (.t 5))⟩, ⟨(some 67), none, .op (.build [(.int .u8 0), (.int .i64 0), (.int .u64 0)] [(0, 1, (.v (.int .u8 30)))])⟩, ⟨(some 68), none, .op (.bsl (some 3) [(.int .u8 0), (.int .i64 0), (.int .u64 0)] 1 [(0, 3, (.t 67))])⟩, ⟨(some 69), none, .op (.app (some 3) 24 (.t 66) (.t 68))⟩] []) (.reg [⟨(some 70), none, .op (.build [(.int .i64 0), .nils, (.bool false), (.int .i64 0), .nils] [(3, 1, (.v (.int .i64 (-1)))), (4, 1, (.t 69))])⟩, ⟨(some 71), none, .op (.bsl (some 5) [(.int .i64 0), .nils, (.bool false), (.int .i64 0), .nils] 1 [(0, 5, (.t 70))])⟩, ⟨(some 72), none, .op (.build [.nils] [(0, 1, (.t 71))])⟩, ⟨(some 73), none, .op (.mv (.t 0))⟩, ⟨(some 74), none, .call 21 [(.t 72), (.t 73), (.v (.int .i64 1000))]⟩, ⟨(some 65), none, .op (.mv (.t 74))⟩, ⟨(some 75), none, .op (.ext 0 (.t 65))⟩, ⟨(some 76), none, .op (.ext 1 (.t 65))⟩, ⟨(some 11), none, .op (.new [.nils, (.int .i64 0), (.int .u64 0), (.int .i64 0), (.int .i64 0), (.int .i64 0), (.int .i64 0)])⟩, ⟨none, none, .op (.store 7 (.t 11) (.t 75))⟩, ⟨(some 12), none, .op (.mv (.t 76))⟩] []))
def c6e : FC := .reg [⟨(some 77), none, .op (.mv (.t 12))⟩,  ⟨(some 78), none, .op (.bin .none .eql (.t 77) (.v (.int .i64 0)))⟩,  ⟨(some 79), none, .op (.mv (.t 78))⟩,  ⟨(some 80), some (79, true), .op (.fad 1 (.t 11))⟩,  ⟨(some 81), some (79, true), .op (.load (some 2) (.t 80))⟩,  ⟨(some 82), some (79, true), .op (.mv (.t 6))⟩,  ⟨(some 83), some (79, true), .op (.build [(.int .i64 0), (.int .u64 0)] [(0, 1, (.v (.int .i64 1))), (1, 1, (.t 82))])⟩,  ⟨(some 84), some (79, true), .op (.eqs [.int, .int] .eql (.t 81) (.t 83))⟩,  ⟨(some 85), none, .op (.pick (.t 79) (.t 84) (.v (.bool false)))⟩,  ⟨(some 86), none, .op (.mv (.t 85))⟩,  ⟨(some 87), some (86, true), .op (.fad 3 (.t 11))⟩,  ⟨(some 88), some (86, true), .op (.load none (.t 87))⟩,  ⟨(some 89), some (86, true), .op (.mv (.t 5))⟩,  ⟨(some 90), some (86, true), .op (.len .sl (.t 89))⟩,  ⟨(some 91), some (86, true), .op (.bin .none .add (.t 90) (.v (.int .i64 1)))⟩,  ⟨(some 92), some (86, true), .op (.bin .none .eql (.t 88) (.t 91))⟩,  ⟨(some 93), none, .op (.pick (.t 86) (.t 92) (.v (.bool false)))⟩,  ⟨(some 4), none, .op (.mv (.t 93))⟩] []
def c6f : FC := .seq c6e FC.ret
def c6g : FC := .seq c6d c6f
def c6h : FC := .seq c6c c6g
def c6i : FC := .seq c7J c6h
def c6j : FC := .seq c7I c6i
def c6k : FC := .seq c7H c6j
def c6l : FC := .seq c7C c6k
def gc8 : FC := c6l
theorem gn8 : b8b Try.prog 8 94 [(4, none)] gc8 := ⟨_, _, Try.func8, rfl, rfl, rfl, by kernel_rfl, by kernel_rfl⟩

def pre : List Int → List Instr
 | [] => []
 | o :: l => ⟨28, 0, 0⟩ :: ⟨a3q o, 0, 0⟩ :: pre l
theorem a8A : ∀ l : List Int, pre l ++ [⟨30, 0, 0⟩] = body l
 | [] => rfl
 | o :: l => by show _ :: _ :: (pre l ++ _) = _; rw [a8A l]; rfl
theorem b1w (o : Int) : ∀ l : List Int, pre (l ++ [o]) = pre l ++ [⟨28, 0, 0⟩, ⟨a3q o, 0, 0⟩]
 | [] => rfl
 | x :: l => by show _ :: _ :: pre (l ++ [o]) = _; rw [b1w o l]; rfl
theorem a7H : ∀ l : List Int, (pre l).length = 2 * l.length
 | [] => rfl
 | o :: l => by show (pre l).length + 1 + 1 = _; rw [a7H l]; simp; omega
theorem a2S (o : Int) : ∀ (l tape : List Int) (w : Int), want (l ++ [o]) tape w = a5R o (want l tape w) (inV (tape.drop l.length))
 | [], tape, w => rfl
 | x :: l, tape, w => by show want (l ++ [o]) tape.tail _ = _; rw [a2S o l]; simp [want]
theorem a1X {α : Type} {l : List α} {i : Nat} {x : α} (h : l[i]? = some x) : l.take (i + 1) = l.take i ++ [x] := by
 rw [List.take_add_one, h]; rfl
def sC (ops : List Int) (i : Nat) : List Instr := ⟨1, 0, 0⟩ :: pre (ops.take i)
theorem b2P {ops tape : List Int} {r : Result} (hops : ops.length ≤ 1048576 ∧ ∀ o ∈ ops, 0 ≤ o ∧ o ≤ 255) (htl : tape.length ≤ 1048576)
  (hr : y4 1048577 (sP (ops.take 60)) tape 1000 = some (r, 0)) (hE : r.End = ⟨1, want (ops.take 60) tape 0⟩) (hSt : r.Steps = ((2 * (ops.take 60).length + 2 : Nat) : Int)) :
  Tri Try.prog 8 [.sl false 1 (tape.map (avI .u64)), .sl false 1 (ops.map (avI .u8))] [] (fun v L' => v = .bool true ∧ L' = []) := by
 refine b7V mixed gn8 zS [11, 16] (fun R S hS => ?_)
 refine aU ?_
 refine a3w (a1x b2N) rfl rfl rfl ?_
 refine aU ?_
 refine d9 (t := false) rfl (fun h => by cases h) (fun _ => ?_)
 refine aU ?_
 refine c3x hS rfl rfl nB rfl (fun o S hS => ?_)
 refine aU ?_
 have hone : want (ops.take 0) tape 0 = 0 := rfl
 refine a7n (σ := Nat × Nat) (fun q => [(0, .sl false 1 (tape.map (avI .u64))), (5, .ref o q.1 0 (sC ops q.2).length (some 3)), (6, .int .u64 (want (ops.take q.2) tape 0))]) (fun q => (o, q.1, flat Instr.av (sC ops q.2)) :: R) (fun q => ops.take q.2 = ops.take 60) ?_ (fun q S hI hS => ?_)
 ·refine b8L (σ := Nat × Nat) ops.length (fun q => [(0, .sl false 1 (tape.map (avI .u64))), (5, .ref o q.1 0 (sC ops q.2).length (some 3)), (6, .int .u64 (want (ops.take q.2) tape 0)), (17, .sl false 1 (ops.map (avI .u8)))]) (fun q => (o, q.1, flat Instr.av (sC ops q.2)) :: R) (fun i q => q.2 = i ∧ i ≤ 60) (0, 0) hS ⟨rfl, by omega⟩
   (by exact a1m ⟨.refl _, .refl _, .refl _, .refl _, .refl _, .refl _, trivial⟩) zO zD zD (fun _ => ⟨rfl, rfl, rfl, rfl⟩) (fun i q S hi hI hS => ?_) (fun q fr' S hI hS hw => ?_)
  ·obtain ⟨ver, k⟩ := q
   obtain ⟨hk, hi60⟩ := hI
   dsimp only at hk hS
   subst hk
   obtain ⟨x, hx⟩ : ∃ x, ops[k]? = some x := ⟨ops[k], List.getElem?_eq_getElem hi⟩
   have hxr := hops.2 x (List.mem_of_getElem? hx)
   refine aU ?_
   refine q9 (f := avI .u8) (ys := ops) (y := x) rfl rfl (by rw [p5]; exact hx) ?_
   refine oP (.int .u8 x) ?_
   refine aU ?_
   refine d9 (t := decide (60 ≤ k)) (by show AV.bool (decide ((k : Int) ≥ 60)) = _; congr 1; simp; omega) (fun hb => ?_) (fun hb => ?_)
   ·have hk60 : k = 60 := by have := of_decide_eq_true hb; omega
    refine a4U ?_
    (repeat (first | refine i9 ?_ | refine j2 ?_ | refine j3 rfl ?_ | refine d7 ?_ | refine f7 ?_ | refine i7 ?_))
    refine R_b zD ?_
    exact z5 ⟨(ver, k), by rw [hk60], hS, a1m ⟨.refl _, .refl _, .refl _, trivial⟩⟩
   ·have hk60 : k < 60 := by have := of_decide_eq_false hb; omega
    refine aU ?_
    refine a7n (σ := Unit) (fun _ => [(0, .sl false 1 (tape.map (avI .u64))), (5, .ref o ver 0 (sC ops k).length (some 3)), (6, .int .u64 (want (ops.take k) tape 0)), (8, .int .u8 x), (9, .int .u64 (inV (tape.drop k))), (17, .sl false 1 (ops.map (avI .u8))), (18, .int .i64 ops.length), (19, .int .i64 k)]) (fun q => (o, ver, flat Instr.av (sC ops k)) :: R) (fun _ => True) ?_ (fun _ S _ hS => ?_)
    ·refine d9 (t := decide (k < tape.length)) (by show AV.bool (decide ((k : Int) < tape.length)) = _; congr 1; simp) (fun hb => ?_) (fun hb => ?_)
     ·have hlt : k < tape.length := of_decide_eq_true hb
      have hv : tape[k]? = some (inV (tape.drop k)) := by
       rw [List.getElem?_eq_getElem hlt]; unfold inV; rw [List.drop_eq_getElem_cons hlt]; rfl
      refine aU ?_
      refine q9 (f := avI .u64) (ys := tape) (y := inV (tape.drop k)) rfl rfl (by rw [p5]; exact hv) ?_
      refine oP (.int .u64 (inV (tape.drop k))) ?_
      refine aU ?_
      exact z5 ⟨(), trivial, hS, a1m ⟨.refl _, .refl _, .refl _, .refl _, .refl _, .refl _, .refl _, .refl _, trivial⟩⟩
     ·have hge : tape.length ≤ k := by have := of_decide_eq_false hb; omega
      have hv : inV (tape.drop k) = 0 := by rw [List.drop_eq_nil_of_le hge]; rfl
      refine aU ?_
      rw [hv]
      exact z5 ⟨(), trivial, hS, a1m ⟨.refl _, .refl _, .refl _, .refl _, .refl _, .refl _, .refl _, .refl _, trivial⟩⟩
    ·refine aU ?_
     have hop : r7 ([7, 14, 9, 8] : List Int) (Int.tmod x 4) = some (a3q x) := by
      have : Int.tmod x 4 = 0 ∨ Int.tmod x 4 = 1 ∨ Int.tmod x 4 = 2 ∨ Int.tmod x 4 = 3 := by
       have h1 := Int.tmod_nonneg 4 hxr.1
       have h2 := Int.tmod_lt_of_pos x (show (0 : Int) < 4 by decide)
       omega
      unfold a3q
      rcases this with h | h | h | h <;> rw [h] <;> rfl
     refine q9 (f := avI .u8) (ys := [7, 14, 9, 8]) (y := a3q x) rfl rfl hop ?_
     refine oP (.int .u8 (a3q x)) ?_
     refine aU ?_
     have hCs : sC ops (k + 1) = sC ops k ++ [(⟨28, 0, 0⟩ : Instr), ⟨a3q x, 0, 0⟩] := by
      unfold sC; rw [a1X hx, b1w]; rfl
     refine a6z (o := o) (ver := ver) (f := Instr.av) (l := sC ops k) (m := [(⟨28, 0, 0⟩ : Instr), ⟨a3q x, 0, 0⟩]) (j := []) (by rw [List.append_nil]; exact hS) Instr.enc rfl (u9 (f := Instr.av) (esh := some 3) [(⟨28, 0, 0⟩ : Instr), ⟨a3q x, 0, 0⟩]) Rp.here (by unfold sC; simp [a7H]; omega) (fun S hS => ?_)
     refine aU ?_
     refine g8 ?_
     refine aU ?_
     rcases z4 x with h | h | h | h
     ·rw [h]
      refine d9 (t := true) rfl (fun _ => ?_) (fun h => by cases h)
      refine aU ?_
      (repeat (first | refine i9 ?_ | refine j2 ?_ | refine j3 rfl ?_ | refine d7 ?_ | refine f7 ?_ | refine i7 ?_))
      refine aU ?_
      (repeat (first | refine i9 ?_ | refine j2 ?_ | refine j3 rfl ?_ | refine d7 ?_ | refine f7 ?_ | refine i7 ?_))
      have hsum : want (ops.take (k + 1)) tape 0 = a5R x (want (ops.take k) tape 0) (inV (tape.drop k)) := by
       rw [a1X hx, a2S, List.length_take, Nat.min_eq_left zO]
      have hs : a5R x (want (ops.take k) tape 0) (inV (tape.drop k)) = IntKind.u64.wrap (want (ops.take k) tape 0 + inV (tape.drop k)) := by unfold a5R; rw [h]; rfl
      refine R_n (ver + 1, k + 1) ⟨rfl, by omega⟩ ?_ ?_
      ·show Ab.Sep S ((o, ver + 1, flat Instr.av (sC ops (k + 1))) :: R)
       rw [hCs]; exact hS
      ·show Wk _ _ _ [(19, .int .i64 k), (18, .int .i64 ops.length), (0, .sl false 1 (tape.map (avI .u64))), (5, .ref o (ver + 1) 0 (sC ops (k + 1)).length (some 3)), (6, .int .u64 (want (ops.take (k + 1)) tape 0)), (17, .sl false 1 (ops.map (avI .u8)))] _
       rw [hCs, hsum, hs, h]
       exact a1m ⟨.refl _, .refl _, .refl _, .refl _, .refl _, .refl _, trivial⟩
     ·rw [h]
      refine d9 (t := false) rfl (fun h => by cases h) (fun _ => ?_)
      refine aU ?_
      refine d9 (t := true) rfl (fun _ => ?_) (fun h => by cases h)
      refine aU ?_
      (repeat (first | refine i9 ?_ | refine j2 ?_ | refine j3 rfl ?_ | refine d7 ?_ | refine f7 ?_ | refine i7 ?_))
      refine aU ?_
      (repeat (first | refine i9 ?_ | refine j2 ?_ | refine j3 rfl ?_ | refine d7 ?_ | refine f7 ?_ | refine i7 ?_))
      have hsum : want (ops.take (k + 1)) tape 0 = a5R x (want (ops.take k) tape 0) (inV (tape.drop k)) := by
       rw [a1X hx, a2S, List.length_take, Nat.min_eq_left zO]
      have hs : a5R x (want (ops.take k) tape 0) (inV (tape.drop k)) = a6t .u64 (want (ops.take k) tape 0) (inV (tape.drop k)) := by unfold a5R; rw [h]; rfl
      refine R_n (ver + 1, k + 1) ⟨rfl, by omega⟩ ?_ ?_
      ·show Ab.Sep S ((o, ver + 1, flat Instr.av (sC ops (k + 1))) :: R)
       rw [hCs]; exact hS
      ·show Wk _ _ _ [(19, .int .i64 k), (18, .int .i64 ops.length), (0, .sl false 1 (tape.map (avI .u64))), (5, .ref o (ver + 1) 0 (sC ops (k + 1)).length (some 3)), (6, .int .u64 (want (ops.take (k + 1)) tape 0)), (17, .sl false 1 (ops.map (avI .u8)))] _
       rw [hCs, hsum, hs, h]
       exact a1m ⟨.refl _, .refl _, .refl _, .refl _, .refl _, .refl _, trivial⟩
     ·rw [h]
      refine d9 (t := false) rfl (fun h => by cases h) (fun _ => ?_)
      refine aU ?_
      refine d9 (t := false) rfl (fun h => by cases h) (fun _ => ?_)
      refine aU ?_
      refine d9 (t := true) rfl (fun _ => ?_) (fun h => by cases h)
      refine aU ?_
      (repeat (first | refine i9 ?_ | refine j2 ?_ | refine j3 rfl ?_ | refine d7 ?_ | refine f7 ?_ | refine i7 ?_))
      refine aU ?_
      (repeat (first | refine i9 ?_ | refine j2 ?_ | refine j3 rfl ?_ | refine d7 ?_ | refine f7 ?_ | refine i7 ?_))
      have hsum : want (ops.take (k + 1)) tape 0 = a5R x (want (ops.take k) tape 0) (inV (tape.drop k)) := by
       rw [a1X hx, a2S, List.length_take, Nat.min_eq_left zO]
      have hs : a5R x (want (ops.take k) tape 0) (inV (tape.drop k)) = IntKind.u64.wrap (want (ops.take k) tape 0 * inV (tape.drop k)) := by unfold a5R; rw [h]; rfl
      refine R_n (ver + 1, k + 1) ⟨rfl, by omega⟩ ?_ ?_
      ·show Ab.Sep S ((o, ver + 1, flat Instr.av (sC ops (k + 1))) :: R)
       rw [hCs]; exact hS
      ·show Wk _ _ _ [(19, .int .i64 k), (18, .int .i64 ops.length), (0, .sl false 1 (tape.map (avI .u64))), (5, .ref o (ver + 1) 0 (sC ops (k + 1)).length (some 3)), (6, .int .u64 (want (ops.take (k + 1)) tape 0)), (17, .sl false 1 (ops.map (avI .u8)))] _
       rw [hCs, hsum, hs, h]
       exact a1m ⟨.refl _, .refl _, .refl _, .refl _, .refl _, .refl _, trivial⟩
     ·rw [h]
      refine d9 (t := false) rfl (fun h => by cases h) (fun _ => ?_)
      refine aU ?_
      refine d9 (t := false) rfl (fun h => by cases h) (fun _ => ?_)
      refine aU ?_
      refine d9 (t := false) rfl (fun h => by cases h) (fun _ => ?_)
      refine aU ?_
      (repeat (first | refine i9 ?_ | refine j2 ?_ | refine j3 rfl ?_ | refine d7 ?_ | refine f7 ?_ | refine i7 ?_))
      refine aU ?_
      (repeat (first | refine i9 ?_ | refine j2 ?_ | refine j3 rfl ?_ | refine d7 ?_ | refine f7 ?_ | refine i7 ?_))
      have hsum : want (ops.take (k + 1)) tape 0 = a5R x (want (ops.take k) tape 0) (inV (tape.drop k)) := by
       rw [a1X hx, a2S, List.length_take, Nat.min_eq_left zO]
      have hs : a5R x (want (ops.take k) tape 0) (inV (tape.drop k)) = IntKind.u64.wrap (want (ops.take k) tape 0 - inV (tape.drop k)) := by unfold a5R; rw [h]; rfl
      refine R_n (ver + 1, k + 1) ⟨rfl, by omega⟩ ?_ ?_
      ·show Ab.Sep S ((o, ver + 1, flat Instr.av (sC ops (k + 1))) :: R)
       rw [hCs]; exact hS
      ·show Wk _ _ _ [(19, .int .i64 k), (18, .int .i64 ops.length), (0, .sl false 1 (tape.map (avI .u64))), (5, .ref o (ver + 1) 0 (sC ops (k + 1)).length (some 3)), (6, .int .u64 (want (ops.take (k + 1)) tape 0)), (17, .sl false 1 (ops.map (avI .u8)))] _
       rw [hCs, hsum, hs, h]
       exact a1m ⟨.refl _, .refl _, .refl _, .refl _, .refl _, .refl _, trivial⟩
  ·refine z5 ⟨q, by rw [hI.1, List.take_of_length_le (Nat.le_refl _), List.take_of_length_le zO], hS, a5C hw (a1m ⟨.refl _, .refl _, .refl _, trivial⟩)⟩
 ·obtain ⟨ver, k⟩ := q
  dsimp only at hI hS
  have hbody : sC ops k ++ [(⟨30, 0, 0⟩ : Instr)] = (sF (ops.take 60)).Code := by
   unfold sC; rw [hI]; show _ :: (pre _ ++ _) = _; rw [a8A]; rfl
  refine aU ?_
  refine g8 ?_
  refine aU ?_
  refine a6z (o := o) (ver := ver) (f := Instr.av) (l := sC ops k) (m := [(⟨30, 0, 0⟩ : Instr)]) (j := []) (by rw [List.append_nil]; exact hS) Instr.enc rfl (u9 (f := Instr.av) (esh := some 3) [(⟨30, 0, 0⟩ : Instr)]) Rp.here (by unfold sC; simp [a7H]; omega) (fun S hS => ?_)
  refine b9 ?_
  refine b8P 69 Instr.enc hS Pk.here rfl (fun S hS => ?_)
  (repeat (first | refine w4 ?_ | refine d6 ?_ | refine c7 ?_ | refine i8 ?_))
  have hP : (Program.mk [Func.mk 0 [] false (-1) (sC ops k ++ [(⟨30, 0, 0⟩ : Instr)])]) = sP (ops.take 60) := by rw [hbody]; rfl
  rw [← hP] at hr
  have hcl : ((sC ops k).length : Int) + 1 = r.Steps := by
   rw [hSt]
   have := congrArg List.length hbody
   rw [List.length_append] at this
   have h2 : (sF (ops.take 60)).Code.length = 2 * (ops.take 60).length + 2 := by show (body _).length + 1 = _; rw [a3O]
   rw [h2] at this
   simp at this ⊢; omega
  have hcl2 : (sC ops k).length ≤ 1000000 := by
   have : (ops.take 60).length ≤ 60 := by simp; omega
   rw [hSt] at hcl; omega
  refine m9 (v' := Func.av (Func.mk 0 [] false (-1) (sC ops k ++ [(⟨30, 0, 0⟩ : Instr)]))) rfl (.aggL ⟨.refl _, .nil, .refl _, .refl _, .refl _, trivial⟩) rfl ?_
  refine m9 (v := .sl true 5 (List.map Func.av [Func.mk 0 [] false (-1) (sC ops k ++ [(⟨30, 0, 0⟩ : Instr)])])) (v' := .sl true 5 (List.map Func.av [Func.mk 0 [] false (-1) (sC ops k ++ [(⟨30, 0, 0⟩ : Instr)])])) (rd := []) (δ := none) rfl (.refl _) rfl ?_
  refine m9 (v' := Program.av (Program.mk [Func.mk 0 [] false (-1) (sC ops k ++ [(⟨30, 0, 0⟩ : Instr)])])) rfl (.aggL ⟨.ex, trivial⟩) rfl ?_
  refine aU ?_
  refine a3w (a5i hr) rfl (k8 ⟨Program.enc.blw _ 0, (q6 (f4 .u64) 1).blw tape 0, rfl, trivial⟩) (a2r ⟨Result.enc.blw _ 0, rfl, trivial⟩) ?_
  refine aU ?_
  refine b2i hS rfl (fun res S hS => ?_)
  refine E_stS hS rfl (xv := Result.av r) rfl Rp.here rfl rfl (by first | exact Nat.le_of_ble_eq_true rfl | (simp; omega) | omega) (fun S hS => ?_)
  refine aU ?_
  (repeat (first | refine i9 ?_ | refine j2 ?_ | refine j3 rfl ?_ | refine d7 ?_ | refine f7 ?_ | refine i7 ?_))
  refine aU ?_
  refine f5 hS rfl (.head _) (v := .agg [.int .i64 r.End.Kind, .int .u64 r.End.Value]) rfl ?_
  refine oH ?_
  refine c2T zC ?_
  refine oH ?_
  refine a1v rfl zC ?_
  refine oH ?_
  have hE2 : a1f [AV.int .i64 r.End.Kind, .int .u64 r.End.Value] [.int .i64 1, .int .u64 (want (ops.take k) tape 0)] = true := by
   rw [hE, hI]; simp [a1f, AV.same]
  refine a1v (v' := .bool true) rfl (by show AV.bool (a1f [AV.int .i64 r.End.Kind, .int .u64 r.End.Value] [.int .i64 1, .int .u64 (want (ops.take k) tape 0)]) = _; rw [hE2]) ?_
  refine aU ?_
  refine f5 hS rfl (.head _) (v := .int .i64 r.Steps) rfl ?_
  refine aU ?_
  refine f9 ?_
  (repeat (first | refine i9 ?_ | refine j2 ?_ | refine j3 rfl ?_ | refine d7 ?_ | refine f7 ?_ | refine i7 ?_))
  have hfin : (r.Steps == IntKind.i64.wrap (((sC ops k).length : Int) + 1)) = true := by
   rw [r9 zO, hcl]; simp
  exact ⟨trivial, .bool (r.Steps == IntKind.i64.wrap (((sC ops k).length : Int) + 1)), rfl, [], ⟨by rw [hfin], rfl⟩, hS.sub (List.sublist_cons_self _ _)⟩
theorem a7I (tape ops : List Int) (ht : tape.length ≤ 1048576 ∧ ∀ v ∈ tape, (Lit.int .u64 v).wf = true) (ho : ops.length ≤ 1048576 ∧ ∀ o ∈ ops, (Lit.int .u8 o).wf = true) :
  PureEv Try.prog 8 [.sl false 1 (tape.map (avI .u64)), .sl false 1 (ops.map (avI .u8))] (.bool true) := by
 have ho2 : ∀ o ∈ ops, 0 ≤ o ∧ o ≤ 255 := fun o h => by
  have := ho.2 o h
  simp [Lit.wf, IntKind.min, IntKind.max, IntKind.bits, IntKind.signed] at this; omega
 obtain ⟨r, h1, h2, h3⟩ := c5s (l := ops.take 60) (tape := tape) zE (fun v hv => c2F (ht.2 v hv)) zO
 obtain ⟨r', h4, rfl⟩ := Tri.pure (Q' := fun x => x = .bool true) 2 (b2P ⟨ho.1, ho2⟩ ht.1 h1 h2 h3) (fun v L' S hq hS => by
  obtain ⟨rfl, rfl⟩ := hq
  exact ⟨.bool true, j8 rfl (.refl _), rfl⟩)
 exact h4
end Go.Proofs.Ytnpemocpfdgaoaa

