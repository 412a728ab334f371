/- How arguments are read. -/
import Derived.Test.YtnpemocpfdgaoaaGenF
import Derived.Test.YtnpemocpfdgaoaaWlK8
import Derived.WalkKit
import Derived.ProofKit
import Derived.OpenShut
import Derived.JoinedCond
set_option linter.unusedVariables false
set_option linter.unusedSimpArgs false
namespace Go.Proofs.Ytnpemocpfdgaoaa
open Go Go.Ab Go.RowKit
set_option maxRecDepth 20000
theorem b0f {H : Type} {d : DataW H} {l : List (DataW H)} (h : d ∈ l) : Rows.uptoBulk d ≤ Rows.uptoBulkAll l := by
 induction l with
 | nil => cases h
 | cons x r ih =>
   simp only [Rows.uptoBulkAll]
   rcases List.mem_cons.1 h with e | e
   ·subst e; omega
   ·have := ih e; omega
theorem c2p {H : Type} (d : DataW H) : 1 ≤ Rows.uptoBulk d := by
 cases d with
 | lit l => cases l <;> simp [Rows.uptoBulk]
 | _ => simp [Rows.uptoBulk]
theorem b0g {H : Type} (l : List (DataW H)) : l.length ≤ Rows.uptoBulkAll l := by
 induction l with
 | nil => simp [Rows.uptoBulkAll]
 | cons x r ih => have := c2p x; simp only [Rows.uptoBulkAll, List.length_cons]; omega
theorem c5z {H : Type} : c2Q (H := H) Rows.uptoBulk :=
 ⟨fun bytes => by simp [Rows.uptoBulk], fun e s => by have := b0g e; simp only [Rows.uptoBulk]; omega, fun e s d h => by have := b0f h; simp only [Rows.uptoBulk]; omega, fun p d h => by have := b0f h; simp only [Rows.uptoBulk]; omega⟩

theorem a0E : Try.prog.cellsOf 3 = 1 := by kernel_rfl
theorem b7s : Try.prog.cellsOf 50 = 1 := by kernel_rfl
theorem b7t : Try.prog.cellsOf 53 = 1 := by kernel_rfl
theorem b7u : Try.prog.cellsOf 54 = 1 := by kernel_rfl
theorem b7v : Try.prog.cellsOf 55 = 1 := by kernel_rfl
theorem a6y : Try.prog.cellsOf 46 = 1 := by kernel_rfl
theorem b0h : Try.prog.cellsOf 57 = 12 := by kernel_rfl
def d8.Ok (N : Nat) (x : d8) : Prop := (fun n => (Lit.int .u8 n).wf = true) x.Op ∧ (fun n => (Lit.int .u8 n).wf = true) x.By ∧ (fun n => (Lit.int .i64 n).wf = true) x.D ∧ (fun n => (Lit.int .i64 n).wf = true) x.E ∧ (fun n => (Lit.int .i64 n).wf = true) x.A ∧ (fun n => (Lit.int .i64 n).wf = true) x.B ∧ (fun n => (Lit.int .i64 n).wf = true) x.F ∧ (fun n => (Lit.int .i64 n).wf = true) x.Cell ∧ (fun n => (Lit.int .u64 n).wf = true) x.Imm ∧ (fun l => List.length l ≤ N ∧ ∀ a ∈ l, (fun n => (Lit.int .i64 n).wf = true) a) x.Args ∧ (fun n => (Lit.int .i64 n).wf = true) x.Next ∧ (fun n => (Lit.int .i64 n).wf = true) x.Else
theorem d8.rd {N : Nat} : Rd Try.prog N d8.av (d8.Ok N) 57 := by
 intro avs ht
 obtain ⟨hl, hf⟩ := a3z Try.underlying57 ht
 have e0 : Ty Try.prog N 53 ((avs.drop 0).take (Try.prog.cellsOf 53)) := hf 0 _ rfl
 rw [b7t] at e0
 obtain ⟨a0, h0, q0⟩ := (rdI Try.underlying53) _ e0
 have e1 : Ty Try.prog N 54 ((avs.drop 1).take (Try.prog.cellsOf 54)) := hf 1 _ rfl
 rw [b7u] at e1
 obtain ⟨a1, h1, q1⟩ := (rdI Try.underlying54) _ e1
 have e2 : Ty Try.prog N 3 ((avs.drop 2).take (Try.prog.cellsOf 3)) := hf 2 _ rfl
 rw [a0E] at e2
 obtain ⟨a2, h2, q2⟩ := (rdI Try.underlying3) _ e2
 have e3 : Ty Try.prog N 3 ((avs.drop 3).take (Try.prog.cellsOf 3)) := hf 3 _ rfl
 rw [a0E] at e3
 obtain ⟨a3, h3, q3⟩ := (rdI Try.underlying3) _ e3
 have e4 : Ty Try.prog N 3 ((avs.drop 4).take (Try.prog.cellsOf 3)) := hf 4 _ rfl
 rw [a0E] at e4
 obtain ⟨a4, h4, q4⟩ := (rdI Try.underlying3) _ e4
 have e5 : Ty Try.prog N 3 ((avs.drop 5).take (Try.prog.cellsOf 3)) := hf 5 _ rfl
 rw [a0E] at e5
 obtain ⟨a5, h5, q5⟩ := (rdI Try.underlying3) _ e5
 have e6 : Ty Try.prog N 3 ((avs.drop 6).take (Try.prog.cellsOf 3)) := hf 6 _ rfl
 rw [a0E] at e6
 obtain ⟨a6, h6, q6⟩ := (rdI Try.underlying3) _ e6
 have e7 : Ty Try.prog N 3 ((avs.drop 7).take (Try.prog.cellsOf 3)) := hf 7 _ rfl
 rw [a0E] at e7
 obtain ⟨a7, h7, q7⟩ := (rdI Try.underlying3) _ e7
 have e8 : Ty Try.prog N 55 ((avs.drop 8).take (Try.prog.cellsOf 55)) := hf 8 _ rfl
 rw [b7v] at e8
 obtain ⟨a8, h8, q8⟩ := (rdI Try.underlying55) _ e8
 have e9 : Ty Try.prog N 46 ((avs.drop 9).take (Try.prog.cellsOf 46)) := hf 9 _ rfl
 rw [a6y] at e9
 obtain ⟨a9, h9, q9⟩ := (rdL (m9 .i64) (fun fs h => by rw [Try.underlying3] at h; cases h) Try.underlying46 a0E (rdI Try.underlying3)) _ e9
 have e10 : Ty Try.prog N 3 ((avs.drop 10).take (Try.prog.cellsOf 3)) := hf 10 _ rfl
 rw [a0E] at e10
 obtain ⟨a10, h10, q10⟩ := (rdI Try.underlying3) _ e10
 have e11 : Ty Try.prog N 3 ((avs.drop 11).take (Try.prog.cellsOf 3)) := hf 11 _ rfl
 rw [a0E] at e11
 obtain ⟨a11, h11, q11⟩ := (rdI Try.underlying3) _ e11
 refine ⟨⟨a0, a1, a2, a3, a4, a5, a6, a7, a8, a9, a10, a11⟩, ?_, ⟨q0, q1, q2, q3, q4, q5, q6, q7, q8, q9, q10, q11⟩⟩
 have := (t5 h0 (t5 h1 (t5 h2 (t5 h3 (t5 h4 (t5 h5 (t5 h6 (t5 h7 (t5 h8 (t5 h9 (t5 h10 (t5 h11 (a8Y (hl.trans b0h))))))))))))))
 exact this
theorem b7w : Try.prog.cellsOf 42 = 1 := by kernel_rfl
theorem c2q : Try.prog.cellsOf 4 = 1 := by kernel_rfl
theorem b7x : Try.prog.cellsOf 47 = 1 := by kernel_rfl
theorem b0i : Try.prog.cellsOf 49 = 8 := by kernel_rfl
def b9.Ok (N : Nat) (x : b9) : Prop := (fun l => List.length l ≤ N ∧ ∀ a ∈ l, (fun n => (Lit.int .i64 n).wf = true) a) x.Params ∧ (fun l => List.length l ≤ N ∧ ∀ a ∈ l, (fun n => (Lit.int .u8 n).wf = true) a) x.Kinds ∧ (fun n => (Lit.int .i64 n).wf = true) x.Cells ∧ (fun l => List.length l ≤ N ∧ ∀ a ∈ l, (fun n => (Lit.int .i64 n).wf = true) a) x.Init ∧ (fun _ => True) x.Result ∧ (fun n => (Lit.int .i64 n).wf = true) x.Keep ∧ (fun l => List.length l ≤ N ∧ ∀ a ∈ l, (d8.Ok N) a) x.Nodes ∧ (fun n => (Lit.int .i64 n).wf = true) x.Entry
theorem b9.rd {N : Nat} : Rd Try.prog N b9.av (b9.Ok N) 49 := by
 intro avs ht
 obtain ⟨hl, hf⟩ := a3z Try.underlying49 ht
 have e0 : Ty Try.prog N 46 ((avs.drop 0).take (Try.prog.cellsOf 46)) := hf 0 _ rfl
 rw [a6y] at e0
 obtain ⟨a0, h0, q0⟩ := (rdL (m9 .i64) (fun fs h => by rw [Try.underlying3] at h; cases h) Try.underlying46 a0E (rdI Try.underlying3)) _ e0
 have e1 : Ty Try.prog N 42 ((avs.drop 1).take (Try.prog.cellsOf 42)) := hf 1 _ rfl
 rw [b7w] at e1
 obtain ⟨a1, h1, q1⟩ := (rdL (m9 .u8) (fun fs h => by rw [Try.underlying50] at h; cases h) Try.underlying42 b7s (rdI Try.underlying50)) _ e1
 have e2 : Ty Try.prog N 3 ((avs.drop 2).take (Try.prog.cellsOf 3)) := hf 2 _ rfl
 rw [a0E] at e2
 obtain ⟨a2, h2, q2⟩ := (rdI Try.underlying3) _ e2
 have e3 : Ty Try.prog N 46 ((avs.drop 3).take (Try.prog.cellsOf 46)) := hf 3 _ rfl
 rw [a6y] at e3
 obtain ⟨a3, h3, q3⟩ := (rdL (m9 .i64) (fun fs h => by rw [Try.underlying3] at h; cases h) Try.underlying46 a0E (rdI Try.underlying3)) _ e3
 have e4 : Ty Try.prog N 4 ((avs.drop 4).take (Try.prog.cellsOf 4)) := hf 4 _ rfl
 rw [c2q] at e4
 obtain ⟨a4, h4, q4⟩ := (rdB Try.underlying4) _ e4
 have e5 : Ty Try.prog N 3 ((avs.drop 5).take (Try.prog.cellsOf 3)) := hf 5 _ rfl
 rw [a0E] at e5
 obtain ⟨a5, h5, q5⟩ := (rdI Try.underlying3) _ e5
 have e6 : Ty Try.prog N 47 ((avs.drop 6).take (Try.prog.cellsOf 47)) := hf 6 _ rfl
 rw [b7x] at e6
 obtain ⟨a6, h6, q6⟩ := (rdL d8.enc ⟨_, Try.underlying57⟩ Try.underlying47 b0h d8.rd) _ e6
 have e7 : Ty Try.prog N 3 ((avs.drop 7).take (Try.prog.cellsOf 3)) := hf 7 _ rfl
 rw [a0E] at e7
 obtain ⟨a7, h7, q7⟩ := (rdI Try.underlying3) _ e7
 refine ⟨⟨a0, a1, a2, a3, a4, a5, a6, a7⟩, ?_, ⟨q0, q1, q2, q3, q4, q5, q6, q7⟩⟩
 have := (t5 h0 (t5 h1 (t5 h2 (t5 h3 (t5 h4 (t5 h5 (t5 h6 (t5 h7 (a8Y (hl.trans b0i))))))))))
 exact this
theorem b7y : Try.prog.cellsOf 28 = 1 := by kernel_rfl
theorem b7z : Try.prog.cellsOf 30 = 1 := by kernel_rfl
def i7.Ok (N : Nat) (x : i7) : Prop := (fun l => List.length l ≤ N ∧ ∀ a ∈ l, (b9.Ok N) a) x.Funcs
theorem i7.rd {N : Nat} : Rd Try.prog N i7.av (i7.Ok N) 30 := by
 intro avs ht
 obtain ⟨hl, hf⟩ := a3z Try.underlying30 ht
 have e0 : Ty Try.prog N 28 ((avs.drop 0).take (Try.prog.cellsOf 28)) := hf 0 _ rfl
 rw [b7y] at e0
 obtain ⟨a0, h0, q0⟩ := (rdL b9.enc ⟨_, Try.underlying49⟩ Try.underlying28 b0i b9.rd) _ e0
 refine ⟨⟨a0⟩, ?_, q0⟩
 have := (t5 h0 (a8Y (hl.trans b7z)))
 exact this
def b1x.Ok (N : Nat) (x : b1x) : Prop := (fun n => (Lit.int .i64 n).wf = true) x.e0 ∧ (fun n => (Lit.int .i64 n).wf = true) x.e1
theorem own : ownKnob Try.prog.godebug = none := by kernel_rfl
theorem b0j : laidOutB Try.prog = true := by kernel_rfl
end Go.Proofs.Ytnpemocpfdgaoaa

/- Plain laws of irun: what must be answered first; less fuel. -/
namespace Go.Proofs.Ytnpemocpfdgaoaa
open Go Go.Ab Go.RowKit
set_option maxRecDepth 20000
theorem c2r {k : Int} (h : (Lit.int .u64 k).wf = true) : WV k := by
 unfold WV
 simp [Lit.wf, IntKind.min, IntKind.max, IntKind.bits, IntKind.signed] at h; omega
def a5O : i7 := i7.mk ([(b9.mk [] ([0]) 0 [] false (-1) ([(d8.mk 1 0 0 0 0 0 0 0 7 [] 1 0), (d8.mk 17 0 0 0 0 0 0 0 0 [] 2 0), (d8.mk 12 0 0 0 (-1) 0 0 0 0 [] 0 0)]) 0)])
theorem a6z : a4s a5O = true := by kernel_rfl
theorem b0k : ((as1 ⟨a5O.Funcs, false⟩ []).bind fun s => a3D ⟨a5O.Funcs, false⟩ 10 s).map (fun s => (s.ek, s.ev, s.steps, s.evs.map (fun e => (e.Kind, e.Value)))) = some (1, 0, 3, [(1, 7)]) := by kernel_rfl
theorem c6k {g : i7} (h : (g.Funcs.all fun f => f.Nodes.all fun n => decide ((0 ≤ n.Imm ∧ n.Imm < 18446744073709551616) ∧ n.Args.length < 100000000)) = true) : ∀ f ∈ g.Funcs, ∀ n ∈ f.Nodes, WV n.Imm ∧ n.Args.length < 100000000 := by
 simp only [List.all_eq_true, decide_eq_true_eq] at h
 exact h
theorem b1y : p3 1048577 = some true := by
 rcases a7U (g := a5O) (c6k zK) with ⟨hc, G⟩ | hc
 case inr => rw [a7j, a6z] at hc; cases hc
 obtain ⟨s1, s2, h1, _, _, h4, h5, _⟩ := b0e G (tape := []) (fl := 10) hc nofun (by exact Nat.le_of_ble_eq_true rfl) ⟨by decide, by decide⟩
 have hr := b0k
 rw [h1, Option.bind_some, show (10 : Nat) = (10 : Int).toNat from rfl, h4, Option.map_some] at hr
 have hr := Option.some.inj hr
 simp only [Prod.mk.injEq] at hr
 obtain ⟨r1, r2, r3, r4⟩ := hr
 unfold p3
 change ((u6 1048577 a5O false [] 10).bind _) = _
 rw [h5, Option.bind_some]
 cases he : s2.evs with
 | nil => rw [he] at r4; cases r4
 | cons e l =>
   cases l with
   | cons e2 l => rw [he] at r4; simp at r4
   | nil =>
     rw [he] at r4
     simp only [List.map_cons, List.map_nil, List.cons.injEq, Prod.mk.injEq, and_true] at r4
     simp only [jp, b1Z, r1, r2, r3, he]
     rw [show (0 : Int) = ((0 : Nat) : Int) from rfl, a7a]
     simp [r4]
end Go.Proofs.Ytnpemocpfdgaoaa

/- Plain laws of irun: a graph that goes round, adding. -/
namespace Go.Proofs.Ytnpemocpfdgaoaa
open Go Go.Ab Go.RowKit
set_option maxRecDepth 20000
theorem b0l {p : GP} {s s' : AS} {n : Nat} (h : a0u p { s with steps := s.steps + 1 } = some s') (h0 : s.ek = 0) : a3D p (n + 1) s = a3D p n s' := by
 conv => lhs; unfold a3D
 rw [if_neg (by simpa using h0)]
 simp only [h, Option.bind_some]
def a5P (p : GP) (n : Nat) (s s' : AS) : Prop := b7K p n s ∧ a3D p n s = some s'
theorem a5P.step {p : GP} {n : Nat} {s s1 s' : AS} (hb : Bd p { s with steps := s.steps + 1 }) (h : a0u p { s with steps := s.steps + 1 } = some s1) (h0 : s.ek = 0) (g : a5P p n s1 s') : a5P p (n + 1) s s' :=
 ⟨fun _ => ⟨hb, fun x hx => by rw [h] at hx; cases hx; exact g.1⟩, by rw [b0l h h0]; exact g.2⟩
theorem a5P.done {p : GP} {s : AS} (h : s.ek ≠ 0) : ∀ n, a5P p n s s
 | 0 => ⟨trivial, by unfold a3D; rw [if_pos h]⟩
 | n + 1 => ⟨fun e => absurd e h, by unfold a3D; rw [if_pos h]⟩
def sN (K st : Int) : List d8 := [(d8.mk 1 0 16 0 0 0 0 0 K [] 1 0), (d8.mk 1 0 18 0 0 0 0 0 st [] 2 0), (d8.mk 1 0 19 0 0 0 0 0 1 [] 3 0), (d8.mk 9 0 0 0 16 0 0 0 0 [] 4 6), (d8.mk 3 7 17 0 17 18 0 0 0 [] 5 0), (d8.mk 3 8 16 0 16 19 0 0 0 [] 3 0), (d8.mk 18 0 0 0 17 0 0 0 0 [] 0 0)]
def sF (K st : Int) : b9 := b9.mk [] [0, 0, 0, 0, 0, 0, 0, 0, 0, 0, 0, 0, 0, 0, 0, 0, 0, 0, 0, 0] 0 [] false (-1) (sN K st) 0
def sG (K st : Int) : i7 := i7.mk [sF K st]
def sP (K st : Int) (b : Bool) : GP := ⟨(sG K st).Funcs, b⟩
def lo4 (c s t o : Int) : List Int := [0, 0, 0, 0, 0, 0, 0, 0, 0, 0, 0, 0, 0, 0, 0, 0, c, s, t, o]
def sS (K st : Int) (lo : List Int) (pc a ek ev : Int) : AS := ⟨[], [], ek, ev, a, 1, 0, 0, [⟨⟨sF K st, lo, [], pc, 0⟩, 0, [], 0⟩], [], 0⟩
theorem b7A (K st : Int) (b : Bool) : t9 (sG K st) b = some 0 := by cases b <;> kernel_rfl
section
variable {K st : Int} {b : Bool} {c s t o a : Int}
theorem c5f : ∀ g ∈ (sP K st b).Funcs, okG g := fun g hg => by
 have : g ∈ [sF K st] := hg
 rw [List.mem_singleton.1 this]
 refine ⟨by show 20 < _; decide, by show (0 : Int) < _; decide, by show 0 < _; decide, fun n hn => ?_⟩
 have : (sN K st).all (fun n => decide (n.Args.length < 100000000)) = true := rfl
 exact of_decide_eq_true (List.all_eq_true.1 this n hn)
theorem b2e {lo : List Int} {pc ek ev : Int} : Bd (sP K st b) (sS K st lo pc a ek ev) := by
 refine ⟨c5f, by show 1 < _; decide, by show 0 < _; decide, ⟨by show (0 : Int) ≤ 1; decide, by show (1 : Int) < _; decide⟩, ⟨by show (0 : Int) ≤ 0; decide, by show (0 : Int) < _; decide⟩, fun z hz => ?_, by show 0 < _; decide⟩
 have : z ∈ [(⟨⟨sF K st, lo, [], pc, 0⟩, 0, [], 0⟩ : ARow)] := hz
 rw [List.mem_singleton.1 this]
 exact ⟨by show ((0 : Nat) : Int) ≤ 0; decide, c5f (b := b) _ (by show sF K st ∈ [sF K st]; simp)⟩
theorem c6l : as1 (sP K st b) [] = some (sS K st (lo4 0 0 0 0) 0 0 0 0) := by cases b <;> rfl
theorem st0 : a0u (sP K st b) (sS K st (lo4 c s t o) 0 a 0 0) = some (sS K st (lo4 K s t o) 1 a 0 0) := by cases b <;> rfl
theorem st1 : a0u (sP K st b) (sS K st (lo4 c s t o) 1 a 0 0) = some (sS K st (lo4 c s st o) 2 a 0 0) := by cases b <;> rfl
theorem st2 : a0u (sP K st b) (sS K st (lo4 c s t o) 2 a 0 0) = some (sS K st (lo4 c s t 1) 3 a 0 0) := by cases b <;> rfl
theorem st3 : a0u (sP K st b) (sS K st (lo4 c s t o) 3 a 0 0) = some (sS K st (lo4 c s t o) (if c = 0 then 6 else 4) a 0 0) := by cases b <;> rfl
theorem st4 : a0u (sP K st b) (sS K st (lo4 c s t o) 4 a 0 0) = some (sS K st (lo4 c (U64 (s + t)) t o) 5 a 0 0) := by cases b <;> rfl
theorem st5 : a0u (sP K st b) (sS K st (lo4 c s t o) 5 a 0 0) = some (sS K st (lo4 (U64 (c - o)) s t o) 3 a 0 0) := by cases b <;> rfl
theorem st6 : a0u (sP K st b) (sS K st (lo4 c s t o) 6 a 0 0) = some (sS K st (lo4 c s t o) 6 a 1 s) := by cases b <;> rfl
theorem c5g (x y : Int) : U64 (U64 x + y) = U64 (x + y) := by
 unfold U64
 simp [IntKind.wrap, IntKind.bits, IntKind.signed]
theorem c5A : ∀ (j n : Nat) (x a : Int), j < 1000 → a5P (sP K st b) (n + (3 * j + 2)) (sS K st (lo4 j (U64 x) st 1) 3 a 0 0) (sS K st (lo4 0 (U64 (x + j * st)) st 1) 6 (a + (3 * j + 2 : Nat)) 1 (U64 (x + j * st)))
 | 0, n, x, a, _ => by
   show a5P (sP K st b) (n + 1 + 1) _ _
   refine a5P.step b2e st3 rfl ?_
   rw [if_pos (show ((0 : Nat) : Int) = 0 from rfl)]
   refine a5P.step b2e st6 rfl ?_
   have e : x + ((0 : Nat) : Int) * st = x := by simp
   rw [e, show a + ((3 * 0 + 2 : Nat) : Int) = a + 1 + 1 by omega]
   exact a5P.done (by show (1 : Int) ≠ 0; decide) n
 | j + 1, n, x, a, hj => by
   rw [show n + (3 * (j + 1) + 2) = (n + (3 * j + 2)) + 1 + 1 + 1 by omega]
   refine a5P.step b2e st3 rfl ?_
   rw [if_neg zO]
   refine a5P.step b2e st4 rfl (a5P.step b2e st5 rfl ?_)
   rw [c5g, show U64 (((j + 1 : Nat) : Int) - 1) = (j : Int) by rw [a7b zO]; omega]
   have e : x + ((j + 1 : Nat) : Int) * st = (x + st) + (j : Int) * st := by rw [Int.natCast_add, Int.add_mul]; simp; omega
   rw [e, show a + ((3 * (j + 1) + 2 : Nat) : Int) = a + 1 + 1 + 1 + ((3 * j + 2 : Nat) : Int) by omega]
   exact c5A j n (x + st) (a + 1 + 1 + 1) zO
theorem c5h {k : Nat} (hk : k < 200) : u6 1048577 (sG k st) b [] 2000 = some (b1Z (sS k st (lo4 0 (U64 (k * st)) st 1) 6 ((3 * k + 5 : Nat) : Int) 1 (U64 (k * st))), 0) := by
 have h := c5A (K := k) (st := st) (b := b) k (2000 - (3 * k + 5)) 0 3 zO
 rw [show (0 : Int) + (k : Int) * st = (k : Int) * st by omega, show U64 0 = 0 from rfl, show (3 : Int) + ((3 * k + 2 : Nat) : Int) = ((3 * k + 5 : Nat) : Int) by omega] at h
 have g : a5P (sP k st b) 2000 (sS k st (lo4 0 0 0 0) 0 0 0 0) (sS k st (lo4 0 (U64 (k * st)) st 1) 6 ((3 * k + 5 : Nat) : Int) 1 (U64 (k * st))) := by
  rw [show 2000 = (2000 - (3 * k + 5)) + (3 * k + 2) + 1 + 1 + 1 by omega]
  exact a5P.step b2e st0 rfl (a5P.step b2e st1 rfl (a5P.step b2e st2 rfl h))
 exact a3F (b7A k st b) (.run rfl ⟨by decide, by decide⟩ c6l g.2 g.1 c5f (by show 0 < _; decide) (by show 0 < _; decide))
end
theorem a5Q (n st : Int) (hn : (Lit.int .u64 n).wf = true) (hs : (Lit.int .u64 st).wf = true) : p4 1048577 n st = some true := by
 unfold p4
 rw [b1y, Option.bind_some]
 simp only [Bool.not_true, Bool.false_eq_true, if_false]
 have hu := c2r hn
 obtain ⟨k, hk, hk3⟩ : ∃ k : Nat, Int.tmod n 200 = (k : Int) ∧ k < 200 := by
  have h1 : 0 ≤ Int.tmod n 200 := Int.tmod_nonneg _ hu.1
  have h2 : Int.tmod n 200 < 200 := Int.tmod_lt_of_pos _ zD
  exact ⟨(Int.tmod n 200).toNat, by omega, by omega⟩
 rw [hk]
 have hm : (mkL 1 20 20 (0 : Int)) = some [0, 0, 0, 0, 0, 0, 0, 0, 0, 0, 0, 0, 0, 0, 0, 0, 0, 0, 0, 0] := rfl
 rw [hm, Option.bind_some]
 have hr : ∀ b, u6 1048577 (i7.mk [(b9.mk [] [0, 0, 0, 0, 0, 0, 0, 0, 0, 0, 0, 0, 0, 0, 0, 0, 0, 0, 0, 0] 0 [] false (-1) [(d8.mk 1 0 16 0 0 0 0 0 (k : Int) [] 1 0), (d8.mk 1 0 18 0 0 0 0 0 st [] 2 0), (d8.mk 1 0 19 0 0 0 0 0 1 [] 3 0), (d8.mk 9 0 0 0 16 0 0 0 0 [] 4 6), (d8.mk 3 7 17 0 17 18 0 0 0 [] 5 0), (d8.mk 3 8 16 0 16 19 0 0 0 [] 3 0), (d8.mk 18 0 0 0 17 0 0 0 0 [] 0 0)] 0)]) b [] 2000 = some (b1Z (sS k st (lo4 0 (U64 (k * st)) st 1) 6 ((3 * k + 5 : Nat) : Int) 1 (U64 (k * st))), 0) := fun b => c5h hk3
 have e1 : I64 (U64 (5 + U64 (3 * (k : Int)))) = ((3 * k + 5 : Nat) : Int) := by
  rw [a7b (x := 3 * (k : Int)) zO, a7b zO, b8l zO]; omega
 rw [e1]
 simp [hr, rng, a0C, jp, b1Z, sS, oc]
end Go.Proofs.Ytnpemocpfdgaoaa

