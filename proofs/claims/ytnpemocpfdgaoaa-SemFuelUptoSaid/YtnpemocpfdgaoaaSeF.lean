/- How arguments are read. -/
import Derived.Test.YtnpemocpfdgaoaaGenF
import Derived.Test.YtnpemocpfdgaoaaWlH2
import Derived.WalkKit
import Derived.ProofKit
import Derived.OpenShut
import Derived.JoinedCond
set_option linter.unusedVariables false
set_option linter.unusedSimpArgs false
namespace Go.Proofs.Ytnpemocpfdgaoaa
open Go Go.Ab Go.RowKit
set_option maxRecDepth 20000
theorem b1o {H : Type} {d : DataW H} {l : List (DataW H)} (h : d ∈ l) : Rows.uptoBulk d ≤ Rows.uptoBulkAll l := by
 induction l with
 | nil => cases h
 | cons x r ih =>
   simp only [Rows.uptoBulkAll]
   rcases List.mem_cons.1 h with e | e
   ·subst e; omega
   ·have := ih e; omega
theorem c2w {H : Type} (d : DataW H) : 1 ≤ Rows.uptoBulk d := by
 cases d with
 | lit l => cases l <;> simp [Rows.uptoBulk]
 | _ => simp [Rows.uptoBulk]
theorem b1p {H : Type} (l : List (DataW H)) : l.length ≤ Rows.uptoBulkAll l := by
 induction l with
 | nil => simp [Rows.uptoBulkAll]
 | cons x r ih => have := c2w x; simp only [Rows.uptoBulkAll, List.length_cons]; omega
theorem c5g {H : Type} : c2I (H := H) Rows.uptoBulk :=
 ⟨fun bytes => by simp [Rows.uptoBulk], fun e s => by have := b1p e; simp only [Rows.uptoBulk]; omega, fun e s d h => by have := b1o h; simp only [Rows.uptoBulk]; omega, fun p d h => by have := b1o h; simp only [Rows.uptoBulk]; omega⟩

theorem b7L : Try.prog.cellsOf 50 = 1 := by kernel_rfl
theorem b7M : Try.prog.cellsOf 54 = 1 := by kernel_rfl
theorem a8D : Try.prog.cellsOf 3 = 1 := by kernel_rfl
theorem b1q : Try.prog.cellsOf 55 = 1 := by kernel_rfl
theorem b1r : Try.prog.cellsOf 78 = 3 := by kernel_rfl
def Instr.Ok (N : Nat) (x : Instr) : Prop := (fun n => (Lit.int .u8 n).wf = true) x.Op ∧ (fun n => (Lit.int .i64 n).wf = true) x.Arg ∧ (fun n => (Lit.int .u64 n).wf = true) x.Imm
theorem Instr.rd {N : Nat} : Rd Try.prog N Instr.av (Instr.Ok N) 78 := by
 intro avs ht
 obtain ⟨hl, hf⟩ := a4i Try.underlying78 ht
 have e0 : Ty Try.prog N 54 ((avs.drop 0).take (Try.prog.cellsOf 54)) := hf 0 _ rfl
 rw [b7M] at e0
 obtain ⟨a0, h0, q0⟩ := (rdI Try.underlying54) _ e0
 have e1 : Ty Try.prog N 3 ((avs.drop 1).take (Try.prog.cellsOf 3)) := hf 1 _ rfl
 rw [a8D] at e1
 obtain ⟨a1, h1, q1⟩ := (rdI Try.underlying3) _ e1
 have e2 : Ty Try.prog N 55 ((avs.drop 2).take (Try.prog.cellsOf 55)) := hf 2 _ rfl
 rw [b1q] at e2
 obtain ⟨a2, h2, q2⟩ := (rdI Try.underlying55) _ e2
 refine ⟨⟨a0, a1, a2⟩, ?_, ⟨q0, q1, q2⟩⟩
 have := (a1q h0 (a1q h1 (a1q h2 (b0w (hl.trans b1r)))))
 exact this
theorem b7N : Try.prog.cellsOf 42 = 1 := by kernel_rfl
theorem c2x : Try.prog.cellsOf 4 = 1 := by kernel_rfl
theorem b7O : Try.prog.cellsOf 43 = 1 := by kernel_rfl
theorem b1s : Try.prog.cellsOf 45 = 5 := by kernel_rfl
def Func.Ok (N : Nat) (x : Func) : Prop := (fun n => (Lit.int .i64 n).wf = true) x.Params ∧ (fun l => List.length l ≤ N ∧ ∀ a ∈ l, (fun n => (Lit.int .u8 n).wf = true) a) x.Locals ∧ (fun _ => True) x.Result ∧ (fun n => (Lit.int .i64 n).wf = true) x.Keep ∧ (fun l => List.length l ≤ N ∧ ∀ a ∈ l, (Instr.Ok N) a) x.Code
theorem Func.rd {N : Nat} : Rd Try.prog N Func.av (Func.Ok N) 45 := by
 intro avs ht
 obtain ⟨hl, hf⟩ := a4i Try.underlying45 ht
 have e0 : Ty Try.prog N 3 ((avs.drop 0).take (Try.prog.cellsOf 3)) := hf 0 _ rfl
 rw [a8D] at e0
 obtain ⟨a0, h0, q0⟩ := (rdI Try.underlying3) _ e0
 have e1 : Ty Try.prog N 42 ((avs.drop 1).take (Try.prog.cellsOf 42)) := hf 1 _ rfl
 rw [b7N] at e1
 obtain ⟨a1, h1, q1⟩ := (rdL (f6 .u8) (fun fs h => by rw [Try.underlying50] at h; cases h) Try.underlying42 b7L (rdI Try.underlying50)) _ e1
 have e2 : Ty Try.prog N 4 ((avs.drop 2).take (Try.prog.cellsOf 4)) := hf 2 _ rfl
 rw [c2x] at e2
 obtain ⟨a2, h2, q2⟩ := (rdB Try.underlying4) _ e2
 have e3 : Ty Try.prog N 3 ((avs.drop 3).take (Try.prog.cellsOf 3)) := hf 3 _ rfl
 rw [a8D] at e3
 obtain ⟨a3, h3, q3⟩ := (rdI Try.underlying3) _ e3
 have e4 : Ty Try.prog N 43 ((avs.drop 4).take (Try.prog.cellsOf 43)) := hf 4 _ rfl
 rw [b7O] at e4
 obtain ⟨a4, h4, q4⟩ := (rdL Instr.enc ⟨_, Try.underlying78⟩ Try.underlying43 b1r Instr.rd) _ e4
 refine ⟨⟨a0, a1, a2, a3, a4⟩, ?_, ⟨q0, q1, q2, q3, q4⟩⟩
 have := (a1q h0 (a1q h1 (a1q h2 (a1q h3 (a1q h4 (b0w (hl.trans b1s)))))))
 exact this
theorem b7P : Try.prog.cellsOf 22 = 1 := by kernel_rfl
theorem b7Q : Try.prog.cellsOf 24 = 1 := by kernel_rfl
def Program.Ok (N : Nat) (x : Program) : Prop := (fun l => List.length l ≤ N ∧ ∀ a ∈ l, (Func.Ok N) a) x.Funcs
theorem Program.rd {N : Nat} : Rd Try.prog N Program.av (Program.Ok N) 24 := by
 intro avs ht
 obtain ⟨hl, hf⟩ := a4i Try.underlying24 ht
 have e0 : Ty Try.prog N 22 ((avs.drop 0).take (Try.prog.cellsOf 22)) := hf 0 _ rfl
 rw [b7P] at e0
 obtain ⟨a0, h0, q0⟩ := (rdL Func.enc ⟨_, Try.underlying45⟩ Try.underlying22 b1s Func.rd) _ e0
 refine ⟨⟨a0⟩, ?_, q0⟩
 have := (a1q h0 (b0w (hl.trans b7Q)))
 exact this
def a4x.Ok (N : Nat) (x : a4x) : Prop := (fun n => (Lit.int .i64 n).wf = true) x.e0 ∧ (fun n => (Lit.int .i64 n).wf = true) x.e1
theorem a4x.arg {H : Type} {enc : TypeId × Value → H} {W : World} {N b0 : Nat} {r : Reach} {v : Value} {d : DataW H} {ps : List MemPlace} (hval : Value.okWide Try.prog W r b0 74 v) (h : DataW.Trod enc Try.prog W 0 (fun _ => true) true 74 v d ps) (hbk : Rows.uptoBulk d ≤ N) :
  ∃ a : a4x, a4x.Ok N a ∧ VR (g00 W).pm (g00 W).L a6e (a4x.av a) v := by
 obtain ⟨avs, h1, h2, h3⟩ := b3N (m := 12) c5g Try.underlying74 hval h zK zK zK hbk
 rw [a8D] at h1 h2
 obtain ⟨a0, e0, q0⟩ := (rdI Try.underlying3) _ (h2 0 zD)
 obtain ⟨a1, e1, q1⟩ := (rdI Try.underlying3) _ (h2 1 zD)
 match avs, h1 with
 | [x0, x1], _ =>
   cases e0
   cases e1
   exact ⟨⟨a0, a1⟩, ⟨q0, q1⟩, h3⟩
theorem own : ownKnob Try.prog.godebug = none := by kernel_rfl
theorem a7P : laidOutB Try.prog = true := by kernel_rfl
end Go.Proofs.Ytnpemocpfdgaoaa

/- Plain laws of sem: what must be answered first; less fuel. -/
namespace Go.Proofs.Ytnpemocpfdgaoaa
open Go Go.Ab Go.RowKit
set_option maxRecDepth 20000
theorem b3j {k : Int} (h : (Lit.int .u64 k).wf = true) : WV k := by
 unfold WV
 simp [Lit.wf, IntKind.min, IntKind.max, IntKind.bits, IntKind.signed] at h; omega
def a8E : Program := Program.mk ([(Func.mk 0 [] false (-1) ([(Instr.mk 25 1 0), (Instr.mk 1 0 5), (Instr.mk 26 0 0)])), (Func.mk 0 [] false (-1) ([(Instr.mk 27 0 0), (Instr.mk 31 0 0), (Instr.mk 29 0 0), (Instr.mk 24 0 0)]))])
theorem a7Q : (n7 1048577 a8E).map (·.2) = some 0 := by kernel_rfl
theorem b1t : ((as1 a8E []).bind fun s => a3A a8E 100 s).map (fun s => (s.ek, s.ev, s.steps, s.evs.map (fun e => (e.Kind, e.Value)))) = some (1, 0, 7, [(1, 5)]) := by kernel_rfl
theorem c6z {p : Program} (h : (p.Funcs.all fun f => f.Code.all fun i => decide (0 ≤ i.Imm ∧ i.Imm < 18446744073709551616)) = true) : ∀ f ∈ p.Funcs, ∀ i ∈ f.Code, WV i.Imm := by
 simp only [List.all_eq_true, decide_eq_true_eq] at h
 exact h
theorem b2L : n8 1048577 = some true := by
 obtain ⟨c, hc, hc0⟩ := Option.map_eq_some_iff.1 a7Q
 have G := a5l (by exact Nat.le_of_ble_eq_true rfl) (c6z zK) hc hc0
 obtain ⟨s1, s2, h1, _, _, h4, h5, _⟩ := a5Q G (tape := []) (fl := 100) hc hc0 nofun (by exact Nat.le_of_ble_eq_true rfl) ⟨by decide, by decide⟩
 have hr := b1t
 rw [h1, Option.bind_some, show (100 : Nat) = (100 : Int).toNat from rfl, h4, Option.map_some] at hr
 have hr := Option.some.inj hr
 simp only [Prod.mk.injEq] at hr
 obtain ⟨r1, r2, r3, r4⟩ := hr
 unfold n8
 change ((w9 1048577 a8E [] 100).bind _) = _
 rw [h5, Option.bind_some]
 cases he : s2.evs with
 | nil => rw [he] at r4; cases r4
 | cons e l =>
   cases l with
   | cons e2 l => rw [he] at r4; simp at r4
   | nil =>
     rw [he] at r4
     simp only [List.map_cons, List.map_nil, List.cons.injEq, Prod.mk.injEq, and_true] at r4
     simp only [jp, b7z, r1, r2, r3, he]
     rw [show (0 : Int) = ((0 : Nat) : Int) from rfl, s7]
     simp [r4]
theorem a6V {a l : List d6} (h : a.length ≤ 1000000000) : l8 a (a ++ l) = some true := by
 unfold l8
 rw [show decide (((a.length : Nat) : Int) > (((a ++ l).length : Nat) : Int)) = false by simp; omega]
 obtain ⟨s', h1, rfl⟩ := rni_inv (σ := List d6) (ρ := Option Bool) (n := (a.length : Int)) (s0 := a ++ l) (body := fun (i_2 : Nat) (s_1 : (List d6)) => (((t5 a (i_2 : Int)).bind fun y_3 => ((t5 s_1 (i_2 : Int)).bind fun y_4 => (if (!((y_3.Kind == y_4.Kind) && ((y_3.Value == y_4.Value) && true))) then (some (.ret (some false))) else (some (.nxt s_1))))) : Option (Stp (List d6) (Option Bool))))
  (fun _ s => s = a ++ l) zO rfl (fun i s hi hs => by
   subst hs
   have hi' : i < a.length := by omega
   refine ⟨a ++ l, ?_, rfl⟩
   rw [s7, s7, List.getElem?_append_left hi', List.getElem?_eq_getElem hi']
   simp)
 simp only [Bool.false_eq_true, if_false]
 rw [h1]; rfl
theorem b7R {a : List d6} (h : a.length ≤ 1000000000) : p4 a a = some true := by
 unfold p4 jp
 have := a6V (l := []) h
 rw [List.append_nil] at this
 rw [this]; simp
theorem b2M {p : Program} (h : Program.Ok 1048576 p) : ∀ f ∈ p.Funcs, ∀ i ∈ f.Code, WV i.Imm := fun f hf i hi => by
 have h1 := h.2 f hf
 exact b3j (h1.2.2.2.2.2 i hi).2.2
theorem a7R (p : Program) (tape : List Int) (two : a4x) (hp : Program.Ok 1048576 p) (ht : tape.length ≤ 1048576 ∧ ∀ v ∈ tape, (Lit.int .u64 v).wf = true) (h2 : a4x.Ok 1048576 two) : p5 1048577 p tape two = some true := by
 unfold p5
 rw [b2L, Option.bind_some]
 simp only [Bool.not_true, Bool.false_eq_true, if_false, jp]
 have ha5 : Int.tmod two.e0 5000 < 5000 := Int.tmod_lt_of_pos _ zD
 have hb5 : Int.tmod two.e1 5000 < 5000 := Int.tmod_lt_of_pos _ zD
 generalize Int.tmod two.e0 5000 = a at ha5
 generalize Int.tmod two.e1 5000 = b at hb5
 by_cases ha : a < 0
 ·simp [ha]
 by_cases hb : b < 0
 ·simp [ha, hb]
 simp only [decide_eq_false ha, decide_eq_false hb, Bool.false_eq_true, if_false]
 obtain ⟨lo, hlo⟩ : ∃ lo, (if b < a then b else a) = lo := ⟨_, rfl⟩
 obtain ⟨hi, hhi⟩ : ∃ hi, (if b > a then b else a) = hi := ⟨_, rfl⟩
 rw [hlo, hhi]
 have hlh : 0 ≤ lo ∧ lo ≤ hi ∧ hi < 5000 := by
  rw [← hlo, ← hhi]; split <;> split <;> omega
 obtain ⟨c, hc, hcA⟩ := a8B p hp.1
 by_cases hc0 : c.2 = 0
 ·have G := a5l hp.1 (b2M hp) hc hc0
  have htv : ∀ v ∈ tape, WV v := fun v hv => b3j (ht.2 v hv)
  obtain ⟨s1, x, h1, _, hs0, h4, h5, hx5⟩ := a5Q G (fl := lo) hc hc0 htv zO zO
  obtain ⟨s1', y, h1', _, _, h4', h5', hy5⟩ := a5Q G (fl := hi) hc hc0 htv zO zO
  rw [h1] at h1'; cases h1'
  rw [h5, h5', Option.bind_some, Option.bind_some]
  have hek : s1.ek = 0 := by obtain ⟨f, _, rfl⟩ := Option.map_eq_some_iff.1 h1; rfl
  obtain ⟨m, hm⟩ : ∃ m, hi.toNat = lo.toNat + m := ⟨hi.toNat - lo.toNat, by omega⟩
  obtain ⟨m1, m2⟩ := a6U lo.toNat s1 x h4 (by rw [hek]; decide)
  rw [hm] at h4'
  by_cases h3 : x.ek = 3
  ·obtain ⟨q1, q2⟩ := m2 h3
   obtain ⟨q3, q4, q5⟩ := q2 m y h4'
   obtain ⟨l, hl⟩ := q3.evs
   have hbg := a6V (a := x.evs) (l := l) zO
   have g1 : x.steps = lo := by omega
   have g2 : lo ≤ y.steps := by omega
   have g3 : y.steps ≤ hi := by omega
   simp [b7z, h3, hl, hbg, g1, g2, g3, q3.depth, q3.defers, q3.panics]
  ·have := m1 h3 m
   rw [h4'] at this
   cases this
   have hsm := b7R (a := x.evs) zO
   have h3b : (x.ek != 3) = true := by simpa using h3
   simp [b7z, h3b, hsm]
 ·have hb : ∀ fl, w9 1048577 p tape fl = some (rz, c.2) := fun fl => a5j hc (.bad hc0)
  rw [hb, hb, Option.bind_some, Option.bind_some]
  have : (c.2 != 0) = true := by simpa using hc0
  simp [this, rz]
  exact a2m (x := 0) zO
end Go.Proofs.Ytnpemocpfdgaoaa

