/- How arguments are read. -/
import Derived.Test.YtnpemocpfdgaoaaGenF
import Derived.Test.YtnpemocpfdgaoaaWlK8
import Derived.WalkKit
import Derived.ProofKit
import Derived.OpenShut
import Derived.JoinedCond
set_option linter.unusedVariables false
set_option linter.unusedSimpArgs false
namespace Go.Proofs.Ytnpemocpfdgaoaa
open Go Go.Ab Go.RowKit
set_option maxRecDepth 20000
theorem b0y {H : Type} {d : DataW H} {l : List (DataW H)} (h : d ∈ l) : Rows.uptoBulk d ≤ Rows.uptoBulkAll l := by
 induction l with
 | nil => cases h
 | cons x r ih =>
   simp only [Rows.uptoBulkAll]
   rcases List.mem_cons.1 h with e | e
   ·subst e; omega
   ·have := ih e; omega
theorem c2y {H : Type} (d : DataW H) : 1 ≤ Rows.uptoBulk d := by
 cases d with
 | lit l => cases l <;> simp [Rows.uptoBulk]
 | _ => simp [Rows.uptoBulk]
theorem b0z {H : Type} (l : List (DataW H)) : l.length ≤ Rows.uptoBulkAll l := by
 induction l with
 | nil => simp [Rows.uptoBulkAll]
 | cons x r ih => have := c2y x; simp only [Rows.uptoBulkAll, List.length_cons]; omega
theorem c5n {H : Type} : c2J (H := H) Rows.uptoBulk :=
 ⟨fun bytes => by simp [Rows.uptoBulk], fun e s => by have := b0z e; simp only [Rows.uptoBulk]; omega, fun e s d h => by have := b0y h; simp only [Rows.uptoBulk]; omega, fun p d h => by have := b0y h; simp only [Rows.uptoBulk]; omega⟩

theorem a0B : Try.prog.cellsOf 3 = 1 := by kernel_rfl
theorem b7E : Try.prog.cellsOf 50 = 1 := by kernel_rfl
theorem b7F : Try.prog.cellsOf 53 = 1 := by kernel_rfl
theorem b7G : Try.prog.cellsOf 54 = 1 := by kernel_rfl
theorem b0A : Try.prog.cellsOf 55 = 1 := by kernel_rfl
theorem a6T : Try.prog.cellsOf 46 = 1 := by kernel_rfl
theorem b0B : Try.prog.cellsOf 57 = 12 := by kernel_rfl
def i8.Ok (N : Nat) (x : i8) : Prop := (fun n => (Lit.int .u8 n).wf = true) x.Op ∧ (fun n => (Lit.int .u8 n).wf = true) x.By ∧ (fun n => (Lit.int .i64 n).wf = true) x.D ∧ (fun n => (Lit.int .i64 n).wf = true) x.E ∧ (fun n => (Lit.int .i64 n).wf = true) x.A ∧ (fun n => (Lit.int .i64 n).wf = true) x.B ∧ (fun n => (Lit.int .i64 n).wf = true) x.F ∧ (fun n => (Lit.int .i64 n).wf = true) x.Cell ∧ (fun n => (Lit.int .u64 n).wf = true) x.Imm ∧ (fun l => List.length l ≤ N ∧ ∀ a ∈ l, (fun n => (Lit.int .i64 n).wf = true) a) x.Args ∧ (fun n => (Lit.int .i64 n).wf = true) x.Next ∧ (fun n => (Lit.int .i64 n).wf = true) x.Else
theorem i8.rd {N : Nat} : Rd Try.prog N i8.av (i8.Ok N) 57 := by
 intro avs ht
 obtain ⟨hl, hf⟩ := a3K Try.underlying57 ht
 have e0 : Ty Try.prog N 53 ((avs.drop 0).take (Try.prog.cellsOf 53)) := hf 0 _ rfl
 rw [b7F] at e0
 obtain ⟨a0, h0, q0⟩ := (rdI Try.underlying53) _ e0
 have e1 : Ty Try.prog N 54 ((avs.drop 1).take (Try.prog.cellsOf 54)) := hf 1 _ rfl
 rw [b7G] at e1
 obtain ⟨a1, h1, q1⟩ := (rdI Try.underlying54) _ e1
 have e2 : Ty Try.prog N 3 ((avs.drop 2).take (Try.prog.cellsOf 3)) := hf 2 _ rfl
 rw [a0B] at e2
 obtain ⟨a2, h2, q2⟩ := (rdI Try.underlying3) _ e2
 have e3 : Ty Try.prog N 3 ((avs.drop 3).take (Try.prog.cellsOf 3)) := hf 3 _ rfl
 rw [a0B] at e3
 obtain ⟨a3, h3, q3⟩ := (rdI Try.underlying3) _ e3
 have e4 : Ty Try.prog N 3 ((avs.drop 4).take (Try.prog.cellsOf 3)) := hf 4 _ rfl
 rw [a0B] at e4
 obtain ⟨a4, h4, q4⟩ := (rdI Try.underlying3) _ e4
 have e5 : Ty Try.prog N 3 ((avs.drop 5).take (Try.prog.cellsOf 3)) := hf 5 _ rfl
 rw [a0B] at e5
 obtain ⟨a5, h5, q5⟩ := (rdI Try.underlying3) _ e5
 have e6 : Ty Try.prog N 3 ((avs.drop 6).take (Try.prog.cellsOf 3)) := hf 6 _ rfl
 rw [a0B] at e6
 obtain ⟨a6, h6, q6⟩ := (rdI Try.underlying3) _ e6
 have e7 : Ty Try.prog N 3 ((avs.drop 7).take (Try.prog.cellsOf 3)) := hf 7 _ rfl
 rw [a0B] at e7
 obtain ⟨a7, h7, q7⟩ := (rdI Try.underlying3) _ e7
 have e8 : Ty Try.prog N 55 ((avs.drop 8).take (Try.prog.cellsOf 55)) := hf 8 _ rfl
 rw [b0A] at e8
 obtain ⟨a8, h8, q8⟩ := (rdI Try.underlying55) _ e8
 have e9 : Ty Try.prog N 46 ((avs.drop 9).take (Try.prog.cellsOf 46)) := hf 9 _ rfl
 rw [a6T] at e9
 obtain ⟨a9, h9, q9⟩ := (rdL (p4 .i64) (fun fs h => by rw [Try.underlying3] at h; cases h) Try.underlying46 a0B (rdI Try.underlying3)) _ e9
 have e10 : Ty Try.prog N 3 ((avs.drop 10).take (Try.prog.cellsOf 3)) := hf 10 _ rfl
 rw [a0B] at e10
 obtain ⟨a10, h10, q10⟩ := (rdI Try.underlying3) _ e10
 have e11 : Ty Try.prog N 3 ((avs.drop 11).take (Try.prog.cellsOf 3)) := hf 11 _ rfl
 rw [a0B] at e11
 obtain ⟨a11, h11, q11⟩ := (rdI Try.underlying3) _ e11
 refine ⟨⟨a0, a1, a2, a3, a4, a5, a6, a7, a8, a9, a10, a11⟩, ?_, ⟨q0, q1, q2, q3, q4, q5, q6, q7, q8, q9, q10, q11⟩⟩
 have := (t7 h0 (t7 h1 (t7 h2 (t7 h3 (t7 h4 (t7 h5 (t7 h6 (t7 h7 (t7 h8 (t7 h9 (t7 h10 (t7 h11 (a9t (hl.trans b0B))))))))))))))
 exact this
theorem b7H : Try.prog.cellsOf 42 = 1 := by kernel_rfl
theorem c2z : Try.prog.cellsOf 4 = 1 := by kernel_rfl
theorem b7I : Try.prog.cellsOf 47 = 1 := by kernel_rfl
theorem b0C : Try.prog.cellsOf 49 = 8 := by kernel_rfl
def b9.Ok (N : Nat) (x : b9) : Prop := (fun l => List.length l ≤ N ∧ ∀ a ∈ l, (fun n => (Lit.int .i64 n).wf = true) a) x.Params ∧ (fun l => List.length l ≤ N ∧ ∀ a ∈ l, (fun n => (Lit.int .u8 n).wf = true) a) x.Kinds ∧ (fun n => (Lit.int .i64 n).wf = true) x.Cells ∧ (fun l => List.length l ≤ N ∧ ∀ a ∈ l, (fun n => (Lit.int .i64 n).wf = true) a) x.Init ∧ (fun _ => True) x.Result ∧ (fun n => (Lit.int .i64 n).wf = true) x.Keep ∧ (fun l => List.length l ≤ N ∧ ∀ a ∈ l, (i8.Ok N) a) x.Nodes ∧ (fun n => (Lit.int .i64 n).wf = true) x.Entry
theorem b9.rd {N : Nat} : Rd Try.prog N b9.av (b9.Ok N) 49 := by
 intro avs ht
 obtain ⟨hl, hf⟩ := a3K Try.underlying49 ht
 have e0 : Ty Try.prog N 46 ((avs.drop 0).take (Try.prog.cellsOf 46)) := hf 0 _ rfl
 rw [a6T] at e0
 obtain ⟨a0, h0, q0⟩ := (rdL (p4 .i64) (fun fs h => by rw [Try.underlying3] at h; cases h) Try.underlying46 a0B (rdI Try.underlying3)) _ e0
 have e1 : Ty Try.prog N 42 ((avs.drop 1).take (Try.prog.cellsOf 42)) := hf 1 _ rfl
 rw [b7H] at e1
 obtain ⟨a1, h1, q1⟩ := (rdL (p4 .u8) (fun fs h => by rw [Try.underlying50] at h; cases h) Try.underlying42 b7E (rdI Try.underlying50)) _ e1
 have e2 : Ty Try.prog N 3 ((avs.drop 2).take (Try.prog.cellsOf 3)) := hf 2 _ rfl
 rw [a0B] at e2
 obtain ⟨a2, h2, q2⟩ := (rdI Try.underlying3) _ e2
 have e3 : Ty Try.prog N 46 ((avs.drop 3).take (Try.prog.cellsOf 46)) := hf 3 _ rfl
 rw [a6T] at e3
 obtain ⟨a3, h3, q3⟩ := (rdL (p4 .i64) (fun fs h => by rw [Try.underlying3] at h; cases h) Try.underlying46 a0B (rdI Try.underlying3)) _ e3
 have e4 : Ty Try.prog N 4 ((avs.drop 4).take (Try.prog.cellsOf 4)) := hf 4 _ rfl
 rw [c2z] at e4
 obtain ⟨a4, h4, q4⟩ := (rdB Try.underlying4) _ e4
 have e5 : Ty Try.prog N 3 ((avs.drop 5).take (Try.prog.cellsOf 3)) := hf 5 _ rfl
 rw [a0B] at e5
 obtain ⟨a5, h5, q5⟩ := (rdI Try.underlying3) _ e5
 have e6 : Ty Try.prog N 47 ((avs.drop 6).take (Try.prog.cellsOf 47)) := hf 6 _ rfl
 rw [b7I] at e6
 obtain ⟨a6, h6, q6⟩ := (rdL i8.enc ⟨_, Try.underlying57⟩ Try.underlying47 b0B i8.rd) _ e6
 have e7 : Ty Try.prog N 3 ((avs.drop 7).take (Try.prog.cellsOf 3)) := hf 7 _ rfl
 rw [a0B] at e7
 obtain ⟨a7, h7, q7⟩ := (rdI Try.underlying3) _ e7
 refine ⟨⟨a0, a1, a2, a3, a4, a5, a6, a7⟩, ?_, ⟨q0, q1, q2, q3, q4, q5, q6, q7⟩⟩
 have := (t7 h0 (t7 h1 (t7 h2 (t7 h3 (t7 h4 (t7 h5 (t7 h6 (t7 h7 (a9t (hl.trans b0C))))))))))
 exact this
theorem b7J : Try.prog.cellsOf 28 = 1 := by kernel_rfl
theorem b7K : Try.prog.cellsOf 30 = 1 := by kernel_rfl
def i7.Ok (N : Nat) (x : i7) : Prop := (fun l => List.length l ≤ N ∧ ∀ a ∈ l, (b9.Ok N) a) x.Funcs
theorem i7.rd {N : Nat} : Rd Try.prog N i7.av (i7.Ok N) 30 := by
 intro avs ht
 obtain ⟨hl, hf⟩ := a3K Try.underlying30 ht
 have e0 : Ty Try.prog N 28 ((avs.drop 0).take (Try.prog.cellsOf 28)) := hf 0 _ rfl
 rw [b7J] at e0
 obtain ⟨a0, h0, q0⟩ := (rdL b9.enc ⟨_, Try.underlying49⟩ Try.underlying28 b0C b9.rd) _ e0
 refine ⟨⟨a0⟩, ?_, q0⟩
 have := (t7 h0 (a9t (hl.trans b7K)))
 exact this
def a3Y.Ok (N : Nat) (x : a3Y) : Prop := (fun n => (Lit.int .i64 n).wf = true) x.e0 ∧ (fun n => (Lit.int .i64 n).wf = true) x.e1
theorem a3Y.arg {H : Type} {enc : TypeId × Value → H} {W : World} {N b0 : Nat} {r : Reach} {v : Value} {d : DataW H} {ps : List MemPlace} (hval : Value.okWide Try.prog W r b0 74 v) (h : DataW.Trod enc Try.prog W 0 (fun _ => true) true 74 v d ps) (hbk : Rows.uptoBulk d ≤ N) :
  ∃ a : a3Y, a3Y.Ok N a ∧ VR (g00 W).pm (g00 W).L a5w (a3Y.av a) v := by
 obtain ⟨avs, h1, h2, h3⟩ := b2T (m := 12) c5n Try.underlying74 hval h zK zK zK hbk
 rw [a0B] at h1 h2
 obtain ⟨a0, e0, q0⟩ := (rdI Try.underlying3) _ (h2 0 zD)
 obtain ⟨a1, e1, q1⟩ := (rdI Try.underlying3) _ (h2 1 zD)
 match avs, h1 with
 | [x0, x1], _ =>
   cases e0
   cases e1
   exact ⟨⟨a0, a1⟩, ⟨q0, q1⟩, h3⟩
theorem own : ownKnob Try.prog.godebug = none := by kernel_rfl
theorem a6U : laidOutB Try.prog = true := by kernel_rfl
end Go.Proofs.Ytnpemocpfdgaoaa

/- Plain laws of irun: what must be answered first; less fuel. -/
namespace Go.Proofs.Ytnpemocpfdgaoaa
open Go Go.Ab Go.RowKit
set_option maxRecDepth 20000
theorem b2p {k : Int} (h : (Lit.int .u64 k).wf = true) : WV k := by
 unfold WV
 simp [Lit.wf, IntKind.min, IntKind.max, IntKind.bits, IntKind.signed] at h; omega
def a6l : i7 := i7.mk ([(b9.mk [] ([0]) 0 [] false (-1) ([(i8.mk 1 0 0 0 0 0 0 0 7 [] 1 0), (i8.mk 17 0 0 0 0 0 0 0 0 [] 2 0), (i8.mk 12 0 0 0 (-1) 0 0 0 0 [] 0 0)]) 0)])
theorem a6V : a4C a6l = true := by kernel_rfl
theorem b0D : ((as1 ⟨a6l.Funcs, false⟩ []).bind fun s => a3c ⟨a6l.Funcs, false⟩ 10 s).map (fun s => (s.ek, s.ev, s.steps, s.evs.map (fun e => (e.Kind, e.Value)))) = some (1, 0, 3, [(1, 7)]) := by kernel_rfl
theorem c6s {g : i7} (h : (g.Funcs.all fun f => f.Nodes.all fun n => decide ((0 ≤ n.Imm ∧ n.Imm < 18446744073709551616) ∧ n.Args.length < 100000000)) = true) : ∀ f ∈ g.Funcs, ∀ n ∈ f.Nodes, WV n.Imm ∧ n.Args.length < 100000000 := by
 simp only [List.all_eq_true, decide_eq_true_eq] at h
 exact h
theorem b1L : p6 1048577 = some true := by
 rcases a4D (g := a6l) (c6s zK) with ⟨hc, G⟩ | hc
 case inr => rw [a7E, a6V] at hc; cases hc
 obtain ⟨s1, s2, h1, _, _, h4, h5, _⟩ := a3V G (tape := []) (fl := 10) hc nofun (by exact Nat.le_of_ble_eq_true rfl) ⟨by decide, by decide⟩
 have hr := b0D
 rw [h1, Option.bind_some, show (10 : Nat) = (10 : Int).toNat from rfl, h4, Option.map_some] at hr
 have hr := Option.some.inj hr
 simp only [Prod.mk.injEq] at hr
 obtain ⟨r1, r2, r3, r4⟩ := hr
 unfold p6
 change ((v3 1048577 a6l false [] 10).bind _) = _
 rw [h5, Option.bind_some]
 cases he : s2.evs with
 | nil => rw [he] at r4; cases r4
 | cons e l =>
   cases l with
   | cons e2 l => rw [he] at r4; simp at r4
   | nil =>
     rw [he] at r4
     simp only [List.map_cons, List.map_nil, List.cons.injEq, Prod.mk.injEq, and_true] at r4
     simp only [jp, b7p, r1, r2, r3, he]
     rw [show (0 : Int) = ((0 : Nat) : Int) from rfl, a3p]
     simp [r4]
theorem a6m {a l : List f6} (h : a.length ≤ 1000000000) : l8 a (a ++ l) = some true := by
 unfold l8
 rw [show decide (((a.length : Nat) : Int) > (((a ++ l).length : Nat) : Int)) = false by simp; omega]
 obtain ⟨s', h1, rfl⟩ := b2S (σ := List f6) (ρ := Option Bool) (n := (a.length : Int)) (s0 := a ++ l) (body := fun (i_2 : Nat) (s_1 : (List f6)) => (((u3 a (i_2 : Int)).bind fun y_3 => ((u3 s_1 (i_2 : Int)).bind fun y_4 => (if (!((y_3.Kind == y_4.Kind) && ((y_3.Value == y_4.Value) && true))) then (some (.ret (some false))) else (some (.nxt s_1))))) : Option (Stp (List f6) (Option Bool))))
  (fun _ s => s = a ++ l) zO rfl (fun i s hi hs => by
   subst hs
   have hi' : i < a.length := by omega
   refine ⟨a ++ l, ?_, rfl⟩
   rw [a3p, a3p, List.getElem?_append_left hi', List.getElem?_eq_getElem hi']
   simp)
 simp only [Bool.false_eq_true, if_false]
 rw [h1]; rfl
theorem b7L {a : List f6} (h : a.length ≤ 1000000000) : p9 a a = some true := by
 unfold p9 jp
 have := a6m (l := []) h
 rw [List.append_nil] at this
 rw [this]; simp
theorem a8o {g : i7} (h : i7.Ok 1048576 g) : ∀ f ∈ g.Funcs, ∀ n ∈ f.Nodes, WV n.Imm ∧ n.Args.length < 100000000 := fun f hf n hn => by
 have h1 := h.2 f hf
 unfold b9.Ok at h1
 have h2 := (h1.2.2.2.2.2.2.1).2 n hn
 unfold i8.Ok at h2
 obtain ⟨_, _, _, _, _, _, _, _, a, b, _⟩ := h2
 exact ⟨b2p a, by have := b.1; omega⟩
theorem a6n (g : i7) (tape : List Int) (two : a3Y) (hp : i7.Ok 1048576 g) (ht : tape.length ≤ 1048576 ∧ ∀ v ∈ tape, (Lit.int .u64 v).wf = true) (h2 : a3Y.Ok 1048576 two) : p7 1048577 g tape two = some true := by
 unfold p7
 rw [b1L, Option.bind_some]
 simp only [Bool.not_true, Bool.false_eq_true, if_false, jp]
 have ha5 : Int.tmod two.e0 4000 < 4000 := Int.tmod_lt_of_pos _ zD
 have hb5 : Int.tmod two.e1 4000 < 4000 := Int.tmod_lt_of_pos _ zD
 generalize Int.tmod two.e0 4000 = a at ha5
 generalize Int.tmod two.e1 4000 = b at hb5
 by_cases ha : a < 0
 ·simp [ha]
 by_cases hb : b < 0
 ·simp [ha, hb]
 simp only [decide_eq_false ha, decide_eq_false hb, Bool.false_eq_true, if_false]
 obtain ⟨lo, hlo⟩ : ∃ lo, (if b < a then b else a) = lo := ⟨_, rfl⟩
 obtain ⟨hi, hhi⟩ : ∃ hi, (if b > a then b else a) = hi := ⟨_, rfl⟩
 rw [hlo, hhi]
 have hlh : 0 ≤ lo ∧ lo ≤ hi ∧ hi < 4000 := by
  rw [← hlo, ← hhi]; split <;> split <;> omega
 rcases a4D (a8o hp) with ⟨hc, G⟩ | hc
 ·have htv : ∀ v ∈ tape, WV v := fun v hv => b2p (ht.2 v hv)
  obtain ⟨s1, x, h1, _, hs0, h4, h5, hx5⟩ := a3V G (fl := lo) hc htv zO zO
  obtain ⟨s1', y, h1', _, _, h4', h5', hy5⟩ := a3V G (fl := hi) hc htv zO zO
  rw [h1] at h1'; cases h1'
  rw [h5, h5', Option.bind_some, Option.bind_some]
  have hek : s1.ek = 0 := by obtain ⟨f, _, rfl⟩ := Option.map_eq_some_iff.1 h1; rfl
  obtain ⟨m, hm⟩ : ∃ m, hi.toNat = lo.toNat + m := ⟨hi.toNat - lo.toNat, by omega⟩
  obtain ⟨m1, m2⟩ := a6k lo.toNat s1 x h4 (by rw [hek]; decide)
  rw [hm] at h4'
  by_cases h3 : x.ek = 3
  ·obtain ⟨q1, q2⟩ := m2 h3
   obtain ⟨q3, q4, q5⟩ := q2 m y h4'
   obtain ⟨l, hl⟩ := q3.evs
   have hbg := a6m (a := x.evs) (l := l) zO
   have g1 : x.steps = lo := by omega
   have g2 : lo ≤ y.steps := by omega
   simp [b7p, h3, hl, hbg, g1, g2]
  ·have := m1 h3 m
   rw [h4'] at this
   cases this
   have hsm := b7L (a := x.evs) zO
   have h3b : (x.ek != 3) = true := by simpa using h3
   simp [b7p, h3b, hsm]
 ·have hb : ∀ fl, v3 1048577 g false tape fl = some (rz, 70) := fun fl => a3O hc (.bad zD)
  rw [hb, hb, Option.bind_some, Option.bind_some]
  simp [rz]
end Go.Proofs.Ytnpemocpfdgaoaa

