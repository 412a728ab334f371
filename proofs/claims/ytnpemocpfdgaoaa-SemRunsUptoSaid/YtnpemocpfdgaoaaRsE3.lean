/- How arguments are read. -/
import Derived.Test.YtnpemocpfdgaoaaGenF1
import Derived.Test.YtnpemocpfdgaoaaWlK9
import Derived.WalkKit
import Derived.ProofKit
import Derived.OpenShut
import Derived.JoinedCond
set_option linter.unusedVariables false
set_option linter.unusedSimpArgs false
namespace Go.Proofs.Ytnpemocpfdgaoaa
open Go Go.Ab Go.RowKit
set_option maxRecDepth 20000
theorem b4x {H : Type} {d : DataW H} {l : List (DataW H)} (h : d ∈ l) : Rows.uptoBulk d <= Rows.uptoBulkAll l := by
 induction l with
 | nil => cases h
 | cons x r ih =>
   simp only [Rows.uptoBulkAll]
   rcases List.mem_cons.1 h with e | e
   ·subst e; omega
   ·have := ih e; omega
theorem c0P {H : Type} (d : DataW H) : 1 <= Rows.uptoBulk d := by
 cases d with
 | lit l => cases l <;> simp [Rows.uptoBulk]
 | _ => simp [Rows.uptoBulk]
theorem b4y {H : Type} (l : List (DataW H)) : l.length <= Rows.uptoBulkAll l := by
 induction l with
 | nil => simp [Rows.uptoBulkAll]
 | cons x r ih => have := c0P x; simp only [Rows.uptoBulkAll, List.length_cons]; omega
theorem c2T {H : Type} : c1w (H := H) Rows.uptoBulk :=
 ⟨fun bytes => by simp [Rows.uptoBulk], fun e s => by have := b4y e; simp only [Rows.uptoBulk]; omega, fun e s d h => by have := b4x h; simp only [Rows.uptoBulk]; omega, fun p d h => by have := b4x h; simp only [Rows.uptoBulk]; omega⟩

theorem b8p : Try.prog.cellsOf 50 = 1 := by kernel_rfl
theorem b8q : Try.prog.cellsOf 54 = 1 := by kernel_rfl
theorem b4z : Try.prog.cellsOf 3 = 1 := by kernel_rfl
theorem b4A : Try.prog.cellsOf 55 = 1 := by kernel_rfl
theorem b4B : Try.prog.cellsOf 78 = 3 := by kernel_rfl
def Instr.Ok (N : Nat) (x : Instr) : Prop := (fun n => (Lit.int .u8 n).wf = true) x.Op /\ (fun n => (Lit.int .i64 n).wf = true) x.Arg /\ (fun n => (Lit.int .u64 n).wf = true) x.Imm
theorem Instr.rd {N : Nat} : Rd Try.prog N Instr.av (Instr.Ok N) 78 := by
 intro avs ht
 obtain ⟨hl, hf⟩ := a6t Try.underlying78 ht
 have e0 : Ty Try.prog N 54 ((avs.drop 0).take (Try.prog.cellsOf 54)) := hf 0 _ rfl
 rw [b8q] at e0
 obtain ⟨a0, h0, q0⟩ := (rdI Try.underlying54) _ e0
 have e1 : Ty Try.prog N 3 ((avs.drop 1).take (Try.prog.cellsOf 3)) := hf 1 _ rfl
 rw [b4z] at e1
 obtain ⟨a1, h1, q1⟩ := (rdI Try.underlying3) _ e1
 have e2 : Ty Try.prog N 55 ((avs.drop 2).take (Try.prog.cellsOf 55)) := hf 2 _ rfl
 rw [b4A] at e2
 obtain ⟨a2, h2, q2⟩ := (rdI Try.underlying55) _ e2
 refine ⟨⟨a0, a1, a2⟩, ?_, ⟨q0, q1, q2⟩⟩
 have := (a2T h0 (a2T h1 (a2T h2 (b3i (hl.trans b4B)))))
 exact this
theorem b8r : Try.prog.cellsOf 42 = 1 := by kernel_rfl
theorem c0Q : Try.prog.cellsOf 4 = 1 := by kernel_rfl
theorem b8s : Try.prog.cellsOf 43 = 1 := by kernel_rfl
theorem b4C : Try.prog.cellsOf 45 = 5 := by kernel_rfl
def Func.Ok (N : Nat) (x : Func) : Prop := (fun n => (Lit.int .i64 n).wf = true) x.Params /\ (fun l => List.length l <= N /\ ∀ a ∈ l, (fun n => (Lit.int .u8 n).wf = true) a) x.Locals /\ (fun _ => True) x.Result /\ (fun n => (Lit.int .i64 n).wf = true) x.Keep /\ (fun l => List.length l <= N /\ ∀ a ∈ l, (Instr.Ok N) a) x.Code
theorem Func.rd {N : Nat} : Rd Try.prog N Func.av (Func.Ok N) 45 := by
 intro avs ht
 obtain ⟨hl, hf⟩ := a6t Try.underlying45 ht
 have e0 : Ty Try.prog N 3 ((avs.drop 0).take (Try.prog.cellsOf 3)) := hf 0 _ rfl
 rw [b4z] at e0
 obtain ⟨a0, h0, q0⟩ := (rdI Try.underlying3) _ e0
 have e1 : Ty Try.prog N 42 ((avs.drop 1).take (Try.prog.cellsOf 42)) := hf 1 _ rfl
 rw [b8r] at e1
 obtain ⟨a1, h1, q1⟩ := (rdL (f7 .u8) (fun fs h => by rw [Try.underlying50] at h; cases h) Try.underlying42 b8p (rdI Try.underlying50)) _ e1
 have e2 : Ty Try.prog N 4 ((avs.drop 2).take (Try.prog.cellsOf 4)) := hf 2 _ rfl
 rw [c0Q] at e2
 obtain ⟨a2, h2, q2⟩ := (rdB Try.underlying4) _ e2
 have e3 : Ty Try.prog N 3 ((avs.drop 3).take (Try.prog.cellsOf 3)) := hf 3 _ rfl
 rw [b4z] at e3
 obtain ⟨a3, h3, q3⟩ := (rdI Try.underlying3) _ e3
 have e4 : Ty Try.prog N 43 ((avs.drop 4).take (Try.prog.cellsOf 43)) := hf 4 _ rfl
 rw [b8s] at e4
 obtain ⟨a4, h4, q4⟩ := (rdL Instr.enc ⟨_, Try.underlying78⟩ Try.underlying43 b4B Instr.rd) _ e4
 refine ⟨⟨a0, a1, a2, a3, a4⟩, ?_, ⟨q0, q1, q2, q3, q4⟩⟩
 have := (a2T h0 (a2T h1 (a2T h2 (a2T h3 (a2T h4 (b3i (hl.trans b4C)))))))
 exact this
theorem b8t : Try.prog.cellsOf 22 = 1 := by kernel_rfl
theorem b8u : Try.prog.cellsOf 24 = 1 := by kernel_rfl
def Program.Ok (N : Nat) (x : Program) : Prop := (fun l => List.length l <= N /\ ∀ a ∈ l, (Func.Ok N) a) x.Funcs
theorem Program.rd {N : Nat} : Rd Try.prog N Program.av (Program.Ok N) 24 := by
 intro avs ht
 obtain ⟨hl, hf⟩ := a6t Try.underlying24 ht
 have e0 : Ty Try.prog N 22 ((avs.drop 0).take (Try.prog.cellsOf 22)) := hf 0 _ rfl
 rw [b8t] at e0
 obtain ⟨a0, h0, q0⟩ := (rdL Func.enc ⟨_, Try.underlying45⟩ Try.underlying22 b4C Func.rd) _ e0
 refine ⟨⟨a0⟩, ?_, q0⟩
 have := (a2T h0 (b3i (hl.trans b8u)))
 exact this

theorem own : ownKnob Try.prog.godebug = none := by kernel_rfl
theorem b0r : laidOutB Try.prog = true := by kernel_rfl
theorem b6T {k : Int} (h : (Lit.int .u64 k).wf = true) : WV k := by
 unfold WV
 simp [Lit.wf, IntKind.min, IntKind.max, IntKind.bits, IntKind.signed] at h; omega
def b1m : Program := Program.mk ([(Func.mk 0 [] false (-1) ([(Instr.mk 25 1 0), (Instr.mk 1 0 5), (Instr.mk 26 0 0)])), (Func.mk 0 [] false (-1) ([(Instr.mk 27 0 0), (Instr.mk 31 0 0), (Instr.mk 29 0 0), (Instr.mk 24 0 0)]))])
theorem b0s : (u5 1048577 b1m).map (·.2) = some 0 := by kernel_rfl
theorem b4D : ((as1 b1m []).bind fun s => a8i b1m 100 s).map (fun s => (s.ek, s.ev, s.steps, s.evs.map (fun e => (e.Kind, e.Value)))) = some (1, 0, 7, [(1, 5)]) := by kernel_rfl
theorem c6k {p : Program} (h : (p.Funcs.all fun f => f.Code.all fun i => decide (0 <= i.Imm /\ i.Imm < 18446744073709551616)) = true) : ∀ f ∈ p.Funcs, ∀ i ∈ f.Code, WV i.Imm := by
 simp only [List.all_eq_true, decide_eq_true_eq] at h
 exact h
theorem b6j : v3 1048577 = some true := by
 obtain ⟨c, hc, hc0⟩ := Option.map_eq_some_iff.1 b0s
 have G := a7w (by exact Nat.le_of_ble_eq_true rfl) (c6k zK) hc hc0
 obtain ⟨s1, s2, h1, _, _, h4, h5, _⟩ := b1f G (tape := []) (fl := 100) hc hc0 nofun (by exact Nat.le_of_ble_eq_true rfl) ⟨by decide, by decide⟩
 have hr := b4D
 rw [h1, Option.bind_some, show (100 : Nat) = (100 : Int).toNat from rfl, h4, Option.map_some] at hr
 have hr := Option.some.inj hr
 simp only [Prod.mk.injEq] at hr
 obtain ⟨r1, r2, r3, r4⟩ := hr
 unfold v3
 change ((a0x 1048577 b1m [] 100).bind _) = _
 rw [h5, Option.bind_some]
 cases he : s2.evs with
 | nil => rw [he] at r4; cases r4
 | cons e l =>
   cases l with
   | cons e2 l => rw [he] at r4; simp at r4
   | nil =>
     rw [he] at r4
     simp only [List.map_cons, List.map_nil, List.cons.injEq, Prod.mk.injEq, and_true] at r4
     simp only [jp, b8F, r1, r2, r3, he]
     rw [show (0 : Int) = ((0 : Nat) : Int) from rfl, m9]
     simp [r4]
theorem b4E {a l : List i9} (h : a.length <= 1000000000) : u1 a (a ++ l) = some true := by
 unfold u1
 rw [show decide (((a.length : Nat) : Int) > (((a ++ l).length : Nat) : Int)) = false by simp; omega]
 obtain ⟨s', h1, rfl⟩ := rni_inv (σ := List i9) (ρ := Option Bool) (n := (a.length : Int)) (s0 := a ++ l) (body := fun (i_2 : Nat) (s_1 : (List i9)) => (((j7 a (i_2 : Int)).bind fun y_3 => ((j7 s_1 (i_2 : Int)).bind fun y_4 => (if (!((y_3.Kind == y_4.Kind) && ((y_3.Value == y_4.Value) && true))) then (some (.ret (some false))) else (some (.nxt s_1))))) : Option (Stp (List i9) (Option Bool))))
  (fun _ s => s = a ++ l) zO rfl (fun i s hi hs => by
   subst hs
   have hi' : i < a.length := by omega
   refine ⟨a ++ l, ?_, rfl⟩
   rw [m9, m9, List.getElem?_append_left hi', List.getElem?_eq_getElem hi']
   simp)
 simp only [Bool.false_eq_true, if_false]
 rw [h1]; rfl
theorem b8v {a : List i9} (h : a.length <= 1000000000) : z4 a a = some true := by
 unfold z4 jp
 have := b4E (l := []) h
 rw [List.append_nil] at this
 rw [this]; simp
theorem b6k {p : Program} (h : Program.Ok 1048576 p) : ∀ f ∈ p.Funcs, ∀ i ∈ f.Code, WV i.Imm := fun f hf i hi => by
 have h1 := h.2 f hf
 exact b6T (h1.2.2.2.2.2 i hi).2.2
open Go Go.Ab
set_option maxRecDepth 20000
set_option maxHeartbeats 2000000
def c6l : FC := .reg [⟨(some 3), none, .op (.box (.t 0))⟩,  ⟨(some 6), none, .op (.mv (.v (.bool false)))⟩] []
def c6m : FC := .reg [⟨(some 12), none, .call 20 []⟩,  ⟨(some 13), none, .op (.un .not (.t 12))⟩] []
def c6n : FC := .reg [⟨(some 6), none, .op (.mv (.v (.bool false)))⟩] []
def c6o : FC := .seq c6n FC.ret
def c6p : FC := .cond (.t 13) c6o FC.skip
def c6q : FC := .seq c6m c6p
def c6r : FC := .reg [⟨(some 14), none, .op (.load (some 1) (.t 3))⟩,  ⟨(some 15), none, .call 17 [(.t 14)]⟩,  ⟨(some 7), none, .op (.new [.nils])⟩,  ⟨none, none, .op (.store 1 (.t 7) (.t 15))⟩] []
def c6s : FC := .reg [⟨(some 16), none, .op (.mv (.t 2))⟩,  ⟨(some 17), none, .op (.bin .none .gtr (.t 16) (.v (.int .i64 20000)))⟩,  ⟨(some 18), none, .op (.mv (.t 17))⟩,  ⟨(some 19), some (18, true), .op (.mv (.t 2))⟩,  ⟨(some 20), some (18, true), .op (.bin .none .leq (.t 19) (.v (.int .i64 1048576)))⟩,  ⟨(some 21), none, .op (.pick (.t 18) (.t 20) (.v (.bool false)))⟩] []
def c6t : FC := .reg [⟨(some 2), none, .op (.mv (.v (.int .i64 20000)))⟩] []
def c2U : FC := .cond (.t 21) c6t FC.skip
def c2V : FC := .seq c6s c2U
def c2W : FC := .reg [⟨(some 23), none, .op (.load (some 1) (.t 3))⟩,  ⟨(some 24), none, .op (.mv (.t 1))⟩,  ⟨(some 25), none, .op (.mv (.t 2))⟩,  ⟨(some 26), none, .call 21 [(.t 23), (.t 24), (.t 25)]⟩,  ⟨(some 22), none, .op (.mv (.t 26))⟩,  ⟨(some 27), none, .op (.ext 0 (.t 22))⟩,  ⟨(some 28), none, .op (.ext 1 (.t 22))⟩,  ⟨(some 8), none, .op (.new [.nils, (.int .i64 0), (.int .u64 0), (.int .i64 0), (.int .i64 0), (.int .i64 0), (.int .i64 0)])⟩,  ⟨none, none, .op (.store 7 (.t 8) (.t 27))⟩,  ⟨(some 9), none, .op (.mv (.t 28))⟩] []
def c2X : FC := .reg [⟨(some 30), none, .op (.load (some 1) (.t 7))⟩,  ⟨(some 31), none, .op (.mv (.t 1))⟩,  ⟨(some 32), none, .op (.mv (.t 2))⟩,  ⟨(some 33), none, .call 22 [(.t 30), (.t 31), (.t 32)]⟩,  ⟨(some 29), none, .op (.mv (.t 33))⟩,  ⟨(some 34), none, .op (.ext 0 (.t 29))⟩,  ⟨(some 35), none, .op (.ext 1 (.t 29))⟩,  ⟨(some 10), none, .op (.mv (.t 34))⟩,  ⟨(some 11), none, .op (.mv (.t 35))⟩] []
def c2Y : FC := .reg [⟨(some 36), none, .op (.load (some 1) (.t 3))⟩,  ⟨(some 37), none, .op (.load (some 1) (.t 7))⟩,  ⟨(some 38), none, .call 18 [(.t 36), (.t 37)]⟩,  ⟨(some 39), none, .op (.un .not (.t 38))⟩] []
def c2Z : FC := .reg [⟨(some 6), none, .op (.mv (.v (.bool false)))⟩] []
def c3a : FC := .seq c2Z FC.ret
def c3b : FC := .cond (.t 39) c3a FC.skip
def c3c : FC := .seq c2Y c3b
def c3d : FC := .reg [⟨(some 40), none, .op (.mv (.t 11))⟩,  ⟨(some 41), none, .op (.bin .none .neq (.t 40) (.v (.int .i64 0)))⟩] []
def c3e : FC := .reg [⟨(some 42), none, .op (.mv (.t 9))⟩,  ⟨(some 43), none, .op (.mv (.t 11))⟩,  ⟨(some 44), none, .op (.bin .none .eql (.t 42) (.t 43))⟩,  ⟨(some 45), none, .op (.mv (.t 44))⟩,  ⟨(some 46), some (45, true), .op (.fad 0 (.t 8))⟩,  ⟨(some 47), some (45, true), .op (.load none (.t 46))⟩,  ⟨(some 48), some (45, true), .op (.len .sl (.t 47))⟩,  ⟨(some 49), some (45, true), .op (.bin .none .eql (.t 48) (.v (.int .i64 0)))⟩,  ⟨(some 50), none, .op (.pick (.t 45) (.t 49) (.v (.bool false)))⟩,  ⟨(some 51), none, .op (.mv (.t 50))⟩,  ⟨(some 52), some (51, true), .op (.fad 1 (.t 8))⟩,  ⟨(some 53), some (51, true), .op (.load (some 2) (.t 52))⟩,  ⟨(some 54), some (51, true), .op (.build [(.int .i64 0), (.int .u64 0)] [])⟩,  ⟨(some 55), some (51, true), .op (.eqs [.int, .int] .eql (.t 53) (.t 54))⟩,  ⟨(some 56), none, .op (.pick (.t 51) (.t 55) (.v (.bool false)))⟩,  ⟨(some 57), none, .op (.mv (.t 56))⟩,  ⟨(some 58), some (57, true), .op (.fad 3 (.t 8))⟩,  ⟨(some 59), some (57, true), .op (.load none (.t 58))⟩,  ⟨(some 60), some (57, true), .op (.bin .none .eql (.t 59) (.v (.int .i64 0)))⟩,  ⟨(some 61), none, .op (.pick (.t 57) (.t 60) (.v (.bool false)))⟩,  ⟨(some 6), none, .op (.mv (.t 61))⟩] []
def c3f : FC := .seq c3e FC.ret
def c3g : FC := .cond (.t 41) c3f FC.skip
def c3h : FC := .seq c3d c3g
def c3i : FC := .reg [⟨(some 62), none, .op (.mv (.t 9))⟩,  ⟨(some 63), none, .op (.bin .none .eql (.t 62) (.v (.int .i64 0)))⟩,  ⟨(some 64), none, .op (.mv (.t 63))⟩,  ⟨(some 65), some (64, true), .op (.fad 0 (.t 8))⟩,  ⟨(some 66), some (64, true), .op (.load none (.t 65))⟩,  ⟨(some 67), some (64, true), .op (.mv (.t 10))⟩,  ⟨(some 68), some (64, true), .op (.nchk (.t 67))⟩,  ⟨(some 69), some (64, true), .op (.fad 4 (.t 68))⟩,  ⟨(some 70), some (64, true), .op (.load none (.t 69))⟩,  ⟨(some 71), some (64, true), .call 23 [(.t 66), (.t 70)]⟩,  ⟨(some 72), none, .op (.pick (.t 64) (.t 71) (.v (.bool false)))⟩,  ⟨(some 73), none, .op (.mv (.t 72))⟩,  ⟨(some 74), some (73, true), .op (.fad 1 (.t 8))⟩,  ⟨(some 75), some (73, true), .op (.load (some 2) (.t 74))⟩,  ⟨(some 76), some (73, true), .op (.mv (.t 10))⟩,  ⟨(some 77), some (73, true), .op (.nchk (.t 76))⟩,  ⟨(some 78), some (73, true), .op (.fad 5 (.t 77))⟩,  ⟨(some 79), some (73, true), .op (.load (some 2) (.t 78))⟩,  ⟨(some 80), some (73, true), .op (.eqs [.int, .int] .eql (.t 75) (.t 79))⟩,  ⟨(some 81), none, .op (.pick (.t 73) (.t 80) (.v (.bool false)))⟩,  ⟨(some 82), none, .op (.mv (.t 81))⟩,  ⟨(some 83), some (82, true), .op (.fad 3 (.t 8))⟩,  ⟨(some 84), some (82, true), .op (.load none (.t 83))⟩,  ⟨(some 85), some (82, true), .op (.mv (.t 10))⟩,  ⟨(some 86), some (82, true), .op (.nchk (.t 85))⟩,  ⟨(some 87), some (82, true), .op (.fad 7 (.t 86))⟩,  ⟨(some 88), some (82, true), .op (.load none (.t 87))⟩,  ⟨(some 89), some (82, true), .op (.bin .none .eql (.t 84) (.t 88))⟩,  ⟨(some 90), none, .op (.pick (.t 82) (.t 89) (.v (.bool false)))⟩,  ⟨(some 91), none, .op (.mv (.t 90))⟩,  ⟨(some 92), some (91, true), .op (.fad 4 (.t 8))⟩,  ⟨(some 93), some (91, true), .op (.load none (.t 92))⟩,  ⟨(some 94), some (91, true), .op (.mv (.t 10))⟩,  ⟨(some 95), some (91, true), .op (.nchk (.t 94))⟩,  ⟨(some 96), some (91, true), .op (.fad 8 (.t 95))⟩,  ⟨(some 97), some (91, true), .op (.load none (.t 96))⟩,  ⟨(some 98), some (91, true), .op (.bin .none .eql (.t 93) (.t 97))⟩,  ⟨(some 99), none, .op (.pick (.t 91) (.t 98) (.v (.bool false)))⟩,  ⟨(some 100), none, .op (.mv (.t 99))⟩,  ⟨(some 101), some (100, true), .op (.fad 5 (.t 8))⟩,  ⟨(some 102), some (100, true), .op (.load none (.t 101))⟩,  ⟨(some 103), some (100, true), .op (.mv (.t 10))⟩,  ⟨(some 104), some (100, true), .op (.nchk (.t 103))⟩,  ⟨(some 105), some (100, true), .op (.fad 9 (.t 104))⟩,  ⟨(some 106), some (100, true), .op (.load none (.t 105))⟩,  ⟨(some 107), some (100, true), .op (.bin .none .eql (.t 102) (.t 106))⟩,  ⟨(some 108), none, .op (.pick (.t 100) (.t 107) (.v (.bool false)))⟩,  ⟨(some 109), none, .op (.mv (.t 108))⟩,  ⟨(some 110), some (109, true), .op (.fad 6 (.t 8))⟩,  ⟨(some 111), some (109, true), .op (.load none (.t 110))⟩,  ⟨(some 112), some (109, true), .op (.mv (.t 10))⟩,  ⟨(some 113), some (109, true), .op (.nchk (.t 112))⟩,  ⟨(some 114), some (109, true), .op (.fad 10 (.t 113))⟩,  ⟨(some 115), some (109, true), .op (.load none (.t 114))⟩,  ⟨(some 116), some (109, true), .op (.bin .none .eql (.t 111) (.t 115))⟩,  ⟨(some 117), none, .op (.pick (.t 109) (.t 116) (.v (.bool false)))⟩,  ⟨(some 6), none, .op (.mv (.t 117))⟩] []
def c3j : FC := .seq c3i FC.ret
def c3k : FC := .seq c3h c3j
def c3l : FC := .seq c3c c3k
def c3m : FC := .seq c2X c3l
def c3n : FC := .seq c2W c3m
def c3o : FC := .seq c2V c3n
def c3p : FC := .seq c6r c3o
def c3q : FC := .seq c6q c3p
def c3r : FC := .seq c6l c3q
def fc6 : FC := c3r
theorem fn6 : Fn3 Try.prog 6 118 [(6, none)] fc6 := ⟨_, _, Try.func6, rfl, rfl, rfl, by kernel_rfl⟩

def flS (fl : Int) : Int := if fl > 20000 /\ fl <= 1048576 then 20000 else fl
section
variable {p : Program} {tape : List Int} {fl e : Int} {r : Result}
def b6U (p : Program) (tape : List Int) (fl : Int) (r : Result) (e : Int) : Prop :=
 (e ≠ 0 /\ r = rz /\ Tri Try.prog 22 [Program.av p, .sl false 1 (tape.map (avI .u64)), .int .i64 fl] [] (fun x L' => x = .tup [.nilp, .int .i64 e] /\ L' = [])) \/
 (e = 0 /\ Tri Try.prog 22 [Program.av p, .sl false 1 (tape.map (avI .u64)), .int .i64 fl] [] (fun x L' => ∃ (o : O6) (t : S6) (rows : List Q6) (rj pj : List AV), x = .tup [.ptr o.r 0 0, .int .i64 0] /\ L' = L6 p.Funcs o t rows rj pj /\ r = ⟨t.evs, ⟨t.ek, t.ev⟩, t.steps, t.depth, t.defers, t.panics⟩))
theorem b0t (h1 : v3 1048577 = some true) (h2 : v8 p = some p) (h3 : v9 p p = some true) (h4 : a0x 1048577 p tape (flS fl) = some (r, e)) (h5 : b6U p tape (flS fl) r e) (hev : r.Events.length <= 1000000000) :
  Tri Try.prog 6 [Program.av p, .sl false 1 (tape.map (avI .u64)), .int .i64 fl] [] (fun v L' => v = .bool true) := by
 refine i8 mixed fn6 zS [3, 7, 8] (fun R S hS => ?_)
 refine aU ?_
 refine a8b hS rfl (xv := Program.av p) rfl rfl (fun pb S hS => ?_)
 refine aS ?_
 refine j8 ?_
 refine b3L 3 hS Pk.here (by exact Program.enc.blw p 0) rfl (fun S hS => ?_)
 refine aU ?_
 refine a2c (a3k h1) rfl rfl rfl ?_
 refine aU ?_
 refine E_cs (t := false) rfl (fun h => by cases h) (fun _ => ?_)
 refine aU ?_
 refine a2c (a3O h2) rfl (g8 ⟨Program.enc.blw p 0, trivial⟩) (Program.enc.blw p 0) ?_
 refine aU ?_
 refine a5G hS rfl (fun wb S hS => ?_)
 refine E_stS hS rfl (xv := Program.av p) rfl Rp.here rfl rfl zV (fun S hS => ?_)
 refine j8 ?_
 refine b3L (cs := Program.cells p) 7 hS Pk.here (by exact Program.enc.blw p 0) rfl (fun S hS => ?_)
 refine b9t (σ := Unit) (fun _ => [(0, Program.av p), (1, .sl false 1 (tape.map (avI .u64))), (2, .int .i64 (flS fl)), (3, .cptr (Program.cells p) 0), (7, .cptr (Program.cells p) 0), (6, .bool false)]) (fun _ => R) (fun _ => True) ?_ (fun _ S _ hS => ?_)
 ·have hS' := hS.sub (List.sublist_append_right [] R)
  refine v7 ?_
  refine m7 ?_
  refine aU ?_
  by_cases hg : fl > 20000
  ·simp only [decide_eq_true hg]
   refine aU ?_
   by_cases hl : fl <= 1048576
   ·refine E_cs (t := true) (by show AV.bool (decide (fl <= 1048576)) = _; rw [decide_eq_true hl]) (fun _ => ?_) (fun h => by cases h)
    refine aU ?_
    exact s5 ⟨(), trivial, hS', a6P ⟨.refl _, .refl _, by show a5E none (.int .i64 20000) (.int .i64 (flS fl)); unfold flS; rw [if_pos ⟨hg, hl⟩]; exact .refl _, .refl _, .refl _, .refl _, trivial⟩⟩
   ·refine E_cs (t := false) (by show AV.bool (decide (fl <= 1048576)) = _; rw [decide_eq_false hl]) (fun h => by cases h) (fun _ => ?_)
    refine aU ?_
    exact s5 ⟨(), trivial, hS', a6P ⟨.refl _, .refl _, by show a5E none (.int .i64 fl) (.int .i64 (flS fl)); unfold flS; rw [if_neg (fun h => hl h.2)]; exact .refl _, .refl _, .refl _, .refl _, trivial⟩⟩
  ·simp only [decide_eq_false hg]
   refine aU ?_
   refine E_cs (t := false) rfl (fun h => by cases h) (fun _ => ?_)
   refine aU ?_
   exact s5 ⟨(), trivial, hS', a6P ⟨.refl _, .refl _, by show a5E none (.int .i64 fl) (.int .i64 (flS fl)); unfold flS; rw [if_neg (fun h => hg h.1)]; exact .refl _, .refl _, .refl _, .refl _, trivial⟩⟩
 generalize flS fl = fl at *
 refine aU ?_
 refine a2c (a7u h4) rfl (g8 ⟨Program.enc.blw p 0, (x3 (f7 .u64) 1).blw tape 0, rfl, trivial⟩) (a2s ⟨Result.enc.blw r 0, rfl, trivial⟩) ?_
 refine aU ?_
 refine a5G hS rfl (fun rb S hS => ?_)
 refine E_stS hS rfl (xv := Result.av r) rfl Rp.here rfl rfl zV (fun S hS => ?_)
 refine aU ?_
 rcases h5 with ⟨he, rfl, c⟩ | ⟨rfl, c⟩
 ·refine u6 c hS rfl Spl.nil (fun x S L' hL hS => ?_)
  obtain ⟨rfl, rfl⟩ := hL
  refine aU ?_
  refine a2c (a1F h3) rfl (g8 ⟨Program.enc.blw p 0, Program.enc.blw p 0, trivial⟩) rfl ?_
  refine aU ?_
  refine E_cs (t := false) rfl (fun h => by cases h) (fun _ => ?_)
  refine aU ?_
  refine E_cs (t := e != 0) rfl (fun _ => ?_) (fun h => absurd (by simpa using h) he)
  refine aU ?_
  refine a6k (b := e == e) rfl rfl rfl (fun _ => ?_) (fun h => by simp at h)
  refine aU ?_
  refine c9 hS rfl (.head _) (v := .sl false 2 []) rfl ?_
  refine aU ?_
  refine c9 hS rfl (.head _) (v := .agg [.int .i64 0, .int .u64 0]) rfl ?_
  refine aU ?_
  refine c9 hS rfl (.head _) (v := .int .i64 0) rfl ?_
  refine aU ?_
  refine d8 ?_
  refine aE ?_
  exact ⟨trivial, _, rfl, [], rfl, hS.sub (List.sublist_cons_self _ _)⟩
 ·refine u6 c hS rfl Spl.nil (fun x S L' hL hS => ?_)
  obtain ⟨o, t, rows, rj, pj, rfl, rfl, rfl⟩ := hL
  refine aS ?_
  refine j8 ?_
  refine b6C (o := o.te) (ver := o.tv) (o2 := o.r) (v2 := 0) (jx := 4) (l := t.evs) (cs2 := h6 p.Funcs o t rows.length) i9.enc hS (Pk.there (Pk.there (Pk.there Pk.here))) rfl Rp.here (fun S hS => ?_)
  refine aU ?_
  refine a2c (a1F h3) rfl (g8 ⟨Program.enc.blw p 0, Program.enc.blw p 0, trivial⟩) rfl ?_
  refine aU ?_
  refine E_cs (t := false) rfl (fun h => by cases h) (fun _ => ?_)
  refine aU ?_
  refine E_cs (t := false) rfl (fun h => by cases h) (fun _ => ?_)
  refine aU ?_
  refine c9 hS rfl (.tail _ (.tail _ (.tail _ (List.mem_append_right _ (.head _))))) (v := .sl false 2 (t.evs.map i9.av)) rfl ?_
  refine aU ?_
  refine c9 hS rfl (.head _) (v := .sl false 2 (t.evs.map i9.av)) rfl ?_
  refine aU ?_
  refine a2c (a3G (b8v hev)) rfl (g8 ⟨(x3 i9.enc 2).blw t.evs 0, (x3 i9.enc 2).blw t.evs 0, trivial⟩) rfl ?_
  refine aU ?_
  refine c9 hS rfl (.tail _ (.tail _ (.tail _ (List.mem_append_right _ (.head _))))) (v := .agg [.int .i64 t.ek, .int .u64 t.ev]) rfl ?_
  refine aU ?_
  refine c9 hS rfl (.head _) (v := .agg [.int .i64 t.ek, .int .u64 t.ev]) rfl ?_
  refine aU ?_
  refine a6k rfl rfl rfl (fun _ => ?_) (fun h => absurd h (by simp [a2o, AV.same]))
  refine aU ?_
  refine c9 hS rfl (.tail _ (.tail _ (.tail _ (List.mem_append_right _ (.head _))))) (v := .int .i64 t.steps) rfl ?_
  refine aU ?_
  refine c9 hS rfl (.head _) (v := .int .i64 t.steps) rfl ?_
  refine aU ?_
  refine a6k rfl rfl rfl (fun _ => ?_) (fun h => absurd h (by simp [a2o, AV.same]))
  refine aU ?_
  refine c9 hS rfl (.tail _ (.tail _ (.tail _ (List.mem_append_right _ (.head _))))) (v := .int .i64 t.depth) rfl ?_
  refine aU ?_
  refine c9 hS rfl (.head _) (v := .int .i64 t.depth) rfl ?_
  refine aU ?_
  refine a6k rfl rfl rfl (fun _ => ?_) (fun h => absurd h (by simp [a2o, AV.same]))
  refine aU ?_
  refine c9 hS rfl (.tail _ (.tail _ (.tail _ (List.mem_append_right _ (.head _))))) (v := .int .i64 t.defers) rfl ?_
  refine aU ?_
  refine c9 hS rfl (.head _) (v := .int .i64 t.defers) rfl ?_
  refine aU ?_
  refine a6k rfl rfl rfl (fun _ => ?_) (fun h => absurd h (by simp [a2o, AV.same]))
  refine aU ?_
  refine c9 hS rfl (.tail _ (.tail _ (.tail _ (List.mem_append_right _ (.head _))))) (v := .int .i64 t.panics) rfl ?_
  refine aU ?_
  refine c9 hS rfl (.head _) (v := .int .i64 t.panics) rfl ?_
  refine aU ?_
  refine d8 ?_
  refine aE ?_
  exact ⟨trivial, .bool (t.panics == t.panics), rfl, [], by simp, hS.sub (.cons _ (.cons _ (.cons _ ((List.sublist_cons_self _ _).trans (List.sublist_append_right _ _)))))⟩
end
end Go.Proofs.Ytnpemocpfdgaoaa

/- SemRuns, plainly. -/
namespace Go.Proofs.Ytnpemocpfdgaoaa
open Go Go.Ab Go.RowKit
set_option maxRecDepth 20000
theorem c0R {k : Int} (h : (Lit.int .u8 k).wf = true) : 0 <= k := by
 simp [Lit.wf, IntKind.min, IntKind.max, IntKind.bits, IntKind.signed] at h; omega
theorem b0u (p : Program) (tape : List Int) (fl : Int) (hp : Program.Ok 1048576 p) (ht : tape.length <= 1048576 /\ ∀ v ∈ tape, (Lit.int .u64 v).wf = true) (hf : (Lit.int .i64 fl).wf = true) :
  PureEv Try.prog 6 [Program.av p, .sl false 1 (List.map (avI .u64) tape), .int .i64 fl] (.bool true) := by
 have hs : ∀ f ∈ p.Funcs, f.Locals.length <= 1048576 /\ f.Code.length <= 1048576 := fun f hf => by
  have h1 := hp.2 f hf
  exact ⟨h1.2.1.1, h1.2.2.2.2.1⟩
 obtain ⟨c, hc, hcA⟩ := b1c p hp.1
 obtain ⟨o, ho, hoA⟩ := b4g p hp.1 (fun f hf k hk => c0R ((hp.2 f hf).2.1.2 k hk))
 have he := c6i hcA hoA
 have htv : ∀ v ∈ tape, WV v := fun v hv => b6T (ht.2 v hv)
 have key : ∃ r e, a0x 1048577 p tape (flS fl) = some (r, e) /\ b6U p tape (flS fl) r e /\ r.Events.length <= 1000000000 := by
  by_cases hc0 : c.2 = 0
  ·have G := a7w hp.1 (b6k hp) hc hc0
   by_cases hfl : 0 <= flS fl /\ flS fl <= 1048576
   ·obtain ⟨s1, s2, h1, _, _, h4, h5, h6⟩ := b1f G (fl := flS fl) hc hc0 htv zO hfl
    obtain ⟨s1', s2', f, t, g1, g2, g3, g4, g5, g6⟩ := c0O G htv (k := (flS fl).toNat) zO
    rw [h1] at g1; cases g1
    rw [h4] at g2; cases g2
    refine ⟨_, _, h5, .inr ⟨rfl, b0o ho (fun h => absurd (he.symm.trans hc0) h) (fun _ h => by omega) (fun _ n hn hn2 => ?_)⟩, by show s2.evs.length <= _; omega⟩
    have hnn : (flS fl).toNat = n := by omega
    rw [hnn] at g4 g5
    refine ⟨f, t, g3, fun g hg => by have := (r7 (G.fok hg)).2.2.1; omega, by omega, g4, g5, fun ob rows rj pj hr => ⟨ob, t.1, rows, rj, pj, rfl, rfl, ?_⟩⟩
    unfold b8F
    rw [g6.evs, g6.ek, g6.ev, g6.steps, g6.depth, g6.defers, g6.panics]
   ·have hb : a0x 1048577 p tape (flS fl) = some (rz, 2) := a5o hc (.arg hc0 zO)
    exact ⟨rz, 2, hb, .inl ⟨by decide, rfl, b0o ho (fun h => absurd (he.symm.trans hc0) h) (fun _ _ => ⟨rfl, rfl⟩) (fun _ n hn hn2 => by omega)⟩, Nat.zero_le _⟩
  ·have hb : a0x 1048577 p tape (flS fl) = some (rz, c.2) := a5o hc (.bad hc0)
   have ho0 : o.2 ≠ 0 := fun h => hc0 (he.trans h)
   exact ⟨rz, c.2, hb, .inl ⟨hc0, rfl, b0o ho (fun _ => ⟨by rw [he], rfl⟩) (fun h => absurd h ho0) (fun h => absurd h ho0)⟩, Nat.zero_le _⟩
 obtain ⟨r, e, h4, h5, h6⟩ := key
 obtain ⟨v, h7, rfl⟩ := Tri.pure (Q' := fun x => x = .bool true) 1 (b0t b6j (b8d p hp.1 hs) (b8e p hp.1 hs) h4 h5 h6) (fun v L' S hq hS => ⟨.bool true, by rw [hq]; exact a0p rfl (.refl _), rfl⟩)
 exact h7
end Go.Proofs.Ytnpemocpfdgaoaa

