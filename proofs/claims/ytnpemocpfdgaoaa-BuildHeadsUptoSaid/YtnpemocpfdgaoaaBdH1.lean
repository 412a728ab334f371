/- How arguments are read. -/
import Derived.Test.YtnpemocpfdgaoaaGenH
import Derived.Test.YtnpemocpfdgaoaaWlH2
import Derived.WalkKit
import Derived.ProofKit
import Derived.OpenShut
import Derived.JoinedCond
import Derived.Test.YtnpemocpfdgaoaaBdE3
import Derived.Test.YtnpemocpfdgaoaaKdC7
set_option linter.unusedVariables false
set_option linter.unusedSimpArgs false
namespace Go.Proofs.Ytnpemocpfdgaoaa
open Go Go.Ab Go.RowKit
set_option maxRecDepth 20000
theorem b2g {H : Type} {d : DataW H} {l : List (DataW H)} (h : d ∈ l) : Rows.uptoBulk d <= Rows.uptoBulkAll l := by
 induction l with
 | nil => cases h
 | cons x r ih =>
   simp only [Rows.uptoBulkAll]
   rcases List.mem_cons.1 h with e | e
   ·subst e; omega
   ·have := ih e; omega
theorem c2s {H : Type} (d : DataW H) : 1 <= Rows.uptoBulk d := by
 cases d with
 | lit l => cases l <;> simp [Rows.uptoBulk]
 | _ => simp [Rows.uptoBulk]
theorem b2h {H : Type} (l : List (DataW H)) : l.length <= Rows.uptoBulkAll l := by
 induction l with
 | nil => simp [Rows.uptoBulkAll]
 | cons x r ih => have := c2s x; simp only [Rows.uptoBulkAll, List.length_cons]; omega
theorem c7D {H : Type} : c3k (H := H) Rows.uptoBulk :=
 ⟨fun bytes => by simp [Rows.uptoBulk], fun e s => by have := b2h e; simp only [Rows.uptoBulk]; omega, fun e s d h => by have := b2g h; simp only [Rows.uptoBulk]; omega, fun p d h => by have := b2g h; simp only [Rows.uptoBulk]; omega⟩

theorem b6z : Try.prog.cellsOf 50 = 1 := by kernel_rfl
theorem b6A : Try.prog.cellsOf 54 = 1 := by kernel_rfl
theorem b2i : Try.prog.cellsOf 3 = 1 := by kernel_rfl
theorem b6B : Try.prog.cellsOf 55 = 1 := by kernel_rfl
theorem b2j : Try.prog.cellsOf 78 = 3 := by kernel_rfl
def Instr.Ok (N : Nat) (x : Instr) : Prop := (fun n => (Lit.int .u8 n).wf = true) x.Op /\ (fun n => (Lit.int .i64 n).wf = true) x.Arg /\ (fun n => (Lit.int .u64 n).wf = true) x.Imm
theorem Instr.rd {N : Nat} : Rd Try.prog N Instr.av (Instr.Ok N) 78 := by
 intro avs ht
 obtain ⟨hl, hf⟩ := a5u Try.underlying78 ht
 have e0 : Ty Try.prog N 54 ((avs.drop 0).take (Try.prog.cellsOf 54)) := hf 0 _ rfl
 rw [b6A] at e0
 obtain ⟨a0, h0, q0⟩ := (rdI Try.underlying54) _ e0
 have e1 : Ty Try.prog N 3 ((avs.drop 1).take (Try.prog.cellsOf 3)) := hf 1 _ rfl
 rw [b2i] at e1
 obtain ⟨a1, h1, q1⟩ := (rdI Try.underlying3) _ e1
 have e2 : Ty Try.prog N 55 ((avs.drop 2).take (Try.prog.cellsOf 55)) := hf 2 _ rfl
 rw [b6B] at e2
 obtain ⟨a2, h2, q2⟩ := (rdI Try.underlying55) _ e2
 refine ⟨⟨a0, a1, a2⟩, ?_, ⟨q0, q1, q2⟩⟩
 have := (a2z h0 (a2z h1 (a2z h2 (b1j (hl.trans b2j)))))
 exact this
theorem b6C : Try.prog.cellsOf 42 = 1 := by kernel_rfl
theorem c2t : Try.prog.cellsOf 4 = 1 := by kernel_rfl
theorem b6D : Try.prog.cellsOf 43 = 1 := by kernel_rfl
theorem b2k : Try.prog.cellsOf 45 = 5 := by kernel_rfl
def Func.Ok (N : Nat) (x : Func) : Prop := (fun n => (Lit.int .i64 n).wf = true) x.Params /\ (fun l => List.length l <= N /\ ∀ a ∈ l, (fun n => (Lit.int .u8 n).wf = true) a) x.Locals /\ (fun _ => True) x.Result /\ (fun n => (Lit.int .i64 n).wf = true) x.Keep /\ (fun l => List.length l <= N /\ ∀ a ∈ l, (Instr.Ok N) a) x.Code
theorem Func.rd {N : Nat} : Rd Try.prog N Func.av (Func.Ok N) 45 := by
 intro avs ht
 obtain ⟨hl, hf⟩ := a5u Try.underlying45 ht
 have e0 : Ty Try.prog N 3 ((avs.drop 0).take (Try.prog.cellsOf 3)) := hf 0 _ rfl
 rw [b2i] at e0
 obtain ⟨a0, h0, q0⟩ := (rdI Try.underlying3) _ e0
 have e1 : Ty Try.prog N 42 ((avs.drop 1).take (Try.prog.cellsOf 42)) := hf 1 _ rfl
 rw [b6C] at e1
 obtain ⟨a1, h1, q1⟩ := (rdL (f7 .u8) (fun fs h => by rw [Try.underlying50] at h; cases h) Try.underlying42 b6z (rdI Try.underlying50)) _ e1
 have e2 : Ty Try.prog N 4 ((avs.drop 2).take (Try.prog.cellsOf 4)) := hf 2 _ rfl
 rw [c2t] at e2
 obtain ⟨a2, h2, q2⟩ := (rdB Try.underlying4) _ e2
 have e3 : Ty Try.prog N 3 ((avs.drop 3).take (Try.prog.cellsOf 3)) := hf 3 _ rfl
 rw [b2i] at e3
 obtain ⟨a3, h3, q3⟩ := (rdI Try.underlying3) _ e3
 have e4 : Ty Try.prog N 43 ((avs.drop 4).take (Try.prog.cellsOf 43)) := hf 4 _ rfl
 rw [b6D] at e4
 obtain ⟨a4, h4, q4⟩ := (rdL Instr.enc ⟨_, Try.underlying78⟩ Try.underlying43 b2j Instr.rd) _ e4
 refine ⟨⟨a0, a1, a2, a3, a4⟩, ?_, ⟨q0, q1, q2, q3, q4⟩⟩
 have := (a2z h0 (a2z h1 (a2z h2 (a2z h3 (a2z h4 (b1j (hl.trans b2k)))))))
 exact this
theorem b6E : Try.prog.cellsOf 22 = 1 := by kernel_rfl
theorem b6F : Try.prog.cellsOf 24 = 1 := by kernel_rfl
def Program.Ok (N : Nat) (x : Program) : Prop := (fun l => List.length l <= N /\ ∀ a ∈ l, (Func.Ok N) a) x.Funcs
theorem Program.rd {N : Nat} : Rd Try.prog N Program.av (Program.Ok N) 24 := by
 intro avs ht
 obtain ⟨hl, hf⟩ := a5u Try.underlying24 ht
 have e0 : Ty Try.prog N 22 ((avs.drop 0).take (Try.prog.cellsOf 22)) := hf 0 _ rfl
 rw [b6E] at e0
 obtain ⟨a0, h0, q0⟩ := (rdL Func.enc ⟨_, Try.underlying45⟩ Try.underlying22 b2k Func.rd) _ e0
 refine ⟨⟨a0⟩, ?_, q0⟩
 have := (a2z h0 (b1j (hl.trans b6F)))
 exact this

theorem own : ownKnob Try.prog.godebug = none := by kernel_rfl
theorem b6G : laidOutB Try.prog = true := by kernel_rfl
theorem a4I {α σ ρ : Type} {body : Nat -> α -> σ -> Option (Stp σ ρ)} (st : σ) (ok : Nat -> α -> Bool) (v : ρ) : ∀ (xs : List α) (k : Nat), (∀ i x, xs[i]? = some x -> body (k + i) x st = some (if ok (k + i) x = true then .nxt st else .ret v)) ->
  a0c body xs k st = some (if r9 ok k xs = true then .fin st else .ret v)
 | [], k, h => by simp [a0c, r9]
 | x :: r, k, h => by
   have h0 := h 0 x rfl
   simp only [Nat.add_zero] at h0
   by_cases ho : ok k x = true
   ·rw [if_pos ho] at h0
    simp only [a0c, r9, h0, ho, Bool.true_and]
    exact a4I st ok v r (k + 1) (fun i y hy => by
     have := h (i + 1) y (by simpa using hy)
     rwa [show k + (i + 1) = k + 1 + i by omega] at this)
   ·rw [if_neg ho] at h0
    simp only [a0c, r9, h0]
    simp [ho]
theorem a0k {α σ β : Type} {body : Nat -> α -> σ -> Option (Stp σ (Option β))} {xs : List α} {f : σ -> Option β} (st : σ) (ok : Nat -> α -> Bool) (v : β) (hl : xs.length <= 4611686018427387904)
  (h : ∀ i x, xs[i]? = some x -> body i x st = some (if ok i x = true then .nxt st else .ret (some v))) : (rng body xs st).bind (oc f) = if r9 ok 0 xs = true then f st else some v := by
 unfold rng
 rw [if_pos hl, a4I st ok (some v) xs 0 (fun i x hx => by simpa using h i x hx)]
 simp only [Option.bind_some]
 split <;> rfl
theorem a3q {α : Type} {ok : α -> Bool} : ∀ (xs : List α) (k : Nat), r9 (fun _ x => ok x) k xs = xs.all ok
 | [], _ => rfl
 | x :: r, k => by simp only [r9, List.all_cons, a3q r]
theorem a3P {α : Type} {ok : α -> Bool} {xs : List α} : r9 (fun _ x => ok x) 0 xs = xs.all ok := a3q xs 0
open Go Go.Ab
theorem c2u (l : List Int) (v : Int) (hl : l.length <= 4611686018427387904) : x6 l v = some (decide (v ∈ l)) := by
 unfold x6
 refine (a0k (xs := l) v (fun _ x => !(x == v)) true hl (fun i x hx => ?_)).trans ?_
 ·cases x == v <;> simp
 ·rw [a3q]
  by_cases h : v ∈ l
  ·have : (l.all fun x => !(x == v)) = false := by
    rw [List.all_eq_false]; exact ⟨v, h, by simp⟩
   rw [this]; simp [h]
  ·have : (l.all fun x => !(x == v)) = true := by
    rw [List.all_eq_true]; intro x hx
    have : x ≠ v := fun e => h (e ▸ hx)
    simpa using this
   rw [this]; simp [h]
theorem a0s (g : b7) (p k : Int) : a9 g false p k = some (a1o g k p) := by
 unfold a9
 simp only [jp, decide_eq_true_eq]
 by_cases h1 : p >= 0
 case neg =>
  have : a1o g k p = false := by unfold a1o; simp; omega
  simp [this, h1]
 by_cases h2 : p < (List.length g.Kinds : Int)
 case neg =>
  have : a1o g k p = false := by unfold a1o; simp; omega
  simp [this, h1, h2]
 obtain ⟨q, rfl⟩ : ∃ i : Nat, p = (i : Int) := ⟨p.toNat, by omega⟩
 have hq : q < g.Kinds.length := by omega
 have e : a1o g k (q : Int) = (g.Kinds[q] == k) := by
  unfold a1o
  rw [a1n, List.getElem?_eq_getElem hq]
  simp [hq]
 rw [e, if_pos h1, if_pos h2, a1n, List.getElem?_eq_getElem hq]
 simp
theorem b3I (n : g6) : v4 n = some (a5D n) := by
 unfold v4 a5D
 simp only [jp, beq_iff_eq, decide_eq_true_eq, bne_iff_ne, ne_eq]
 by_cases h12 : n.Op = 12
 ·simp [h12]
 by_cases h14 : n.Op = 14
 ·simp [h14]
 by_cases h18 : n.Op = 18
 ·simp [h18]
 by_cases h9 : n.Op = 9
 ·by_cases he : n.Else = n.Next <;> simp [h9, he]
 by_cases h1 : n.Op < 1
 ·simp [h1, h12, h14, h18, h9]
 by_cases h2 : n.Op > 18 <;> simp [h1, h2, h12, h14, h18, h9]
theorem b3J (g : b7) : v3 g false = some (a5E g) := by
 unfold v3 a5E
 simp only [jp, Bool.false_eq_true, if_false]
 by_cases h1 : g.Kinds.length <= 1024
 case neg =>
  have h1' : (g.Kinds.length : Int) > 1024 := by omega
  simp [h1, h1']
 have h1' : ¬ ((g.Kinds.length : Int) > 1024) := by omega
 simp only [h1', decide_false, Bool.false_eq_true, if_false, h1, decide_true, Bool.true_and]
 have hk : ∀ (f : Unit -> Option Bool), ((rng (fun (i_4 : Nat) (k_5 : Int) (s_3 : Unit) => ((if (decide (k_5 > 1)) then (some (.ret (some false))) else (some (.nxt ()))) : Option (Stp Unit (Option Bool)))) g.Kinds ()).bind (oc f)) = if (g.Kinds.any fun k => decide (k > 1)) = true then some false else f () := fun f => by
  refine (a0k (xs := g.Kinds) () (fun _ x => !decide (x > 1)) false zO (fun i x hx => ?_)).trans ?_
  ·by_cases h : x > 1 <;> simp [h]
  ·rw [a3q]
   have e : (g.Kinds.all fun x => !decide (x > 1)) = !(g.Kinds.any fun k => decide (k > 1)) := by
    rw [List.not_any_eq_all_not]
   rw [e]
   cases g.Kinds.any fun k => decide (k > 1) <;> simp
 by_cases h3 : g.Params.length <= 4
 case neg =>
  have h3' : (g.Params.length : Int) > 4 := by omega
  simp [h3, h3']
 have h3' : ¬ ((g.Params.length : Int) > 4) := by omega
 simp only [h3', decide_false, Bool.false_eq_true, if_false, h3, decide_true, Bool.true_and]
 by_cases h4 : g.Init.length = g.Params.length
 case neg =>
  have h4' : ((g.Init.length : Int) != (g.Params.length : Int)) = true := by simp; omega
  simp [h4, h4']
 have h4' : ((g.Init.length : Int) != (g.Params.length : Int)) = false := by simp; omega
 simp only [h4', Bool.false_eq_true, if_false]
 simp only [h4, decide_true, Bool.true_and]
 by_cases h5 : 0 <= g.Cells
 case neg =>
  have h5' : g.Cells < 0 := by omega
  simp [h5, h5']
 have h5' : ¬ (g.Cells < 0) := by omega
 by_cases h6 : g.Cells <= 64
 case neg =>
  have h6' : g.Cells > 64 := by omega
  simp [h5', h6, h6']
 have h6' : ¬ (g.Cells > 64) := by omega
 simp only [h5', h6', decide_false, Bool.false_eq_true, if_false, h5, h6, and_self, decide_true, Bool.true_and]
 by_cases h7 : g.Keep < -1
 ·have : (decide (g.Keep = -1) || a1u g g.Keep) = false := by unfold a1u; simp; omega
  simp [h7, this]
 by_cases h8 : g.Keep >= g.Cells
 ·have : (decide (g.Keep = -1) || a1u g g.Keep) = false := by unfold a1u; simp; omega
  simp [h7, h8, this]
 have : (decide (g.Keep = -1) || a1u g g.Keep) = true := by unfold a1u; simp; omega
 simp only [this, h7, h8, decide_false, Bool.false_eq_true, if_false, Bool.true_and]
 rw [hk]
 cases h2 : g.Kinds.any fun k => decide (k > 1) with
 | true => simp
 | false =>
 simp only [Bool.false_eq_true, if_false, Bool.not_false, Bool.true_and]
 refine (a0k () (b6U g) false zO (fun i p hx => ?_)).trans ?_
 ·have hi : i < g.Params.length := (List.getElem?_eq_some_iff.1 hx).1
  have hi2 : i < g.Init.length := by omega
  have hsub : a4a g.Params 0 (i : Int) = some (g.Params.take i) := by
   unfold a4a; rw [if_pos zO]; simp
  simp only [b6U, List.getElem?_eq_getElem hi2, hsub, Option.bind_some, a1n]
  by_cases q1 : 0 <= p
  case neg =>
   have q1' : p < 0 := by omega
   simp [q1, q1']
  have q1' : ¬ (p < 0) := by omega
  by_cases q2 : p < (g.Kinds.length : Int)
  case neg =>
   have q2' : p >= (g.Kinds.length : Int) := by omega
   simp [q1', q2, q2']
  have q2' : ¬ (p >= (g.Kinds.length : Int)) := by omega
  simp only [q1', q2', decide_false, Bool.false_eq_true, if_false, q1, q2, and_self, decide_true, Bool.true_and]
  rw [c2u _ _ zE]
  by_cases q3 : p ∈ g.Params.take i
  ·simp [q3]
  simp only [q3, decide_false, Option.bind_some, Bool.false_eq_true, if_false, Bool.not_false, Bool.true_and]
  by_cases q4 : g.Init[i] < -1
  ·have e1 : ¬ g.Init[i] = -1 := by omega
   have e2 : a1u g g.Init[i] = false := by unfold a1u; simp; omega
   simp [q4, e1, e2]
  by_cases q5 : g.Init[i] >= g.Cells
  ·have e1 : ¬ g.Init[i] = -1 := by omega
   have e2 : a1u g g.Init[i] = false := by unfold a1u; simp; omega
   simp [q4, q5, e1, e2]
  by_cases q6 : g.Init[i] >= 0
  ·have e1 : ¬ g.Init[i] = -1 := by omega
   have e2 : a1u g g.Init[i] = true := by unfold a1u; simp; omega
   simp only [q4, q5, q6, e1, e2, decide_false, decide_true, Bool.false_eq_true, if_false, if_true, a0s, Option.bind_some, Bool.false_or, Bool.true_and]
   cases a1o g 0 p <;> simp
  ·have e1 : g.Init[i] = -1 := by omega
   have e2 : -1 < g.Cells := by omega
   simp [q4, q5, q6, e1, e2]
 ·cases r9 (b6U g) 0 g.Params with
  | false => simp
  | true =>
    simp only [if_true, Bool.true_and, c2U]
    by_cases r1 : 1 <= g.Nodes.length
    case neg =>
     have r1' : ¬ ((g.Nodes.length : Int) >= 1) := by omega
     simp only [r1, r1', decide_false, Bool.false_eq_true, if_false, false_and]
    have r1' : (g.Nodes.length : Int) >= 1 := by omega
    by_cases r2 : g.Nodes.length <= 4096
    case neg =>
     have r2' : ¬ ((g.Nodes.length : Int) <= 4096) := by omega
     simp only [r1', r2, r2', decide_true, decide_false, Bool.false_eq_true, if_true, if_false, false_and, and_false]
    have r2' : (g.Nodes.length : Int) <= 4096 := by omega
    by_cases r3 : 0 <= g.Entry
    case neg =>
     have r3' : ¬ (g.Entry >= 0) := by omega
     simp only [r1', r2', r3, r3', decide_true, decide_false, Bool.false_eq_true, if_true, if_false, false_and, and_false]
    have r3' : g.Entry >= 0 := r3
    simp only [r1, r1', r2, r2', r3, r3', decide_true, if_true, true_and]
def chk (g : b7) (b p : Int) : Bool := if b = 110 then a1o g 0 p else if b = 112 then a1o g 1 p else true
theorem t5 (g : b7) (w : ByteArray) (bs : List Int) (hb : bs.length = 4) (hw : ∀ i : Nat, i < 4 -> a4T w (i : Int) = some (bs.getD i 0)) (ps : List Int) (hp : ps.length = 4) (f : Unit -> Option Bool) :
  ((rng (fun (i_12 : Nat) (p_13 : Int) (s_11 : Unit) => (((a4T w (i_12 : Int)).bind fun b_15 => (if (b_15 == 110) then ((a9 g false p_13 0).bind fun fit_16 => (if (!fit_16) then (some (.ret (some false))) else (some (.nxt ())))) else (if (b_15 == 112) then ((a9 g false p_13 1).bind fun fit_17 => (if (!fit_17) then (some (.ret (some false))) else (some (.nxt ())))) else (some (.nxt ()))))) : Option (Stp Unit (Option Bool)))) ps ()).bind (oc f)) = if r9 (fun i p => chk g (bs.getD i 0) p) 0 ps = true then f () else some false := by
 refine a0k () (fun i p => chk g (bs.getD i 0) p) false zO (fun i p hx => ?_)
 have hi : i < ps.length := (List.getElem?_eq_some_iff.1 hx).1
 rw [hw i zO]
 simp only [Option.bind_some, chk, a0s, beq_iff_eq]
 generalize bs.getD i 0 = b
 by_cases h1 : b = 110
 ·simp only [h1, if_true]; cases a1o g 0 p <;> simp
 ·by_cases h2 : b = 112
  ·simp only [h2]; cases a1o g 1 p <;> simp
  ·simp [h1, h2]
theorem b2l {all : List b7} {g : b7} {n : g6} (h : n.Op < 1 \/ n.Op > 18) : opB all g n = false := by
 have k : ∀ j : Int, 1 <= j -> j <= 18 -> ¬ n.Op = j := fun j _ _ => by omega
 unfold opB
 simp [k 1 zD zD, k 2 zD zD, k 3 zD zD, k 4 zD zD, k 5 zD zD, k 6 zD zD, k 7 zD zD, k 8 zD zD, k 9 zD zD, k 10 zD zD, k 11 zD zD, k 12 zD zD, k 13 zD zD, k 14 zD zD, k 15 zD zD, k 16 zD zD, k 17 zD zD, k 18 zD zD]
theorem a6y (g f : b7) (l : List Int) (hp : b3o f) (hl : l.length = f.Params.length) (h4 : f.Params.length <= 4) (F : Unit -> Option Bool) :
  ((rng (fun (i_44 : Nat) (p_45 : Int) (s_43 : Unit) => (((j9 f.Params (i_44 : Int)).bind fun y_52 => ((j9 f.Kinds y_52).bind fun y_53 => (if a1o g y_53 p_45 = false then (some (.ret (some false))) else (some (.nxt ()))))) : Option (Stp Unit (Option Bool)))) l ()).bind (oc F)) = if r9 (b3n g f) 0 l = true then F () else some false := by
 refine a0k () (b3n g f) false zO (fun i p hx => ?_)
 have hi : i < l.length := (List.getElem?_eq_some_iff.1 hx).1
 have hip : i < f.Params.length := by omega
 have hr := hp _ (List.getElem_mem hip)
 obtain ⟨q, hq⟩ : ∃ q : Nat, f.Params[i] = (q : Int) := ⟨f.Params[i].toNat, by omega⟩
 have hqk : q < f.Kinds.length := by omega
 simp only [a1n, List.getElem?_eq_getElem hip, Option.bind_some, hq, List.getElem?_eq_getElem hqk, b3n, a0s]
 cases a1o g f.Kinds[q] p <;> simp
theorem c2v (g : b7) (n : g6) (h : n.Op = 1) (F : Unit -> Option Bool) : ((b8 n.Op).bind fun wan_10 => ((rng (fun (i_12 : Nat) (p_13 : Int) (s_11 : Unit) => (((a4T wan_10 (i_12 : Int)).bind fun b_15 => (if (b_15 == 110) then ((a9 g false p_13 0).bind fun fit_16 => (if (!fit_16) then (some (.ret (some false))) else (some (.nxt ())))) else (if (b_15 == 112) then ((a9 g false p_13 1).bind fun fit_17 => (if (!fit_17) then (some (.ret (some false))) else (some (.nxt ())))) else (some (.nxt ()))))) : Option (Stp Unit (Option Bool)))) [n.D, n.E, n.A, n.B] ()).bind (oc F))) = if r9 (fun i p => chk g ([110, 45, 45, 45].getD i 0) p) 0 [n.D, n.E, n.A, n.B] = true then F () else some false := by
 have e : b8 n.Op = some (ByteArray.mk #[110, 45, 45, 45]) := by rw [h]; rfl
 rw [e]
 exact t5 g (ByteArray.mk #[110, 45, 45, 45]) [110, 45, 45, 45] rfl (fun i hi => by match i, hi with | 0, _ => rfl | 1, _ => rfl | 2, _ => rfl | 3, _ => rfl) [n.D, n.E, n.A, n.B] rfl F
theorem c2w (g : b7) (n : g6) (h : n.Op = 2) (F : Unit -> Option Bool) : ((b8 n.Op).bind fun wan_10 => ((rng (fun (i_12 : Nat) (p_13 : Int) (s_11 : Unit) => (((a4T wan_10 (i_12 : Int)).bind fun b_15 => (if (b_15 == 110) then ((a9 g false p_13 0).bind fun fit_16 => (if (!fit_16) then (some (.ret (some false))) else (some (.nxt ())))) else (if (b_15 == 112) then ((a9 g false p_13 1).bind fun fit_17 => (if (!fit_17) then (some (.ret (some false))) else (some (.nxt ())))) else (some (.nxt ()))))) : Option (Stp Unit (Option Bool)))) [n.D, n.E, n.A, n.B] ()).bind (oc F))) = if r9 (fun i p => chk g ([61, 45, 61, 45].getD i 0) p) 0 [n.D, n.E, n.A, n.B] = true then F () else some false := by
 have e : b8 n.Op = some (ByteArray.mk #[61, 45, 61, 45]) := by rw [h]; rfl
 rw [e]
 exact t5 g (ByteArray.mk #[61, 45, 61, 45]) [61, 45, 61, 45] rfl (fun i hi => by match i, hi with | 0, _ => rfl | 1, _ => rfl | 2, _ => rfl | 3, _ => rfl) [n.D, n.E, n.A, n.B] rfl F
theorem c2x (g : b7) (n : g6) (h : n.Op = 3) (F : Unit -> Option Bool) : ((b8 n.Op).bind fun wan_10 => ((rng (fun (i_12 : Nat) (p_13 : Int) (s_11 : Unit) => (((a4T wan_10 (i_12 : Int)).bind fun b_15 => (if (b_15 == 110) then ((a9 g false p_13 0).bind fun fit_16 => (if (!fit_16) then (some (.ret (some false))) else (some (.nxt ())))) else (if (b_15 == 112) then ((a9 g false p_13 1).bind fun fit_17 => (if (!fit_17) then (some (.ret (some false))) else (some (.nxt ())))) else (some (.nxt ()))))) : Option (Stp Unit (Option Bool)))) [n.D, n.E, n.A, n.B] ()).bind (oc F))) = if r9 (fun i p => chk g ([110, 45, 110, 110].getD i 0) p) 0 [n.D, n.E, n.A, n.B] = true then F () else some false := by
 have e : b8 n.Op = some (ByteArray.mk #[110, 45, 110, 110]) := by rw [h]; rfl
 rw [e]
 exact t5 g (ByteArray.mk #[110, 45, 110, 110]) [110, 45, 110, 110] rfl (fun i hi => by match i, hi with | 0, _ => rfl | 1, _ => rfl | 2, _ => rfl | 3, _ => rfl) [n.D, n.E, n.A, n.B] rfl F
theorem c2y (g : b7) (n : g6) (h : n.Op = 4) (F : Unit -> Option Bool) : ((b8 n.Op).bind fun wan_10 => ((rng (fun (i_12 : Nat) (p_13 : Int) (s_11 : Unit) => (((a4T wan_10 (i_12 : Int)).bind fun b_15 => (if (b_15 == 110) then ((a9 g false p_13 0).bind fun fit_16 => (if (!fit_16) then (some (.ret (some false))) else (some (.nxt ())))) else (if (b_15 == 112) then ((a9 g false p_13 1).bind fun fit_17 => (if (!fit_17) then (some (.ret (some false))) else (some (.nxt ())))) else (some (.nxt ()))))) : Option (Stp Unit (Option Bool)))) [n.D, n.E, n.A, n.B] ()).bind (oc F))) = if r9 (fun i p => chk g ([110, 45, 45, 45].getD i 0) p) 0 [n.D, n.E, n.A, n.B] = true then F () else some false := by
 have e : b8 n.Op = some (ByteArray.mk #[110, 45, 45, 45]) := by rw [h]; rfl
 rw [e]
 exact t5 g (ByteArray.mk #[110, 45, 45, 45]) [110, 45, 45, 45] rfl (fun i hi => by match i, hi with | 0, _ => rfl | 1, _ => rfl | 2, _ => rfl | 3, _ => rfl) [n.D, n.E, n.A, n.B] rfl F
theorem c2z (g : b7) (n : g6) (h : n.Op = 5) (F : Unit -> Option Bool) : ((b8 n.Op).bind fun wan_10 => ((rng (fun (i_12 : Nat) (p_13 : Int) (s_11 : Unit) => (((a4T wan_10 (i_12 : Int)).bind fun b_15 => (if (b_15 == 110) then ((a9 g false p_13 0).bind fun fit_16 => (if (!fit_16) then (some (.ret (some false))) else (some (.nxt ())))) else (if (b_15 == 112) then ((a9 g false p_13 1).bind fun fit_17 => (if (!fit_17) then (some (.ret (some false))) else (some (.nxt ())))) else (some (.nxt ()))))) : Option (Stp Unit (Option Bool)))) [n.D, n.E, n.A, n.B] ()).bind (oc F))) = if r9 (fun i p => chk g ([45, 45, 110, 45].getD i 0) p) 0 [n.D, n.E, n.A, n.B] = true then F () else some false := by
 have e : b8 n.Op = some (ByteArray.mk #[45, 45, 110, 45]) := by rw [h]; rfl
 rw [e]
 exact t5 g (ByteArray.mk #[45, 45, 110, 45]) [45, 45, 110, 45] rfl (fun i hi => by match i, hi with | 0, _ => rfl | 1, _ => rfl | 2, _ => rfl | 3, _ => rfl) [n.D, n.E, n.A, n.B] rfl F
theorem c2A (g : b7) (n : g6) (h : n.Op = 6) (F : Unit -> Option Bool) : ((b8 n.Op).bind fun wan_10 => ((rng (fun (i_12 : Nat) (p_13 : Int) (s_11 : Unit) => (((a4T wan_10 (i_12 : Int)).bind fun b_15 => (if (b_15 == 110) then ((a9 g false p_13 0).bind fun fit_16 => (if (!fit_16) then (some (.ret (some false))) else (some (.nxt ())))) else (if (b_15 == 112) then ((a9 g false p_13 1).bind fun fit_17 => (if (!fit_17) then (some (.ret (some false))) else (some (.nxt ())))) else (some (.nxt ()))))) : Option (Stp Unit (Option Bool)))) [n.D, n.E, n.A, n.B] ()).bind (oc F))) = if r9 (fun i p => chk g ([112, 45, 45, 45].getD i 0) p) 0 [n.D, n.E, n.A, n.B] = true then F () else some false := by
 have e : b8 n.Op = some (ByteArray.mk #[112, 45, 45, 45]) := by rw [h]; rfl
 rw [e]
 exact t5 g (ByteArray.mk #[112, 45, 45, 45]) [112, 45, 45, 45] rfl (fun i hi => by match i, hi with | 0, _ => rfl | 1, _ => rfl | 2, _ => rfl | 3, _ => rfl) [n.D, n.E, n.A, n.B] rfl F
theorem c2B (g : b7) (n : g6) (h : n.Op = 7) (F : Unit -> Option Bool) : ((b8 n.Op).bind fun wan_10 => ((rng (fun (i_12 : Nat) (p_13 : Int) (s_11 : Unit) => (((a4T wan_10 (i_12 : Int)).bind fun b_15 => (if (b_15 == 110) then ((a9 g false p_13 0).bind fun fit_16 => (if (!fit_16) then (some (.ret (some false))) else (some (.nxt ())))) else (if (b_15 == 112) then ((a9 g false p_13 1).bind fun fit_17 => (if (!fit_17) then (some (.ret (some false))) else (some (.nxt ())))) else (some (.nxt ()))))) : Option (Stp Unit (Option Bool)))) [n.D, n.E, n.A, n.B] ()).bind (oc F))) = if r9 (fun i p => chk g ([110, 45, 112, 45].getD i 0) p) 0 [n.D, n.E, n.A, n.B] = true then F () else some false := by
 have e : b8 n.Op = some (ByteArray.mk #[110, 45, 112, 45]) := by rw [h]; rfl
 rw [e]
 exact t5 g (ByteArray.mk #[110, 45, 112, 45]) [110, 45, 112, 45] rfl (fun i hi => by match i, hi with | 0, _ => rfl | 1, _ => rfl | 2, _ => rfl | 3, _ => rfl) [n.D, n.E, n.A, n.B] rfl F
theorem c2C (g : b7) (n : g6) (h : n.Op = 8) (F : Unit -> Option Bool) : ((b8 n.Op).bind fun wan_10 => ((rng (fun (i_12 : Nat) (p_13 : Int) (s_11 : Unit) => (((a4T wan_10 (i_12 : Int)).bind fun b_15 => (if (b_15 == 110) then ((a9 g false p_13 0).bind fun fit_16 => (if (!fit_16) then (some (.ret (some false))) else (some (.nxt ())))) else (if (b_15 == 112) then ((a9 g false p_13 1).bind fun fit_17 => (if (!fit_17) then (some (.ret (some false))) else (some (.nxt ())))) else (some (.nxt ()))))) : Option (Stp Unit (Option Bool)))) [n.D, n.E, n.A, n.B] ()).bind (oc F))) = if r9 (fun i p => chk g ([45, 45, 112, 110].getD i 0) p) 0 [n.D, n.E, n.A, n.B] = true then F () else some false := by
 have e : b8 n.Op = some (ByteArray.mk #[45, 45, 112, 110]) := by rw [h]; rfl
 rw [e]
 exact t5 g (ByteArray.mk #[45, 45, 112, 110]) [45, 45, 112, 110] rfl (fun i hi => by match i, hi with | 0, _ => rfl | 1, _ => rfl | 2, _ => rfl | 3, _ => rfl) [n.D, n.E, n.A, n.B] rfl F
theorem c2D (g : b7) (n : g6) (h : n.Op = 9) (F : Unit -> Option Bool) : ((b8 n.Op).bind fun wan_10 => ((rng (fun (i_12 : Nat) (p_13 : Int) (s_11 : Unit) => (((a4T wan_10 (i_12 : Int)).bind fun b_15 => (if (b_15 == 110) then ((a9 g false p_13 0).bind fun fit_16 => (if (!fit_16) then (some (.ret (some false))) else (some (.nxt ())))) else (if (b_15 == 112) then ((a9 g false p_13 1).bind fun fit_17 => (if (!fit_17) then (some (.ret (some false))) else (some (.nxt ())))) else (some (.nxt ()))))) : Option (Stp Unit (Option Bool)))) [n.D, n.E, n.A, n.B] ()).bind (oc F))) = if r9 (fun i p => chk g ([45, 45, 110, 45].getD i 0) p) 0 [n.D, n.E, n.A, n.B] = true then F () else some false := by
 have e : b8 n.Op = some (ByteArray.mk #[45, 45, 110, 45]) := by rw [h]; rfl
 rw [e]
 exact t5 g (ByteArray.mk #[45, 45, 110, 45]) [45, 45, 110, 45] rfl (fun i hi => by match i, hi with | 0, _ => rfl | 1, _ => rfl | 2, _ => rfl | 3, _ => rfl) [n.D, n.E, n.A, n.B] rfl F
theorem b6H (g : b7) (n : g6) (h : n.Op = 10) (F : Unit -> Option Bool) : ((b8 n.Op).bind fun wan_10 => ((rng (fun (i_12 : Nat) (p_13 : Int) (s_11 : Unit) => (((a4T wan_10 (i_12 : Int)).bind fun b_15 => (if (b_15 == 110) then ((a9 g false p_13 0).bind fun fit_16 => (if (!fit_16) then (some (.ret (some false))) else (some (.nxt ())))) else (if (b_15 == 112) then ((a9 g false p_13 1).bind fun fit_17 => (if (!fit_17) then (some (.ret (some false))) else (some (.nxt ())))) else (some (.nxt ()))))) : Option (Stp Unit (Option Bool)))) [n.D, n.E, n.A, n.B] ()).bind (oc F))) = if r9 (fun i p => chk g ([45, 45, 45, 45].getD i 0) p) 0 [n.D, n.E, n.A, n.B] = true then F () else some false := by
 have e : b8 n.Op = some (ByteArray.mk #[45, 45, 45, 45]) := by rw [h]; rfl
 rw [e]
 exact t5 g (ByteArray.mk #[45, 45, 45, 45]) [45, 45, 45, 45] rfl (fun i hi => by match i, hi with | 0, _ => rfl | 1, _ => rfl | 2, _ => rfl | 3, _ => rfl) [n.D, n.E, n.A, n.B] rfl F
theorem b6I (g : b7) (n : g6) (h : n.Op = 11) (F : Unit -> Option Bool) : ((b8 n.Op).bind fun wan_10 => ((rng (fun (i_12 : Nat) (p_13 : Int) (s_11 : Unit) => (((a4T wan_10 (i_12 : Int)).bind fun b_15 => (if (b_15 == 110) then ((a9 g false p_13 0).bind fun fit_16 => (if (!fit_16) then (some (.ret (some false))) else (some (.nxt ())))) else (if (b_15 == 112) then ((a9 g false p_13 1).bind fun fit_17 => (if (!fit_17) then (some (.ret (some false))) else (some (.nxt ())))) else (some (.nxt ()))))) : Option (Stp Unit (Option Bool)))) [n.D, n.E, n.A, n.B] ()).bind (oc F))) = if r9 (fun i p => chk g ([45, 45, 45, 45].getD i 0) p) 0 [n.D, n.E, n.A, n.B] = true then F () else some false := by
 have e : b8 n.Op = some (ByteArray.mk #[45, 45, 45, 45]) := by rw [h]; rfl
 rw [e]
 exact t5 g (ByteArray.mk #[45, 45, 45, 45]) [45, 45, 45, 45] rfl (fun i hi => by match i, hi with | 0, _ => rfl | 1, _ => rfl | 2, _ => rfl | 3, _ => rfl) [n.D, n.E, n.A, n.B] rfl F
theorem b6J (g : b7) (n : g6) (h : n.Op = 12) (F : Unit -> Option Bool) : ((b8 n.Op).bind fun wan_10 => ((rng (fun (i_12 : Nat) (p_13 : Int) (s_11 : Unit) => (((a4T wan_10 (i_12 : Int)).bind fun b_15 => (if (b_15 == 110) then ((a9 g false p_13 0).bind fun fit_16 => (if (!fit_16) then (some (.ret (some false))) else (some (.nxt ())))) else (if (b_15 == 112) then ((a9 g false p_13 1).bind fun fit_17 => (if (!fit_17) then (some (.ret (some false))) else (some (.nxt ())))) else (some (.nxt ()))))) : Option (Stp Unit (Option Bool)))) [n.D, n.E, n.A, n.B] ()).bind (oc F))) = if r9 (fun i p => chk g ([45, 45, 45, 45].getD i 0) p) 0 [n.D, n.E, n.A, n.B] = true then F () else some false := by
 have e : b8 n.Op = some (ByteArray.mk #[45, 45, 45, 45]) := by rw [h]; rfl
 rw [e]
 exact t5 g (ByteArray.mk #[45, 45, 45, 45]) [45, 45, 45, 45] rfl (fun i hi => by match i, hi with | 0, _ => rfl | 1, _ => rfl | 2, _ => rfl | 3, _ => rfl) [n.D, n.E, n.A, n.B] rfl F
theorem b6K (g : b7) (n : g6) (h : n.Op = 13) (F : Unit -> Option Bool) : ((b8 n.Op).bind fun wan_10 => ((rng (fun (i_12 : Nat) (p_13 : Int) (s_11 : Unit) => (((a4T wan_10 (i_12 : Int)).bind fun b_15 => (if (b_15 == 110) then ((a9 g false p_13 0).bind fun fit_16 => (if (!fit_16) then (some (.ret (some false))) else (some (.nxt ())))) else (if (b_15 == 112) then ((a9 g false p_13 1).bind fun fit_17 => (if (!fit_17) then (some (.ret (some false))) else (some (.nxt ())))) else (some (.nxt ()))))) : Option (Stp Unit (Option Bool)))) [n.D, n.E, n.A, n.B] ()).bind (oc F))) = if r9 (fun i p => chk g ([45, 45, 45, 45].getD i 0) p) 0 [n.D, n.E, n.A, n.B] = true then F () else some false := by
 have e : b8 n.Op = some (ByteArray.mk #[45, 45, 45, 45]) := by rw [h]; rfl
 rw [e]
 exact t5 g (ByteArray.mk #[45, 45, 45, 45]) [45, 45, 45, 45] rfl (fun i hi => by match i, hi with | 0, _ => rfl | 1, _ => rfl | 2, _ => rfl | 3, _ => rfl) [n.D, n.E, n.A, n.B] rfl F
theorem b6L (g : b7) (n : g6) (h : n.Op = 14) (F : Unit -> Option Bool) : ((b8 n.Op).bind fun wan_10 => ((rng (fun (i_12 : Nat) (p_13 : Int) (s_11 : Unit) => (((a4T wan_10 (i_12 : Int)).bind fun b_15 => (if (b_15 == 110) then ((a9 g false p_13 0).bind fun fit_16 => (if (!fit_16) then (some (.ret (some false))) else (some (.nxt ())))) else (if (b_15 == 112) then ((a9 g false p_13 1).bind fun fit_17 => (if (!fit_17) then (some (.ret (some false))) else (some (.nxt ())))) else (some (.nxt ()))))) : Option (Stp Unit (Option Bool)))) [n.D, n.E, n.A, n.B] ()).bind (oc F))) = if r9 (fun i p => chk g ([45, 45, 110, 45].getD i 0) p) 0 [n.D, n.E, n.A, n.B] = true then F () else some false := by
 have e : b8 n.Op = some (ByteArray.mk #[45, 45, 110, 45]) := by rw [h]; rfl
 rw [e]
 exact t5 g (ByteArray.mk #[45, 45, 110, 45]) [45, 45, 110, 45] rfl (fun i hi => by match i, hi with | 0, _ => rfl | 1, _ => rfl | 2, _ => rfl | 3, _ => rfl) [n.D, n.E, n.A, n.B] rfl F
theorem b6M (g : b7) (n : g6) (h : n.Op = 15) (F : Unit -> Option Bool) : ((b8 n.Op).bind fun wan_10 => ((rng (fun (i_12 : Nat) (p_13 : Int) (s_11 : Unit) => (((a4T wan_10 (i_12 : Int)).bind fun b_15 => (if (b_15 == 110) then ((a9 g false p_13 0).bind fun fit_16 => (if (!fit_16) then (some (.ret (some false))) else (some (.nxt ())))) else (if (b_15 == 112) then ((a9 g false p_13 1).bind fun fit_17 => (if (!fit_17) then (some (.ret (some false))) else (some (.nxt ())))) else (some (.nxt ()))))) : Option (Stp Unit (Option Bool)))) [n.D, n.E, n.A, n.B] ()).bind (oc F))) = if r9 (fun i p => chk g ([110, 110, 45, 45].getD i 0) p) 0 [n.D, n.E, n.A, n.B] = true then F () else some false := by
 have e : b8 n.Op = some (ByteArray.mk #[110, 110, 45, 45]) := by rw [h]; rfl
 rw [e]
 exact t5 g (ByteArray.mk #[110, 110, 45, 45]) [110, 110, 45, 45] rfl (fun i hi => by match i, hi with | 0, _ => rfl | 1, _ => rfl | 2, _ => rfl | 3, _ => rfl) [n.D, n.E, n.A, n.B] rfl F
theorem b6N (g : b7) (n : g6) (h : n.Op = 16) (F : Unit -> Option Bool) : ((b8 n.Op).bind fun wan_10 => ((rng (fun (i_12 : Nat) (p_13 : Int) (s_11 : Unit) => (((a4T wan_10 (i_12 : Int)).bind fun b_15 => (if (b_15 == 110) then ((a9 g false p_13 0).bind fun fit_16 => (if (!fit_16) then (some (.ret (some false))) else (some (.nxt ())))) else (if (b_15 == 112) then ((a9 g false p_13 1).bind fun fit_17 => (if (!fit_17) then (some (.ret (some false))) else (some (.nxt ())))) else (some (.nxt ()))))) : Option (Stp Unit (Option Bool)))) [n.D, n.E, n.A, n.B] ()).bind (oc F))) = if r9 (fun i p => chk g ([110, 45, 45, 45].getD i 0) p) 0 [n.D, n.E, n.A, n.B] = true then F () else some false := by
 have e : b8 n.Op = some (ByteArray.mk #[110, 45, 45, 45]) := by rw [h]; rfl
 rw [e]
 exact t5 g (ByteArray.mk #[110, 45, 45, 45]) [110, 45, 45, 45] rfl (fun i hi => by match i, hi with | 0, _ => rfl | 1, _ => rfl | 2, _ => rfl | 3, _ => rfl) [n.D, n.E, n.A, n.B] rfl F
theorem b6O (g : b7) (n : g6) (h : n.Op = 17) (F : Unit -> Option Bool) : ((b8 n.Op).bind fun wan_10 => ((rng (fun (i_12 : Nat) (p_13 : Int) (s_11 : Unit) => (((a4T wan_10 (i_12 : Int)).bind fun b_15 => (if (b_15 == 110) then ((a9 g false p_13 0).bind fun fit_16 => (if (!fit_16) then (some (.ret (some false))) else (some (.nxt ())))) else (if (b_15 == 112) then ((a9 g false p_13 1).bind fun fit_17 => (if (!fit_17) then (some (.ret (some false))) else (some (.nxt ())))) else (some (.nxt ()))))) : Option (Stp Unit (Option Bool)))) [n.D, n.E, n.A, n.B] ()).bind (oc F))) = if r9 (fun i p => chk g ([45, 45, 110, 45].getD i 0) p) 0 [n.D, n.E, n.A, n.B] = true then F () else some false := by
 have e : b8 n.Op = some (ByteArray.mk #[45, 45, 110, 45]) := by rw [h]; rfl
 rw [e]
 exact t5 g (ByteArray.mk #[45, 45, 110, 45]) [45, 45, 110, 45] rfl (fun i hi => by match i, hi with | 0, _ => rfl | 1, _ => rfl | 2, _ => rfl | 3, _ => rfl) [n.D, n.E, n.A, n.B] rfl F
theorem b6P (g : b7) (n : g6) (h : n.Op = 18) (F : Unit -> Option Bool) : ((b8 n.Op).bind fun wan_10 => ((rng (fun (i_12 : Nat) (p_13 : Int) (s_11 : Unit) => (((a4T wan_10 (i_12 : Int)).bind fun b_15 => (if (b_15 == 110) then ((a9 g false p_13 0).bind fun fit_16 => (if (!fit_16) then (some (.ret (some false))) else (some (.nxt ())))) else (if (b_15 == 112) then ((a9 g false p_13 1).bind fun fit_17 => (if (!fit_17) then (some (.ret (some false))) else (some (.nxt ())))) else (some (.nxt ()))))) : Option (Stp Unit (Option Bool)))) [n.D, n.E, n.A, n.B] ()).bind (oc F))) = if r9 (fun i p => chk g ([45, 45, 110, 45].getD i 0) p) 0 [n.D, n.E, n.A, n.B] = true then F () else some false := by
 have e : b8 n.Op = some (ByteArray.mk #[45, 45, 110, 45]) := by rw [h]; rfl
 rw [e]
 exact t5 g (ByteArray.mk #[45, 45, 110, 45]) [45, 45, 110, 45] rfl (fun i hi => by match i, hi with | 0, _ => rfl | 1, _ => rfl | 2, _ => rfl | 3, _ => rfl) [n.D, n.E, n.A, n.B] rfl F
theorem b3K (all : List b7) (g : b7) (n : g6) (hp : ∀ f ∈ all, b3o f /\ f.Params.length <= 4) : v5 all g false n = some (a5F all g n) := by
 unfold v5 a5F
 simp only [jp]
 by_cases o1 : n.Op < 1
 ·simp [o1, b2l (.inl o1)]
 by_cases o2 : n.Op > 18
 ·simp [o1, o2, b2l (.inr o2)]
 simp only [o1, o2, decide_false, Bool.false_eq_true, if_false, b3I, Option.bind_some]
 refine (a0k (xs := a5D n) () (fun _ to => decide (0 <= to /\ to < g.Nodes.length)) false (by have := b1F n; omega) (fun i to hx => ?_)).trans ?_
 ·by_cases q1 : 0 <= to
  case neg =>
   have q1' : to < 0 := by omega
   simp [q1, q1']
  have q1' : ¬ (to < 0) := by omega
  by_cases q2 : to < (g.Nodes.length : Int)
  case neg =>
   have q2' : to >= (g.Nodes.length : Int) := by omega
   simp [q1', q2, q2']
  have q2' : ¬ (to >= (g.Nodes.length : Int)) := by omega
  simp [q1, q1', q2, q2']
 rw [a3q]
 cases (a5D n).all fun to => decide (0 <= to /\ to < g.Nodes.length) with
 | false => simp
 | true =>
 simp only [if_true, Bool.true_and]
 have hop : n.Op = 1 \/ n.Op = 2 \/ n.Op = 3 \/ n.Op = 4 \/ n.Op = 5 \/ n.Op = 6 \/ n.Op = 7 \/ n.Op = 8 \/ n.Op = 9 \/ n.Op = 10 \/ n.Op = 11 \/ n.Op = 12 \/ n.Op = 13 \/ n.Op = 14 \/ n.Op = 15 \/ n.Op = 16 \/ n.Op = 17 \/ n.Op = 18 := by omega
 rcases hop with h | h | h | h | h | h | h | h | h | h | h | h | h | h | h | h | h | h
 ·refine (c2v g n h _).trans ?_
  cases a0 : a1o g 0 n.D <;> simp [r9, chk, opB, isB, h, a0, a0s]
 ·refine (c2w g n h _).trans ?_
  cases a0 : a1o g 0 n.D <;> cases a1 : a1o g 0 n.A <;> cases a2 : a1o g 1 n.D <;> cases a3 : a1o g 1 n.A <;> simp [r9, chk, opB, isB, h, a0, a1, a2, a3, a0s]
 ·refine (c2x g n h _).trans ?_
  cases a0 : a1o g 0 n.D <;> cases a1 : a1o g 0 n.A <;> cases a2 : a1o g 0 n.B <;> by_cases q1 : n.By >= 7 <;> by_cases q2 : n.By <= 20 <;> simp [r9, chk, opB, isB, h, a0, a1, a2, q1, q2] <;> omega
 ·refine (c2y g n h _).trans ?_
  cases a0 : a1o g 0 n.D <;> by_cases q1 : n.Cell >= 0 <;> by_cases q2 : n.Cell < g.Cells <;> simp [r9, chk, opB, isB, a1u, h, a0, q1, q2] <;> omega
 ·refine (c2z g n h _).trans ?_
  cases a0 : a1o g 0 n.A <;> by_cases q1 : n.Cell >= 0 <;> by_cases q2 : n.Cell < g.Cells <;> simp [r9, chk, opB, isB, a1u, h, a0, q1, q2] <;> omega
 ·refine (c2A g n h _).trans ?_
  cases a0 : a1o g 1 n.D <;> by_cases q1 : n.Cell >= 0 <;> by_cases q2 : n.Cell < g.Cells <;> simp [r9, chk, opB, isB, a1u, h, a0, q1, q2] <;> omega
 ·refine (c2B g n h _).trans ?_
  cases a0 : a1o g 0 n.D <;> cases a1 : a1o g 1 n.A <;> simp [r9, chk, opB, isB, h, a0, a1, a0s]
 ·refine (c2C g n h _).trans ?_
  cases a0 : a1o g 1 n.A <;> cases a1 : a1o g 0 n.B <;> simp [r9, chk, opB, isB, h, a0, a1, a0s]
 ·refine (c2D g n h _).trans ?_
  cases a0 : a1o g 0 n.A <;> simp [r9, chk, opB, isB, h, a0, a0s]
 ·refine (b6H g n h _).trans ?_
  simp [r9, chk, opB, isB, h, a0s]
 ·refine (b6I g n h _).trans ?_
  have hc : r9 (fun i p => chk g ([45, 45, 45, 45].getD i 0) p) 0 [n.D, n.E, n.A, n.B] = true := by simp [r9, chk]
  rw [if_pos hc]
  by_cases h1 : n.F < 0
  ·have e : j9 all n.F = none := by unfold j9; rw [if_neg zO]
   have ho : opB all g n = false := by simp [opB, b2r, h, e]
   rw [ho]; simp [h, h1]
  obtain ⟨F, hF⟩ : ∃ i : Nat, n.F = (i : Int) := ⟨n.F.toNat, by omega⟩
  by_cases h2 : F < all.length
  case neg =>
   have h2' : n.F >= (all.length : Int) := by omega
   have e : j9 all n.F = none := by rw [hF, a1n]; exact List.getElem?_eq_none zO
   have ho : opB all g n = false := by simp [opB, b2r, h, e]
   rw [ho]; simp [h, h1, h2']
  have h2' : ¬ (n.F >= (all.length : Int)) := by omega
  have e : j9 all n.F = some all[F] := by rw [hF, a1n]; exact List.getElem?_eq_getElem h2
  obtain ⟨hpF, hp4⟩ := hp _ (List.getElem_mem h2)
  generalize all[F] = f at hpF hp4 e
  have ho : opB all g n = ((decide (n.Args.length = f.Params.length) && r9 (b3n g f) 0 n.Args) && (decide (n.D = -1) || (a1o g 0 n.D && f.Result))) := by simp [opB, b2r, h, e, isB]
  rw [ho]
  by_cases h3 : n.Args.length = f.Params.length
  case neg =>
   have h3' : ((n.Args.length : Int) != (f.Params.length : Int)) = true := by simp; omega
   simp [h, h1, h2', e, h3, h3']
   intro hh; exact absurd zO h3
  have h3' : ((n.Args.length : Int) != (f.Params.length : Int)) = false := by simp [h3]
  simp [h, h1, h2', e, h3', h3, a0s]
  refine (a6y g f n.Args hpF h3 hp4 _).trans ?_
  cases ha : r9 (b3n g f) 0 n.Args with
  | false => simp
  | true =>
    cases a0 : a1o g 0 n.D <;> by_cases q : n.D = -1 <;> cases r : f.Result <;> simp [q, a0, r]
 ·refine (b6J g n h _).trans ?_
  simp only [r9, chk, h, a0s]
  cases a0 : a1o g 0 n.A <;> by_cases q : n.A = -1 <;> cases r : g.Result <;> simp [opB, isB, h, a0, q, r]
 ·refine (b6K g n h _).trans ?_
  have hc : r9 (fun i p => chk g ([45, 45, 45, 45].getD i 0) p) 0 [n.D, n.E, n.A, n.B] = true := by simp [r9, chk]
  rw [if_pos hc]
  by_cases h1 : n.F < 0
  ·have e : j9 all n.F = none := by unfold j9; rw [if_neg zO]
   have ho : opB all g n = false := by simp [opB, b2r, h, e]
   rw [ho]; simp [h, h1]
  obtain ⟨F, hF⟩ : ∃ i : Nat, n.F = (i : Int) := ⟨n.F.toNat, by omega⟩
  by_cases h2 : F < all.length
  case neg =>
   have h2' : n.F >= (all.length : Int) := by omega
   have e : j9 all n.F = none := by rw [hF, a1n]; exact List.getElem?_eq_none zO
   have ho : opB all g n = false := by simp [opB, b2r, h, e]
   rw [ho]; simp [h, h1, h2']
  have h2' : ¬ (n.F >= (all.length : Int)) := by omega
  have e : j9 all n.F = some all[F] := by rw [hF, a1n]; exact List.getElem?_eq_getElem h2
  obtain ⟨hpF, hp4⟩ := hp _ (List.getElem_mem h2)
  generalize all[F] = f at hpF hp4 e
  have ho : opB all g n = (decide (n.Args.length = f.Params.length) && r9 (b3n g f) 0 n.Args) := by simp [opB, b2r, h, e, isB]
  rw [ho]
  by_cases h3 : n.Args.length = f.Params.length
  case neg =>
   have h3' : ((n.Args.length : Int) != (f.Params.length : Int)) = true := by simp; omega
   simp [h, h1, h2', e, h3, h3']
   intro hh; exact absurd zO h3
  have h3' : ((n.Args.length : Int) != (f.Params.length : Int)) = false := by simp [h3]
  simp [h, h1, h2', e, h3', h3, a0s]
  refine (a6y g f n.Args hpF h3 hp4 _).trans ?_
  cases ha : r9 (b3n g f) 0 n.Args with
  | false => simp
  | true =>
    cases a0 : a1o g 0 n.D <;> by_cases q : n.D = -1 <;> cases r : f.Result <;> simp [q, a0, r]
 ·refine (b6L g n h _).trans ?_
  cases a0 : a1o g 0 n.A <;> simp [r9, chk, opB, isB, h, a0, a0s]
 ·refine (b6M g n h _).trans ?_
  cases a0 : a1o g 0 n.D <;> cases a1 : a1o g 0 n.E <;> by_cases q : n.D = n.E <;> simp [r9, chk, opB, isB, h, a0, a1, q]
 ·refine (b6N g n h _).trans ?_
  cases a0 : a1o g 0 n.D <;> simp [r9, chk, opB, isB, h, a0, a0s]
 ·refine (b6O g n h _).trans ?_
  cases a0 : a1o g 0 n.A <;> simp [r9, chk, opB, isB, h, a0, a0s]
 ·refine (b6P g n h _).trans ?_
  cases a0 : a1o g 0 n.A <;> simp [r9, chk, opB, isB, h, a0, a0s]
theorem b3L (G : l0) : l6 G false = some (a7T G) := by
 unfold l6 a7T
 simp only [jp]
 by_cases h1 : 1 <= G.Funcs.length
 case neg =>
  have h1' : (G.Funcs.length : Int) < 1 := by omega
  simp [h1, h1']
 have h1' : ¬ (G.Funcs.length : Int) < 1 := by omega
 by_cases h2 : G.Funcs.length <= 16
 case neg =>
  have h2' : (G.Funcs.length : Int) > 16 := by omega
  simp [h1', h2, h2']
 have h2' : ¬ (G.Funcs.length : Int) > 16 := by omega
 obtain ⟨f0, hf0⟩ : ∃ f, G.Funcs[0]? = some f := ⟨_, List.getElem?_eq_getElem (show 0 < G.Funcs.length by omega)⟩
 have hg0 : j9 G.Funcs 0 = some f0 := by
  have := a1n (l := G.Funcs) (i := 0)
  rw [hf0] at this; exact this
 have hm : b3p G = (decide (f0.Params.length = 0) && !f0.Result) := by unfold b3p; rw [hf0]
 simp only [h1', h2', decide_false, Bool.false_eq_true, if_false, hg0, Option.bind_some, h1, h2, and_self, decide_true, Bool.true_and, hm]
 by_cases h3 : f0.Params.length = 0
 case neg =>
  have h3' : ((f0.Params.length : Int) != 0) = true := by simp; intro e; exact h3 (by simp [e])
  simp [h3, h3']
 have h3' : ((f0.Params.length : Int) != 0) = false := by simp [h3]
 simp only [h3', Bool.false_eq_true, if_false, h3, decide_true, Bool.true_and]
 cases h4 : f0.Result with
 | true => simp
 | false =>
 simp only [Bool.false_eq_true, if_false, Bool.not_false, Bool.true_and]
 refine (a0k (xs := G.Funcs) () (fun _ f => a5E f) false zO (fun i f hx => ?_)).trans ?_
 ·simp only [b3J, Option.bind_some]
  cases a5E f <;> simp
 rw [a3P]
 cases h5 : G.Funcs.all a5E with
 | false => simp
 | true =>
 simp only [if_true, Bool.true_and]
 have hh : ∀ f ∈ G.Funcs, a5E f = true := List.all_eq_true.1 h5
 have hp : ∀ f ∈ G.Funcs, b3o f /\ f.Params.length <= 4 := fun f hf => ⟨(a3O (hh f hf)).2.2.1, (a3O (hh f hf)).2.1⟩
 refine (a0k (xs := G.Funcs) () (fun _ f => f.Nodes.all (a5F G.Funcs f)) false zO (fun i f hx => ?_)).trans ?_
 ·have hn := a3O (hh f (List.mem_of_getElem? hx))
  refine (a0k () (fun _ n => a5F G.Funcs f n) (Stp.ret (some false)) zO (fun j n hy => ?_)).trans ?_
  ·simp only [b3K _ _ _ hp, Option.bind_some]
   cases a5F G.Funcs f n <;> simp
  ·rw [a3P]
   cases f.Nodes.all (a5F G.Funcs f) <;> simp
 ·rw [a3P]
  cases (G.Funcs.all fun f => f.Nodes.all (a5F G.Funcs f)) <;> simp
theorem c2E {k : Int} (h : (Lit.int .u8 k).wf = true) : 0 <= k := by
 simp [Lit.wf, IntKind.min, IntKind.max, IntKind.bits, IntKind.signed] at h; omega
theorem c7E {p : Program} {o1 : Option a0P × Int} {o2 : List (List ByteArray) × Int} (h1 : c2V p o1) (h2 : c2r p o2) : o1.2 = o2.2 := by
 have g : a3k p = true -> encP p = true /\ a1J p = true /\ (a5I p && p.Funcs.all (a2m p)) = true := fun h => by
  unfold a3k at h
  simp only [Bool.and_eq_true] at h ⊢
  exact ⟨h.1, h.2.1, h.2.2⟩
 have ex : (∃ f ∈ p.Funcs, Bad p f) -> (∀ f ∈ p.Funcs, ∃ R, Sol p f R) -> False := fun ⟨f, hf, hb⟩ hs => by
  obtain ⟨R, hR⟩ := hs f hf
  exact hR.good hb
 have ed : (∃ f ∈ p.Funcs, Deep p f) -> (∀ f ∈ p.Funcs, ¬ Deep p f) -> False := fun ⟨f, hf, hd⟩ hn => hn f hf hd
 have s1 : ∀ {T : a0P}, (∀ (k : Nat) f, p.Funcs[k]? = some f -> ∃ rd st, T.Reached[k]? = some rd /\ T.Stacks[k]? = some st /\ a7V p f rd st) -> ∀ f ∈ p.Funcs, ∃ R, Sol p f R := fun h f hf => by
  obtain ⟨k, hk⟩ := List.getElem?_of_mem hf
  obtain ⟨_, _, _, _, R, hR, _⟩ := h k f hk
  exact ⟨R, hR⟩
 have s2 : ∀ {o : List (List ByteArray)}, (∀ (k : Nat) f, p.Funcs[k]? = some f -> ∃ l, o[k]? = some l /\ b6w p f l) -> ∀ f ∈ p.Funcs, ∃ R, Sol p f R := fun h f hf => by
  obtain ⟨k, hk⟩ := List.getElem?_of_mem hf
  obtain ⟨_, _, R, hR, _⟩ := h k f hk
  exact ⟨R, hR⟩
 rcases h1 with ⟨a1, rfl⟩ | ⟨a1, a2, rfl⟩ | ⟨a1, a2, a3, rfl⟩ | ⟨a1, a2, rfl⟩ | ⟨a1, a2, a3, rfl⟩ | ⟨a1, a2, T, rfl, a3, a4, a5⟩ <;>
  rcases h2 with ⟨b1, rfl⟩ | ⟨b1, b2, rfl⟩ | ⟨b1, b2, b3, rfl⟩ | ⟨b1, b2, rfl⟩ | ⟨b1, b2, b3, rfl⟩ | ⟨b1, b2, b0, b3, b4⟩ <;>
  first | rfl | (exact b0.symm) | (exfalso; first | (exact ex a2 b2) | (exact ex b2 a2) | (exact ex a2 (s2 b4)) | (exact ex b2 (s1 a5)) | (exact ed a3 b2) | (exact ed b3 a2) | (have := g b1; simp_all; done) | (have := g a1; simp_all; done) | (simp_all; done))
theorem b2m (p : Program) (hp : Program.Ok 1048576 p) : s9 1048577 p = some true := by
 have hs : ∀ f ∈ p.Funcs, f.Locals.length <= 1048576 /\ f.Code.length <= 1048576 := fun f hf => by
  have h1 := hp.2 f hf
  exact ⟨h1.2.1.1, h1.2.2.2.2.1⟩
 have hu : ∀ f ∈ p.Funcs, ∀ k ∈ f.Locals, 0 <= k := fun f hf k hk => c2E ((hp.2 f hf).2.1.2 k hk)
 obtain ⟨o, e, hk, hA, hB⟩ := b3y (fuel := 1048577) hp.1 hu
 obtain ⟨o2, ho2, hA2⟩ := b2f p hp.1 hu
 have he := c7E hA hA2
 unfold s9
 rw [show a0j 1048577 = some true from rfl, b6x p hp.1 hs]
 simp only [Option.bind_some, Bool.not_true, Bool.false_eq_true, if_false]
 rw [b6y p hp.1 hs]
 rcases hB with ⟨he0, hb⟩ | ⟨he0, gs, hb, hl, hall, hr⟩
 ·rw [hb]
  simp only [Option.bind_some, Bool.not_true, Bool.false_eq_true, if_false]
  rw [if_pos (by simpa using he0), ho2]
  simp only [Option.bind_some, jp]
  rw [if_pos (by simpa using he)]
  simp
 ·rw [hb]
  simp only [Option.bind_some, Bool.not_true, Bool.false_eq_true, if_false]
  rw [if_neg zS, b3L, hr]
  simp only [Option.bind_some, Bool.not_true, Bool.false_eq_true, if_false, jp]
  rw [if_neg (by simp [hl])]
  refine (a0k (xs := p.Funcs) () (fun _ _ => true) false (by have := hp.1; omega) (fun i f hf => ?_)).trans (by rw [if_pos (a2l.2 fun _ _ _ => rfl)])
  obtain ⟨F, g, hg, nds, rd, st, rfl, e1, _⟩ := hall i f hf
  obtain ⟨b1, b2, b3, b4, b5, b6⟩ := a0Y F
  have c1 : (((a2p f).Params.length : Nat) : Int) = f.Params := by show (((List.range f.Params.toNat).map fun (j : Nat) => (j : Int)).length : Int) = _; simp; omega
  have c2 : decide ((a2p f).Keep >= 0) = decide (f.Keep >= 0) := by
   show decide ((if 0 <= f.Keep then a0O f f.Keep.toNat else -1) >= 0) = _
   by_cases h : 0 <= f.Keep
   ·have hn : a3j f f.Keep.toNat = true := by unfold a3j; rw [Bool.or_eq_true]; exact .inl zE
    rw [if_pos h]; unfold a0O; rw [if_pos hn]; simp; omega
   ·rw [if_neg h]; simp; omega
  have c3 : decide (((nds.length : Nat) : Int) > I64 ((f.Code.length : Int) + 20)) = false := by
   rw [a1H zO]; simp; omega
  simp only [a1n, hg, Option.bind_some]
  rw [if_neg (by simp [c1])]
  rw [if_neg (show ¬ (!((a2p f).Result == f.Result)) = true by simp [a2p])]
  rw [if_neg (show ¬ (!(decide ((a2p f).Keep >= 0) == decide (f.Keep >= 0))) = true by rw [c2]; simp)]
  rw [c3]
  simp only [Bool.false_eq_true, if_false, if_true]
  refine (a0k (xs := (a2p f).Params) () (fun _ _ => true) (.ret (some false)) (by show ((List.range f.Params.toNat).map fun (j : Nat) => (j : Int)).length <= _; simp; omega) (fun j x hx => ?_)).trans (by rw [if_pos (a2l.2 fun _ _ _ => rfl)])
  have hj : j < f.Params.toNat := by
   have := (List.getElem?_eq_some_iff.1 (show ((List.range f.Params.toNat).map fun (j : Nat) => (j : Int))[j]? = some x from hx)).1
   simpa using this
  have hxe : x = (j : Int) := by
   have h9 : ((List.range f.Params.toNat).map fun (j : Nat) => (j : Int))[j]? = some x := hx
   simp [hj] at h9
   exact h9.symm
  subst hxe
  have hjl : j < f.Locals.length := by omega
  have hL : f.Locals[j]? = some f.Locals[j] := List.getElem?_eq_getElem hjl
  have hK : (a2p f).Kinds[j]? = some f.Locals[j] := by
   show (f.Locals ++ m7 16)[j]? = _
   rw [List.getElem?_append_left hjl]; exact hL
  simp only [a1n, hK, hL, Option.bind_some]
  simp
end Go.Proofs.Ytnpemocpfdgaoaa

