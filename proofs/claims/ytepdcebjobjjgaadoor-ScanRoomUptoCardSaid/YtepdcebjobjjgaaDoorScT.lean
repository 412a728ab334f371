/- g5 are the same as themselves. -/
import Derived.Test.YtepdcebjobjjgaaDoorGenS
import Derived.Test.YtepdcebjobjjgaaDoorWlH2
import Derived.Test.YtepdcebjobjjgaaDoorGenQ1
import Derived.Test.YtepdcebjobjjgaaDoorGenB
import Derived.WalkKit
import Derived.ProofKit
import Derived.OpenShut
import Derived.JoinedCond
import Derived.Test.YtepdcebjobjjgaaDoorWlTz
import Derived.Lib.LaidTab
import Derived.Deep.DeepHandedRow
set_option linter.unusedVariables false
set_option linter.unusedSimpArgs false
namespace Go.Proofs.YtepdcebjobjjgaaDoor
open Go Go.Ab
end Go.Proofs.YtepdcebjobjjgaaDoor

/- ScanRoom: the law. -/
namespace Go.Proofs.YtepdcebjobjjgaaDoor
open Go Go.Ab
structure SpF (g : b5) : Prop where
 kn : g.Kinds.length ≤ 1024
 n0 : 1 ≤ g.Nodes.length
 nn : g.Nodes.length ≤ 4096
 len : (y4 g).length ≤ g.Kinds.length
 inc : (y4 g).Pairwise fun x y => x.Place < y.Place
 mem : ∀ x ∈ y4 g, 0 ≤ x.Place ∧ x.Place < g.Kinds.length ∧ 0 ≤ x.From ∧ x.From ≤ x.To ∧ x.From < g.Nodes.length
 spans : u9 100000000000 g = some (y4 g)
theorem spF {G : g5} (hR : a1m G = true) {f : Int} {g : b5} (hgf : u6 G.Funcs f = some g) : SpF g := by
 obtain ⟨h0, h1, h2⟩ := j4 hgf
 obtain ⟨hg, hhd, hnd⟩ := a3o hR g (List.mem_of_getElem? h2)
 obtain ⟨hK, hp4, hpar, hn1, hN, he0, heN⟩ := a0K hhd
 obtain ⟨w, hw1, hw2, hw3, hwl⟩ := b2f hg hK hN he0 heN
 refine ⟨hK, hn1, hN, a5G g, b0m hg hpar hw1 hwl, fun x hx => ?_, b4N hg hpar hp4 he0 heN⟩
 obtain ⟨k, a1, a2, a3, a4, a5, a6⟩ := b1i hg hpar hw1 hwl hx
 refine ⟨by omega, by omega, a5, a6, ?_⟩
 rcases a4.ends with ⟨q, q2⟩ | ⟨⟨a, i, q, q2⟩, _⟩
 ·omega
 ·rcases q2 with ⟨_, b, _⟩ | ⟨b, _⟩
  ·omega
  ·omega
def inA (c : Int) (y : b6) : Bool := decide (y.From ≤ c) && decide (c ≤ y.To)
theorem b8M {g : b5} (F : SpF g) : ∃ b, a0f 100000000000 g = some b ∧ (b = true → (∀ x ∈ y4 g, ¬ (x.Held = true ∧ kd g.Kinds x = 1)) ∧ ∀ x ∈ y4 g, (b2L (y4 g) x.From).length ≤ 6) := by
 have hK := F.kn
 have hN := F.nn
 have hsl := F.len
 unfold a0f
 rw [F.spans]
 simp only [Option.bind_some]
 generalize hsp : y4 g = sp at *
 let P : Nat → Prop := fun a => (∀ x ∈ sp, ¬ (x.Held = true ∧ kd g.Kinds x = 1)) ∧ (sp.filter (inA (a : Int))).length ≤ 6
 have key : ∀ {β : Type} (F0 : Unit → Option Bool) (hF : F0 () = some true) (bd : Nat → Unit → Option (Stp Unit (Option Bool))), (∀ i : Nat, i < g.Nodes.length → (bd i () = some (.nxt ()) ∧ P i) ∨ bd i () = some (.ret (some false))) →
   ∃ b, (rni bd (g.Nodes.length : Int) ()).bind (oc F0) = some b ∧ (b = true → ∀ a, a < g.Nodes.length → P a) := fun F0 hF bd h => by
  obtain ⟨o, e, hq⟩ := b1F (body := bd) (n := (g.Nodes.length : Int)) (s0 := ()) (fun i _ => ∀ a, a < i → P a) (fun o => (o = .fin () ∧ ∀ a, a < g.Nodes.length → P a) ∨ o = .ret (some false)) zO (fun a ha => absurd ha (Nat.not_lt_zero a))
   (fun i _ hi hI => by
    rcases h i zO with ⟨e, hp⟩ | e
    ·exact .inl ⟨(), e, fun a ha => by
      by_cases q : a = i
      ·rw [q]; exact hp
      ·exact hI a zO⟩
    ·exact .inr ⟨_, e, .inr rfl⟩) (fun _ hI => .inl ⟨rfl, fun a ha => hI a (by simpa using ha)⟩)
  rw [e]
  rcases hq with ⟨rfl, hq⟩ | rfl
  ·exact ⟨true, hF, fun _ => hq⟩
  ·exact ⟨false, rfl, fun h => by cases h⟩
 obtain ⟨b, e, hb⟩ := key (β := Unit) (fun _ => some true) rfl (fun (i_3 : Nat) (s_2 : Unit) => (((rng (fun (i_5 : Nat) (s_6 : b6) (s_4 : Int) => ((jp (fun (s_9 : Bool) => (jp (fun (s_11 : Int) => (jp (fun (s_13 : Bool) => (if s_13 then (some (.ret (some (.ret (some false))))) else (some (.nxt s_11)))) (fun k_12 => (if s_6.Held then ((u6 g.Kinds s_6.Place).bind fun y_14 => (k_12 (y_14 == 1))) else (k_12 false))))) (fun k_10 => (if s_9 then (k_10 (I64 (s_4 + 1))) else (k_10 s_4))))) (fun k_8 => (if (decide (s_6.From ≤ (i_3 : Int))) then (k_8 (decide ((i_3 : Int) ≤ s_6.To))) else (k_8 false)))) : Option (Stp Int (Option (Stp Unit (Option Bool)))))) sp 0).bind (oc (fun (s_4 : Int) => (if (decide (s_4 > 6)) then (some (.ret (some false))) else (some (.nxt ())))))) : Option (Stp Unit (Option Bool)))) (fun a ha => by
  obtain ⟨o, e, hq⟩ := b6Z (xs := sp) (s0 := (0 : Int)) (body := (fun (i_5 : Nat) (s_6 : b6) (s_4 : Int) => ((jp (fun (s_9 : Bool) => (jp (fun (s_11 : Int) => (jp (fun (s_13 : Bool) => (if s_13 then (some (.ret (some (.ret (some false))))) else (some (.nxt s_11)))) (fun k_12 => (if s_6.Held then ((u6 g.Kinds s_6.Place).bind fun y_14 => (k_12 (y_14 == 1))) else (k_12 false))))) (fun k_10 => (if s_9 then (k_10 (I64 (s_4 + 1))) else (k_10 s_4))))) (fun k_8 => (if (decide (s_6.From ≤ (a : Int))) then (k_8 (decide ((a : Int) ≤ s_6.To))) else (k_8 false)))) : Option (Stp Int (Option (Stp Unit (Option Bool)))))))
   (fun j s => s = (((sp.take j).filter (inA (a : Int))).length : Int) ∧ ∀ x ∈ sp.take j, ¬ (x.Held = true ∧ kd g.Kinds x = 1)) (fun o => (∃ s, o = .fin s ∧ s = ((sp.filter (inA (a : Int))).length : Int) ∧ ∀ x ∈ sp, ¬ (x.Held = true ∧ kd g.Kinds x = 1)) ∨ o = .ret (some (.ret (some false)))) zO ⟨by simp, fun x hx => by simp at hx⟩
   (fun j x s hx hI => by
    obtain ⟨hI1, hI2⟩ := hI
    obtain ⟨ht, hd⟩ := a9h hx
    have hxm := List.mem_of_getElem? hx
    obtain ⟨m1, m2, m3, m4, m5⟩ := F.mem x (by rw [hsp]; exact hxm)
    have hkd : u6 g.Kinds x.Place = some (kd g.Kinds x) := by
     rw [b3L m1 zO]
     unfold kd
     rw [List.getD_eq_getElem?_getD, List.getElem?_eq_getElem zO]; rfl
    have hle : ((sp.take j).filter (inA (a : Int))).length ≤ 1024 := by
     have q1 := List.length_filter_le (inA (a : Int)) (sp.take j)
     rw [List.length_take] at q1; omega
    have hcnt : (((sp.take (j + 1)).filter (inA (a : Int))).length : Int) = if inA (a : Int) x = true then s + 1 else s := by
     rw [ht, List.filter_append, List.length_append, hI1]
     by_cases q : inA (a : Int) x = true
     ·rw [if_pos q, List.filter_cons, if_pos q]; simp
     ·rw [if_neg q, List.filter_cons, if_neg q]; simp
    have hI64 : I64 (s + 1) = s + 1 := a3v zO
    by_cases hb : x.Held = true ∧ kd g.Kinds x = 1
    ·right
     refine ⟨_, ?_, .inr rfl⟩
     simp only [jp, hb.1, if_true, hkd, Option.bind_some, hb.2]
     by_cases q1 : x.From ≤ (a : Int) <;> by_cases q2 : (a : Int) ≤ x.To <;> simp [q1, q2]
    ·left
     refine ⟨if inA (a : Int) x = true then s + 1 else s, ?_, hcnt.symm, fun y hy => ?_⟩
     ·simp only [jp, hI64, hkd, Option.bind_some, inA]
      by_cases hh : x.Held = true
      ·have h1 : kd g.Kinds x ≠ 1 := fun e => hb ⟨hh, e⟩
       by_cases q1 : x.From ≤ (a : Int) <;> by_cases q2 : (a : Int) ≤ x.To <;> simp [hh, h1, q1, q2]
      ·by_cases q1 : x.From ≤ (a : Int) <;> by_cases q2 : (a : Int) ≤ x.To <;> simp [hh, q1, q2]
     ·rw [ht] at hy
      rcases List.mem_append.1 hy with hy | hy
      ·exact hI2 y hy
      ·simp at hy; rw [hy]; exact hb)
   (fun s hI => .inl ⟨s, rfl, by rw [hI.1, List.take_length], by have := hI.2; rwa [List.take_length] at this⟩)
  simp only [e, Option.bind_some]
  rcases hq with ⟨s, rfl, hs, hno⟩ | rfl
  ·by_cases h6 : s > 6
   ·right; simp [oc, h6]
   ·left
    refine ⟨by simp [oc, h6], hno, by omega⟩
  ·right; rfl)
 refine ⟨b, e, fun hbt => ⟨(hb hbt 0 (by have := F.n0; omega)).1, fun x hx => ?_⟩⟩
 obtain ⟨m1, m2, m3, m4, m5⟩ := F.mem x (by rw [hsp]; exact hx)
 have := (hb hbt x.From.toNat zO).2
 rw [Int.toNat_of_nonneg m3] at this
 exact this
theorem b6H (G : g5) (f : Int) (hp : b9g G = true) : v7 100000000000 G f = some true := by
 unfold v7 a0Z
 rw [b8L, if_pos hp]
 simp only [Option.bind_some, Bool.not_true, Bool.false_eq_true, if_false]
 have hpos := a6z.1 hp
 have hnil : ∀ (h : ¬ ∃ g, a1m G = true ∧ u6 G.Funcs f = some g), b0r G f = [] := fun h => by
  unfold b0r; rw [dif_neg]; rintro ⟨l, _, h1, g, h2, _⟩; exact h ⟨g, h1, h2⟩
 by_cases hR : a1m G = true
 ·cases hgf : u6 G.Funcs f with
  | none =>
    have e : b0n G f = 2 := by unfold b0n; rw [if_pos hR, hgf]
    rw [e, hnil (by rintro ⟨g, _, h⟩; rw [hgf] at h; cases h)]; rfl
  | some g =>
    have e : b0n G f = 0 := by unfold b0n; rw [if_pos hR, hgf]
    obtain ⟨m, c, h, S, hmp, H, room⟩ := (a9i hpos hR hgf).1
    obtain ⟨b, e1, hb⟩ := b8M (spF hR hgf)
    rw [e]
    simp only [bne_self_eq_false, Bool.false_eq_true, if_false, Option.bind_some]
    rw [e1]
    simp only [Option.bind_some]
    cases b with
    | false => rfl
    | true =>
      obtain ⟨n1, n2⟩ := hb rfl
      obtain ⟨_, r2⟩ := room n1 n2
      have hK := (spF hR hgf).kn
      have hol := H.ol
      simp only [Bool.not_true, Bool.false_eq_true, if_false]
      refine b1Z (fun _ _ => True) zO trivial (fun i v _ hv _ => ⟨(), ?_, trivial⟩) (fun _ _ => rfl)
      have := r2 v (List.mem_of_getElem? hv)
      simp; omega
 ·have e : b0n G f = 70 := by unfold b0n; rw [if_neg hR]
  rw [e, hnil (by rintro ⟨g, h, _⟩; exact hR h)]; rfl
end Go.Proofs.YtepdcebjobjjgaaDoor

/- How arguments are read. -/
namespace Go.Proofs.YtepdcebjobjjgaaDoor
open Go Go.Ab Go.RowKit
set_option maxRecDepth 20000
theorem b4Y {H : Type} {d : DataW H} {l : List (DataW H)} (h : d ∈ l) : Rows.uptoBulk d ≤ Rows.uptoBulkAll l := by
 induction l with
 | nil => cases h
 | cons x r ih =>
   simp only [Rows.uptoBulkAll]
   rcases List.mem_cons.1 h with e | e
   ·subst e; omega
   ·have := ih e; omega
theorem c1x {H : Type} (d : DataW H) : 1 ≤ Rows.uptoBulk d := by
 cases d with
 | lit l => cases l <;> simp [Rows.uptoBulk]
 | _ => simp [Rows.uptoBulk]
theorem b4Z {H : Type} (l : List (DataW H)) : l.length ≤ Rows.uptoBulkAll l := by
 induction l with
 | nil => simp [Rows.uptoBulkAll]
 | cons x r ih => have := c1x x; simp only [Rows.uptoBulkAll, List.length_cons]; omega
theorem c3o {H : Type} : c2e (H := H) Rows.uptoBulk :=
 ⟨fun bytes => by simp [Rows.uptoBulk], fun e s => by have := b4Z e; simp only [Rows.uptoBulk]; omega, fun e s d h => by have := b4Y h; simp only [Rows.uptoBulk]; omega, fun p d h => by have := b4Y h; simp only [Rows.uptoBulk]; omega⟩

theorem a2v : Tryd.prog.cellsOf 3 = 1 := by kernel_rfl
theorem b8N : Tryd.prog.cellsOf 49 = 1 := by kernel_rfl
theorem b8O : Tryd.prog.cellsOf 39 = 1 := by kernel_rfl
theorem b8P : Tryd.prog.cellsOf 40 = 1 := by kernel_rfl
theorem b8Q : Tryd.prog.cellsOf 41 = 1 := by kernel_rfl
theorem b1k : Tryd.prog.cellsOf 26 = 1 := by kernel_rfl
theorem b5a : Tryd.prog.cellsOf 43 = 12 := by kernel_rfl
def i7.Ok (N : Nat) (x : i7) : Prop := (fun n => (Lit.int .u8 n).wf = true) x.Op ∧ (fun n => (Lit.int .u8 n).wf = true) x.By ∧ (fun n => (Lit.int .i64 n).wf = true) x.D ∧ (fun n => (Lit.int .i64 n).wf = true) x.E ∧ (fun n => (Lit.int .i64 n).wf = true) x.A ∧ (fun n => (Lit.int .i64 n).wf = true) x.B ∧ (fun n => (Lit.int .i64 n).wf = true) x.F ∧ (fun n => (Lit.int .i64 n).wf = true) x.Cell ∧ (fun n => (Lit.int .u64 n).wf = true) x.Imm ∧ (fun l => List.length l ≤ N ∧ ∀ a ∈ l, (fun n => (Lit.int .i64 n).wf = true) a) x.Args ∧ (fun n => (Lit.int .i64 n).wf = true) x.Next ∧ (fun n => (Lit.int .i64 n).wf = true) x.Else
theorem i7.rd {N : Nat} : Rd Tryd.prog N i7.av (i7.Ok N) 43 := by
 intro avs ht
 obtain ⟨hl, hf⟩ := a6X Tryd.underlying43 ht
 have e0 : Ty Tryd.prog N 39 ((avs.drop 0).take (Tryd.prog.cellsOf 39)) := hf 0 _ rfl
 rw [b8O] at e0
 obtain ⟨a0, h0, q0⟩ := (rdI Tryd.underlying39) _ e0
 have e1 : Ty Tryd.prog N 40 ((avs.drop 1).take (Tryd.prog.cellsOf 40)) := hf 1 _ rfl
 rw [b8P] at e1
 obtain ⟨a1, h1, q1⟩ := (rdI Tryd.underlying40) _ e1
 have e2 : Ty Tryd.prog N 3 ((avs.drop 2).take (Tryd.prog.cellsOf 3)) := hf 2 _ rfl
 rw [a2v] at e2
 obtain ⟨a2, h2, q2⟩ := (rdI Tryd.underlying3) _ e2
 have e3 : Ty Tryd.prog N 3 ((avs.drop 3).take (Tryd.prog.cellsOf 3)) := hf 3 _ rfl
 rw [a2v] at e3
 obtain ⟨a3, h3, q3⟩ := (rdI Tryd.underlying3) _ e3
 have e4 : Ty Tryd.prog N 3 ((avs.drop 4).take (Tryd.prog.cellsOf 3)) := hf 4 _ rfl
 rw [a2v] at e4
 obtain ⟨a4, h4, q4⟩ := (rdI Tryd.underlying3) _ e4
 have e5 : Ty Tryd.prog N 3 ((avs.drop 5).take (Tryd.prog.cellsOf 3)) := hf 5 _ rfl
 rw [a2v] at e5
 obtain ⟨a5, h5, q5⟩ := (rdI Tryd.underlying3) _ e5
 have e6 : Ty Tryd.prog N 3 ((avs.drop 6).take (Tryd.prog.cellsOf 3)) := hf 6 _ rfl
 rw [a2v] at e6
 obtain ⟨a6, h6, q6⟩ := (rdI Tryd.underlying3) _ e6
 have e7 : Ty Tryd.prog N 3 ((avs.drop 7).take (Tryd.prog.cellsOf 3)) := hf 7 _ rfl
 rw [a2v] at e7
 obtain ⟨a7, h7, q7⟩ := (rdI Tryd.underlying3) _ e7
 have e8 : Ty Tryd.prog N 41 ((avs.drop 8).take (Tryd.prog.cellsOf 41)) := hf 8 _ rfl
 rw [b8Q] at e8
 obtain ⟨a8, h8, q8⟩ := (rdI Tryd.underlying41) _ e8
 have e9 : Ty Tryd.prog N 26 ((avs.drop 9).take (Tryd.prog.cellsOf 26)) := hf 9 _ rfl
 rw [b1k] at e9
 obtain ⟨a9, h9, q9⟩ := (rdL (d8 .i64) (fun fs h => by rw [Tryd.underlying3] at h; cases h) Tryd.underlying26 a2v (rdI Tryd.underlying3)) _ e9
 have e10 : Ty Tryd.prog N 3 ((avs.drop 10).take (Tryd.prog.cellsOf 3)) := hf 10 _ rfl
 rw [a2v] at e10
 obtain ⟨a10, h10, q10⟩ := (rdI Tryd.underlying3) _ e10
 have e11 : Ty Tryd.prog N 3 ((avs.drop 11).take (Tryd.prog.cellsOf 3)) := hf 11 _ rfl
 rw [a2v] at e11
 obtain ⟨a11, h11, q11⟩ := (rdI Tryd.underlying3) _ e11
 refine ⟨⟨a0, a1, a2, a3, a4, a5, a6, a7, a8, a9, a10, a11⟩, ?_, ⟨q0, q1, q2, q3, q4, q5, q6, q7, q8, q9, q10, q11⟩⟩
 have := (a0x h0 (a0x h1 (a0x h2 (a0x h3 (a0x h4 (a0x h5 (a0x h6 (a0x h7 (a0x h8 (a0x h9 (a0x h10 (a0x h11 (b3N (hl.trans b5a))))))))))))))
 exact this
theorem b8R : Tryd.prog.cellsOf 32 = 1 := by kernel_rfl
theorem c1y : Tryd.prog.cellsOf 4 = 1 := by kernel_rfl
theorem b8S : Tryd.prog.cellsOf 33 = 1 := by kernel_rfl
theorem b5b : Tryd.prog.cellsOf 35 = 8 := by kernel_rfl
def b5.Ok (N : Nat) (x : b5) : Prop := (fun l => List.length l ≤ N ∧ ∀ a ∈ l, (fun n => (Lit.int .i64 n).wf = true) a) x.Params ∧ (fun l => List.length l ≤ N ∧ ∀ a ∈ l, (fun n => (Lit.int .u8 n).wf = true) a) x.Kinds ∧ (fun n => (Lit.int .i64 n).wf = true) x.Cells ∧ (fun l => List.length l ≤ N ∧ ∀ a ∈ l, (fun n => (Lit.int .i64 n).wf = true) a) x.Init ∧ (fun _ => True) x.Result ∧ (fun n => (Lit.int .i64 n).wf = true) x.Keep ∧ (fun l => List.length l ≤ N ∧ ∀ a ∈ l, (i7.Ok N) a) x.Nodes ∧ (fun n => (Lit.int .i64 n).wf = true) x.Entry
theorem b5.rd {N : Nat} : Rd Tryd.prog N b5.av (b5.Ok N) 35 := by
 intro avs ht
 obtain ⟨hl, hf⟩ := a6X Tryd.underlying35 ht
 have e0 : Ty Tryd.prog N 26 ((avs.drop 0).take (Tryd.prog.cellsOf 26)) := hf 0 _ rfl
 rw [b1k] at e0
 obtain ⟨a0, h0, q0⟩ := (rdL (d8 .i64) (fun fs h => by rw [Tryd.underlying3] at h; cases h) Tryd.underlying26 a2v (rdI Tryd.underlying3)) _ e0
 have e1 : Ty Tryd.prog N 32 ((avs.drop 1).take (Tryd.prog.cellsOf 32)) := hf 1 _ rfl
 rw [b8R] at e1
 obtain ⟨a1, h1, q1⟩ := (rdL (d8 .u8) (fun fs h => by rw [Tryd.underlying49] at h; cases h) Tryd.underlying32 b8N (rdI Tryd.underlying49)) _ e1
 have e2 : Ty Tryd.prog N 3 ((avs.drop 2).take (Tryd.prog.cellsOf 3)) := hf 2 _ rfl
 rw [a2v] at e2
 obtain ⟨a2, h2, q2⟩ := (rdI Tryd.underlying3) _ e2
 have e3 : Ty Tryd.prog N 26 ((avs.drop 3).take (Tryd.prog.cellsOf 26)) := hf 3 _ rfl
 rw [b1k] at e3
 obtain ⟨a3, h3, q3⟩ := (rdL (d8 .i64) (fun fs h => by rw [Tryd.underlying3] at h; cases h) Tryd.underlying26 a2v (rdI Tryd.underlying3)) _ e3
 have e4 : Ty Tryd.prog N 4 ((avs.drop 4).take (Tryd.prog.cellsOf 4)) := hf 4 _ rfl
 rw [c1y] at e4
 obtain ⟨a4, h4, q4⟩ := (rdB Tryd.underlying4) _ e4
 have e5 : Ty Tryd.prog N 3 ((avs.drop 5).take (Tryd.prog.cellsOf 3)) := hf 5 _ rfl
 rw [a2v] at e5
 obtain ⟨a5, h5, q5⟩ := (rdI Tryd.underlying3) _ e5
 have e6 : Ty Tryd.prog N 33 ((avs.drop 6).take (Tryd.prog.cellsOf 33)) := hf 6 _ rfl
 rw [b8S] at e6
 obtain ⟨a6, h6, q6⟩ := (rdL i7.enc ⟨_, Tryd.underlying43⟩ Tryd.underlying33 b5a i7.rd) _ e6
 have e7 : Ty Tryd.prog N 3 ((avs.drop 7).take (Tryd.prog.cellsOf 3)) := hf 7 _ rfl
 rw [a2v] at e7
 obtain ⟨a7, h7, q7⟩ := (rdI Tryd.underlying3) _ e7
 refine ⟨⟨a0, a1, a2, a3, a4, a5, a6, a7⟩, ?_, ⟨q0, q1, q2, q3, q4, q5, q6, q7⟩⟩
 have := (a0x h0 (a0x h1 (a0x h2 (a0x h3 (a0x h4 (a0x h5 (a0x h6 (a0x h7 (b3N (hl.trans b5b))))))))))
 exact this
theorem b8T : Tryd.prog.cellsOf 22 = 1 := by kernel_rfl
theorem b8U : Tryd.prog.cellsOf 24 = 1 := by kernel_rfl
def g5.Ok (N : Nat) (x : g5) : Prop := (fun l => List.length l ≤ N ∧ ∀ a ∈ l, (b5.Ok N) a) x.Funcs
theorem g5.rd {N : Nat} : Rd Tryd.prog N g5.av (g5.Ok N) 24 := by
 intro avs ht
 obtain ⟨hl, hf⟩ := a6X Tryd.underlying24 ht
 have e0 : Ty Tryd.prog N 22 ((avs.drop 0).take (Tryd.prog.cellsOf 22)) := hf 0 _ rfl
 rw [b8T] at e0
 obtain ⟨a0, h0, q0⟩ := (rdL b5.enc ⟨_, Tryd.underlying35⟩ Tryd.underlying22 b5b b5.rd) _ e0
 refine ⟨⟨a0⟩, ?_, q0⟩
 have := (a0x h0 (b3N (hl.trans b8U)))
 exact this

theorem own : ownKnob Tryd.prog.godebug = none := by kernel_rfl
theorem b5c : laidOutB Tryd.prog = true := by kernel_rfl
end Go.Proofs.YtepdcebjobjjgaaDoor

/- ScanRoom b5m its readings. -/
namespace Go.Proofs.YtepdcebjobjjgaaDoor
open Go Go.Ab
theorem okp {N : Nat} {G : g5} (h : g5.Ok N G) : b9g G = true := by
 refine a6z.2 (fun g hg k hk => ?_)
 have h1 := (h.2 g hg).2.1.2 k hk
 simp [Lit.wf, IntKind.min, IntKind.max, IntKind.bits, IntKind.signed] at h1; omega
theorem b5d (G : g5) (f : Int) (hG : g5.Ok 1048576 G) (hf : (Lit.int .i64 f).wf = true) : v7 100000000000 G f = some true := b6H G f (okp hG)
end Go.Proofs.YtepdcebjobjjgaaDoor

/- From the row's list to the settings: the table for the trailing zeros. -/
namespace Go.Proofs.YtepdcebjobjjgaaDoor
open Go Go.Ab Go.RowKit
set_option maxRecDepth 20000
theorem b8V : (Rows.laid_math_bits_deBruijn64tab : DataW Unit) = Lib.tabData .u8 tzT := by kernel_rfl
theorem b8W {P : Program} {W : World} {nm : String} {k : IntKind} {zs : List Int} {b : Nat} (hg : P.globalNamed nm = some b) (h : Lib.TabIs P W nm k zs) : ∃ t fz, W.heap[b]? = some (.cells (zs.map fun z => Value.int k z).toArray t fz) := by
 unfold Lib.TabIs World.var? at h
 rw [hg, Option.bind_some] at h
 cases e2 : W.heap[b]? with
 | none => rw [e2] at h; cases h
 | some o =>
   rw [e2] at h
   cases o with
   | cells c t fz => cases h; exact ⟨t, fz, rfl⟩
   | _ => cases h
theorem c1z {nm : String} (h0 : Tryd.prog.globalNamed nm = some 0) {W : World} (h : laidMet Tryd.prog [(nm, Rows.laid_math_bits_deBruijn64tab)] W) : b2g W.heap.size W := by
 have h' := h
 rw [b8V] at h'
 have hp := Lib.tabIs_of_head (rest := []) h0 (t := 147) (e := 5) (n := 64) zK Tryd.underlying147 Tryd.underlying5 zK zK h'
 obtain ⟨t, fz, q⟩ := b8W h0 hp
 intro b p e
 match b, e with
 | 0, e => cases Option.some.inj e; exact ⟨(Array.getElem?_eq_some_iff.1 q).1, _, t, fz, q, rfl⟩
 | n + 1, e => cases e
end Go.Proofs.YtepdcebjobjjgaaDoor

