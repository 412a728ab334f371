/- LiveSets: the law. -/
import Derived.Test.YtgoejecjmodjiaaDoorGenM
import Derived.Test.YtgoejecjmodjiaaDoorGenB
import Derived.Test.YtgoejecjmodjiaaDoorWlH2
import Derived.WalkKit
import Derived.ProofKit
import Derived.OpenShut
import Derived.JoinedCond
import Derived.Test.YtgoejecjmodjiaaDoorWlTz
import Derived.Lib.LaidTab
import Derived.Deep.DeepHandedRow
namespace Go.Proofs.YtgoejecjmodjiaaDoor
open Go Go.Ab
set_option linter.unusedVariables false
set_option linter.unusedSimpArgs false
variable {g : Graph}
theorem first_eq : windlasslaw11_first_s 100000000000 = some true := by kernel_rfl
theorem ints_self (a : List Int) (ha : a.length ≤ 4611686018427387904) : windlassref07_SameInts_s a a = some true := by
  unfold windlassref07_SameInts_s
  rw [if_neg (by simp)]
  refine (rni_check (xs := a) a (fun _ _ => true) false ha (fun i x hx => ?_)).trans ?_
  · simp only [getI_n, hx, Option.bind_some]; simp
  · rw [allIx_all]; simp
theorem lists_self (a : List (List Int)) (ha : a.length ≤ 4611686018427387904) (hb : ∀ l ∈ a, l.length ≤ 4611686018427387904) : windlassref11_SameLists_s a a = some true := by
  unfold windlassref11_SameLists_s
  rw [if_neg (by simp)]
  refine (rni_check (xs := a) a (fun _ _ => true) false ha (fun i x hx => ?_)).trans ?_
  · simp only [getI_n, hx, Option.bind_some, ints_self x (hb x (List.mem_of_getElem? hx))]; simp
  · rw [allIx_all]; simp
theorem setL_len (K : Nat) (A : Nat → Bool) : (setL K A).length ≤ K := by
  unfold setL; rw [List.length_map]; exact Nat.le_trans (List.length_filter_le _ _) (by simp)
theorem mem_setL {K : Nat} {A : Nat → Bool} {p : Nat} : (p : Int) ∈ setL K A ↔ p < K ∧ A p = true := by
  unfold setL
  simp only [List.mem_map, List.mem_filter, List.mem_range]
  constructor
  · rintro ⟨q, h, e⟩
    have : q = p := by omega
    subst this; exact h
  · intro h; exact ⟨p, h, rfl⟩
theorem inL_get (g : Graph) {t : Nat} (h : t < g.Nodes.length) : getI (inL g) (t : Int) = some (setL g.Kinds.length (lvB g t)) := by
  rw [getI_n]; unfold inL; simp [h]
theorem lvB_iff {g : Graph} {i p : Nat} : lvB g i p = true ↔ Lv g i p := by unfold lvB; exact @decide_eq_true_iff _ (Classical.propDecidable _)
theorem bhB_iff {g : Graph} {i p : Nat} : bhB g i p = true ↔ Bh g i p := by unfold bhB; exact @decide_eq_true_iff _ (Classical.propDecidable _)
theorem setL_succ (k : Nat) (A : Nat → Bool) : setL (k + 1) A = setL k A ++ (if A k = true then [(k : Int)] else []) := by
  unfold setL
  rw [List.range_succ, List.filter_append, List.map_append]
  congr 1
  simp only [List.filter_cons, List.filter_nil]
  cases A k <;> simp
theorem rOut_ok (hg : GoodG g) {fuel : Nat} (hf : 10000000 ≤ fuel) : windlassref11_Out_s fuel g = some (outL g) := by
  unfold windlassref11_Out_s
  rw [rIn_ok hg hf]
  simp only [Option.bind_some]
  have hN := hg.nn; have hK := hg.kn
  have := rng_inv (xs := g.Nodes) (s0 := ([] : List (List Int))) (body := (fun (i_3 : Nat) (n_4 : Node) (s_2 : (List (List Int))) => (((rni (fun (i_7 : Nat) (s_6 : (List Int)) => (((windlassref07_Next_s n_4).bind fun nex_8 => ((rng (fun (i_10 : Nat) (vto_11 : Int) (s_9 : Bool) => ((if s_9 then (some (.nxt true)) else ((getI (inL g) vto_11).bind fun y_13 => ((windlassref07_In_s y_13 (i_7 : Int)).bind fun vin_14 => (some (.nxt vin_14))))) : Option (Stp Bool (Option (Stp (List Int) (Option (Stp (List (List Int)) (Option (List (List Int)))))))))) nex_8 false).bind (oc (fun (s_9 : Bool) => (if s_9 then ((appL 8 s_6 [(i_7 : Int)]).bind fun l_15 => (some (.nxt l_15))) else (some (.nxt s_6))))))) : Option (Stp (List Int) (Option (Stp (List (List Int)) (Option (List (List Int)))))))) (List.length g.Kinds : Int) []).bind (oc (fun (s_6 : (List Int)) => ((appL 24 s_2 [s_6]).bind fun l_16 => (some (.nxt l_16)))))) : Option (Stp (List (List Int)) (Option (List (List Int)))))))
    (fun _ => true) none (fun k o => o = (List.range k).map fun i => setL g.Kinds.length (bhB g i)) (by omega) rfl (fun i n o hn ho => by
    simp only [if_true]
    have hi : i < g.Nodes.length := (List.getElem?_eq_some_iff.1 hn).1
    have eN : nxt g i = nextL n := by unfold nxt; rw [hn]
    obtain ⟨l, e1, e2⟩ := rni_inv (n := (List.length g.Kinds : Int)) (s0 := ([] : List Int)) (body := (fun (i_7 : Nat) (s_6 : (List Int)) => (((windlassref07_Next_s n).bind fun nex_8 => ((rng (fun (i_10 : Nat) (vto_11 : Int) (s_9 : Bool) => ((if s_9 then (some (.nxt true)) else ((getI (inL g) vto_11).bind fun y_13 => ((windlassref07_In_s y_13 (i_7 : Int)).bind fun vin_14 => (some (.nxt vin_14))))) : Option (Stp Bool (Option (Stp (List Int) (Option (Stp (List (List Int)) (Option (List (List Int)))))))))) nex_8 false).bind (oc (fun (s_9 : Bool) => (if s_9 then ((appL 8 s_6 [(i_7 : Int)]).bind fun l_15 => (some (.nxt l_15))) else (some (.nxt s_6))))))) : Option (Stp (List Int) (Option (Stp (List (List Int)) (Option (List (List Int)))))))))
      (fun k l => l = setL k (bhB g i)) (by omega) rfl (fun p l hp hl => by
      have hp' : p < g.Kinds.length := by omega
      have := rng_inv (xs := nextL n) (s0 := false) (body := (fun (i_10 : Nat) (vto_11 : Int) (s_9 : Bool) => ((if s_9 then (some (.nxt true)) else ((getI (inL g) vto_11).bind fun y_13 => ((windlassref07_In_s y_13 (p : Int)).bind fun vin_14 => (some (.nxt vin_14))))) : Option (Stp Bool (Option (Stp (List Int) (Option (Stp (List (List Int)) (Option (List (List Int))))))))))) (fun _ => true) none
        (fun k b => b = (((nextL n).take k).any fun to => lvB g to.toNat p)) (by have := nextL_len n; omega) (by simp) (fun k to b hx hb => by
        simp only [if_true]
        have hto := hg.nx i to (by rw [eN]; exact List.mem_of_getElem? hx)
        obtain ⟨t, rfl⟩ : ∃ t : Nat, to = (t : Int) := ⟨to.toNat, by omega⟩
        rw [take_snoc hx, List.any_append, List.any_cons, List.any_nil, Bool.or_false, ← hb]
        cases b with
        | true => exact ⟨true, by simp, by simp⟩
        | false =>
          simp only [Bool.false_eq_true, if_false, inL_get g (t := t) (by omega), Option.bind_some, rIn_eq (setL g.Kinds.length (lvB g t)) (p : Int) (Nat.le_trans (setL_len _ _) (by omega))]
          refine ⟨_, rfl, ?_⟩
          rw [Int.toNat_natCast, Bool.false_or]
          cases hb : lvB g t p with
          | true => exact decide_eq_true (mem_setL.2 ⟨hp', hb⟩)
          | false => exact decide_eq_false (fun q => by have := (mem_setL.1 q).2; rw [hb] at this; cases this))
      rw [if_pos (by simp)] at this
      obtain ⟨b, b1, b2⟩ := this
      rw [List.take_length] at b2
      have hbb : b = bhB g i p := by
        rw [b2]
        cases hb : bhB g i p with
        | true =>
          obtain ⟨t, t1, t2⟩ := bhB_iff.1 hb
          rw [List.any_eq_true]
          exact ⟨(t : Int), by rw [← eN]; exact t1, lvB_iff.2 (by simpa using t2)⟩
        | false =>
          rw [List.any_eq_false]
          intro to hto q
          have hr := hg.nx i to (by rw [eN]; exact hto)
          have : bhB g i p = true := bhB_iff.2 ⟨to.toNat, by rw [Int.toNat_of_nonneg hr.1, eN]; exact hto, lvB_iff.1 q⟩
          rw [hb] at this; cases this
      simp only [rNext_eq, Option.bind_some, b1, oc, hbb]
      rw [setL_succ]
      have hll : l.length ≤ p := by rw [hl]; exact setL_len _ _
      cases bhB g i p with
      | true =>
        refine ⟨l ++ [(p : Int)], ?_, by rw [hl]; simp⟩
        simp only [if_true]
        rw [appL_of (by simp; omega)]; rfl
      | false => exact ⟨l, by simp, by rw [hl]; simp⟩)
    refine ⟨o ++ [setL g.Kinds.length (bhB g i)], ?_, by rw [List.range_succ, List.map_append, ← ho]; rfl⟩
    rw [e1]
    simp only [Option.bind_some, oc]
    rw [e2, appL_of (by rw [ho]; simp; omega), Int.toNat_natCast]; rfl)
  rw [if_pos (by simp)] at this
  obtain ⟨s', e1, e2⟩ := this
  rw [e1]
  simp only [Option.bind_some, oc, e2]
  rfl
theorem sets_law (G : Graphs) (f : Int) : windlasslaw11_LiveSets_s 100000000000 G f = some true := by
  unfold windlasslaw11_LiveSets_s
  rw [first_eq]
  simp only [Option.bind_some, Bool.not_true, Bool.false_eq_true, if_false]
  have hc := live_check_eq G f
  cases hr : RightB G with
  | false =>
    rw [hr] at hc
    simp only [Bool.false_eq_true, if_false] at hc
    obtain ⟨a, b⟩ := In_err hc (by decide) (fuel := 100000000000)
    rw [a, b]
    simp only [Option.bind_some, Right_eq, hr, Bool.not_false, if_true, jp]
    decide
  | true =>
    rw [hr] at hc
    simp only [if_true] at hc
    by_cases h1 : 0 ≤ f ∧ f < G.Funcs.length
    · rw [if_pos h1] at hc
      obtain ⟨i, hi⟩ : ∃ i : Nat, f = (i : Int) := ⟨f.toNat, by omega⟩
      have hi2 : i < G.Funcs.length := by omega
      have hget : getI G.Funcs f = some G.Funcs[i] := by rw [hi, getI_n]; exact List.getElem?_eq_getElem hi2
      have hg := (RightB_good hr _ (List.getElem_mem hi2)).1
      generalize G.Funcs[i] = g at hget hg
      rw [In_ok hc hget hg (Nat.le_refl _), Out_ok hc hget hg (Nat.le_refl _)]
      have l1 : ∀ l ∈ inL g, l.length ≤ 4611686018427387904 := fun l hl => by
        unfold inL at hl
        obtain ⟨q, _, rfl⟩ := List.mem_map.1 hl
        have := hg.kn
        exact Nat.le_trans (setL_len _ _) (by omega)
      have l2 : ∀ l ∈ outL g, l.length ≤ 4611686018427387904 := fun l hl => by
        unfold outL at hl
        obtain ⟨q, _, rfl⟩ := List.mem_map.1 hl
        have := hg.kn
        exact Nat.le_trans (setL_len _ _) (by omega)
      have n1 : (inL g).length ≤ 4611686018427387904 := by unfold inL; have := hg.nn; simp; omega
      have n2 : (outL g).length ≤ 4611686018427387904 := by unfold outL; have := hg.nn; simp; omega
      have f1 : ¬ f < 0 := by omega
      have f2 : ¬ f ≥ (G.Funcs.length : Int) := by omega
      simp [Right_eq, hr, jp, f1, f2, hget, rIn_ok hg (fuel := 100000000000) (by omega), rOut_ok hg (fuel := 100000000000) (by omega), lists_self _ n1 l1, lists_self _ n2 l2]
    · rw [if_neg h1] at hc
      obtain ⟨a, b⟩ := In_err hc (by decide) (fuel := 100000000000)
      rw [a, b]
      have f1 : f < 0 ∨ f ≥ (G.Funcs.length : Int) := by omega
      simp only [Option.bind_some, Right_eq, hr, Bool.not_true, Bool.false_eq_true, if_false, jp]
      by_cases f2 : f < 0
      · simp [f2]
        decide
      · have f3 : f ≥ (G.Funcs.length : Int) := by omega
        simp [f2, f3]
        decide
end Go.Proofs.YtgoejecjmodjiaaDoor

/- How arguments are read. -/
namespace Go.Proofs.YtgoejecjmodjiaaDoor
open Go Go.Ab Go.RowKit
set_option maxRecDepth 20000
set_option linter.unusedVariables false
set_option linter.unusedSimpArgs false
theorem part_le {H : Type} {d : DataW H} {l : List (DataW H)} (h : d ∈ l) : Rows.uptoBulk d ≤ Rows.uptoBulkAll l := by
  induction l with
  | nil => cases h
  | cons x r ih =>
    simp only [Rows.uptoBulkAll]
    rcases List.mem_cons.1 h with e | e
    · subst e; omega
    · have := ih e; omega
theorem one_le {H : Type} (d : DataW H) : 1 ≤ Rows.uptoBulk d := by
  cases d with
  | lit l => cases l <;> simp [Rows.uptoBulk]
  | _ => simp [Rows.uptoBulk]
theorem length_le {H : Type} (l : List (DataW H)) : l.length ≤ Rows.uptoBulkAll l := by
  induction l with
  | nil => simp [Rows.uptoBulkAll]
  | cons x r ih => have := one_le x; simp only [Rows.uptoBulkAll, List.length_cons]; omega
theorem bulk {H : Type} : Bulk (H := H) Rows.uptoBulk :=
  ⟨fun bytes => by simp [Rows.uptoBulk], fun e s => by have := length_le e; simp only [Rows.uptoBulk]; omega, fun e s d h => by have := part_le h; simp only [Rows.uptoBulk]; omega, fun p d h => by have := part_le h; simp only [Rows.uptoBulk]; omega⟩

theorem cells3 : Tryd.prog.cellsOf 3 = 1 := by kernel_rfl
theorem cells24 : Tryd.prog.cellsOf 24 = 1 := by kernel_rfl
theorem cells30 : Tryd.prog.cellsOf 30 = 1 := by kernel_rfl
theorem cells31 : Tryd.prog.cellsOf 31 = 1 := by kernel_rfl
theorem cells32 : Tryd.prog.cellsOf 32 = 1 := by kernel_rfl
theorem cells26 : Tryd.prog.cellsOf 26 = 1 := by kernel_rfl
theorem cells34 : Tryd.prog.cellsOf 34 = 12 := by kernel_rfl
def Node.Ok (N : Nat) (x : Node) : Prop := (fun n => (Lit.int .u8 n).wf = true) x.Op ∧ (fun n => (Lit.int .u8 n).wf = true) x.By ∧ (fun n => (Lit.int .i64 n).wf = true) x.D ∧ (fun n => (Lit.int .i64 n).wf = true) x.E ∧ (fun n => (Lit.int .i64 n).wf = true) x.A ∧ (fun n => (Lit.int .i64 n).wf = true) x.B ∧ (fun n => (Lit.int .i64 n).wf = true) x.F ∧ (fun n => (Lit.int .i64 n).wf = true) x.Cell ∧ (fun n => (Lit.int .u64 n).wf = true) x.Imm ∧ (fun l => List.length l ≤ N ∧ ∀ a ∈ l, (fun n => (Lit.int .i64 n).wf = true) a) x.Args ∧ (fun n => (Lit.int .i64 n).wf = true) x.Next ∧ (fun n => (Lit.int .i64 n).wf = true) x.Else
theorem Node.rd {N : Nat} : Rd Tryd.prog N Node.av (Node.Ok N) 34 := by
  intro avs ht
  obtain ⟨hl, hf⟩ := ty_struct Tryd.underlying34 ht
  have e0 : Ty Tryd.prog N 30 ((avs.drop 0).take (Tryd.prog.cellsOf 30)) := hf 0 _ rfl
  rw [cells30] at e0
  obtain ⟨a0, h0, q0⟩ := (rdI Tryd.underlying30) _ e0
  have e1 : Ty Tryd.prog N 31 ((avs.drop 1).take (Tryd.prog.cellsOf 31)) := hf 1 _ rfl
  rw [cells31] at e1
  obtain ⟨a1, h1, q1⟩ := (rdI Tryd.underlying31) _ e1
  have e2 : Ty Tryd.prog N 3 ((avs.drop 2).take (Tryd.prog.cellsOf 3)) := hf 2 _ rfl
  rw [cells3] at e2
  obtain ⟨a2, h2, q2⟩ := (rdI Tryd.underlying3) _ e2
  have e3 : Ty Tryd.prog N 3 ((avs.drop 3).take (Tryd.prog.cellsOf 3)) := hf 3 _ rfl
  rw [cells3] at e3
  obtain ⟨a3, h3, q3⟩ := (rdI Tryd.underlying3) _ e3
  have e4 : Ty Tryd.prog N 3 ((avs.drop 4).take (Tryd.prog.cellsOf 3)) := hf 4 _ rfl
  rw [cells3] at e4
  obtain ⟨a4, h4, q4⟩ := (rdI Tryd.underlying3) _ e4
  have e5 : Ty Tryd.prog N 3 ((avs.drop 5).take (Tryd.prog.cellsOf 3)) := hf 5 _ rfl
  rw [cells3] at e5
  obtain ⟨a5, h5, q5⟩ := (rdI Tryd.underlying3) _ e5
  have e6 : Ty Tryd.prog N 3 ((avs.drop 6).take (Tryd.prog.cellsOf 3)) := hf 6 _ rfl
  rw [cells3] at e6
  obtain ⟨a6, h6, q6⟩ := (rdI Tryd.underlying3) _ e6
  have e7 : Ty Tryd.prog N 3 ((avs.drop 7).take (Tryd.prog.cellsOf 3)) := hf 7 _ rfl
  rw [cells3] at e7
  obtain ⟨a7, h7, q7⟩ := (rdI Tryd.underlying3) _ e7
  have e8 : Ty Tryd.prog N 32 ((avs.drop 8).take (Tryd.prog.cellsOf 32)) := hf 8 _ rfl
  rw [cells32] at e8
  obtain ⟨a8, h8, q8⟩ := (rdI Tryd.underlying32) _ e8
  have e9 : Ty Tryd.prog N 26 ((avs.drop 9).take (Tryd.prog.cellsOf 26)) := hf 9 _ rfl
  rw [cells26] at e9
  obtain ⟨a9, h9, q9⟩ := (rdL (encI .i64) (fun fs h => by rw [Tryd.underlying3] at h; cases h) Tryd.underlying26 cells3 (rdI Tryd.underlying3)) _ e9
  have e10 : Ty Tryd.prog N 3 ((avs.drop 10).take (Tryd.prog.cellsOf 3)) := hf 10 _ rfl
  rw [cells3] at e10
  obtain ⟨a10, h10, q10⟩ := (rdI Tryd.underlying3) _ e10
  have e11 : Ty Tryd.prog N 3 ((avs.drop 11).take (Tryd.prog.cellsOf 3)) := hf 11 _ rfl
  rw [cells3] at e11
  obtain ⟨a11, h11, q11⟩ := (rdI Tryd.underlying3) _ e11
  refine ⟨⟨a0, a1, a2, a3, a4, a5, a6, a7, a8, a9, a10, a11⟩, ?_, ⟨q0, q1, q2, q3, q4, q5, q6, q7, q8, q9, q10, q11⟩⟩
  have := (st_cons h0 (st_cons h1 (st_cons h2 (st_cons h3 (st_cons h4 (st_cons h5 (st_cons h6 (st_cons h7 (st_cons h8 (st_cons h9 (st_cons h10 (st_cons h11 (st_nil (hl.trans cells34))))))))))))))
  exact this
theorem cells25 : Tryd.prog.cellsOf 25 = 1 := by kernel_rfl
theorem cells4 : Tryd.prog.cellsOf 4 = 1 := by kernel_rfl
theorem cells27 : Tryd.prog.cellsOf 27 = 1 := by kernel_rfl
theorem cells29 : Tryd.prog.cellsOf 29 = 8 := by kernel_rfl
def Graph.Ok (N : Nat) (x : Graph) : Prop := (fun l => List.length l ≤ N ∧ ∀ a ∈ l, (fun n => (Lit.int .i64 n).wf = true) a) x.Params ∧ (fun l => List.length l ≤ N ∧ ∀ a ∈ l, (fun n => (Lit.int .u8 n).wf = true) a) x.Kinds ∧ (fun n => (Lit.int .i64 n).wf = true) x.Cells ∧ (fun l => List.length l ≤ N ∧ ∀ a ∈ l, (fun n => (Lit.int .i64 n).wf = true) a) x.Init ∧ (fun _ => True) x.Result ∧ (fun n => (Lit.int .i64 n).wf = true) x.Keep ∧ (fun l => List.length l ≤ N ∧ ∀ a ∈ l, (Node.Ok N) a) x.Nodes ∧ (fun n => (Lit.int .i64 n).wf = true) x.Entry
theorem Graph.rd {N : Nat} : Rd Tryd.prog N Graph.av (Graph.Ok N) 29 := by
  intro avs ht
  obtain ⟨hl, hf⟩ := ty_struct Tryd.underlying29 ht
  have e0 : Ty Tryd.prog N 26 ((avs.drop 0).take (Tryd.prog.cellsOf 26)) := hf 0 _ rfl
  rw [cells26] at e0
  obtain ⟨a0, h0, q0⟩ := (rdL (encI .i64) (fun fs h => by rw [Tryd.underlying3] at h; cases h) Tryd.underlying26 cells3 (rdI Tryd.underlying3)) _ e0
  have e1 : Ty Tryd.prog N 25 ((avs.drop 1).take (Tryd.prog.cellsOf 25)) := hf 1 _ rfl
  rw [cells25] at e1
  obtain ⟨a1, h1, q1⟩ := (rdL (encI .u8) (fun fs h => by rw [Tryd.underlying24] at h; cases h) Tryd.underlying25 cells24 (rdI Tryd.underlying24)) _ e1
  have e2 : Ty Tryd.prog N 3 ((avs.drop 2).take (Tryd.prog.cellsOf 3)) := hf 2 _ rfl
  rw [cells3] at e2
  obtain ⟨a2, h2, q2⟩ := (rdI Tryd.underlying3) _ e2
  have e3 : Ty Tryd.prog N 26 ((avs.drop 3).take (Tryd.prog.cellsOf 26)) := hf 3 _ rfl
  rw [cells26] at e3
  obtain ⟨a3, h3, q3⟩ := (rdL (encI .i64) (fun fs h => by rw [Tryd.underlying3] at h; cases h) Tryd.underlying26 cells3 (rdI Tryd.underlying3)) _ e3
  have e4 : Ty Tryd.prog N 4 ((avs.drop 4).take (Tryd.prog.cellsOf 4)) := hf 4 _ rfl
  rw [cells4] at e4
  obtain ⟨a4, h4, q4⟩ := (rdB Tryd.underlying4) _ e4
  have e5 : Ty Tryd.prog N 3 ((avs.drop 5).take (Tryd.prog.cellsOf 3)) := hf 5 _ rfl
  rw [cells3] at e5
  obtain ⟨a5, h5, q5⟩ := (rdI Tryd.underlying3) _ e5
  have e6 : Ty Tryd.prog N 27 ((avs.drop 6).take (Tryd.prog.cellsOf 27)) := hf 6 _ rfl
  rw [cells27] at e6
  obtain ⟨a6, h6, q6⟩ := (rdL Node.enc ⟨_, Tryd.underlying34⟩ Tryd.underlying27 cells34 Node.rd) _ e6
  have e7 : Ty Tryd.prog N 3 ((avs.drop 7).take (Tryd.prog.cellsOf 3)) := hf 7 _ rfl
  rw [cells3] at e7
  obtain ⟨a7, h7, q7⟩ := (rdI Tryd.underlying3) _ e7
  refine ⟨⟨a0, a1, a2, a3, a4, a5, a6, a7⟩, ?_, ⟨q0, q1, q2, q3, q4, q5, q6, q7⟩⟩
  have := (st_cons h0 (st_cons h1 (st_cons h2 (st_cons h3 (st_cons h4 (st_cons h5 (st_cons h6 (st_cons h7 (st_nil (hl.trans cells29))))))))))
  exact this
theorem cells39 : Tryd.prog.cellsOf 39 = 1 := by kernel_rfl
theorem cells41 : Tryd.prog.cellsOf 41 = 1 := by kernel_rfl
def Graphs.Ok (N : Nat) (x : Graphs) : Prop := (fun l => List.length l ≤ N ∧ ∀ a ∈ l, (Graph.Ok N) a) x.Funcs
theorem Graphs.rd {N : Nat} : Rd Tryd.prog N Graphs.av (Graphs.Ok N) 41 := by
  intro avs ht
  obtain ⟨hl, hf⟩ := ty_struct Tryd.underlying41 ht
  have e0 : Ty Tryd.prog N 39 ((avs.drop 0).take (Tryd.prog.cellsOf 39)) := hf 0 _ rfl
  rw [cells39] at e0
  obtain ⟨a0, h0, q0⟩ := (rdL Graph.enc ⟨_, Tryd.underlying29⟩ Tryd.underlying39 cells29 Graph.rd) _ e0
  refine ⟨⟨a0⟩, ?_, q0⟩
  have := (st_cons h0 (st_nil (hl.trans cells41)))
  exact this

theorem own : ownKnob Tryd.prog.godebug = none := by kernel_rfl
theorem laidOut : laidOutB Tryd.prog = true := by kernel_rfl
end Go.Proofs.YtgoejecjmodjiaaDoor

/- From the row's list to the settings: the table for the trailing zeros. -/
namespace Go.Proofs.YtgoejecjmodjiaaDoor
open Go Go.Ab Go.RowKit
set_option maxRecDepth 20000
set_option linter.unusedVariables false
set_option linter.unusedSimpArgs false
theorem tz_laid : (Rows.laid_math_bits_deBruijn64tab : DataW Unit) = Lib.tabData .u8 tzT := by kernel_rfl
theorem tab_isH {P : Program} {W : World} {nm : String} {k : IntKind} {zs : List Int} {b : Nat} (hg : P.globalNamed nm = some b) (h : Lib.TabIs P W nm k zs) : ∃ t fz, W.heap[b]? = some (.cells (zs.map fun z => Value.int k z).toArray t fz) := by
  unfold Lib.TabIs World.var? at h
  rw [hg, Option.bind_some] at h
  cases e2 : W.heap[b]? with
  | none => rw [e2] at h; cases h
  | some o =>
    rw [e2] at h
    cases o with
    | cells c t fz => cases h; exact ⟨t, fz, rfl⟩
    | _ => cases h
theorem tab_of {nm : String} (h0 : Tryd.prog.globalNamed nm = some 0) {W : World} (h : laidMet Tryd.prog [(nm, Rows.laid_math_bits_deBruijn64tab)] W) : TabOK W.heap.size W := by
  have h' := h
  rw [tz_laid] at h'
  have hp := Lib.tabIs_of_head (rest := []) h0 (t := 146) (e := 5) (n := 64) (by kernel_rfl) Tryd.underlying146 Tryd.underlying5 (by kernel_rfl) (by kernel_rfl) h'
  obtain ⟨t, fz, q⟩ := tab_isH h0 hp
  intro b p e
  match b, e with
  | 0, e => cases Option.some.inj e; exact ⟨(Array.getElem?_eq_some_iff.1 q).1, _, t, fz, q, rfl⟩
  | n + 1, e => cases e
end Go.Proofs.YtgoejecjmodjiaaDoor

