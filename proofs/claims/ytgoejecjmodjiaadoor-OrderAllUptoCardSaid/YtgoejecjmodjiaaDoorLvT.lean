/- What ref7.Right says: the same as ir.Check. -/
import Derived.Test.YtgoejecjmodjiaaDoorGenR
import Derived.Test.YtgoejecjmodjiaaDoorGenOA
import Derived.Test.YtgoejecjmodjiaaDoorGenB
import Derived.Test.YtgoejecjmodjiaaDoorWlH2
import Derived.WalkKit
import Derived.ProofKit
import Derived.OpenShut
import Derived.JoinedCond
import Derived.Test.YtgoejecjmodjiaaDoorWlTz
import Derived.Lib.LaidTab
import Derived.Deep.DeepHandedRow
namespace Go.Proofs.YtgoejecjmodjiaaDoor
open Go Go.Ab
set_option linter.unusedVariables false
set_option linter.unusedSimpArgs false
theorem rIn_eq (l : List Int) (v : Int) (hl : l.length ≤ 4611686018427387904) : windlassref07_In_s l v = some (decide (v ∈ l)) := by
  unfold windlassref07_In_s
  refine (rng_check (xs := l) v (fun _ x => !(x == v)) true hl (fun i x hx => ?_)).trans ?_
  · cases x == v <;> simp
  · rw [allIx_all]
    by_cases h : v ∈ l
    · have : (l.all fun x => !(x == v)) = false := by
        rw [List.all_eq_false]; exact ⟨v, h, by simp⟩
      rw [this]; simp [h]
    · have : (l.all fun x => !(x == v)) = true := by
        rw [List.all_eq_true]; intro x hx
        have : x ≠ v := fun e => h (e ▸ hx)
        simpa using this
      rw [this]; simp [h]
theorem rNext_eq (n : Node) : windlassref07_Next_s n = some (nextL n) := by
  unfold windlassref07_Next_s nextL
  simp only [jp, beq_iff_eq, decide_eq_true_eq, bne_iff_ne, ne_eq]
  by_cases h12 : n.Op = 12
  · simp [h12]
  by_cases h14 : n.Op = 14
  · simp [h14]
  by_cases h18 : n.Op = 18
  · simp [h18]
  by_cases h9 : n.Op = 9
  · by_cases he : n.Else = n.Next <;> simp [h9, he]
  by_cases h1 : n.Op < 1
  · simp [h1, h12, h14, h18, h9]
  by_cases h2 : n.Op > 18 <;> simp [h1, h2, h12, h14, h18, h9]
end Go.Proofs.YtgoejecjmodjiaaDoor

/- OrderAll: the law. -/
namespace Go.Proofs.YtgoejecjmodjiaaDoor
open Go Go.Ab
set_option maxRecDepth 20000
set_option linter.unusedVariables false
set_option linter.unusedSimpArgs false
theorem rng_bind {α σ β : Type} {body : Nat → α → σ → Option (Stp σ (Option β))} {xs : List α} {s0 : σ} {F : σ → Option β} {r : Option β} (Inv : Nat → σ → Prop) (hl : xs.length ≤ 4611686018427387904) (h0 : Inv 0 s0)
    (h : ∀ i x s, xs[i]? = some x → Inv i s → ∃ s', body i x s = some (.nxt s') ∧ Inv (i + 1) s') (hF : ∀ s, Inv xs.length s → F s = r) : (rng body xs s0).bind (oc F) = r := by
  obtain ⟨o, e, s, rfl, hs⟩ := rng_ex (Q := fun o => ∃ s, o = .fin s ∧ Inv xs.length s) Inv hl h0 (fun i x s hx hI => .inl (h i x s hx hI)) (fun s hs => ⟨s, rfl, hs⟩)
  rw [e]
  exact hF s hs
def g1 : Graph := Graph.mk [] ([0]) 0 [] false (-1) ([(Node.mk 1 0 0 0 0 0 0 0 0 [] 2 0), (Node.mk 12 0 0 0 (-1) 0 0 0 0 [] 0 0), (Node.mk 17 0 0 0 0 0 0 0 0 [] 1 0)]) 0
def G1 : Graphs := Graphs.mk [g1]
theorem right1 : RightB G1 = true := by kernel_rfl
theorem good1 : GoodG g1 := (RightB_good right1 g1 (by simp [G1])).1
theorem check1 : live_check_s G1 0 = some 0 := by kernel_rfl
theorem in1 : inL g1 = [[], [], [0]] := by
  have h := In_ok check1 (f := 0) (g := g1) rfl good1 (Nat.le_refl 100000000000)
  have h2 : live_In_s 100000000000 G1 0 = some ([[], [], [0]], 0) := by kernel_rfl
  rw [h2] at h
  exact (Prod.mk.inj (Option.some.inj h)).1.symm
theorem line1 : order_line_s g1 = some [0, 2, 1] := by
  unfold order_line_s
  rw [if_pos ⟨good1, by decide, by decide⟩]
  congr 1
theorem lv_at {g : Graph} {l : List (List Int)} (h : inL g = l) {i : Nat} (hi : i < g.Nodes.length) : l[i]? = some (lvI g i) := by
  rw [← h]; unfold inL; simp [hi, lvI]
theorem wr_at {g : Graph} {i : Nat} {n : Node} (hn : g.Nodes[i]? = some n) {l : List Int} (h : ir_Writes_s n = some l) : wrN g i = l := by
  unfold wrN; rw [hn]
  have := wrS_eq n
  rw [h] at this
  cases this; rfl
theorem spans1 : spansL g1 = [⟨0, 0, 1, false⟩] := by
  have l0 : lvI g1 0 = [] := by have := lv_at in1 (i := 0) (by decide); exact (Option.some.inj this).symm
  have l1 : lvI g1 1 = [] := by have := lv_at in1 (i := 1) (by decide); exact (Option.some.inj this).symm
  have l2 : lvI g1 2 = [0] := by have := lv_at in1 (i := 2) (by decide); exact (Option.some.inj this).symm
  have w0 : wrN g1 0 = [0] := wr_at (n := Node.mk 1 0 0 0 0 0 0 0 0 [] 2 0) rfl (by kernel_rfl)
  have w1 : wrN g1 1 = [] := wr_at (n := Node.mk 12 0 0 0 (-1) 0 0 0 0 [] 0 0) rfl (by kernel_rfl)
  have w2 : wrN g1 2 = [] := wr_at (n := Node.mk 17 0 0 0 0 0 0 0 0 [] 1 0) rfl (by kernel_rfl)
  have e : (lineL g1).map Int.toNat = [0, 2, 1] := by decide
  have c0 : isCall g1 0 = false := rfl
  have c1 : isCall g1 1 = false := rfl
  have c2 : isCall g1 2 = false := rfl
  unfold spansL allS
  rw [e]
  simp only [nodesS, nodeS, l0, l1, l2, w0, w1, w2, c0, c1, c2, Bool.false_eq_true, if_false]
  rfl
theorem first12 : windlasslaw12_first_s 100000000000 = some true := by
  have h1 : order_Line_s 100000000000 G1 0 = some ([0, 2, 1], 0) := by
    unfold order_Line_s
    rw [In_ok check1 (f := 0) (g := g1) rfl good1 (Nat.le_refl 100000000000)]
    simp only [Option.bind_some]
    rw [show getI G1.Funcs 0 = some g1 from rfl]
    simp only [Option.bind_some, line1]
    rfl
  have h2 : order_Spans_s 100000000000 G1 0 = some ([⟨0, 0, 1, false⟩], 0) := by
    unfold order_Spans_s
    rw [if_pos (Nat.le_refl _), if_pos right1, show getI G1.Funcs 0 = some g1 from rfl]
    simp only [spans1]
  unfold windlasslaw12_first_s
  rw [show (Graphs.mk ([(Graph.mk [] ([0]) 0 [] false (-1) ([(Node.mk 1 0 0 0 0 0 0 0 0 [] 2 0), (Node.mk 12 0 0 0 (-1) 0 0 0 0 [] 0 0), (Node.mk 17 0 0 0 0 0 0 0 0 [] 1 0)]) 0)])) = G1 from rfl, h1, h2]
  rfl
theorem Line_eq (G : Graphs) (f : Int) : order_Line_s 100000000000 G f = some (if RightB G = true then (match getI G.Funcs f with | some g => ((lineL g, 0) : List Int × Int) | none => ([], 2)) else ([], 70)) := by
  have hck := live_check_eq G f
  unfold order_Line_s
  by_cases hR : RightB G = true
  · rw [if_pos hR] at hck ⊢
    cases hgf : getI G.Funcs f with
    | none =>
      have hnr : ¬ (0 ≤ f ∧ f < G.Funcs.length) := by
        rintro ⟨a, b⟩
        rw [getI_lt a (by omega)] at hgf; cases hgf
      rw [if_neg hnr] at hck
      rw [(In_err hck (by decide) (fuel := 100000000000)).1]
      rfl
    | some g =>
      obtain ⟨h0, h1, h2⟩ := getI_some hgf
      rw [if_pos ⟨h0, h1⟩] at hck
      obtain ⟨hg, hhd, hnd⟩ := RightB_good hR g (List.mem_of_getElem? h2)
      obtain ⟨_, _, _, _, _, he0, heN⟩ := headB_facts hhd
      rw [In_ok hck hgf hg (Nat.le_refl 100000000000)]
      have hl : order_line_s g = some (lineL g) := if_pos ⟨hg, he0, heN⟩
      simp [hl]
  · rw [if_neg hR] at hck ⊢
    rw [(In_err hck (by decide) (fuel := 100000000000)).1]
    rfl
def cntL (w : List Nat) (k i : Nat) : Int := ((w.take k).count i : Nat)
theorem all_law (G : Graphs) (f : Int) : windlasslaw12_OrderAll_s 100000000000 G f = some true := by
  unfold windlasslaw12_OrderAll_s
  rw [first12, Line_eq]
  simp only [Option.bind_some, Bool.not_true, Bool.false_eq_true, if_false]
  by_cases hR : RightB G = true
  case neg => rw [if_neg hR]; rfl
  rw [if_pos hR]
  cases hgf : getI G.Funcs f with
  | none => rfl
  | some g =>
    obtain ⟨h0, h1, h2⟩ := getI_some hgf
    obtain ⟨hg, hhd, hnd⟩ := RightB_good hR g (List.mem_of_getElem? h2)
    obtain ⟨_, _, _, _, _, he0, heN⟩ := headB_facts hhd
    have hN := hg.nn
    obtain ⟨w, hw1, hw2, hw3, hw4, hw5, tl, htl⟩ := (line_ok hg (by omega)).w
    have hwl : w.length ≤ g.Nodes.length := nodup_bd _ _ hw2 hw3
    simp only [Option.bind_some, hw1]
    rw [show ((0 : Int) != 0) = false from rfl]
    simp only [Bool.false_eq_true, if_false]
    have hmk : mkL 8 (List.length g.Nodes : Int) (List.length g.Nodes : Int) (0 : Int) = some (List.replicate g.Nodes.length 0) := by
      unfold mkL; rw [if_pos (by omega)]; simp
    rw [hmk]
    simp only [Option.bind_some]
    refine rng_bind (fun k s => s.length = g.Nodes.length ∧ ∀ i, i < g.Nodes.length → s[i]? = some (cntL w k i)) (by simp; omega) ⟨by simp, fun i hi => by simp [hi, cntL]⟩ (fun k x s hx hI => ?_) (fun s hI => ?_)
    · obtain ⟨i, hi, rfl⟩ : ∃ i, w[k]? = some i ∧ x = (i : Int) := by
        rw [List.getElem?_map] at hx
        cases e : w[k]? with
        | none => rw [e] at hx; cases hx
        | some i => rw [e] at hx; cases hx; exact ⟨i, rfl, rfl⟩
      have hiN := hw3 i (List.mem_of_getElem? hi)
      obtain ⟨hsl, hI⟩ := hI
      have hsi := hI i hiN
      have hc1 : ¬ ((i : Int) < 0) := by omega
      have hc2 : ¬ ((i : Int) ≥ (s.length : Int)) := by omega
      simp only [jp, hc1, hc2, decide_false, Bool.false_eq_true, if_false, getI_n, hsi, Option.bind_some]
      refine ⟨_, rfl, by simp [hsl], fun j hj => ?_⟩
      have hb : (w.take k).count i ≤ w.length := Nat.le_trans List.count_le_length (by simp; omega)
      have htk : w.take (k + 1) = w.take k ++ [i] := by
        obtain ⟨q1, q2⟩ := List.getElem?_eq_some_iff.1 hi
        rw [List.take_succ_eq_append_getElem q1, q2]
      rw [List.getElem?_set, Int.toNat_natCast]
      by_cases e : i = j
      · subst e
        rw [if_pos rfl, if_pos (by omega)]
        congr 1
        unfold cntL
        rw [I64_of (by omega), htk, List.count_append]
        simp
      · rw [if_neg e, hI j hj]
        unfold cntL
        rw [htk, List.count_append]
        have : [i].count j = 0 := by rw [List.count_eq_zero]; simp; exact fun h => e h.symm
        rw [this, Nat.add_zero]
    · obtain ⟨hsl, hI⟩ := hI
      rw [List.length_map] at hI
      have hI' : ∀ i, i < g.Nodes.length → s[i]? = some (if i ∈ w then 1 else 0) := fun i hi => by
        rw [hI i hi]; unfold cntL; rw [List.take_length]
        by_cases e : i ∈ w
        · rw [if_pos e, List.Nodup.count hw2, if_pos e]; rfl
        · rw [if_neg e, List.count_eq_zero.2 e]; rfl
      have hne : ¬ ((((w.map (fun (n : Nat) => (n : Int))).length : Nat) : Int) = 0) := by rw [htl]; simp; omega
      simp only [jp]
      rw [if_neg (by simpa using hne), htl]
      have hg0 : getI ((g.Entry.toNat :: tl).map (fun (n : Nat) => (n : Int))) 0 = some g.Entry := by
        rw [show (0 : Int) = ((0 : Nat) : Int) from rfl, getI_n]
        show some ((g.Entry.toNat : Nat) : Int) = some g.Entry
        congr 1; omega
      rw [hg0]
      simp only [Option.bind_some, bne_self_eq_false, Bool.false_eq_true, if_false]
      refine rng_bind (fun _ _ => True) (by omega) trivial (fun i n u hn _ => ?_) (fun u _ => ?_)
      · have hiN : i < g.Nodes.length := (List.getElem?_eq_some_iff.1 hn).1
        have hsi := hI' i hiN
        simp only [getI_n, hsi, Option.bind_some]
        have hc : ¬ ((if i ∈ w then (1 : Int) else 0) > 1) := by split <;> omega
        simp only [hc, decide_false, Bool.false_eq_true, if_false, rNext_eq, Option.bind_some]
        refine ⟨(), ?_, trivial⟩
        refine rng_bind (fun _ _ => True) (by have := nextL_len n; omega) trivial (fun k to u hto _ => ?_) (fun u _ => rfl)
        have hmem : to ∈ nxt g i := by rw [nxt_eq hn]; exact List.mem_of_getElem? hto
        obtain ⟨q0, q1⟩ := hg.nx i to hmem
        obtain ⟨t, rfl⟩ : ∃ t : Nat, to = (t : Int) := ⟨to.toNat, by omega⟩
        have hst := hI' t (by omega)
        refine ⟨(), ?_, trivial⟩
        simp only [jp, getI_n, hsi, hst, Option.bind_some]
        by_cases e : i ∈ w
        · have ht : t ∈ w := hw4 i e t (by unfold sc; exact List.mem_map.2 ⟨_, hmem, by simp⟩)
          simp [e, ht]
        · simp [e]
      · have hsub : subL ((g.Entry.toNat :: tl).map (fun (n : Nat) => (n : Int))) 1 (((g.Entry.toNat :: tl).map (fun (n : Nat) => (n : Int))).length : Int) = some (tl.map (fun (n : Nat) => (n : Int))) := by
          unfold subL
          rw [if_pos (by simp; omega), Int.toNat_natCast, List.take_length]
          rfl
        rw [hsub]
        simp only [Option.bind_some]
        have htlen : tl.length ≤ 5000 := by rw [htl] at hwl; simp at hwl; omega
        refine rng_bind (fun _ _ => True) (by simp; omega) trivial (fun k x u hx _ => ?_) (fun u _ => rfl)
        obtain ⟨i, hi, rfl⟩ : ∃ i, tl[k]? = some i ∧ x = (i : Int) := by
          rw [List.getElem?_map] at hx
          cases e : tl[k]? with
          | none => rw [e] at hx; cases hx
          | some i => rw [e] at hx; cases hx; exact ⟨i, rfl, rfl⟩
        have hitl := List.mem_of_getElem? hi
        have hiw : i ∈ w := by rw [htl]; exact List.mem_cons_of_mem _ hitl
        have hine : i ≠ g.Entry.toNat := by
          rw [htl] at hw2
          intro e; subst e
          exact (List.nodup_cons.1 hw2).1 hitl
        obtain ⟨j0, hj0, hj1, hj2⟩ : ∃ j ∈ w, j ≠ i ∧ i ∈ sc g j := (hw5 i hiw).resolve_left hine
        have hPr : ∀ j, j ∈ w → (i ∈ sc g j ↔ (i : Int) ∈ nxt g j) := fun j hj => by
          unfold sc
          rw [List.mem_map]
          constructor
          · rintro ⟨z, hz, e⟩
            have := hg.nx j z hz
            have : z = (i : Int) := by omega
            subst this; exact hz
          · intro h; exact ⟨_, h, by simp⟩
        refine ⟨(), ?_, trivial⟩
        rw [← htl]
        refine rng_bind (fun k b => (b = true ↔ ∃ j ∈ w.take k, j ≠ i ∧ i ∈ sc g j)) (by simp; omega) (by simp) (fun k x b hx hb => ?_) (fun b hb => ?_)
        · obtain ⟨j, hj, rfl⟩ : ∃ j, w[k]? = some j ∧ x = (j : Int) := by
            rw [List.getElem?_map] at hx
            cases e : w[k]? with
            | none => rw [e] at hx; cases hx
            | some i => rw [e] at hx; cases hx; exact ⟨i, rfl, rfl⟩
          have hjw := List.mem_of_getElem? hj
          have hjN := hw3 j hjw
          have htk : w.take (k + 1) = w.take k ++ [j] := by
            obtain ⟨q1, q2⟩ := List.getElem?_eq_some_iff.1 hj
            rw [List.take_succ_eq_append_getElem q1, q2]
          obtain ⟨nd, hnd⟩ : ∃ n, g.Nodes[j]? = some n := ⟨g.Nodes[j], List.getElem?_eq_getElem hjN⟩
          have hnl := nextL_len nd
          cases b with
          | true =>
            refine ⟨true, by simp, ?_⟩
            obtain ⟨a, b, c⟩ := hb.1 rfl
            simp only [true_iff]
            exact ⟨a, by rw [htk]; exact List.mem_append_left _ b, c⟩
          | false =>
            have hno : ¬ ∃ j ∈ w.take k, j ≠ i ∧ i ∈ sc g j := fun h => by have := hb.2 h; cases this
            by_cases eji : j = i
            · subst eji
              refine ⟨false, by simp, ?_⟩
              rw [htk]
              constructor
              · intro h; cases h
              · rintro ⟨a, b, c⟩
                rcases List.mem_append.1 b with b | b
                · exact absurd ⟨a, b, c⟩ hno
                · simp at b; exact absurd b c.1
            · refine ⟨decide ((i : Int) ∈ nextL nd), ?_, ?_⟩
              · have : ((j : Int) != (i : Int)) = true := by simp; omega
                simp only [this, if_true, Bool.false_eq_true, if_false, getI_n, hnd, Option.bind_some, rNext_eq, rIn_eq _ _ (show (nextL nd).length ≤ 4611686018427387904 by omega)]
              · rw [htk, decide_eq_true_eq]
                have e1 := hPr j hjw
                rw [nxt_eq hnd] at e1
                rw [← e1]
                constructor
                · intro h; exact ⟨j, by simp, eji, h⟩
                · rintro ⟨a, b, c⟩
                  rcases List.mem_append.1 b with b | b
                  · exact absurd ⟨a, b, c⟩ hno
                  · simp at b; subst b; exact c.2
        · have : b = true := hb.2 ⟨j0, by rw [List.length_map, List.take_length]; exact hj0, hj1, hj2⟩
          subst this; rfl
end Go.Proofs.YtgoejecjmodjiaaDoor

/- How arguments are read. -/
namespace Go.Proofs.YtgoejecjmodjiaaDoor
open Go Go.Ab Go.RowKit
set_option maxRecDepth 20000
set_option linter.unusedVariables false
set_option linter.unusedSimpArgs false
theorem part_le {H : Type} {d : DataW H} {l : List (DataW H)} (h : d ∈ l) : Rows.uptoBulk d ≤ Rows.uptoBulkAll l := by
  induction l with
  | nil => cases h
  | cons x r ih =>
    simp only [Rows.uptoBulkAll]
    rcases List.mem_cons.1 h with e | e
    · subst e; omega
    · have := ih e; omega
theorem one_le {H : Type} (d : DataW H) : 1 ≤ Rows.uptoBulk d := by
  cases d with
  | lit l => cases l <;> simp [Rows.uptoBulk]
  | _ => simp [Rows.uptoBulk]
theorem length_le {H : Type} (l : List (DataW H)) : l.length ≤ Rows.uptoBulkAll l := by
  induction l with
  | nil => simp [Rows.uptoBulkAll]
  | cons x r ih => have := one_le x; simp only [Rows.uptoBulkAll, List.length_cons]; omega
theorem bulk {H : Type} : Bulk (H := H) Rows.uptoBulk :=
  ⟨fun bytes => by simp [Rows.uptoBulk], fun e s => by have := length_le e; simp only [Rows.uptoBulk]; omega, fun e s d h => by have := part_le h; simp only [Rows.uptoBulk]; omega, fun p d h => by have := part_le h; simp only [Rows.uptoBulk]; omega⟩

theorem cells3 : Tryd.prog.cellsOf 3 = 1 := by kernel_rfl
theorem cells24 : Tryd.prog.cellsOf 24 = 1 := by kernel_rfl
theorem cells30 : Tryd.prog.cellsOf 30 = 1 := by kernel_rfl
theorem cells31 : Tryd.prog.cellsOf 31 = 1 := by kernel_rfl
theorem cells32 : Tryd.prog.cellsOf 32 = 1 := by kernel_rfl
theorem cells26 : Tryd.prog.cellsOf 26 = 1 := by kernel_rfl
theorem cells34 : Tryd.prog.cellsOf 34 = 12 := by kernel_rfl
def Node.Ok (N : Nat) (x : Node) : Prop := (fun n => (Lit.int .u8 n).wf = true) x.Op ∧ (fun n => (Lit.int .u8 n).wf = true) x.By ∧ (fun n => (Lit.int .i64 n).wf = true) x.D ∧ (fun n => (Lit.int .i64 n).wf = true) x.E ∧ (fun n => (Lit.int .i64 n).wf = true) x.A ∧ (fun n => (Lit.int .i64 n).wf = true) x.B ∧ (fun n => (Lit.int .i64 n).wf = true) x.F ∧ (fun n => (Lit.int .i64 n).wf = true) x.Cell ∧ (fun n => (Lit.int .u64 n).wf = true) x.Imm ∧ (fun l => List.length l ≤ N ∧ ∀ a ∈ l, (fun n => (Lit.int .i64 n).wf = true) a) x.Args ∧ (fun n => (Lit.int .i64 n).wf = true) x.Next ∧ (fun n => (Lit.int .i64 n).wf = true) x.Else
theorem Node.rd {N : Nat} : Rd Tryd.prog N Node.av (Node.Ok N) 34 := by
  intro avs ht
  obtain ⟨hl, hf⟩ := ty_struct Tryd.underlying34 ht
  have e0 : Ty Tryd.prog N 30 ((avs.drop 0).take (Tryd.prog.cellsOf 30)) := hf 0 _ rfl
  rw [cells30] at e0
  obtain ⟨a0, h0, q0⟩ := (rdI Tryd.underlying30) _ e0
  have e1 : Ty Tryd.prog N 31 ((avs.drop 1).take (Tryd.prog.cellsOf 31)) := hf 1 _ rfl
  rw [cells31] at e1
  obtain ⟨a1, h1, q1⟩ := (rdI Tryd.underlying31) _ e1
  have e2 : Ty Tryd.prog N 3 ((avs.drop 2).take (Tryd.prog.cellsOf 3)) := hf 2 _ rfl
  rw [cells3] at e2
  obtain ⟨a2, h2, q2⟩ := (rdI Tryd.underlying3) _ e2
  have e3 : Ty Tryd.prog N 3 ((avs.drop 3).take (Tryd.prog.cellsOf 3)) := hf 3 _ rfl
  rw [cells3] at e3
  obtain ⟨a3, h3, q3⟩ := (rdI Tryd.underlying3) _ e3
  have e4 : Ty Tryd.prog N 3 ((avs.drop 4).take (Tryd.prog.cellsOf 3)) := hf 4 _ rfl
  rw [cells3] at e4
  obtain ⟨a4, h4, q4⟩ := (rdI Tryd.underlying3) _ e4
  have e5 : Ty Tryd.prog N 3 ((avs.drop 5).take (Tryd.prog.cellsOf 3)) := hf 5 _ rfl
  rw [cells3] at e5
  obtain ⟨a5, h5, q5⟩ := (rdI Tryd.underlying3) _ e5
  have e6 : Ty Tryd.prog N 3 ((avs.drop 6).take (Tryd.prog.cellsOf 3)) := hf 6 _ rfl
  rw [cells3] at e6
  obtain ⟨a6, h6, q6⟩ := (rdI Tryd.underlying3) _ e6
  have e7 : Ty Tryd.prog N 3 ((avs.drop 7).take (Tryd.prog.cellsOf 3)) := hf 7 _ rfl
  rw [cells3] at e7
  obtain ⟨a7, h7, q7⟩ := (rdI Tryd.underlying3) _ e7
  have e8 : Ty Tryd.prog N 32 ((avs.drop 8).take (Tryd.prog.cellsOf 32)) := hf 8 _ rfl
  rw [cells32] at e8
  obtain ⟨a8, h8, q8⟩ := (rdI Tryd.underlying32) _ e8
  have e9 : Ty Tryd.prog N 26 ((avs.drop 9).take (Tryd.prog.cellsOf 26)) := hf 9 _ rfl
  rw [cells26] at e9
  obtain ⟨a9, h9, q9⟩ := (rdL (encI .i64) (fun fs h => by rw [Tryd.underlying3] at h; cases h) Tryd.underlying26 cells3 (rdI Tryd.underlying3)) _ e9
  have e10 : Ty Tryd.prog N 3 ((avs.drop 10).take (Tryd.prog.cellsOf 3)) := hf 10 _ rfl
  rw [cells3] at e10
  obtain ⟨a10, h10, q10⟩ := (rdI Tryd.underlying3) _ e10
  have e11 : Ty Tryd.prog N 3 ((avs.drop 11).take (Tryd.prog.cellsOf 3)) := hf 11 _ rfl
  rw [cells3] at e11
  obtain ⟨a11, h11, q11⟩ := (rdI Tryd.underlying3) _ e11
  refine ⟨⟨a0, a1, a2, a3, a4, a5, a6, a7, a8, a9, a10, a11⟩, ?_, ⟨q0, q1, q2, q3, q4, q5, q6, q7, q8, q9, q10, q11⟩⟩
  have := (st_cons h0 (st_cons h1 (st_cons h2 (st_cons h3 (st_cons h4 (st_cons h5 (st_cons h6 (st_cons h7 (st_cons h8 (st_cons h9 (st_cons h10 (st_cons h11 (st_nil (hl.trans cells34))))))))))))))
  exact this
theorem cells25 : Tryd.prog.cellsOf 25 = 1 := by kernel_rfl
theorem cells4 : Tryd.prog.cellsOf 4 = 1 := by kernel_rfl
theorem cells27 : Tryd.prog.cellsOf 27 = 1 := by kernel_rfl
theorem cells29 : Tryd.prog.cellsOf 29 = 8 := by kernel_rfl
def Graph.Ok (N : Nat) (x : Graph) : Prop := (fun l => List.length l ≤ N ∧ ∀ a ∈ l, (fun n => (Lit.int .i64 n).wf = true) a) x.Params ∧ (fun l => List.length l ≤ N ∧ ∀ a ∈ l, (fun n => (Lit.int .u8 n).wf = true) a) x.Kinds ∧ (fun n => (Lit.int .i64 n).wf = true) x.Cells ∧ (fun l => List.length l ≤ N ∧ ∀ a ∈ l, (fun n => (Lit.int .i64 n).wf = true) a) x.Init ∧ (fun _ => True) x.Result ∧ (fun n => (Lit.int .i64 n).wf = true) x.Keep ∧ (fun l => List.length l ≤ N ∧ ∀ a ∈ l, (Node.Ok N) a) x.Nodes ∧ (fun n => (Lit.int .i64 n).wf = true) x.Entry
theorem Graph.rd {N : Nat} : Rd Tryd.prog N Graph.av (Graph.Ok N) 29 := by
  intro avs ht
  obtain ⟨hl, hf⟩ := ty_struct Tryd.underlying29 ht
  have e0 : Ty Tryd.prog N 26 ((avs.drop 0).take (Tryd.prog.cellsOf 26)) := hf 0 _ rfl
  rw [cells26] at e0
  obtain ⟨a0, h0, q0⟩ := (rdL (encI .i64) (fun fs h => by rw [Tryd.underlying3] at h; cases h) Tryd.underlying26 cells3 (rdI Tryd.underlying3)) _ e0
  have e1 : Ty Tryd.prog N 25 ((avs.drop 1).take (Tryd.prog.cellsOf 25)) := hf 1 _ rfl
  rw [cells25] at e1
  obtain ⟨a1, h1, q1⟩ := (rdL (encI .u8) (fun fs h => by rw [Tryd.underlying24] at h; cases h) Tryd.underlying25 cells24 (rdI Tryd.underlying24)) _ e1
  have e2 : Ty Tryd.prog N 3 ((avs.drop 2).take (Tryd.prog.cellsOf 3)) := hf 2 _ rfl
  rw [cells3] at e2
  obtain ⟨a2, h2, q2⟩ := (rdI Tryd.underlying3) _ e2
  have e3 : Ty Tryd.prog N 26 ((avs.drop 3).take (Tryd.prog.cellsOf 26)) := hf 3 _ rfl
  rw [cells26] at e3
  obtain ⟨a3, h3, q3⟩ := (rdL (encI .i64) (fun fs h => by rw [Tryd.underlying3] at h; cases h) Tryd.underlying26 cells3 (rdI Tryd.underlying3)) _ e3
  have e4 : Ty Tryd.prog N 4 ((avs.drop 4).take (Tryd.prog.cellsOf 4)) := hf 4 _ rfl
  rw [cells4] at e4
  obtain ⟨a4, h4, q4⟩ := (rdB Tryd.underlying4) _ e4
  have e5 : Ty Tryd.prog N 3 ((avs.drop 5).take (Tryd.prog.cellsOf 3)) := hf 5 _ rfl
  rw [cells3] at e5
  obtain ⟨a5, h5, q5⟩ := (rdI Tryd.underlying3) _ e5
  have e6 : Ty Tryd.prog N 27 ((avs.drop 6).take (Tryd.prog.cellsOf 27)) := hf 6 _ rfl
  rw [cells27] at e6
  obtain ⟨a6, h6, q6⟩ := (rdL Node.enc ⟨_, Tryd.underlying34⟩ Tryd.underlying27 cells34 Node.rd) _ e6
  have e7 : Ty Tryd.prog N 3 ((avs.drop 7).take (Tryd.prog.cellsOf 3)) := hf 7 _ rfl
  rw [cells3] at e7
  obtain ⟨a7, h7, q7⟩ := (rdI Tryd.underlying3) _ e7
  refine ⟨⟨a0, a1, a2, a3, a4, a5, a6, a7⟩, ?_, ⟨q0, q1, q2, q3, q4, q5, q6, q7⟩⟩
  have := (st_cons h0 (st_cons h1 (st_cons h2 (st_cons h3 (st_cons h4 (st_cons h5 (st_cons h6 (st_cons h7 (st_nil (hl.trans cells29))))))))))
  exact this
theorem cells39 : Tryd.prog.cellsOf 39 = 1 := by kernel_rfl
theorem cells41 : Tryd.prog.cellsOf 41 = 1 := by kernel_rfl
def Graphs.Ok (N : Nat) (x : Graphs) : Prop := (fun l => List.length l ≤ N ∧ ∀ a ∈ l, (Graph.Ok N) a) x.Funcs
theorem Graphs.rd {N : Nat} : Rd Tryd.prog N Graphs.av (Graphs.Ok N) 41 := by
  intro avs ht
  obtain ⟨hl, hf⟩ := ty_struct Tryd.underlying41 ht
  have e0 : Ty Tryd.prog N 39 ((avs.drop 0).take (Tryd.prog.cellsOf 39)) := hf 0 _ rfl
  rw [cells39] at e0
  obtain ⟨a0, h0, q0⟩ := (rdL Graph.enc ⟨_, Tryd.underlying29⟩ Tryd.underlying39 cells29 Graph.rd) _ e0
  refine ⟨⟨a0⟩, ?_, q0⟩
  have := (st_cons h0 (st_nil (hl.trans cells41)))
  exact this

theorem own : ownKnob Tryd.prog.godebug = none := by kernel_rfl
theorem laidOut : laidOutB Tryd.prog = true := by kernel_rfl
end Go.Proofs.YtgoejecjmodjiaaDoor

/- From the row's list to the settings: the table for the trailing zeros. -/
namespace Go.Proofs.YtgoejecjmodjiaaDoor
open Go Go.Ab Go.RowKit
set_option maxRecDepth 20000
set_option linter.unusedVariables false
set_option linter.unusedSimpArgs false
theorem tz_laid : (Rows.laid_math_bits_deBruijn64tab : DataW Unit) = Lib.tabData .u8 tzT := by kernel_rfl
theorem tab_isH {P : Program} {W : World} {nm : String} {k : IntKind} {zs : List Int} {b : Nat} (hg : P.globalNamed nm = some b) (h : Lib.TabIs P W nm k zs) : ∃ t fz, W.heap[b]? = some (.cells (zs.map fun z => Value.int k z).toArray t fz) := by
  unfold Lib.TabIs World.var? at h
  rw [hg, Option.bind_some] at h
  cases e2 : W.heap[b]? with
  | none => rw [e2] at h; cases h
  | some o =>
    rw [e2] at h
    cases o with
    | cells c t fz => cases h; exact ⟨t, fz, rfl⟩
    | _ => cases h
theorem tab_of {nm : String} (h0 : Tryd.prog.globalNamed nm = some 0) {W : World} (h : laidMet Tryd.prog [(nm, Rows.laid_math_bits_deBruijn64tab)] W) : TabOK W.heap.size W := by
  have h' := h
  rw [tz_laid] at h'
  have hp := Lib.tabIs_of_head (rest := []) h0 (t := 146) (e := 5) (n := 64) (by kernel_rfl) Tryd.underlying146 Tryd.underlying5 (by kernel_rfl) (by kernel_rfl) h'
  obtain ⟨t, fz, q⟩ := tab_isH h0 hp
  intro b p e
  match b, e with
  | 0, e => cases Option.some.inj e; exact ⟨(Array.getElem?_eq_some_iff.1 q).1, _, t, fz, q, rfl⟩
  | n + 1, e => cases e
end Go.Proofs.YtgoejecjmodjiaaDoor

