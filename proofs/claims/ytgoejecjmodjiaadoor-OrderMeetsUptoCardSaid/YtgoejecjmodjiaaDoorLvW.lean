/- What ref7.Right says: the same as ir.Check. -/
import Derived.Test.YtgoejecjmodjiaaDoorGenR
import Derived.Test.YtgoejecjmodjiaaDoorGenOA
import Derived.Test.YtgoejecjmodjiaaDoorWlTz
import Derived.Test.YtgoejecjmodjiaaDoorRows
namespace Go.Proofs.YtgoejecjmodjiaaDoor
open Go Go.Ab
set_option linter.unusedVariables false
set_option linter.unusedSimpArgs false
theorem rIn_eq (l : List Int) (v : Int) (hl : l.length ≤ 4611686018427387904) : windlassref07_In_s l v = some (decide (v ∈ l)) := by
  unfold windlassref07_In_s
  refine (rng_check (xs := l) v (fun _ x => !(x == v)) true hl (fun i x hx => ?_)).trans ?_
  · cases x == v <;> simp
  · rw [allIx_all]
    by_cases h : v ∈ l
    · have : (l.all fun x => !(x == v)) = false := by
        rw [List.all_eq_false]; exact ⟨v, h, by simp⟩
      rw [this]; simp [h]
    · have : (l.all fun x => !(x == v)) = true := by
        rw [List.all_eq_true]; intro x hx
        have : x ≠ v := fun e => h (e ▸ hx)
        simpa using this
      rw [this]; simp [h]
theorem rNext_eq (n : Node) : windlassref07_Next_s n = some (nextL n) := by
  unfold windlassref07_Next_s nextL
  simp only [jp, beq_iff_eq, decide_eq_true_eq, bne_iff_ne, ne_eq]
  by_cases h12 : n.Op = 12
  · simp [h12]
  by_cases h14 : n.Op = 14
  · simp [h14]
  by_cases h18 : n.Op = 18
  · simp [h18]
  by_cases h9 : n.Op = 9
  · by_cases he : n.Else = n.Next <;> simp [h9, he]
  by_cases h1 : n.Op < 1
  · simp [h1, h12, h14, h18, h9]
  by_cases h2 : n.Op > 18 <;> simp [h1, h2, h12, h14, h18, h9]
end Go.Proofs.YtgoejecjmodjiaaDoor

/- OrderAll: the law. -/
namespace Go.Proofs.YtgoejecjmodjiaaDoor
open Go Go.Ab
set_option maxRecDepth 20000
set_option linter.unusedVariables false
set_option linter.unusedSimpArgs false
theorem rng_bind {α σ β : Type} {body : Nat → α → σ → Option (Stp σ (Option β))} {xs : List α} {s0 : σ} {F : σ → Option β} {r : Option β} (Inv : Nat → σ → Prop) (hl : xs.length ≤ 4611686018427387904) (h0 : Inv 0 s0)
    (h : ∀ i x s, xs[i]? = some x → Inv i s → ∃ s', body i x s = some (.nxt s') ∧ Inv (i + 1) s') (hF : ∀ s, Inv xs.length s → F s = r) : (rng body xs s0).bind (oc F) = r := by
  obtain ⟨o, e, s, rfl, hs⟩ := rng_ex (Q := fun o => ∃ s, o = .fin s ∧ Inv xs.length s) Inv hl h0 (fun i x s hx hI => .inl (h i x s hx hI)) (fun s hs => ⟨s, rfl, hs⟩)
  rw [e]
  exact hF s hs
def g1 : Graph := Graph.mk [] ([0]) 0 [] false (-1) ([(Node.mk 1 0 0 0 0 0 0 0 0 [] 2 0), (Node.mk 12 0 0 0 (-1) 0 0 0 0 [] 0 0), (Node.mk 17 0 0 0 0 0 0 0 0 [] 1 0)]) 0
def G1 : Graphs := Graphs.mk [g1]
theorem right1 : RightB G1 = true := by kernel_rfl
theorem good1 : GoodG g1 := (RightB_good right1 g1 (by simp [G1])).1
theorem check1 : live_check_s G1 0 = some 0 := by kernel_rfl
theorem in1 : inL g1 = [[], [], [0]] := by
  have h := In_ok check1 (f := 0) (g := g1) rfl good1 (Nat.le_refl 100000000000)
  have h2 : live_In_s 100000000000 G1 0 = some ([[], [], [0]], 0) := by kernel_rfl
  rw [h2] at h
  exact (Prod.mk.inj (Option.some.inj h)).1.symm
theorem line1 : order_line_s g1 = some [0, 2, 1] := by
  unfold order_line_s
  rw [if_pos ⟨good1, by decide, by decide⟩]
  congr 1
theorem lv_at {g : Graph} {l : List (List Int)} (h : inL g = l) {i : Nat} (hi : i < g.Nodes.length) : l[i]? = some (lvI g i) := by
  rw [← h]; unfold inL; simp [hi, lvI]
theorem wr_at {g : Graph} {i : Nat} {n : Node} (hn : g.Nodes[i]? = some n) {l : List Int} (h : ir_Writes_s n = some l) : wrN g i = l := by
  unfold wrN; rw [hn]
  have := wrS_eq n
  rw [h] at this
  cases this; rfl
theorem spans1 : spansL g1 = [⟨0, 0, 1, false⟩] := by
  have l0 : lvI g1 0 = [] := by have := lv_at in1 (i := 0) (by decide); exact (Option.some.inj this).symm
  have l1 : lvI g1 1 = [] := by have := lv_at in1 (i := 1) (by decide); exact (Option.some.inj this).symm
  have l2 : lvI g1 2 = [0] := by have := lv_at in1 (i := 2) (by decide); exact (Option.some.inj this).symm
  have w0 : wrN g1 0 = [0] := wr_at (n := Node.mk 1 0 0 0 0 0 0 0 0 [] 2 0) rfl (by kernel_rfl)
  have w1 : wrN g1 1 = [] := wr_at (n := Node.mk 12 0 0 0 (-1) 0 0 0 0 [] 0 0) rfl (by kernel_rfl)
  have w2 : wrN g1 2 = [] := wr_at (n := Node.mk 17 0 0 0 0 0 0 0 0 [] 1 0) rfl (by kernel_rfl)
  have e : (lineL g1).map Int.toNat = [0, 2, 1] := by decide
  have c0 : isCall g1 0 = false := rfl
  have c1 : isCall g1 1 = false := rfl
  have c2 : isCall g1 2 = false := rfl
  unfold spansL allS
  rw [e]
  simp only [nodesS, nodeS, l0, l1, l2, w0, w1, w2, c0, c1, c2, Bool.false_eq_true, if_false]
  rfl
theorem first12 : windlasslaw12_first_s 100000000000 = some true := by
  have h1 : order_Line_s 100000000000 G1 0 = some ([0, 2, 1], 0) := by
    unfold order_Line_s
    rw [In_ok check1 (f := 0) (g := g1) rfl good1 (Nat.le_refl 100000000000)]
    simp only [Option.bind_some]
    rw [show getI G1.Funcs 0 = some g1 from rfl]
    simp only [Option.bind_some, line1]
    rfl
  have h2 : order_Spans_s 100000000000 G1 0 = some ([⟨0, 0, 1, false⟩], 0) := by
    unfold order_Spans_s
    rw [if_pos (Nat.le_refl _), if_pos right1, show getI G1.Funcs 0 = some g1 from rfl]
    simp only [spans1]
  unfold windlasslaw12_first_s
  rw [show (Graphs.mk ([(Graph.mk [] ([0]) 0 [] false (-1) ([(Node.mk 1 0 0 0 0 0 0 0 0 [] 2 0), (Node.mk 12 0 0 0 (-1) 0 0 0 0 [] 0 0), (Node.mk 17 0 0 0 0 0 0 0 0 [] 1 0)]) 0)])) = G1 from rfl, h1, h2]
  rfl
theorem Line_eq (G : Graphs) (f : Int) : order_Line_s 100000000000 G f = some (if RightB G = true then (match getI G.Funcs f with | some g => ((lineL g, 0) : List Int × Int) | none => ([], 2)) else ([], 70)) := by
  have hck := live_check_eq G f
  unfold order_Line_s
  by_cases hR : RightB G = true
  · rw [if_pos hR] at hck ⊢
    cases hgf : getI G.Funcs f with
    | none =>
      have hnr : ¬ (0 ≤ f ∧ f < G.Funcs.length) := by
        rintro ⟨a, b⟩
        rw [getI_lt a (by omega)] at hgf; cases hgf
      rw [if_neg hnr] at hck
      rw [(In_err hck (by decide) (fuel := 100000000000)).1]
      rfl
    | some g =>
      obtain ⟨h0, h1, h2⟩ := getI_some hgf
      rw [if_pos ⟨h0, h1⟩] at hck
      obtain ⟨hg, hhd, hnd⟩ := RightB_good hR g (List.mem_of_getElem? h2)
      obtain ⟨_, _, _, _, _, he0, heN⟩ := headB_facts hhd
      rw [In_ok hck hgf hg (Nat.le_refl 100000000000)]
      have hl : order_line_s g = some (lineL g) := if_pos ⟨hg, he0, heN⟩
      simp [hl]
  · rw [if_neg hR] at hck ⊢
    rw [(In_err hck (by decide) (fuel := 100000000000)).1]
    rfl
end Go.Proofs.YtgoejecjmodjiaaDoor

/- What ref7 reads and writes. -/
namespace Go.Proofs.YtgoejecjmodjiaaDoor
open Go Go.Ab
set_option linter.unusedVariables false
set_option linter.unusedSimpArgs false
theorem rInr_eq (l : List Int) (v : Int) (hl : l.length ≤ 4611686018427387904) : windlassref07_In_r_s l v = some (decide (v ∈ l)) := by
  unfold windlassref07_In_r_s
  refine (rni_check (xs := l) v (fun _ x => !(x == v)) true hl (fun i x hx => ?_)).trans ?_
  · simp only [getI_n, hx, Option.bind_some]
    cases x == v <;> simp
  · rw [allIx_all]
    by_cases h : v ∈ l
    · have : (l.all fun x => !(x == v)) = false := by
        rw [List.all_eq_false]; exact ⟨v, h, by simp⟩
      rw [this]; simp [h]
    · have : (l.all fun x => !(x == v)) = true := by
        rw [List.all_eq_true]; intro x hx
        have : x ≠ v := fun e => h (e ▸ hx)
        simpa using this
      rw [this]; simp [h]
theorem add_eq (l : List Int) (hl : l.length ≤ 10000000) : ∃ r, windlassref07_add_n_o_s l = some r ∧ r.length ≤ l.length ∧ ∀ x, x ∈ r ↔ (x ∈ l ∧ 0 ≤ x) := by
  unfold windlassref07_add_n_o_s
  have := rng_inv (xs := l) (s0 := (l, ([] : List Int))) (body := (fun (i_2 : Nat) (n_3 : Int) (s_1 : ((List Int) × (List Int))) => (((getI s_1.1 (i_2 : Int)).bind fun y_5 => (jp (fun (s_7 : Bool) => (if s_7 then ((appL 8 s_1.2 [y_5]).bind fun l_9 => (some (.nxt (s_1.1, l_9)))) else (some (.nxt (s_1.1, s_1.2))))) (fun k_6 => (if (decide (y_5 ≥ 0)) then ((windlassref07_In_r_s s_1.2 y_5).bind fun (vin_8 : Bool) => (k_6 (!vin_8))) else (k_6 false))))) : Option (Stp ((List Int) × (List Int)) (Option (List Int)))))) (fun _ => true) none
    (fun k s => s.1 = l ∧ s.2.length ≤ k ∧ ∀ x, x ∈ s.2 ↔ (x ∈ l.take k ∧ 0 ≤ x)) (by omega) ⟨rfl, by simp, by simp⟩ (fun k x s hx hr => by
      obtain ⟨sl, r⟩ := s
      obtain ⟨h0, h1, h2⟩ := hr
      simp only at h0 h1 h2
      subst h0
      have hk : k < sl.length := (List.getElem?_eq_some_iff.1 hx).1
      have ht : sl.take (k + 1) = sl.take k ++ [x] := by rw [List.take_add_one, hx]; rfl
      simp only [if_true, jp, decide_eq_true_eq, getI_n, hx, Option.bind_some]
      by_cases h0 : x ≥ 0
      · rw [if_pos h0, rInr_eq _ _ (by omega)]
        simp only [Option.bind_some]
        by_cases hm : x ∈ r
        · refine ⟨(sl, r), by simp [hm], rfl, by simp only; omega, fun y => ?_⟩
          simp only
          rw [h2, ht]
          simp only [List.mem_append, List.mem_singleton]
          constructor
          · rintro ⟨a, b⟩; exact ⟨.inl a, b⟩
          · rintro ⟨a | a, b⟩
            · exact ⟨a, b⟩
            · subst a; exact (h2 y).1 hm
        · refine ⟨(sl, r ++ [x]), ?_, rfl, by simp; omega, fun y => ?_⟩
          · simp only [hm, decide_false, Bool.not_false, if_true]
            rw [appL_of (by simp; omega)]; rfl
          · simp only
            rw [ht]
            simp only [List.mem_append, List.mem_singleton, h2]
            constructor
            · rintro (⟨a, b⟩ | a)
              · exact ⟨.inl a, b⟩
              · subst a; exact ⟨.inr rfl, h0⟩
            · rintro ⟨a | a, b⟩
              · exact .inl ⟨a, b⟩
              · exact .inr a
      · refine ⟨(sl, r), by rw [if_neg h0]; simp, rfl, by simp only; omega, fun y => ?_⟩
        simp only
        rw [h2, ht]
        simp only [List.mem_append, List.mem_singleton]
        constructor
        · rintro ⟨a, b⟩; exact ⟨.inl a, b⟩
        · rintro ⟨a | a, b⟩
          · exact ⟨a, b⟩
          · subst a; exact (h0 b).elim)
  rw [if_pos (by simp)] at this
  obtain ⟨s, e1, e0, e2, e3⟩ := this
  rw [e1]
  exact ⟨s.2, rfl, e2, fun x => by rw [e3, List.take_length]⟩
theorem rReads_eq (n : Node) (hl : (rawR n).length ≤ 10000000) : ∃ r, windlassref07_Reads_s n = some r ∧ r.length ≤ 10000000 ∧ ∀ x, x ∈ r ↔ (x ∈ rawR n ∧ 0 ≤ x) := by
  obtain ⟨r, h1, h0, h2⟩ := add_eq (rawR n) hl
  refine ⟨r, ?_, by omega, h2⟩
  rw [← h1]
  have e0 : windlassref07_add_n_o_s [] = some [] := by
    obtain ⟨r, a, _, b⟩ := add_eq [] (by simp)
    rw [a]
    cases r with
    | nil => rfl
    | cons x l => have := (b x).1 (by simp); simp at this
  unfold windlassref07_Reads_s rawR
  simp only [jp, beq_iff_eq]
  have bs : ∀ o : Option (List Int), (o.bind fun x => some x) = o := fun o => by cases o <;> rfl
  simp only [bs]
  by_cases h2 : n.Op = 2
  · simp [h2]
  by_cases h5 : n.Op = 5
  · simp [h5]
  by_cases h7 : n.Op = 7
  · simp [h7]
  by_cases h9 : n.Op = 9
  · simp [h9]
  by_cases h12 : n.Op = 12
  · simp [h12]
  by_cases h14 : n.Op = 14
  · simp [h14]
  by_cases h17 : n.Op = 17
  · simp [h17]
  by_cases h18 : n.Op = 18
  · simp [h18]
  by_cases h3 : n.Op = 3
  · simp [h3]
  by_cases h8 : n.Op = 8
  · simp [h8]
  by_cases h11 : n.Op = 11
  · simp [h11]
  by_cases h13 : n.Op = 13
  · simp [h13]
  simp [h2, h5, h7, h9, h12, h14, h17, h18, h3, h8, h11, h13, e0]
theorem rWrites_eq (n : Node) : ∃ r, windlassref07_Writes_s n = some r ∧ r.length ≤ 10000000 ∧ ∀ x, x ∈ r ↔ (x ∈ rawW n ∧ 0 ≤ x) := by
  obtain ⟨r, h1, h0, h2⟩ := add_eq (rawW n) (by have := rawW_len n; omega)
  refine ⟨r, ?_, by have := rawW_len n; omega, h2⟩
  rw [← h1]
  have e0 : windlassref07_add_n_o_s [] = some [] := by
    obtain ⟨r, a, _, b⟩ := add_eq [] (by simp)
    rw [a]
    cases r with
    | nil => rfl
    | cons x l => have := (b x).1 (by simp); simp at this
  unfold windlassref07_Writes_s rawW
  simp only [jp, beq_iff_eq]
  have bs : ∀ o : Option (List Int), (o.bind fun x => some x) = o := fun o => by cases o <;> rfl
  simp only [bs]
  by_cases h1 : n.Op = 1
  · simp [h1]
  by_cases h2 : n.Op = 2
  · simp [h2]
  by_cases h3 : n.Op = 3
  · simp [h3]
  by_cases h4 : n.Op = 4
  · simp [h4]
  by_cases h6 : n.Op = 6
  · simp [h6]
  by_cases h7 : n.Op = 7
  · simp [h7]
  by_cases h11 : n.Op = 11
  · simp [h11]
  by_cases h16 : n.Op = 16
  · simp [h16]
  by_cases h15 : n.Op = 15
  · simp [h15]
  simp [h1, h2, h3, h4, h6, h7, h11, h16, h15, e0]
end Go.Proofs.YtgoejecjmodjiaaDoor

/- ref11.In: what it computes. -/
namespace Go.Proofs.YtgoejecjmodjiaaDoor
open Go Go.Ab
set_option linter.unusedVariables false
set_option linter.unusedSimpArgs false
abbrev Rw := List (List Bool)
variable {N K : Nat} {s : List (List Bool)}
abbrev RL := List (List Int)
abbrev T4 := Rw × Bool
abbrev T3 := Int × Rw × Bool
abbrev B3 := Stp T4 (Option RL)
abbrev B2 := Stp T3 (Option B3)
abbrev B1 := Stp T4 (Option B2)
def Shp (N K : Nat) (s : Rw) : Prop := s.length = N ∧ ∀ r ∈ s, r.length = K
instance : Decidable (Shp N K s) := by unfold Shp; infer_instance
def rv_new (K : Nat) (i : Nat) (s : Rw) : Option (Stp Rw (Option RL)) := gd (Shp i K s) ((mkL 1 (K : Int) (K : Int) false).bind fun w => some (.nxt (s ++ [w])))
def rv_or (rows : Rw) (w : List Int) (p : Int) (_ : Nat) (to : Int) (is : Bool) : Option (Stp Bool (Option B1)) :=
  if is = true then some (.nxt true) else (getI rows to).bind fun r => (getI r p).bind fun b => if b = true then (windlassref07_In_s w p).bind fun x => some (.nxt (!x)) else some (.nxt false)
def rv_p (g : Graph) (i : Int) (n : Node) (w : List Int) (p : Nat) (s : T4) : Option (Stp T4 (Option B2)) :=
  gd (Shp g.Nodes.length g.Kinds.length s.1) ((windlassref07_Reads_s n).bind fun rd => (windlassref07_In_s rd (p : Int)).bind fun is0 => (windlassref07_Next_s n).bind fun nx =>
  (rng (rv_or s.1 w (p : Int)) nx is0).bind (oc fun is => if is = true then (getI s.1 i).bind fun r => (getI r (p : Int)).bind fun b => (if (!b) = true then some (.nxt (s.1.set i.toNat (r.set p true), true)) else some (.nxt s)) else some (.nxt s)))
def rv_i (g : Graph) (q : T3) : Option (Stp T3 (Option B3)) :=
  gd (Shp g.Nodes.length g.Kinds.length q.2.1) (if (decide (q.1 ≥ 0)) = true then (getI g.Nodes q.1).bind fun n => (windlassref07_Writes_s n).bind fun w => (rni (rv_p g q.1 n w) (List.length g.Kinds : Int) q.2).bind (oc fun s => gd (Shp g.Nodes.length g.Kinds.length s.1) (some (.nxt (I64 (q.1 - 1), s)))) else some (.brk q))
def rv_more (fuel : Nat) (g : Graph) (s : T4) : Option (Stp T4 (Option RL)) :=
  gd (Shp g.Nodes.length g.Kinds.length s.1) (if s.2 = true then (whileN (rv_i g) fuel (I64 ((List.length g.Nodes : Int) - 1), s.1, false)).bind (oc fun q => gd (Shp g.Nodes.length g.Kinds.length q.2.1) (some (.nxt q.2))) else some (.brk s))
def rv_l (p : Nat) (b : Bool) (l : List Int) : Option (Stp (List Int) (Option (Stp RL (Option RL)))) := if b = true then (appL 8 l [(p : Int)]).bind fun l' => some (.nxt l') else some (.nxt l)
def rv_out (rows : Rw) (i : Nat) (o : RL) : Option (Stp RL (Option RL)) := (getI rows (i : Int)).bind fun r => (rng rv_l r []).bind (oc fun l => (appL 24 o [l]).bind fun o' => some (.nxt o'))
def windlassref11_In_s (fuel : Nat) (g : Graph) : Option RL :=
  (mkL 24 (List.length g.Nodes : Int) (List.length g.Nodes : Int) ()).bind fun _ => (rni (rv_new g.Kinds.length) (List.length g.Nodes : Int) []).bind (oc fun s => gd (Shp g.Nodes.length g.Kinds.length s) ((whileN (rv_more fuel g) fuel (s, true)).bind (oc fun e =>
  gd (Shp g.Nodes.length g.Kinds.length e.1) ((rni (rv_out e.1) (List.length g.Nodes : Int) []).bind (oc fun o => some o)))))
def cl (s : Rw) (i p : Nat) : Bool := (s.getD i []).getD p false
def fls (r : List Bool) : Nat := (r.filter (fun b => !b)).length
def cntF (s : Rw) : Nat := (s.map fls).sum
theorem Shp.row (h : Shp N K s) {i : Nat} (hi : i < N) : ∃ r, s[i]? = some r ∧ r.length = K ∧ s.getD i [] = r := by
  have hl : i < s.length := by rw [h.1]; exact hi
  exact ⟨s[i], List.getElem?_eq_getElem hl, h.2 _ (List.getElem_mem hl), by simp [List.getD_eq_getElem?_getD, hl]⟩
theorem Shp.at (h : Shp N K s) {i p : Nat} (hi : i < N) (hp : p < K) : ∃ r, getI s (i : Int) = some r ∧ r.length = K ∧ getI r (p : Int) = some (cl s i p) := by
  obtain ⟨r, h1, h2, h3⟩ := h.row hi
  refine ⟨r, by rw [getI_n]; exact h1, h2, ?_⟩
  have : p < r.length := by omega
  rw [getI_n, List.getElem?_eq_getElem this]
  unfold cl; rw [h3]; simp [List.getD_eq_getElem?_getD, this]
theorem Shp.set (h : Shp N K s) {i p : Nat} (hi : i < N) {r : List Bool} (hr : s[i]? = some r) : Shp N K (s.set i (r.set p true)) := by
  refine ⟨by rw [List.length_set]; exact h.1, fun x hx => ?_⟩
  rcases List.mem_or_eq_of_mem_set hx with a | a
  · exact h.2 x a
  · rw [a, List.length_set]; exact h.2 r (List.mem_of_getElem? hr)
theorem cl_set {s : Rw} {i p j k : Nat} {r : List Bool} (hr : s[i]? = some r) (hp : p < r.length) : cl (s.set i (r.set p true)) j k = if j = i ∧ k = p then true else cl s j k := by
  have hi : i < s.length := (List.getElem?_eq_some_iff.1 hr).1
  unfold cl
  by_cases e : j = i
  · subst e
    have e1 : (s.set j (r.set p true)).getD j [] = r.set p true := by simp [List.getD_eq_getElem?_getD, hi]
    have e2 : s.getD j [] = r := by simp [List.getD_eq_getElem?_getD, hr]
    rw [e1, e2]
    by_cases f : k = p
    · subst f; simp [List.getD_eq_getElem?_getD, hp]
    · have : ¬ p = k := fun h => f h.symm
      simp [List.getD_eq_getElem?_getD, f, List.getElem?_set, this]
  · have : ¬ i = j := fun h => e h.symm
    simp [List.getD_eq_getElem?_getD, e, List.getElem?_set, this]
theorem fls_set : ∀ (r : List Bool) (p : Nat), r[p]? = some false → fls (r.set p true) + 1 = fls r
  | [], p, h => by simp at h
  | b :: r, 0, h => by simp at h; subst h; simp [fls]
  | b :: r, p + 1, h => by
    have := fls_set r p (by simpa using h)
    unfold fls at this ⊢
    cases b <;> simp at this ⊢ <;> omega
theorem cntF_set : ∀ (s : Rw) (i : Nat) (r r' : List Bool), s[i]? = some r → fls r' + 1 = fls r → cntF (s.set i r') + 1 = cntF s
  | [], i, r, r', h, _ => by simp at h
  | x :: s, 0, r, r', h, e => by simp at h; subst h; simp [cntF]; omega
  | x :: s, i + 1, r, r', h, e => by
    have := cntF_set s i r r' (by simpa using h) e
    simp [cntF] at this ⊢; omega
theorem cntF_le (h : Shp N K s) : cntF s ≤ N * K := by
  obtain ⟨h1, h2⟩ := h
  subst h1
  induction s with
  | nil => simp [cntF]
  | cons x s ih =>
    have hx := h2 x (by simp)
    have := ih (fun r hr => h2 r (by simp [hr]))
    have hf : fls x ≤ K := by unfold fls; rw [← hx]; exact List.length_filter_le _ _
    simp only [cntF, List.map_cons, List.sum_cons, List.length_cons] at this ⊢
    rw [Nat.add_mul]; omega
end Go.Proofs.YtgoejecjmodjiaaDoor

/- ref11.In finds the least answer. -/
namespace Go.Proofs.YtgoejecjmodjiaaDoor
open Go Go.Ab
set_option linter.unusedVariables false
set_option linter.unusedSimpArgs false
variable {N K : Nat} {s : Rw} {g : Graph}
theorem or_loop7 (h : Shp N K s) {p : Nat} (hp : p < K) (w : List Int) (hw : w.length ≤ 10000000) (nx : List Int) (hl : nx.length ≤ 2) (hn : ∀ x ∈ nx, 0 ≤ x ∧ x < N) (is0 : Bool) :
    rng (rv_or s w (p : Int)) nx is0 = some (.fin (is0 || nx.any fun to => cl s to.toNat p && !decide ((p : Int) ∈ w))) := by
  have := rng_inv (xs := nx) (s0 := is0) (body := rv_or s w (p : Int)) (fun _ => true) none (fun k b => b = (is0 || (nx.take k).any fun to => cl s to.toNat p && !decide ((p : Int) ∈ w))) (by omega) (by simp) (fun k to b hx hb => by
    simp only [if_true]
    have hto := hn to (List.mem_of_getElem? hx)
    obtain ⟨t, rfl⟩ : ∃ t : Nat, to = (t : Int) := ⟨to.toNat, by omega⟩
    rw [take_snoc hx, List.any_append, List.any_cons, List.any_nil, Bool.or_false, ← Bool.or_assoc, ← hb]
    unfold rv_or
    cases b with
    | true => exact ⟨true, by simp, by simp⟩
    | false =>
      obtain ⟨r, h1, h2, h3⟩ := h.at (i := t) (by omega) hp
      simp only [Bool.false_eq_true, if_false, h1, h3, Option.bind_some, rIn_eq w _ (by omega), Int.toNat_natCast]
      cases cl s t p with
      | true => exact ⟨!decide ((p : Int) ∈ w), by simp, by simp⟩
      | false => exact ⟨false, by simp, by simp⟩)
  rw [if_pos (by simp)] at this
  obtain ⟨s', e1, e2⟩ := this
  rw [e1, e2, List.take_length]
def need (g : Graph) (s : Rw) (i p : Nat) : Prop := (p : Int) ∈ rdR g i ∨ ∃ to : Nat, (to : Int) ∈ nxt g i ∧ cl s to p = true ∧ (p : Int) ∉ wrR g i
def Sound (g : Graph) (s : Rw) : Prop := ∀ i p, i < g.Nodes.length → p < g.Kinds.length → cl s i p = true → Lv g i p
structure Rnd (g : Graph) (R0 : Rw) (s : T4) : Prop where
  sh : Shp g.Nodes.length g.Kinds.length s.1
  so : Sound g s.1
  eq : s.2 = false → s.1 = R0
  lt : s.2 = true → cntF s.1 < cntF R0
theorem p_step (hg : GoodG g) {R0 : Rw} {i : Nat} {n : Node} (hn : g.Nodes[i]? = some n) {w : List Int} (hw : windlassref07_Writes_s n = some w) {s : T4} (h : Rnd g R0 s) {p : Nat} (hp : p < g.Kinds.length) :
    ∃ s', rv_p g (i : Int) n w p s = some (.nxt s') ∧ Rnd g R0 s' ∧ (s'.2 = false → s' = s ∧ (need g s.1 i p → cl s.1 i p = true)) := by
  have hi : i < g.Nodes.length := (List.getElem?_eq_some_iff.1 hn).1
  have eR : rdR g i = rawR n := by unfold rdR; rw [hn]
  have eW : wrR g i = rawW n := by unfold wrR; rw [hn]
  have eN : nxt g i = nextL n := by unfold nxt; rw [hn]
  obtain ⟨rd, r1, r2, r3⟩ := rReads_eq n (by rw [← eR]; have := hg.rd i; omega)
  obtain ⟨w', w1, w2, w3⟩ := rWrites_eq n
  rw [hw] at w1; cases w1
  unfold rv_p
  rw [gd_true h.sh, r1]
  simp only [Option.bind_some, rIn_eq rd _ (by omega), rNext_eq]
  rw [or_loop7 h.sh hp w w2 (nextL n) (nextL_len n) (fun x hx => hg.nx i x (by rw [eN]; exact hx))]
  simp only [Option.bind_some, oc]
  have key : (decide ((p : Int) ∈ rd) || (nextL n).any fun to => cl s.1 to.toNat p && !decide ((p : Int) ∈ w)) = true ↔ need g s.1 i p := by
    unfold need
    rw [eR, eW, eN]
    simp only [Bool.or_eq_true, decide_eq_true_eq, r3, List.any_eq_true, Bool.and_eq_true, Bool.not_eq_true', decide_eq_false_iff_not, w3]
    constructor
    · rintro (⟨a, _⟩ | ⟨to, a, b, c⟩)
      · exact .inl a
      · have := hg.nx i to (by rw [eN]; exact a)
        exact .inr ⟨to.toNat, by rw [Int.toNat_of_nonneg this.1]; exact a, b, fun q => c ⟨q, by omega⟩⟩
    · rintro (a | ⟨to, a, b, c⟩)
      · exact .inl ⟨a, by omega⟩
      · exact .inr ⟨(to : Int), a, by simpa using b, fun q => c q.1⟩
  obtain ⟨r, h1, h2, h3⟩ := h.sh.at hi hp
  have hrow : s.1[i]? = some r := by rw [← getI_n]; exact h1
  cases hb : (decide ((p : Int) ∈ rd) || (nextL n).any fun to => cl s.1 to.toNat p && !decide ((p : Int) ∈ w)) with
  | false =>
    simp only [Bool.false_eq_true, if_false]
    refine ⟨s, rfl, h, fun _ => ⟨rfl, fun q => ?_⟩⟩
    rw [key.2 q] at hb; cases hb
  | true =>
    have hneed := key.1 hb
    simp only [if_true, h1, h3, Option.bind_some]
    cases hc : cl s.1 i p with
    | true =>
      simp only [Bool.not_true, Bool.false_eq_true, if_false]
      exact ⟨s, rfl, h, fun _ => ⟨rfl, by simp⟩⟩
    | false =>
      simp only [Bool.not_false, if_true]
      have hrp : p < r.length := by omega
      have hrf : r[p]? = some false := by rw [← getI_n, h3, hc]
      have hcnt := cntF_set s.1 i r (r.set p true) hrow (fls_set r p hrf)
      refine ⟨_, rfl, ⟨h.sh.set hi hrow, fun j k hj hk hcl => ?_, fun q => by simp at q, fun _ => ?_⟩, fun q => by simp at q⟩
      · simp only [Int.toNat_natCast] at hcl
        rw [cl_set hrow hrp] at hcl
        by_cases e : j = i ∧ k = p
        · obtain ⟨rfl, rfl⟩ := e
          rcases hneed with a | ⟨to, a, b, c⟩
          · exact .read hj hk a
          · have ht := hg.nx _ _ a
            exact .step hj a (h.so to k (by omega) hk b) c
        · rw [if_neg e] at hcl; exact h.so j k hj hk hcl
      · simp only [Int.toNat_natCast]
        cases q : s.2 with
        | true => have := h.lt q; omega
        | false => have := h.eq q; rw [← this]; omega
theorem p_loop (hg : GoodG g) {R0 : Rw} {i : Nat} {n : Node} (hn : g.Nodes[i]? = some n) {w : List Int} (hw : windlassref07_Writes_s n = some w) {s : T4} (h : Rnd g R0 s) :
    ∃ s', rni (rv_p g (i : Int) n w) (List.length g.Kinds : Int) s = some (.fin s') ∧ Rnd g R0 s' ∧ (s'.2 = false → s' = s ∧ ∀ p, p < g.Kinds.length → need g s.1 i p → cl s.1 i p = true) := by
  obtain ⟨s', e1, e2, e3⟩ := rni_inv (body := rv_p g (i : Int) n w) (n := (List.length g.Kinds : Int)) (s0 := s) (fun k t => Rnd g R0 t ∧ (t.2 = false → t = s ∧ ∀ p, p < k → need g s.1 i p → cl s.1 i p = true)) (by have := hg.kn; omega) ⟨h, fun q => ⟨rfl, fun p hp => by omega⟩⟩ (fun k t hk ht => by
    obtain ⟨h1, h2⟩ := ht
    obtain ⟨t', a, b, c⟩ := p_step hg hn hw h1 (p := k) (by omega)
    refine ⟨t', a, b, fun q => ?_⟩
    obtain ⟨rfl, c2⟩ := c q
    obtain ⟨rfl, d⟩ := h2 q
    refine ⟨rfl, fun p hp hne => ?_⟩
    by_cases e : p = k
    · subst e; exact c2 hne
    · exact d p (by omega) hne)
  exact ⟨s', e1, e2, fun q => by simpa using e3 q⟩
def Clos (g : Graph) (s : Rw) (k : Int) : Prop := ∀ i p : Nat, k < (i : Int) → i < g.Nodes.length → p < g.Kinds.length → need g s i p → cl s i p = true
theorem round_ok (hg : GoodG g) {fuel : Nat} (hf : 5000 ≤ fuel) {R0 : Rw} (h : Rnd g R0 (R0, false)) :
    ∃ q, whileN (rv_i g) fuel (I64 ((List.length g.Nodes : Int) - 1), R0, false) = some (.fin q) ∧ Rnd g R0 q.2 ∧ (q.2.2 = false → Clos g R0 (-1)) := by
  have hN := hg.nn
  obtain ⟨o, e1, e2⟩ := whileN_ex (body := rv_i g) (fun q => -1 ≤ q.1 ∧ q.1 < g.Nodes.length ∧ Rnd g R0 q.2 ∧ (q.2.2 = false → Clos g R0 q.1)) (fun q => (q.1 + 1).toNat) (fun o => ∃ q, o = .fin q ∧ Rnd g R0 q.2 ∧ (q.2.2 = false → Clos g R0 (-1))) (fun q hq => by
    obtain ⟨h1, h2, h3, h4⟩ := hq
    unfold rv_i
    rw [gd_true h3.sh]
    by_cases hge : q.1 ≥ 0
    · obtain ⟨i, hi⟩ : ∃ i : Nat, q.1 = (i : Int) := ⟨q.1.toNat, by omega⟩
      have hi2 : i < g.Nodes.length := by omega
      obtain ⟨w, w1, w2, w3⟩ := rWrites_eq g.Nodes[i]
      obtain ⟨s', a, b, c⟩ := p_loop hg (List.getElem?_eq_getElem hi2) w1 h3
      left
      refine ⟨(q.1 - 1, s'), ?_, ⟨by simp only; omega, by simp only; omega, b, fun z => ?_⟩, by simp only; omega⟩
      · simp only [hge, decide_true, if_true]
        rw [hi, getI_n, List.getElem?_eq_getElem hi2]
        simp only [Option.bind_some, w1, a, oc]
        rw [gd_true b.sh, I64_of (by omega)]
      · obtain ⟨rfl, d⟩ := c z
        have e := h3.eq z
        rw [e] at d
        intro j p hj hjN hp hne
        simp only at hj
        by_cases ej : j = i
        · subst ej; exact d p hp hne
        · exact h4 z j p (by omega) hjN hp hne
    · right; left
      refine ⟨q, by simp [hge], q, rfl, h3, fun z => ?_⟩
      have : q.1 = -1 := by omega
      rw [← this]; exact h4 z) fuel (I64 ((List.length g.Nodes : Int) - 1), R0, false) ⟨by rw [I64_of (by omega)]; have := hg.n0; omega, by rw [I64_of (by omega)]; omega, h, fun _ j p hj hjN => by rw [I64_of (by omega)] at hj; simp only at hj; omega⟩ (by rw [I64_of (by omega)]; simp only; omega)
  obtain ⟨q, rfl, e3, e4⟩ := e2
  exact ⟨q, e1, e3, e4⟩
theorem more_ok (hg : GoodG g) {fuel : Nat} (hf : 10000000 ≤ fuel) {R : Rw} (hs : Shp g.Nodes.length g.Kinds.length R) (hz : ∀ i p, i < g.Nodes.length → p < g.Kinds.length → cl R i p = false) :
    ∃ e, whileN (rv_more fuel g) fuel (R, true) = some (.fin e) ∧ Shp g.Nodes.length g.Kinds.length e.1 ∧ ∀ i p, i < g.Nodes.length → p < g.Kinds.length → (cl e.1 i p = true ↔ Lv g i p) := by
  obtain ⟨o, e1, e2⟩ := whileN_ex (body := rv_more fuel g) (fun s => Shp g.Nodes.length g.Kinds.length s.1 ∧ Sound g s.1 ∧ (s.2 = false → Clos g s.1 (-1))) (fun s => if s.2 = true then cntF s.1 + 1 else 0) (fun o => ∃ e, o = .fin e ∧ Shp g.Nodes.length g.Kinds.length e.1 ∧ ∀ i p, i < g.Nodes.length → p < g.Kinds.length → (cl e.1 i p = true ↔ Lv g i p)) (fun s h => by
    obtain ⟨h1, h2, h3⟩ := h
    obtain ⟨R0, m⟩ := s
    unfold rv_more
    simp only at h1 h2 h3 ⊢
    rw [gd_true h1]
    cases m with
    | true =>
      left
      obtain ⟨q, a, b, c⟩ := round_ok hg (fuel := fuel) (by omega) (R0 := R0) ⟨h1, h2, fun _ => rfl, fun z => by cases z⟩
      refine ⟨q.2, ?_, ⟨b.sh, b.so, fun z => ?_⟩, ?_⟩
      · simp only [if_true, a, Option.bind_some, oc]
        rw [gd_true b.sh]
      · rw [b.eq z]; exact c z
      · simp only [if_true]
        split
        · have := b.lt (by assumption); omega
        · omega
    | false =>
      right; left
      refine ⟨(R0, false), by simp, (R0, false), rfl, h1, fun i p hi hp => ⟨h2 i p hi hp, fun hl => ?_⟩⟩
      have hc := h3 rfl
      simp only
      induction hl with
      | read hi' hp' hr => exact hc _ _ (by omega) hi' hp' (.inl hr)
      | step hi' ht hl hw ih =>
        have hh := hl.lt
        exact hc _ _ (by omega) hi' hh.2 (.inr ⟨_, ht, ih hh.1 hh.2, hw⟩)) fuel (R, true) ⟨hs, fun i p hi hp hc => (by rw [hz i p hi hp] at hc; cases hc), fun z => by cases z⟩ (by
      have := cntF_le hs
      have h1 := hg.nn; have h2 := hg.kn
      have : g.Nodes.length * g.Kinds.length ≤ 4096 * 1024 := Nat.mul_le_mul h1 h2
      simp only [if_true]; omega)
  obtain ⟨e, rfl, e3, e4⟩ := e2
  exact ⟨e, e1, e3, e4⟩
theorem l_loop (r : List Bool) (hr : r.length ≤ 1048576) : rng rv_l r [] = some (.fin (setL r.length fun p => r.getD p false)) := by
  have := rng_inv (xs := r) (s0 := ([] : List Int)) (body := rv_l) (fun _ => true) none (fun k l => l = setL k fun p => r.getD p false) (by omega) rfl (fun k b l hx hl => by
    simp only [if_true]
    have hb : r.getD k false = b := by simp [List.getD_eq_getElem?_getD, hx]
    have hll : l.length ≤ k := by rw [hl]; unfold setL; rw [List.length_map]; exact Nat.le_trans (List.length_filter_le _ _) (by simp)
    have hk : k < r.length := (List.getElem?_eq_some_iff.1 hx).1
    have hset : setL (k + 1) (fun p => r.getD p false) = l ++ (if b = true then [(k : Int)] else []) := by
      rw [hl]; unfold setL
      rw [List.range_succ, List.filter_append, List.map_append]
      congr 1
      simp only [List.filter_cons, List.filter_nil, hb]
      cases b <;> simp
    unfold rv_l
    cases b with
    | true =>
      refine ⟨l ++ [(k : Int)], ?_, by rw [hset]; simp⟩
      simp only [if_true]
      rw [appL_of (by simp; omega)]; rfl
    | false => exact ⟨l, by simp, by rw [hset]; simp⟩)
  rw [if_pos (by simp)] at this
  obtain ⟨s', e1, e2⟩ := this
  rw [e1, e2]
theorem out_loop (h : Shp N K s) (hN : N ≤ 5000) (hK : K ≤ 1048576) : rni (rv_out s) (N : Int) [] = some (.fin ((List.range N).map fun i => setL K (cl s i))) := by
  obtain ⟨s', e1, e2⟩ := rni_inv (body := rv_out s) (n := (N : Int)) (s0 := ([] : RL)) (fun k o => o = (List.range k).map fun i => setL K (cl s i)) (by omega) rfl (fun k o hk ho => by
    obtain ⟨r, h1, h2, h3⟩ := h.row (i := k) (by omega)
    have hc : (fun p => r.getD p false) = cl s k := by funext p; unfold cl; rw [h3]
    refine ⟨o ++ [setL K (cl s k)], ?_, by rw [List.range_succ, List.map_append, ← ho]; rfl⟩
    unfold rv_out
    rw [getI_n, h1]
    simp only [Option.bind_some, l_loop r (by omega), oc]
    rw [h2, hc, appL_of (by rw [ho]; simp; omega)]; rfl)
  rw [e1, e2]; simp
theorem new_loop (g : Graph) (hg : GoodG g) : ∃ s, rni (rv_new g.Kinds.length) (List.length g.Nodes : Int) [] = some (.fin s) ∧ Shp g.Nodes.length g.Kinds.length s ∧ ∀ i p, cl s i p = false := by
  obtain ⟨s', e1, e2, e3⟩ := rni_inv (body := rv_new g.Kinds.length) (n := (List.length g.Nodes : Int)) (s0 := ([] : Rw)) (fun k s => Shp k g.Kinds.length s ∧ ∀ r ∈ s, r = List.replicate g.Kinds.length false) (by have := hg.nn; omega) ⟨⟨rfl, by simp⟩, by simp⟩ (fun k s hk hs => by
    obtain ⟨h1, h2⟩ := hs
    have := hg.kn
    refine ⟨s ++ [List.replicate g.Kinds.length false], ?_, ⟨by rw [List.length_append, h1.1]; rfl, ?_⟩, ?_⟩
    · unfold rv_new
      rw [gd_true h1]
      unfold mkL
      rw [if_pos (by omega)]; simp
    · intro r hr
      rcases List.mem_append.1 hr with a | a
      · exact h1.2 r a
      · simp at a; rw [a]; simp
    · intro r hr
      rcases List.mem_append.1 hr with a | a
      · exact h2 r a
      · simpa using a)
  refine ⟨s', e1, by simpa using e2, fun i p => ?_⟩
  unfold cl
  rcases Nat.lt_or_ge i s'.length with a | a
  · have := e3 _ (List.getElem_mem a)
    simp only [List.getD_eq_getElem?_getD, List.getElem?_eq_getElem a, Option.getD_some, this, List.getElem?_replicate]
    split <;> rfl
  · simp [List.getD_eq_getElem?_getD, a]
theorem rIn_ok (hg : GoodG g) {fuel : Nat} (hf : 10000000 ≤ fuel) : windlassref11_In_s fuel g = some (inL g) := by
  unfold windlassref11_In_s
  have hN := hg.nn; have hK := hg.kn
  have hm : mkL 24 (List.length g.Nodes : Int) (List.length g.Nodes : Int) () = some (List.replicate g.Nodes.length ()) := by unfold mkL; rw [if_pos (by omega)]; simp
  obtain ⟨s, a1, a2, a3⟩ := new_loop g hg
  obtain ⟨e, b1, b2, b3⟩ := more_ok hg hf a2 (fun i p _ _ => a3 i p)
  rw [hm]
  simp only [Option.bind_some, a1, oc]
  rw [gd_true a2, b1]
  simp only [Option.bind_some, oc]
  rw [gd_true b2, out_loop b2 (by omega) (by omega)]
  simp only [Option.bind_some, oc]
  unfold inL
  congr 1
  refine List.map_congr_left (fun i hi => setL_congr (fun p hp => ?_))
  have := b3 i p (by simpa using hi) hp
  unfold lvB
  exact @bool_of _ _ (Classical.propDecidable _) this
end Go.Proofs.YtgoejecjmodjiaaDoor

/- ref11.In: the walk. -/
namespace Go.Proofs.YtgoejecjmodjiaaDoor
open Go Go.Ab
set_option maxRecDepth 20000
set_option maxHeartbeats 2000000
set_option linter.unusedVariables false
set_option linter.unusedSimpArgs false
def c14_1 : FC := .reg [oO 1 (.box (.t 0)),  oO 2 (.mv (.v .nils))] []
def c14_2 : FC := .reg [oO 18 (.fad 6 (.t 1)),  oO 19 (.load none (.t 18)),  oO 20 (.len .sl (.t 19)),  oO 21 (.mksl none 24 [.nils] (.t 20) (.t 20)),  oO 3 (.mv (.t 21))] []
def c14_3 : FC := .reg [oO 22 (.mv (.t 3)),  oO 23 (.len .sl (.t 22)),  oO 24 (.mv (.v (.int .i64 0)))] []
def c14_4 : FC := .reg [oO 26 (.mv (.t 24)),  oO 4 (.mv (.t 26))] []
def c14_5 : FC := .reg [oO 27 (.mv (.t 3)),  oO 28 (.mv (.t 4)),  oO 29 (.fad 1 (.t 1)),  oO 30 (.load none (.t 29)),  oO 31 (.len .sl (.t 30)),  oO 32 (.mksl none 1 [(.bool false)] (.t 31) (.t 31)),  oO 33 (.iad none none (.t 27) (.t 28)),  ⟨none, none, .op (.store 1 (.t 33) (.t 32))⟩] []
def c14_6 : FC := .seq c14_4 c14_5
def c14_7 : FC := .loop (.seq (.reg [oO 25 (.bin .none .lss (.t 24) (.t 23))] []) (.seq (.cond (.t 25) .skip (.exit 0)) (.seq (.block 1 c14_6) (.reg [oO 34 (.bin .none .add (.t 24) (.v (.int .i64 1))),  oO 24 (.mv (.t 34))] []))))
def c14_8 : FC := .block 0 c14_7
def c14_9 : FC := .seq c14_3 c14_8
def c14_10 : FC := .reg [oO 5 (.mv (.v (.bool true)))] []
def c14_11 : FC := .reg [oO 35 (.mv (.t 5))] []
def c14_12 : FC := .cond (.t 35) FC.skip (FC.exit 2)
def c14_13 : FC := .seq c14_11 c14_12
def c14_14 : FC := .reg [oO 5 (.mv (.v (.bool false)))] []
def c14_15 : FC := .reg [oO 36 (.fad 6 (.t 1)),  oO 37 (.load none (.t 36)),  oO 38 (.len .sl (.t 37)),  oO 39 (.bin .none .sub (.t 38) (.v (.int .i64 1))),  oO 6 (.mv (.t 39))] []
def c14_16 : FC := .reg [oO 40 (.mv (.t 6)),  oO 41 (.bin .none .geq (.t 40) (.v (.int .i64 0)))] []
def c14_17 : FC := .cond (.t 41) FC.skip (FC.exit 4)
def c14_18 : FC := .seq c14_16 c14_17
def c14_19 : FC := .reg [oO 44 (.fad 6 (.t 1)),  oO 45 (.load none (.t 44)),  oO 46 (.mv (.t 6)),  oO 47 (.iad none (some 12) (.t 45) (.t 46)),  oO 48 (.load (some 12) (.t 47)),  oO 7 (.new [(.int .u8 0), (.int .u8 0), (.int .i64 0), (.int .i64 0), (.int .i64 0), (.int .i64 0), (.int .i64 0), (.int .i64 0), (.int .u64 0), .nils, (.int .i64 0), (.int .i64 0)]),  ⟨none, none, .op (.store 12 (.t 7) (.t 48))⟩] []
def c14_20 : FC := .reg [oO 49 (.load (some 12) (.t 7)),  ⟨(some 50), none, .call 33 [(.t 49)]⟩,  oO 8 (.mv (.t 50))] []
def c14_21 : FC := .reg [oO 51 (.fad 1 (.t 1)),  oO 52 (.load none (.t 51)),  oO 53 (.len .sl (.t 52)),  oO 54 (.mv (.v (.int .i64 0)))] []
def c14_22 : FC := .reg [oO 56 (.mv (.t 54)),  oO 9 (.mv (.t 56))] []
def c14_23 : FC := .reg [oO 57 (.load (some 12) (.t 7)),  ⟨(some 58), none, .call 34 [(.t 57)]⟩,  oO 59 (.mv (.t 9)),  ⟨(some 60), none, .call 18 [(.t 58), (.t 59)]⟩,  oO 10 (.mv (.t 60))] []
def c14_24 : FC := .reg [oO 61 (.load (some 12) (.t 7)),  ⟨(some 62), none, .call 23 [(.t 61)]⟩,  oO 63 (.len .sl (.t 62)),  oO 64 (.mv (.v (.int .i64 0)))] []
def c14_25 : FC := .reg [oO 66 (.iad none none (.t 62) (.t 64)),  oO 67 (.load none (.t 66)),  oO 12 (.mv (.t 67))] []
def c14_26 : FC := .reg [oO 68 (.mv (.t 10)),  oO 69 (.mv (.t 68)),  ⟨(some 70), some (69, false), .op (.mv (.t 3))⟩,  ⟨(some 71), some (69, false), .op (.mv (.t 12))⟩,  ⟨(some 72), some (69, false), .op (.iad none none (.t 70) (.t 71))⟩,  ⟨(some 73), some (69, false), .op (.load none (.t 72))⟩,  ⟨(some 74), some (69, false), .op (.mv (.t 9))⟩,  ⟨(some 75), some (69, false), .op (.iad none none (.t 73) (.t 74))⟩,  ⟨(some 76), some (69, false), .op (.load none (.t 75))⟩,  ⟨(some 77), some (69, false), .op (.mv (.t 76))⟩,  ⟨(some 78), some (77, true), .op (.mv (.t 8))⟩,  ⟨(some 79), some (77, true), .op (.mv (.t 9))⟩,  ⟨(some 80), some (77, true), .call 18 [(.t 78), (.t 79)]⟩,  ⟨(some 81), some (77, true), .op (.un .not (.t 80))⟩,  ⟨(some 82), some (69, false), .op (.pick (.t 77) (.t 81) (.v (.bool false)))⟩,  oO 83 (.pick (.t 69) (.v (.bool true)) (.t 82)),  oO 10 (.mv (.t 83))] []
def c14_27 : FC := .seq c14_25 c14_26
def c14_28 : FC := .loop (.seq (.reg [oO 65 (.bin .none .lss (.t 64) (.t 63))] []) (.seq (.cond (.t 65) .skip (.exit 8)) (.seq (.block 9 c14_27) (.reg [oO 84 (.bin .none .add (.t 64) (.v (.int .i64 1))),  oO 64 (.mv (.t 84))] []))))
def c14_29 : FC := .block 8 c14_28
def c14_30 : FC := .seq c14_24 c14_29
def c14_31 : FC := .reg [oO 85 (.mv (.t 10)),  oO 86 (.mv (.t 85)),  ⟨(some 87), some (86, true), .op (.mv (.t 3))⟩,  ⟨(some 88), some (86, true), .op (.mv (.t 6))⟩,  ⟨(some 89), some (86, true), .op (.iad none none (.t 87) (.t 88))⟩,  ⟨(some 90), some (86, true), .op (.load none (.t 89))⟩,  ⟨(some 91), some (86, true), .op (.mv (.t 9))⟩,  ⟨(some 92), some (86, true), .op (.iad none none (.t 90) (.t 91))⟩,  ⟨(some 93), some (86, true), .op (.load none (.t 92))⟩,  ⟨(some 94), some (86, true), .op (.un .not (.t 93))⟩,  oO 95 (.pick (.t 86) (.t 94) (.v (.bool false)))] []
def c14_32 : FC := .reg [oO 96 (.mv (.t 3)),  oO 97 (.mv (.t 6)),  oO 98 (.iad none none (.t 96) (.t 97)),  oO 99 (.load none (.t 98)),  oO 100 (.mv (.t 9)),  oO 101 (.iad none none (.t 99) (.t 100)),  ⟨none, none, .op (.store 1 (.t 101) (.v (.bool true)))⟩] []
def c14_33 : FC := .reg [oO 5 (.mv (.v (.bool true)))] []
def c14_34 : FC := .seq c14_32 c14_33
def c14_35 : FC := .cond (.t 95) c14_34 FC.skip
def c14_36 : FC := .seq c14_31 c14_35
def c14_37 : FC := .seq c14_30 c14_36
def c14_38 : FC := .seq c14_23 c14_37
def c14_39 : FC := .seq c14_22 c14_38
def c14_40 : FC := .loop (.seq (.reg [oO 55 (.bin .none .lss (.t 54) (.t 53))] []) (.seq (.cond (.t 55) .skip (.exit 6)) (.seq (.block 7 c14_39) (.reg [oO 102 (.bin .none .add (.t 54) (.v (.int .i64 1))),  oO 54 (.mv (.t 102))] []))))
def c14_41 : FC := .block 6 c14_40
def c14_42 : FC := .seq c14_21 c14_41
def c14_43 : FC := .seq c14_20 c14_42
def c14_44 : FC := .seq c14_19 c14_43
def c14_45 : FC := .block 5 c14_44
def c14_46 : FC := .reg [oO 42 (.mv (.t 6)),  oO 43 (.bin .none .sub (.t 42) (.v (.int .i64 1))),  oO 6 (.mv (.t 43))] []
def c14_47 : FC := .seq c14_45 c14_46
def c14_48 : FC := .seq c14_18 c14_47
def c14_49 : FC := .loop c14_48
def c14_50 : FC := .block 4 c14_49
def c14_51 : FC := .seq c14_15 c14_50
def c14_52 : FC := .seq c14_14 c14_51
def c14_53 : FC := .block 3 c14_52
def c14_54 : FC := .seq c14_13 c14_53
def c14_55 : FC := .loop c14_54
def c14_56 : FC := .block 2 c14_55
def c14_57 : FC := .seq c14_10 c14_56
def c14_58 : FC := .reg [oO 13 (.mv (.v .nils))] []
def c14_59 : FC := .reg [oO 103 (.mv (.t 3)),  oO 104 (.len .sl (.t 103)),  oO 105 (.mv (.v (.int .i64 0)))] []
def c14_60 : FC := .reg [oO 107 (.mv (.t 105)),  oO 14 (.mv (.t 107))] []
def c14_61 : FC := .reg [oO 15 (.mv (.v .nils))] []
def c14_62 : FC := .reg [oO 108 (.mv (.t 3)),  oO 109 (.mv (.t 14)),  oO 110 (.iad none none (.t 108) (.t 109)),  oO 111 (.load none (.t 110)),  oO 112 (.len .sl (.t 111)),  oO 113 (.mv (.v (.int .i64 0)))] []
def c14_63 : FC := .reg [oO 115 (.mv (.t 113)),  oO 116 (.iad none none (.t 111) (.t 113)),  oO 117 (.load none (.t 116)),  oO 16 (.mv (.t 115)),  oO 17 (.mv (.t 117))] []
def c14_64 : FC := .reg [oO 118 (.mv (.t 17))] []
def c14_65 : FC := .reg [oO 119 (.mv (.t 15)),  oO 120 (.mv (.t 16)),  oO 121 (.bsl none [(.int .i64 0)] 1 [(0, 1, (.t 120))]),  oO 122 (.app none 8 (.t 119) (.t 121)),  oO 15 (.mv (.t 122))] []
def c14_66 : FC := .cond (.t 118) c14_65 FC.skip
def c14_67 : FC := .seq c14_64 c14_66
def c14_68 : FC := .seq c14_63 c14_67
def c14_69 : FC := .loop (.seq (.reg [oO 114 (.bin .none .lss (.t 113) (.t 112))] []) (.seq (.cond (.t 114) .skip (.exit 12)) (.seq (.block 13 c14_68) (.reg [oO 123 (.bin .none .add (.t 113) (.v (.int .i64 1))),  oO 113 (.mv (.t 123))] []))))
def c14_70 : FC := .block 12 c14_69
def c14_71 : FC := .seq c14_62 c14_70
def c14_72 : FC := .reg [oO 124 (.mv (.t 13)),  oO 125 (.mv (.t 15)),  oO 126 (.bsl none [.nils] 1 [(0, 1, (.t 125))]),  oO 127 (.app none 24 (.t 124) (.t 126)),  oO 13 (.mv (.t 127))] []
def c14_73 : FC := .seq c14_71 c14_72
def c14_74 : FC := .seq c14_61 c14_73
def c14_75 : FC := .seq c14_60 c14_74
def c14_76 : FC := .loop (.seq (.reg [oO 106 (.bin .none .lss (.t 105) (.t 104))] []) (.seq (.cond (.t 106) .skip (.exit 10)) (.seq (.block 11 c14_75) (.reg [oO 128 (.bin .none .add (.t 105) (.v (.int .i64 1))),  oO 105 (.mv (.t 128))] []))))
def c14_77 : FC := .block 10 c14_76
def c14_78 : FC := .seq c14_59 c14_77
def c14_79 : FC := .reg [oO 129 (.mv (.t 13)),  oO 2 (.mv (.t 129))] []
def c14_80 : FC := .seq c14_79 FC.ret
def c14_81 : FC := .seq c14_78 c14_80
def c14_82 : FC := .seq c14_58 c14_81
def c14_83 : FC := .seq c14_57 c14_82
def c14_84 : FC := .seq c14_9 c14_83
def c14_85 : FC := .seq c14_2 c14_84
def c14_86 : FC := .seq c14_1 c14_85
def fc14 : FC := c14_86
theorem fn14 : Fn3 Tryd.prog 14 130 [(2, none)] fc14 := ⟨_, _, Tryd.func14, rfl, rfl, rfl, by kernel_rfl⟩

def itR (ads : List Nat) (s : Rw) : List It := List.zipWith (fun a r => (a, 0, flat avB r)) ads s
def refs (K : Nat) (ads : List Nat) : List AV := ads.map fun a => .ref a 0 0 K none
def nilsN (n : Nat) : List AV := List.replicate n .nils
theorem rangeN_step {σ ρ β : Type} {body : Nat → σ → Option (Stp σ ρ)} {k : Out σ ρ → Option β} {r : β} {m i : Nat} {s : σ} (h : (rangeN body (m + 1) i s).bind k = some r) :
    ∃ c, body i s = some c ∧ (match c with | .nxt s' => (rangeN body m (i + 1) s').bind k = some r | .brk s' => k (.fin s') = some r | .ret v => k (.ret v) = some r) := by
  simp only [rangeN] at h
  cases hc : body i s with
  | none => rw [hc] at h; cases h
  | some c => rw [hc] at h; refine ⟨c, rfl, ?_⟩; cases c <;> exact h
theorem rni_start {σ ρ β : Type} {body : Nat → σ → Option (Stp σ ρ)} {k : Out σ ρ → Option β} {r : β} {n : Nat} {s : σ} (h : (rni body (n : Int) s).bind k = some r) : n ≤ 4611686018427387904 ∧ (rangeN body n 0 s).bind k = some r := by
  unfold rni at h
  split at h
  · rename_i hn; exact ⟨by omega, by simpa using h⟩
  · cases h
theorem encZU : Enc (fun (_ : Unit) => AV.nils) none := ⟨fun _ => rfl, fun _ => rfl, fun _ => rfl, fun _ _ => rfl⟩
theorem flatZU (n : Nat) : flat (fun (_ : Unit) => AV.nils) (List.replicate n ()) = nilsN n := by
  induction n with
  | zero => rfl
  | succ n ih => rw [List.replicate_succ, flat_cons, ih]; rfl
theorem whileN_next {σ ρ β : Type} {body : σ → Option (Stp σ ρ)} {k : Out σ ρ → Option β} {r : β} {n : Nat} {s : σ} (h : (whileN body n s).bind k = some r) :
    ∃ m c, n = m + 1 ∧ body s = some c ∧ (match c with | .nxt s' => (whileN body m s').bind k = some r | .brk s' => k (.fin s') = some r | .ret v => k (.ret v) = some r) := by
  cases n with
  | zero => simp [whileN] at h
  | succ m =>
    simp only [whileN] at h
    cases hc : body s with
    | none => rw [hc] at h; cases h
    | some c => rw [hc] at h; refine ⟨m, c, rfl, rfl, ?_⟩; cases c <;> exact h
theorem itR_push {ads : List Nat} {s : Rw} {a : Nat} {w : List Bool} (h : ads.length = s.length) : itR (ads ++ [a]) (s ++ [w]) = itR ads s ++ [(a, 0, flat avB w)] := by
  unfold itR; rw [List.zipWith_append h]; rfl
theorem refs_push {K m : Nat} {ads : List Nat} {a : Nat} : (refs K ads ++ nilsN (m + 1)).set ads.length (.ref a 0 0 K none) = refs K (ads ++ [a]) ++ nilsN m := by
  have : ads.length = (refs K ads).length := by simp [refs]
  rw [this, List.set_append_right _ _ (Nat.le_refl _), Nat.sub_self]
  simp [refs, nilsN, List.replicate_succ]
theorem refs_at {K : Nat} {ads : List Nat} {j : Nat} {X : List AV} (h : j < ads.length) : vPart none (refs K ads ++ X) j = some (.ref (ads[j]) 0 0 K none) := by
  have : j < (refs K ads ++ X).length := by simp [refs]; omega
  simp only [vPart]
  rw [if_pos this, List.getD_eq_getElem?_getD, List.getElem?_append_left (by simp [refs]; exact h)]
  simp [refs, h]
theorem itR_mem {ads : List Nat} {s : Rw} {j : Nat} {w : List Bool} (h : j < ads.length) (hw : s[j]? = some w) : (ads[j], 0, flat avB w) ∈ itR ads s := by
  obtain ⟨hj, rfl⟩ := List.getElem?_eq_some_iff.1 hw
  unfold itR
  rw [List.mem_iff_getElem]
  exact ⟨j, by simp; omega, by simp⟩
theorem itR_rp {ads : List Nat} {s : Rw} {j : Nat} {w w' : List Bool} (h : j < ads.length) (hw : s[j]? = some w) : Rp (itR ads s) (ads[j], 0, flat avB w) (ads[j], 0, flat avB w') (itR ads (s.set j w')) := by
  induction ads generalizing s j with
  | nil => simp at h
  | cons a ads ih =>
    cases s with
    | nil => simp at hw
    | cons x s =>
      cases j with
      | zero => simp at hw; subst hw; exact Rp.here
      | succ j => exact Rp.there (ih (by simpa using h) (by simpa using hw))
theorem flatB : ∀ w : List Bool, flat avB w = w.map avB
  | [] => rfl
  | x :: w => by rw [flat_cons, flatB w]; rfl
theorem row_at {w : List Bool} {p : Nat} {b : Bool} {k : Nat} (h : w[p]? = some b) (hk : k = p) : vPart none (flat avB w) k = some (.bool b) := by
  subst hk
  obtain ⟨hp, rfl⟩ := List.getElem?_eq_some_iff.1 h
  have hl : k < (flat avB w).length := by rw [encB.length]; simpa [szOf] using hp
  simp only [vPart]
  rw [if_pos hl, flatB, List.getD_eq_getElem?_getD]
  simp [hp, avB]
theorem row_set {w : List Bool} {p k : Nat} (hp : p < w.length) (hk : k = p) : splice (flat avB w) k (AV.bool true).cells = flat avB (w.set p true) := by
  subst hk
  simp only [AV.cells, splice, flatB, List.map_set]; rfl
theorem refs_at0 {K : Nat} {ads : List Nat} {j : Nat} (h : j < ads.length) : vPart none (refs K ads) (0 + j * szOf none) = some (.ref (ads[j]) 0 0 K none) := by
  have := refs_at (K := K) (X := []) h; simpa [szOf] using this
def m4 (g : Graph) (e : T4) : Option RL := (rni (rv_out e.1) (List.length g.Nodes : Int) []).bind (oc fun o => some o)
def m3 (g : Graph) (e : T4) : Option RL := gd (Shp g.Nodes.length g.Kinds.length e.1) (m4 g e)
def m2 (fuel : Nat) (g : Graph) (s : Rw) : Option RL := gd (Shp g.Nodes.length g.Kinds.length s) ((whileN (rv_more fuel g) fuel (s, true)).bind (oc (m3 g)))
theorem windlassref11_In_ev {fuel : Nat} {g_00 : Graph} {r : (List (List Int))} (h : windlassref11_In_s fuel g_00 = some r) : PureEv Tryd.prog 14 [(Graph.av g_00)] (.sl false 1 (List.map (avL 1 (avI .i64)) r)) := by
  unfold windlassref11_In_s at h
  obtain ⟨w0, hw0, h⟩ := bd_some h
  obtain ⟨hw1, rfl⟩ := mkL_some hw0
  refine PureEv_end mixed fn14 (by simp) [7, 21, 32, 122, 127] 2 ?_
  have hS : Sep [] [] := Sep.nil
  refine E_sq (E_reg ?_)
  refine E_op0 (v' := gR g_00) rfl rfl ?_
  (repeat (first | refine E_mv (by conv => lhs; whnf) ?_ | refine E_lenR rfl ?_ | refine E_len rfl ?_ | refine E_op0 rfl (by conv => lhs; whnf) ?_ | refine E_nil ?_ | refine E_nx ?_ | refine E_as ?_ | refine E_sq ?_ | refine E_reg ?_ | refine E_skip ?_ | refine E_gh rfl ?_ | refine E_gm rfl ?_ | refine E_gz rfl ?_))
  refine E_mkS (f := fun (_ : Unit) => AV.nils) (x := ()) hS encZU rfl rfl rfl rfl hw1 (fun o3 S hS => ?_)
  rw [flatZU] at hS
  simp only [Int.toNat_natCast] at hS ⊢
  (repeat (first | refine E_mv (by conv => lhs; whnf) ?_ | refine E_lenR rfl ?_ | refine E_len rfl ?_ | refine E_op0 rfl (by conv => lhs; whnf) ?_ | refine E_nil ?_ | refine E_nx ?_ | refine E_as ?_ | refine E_sq ?_ | refine E_reg ?_ | refine E_skip ?_ | refine E_gh rfl ?_ | refine E_gm rfl ?_ | refine E_gz rfl ?_))
  obtain ⟨hN, h⟩ := rni_start h
  refine EL_rni g_00.Nodes.length (fun _ : List Nat × Rw => [(1, gR g_00), (3, .ref o3 0 0 g_00.Nodes.length none)]) (fun s => (o3, 0, refs g_00.Kinds.length s.1 ++ nilsN (g_00.Nodes.length - s.1.length)) :: itR s.1 s.2)
    (fun i s => s.1.length = i ∧ s.2.length = i ∧ (rangeN (rv_new g_00.Kinds.length) (g_00.Nodes.length - i) i s.2).bind (oc (m2 fuel g_00)) = some r) ([], []) (by simpa [refs, itR] using hS) ⟨rfl, rfl, h⟩ (wk_fr ⟨.refl _, .refl _, .refl _, .refl _, trivial⟩) hN (by decide) (by decide) (fun _ => ⟨rfl, rfl, rfl, rfl⟩) (fun i s S hi hI hS => ?_) (fun s fr' S hI hS hw => ?_)
  · obtain ⟨ads, s⟩ := s
    obtain ⟨h1, h2, h⟩ := hI
    simp only at h1 h2 h hS
    obtain ⟨m, hm⟩ : ∃ m, g_00.Nodes.length - i = m + 1 := ⟨g_00.Nodes.length - i - 1, by omega⟩
    rw [hm] at h
    obtain ⟨c, hc, h⟩ := rangeN_step h
    unfold rv_new at hc
    obtain ⟨hsh, hc⟩ := gd_some hc
    obtain ⟨w, hw1, hc⟩ := bd_some hc
    obtain ⟨hw2, rfl⟩ := mkL_some hw1
    cases hc
    (repeat (first | refine E_mv (by conv => lhs; whnf) ?_ | refine E_lenR rfl ?_ | refine E_len rfl ?_ | refine E_op0 rfl (by conv => lhs; whnf) ?_ | refine E_nil ?_ | refine E_nx ?_ | refine E_as ?_ | refine E_sq ?_ | refine E_reg ?_ | refine E_skip ?_ | refine E_gh rfl ?_ | refine E_gm rfl ?_ | refine E_gz rfl ?_))
    refine E_mkS (x := false) hS encB rfl rfl rfl rfl hw2 (fun a S hS => ?_)
    refine E_iadR rfl rfl ⟨by omega, by omega⟩ ?_
    refine E_stS hS rfl (by conv => lhs; whnf) (by first | exact Rp.here | (repeat (first | exact Rp.here | apply Rp.there | apply Rp.skip))) rfl rfl (by simp [refs, nilsN, szOf]; omega) (fun S hS => ?_)
    (repeat (first | refine E_mv (by conv => lhs; whnf) ?_ | refine E_lenR rfl ?_ | refine E_len rfl ?_ | refine E_op0 rfl (by conv => lhs; whnf) ?_ | refine E_nil ?_ | refine E_nx ?_ | refine E_as ?_ | refine E_sq ?_ | refine E_reg ?_ | refine E_skip ?_ | refine E_gh rfl ?_ | refine E_gm rfl ?_ | refine E_gz rfl ?_))
    subst h1
    rw [hm] at hS
    refine R_n (ads ++ [a], s ++ [List.replicate g_00.Kinds.length false]) ⟨by simp, by simp [h2], ?_⟩ ?_ (wk_fr ⟨.refl _, .refl _, .refl _, .refl _, trivial⟩)
    · rw [show g_00.Nodes.length - (ads.length + 1) = m by omega]; exact h
    · have e : splice (refs g_00.Kinds.length ads ++ nilsN (m + 1)) (0 + ((ads.length : Int)).toNat * szOf none) (AV.ref a 0 0 ((g_00.Kinds.length : Int)).toNat none).cells = refs g_00.Kinds.length (ads ++ [a]) ++ nilsN m := by
        rw [← refs_push]
        simp [szOf, AV.cells, splice]
      rw [e] at hS
      simp only [itR_push h2.symm, Int.toNat_natCast] at hS ⊢
      rw [show g_00.Nodes.length - (ads ++ [a]).length = m by simp; omega]
      exact hS.perm (List.perm_append_comm (l₁ := [_]) (l₂ := _ :: _))
  · obtain ⟨ads, s⟩ := s
    obtain ⟨h1, h2, h⟩ := hI
    simp only at h1 h2 h hS
    have hS : Sep S ((o3, 0, refs g_00.Kinds.length ads) :: itR ads s) := by
      rw [h1, Nat.sub_self] at hS; simpa [nilsN] using hS
    rw [Nat.sub_self] at h
    replace h : m2 fuel g_00 s = some r := h
    obtain ⟨hsh, h⟩ := gd_some h
    refine E_nxw hw ?_
    (repeat (first | refine E_mv (by conv => lhs; whnf) ?_ | refine E_lenR rfl ?_ | refine E_len rfl ?_ | refine E_op0 rfl (by conv => lhs; whnf) ?_ | refine E_nil ?_ | refine E_nx ?_ | refine E_as ?_ | refine E_sq ?_ | refine E_reg ?_ | refine E_skip ?_ | refine E_gh rfl ?_ | refine E_gm rfl ?_ | refine E_gz rfl ?_))
    refine E_block (EL_loop (σ := Nat × T4) (fun i => [(1, gR g_00), (3, .ref o3 0 0 g_00.Nodes.length none), (5, .bool i.2.2)]) (fun i => (o3, 0, refs g_00.Kinds.length ads) :: itR ads i.2.1) (fun i => (whileN (rv_more fuel g_00) i.1 i.2).bind (oc (m3 g_00)) = some r) (fun i => i.1) (fuel, s, true) hS h (wk_fr ⟨.refl _, .refl _, .refl _, trivial⟩) (fun i S h hS => ?_))
    obtain ⟨n, s, more⟩ := i
    simp only at h hS
    obtain ⟨n, c, rfl, hc, h⟩ := whileN_next h
    unfold rv_more at hc
    obtain ⟨hsh, hc⟩ := gd_some hc
    (repeat (first | refine E_mv (by conv => lhs; whnf) ?_ | refine E_lenR rfl ?_ | refine E_len rfl ?_ | refine E_op0 rfl (by conv => lhs; whnf) ?_ | refine E_nil ?_ | refine E_nx ?_ | refine E_as ?_ | refine E_sq ?_ | refine E_reg ?_ | refine E_skip ?_ | refine E_gh rfl ?_ | refine E_gm rfl ?_ | refine E_gz rfl ?_))
    cases more with
    | false =>
      rw [if_neg (by simp)] at hc
      cases hc
      refine E_cf rfl (E_exit ?_)
      (repeat (first | refine E_the ?_ | refine E_ble ?_ | refine E_blo rfl ?_ | refine E_thr ?_ | refine E_blr ?_ | refine E_bln ?_))
      replace h : m3 g_00 (s, false) = some r := h
      obtain ⟨hsh, h⟩ := gd_some h
      unfold m4 at h
      refine E_nx ?_
      refine E_sq (E_reg ?_)
      (repeat (first | refine E_mv (by conv => lhs; whnf) ?_ | refine E_lenR rfl ?_ | refine E_len rfl ?_ | refine E_op0 rfl (by conv => lhs; whnf) ?_))
      refine E_nil ?_
      refine E_nxN 13 none hS rfl (fun o13 S hS => ?_)
      (repeat (first | refine E_mv (by conv => lhs; whnf) ?_ | refine E_lenR rfl ?_ | refine E_len rfl ?_ | refine E_op0 rfl (by conv => lhs; whnf) ?_ | refine E_nil ?_ | refine E_nx ?_ | refine E_as ?_ | refine E_sq ?_ | refine E_reg ?_ | refine E_skip ?_ | refine E_gh rfl ?_ | refine E_gm rfl ?_ | refine E_gz rfl ?_))
      obtain ⟨_, h⟩ := rni_start h
      dsimp only at h hS
      refine EL_rni g_00.Nodes.length (fun q : Nat × List (Nat × Nat × List Int) => [(3, .ref o3 0 0 g_00.Nodes.length none), (13, .ref o13 q.1 0 q.2.length none)])
        (fun q => (o13, q.1, q.2.map fun x => AV.ref x.1 x.2.1 0 x.2.2.length none) :: ((q.2.map fun x => (x.1, x.2.1, flat (avI .i64) x.2.2)) ++ ((o3, 0, refs g_00.Kinds.length ads) :: itR ads s)))
        (fun i q => q.2.length = i ∧ (rangeN (rv_out s) (g_00.Nodes.length - i) i (q.2.map (·.2.2))).bind (oc fun o => some o) = some r) (0, []) hS ⟨rfl, h⟩ (wk_fr ⟨.refl _, .refl _, .refl _, .refl _, trivial⟩) hN (by decide) (by decide) (fun _ => ⟨rfl, rfl, rfl, rfl⟩) (fun i q S hi hI hS => ?_) (fun q fr' S hI hS hw => ?_)
      · obtain ⟨v13, os⟩ := q
        obtain ⟨hl, h⟩ := hI
        dsimp only at hl h hS
        obtain ⟨m, hm⟩ : ∃ m, g_00.Nodes.length - i = m + 1 := ⟨g_00.Nodes.length - i - 1, by omega⟩
        rw [hm] at h
        obtain ⟨c, hc, h⟩ := rangeN_step h
        unfold rv_out at hc
        obtain ⟨row, hrow, hc⟩ := bd_some hc
        rw [getI_n] at hrow
        have hrl : row.length = g_00.Kinds.length := hsh.2 _ (List.mem_of_getElem? hrow)
        refine E_sq (E_reg ?_)
        (repeat (first | refine E_mv (by conv => lhs; whnf) ?_ | refine E_lenR rfl ?_ | refine E_len rfl ?_ | refine E_op0 rfl (by conv => lhs; whnf) ?_))
        refine E_nil ?_
        refine E_nx ?_
        refine E_sq (E_reg ?_)
        (repeat (first | refine E_mv (by conv => lhs; whnf) ?_ | refine E_lenR rfl ?_ | refine E_len rfl ?_ | refine E_op0 rfl (by conv => lhs; whnf) ?_))
        refine E_nil ?_
        refine E_nxN 15 none hS rfl (fun o15 S hS => ?_)
        (repeat (first | refine E_mv (by conv => lhs; whnf) ?_ | refine E_lenR rfl ?_ | refine E_len rfl ?_ | refine E_op0 rfl (by conv => lhs; whnf) ?_ | refine E_nil ?_ | refine E_nx ?_ | refine E_as ?_ | refine E_sq ?_ | refine E_reg ?_ | refine E_skip ?_ | refine E_gh rfl ?_ | refine E_gm rfl ?_ | refine E_gz rfl ?_))
        refine E_iadR rfl rfl ⟨by omega, by omega⟩ ?_
        refine E_ldS hS rfl (.tail _ (.tail _ (List.mem_append_right _ (.head _)))) (by exact refs_at0 (show i < ads.length by omega)) ?_
        (repeat (first | refine E_mv (by conv => lhs; whnf) ?_ | refine E_lenR rfl ?_ | refine E_len rfl ?_ | refine E_op0 rfl (by conv => lhs; whnf) ?_ | refine E_nil ?_ | refine E_nx ?_ | refine E_as ?_ | refine E_sq ?_ | refine E_reg ?_ | refine E_skip ?_ | refine E_gh rfl ?_ | refine E_gm rfl ?_ | refine E_gz rfl ?_))
        rw [rng_rni, hrl] at hc
        obtain ⟨hX, hc⟩ := rni_start hc
        dsimp only
        refine EL_rni g_00.Kinds.length (fun q : Nat × List Int => [(3, .ref o3 0 0 g_00.Nodes.length none), (13, .ref o13 v13 0 os.length none), (15, .ref o15 q.1 0 q.2.length none), (111, .ref (ads[i]'(by omega)) 0 0 g_00.Kinds.length none), (105, .int .i64 i), (104, .int .i64 g_00.Nodes.length)])
          (fun q => (o15, q.1, flat (avI .i64) q.2) :: (o13, v13, os.map fun x => AV.ref x.1 x.2.1 0 x.2.2.length none) :: ((os.map fun x => (x.1, x.2.1, flat (avI .i64) x.2.2)) ++ ((o3, 0, refs g_00.Kinds.length ads) :: itR ads s)))
          (fun j q => (rangeN (fun i s => row[i]?.bind fun x => rv_l i x s) (g_00.Kinds.length - j) j q.2).bind (oc fun l => (appL 24 (os.map (·.2.2)) [l]).bind fun o' => some (.nxt o')) = some c) (0, []) hS hc (wk_fr ⟨.refl _, .refl _, .refl _, .refl _, .refl _, .refl _, .refl _, .refl _, trivial⟩) hX (by decide) (by decide) (fun _ => ⟨rfl, rfl, rfl, rfl⟩) (fun j q S hj hc hS => ?_) (fun q fr' S hc hS hw => ?_)
        · obtain ⟨v15, l⟩ := q
          dsimp only at hc hS
          obtain ⟨m2, hm2⟩ : ∃ m, g_00.Kinds.length - j = m + 1 := ⟨g_00.Kinds.length - j - 1, by omega⟩
          rw [hm2] at hc
          obtain ⟨c2, hc2, hc⟩ := rangeN_step hc
          obtain ⟨b, hb, hc2⟩ := bd_some hc2
          unfold rv_l at hc2
          have e3 : g_00.Kinds.length - (j + 1) = m2 := by omega
          (repeat (first | refine E_mv (by conv => lhs; whnf) ?_ | refine E_lenR rfl ?_ | refine E_len rfl ?_ | refine E_op0 rfl (by conv => lhs; whnf) ?_ | refine E_nil ?_ | refine E_nx ?_ | refine E_as ?_ | refine E_sq ?_ | refine E_reg ?_ | refine E_skip ?_ | refine E_gh rfl ?_ | refine E_gm rfl ?_ | refine E_gz rfl ?_))
          refine E_iadR rfl rfl ⟨by omega, by omega⟩ ?_
          refine E_ldS hS rfl (.tail _ (.tail _ (List.mem_append_right _ (.tail _ (itR_mem (by omega) hrow))))) (by exact row_at hb (by simp [szOf])) ?_
          (repeat (first | refine E_mv (by conv => lhs; whnf) ?_ | refine E_lenR rfl ?_ | refine E_len rfl ?_ | refine E_op0 rfl (by conv => lhs; whnf) ?_ | refine E_nil ?_ | refine E_nx ?_ | refine E_as ?_ | refine E_sq ?_ | refine E_reg ?_ | refine E_skip ?_ | refine E_gh rfl ?_ | refine E_gm rfl ?_ | refine E_gz rfl ?_))
          dsimp only
          cases b with
          | true =>
            rw [if_pos rfl] at hc2
            obtain ⟨l', hl', hc2⟩ := bd_some hc2
            obtain ⟨hl1, rfl⟩ := appL_some hl'
            cases hc2
            refine E_ct rfl ?_
            (repeat (first | refine E_mv (by conv => lhs; whnf) ?_ | refine E_lenR rfl ?_ | refine E_len rfl ?_ | refine E_op0 rfl (by conv => lhs; whnf) ?_ | refine E_nil ?_ | refine E_nx ?_ | refine E_as ?_ | refine E_sq ?_ | refine E_reg ?_ | refine E_skip ?_ | refine E_gh rfl ?_ | refine E_gm rfl ?_ | refine E_gz rfl ?_))
            refine E_apS (m := [(j : Int)]) (j := []) hS (encI .i64) rfl rfl (by rw [List.append_nil]; exact Rp.here) hl1 (fun S hS => ?_)
            (repeat (first | refine E_mv (by conv => lhs; whnf) ?_ | refine E_lenR rfl ?_ | refine E_len rfl ?_ | refine E_op0 rfl (by conv => lhs; whnf) ?_ | refine E_nil ?_ | refine E_nx ?_ | refine E_as ?_ | refine E_sq ?_ | refine E_reg ?_ | refine E_skip ?_ | refine E_gh rfl ?_ | refine E_gm rfl ?_ | refine E_gz rfl ?_))
            exact R_n (v15 + 1, l ++ [(j : Int)]) (by rw [e3]; exact hc) hS (wk_fr ⟨.refl _, .refl _, .refl _, .refl _, .refl _, .refl _, .refl _, .refl _, trivial⟩)
          | false =>
            rw [if_neg (by simp)] at hc2
            cases hc2
            refine E_cf rfl ?_
            (repeat (first | refine E_mv (by conv => lhs; whnf) ?_ | refine E_lenR rfl ?_ | refine E_len rfl ?_ | refine E_op0 rfl (by conv => lhs; whnf) ?_ | refine E_nil ?_ | refine E_nx ?_ | refine E_as ?_ | refine E_sq ?_ | refine E_reg ?_ | refine E_skip ?_ | refine E_gh rfl ?_ | refine E_gm rfl ?_ | refine E_gz rfl ?_))
            exact R_n (v15, l) (by rw [e3]; exact hc) hS (wk_fr ⟨.refl _, .refl _, .refl _, .refl _, .refl _, .refl _, .refl _, .refl _, trivial⟩)
        · obtain ⟨v15, l⟩ := q
          dsimp only at hc hS hw
          rw [Nat.sub_self] at hc
          replace hc : (appL 24 (os.map (·.2.2)) [l]).bind (fun o' => some (.nxt o')) = some c := hc
          obtain ⟨o', ho', hc⟩ := bd_some hc
          obtain ⟨ho1, rfl⟩ := appL_some ho'
          cases hc
          rw [List.length_map] at ho1
          refine E_nxw hw ?_
          (repeat (first | refine E_mv (by conv => lhs; whnf) ?_ | refine E_lenR rfl ?_ | refine E_len rfl ?_ | refine E_op0 rfl (by conv => lhs; whnf) ?_ | refine E_nil ?_ | refine E_nx ?_ | refine E_as ?_ | refine E_sq ?_ | refine E_reg ?_ | refine E_skip ?_ | refine E_gh rfl ?_ | refine E_gm rfl ?_ | refine E_gz rfl ?_))
          refine E_apVS hS (m := 1) (ys := [.ref o15 v15 0 l.length none]) rfl rfl (by apply Rp.there; exact Rp.here) (by simp [szOf]) rfl ho1 (fun S hS => ?_)
          (repeat (first | refine E_mv (by conv => lhs; whnf) ?_ | refine E_lenR rfl ?_ | refine E_len rfl ?_ | refine E_op0 rfl (by conv => lhs; whnf) ?_ | refine E_nil ?_ | refine E_nx ?_ | refine E_as ?_ | refine E_sq ?_ | refine E_reg ?_ | refine E_skip ?_ | refine E_gh rfl ?_ | refine E_gm rfl ?_ | refine E_gz rfl ?_))
          refine R_n (v13 + 1, os ++ [(o15, v15, l)]) ⟨by simp [hl], ?_⟩ ?_ (wk_fr ⟨.refl _, .refl _, .refl _, ?_, trivial⟩)
          · rw [show g_00.Nodes.length - (i + 1) = m by omega]; simpa using h
          · simp only [List.map_append, List.map_cons, List.map_nil, List.append_assoc]
            refine hS.perm ?_
            refine (List.Perm.swap _ _ _).trans (List.Perm.cons _ ?_)
            exact List.perm_middle.symm
          · simp only [List.length_append]; exact .refl _
      · obtain ⟨v13, os⟩ := q
        obtain ⟨hl, h⟩ := hI
        dsimp only at hl h hS hw
        rw [Nat.sub_self] at h
        replace h : some (os.map (·.2.2)) = some r := h
        cases h
        refine E_nxw hw ?_
        (repeat (first | refine E_mv (by conv => lhs; whnf) ?_ | refine E_lenR rfl ?_ | refine E_len rfl ?_ | refine E_op0 rfl (by conv => lhs; whnf) ?_ | refine E_nil ?_ | refine E_nx ?_ | refine E_as ?_ | refine E_sq ?_ | refine E_reg ?_ | refine E_skip ?_ | refine E_gh rfl ?_ | refine E_gm rfl ?_ | refine E_gz rfl ?_))
        refine E_ret ?_
        refine ⟨trivial, _, rfl, ?_⟩
        have := fz_refs (encI .i64) hS (os := os) (.head _) (fun x hx => .tail _ (List.mem_append_left _ (List.mem_map_of_mem hx)))
        rw [List.map_map]
        exact this
    | true =>
      rw [if_pos rfl] at hc
      refine E_ct rfl ?_
      (repeat (first | refine E_mv (by conv => lhs; whnf) ?_ | refine E_lenR rfl ?_ | refine E_len rfl ?_ | refine E_op0 rfl (by conv => lhs; whnf) ?_ | refine E_nil ?_ | refine E_nx ?_ | refine E_as ?_ | refine E_sq ?_ | refine E_reg ?_ | refine E_skip ?_ | refine E_gh rfl ?_ | refine E_gm rfl ?_ | refine E_gz rfl ?_))
      refine E_block ?_
      (repeat (first | refine E_mv (by conv => lhs; whnf) ?_ | refine E_lenR rfl ?_ | refine E_len rfl ?_ | refine E_op0 rfl (by conv => lhs; whnf) ?_ | refine E_nil ?_ | refine E_nx ?_ | refine E_as ?_ | refine E_sq ?_ | refine E_reg ?_ | refine E_skip ?_ | refine E_gh rfl ?_ | refine E_gm rfl ?_ | refine E_gz rfl ?_))
      refine E_block (EL_loop (σ := Nat × T3) (fun i => [(1, gR g_00), (3, .ref o3 0 0 g_00.Nodes.length none), (5, .bool i.2.2.2), (6, .int .i64 i.2.1)]) (fun i => (o3, 0, refs g_00.Kinds.length ads) :: itR ads i.2.2.1)
        (fun i => (whileN (rv_i g_00) i.1 i.2).bind (oc fun q => gd (Shp g_00.Nodes.length g_00.Kinds.length q.2.1) (some (.nxt q.2))) = some c) (fun i => i.1) (fuel, (I64 ((List.length g_00.Nodes : Int) - 1), s, false)) hS hc (wk_fr ⟨.refl _, .refl _, .refl _, .refl _, trivial⟩) (fun i S hc hS => ?_))
      obtain ⟨m, i, s, more⟩ := i
      simp only at hc hS
      obtain ⟨m, c2, rfl, hc2, hc⟩ := whileN_next hc
      unfold rv_i at hc2
      obtain ⟨hsh, hc2⟩ := gd_some hc2
      (repeat (first | refine E_mv (by conv => lhs; whnf) ?_ | refine E_lenR rfl ?_ | refine E_len rfl ?_ | refine E_op0 rfl (by conv => lhs; whnf) ?_ | refine E_nil ?_ | refine E_nx ?_ | refine E_as ?_ | refine E_sq ?_ | refine E_reg ?_ | refine E_skip ?_ | refine E_gh rfl ?_ | refine E_gm rfl ?_ | refine E_gz rfl ?_))
      refine E_cs rfl (fun hb => ?_) (fun hb => ?_)
      · rw [ite_t hb] at hc2
        obtain ⟨nd, hnd, hc2⟩ := bd_some hc2
        obtain ⟨w, hw, hc2⟩ := bd_some hc2
        (repeat (first | refine E_mv (by conv => lhs; whnf) ?_ | refine E_lenR rfl ?_ | refine E_len rfl ?_ | refine E_op0 rfl (by conv => lhs; whnf) ?_ | refine E_nil ?_ | refine E_nx ?_ | refine E_as ?_ | refine E_sq ?_ | refine E_reg ?_ | refine E_skip ?_ | refine E_gh rfl ?_ | refine E_gm rfl ?_ | refine E_gz rfl ?_))
        refine E_block ?_
        (repeat (first | refine E_mv (by conv => lhs; whnf) ?_ | refine E_lenR rfl ?_ | refine E_len rfl ?_ | refine E_op0 rfl (by conv => lhs; whnf) ?_ | refine E_nil ?_ | refine E_nx ?_ | refine E_as ?_ | refine E_sq ?_ | refine E_reg ?_ | refine E_skip ?_ | refine E_gh rfl ?_ | refine E_gm rfl ?_ | refine E_gz rfl ?_))
        refine E_iadF rfl rfl hnd ?_
        refine E_op0 (v' := Node.av nd) rfl rfl ?_
        refine E_nwS hS rfl (fun o7 S hS => ?_)
        refine E_stS hS rfl (by conv => lhs; whnf) (by first | exact Rp.here | (repeat (first | exact Rp.here | apply Rp.there | apply Rp.skip))) rfl rfl (by first | exact Nat.le_of_ble_eq_true rfl | (simp; omega) | omega) (fun S hS => ?_)
        (repeat (first | refine E_mv (by conv => lhs; whnf) ?_ | refine E_lenR rfl ?_ | refine E_len rfl ?_ | refine E_op0 rfl (by conv => lhs; whnf) ?_ | refine E_nil ?_ | refine E_nx ?_ | refine E_as ?_ | refine E_sq ?_ | refine E_reg ?_ | refine E_skip ?_ | refine E_gh rfl ?_ | refine E_gm rfl ?_ | refine E_gz rfl ?_))
        replace hS : Sep S ((o7, 0, (Node.av nd).cells) :: (o3, 0, refs g_00.Kinds.length ads) :: itR ads s) := hS
        refine E_ldS hS rfl (by first | exact .head _ | exact .tail _ (.head _) | exact .tail _ (.tail _ (.head _)) | simp) (v := Node.av nd) rfl ?_
        refine E_callW (windlassref07_Writes_ev hw) rfl ⟨(.refl _), trivial⟩ (blwL_of ⟨(Node.enc.blw _ 0), trivial⟩) ((encI .i64).blws 0) ?_
        (repeat (first | refine E_mv (by conv => lhs; whnf) ?_ | refine E_lenR rfl ?_ | refine E_len rfl ?_ | refine E_op0 rfl (by conv => lhs; whnf) ?_ | refine E_nil ?_ | refine E_nx ?_ | refine E_as ?_ | refine E_sq ?_ | refine E_reg ?_ | refine E_skip ?_ | refine E_gh rfl ?_ | refine E_gm rfl ?_ | refine E_gz rfl ?_))
        dsimp only
        obtain ⟨hK, hc2⟩ := rni_start hc2
        refine EL_rni g_00.Kinds.length (fun s : T4 => [(1, gR g_00), (3, .ref o3 0 0 g_00.Nodes.length none), (5, .bool s.2), (6, .int .i64 i), (7, .ptr o7 0 0), (8, .sl false 1 (List.map (avI .i64) w))]) (fun s => (o7, 0, (Node.av nd).cells) :: (o3, 0, refs g_00.Kinds.length ads) :: itR ads s.1)
          (fun p s => (rangeN (rv_p g_00 i nd w) (g_00.Kinds.length - p) p s).bind (oc fun s => gd (Shp g_00.Nodes.length g_00.Kinds.length s.1) (some (.nxt (I64 (i - 1), s)))) = some c2) (s, more) hS hc2 (wk_fr ⟨.refl _, .refl _, .refl _, .refl _, .refl _, .refl _, .refl _, .refl _, trivial⟩) hK (by decide) (by decide) (fun _ => ⟨rfl, rfl, rfl, rfl⟩) (fun p s S hp hc2 hS => ?_) (fun s fr' S hc2 hS hw => ?_)
        · obtain ⟨s, more⟩ := s
          simp only at hc2 hS
          obtain ⟨m2, hm2⟩ : ∃ m, g_00.Kinds.length - p = m + 1 := ⟨g_00.Kinds.length - p - 1, by omega⟩
          rw [hm2] at hc2
          obtain ⟨c3, hc3, hc2⟩ := rangeN_step hc2
          unfold rv_p at hc3
          obtain ⟨hsh, hc3⟩ := gd_some hc3
          obtain ⟨rd, hrd, hc3⟩ := bd_some hc3
          obtain ⟨is0, his0, hc3⟩ := bd_some hc3
          obtain ⟨nx, hnx, hc3⟩ := bd_some hc3
          (repeat (first | refine E_mv (by conv => lhs; whnf) ?_ | refine E_lenR rfl ?_ | refine E_len rfl ?_ | refine E_op0 rfl (by conv => lhs; whnf) ?_ | refine E_nil ?_ | refine E_nx ?_ | refine E_as ?_ | refine E_sq ?_ | refine E_reg ?_ | refine E_skip ?_ | refine E_gh rfl ?_ | refine E_gm rfl ?_ | refine E_gz rfl ?_))
          refine E_ldS hS rfl (by first | exact .head _ | exact .tail _ (.head _) | exact .tail _ (.tail _ (.head _)) | simp) (v := Node.av nd) rfl ?_
          refine E_callW (windlassref07_Reads_ev hrd) rfl ⟨(.refl _), trivial⟩ (blwL_of ⟨(Node.enc.blw _ 0), trivial⟩) ((encI .i64).blws 0) ?_
          (repeat (first | refine E_mv (by conv => lhs; whnf) ?_ | refine E_lenR rfl ?_ | refine E_len rfl ?_ | refine E_op0 rfl (by conv => lhs; whnf) ?_ | refine E_nil ?_ | refine E_nx ?_ | refine E_as ?_ | refine E_sq ?_ | refine E_reg ?_ | refine E_skip ?_ | refine E_gh rfl ?_ | refine E_gm rfl ?_ | refine E_gz rfl ?_))
          refine E_callW (windlassref07_In_ev his0) rfl ⟨(.refl _), (.refl _), trivial⟩ (blwL_of ⟨(encI .i64).blws 0, rfl, trivial⟩) rfl ?_
          (repeat (first | refine E_mv (by conv => lhs; whnf) ?_ | refine E_lenR rfl ?_ | refine E_len rfl ?_ | refine E_op0 rfl (by conv => lhs; whnf) ?_ | refine E_nil ?_ | refine E_nx ?_ | refine E_as ?_ | refine E_sq ?_ | refine E_reg ?_ | refine E_skip ?_ | refine E_gh rfl ?_ | refine E_gm rfl ?_ | refine E_gz rfl ?_))
          refine E_ldS hS rfl (by first | exact .head _ | exact .tail _ (.head _) | exact .tail _ (.tail _ (.head _)) | simp) (v := Node.av nd) rfl ?_
          refine E_callW (windlassref07_Next_ev hnx) rfl ⟨(.refl _), trivial⟩ (blwL_of ⟨(Node.enc.blw _ 0), trivial⟩) ((encI .i64).blws 0) ?_
          (repeat (first | refine E_mv (by conv => lhs; whnf) ?_ | refine E_lenR rfl ?_ | refine E_len rfl ?_ | refine E_op0 rfl (by conv => lhs; whnf) ?_ | refine E_nil ?_ | refine E_nx ?_ | refine E_as ?_ | refine E_sq ?_ | refine E_reg ?_ | refine E_skip ?_ | refine E_gh rfl ?_ | refine E_gm rfl ?_ | refine E_gz rfl ?_))
          rw [rng_rni] at hc3
          obtain ⟨hX, hc3⟩ := rni_start hc3
          refine EL_rni nx.length (fun is : Bool => [(1, gR g_00), (3, .ref o3 0 0 g_00.Nodes.length none), (5, .bool more), (6, .int .i64 i), (7, .ptr o7 0 0), (8, .sl false 1 (List.map (avI .i64) w)), (9, .int .i64 p), (10, .bool is), (54, .int .i64 p), (53, .int .i64 g_00.Kinds.length), (62, .sl false 1 (List.map (avI .i64) nx))]) (fun _ => (o7, 0, (Node.av nd).cells) :: (o3, 0, refs g_00.Kinds.length ads) :: itR ads s)
            (fun q is => (rangeN (fun i is => nx[i]?.bind fun x => rv_or s w (p : Int) i x is) (nx.length - q) q is).bind (oc fun is => if is = true then (getI s i).bind fun r => (getI r (p : Int)).bind fun b => (if (!b) = true then some (.nxt (s.set i.toNat (r.set p true), true)) else some (.nxt (s, more))) else some (.nxt (s, more))) = some c3) is0 hS hc3 (wk_fr ⟨.refl _, .refl _, .refl _, .refl _, .refl _, .refl _, .refl _, .refl _, .refl _, .refl _, .refl _, .refl _, .refl _, trivial⟩) hX (by decide) (by decide) (fun _ => ⟨rfl, rfl, rfl, rfl⟩) (fun q is S hq hc3 hS => ?_) (fun is fr' S hc3 hS hw => ?_)
          · obtain ⟨m3, hm3⟩ : ∃ m, nx.length - q = m + 1 := ⟨nx.length - q - 1, by omega⟩
            rw [hm3] at hc3
            obtain ⟨c4, hc4, hc3⟩ := rangeN_step hc3
            obtain ⟨to, hto, hc4⟩ := bd_some hc4
            unfold rv_or at hc4
            (repeat (first | refine E_mv (by conv => lhs; whnf) ?_ | refine E_lenR rfl ?_ | refine E_len rfl ?_ | refine E_op0 rfl (by conv => lhs; whnf) ?_ | refine E_nil ?_ | refine E_nx ?_ | refine E_as ?_ | refine E_sq ?_ | refine E_reg ?_ | refine E_skip ?_ | refine E_gh rfl ?_ | refine E_gm rfl ?_ | refine E_gz rfl ?_))
            refine E_iadF rfl rfl (getI_of hto) ?_
            (repeat (first | refine E_mv (by conv => lhs; whnf) ?_ | refine E_lenR rfl ?_ | refine E_len rfl ?_ | refine E_op0 rfl (by conv => lhs; whnf) ?_ | refine E_nil ?_ | refine E_nx ?_ | refine E_as ?_ | refine E_sq ?_ | refine E_reg ?_ | refine E_skip ?_ | refine E_gh rfl ?_ | refine E_gm rfl ?_ | refine E_gz rfl ?_))
            have e3 : nx.length - (q + 1) = m3 := by omega
            cases is with
            | true =>
              rw [if_pos rfl] at hc4
              cases hc4
              (repeat (first | refine E_mv (by conv => lhs; whnf) ?_ | refine E_lenR rfl ?_ | refine E_len rfl ?_ | refine E_op0 rfl (by conv => lhs; whnf) ?_ | refine E_nil ?_ | refine E_nx ?_ | refine E_as ?_ | refine E_sq ?_ | refine E_reg ?_ | refine E_skip ?_ | refine E_gh rfl ?_ | refine E_gm rfl ?_ | refine E_gz rfl ?_))
              exact R_n true (by rw [e3]; exact hc3) hS (wk_fr ⟨.refl _, .refl _, .refl _, .refl _, .refl _, .refl _, .refl _, .refl _, .refl _, .refl _, .refl _, .refl _, .refl _, trivial⟩)
            | false =>
              rw [if_neg (by simp)] at hc4
              obtain ⟨rw1, hrw, hc4⟩ := bd_some hc4
              obtain ⟨b, hb1, hc4⟩ := bd_some hc4
              obtain ⟨t0, t1, t2, t3⟩ := getI_lt' hrw
              obtain ⟨u0, u1, u2, u3⟩ := getI_lt' hb1
              have hN1 : s.length = g_00.Nodes.length := hsh.1
              have hK1 : rw1.length = g_00.Kinds.length := hsh.2 _ (List.mem_of_getElem? t3)
              (repeat (first | refine E_mv (by conv => lhs; whnf) ?_ | refine E_lenR rfl ?_ | refine E_len rfl ?_ | refine E_op0 rfl (by conv => lhs; whnf) ?_ | refine E_nil ?_ | refine E_nx ?_ | refine E_as ?_ | refine E_sq ?_ | refine E_reg ?_ | refine E_skip ?_ | refine E_gh rfl ?_ | refine E_gm rfl ?_ | refine E_gz rfl ?_))
              refine E_iadR rfl rfl ⟨by omega, by omega⟩ ?_
              (repeat (first | refine E_mv (by conv => lhs; whnf) ?_ | refine E_lenR rfl ?_ | refine E_len rfl ?_ | refine E_op0 rfl (by conv => lhs; whnf) ?_ | refine E_nil ?_ | refine E_nx ?_ | refine E_as ?_ | refine E_sq ?_ | refine E_reg ?_ | refine E_skip ?_ | refine E_gh rfl ?_ | refine E_gm rfl ?_ | refine E_gz rfl ?_))
              refine E_ldS hS rfl (.tail _ (.head _)) (by exact refs_at0 (show to.toNat < ads.length by omega)) ?_
              (repeat (first | refine E_mv (by conv => lhs; whnf) ?_ | refine E_lenR rfl ?_ | refine E_len rfl ?_ | refine E_op0 rfl (by conv => lhs; whnf) ?_ | refine E_nil ?_ | refine E_nx ?_ | refine E_as ?_ | refine E_sq ?_ | refine E_reg ?_ | refine E_skip ?_ | refine E_gh rfl ?_ | refine E_gm rfl ?_ | refine E_gz rfl ?_))
              refine E_iadR rfl rfl ⟨by omega, by omega⟩ ?_
              (repeat (first | refine E_mv (by conv => lhs; whnf) ?_ | refine E_lenR rfl ?_ | refine E_len rfl ?_ | refine E_op0 rfl (by conv => lhs; whnf) ?_ | refine E_nil ?_ | refine E_nx ?_ | refine E_as ?_ | refine E_sq ?_ | refine E_reg ?_ | refine E_skip ?_ | refine E_gh rfl ?_ | refine E_gm rfl ?_ | refine E_gz rfl ?_))
              refine E_ldS hS rfl (.tail _ (.tail _ (itR_mem (by omega) t3))) (by exact row_at u3 (by simp [szOf])) ?_
              (repeat (first | refine E_mv (by conv => lhs; whnf) ?_ | refine E_lenR rfl ?_ | refine E_len rfl ?_ | refine E_op0 rfl (by conv => lhs; whnf) ?_ | refine E_nil ?_ | refine E_nx ?_ | refine E_as ?_ | refine E_sq ?_ | refine E_reg ?_ | refine E_skip ?_ | refine E_gh rfl ?_ | refine E_gm rfl ?_ | refine E_gz rfl ?_))
              cases b with
              | true =>
                rw [if_pos rfl] at hc4
                obtain ⟨x, hx, hc4⟩ := bd_some hc4
                cases hc4
                (repeat (first | refine E_mv (by conv => lhs; whnf) ?_ | refine E_lenR rfl ?_ | refine E_len rfl ?_ | refine E_op0 rfl (by conv => lhs; whnf) ?_ | refine E_nil ?_ | refine E_nx ?_ | refine E_as ?_ | refine E_sq ?_ | refine E_reg ?_ | refine E_skip ?_ | refine E_gh rfl ?_ | refine E_gm rfl ?_ | refine E_gz rfl ?_))
                refine E_callW (windlassref07_In_ev hx) rfl ⟨(.refl _), (.refl _), trivial⟩ (blwL_of ⟨(encI .i64).blws 0, rfl, trivial⟩) rfl ?_
                (repeat (first | refine E_mv (by conv => lhs; whnf) ?_ | refine E_lenR rfl ?_ | refine E_len rfl ?_ | refine E_op0 rfl (by conv => lhs; whnf) ?_ | refine E_nil ?_ | refine E_nx ?_ | refine E_as ?_ | refine E_sq ?_ | refine E_reg ?_ | refine E_skip ?_ | refine E_gh rfl ?_ | refine E_gm rfl ?_ | refine E_gz rfl ?_))
                exact R_n (!x) (by rw [e3]; exact hc3) hS (wk_fr ⟨.refl _, .refl _, .refl _, .refl _, .refl _, .refl _, .refl _, .refl _, .refl _, .refl _, .refl _, .refl _, .refl _, trivial⟩)
              | false =>
                rw [if_neg (by simp)] at hc4
                cases hc4
                (repeat (first | refine E_mv (by conv => lhs; whnf) ?_ | refine E_lenR rfl ?_ | refine E_len rfl ?_ | refine E_op0 rfl (by conv => lhs; whnf) ?_ | refine E_nil ?_ | refine E_nx ?_ | refine E_as ?_ | refine E_sq ?_ | refine E_reg ?_ | refine E_skip ?_ | refine E_gh rfl ?_ | refine E_gm rfl ?_ | refine E_gz rfl ?_))
                exact R_n false (by rw [e3]; exact hc3) hS (wk_fr ⟨.refl _, .refl _, .refl _, .refl _, .refl _, .refl _, .refl _, .refl _, .refl _, .refl _, .refl _, .refl _, .refl _, trivial⟩)
          · rw [Nat.sub_self] at hc3
            replace hc3 : (if is = true then (getI s i).bind fun r => (getI r (p : Int)).bind fun b => (if (!b) = true then some (.nxt (s.set i.toNat (r.set p true), true)) else some (.nxt (s, more))) else some (.nxt (s, more))) = some c3 := hc3
            refine E_nxw hw ?_
            have e3 : g_00.Kinds.length - (p + 1) = m2 := by omega
            (repeat (first | refine E_mv (by conv => lhs; whnf) ?_ | refine E_lenR rfl ?_ | refine E_len rfl ?_ | refine E_op0 rfl (by conv => lhs; whnf) ?_ | refine E_nil ?_ | refine E_nx ?_ | refine E_as ?_ | refine E_sq ?_ | refine E_reg ?_ | refine E_skip ?_ | refine E_gh rfl ?_ | refine E_gm rfl ?_ | refine E_gz rfl ?_))
            cases is with
            | false =>
              rw [if_neg (by simp)] at hc3
              cases hc3
              (repeat (first | refine E_mv (by conv => lhs; whnf) ?_ | refine E_lenR rfl ?_ | refine E_len rfl ?_ | refine E_op0 rfl (by conv => lhs; whnf) ?_ | refine E_nil ?_ | refine E_nx ?_ | refine E_as ?_ | refine E_sq ?_ | refine E_reg ?_ | refine E_skip ?_ | refine E_gh rfl ?_ | refine E_gm rfl ?_ | refine E_gz rfl ?_))
              refine E_cf rfl ?_
              (repeat (first | refine E_mv (by conv => lhs; whnf) ?_ | refine E_lenR rfl ?_ | refine E_len rfl ?_ | refine E_op0 rfl (by conv => lhs; whnf) ?_ | refine E_nil ?_ | refine E_nx ?_ | refine E_as ?_ | refine E_sq ?_ | refine E_reg ?_ | refine E_skip ?_ | refine E_gh rfl ?_ | refine E_gm rfl ?_ | refine E_gz rfl ?_))
              exact R_n (s, more) (by rw [e3]; exact hc2) hS (wk_fr ⟨.refl _, .refl _, .refl _, .refl _, .refl _, .refl _, .refl _, .refl _, trivial⟩)
            | true =>
              rw [if_pos rfl] at hc3
              obtain ⟨rw1, hrw, hc3⟩ := bd_some hc3
              obtain ⟨b, hb1, hc3⟩ := bd_some hc3
              obtain ⟨t0, t1, t2, t3⟩ := getI_lt' hrw
              obtain ⟨u0, u1, u2, u3⟩ := getI_lt' hb1
              have hN1 : s.length = g_00.Nodes.length := hsh.1
              have hK1 : rw1.length = g_00.Kinds.length := hsh.2 _ (List.mem_of_getElem? t3)
              (repeat (first | refine E_mv (by conv => lhs; whnf) ?_ | refine E_lenR rfl ?_ | refine E_len rfl ?_ | refine E_op0 rfl (by conv => lhs; whnf) ?_ | refine E_nil ?_ | refine E_nx ?_ | refine E_as ?_ | refine E_sq ?_ | refine E_reg ?_ | refine E_skip ?_ | refine E_gh rfl ?_ | refine E_gm rfl ?_ | refine E_gz rfl ?_))
              refine E_iadR rfl rfl ⟨by omega, by omega⟩ ?_
              (repeat (first | refine E_mv (by conv => lhs; whnf) ?_ | refine E_lenR rfl ?_ | refine E_len rfl ?_ | refine E_op0 rfl (by conv => lhs; whnf) ?_ | refine E_nil ?_ | refine E_nx ?_ | refine E_as ?_ | refine E_sq ?_ | refine E_reg ?_ | refine E_skip ?_ | refine E_gh rfl ?_ | refine E_gm rfl ?_ | refine E_gz rfl ?_))
              refine E_ldS hS rfl (.tail _ (.head _)) (by exact refs_at0 (show i.toNat < ads.length by omega)) ?_
              (repeat (first | refine E_mv (by conv => lhs; whnf) ?_ | refine E_lenR rfl ?_ | refine E_len rfl ?_ | refine E_op0 rfl (by conv => lhs; whnf) ?_ | refine E_nil ?_ | refine E_nx ?_ | refine E_as ?_ | refine E_sq ?_ | refine E_reg ?_ | refine E_skip ?_ | refine E_gh rfl ?_ | refine E_gm rfl ?_ | refine E_gz rfl ?_))
              refine E_iadR rfl rfl ⟨by omega, by omega⟩ ?_
              (repeat (first | refine E_mv (by conv => lhs; whnf) ?_ | refine E_lenR rfl ?_ | refine E_len rfl ?_ | refine E_op0 rfl (by conv => lhs; whnf) ?_ | refine E_nil ?_ | refine E_nx ?_ | refine E_as ?_ | refine E_sq ?_ | refine E_reg ?_ | refine E_skip ?_ | refine E_gh rfl ?_ | refine E_gm rfl ?_ | refine E_gz rfl ?_))
              refine E_ldS hS rfl (.tail _ (.tail _ (itR_mem (by omega) t3))) (by exact row_at u3 (by simp [szOf])) ?_
              (repeat (first | refine E_mv (by conv => lhs; whnf) ?_ | refine E_lenR rfl ?_ | refine E_len rfl ?_ | refine E_op0 rfl (by conv => lhs; whnf) ?_ | refine E_nil ?_ | refine E_nx ?_ | refine E_as ?_ | refine E_sq ?_ | refine E_reg ?_ | refine E_skip ?_ | refine E_gh rfl ?_ | refine E_gm rfl ?_ | refine E_gz rfl ?_))
              cases b with
              | true =>
                rw [if_neg (by simp)] at hc3
                cases hc3
                refine E_cf rfl ?_
                (repeat (first | refine E_mv (by conv => lhs; whnf) ?_ | refine E_lenR rfl ?_ | refine E_len rfl ?_ | refine E_op0 rfl (by conv => lhs; whnf) ?_ | refine E_nil ?_ | refine E_nx ?_ | refine E_as ?_ | refine E_sq ?_ | refine E_reg ?_ | refine E_skip ?_ | refine E_gh rfl ?_ | refine E_gm rfl ?_ | refine E_gz rfl ?_))
                exact R_n (s, more) (by rw [e3]; exact hc2) hS (wk_fr ⟨.refl _, .refl _, .refl _, .refl _, .refl _, .refl _, .refl _, .refl _, trivial⟩)
              | false =>
                rw [if_pos (by rfl)] at hc3
                cases hc3
                refine E_ct rfl ?_
                (repeat (first | refine E_mv (by conv => lhs; whnf) ?_ | refine E_lenR rfl ?_ | refine E_len rfl ?_ | refine E_op0 rfl (by conv => lhs; whnf) ?_ | refine E_nil ?_ | refine E_nx ?_ | refine E_as ?_ | refine E_sq ?_ | refine E_reg ?_ | refine E_skip ?_ | refine E_gh rfl ?_ | refine E_gm rfl ?_ | refine E_gz rfl ?_))
                refine E_iadR rfl rfl ⟨by omega, by omega⟩ ?_
                (repeat (first | refine E_mv (by conv => lhs; whnf) ?_ | refine E_lenR rfl ?_ | refine E_len rfl ?_ | refine E_op0 rfl (by conv => lhs; whnf) ?_ | refine E_nil ?_ | refine E_nx ?_ | refine E_as ?_ | refine E_sq ?_ | refine E_reg ?_ | refine E_skip ?_ | refine E_gh rfl ?_ | refine E_gm rfl ?_ | refine E_gz rfl ?_))
                refine E_ldS hS rfl (.tail _ (.head _)) (by exact refs_at0 (show i.toNat < ads.length by omega)) ?_
                (repeat (first | refine E_mv (by conv => lhs; whnf) ?_ | refine E_lenR rfl ?_ | refine E_len rfl ?_ | refine E_op0 rfl (by conv => lhs; whnf) ?_ | refine E_nil ?_ | refine E_nx ?_ | refine E_as ?_ | refine E_sq ?_ | refine E_reg ?_ | refine E_skip ?_ | refine E_gh rfl ?_ | refine E_gm rfl ?_ | refine E_gz rfl ?_))
                refine E_iadR rfl rfl ⟨by omega, by omega⟩ ?_
                have hrp : Rp (itR ads s) (ads[i.toNat]'(by omega), 0, flat avB rw1) (ads[i.toNat]'(by omega), 0, splice (flat avB rw1) (0 + (p : Int).toNat * szOf none) (AV.bool true).cells) (itR ads (s.set i.toNat (rw1.set p true))) := by
                  rw [row_set (p := p) (by omega) (by simp [szOf])]; exact itR_rp (by omega) t3
                refine E_stS hS rfl (by conv => lhs; whnf) (by exact .there (.there hrp)) rfl rfl (by rw [encB.length]; simp [szOf]; omega) (fun S hS => ?_)
                (repeat (first | refine E_mv (by conv => lhs; whnf) ?_ | refine E_lenR rfl ?_ | refine E_len rfl ?_ | refine E_op0 rfl (by conv => lhs; whnf) ?_ | refine E_nil ?_ | refine E_nx ?_ | refine E_as ?_ | refine E_sq ?_ | refine E_reg ?_ | refine E_skip ?_ | refine E_gh rfl ?_ | refine E_gm rfl ?_ | refine E_gz rfl ?_))
                exact R_n (s.set i.toNat (rw1.set p true), true) (by rw [e3]; exact hc2) hS (wk_fr ⟨.refl _, .refl _, .refl _, .refl _, .refl _, .refl _, .refl _, .refl _, trivial⟩)
        · rw [Nat.sub_self] at hc2
          replace hc2 : gd (Shp g_00.Nodes.length g_00.Kinds.length s.1) (some (.nxt (I64 (i - 1), s))) = some c2 := hc2
          obtain ⟨hsh, hc2⟩ := gd_some hc2
          cases hc2
          refine E_bln ?_
          refine E_nxw hw ?_
          (repeat (first | refine E_mv (by conv => lhs; whnf) ?_ | refine E_lenR rfl ?_ | refine E_len rfl ?_ | refine E_op0 rfl (by conv => lhs; whnf) ?_ | refine E_nil ?_ | refine E_nx ?_ | refine E_as ?_ | refine E_sq ?_ | refine E_reg ?_ | refine E_skip ?_ | refine E_gh rfl ?_ | refine E_gm rfl ?_ | refine E_gz rfl ?_))
          exact ⟨(m, I64 (i - 1), s), hc, Nat.lt_succ_self _, hS.sub (List.sublist_cons_self _ _), wk_fr ⟨.refl _, .refl _, .refl _, .refl _, trivial⟩⟩
      · rw [ite_f hb] at hc2
        cases hc2
        refine E_exit ?_
        (repeat (first | refine E_the ?_ | refine E_ble ?_ | refine E_blo rfl ?_ | refine E_thr ?_ | refine E_blr ?_ | refine E_bln ?_))
        replace hc : gd (Shp g_00.Nodes.length g_00.Kinds.length s) (some (.nxt (s, more))) = some c := hc
        obtain ⟨hsh, hc⟩ := gd_some hc
        cases hc
        exact ⟨(n, s, more), h, Nat.lt_succ_self _, hS, wk_fr ⟨.refl _, .refl _, .refl _, trivial⟩⟩
end Go.Proofs.YtgoejecjmodjiaaDoor

