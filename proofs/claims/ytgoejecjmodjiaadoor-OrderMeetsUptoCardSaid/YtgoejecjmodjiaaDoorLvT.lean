/- The intervals, place by place. -/
import Derived.Test.YtgoejecjmodjiaaDoorOrW3
import Derived.Test.YtgoejecjmodjiaaDoorGenOB
import Derived.Test.YtgoejecjmodjiaaDoorGenB
import Derived.Test.YtgoejecjmodjiaaDoorWlH2
import Derived.WalkKit
import Derived.ProofKit
import Derived.OpenShut
import Derived.JoinedCond
import Derived.Test.YtgoejecjmodjiaaDoorWlTz
import Derived.Lib.LaidTab
import Derived.Deep.DeepHandedRow
namespace Go.Proofs.YtgoejecjmodjiaaDoor
open Go Go.Ab
set_option linter.unusedVariables false
set_option linter.unusedSimpArgs false
theorem wk1_idem (a : Int) (x : Interval) : wk1 a (wk1 a x) = wk1 a x := by
  unfold wk1
  simp only [Interval.mk.injEq, true_and, and_true]
  constructor
  · by_cases h : a < x.From
    · rw [if_pos h, if_neg (by omega)]
    · rw [if_neg h, if_neg h]
  · by_cases h : a > x.To
    · rw [if_pos h, if_neg (by omega)]
    · rw [if_neg h, if_neg h]
theorem wkF_get (a : Int) (k : Nat) : ∀ (ps : List Int) (all : List Interval), (∀ p ∈ ps, 0 ≤ p) → (ps.foldl (wkP a) all)[k]? = (all[k]?).map fun x => if (k : Int) ∈ ps then wk1 a x else x
  | [], all, _ => by simp
  | p :: ps, all, h => by
    rw [List.foldl_cons, wkF_get a k ps _ (fun q hq => h q (by simp [hq]))]
    unfold wkP
    rw [List.getElem?_modify]
    have hp := h p (by simp)
    cases e : all[k]? with
    | none => simp
    | some x =>
      simp only [Option.map_some, Option.map_eq_map]
      congr 1
      by_cases e1 : p.toNat = k
      · have e2 : (k : Int) = p := by omega
        rw [if_pos e1]
        simp only [e2, List.mem_cons, true_or, if_true]
        split
        · exact wk1_idem a x
        · rfl
      · have e2 : ¬ (k : Int) = p := by omega
        rw [if_neg e1]
        simp only [List.mem_cons, e2, false_or]
theorem hldF_get (w : List Int) (k : Nat) : ∀ (ps : List Int) (all : List Interval), (∀ p ∈ ps, 0 ≤ p) → (ps.foldl (hldP w) all)[k]? = (all[k]?).map fun x => if (k : Int) ∈ ps ∧ (k : Int) ∉ w then hold1 x else x
  | [], all, _ => by simp
  | p :: ps, all, h => by
    rw [List.foldl_cons, hldF_get w k ps _ (fun q hq => h q (by simp [hq]))]
    have hp := h p (by simp)
    unfold hldP
    by_cases hw : p ∈ w
    · rw [if_pos hw]
      cases e : all[k]? with
      | none => simp
      | some x =>
        simp only [Option.map_some]
        congr 1
        by_cases e2 : (k : Int) = p
        · rw [if_neg (by rw [e2]; exact fun h => h.2 hw), if_neg (by rw [e2]; exact fun h => h.2 hw)]
        · simp only [List.mem_cons, e2, false_or]
    · rw [if_neg hw, List.getElem?_modify]
      cases e : all[k]? with
      | none => simp
      | some x =>
        simp only [Option.map_some, Option.map_eq_map]
        congr 1
        by_cases e1 : p.toNat = k
        · have e2 : (k : Int) = p := by omega
          rw [if_pos e1]
          simp only [e2, List.mem_cons, true_or, true_and, hw, not_false_eq_true, if_true]
          split
          · rfl
          · rfl
        · have e2 : ¬ (k : Int) = p := by omega
          rw [if_neg e1]
          simp only [List.mem_cons, e2, false_or]
def tchN (g : Graph) (k i : Nat) : Prop := (k : Int) ∈ lvI g i ∨ (k : Int) ∈ wrN g i
def hldN (g : Graph) (k i : Nat) : Prop := isCall g i = true ∧ (k : Int) ∈ bhI g i ∧ (k : Int) ∉ wrN g i
open Classical in
noncomputable def elS (g : Graph) (k a i : Nat) (x : Interval) : Interval := if hldN g k i then hold1 (if tchN g k i then wk1 a x else x) else if tchN g k i then wk1 a x else x
theorem wrN_pos (g : Graph) (i : Nat) : ∀ p ∈ wrN g i, 0 ≤ p := by
  intro p hp
  unfold wrN at hp
  split at hp
  · exact ((wrS_mem _ p).1 hp).2
  · cases hp
theorem nodeS_get (g : Graph) (a i k : Nat) (all : List Interval) : (nodeS g a all i)[k]? = (all[k]?).map (elS g k a i) := by
  unfold nodeS
  simp only
  have e2 : ((wrN g i).foldl (wkP (a : Int)) ((lvI g i).foldl (wkP a) all))[k]? = (all[k]?).map fun x => if (k : Int) ∈ lvI g i ∨ (k : Int) ∈ wrN g i then wk1 a x else x := by
    rw [wkF_get _ _ _ _ (wrN_pos g i), wkF_get _ _ _ _ (show ∀ p ∈ lvI g i, 0 ≤ p from fun p hp => (setL_rng p hp).1)]
    cases all[k]? with
    | none => rfl
    | some x =>
      simp only [Option.map_some]
      congr 1
      by_cases h1 : (k : Int) ∈ wrN g i <;> by_cases h2 : (k : Int) ∈ lvI g i <;> simp [h1, h2, wk1_idem]
  by_cases hc : isCall g i = true
  · rw [if_pos hc, hldF_get _ _ _ _ (show ∀ p ∈ bhI g i, 0 ≤ p from fun p hp => (setL_rng p hp).1), e2]
    cases all[k]? with
    | none => rfl
    | some x =>
      simp only [Option.map_some, elS, hldN, tchN, hc, true_and]
      by_cases h1 : (k : Int) ∈ lvI g i ∨ (k : Int) ∈ wrN g i <;> by_cases h2 : (k : Int) ∈ bhI g i ∧ (k : Int) ∉ wrN g i <;> simp [h1, h2]
  · rw [if_neg hc, e2]
    cases all[k]? with
    | none => rfl
    | some x =>
      simp only [Option.map_some, elS, hldN, tchN, hc, false_and, if_false]
      by_cases h1 : (k : Int) ∈ lvI g i ∨ (k : Int) ∈ wrN g i <;> simp [h1]
structure EI (g : Graph) (w : List Nat) (k n : Nat) (x : Interval) : Prop where
  pl : x.Place = (k : Int)
  all : ∀ a i, (w[a]? = some i ∧ a < n ∧ tchN g k i) ∨ (a = 0 ∧ (k : Int) ∈ g.Params) → x.From ≤ a ∧ (a : Int) ≤ x.To
  ends : (x.From = (g.Nodes.length : Int) ∧ x.To = -1) ∨ ((∃ a i : Nat, x.From = (a : Int) ∧ ((w[a]? = some i ∧ a < n ∧ tchN g k i) ∨ (a = 0 ∧ (k : Int) ∈ g.Params))) ∧ ∃ a i : Nat, x.To = (a : Int) ∧ ((w[a]? = some i ∧ a < n ∧ tchN g k i) ∨ (a = 0 ∧ (k : Int) ∈ g.Params)))
  held : x.Held = true ↔ ∃ a i, w[a]? = some i ∧ a < n ∧ hldN g k i
theorem EI.step {g : Graph} {w : List Nat} {k n i : Nat} {x : Interval} (hn : w[n]? = some i) (hnN : n < g.Nodes.length) (h : EI g w k n x) : EI g w k (n + 1) (elS g k n i x) := by
  have hT : ∀ y : Interval, (hold1 y).Place = y.Place ∧ (hold1 y).From = y.From ∧ (hold1 y).To = y.To := fun y => ⟨rfl, rfl, rfl⟩
  have hcase : ∀ (b : Prop) [Decidable b], (b ↔ tchN g k i) → ∀ y, y = (if b then wk1 (n : Int) x else x) →
      y.Place = (k : Int) ∧ (∀ a j, (w[a]? = some j ∧ a < n + 1 ∧ tchN g k j) ∨ (a = 0 ∧ (k : Int) ∈ g.Params) → y.From ≤ a ∧ (a : Int) ≤ y.To) ∧
      ((y.From = (g.Nodes.length : Int) ∧ y.To = -1) ∨ ((∃ a i : Nat, y.From = (a : Int) ∧ ((w[a]? = some i ∧ a < n + 1 ∧ tchN g k i) ∨ (a = 0 ∧ (k : Int) ∈ g.Params))) ∧ ∃ a i : Nat, y.To = (a : Int) ∧ ((w[a]? = some i ∧ a < n + 1 ∧ tchN g k i) ∨ (a = 0 ∧ (k : Int) ∈ g.Params)))) ∧ y.Held = x.Held := by
    intro b _ hb y hy
    have wid : ∀ a j, ((w[a]? = some j ∧ a < n ∧ tchN g k j) ∨ (a = 0 ∧ (k : Int) ∈ g.Params)) → ((w[a]? = some j ∧ a < n + 1 ∧ tchN g k j) ∨ (a = 0 ∧ (k : Int) ∈ g.Params)) := fun a j hh => hh.imp (fun ⟨p, q, r⟩ => ⟨p, by omega, r⟩) id
    by_cases hbb : b
    · rw [if_pos hbb] at hy
      subst hy
      have ht := hb.1 hbb
      have hf : (wk1 (n : Int) x).From = if (n : Int) < x.From then (n : Int) else x.From := rfl
      have hto : (wk1 (n : Int) x).To = if (n : Int) > x.To then (n : Int) else x.To := rfl
      refine ⟨h.pl, fun a j hh => ?_, .inr ⟨?_, ?_⟩, rfl⟩
      · have key : (x.From ≤ a ∧ (a : Int) ≤ x.To) ∨ a = n := by
          rcases hh with ⟨p, q, r⟩ | hh
          · by_cases e : a = n
            · exact .inr e
            · exact .inl (h.all a j (.inl ⟨p, by omega, r⟩))
          · exact .inl (h.all a j (.inr hh))
        rw [hf, hto]
        rcases key with ⟨p, q⟩ | rfl
        · constructor <;> split <;> omega
        · constructor <;> split <;> omega
      · by_cases e : (n : Int) < x.From
        · exact ⟨n, i, by rw [hf, if_pos e], .inl ⟨hn, by omega, ht⟩⟩
        · rcases h.ends with ⟨p, q⟩ | ⟨⟨a, j, p, q⟩, _⟩
          · omega
          · exact ⟨a, j, by rw [hf, if_neg e, p], wid a j q⟩
      · by_cases e : (n : Int) > x.To
        · exact ⟨n, i, by rw [hto, if_pos e], .inl ⟨hn, by omega, ht⟩⟩
        · rcases h.ends with ⟨p, q⟩ | ⟨_, ⟨a, j, p, q⟩⟩
          · omega
          · exact ⟨a, j, by rw [hto, if_neg e, p], wid a j q⟩
    · rw [if_neg hbb] at hy
      subst hy
      have ht : ¬ tchN g k i := fun hh => hbb (hb.2 hh)
      refine ⟨h.pl, fun a j hh => ?_, ?_, rfl⟩
      · rcases hh with ⟨p, q, r⟩ | hh
        · by_cases e : a = n
          · subst e; rw [hn] at p; cases p; exact absurd r ht
          · exact h.all a j (.inl ⟨p, by omega, r⟩)
        · exact h.all a j (.inr hh)
      · rcases h.ends with hh | ⟨⟨a, j, p, q⟩, ⟨b, l, r, s⟩⟩
        · exact .inl hh
        · exact .inr ⟨⟨a, j, p, wid a j q⟩, ⟨b, l, r, wid b l s⟩⟩
  unfold elS
  obtain ⟨q1, q2, q3, q4⟩ := @hcase (tchN g k i) (Classical.propDecidable _) Iff.rfl _ rfl
  split
  · rename_i hh
    refine ⟨q1, q2, q3, ?_⟩
    constructor
    · intro _; exact ⟨n, i, hn, by omega, hh⟩
    · intro _; rfl
  · rename_i hh
    refine ⟨q1, q2, q3, ?_⟩
    rw [q4, h.held]
    constructor
    · rintro ⟨a, j, p, q, r⟩; exact ⟨a, j, p, by omega, r⟩
    · rintro ⟨a, j, p, q, r⟩
      by_cases e : a = n
      · subst e; rw [hn] at p; cases p; exact absurd r hh
      · exact ⟨a, j, p, by omega, r⟩
theorem nodesS_ei {g : Graph} {w : List Nat} {k : Nat} (hw : w.length ≤ g.Nodes.length) : ∀ (m n : Nat) (all : List Interval) (x : Interval), w.length - n = m → n ≤ w.length → all[k]? = some x → EI g w k n x → ∃ y, (nodesS g n (w.drop n) all)[k]? = some y ∧ EI g w k w.length y
  | 0, n, all, x, hm, hn, hx, h => by
    have : n = w.length := by omega
    subst this
    rw [List.drop_length]
    exact ⟨x, hx, h⟩
  | m + 1, n, all, x, hm, hn, hx, h => by
    have hlt : n < w.length := by omega
    obtain ⟨i, hi⟩ : ∃ i, w[n]? = some i := ⟨w[n], List.getElem?_eq_getElem hlt⟩
    rw [drop_cons hi]
    simp only [nodesS]
    exact nodesS_ei hw m (n + 1) _ _ (by omega) hlt (by rw [nodeS_get, hx]; rfl) (h.step hi (by omega))
theorem allS_ei {g : Graph} (hg : GoodG g) (hp : ParIn g) {w : List Nat} (hw1 : lineL g = w.map (fun (n : Nat) => (n : Int))) (hwl : w.length ≤ g.Nodes.length) {k : Nat} (hk : k < g.Kinds.length) : ∃ x, (allS g)[k]? = some x ∧ EI g w k w.length x := by
  unfold allS
  have hmapN : (lineL g).map Int.toNat = w := by rw [hw1, List.map_map]; exact (List.map_congr_left (fun x _ => by simp)).trans (List.map_id w)
  rw [hmapN]
  have h0 : (init0 g)[k]? = some ⟨(k : Int), (g.Nodes.length : Int), -1, false⟩ := by simp [init0, hk]
  have h1 := wkF_get 0 k g.Params (init0 g) (fun p hp' => (hp p hp').1)
  rw [h0] at h1
  simp only [Option.map_some] at h1
  have hn0 := hg.n0
  refine nodesS_ei hwl _ 0 _ _ rfl (Nat.zero_le _) h1 ?_
  by_cases e : (k : Int) ∈ g.Params
  · rw [if_pos e]
    have hf : (wk1 0 ⟨(k : Int), (g.Nodes.length : Int), -1, false⟩ : Interval).From = 0 := by show (if (0 : Int) < _ then (0 : Int) else _) = 0; rw [if_pos (by simp; omega)]
    have ht : (wk1 0 ⟨(k : Int), (g.Nodes.length : Int), -1, false⟩ : Interval).To = 0 := rfl
    refine ⟨rfl, fun a j hh => ?_, .inr ⟨⟨0, 0, by rw [hf]; rfl, .inr ⟨rfl, e⟩⟩, ⟨0, 0, by rw [ht]; rfl, .inr ⟨rfl, e⟩⟩⟩, ?_⟩
    · rcases hh with ⟨_, q, _⟩ | ⟨rfl, _⟩
      · omega
      · rw [hf, ht]; omega
    · constructor
      · intro h; cases h
      · rintro ⟨a, j, _, q, _⟩; omega
  · rw [if_neg e]
    refine ⟨rfl, fun a j hh => ?_, .inl ⟨rfl, rfl⟩, ?_⟩
    · rcases hh with ⟨_, q, _⟩ | ⟨_, q⟩
      · omega
      · exact absurd q e
    · constructor
      · intro h; cases h
      · rintro ⟨a, j, _, q, _⟩; omega
theorem nodesS_len (g : Graph) : ∀ (l : List Nat) (a : Nat) (all : List Interval), (nodesS g a l all).length = all.length
  | [], _, _ => rfl
  | i :: l, a, all => by simp only [nodesS]; rw [nodesS_len g l, nodeS_len]
theorem allS_len (g : Graph) : (allS g).length = g.Kinds.length := by
  unfold allS
  rw [nodesS_len, wkF_len]; simp [init0]
end Go.Proofs.YtgoejecjmodjiaaDoor

/- OrderMeets: the law. -/
namespace Go.Proofs.YtgoejecjmodjiaaDoor
open Go Go.Ab
set_option maxRecDepth 20000
set_option linter.unusedVariables false
set_option linter.unusedSimpArgs false
theorem rni_bind {σ β : Type} {body : Nat → σ → Option (Stp σ (Option β))} {n : Int} {s0 : σ} {F : σ → Option β} {r : Option β} (Inv : Nat → σ → Prop) (hl : n ≤ 4611686018427387904) (h0 : Inv 0 s0)
    (h : ∀ (i : Nat) s, (i : Int) < n → Inv i s → ∃ s', body i s = some (.nxt s') ∧ Inv (i + 1) s') (hF : ∀ s, Inv n.toNat s → F s = r) : (rni body n s0).bind (oc F) = r := by
  obtain ⟨o, e, s, rfl, hs⟩ := rni_ex (Q := fun o => ∃ s, o = .fin s ∧ Inv n.toNat s) Inv hl h0 (fun i s hx hI => .inl (h i s hx hI)) (fun s hs => ⟨s, rfl, hs⟩)
  rw [e]
  exact hF s hs
theorem Spans_eq (G : Graphs) (f : Int) : order_Spans_s 100000000000 G f = some (if RightB G = true then (match getI G.Funcs f with | some g => ((spansL g, 0) : List Interval × Int) | none => ([], 2)) else ([], 70)) := by
  unfold order_Spans_s
  rw [if_pos (Nat.le_refl _)]
  split
  · cases getI G.Funcs f <;> rfl
  · rfl
theorem right_line {G : Graphs} (hR : RightB G = true) {f : Int} {g : Graph} (hgf : getI G.Funcs f = some g) : GoodG g ∧ ParIn g ∧ 0 ≤ g.Entry ∧ g.Entry < g.Nodes.length ∧ (∀ n ∈ g.Nodes, nodeB G.Funcs g n = true) ∧ g.Params.length ≤ 4 := by
  obtain ⟨h0, h1, h2⟩ := getI_some hgf
  obtain ⟨hg, hhd, hnd⟩ := RightB_good hR g (List.mem_of_getElem? h2)
  obtain ⟨_, h4, hpar, _, _, he0, heN⟩ := headB_facts hhd
  exact ⟨hg, hpar, he0, heN, hnd, h4⟩
theorem span_mem {g : Graph} (hg : GoodG g) (hp : ParIn g) {w : List Nat} (hw1 : lineL g = w.map (fun (n : Nat) => (n : Int))) (hwl : w.length ≤ g.Nodes.length) {x : Interval} (hx : x ∈ spansL g) : ∃ k : Nat, k < g.Kinds.length ∧ x.Place = (k : Int) ∧ (allS g)[k]? = some x ∧ 0 ≤ x.From ∧ x.From ≤ x.To := by
  unfold spansL at hx
  obtain ⟨h1, h2⟩ := List.mem_filter.1 hx
  obtain ⟨k, hk, rfl⟩ := List.mem_iff_getElem.1 h1
  rw [allS_len] at hk
  obtain ⟨y, hy, he⟩ := allS_ei hg hp hw1 hwl hk
  have : (allS g)[k]'(by rw [allS_len]; exact hk) = y := by rw [List.getElem?_eq_getElem (by rw [allS_len]; exact hk)] at hy; exact Option.some.inj hy
  rw [this]
  rw [this] at h2
  have hto : 0 ≤ y.To := by unfold gone at h2; simp at h2; exact h2
  refine ⟨k, hk, he.pl, hy, ?_⟩
  rcases he.ends with ⟨_, q⟩ | ⟨⟨a, i, p, q⟩, _⟩
  · omega
  · have := he.all a i q
    omega
theorem meets_law (G : Graphs) (f : Int) : windlasslaw12_OrderMeets_s 100000000000 G f = some true := by
  unfold windlasslaw12_OrderMeets_s
  rw [first12, Line_eq, Spans_eq]
  simp only [Option.bind_some, Bool.not_true, Bool.false_eq_true, if_false]
  by_cases hR : RightB G = true
  case neg => rw [if_neg hR]; rfl
  rw [if_pos hR, if_pos hR]
  cases hgf : getI G.Funcs f with
  | none => rfl
  | some g =>
    obtain ⟨hg, hpar, he0, heN, hnd, _⟩ := right_line hR hgf
    have hN := hg.nn
    have hK := hg.kn
    obtain ⟨w, hw1, hw2, hw3, hw4, hw5, tl, htl⟩ := (line_ok hg (by omega)).w
    have hwl : w.length ≤ g.Nodes.length := nodup_bd _ _ hw2 hw3
    simp only [Option.bind_some, hw1]
    rw [show ((0 : Int) != 0) = false from rfl]
    simp only [Bool.false_eq_true, if_false]
    rw [rIn_ok hg (by omega : 10000000 ≤ 100000000000)]
    simp only [Option.bind_some]
    have hmk : mkL 32 (List.length g.Kinds : Int) (List.length g.Kinds : Int) (Interval.mk 0 0 0 false) = some (List.replicate g.Kinds.length (Interval.mk 0 0 0 false)) := by
      unfold mkL; rw [if_pos (by omega)]; simp
    rw [hmk]
    simp only [Option.bind_some, List.length_replicate]
    refine rni_bind (fun _ s => s.length = g.Kinds.length) (by omega) (by simp) (fun i s hi hs => ?_) (fun s hs => ?_)
    · have : i < s.length := by omega
      simp only [getI_n, List.getElem?_eq_getElem this, Option.bind_some]
      exact ⟨_, rfl, by simp [hs]⟩
    have hspl : (spansL g).length ≤ g.Kinds.length := by unfold spansL; exact Nat.le_trans (List.length_filter_le _ _) (by rw [allS_len]; exact Nat.le_refl _)
    refine rng_bind (fun m s => s.length = g.Kinds.length ∧ ∀ (k : Nat) y, (allS g)[k]? = some y → y ∈ (spansL g).take m → s[k]? = some y) (by omega) ⟨hs, fun k y _ hy => by simp at hy⟩ (fun m x s hx hI => ?_) (fun s hI => ?_)
    · obtain ⟨hsl, hI⟩ := hI
      obtain ⟨k, hk, hpl, hax, hf0, hft⟩ := span_mem hg hpar hw1 hwl (List.mem_of_getElem? hx)
      have c1 : ¬ (x.Place < 0) := by omega
      have c2 : ¬ (x.Place ≥ (s.length : Int)) := by omega
      have c3 : ¬ (x.From > x.To) := by omega
      have hks : k < s.length := by omega
      simp only [jp, c1, c2, c3, decide_false, Bool.false_eq_true, if_false]
      rw [hpl, getI_n, List.getElem?_eq_getElem hks]
      simp only [Option.bind_some, Int.toNat_natCast]
      refine ⟨_, rfl, by simp [hsl], fun j y hj hy => ?_⟩
      rw [List.getElem?_set]
      by_cases e : k = j
      · subst e
        rw [if_pos rfl, if_pos hks]
        rw [hax] at hj
        exact hj
      · rw [if_neg e]
        refine hI j y hj ?_
        have htk : (spansL g).take (m + 1) = (spansL g).take m ++ [x] := by
          obtain ⟨q1, q2⟩ := List.getElem?_eq_some_iff.1 hx
          rw [List.take_succ_eq_append_getElem q1, q2]
        rw [htk] at hy
        rcases List.mem_append.1 hy with hy | hy
        · exact hy
        · simp at hy
          subst hy
          exfalso
          have hjK : j < g.Kinds.length := by have := (List.getElem?_eq_some_iff.1 hj).1; rwa [allS_len] at this
          obtain ⟨z, hz, hze⟩ := allS_ei hg hpar hw1 hwl hjK
          rw [hj] at hz
          cases hz
          have := hze.pl
          rw [hpl] at this
          omega
    · obtain ⟨hsl, hI⟩ := hI
      rw [List.take_length] at hI
      have hfact : ∀ (a i : Nat), w[a]? = some i → ∀ p ∈ lvI g i, ∃ y, getI s p = some y ∧ y.From ≤ a ∧ (a : Int) ≤ y.To := by
        intro a i hai p hp
        obtain ⟨p0, p1⟩ := setL_rng p hp
        obtain ⟨k, rfl⟩ : ∃ k : Nat, p = (k : Int) := ⟨p.toNat, by omega⟩
        obtain ⟨y, hy, hye⟩ := allS_ei hg hpar hw1 hwl (by omega : k < g.Kinds.length)
        have ha := (List.getElem?_eq_some_iff.1 hai).1
        obtain ⟨q1, q2⟩ := hye.all a i (.inl ⟨hai, ha, .inl hp⟩)
        refine ⟨y, ?_, q1, q2⟩
        rw [getI_n]
        refine hI k y hy ?_
        unfold spansL
        rw [List.mem_filter]
        refine ⟨List.mem_of_getElem? hy, ?_⟩
        unfold gone
        simp; omega
      refine rng_bind (fun _ _ => True) (by simp; omega) trivial (fun a x u hx _ => ?_) (fun u _ => rfl)
      obtain ⟨i, hi, rfl⟩ : ∃ i, w[a]? = some i ∧ x = (i : Int) := by
        rw [List.getElem?_map] at hx
        cases e : w[a]? with
        | none => rw [e] at hx; cases hx
        | some i => rw [e] at hx; cases hx; exact ⟨i, rfl, rfl⟩
      have hiN := hw3 i (List.mem_of_getElem? hi)
      have hin : getI (inL g) (i : Int) = some (lvI g i) := by rw [getI_n]; unfold inL; simp [hiN, lvI]
      have hll : (lvI g i).length ≤ 4611686018427387904 := Nat.le_trans setL_le (by omega)
      simp only [hin, Option.bind_some]
      refine ⟨(), ?_, trivial⟩
      refine rng_bind (fun _ _ => True) hll trivial (fun b p u hp _ => ?_) (fun u _ => rfl)
      obtain ⟨y, hy, hy1, hy2⟩ := hfact a i hi p (List.mem_of_getElem? hp)
      have c1 : ¬ (y.From > (a : Int)) := by omega
      have c2 : ¬ (y.To < (a : Int)) := by omega
      simp only [jp, hy, Option.bind_some, c1, c2, decide_false, Bool.false_eq_true, if_false]
      refine ⟨(), ?_, trivial⟩
      refine rng_bind (fun _ _ => True) hll trivial (fun c q u hq _ => ?_) (fun u _ => rfl)
      obtain ⟨z, hz, hz1, hz2⟩ := hfact a i hi q (List.mem_of_getElem? hq)
      have c3 : ¬ (y.From > z.To) := by omega
      have c4 : ¬ (z.From > y.To) := by omega
      simp only [hz, Option.bind_some, c3, c4, decide_false, Bool.false_eq_true, if_false]
      exact ⟨(), trivial, trivial⟩
end Go.Proofs.YtgoejecjmodjiaaDoor

/- How arguments are read. -/
namespace Go.Proofs.YtgoejecjmodjiaaDoor
open Go Go.Ab Go.RowKit
set_option maxRecDepth 20000
set_option linter.unusedVariables false
set_option linter.unusedSimpArgs false
theorem part_le {H : Type} {d : DataW H} {l : List (DataW H)} (h : d ∈ l) : Rows.uptoBulk d ≤ Rows.uptoBulkAll l := by
  induction l with
  | nil => cases h
  | cons x r ih =>
    simp only [Rows.uptoBulkAll]
    rcases List.mem_cons.1 h with e | e
    · subst e; omega
    · have := ih e; omega
theorem one_le {H : Type} (d : DataW H) : 1 ≤ Rows.uptoBulk d := by
  cases d with
  | lit l => cases l <;> simp [Rows.uptoBulk]
  | _ => simp [Rows.uptoBulk]
theorem length_le {H : Type} (l : List (DataW H)) : l.length ≤ Rows.uptoBulkAll l := by
  induction l with
  | nil => simp [Rows.uptoBulkAll]
  | cons x r ih => have := one_le x; simp only [Rows.uptoBulkAll, List.length_cons]; omega
theorem bulk {H : Type} : Bulk (H := H) Rows.uptoBulk :=
  ⟨fun bytes => by simp [Rows.uptoBulk], fun e s => by have := length_le e; simp only [Rows.uptoBulk]; omega, fun e s d h => by have := part_le h; simp only [Rows.uptoBulk]; omega, fun p d h => by have := part_le h; simp only [Rows.uptoBulk]; omega⟩

theorem cells3 : Tryd.prog.cellsOf 3 = 1 := by kernel_rfl
theorem cells24 : Tryd.prog.cellsOf 24 = 1 := by kernel_rfl
theorem cells30 : Tryd.prog.cellsOf 30 = 1 := by kernel_rfl
theorem cells31 : Tryd.prog.cellsOf 31 = 1 := by kernel_rfl
theorem cells32 : Tryd.prog.cellsOf 32 = 1 := by kernel_rfl
theorem cells26 : Tryd.prog.cellsOf 26 = 1 := by kernel_rfl
theorem cells34 : Tryd.prog.cellsOf 34 = 12 := by kernel_rfl
def Node.Ok (N : Nat) (x : Node) : Prop := (fun n => (Lit.int .u8 n).wf = true) x.Op ∧ (fun n => (Lit.int .u8 n).wf = true) x.By ∧ (fun n => (Lit.int .i64 n).wf = true) x.D ∧ (fun n => (Lit.int .i64 n).wf = true) x.E ∧ (fun n => (Lit.int .i64 n).wf = true) x.A ∧ (fun n => (Lit.int .i64 n).wf = true) x.B ∧ (fun n => (Lit.int .i64 n).wf = true) x.F ∧ (fun n => (Lit.int .i64 n).wf = true) x.Cell ∧ (fun n => (Lit.int .u64 n).wf = true) x.Imm ∧ (fun l => List.length l ≤ N ∧ ∀ a ∈ l, (fun n => (Lit.int .i64 n).wf = true) a) x.Args ∧ (fun n => (Lit.int .i64 n).wf = true) x.Next ∧ (fun n => (Lit.int .i64 n).wf = true) x.Else
theorem Node.rd {N : Nat} : Rd Tryd.prog N Node.av (Node.Ok N) 34 := by
  intro avs ht
  obtain ⟨hl, hf⟩ := ty_struct Tryd.underlying34 ht
  have e0 : Ty Tryd.prog N 30 ((avs.drop 0).take (Tryd.prog.cellsOf 30)) := hf 0 _ rfl
  rw [cells30] at e0
  obtain ⟨a0, h0, q0⟩ := (rdI Tryd.underlying30) _ e0
  have e1 : Ty Tryd.prog N 31 ((avs.drop 1).take (Tryd.prog.cellsOf 31)) := hf 1 _ rfl
  rw [cells31] at e1
  obtain ⟨a1, h1, q1⟩ := (rdI Tryd.underlying31) _ e1
  have e2 : Ty Tryd.prog N 3 ((avs.drop 2).take (Tryd.prog.cellsOf 3)) := hf 2 _ rfl
  rw [cells3] at e2
  obtain ⟨a2, h2, q2⟩ := (rdI Tryd.underlying3) _ e2
  have e3 : Ty Tryd.prog N 3 ((avs.drop 3).take (Tryd.prog.cellsOf 3)) := hf 3 _ rfl
  rw [cells3] at e3
  obtain ⟨a3, h3, q3⟩ := (rdI Tryd.underlying3) _ e3
  have e4 : Ty Tryd.prog N 3 ((avs.drop 4).take (Tryd.prog.cellsOf 3)) := hf 4 _ rfl
  rw [cells3] at e4
  obtain ⟨a4, h4, q4⟩ := (rdI Tryd.underlying3) _ e4
  have e5 : Ty Tryd.prog N 3 ((avs.drop 5).take (Tryd.prog.cellsOf 3)) := hf 5 _ rfl
  rw [cells3] at e5
  obtain ⟨a5, h5, q5⟩ := (rdI Tryd.underlying3) _ e5
  have e6 : Ty Tryd.prog N 3 ((avs.drop 6).take (Tryd.prog.cellsOf 3)) := hf 6 _ rfl
  rw [cells3] at e6
  obtain ⟨a6, h6, q6⟩ := (rdI Tryd.underlying3) _ e6
  have e7 : Ty Tryd.prog N 3 ((avs.drop 7).take (Tryd.prog.cellsOf 3)) := hf 7 _ rfl
  rw [cells3] at e7
  obtain ⟨a7, h7, q7⟩ := (rdI Tryd.underlying3) _ e7
  have e8 : Ty Tryd.prog N 32 ((avs.drop 8).take (Tryd.prog.cellsOf 32)) := hf 8 _ rfl
  rw [cells32] at e8
  obtain ⟨a8, h8, q8⟩ := (rdI Tryd.underlying32) _ e8
  have e9 : Ty Tryd.prog N 26 ((avs.drop 9).take (Tryd.prog.cellsOf 26)) := hf 9 _ rfl
  rw [cells26] at e9
  obtain ⟨a9, h9, q9⟩ := (rdL (encI .i64) (fun fs h => by rw [Tryd.underlying3] at h; cases h) Tryd.underlying26 cells3 (rdI Tryd.underlying3)) _ e9
  have e10 : Ty Tryd.prog N 3 ((avs.drop 10).take (Tryd.prog.cellsOf 3)) := hf 10 _ rfl
  rw [cells3] at e10
  obtain ⟨a10, h10, q10⟩ := (rdI Tryd.underlying3) _ e10
  have e11 : Ty Tryd.prog N 3 ((avs.drop 11).take (Tryd.prog.cellsOf 3)) := hf 11 _ rfl
  rw [cells3] at e11
  obtain ⟨a11, h11, q11⟩ := (rdI Tryd.underlying3) _ e11
  refine ⟨⟨a0, a1, a2, a3, a4, a5, a6, a7, a8, a9, a10, a11⟩, ?_, ⟨q0, q1, q2, q3, q4, q5, q6, q7, q8, q9, q10, q11⟩⟩
  have := (st_cons h0 (st_cons h1 (st_cons h2 (st_cons h3 (st_cons h4 (st_cons h5 (st_cons h6 (st_cons h7 (st_cons h8 (st_cons h9 (st_cons h10 (st_cons h11 (st_nil (hl.trans cells34))))))))))))))
  exact this
theorem cells25 : Tryd.prog.cellsOf 25 = 1 := by kernel_rfl
theorem cells4 : Tryd.prog.cellsOf 4 = 1 := by kernel_rfl
theorem cells27 : Tryd.prog.cellsOf 27 = 1 := by kernel_rfl
theorem cells29 : Tryd.prog.cellsOf 29 = 8 := by kernel_rfl
def Graph.Ok (N : Nat) (x : Graph) : Prop := (fun l => List.length l ≤ N ∧ ∀ a ∈ l, (fun n => (Lit.int .i64 n).wf = true) a) x.Params ∧ (fun l => List.length l ≤ N ∧ ∀ a ∈ l, (fun n => (Lit.int .u8 n).wf = true) a) x.Kinds ∧ (fun n => (Lit.int .i64 n).wf = true) x.Cells ∧ (fun l => List.length l ≤ N ∧ ∀ a ∈ l, (fun n => (Lit.int .i64 n).wf = true) a) x.Init ∧ (fun _ => True) x.Result ∧ (fun n => (Lit.int .i64 n).wf = true) x.Keep ∧ (fun l => List.length l ≤ N ∧ ∀ a ∈ l, (Node.Ok N) a) x.Nodes ∧ (fun n => (Lit.int .i64 n).wf = true) x.Entry
theorem Graph.rd {N : Nat} : Rd Tryd.prog N Graph.av (Graph.Ok N) 29 := by
  intro avs ht
  obtain ⟨hl, hf⟩ := ty_struct Tryd.underlying29 ht
  have e0 : Ty Tryd.prog N 26 ((avs.drop 0).take (Tryd.prog.cellsOf 26)) := hf 0 _ rfl
  rw [cells26] at e0
  obtain ⟨a0, h0, q0⟩ := (rdL (encI .i64) (fun fs h => by rw [Tryd.underlying3] at h; cases h) Tryd.underlying26 cells3 (rdI Tryd.underlying3)) _ e0
  have e1 : Ty Tryd.prog N 25 ((avs.drop 1).take (Tryd.prog.cellsOf 25)) := hf 1 _ rfl
  rw [cells25] at e1
  obtain ⟨a1, h1, q1⟩ := (rdL (encI .u8) (fun fs h => by rw [Tryd.underlying24] at h; cases h) Tryd.underlying25 cells24 (rdI Tryd.underlying24)) _ e1
  have e2 : Ty Tryd.prog N 3 ((avs.drop 2).take (Tryd.prog.cellsOf 3)) := hf 2 _ rfl
  rw [cells3] at e2
  obtain ⟨a2, h2, q2⟩ := (rdI Tryd.underlying3) _ e2
  have e3 : Ty Tryd.prog N 26 ((avs.drop 3).take (Tryd.prog.cellsOf 26)) := hf 3 _ rfl
  rw [cells26] at e3
  obtain ⟨a3, h3, q3⟩ := (rdL (encI .i64) (fun fs h => by rw [Tryd.underlying3] at h; cases h) Tryd.underlying26 cells3 (rdI Tryd.underlying3)) _ e3
  have e4 : Ty Tryd.prog N 4 ((avs.drop 4).take (Tryd.prog.cellsOf 4)) := hf 4 _ rfl
  rw [cells4] at e4
  obtain ⟨a4, h4, q4⟩ := (rdB Tryd.underlying4) _ e4
  have e5 : Ty Tryd.prog N 3 ((avs.drop 5).take (Tryd.prog.cellsOf 3)) := hf 5 _ rfl
  rw [cells3] at e5
  obtain ⟨a5, h5, q5⟩ := (rdI Tryd.underlying3) _ e5
  have e6 : Ty Tryd.prog N 27 ((avs.drop 6).take (Tryd.prog.cellsOf 27)) := hf 6 _ rfl
  rw [cells27] at e6
  obtain ⟨a6, h6, q6⟩ := (rdL Node.enc ⟨_, Tryd.underlying34⟩ Tryd.underlying27 cells34 Node.rd) _ e6
  have e7 : Ty Tryd.prog N 3 ((avs.drop 7).take (Tryd.prog.cellsOf 3)) := hf 7 _ rfl
  rw [cells3] at e7
  obtain ⟨a7, h7, q7⟩ := (rdI Tryd.underlying3) _ e7
  refine ⟨⟨a0, a1, a2, a3, a4, a5, a6, a7⟩, ?_, ⟨q0, q1, q2, q3, q4, q5, q6, q7⟩⟩
  have := (st_cons h0 (st_cons h1 (st_cons h2 (st_cons h3 (st_cons h4 (st_cons h5 (st_cons h6 (st_cons h7 (st_nil (hl.trans cells29))))))))))
  exact this
theorem cells39 : Tryd.prog.cellsOf 39 = 1 := by kernel_rfl
theorem cells41 : Tryd.prog.cellsOf 41 = 1 := by kernel_rfl
def Graphs.Ok (N : Nat) (x : Graphs) : Prop := (fun l => List.length l ≤ N ∧ ∀ a ∈ l, (Graph.Ok N) a) x.Funcs
theorem Graphs.rd {N : Nat} : Rd Tryd.prog N Graphs.av (Graphs.Ok N) 41 := by
  intro avs ht
  obtain ⟨hl, hf⟩ := ty_struct Tryd.underlying41 ht
  have e0 : Ty Tryd.prog N 39 ((avs.drop 0).take (Tryd.prog.cellsOf 39)) := hf 0 _ rfl
  rw [cells39] at e0
  obtain ⟨a0, h0, q0⟩ := (rdL Graph.enc ⟨_, Tryd.underlying29⟩ Tryd.underlying39 cells29 Graph.rd) _ e0
  refine ⟨⟨a0⟩, ?_, q0⟩
  have := (st_cons h0 (st_nil (hl.trans cells41)))
  exact this

theorem own : ownKnob Tryd.prog.godebug = none := by kernel_rfl
theorem laidOut : laidOutB Tryd.prog = true := by kernel_rfl
end Go.Proofs.YtgoejecjmodjiaaDoor

/- From the row's list to the settings: the table for the trailing zeros. -/
namespace Go.Proofs.YtgoejecjmodjiaaDoor
open Go Go.Ab Go.RowKit
set_option maxRecDepth 20000
set_option linter.unusedVariables false
set_option linter.unusedSimpArgs false
theorem tz_laid : (Rows.laid_math_bits_deBruijn64tab : DataW Unit) = Lib.tabData .u8 tzT := by kernel_rfl
theorem tab_isH {P : Program} {W : World} {nm : String} {k : IntKind} {zs : List Int} {b : Nat} (hg : P.globalNamed nm = some b) (h : Lib.TabIs P W nm k zs) : ∃ t fz, W.heap[b]? = some (.cells (zs.map fun z => Value.int k z).toArray t fz) := by
  unfold Lib.TabIs World.var? at h
  rw [hg, Option.bind_some] at h
  cases e2 : W.heap[b]? with
  | none => rw [e2] at h; cases h
  | some o =>
    rw [e2] at h
    cases o with
    | cells c t fz => cases h; exact ⟨t, fz, rfl⟩
    | _ => cases h
theorem tab_of {nm : String} (h0 : Tryd.prog.globalNamed nm = some 0) {W : World} (h : laidMet Tryd.prog [(nm, Rows.laid_math_bits_deBruijn64tab)] W) : TabOK W.heap.size W := by
  have h' := h
  rw [tz_laid] at h'
  have hp := Lib.tabIs_of_head (rest := []) h0 (t := 146) (e := 5) (n := 64) (by kernel_rfl) Tryd.underlying146 Tryd.underlying5 (by kernel_rfl) (by kernel_rfl) h'
  obtain ⟨t, fz, q⟩ := tab_isH h0 hp
  intro b p e
  match b, e with
  | 0, e => cases Option.some.inj e; exact ⟨(Array.getElem?_eq_some_iff.1 q).1, _, t, fz, q, rfl⟩
  | n + 1, e => cases e
end Go.Proofs.YtgoejecjmodjiaaDoor

