/- LiveSets: the law. -/
import Derived.Test.YtgoejecjmodjiaaDoorGenM
set_option linter.unusedVariables false
set_option linter.unusedSimpArgs false
namespace Go.Proofs.YtgoejecjmodjiaaDoor
open Go Go.Ab
variable {g : b5}
theorem b3O (a : List Int) (ha : a.length ≤ 4611686018427387904) : t9 a a = some true := by
 unfold t9
 rw [if_neg zS]
 refine (a5b (xs := a) a (fun _ _ => true) false ha (fun i x hx => ?_)).trans ?_
 ·simp only [r8, hx, Option.bind_some]; simp
 ·rw [a1O]; simp
theorem b1b (K : Nat) (A : Nat → Bool) : (a1R K A).length ≤ K := by
 unfold a1R; rw [List.length_map]; exact Nat.le_trans (List.length_filter_le _ _) zS
theorem a6o {K : Nat} {A : Nat → Bool} {p : Nat} : (p : Int) ∈ a1R K A ↔ p < K ∧ A p = true := by
 unfold a1R
 simp only [List.mem_map, List.mem_filter, List.mem_range]
 constructor
 ·rintro ⟨q, h, e⟩
  have : q = p := by omega
  subst this; exact h
 ·intro h; exact ⟨p, h, rfl⟩
theorem b7r (g : b5) {t : Nat} (h : t < g.Nodes.length) : s6 (inL g) (t : Int) = some (a1R g.Kinds.length (lvB g t)) := by
 rw [r8]; unfold inL; simp [h]
theorem b0j {g : b5} {i p : Nat} : lvB g i p = true ↔ Lv g i p := by unfold lvB; exact @decide_eq_true_iff _ (Classical.propDecidable _)
theorem b0k {g : b5} {i p : Nat} : bhB g i p = true ↔ Bh g i p := by unfold bhB; exact @decide_eq_true_iff _ (Classical.propDecidable _)
theorem b3P (k : Nat) (A : Nat → Bool) : a1R (k + 1) A = a1R k A ++ (if A k = true then [(k : Int)] else []) := by
 unfold a1R
 rw [List.range_succ, List.filter_append, List.map_append]
 congr 1
 simp only [List.filter_cons, List.filter_nil]
 cases A k <;> simp
theorem b7s (hg : a1E g) {fuel : Nat} (hf : 10000000 ≤ fuel) : a0l fuel g = some (b0a g) := by
 unfold a0l
 rw [b5W hg hf]
 simp only [Option.bind_some]
 have hN := hg.nn; have hK := hg.kn
 have := a1c (xs := g.Nodes) (s0 := ([] : List (List Int))) (body := (fun (i_3 : Nat) (n_4 : g7) (s_2 : (List (List Int))) => (((rni (fun (i_7 : Nat) (s_6 : (List Int)) => (((o6 n_4).bind fun nex_8 => ((rng (fun (i_10 : Nat) (vto_11 : Int) (s_9 : Bool) => ((if s_9 then (some (.nxt true)) else ((s6 (inL g) vto_11).bind fun y_13 => ((j7 y_13 (i_7 : Int)).bind fun vin_14 => (some (.nxt vin_14))))) : Option (Stp Bool (Option (Stp (List Int) (Option (Stp (List (List Int)) (Option (List (List Int)))))))))) nex_8 false).bind (oc (fun (s_9 : Bool) => (if s_9 then ((a4C 8 s_6 [(i_7 : Int)]).bind fun l_15 => (some (.nxt l_15))) else (some (.nxt s_6))))))) : Option (Stp (List Int) (Option (Stp (List (List Int)) (Option (List (List Int)))))))) (List.length g.Kinds : Int) []).bind (oc (fun (s_6 : (List Int)) => ((a4C 24 s_2 [s_6]).bind fun l_16 => (some (.nxt l_16)))))) : Option (Stp (List (List Int)) (Option (List (List Int)))))))
  (fun _ => true) none (fun k o => o = (List.range k).map fun i => a1R g.Kinds.length (bhB g i)) zO rfl (fun i n o hn ho => by
  simp only [if_true]
  have hi : i < g.Nodes.length := (List.getElem?_eq_some_iff.1 hn).1
  have eN : nxt g i = a2n n := by unfold nxt; rw [hn]
  obtain ⟨l, e1, e2⟩ := a5v (n := (List.length g.Kinds : Int)) (s0 := ([] : List Int)) (body := (fun (i_7 : Nat) (s_6 : (List Int)) => (((o6 n).bind fun nex_8 => ((rng (fun (i_10 : Nat) (vto_11 : Int) (s_9 : Bool) => ((if s_9 then (some (.nxt true)) else ((s6 (inL g) vto_11).bind fun y_13 => ((j7 y_13 (i_7 : Int)).bind fun vin_14 => (some (.nxt vin_14))))) : Option (Stp Bool (Option (Stp (List Int) (Option (Stp (List (List Int)) (Option (List (List Int)))))))))) nex_8 false).bind (oc (fun (s_9 : Bool) => (if s_9 then ((a4C 8 s_6 [(i_7 : Int)]).bind fun l_15 => (some (.nxt l_15))) else (some (.nxt s_6))))))) : Option (Stp (List Int) (Option (Stp (List (List Int)) (Option (List (List Int)))))))))
   (fun k l => l = a1R k (bhB g i)) zO rfl (fun p l hp hl => by
   have hp' : p < g.Kinds.length := by omega
   have := a1c (xs := a2n n) (s0 := false) (body := (fun (i_10 : Nat) (vto_11 : Int) (s_9 : Bool) => ((if s_9 then (some (.nxt true)) else ((s6 (inL g) vto_11).bind fun y_13 => ((j7 y_13 (p : Int)).bind fun vin_14 => (some (.nxt vin_14))))) : Option (Stp Bool (Option (Stp (List Int) (Option (Stp (List (List Int)) (Option (List (List Int))))))))))) (fun _ => true) none
    (fun k b => b = (((a2n n).take k).any fun to => lvB g to.toNat p)) (by have := a2o n; omega) zS (fun k to b hx hb => by
    simp only [if_true]
    have hto := hg.nx i to (by rw [eN]; exact List.mem_of_getElem? hx)
    obtain ⟨t, rfl⟩ : ∃ t : Nat, to = (t : Int) := ⟨to.toNat, by omega⟩
    rw [a0U hx, List.any_append, List.any_cons, List.any_nil, Bool.or_false, ← hb]
    cases b with
    | true => exact ⟨true, by simp, by simp⟩
    | false =>
      simp only [Bool.false_eq_true, if_false, b7r g (t := t) zO, Option.bind_some, a5g (a1R g.Kinds.length (lvB g t)) (p : Int) (Nat.le_trans (b1b _ _) zO)]
      refine ⟨_, rfl, ?_⟩
      rw [Int.toNat_natCast, Bool.false_or]
      cases hb : lvB g t p with
      | true => exact decide_eq_true (a6o.2 ⟨hp', hb⟩)
      | false => exact decide_eq_false (fun q => by have := (a6o.1 q).2; rw [hb] at this; cases this))
   rw [if_pos zS] at this
   obtain ⟨b, b1, b2⟩ := this
   rw [List.take_length] at b2
   have hbb : b = bhB g i p := by
    rw [b2]
    cases hb : bhB g i p with
    | true =>
      obtain ⟨t, t1, t2⟩ := b0k.1 hb
      rw [List.any_eq_true]
      exact ⟨(t : Int), by rw [← eN]; exact t1, b0j.2 (by simpa using t2)⟩
    | false =>
      rw [List.any_eq_false]
      intro to hto q
      have hr := hg.nx i to (by rw [eN]; exact hto)
      have : bhB g i p = true := b0k.2 ⟨to.toNat, by rw [Int.toNat_of_nonneg hr.1, eN]; exact hto, b0j.1 q⟩
      rw [hb] at this; cases this
   simp only [a6l, Option.bind_some, b1, oc, hbb]
   rw [b3P]
   have hll : l.length ≤ p := by rw [hl]; exact b1b _ _
   cases bhB g i p with
   | true =>
     refine ⟨l ++ [(p : Int)], ?_, by rw [hl]; simp⟩
     simp only [if_true]
     rw [a1D zE]; rfl
   | false => exact ⟨l, by simp, by rw [hl]; simp⟩)
  refine ⟨o ++ [a1R g.Kinds.length (bhB g i)], ?_, by rw [List.range_succ, List.map_append, ← ho]; rfl⟩
  rw [e1]
  simp only [Option.bind_some, oc]
  rw [e2, a1D (by rw [ho]; simp; omega), Int.toNat_natCast]; rfl)
 rw [if_pos zS] at this
 obtain ⟨s', e1, e2⟩ := this
 rw [e1]
 simp only [Option.bind_some, oc, e2]
 rfl
end Go.Proofs.YtgoejecjmodjiaaDoor

