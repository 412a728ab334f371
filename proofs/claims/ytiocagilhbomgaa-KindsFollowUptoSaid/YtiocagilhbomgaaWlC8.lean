/- A region whose order is open is sound: the whole. -/
import Derived.Test.YtiocagilhbomgaaWlC7
namespace Go.Ab
open Go.RowKit
set_option linter.unusedVariables false
set_option linter.unusedSimpArgs false

section
variable {P : Program} {n : Nat} {ops : Array Oper} {rs : List ROper} {pairs : List (Nat × Nat)} (hr : resOpers P n ops ops.toList = some rs) (hd : drawOK ops.toList rs pairs = true)
  (r : Rec P rs rs.length) (hlog : okLog pairs (r.log rs.length))

theorem listed_set {listed : Array Bool} {i : Nat} (hi : i < listed.size) (j : Nat) : listedP (listed.setIfInBounds i true) j ↔ listedP listed j ∨ j = i := by
  unfold listedP
  simp only [Array.getD_eq_getD_getElem?, Array.getElem?_setIfInBounds]
  by_cases h : i = j
  · subst h; simp [hi]
  · rw [if_neg h]
    constructor
    · exact .inl
    · rintro (h' | rfl)
      · exact h'
      · exact absurd rfl h

include hr hd hlog in
theorem draw_any {g0 σ0} {Q : Exit → Act → World → Prop} (hQ : ∀ a w, At g0 σ0 n (r.F rs.length) (hp (r.S rs.length)) a w → Q .normal a w) : ∀ (fuel : Nat) (listed : Array Bool) (a : Act) (w : World),
    listed.size = rs.length → closedP ops (listedP listed) → ((List.range rs.length).filter fun i => !listed.getD i false).length ≤ fuel →
    At g0 σ0 n (r.Fl (listedP listed)) (r.σl (listedP listed)) a w → wpAny P .any ops Q fuel listed a w := by
  obtain ⟨hlen, hget⟩ := resOpers_get hr
  have hdr := (drawOK_get hd hlen).1
  -- all listed: the end
  have hall : ∀ (listed : Array Bool) a w, (∀ i, i < rs.length → listedP listed i) → At g0 σ0 n (r.Fl (listedP listed)) (r.σl (listedP listed)) a w → Q .normal a w := fun listed a w hl hat => by
    refine hQ a w ?_
    have e1 : r.Fl (listedP listed) = r.F rs.length := by
      funext t
      rw [r.F_pick rfl t _ (Nat.le_refl _)]
      exact pick_congr (fun j hj => ⟨fun h => h.2, fun h => ⟨hl j hj, h⟩⟩)
    have e2 : r.σl (listedP listed) = hp (r.S rs.length) := by
      funext o
      rw [r.S_pick o _ (Nat.le_refl _)]
      exact pick_congr (fun j hj => ⟨fun h => h.2, fun h => ⟨hl j hj, h⟩⟩)
    rwa [e1, e2] at hat
  -- none ready: all listed
  have hready : ∀ (listed : Array Bool), listed.size = rs.length → Region.ready .any ops listed = [] → ∀ i, i < rs.length → listedP listed i := fun listed hs hrd => by
    intro i
    induction i using Nat.strongRecOn with
    | _ i ih =>
      intro hi
      apply Classical.byContradiction
      intro hni
      have ho : ops.toList[i]? = some (ops.toList[i]'(by omega)) := List.getElem?_eq_getElem _
      have hin : i ∈ Region.ready .any ops listed := by
        unfold Region.ready
        rw [List.mem_filter]
        refine ⟨List.mem_range.2 (by simpa using (by omega : i < ops.toList.length)), ?_⟩
        have hls : listed.getD i true = false := by
          unfold listedP at hni
          have hlt : i < listed.size := by omega
          simp only [Array.getD_eq_getD_getElem?, Array.getElem?_eq_getElem hlt, Option.getD_some] at hni ⊢
          cases hq : listed[i] <;> simp_all
        have hog : ops[i]? = some (ops.toList[i]'(by omega)) := by rw [← Array.getElem?_toList]; exact ho
        rw [hls, hog]
        simp only [Bool.not_false, Bool.true_and, Option.map_some, Option.getD_some]
        rw [← Array.all_toList, List.all_eq_true]
        intro e he
        cases hb : Region.binds .any e with
        | false => simp
        | true =>
          have hlt := hdr i _ ho e he hb
          simpa [listedP] using ih e.on hlt (by omega)
      rw [hrd] at hin
      simp at hin
  intro fuel
  induction fuel with
  | zero =>
    intro listed a w hs hcl hf hat
    have hl : ∀ i, i < rs.length → listedP listed i := fun i hi => by
      apply Classical.byContradiction
      intro hni
      have : i ∈ (List.range rs.length).filter fun i => !listed.getD i false := by
        rw [List.mem_filter]
        refine ⟨List.mem_range.2 hi, ?_⟩
        unfold listedP at hni
        simpa using hni
      have h0 : ((List.range rs.length).filter fun i => !listed.getD i false) = [] := List.eq_nil_of_length_eq_zero (by omega)
      rw [h0] at this
      simp at this
    refine ⟨?_, hall listed a w hl hat⟩
    unfold Region.ready
    rw [List.filter_eq_nil_iff]
    intro i hi
    have hi' : i < rs.length := by rw [hlen]; simpa using hi
    have := hl i hi'
    unfold listedP at this
    have hlt : i < listed.size := by omega
    simp only [Array.getD_eq_getD_getElem?, Array.getElem?_eq_getElem hlt, Option.getD_some] at this ⊢
    rw [this]; simp
  | succ fuel ih =>
    intro listed a w hs hcl hf hat
    refine ⟨fun hrd => hall listed a w (hready listed hs hrd) hat, fun i hi => ?_⟩
    unfold Region.ready at hi
    rw [List.mem_filter] at hi
    obtain ⟨hi1, hi2⟩ := hi
    have hilt : i < rs.length := by rw [hlen]; simpa using hi1
    have ho : ops.toList[i]? = some (ops.toList[i]'(by omega)) := List.getElem?_eq_getElem _
    generalize hoe : ops.toList[i]'(by omega) = o at ho
    have hog : ops[i]? = some o := by rw [← Array.getElem?_toList]; exact ho
    rw [hog] at hi2
    simp only [Bool.and_eq_true, Bool.not_eq_true', Option.map_some, Option.getD_some] at hi2
    obtain ⟨hn, hea⟩ := hi2
    have hni : ¬ listedP listed i := by
      unfold listedP
      have hlt : i < listed.size := by omega
      simp only [Array.getD_eq_getD_getElem?, Array.getElem?_eq_getElem hlt, Option.getD_some] at hn ⊢
      rw [hn]; simp
    have hrd : ∀ e ∈ o.after.toList, Region.binds .any e = true → listedP listed e.on := fun e he hb => by
      rw [← Array.all_toList, List.all_eq_true] at hea
      have := hea e he
      rw [hb] at this
      simpa [listedP] using this
    obtain ⟨ro, hro, hres⟩ := hget i o ho
    obtain ⟨hc, hdst, hdn, _⟩ := resOper_eq hres
    have hset := listed_set (listed := listed) (i := i) (by omega)
    -- what follows, once the operation is carried out
    have hnext : ∀ a' w', At g0 σ0 n (r.Fl (listedP (listed.setIfInBounds i true))) (r.σl (listedP (listed.setIfInBounds i true))) a' w' → wpAny P .any ops Q fuel (listed.setIfInBounds i true) a' w' := fun a' w' hat' => by
      refine ih _ a' w' (by simpa using hs) ?_ ?_ hat'
      · intro k o' hk hls e he hb
        rw [hset] at hls ⊢
        rcases hls with h | rfl
        · exact .inl (hcl k o' hk h e he hb)
        · rw [ho] at hk; cases hk; exact .inl (hrd e he hb)
      · have := filter_lt (p := fun i => !listed.getD i false) (q := fun j => !(listed.setIfInBounds i true).getD j false) (List.range rs.length) (fun j _ hq => by
            have h1 := hset j
            unfold listedP at h1
            cases hc : listed.getD j false with
            | false => rfl
            | true => rw [h1.2 (.inl hc)] at hq; simp at hq) i (List.mem_range.2 hilt) (by
            unfold listedP at hni
            simpa using hni) (by
            have h1 := (hset i).2 (.inr rfl)
            unfold listedP at h1
            rw [h1]; rfl)
        omega
    have hslot : ∀ t ∈ namesOf ro, r.Fl (listedP listed) t = r.F i t := fun t ht => r.Fl_at rfl hilt (fun j hj hw => by
      by_cases hji : j = i
      · subst hji; exact ⟨fun h => absurd h hni, fun h => by omega⟩
      · exact slots_fixed hr hd hcl ho hni hrd hro ht j hj hw hji)
    have hFl : r.Fl (listedP (listed.setIfInBounds i true)) = putM (r.Fl (listedP listed)) ro.dst (r.val i) := r.Fl_step hilt hset hro (fun t hwt j hj hw hji => by
      obtain ⟨ro', e1, e2⟩ := hwt
      rw [hro] at e1; cases e1
      exact slots_fixed hr hd hcl ho hni hrd hro (by unfold namesOf; rw [e2]; simp) j hj hw hji) hni
    have hat0 := hat
    obtain ⟨_, g, _, _, hfr⟩ := hat
    obtain ⟨w1, w2, w3⟩ := wanted_of hres hfr
    simp only [wpOp, hog]
    rcases r.go i ro hilt hro with ⟨hgd, hstep, heff⟩ | ⟨hgd, hv, hS, hle⟩
    · -- carried out
      have hwant : Region.wanted o (yielded ops a.tmps) = true := by
        cases hg : ro.guard with
        | none => exact w1 hg
        | some p =>
          obtain ⟨t, want⟩ := p
          simp only [hg] at hgd
          rw [w2 t want want hg (by rw [hslot t (by unfold namesOf; rw [hg]; simp)]; exact hgd)]
          simp
      rw [if_pos hwant]
      refine .inl ?_
      have hob : ∀ ob, (match r.le i with | .acc fp _ => ob ∈ fp | .eff _ _ => True) → r.σl (listedP listed) ob = hp (r.S i) ob := fun ob h => r.σl_at hilt (fun j hj hw => by
        by_cases hji : j = i
        · subst hji; exact ⟨fun h => absurd h hni, fun h => by omega⟩
        · exact objs_fixed hr hd r hlog hcl ho hni hrd hilt hro hstep h j hj hw hji)
      have hagree : (lgOf (r.le i)).agrees (hp (r.S i)) (r.σl (listedP listed)) := by
        cases hli : r.le i with
        | acc fp wr => intro ob hob'; exact hob ob (by rw [hli]; exact hob')
        | eff A B => simp only [lgOf, LG.agrees]; funext ob; exact hob ob (by rw [hli]; trivial)
      obtain ⟨τ', k1, k2⟩ := StepG_local hstep (G := r.Fl (listedP listed)) (fun t ht => hslot t (by unfold namesOf; simp [ht])) hagree
      refine At.step hres hat0 k1 (fun a' w' hat' => hnext a' w' ?_)
      rw [hFl]
      have hτ : τ' = r.σl (listedP (listed.setIfInBounds i true)) := by
        funext ob
        rw [k2, r.σl_step hilt hset ob (fun hw j hj hwj hji => by
          refine objs_fixed hr hd r hlog hcl ho hni hrd hilt hro hstep ?_ j hj hwj hji
          cases hli : r.le i with
          | eff A B => trivial
          | acc fp wr => exact ((changed_by r hilt hro hw.2).2.2.2.2 fp wr hli).2)]
        cases hli : r.le i with
        | eff A B =>
          simp only [lgOf, LG.after]
          split
          · rename_i he; rw [he]; exact (hob ob (by rw [hli]; trivial)).symm
          · rfl
        | acc fp wr =>
          rw [hli] at hstep
          obtain ⟨c1, c2⟩ := StepG_changes hstep
          simp only [lgOf, LG.after]
          by_cases hwr : wr = some ob
          · rw [if_pos hwr]
            split
            · rename_i he; rw [he]; exact (hob ob (by rw [hli]; exact c2 ob hwr)).symm
            · rfl
          · rw [if_neg hwr, if_pos (c1 ob hwr)]
      rw [← hτ]
      exact hat'
    · -- passed over
      have hwant : Region.wanted o (yielded ops a.tmps) = false := by
        cases hg : ro.guard with
        | none => simp only [hg] at hgd
        | some p =>
          obtain ⟨t, want⟩ := p
          simp only [hg] at hgd
          rcases hgd with hgd | hgd
          · rw [w2 t want (!want) hg (by rw [hslot t (by unfold namesOf; rw [hg]; simp)]; exact hgd)]
            cases want <;> rfl
          · exact w3 t want hg (by rw [hslot t (by unfold namesOf; rw [hg]; simp)]; exact hgd)
      rw [if_neg (by rw [hwant]; simp)]
      refine hnext _ _ ?_
      rw [hFl, hv]
      have hσ : r.σl (listedP (listed.setIfInBounds i true)) = r.σl (listedP listed) := by
        funext ob
        rw [r.σl_step hilt hset ob (fun hw => absurd (by rw [hS]) hw.2), if_pos (by rw [hS])]
      rw [hσ, hdst]
      exact At.skip hat0 hdn
end

theorem draw_wp {P : Program} {n : Nat} {ops : Array Oper} {rs : List ROper} {pairs : List (Nat × Nat)} (hm : P.follows .mixedOrders = true) (hr : resOpers P n ops ops.toList = some rs) (hd : drawOK ops.toList rs pairs = true)
    {fr : Fr} {S : List Ob} {K : Fr → List Ob → Prop} (h : VCops P rs fr S [] (fun fr' S' log => okLog pairs log ∧ K fr' S')) {g0 σ0} {a : Act} {w : World} (hat : At g0 σ0 n (Fr.get fr) (hp S) a w)
    {Q : Exit → Act → World → Prop} (hQ : ∀ fr' S' a' w', K fr' S' → At g0 σ0 n (Fr.get fr') (hp S') a' w' → Q .normal a' w') {id : Nat} : (Code.region id ops true).wp P Q a w := by
  obtain ⟨hlen, _⟩ := resOpers_get hr
  obtain ⟨r, fr', e1, e2, e3, hlog, hk⟩ := VCops_rec rs fr S [] h
  simp only [List.append_nil] at hlog
  refine wp_region_any hm ?_
  have hsz : ops.size = rs.length := by rw [hlen]; simp
  have hno : ∀ i, ¬ listedP (Array.replicate ops.size false) i := fun i => by
    unfold listedP
    simp only [Array.getD_eq_getD_getElem?, Array.getElem?_replicate]
    split <;> simp
  refine draw_any hr hd r hlog (g0 := g0) (σ0 := σ0) (fun a' w' hat' => hQ fr' _ a' w' hk (by rw [e3]; exact hat')) ops.size _ a _ (by simp [hsz]) (fun i o _ hi => absurd hi (hno i)) ?_ ?_
  · rw [hsz]
    exact Nat.le_trans (List.length_filter_le _ _) (by simp)
  · have f1 : r.Fl (listedP (Array.replicate ops.size false)) = Fr.get fr := by
      funext t
      rw [← e1]
      unfold Rec.Fl
      rw [pick_cut (i := 0) (by omega) (fun j _ _ h => hno j h.1)]
      rfl
    have f2 : r.σl (listedP (Array.replicate ops.size false)) = hp S := by
      funext o
      rw [← e2]
      unfold Rec.σl
      rw [pick_cut (i := 0) (by omega) (fun j _ _ h => hno j h.1)]
      rfl
    rw [f1, f2]
    obtain ⟨h0, g, h1, h2, h3⟩ := hat
    exact ⟨h0, g, h1, h2.drew, h3⟩

theorem text_wp {P : Program} {n : Nat} {ops : Array Oper} {rs : List ROper} (hr : resOpers P n ops ops.toList = some rs)
    {fr : Fr} {S : List Ob} {K : Fr → List Ob → Prop} (h : VCops P rs fr S [] (fun fr' S' _ => K fr' S')) {g0 σ0} {a : Act} {w : World} (hat : At g0 σ0 n (Fr.get fr) (hp S) a w)
    {Q : Exit → Act → World → Prop} (hQ : ∀ fr' S' a' w', K fr' S' → At g0 σ0 n (Fr.get fr') (hp S') a' w' → Q .normal a' w') {id : Nat} : (Code.region id ops false).wp P Q a w := by
  refine wp_region ?_
  have := VCops_wp (P := P) (n := n) (ops := ops) (Q := Q) ops.toList rs 0 fr S [] a w (fun j o hj => by rw [Nat.zero_add, ← Array.getElem?_toList]; exact hj) hr h hat (fun fr' S' _ a' w' hk => hQ fr' S' a' w' hk)
  rw [List.range_eq_range']
  simpa using this
end Go.Ab
