/- Regions in the text's order may be cut: between two parts the state may be weakened. -/
import Derived.Test.YtiocagilhbomgaaWlF9
namespace Go.Ab
set_option linter.unusedVariables false
set_option linter.unusedSimpArgs false
open Go Go.RowKit

def cutId : Nat := 1000003
def flatR : FC → Option (List ROper)
  | .reg rs [] => some rs
  | .seq (.reg rs []) b => match flatR b with
    | some ys => some (rs ++ ys)
    | none => none
  | _ => none
/-- The code, its cut regions joined again. -/
def merge : FC → FC
  | .skip => .skip
  | .reg rs ps => .reg rs ps
  | .seq a b => .seq (merge a) (merge b)
  | .cond c a b => .cond c (merge a) (merge b)
  | .block i a => if i = cutId then (match flatR a with | some rs => .reg rs [] | none => .block i (merge a)) else .block i (merge a)
  | .loop a => .loop (merge a)
  | .exit i => .exit i
  | .ret => .ret

theorem VCops_wp2 {P : Program} {n : Nat} {ops : Array Oper} {g0 σ0} {Q : Exit → Act → World → Prop} {K : Fr → List Ob → List LE → Prop} {rest : List Nat} : ∀ (l : List Oper) (rs : List ROper) (i : Nat) (fr : Fr) (S : List Ob) (log : List LE) (a : Act) (w : World),
    (∀ j (o : Oper), l[j]? = some o → ops[i + j]? = some o) → resOpers P n ops l = some rs → VCops P rs fr S log K → At g0 σ0 n (Fr.get fr) (hp S) a w →
    (∀ fr' S' log' a' w', K fr' S' log' → At g0 σ0 n (Fr.get fr') (hp S') a' w' → wpOps P ops Q rest a' w') → wpOps P ops Q (List.range' i l.length ++ rest) a w
  | [], rs, i, fr, S, log, a, w, _, hr, h, hat, hQ => by
    simp [resOpers] at hr; subst hr
    exact hQ _ _ _ _ _ h hat
  | o :: l, rs, i, fr, S, log, a, w, hl, hr, h, hat, hQ => by
    simp only [resOpers] at hr
    split at hr
    · rename_i ro rs' h1 h2
      cases hr
      have hoi : ops[i]? = some o := by simpa using hl 0 o rfl
      have hl' : ∀ j (o' : Oper), l[j]? = some o' → ops[i + 1 + j]? = some o' := fun j o' hj => by
        have := hl (j + 1) o' (by simpa using hj)
        rwa [show i + (j + 1) = i + 1 + j by omega] at this
      have ih := fun fr S log a w => VCops_wp2 (Q := Q) (K := K) (g0 := g0) (σ0 := σ0) (rest := rest) l rs' (i + 1) fr S log a w hl' h2
      simp only [List.length_cons, List.range'_succ, List.cons_append, wpOps, hoi]
      obtain ⟨hc, hdst, hdn, _⟩ := resOper_eq h1
      have hstep : VC1 P ro.c (Fr.get fr) S (fun v S' le => VCops P rs' (putF fr ro.dst v) S' (le :: log) K) → o.wp P a w (wpOps P ops Q (List.range' (i + 1) l.length ++ rest)) Q := fun hv => by
        obtain ⟨v, S', le, k1, _, k3⟩ := VC1_step hv
        exact At.step h1 hat k1 (fun a' w' hat' => ih _ _ _ _ _ k3 (by rw [get_putF]; exact hat') hQ)
      have hat0 := hat
      obtain ⟨_, g, _, _, hf⟩ := hat
      obtain ⟨w1, w2, w3⟩ := wanted_of h1 hf
      simp only [VCops] at h
      cases hg : ro.guard with
      | none =>
        simp only [hg] at h
        rw [if_pos (w1 hg)]
        exact .inl (hstep h)
      | some p =>
        obtain ⟨t, want⟩ := p
        simp only [hg] at h
        generalize hq : Fr.get fr t = q at h
        split at h
        case h_3 => exact h.elim
        case h_2 =>
          rw [w3 t want hg hq, if_neg (by simp)]
          refine ih _ _ _ _ _ h ?_ hQ
          rw [get_putF, hdst]
          exact At.skip hat0 hdn
        rename_i b
        obtain ⟨ha, hb⟩ := h
        rw [w2 t want b hg hq]
        by_cases e : b = want
        · subst e
          rw [if_pos (by simp)]
          exact .inl (hstep (ha rfl))
        · have e' : b = !want := by cases b <;> cases want <;> simp_all
          rw [if_neg (by simp [e])]
          refine ih _ _ _ _ _ (hb e') ?_ hQ
          rw [get_putF, hdst]
          exact At.skip hat0 hdn
    · cases hr

theorem resOpers_app {P : Program} {n : Nat} {ops : Array Oper} : ∀ {l : List Oper} {xs ys : List ROper}, resOpers P n ops l = some (xs ++ ys) → ∃ l1 l2, l = l1 ++ l2 ∧ resOpers P n ops l1 = some xs ∧ resOpers P n ops l2 = some ys
  | l, [], ys, h => ⟨[], l, rfl, rfl, h⟩
  | [], x :: xs, ys, h => by simp [resOpers] at h
  | o :: l, x :: xs, ys, h => by
    simp only [resOpers, List.cons_append] at h
    split at h
    · rename_i q qs h1 h2
      cases h
      obtain ⟨l1, l2, rfl, e1, e2⟩ := resOpers_app h2
      exact ⟨o :: l1, l2, rfl, by simp only [resOpers, h1, e1], e2⟩
    · cases h

theorem cut_wp {P : Program} {n : Nat} {ops : Array Oper} {g0 : Gh} {S0 : List Ob} {Q : Exit → Act → World → Prop} {K : Post} : ∀ (b : FC) (rs : List ROper), flatR b = some rs → ∀ (l : List Oper) (i : Nat) (fr : Fr) (S : List Ob) (a : Act) (w : World),
    (∀ j (o : Oper), l[j]? = some o → ops[i + j]? = some o) → resOpers P n ops l = some rs → VC P S0 b fr S K → At g0 (hp S0) n (Fr.get fr) (hp S) a w →
    (∀ fr' S' a' w', K .normal fr' S' → At g0 (hp S0) n (Fr.get fr') (hp S') a' w' → Q .normal a' w') → wpOps P ops Q (List.range' i l.length) a w
  | .reg rs0 [], rs, hb, l, i, fr, S, a, w, hl, hr, hv, hat, hQ => by
    simp only [flatR, Option.some.injEq] at hb; subst hb
    exact VCops_wp l _ i fr S [] a w hl hr hv hat (fun fr' S' log a' w' hk => hQ fr' S' a' w' hk.2)
  | .seq (.reg xs []) b, rs, hb, l, i, fr, S, a, w, hl, hr, hv, hat, hQ => by
    simp only [flatR] at hb
    split at hb
    · rename_i ys hy
      simp only [Option.some.injEq] at hb
      subst hb
      obtain ⟨l1, l2, rfl, e1, e2⟩ := resOpers_app hr
      have e : List.range' i (l1 ++ l2).length = List.range' i l1.length ++ List.range' (i + l1.length) l2.length := by
        rw [List.length_append]
        simp
      rw [e]
      refine VCops_wp2 l1 xs i fr S [] a w (fun j o hj => hl j o (by rw [List.getElem?_append_left]; exact hj; exact (List.getElem?_eq_some_iff.1 hj).1)) e1 hv hat (fun fr' S' log a' w' hk hat' => ?_)
      obtain ⟨_, F, T, hw, hk⟩ := hk
      exact cut_wp b ys hy l2 (i + l1.length) F T a' w' (fun j o hj => by
        have := hl (l1.length + j) o (by rw [List.getElem?_append_right (by omega)]; simpa using hj)
        rwa [← Nat.add_assoc] at this) e2 hk (hw _ _ _ _ hat') hQ
    · cases hb
  | .skip, _, hb, _, _, _, _, _, _, _, _, _, _, _ => by simp [flatR] at hb
  | .reg _ (_ :: _), _, hb, _, _, _, _, _, _, _, _, _, _, _ => by simp [flatR] at hb
  | .seq .skip _, _, hb, _, _, _, _, _, _, _, _, _, _, _ => by simp [flatR] at hb
  | .seq (.reg _ (_ :: _)) _, _, hb, _, _, _, _, _, _, _, _, _, _, _ => by simp [flatR] at hb
  | .seq (.seq _ _) _, _, hb, _, _, _, _, _, _, _, _, _, _, _ => by simp [flatR] at hb
  | .seq (.cond _ _ _) _, _, hb, _, _, _, _, _, _, _, _, _, _, _ => by simp [flatR] at hb
  | .seq (.block _ _) _, _, hb, _, _, _, _, _, _, _, _, _, _, _ => by simp [flatR] at hb
  | .seq (.loop _) _, _, hb, _, _, _, _, _, _, _, _, _, _, _ => by simp [flatR] at hb
  | .seq (.exit _) _, _, hb, _, _, _, _, _, _, _, _, _, _, _ => by simp [flatR] at hb
  | .seq .ret _, _, hb, _, _, _, _, _, _, _, _, _, _, _ => by simp [flatR] at hb
  | .cond _ _ _, _, hb, _, _, _, _, _, _, _, _, _, _, _ => by simp [flatR] at hb
  | .block _ _, _, hb, _, _, _, _, _, _, _, _, _, _, _ => by simp [flatR] at hb
  | .loop _, _, hb, _, _, _, _, _, _, _, _, _, _, _ => by simp [flatR] at hb
  | .exit _, _, hb, _, _, _, _, _, _, _, _, _, _, _ => by simp [flatR] at hb
  | .ret, _, hb, _, _, _, _, _, _, _, _, _, _, _ => by simp [flatR] at hb


theorem merge_reg {fc : FC} {rs ps} (h : merge fc = .reg rs ps) : fc = .reg rs ps ∨ ∃ b, fc = .block cutId b ∧ flatR b = some rs ∧ ps = [] := by
  cases fc with
  | reg a b => simp only [merge] at h; cases h; exact .inl rfl
  | block i a =>
    simp only [merge] at h
    split at h
    · rename_i e
      subst e
      split at h
      · rename_i rs' e2
        cases h
        exact .inr ⟨a, rfl, e2, rfl⟩
      · cases h
    · cases h
  | _ => simp [merge] at h

/-- Only regions in the text's order are cut. -/
def cutOK : Code → FC → Bool
  | .region _ _ d, .block _ _ => !d
  | .seq a b, .seq x y => cutOK a x && cutOK b y
  | .cond _ a b, .cond _ x y => cutOK a x && cutOK b y
  | .block _ a, .block _ x => cutOK a x
  | .loop a, .loop x => cutOK a x
  | _, _ => true

theorem VC_wp2 {P : Program} {n : Nat} (hm : P.follows .mixedOrders = true) {g0 : Gh} {S0 : List Ob} : ∀ (c : Code) (fc : FC), resCode P n c = some (merge fc) → cutOK c fc = true → ∀ (fr : Fr) (S : List Ob) (K : Post), VC P S0 fc fr S K →
    ∀ a w, At g0 (hp S0) n (Fr.get fr) (hp S) a w → c.wp P (QK g0 S0 n K) a w := by
  have noblk : ∀ {i x fc}, FC.block i x = merge fc → ∃ y, fc = .block i y ∧ x = merge y := by
    intro i x fc h
    cases fc with
    | block j a =>
      simp only [merge] at h
      split at h
      · split at h
        · cases h
        · cases h; exact ⟨a, rfl, rfl⟩
      · cases h; exact ⟨a, rfl, rfl⟩
    | _ => simp [merge] at h
  have blk2 : ∀ {i a}, merge (.block i a) = .skip → False := by
    intro i a h
    simp only [merge] at h
    split at h
    · split at h <;> cases h
    · cases h
  have blk3 : ∀ {i a x y}, merge (.block i a) = .seq x y → False := by
    intro i a x y h
    simp only [merge] at h
    split at h
    · split at h <;> cases h
    · cases h
  have blk4 : ∀ {i a c x y}, merge (.block i a) = .cond c x y → False := by
    intro i a c x y h
    simp only [merge] at h
    split at h
    · split at h <;> cases h
    · cases h
  have blk5 : ∀ {i a x}, merge (.block i a) = .loop x → False := by
    intro i a x h
    simp only [merge] at h
    split at h
    · split at h <;> cases h
    · cases h
  have blk6 : ∀ {i a x}, merge (.block i a) = .exit x → False := by
    intro i a x h
    simp only [merge] at h
    split at h
    · split at h <;> cases h
    · cases h
  have blk7 : ∀ {i a}, merge (.block i a) = .ret → False := by
    intro i a h
    simp only [merge] at h
    split at h
    · split at h <;> cases h
    · cases h
  intro c
  induction c with
  | skip =>
    intro fc h hc fr S K hv a w hat
    simp only [resCode, Option.some.injEq] at h
    cases fc with
    | skip => exact wp_skip ⟨fr, S, hat, hv⟩
    | block i b => exact (blk2 h.symm).elim
    | _ => simp [merge] at h
  | label l =>
    intro fc h hc fr S K hv a w hat
    simp only [resCode, Option.some.injEq] at h
    cases fc with
    | skip => exact wp_label ⟨fr, S, hat, hv⟩
    | block i b => exact (blk2 h.symm).elim
    | _ => simp [merge] at h
  | region id ops d =>
    intro fc h hc fr S K hv a w hat
    simp only [resCode] at h
    split at h
    · rename_i rs hrs
      split at h
      · rename_i hd
        subst hd
        split at h
        · rename_i hok
          simp only [Option.some.injEq] at h
          rcases merge_reg h.symm with rfl | ⟨b, rfl, hb, hps⟩
          · exact draw_wp hm hrs hok hv hat (fun fr' S' a' w' hk hat' => ⟨fr', S', hat', hk⟩)
          · simp [cutOK] at hc
        · cases h
      · rename_i hd
        have : d = false := by simpa using hd
        subst this
        simp only [Option.some.injEq] at h
        rcases merge_reg h.symm with rfl | ⟨b, rfl, hb, hps⟩
        · simp only [VC, okLog, true_and] at hv
          exact text_wp hrs hv hat (fun fr' S' a' w' hk hat' => ⟨fr', S', hat', hk⟩)
        · have hv2 : VC P S0 b fr S (Post.blk cutId K) := hv
          refine wp_region ?_
          have := cut_wp (P := P) (n := n) (ops := ops) (Q := QK g0 S0 n K) b rs hb ops.toList 0 fr S a w (fun j o hj => by rw [Nat.zero_add, ← Array.getElem?_toList]; exact hj) hrs hv2 hat (fun fr' S' a' w' hk hat' => ⟨fr', S', hat', hk⟩)
          rw [List.range_eq_range']
          simpa using this
    · cases h
  | seq x y ihx ihy =>
    intro fc h hc fr S K hv a w hat
    simp only [resCode] at h
    split at h
    · rename_i fx fy hx hy
      simp only [Option.some.injEq] at h
      cases fc with
      | seq x' y' =>
        simp only [merge, FC.seq.injEq] at h
        simp only [cutOK, Bool.and_eq_true] at hc
        refine wp_seq (wp_mono (ihx x' (by rw [hx, h.1]) hc.1 fr S _ hv a w hat) (fun e a' w' hq => ?_))
        obtain ⟨fr', S', hat', hk⟩ := hq
        cases e with
        | normal =>
          obtain ⟨F, T, hwk, hk⟩ := hk
          exact ihy y' (by rw [hy, h.2]) hc.2 F T K hk a' w' (hwk _ _ _ _ hat')
        | _ => exact ⟨fr', S', hat', hk⟩
      | block i b => exact (blk3 h.symm).elim
      | _ => simp [merge] at h
    · cases h
  | cond c x y ihx ihy =>
    intro fc h hc fr S K hv a w hat
    simp only [resCode] at h
    split at h
    · rename_i c' fx fy hcc hx hy
      simp only [Option.some.injEq] at h
      cases fc with
      | cond c2 x' y' =>
        simp only [merge, FC.cond.injEq] at h
        obtain ⟨rfl, h1, h2⟩ := h
        simp only [cutOK, Bool.and_eq_true] at hc
        simp only [VC] at hv
        obtain ⟨_, g, _, _, hf⟩ := id hat
        have hcv := rOpd_VR hf hcc
        generalize ev (Fr.get fr) c' = q at hv hcv
        cases q <;> try exact hv.elim
        rename_i t
        generalize hae : a.eval c = u at hcv
        cases hcv
        refine wp_cond_split hae (fun ht => ?_) (fun ht => ?_)
        · exact ihx x' (by rw [hx, h1]) hc.1 fr S K (hv.1 ht) a w hat
        · exact ihy y' (by rw [hy, h2]) hc.2 fr S K (hv.2 ht) a w hat
      | block i b => exact (blk4 h.symm).elim
      | _ => simp [merge] at h
    · cases h
  | block i x ihx =>
    intro fc h hc fr S K hv a w hat
    simp only [resCode] at h
    split at h
    · rename_i fx hx
      simp only [Option.some.injEq] at h
      obtain ⟨x', rfl, h1⟩ := noblk h
      simp only [cutOK] at hc
      refine wp_block (wp_mono (ihx x' (by rw [hx, h1]) hc fr S _ hv a w hat) (fun e a' w' hq => ?_))
      obtain ⟨fr', S', hat', hk⟩ := hq
      cases e with
      | exit j =>
        simp only [Exit.inBlock, Post.blk] at hk ⊢
        split
        · rename_i e; rw [if_pos e] at hk; exact ⟨fr', S', hat', hk⟩
        · rename_i e; rw [if_neg e] at hk; exact ⟨fr', S', hat', hk⟩
      | _ => exact ⟨fr', S', hat', hk⟩
    · cases h
  | loop x ihx =>
    intro fc h hc fr S K hv a w hat
    simp only [resCode] at h
    split at h
    · rename_i fx hx
      simp only [Option.some.injEq] at h
      cases fc with
      | loop x' =>
        simp only [merge, FC.loop.injEq] at h
        simp only [cutOK] at hc
        obtain ⟨ι, F, T, Pr, μ, i0, hp0, hwk, hrd⟩ := hv
        refine wp_loop_ix (fun i a w => Pr i ∧ At g0 (hp S0) n (Fr.get (F i)) (hp (T i)) a w) μ (fun i a w hI => ?_) (i0 := i0) ⟨hp0, hwk _ _ _ _ hat⟩
        refine wp_mono (ihx x' (by rw [hx, h]) hc (F i) (T i) _ (hrd i hI.1) a w hI.2) (fun e a' w' hq => ?_)
        obtain ⟨fr', S', hat', hk⟩ := hq
        cases e with
        | normal =>
          obtain ⟨i', h1, h2, h3⟩ := hk
          exact ⟨i', ⟨h1, h3 _ _ _ _ hat'⟩, h2⟩
        | _ => exact ⟨fr', S', hat', hk⟩
      | block i b => exact (blk5 h.symm).elim
      | _ => simp [merge] at h
    · cases h
  | exit i =>
    intro fc h hc fr S K hv a w hat
    simp only [resCode, Option.some.injEq] at h
    cases fc with
    | exit j => simp only [merge, FC.exit.injEq] at h; subst h; exact wp_exit ⟨fr, S, hat, hv⟩
    | block i b => exact (blk6 h.symm).elim
    | _ => simp [merge] at h
  | ret =>
    intro fc h hc fr S K hv a w hat
    simp only [resCode, Option.some.injEq] at h
    cases fc with
    | ret => exact wp_ret ⟨fr, S, hat, hv⟩
    | block i b => exact (blk7 h.symm).elim
    | _ => simp [merge] at h
  | _ => intro fc h; simp [resCode] at h

structure Fn3S (P : Program) (f : FuncId) (n : Nat) (ts : List RS) (fc : FC) : Prop where
  ex : ∃ fn c, P.funcs[f]? = some fn ∧ fn.body = some c ∧ fn.ntmps = n ∧ resSlots3 P fn.results.toList = some ts ∧ resCode P n c = some (merge fc) ∧ cutOK c fc = true

theorem Ev_endS {P : Program} {f n : Nat} {ts : List RS} {fc : FC} (hm : P.follows .mixedOrders = true) (hfn : Fn3S P f n ts fc) {args : List AV} (hn : args.length ≤ n) {S S' : List Ob} {r : AV} (ow : List Nat)
    (h : VT P S ow fc (initFr 0 args) S (fun e fr1 S1 => isRet e ∧ ∃ v R, retV3 S1 (Fr.get fr1) ts = some v ∧ GWk S S1 S' R ∧ R v r)) : Ev P f args (hp S) r (hp S') := by
  have hv := VT_VC (K' := fun e fr1 S1 => isRet e ∧ ∃ v R, retV3 S1 (Fr.get fr1) ts = some v ∧ GWk S S1 S' R ∧ R v r) (fun _ _ _ h => h) h
  intro g w vals hw hvs
  obtain ⟨fn, c, hf, hb, hnt, hrs, hrc, hok⟩ := hfn.ex
  have hvs1 := hvs.1
  refine calls_of_wp hf hb ?_
  have hat : At g (hp S) n (Fr.get (initFr 0 args)) (hp S) { tmps := vals ++ Array.replicate (fn.ntmps - vals.size) undef, defers := [] } w := by
    refine ⟨rfl, g, Gh.le.refl _ _, hw, ⟨by simp; omega, fun t => ?_⟩⟩
    rw [initFr_get]
    simp only [Nat.zero_le, if_true, Nat.sub_zero]
    by_cases ht : t < args.length
    · have := hvs.2 t ht (by omega)
      rw [List.getD_eq_getElem?_getD, List.getElem?_eq_getElem ht]
      rw [Array.getD_eq_getD_getElem?, Array.getElem?_append_left (by omega), Array.getElem?_eq_getElem (by omega)]
      exact this
    · rw [List.getD_eq_getElem?_getD, List.getElem?_eq_none (by omega)]
      exact .junk
  refine wp_mono (VC_wp2 hm c fc hrc hok _ _ _ hv _ _ hat) (fun e a' w' hq => ?_)
  obtain ⟨fr1, S1, ⟨hd, g1, hle1, hw1, hf1⟩, he, v, R, hret, hgw, hR⟩ := hq
  obtain ⟨u, hu, hvu⟩ := results_ok hw1 hf1 hrs hret
  obtain ⟨g2, hle2, hw2, hv2⟩ := hgw g g1 w' hle1 hw1
  have hfin : a'.defers = [] ∧ ∃ v, (results fn a'.tmps).run P w' = .ok v w' ∧ ∃ u g', Ending.returned v = .returned u ∧ g.le (hp S) g' (hp S') ∧ WRel g' (hp S') w' ∧ VR g'.pm g'.L (hp S') r u :=
    ⟨hd, u, hu, u, g2, rfl, hle2, hw2, hv2 _ _ _ hR hvu⟩
  cases e with
  | normal => exact hfin
  | ret => exact hfin
  | _ => exact he.elim

/-- A function without objects of its caller: what it returns is frozen. -/
theorem PureEv_endS {P : Program} {f n : Nat} {ts : List RS} {fc : FC} (hm : P.follows .mixedOrders = true) (hfn : Fn3S P f n ts fc) {args : List AV} (hn : args.length ≤ n) {r : AV} (ow : List Nat) (k : Nat)
    (h : VT P [] ow fc (initFr 0 args) [] (fun e fr S => isRet e ∧ ∃ v, retV3 S (Fr.get fr) ts = some v ∧ AVw (frz 0 S k v) r)) : PureEv P f args r := by
  have := Ev_endS (S := []) (S' := []) (r := r) hm hfn hn ow (VT_mono (K' := fun e fr1 S1 => isRet e ∧ ∃ v R, retV3 S1 (Fr.get fr1) ts = some v ∧ GWk [] S1 [] R ∧ R v r) (fun e fr S hk => ?_) h)
  · rw [hp_nil] at this; exact this
  · obtain ⟨he, v, h1, h2⟩ := hk
    refine ⟨he, v, _, h1, (gwk_frz 0 k (by simp)).trans GWk.refl, _, rfl, h2⟩

end Go.Ab
