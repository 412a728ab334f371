/- Lists made of zeros that are nil slices; pointers that are known not to be nil. -/
import Derived.Test.YtgoejecjmodjiaaDoorWlF8
import Derived.Test.YtgoejecjmodjiaaDoorWlF2
namespace Go.Ab
set_option linter.unusedVariables false
set_option linter.unusedSimpArgs false
open Go Go.RowKit

theorem RnL.app {R : Rn} {a a' b b' : List AV} (hl : a'.length = a.length) (h : RnL R 0 a a') (k : RnL R 0 b b') : RnL R 0 (a ++ b) (a' ++ b') := by
  refine ⟨by have := k.1; simp only [List.length_append]; omega, fun j h1 h2 => ?_⟩
  simp only [Nat.zero_add] at h1 ⊢
  by_cases hj : j < a.length
  · rw [List.getElem_append_left hj, List.getElem_append_left (by omega)]
    have := h.2 j (by omega) (by omega)
    simpa only [Nat.zero_add] using this
  · rw [List.getElem_append_right (by omega), List.getElem_append_right (by omega)]
    have h2' : j - a'.length < b'.length := by simp only [List.length_append] at h2; omega
    have h1' : j - a.length < b.length := by simp only [List.length_append] at h1; omega
    have := k.2 (j - a'.length) (by omega) h2'
    simp only [Nat.zero_add] at this
    simp only [hl] at this ⊢
    exact this
theorem RnL.aw {R : Rn} {a a' : List AV} (hb : blwL 0 a = true) (h : awL a a') : RnL R 0 a a' := by
  refine ⟨by rw [awL_len h]; omega, fun j h1 h2 => ?_⟩
  simp only [Nat.zero_add] at h1 ⊢
  exact .base (blwL_get hb j h1) (awL_get h j h1 h2)
section
variable {α : Type} {f f0 : α → AV} {esh : Option Nat}
theorem rnl_raw {R : Rn} (h0 : Enc f0 esh) {bytes : Nat} {n n' : Int} {x : α} {v : List α} (hv : mkL bytes n n' x = some v) (hw : awL (f0 x).cells (f x).cells) : RnL R 0 (flat f0 v) (flat f v) := by
  obtain ⟨_, rfl⟩ := mkL_some hv
  generalize n.toNat = m
  induction m with
  | zero => exact .nil (Nat.zero_le _)
  | succ m ih =>
    have e1 : flat f0 (List.replicate (m + 1) x) = (f0 x).cells ++ flat f0 (List.replicate m x) := by simp [flat, List.replicate_succ]
    have e2 : flat f (List.replicate (m + 1) x) = (f x).cells ++ flat f (List.replicate m x) := by simp [flat, List.replicate_succ]
    rw [e1, e2]
    exact .app (awL_len hw).symm (.aw (cells_below (h0.blw x 0)) hw) ih
theorem rn_refW (he : Enc f esh) {M : RMap} {S S' : List Ob} {o ver o' ver'} {l : List α} {cs} (h1 : rmAt M o' = some (o, 0)) (h2 : hp S o = .arr ver cs) (h3 : hp S' o' = .arr ver' (flat f l)) : RnV (wkR M S S') (.ref o ver 0 l.length esh) (.ref o' ver' 0 l.length esh) :=
  rn_ref h1 h2 h3 rfl (by rw [he.length]; omega)
variable {P : Program} {S0 : List Ob} {ow : List Nat} {fr : Fr} {S : List Ob} {log : List LE}
theorem E_mkLFw {d} {bytes : Nat} {z l c rs} {K : Fr → List Ob → List LE → Prop} {k k' n n'} {x : α} {v : List α} (h0 : Enc f0 esh) (he : Enc f esh) (how : ow.contains d = false) (e : ev (Fr.get fr) l = .int k n) (e1 : ev (Fr.get fr) c = .int k' n') (hz : (f0 x).cells = z) (hw : awL (f0 x).cells (f x).cells) (hv : mkL bytes n n' x = some v)
    (h : VTops P ow rs ((d, .sl false (szOf esh) (v.map f)) :: fr) S (.acc [] none :: log) K) : VTops P ow (⟨some d, none, .op (.mksl esh bytes z l c)⟩ :: rs) fr S log K := by
  obtain ⟨h1, rfl⟩ := mkL_some hv
  refine E_opw (v := .sl false (szOf esh) ((List.replicate n.toNat x).map f0)) (v' := .sl false (szOf esh) ((List.replicate n.toNat x).map f)) (rd := []) (δ := none) ?_ ?_ rfl h
  · simp only [opV, vMksl, e, e1]
    rw [if_pos h1]
    subst hz
    have hel := h0.elems (List.replicate n.toNat x)
    simp only [List.length_replicate] at hel
    have how' : ¬ d ∈ ow := by simpa using how
    simp [vNewSl, h0.repl, h0.all, h0.length, how', hel]
  · refine .sl id (by simp) (fun i a b => ?_) (fun i a b j q t => ?_)
    · simp [h0.sz, he.sz]
    · simp only [List.getElem_map, List.getElem_replicate] at q t ⊢
      exact awL_get hw j q t
theorem E_nck {d x rs} {K : Fr → List Ob → List LE → Prop} {o : Option α} {y : α} (e : ev (Fr.get fr) x = avP f o) (ho : o = some y) (h : VTops P ow rs ((d, .cptr (f y).cells 0) :: fr) S (.acc [] none :: log) K) : VTops P ow (⟨some d, none, .op (.nchk x)⟩ :: rs) fr S log K := by
  subst ho
  refine E_op0 (v := .cptr (f y).cells 0) ?_ rfl h
  simp only [opV, e]
  rfl
end
end Go.Ab
/- Regions in the text's order may be cut: between two parts the state may be weakened. -/
namespace Go.Ab
set_option linter.unusedVariables false
set_option linter.unusedSimpArgs false
open Go Go.RowKit

def cutId : Nat := 1000003
def flatR : FC → Option (List ROper)
  | .reg rs [] => some rs
  | .seq (.reg rs []) b => match flatR b with
    | some ys => some (rs ++ ys)
    | none => none
  | _ => none
/-- The code, its cut regions joined again. -/
def merge : FC → FC
  | .skip => .skip
  | .reg rs ps => .reg rs ps
  | .seq a b => .seq (merge a) (merge b)
  | .cond c a b => .cond c (merge a) (merge b)
  | .block i a => if i = cutId then (match flatR a with | some rs => .reg rs [] | none => .block i (merge a)) else .block i (merge a)
  | .loop a => .loop (merge a)
  | .exit i => .exit i
  | .ret => .ret

theorem VCops_wp2 {P : Program} {n : Nat} {ops : Array Oper} {g0 σ0} {Q : Exit → Act → World → Prop} {K : Fr → List Ob → List LE → Prop} {rest : List Nat} : ∀ (l : List Oper) (rs : List ROper) (i : Nat) (fr : Fr) (S : List Ob) (log : List LE) (a : Act) (w : World),
    (∀ j (o : Oper), l[j]? = some o → ops[i + j]? = some o) → resOpers P n ops l = some rs → VCops P rs fr S log K → At g0 σ0 n (Fr.get fr) (hp S) a w →
    (∀ fr' S' log' a' w', K fr' S' log' → At g0 σ0 n (Fr.get fr') (hp S') a' w' → wpOps P ops Q rest a' w') → wpOps P ops Q (List.range' i l.length ++ rest) a w
  | [], rs, i, fr, S, log, a, w, _, hr, h, hat, hQ => by
    simp [resOpers] at hr; subst hr
    exact hQ _ _ _ _ _ h hat
  | o :: l, rs, i, fr, S, log, a, w, hl, hr, h, hat, hQ => by
    simp only [resOpers] at hr
    split at hr
    · rename_i ro rs' h1 h2
      cases hr
      have hoi : ops[i]? = some o := by simpa using hl 0 o rfl
      have hl' : ∀ j (o' : Oper), l[j]? = some o' → ops[i + 1 + j]? = some o' := fun j o' hj => by
        have := hl (j + 1) o' (by simpa using hj)
        rwa [show i + (j + 1) = i + 1 + j by omega] at this
      have ih := fun fr S log a w => VCops_wp2 (Q := Q) (K := K) (g0 := g0) (σ0 := σ0) (rest := rest) l rs' (i + 1) fr S log a w hl' h2
      simp only [List.length_cons, List.range'_succ, List.cons_append, wpOps, hoi]
      obtain ⟨hc, hdst, hdn, _⟩ := resOper_eq h1
      have hstep : VC1 P ro.c (Fr.get fr) S (fun v S' le => VCops P rs' (putF fr ro.dst v) S' (le :: log) K) → o.wp P a w (wpOps P ops Q (List.range' (i + 1) l.length ++ rest)) Q := fun hv => by
        obtain ⟨v, S', le, k1, _, k3⟩ := VC1_step hv
        exact At.step h1 hat k1 (fun a' w' hat' => ih _ _ _ _ _ k3 (by rw [get_putF]; exact hat') hQ)
      have hat0 := hat
      obtain ⟨_, g, _, _, hf⟩ := hat
      obtain ⟨w1, w2, w3⟩ := wanted_of h1 hf
      simp only [VCops] at h
      cases hg : ro.guard with
      | none =>
        simp only [hg] at h
        rw [if_pos (w1 hg)]
        exact .inl (hstep h)
      | some p =>
        obtain ⟨t, want⟩ := p
        simp only [hg] at h
        generalize hq : Fr.get fr t = q at h
        split at h
        case h_3 => exact h.elim
        case h_2 =>
          rw [w3 t want hg hq, if_neg (by simp)]
          refine ih _ _ _ _ _ h ?_ hQ
          rw [get_putF, hdst]
          exact At.skip hat0 hdn
        rename_i b
        obtain ⟨ha, hb⟩ := h
        rw [w2 t want b hg hq]
        by_cases e : b = want
        · subst e
          rw [if_pos (by simp)]
          exact .inl (hstep (ha rfl))
        · have e' : b = !want := by cases b <;> cases want <;> simp_all
          rw [if_neg (by simp [e])]
          refine ih _ _ _ _ _ (hb e') ?_ hQ
          rw [get_putF, hdst]
          exact At.skip hat0 hdn
    · cases hr

theorem resOpers_app {P : Program} {n : Nat} {ops : Array Oper} : ∀ {l : List Oper} {xs ys : List ROper}, resOpers P n ops l = some (xs ++ ys) → ∃ l1 l2, l = l1 ++ l2 ∧ resOpers P n ops l1 = some xs ∧ resOpers P n ops l2 = some ys
  | l, [], ys, h => ⟨[], l, rfl, rfl, h⟩
  | [], x :: xs, ys, h => by simp [resOpers] at h
  | o :: l, x :: xs, ys, h => by
    simp only [resOpers, List.cons_append] at h
    split at h
    · rename_i q qs h1 h2
      cases h
      obtain ⟨l1, l2, rfl, e1, e2⟩ := resOpers_app h2
      exact ⟨o :: l1, l2, rfl, by simp only [resOpers, h1, e1], e2⟩
    · cases h

theorem cut_wp {P : Program} {n : Nat} {ops : Array Oper} {g0 : Gh} {S0 : List Ob} {Q : Exit → Act → World → Prop} {K : Post} : ∀ (b : FC) (rs : List ROper), flatR b = some rs → ∀ (l : List Oper) (i : Nat) (fr : Fr) (S : List Ob) (a : Act) (w : World),
    (∀ j (o : Oper), l[j]? = some o → ops[i + j]? = some o) → resOpers P n ops l = some rs → VC P S0 b fr S K → At g0 (hp S0) n (Fr.get fr) (hp S) a w →
    (∀ fr' S' a' w', K .normal fr' S' → At g0 (hp S0) n (Fr.get fr') (hp S') a' w' → Q .normal a' w') → wpOps P ops Q (List.range' i l.length) a w
  | .reg rs0 [], rs, hb, l, i, fr, S, a, w, hl, hr, hv, hat, hQ => by
    simp only [flatR, Option.some.injEq] at hb; subst hb
    exact VCops_wp l _ i fr S [] a w hl hr hv hat (fun fr' S' log a' w' hk => hQ fr' S' a' w' hk.2)
  | .seq (.reg xs []) b, rs, hb, l, i, fr, S, a, w, hl, hr, hv, hat, hQ => by
    simp only [flatR] at hb
    split at hb
    · rename_i ys hy
      simp only [Option.some.injEq] at hb
      subst hb
      obtain ⟨l1, l2, rfl, e1, e2⟩ := resOpers_app hr
      have e : List.range' i (l1 ++ l2).length = List.range' i l1.length ++ List.range' (i + l1.length) l2.length := by
        rw [List.length_append]
        simp
      rw [e]
      refine VCops_wp2 l1 xs i fr S [] a w (fun j o hj => hl j o (by rw [List.getElem?_append_left]; exact hj; exact (List.getElem?_eq_some_iff.1 hj).1)) e1 hv hat (fun fr' S' log a' w' hk hat' => ?_)
      obtain ⟨_, F, T, hw, hk⟩ := hk
      exact cut_wp b ys hy l2 (i + l1.length) F T a' w' (fun j o hj => by
        have := hl (l1.length + j) o (by rw [List.getElem?_append_right (by omega)]; simpa using hj)
        rwa [← Nat.add_assoc] at this) e2 hk (hw _ _ _ _ hat') hQ
    · cases hb
  | .skip, _, hb, _, _, _, _, _, _, _, _, _, _, _ => by simp [flatR] at hb
  | .reg _ (_ :: _), _, hb, _, _, _, _, _, _, _, _, _, _, _ => by simp [flatR] at hb
  | .seq .skip _, _, hb, _, _, _, _, _, _, _, _, _, _, _ => by simp [flatR] at hb
  | .seq (.reg _ (_ :: _)) _, _, hb, _, _, _, _, _, _, _, _, _, _, _ => by simp [flatR] at hb
  | .seq (.seq _ _) _, _, hb, _, _, _, _, _, _, _, _, _, _, _ => by simp [flatR] at hb
  | .seq (.cond _ _ _) _, _, hb, _, _, _, _, _, _, _, _, _, _, _ => by simp [flatR] at hb
  | .seq (.block _ _) _, _, hb, _, _, _, _, _, _, _, _, _, _, _ => by simp [flatR] at hb
  | .seq (.loop _) _, _, hb, _, _, _, _, _, _, _, _, _, _, _ => by simp [flatR] at hb
  | .seq (.exit _) _, _, hb, _, _, _, _, _, _, _, _, _, _, _ => by simp [flatR] at hb
  | .seq .ret _, _, hb, _, _, _, _, _, _, _, _, _, _, _ => by simp [flatR] at hb
  | .cond _ _ _, _, hb, _, _, _, _, _, _, _, _, _, _, _ => by simp [flatR] at hb
  | .block _ _, _, hb, _, _, _, _, _, _, _, _, _, _, _ => by simp [flatR] at hb
  | .loop _, _, hb, _, _, _, _, _, _, _, _, _, _, _ => by simp [flatR] at hb
  | .exit _, _, hb, _, _, _, _, _, _, _, _, _, _, _ => by simp [flatR] at hb
  | .ret, _, hb, _, _, _, _, _, _, _, _, _, _, _ => by simp [flatR] at hb


theorem merge_reg {fc : FC} {rs ps} (h : merge fc = .reg rs ps) : fc = .reg rs ps ∨ ∃ b, fc = .block cutId b ∧ flatR b = some rs ∧ ps = [] := by
  cases fc with
  | reg a b => simp only [merge] at h; cases h; exact .inl rfl
  | block i a =>
    simp only [merge] at h
    split at h
    · rename_i e
      subst e
      split at h
      · rename_i rs' e2
        cases h
        exact .inr ⟨a, rfl, e2, rfl⟩
      · cases h
    · cases h
  | _ => simp [merge] at h

/-- Only regions in the text's order are cut. -/
def cutOK : Code → FC → Bool
  | .region _ _ d, .block _ _ => !d
  | .seq a b, .seq x y => cutOK a x && cutOK b y
  | .cond _ a b, .cond _ x y => cutOK a x && cutOK b y
  | .block _ a, .block _ x => cutOK a x
  | .loop a, .loop x => cutOK a x
  | _, _ => true

theorem VC_wp2 {P : Program} {n : Nat} (hm : P.follows .mixedOrders = true) {g0 : Gh} {S0 : List Ob} : ∀ (c : Code) (fc : FC), resCode P n c = some (merge fc) → cutOK c fc = true → ∀ (fr : Fr) (S : List Ob) (K : Post), VC P S0 fc fr S K →
    ∀ a w, At g0 (hp S0) n (Fr.get fr) (hp S) a w → c.wp P (QK g0 S0 n K) a w := by
  have noblk : ∀ {i x fc}, FC.block i x = merge fc → ∃ y, fc = .block i y ∧ x = merge y := by
    intro i x fc h
    cases fc with
    | block j a =>
      simp only [merge] at h
      split at h
      · split at h
        · cases h
        · cases h; exact ⟨a, rfl, rfl⟩
      · cases h; exact ⟨a, rfl, rfl⟩
    | _ => simp [merge] at h
  have blk2 : ∀ {i a}, merge (.block i a) = .skip → False := by
    intro i a h
    simp only [merge] at h
    split at h
    · split at h <;> cases h
    · cases h
  have blk3 : ∀ {i a x y}, merge (.block i a) = .seq x y → False := by
    intro i a x y h
    simp only [merge] at h
    split at h
    · split at h <;> cases h
    · cases h
  have blk4 : ∀ {i a c x y}, merge (.block i a) = .cond c x y → False := by
    intro i a c x y h
    simp only [merge] at h
    split at h
    · split at h <;> cases h
    · cases h
  have blk5 : ∀ {i a x}, merge (.block i a) = .loop x → False := by
    intro i a x h
    simp only [merge] at h
    split at h
    · split at h <;> cases h
    · cases h
  have blk6 : ∀ {i a x}, merge (.block i a) = .exit x → False := by
    intro i a x h
    simp only [merge] at h
    split at h
    · split at h <;> cases h
    · cases h
  have blk7 : ∀ {i a}, merge (.block i a) = .ret → False := by
    intro i a h
    simp only [merge] at h
    split at h
    · split at h <;> cases h
    · cases h
  intro c
  induction c with
  | skip =>
    intro fc h hc fr S K hv a w hat
    simp only [resCode, Option.some.injEq] at h
    cases fc with
    | skip => exact wp_skip ⟨fr, S, hat, hv⟩
    | block i b => exact (blk2 h.symm).elim
    | _ => simp [merge] at h
  | label l =>
    intro fc h hc fr S K hv a w hat
    simp only [resCode, Option.some.injEq] at h
    cases fc with
    | skip => exact wp_label ⟨fr, S, hat, hv⟩
    | block i b => exact (blk2 h.symm).elim
    | _ => simp [merge] at h
  | region id ops d =>
    intro fc h hc fr S K hv a w hat
    simp only [resCode] at h
    split at h
    · rename_i rs hrs
      split at h
      · rename_i hd
        subst hd
        split at h
        · rename_i hok
          simp only [Option.some.injEq] at h
          rcases merge_reg h.symm with rfl | ⟨b, rfl, hb, hps⟩
          · exact draw_wp hm hrs hok hv hat (fun fr' S' a' w' hk hat' => ⟨fr', S', hat', hk⟩)
          · simp [cutOK] at hc
        · cases h
      · rename_i hd
        have : d = false := by simpa using hd
        subst this
        simp only [Option.some.injEq] at h
        rcases merge_reg h.symm with rfl | ⟨b, rfl, hb, hps⟩
        · simp only [VC, okLog, true_and] at hv
          exact text_wp hrs hv hat (fun fr' S' a' w' hk hat' => ⟨fr', S', hat', hk⟩)
        · have hv2 : VC P S0 b fr S (Post.blk cutId K) := hv
          refine wp_region ?_
          have := cut_wp (P := P) (n := n) (ops := ops) (Q := QK g0 S0 n K) b rs hb ops.toList 0 fr S a w (fun j o hj => by rw [Nat.zero_add, ← Array.getElem?_toList]; exact hj) hrs hv2 hat (fun fr' S' a' w' hk hat' => ⟨fr', S', hat', hk⟩)
          rw [List.range_eq_range']
          simpa using this
    · cases h
  | seq x y ihx ihy =>
    intro fc h hc fr S K hv a w hat
    simp only [resCode] at h
    split at h
    · rename_i fx fy hx hy
      simp only [Option.some.injEq] at h
      cases fc with
      | seq x' y' =>
        simp only [merge, FC.seq.injEq] at h
        simp only [cutOK, Bool.and_eq_true] at hc
        refine wp_seq (wp_mono (ihx x' (by rw [hx, h.1]) hc.1 fr S _ hv a w hat) (fun e a' w' hq => ?_))
        obtain ⟨fr', S', hat', hk⟩ := hq
        cases e with
        | normal =>
          obtain ⟨F, T, hwk, hk⟩ := hk
          exact ihy y' (by rw [hy, h.2]) hc.2 F T K hk a' w' (hwk _ _ _ _ hat')
        | _ => exact ⟨fr', S', hat', hk⟩
      | block i b => exact (blk3 h.symm).elim
      | _ => simp [merge] at h
    · cases h
  | cond c x y ihx ihy =>
    intro fc h hc fr S K hv a w hat
    simp only [resCode] at h
    split at h
    · rename_i c' fx fy hcc hx hy
      simp only [Option.some.injEq] at h
      cases fc with
      | cond c2 x' y' =>
        simp only [merge, FC.cond.injEq] at h
        obtain ⟨rfl, h1, h2⟩ := h
        simp only [cutOK, Bool.and_eq_true] at hc
        simp only [VC] at hv
        obtain ⟨_, g, _, _, hf⟩ := id hat
        have hcv := rOpd_VR hf hcc
        generalize ev (Fr.get fr) c' = q at hv hcv
        cases q <;> try exact hv.elim
        rename_i t
        generalize hae : a.eval c = u at hcv
        cases hcv
        refine wp_cond_split hae (fun ht => ?_) (fun ht => ?_)
        · exact ihx x' (by rw [hx, h1]) hc.1 fr S K (hv.1 ht) a w hat
        · exact ihy y' (by rw [hy, h2]) hc.2 fr S K (hv.2 ht) a w hat
      | block i b => exact (blk4 h.symm).elim
      | _ => simp [merge] at h
    · cases h
  | block i x ihx =>
    intro fc h hc fr S K hv a w hat
    simp only [resCode] at h
    split at h
    · rename_i fx hx
      simp only [Option.some.injEq] at h
      obtain ⟨x', rfl, h1⟩ := noblk h
      simp only [cutOK] at hc
      refine wp_block (wp_mono (ihx x' (by rw [hx, h1]) hc fr S _ hv a w hat) (fun e a' w' hq => ?_))
      obtain ⟨fr', S', hat', hk⟩ := hq
      cases e with
      | exit j =>
        simp only [Exit.inBlock, Post.blk] at hk ⊢
        split
        · rename_i e; rw [if_pos e] at hk; exact ⟨fr', S', hat', hk⟩
        · rename_i e; rw [if_neg e] at hk; exact ⟨fr', S', hat', hk⟩
      | _ => exact ⟨fr', S', hat', hk⟩
    · cases h
  | loop x ihx =>
    intro fc h hc fr S K hv a w hat
    simp only [resCode] at h
    split at h
    · rename_i fx hx
      simp only [Option.some.injEq] at h
      cases fc with
      | loop x' =>
        simp only [merge, FC.loop.injEq] at h
        simp only [cutOK] at hc
        obtain ⟨ι, F, T, Pr, μ, i0, hp0, hwk, hrd⟩ := hv
        refine wp_loop_ix (fun i a w => Pr i ∧ At g0 (hp S0) n (Fr.get (F i)) (hp (T i)) a w) μ (fun i a w hI => ?_) (i0 := i0) ⟨hp0, hwk _ _ _ _ hat⟩
        refine wp_mono (ihx x' (by rw [hx, h]) hc (F i) (T i) _ (hrd i hI.1) a w hI.2) (fun e a' w' hq => ?_)
        obtain ⟨fr', S', hat', hk⟩ := hq
        cases e with
        | normal =>
          obtain ⟨i', h1, h2, h3⟩ := hk
          exact ⟨i', ⟨h1, h3 _ _ _ _ hat'⟩, h2⟩
        | _ => exact ⟨fr', S', hat', hk⟩
      | block i b => exact (blk5 h.symm).elim
      | _ => simp [merge] at h
    · cases h
  | exit i =>
    intro fc h hc fr S K hv a w hat
    simp only [resCode, Option.some.injEq] at h
    cases fc with
    | exit j => simp only [merge, FC.exit.injEq] at h; subst h; exact wp_exit ⟨fr, S, hat, hv⟩
    | block i b => exact (blk6 h.symm).elim
    | _ => simp [merge] at h
  | ret =>
    intro fc h hc fr S K hv a w hat
    simp only [resCode, Option.some.injEq] at h
    cases fc with
    | ret => exact wp_ret ⟨fr, S, hat, hv⟩
    | block i b => exact (blk7 h.symm).elim
    | _ => simp [merge] at h
  | _ => intro fc h; simp [resCode] at h

structure Fn3S (P : Program) (f : FuncId) (n : Nat) (ts : List RS) (fc : FC) : Prop where
  ex : ∃ fn c, P.funcs[f]? = some fn ∧ fn.body = some c ∧ fn.ntmps = n ∧ resSlots3 P fn.results.toList = some ts ∧ resCode P n c = some (merge fc) ∧ cutOK c fc = true

theorem Ev_endS {P : Program} {f n : Nat} {ts : List RS} {fc : FC} (hm : P.follows .mixedOrders = true) (hfn : Fn3S P f n ts fc) {args : List AV} (hn : args.length ≤ n) {S S' : List Ob} {r : AV} (ow : List Nat)
    (h : VT P S ow fc (initFr 0 args) S (fun e fr1 S1 => isRet e ∧ ∃ v R, retV3 S1 (Fr.get fr1) ts = some v ∧ GWk S S1 S' R ∧ R v r)) : Ev P f args (hp S) r (hp S') := by
  have hv := VT_VC (K' := fun e fr1 S1 => isRet e ∧ ∃ v R, retV3 S1 (Fr.get fr1) ts = some v ∧ GWk S S1 S' R ∧ R v r) (fun _ _ _ h => h) h
  intro g w vals hw hvs
  obtain ⟨fn, c, hf, hb, hnt, hrs, hrc, hok⟩ := hfn.ex
  have hvs1 := hvs.1
  refine calls_of_wp hf hb ?_
  have hat : At g (hp S) n (Fr.get (initFr 0 args)) (hp S) { tmps := vals ++ Array.replicate (fn.ntmps - vals.size) undef, defers := [] } w := by
    refine ⟨rfl, g, Gh.le.refl _ _, hw, ⟨by simp; omega, fun t => ?_⟩⟩
    rw [initFr_get]
    simp only [Nat.zero_le, if_true, Nat.sub_zero]
    by_cases ht : t < args.length
    · have := hvs.2 t ht (by omega)
      rw [List.getD_eq_getElem?_getD, List.getElem?_eq_getElem ht]
      rw [Array.getD_eq_getD_getElem?, Array.getElem?_append_left (by omega), Array.getElem?_eq_getElem (by omega)]
      exact this
    · rw [List.getD_eq_getElem?_getD, List.getElem?_eq_none (by omega)]
      exact .junk
  refine wp_mono (VC_wp2 hm c fc hrc hok _ _ _ hv _ _ hat) (fun e a' w' hq => ?_)
  obtain ⟨fr1, S1, ⟨hd, g1, hle1, hw1, hf1⟩, he, v, R, hret, hgw, hR⟩ := hq
  obtain ⟨u, hu, hvu⟩ := results_ok hw1 hf1 hrs hret
  obtain ⟨g2, hle2, hw2, hv2⟩ := hgw g g1 w' hle1 hw1
  have hfin : a'.defers = [] ∧ ∃ v, (results fn a'.tmps).run P w' = .ok v w' ∧ ∃ u g', Ending.returned v = .returned u ∧ g.le (hp S) g' (hp S') ∧ WRel g' (hp S') w' ∧ VR g'.pm g'.L (hp S') r u :=
    ⟨hd, u, hu, u, g2, rfl, hle2, hw2, hv2 _ _ _ hR hvu⟩
  cases e with
  | normal => exact hfin
  | ret => exact hfin
  | _ => exact he.elim

/-- A function without objects of its caller: what it returns is frozen. -/
theorem PureEv_endS {P : Program} {f n : Nat} {ts : List RS} {fc : FC} (hm : P.follows .mixedOrders = true) (hfn : Fn3S P f n ts fc) {args : List AV} (hn : args.length ≤ n) {r : AV} (ow : List Nat) (k : Nat)
    (h : VT P [] ow fc (initFr 0 args) [] (fun e fr S => isRet e ∧ ∃ v, retV3 S (Fr.get fr) ts = some v ∧ AVw (frz 0 S k v) r)) : PureEv P f args r := by
  have := Ev_endS (S := []) (S' := []) (r := r) hm hfn hn ow (VT_mono (K' := fun e fr1 S1 => isRet e ∧ ∃ v R, retV3 S1 (Fr.get fr1) ts = some v ∧ GWk [] S1 [] R ∧ R v r) (fun e fr S hk => ?_) h)
  · rw [hp_nil] at this; exact this
  · obtain ⟨he, v, h1, h2⟩ := hk
    refine ⟨he, v, _, h1, (gwk_frz 0 k (by simp)).trans GWk.refl, _, rfl, h2⟩

end Go.Ab
/- A call without a use of its answer; an own list as an argument, by what it is. -/
namespace Go.Ab
set_option linter.unusedVariables false
set_option linter.unusedSimpArgs false
open Go Go.RowKit

theorem Ev_rf {P : Program} {f : FuncId} {esh : Option Nat} {o ver off n sz : Nat} {r : AV} {σ σ' : Hp} (hsz : szOf esh = sz) (h0 : n = 0 → Ev P f [.nils] σ r σ') (h1 : n = 0 → Ev P f [.snn sz] σ r σ') (h2 : n ≠ 0 → Ev P f [.ref o ver off n esh] σ r σ') : Ev P f [.ref o ver off n esh] σ r σ' := by
  intro g w vals hw hv
  by_cases hx : n = 0
  · obtain ⟨v, rfl⟩ : ∃ v, vals = #[v] := by
      have := hv.1
      match vals, this with
      | ⟨[v]⟩, _ => exact ⟨v, rfl⟩
    have hr : VR g.pm g.L σ (.ref o ver off n esh) v := hv.2 0 (by simp) (by simp)
    subst hx
    cases hr with
    | @refnil _ _ _ _ a h =>
      cases a with
      | none => exact h0 rfl g w _ hw (VRs1 .nils)
      | some a => exact h1 rfl g w _ hw (VRs1 .snnz)
    | @ref _ _ _ _ _ a cap hn hs h =>
      obtain ⟨b, q, s⟩ := a
      obtain rfl : s = none := hs
      exact h1 rfl g w _ hw (VRs1 .snn)
  · exact h2 hx g w vals hw hv
/-- An error of the library's: nil, or something of type T. -/
def avE (T : TypeId) (b : Bool) : AV := if b then .iface T .junk else .nili
theorem avE_blw (T : TypeId) (b : Bool) (n : Nat) : (avE T b).blw n = true := by cases b <;> rfl
section
variable {P : Program} {S0 : List Ob} {ow : List Nat} {fr : Fr} {S : List Ob} {log : List LE}
theorem E_ine {d x y rs} {K : Fr → List Ob → List LE → Prop} {T : TypeId} {b : Bool} (e : ev (Fr.get fr) x = avE T b) (e1 : ev (Fr.get fr) y = .nili)
    (h : VTops P ow rs ((d, .bool (!b)) :: fr) S (.acc [] none :: log) K) : VTops P ow (⟨some d, none, .op (.bin .ifn .eql x y)⟩ :: rs) fr S log K := by
  refine E_op0 (v := .bool (!b)) ?_ rfl h
  simp only [opV, e, e1, avE]
  cases b <;> rfl
theorem E_inn {d x y rs} {K : Fr → List Ob → List LE → Prop} {T : TypeId} {b : Bool} (e : ev (Fr.get fr) x = avE T b) (e1 : ev (Fr.get fr) y = .nili)
    (h : VTops P ow rs ((d, .bool b) :: fr) S (.acc [] none :: log) K) : VTops P ow (⟨some d, none, .op (.bin .ifn .neq x y)⟩ :: rs) fr S log K := by
  refine E_op0 (v := .bool b) ?_ rfl h
  simp only [opV, e, e1, avE]
  cases b <;> rfl
theorem E_callW0 {f args rs} {K : Fr → List Ob → List LE → Prop} {as as' v} (c : PureEv P f as v) (e : evL (Fr.get fr) args = as') (hw : awL as' as) (h1 : blwL 0 as' = true) (h2 : v.blw 0 = true) (h : VTops P ow rs fr S (.eff S S :: log) K) :
    VTops P ow (⟨none, none, .call f args⟩ :: rs) fr S log K := by
  rw [VTops_call0, e]
  exact kCall_ev ((c.weaka (awL_len hw) (awL_get hw)).frame h1 h2 _) h
end
end Go.Ab
/- Plain lemmas of loops: for the laws of what functions compute. -/
namespace Go.Ab
set_option linter.unusedVariables false
set_option linter.unusedSimpArgs false

theorem getI_nat {α : Type} (l : List α) (i : Nat) : getI l (i : Int) = l[i]? := by unfold getI; rw [if_pos (by omega)]; simp
theorem getI_lt {α : Type} {l : List α} {i : Int} (h0 : 0 ≤ i) (h : i.toNat < l.length) : getI l i = some (l[i.toNat]) := by unfold getI; rw [if_pos h0, List.getElem?_eq_getElem h]
theorem I64_of {x : Int} (h : -9223372036854775808 ≤ x ∧ x ≤ 9223372036854775807) : I64 x = x := I64_id h
theorem U64_of {x : Int} (h : 0 ≤ x ∧ x ≤ 18446744073709551615) : U64 x = x := by
  show IntKind.u64.wrap x = x
  simp [IntKind.wrap, IntKind.bits, IntKind.signed]; omega
theorem U8_of {x : Int} (h : 0 ≤ x ∧ x ≤ 255) : U8 x = x := by
  show IntKind.u8.wrap x = x
  simp [IntKind.wrap, IntKind.bits, IntKind.signed]; omega
theorem I64_pred {i : Nat} (h0 : 0 < i) (h : i ≤ 4611686018427387904) : I64 ((i : Int) - 1) = ((i - 1 : Nat) : Int) := by rw [I64_of (by omega)]; omega

/-- The element ahead. -/
def prevOf {α : Type} (xs : List α) (i : Nat) : Option α := if i = 0 then none else xs[i - 1]?
def allP {α : Type} (ok : Option α → α → Bool) : Option α → List α → Bool
  | _, [] => true
  | p, x :: r => ok p x && allP ok (some x) r

theorem rangeL_allS {α σ ρ : Type} {xs : List α} {body : Nat → α → σ → Option (Stp σ ρ)} (st : Option α → σ) (ok : Option α → α → Bool) (v : ρ)
    (h : ∀ i x, xs[i]? = some x → body i x (st (prevOf xs i)) = some (if ok (prevOf xs i) x = true then .nxt (st (some x)) else .ret v)) :
    ∀ (m i : Nat), xs.length - i = m → i ≤ xs.length → rangeL body (xs.drop i) i (st (prevOf xs i)) = some (if allP ok (prevOf xs i) (xs.drop i) = true then .fin (st (prevOf xs xs.length)) else .ret v)
  | 0, i, hm, hi => by
    have : i = xs.length := by omega
    subst this
    simp [rangeL, allP]
  | m + 1, i, hm, hi => by
    have hlt : i < xs.length := by omega
    have hx : xs[i]? = some xs[i] := List.getElem?_eq_getElem hlt
    rw [List.drop_eq_getElem_cons hlt]
    simp only [rangeL, h i _ hx]
    by_cases hok : ok (prevOf xs i) xs[i] = true
    · rw [if_pos hok]
      have e : allP ok (prevOf xs i) (xs[i] :: xs.drop (i + 1)) = allP ok (some xs[i]) (xs.drop (i + 1)) := by simp [allP, hok]
      rw [e]
      have hp : prevOf xs (i + 1) = some xs[i] := by unfold prevOf; rw [if_neg (by omega)]; simp [hlt]
      simp only [← hp]
      exact rangeL_allS st ok v h m (i + 1) (by omega) (by omega)
    · rw [if_neg hok]
      have e : allP ok (prevOf xs i) (xs[i] :: xs.drop (i + 1)) = false := by simp [allP, hok]
      rw [e]; rfl

theorem rng_allS {α σ ρ : Type} {xs : List α} {body : Nat → α → σ → Option (Stp σ ρ)} (st : Option α → σ) (ok : Option α → α → Bool) (v : ρ) (hl : xs.length ≤ 4611686018427387904)
    (h : ∀ i x, xs[i]? = some x → body i x (st (prevOf xs i)) = some (if ok (prevOf xs i) x = true then .nxt (st (some x)) else .ret v)) :
    rng body xs (st none) = some (if allP ok none xs = true then .fin (st (prevOf xs xs.length)) else .ret v) := by
  unfold rng
  rw [if_pos hl]
  have := rangeL_allS st ok v h xs.length 0 (by omega) (by omega)
  simpa [prevOf] using this

theorem rng_allS' {α σ ρ : Type} {xs : List α} {body : Nat → α → σ → Option (Stp σ ρ)} {s0 : σ} (st : Option α → σ) (ok : Option α → α → Bool) (v : ρ) (hl : xs.length ≤ 4611686018427387904) (h0 : s0 = st none)
    (h : ∀ i x, xs[i]? = some x → body i x (st (prevOf xs i)) = some (if ok (prevOf xs i) x = true then .nxt (st (some x)) else .ret v)) :
    rng body xs s0 = some (if allP ok none xs = true then .fin (st (prevOf xs xs.length)) else .ret v) := by rw [h0]; exact rng_allS st ok v hl h

theorem allP_congr {α : Type} {ok ok' : Option α → α → Bool} (inv : Option α → Prop) (h : ∀ p x, inv p → ok p x = ok' p x ∧ (ok' p x = true → inv (some x))) : ∀ (xs : List α) (p : Option α), inv p → allP ok p xs = allP ok' p xs
  | [], _, _ => rfl
  | x :: r, p, hp => by
    obtain ⟨h1, h2⟩ := h p x hp
    simp only [allP, h1]
    cases e : ok' p x with
    | false => rfl
    | true => rw [allP_congr inv h r (some x) (h2 e)]

/-- The first one of which it holds. -/
def firstI {α : Type} (p : α → Bool) : Nat → List α → Option Nat
  | _, [] => none
  | i, x :: r => if p x = true then some i else firstI p (i + 1) r

theorem rangeL_find {α σ ρ : Type} {xs : List α} {body : Nat → α → σ → Option (Stp σ ρ)} (s : σ) (p : α → Bool) (v : Nat → ρ)
    (h : ∀ i x, xs[i]? = some x → body i x s = some (if p x = true then .ret (v i) else .nxt s)) :
    ∀ (m i : Nat), xs.length - i = m → i ≤ xs.length → rangeL body (xs.drop i) i s = some (match firstI p i (xs.drop i) with | some k => .ret (v k) | none => .fin s)
  | 0, i, hm, hi => by
    rw [List.drop_eq_nil_of_le (by omega)]; rfl
  | m + 1, i, hm, hi => by
    have hlt : i < xs.length := by omega
    rw [List.drop_eq_getElem_cons hlt]
    simp only [rangeL, h i _ (List.getElem?_eq_getElem hlt), firstI]
    by_cases hp : p xs[i] = true
    · rw [if_pos hp, if_pos hp]
    · rw [if_neg hp, if_neg hp]
      exact rangeL_find s p v h m (i + 1) (by omega) (by omega)
theorem rng_find {α σ ρ : Type} {xs : List α} {body : Nat → α → σ → Option (Stp σ ρ)} (s : σ) (p : α → Bool) (v : Nat → ρ) (hl : xs.length ≤ 4611686018427387904)
    (h : ∀ i x, xs[i]? = some x → body i x s = some (if p x = true then .ret (v i) else .nxt s)) :
    rng body xs s = some (match firstI p 0 xs with | some k => .ret (v k) | none => .fin s) := by
  unfold rng
  rw [if_pos hl]
  exact rangeL_find s p v h xs.length 0 (by omega) (by omega)

theorem firstI_some {α : Type} {p : α → Bool} : ∀ {xs : List α} {i k : Nat}, firstI p i xs = some k → i ≤ k ∧ ∃ x, xs[k - i]? = some x ∧ p x = true ∧ ∀ j y, j < k - i → xs[j]? = some y → p y = false
  | [], i, k, h => by simp [firstI] at h
  | x :: r, i, k, h => by
    simp only [firstI] at h
    split at h
    · rename_i hp
      cases h
      exact ⟨Nat.le_refl _, x, by simp, hp, fun j y hj => by omega⟩
    · rename_i hp
      obtain ⟨h1, y, h2, h3, h4⟩ := firstI_some h
      refine ⟨by omega, y, ?_, h3, fun j z hj hz => ?_⟩
      · rw [show k - i = (k - (i + 1)) + 1 by omega]; simpa using h2
      · cases j with
        | zero => simp at hz; subst hz; simpa using hp
        | succ j => exact h4 j z (by omega) (by simpa using hz)
theorem firstI_none {α : Type} {p : α → Bool} : ∀ {xs : List α} {i : Nat}, firstI p i xs = none → ∀ x ∈ xs, p x = false
  | [], _, _, x, hx => by simp at hx
  | y :: r, i, h, x, hx => by
    simp only [firstI] at h
    split at h
    · cases h
    · rename_i hp
      rcases List.mem_cons.1 hx with rfl | hx
      · simpa using hp
      · exact firstI_none h x hx
theorem firstI_of {α : Type} {p : α → Bool} {xs : List α} {k : Nat} {x : α} (h : xs[k]? = some x) (hp : p x = true) (hb : ∀ j y, j < k → xs[j]? = some y → p y = false) : firstI p 0 xs = some k := by
  cases e : firstI p 0 xs with
  | none => have := firstI_none e x (List.mem_of_getElem? h); rw [hp] at this; cases this
  | some m =>
    obtain ⟨_, y, h2, h3, h4⟩ := firstI_some e
    rw [Nat.sub_zero] at h2 h4
    rcases Nat.lt_trichotomy m k with hm | hm | hm
    · have := hb m y hm h2; rw [h3] at this; cases this
    · rw [hm]
    · have := h4 k x hm h; rw [hp] at this; cases this

/-- A loop over numbers that looks into a list is one over the list. -/
theorem rni_rng {α σ ρ : Type} (body : Nat → α → σ → Option (Stp σ ρ)) (xs : List α) (s : σ) : rni (fun i s => xs[i]?.bind fun x => body i x s) xs.length s = rng body xs s := (rng_rni body xs s).symm

theorem whileN_step {σ ρ : Type} {body : σ → Option (Stp σ ρ)} {n : Nat} {s s' : σ} (h : body s = some (.nxt s')) : whileN body (n + 1) s = whileN body n s' := by simp only [whileN, h]
theorem whileN_brk {σ ρ : Type} {body : σ → Option (Stp σ ρ)} {n : Nat} {s s' : σ} (h : body s = some (.brk s')) : whileN body (n + 1) s = some (.fin s') := by simp only [whileN, h]
theorem whileN_ret {σ ρ : Type} {body : σ → Option (Stp σ ρ)} {n : Nat} {s : σ} {v : ρ} (h : body s = some (.ret v)) : whileN body (n + 1) s = some (.ret v) := by simp only [whileN, h]
/-- A loop with something that falls. -/
theorem whileN_of {σ ρ : Type} {body : σ → Option (Stp σ ρ)} (Inv : σ → Prop) (μ : σ → Nat) (res : σ → Out σ ρ)
    (h : ∀ s, Inv s → (∃ s', body s = some (.nxt s') ∧ Inv s' ∧ μ s' < μ s ∧ res s' = res s) ∨ (∃ s', body s = some (.brk s') ∧ res s = .fin s') ∨ (∃ v, body s = some (.ret v) ∧ res s = .ret v)) :
    ∀ (n : Nat) (s : σ), Inv s → μ s < n → whileN body n s = some (res s)
  | 0, s, _, hn => by omega
  | n + 1, s, hi, hn => by
    rcases h s hi with ⟨s', h1, h2, h3, h4⟩ | ⟨s', h1, h2⟩ | ⟨v, h1, h2⟩
    · rw [whileN_step h1, whileN_of Inv μ res h n s' h2 (by omega), h4]
    · rw [whileN_brk h1, h2]
    · rw [whileN_ret h1, h2]

/-! ### halving -/
def bs (c : Nat → Int) (i j : Nat) : Nat :=
  if h : i < j then (if c ((i + j) / 2) < 0 then bs c ((i + j) / 2 + 1) j else bs c i ((i + j) / 2)) else i
termination_by j - i
decreasing_by all_goals omega
theorem bs_eq (c : Nat → Int) (i j : Nat) (h : i < j) : bs c i j = if c ((i + j) / 2) < 0 then bs c ((i + j) / 2 + 1) j else bs c i ((i + j) / 2) := by
  rw [bs]; simp [h]
theorem bs_end (c : Nat → Int) (i j : Nat) (h : ¬ i < j) : bs c i j = i := by rw [bs]; simp [h]
theorem bs_at (c : Nat → Int) (p : Nat) : ∀ (d i j : Nat), j - i = d → i ≤ p → p ≤ j → (∀ k, i ≤ k → k < p → c k < 0) → (∀ k, p ≤ k → k < j → ¬ c k < 0) → bs c i j = p := by
  intro d
  induction d using Nat.strongRecOn with
  | _ d ih =>
    intro i j hd h1 h2 lo hi
    by_cases hlt : i < j
    · rw [bs_eq c i j hlt]
      by_cases hc : c ((i + j) / 2) < 0
      · rw [if_pos hc]
        have : (i + j) / 2 < p := by
          rcases Nat.lt_or_ge ((i + j) / 2) p with h | h
          · exact h
          · exact (hi _ h (by omega) hc).elim
        exact ih (j - ((i + j) / 2 + 1)) (by omega) _ _ rfl (by omega) h2 (fun k a b => lo k (by omega) b) hi
      · rw [if_neg hc]
        have : p ≤ (i + j) / 2 := by
          rcases Nat.lt_or_ge ((i + j) / 2) p with h | h
          · exact (hc (lo _ (by omega) h)).elim
          · exact h
        exact ih ((i + j) / 2 - i) (by omega) _ _ rfl h1 this lo (fun k a b => hi k a (by omega))
    · rw [bs_end _ _ _ hlt]; omega
theorem half_eq {i j : Nat} (h : i ≤ 1048576) (h' : j ≤ 1048576) : I64 (shR .u64 (U64 (I64 ((i : Int) + j))) 1) = ((i + j) / 2 : Nat) := by
  have a : I64 ((i : Int) + j) = i + j := I64_of (by omega)
  have b : U64 ((i : Int) + j) = i + j := U64_of (by omega)
  have d : shR .u64 ((i : Int) + j) 1 = ((i + j) / 2 : Nat) := by
    show ((i : Int) + j).fdiv (2 ^ min (Int.toNat 1) IntKind.u64.bits) = _
    rw [show (2 : Int) ^ min (Int.toNat 1) IntKind.u64.bits = 2 from rfl, Int.fdiv_eq_ediv_of_nonneg _ (by omega)]; omega
  rw [a, b, d, I64_of (by omega)]
end Go.Ab
/- Plain laws of loops and texts, for any law. -/
namespace Go.Ab
set_option linter.unusedVariables false
set_option linter.unusedSimpArgs false
open Go Go.RowKit
set_option linter.unusedVariables false
set_option linter.unusedSimpArgs false

theorem rangeL_inv {α σ ρ : Type} {body : Nat → α → σ → Option (Stp σ ρ)} (ok : α → Bool) (v : ρ) (Inv : Nat → σ → Prop) : ∀ (xs : List α) (k : Nat) (s : σ), Inv k s →
    (∀ i x s, xs[i]? = some x → Inv (k + i) s → if ok x = true then ∃ s', body (k + i) x s = some (.nxt s') ∧ Inv (k + i + 1) s' else body (k + i) x s = some (.ret v)) →
    if xs.all ok = true then ∃ s', rangeL body xs k s = some (.fin s') ∧ Inv (k + xs.length) s' else rangeL body xs k s = some (.ret v)
  | [], k, s, hi, h => by simp only [List.all_nil, if_true, rangeL]; exact ⟨s, rfl, by simpa using hi⟩
  | x :: r, k, s, hi, h => by
    have h0 := h 0 x s rfl hi
    cases hx : ok x with
    | false =>
      rw [hx] at h0
      simp only [Nat.add_zero, Bool.false_eq_true, if_false] at h0
      simp only [List.all_cons, hx, Bool.false_and, Bool.false_eq_true, if_false, rangeL, h0]
    | true =>
      rw [hx] at h0
      simp only [Nat.add_zero, if_true] at h0
      obtain ⟨s', e1, e2⟩ := h0
      have := rangeL_inv ok v Inv r (k + 1) s' e2 (fun i y s hy hs => by
        have := h (i + 1) y s (by simpa using hy) (by rwa [show k + (i + 1) = k + 1 + i by omega])
        rwa [show k + (i + 1) = k + 1 + i by omega] at this)
      simp only [List.all_cons, hx, Bool.true_and, rangeL, e1, List.length_cons]
      rw [show k + (r.length + 1) = k + 1 + r.length by omega]
      exact this
theorem rng_inv {α σ ρ : Type} {body : Nat → α → σ → Option (Stp σ ρ)} {xs : List α} {s0 : σ} (ok : α → Bool) (v : ρ) (Inv : Nat → σ → Prop) (hl : xs.length ≤ 4611686018427387904) (h0 : Inv 0 s0)
    (h : ∀ i x s, xs[i]? = some x → Inv i s → if ok x = true then ∃ s', body i x s = some (.nxt s') ∧ Inv (i + 1) s' else body i x s = some (.ret v)) :
    if xs.all ok = true then ∃ s', rng body xs s0 = some (.fin s') ∧ Inv xs.length s' else rng body xs s0 = some (.ret v) := by
  unfold rng
  rw [if_pos hl]
  have := rangeL_inv ok v Inv xs 0 s0 h0 (fun i x s hx hs => by simpa using h i x s hx (by simpa using hs))
  simpa using this
theorem rangeN_inv {σ ρ : Type} {body : Nat → σ → Option (Stp σ ρ)} (Inv : Nat → σ → Prop) : ∀ (n k : Nat) (s : σ), Inv k s →
    (∀ i s, k ≤ i → i < k + n → Inv i s → ∃ s', body i s = some (.nxt s') ∧ Inv (i + 1) s') → ∃ s', rangeN body n k s = some (.fin s') ∧ Inv (k + n) s'
  | 0, k, s, hi, h => ⟨s, rfl, hi⟩
  | n + 1, k, s, hi, h => by
    obtain ⟨s', e1, e2⟩ := h k s (by omega) (by omega) hi
    obtain ⟨s2, e3, e4⟩ := rangeN_inv Inv n (k + 1) s' e2 (fun i s a b c => h i s (by omega) (by omega) c)
    exact ⟨s2, by simp only [rangeN, e1, e3], by rwa [show k + (n + 1) = k + 1 + n by omega]⟩
theorem rni_inv {σ ρ : Type} {body : Nat → σ → Option (Stp σ ρ)} {n : Int} {s0 : σ} (Inv : Nat → σ → Prop) (hn : n ≤ 4611686018427387904) (h0 : Inv 0 s0)
    (h : ∀ (i : Nat) s, (i : Int) < n → Inv i s → ∃ s', body i s = some (.nxt s') ∧ Inv (i + 1) s') : ∃ s', rni body n s0 = some (.fin s') ∧ Inv n.toNat s' := by
  unfold rni
  rw [if_pos hn]
  obtain ⟨s', a, b⟩ := rangeN_inv (body := body) Inv n.toNat 0 s0 h0 (fun i s _ hi hs => h i s (by omega) hs)
  exact ⟨s', a, by simpa using b⟩
theorem appL_of {α : Type} {b : Nat} {l m : List α} (h : (l.length + m.length) * b ≤ 140737488355328 ∧ l.length + m.length ≤ 140737488355328) : appL b l m = some (l ++ m) := if_pos h
theorem appL1 {l m : List Int} (h : l.length + m.length ≤ 140737488355328) : appL 1 l m = some (l ++ m) := appL_of (by omega)

/-! ### loops that may end in more than one way -/
theorem whileN_ex {σ ρ : Type} {body : σ → Option (Stp σ ρ)} (Inv : σ → Prop) (μ : σ → Nat) (Q : Out σ ρ → Prop)
    (h : ∀ s, Inv s → (∃ s', body s = some (.nxt s') ∧ Inv s' ∧ μ s' < μ s) ∨ (∃ s', body s = some (.brk s') ∧ Q (.fin s')) ∨ (∃ v, body s = some (.ret v) ∧ Q (.ret v))) :
    ∀ (n : Nat) (s : σ), Inv s → μ s < n → ∃ o, whileN body n s = some o ∧ Q o
  | 0, s, _, hn => by omega
  | n + 1, s, hi, hn => by
    rcases h s hi with ⟨s', h1, h2, h3⟩ | ⟨s', h1, h2⟩ | ⟨v, h1, h2⟩
    · rw [whileN_step h1]; exact whileN_ex Inv μ Q h n s' h2 (by omega)
    · rw [whileN_brk h1]; exact ⟨_, rfl, h2⟩
    · rw [whileN_ret h1]; exact ⟨_, rfl, h2⟩
theorem rangeL_ex {α σ ρ : Type} {body : Nat → α → σ → Option (Stp σ ρ)} (Inv : Nat → σ → Prop) (Q : Out σ ρ → Prop) : ∀ (xs : List α) (k : Nat) (s : σ), Inv k s →
    (∀ i x s, xs[i]? = some x → Inv (k + i) s → (∃ s', body (k + i) x s = some (.nxt s') ∧ Inv (k + i + 1) s') ∨ ∃ v, body (k + i) x s = some (.ret v) ∧ Q (.ret v)) →
    (∀ s, Inv (k + xs.length) s → Q (.fin s)) → ∃ o, rangeL body xs k s = some o ∧ Q o
  | [], k, s, hi, h, hQ => ⟨_, rfl, hQ s (by simpa using hi)⟩
  | x :: r, k, s, hi, h, hQ => by
    rcases h 0 x s rfl (by simpa using hi) with ⟨s', e1, e2⟩ | ⟨v, e1, e2⟩
    · simp only [Nat.add_zero] at e1 e2
      simp only [rangeL, e1]
      refine rangeL_ex Inv Q r (k + 1) s' e2 (fun i y s hy hs => ?_) (fun s hs => hQ s (by rw [List.length_cons]; rwa [show k + (r.length + 1) = k + 1 + r.length by omega]))
      have := h (i + 1) y s (by simpa using hy) (by rwa [show k + (i + 1) = k + 1 + i by omega])
      rwa [show k + (i + 1) = k + 1 + i by omega] at this
    · simp only [Nat.add_zero] at e1
      simp only [rangeL, e1]
      exact ⟨_, rfl, e2⟩
theorem rng_ex {α σ ρ : Type} {body : Nat → α → σ → Option (Stp σ ρ)} {xs : List α} {s0 : σ} (Inv : Nat → σ → Prop) (Q : Out σ ρ → Prop) (hl : xs.length ≤ 4611686018427387904) (h0 : Inv 0 s0)
    (h : ∀ i x s, xs[i]? = some x → Inv i s → (∃ s', body i x s = some (.nxt s') ∧ Inv (i + 1) s') ∨ ∃ v, body i x s = some (.ret v) ∧ Q (.ret v)) (hQ : ∀ s, Inv xs.length s → Q (.fin s)) : ∃ o, rng body xs s0 = some o ∧ Q o := by
  unfold rng
  rw [if_pos hl]
  exact rangeL_ex Inv Q xs 0 s0 h0 (fun i x s hx hs => by simpa using h i x s hx (by simpa using hs)) (fun s hs => hQ s (by simpa using hs))
theorem rangeN_ex {σ ρ : Type} {body : Nat → σ → Option (Stp σ ρ)} (Inv : Nat → σ → Prop) (Q : Out σ ρ → Prop) : ∀ (n k : Nat) (s : σ), Inv k s →
    (∀ i s, k ≤ i → i < k + n → Inv i s → (∃ s', body i s = some (.nxt s') ∧ Inv (i + 1) s') ∨ ∃ v, body i s = some (.ret v) ∧ Q (.ret v)) →
    (∀ s, Inv (k + n) s → Q (.fin s)) → ∃ o, rangeN body n k s = some o ∧ Q o
  | 0, k, s, hi, h, hQ => ⟨_, rfl, hQ s hi⟩
  | n + 1, k, s, hi, h, hQ => by
    rcases h k s (by omega) (by omega) hi with ⟨s', e1, e2⟩ | ⟨v, e1, e2⟩
    · simp only [rangeN, e1]
      exact rangeN_ex Inv Q n (k + 1) s' e2 (fun i s a b c => h i s (by omega) (by omega) c) (fun s hs => hQ s (by rwa [show k + (n + 1) = k + 1 + n by omega]))
    · simp only [rangeN, e1]
      exact ⟨_, rfl, e2⟩
theorem rni_ex {σ ρ : Type} {body : Nat → σ → Option (Stp σ ρ)} {n : Int} {s0 : σ} (Inv : Nat → σ → Prop) (Q : Out σ ρ → Prop) (hn : n ≤ 4611686018427387904) (h0 : Inv 0 s0)
    (h : ∀ (i : Nat) s, (i : Int) < n → Inv i s → (∃ s', body i s = some (.nxt s') ∧ Inv (i + 1) s') ∨ ∃ v, body i s = some (.ret v) ∧ Q (.ret v)) (hQ : ∀ s, Inv n.toNat s → Q (.fin s)) : ∃ o, rni body n s0 = some o ∧ Q o := by
  unfold rni
  rw [if_pos hn]
  exact rangeN_ex Inv Q n.toNat 0 s0 h0 (fun i s _ hi hs => h i s (by omega) hs) (fun s hs => hQ s (by simpa using hs))

theorem toList_loop (bs : ByteArray) : ∀ (d i : Nat) (r : List UInt8), bs.size - i = d → ByteArray.toList.loop bs i r = r.reverse ++ bs.data.toList.drop i
  | 0, i, r, h => by
    rw [ByteArray.toList.loop.eq_1, if_neg (by omega)]
    rw [List.drop_eq_nil_of_le (by have : bs.data.toList.length = bs.size := by rw [Array.length_toList]; rfl
                                   omega)]
    simp
  | d + 1, i, r, h => by
    have hlt : i < bs.data.toList.length := by
      have : bs.data.toList.length = bs.size := by rw [Array.length_toList]; rfl
      omega
    rw [ByteArray.toList.loop.eq_1, if_pos (by omega), toList_loop bs d (i + 1) _ (by omega)]
    rw [List.drop_eq_getElem_cons hlt]
    have : bs.get! i = bs.data.toList[i] := by
      simp only [ByteArray.get!]
      rw [getElem!_pos bs.data i (by simpa using hlt)]
      simp
    rw [this]
    simp
theorem toList_data (bs : ByteArray) : bs.toList = bs.data.toList := by
  rw [ByteArray.toList.eq_1, toList_loop bs _ 0 [] rfl]; simp
theorem eqS (a b : ByteArray) : (ByteArray.toList a == ByteArray.toList b) = decide (a = b) := by
  rw [toList_data, toList_data]
  by_cases h : a = b
  · subst h; simp
  · rw [decide_eq_false h]
    rw [beq_eq_false_iff_ne]
    intro e
    apply h
    cases a; cases b
    simp only [ByteArray.mk.injEq]
    simp only at e
    exact Array.toList_inj.1 e
theorem jp_gen {σ β : Type} {K : σ → Option β} {f : (σ → Option β) → Option β} {r : Option β} (P : (σ → Option β) → Prop) (h1 : P K) (h2 : ∀ K, P K → f K = r) : jp K f = r := h2 K h1
theorem jp_ite {σ β : Type} (c : Bool) (a b : σ) (K : σ → Option β) : jp K (fun k => if c = true then k a else k b) = K (if c = true then a else b) := by unfold jp; cases c <;> rfl
theorem bind_eq {α β : Type} {x : Option α} {F : α → Option β} {r : β} (h : ∃ o, x = some o ∧ F o = some r) : x.bind F = some r := by
  obtain ⟨o, rfl, h⟩ := h
  exact h
end Go.Ab
/- From a reading of arguments to native values. -/
namespace Go.Ab
open Go.RowKit
set_option linter.unusedVariables false
set_option linter.unusedSimpArgs false
variable {P : Program} {N : Nat}

def Rd (P : Program) (N : Nat) {α : Type} (f : α → AV) (Q : α → Prop) (t : TypeId) : Prop := ∀ avs, Ty P N t avs → ∃ a, avs = (f a).cells ∧ Q a

theorem rdI {t k} (h : P.underlying t = some (.int k)) : Rd P N (avI k) (fun n => (Lit.int k n).wf = true) t := by
  intro avs ht
  cases ht with
  | bool h' => rw [h] at h'; cases h'
  | int h' hw => rw [h] at h'; cases h'; exact ⟨_, rfl, hw⟩
  | str h' => rw [h] at h'; cases h'
  | sl h' => rw [h] at h'; cases h'
  | struct h' => rw [h] at h'; cases h'
theorem rdB {t} (h : P.underlying t = some .bool) : Rd P N avB (fun _ => True) t := by
  intro avs ht
  cases ht with
  | bool h' => exact ⟨_, rfl, trivial⟩
  | int h' => rw [h] at h'; cases h'
  | str h' => rw [h] at h'; cases h'
  | sl h' => rw [h] at h'; cases h'
  | struct h' => rw [h] at h'; cases h'
theorem rdS {t} (h : P.underlying t = some .string) : Rd P N avS (fun s => s.size ≤ N) t := by
  intro avs ht
  cases ht with
  | bool h' => rw [h] at h'; cases h'
  | int h' => rw [h] at h'; cases h'
  | str h' hs => exact ⟨_, rfl, hs⟩
  | sl h' => rw [h] at h'; cases h'
  | struct h' => rw [h] at h'; cases h'

/-- Is it a struct, and so laid? -/
def Form (P : Program) (e : TypeId) (esh : Option Nat) : Prop := match esh with | some _ => ∃ fs, P.underlying e = some (.struct fs) | none => ∀ fs, P.underlying e ≠ some (.struct fs)

theorem form_eq {α : Type} {f : α → AV} {esh : Option Nat} {e : TypeId} (he : Enc f esh) (hf : Form P e esh) {x : AV} {a : α} (hc : x.cells = (f a).cells)
    (hx : ((∃ fs, P.underlying e = some (.struct fs)) ∧ ∃ cs, x = .agg cs) ∨ ((∀ fs, P.underlying e ≠ some (.struct fs)) ∧ x.cells = [x])) : x = f a := by
  have h := he.form a
  cases esh with
  | none =>
    rcases hx with ⟨⟨fs, h1⟩, _⟩ | ⟨_, h1⟩
    · exact (hf fs h1).elim
    · rw [h1] at hc
      have h2 : (f a).cells = [f a] := h
      rw [h2] at hc
      exact (List.cons.inj hc).1
  | some n =>
    have h2 : f a = .agg (f a).cells := h
    rcases hx with ⟨_, cs, rfl⟩ | ⟨h1, _⟩
    · rw [h2, ← hc]; rfl
    · obtain ⟨fs, h3⟩ := hf
      exact (h1 fs h3).elim

theorem rdL {α : Type} {f : α → AV} {Q : α → Prop} {esh : Option Nat} {t e : TypeId} (he : Enc f esh) (hf : Form P e esh) (h : P.underlying t = some (.slice e)) {sz : Nat} (hc : P.cellsOf e = sz) (hr : Rd P N f Q e) : Rd P N (avL sz f) (fun l => l.length ≤ N ∧ ∀ a ∈ l, Q a) t := by
  intro avs ht
  cases ht with
  | bool h' => rw [h] at h'; cases h'
  | int h' => rw [h] at h'; cases h'
  | str h' => rw [h] at h'; cases h'
  | struct h' => rw [h] at h'; cases h'
  | sl h' hl hx ha =>
    rename_i e' xs
    rw [h] at h'; cases h'
    have key : ∀ y ∈ xs, ∃ a, y = f a ∧ Q a := fun y hy => by
      obtain ⟨a, h1, h2⟩ := hr _ (hx y hy)
      exact ⟨a, form_eq he hf h1 (ha y hy), h2⟩
    obtain ⟨l, rfl, hq⟩ := exists_map key
    refine ⟨l, ?_, by simpa using hl, hq⟩
    rw [hc]; rfl

theorem ty_struct {t fs avs} (h : P.underlying t = some (.struct fs)) (ht : Ty P N t avs) : avs.length = P.cellsOf t ∧ ∀ (i : Nat) (f : Field), fs[i]? = some f → Ty P N f.type ((avs.drop f.offset).take (P.cellsOf f.type)) := by
  cases ht with
  | bool h' => rw [h] at h'; cases h'
  | int h' => rw [h] at h'; cases h'
  | str h' => rw [h] at h'; cases h'
  | sl h' => rw [h] at h'; cases h'
  | struct h' hl hf => rw [h] at h'; cases h'; exact ⟨hl, hf⟩
theorem st_cons {cs xs rest : List AV} {o s : Nat} (h : (cs.drop o).take s = xs) (k : cs.drop (o + s) = rest) : cs.drop o = xs ++ rest := by
  rw [← h, ← k, ← List.drop_drop, List.take_append_drop]
theorem st_nil {cs : List AV} {n : Nat} (h : cs.length = n) : cs.drop n = [] := List.drop_eq_nil_of_le (by omega)

theorem arg_rd {α : Type} {f : α → AV} {Q : α → Prop} {esh : Option Nat} {t : TypeId} (he : Enc f esh) (hf : Form P t esh) (hr : Rd P N f Q t) {x : AV} (h : Arg P N t x) : ∃ a, x = f a ∧ Q a := by
  obtain ⟨a, h1, h2⟩ := hr _ h.1
  exact ⟨a, form_eq he hf h1 h.2, h2⟩
end Go.Ab
/- A list whose last element's list is an object of its own. -/
namespace Go.Ab
set_option linter.unusedVariables false
set_option linter.unusedSimpArgs false
open Go Go.RowKit
section
variable {α β : Type} {f : α → AV} {esh : Option Nat}
/-- The cells: in the last element the j-th cell is r. -/
def fk (f : α → AV) (j : Nat) (r : α → AV) : List α → List AV
  | [] => []
  | [x] => (f x).cells.set j (r x)
  | x :: y :: l => (f x).cells ++ fk f j r (y :: l)
theorem fk_snoc {j : Nat} {r : α → AV} : ∀ (l : List α) (x : α), fk f j r (l ++ [x]) = flat f l ++ (f x).cells.set j (r x)
  | [], x => rfl
  | [y], x => by simp [fk, flat]
  | y :: z :: l, x => by
    have := fk_snoc (j := j) (r := r) (z :: l) x
    show (f y).cells ++ fk f j r (z :: l ++ [x]) = flat f (y :: z :: l) ++ _
    rw [this, flat_cons, flat_cons, flat_cons]; simp only [List.append_assoc]
theorem snoc_of (xs : List α) : xs = [] ∨ ∃ l x, xs = l ++ [x] := by
  rcases List.eq_nil_or_concat xs with h | ⟨l, x, h⟩
  · exact .inl h
  · exact .inr ⟨l, x, by rw [h]; simp⟩
theorem fk_len (he : Enc f esh) {j : Nat} {r : α → AV} (xs : List α) : (fk f j r xs).length = xs.length * szOf esh := by
  rcases snoc_of xs with rfl | ⟨l, x, rfl⟩
  · simp [fk]
  · rw [fk_snoc, List.length_append, List.length_set, he.length, he.sz]
    simp [Nat.add_mul]
def lastL (L : α → List β) (xs : List α) : List β := match xs.getLast? with | some x => L x | none => []
theorem lastL_snoc {L : α → List β} {l : List α} {x : α} : lastL L (l ++ [x]) = L x := by simp [lastL]
theorem lastL_nil {L : α → List β} : lastL L [] = [] := rfl
theorem RnL.set {R : Rn} {cs : List AV} {j : Nat} {u v : AV} (hb : blwL 0 cs = true) (h : RnV R u v) : RnL R 0 (cs.set j u) (cs.set j v) := by
  refine ⟨by simp, fun i h1 h2 => ?_⟩
  simp only [Nat.zero_add] at h1 ⊢
  simp only [List.getElem_set]
  by_cases hj : j = i
  · simp only [hj, if_true]; exact h
  · simp only [hj, if_false]; exact .base (blwL_get hb i (by simpa using h1)) (.refl _)
theorem rnl_fk {R : Rn} (he : Enc f esh) {j : Nat} {r r' : α → AV} {xs : List α} (h : ∀ l x, xs = l ++ [x] → RnV R (r x) (r' x)) : RnL R 0 (fk f j r xs) (fk f j r' xs) := by
  rcases snoc_of xs with rfl | ⟨l, x, rfl⟩
  · exact .nil (Nat.zero_le _)
  · rw [fk_snoc, fk_snoc]
    exact .app rfl (.refl (he.blwf 0 _)) (.set (cells_below (he.blw x 0)) (h l x rfl))
/-- A new last element comes, whose list is nil. -/
theorem rnl_push {R : Rn} (he : Enc f esh) {j : Nat} {r' : α → AV} {xs : List α} {y : α} (h : RnV R .nils (r' y)) : RnL R 0 (flat f xs ++ (f y).cells.set j .nils) (fk f j r' (xs ++ [y])) := by
  rw [fk_snoc]
  exact .app (by simp) (.refl (he.blwf 0 _)) (.set (cells_below (he.blw y 0)) h)
theorem rnl_write {R : Rn} (he : Enc f esh) {j : Nat} {r' : α → AV} {l : List α} {x y : α} {u : AV} (hs : ∀ v, (f x).cells.set j v = (f y).cells.set j v) (h : RnV R u (r' y)) : RnL R 0 (flat f l ++ (f x).cells.set j u) (fk f j r' (l ++ [y])) := by
  rw [fk_snoc, hs]
  exact .app (by simp) (.refl (he.blwf 0 _)) (.set (cells_below (he.blw y 0)) h)
theorem fk_part (he : Enc f esh) {j : Nat} {r : α → AV} {l : List α} {x : α} {p : Nat} (hj : j < szOf esh) (hp : p = l.length * szOf esh + j) : vPart none (fk f j r (l ++ [x])) p = some (r x) := by
  have h1 : (flat f l).length = l.length * szOf esh := he.length l
  have h2 : ((f x).cells.set j (r x)).length = szOf esh := by rw [List.length_set, he.sz]
  subst hp
  simp only [vPart, fk_snoc]
  rw [if_pos (by rw [List.length_append, h1, h2]; omega)]
  simp only [List.getD_eq_getElem?_getD]
  rw [List.getElem?_append_right (by omega), h1, Nat.add_sub_cancel_left, List.getElem?_set_self (by rw [he.sz]; exact hj)]
  rfl
theorem fk_splice (he : Enc f esh) {j : Nat} {r : α → AV} {l : List α} {x : α} {p : Nat} {u : AV} (hp : p = l.length * szOf esh + j) : splice (fk f j r (l ++ [x])) p [u] = flat f l ++ (f x).cells.set j u := by
  have h1 : (flat f l).length = l.length * szOf esh := he.length l
  subst hp
  simp only [splice, fk_snoc]
  rw [List.set_append_right _ _ (by omega), h1, Nat.add_sub_cancel_left, List.set_set]
theorem fzL_app {k0 k : Nat} {S : List Ob} : ∀ {a a' b b' : List AV}, fzL k0 k S a a' → fzL k0 k S b b' → fzL k0 k S (a ++ b) (a' ++ b')
  | [], [], _, _, _, h => h
  | x :: a, y :: a', _, _, h, h' => ⟨h.1, fzL_app h.2 h'⟩
theorem fzL_set {k0 k : Nat} {S : List Ob} : ∀ {cs : List AV} {j : Nat} {u : AV}, blwL k0 cs = true → (∀ v, cs[j]? = some v → AVw (frz k0 S k u) v) → fzL k0 k S (cs.set j u) cs
  | [], _, _, _, _ => trivial
  | x :: r, 0, u, h, hu => by
    simp only [blwL, Bool.and_eq_true] at h
    exact ⟨hu x rfl, fzL_id h.2⟩
  | x :: r, j + 1, u, h, hu => by
    simp only [blwL, Bool.and_eq_true] at h
    exact ⟨fz_b h.1 (.refl _), fzL_set h.2 (fun v hv => hu v (by simpa using hv))⟩
theorem fzL_fk (he : Enc f esh) {k0 k : Nat} {S : List Ob} {j : Nat} {r : α → AV} {xs : List α} (h : ∀ l x, xs = l ++ [x] → ∀ v, (f x).cells[j]? = some v → AVw (frz k0 S k (r x)) v) : fzL k0 k S (fk f j r xs) (flat f xs) := by
  rcases snoc_of xs with rfl | ⟨l, x, rfl⟩
  · exact trivial
  · rw [fk_snoc, flat_append]
    refine fzL_app (fzL_id (he.blwf k0 _)) ?_
    simp only [flat, List.flatMap_cons, List.flatMap_nil, List.append_nil]
    exact fzL_set (cells_below (he.blw x k0)) (h l x rfl)
theorem fk_blw (he : Enc f esh) {n j : Nat} {r : α → AV} (h : ∀ x, (r x).blw n = true) (xs : List α) : blwL n (fk f j r xs) = true := by
  rcases snoc_of xs with rfl | ⟨l, x, rfl⟩
  · rfl
  · rw [fk_snoc, blwL_iff]
    intro y hy
    rcases List.mem_append.1 hy with h1 | h1
    · exact blwL_iff.1 (he.blwf n l) y h1
    · rcases List.mem_or_eq_of_mem_set h1 with h2 | h2
      · exact blwL_iff.1 (cells_below (he.blw x n)) y h2
      · exact h2 ▸ h x
theorem rnl_eq {R : Rn} (he : Enc f esh) {l l' : List α} (h : l = l') : RnL R 0 (flat f l) (flat f l') := by subst h; exact .refl (he.blwf 0 _)
/-- The list whose last element's list is an object, as a value. -/
theorem rn_refK (he : Enc f esh) {M : RMap} {S S' : List Ob} {o ver o' ver' n n' j : Nat} {r : α → AV} {xs : List α} {cs : List AV} (h1 : rmAt M o' = some (o, 0)) (h2 : hp S o = .arr ver cs) (h3 : hp S' o' = .arr ver' (fk f j r xs)) (h4 : n' = xs.length) (h5 : n = n') :
    RnV (wkR M S S') (.ref o ver 0 n esh) (.ref o' ver' 0 n' esh) := by
  subst h5; subst h4
  exact rn_ref h1 h2 h3 rfl (by rw [fk_len he]; omega)
theorem rn_kid {g : β → AV} {e : Option Nat} (he : Enc g e) {M : RMap} {S S' : List Ob} {o ver o' ver' : Nat} {L : α → List β} {xs l : List α} {x : α} (hx : xs = l ++ [x]) (h1 : rmAt M o' = some (o, 0)) (h2 : hp S o = .arr ver (flat g (lastL L xs))) (h3 : hp S' o' = .arr ver' (flat g (lastL L xs))) :
    RnV (wkR M S S') (.ref o ver 0 (L x).length e) (.ref o' ver' 0 (L x).length e) := by
  subst hx
  rw [lastL_snoc] at h2 h3
  exact rn_refL he h1 h2 h3
theorem fz_kid {g : β → AV} {e : Option Nat} (he : Enc g e) {k0 k : Nat} {S : List Ob} {o ver : Nat} {L : α → List β} {xs l : List α} {x : α} (hx : xs = l ++ [x]) (h0 : k0 ≤ o) (ho : hp S o = .arr ver (flat g (lastL L xs))) :
    AVw (frz k0 S (k + 1) (.ref o ver 0 (L x).length e)) (.sl false (szOf e) ((L x).map g)) := by
  subst hx
  rw [lastL_snoc] at ho
  exact fz_ref he h0 ho
variable {P : Program} {S0 : List Ob} {ow : List Nat} {fr : Fr} {S : List Ob} {log : List LE}
theorem E_ldV {d a sh rs} {K : Fr → List Ob → List LE → Prop} {o ver p} {cs : List AV} {v : AV} (e : ev (Fr.get fr) a = .ptr o ver p) (ho : hp S o = .arr ver cs)
    (hv : vPart sh cs p = some v) (h : VTops P ow rs ((d, v) :: fr) S (.acc [o] none :: log) K) : VTops P ow (⟨some d, none, .op (.load sh a)⟩ :: rs) fr S log K := by
  refine E_op (v := v) (v' := v) (rd := [o]) (δ := none) (S' := S) ?_ rfl rfl h
  simp only [opV, e, vLoad, obCells, ho, if_true, Option.bind_some, hv, Option.map_some]
theorem E_stV {a x nn rs} {K : Fr → List Ob → List LE → Prop} {o ver p} {cs : List AV} {S' : List Ob} {xv : AV} (e : ev (Fr.get fr) a = .ptr o ver p) (ex : ev (Fr.get fr) x = xv) (ho : hp S o = .arr ver cs)
    (hx : xv.cells.length = nn) (h1 : xv.cells.all AV.one = true) (hfit : p + nn ≤ cs.length) (hS : setAt S o (.arr ver (splice cs p xv.cells)) = S')
    (h : VTops P ow rs fr S' (.acc [o] (some o) :: log) K) : VTops P ow (⟨none, none, .op (.store nn a x)⟩ :: rs) fr S log K := by
  refine E_do (v := .tup []) (rd := []) (δ := some (o, .arr ver (splice cs p xv.cells))) (S' := S') ?_ hS h
  simp only [opV, e, ex, vStore, obCells, ho, if_true, Option.bind_some]
  rw [if_pos ⟨hx, hfit, h1⟩]
end
end Go.Ab
/- A list of which one element (number k, if it is there) has a list that is an object of its own. -/
namespace Go.Ab
set_option linter.unusedVariables false
set_option linter.unusedSimpArgs false
open Go Go.RowKit
section
variable {α β : Type} {f : α → AV} {esh : Option Nat}
/-- The cells: in element k the j-th cell is r. -/
def fki (f : α → AV) (j : Nat) (r : α → AV) : Nat → List α → List AV
  | _, [] => []
  | 0, x :: l => (f x).cells.set j (r x) ++ flat f l
  | k + 1, x :: l => (f x).cells ++ fki f j r k l
def kidI (L : α → List β) (k : Nat) (xs : List α) : List β := match xs[k]? with | some x => L x | none => []
theorem kidI_some {L : α → List β} {k : Nat} {xs : List α} {x : α} (h : xs[k]? = some x) : kidI L k xs = L x := by unfold kidI; rw [h]
theorem kidI_none {L : α → List β} {k : Nat} {xs : List α} (h : xs[k]? = none) : kidI L k xs = [] := by unfold kidI; rw [h]
theorem fki_none {j : Nat} {r : α → AV} : ∀ (k : Nat) (xs : List α), xs[k]? = none → fki f j r k xs = flat f xs
  | k, [], _ => by cases k <;> rfl
  | 0, x :: l, h => by simp at h
  | k + 1, x :: l, h => by rw [fki, flat_cons, fki_none k l (by simpa using h)]
theorem fki_some {j : Nat} {r : α → AV} : ∀ (k : Nat) (xs : List α) (x : α), xs[k]? = some x → fki f j r k xs = flat f (xs.take k) ++ ((f x).cells.set j (r x) ++ flat f (xs.drop (k + 1)))
  | _, [], _, h => by simp at h
  | 0, y :: l, x, h => by
    have : y = x := by simpa using h
    subst this
    simp [fki, flat_nil]
  | k + 1, y :: l, x, h => by
    rw [fki, fki_some k l x (by simpa using h), List.take_succ_cons, flat_cons, List.drop_succ_cons, List.append_assoc]
theorem fki_len (he : Enc f esh) {j : Nat} {r : α → AV} (k : Nat) (xs : List α) : (fki f j r k xs).length = xs.length * szOf esh := by
  cases e : xs[k]? with
  | none => rw [fki_none k xs e, he.length]
  | some x =>
    obtain ⟨hk, _⟩ := List.getElem?_eq_some_iff.1 e
    rw [fki_some k xs x e, List.length_append, List.length_append, List.length_set, he.length, he.length, he.sz]
    have : xs.length = (xs.take k).length + (1 + (xs.drop (k + 1)).length) := by simp; omega
    rw [this, Nat.add_mul, Nat.add_mul, Nat.one_mul]
theorem fki_blw (he : Enc f esh) {n j : Nat} {r : α → AV} (h : ∀ x, (r x).blw n = true) (k : Nat) (xs : List α) : blwL n (fki f j r k xs) = true := by
  cases e : xs[k]? with
  | none => rw [fki_none k xs e]; exact he.blwf n xs
  | some x =>
    rw [fki_some k xs x e, blwL_iff]
    intro y hy
    rcases List.mem_append.1 hy with h1 | h1
    · exact blwL_iff.1 (he.blwf n _) y h1
    · rcases List.mem_append.1 h1 with h1 | h1
      · rcases List.mem_or_eq_of_mem_set h1 with h2 | h2
        · exact blwL_iff.1 (cells_below (he.blw x n)) y h2
        · exact h2 ▸ h x
      · exact blwL_iff.1 (he.blwf n _) y h1
theorem rnl_fki {R : Rn} (he : Enc f esh) {j : Nat} {r r' : α → AV} {k : Nat} {xs : List α} (h : ∀ x, xs[k]? = some x → RnV R (r x) (r' x)) : RnL R 0 (fki f j r k xs) (fki f j r' k xs) := by
  cases e : xs[k]? with
  | none => rw [fki_none k xs e, fki_none k xs e]; exact .refl (he.blwf 0 _)
  | some x =>
    rw [fki_some k xs x e, fki_some k xs x e]
    exact .app rfl (.refl (he.blwf 0 _)) (.app (by simp) (.set (cells_below (he.blw x 0)) (h x e)) (.refl (he.blwf 0 _)))
theorem fki_push {j : Nat} {r : α → AV} : ∀ (k : Nat) (xs : List α) (y : α), xs.length ≠ k → fki f j r k (xs ++ [y]) = fki f j r k xs ++ (f y).cells
  | 0, [], y, h => (h rfl).elim
  | k + 1, [], y, _ => by simp [fki]
  | 0, x :: l, y, _ => by show (f x).cells.set j (r x) ++ flat f (l ++ [y]) = _; rw [flat_append]; simp [fki, flat]
  | k + 1, x :: l, y, h => by
    show (f x).cells ++ fki f j r k (l ++ [y]) = _
    rw [fki_push k l y (fun e => h (by simp [e]))]
    simp [fki]
theorem fki_push' {j : Nat} {r : α → AV} (xs : List α) (y : α) : fki f j r xs.length (xs ++ [y]) = flat f xs ++ (f y).cells.set j (r y) := by
  rw [fki_some xs.length (xs ++ [y]) y (by simp)]
  simp [flat_nil]
theorem fki_part (he : Enc f esh) {j : Nat} {r : α → AV} {k : Nat} {xs : List α} {x : α} (h : xs[k]? = some x) {p : Nat} (hj : j < szOf esh) (hp : p = k * szOf esh + j) : vPart none (fki f j r k xs) p = some (r x) := by
  have hk := (List.getElem?_eq_some_iff.1 h).1
  have h1 : (flat f (xs.take k)).length = k * szOf esh := by rw [he.length, List.length_take, Nat.min_eq_left (by omega)]
  have h2 : ((f x).cells.set j (r x)).length = szOf esh := by rw [List.length_set, he.sz]
  subst hp
  simp only [vPart, fki_some k xs x h]
  rw [if_pos (by rw [List.length_append, List.length_append, h1, h2]; omega)]
  simp only [List.getD_eq_getElem?_getD]
  rw [List.getElem?_append_right (by omega), h1, Nat.add_sub_cancel_left, List.getElem?_append_left (by omega), List.getElem?_set_self (by rw [he.sz]; exact hj)]
  rfl
theorem fki_splice (he : Enc f esh) {j : Nat} {r : α → AV} {k : Nat} {xs : List α} {x : α} (h : xs[k]? = some x) {p : Nat} {u : AV} (hj : j < szOf esh) (hp : p = k * szOf esh + j) :
    splice (fki f j r k xs) p [u] = flat f (xs.take k) ++ ((f x).cells.set j u ++ flat f (xs.drop (k + 1))) := by
  have hk := (List.getElem?_eq_some_iff.1 h).1
  have h1 : (flat f (xs.take k)).length = k * szOf esh := by rw [he.length, List.length_take, Nat.min_eq_left (by omega)]
  have h2 : ((f x).cells.set j (r x)).length = szOf esh := by rw [List.length_set, he.sz]
  subst hp
  simp only [splice, fki_some k xs x h]
  rw [List.set_append_right _ _ (by omega), h1, Nat.add_sub_cancel_left, List.set_append_left _ _ (by omega), List.set_set]
/-- The element's list is another one now. -/
theorem rnl_writei {R : Rn} (he : Enc f esh) {j : Nat} {r' : α → AV} {k : Nat} {xs : List α} {x y : α} (h : xs[k]? = some x) {u : AV} (hs : ∀ v, (f x).cells.set j v = (f y).cells.set j v) (hu : RnV R u (r' y)) :
    RnL R 0 (flat f (xs.take k) ++ ((f x).cells.set j u ++ flat f (xs.drop (k + 1)))) (fki f j r' k (xs.set k y)) := by
  have hk := (List.getElem?_eq_some_iff.1 h).1
  rw [fki_some k (xs.set k y) y (by rw [List.getElem?_set_self hk])]
  have e1 : (xs.set k y).take k = xs.take k := by rw [List.take_set_of_le (Nat.le_refl _)]
  have e2 : (xs.set k y).drop (k + 1) = xs.drop (k + 1) := by rw [List.drop_set_of_lt (by omega)]
  rw [e1, e2, hs]
  exact .app rfl (.refl (he.blwf 0 _)) (.app (by simp) (.set (cells_below (he.blw y 0)) hu) (.refl (he.blwf 0 _)))
theorem rnl_fkiC {R : Rn} (he : Enc f esh) {j : Nat} {r r' : α → AV} {k : Nat} {xs : List α} {y y' : α} (hk : k < xs.length) (hs : ∀ v, (f y).cells.set j v = (f y').cells.set j v) (hu : RnV R (r y) (r' y')) :
    RnL R 0 (fki f j r k (xs.set k y)) (fki f j r' k (xs.set k y')) := by
  have e1 : ∀ z, (xs.set k z).take k = xs.take k := fun z => by rw [List.take_set_of_le (Nat.le_refl _)]
  have e2 : ∀ z, (xs.set k z).drop (k + 1) = xs.drop (k + 1) := fun z => by rw [List.drop_set_of_lt (by omega)]
  rw [fki_some k (xs.set k y) y (by rw [List.getElem?_set_self hk]), fki_some k (xs.set k y') y' (by rw [List.getElem?_set_self hk]), e1, e1, e2, e2, hs]
  exact .app rfl (.refl (he.blwf 0 _)) (.app (by simp) (.set (cells_below (he.blw y' 0)) hu) (.refl (he.blwf 0 _)))
theorem rn_refE {g : β → AV} {e : Option Nat} (he : Enc g e) {M : RMap} {S S' : List Ob} {o ver o' ver' n n' : Nat} {l : List β} {cs : List AV} (h1 : rmAt M o' = some (o, 0)) (h2 : hp S o = .arr ver cs) (h3 : hp S' o' = .arr ver' (flat g l)) (h4 : n' = l.length) (h5 : n = n') :
    RnV (wkR M S S') (.ref o ver 0 n e) (.ref o' ver' 0 n' e) := by
  subst h5; subst h4
  exact rn_ref h1 h2 h3 rfl (by rw [he.length]; omega)
theorem fzL_fki (he : Enc f esh) {k0 n : Nat} {S : List Ob} {j : Nat} {r : α → AV} {k : Nat} {xs : List α} (h : ∀ x, xs[k]? = some x → ∀ v, (f x).cells[j]? = some v → AVw (frz k0 S n (r x)) v) : fzL k0 n S (fki f j r k xs) (flat f xs) := by
  cases e : xs[k]? with
  | none => rw [fki_none k xs e]; exact fzL_id (he.blwf k0 _)
  | some x =>
    have hk := (List.getElem?_eq_some_iff.1 e).1
    have hxs : flat f xs = flat f (xs.take k) ++ ((f x).cells ++ flat f (xs.drop (k + 1))) := by
      have e3 : xs[k] = x := (List.getElem?_eq_some_iff.1 e).2
      conv => lhs; rw [← List.take_append_drop k xs, flat_append, List.drop_eq_getElem_cons hk, flat_cons, e3]
    rw [fki_some k xs x e, hxs]
    exact fzL_app (fzL_id (he.blwf k0 _)) (fzL_app (fzL_set (cells_below (he.blw x k0)) (h x e)) (fzL_id (he.blwf k0 _)))
theorem rn_refKi (he : Enc f esh) {M : RMap} {S S' : List Ob} {o ver o' ver' n n' j k : Nat} {r : α → AV} {xs : List α} {cs : List AV} (h1 : rmAt M o' = some (o, 0)) (h2 : hp S o = .arr ver cs) (h3 : hp S' o' = .arr ver' (fki f j r k xs)) (h4 : n' = xs.length) (h5 : n = n') :
    RnV (wkR M S S') (.ref o ver 0 n esh) (.ref o' ver' 0 n' esh) := by
  subst h5; subst h4
  exact rn_ref h1 h2 h3 rfl (by rw [fki_len he]; omega)
theorem rn_kidI {g : β → AV} {e : Option Nat} (he : Enc g e) {M : RMap} {S S' : List Ob} {o ver o' ver' k : Nat} {L : α → List β} {xs : List α} {x : α} (hx : xs[k]? = some x) (h1 : rmAt M o' = some (o, 0)) (h2 : hp S o = .arr ver (flat g (kidI L k xs))) (h3 : hp S' o' = .arr ver' (flat g (kidI L k xs))) :
    RnV (wkR M S S') (.ref o ver 0 (L x).length e) (.ref o' ver' 0 (L x).length e) := by
  rw [kidI_some hx] at h2 h3
  exact rn_refL he h1 h2 h3
theorem fz_kidI {g : β → AV} {e : Option Nat} (he : Enc g e) {k0 n : Nat} {S : List Ob} {o ver k : Nat} {L : α → List β} {xs : List α} {x : α} (hx : xs[k]? = some x) (h0 : k0 ≤ o) (ho : hp S o = .arr ver (flat g (kidI L k xs))) :
    AVw (frz k0 S (n + 1) (.ref o ver 0 (L x).length e)) (.sl false (szOf e) ((L x).map g)) := by
  rw [kidI_some hx] at ho
  exact fz_ref he h0 ho
theorem kidI_push {L : α → List β} {k : Nat} {xs : List α} {y : α} (h : xs.length ≠ k) : kidI L k (xs ++ [y]) = kidI L k xs := by
  unfold kidI
  rcases Nat.lt_or_gt_of_ne h with h1 | h1
  · rw [List.getElem?_eq_none (by simp; omega), List.getElem?_eq_none (by omega)]
  · rw [List.getElem?_append_left h1]
theorem kidI_push' {L : α → List β} {xs : List α} {y : α} : kidI L xs.length (xs ++ [y]) = L y := kidI_some (by simp)
variable {P : Program} {S0 : List Ob} {ow : List Nat} {fr : Fr} {S : List Ob} {log : List LE}
/-- Cells are put behind a list whatever they are. -/
theorem E_apV {d bytes s x rs} {K : Fr → List Ob → List LE → Prop} {o ver n m : Nat} {cs ys : List AV} {rdx : List Nat} {S' : List Ob} (e : ev (Fr.get fr) s = .ref o ver 0 n esh) (e2 : vSrc esh (ev (Fr.get fr) x) S = some (m, ys, rdx))
    (ho : hp S o = .arr ver cs) (hl : cs.length = n * szOf esh) (h1 : ys.all AV.one = true) (hb : (n + m) * bytes ≤ 140737488355328 ∧ n + m ≤ 140737488355328) (hS : setAt S o (.arr (ver + 1) (cs ++ ys)) = S')
    (h : VTops P ow rs ((d, .ref o (ver + 1) 0 (n + m) esh) :: fr) S' (.acc (o :: o :: rdx) (some o) :: log) K) : VTops P ow (⟨some d, none, .op (.app esh bytes s x)⟩ :: rs) fr S log K := by
  refine E_op (v := .ref o (ver + 1) 0 (n + m) esh) (rd := o :: rdx) (δ := some (o, .arr (ver + 1) (cs ++ ys))) ?_ rfl hS h
  simp only [opV, vApp, e, e2, Option.bind_some, h1, if_true]
  rw [if_pos ⟨trivial, hb.1, hb.2⟩]
  have e3 : cs.take (n * szOf esh) = cs := List.take_of_length_le (by omega)
  simp only [obCells, ho, if_true, Option.map_some, List.drop_zero, e3]
end
end Go.Ab
