/- Regions in the text's order may be cut: between two parts the state may be weakened. -/
import Derived.Test.YtnpemocpfdgaoaaWlF9
import Derived.Test.YtnpemocpfdgaoaaWlF2
import Derived.OpenShut
set_option linter.unusedVariables false
set_option linter.unusedSimpArgs false
namespace Go.Ab
open Go Go.RowKit

def b7D : Nat := 1000003
def a2t : FC -> Option (List x7)
 | .reg rs [] => some rs
 | .seq (.reg rs []) b => match a2t b with
   | some ys => some (rs ++ ys)
   | none => none
 | _ => none
def z9 : FC -> FC
 | .skip => .skip
 | .reg rs ps => .reg rs ps
 | .seq a b => .seq (z9 a) (z9 b)
 | .cond c a b => .cond c (z9 a) (z9 b)
 | .block i a => if i = b7D then (match a2t a with | some rs => .reg rs [] | none => .block i (z9 a)) else .block i (z9 a)
 | .loop a => .loop (z9 a)
 | .exit i => .exit i
 | .ret => .ret

theorem a8W {P : Program} {n : Nat} {ops : Array Oper} {g0 σ0} {Q : Exit -> Act -> World -> Prop} {K : Fr -> List Ob -> List LE -> Prop} {rest : List Nat} : ∀ (l : List Oper) (rs : List x7) (i : Nat) (fr : Fr) (S : List Ob) (log : List LE) (a : Act) (w : World),
  (∀ j (o : Oper), l[j]? = some o -> ops[i + j]? = some o) -> t7 P n ops l = some rs -> VCops P rs fr S log K -> At g0 σ0 n (Fr.get fr) (hp S) a w ->
  (∀ fr' S' log' a' w', K fr' S' log' -> At g0 σ0 n (Fr.get fr') (hp S') a' w' -> wpOps P ops Q rest a' w') -> wpOps P ops Q (List.range' i l.length ++ rest) a w
 | [], rs, i, fr, S, log, a, w, _, hr, h, hat, hQ => by
   simp [t7] at hr; subst hr
   exact hQ _ _ _ _ _ h hat
 | o :: l, rs, i, fr, S, log, a, w, hl, hr, h, hat, hQ => by
   simp only [t7] at hr
   split at hr
   ·rename_i ro rs' h1 h2
    cases hr
    have hoi : ops[i]? = some o := by simpa using hl 0 o rfl
    have hl' : ∀ j (o' : Oper), l[j]? = some o' -> ops[i + 1 + j]? = some o' := fun j o' hj => by
     have := hl (j + 1) o' (by simpa using hj)
     rwa [show i + (j + 1) = i + 1 + j by omega] at this
    have ih := fun fr S log a w => a8W (Q := Q) (K := K) (g0 := g0) (σ0 := σ0) (rest := rest) l rs' (i + 1) fr S log a w hl' h2
    simp only [List.length_cons, List.range'_succ, List.cons_append, wpOps, hoi]
    obtain ⟨hc, hdst, hdn, _⟩ := a2D h1
    have hstep : VC1 P ro.c (Fr.get fr) S (fun v S' le => VCops P rs' (a6K fr ro.dst v) S' (le :: log) K) -> o.wp P a w (wpOps P ops Q (List.range' (i + 1) l.length ++ rest)) Q := fun hv => by
     obtain ⟨v, S', le, k1, _, k3⟩ := a5N hv
     exact At.step h1 hat (a7N _) k1 (fun a' w' hat' => ih _ _ _ _ _ k3 (by rw [a2R]; exact hat') hQ)
    have hat0 := hat
    obtain ⟨_, g, _, _, hf⟩ := hat
    obtain ⟨w1, w2, w3⟩ := a6d h1 hf
    simp only [VCops] at h
    cases hg : ro.guard with
    | none =>
      simp only [hg] at h
      rw [if_pos (w1 hg)]
      exact .inl (hstep h)
    | some p =>
      obtain ⟨t, want⟩ := p
      simp only [hg] at h
      generalize hq : Fr.get fr t = q at h
      split at h
      case h_3 => exact h.elim
      case h_2 =>
       rw [w3 t want hg hq, if_neg zS]
       refine ih _ _ _ _ _ h ?_ hQ
       rw [a2R, hdst]
       exact At.skip hat0 hdn
      rename_i b
      obtain ⟨ha, hb⟩ := h
      rw [w2 t want b hg hq]
      by_cases e : b = want
      ·subst e
       rw [if_pos zS]
       exact .inl (hstep (ha rfl))
      ·have e' : b = !want := by cases b <;> cases want <;> simp_all
       rw [if_neg (by simp [e])]
       refine ih _ _ _ _ _ (hb e') ?_ hQ
       rw [a2R, hdst]
       exact At.skip hat0 hdn
   ·cases hr

theorem a5y {P : Program} {n : Nat} {ops : Array Oper} : ∀ {l : List Oper} {xs ys : List x7}, t7 P n ops l = some (xs ++ ys) -> ∃ l1 l2, l = l1 ++ l2 /\ t7 P n ops l1 = some xs /\ t7 P n ops l2 = some ys
 | l, [], ys, h => ⟨[], l, rfl, rfl, h⟩
 | [], x :: xs, ys, h => by simp [t7] at h
 | o :: l, x :: xs, ys, h => by
   simp only [t7, List.cons_append] at h
   split at h
   ·rename_i q qs h1 h2
    cases h
    obtain ⟨l1, l2, rfl, e1, e2⟩ := a5y h2
    exact ⟨o :: l1, l2, rfl, by simp only [t7, h1, e1], e2⟩
   ·cases h

theorem b6y {P : Program} {n : Nat} {ops : Array Oper} {g0 : Gh} {S0 : List Ob} {Q : Exit -> Act -> World -> Prop} {K : Post} : ∀ (b : FC) (rs : List x7), a2t b = some rs -> ∀ (l : List Oper) (i : Nat) (fr : Fr) (S : List Ob) (a : Act) (w : World),
  (∀ j (o : Oper), l[j]? = some o -> ops[i + j]? = some o) -> t7 P n ops l = some rs -> VC P S0 b fr S K -> At g0 (hp S0) n (Fr.get fr) (hp S) a w ->
  (∀ fr' S' a' w', K .normal fr' S' -> At g0 (hp S0) n (Fr.get fr') (hp S') a' w' -> Q .normal a' w') -> wpOps P ops Q (List.range' i l.length) a w
 | .reg rs0 [], rs, hb, l, i, fr, S, a, w, hl, hr, hv, hat, hQ => by
   simp only [a2t, Option.some.injEq] at hb; subst hb
   exact a7P l _ i fr S [] a w hl hr hv hat (fun fr' S' log a' w' hk => hQ fr' S' a' w' hk.2)
 | .seq (.reg xs []) b, rs, hb, l, i, fr, S, a, w, hl, hr, hv, hat, hQ => by
   simp only [a2t] at hb
   split at hb
   ·rename_i ys hy
    simp only [Option.some.injEq] at hb
    subst hb
    obtain ⟨l1, l2, rfl, e1, e2⟩ := a5y hr
    have e : List.range' i (l1 ++ l2).length = List.range' i l1.length ++ List.range' (i + l1.length) l2.length := by
     rw [List.length_append]
     simp
    rw [e]
    refine a8W l1 xs i fr S [] a w (fun j o hj => hl j o (by rw [List.getElem?_append_left]; exact hj; exact (List.getElem?_eq_some_iff.1 hj).1)) e1 hv hat (fun fr' S' log a' w' hk hat' => ?_)
    obtain ⟨_, F, T, hw, hk⟩ := hk
    exact b6y b ys hy l2 (i + l1.length) F T a' w' (fun j o hj => by
     have := hl (l1.length + j) o (by rw [List.getElem?_append_right zO]; simpa using hj)
     rwa [<- Nat.add_assoc] at this) e2 hk (hw _ _ _ _ hat') hQ
   ·cases hb
 | .skip, _, hb, _, _, _, _, _, _, _, _, _, _, _ => by simp [a2t] at hb
 | .reg _ (_ :: _), _, hb, _, _, _, _, _, _, _, _, _, _, _ => by simp [a2t] at hb
 | .seq .skip _, _, hb, _, _, _, _, _, _, _, _, _, _, _ => by simp [a2t] at hb
 | .seq (.reg _ (_ :: _)) _, _, hb, _, _, _, _, _, _, _, _, _, _, _ => by simp [a2t] at hb
 | .seq (.seq _ _) _, _, hb, _, _, _, _, _, _, _, _, _, _, _ => by simp [a2t] at hb
 | .seq (.cond _ _ _) _, _, hb, _, _, _, _, _, _, _, _, _, _, _ => by simp [a2t] at hb
 | .seq (.block _ _) _, _, hb, _, _, _, _, _, _, _, _, _, _, _ => by simp [a2t] at hb
 | .seq (.loop _) _, _, hb, _, _, _, _, _, _, _, _, _, _, _ => by simp [a2t] at hb
 | .seq (.exit _) _, _, hb, _, _, _, _, _, _, _, _, _, _, _ => by simp [a2t] at hb
 | .seq .ret _, _, hb, _, _, _, _, _, _, _, _, _, _, _ => by simp [a2t] at hb
 | .cond _ _ _, _, hb, _, _, _, _, _, _, _, _, _, _, _ => by simp [a2t] at hb
 | .block _ _, _, hb, _, _, _, _, _, _, _, _, _, _, _ => by simp [a2t] at hb
 | .loop _, _, hb, _, _, _, _, _, _, _, _, _, _, _ => by simp [a2t] at hb
 | .exit _, _, hb, _, _, _, _, _, _, _, _, _, _, _ => by simp [a2t] at hb
 | .ret, _, hb, _, _, _, _, _, _, _, _, _, _, _ => by simp [a2t] at hb


theorem a8X {fc : FC} {rs ps} (h : z9 fc = .reg rs ps) : fc = .reg rs ps \/ ∃ b, fc = .block b7D b /\ a2t b = some rs /\ ps = [] := by
 cases fc with
 | reg a b => simp only [z9] at h; cases h; exact .inl rfl
 | block i a =>
   simp only [z9] at h
   split at h
   ·rename_i e
    subst e
    split at h
    ·rename_i rs' e2
     cases h
     exact .inr ⟨a, rfl, e2, rfl⟩
    ·cases h
   ·cases h
 | _ => simp [z9] at h

def a5h : Code -> FC -> Bool
 | .region _ _ d, .block _ _ => !d
 | .seq a b, .seq x y => a5h a x && a5h b y
 | .cond _ a b, .cond _ x y => a5h a x && a5h b y
 | .block _ a, .block _ x => a5h a x
 | .loop a, .loop x => a5h a x
 | _, _ => true

theorem b9q {P : Program} {n : Nat} (hm : P.follows .mixedOrders = true) {g0 : Gh} {S0 : List Ob} : ∀ (c : Code) (fc : FC), r5 P n c = some (z9 fc) -> a5h c fc = true -> ∀ (fr : Fr) (S : List Ob) (K : Post), VC P S0 fc fr S K ->
  ∀ a w, At g0 (hp S0) n (Fr.get fr) (hp S) a w -> c.wp P (QK g0 S0 n K) a w := by
 have noblk : ∀ {i x fc}, FC.block i x = z9 fc -> ∃ y, fc = .block i y /\ x = z9 y := by
  intro i x fc h
  cases fc with
  | block j a =>
    simp only [z9] at h
    split at h
    ·split at h
     ·cases h
     ·cases h; exact ⟨a, rfl, rfl⟩
    ·cases h; exact ⟨a, rfl, rfl⟩
  | _ => simp [z9] at h
 have blk2 : ∀ {i a}, z9 (.block i a) = .skip -> False := by
  intro i a h
  simp only [z9] at h
  split at h
  ·split at h <;> cases h
  ·cases h
 have blk3 : ∀ {i a x y}, z9 (.block i a) = .seq x y -> False := by
  intro i a x y h
  simp only [z9] at h
  split at h
  ·split at h <;> cases h
  ·cases h
 have blk4 : ∀ {i a c x y}, z9 (.block i a) = .cond c x y -> False := by
  intro i a c x y h
  simp only [z9] at h
  split at h
  ·split at h <;> cases h
  ·cases h
 have blk5 : ∀ {i a x}, z9 (.block i a) = .loop x -> False := by
  intro i a x h
  simp only [z9] at h
  split at h
  ·split at h <;> cases h
  ·cases h
 have blk6 : ∀ {i a x}, z9 (.block i a) = .exit x -> False := by
  intro i a x h
  simp only [z9] at h
  split at h
  ·split at h <;> cases h
  ·cases h
 have blk7 : ∀ {i a}, z9 (.block i a) = .ret -> False := by
  intro i a h
  simp only [z9] at h
  split at h
  ·split at h <;> cases h
  ·cases h
 intro c
 induction c with
 | skip =>
   intro fc h hc fr S K hv a w hat
   simp only [r5, Option.some.injEq] at h
   cases fc with
   | skip => exact wp_skip ⟨fr, S, hat, hv⟩
   | block i b => exact (blk2 h.symm).elim
   | _ => simp [z9] at h
 | label l =>
   intro fc h hc fr S K hv a w hat
   simp only [r5, Option.some.injEq] at h
   cases fc with
   | skip => exact wp_label ⟨fr, S, hat, hv⟩
   | block i b => exact (blk2 h.symm).elim
   | _ => simp [z9] at h
 | region id ops d =>
   intro fc h hc fr S K hv a w hat
   simp only [r5] at h
   split at h
   ·rename_i rs hrs
    split at h
    ·rename_i hd
     subst hd
     split at h
     ·rename_i hok
      simp only [Option.some.injEq] at h
      rcases a8X h.symm with rfl | ⟨b, rfl, hb, hps⟩
      ·exact b2A hm hrs hok hv hat (fun fr' S' a' w' hk hat' => ⟨fr', S', hat', hk⟩)
      ·simp [a5h] at hc
     ·cases h
    ·rename_i hd
     have : d = false := by simpa using hd
     subst this
     simp only [Option.some.injEq] at h
     rcases a8X h.symm with rfl | ⟨b, rfl, hb, hps⟩
     ·simp only [VC, a0q, true_and] at hv
      exact b2B hrs hv hat (fun fr' S' a' w' hk hat' => ⟨fr', S', hat', hk⟩)
     ·have hv2 : VC P S0 b fr S (Post.blk b7D K) := hv
      refine wp_region ?_
      have := b6y (P := P) (n := n) (ops := ops) (Q := QK g0 S0 n K) b rs hb ops.toList 0 fr S a w (fun j o hj => by rw [Nat.zero_add, <- Array.getElem?_toList]; exact hj) hrs hv2 hat (fun fr' S' a' w' hk hat' => ⟨fr', S', hat', hk⟩)
      rw [List.range_eq_range']
      simpa using this
   ·cases h
 | seq x y ihx ihy =>
   intro fc h hc fr S K hv a w hat
   simp only [r5] at h
   split at h
   ·rename_i fx fy hx hy
    simp only [Option.some.injEq] at h
    cases fc with
    | seq x' y' =>
      simp only [z9, FC.seq.injEq] at h
      simp only [a5h, Bool.and_eq_true] at hc
      refine wp_seq (wp_mono (ihx x' (by rw [hx, h.1]) hc.1 fr S _ hv a w hat) (fun e a' w' hq => ?_))
      obtain ⟨fr', S', hat', hk⟩ := hq
      cases e with
      | normal =>
        obtain ⟨F, T, hwk, hk⟩ := hk
        exact ihy y' (by rw [hy, h.2]) hc.2 F T K hk a' w' (hwk _ _ _ _ hat')
      | _ => exact ⟨fr', S', hat', hk⟩
    | block i b => exact (blk3 h.symm).elim
    | _ => simp [z9] at h
   ·cases h
 | cond c x y ihx ihy =>
   intro fc h hc fr S K hv a w hat
   simp only [r5] at h
   split at h
   ·rename_i c' fx fy hcc hx hy
    simp only [Option.some.injEq] at h
    cases fc with
    | cond c2 x' y' =>
      simp only [z9, FC.cond.injEq] at h
      obtain ⟨rfl, h1, h2⟩ := h
      simp only [a5h, Bool.and_eq_true] at hc
      simp only [VC] at hv
      obtain ⟨_, g, _, _, hf⟩ := id hat
      have hcv := j5 hf hcc
      generalize ev (Fr.get fr) c' = q at hv hcv
      cases q <;> try exact hv.elim
      rename_i t
      generalize hae : a.eval c = u at hcv
      cases hcv
      refine wp_cond_split hae (fun ht => ?_) (fun ht => ?_)
      ·exact ihx x' (by rw [hx, h1]) hc.1 fr S K (hv.1 ht) a w hat
      ·exact ihy y' (by rw [hy, h2]) hc.2 fr S K (hv.2 ht) a w hat
    | block i b => exact (blk4 h.symm).elim
    | _ => simp [z9] at h
   ·cases h
 | block i x ihx =>
   intro fc h hc fr S K hv a w hat
   simp only [r5] at h
   split at h
   ·rename_i fx hx
    simp only [Option.some.injEq] at h
    obtain ⟨x', rfl, h1⟩ := noblk h
    simp only [a5h] at hc
    refine wp_block (wp_mono (ihx x' (by rw [hx, h1]) hc fr S _ hv a w hat) (fun e a' w' hq => ?_))
    obtain ⟨fr', S', hat', hk⟩ := hq
    cases e with
    | exit j =>
      simp only [Exit.inBlock, Post.blk] at hk ⊢
      split
      ·rename_i e; rw [if_pos e] at hk; exact ⟨fr', S', hat', hk⟩
      ·rename_i e; rw [if_neg e] at hk; exact ⟨fr', S', hat', hk⟩
    | _ => exact ⟨fr', S', hat', hk⟩
   ·cases h
 | loop x ihx =>
   intro fc h hc fr S K hv a w hat
   simp only [r5] at h
   split at h
   ·rename_i fx hx
    simp only [Option.some.injEq] at h
    cases fc with
    | loop x' =>
      simp only [z9, FC.loop.injEq] at h
      simp only [a5h] at hc
      obtain ⟨ι, F, T, Pr, μ, i0, hp0, hwk, hrd⟩ := hv
      refine a7f (fun i a w => Pr i /\ At g0 (hp S0) n (Fr.get (F i)) (hp (T i)) a w) μ (fun i a w hI => ?_) (i0 := i0) ⟨hp0, hwk _ _ _ _ hat⟩
      refine wp_mono (ihx x' (by rw [hx, h]) hc (F i) (T i) _ (hrd i hI.1) a w hI.2) (fun e a' w' hq => ?_)
      obtain ⟨fr', S', hat', hk⟩ := hq
      cases e with
      | normal =>
        obtain ⟨i', h1, h2, h3⟩ := hk
        exact ⟨i', ⟨h1, h3 _ _ _ _ hat'⟩, h2⟩
      | _ => exact ⟨fr', S', hat', hk⟩
    | block i b => exact (blk5 h.symm).elim
    | _ => simp [z9] at h
   ·cases h
 | exit i =>
   intro fc h hc fr S K hv a w hat
   simp only [r5, Option.some.injEq] at h
   cases fc with
   | exit j => simp only [z9, FC.exit.injEq] at h; subst h; exact wp_exit ⟨fr, S, hat, hv⟩
   | block i b => exact (blk6 h.symm).elim
   | _ => simp [z9] at h
 | ret =>
   intro fc h hc fr S K hv a w hat
   simp only [r5, Option.some.injEq] at h
   cases fc with
   | ret => exact wp_ret ⟨fr, S, hat, hv⟩
   | block i b => exact (blk7 h.symm).elim
   | _ => simp [z9] at h
 | _ => intro fc h; simp [r5] at h

structure c1h (P : Program) (f : FuncId) (n : Nat) (ts : List RS) (fc : FC) : Prop where
 ex : ∃ fn c, P.funcs[f]? = some fn /\ fn.body = some c /\ fn.ntmps = n /\ t9 P fn.results.toList = some ts /\ r5 P n c = some (z9 fc) /\ a5h c fc = true

theorem b7E {P : Program} {f n : Nat} {ts : List RS} {fc : FC} (hm : P.follows .mixedOrders = true) (hfn : c1h P f n ts fc) {args : List AV} (hn : args.length <= n) {S S' : List Ob} {r : AV} (ow : List Nat)
  (h : VT P S ow fc (a2a 0 args) S (fun e fr1 S1 => a6i e /\ ∃ v R, a3C S1 (Fr.get fr1) ts = some v /\ GWk S S1 S' R /\ R v r)) : Ev P f args (hp S) r (hp S') := by
 have hv := b8U (K' := fun e fr1 S1 => a6i e /\ ∃ v R, a3C S1 (Fr.get fr1) ts = some v /\ GWk S S1 S' R /\ R v r) (fun _ _ _ h => h) h
 intro g w vals hw hvs
 obtain ⟨fn, c, hf, hb, hnt, hrs, hrc, hok⟩ := hfn.ex
 have hvs1 := hvs.1
 refine calls_of_wp hf hb ?_
 have hat : At g (hp S) n (Fr.get (a2a 0 args)) (hp S) { tmps := vals ++ Array.replicate (fn.ntmps - vals.size) undef, defers := [] } w := by
  refine ⟨rfl, g, Gh.le.refl _ _, hw, ⟨by simp; omega, fun t => ?_⟩⟩
  rw [a5a]
  simp only [Nat.zero_le, if_true, Nat.sub_zero]
  by_cases ht : t < args.length
  ·have := hvs.2 t ht zO
   rw [List.getD_eq_getElem?_getD, List.getElem?_eq_getElem ht]
   rw [Array.getD_eq_getD_getElem?, Array.getElem?_append_left zO, Array.getElem?_eq_getElem zO]
   exact this
  ·rw [List.getD_eq_getElem?_getD, List.getElem?_eq_none zO]
   exact .junk
 refine wp_mono (b9q hm c fc hrc hok _ _ _ hv _ _ hat) (fun e a' w' hq => ?_)
 obtain ⟨fr1, S1, ⟨hd, g1, hle1, hw1, hf1⟩, he, v, R, hret, hgw, hR⟩ := hq
 obtain ⟨u, hu, hvu⟩ := a7j hw1 hf1 hrs hret
 obtain ⟨g2, hle2, hw2, hv2⟩ := hgw g g1 w' hle1 hw1
 have hfin : a'.defers = [] /\ ∃ v, (results fn a'.tmps).run P w' = .ok v w' /\ ∃ u g', Ending.returned v = .returned u /\ g.le (hp S) g' (hp S') /\ WRel g' (hp S') w' /\ VR g'.pm g'.L (hp S') r u :=
  ⟨hd, u, hu, u, g2, rfl, hle2, hw2, hv2 _ _ _ hR hvu⟩
 cases e with
 | normal => exact hfin
 | ret => exact hfin
 | _ => exact he.elim

theorem a6s {P : Program} {f n : Nat} {ts : List RS} {fc : FC} (hm : P.follows .mixedOrders = true) (hfn : c1h P f n ts fc) {args : List AV} (hn : args.length <= n) {r : AV} (ow : List Nat) (k : Nat)
  (h : VT P [] ow fc (a2a 0 args) [] (fun e fr S => a6i e /\ ∃ v, a3C S (Fr.get fr) ts = some v /\ AVw (frz 0 S k v) r)) : PureEv P f args r := by
 have := b7E (S := []) (S' := []) (r := r) hm hfn hn ow (a1I (K' := fun e fr1 S1 => a6i e /\ ∃ v R, a3C S1 (Fr.get fr1) ts = some v /\ GWk [] S1 [] R /\ R v r) (fun e fr S hk => ?_) h)
 ·rw [b2I] at this; exact this
 ·obtain ⟨he, v, h1, h2⟩ := hk
  refine ⟨he, v, _, h1, (a7U 0 k zS).trans GWk.refl, _, rfl, h2⟩

section
variable {P : Program} {S0 : List Ob} {ow : List Nat} {fr : Fr} {S : List Ob} {log : List LE}
end
end Go.Ab

/- Plain lemmas of loops: for the laws of what functions compute. -/
namespace Go.Ab

theorem m9 {α : Type} (l : List α) (i : Nat) : j7 l (i : Int) = l[i]? := by unfold j7; rw [if_pos zO]; simp
theorem a0N {α : Type} {l : List α} {i : Int} (h0 : 0 <= i) (h : i.toNat < l.length) : j7 l i = some (l[i.toNat]) := by unfold j7; rw [if_pos h0, List.getElem?_eq_getElem h]
theorem a2n {x : Int} (h : -9223372036854775808 <= x /\ x <= 9223372036854775807) : I64 x = x := b9c h
theorem b0R {x : Int} (h : 0 <= x /\ x <= 18446744073709551615) : U64 x = x := by
 show IntKind.u64.wrap x = x
 simp [IntKind.wrap, IntKind.bits, IntKind.signed]; omega
theorem a4l {σ ρ : Type} {body : σ -> Option (Stp σ ρ)} {n : Nat} {s s' : σ} (h : body s = some (.nxt s')) : whileN body (n + 1) s = whileN body n s' := by simp only [whileN, h]
theorem a5i {σ ρ : Type} {body : σ -> Option (Stp σ ρ)} {n : Nat} {s s' : σ} (h : body s = some (.brk s')) : whileN body (n + 1) s = some (.fin s') := by simp only [whileN, h]
theorem a7l {σ ρ : Type} {body : σ -> Option (Stp σ ρ)} {n : Nat} {s : σ} {v : ρ} (h : body s = some (.ret v)) : whileN body (n + 1) s = some (.ret v) := by simp only [whileN, h]
def bs (c : Nat -> Int) (i j : Nat) : Nat :=
 if h : i < j then (if c ((i + j) / 2) < 0 then bs c ((i + j) / 2 + 1) j else bs c i ((i + j) / 2)) else i
termination_by j - i
decreasing_by all_goals omega
open Go Go.RowKit

theorem rangeL_inv {α σ ρ : Type} {body : Nat -> α -> σ -> Option (Stp σ ρ)} (ok : α -> Bool) (v : ρ) (Inv : Nat -> σ -> Prop) : ∀ (xs : List α) (k : Nat) (s : σ), Inv k s ->
  (∀ i x s, xs[i]? = some x -> Inv (k + i) s -> if ok x = true then ∃ s', body (k + i) x s = some (.nxt s') /\ Inv (k + i + 1) s' else body (k + i) x s = some (.ret v)) ->
  if xs.all ok = true then ∃ s', a0Q body xs k s = some (.fin s') /\ Inv (k + xs.length) s' else a0Q body xs k s = some (.ret v)
 | [], k, s, hi, h => by simp only [List.all_nil, if_true, a0Q]; exact ⟨s, rfl, by simpa using hi⟩
 | x :: r, k, s, hi, h => by
   have h0 := h 0 x s rfl hi
   cases hx : ok x with
   | false =>
     rw [hx] at h0
     simp only [Nat.add_zero, Bool.false_eq_true, if_false] at h0
     simp only [List.all_cons, hx, Bool.false_and, Bool.false_eq_true, if_false, a0Q, h0]
   | true =>
     rw [hx] at h0
     simp only [Nat.add_zero, if_true] at h0
     obtain ⟨s', e1, e2⟩ := h0
     have := rangeL_inv ok v Inv r (k + 1) s' e2 (fun i y s hy hs => by
      have := h (i + 1) y s (by simpa using hy) (by rwa [show k + (i + 1) = k + 1 + i by omega])
      rwa [show k + (i + 1) = k + 1 + i by omega] at this)
     simp only [List.all_cons, hx, Bool.true_and, a0Q, e1, List.length_cons]
     rw [show k + (r.length + 1) = k + 1 + r.length by omega]
     exact this
theorem rng_inv {α σ ρ : Type} {body : Nat -> α -> σ -> Option (Stp σ ρ)} {xs : List α} {s0 : σ} (ok : α -> Bool) (v : ρ) (Inv : Nat -> σ -> Prop) (hl : xs.length <= 4611686018427387904) (h0 : Inv 0 s0)
  (h : ∀ i x s, xs[i]? = some x -> Inv i s -> if ok x = true then ∃ s', body i x s = some (.nxt s') /\ Inv (i + 1) s' else body i x s = some (.ret v)) :
  if xs.all ok = true then ∃ s', rng body xs s0 = some (.fin s') /\ Inv xs.length s' else rng body xs s0 = some (.ret v) := by
 unfold rng
 rw [if_pos hl]
 have := rangeL_inv ok v Inv xs 0 s0 h0 (fun i x s hx hs => by simpa using h i x s hx (by simpa using hs))
 simpa using this
theorem rangeN_inv {σ ρ : Type} {body : Nat -> σ -> Option (Stp σ ρ)} (Inv : Nat -> σ -> Prop) : ∀ (n k : Nat) (s : σ), Inv k s ->
  (∀ i s, k <= i -> i < k + n -> Inv i s -> ∃ s', body i s = some (.nxt s') /\ Inv (i + 1) s') -> ∃ s', a0R body n k s = some (.fin s') /\ Inv (k + n) s'
 | 0, k, s, hi, h => ⟨s, rfl, hi⟩
 | n + 1, k, s, hi, h => by
   obtain ⟨s', e1, e2⟩ := h k s zO zO hi
   obtain ⟨s2, e3, e4⟩ := rangeN_inv Inv n (k + 1) s' e2 (fun i s a b c => h i s zO zO c)
   exact ⟨s2, by simp only [a0R, e1, e3], by rwa [show k + (n + 1) = k + 1 + n by omega]⟩
theorem rni_inv {σ ρ : Type} {body : Nat -> σ -> Option (Stp σ ρ)} {n : Int} {s0 : σ} (Inv : Nat -> σ -> Prop) (hn : n <= 4611686018427387904) (h0 : Inv 0 s0)
  (h : ∀ (i : Nat) s, (i : Int) < n -> Inv i s -> ∃ s', body i s = some (.nxt s') /\ Inv (i + 1) s') : ∃ s', rni body n s0 = some (.fin s') /\ Inv n.toNat s' := by
 unfold rni
 rw [if_pos hn]
 obtain ⟨s', a, b⟩ := rangeN_inv (body := body) Inv n.toNat 0 s0 h0 (fun i s _ hi hs => h i s zO hs)
 exact ⟨s', a, by simpa using b⟩
theorem appL_of {α : Type} {b : Nat} {l m : List α} (h : (l.length + m.length) * b <= 140737488355328 /\ l.length + m.length <= 140737488355328) : a1d b l m = some (l ++ m) := if_pos h
theorem appL1 {l m : List Int} (h : l.length + m.length <= 140737488355328) : a1d 1 l m = some (l ++ m) := appL_of zO

theorem whileN_ex {σ ρ : Type} {body : σ -> Option (Stp σ ρ)} (Inv : σ -> Prop) (μ : σ -> Nat) (Q : Out σ ρ -> Prop)
  (h : ∀ s, Inv s -> (∃ s', body s = some (.nxt s') /\ Inv s' /\ μ s' < μ s) \/ (∃ s', body s = some (.brk s') /\ Q (.fin s')) \/ (∃ v, body s = some (.ret v) /\ Q (.ret v))) :
  ∀ (n : Nat) (s : σ), Inv s -> μ s < n -> ∃ o, whileN body n s = some o /\ Q o
 | 0, s, _, hn => by omega
 | n + 1, s, hi, hn => by
   rcases h s hi with ⟨s', h1, h2, h3⟩ | ⟨s', h1, h2⟩ | ⟨v, h1, h2⟩
   ·rw [a4l h1]; exact whileN_ex Inv μ Q h n s' h2 zO
   ·rw [a5i h1]; exact ⟨_, rfl, h2⟩
   ·rw [a7l h1]; exact ⟨_, rfl, h2⟩
theorem rangeL_ex {α σ ρ : Type} {body : Nat -> α -> σ -> Option (Stp σ ρ)} (Inv : Nat -> σ -> Prop) (Q : Out σ ρ -> Prop) : ∀ (xs : List α) (k : Nat) (s : σ), Inv k s ->
  (∀ i x s, xs[i]? = some x -> Inv (k + i) s -> (∃ s', body (k + i) x s = some (.nxt s') /\ Inv (k + i + 1) s') \/ ∃ v, body (k + i) x s = some (.ret v) /\ Q (.ret v)) ->
  (∀ s, Inv (k + xs.length) s -> Q (.fin s)) -> ∃ o, a0Q body xs k s = some o /\ Q o
 | [], k, s, hi, h, hQ => ⟨_, rfl, hQ s (by simpa using hi)⟩
 | x :: r, k, s, hi, h, hQ => by
   rcases h 0 x s rfl (by simpa using hi) with ⟨s', e1, e2⟩ | ⟨v, e1, e2⟩
   ·simp only [Nat.add_zero] at e1 e2
    simp only [a0Q, e1]
    refine rangeL_ex Inv Q r (k + 1) s' e2 (fun i y s hy hs => ?_) (fun s hs => hQ s (by rw [List.length_cons]; rwa [show k + (r.length + 1) = k + 1 + r.length by omega]))
    have := h (i + 1) y s (by simpa using hy) (by rwa [show k + (i + 1) = k + 1 + i by omega])
    rwa [show k + (i + 1) = k + 1 + i by omega] at this
   ·simp only [Nat.add_zero] at e1
    simp only [a0Q, e1]
    exact ⟨_, rfl, e2⟩
theorem rng_ex {α σ ρ : Type} {body : Nat -> α -> σ -> Option (Stp σ ρ)} {xs : List α} {s0 : σ} (Inv : Nat -> σ -> Prop) (Q : Out σ ρ -> Prop) (hl : xs.length <= 4611686018427387904) (h0 : Inv 0 s0)
  (h : ∀ i x s, xs[i]? = some x -> Inv i s -> (∃ s', body i x s = some (.nxt s') /\ Inv (i + 1) s') \/ ∃ v, body i x s = some (.ret v) /\ Q (.ret v)) (hQ : ∀ s, Inv xs.length s -> Q (.fin s)) : ∃ o, rng body xs s0 = some o /\ Q o := by
 unfold rng
 rw [if_pos hl]
 exact rangeL_ex Inv Q xs 0 s0 h0 (fun i x s hx hs => by simpa using h i x s hx (by simpa using hs)) (fun s hs => hQ s (by simpa using hs))
theorem rangeN_ex {σ ρ : Type} {body : Nat -> σ -> Option (Stp σ ρ)} (Inv : Nat -> σ -> Prop) (Q : Out σ ρ -> Prop) : ∀ (n k : Nat) (s : σ), Inv k s ->
  (∀ i s, k <= i -> i < k + n -> Inv i s -> (∃ s', body i s = some (.nxt s') /\ Inv (i + 1) s') \/ ∃ v, body i s = some (.ret v) /\ Q (.ret v)) ->
  (∀ s, Inv (k + n) s -> Q (.fin s)) -> ∃ o, a0R body n k s = some o /\ Q o
 | 0, k, s, hi, h, hQ => ⟨_, rfl, hQ s hi⟩
 | n + 1, k, s, hi, h, hQ => by
   rcases h k s zO zO hi with ⟨s', e1, e2⟩ | ⟨v, e1, e2⟩
   ·simp only [a0R, e1]
    exact rangeN_ex Inv Q n (k + 1) s' e2 (fun i s a b c => h i s zO zO c) (fun s hs => hQ s (by rwa [show k + (n + 1) = k + 1 + n by omega]))
   ·simp only [a0R, e1]
    exact ⟨_, rfl, e2⟩
theorem rni_ex {σ ρ : Type} {body : Nat -> σ -> Option (Stp σ ρ)} {n : Int} {s0 : σ} (Inv : Nat -> σ -> Prop) (Q : Out σ ρ -> Prop) (hn : n <= 4611686018427387904) (h0 : Inv 0 s0)
  (h : ∀ (i : Nat) s, (i : Int) < n -> Inv i s -> (∃ s', body i s = some (.nxt s') /\ Inv (i + 1) s') \/ ∃ v, body i s = some (.ret v) /\ Q (.ret v)) (hQ : ∀ s, Inv n.toNat s -> Q (.fin s)) : ∃ o, rni body n s0 = some o /\ Q o := by
 unfold rni
 rw [if_pos hn]
 exact rangeN_ex Inv Q n.toNat 0 s0 h0 (fun i s _ hi hs => h i s zO hs) (fun s hs => hQ s (by simpa using hs))

theorem toList_loop (bs : ByteArray) : ∀ (d i : Nat) (r : List UInt8), bs.size - i = d -> ByteArray.toList.loop bs i r = r.reverse ++ bs.data.toList.drop i
 | 0, i, r, h => by
   rw [ByteArray.toList.loop.eq_1, if_neg zO]
   rw [List.drop_eq_nil_of_le (by have : bs.data.toList.length = bs.size := by rw [Array.length_toList]; rfl
                                  omega)]
   simp
 | d + 1, i, r, h => by
   have hlt : i < bs.data.toList.length := by
    have : bs.data.toList.length = bs.size := by rw [Array.length_toList]; rfl
    omega
   rw [ByteArray.toList.loop.eq_1, if_pos zO, toList_loop bs d (i + 1) _ zO]
   rw [List.drop_eq_getElem_cons hlt]
   have : bs.get! i = bs.data.toList[i] := by
    simp only [ByteArray.get!]
    rw [getElem!_pos bs.data i (by simpa using hlt)]
    simp
   rw [this]
   simp
theorem toList_data (bs : ByteArray) : bs.toList = bs.data.toList := by
 rw [ByteArray.toList.eq_1, toList_loop bs _ 0 [] rfl]; simp
theorem eqS (a b : ByteArray) : (ByteArray.toList a == ByteArray.toList b) = decide (a = b) := by
 rw [toList_data, toList_data]
 by_cases h : a = b
 ·subst h; simp
 ·rw [decide_eq_false h]
  rw [beq_eq_false_iff_ne]
  intro e
  apply h
  cases a; cases b
  simp only [ByteArray.mk.injEq]
  simp only at e
  exact Array.toList_inj.1 e
theorem jp_gen {σ β : Type} {K : σ -> Option β} {f : (σ -> Option β) -> Option β} {r : Option β} (P : (σ -> Option β) -> Prop) (h1 : P K) (h2 : ∀ K, P K -> f K = r) : jp K f = r := h2 K h1
theorem jp_ite {σ β : Type} (c : Bool) (a b : σ) (K : σ -> Option β) : jp K (fun k => if c = true then k a else k b) = K (if c = true then a else b) := by unfold jp; cases c <;> rfl
open Go.RowKit
variable {P : Program} {N : Nat}

def Rd (P : Program) (N : Nat) {α : Type} (f : α -> AV) (Q : α -> Prop) (t : TypeId) : Prop := ∀ avs, Ty P N t avs -> ∃ a, avs = (f a).cells /\ Q a

theorem rdI {t k} (h : P.underlying t = some (.int k)) : Rd P N (avI k) (fun n => (Lit.int k n).wf = true) t := by
 intro avs ht
 cases ht with
 | bool h' => rw [h] at h'; cases h'
 | int h' hw => rw [h] at h'; cases h'; exact ⟨_, rfl, hw⟩
 | str h' => rw [h] at h'; cases h'
 | sl h' => rw [h] at h'; cases h'
 | struct h' => rw [h] at h'; cases h'
theorem rdB {t} (h : P.underlying t = some .bool) : Rd P N avB (fun _ => True) t := by
 intro avs ht
 cases ht with
 | bool h' => exact ⟨_, rfl, trivial⟩
 | int h' => rw [h] at h'; cases h'
 | str h' => rw [h] at h'; cases h'
 | sl h' => rw [h] at h'; cases h'
 | struct h' => rw [h] at h'; cases h'
def c1F (P : Program) (e : TypeId) (esh : Option Nat) : Prop := match esh with | some _ => ∃ fs, P.underlying e = some (.struct fs) | none => ∀ fs, P.underlying e ≠ some (.struct fs)

theorem b3h {α : Type} {f : α -> AV} {esh : Option Nat} {e : TypeId} (he : Enc f esh) (hf : c1F P e esh) {x : AV} {a : α} (hc : x.cells = (f a).cells)
  (hx : ((∃ fs, P.underlying e = some (.struct fs)) /\ ∃ cs, x = .agg cs) \/ ((∀ fs, P.underlying e ≠ some (.struct fs)) /\ x.cells = [x])) : x = f a := by
 have h := he.form a
 cases esh with
 | none =>
   rcases hx with ⟨⟨fs, h1⟩, _⟩ | ⟨_, h1⟩
   ·exact (hf fs h1).elim
   ·rw [h1] at hc
    have h2 : (f a).cells = [f a] := h
    rw [h2] at hc
    exact (List.cons.inj hc).1
 | some n =>
   have h2 : f a = .agg (f a).cells := h
   rcases hx with ⟨_, cs, rfl⟩ | ⟨h1, _⟩
   ·rw [h2, <- hc]; rfl
   ·obtain ⟨fs, h3⟩ := hf
    exact (h1 fs h3).elim

theorem rdL {α : Type} {f : α -> AV} {Q : α -> Prop} {esh : Option Nat} {t e : TypeId} (he : Enc f esh) (hf : c1F P e esh) (h : P.underlying t = some (.slice e)) {sz : Nat} (hc : P.cellsOf e = sz) (hr : Rd P N f Q e) : Rd P N (avL sz f) (fun l => l.length <= N /\ ∀ a ∈ l, Q a) t := by
 intro avs ht
 cases ht with
 | bool h' => rw [h] at h'; cases h'
 | int h' => rw [h] at h'; cases h'
 | str h' => rw [h] at h'; cases h'
 | struct h' => rw [h] at h'; cases h'
 | sl h' hl hx ha =>
   rename_i e' xs
   rw [h] at h'; cases h'
   have key : ∀ y ∈ xs, ∃ a, y = f a /\ Q a := fun y hy => by
    obtain ⟨a, h1, h2⟩ := hr _ (hx y hy)
    exact ⟨a, b3h he hf h1 (ha y hy), h2⟩
   obtain ⟨l, rfl, hq⟩ := b1z key
   refine ⟨l, ?_, by simpa using hl, hq⟩
   rw [hc]; rfl

theorem a6t {t fs avs} (h : P.underlying t = some (.struct fs)) (ht : Ty P N t avs) : avs.length = P.cellsOf t /\ ∀ (i : Nat) (f : Field), fs[i]? = some f -> Ty P N f.type ((avs.drop f.offset).take (P.cellsOf f.type)) := by
 cases ht with
 | bool h' => rw [h] at h'; cases h'
 | int h' => rw [h] at h'; cases h'
 | str h' => rw [h] at h'; cases h'
 | sl h' => rw [h] at h'; cases h'
 | struct h' hl hf => rw [h] at h'; cases h'; exact ⟨hl, hf⟩
theorem a2T {cs xs rest : List AV} {o s : Nat} (h : (cs.drop o).take s = xs) (k : cs.drop (o + s) = rest) : cs.drop o = xs ++ rest := by
 rw [<- h, <- k, <- List.drop_drop, List.take_append_drop]
theorem b3i {cs : List AV} {n : Nat} (h : cs.length = n) : cs.drop n = [] := List.drop_eq_nil_of_le zO

theorem b3j {α : Type} {f : α -> AV} {Q : α -> Prop} {esh : Option Nat} {t : TypeId} (he : Enc f esh) (hf : c1F P t esh) (hr : Rd P N f Q t) {x : AV} (h : Arg P N t x) : ∃ a, x = f a /\ Q a := by
 obtain ⟨a, h1, h2⟩ := hr _ h.1
 exact ⟨a, b3h he hf h1 h.2, h2⟩
end Go.Ab

/- From a reading of an argument that is an array. -/
namespace Go.Ab
open Go.RowKit
variable {H : Type} {enc : TypeId × Value -> H} {P : Program} {W : World} {bk : DataW H -> Nat} {N : Nat}
end Go.Ab

/- A list whose last element's list is an object of its own. -/
namespace Go.Ab
open Go Go.RowKit
section
variable {α β : Type} {f : α -> AV} {esh : Option Nat}
theorem RnL.set {R : Rn} {cs : List AV} {j : Nat} {u v : AV} (hb : a1T 0 cs = true) (h : RnV R u v) : RnL R 0 (cs.set j u) (cs.set j v) := by
 refine ⟨by simp, fun i h1 h2 => ?_⟩
 simp only [Nat.zero_add] at h1 ⊢
 simp only [List.getElem_set]
 by_cases hj : j = i
 ·simp only [hj, if_true]; exact h
 ·simp only [hj, if_false]; exact .base (a0A hb i (by simpa using h1)) (.refl _)
variable {P : Program} {S0 : List Ob} {ow : List Nat} {fr : Fr} {S : List Ob} {log : List LE}
theorem c1G {d a sh rs} {K : Fr -> List Ob -> List LE -> Prop} {o ver p} {cs : List AV} {v : AV} (e : ev (Fr.get fr) a = .ptr o ver p) (ho : hp S o = .arr ver cs)
  (hv : a0G sh cs p = some v) (h : VTops P ow rs ((d, v) :: fr) S (.acc [o] none :: log) K) : VTops P ow (⟨some d, none, .op (.load sh a)⟩ :: rs) fr S log K := by
 refine t8 (v := v) (v' := v) (rd := [o]) (δ := none) (S' := S) ?_ rfl rfl h
 simp only [opV, e, a9J, y9, ho, if_true, Option.bind_some, hv, Option.map_some]
theorem c1H {a x nn rs} {K : Fr -> List Ob -> List LE -> Prop} {o ver p} {cs : List AV} {S' : List Ob} {xv : AV} (e : ev (Fr.get fr) a = .ptr o ver p) (ex : ev (Fr.get fr) x = xv) (ho : hp S o = .arr ver cs)
  (hx : xv.cells.length = nn) (h1 : xv.cells.all AV.one = true) (hfit : p + nn <= cs.length) (hS : a0M S o (.arr ver (splice cs p xv.cells)) = S')
  (h : VTops P ow rs fr S' (.acc [o] (some o) :: log) K) : VTops P ow (⟨none, none, .op (.store nn a x)⟩ :: rs) fr S log K := by
 refine a5d (v := .tup []) (rd := []) (δ := some (o, .arr ver (splice cs p xv.cells))) (S' := S') ?_ hS h
 simp only [opV, e, ex, a8M, y9, ho, if_true, Option.bind_some]
 rw [if_pos ⟨hx, hfit, h1⟩]
end
end Go.Ab

/- A list of which one element (number k, if it is there) has a list that is an object of its own. -/
namespace Go.Ab
open Go Go.RowKit
section
variable {α β : Type} {f : α -> AV} {esh : Option Nat}
variable {P : Program} {S0 : List Ob} {ow : List Nat} {fr : Fr} {S : List Ob} {log : List LE}
end
end Go.Ab

/- Heaps told by the objects that matter; contracts with a frame; steps over them. -/
namespace Go.Ab
open Go Go.RowKit

abbrev It := Nat × Nat × List AV
def Sep (S : List Ob) (L : List It) : Prop := (∀ p ∈ L, hp S p.1 = .arr p.2.1 p.2.2) /\ (L.map (·.1)).Nodup
section
variable {S : List Ob} {L L' L0 L1 A B C R : List It} {o v v' : Nat} {cs cs' : List AV} {p p' q : It}
theorem Sep.at (h : Sep S L) (m : (o, v, cs) ∈ L) : hp S o = .arr v cs := h.1 _ m
theorem Sep.nil : Sep S [] := ⟨fun _ h => by simp at h, by simp⟩
theorem Sep.perm (h : Sep S L) (k : L.Perm L') : Sep S L' := ⟨fun p hm => h.1 p (k.mem_iff.2 hm), (k.map _).nodup_iff.1 h.2⟩
theorem Sep.sub (h : Sep S L) (k : L'.Sublist L) : Sep S L' := ⟨fun p hm => h.1 p (k.subset hm), h.2.sublist (k.map _)⟩
theorem Sep.left (h : Sep S (A ++ B)) : Sep S A := h.sub (List.sublist_append_left A B)
theorem Sep.lt (h : Sep S L) (m : p ∈ L) : p.1 < S.length := a6Q (h.1 p m)
theorem a0u {i : Nat} {x : Ob} (h : i ≠ o) : hp (a0M S o x) i = hp S i := by rw [a2P, r9 _ _ h]
theorem a1p {x : Ob} : hp (a0M S o x) o = x := by rw [a2P, a2L]
theorem Sep.set (h : Sep S ((o, v, cs) :: L)) : Sep (a0M S o (.arr v' cs')) ((o, v', cs') :: L) := by
 have hn := h.2
 simp only [List.map_cons, List.nodup_cons] at hn
 refine ⟨fun p hm => ?_, by simpa only [List.map_cons, List.nodup_cons] using hn⟩
 rcases List.mem_cons.1 hm with rfl | hm
 ·exact a1p
 ·have hne : p.1 ≠ o := fun e => hn.1 (by rw [<- e]; exact List.mem_map_of_mem hm)
  rw [a0u hne]
  exact h.1 p (List.mem_cons_of_mem _ hm)
theorem Sep.new (h : Sep S L) : Sep (a0M S S.length (.arr v cs)) ((S.length, v, cs) :: L) := by
 refine ⟨fun p hm => ?_, ?_⟩
 ·rcases List.mem_cons.1 hm with rfl | hm
  ·exact a1p
  ·rw [a0u (fun e => by have := h.lt hm; omega)]
   exact h.1 p hm
 ·simp only [List.map_cons, List.nodup_cons]
  refine ⟨fun hm => ?_, h.2⟩
  obtain ⟨p, hp1, hp2⟩ := List.mem_map.1 hm
  have := h.lt hp1
  omega
def Rp (L : List It) (p p' : It) (L' : List It) : Prop := p.1 = p'.1 /\ ∃ A B, L = A ++ p :: B /\ L' = A ++ p' :: B
theorem Rp.here (e : p.1 = p'.1 := by rfl) : Rp (p :: L) p p' (p' :: L) := ⟨e, [], L, rfl, rfl⟩
theorem Rp.there (h : Rp L p p' L') : Rp (q :: L) p p' (q :: L') := by
 obtain ⟨e, A, B, rfl, rfl⟩ := h
 exact ⟨e, q :: A, B, rfl, rfl⟩
theorem Rp.skip (h : Rp L p p' L') : Rp (C ++ L) p p' (C ++ L') := by
 obtain ⟨e, A, B, rfl, rfl⟩ := h
 exact ⟨e, C ++ A, B, by simp, by simp⟩
theorem Rp.mem (h : Rp L p p' L') : p ∈ L := by obtain ⟨_, A, B, rfl, rfl⟩ := h; simp
theorem a5Q {α : Type} {A B : List α} {x : α} : (A ++ x :: B).Perm (x :: (A ++ B)) := List.perm_middle
theorem Sep.rp (h : Sep S L) (k : Rp L (o, v, cs) (o, v', cs') L') : Sep (a0M S o (.arr v' cs')) L' := by
 obtain ⟨_, A, B, rfl, rfl⟩ := k
 exact (Sep.set (h.perm a5Q)).perm a5Q.symm
def Pk (L : List It) (p : It) (L0 : List It) : Prop := L.Perm (p :: L0)
def PkC (L C L0 : List It) : Prop := L.Perm (C ++ L0)
def Spl (L L1 R : List It) : Prop := L.Perm (L1 ++ R)
theorem Pk.here : Pk (p :: L) p L := .refl _
theorem Pk.there (h : Pk L p L0) : Pk (q :: L) p (q :: L0) := (List.Perm.cons q h).trans (.swap _ _ _)
theorem Pk.skip (h : Pk L p L0) : Pk (C ++ L) p (C ++ L0) := (List.Perm.append_left C h).trans a5Q
theorem PkC.here : PkC (C ++ L) C L := .refl _
theorem PkC.there (h : PkC L C L0) : PkC (q :: L) C (q :: L0) := (List.Perm.cons q h).trans a5Q.symm
theorem PkC.skip (h : PkC L C L0) : PkC (A ++ L) C (A ++ L0) := by
 refine (List.Perm.append_left A h).trans ?_
 rw [<- List.append_assoc, <- List.append_assoc]
 exact List.Perm.append_right _ List.perm_append_comm
theorem PkC.all : PkC C C [] := by unfold PkC; rw [List.append_nil]
theorem Spl.nil : Spl L [] L := .refl _
theorem Spl.cons (h : Pk L p L0) (k : Spl L0 L1 R) : Spl L (p :: L1) R := h.trans (List.Perm.cons p k)
theorem Spl.app (h : PkC L C L0) (k : Spl L0 L1 R) : Spl L (C ++ L1) R := by
 refine h.trans ((List.Perm.append_left C k).trans ?_)
 rw [List.append_assoc]
theorem Spl.last (h : PkC L C L0) : Spl L C L0 := h
theorem Sep.spl (h : Sep S L) (k : Spl L L1 R) : Sep S (L1 ++ R) := h.perm k
theorem Sep.take (h : Sep S L) (k : Spl L L1 R) : Sep S L1 := (h.perm k).left
end

def Tri (P : Program) (f : FuncId) (args : List AV) (L : List It) (Q : AV -> List It -> Prop) : Prop :=
 ∀ R S, Sep S (L ++ R) -> ∃ r S', Ev P f args (hp S) r (hp S') /\ ∃ L', Q r L' /\ Sep S' (L' ++ R)
section
variable {P : Program} {f : FuncId} {args : List AV} {L L0 : List It} {Q Q' : AV -> List It -> Prop}
theorem Tri.mono (h : Tri P f args L Q) (k : ∀ r L', Q r L' -> Q' r L') : Tri P f args L Q' := fun R S hS => by
 obtain ⟨r, S', h1, L', h2, h3⟩ := h R S hS
 exact ⟨r, S', h1, L', k _ _ h2, h3⟩
theorem b9r {n : Nat} {ts : List RS} {fc : FC} (hm : P.follows .mixedOrders = true) (hfn : Fn3 P f n ts fc) (hn : args.length <= n) {S : List Ob} (ow : List Nat) {Q : AV -> List Ob -> Prop}
  (h : VT P S ow fc (a2a 0 args) S (fun e fr1 S1 => a6i e /\ ∃ v, a3C S1 (Fr.get fr1) ts = some v /\ Q v S1)) : ∃ r S', Ev P f args (hp S) r (hp S') /\ Q r S' := by
 obtain ⟨e, fr', S', ⟨he, v, h1, h2⟩, h3⟩ := b8Y h
 exact ⟨v, S', a4E hm hfn hn ow (h3 _ ⟨he, v, _, h1, GWk.refl, .refl _⟩), h2⟩
theorem i8 {n : Nat} {ts : List RS} {fc : FC} (hm : P.follows .mixedOrders = true) (hfn : Fn3 P f n ts fc) (hn : args.length <= n) (ow : List Nat)
  (h : ∀ R S, Sep S (L ++ R) -> VT P S ow fc (a2a 0 args) S (fun e fr1 S1 => a6i e /\ ∃ v, a3C S1 (Fr.get fr1) ts = some v /\ ∃ L', Q v L' /\ Sep S1 (L' ++ R))) : Tri P f args L Q := fun R S hS =>
 b9r hm hfn hn ow (h R S hS)
end

section
variable {P : Program} {S0 : List Ob} {ow : List Nat} {fr : Fr} {S : List Ob} {log : List LE} {L L' L0 L1 R : List It} {α : Type} {f : α -> AV} {esh : Option Nat}
theorem c9 {d a sh rs} {K : Fr -> List Ob -> List LE -> Prop} {o ver p} {cs : List AV} {v : AV} (hS : Sep S L) (e : ev (Fr.get fr) a = .ptr o ver p) (hm : (o, ver, cs) ∈ L)
  (hv : a0G sh cs p = some v) (h : VTops P ow rs ((d, v) :: fr) S (.acc [o] none :: log) K) : VTops P ow (⟨some d, none, .op (.load sh a)⟩ :: rs) fr S log K := c1G e (hS.at hm) hv h
theorem E_stS {a x nn rs} {K : Fr -> List Ob -> List LE -> Prop} {o ver p} {cs : List AV} {xv : AV} (hS : Sep S L) (e : ev (Fr.get fr) a = .ptr o ver p) (ex : ev (Fr.get fr) x = xv)
  (hr : Rp L (o, ver, cs) (o, ver, splice cs p xv.cells) L') (hx : xv.cells.length = nn) (h1 : xv.cells.all AV.one = true) (hfit : p + nn <= cs.length)
  (h : ∀ S', Sep S' L' -> VTops P ow rs fr S' (.acc [o] (some o) :: log) K) : VTops P ow (⟨none, none, .op (.store nn a x)⟩ :: rs) fr S log K :=
 c1H e ex (hS.at hr.mem) hx h1 hfit rfl (h _ (hS.rp hr))
theorem a5G {d cs rs} {K : Fr -> List Ob -> List LE -> Prop} (hS : Sep S L) (how : ow.contains d = true) (h : ∀ o S', Sep S' ((o, 0, cs) :: L) -> VTops P ow rs ((d, .ptr o 0 0) :: fr) S' (.acc [o] (some o) :: log) K) :
  VTops P ow (⟨some d, none, .op (.new cs)⟩ :: rs) fr S log K := by
 refine t8 (v := .ptr S.length 0 0) (rd := []) (δ := some (S.length, .arr 0 cs)) ?_ rfl rfl (h _ _ hS.new)
 simp only [opV, b8w, how, if_true]
theorem a8b {d x rs} {K : Fr -> List Ob -> List LE -> Prop} {xv : AV} (hS : Sep S L) (how : ow.contains d = true) (e : ev (Fr.get fr) x = xv) (hj : xv.nj = true) (h : ∀ o S', Sep S' ((o, 0, xv.cells) :: L) -> VTops P ow rs ((d, .ptr o 0 0) :: fr) S' (.acc [o] (some o) :: log) K) :
  VTops P ow (⟨some d, none, .op (.box x)⟩ :: rs) fr S log K := by
 refine t8 (v := .ptr S.length 0 0) (rd := []) (δ := some (S.length, .arr 0 xv.cells)) ?_ rfl rfl (h _ _ hS.new)
 simp only [opV, b8w, how, if_true, e, hj]
theorem b9s {d} {bytes : Nat} {z l c rs} {K : Fr -> List Ob -> List LE -> Prop} {k k' n n'} {x : α} (hS : Sep S L) (he : Enc f esh) (how : ow.contains d = true) (e : ev (Fr.get fr) l = .int k n) (e1 : ev (Fr.get fr) c = .int k' n') (hz : (f x).cells = z)
  (hn : 0 <= n /\ n <= n' /\ n' * bytes <= 281474976710656 /\ n' <= 281474976710656)
  (h : ∀ o S', Sep S' ((o, 0, flat f (List.replicate n.toNat x)) :: L) -> VTops P ow rs ((d, .ref o 0 0 n.toNat esh) :: fr) S' (.acc [o] (some o) :: log) K) : VTops P ow (⟨some d, none, .op (.mksl esh bytes z l c)⟩ :: rs) fr S log K :=
 b9h he how e e1 hz hn rfl (h _ _ hS.new)
theorem b3k (he : Enc f esh) (l : List α) (x : List AV) : (flat f l ++ x).take (l.length * f5 esh) = flat f l := by
 rw [<- he.length l, List.take_left]
theorem a4m {d bytes s x rs} {K : Fr -> List Ob -> List LE -> Prop} {o ver : Nat} {l m : List α} {j : List AV} {rdx : List Nat} (hS : Sep S L) (he : Enc f esh) (e : ev (Fr.get fr) s = .ref o ver 0 l.length esh) (e2 : a6L esh (ev (Fr.get fr) x) S = some (m.length, flat f m, rdx))
  (hr : Rp L (o, ver, flat f l ++ j) (o, ver + 1, flat f (l ++ m)) L') (hb : (l.length + m.length) * bytes <= 140737488355328 /\ l.length + m.length <= 140737488355328)
  (h : ∀ S', Sep S' L' -> VTops P ow rs ((d, .ref o (ver + 1) 0 (l ++ m).length esh) :: fr) S' (.acc (o :: o :: rdx) (some o) :: log) K) : VTops P ow (⟨some d, none, .op (.app esh bytes s x)⟩ :: rs) fr S log K := by
 have ho := hS.at hr.mem
 refine t8 (v := .ref o (ver + 1) 0 (l ++ m).length esh) (rd := o :: rdx) (δ := some (o, .arr (ver + 1) (flat f (l ++ m)))) ?_ rfl rfl (h _ (hS.rp hr))
 simp only [opV, b1Q, e, e2, Option.bind_some, he.all, if_true]
 rw [if_pos ⟨trivial, hb.1, hb.2⟩]
 simp only [y9, ho, if_true, Option.map_some, List.drop_zero, b3k he, <- n7, List.length_append]
theorem b6z {d bytes s x rs} {K : Fr -> List Ob -> List LE -> Prop} {m : List α} {rdx : List Nat} (hS : Sep S L) (he : Enc f esh) (how : ow.contains d = true) (e : ev (Fr.get fr) s = .nils \/ ev (Fr.get fr) s = .sl true (f5 esh) []) (e2 : a6L esh (ev (Fr.get fr) x) S = some (m.length, flat f m, rdx))
  (hb : m.length * bytes <= 140737488355328 /\ m.length <= 140737488355328)
  (h : ∀ o S', Sep S' ((o, 0, flat f m) :: L) -> VTops P ow rs ((d, .ref o 0 0 m.length esh) :: fr) S' (.acc (o :: rdx) (some o) :: log) K) : VTops P ow (⟨some d, none, .op (.app esh bytes s x)⟩ :: rs) fr S log K :=
 b9f he how e e2 hb rfl (h _ _ hS.new)
theorem u6 {d f args rs} {K : Fr -> List Ob -> List LE -> Prop} {ags : List AV} {Q : AV -> List It -> Prop} (c : Tri P f ags L1 Q) (hS : Sep S L) (e : evL (Fr.get fr) args = ags) (hp : Spl L L1 R)
  (h : ∀ v S' L', Q v L' -> Sep S' (L' ++ R) -> VTops P ow rs ((d, v) :: fr) S' (.eff S S' :: log) K) : VTops P ow (⟨some d, none, .call f args⟩ :: rs) fr S log K := by
 obtain ⟨r, S', h1, L', h2, h3⟩ := c R S (hS.spl hp)
 exact b2K h1 e (h r S' L' h2 h3)
theorem b3l {d x m args rs t x0 g} {K : Fr -> List Ob -> List LE -> Prop} {ags : List AV} {Q : AV -> List It -> Prop} (c : Tri P g ags L1 Q) (hS : Sep S L) (ex : ev (Fr.get fr) x = .iface t x0) (hm : a3t P t m = some g) (hc : a0k P g = true) (e : x0 :: evL (Fr.get fr) args = ags) (hp : Spl L L1 R)
  (h : ∀ v S' L', Q v L' -> Sep S' (L' ++ R) -> VTops P ow rs ((d, v) :: fr) S' (.eff S S' :: log) K) : VTops P ow (⟨some d, none, .inv x m args⟩ :: rs) fr S log K := by
 obtain ⟨r, S', h1, L', h2, h3⟩ := c R S (hS.spl hp)
 rw [b2H, ex]
 simp only [b5g, hm, e]
 exact ⟨hc, a7R h1 (h r S' L' h2 h3)⟩
theorem b5t {d x args rs g fst caps} {K : Fr -> List Ob -> List LE -> Prop} {ags : List AV} {Q : AV -> List It -> Prop} (c : Tri P g ags L1 Q) (hS : Sep S L) (ex : ev (Fr.get fr) x = .fn (.func g) fst caps) (hc : a0k P g = true) (e : fst ++ evL (Fr.get fr) args ++ caps = ags) (hp : Spl L L1 R)
  (h : ∀ v S' L', Q v L' -> Sep S' (L' ++ R) -> VTops P ow rs ((d, v) :: fr) S' (.eff S S' :: log) K) : VTops P ow (⟨some d, none, .callv x args⟩ :: rs) fr S log K := by
 obtain ⟨r, S', h1, L', h2, h3⟩ := c R S (hS.spl hp)
 rw [a9L, ex, b8W, e]
 exact ⟨hc, a7R h1 (h r S' L' h2 h3)⟩

theorem b9t {a b} {K : Post} {σ : Type} (F : σ -> Fr) (Lf : σ -> List It) (I : σ -> Prop)
  (ha : VT P S0 ow a fr S (Post.thn (fun fr' S' => ∃ s, I s /\ Sep S' (Lf s) /\ Wk S0 fr' S' (F s) S') K)) (hb : ∀ s S, I s -> Sep S (Lf s) -> VT P S0 ow b (F s) S K) : VT P S0 ow (.seq a b) fr S K :=
 v7 (a1I (a1P (fun _ _ ⟨s, h1, h2, h3⟩ => ⟨F s, _, h3, hb s _ h1 h2⟩) (fun _ _ _ h => h)) ha)
theorem s5 {N : Fr -> List Ob -> Prop} {K0 : Post} (h : N fr S) : Post.thn N K0 .normal fr S := h
theorem a2U {a} {K : Post} {σ : Type} (F : σ -> Fr) (Lf : σ -> List It) (I : σ -> Prop) (μ : σ -> Nat) (s0 : σ) (hS : Sep S (Lf s0)) (h0 : I s0) (hw : Wk S0 fr S (F s0) S)
  (h : ∀ s S, I s -> Sep S (Lf s) -> VT P S0 ow a (F s) S (Post.thn (fun fr' S' => ∃ s', I s' /\ μ s' < μ s /\ Sep S' (Lf s') /\ Wk S0 fr' S' (F s') S') K)) : VT P S0 ow (.loop a) fr S K := by
 refine b2L (ι := σ × List Ob) (fun i => F i.1) (fun i => i.2) (fun i => I i.1 /\ Sep i.2 (Lf i.1)) (fun i => μ i.1) (s0, S) ⟨h0, hS⟩ hw (fun i hi => ?_)
 refine a1I (a1P (fun fr' S' hh => ?_) (fun _ _ _ h => h)) (h i.1 i.2 hi.1 hi.2)
 obtain ⟨s', h1, h2, h3, h4⟩ := hh
 exact ⟨(s', S'), ⟨h1, h3⟩, h2, h4⟩
def b9u (S0 : List Ob) {σ : Type} (ti tn id id2 : Nat) (n : Int) (F : σ -> Fr) (Lf : σ -> List It) (I : Nat -> σ -> Prop) (i : Nat) (K : Post) : Post
 | .normal, fr, S => ∃ s, I (i + 1) s /\ Sep S (Lf s) /\ Wk S0 fr S ((ti, .int .i64 i) :: (tn, .int .i64 n) :: F s) S
 | .exit j, fr, S => if j = id2 then ∃ s, I (i + 1) s /\ Sep S (Lf s) /\ Wk S0 fr S ((ti, .int .i64 i) :: (tn, .int .i64 n) :: F s) S else if j = id then K .normal fr S else K (.exit j) fr S
 | e, fr, S => K e fr S
section
variable {σ : Type} {ti tn id id2 : Nat} {n : Int} {F : σ -> Fr} {Lf : σ -> List It} {I : Nat -> σ -> Prop} {i : Nat} {K : Post}
theorem R_n (s : σ) (h1 : I (i + 1) s) (h2 : Sep S (Lf s)) (h3 : Wk S0 fr S ((ti, .int .i64 i) :: (tn, .int .i64 n) :: F s) S) : b9u S0 ti tn id id2 n F Lf I i K .normal fr S := ⟨s, h1, h2, h3⟩
end
theorem b9v {tc ti tn tj id id2 : Nat} {B : FC} {K : Post} {σ : Type} (n : Nat) (F : σ -> Fr) (Lf : σ -> List It) (I : Nat -> σ -> Prop) (s0 : σ) (hS : Sep S (Lf s0)) (h0 : I 0 s0) (hw : Wk S0 fr S ((ti, .int .i64 0) :: (tn, .int .i64 n) :: F s0) S)
  (hn : n <= 4611686018427387904) (h1 : ti ≠ tn) (h2 : tj ≠ tn) (hF : ∀ s, Fr.get (F s) tj = .junk /\ Fr.get (F s) ti = .junk /\ Fr.get (F s) tn = .junk /\ Fr.get (F s) tc = .junk)
  (hb : ∀ i s S, i < n -> I i s -> Sep S (Lf s) -> VT P S0 ow B ((tc, .bool true) :: (ti, .int .i64 i) :: (tn, .int .i64 n) :: F s) S (b9u S0 ti tn id id2 n F Lf I i K))
  (hx : ∀ s fr' S, I n s -> Sep S (Lf s) -> Wk S0 fr' S (F s) S -> K .normal fr' S) :
  VT P S0 ow (.block id (.loop (.seq (.reg [⟨some tc, none, .op (.bin .none .lss (.t ti) (.t tn))⟩] []) (.seq (.cond (.t tc) .skip (.exit id)) (.seq (.block id2 B) (.reg [⟨some tj, none, .op (.bin .none .add (.t ti) (.v (.int .i64 1)))⟩, ⟨some ti, none, .op (.mv (.t tj))⟩] [])))))) fr S K := by
 refine g9 (a2U (fun i : Nat × σ => (ti, .int .i64 i.1) :: (tn, .int .i64 n) :: F i.2) (fun i => Lf i.2) (fun i => i.1 <= n /\ I i.1 i.2) (fun i => n - i.1) (0, s0) hS ⟨Nat.zero_le _, h0⟩ hw (fun i S hi hSi => ?_))
 obtain ⟨i, s⟩ := i
 simp only at hi hSi ⊢
 obtain ⟨hi0, hi⟩ := hi
 refine b6w h1 zO (fun hlt => ?_) (fun hge => ?_)
 ·have hnext : ∀ (s' : σ) (S' : List Ob), I (i + 1) s' -> Sep S' (Lf s') -> ∀ fr3, (∀ t, Fr.get fr3 t = if t = ti then .int .i64 ((i : Int) + 1) else if t = tj then .int .i64 ((i : Int) + 1) else Fr.get ((tn, .int .i64 n) :: F s') t) ->
    Post.thn (fun fr' S' => ∃ i' : Nat × σ, (i'.1 <= n /\ I i'.1 i'.2) /\ n - i'.1 < n - i /\ Sep S' (Lf i'.2) /\ Wk S0 fr' S' ((ti, .int .i64 i'.1) :: (tn, .int .i64 n) :: F i'.2) S') (Post.blk id K) .normal fr3 S' := fun s' S' hI hS' fr3 hg => by
   refine ⟨(i + 1, s'), ⟨by simp only; omega, hI⟩, by simp only; omega, hS', b0N (fun t => ?_)⟩
   rw [hg, get_cons]
   simp only
   by_cases ht : t = ti
   ·left; rw [if_pos ht, if_pos ht]; rfl
   ·rw [if_neg ht, if_neg ht]
    by_cases ht2 : t = tj
    ·right; rw [ht2, get_cons, if_neg h2, (hF s').1]
    ·left; rw [if_neg ht2]
  refine a1I (fun e fr' S' hk => ?_) (hb i s S zO hi hSi)
  cases e with
  | normal =>
    obtain ⟨s', k1, k2, k3⟩ := hk
    exact ⟨_, _, k3, hnext s' S' k1 k2⟩
  | exit j =>
    show Post.blk id2 _ (.exit j) fr' S'
    rw [a6h]
    replace hk : if j = id2 then ∃ s, I (i + 1) s /\ Sep S' (Lf s) /\ Wk S0 fr' S' ((ti, .int .i64 i) :: (tn, .int .i64 n) :: F s) S' else if j = id then K .normal fr' S' else K (.exit j) fr' S' := hk
    by_cases hj : j = id2
    ·rw [if_pos hj] at hk ⊢
     obtain ⟨s', k1, k2, k3⟩ := hk
     exact ⟨_, _, k3, hnext s' S' k1 k2⟩
    ·rw [if_neg hj] at hk ⊢
     show Post.blk id K (.exit j) fr' S'
     rw [a6h]
     exact hk
  | ret => exact hk
  | goto l => exact hk
  | panic l => exact hk
  | outgrown => exact hk
 ·have e1 : i = n := by omega
  subst e1
  show Post.blk id K (.exit id) _ _
  rw [a6h, if_pos rfl]
  refine hx s _ _ hi hSi (b0N (fun t => ?_))
  obtain ⟨_, f1, f2, f3⟩ := hF s
  simp only [get_cons]
  by_cases t1 : t = tc
  ·right; rw [t1]; exact f3
  ·by_cases t2 : t = ti
   ·right; rw [t2]; exact f1
   ·by_cases t3 : t = tn
    ·right; rw [t3]; exact f2
    ·left; rw [if_neg t1, if_neg t2, if_neg t3]
end
end Go.Ab

/- Steps over lists that are objects, told by their elements; with or without cells behind them. -/
namespace Go.Ab
open Go Go.RowKit
section
variable {α : Type} {f : α -> AV} {esh : Option Nat} {l : List α} {n p fo : Nat} {y y' : α} {j : List AV}
theorem c1I (he : Enc f esh) (hy : l[n]? = some y) {sh : Option Nat} {v : AV} (hv : a0G sh (f y).cells fo = some v) (hp : p = n * f5 esh + fo) : a0G sh (flat f l ++ j) p = some v := by
 obtain ⟨a, b, h1, h2, _⟩ := he.at hy
 rw [hp, <- h2, h1, List.append_assoc (a ++ (f y).cells)]
 exact a7Y hv
theorem b9w (he : Enc f esh) (hy : l[n]? = some y) {sh : Option Nat} {v : AV} (hv : a0G sh (f y).cells fo = some v) (hp : p = n * f5 esh + fo) : a0G sh (flat f l) p = some v := by
 obtain ⟨a, b, h1, h2, _⟩ := he.at hy
 rw [hp, <- h2, h1]
 exact a7Y hv
theorem b5u (he : Enc f esh) (hy : l[n]? = some y) : ∃ a b, a.length = n * f5 esh /\ flat f l = a ++ (f y).cells ++ b /\ flat f (l.set n y') = a ++ (f y').cells ++ b := by
 obtain ⟨hn, rfl⟩ := List.getElem?_eq_some_iff.1 hy
 have e2 : l.take n ++ l[n] :: l.drop (n + 1) = l := by rw [<- List.drop_eq_getElem_cons hn, List.take_append_drop]
 refine ⟨flat f (l.take n), flat f (l.drop (n + 1)), by rw [he.length, List.length_take, Nat.min_eq_left zO], ?_, ?_⟩
 ·rw [List.append_assoc, <- a0s, <- n7, e2]
 ·rw [List.set_eq_take_append_cons_drop, if_pos hn, n7, a0s, List.append_assoc]
theorem b6A (he : Enc f esh) (hy : l[n]? = some y) {xs : List AV} (hp : p = n * f5 esh + fo) (hf : fo + xs.length <= f5 esh) (hy' : (f y').cells = splice (f y).cells fo xs) : splice (flat f l ++ j) p xs = flat f (l.set n y') ++ j := by
 obtain ⟨a, b, h2, h1, h3⟩ := b5u (y' := y') he hy
 rw [hp, <- h2, h1, h3, List.append_assoc (a ++ (f y).cells), a4G xs (by rw [he.sz]; exact hf), hy', List.append_assoc (a ++ _)]
theorem b7F (he : Enc f esh) (hy : l[n]? = some y) {xs : List AV} (hp : p = n * f5 esh + fo) (hf : fo + xs.length <= f5 esh) (hy' : (f y').cells = splice (f y).cells fo xs) : splice (flat f l) p xs = flat f (l.set n y') := by
 have := b6A (j := []) he hy hp hf hy'
 simpa using this
theorem b6B (he : Enc f esh) (hy : l[n]? = some y) {m : Nat} (hp : p = n * f5 esh + fo) (hf : fo + m <= f5 esh) : p + m <= (flat f l ++ j).length := by
 have hn := (List.getElem?_eq_some_iff.1 hy).1
 have : (n + 1) * f5 esh <= l.length * f5 esh := Nat.mul_le_mul_right _ hn
 rw [List.length_append, he.length]
 rw [Nat.add_mul] at this
 omega
end
section
variable {P : Program} {S0 : List Ob} {ow : List Nat} {fr : Fr} {S : List Ob} {log : List LE} {L L' L0 L1 R : List It} {α : Type} {f : α -> AV} {esh : Option Nat}
theorem a4n {d a sh rs} {K : Fr -> List Ob -> List LE -> Prop} {o ver p n fo} {l : List α} {j : List AV} {y : α} {v : AV} (hS : Sep S L) (he : Enc f esh) (e : ev (Fr.get fr) a = .ptr o ver p) (hm : (o, ver, flat f l ++ j) ∈ L) (hp : p = n * f5 esh + fo) (hy : l[n]? = some y)
  (hv : a0G sh (f y).cells fo = some v) (h : VTops P ow rs ((d, v) :: fr) S (.acc [o] none :: log) K) : VTops P ow (⟨some d, none, .op (.load sh a)⟩ :: rs) fr S log K := c9 hS e hm (c1I he hy hv hp) h
theorem a7m {d a sh rs} {K : Fr -> List Ob -> List LE -> Prop} {o ver p n fo} {l : List α} {y : α} {v : AV} (hS : Sep S L) (he : Enc f esh) (e : ev (Fr.get fr) a = .ptr o ver p) (hm : (o, ver, flat f l) ∈ L) (hp : p = n * f5 esh + fo) (hy : l[n]? = some y)
  (hv : a0G sh (f y).cells fo = some v) (h : VTops P ow rs ((d, v) :: fr) S (.acc [o] none :: log) K) : VTops P ow (⟨some d, none, .op (.load sh a)⟩ :: rs) fr S log K := c9 hS e hm (b9w he hy hv hp) h
theorem b7G {a x nn rs} {K : Fr -> List Ob -> List LE -> Prop} {o ver p n fo} {l : List α} {j : List AV} {y y' : α} {xv : AV} (hS : Sep S L) (he : Enc f esh) (e : ev (Fr.get fr) a = .ptr o ver p) (ex : ev (Fr.get fr) x = xv) (hp : p = n * f5 esh + fo) (hy : l[n]? = some y)
  (hr : Rp L (o, ver, flat f l ++ j) (o, ver, flat f (l.set n y') ++ j) L') (hx : xv.cells.length = nn) (h1 : xv.cells.all AV.one = true) (hfit : fo + nn <= f5 esh) (hy' : (f y').cells = splice (f y).cells fo xv.cells)
  (h : ∀ S', Sep S' L' -> VTops P ow rs fr S' (.acc [o] (some o) :: log) K) : VTops P ow (⟨none, none, .op (.store nn a x)⟩ :: rs) fr S log K :=
 E_stS hS e ex (by rw [b6A he hy hp (by rw [hx]; exact hfit) hy']; exact hr) hx h1 (b6B he hy hp hfit) h
theorem a8Y {a x nn rs} {K : Fr -> List Ob -> List LE -> Prop} {o ver p n fo} {l : List α} {y y' : α} {xv : AV} (hS : Sep S L) (he : Enc f esh) (e : ev (Fr.get fr) a = .ptr o ver p) (ex : ev (Fr.get fr) x = xv) (hp : p = n * f5 esh + fo) (hy : l[n]? = some y)
  (hr : Rp L (o, ver, flat f l) (o, ver, flat f (l.set n y')) L') (hx : xv.cells.length = nn) (h1 : xv.cells.all AV.one = true) (hfit : fo + nn <= f5 esh) (hy' : (f y').cells = splice (f y).cells fo xv.cells)
  (h : ∀ S', Sep S' L' -> VTops P ow rs fr S' (.acc [o] (some o) :: log) K) : VTops P ow (⟨none, none, .op (.store nn a x)⟩ :: rs) fr S log K :=
 E_stS hS e ex (by rw [b7F he hy hp (by rw [hx]; exact hfit) hy']; exact hr) hx h1 (by have := b6B (j := []) he hy hp hfit; simpa using this) h
theorem a7n : ∀ (xs a cs : List AV), xs.length = cs.length -> splice (a ++ cs) a.length xs = a ++ xs
 | [], a, cs, h => by
   have : cs = [] := List.eq_nil_of_length_eq_zero (by simpa using h.symm)
   subst this; rfl
 | x :: xs, a, [], h => by simp at h
 | x :: xs, a, c :: cs, h => by
   have e : (a ++ c :: cs).set a.length x = (a ++ [x]) ++ cs := by rw [List.set_append_right _ _ (Nat.le_refl _)]; simp
   simp only [splice, e]
   have := a7n xs (a ++ [x]) cs (by simpa using h)
   simp only [List.length_append, List.length_singleton] at this
   rw [this]; simp
end
end Go.Ab

/- A nil slice in an object's cell as a list without an object. -/
namespace Go.Ab
open Go Go.RowKit
theorem WRel.recell {g σ} {w : World} (h : WRel g σ w) {o ver : Nat} {cs cs' : List AV} (e : σ o = .arr ver cs) (hl : cs'.length = cs.length) (hv : ∀ j (h1 : j < cs.length) (h2 : j < cs'.length) u, VR g.pm g.L σ cs[j] u -> VR g.pm g.L σ cs'[j] u) :
  WRel g (upd σ o (.arr ver cs')) w /\ g.le σ g (upd σ o (.arr ver cs')) := by
 have k := h.ob o ver cs e
 have hext : Ext g.pm g.L σ g.pm g.L (upd σ o (.arr ver cs')) := ⟨fun _ _ _ e => e, fun i => by
  by_cases hi : i = o
  ·subst hi; simp [e, v6, hl]
  ·simp [r9 _ _ hi]; exact v6.refl _ _⟩
 refine ⟨⟨h.pm, h.tm, h.tmf, h.disj, h.low, h.B0, h.tab, fun i ver' cs2 e' => ?_, fun i i' v1 v2 c1 c2 e1 e2 hne => ?_⟩, ⟨hext, rfl, rfl, rfl⟩⟩
 ·by_cases hi : i = o
  ·subst hi
   simp at e'
   obtain ⟨rfl, rfl⟩ := e'
   refine ⟨k.low, by rw [hl]; exact k.len, fun m hm => ?_, k.free, k.pm, k.tm⟩
   obtain ⟨u, hu, hr⟩ := k.there m hm
   exact ⟨u, hu, fun hm' => (hv m zO hm' u (hr zO)).mono hext⟩
  ·rw [r9 _ _ hi] at e'
   have k' := h.ob i ver' cs2 e'
   refine ⟨k'.low, k'.len, fun m hm => ?_, k'.free, k'.pm, k'.tm⟩
   obtain ⟨u, hu, hr⟩ := k'.there m hm
   exact ⟨u, hu, fun hm' => (hr hm').mono hext⟩
 ·have a1 : ∃ v c, σ i = .arr v c := by
   by_cases hi : i = o
   ·exact ⟨_, _, hi ▸ e⟩
   ·rw [r9 _ _ hi] at e1; exact ⟨_, _, e1⟩
  have a2 : ∃ v c, σ i' = .arr v c := by
   by_cases hi : i' = o
   ·exact ⟨_, _, hi ▸ e⟩
   ·rw [r9 _ _ hi] at e2; exact ⟨_, _, e2⟩
  obtain ⟨_, _, a1⟩ := a1
  obtain ⟨_, _, a2⟩ := a2
  exact h.sep i i' _ _ _ _ a1 a2 hne
section
variable {P : Program} {S0 : List Ob} {ow : List Nat} {fr : Fr} {S : List Ob} {L : List It}
theorem a7o {o ver j : Nat} {cs : List AV} {e : Option Nat} (ho : hp S o = .arr ver cs) (hj : cs[j]? = some .nils) :
  Wk S0 fr S fr (a0M (a0M S S.length (.arr 0 [])) o (.arr ver (cs.set j (.ref S.length 0 0 0 e)))) := by
 intro g0 n a w hat
 obtain ⟨h0, g, h1, h2, h3⟩ := hat
 have hv := a8N S
 have hos : o ≠ S.length := fun h => by rw [h, hv] at ho; cases ho
 obtain ⟨k1, k2⟩ := h2.own (o := S.length) (l := ⟨0, 0, 0⟩) (ver := 0) (cs := []) (by rw [hv]; exact trivial) (fun h => absurd h (Nat.lt_irrefl 0)) (Nat.le_refl 0) (fun j hj => absurd hj (Nat.not_lt_zero j)) (fun j hj => absurd hj (Nat.not_lt_zero j)) (fun j hj => absurd hj (Nat.not_lt_zero j)) (fun j hj => absurd hj (Nat.not_lt_zero j))
  (fun o' ver' cs' _ _ _ j j' _ hj' => absurd hj' (Nat.not_lt_zero j'))
 rw [<- a2P] at k1 k2
 have ho1 : hp (a0M S S.length (.arr 0 [])) o = .arr ver cs := by rw [a0u hos]; exact ho
 obtain ⟨q1, q2⟩ := k1.recell (cs' := cs.set j (.ref S.length 0 0 0 e)) ho1 zS (fun i a1 a2 u hu => by
  rw [List.getElem_set]
  split
  ·rename_i hij
   subst hij
   rw [List.getElem?_eq_getElem a1] at hj
   have hj := Option.some.inj hj
   rw [hj] at hu
   cases hu
   refine .refnil ?_
   simp [a4g, a1p]
  ·exact hu)
 rw [<- a2P] at q1 q2
 exact ⟨h0, _, (h1.trans k2).trans q2, q1, h3.size, fun t => ((h3.get t).mono k2.ext).mono q2.ext⟩
theorem b3m {b} {K K0 : Post} {o ver : Nat} {cs : List AV} (j : Nat) (e : Option Nat) {Lf : Nat -> List It} (hS : Sep S L) (hr : ∀ o', Rp L (o, ver, cs) (o, ver, cs.set j (.ref o' 0 0 0 e)) (Lf o')) (hj : cs[j]? = some .nils) (h : ∀ o' S', Sep S' ((o', 0, []) :: Lf o') -> VT P S0 ow b fr S' K) :
  Post.thn (fun fr' S' => ∃ F T, Wk S0 fr' S' F T /\ VT P S0 ow b F T K) K0 .normal fr S := by
 have hm := (hr 0).mem
 have ho := hS.at hm
 refine a4F (a7o (e := e) ho hj) (h S.length _ ?_)
 have h1 : Sep (a0M S S.length (.arr 0 [])) ((S.length, 0, []) :: L) := hS.new
 exact h1.rp (Rp.there (hr S.length))
end
end Go.Ab

/- Heaps of a number of objects that is not known: given by a function. -/
namespace Go.Ab
open Go Go.RowKit
section
variable {n m : Nat} {f g : Nat -> Ob}
end
section
variable {S : List Ob} {n : Nat} {m : Nat -> Option Nat} {f : Nat -> Ob}
end
section
variable {P : Program} {S0 : List Ob} {ow : List Nat} {fr : Fr} {S : List Ob} {log : List LE}
end
end Go.Ab

/- A method that takes the value, where the interface holds a pointer: the step. -/
namespace Go.Ab
section
variable {P : Program} {S0 : List Ob} {ow : List Nat} {fr : Fr} {S : List Ob} {log : List LE} {L L' L0 L1 R : List It}
end
end Go.Ab

/- Further steps over separated objects. -/
namespace Go.Ab
open Go Go.RowKit
section
variable {P : Program} {S0 : List Ob} {ow : List Nat} {fr : Fr} {S : List Ob} {log : List LE} {L : List It} {esh : Option Nat}
theorem a8c {a b} {K : Post} {σ : Type} (F : σ -> Fr) (Lf : σ -> List It) (I : σ -> Prop)
  (ha : VT P S0 ow a fr S (Post.thn (fun fr' S' => ∃ s, I s /\ Sep S' (Lf s) /\ Wk S0 fr' S' (F s) S') K)) (hb : ∀ s S, I s -> Sep S (Lf s) -> VT P S0 ow b (F s) S K) :
  VT P S0 ow a fr S (Post.thn (fun fr' S' => ∃ F T, Wk S0 fr' S' F T /\ VT P S0 ow b F T K) K) :=
 a1I (a1P (fun _ _ ⟨s, h1, h2, h3⟩ => ⟨F s, _, h3, hb s _ h1 h2⟩) (fun _ _ _ h => h)) ha
end
theorem Ev.gwk {P : Program} {f : FuncId} {args : List AV} {S S1 S' : List Ob} {r r' : AV} {R : AV -> AV -> Prop} (h : Ev P f args (hp S) r (hp S1)) (k : GWk S S1 S' R) (hr : R r r') : Ev P f args (hp S) r' (hp S') := by
 intro g w vals hw hv
 refine (h g w vals hw hv).mono ?_
 rintro e w' ⟨u, g', e1, e2, e3, e4⟩
 obtain ⟨g2, h1, h2, h3⟩ := k g g' w' e2 e3
 exact ⟨u, g2, e1, h1, h2, h3 _ _ _ hr e4⟩
theorem Tri.pure {P : Program} {f : FuncId} {args : List AV} {Q : AV -> List It -> Prop} {Q' : AV -> Prop} (k : Nat) (h : Tri P f args [] Q) (hq : ∀ v L' S, Q v L' -> Sep S L' -> ∃ r, AVw (frz 0 S k v) r /\ Q' r) : ∃ r, PureEv P f args r /\ Q' r := by
 obtain ⟨v, S', h1, L', h2, h3⟩ := h [] [] Sep.nil
 rw [List.append_nil] at h3
 obtain ⟨r, h4, h5⟩ := hq v L' S' h2 h3
 refine ⟨r, ?_, h5⟩
 have := h1.gwk ((a7U 0 k zS).trans GWk.refl) ⟨_, rfl, h4⟩
 rw [b2I] at this
 exact this
end Go.Ab

/- One object is frozen: it is dead, and what named it holds its cells. -/
namespace Go.Ab
open Go Go.RowKit
inductive Fz1 (o ver : Nat) (cs : List AV) : AV -> AV -> Prop
 | same (x) : Fz1 o ver cs x x
 | ref {off n e} (h : off + n * f5 e <= cs.length) (h1 : cs.all AV.one = true) : Fz1 o ver cs (.ref o ver off n e) (.sl false (f5 e) (t6 e n (cs.drop off)))
 | ptr {off} : Fz1 o ver cs (.ptr o ver off) (.cptr cs off)
theorem b3n {cs : List AV} (h : cs.all AV.one = true) (n : Nat) : (cs.drop n).all AV.one = true := by
 rw [List.all_eq_true] at h ⊢
 exact fun x hx => h x (List.mem_of_mem_drop hx)
theorem VR.none_to {g : Gh} {S : List Ob} {x : AV} {u : Value} {pm : Pm} {L : Nat -> Loc} {σ : Hp} {pm' : Pm} {σ' : Hp} (h : VR pm L σ x u) (hpm : ∀ b o v, pm b o = some v -> pm' b o = some v) (hx : x.blw 0 = true) : VR pm' L σ' x u := by
 have h2 : VR pm L σ' x u := h.agree hx (fun o ho => absurd ho (Nat.not_lt_zero o))
 exact h2.mono ⟨hpm, fun o => v6.refl _ _⟩
theorem b3o {S0 S S' : List Ob} {o ver : Nat} {cs : List AV} (ho : hp S o = .arr ver cs) (hb : a1T 0 cs = true) (hd : hp S' o = .dead ver)
  (hs : ∀ i, i ≠ o -> hp S' i = hp S i \/ ∃ v c c', hp S i = .arr v c /\ hp S' i = .arr v c' /\ c'.length = c.length /\ ∀ j (h1 : j < c.length) (h2 : j < c'.length), Fz1 o ver cs c[j] c'[j]) : GWk S0 S S' (Fz1 o ver cs) := by
 intro g0 g w h1 h2
 classical
 let reg : Nat -> Nat -> Prop := fun b a => (g.L o).b = b /\ ∃ j, j < cs.length /\ (g.L o).off + j = a
 let pm' : Pm := fun b a => if reg b a then w.cell? ⟨b, a, none⟩ else g.pm b a
 have q := h2.ob o ver cs ho
 have hnp : ∀ b a v, g.pm b a = some v -> ¬ reg b a := by
  rintro b a v e ⟨rfl, j, hj, rfl⟩
  rw [q.pm j (by have := q.len; omega)] at e; cases e
 have hpm : ∀ b a v, g.pm b a = some v -> pm' b a = some v := fun b a v e => by
  simp only [pm']; rw [if_neg (hnp _ _ _ e)]; exact e
 have hσ : ∀ i, v6 (hp S i) (g.L i) (hp S' i) (g.L i) := fun i => by
  by_cases hi : i = o
  ·subst hi; rw [hd, ho]; exact Nat.le_refl _
  ·rcases hs i hi with e | ⟨v, c, c', e1, e2, e3, _⟩
   ·rw [e]; exact v6.refl _ _
   ·rw [e1, e2]; exact .inr ⟨rfl, rfl, e3⟩
 have hin : ∀ i v c', hp S' i = .arr v c' -> i ≠ o /\ ∃ c, hp S i = .arr v c /\ c'.length = c.length /\ ∀ j (h1 : j < c.length) (h2 : j < c'.length), Fz1 o ver cs c[j] c'[j] := fun i v c' e => by
  have hi : i ≠ o := fun h => by rw [h, hd] at e; cases e
  refine ⟨hi, ?_⟩
  rcases hs i hi with e1 | ⟨v1, c1, c1', e1, e2, e3, e4⟩
  ·rw [e1] at e; exact ⟨c', e, rfl, fun j _ _ => .same _⟩
  ·rw [e2] at e; cases e; exact ⟨c1, e1, e3, e4⟩
 have hext : Ext g.pm g.L (hp S) pm' g.L (hp S') := ⟨hpm, hσ⟩
 have hcell : ∀ j, j < cs.length -> pm' (g.L o).b ((g.L o).off + j) = some ((w.cell? ⟨(g.L o).b, (g.L o).off + j, none⟩).getD undef) := fun j hj => by
  obtain ⟨v, hv, _⟩ := q.there j (by have := q.len; omega)
  have hreg : reg (g.L o).b ((g.L o).off + j) := ⟨rfl, j, hj, rfl⟩
  simp only [pm']; rw [if_pos hreg, hv]; rfl
 have hval : ∀ j (hj : j < cs.length), VR pm' g.L (hp S') cs[j] ((w.cell? ⟨(g.L o).b, (g.L o).off + j, none⟩).getD undef) := fun j hj => by
  obtain ⟨v, hv, hr⟩ := q.there j (by have := q.len; omega)
  rw [hv]
  exact (hr hj).none_to (g := g) (S := S) hpm (a3Q.1 hb _ (List.getElem_mem hj))
 have key : ∀ {x y : AV} {u : Value}, Fz1 o ver cs x y -> VR g.pm g.L (hp S) x u -> VR pm' g.L (hp S') y u := fun {x y u} r hv => by
  cases r with
  | same => exact hv.mono hext
  | @ref off n e hl ha =>
    cases hv with
    | @ref _ _ _ _ _ a cap hn hs hr =>
      unfold a0V at hr
      rw [ho] at hr
      obtain ⟨rfl, r2, r3, r4⟩ := hr.2 rfl
      exact VR.told (us := fun j => (w.cell? ⟨(g.L o).b, (g.L o).off + (off + j), none⟩).getD undef) zE (b3n ha off) (fun j hj => by rw [Nat.add_assoc]; exact hcell (off + j) zO)
       (fun j hj hj2 => by
        simp only [List.getElem_drop]
        exact hval (off + j) (by rw [List.length_drop] at hj; omega)) hn (by intro e; cases e)
    | @refnil _ _ _ _ hv =>
      have : ∀ l : List AV, t6 e 0 l = [] := fun l => by cases e <;> simp [t6, a3c]
      rw [this]; exact .slz'
  | @ptr off =>
    cases hv with
    | @ptr _ _ _ a hpt =>
      unfold PtrOK at hpt
      rw [ho] at hpt
      obtain rfl := hpt.2 rfl
      exact .cptr _ (fun j hj => hcell j hj) (fun j hj => hval j hj)
 refine ⟨{ g with pm := pm' }, ⟨⟨fun b a v e => hpm _ _ _ (h1.ext.pm _ _ _ e), fun i => (h1.ext.ob i).trans (hσ i)⟩, h1.tm, h1.B0, h1.w0⟩, ⟨fun b a v e => ?_, h2.tm, h2.tmf, fun b a v e => ?_, h2.low, h2.B0, h2.tab, fun i v c' e => ?_, fun i i' v v' c c' e e' hne => ?_⟩, fun x y u r hv => key r hv⟩
 ·replace e : (if reg b a then w.cell? ⟨b, a, none⟩ else g.pm b a) = some v := e
  split at e
  ·exact e
  ·exact h2.pm _ _ _ e
 ·replace e : (if reg b a then w.cell? ⟨b, a, none⟩ else g.pm b a) = some v := e
  split at e
  ·rename_i hr
   obtain ⟨rfl, j, hj, rfl⟩ := hr
   exact q.tm j (by have := q.len; omega)
  ·exact h2.disj _ _ _ e
 ·obtain ⟨hi, c, e1, e2, e3⟩ := hin _ _ _ e
  have k := h2.ob i v c e1
  refine ⟨k.low, by rw [e2]; exact k.len, fun j hj => ?_, k.free, fun j hj => ?_, k.tm⟩
  ·obtain ⟨u, hu, hr⟩ := k.there j hj
   exact ⟨u, hu, fun hj' => key (e3 j zO hj') (hr zO)⟩
  ·show (if reg _ _ then _ else _) = _
   rw [if_neg]
   ·exact k.pm j hj
   ·rintro ⟨hbb, j', hj', he⟩
    exact h2.sep o i _ _ _ _ ho e1 (fun h => hi h.symm) hbb j' j (by have := q.len; omega) hj he
 ·obtain ⟨_, c1, e1, _⟩ := hin _ _ _ e
  obtain ⟨_, c2, e2, _⟩ := hin _ _ _ e'
  exact h2.sep i i' _ _ _ _ e1 e2 hne
theorem b3p {S0 S : List Ob} {o ver : Nat} {cs : List AV} (ho : hp S o = .arr ver cs) (hb : a1T 0 cs = true) : GWk S0 S (a0M S o (.dead ver)) (Fz1 o ver cs) :=
 b3o ho hb a1p (fun i hi => .inl (a0u hi))
section
variable {P : Program} {S0 : List Ob} {ow : List Nat} {fr : Fr} {S : List Ob} {L L' L0 : List It} {α : Type} {f : α -> AV} {e : Option Nat}
theorem Sep.kill {o ver : Nat} {cs : List AV} {x : Ob} (hS : Sep S L) (hp' : Pk L (o, ver, cs) L0) : Sep (a0M S o x) L0 := by
 have h := hS.perm hp'
 refine ⟨fun p hm => ?_, (List.nodup_cons.1 h.2).2⟩
 have hne : p.1 ≠ o := fun e1 => (List.nodup_cons.1 h.2).1 (by rw [<- e1]; exact List.mem_map.2 ⟨p, hm, rfl⟩)
 rw [a0u hne]
 exact h.1 p (List.mem_cons_of_mem _ hm)
theorem b0S (he : Enc f e) {o ver : Nat} {l : List α} {j : List AV} (h1 : j.all AV.one = true) : Fz1 o ver (flat f l ++ j) (.ref o ver 0 l.length e) (.sl false (f5 e) (l.map f)) := by
 have hl : (flat f l).length = l.length * f5 e := he.length l
 have ha : (flat f l ++ j).all AV.one = true := by rw [List.all_append, he.all, h1]; rfl
 have := Fz1.ref (o := o) (ver := ver) (cs := flat f l ++ j) (off := 0) (n := l.length) (e := e) (by rw [List.length_append, hl]; omega) ha
 have key : t6 e l.length ((flat f l ++ j).drop 0) = l.map f := by
  rw [List.drop_zero]
  have : t6 e l.length (flat f l ++ j) = t6 e l.length (flat f l) := by
   cases e with
   | none =>
     simp only [t6]
     rw [List.take_append_of_le_length (by rw [hl]; simp [f5])]
   | some n =>
     simp only [t6]
     have : ∀ (k : Nat) (xs : List AV), xs.length = k * n -> a3c n k (xs ++ j) = a3c n k xs := by
      intro k
      induction k with
      | zero => intro xs _; rfl
      | succ k ih =>
        intro xs hx
        have hn : n <= xs.length := by rw [hx, Nat.add_mul]; omega
        simp only [a3c]
        rw [List.take_append_of_le_length hn, List.drop_append_of_le_length hn, ih _ (by rw [List.length_drop, hx, Nat.add_mul]; omega)]
     exact this _ _ (by rw [hl]; rfl)
  rw [this, he.elems]
 rw [key] at this
 exact this
theorem b0T (he : Enc f e) {l : List α} {j : List AV} (hj : a1T 0 j = true) : a1T 0 (flat f l ++ j) = true := by
 rw [a3Q]; intro x hx
 rcases List.mem_append.1 hx with h | h
 ·exact a3Q.1 (he.blwf 0 l) _ h
 ·exact a3Q.1 hj _ h
theorem E_fzT {b} {K K0 : Post} {o ver : Nat} {l : List α} {j : List AV} (t : Nat) (he : Enc f e) (hS : Sep S L) (hp' : Pk L (o, ver, flat f l ++ j) L0) (hj : a1T 0 j = true) (h1 : j.all AV.one = true) (ht : Fr.get fr t = .ref o ver 0 l.length e)
  (h : ∀ S', Sep S' L0 -> VT P S0 ow b ((t, .sl false (f5 e) (l.map f)) :: fr) S' K) : Post.thn (fun fr' S' => ∃ F T, Wk S0 fr' S' F T /\ VT P S0 ow b F T K) K0 .normal fr S := by
 have ho := hS.at (hp'.mem_iff.2 (.head _))
 refine a4F ((b3p ho (b0T he hj)).wk (fun t' => ?_)) (h _ (hS.kill hp'))
 rw [get_cons]
 split
 ·rename_i e1; subst e1; rw [ht]; exact b0S he h1
 ·exact .same _
theorem b3q {o ver o2 v2 jx : Nat} {l : List α} {j cs2 : List AV} (he : Enc f e) (ho : hp S o = .arr ver (flat f l ++ j)) (ho2 : hp S o2 = .arr v2 cs2) (hne : o2 ≠ o) (hj : a1T 0 j = true) (h1 : j.all AV.one = true) (hx : cs2[jx]? = some (.ref o ver 0 l.length e)) :
  GWk S0 S (a0M (a0M S o (.dead ver)) o2 (.arr v2 (cs2.set jx (.sl false (f5 e) (l.map f))))) (Fz1 o ver (flat f l ++ j)) := by
 refine b3o ho (b0T he hj) (by rw [a0u (fun h => hne h.symm), a1p]) (fun i hi => ?_)
 by_cases h2 : i = o2
 ·subst h2
  refine .inr ⟨v2, cs2, _, ho2, a1p, by simp, fun k k1 k2 => ?_⟩
  rw [List.getElem_set]
  split
  ·rename_i e1
   subst e1
   rw [List.getElem?_eq_getElem k1] at hx
   rw [Option.some.inj hx]
   exact b0S he h1
  ·exact .same _
 ·rw [a0u h2, a0u hi]; exact .inl rfl
theorem E_fzC {b} {K K0 : Post} {o ver o2 v2 jx : Nat} {l : List α} {j cs2 : List AV} (he : Enc f e) (hS : Sep S L) (hp' : Pk L (o, ver, flat f l ++ j) L0) (hj : a1T 0 j = true) (h1 : j.all AV.one = true) (hx : cs2[jx]? = some (.ref o ver 0 l.length e)) (hr : Rp L0 (o2, v2, cs2) (o2, v2, cs2.set jx (.sl false (f5 e) (l.map f))) L')
  (h : ∀ S', Sep S' L' -> VT P S0 ow b fr S' K) : Post.thn (fun fr' S' => ∃ F T, Wk S0 fr' S' F T /\ VT P S0 ow b F T K) K0 .normal fr S := by
 have ho := hS.at (hp'.mem_iff.2 (.head _))
 have hk := hS.kill (x := .dead ver) hp'
 have hp2 := hS.perm hp'
 have hne : o2 ≠ o := fun e1 => (List.nodup_cons.1 hp2.2).1 (List.mem_map.2 ⟨_, hr.mem, e1⟩)
 have ho2 : hp S o2 = .arr v2 cs2 := hp2.1 _ (.tail _ hr.mem)
 exact a4F ((b3q he ho ho2 hne hj h1 hx).wk (fun t' => .same _)) (h _ (hk.rp hr))
theorem b6C {b} {K K0 : Post} {o ver o2 v2 jx : Nat} {l : List α} {cs2 : List AV} (he : Enc f e) (hS : Sep S L) (hp' : Pk L (o, ver, flat f l) L0) (hx : cs2[jx]? = some (.ref o ver 0 l.length e)) (hr : Rp L0 (o2, v2, cs2) (o2, v2, cs2.set jx (.sl false (f5 e) (l.map f))) L')
  (h : ∀ S', Sep S' L' -> VT P S0 ow b fr S' K) : Post.thn (fun fr' S' => ∃ F T, Wk S0 fr' S' F T /\ VT P S0 ow b F T K) K0 .normal fr S :=
 E_fzC (j := []) he hS (by rw [List.append_nil]; exact hp') rfl rfl hx hr h
theorem b9x {b} {K K0 : Post} {o ver : Nat} {l : List α} (t : Nat) (he : Enc f e) (hS : Sep S L) (hp' : Pk L (o, ver, flat f l) L0) (ht : Fr.get fr t = .ref o ver 0 l.length e)
  (h : ∀ S', Sep S' L0 -> VT P S0 ow b ((t, .sl false (f5 e) (l.map f)) :: fr) S' K) : Post.thn (fun fr' S' => ∃ F T, Wk S0 fr' S' F T /\ VT P S0 ow b F T K) K0 .normal fr S :=
 E_fzT (j := []) t he hS (by rw [List.append_nil]; exact hp') rfl rfl ht h
end
end Go.Ab

/- A contract that leaves one list of its own: one answer for all heaps. -/
namespace Go.Ab
open Go Go.RowKit
section
variable {P : Program} {f : FuncId} {args : List AV} {α : Type} {g : α -> AV} {e : Option Nat}
theorem Tri.base (he : Enc g e) {Q : List α -> AV -> Prop} (h : Tri P f args [] (fun r L' => ∃ oo l x, r = .tup [.ref oo 0 0 l.length e, x] /\ x.blw 0 = true /\ L' = [(oo, 0, flat g l)] /\ Q l x)) :
  ∃ l x, Q l x /\ x.blw 0 = true /\ Ev P f args (hp []) (.tup [.ref 0 0 0 l.length e, x]) (hp [.arr 0 (flat g l)]) := by
 obtain ⟨r, S', h1, L', ⟨oo, l, x, rfl, hx, rfl, hq⟩, hS⟩ := h [] [] Sep.nil
 refine ⟨l, x, hq, hx, ?_⟩
 have ho : hp S' oo = .arr 0 (flat g l) := hS.at (.head _)
 have hn : hp [Ob.arr 0 (flat g l)] 0 = .arr 0 (flat g l) := rfl
 refine h1.gwk (a2m (S0 := []) (S := S') (S' := [.arr 0 (flat g l)]) [some (oo, 0)] (by simp [b2Q]) (Nat.zero_le _) ⟨?_, trivial⟩) ?_
 ·exact ⟨0, flat g l, ho, .refl (he.blwf 0 l), fun h => absurd h (Nat.not_lt_zero _)⟩
 ·refine .tup rfl (fun j h1 h2 => ?_)
  match j, h1 with
  | 0, _ => exact .ref ⟨0, flat g l, flat g l, rfl, ho, hn, rfl, by rw [he.length l]; omega⟩
  | 1, _ => exact .base hx (.refl _)
end
section
variable {P : Program} {S0 : List Ob} {ow : List Nat} {fr : Fr} {S : List Ob} {L : List It}
end
end Go.Ab

/- Calls that only read, shown by a walk (over fork6's layer). -/
namespace Go.Ab
theorem b3r {τ : Hp} (h : b6Z τ) : ∃ T : List Ob, hp T = τ := by
 obtain ⟨N, hN⟩ := h
 refine ⟨(List.range N).map τ, funext fun o => ?_⟩
 unfold hp
 rw [List.getD_eq_getElem?_getD, List.getElem?_map]
 by_cases ho : o < N
 ·rw [List.getElem?_range ho]; rfl
 ·rw [List.getElem?_eq_none zE, hN o zO]; rfl
def b4I (P : Program) (f : FuncId) (args : List AV) (L : List It) (r : AV) : Prop := ∀ R S, Sep S (L ++ R) -> Ev P f args (hp S) r (hp S)
section
variable {P : Program} {f : FuncId} {args : List AV} {L L1 R : List It} {r : AV} {S : List Ob} {ow : List Nat} {fr : Fr} {log : List LE}
theorem a5j {n : Nat} {ts : List RS} {fc : FC} (hm : P.follows .mixedOrders = true) (hfn : Fn3 P f n ts fc) (hn : args.length <= n) (ow : List Nat)
  (h : ∀ R S, Sep S (L ++ R) -> VT P S ow fc (a2a 0 args) S (fun e fr1 S1 => a6i e /\ ∃ v, a3C S1 (Fr.get fr1) ts = some v /\ v = r /\ S1 = S)) : b4I P f args L r := fun R S hS => by
 obtain ⟨r', S', h1, rfl, rfl⟩ := b9r hm hfn hn ow (h R S hS)
 exact h1
theorem b4I.rd (h : b4I P f args L r) (hS : Sep S (L ++ R)) : c0V P f args (hp S) r (L.map (·.1)) := fun τ hτ ha => by
 obtain ⟨T, rfl⟩ := b3r hτ
 refine h [] T ⟨fun it hit => ?_, ?_⟩
 ·rw [List.append_nil] at hit
  rw [ha _ (List.mem_map.2 ⟨it, hit, rfl⟩)]
  exact hS.1 it (List.mem_append_left _ hit)
 ·rw [List.append_nil]
  have := hS.2
  rw [List.map_append] at this
  exact (List.nodup_append.1 this).1
theorem b7H {d g as0 rs} {K : Fr -> List Ob -> List LE -> Prop} {ags : List AV} (c : b4I P g ags L1 r) (hS : Sep S L) (e : evL (Fr.get fr) as0 = ags) (hp' : Spl L L1 R)
  (h : VTops P ow rs ((d, r) :: fr) S (.acc (L1.map (·.1)) none :: log) K) : VTops P ow (⟨some d, none, .call g as0⟩ :: rs) fr S log K := by
 rw [a5c, e]
 exact b5j (c.rd (hS.spl hp')) h
end
end Go.Ab

/- Cases of a switch over a byte, one behind the other. -/
namespace Go.Ab
section
variable {P : Program} {S0 : List Ob} {ow : List Nat} {fr : Fr} {S : List Ob} {K : Post} {t a b a' : Nat} {n k k' : Int} {x y : FC}
abbrev eqR (t a b : Nat) (k : Int) : FC := .reg [⟨some a, none, .op (.bin .none .eql (.t t) (.v (.int .u8 k)))⟩, ⟨some b, none, .op (.mv (.t a))⟩] []
theorem b9y (e : Fr.get fr t = .int .u8 n) (h : K .normal ((b, .bool (n == k)) :: (a, .bool (n == k)) :: fr) S) : VT P S0 ow (eqR t a b k) fr S K := by
 refine m7 ?_
 refine a2r (v := .bool (n == k)) (by simp only [opV, ev, e]; rfl) zC ?_
 refine a2r (v := .bool (n == k)) (by simp only [opV, ev, get_cons, if_true]) zC ?_
 exact j8 h
theorem b5v {c : FC} (e : Fr.get fr t = .int .u8 n) (h : VT P S0 ow c ((b, .bool (n == k)) :: (a, .bool (n == k)) :: fr) S K) : VT P S0 ow (.seq (eqR t a b k) c) fr S K := by
 refine v7 (b9y e ?_)
 exact y4 h
theorem b1B {v : AV} {t : Bool} {x y : FC} (e : v = .bool t) (h1 : t = true -> VT P S0 ow x ((b, v) :: fr) S K) (h2 : t = false -> VT P S0 ow y ((b, v) :: fr) S K) : VT P S0 ow (.cond (.t b) x y) ((b, v) :: fr) S K :=
 E_cs (t := t) (by show Fr.get ((b, v) :: fr) b = _; rw [get_cons, if_pos rfl, e]) h1 h2
theorem j4 (e : Fr.get fr t = .int .u8 n) (hn : (n == k) = false) (h : VT P S0 ow y ((b, .bool false) :: (a, .bool false) :: fr) S K) : VT P S0 ow (.seq (eqR t a b k) (.cond (.t b) x y)) fr S K := by
 refine b5v e ?_
 rw [hn]
 exact b1B rfl (fun h => by cases h) (fun _ => h)
theorem a0i (e : Fr.get fr t = .int .u8 n) (hn : (n == k) = true) (h : VT P S0 ow x ((b, .bool true) :: (a, .bool true) :: fr) S K) : VT P S0 ow (.seq (eqR t a b k) (.cond (.t b) x y)) fr S K := by
 refine b5v e ?_
 rw [hn]
 exact b1B rfl (fun _ => h) (fun h => by cases h)
theorem b9z (e : Fr.get fr t = .int .u8 n) (hn : (n == k) = true) (h : VT P S0 ow x ((b, .bool true) :: (a, .bool true) :: fr) S K) :
  VT P S0 ow (.seq (.seq (eqR t a b k) (.cond (.t b) .skip (eqR t a' b k'))) (.cond (.t b) x y)) fr S K := by
 refine v7 (b5v e ?_)
 rw [hn]
 refine b1B rfl (fun _ => ?_) (fun h => by cases h)
 refine j1 ?_
 refine y4 ?_
 exact b1B rfl (fun _ => h) (fun h => by cases h)
theorem a3d {v : Bool} (e : Fr.get fr t = .int .u8 n) (hat : a ≠ t) (hbt : b ≠ t) (hn : (n == k) = false) (hn2 : (n == k') = v) (h1 : v = true -> VT P S0 ow x ((b, .bool v) :: (a', .bool v) :: (b, .bool false) :: (a, .bool false) :: fr) S K) (h2 : v = false -> VT P S0 ow y ((b, .bool v) :: (a', .bool v) :: (b, .bool false) :: (a, .bool false) :: fr) S K) :
  VT P S0 ow (.seq (.seq (eqR t a b k) (.cond (.t b) .skip (eqR t a' b k'))) (.cond (.t b) x y)) fr S K := by
 refine v7 (b5v e ?_)
 rw [hn]
 refine b1B rfl (fun h => by cases h) (fun _ => ?_)
 refine b9y (n := n) (by rw [get_cons, if_neg (Ne.symm hbt), get_cons, if_neg (Ne.symm hat), e]) ?_
 rw [hn2]
 refine y4 ?_
 exact b1B rfl h1 h2
end
end Go.Ab

