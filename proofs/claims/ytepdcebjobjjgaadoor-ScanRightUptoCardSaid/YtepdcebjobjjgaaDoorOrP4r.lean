/- LiveSets: the law. -/
import Derived.Test.YtepdcebjobjjgaaDoorGenM2
import Derived.Test.YtepdcebjobjjgaaDoorOrW1
import Derived.Test.YtepdcebjobjjgaaDoorWlTz
import Derived.Test.YtepdcebjobjjgaaDoorLvW
import Derived.Test.YtepdcebjobjjgaaDoorOrW3
set_option linter.unusedVariables false
set_option linter.unusedSimpArgs false
namespace Go.Proofs.YtepdcebjobjjgaaDoor
open Go Go.Ab
variable {g : b5}
theorem b2m (K : Nat) (A : Nat -> Bool) : (a1V K A).length <= K := by
 unfold a1V; rw [List.length_map]; exact Nat.le_trans (List.length_filter_le _ _) zS
theorem a6J {K : Nat} {A : Nat -> Bool} {p : Nat} : (p : Int) ∈ a1V K A ↔ p < K /\ A p = true := by
 unfold a1V
 simp only [List.mem_map, List.mem_filter, List.mem_range]
 constructor
 ·rintro ⟨q, h, e⟩
  have : q = p := by omega
  subst this; exact h
 ·intro h; exact ⟨p, h, rfl⟩
theorem b9d (g : b5) {t : Nat} (h : t < g.Nodes.length) : o6 (inL g) (t : Int) = some (a1V g.Kinds.length (lvB g t)) := by
 rw [n8]; unfold inL; simp [h]
theorem b1p {g : b5} {i p : Nat} : lvB g i p = true ↔ Lv g i p := by unfold lvB; exact @decide_eq_true_iff _ (Classical.propDecidable _)
theorem b1q {g : b5} {i p : Nat} : bhB g i p = true ↔ Bh g i p := by unfold bhB; exact @decide_eq_true_iff _ (Classical.propDecidable _)
theorem b5c (k : Nat) (A : Nat -> Bool) : a1V (k + 1) A = a1V k A ++ (if A k = true then [(k : Int)] else []) := by
 unfold a1V
 rw [List.range_succ, List.filter_append, List.map_append]
 congr 1
 simp only [List.filter_cons, List.filter_nil]
 cases A k <;> simp
theorem b9e (hg : a1E g) {fuel : Nat} (hf : 10000000 <= fuel) : a0q fuel g = some (b1j g) := by
 unfold a0q
 rw [b7L hg hf]
 simp only [Option.bind_some]
 have hN := hg.nn; have hK := hg.kn
 have := a1j (xs := g.Nodes) (s0 := ([] : List (List Int))) (body := (fun (i_3 : Nat) (n_4 : g6) (s_2 : (List (List Int))) => (((rni (fun (i_7 : Nat) (s_6 : (List Int)) => (((o9 n_4).bind fun nex_8 => ((rng (fun (i_10 : Nat) (vto_11 : Int) (s_9 : Bool) => ((if s_9 then (some (.nxt true)) else ((o6 (inL g) vto_11).bind fun y_13 => ((j8 y_13 (i_7 : Int)).bind fun vin_14 => (some (.nxt vin_14))))) : Option (Stp Bool (Option (Stp (List Int) (Option (Stp (List (List Int)) (Option (List (List Int)))))))))) nex_8 false).bind (oc (fun (s_9 : Bool) => (if s_9 then ((a4R 8 s_6 [(i_7 : Int)]).bind fun l_15 => (some (.nxt l_15))) else (some (.nxt s_6))))))) : Option (Stp (List Int) (Option (Stp (List (List Int)) (Option (List (List Int)))))))) (List.length g.Kinds : Int) []).bind (oc (fun (s_6 : (List Int)) => ((a4R 24 s_2 [s_6]).bind fun l_16 => (some (.nxt l_16)))))) : Option (Stp (List (List Int)) (Option (List (List Int)))))))
  (fun _ => true) none (fun k o => o = (List.range k).map fun i => a1V g.Kinds.length (bhB g i)) zO rfl (fun i n o hn ho => by
  simp only [if_true]
  have hi : i < g.Nodes.length := (List.getElem?_eq_some_iff.1 hn).1
  have eN : nxt g i = a2s n := by unfold nxt; rw [hn]
  obtain ⟨l, e1, e2⟩ := a5F (n := (List.length g.Kinds : Int)) (s0 := ([] : List Int)) (body := (fun (i_7 : Nat) (s_6 : (List Int)) => (((o9 n).bind fun nex_8 => ((rng (fun (i_10 : Nat) (vto_11 : Int) (s_9 : Bool) => ((if s_9 then (some (.nxt true)) else ((o6 (inL g) vto_11).bind fun y_13 => ((j8 y_13 (i_7 : Int)).bind fun vin_14 => (some (.nxt vin_14))))) : Option (Stp Bool (Option (Stp (List Int) (Option (Stp (List (List Int)) (Option (List (List Int)))))))))) nex_8 false).bind (oc (fun (s_9 : Bool) => (if s_9 then ((a4R 8 s_6 [(i_7 : Int)]).bind fun l_15 => (some (.nxt l_15))) else (some (.nxt s_6))))))) : Option (Stp (List Int) (Option (Stp (List (List Int)) (Option (List (List Int)))))))))
   (fun k l => l = a1V k (bhB g i)) zO rfl (fun p l hp hl => by
   have hp' : p < g.Kinds.length := by omega
   have := a1j (xs := a2s n) (s0 := false) (body := (fun (i_10 : Nat) (vto_11 : Int) (s_9 : Bool) => ((if s_9 then (some (.nxt true)) else ((o6 (inL g) vto_11).bind fun y_13 => ((j8 y_13 (p : Int)).bind fun vin_14 => (some (.nxt vin_14))))) : Option (Stp Bool (Option (Stp (List Int) (Option (Stp (List (List Int)) (Option (List (List Int))))))))))) (fun _ => true) none
    (fun k b => b = (((a2s n).take k).any fun to => lvB g to.toNat p)) (by have := a2t n; omega) zS (fun k to b hx hb => by
    simp only [if_true]
    have hto := hg.nx i to (by rw [eN]; exact List.mem_of_getElem? hx)
    obtain ⟨t, rfl⟩ : ∃ t : Nat, to = (t : Int) := ⟨to.toNat, by omega⟩
    rw [a1a hx, List.any_append, List.any_cons, List.any_nil, Bool.or_false, <- hb]
    cases b with
    | true => exact ⟨true, by simp, by simp⟩
    | false =>
      simp only [Bool.false_eq_true, if_false, b9d g (t := t) zO, Option.bind_some, a5o (a1V g.Kinds.length (lvB g t)) (p : Int) (Nat.le_trans (b2m _ _) zO)]
      refine ⟨_, rfl, ?_⟩
      rw [Int.toNat_natCast, Bool.false_or]
      cases hb : lvB g t p with
      | true => exact decide_eq_true (a6J.2 ⟨hp', hb⟩)
      | false => exact decide_eq_false (fun q => by have := (a6J.1 q).2; rw [hb] at this; cases this))
   rw [if_pos zS] at this
   obtain ⟨b, b1, b2⟩ := this
   rw [List.take_length] at b2
   have hbb : b = bhB g i p := by
    rw [b2]
    cases hb : bhB g i p with
    | true =>
      obtain ⟨t, t1, t2⟩ := b1q.1 hb
      rw [List.any_eq_true]
      exact ⟨(t : Int), by rw [<- eN]; exact t1, b1p.2 (by simpa using t2)⟩
    | false =>
      rw [List.any_eq_false]
      intro to hto q
      have hr := hg.nx i to (by rw [eN]; exact hto)
      have : bhB g i p = true := b1q.2 ⟨to.toNat, by rw [Int.toNat_of_nonneg hr.1, eN]; exact hto, b1p.1 q⟩
      rw [hb] at this; cases this
   simp only [a6G, Option.bind_some, b1, oc, hbb]
   rw [b5c]
   have hll : l.length <= p := by rw [hl]; exact b2m _ _
   cases bhB g i p with
   | true =>
     refine ⟨l ++ [(p : Int)], ?_, by rw [hl]; simp⟩
     simp only [if_true]
     rw [a1L zE]; rfl
   | false => exact ⟨l, by simp, by rw [hl]; simp⟩)
  refine ⟨o ++ [a1V g.Kinds.length (bhB g i)], ?_, by rw [List.range_succ, List.map_append, <- ho]; rfl⟩
  rw [e1]
  simp only [Option.bind_some, oc]
  rw [e2, a1L (by rw [ho]; simp; omega), Int.toNat_natCast]; rfl)
 rw [if_pos zS] at this
 obtain ⟨s', e1, e2⟩ := this
 rw [e1]
 simp only [Option.bind_some, oc, e2]
 rfl
end Go.Proofs.YtepdcebjobjjgaaDoor

/- The document's line: the walk. -/
namespace Go.Proofs.YtepdcebjobjjgaaDoor
open Go Go.Ab
set_option maxRecDepth 20000
set_option maxHeartbeats 2000000
noncomputable def c5O : FC := fcO 62
theorem c5P : Fn3 Tryd.prog 62 48 [] c5O := ⟨_, _, Tryd.func62, rfl, rfl, rfl, by kernel_rfl⟩
noncomputable def c5Q : FC := fcO 46
theorem c5R : Fn3 Tryd.prog 46 38 [(2, none)] c5Q := ⟨_, _, Tryd.func46, rfl, rfl, rfl, by kernel_rfl⟩

theorem b2n {v : Nat -> St -> St} (hv : ∀ t s, s.1.getD t true = false -> (v t s).2.length + uns (v t s).1 = s.2.length + uns s.1) : ∀ (ts : List Nat) (s : St), (ts.foldl (a0S v) s).2.length + uns (ts.foldl (a0S v) s).1 = s.2.length + uns s.1
 | [], s => rfl
 | t :: ts, s => by
   rw [List.foldl_cons, b2n hv ts]
   unfold a0S
   split
   ·rfl
   ·rename_i h; exact hv t s (by simpa using h)
theorem b1r (g : b5) : ∀ (k n : Nat) (s : St), s.1.getD n true = false -> (vis g k n s).2.length + uns (vis g k n s).1 = s.2.length + uns s.1
 | 0, n, s, h => rfl
 | k + 1, n, s, h => by
   have h1 := a2P h
   have h2 := b2n (fun t s e => b1r g k t s e) (sc g n) (s.1.set n true, s.2)
   show (((sc g n).foldl (a0S (vis g k)) (s.1.set n true, s.2)).2 ++ [(n : Int)]).length + uns ((sc g n).foldl (a0S (vis g k)) (s.1.set n true, s.2)).1 = _
   simp only at h2
   rw [List.length_append]
   simp only [List.length_cons, List.length_nil]
   omega
def WI (ow os ol vl N : Nat) (s : St) : List It := [(ow, 0, [.ref os 0 0 N none, .ref ol vl 0 s.2.length none]), (os, 0, flat avB s.1), (ol, vl, flat (avI .i64) s.2)]
theorem b2o {g : b5} (hg : a1E g) {ow os ol : Nat} : ∀ (k n : Nat) (s : St) (vl : Nat), s.1.length = g.Nodes.length -> s.1.getD n true = false -> uns s.1 <= k -> s.2.length + uns s.1 <= 5000 ->
  Tri Tryd.prog 62 [.ptr ow 0 0, b5.av g, .int .i64 (n : Int)] (WI ow os ol vl g.Nodes.length s) (fun _ L' => ∃ vl', L' = WI ow os ol vl' g.Nodes.length (vis g k n s))
 | 0, n, s, vl, hl, h, hu, _ => by have := a2P h; omega
 | k + 1, n, s, vl, hl, h, hu, hb => by
   have hu1 := a2P h
   have hn := a4l h
   have hN := hg.nn
   obtain ⟨nd, hnd⟩ : ∃ x, g.Nodes[n]? = some x := ⟨g.Nodes[n]'zO, List.getElem?_eq_getElem _⟩
   have hsn : s.1[n]? = some false := by
    rw [List.getD_eq_getElem?_getD, List.getElem?_eq_getElem hn] at h
    rw [List.getElem?_eq_getElem hn]; simpa using h
   refine a0n mixed c5P zS [] (fun R S hS => ?_)
   unfold WI at hS
   refine d9 (b8 ?_)
   refine oP (gR g) ?_
   refine aU ?_
   refine v8 hS rfl (.head _) rfl ?_
   refine aU ?_
   refine n7 rfl rfl ⟨by omega, by omega⟩ ?_
   refine a4K (l := s.1) hS a8R rfl zC (n := n) (fo := 0) (y := false) (y' := true) (by simp [g8]) hsn (by first | exact Rp.here | (repeat (first | exact Rp.here | apply Rp.there | apply Rp.skip))) rfl rfl (by simp [g8]) rfl (fun S hS => ?_)
   refine aU ?_
   refine j7 rfl rfl (a6g hnd) ?_
   refine oP (g6.av nd) ?_
   refine j4 (a0z (a6G nd)) rfl ⟨(.refl _), trivial⟩ (i6 ⟨(g6.enc.blw _ 0), trivial⟩) ((g5 .i64).blws 0) ?_
   rw [<- b4P hnd, b4O hg]
   refine aU ?_
   have hsl := b7I g n
   have hrec : ∀ t s, s.1.getD t true = false -> b1m s (vis g k t s) := fun t s e => a6D g k t s e
   refine a3c (sc g n).length (fun q : Nat × St => [(0, .ptr ow 0 0), (2, .int .i64 (n : Int)), (4, gR g), (19, .sl false 1 ((sc g n).map svN))]) (fun q => WI ow os ol q.1 g.Nodes.length q.2 ++ R)
    (fun i q => q.2.1.length = g.Nodes.length /\ uns q.2.1 <= k /\ q.2.2.length + uns q.2.1 <= 4999 /\ ((sc g n).drop i).foldl (a0S (vis g k)) q.2 = (sc g n).foldl (a0S (vis g k)) (s.1.set n true, s.2)) (vl, s.1.set n true, s.2) hS ⟨by simp [hl], by simp only; omega, by simp only; omega, rfl⟩
    wF zO zD zD (fun _ => ⟨rfl, rfl, rfl, rfl⟩) (fun i q S hi hI hS => ?_) (fun q fr' S hI hS hw => ?_)
   ·obtain ⟨vl, s⟩ := q
    obtain ⟨hl, hu, hb, hI⟩ := hI
    dsimp only at hl hu hb hI hS
    obtain ⟨t, ht⟩ : ∃ t, (sc g n)[i]? = some t := ⟨(sc g n)[i], List.getElem?_eq_getElem hi⟩
    have htN := b8K hg (List.mem_of_getElem? ht)
    obtain ⟨b, hbs⟩ : ∃ b, s.1[t]? = some b := ⟨s.1[t]'zO, List.getElem?_eq_getElem _⟩
    have hbg : s.1.getD t true = b := by rw [List.getD_eq_getElem?_getD, hbs]; rfl
    rw [a2Y ht, List.foldl_cons] at hI
    unfold WI at hS
    refine aU ?_
    refine j7 rfl rfl (a6g ht) ?_
    refine oP (.int .i64 (t : Int)) ?_
    refine aU ?_
    refine v8 hS rfl (.head _) rfl ?_
    refine aU ?_
    refine n7 rfl rfl ⟨by omega, by omega⟩ ?_
    refine a6c hS a8R rfl (.tail _ (.head _)) (n := t) (fo := 0) (y := b) (v := .bool b) (by simp [g8]) hbs rfl ?_
    refine aU ?_
    cases b with
    | true =>
      refine a9S rfl ?_
      refine aU ?_
      exact R_n (vl, s) ⟨hl, hu, hb, by rw [show a0S (vis g k) s t = s by unfold a0S; rw [if_pos hbg]] at hI; exact hI⟩ hS wF
    | false =>
      refine a9x rfl ?_
      refine aU ?_
      refine a4S (b2o hg (ow := ow) (os := os) (ol := ol) k t s vl hl hbg hu zO) hS rfl (Spl.cons Pk.here (Spl.cons Pk.here (Spl.cons Pk.here Spl.nil))) (fun v S L' hL hS => ?_)
      obtain ⟨vl', rfl⟩ := hL
      refine aU ?_
      have hgr := a6D g k t s hbg
      have hcn := b1r g k t s hbg
      exact R_n (vl', vis g k t s) ⟨by rw [hgr.len]; exact hl, Nat.le_trans hgr.uns hu, by simp only; omega, by rw [show a0S (vis g k) s t = vis g k t s by unfold a0S; rw [hbg, if_neg zD]] at hI; exact hI⟩ hS wF
   ·obtain ⟨vl, s'⟩ := q
    obtain ⟨hl', hu', hb', hI⟩ := hI
    rw [List.drop_length] at hI
    have hI : s' = (sc g n).foldl (a0S (vis g k)) (s.1.set n true, s.2) := hI
    dsimp only at hS hb'
    unfold WI at hS
    refine a3I hw ?_
    refine aU ?_
    refine v8 hS rfl (.head _) rfl ?_
    refine aU ?_
    refine a7R (l := s'.2) (m := [(n : Int)]) (j := []) hS (g5 .i64) rfl rfl (by rw [List.append_nil]; exact .there (.there .here)) ⟨by simp; omega, by simp; omega⟩ (fun S hS => ?_)
    refine aU ?_
    refine E_stS hS rfl zC (by first | exact Rp.here | (repeat (first | exact Rp.here | apply Rp.there | apply Rp.skip))) rfl rfl (by first | exact Nat.le_of_ble_eq_true rfl | (simp; omega) | omega) (fun S hS => ?_)
    refine aU ?_
    refine ⟨trivial, _, rfl, _, ⟨vl + 1, rfl⟩, ?_⟩
    have e : vis g (k + 1) n s = (s'.1, s'.2 ++ [(n : Int)]) := by rw [hI]; rfl
    rw [e]
    exact hS
open Classical in
noncomputable def a0E (fuel : Nat) (g : b5) : Option (List Int) := if a1E g /\ 0 <= g.Entry /\ g.Entry < g.Nodes.length then some (a1l g) else none
theorem a4t {fuel : Nat} {g_00 : b5} {r : List Int} (h : a0E fuel g_00 = some r) : m5 Tryd.prog 46 [(b5.av g_00)] (.sl false 1 (List.map (avI .i64) r)) := by
 unfold a0E at h
 split at h
 case isFalse => cases h
 rename_i hc
 cases h
 obtain ⟨hg, he0, heN⟩ := hc
 obtain ⟨en, hen⟩ : ∃ e : Nat, g_00.Entry = (e : Int) := ⟨g_00.Entry.toNat, by omega⟩
 have hN := hg.nn
 have henN : en < g_00.Nodes.length := by omega
 have hs0 : (List.replicate g_00.Nodes.length false).getD en true = false := by simp [List.getD_eq_getElem?_getD, henN]
 have hu0 := a9e g_00.Nodes.length
 refine k6 mixed c5R zS [9, 11] 1 ?_
 have hS : Sep [] [] := Sep.nil
 refine d9 (b8 ?_)
 refine oP (gR g_00) ?_
 refine aU ?_
 refine b2M (x := false) hS a8R rfl rfl rfl rfl zO (fun os S hS => ?_)
 simp only [Int.toNat_natCast] at hS ⊢
 refine oP (.agg [.ref os 0 0 g_00.Nodes.length none, .nils]) ?_
 refine b8r hS rfl rfl rfl (fun ow S hS => ?_)
 refine aS ?_
 refine b7 ?_
 refine b4h (o := ow) 1 none hS (fun o' => Rp.here) rfl (fun ol S hS => ?_)
 refine aU ?_
 rw [hen]
 replace hS : Sep S ((ol, 0, flat (avI .i64) []) :: (ow, 0, [.ref os 0 0 g_00.Nodes.length none, .ref ol 0 0 0 none]) :: (os, 0, flat avB (List.replicate g_00.Nodes.length false)) :: []) := hS
 refine a4S (b2o hg (ow := ow) (os := os) (ol := ol) g_00.Nodes.length en (List.replicate g_00.Nodes.length false, []) 0 zS hs0 (by simp only; omega) zE) hS rfl (Spl.cons (Pk.there Pk.here) (Spl.cons (Pk.there Pk.here) (Spl.cons Pk.here Spl.nil))) (fun v S L' hL hS => ?_)
 obtain ⟨vl, rfl⟩ := hL
 have hcn := b1r g_00 g_00.Nodes.length en (List.replicate g_00.Nodes.length false, []) hs0
 have hline : a1l g_00 = (vis g_00 g_00.Nodes.length en (List.replicate g_00.Nodes.length false, [])).2.reverse := by unfold a1l; rw [hen, Int.toNat_natCast]
 rw [hline]
 generalize vis g_00 g_00.Nodes.length en (List.replicate g_00.Nodes.length false, []) = q at hS hcn
 obtain ⟨sn, left⟩ := q
 simp only [List.length_nil, Nat.zero_add, hu0] at hcn
 unfold WI at hS
 refine b7 ?_
 refine f5 ?_
 refine d9 (b8 ?_)
 refine aS ?_
 refine b7 ?_
 refine b6l 4 none hS rfl (fun o4 S hS => ?_)
 refine aU ?_
 refine v8 hS rfl (.tail _ (.head _)) rfl ?_
 refine aU ?_
 dsimp only at hS ⊢
 have hwm : IntKind.i64.wrap ((left.length : Int) - 1) = (left.length : Int) - 1 := s5 zO
 refine k7 (a0h (σ := Nat × Nat) (fun s => [(3, .ptr ow 0 0), (4, .ref o4 s.2 0 (left.drop s.1).length none), (5, .int .i64 ((s.1 : Int) - 1))])
  (fun s => (o4, s.2, flat (avI .i64) (left.drop s.1).reverse) :: (ow, 0, [.ref os 0 0 g_00.Nodes.length none, .ref ol vl 0 left.length none]) :: (os, 0, flat avB sn) :: (ol, vl, flat (avI .i64) left) :: []) (fun s => s.1 <= left.length) (fun s => s.1) (left.length, 0) (by rw [List.drop_length]; exact hS) (Nat.le_refl _)
  (a0B ⟨.refl _, by rw [List.drop_length]; exact .refl _, by show a8i none (.int .i64 (IntKind.i64.wrap ((left.length : Int) - 1))) (.int .i64 ((left.length : Int) - 1)); rw [hwm]; exact .refl _, trivial⟩) (fun s S hI hS => ?_))
 obtain ⟨m, v4⟩ := s
 dsimp only at hI hS
 refine aU ?_
 dsimp only
 cases m with
 | zero =>
   refine a9S rfl (w8 ?_)
   refine aE ?_
   refine aU ?_
   refine j5 ?_
   refine ⟨trivial, _, rfl, ?_⟩
   rw [List.drop_zero] at hS
   have := a8V (k := 0) (g5 .i64) (j := []) rfl rfl (by rw [List.append_nil]; exact hS.at (.head _))
   rw [List.length_reverse] at this
   show AVw (frz 0 S (0 + 1) (.ref o4 v4 0 (left.drop 0).length none)) _
   rw [List.drop_zero, this]
   exact .refl _
 | succ m =>
   have hm : m < left.length := by omega
   obtain ⟨x, hx⟩ : ∃ x, left[m]? = some x := ⟨left[m], List.getElem?_eq_getElem hm⟩
   have e1 : ((m + 1 : Nat) : Int) - 1 = (m : Int) := by omega
   rw [e1]
   refine a9x (by simp [ev, Fr.get]) ?_
   refine aU ?_
   refine k7 ?_
   refine aU ?_
   refine v8 hS rfl (.tail _ (.head _)) rfl ?_
   refine aU ?_
   refine n7 rfl rfl ⟨by omega, by omega⟩ ?_
   refine a6c hS (g5 .i64) rfl (.tail _ (.tail _ (.tail _ (.head _)))) (n := m) (fo := 0) (y := x) (v := .int .i64 x) (by simp [g8]) hx rfl ?_
   refine aU ?_
   refine a7R (o := o4) (ver := v4) (l := (left.drop (m + 1)).reverse) (m := [x]) (j := []) hS (g5 .i64) (by simp [ev, Fr.get]) rfl (by rw [List.append_nil]; exact Rp.here) ⟨by simp; omega, by simp; omega⟩ (fun S hS => ?_)
   refine aU ?_
   refine a0m ?_
   refine aU ?_
   have e2 : (left.drop (m + 1)).reverse ++ [x] = (left.drop m).reverse := by rw [a2Y hx]; simp
   rw [e2] at hS ⊢
   rw [List.length_reverse]
   refine ⟨(m, v4 + 1), by simp only; omega, Nat.lt_succ_self _, hS, a0B ⟨.refl _, .refl _, ?_, trivial⟩⟩
   have e3 : IntKind.i64.wrap ((m : Int) - 1) = (m : Int) - 1 := s5 zO
   show a8i none (.int .i64 (IntKind.i64.wrap ((m : Int) - 1))) (.int .i64 ((m : Int) - 1)); rw [e3]; exact .refl _
theorem a5p {α σ β : Type} {body : Nat -> α -> σ -> Option (Stp σ (Option β))} {xs : List α} {s0 : σ} {F : σ -> Option β} {r : Option β} (Inv : Nat -> σ -> Prop) (hl : xs.length <= 4611686018427387904) (h0 : Inv 0 s0)
  (h : ∀ i x s, xs[i]? = some x -> Inv i s -> ∃ s', body i x s = some (.nxt s') /\ Inv (i + 1) s') (hF : ∀ s, Inv xs.length s -> F s = r) : (rng body xs s0).bind (oc F) = r := by
 obtain ⟨o, e, s, rfl, hs⟩ := c0n (Q := fun o => ∃ s, o = .fin s /\ Inv xs.length s) Inv hl h0 (fun i x s hx hI => .inl (h i x s hx hI)) (fun s hs => ⟨s, rfl, hs⟩)
 rw [e]
 exact hF s hs
theorem b2p (a : Int) (x : b6) : wk1 a (wk1 a x) = wk1 a x := by
 unfold wk1
 simp only [b6.mk.injEq, true_and, and_true]
 constructor
 ·by_cases h : a < x.From
  ·rw [if_pos h, if_neg zO]
  ·rw [if_neg h, if_neg h]
 ·by_cases h : a > x.To
  ·rw [if_pos h, if_neg zO]
  ·rw [if_neg h, if_neg h]
theorem a9n (a : Int) (k : Nat) : ∀ (ps : List Int) (all : List b6), (∀ p ∈ ps, 0 <= p) -> (ps.foldl (wkP a) all)[k]? = (all[k]?).map fun x => if (k : Int) ∈ ps then wk1 a x else x
 | [], all, _ => by simp
 | p :: ps, all, h => by
   rw [List.foldl_cons, a9n a k ps _ (fun q hq => h q (by simp [hq]))]
   unfold wkP
   rw [List.getElem?_modify]
   have hp := h p zS
   cases e : all[k]? with
   | none => simp
   | some x =>
     simp only [Option.map_some, Option.map_eq_map]
     congr 1
     by_cases e1 : p.toNat = k
     ·have e2 : (k : Int) = p := by omega
      rw [if_pos e1]
      simp only [e2, List.mem_cons, true_or, if_true]
      split
      ·exact b2p a x
      ·rfl
     ·have e2 : ¬ (k : Int) = p := by omega
      rw [if_neg e1]
      simp only [List.mem_cons, e2, false_or]
theorem b2q (w : List Int) (k : Nat) : ∀ (ps : List Int) (all : List b6), (∀ p ∈ ps, 0 <= p) -> (ps.foldl (b2j w) all)[k]? = (all[k]?).map fun x => if (k : Int) ∈ ps /\ (k : Int) ∉ w then a9j x else x
 | [], all, _ => by simp
 | p :: ps, all, h => by
   rw [List.foldl_cons, b2q w k ps _ (fun q hq => h q (by simp [hq]))]
   have hp := h p zS
   unfold b2j
   by_cases hw : p ∈ w
   ·rw [if_pos hw]
    cases e : all[k]? with
    | none => simp
    | some x =>
      simp only [Option.map_some]
      congr 1
      by_cases e2 : (k : Int) = p
      ·rw [if_neg (by rw [e2]; exact fun h => h.2 hw), if_neg (by rw [e2]; exact fun h => h.2 hw)]
      ·simp only [List.mem_cons, e2, false_or]
   ·rw [if_neg hw, List.getElem?_modify]
    cases e : all[k]? with
    | none => simp
    | some x =>
      simp only [Option.map_some, Option.map_eq_map]
      congr 1
      by_cases e1 : p.toNat = k
      ·have e2 : (k : Int) = p := by omega
       rw [if_pos e1]
       simp only [e2, List.mem_cons, true_or, true_and, hw, not_false_eq_true, if_true]
       split
       ·rfl
       ·rfl
      ·have e2 : ¬ (k : Int) = p := by omega
       rw [if_neg e1]
       simp only [List.mem_cons, e2, false_or]
def a7U (g : b5) (k i : Nat) : Prop := (k : Int) ∈ lvI g i \/ (k : Int) ∈ wrN g i
def b6M (g : b5) (k i : Nat) : Prop := a3H g i = true /\ (k : Int) ∈ bhI g i /\ (k : Int) ∉ wrN g i
open Classical in
noncomputable def elS (g : b5) (k a i : Nat) (x : b6) : b6 := if b6M g k i then a9j (if a7U g k i then wk1 a x else x) else if a7U g k i then wk1 a x else x
theorem b9f (g : b5) (i : Nat) : ∀ p ∈ wrN g i, 0 <= p := by
 intro p hp
 unfold wrN at hp
 split at hp
 ·exact ((a9i _ p).1 hp).2
 ·cases hp
theorem b5d (g : b5) (a i k : Nat) (all : List b6) : (b0t g a all i)[k]? = (all[k]?).map (elS g k a i) := by
 unfold b0t
 simp only
 have e2 : ((wrN g i).foldl (wkP (a : Int)) ((lvI g i).foldl (wkP a) all))[k]? = (all[k]?).map fun x => if (k : Int) ∈ lvI g i \/ (k : Int) ∈ wrN g i then wk1 a x else x := by
  rw [a9n _ _ _ _ (b9f g i), a9n _ _ _ _ (show ∀ p ∈ lvI g i, 0 <= p from fun p hp => (a6F p hp).1)]
  cases all[k]? with
  | none => rfl
  | some x =>
    simp only [Option.map_some]
    congr 1
    by_cases h1 : (k : Int) ∈ wrN g i <;> by_cases h2 : (k : Int) ∈ lvI g i <;> simp [h1, h2, b2p]
 by_cases hc : a3H g i = true
 ·rw [if_pos hc, b2q _ _ _ _ (show ∀ p ∈ bhI g i, 0 <= p from fun p hp => (a6F p hp).1), e2]
  cases all[k]? with
  | none => rfl
  | some x =>
    simp only [Option.map_some, elS, b6M, a7U, hc, true_and]
    by_cases h1 : (k : Int) ∈ lvI g i \/ (k : Int) ∈ wrN g i <;> by_cases h2 : (k : Int) ∈ bhI g i /\ (k : Int) ∉ wrN g i <;> simp [h1, h2]
 ·rw [if_neg hc, e2]
  cases all[k]? with
  | none => rfl
  | some x =>
    simp only [Option.map_some, elS, b6M, a7U, hc, false_and, if_false]
    by_cases h1 : (k : Int) ∈ lvI g i \/ (k : Int) ∈ wrN g i <;> simp [h1]
structure EI (g : b5) (w : List Nat) (k n : Nat) (x : b6) : Prop where
 pl : x.Place = (k : Int)
 all : ∀ a i, (w[a]? = some i /\ a < n /\ a7U g k i) \/ (a = 0 /\ (k : Int) ∈ g.Params) -> x.From <= a /\ (a : Int) <= x.To
 ends : (x.From = (g.Nodes.length : Int) /\ x.To = -1) \/ ((∃ a i : Nat, x.From = (a : Int) /\ ((w[a]? = some i /\ a < n /\ a7U g k i) \/ (a = 0 /\ (k : Int) ∈ g.Params))) /\ ∃ a i : Nat, x.To = (a : Int) /\ ((w[a]? = some i /\ a < n /\ a7U g k i) \/ (a = 0 /\ (k : Int) ∈ g.Params)))
 held : x.Held = true ↔ ∃ a i, w[a]? = some i /\ a < n /\ b6M g k i
theorem EI.step {g : b5} {w : List Nat} {k n i : Nat} {x : b6} (hn : w[n]? = some i) (hnN : n < g.Nodes.length) (h : EI g w k n x) : EI g w k (n + 1) (elS g k n i x) := by
 have hT : ∀ y : b6, (a9j y).Place = y.Place /\ (a9j y).From = y.From /\ (a9j y).To = y.To := fun y => ⟨rfl, rfl, rfl⟩
 have hcase : ∀ (b : Prop) [Decidable b], (b ↔ a7U g k i) -> ∀ y, y = (if b then wk1 (n : Int) x else x) ->
   y.Place = (k : Int) /\ (∀ a j, (w[a]? = some j /\ a < n + 1 /\ a7U g k j) \/ (a = 0 /\ (k : Int) ∈ g.Params) -> y.From <= a /\ (a : Int) <= y.To) /\
   ((y.From = (g.Nodes.length : Int) /\ y.To = -1) \/ ((∃ a i : Nat, y.From = (a : Int) /\ ((w[a]? = some i /\ a < n + 1 /\ a7U g k i) \/ (a = 0 /\ (k : Int) ∈ g.Params))) /\ ∃ a i : Nat, y.To = (a : Int) /\ ((w[a]? = some i /\ a < n + 1 /\ a7U g k i) \/ (a = 0 /\ (k : Int) ∈ g.Params)))) /\ y.Held = x.Held := by
  intro b _ hb y hy
  have wid : ∀ a j, ((w[a]? = some j /\ a < n /\ a7U g k j) \/ (a = 0 /\ (k : Int) ∈ g.Params)) -> ((w[a]? = some j /\ a < n + 1 /\ a7U g k j) \/ (a = 0 /\ (k : Int) ∈ g.Params)) := fun a j hh => hh.imp (fun ⟨p, q, r⟩ => ⟨p, by omega, r⟩) id
  by_cases hbb : b
  ·rw [if_pos hbb] at hy
   subst hy
   have ht := hb.1 hbb
   have hf : (wk1 (n : Int) x).From = if (n : Int) < x.From then (n : Int) else x.From := rfl
   have hto : (wk1 (n : Int) x).To = if (n : Int) > x.To then (n : Int) else x.To := rfl
   refine ⟨h.pl, fun a j hh => ?_, .inr ⟨?_, ?_⟩, rfl⟩
   ·have key : (x.From <= a /\ (a : Int) <= x.To) \/ a = n := by
     rcases hh with ⟨p, q, r⟩ | hh
     ·by_cases e : a = n
      ·exact .inr e
      ·exact .inl (h.all a j (.inl ⟨p, by omega, r⟩))
     ·exact .inl (h.all a j (.inr hh))
    rw [hf, hto]
    rcases key with ⟨p, q⟩ | rfl
    ·constructor <;> split <;> omega
    ·constructor <;> split <;> omega
   ·by_cases e : (n : Int) < x.From
    ·exact ⟨n, i, by rw [hf, if_pos e], .inl ⟨hn, by omega, ht⟩⟩
    ·rcases h.ends with ⟨p, q⟩ | ⟨⟨a, j, p, q⟩, _⟩
     ·omega
     ·exact ⟨a, j, by rw [hf, if_neg e, p], wid a j q⟩
   ·by_cases e : (n : Int) > x.To
    ·exact ⟨n, i, by rw [hto, if_pos e], .inl ⟨hn, by omega, ht⟩⟩
    ·rcases h.ends with ⟨p, q⟩ | ⟨_, ⟨a, j, p, q⟩⟩
     ·omega
     ·exact ⟨a, j, by rw [hto, if_neg e, p], wid a j q⟩
  ·rw [if_neg hbb] at hy
   subst hy
   have ht : ¬ a7U g k i := fun hh => hbb (hb.2 hh)
   refine ⟨h.pl, fun a j hh => ?_, ?_, rfl⟩
   ·rcases hh with ⟨p, q, r⟩ | hh
    ·by_cases e : a = n
     ·subst e; rw [hn] at p; cases p; exact absurd r ht
     ·exact h.all a j (.inl ⟨p, by omega, r⟩)
    ·exact h.all a j (.inr hh)
   ·rcases h.ends with hh | ⟨⟨a, j, p, q⟩, ⟨b, l, r, s⟩⟩
    ·exact .inl hh
    ·exact .inr ⟨⟨a, j, p, wid a j q⟩, ⟨b, l, r, wid b l s⟩⟩
 unfold elS
 obtain ⟨q1, q2, q3, q4⟩ := @hcase (a7U g k i) (Classical.propDecidable _) Iff.rfl _ rfl
 split
 ·rename_i hh
  refine ⟨q1, q2, q3, ?_⟩
  constructor
  ·intro _; exact ⟨n, i, hn, by omega, hh⟩
  ·intro _; rfl
 ·rename_i hh
  refine ⟨q1, q2, q3, ?_⟩
  rw [q4, h.held]
  constructor
  ·rintro ⟨a, j, p, q, r⟩; exact ⟨a, j, p, by omega, r⟩
  ·rintro ⟨a, j, p, q, r⟩
   by_cases e : a = n
   ·subst e; rw [hn] at p; cases p; exact absurd r hh
   ·exact ⟨a, j, p, by omega, r⟩
theorem b0u {g : b5} {w : List Nat} {k : Nat} (hw : w.length <= g.Nodes.length) : ∀ (m n : Nat) (all : List b6) (x : b6), w.length - n = m -> n <= w.length -> all[k]? = some x -> EI g w k n x -> ∃ y, (a5n g n (w.drop n) all)[k]? = some y /\ EI g w k w.length y
 | 0, n, all, x, hm, hn, hx, h => by
   have : n = w.length := by omega
   subst this
   rw [List.drop_length]
   exact ⟨x, hx, h⟩
 | m + 1, n, all, x, hm, hn, hx, h => by
   have hlt : n < w.length := by omega
   obtain ⟨i, hi⟩ : ∃ i, w[n]? = some i := ⟨w[n], List.getElem?_eq_getElem hlt⟩
   rw [a2Y hi]
   simp only [a5n]
   exact b0u hw m (n + 1) _ _ zO hlt (by rw [b5d, hx]; rfl) (h.step hi zO)
theorem a7B {g : b5} (hg : a1E g) (hp : a6n g) {w : List Nat} (hw1 : a1l g = w.map (fun (n : Nat) => (n : Int))) (hwl : w.length <= g.Nodes.length) {k : Nat} (hk : k < g.Kinds.length) : ∃ x, (b0C g)[k]? = some x /\ EI g w k w.length x := by
 unfold b0C
 have hmapN : (a1l g).map Int.toNat = w := by rw [hw1, List.map_map]; exact (List.map_congr_left (fun x _ => by simp)).trans (List.map_id w)
 rw [hmapN]
 have h0 : (a6p g)[k]? = some ⟨(k : Int), (g.Nodes.length : Int), -1, false⟩ := by simp [a6p, hk]
 have h1 := a9n 0 k g.Params (a6p g) (fun p hp' => (hp p hp').1)
 rw [h0] at h1
 simp only [Option.map_some] at h1
 have hn0 := hg.n0
 refine b0u hwl _ 0 _ _ rfl (Nat.zero_le _) h1 ?_
 by_cases e : (k : Int) ∈ g.Params
 ·rw [if_pos e]
  have hf : (wk1 0 ⟨(k : Int), (g.Nodes.length : Int), -1, false⟩ : b6).From = 0 := by show (if (0 : Int) < _ then (0 : Int) else _) = 0; rw [if_pos zE]
  have ht : (wk1 0 ⟨(k : Int), (g.Nodes.length : Int), -1, false⟩ : b6).To = 0 := rfl
  refine ⟨rfl, fun a j hh => ?_, .inr ⟨⟨0, 0, by rw [hf]; rfl, .inr ⟨rfl, e⟩⟩, ⟨0, 0, by rw [ht]; rfl, .inr ⟨rfl, e⟩⟩⟩, ?_⟩
  ·rcases hh with ⟨_, q, _⟩ | ⟨rfl, _⟩
   ·omega
   ·rw [hf, ht]; omega
  ·constructor
   ·intro h; cases h
   ·rintro ⟨a, j, _, q, _⟩; omega
 ·rw [if_neg e]
  refine ⟨rfl, fun a j hh => ?_, .inl ⟨rfl, rfl⟩, ?_⟩
  ·rcases hh with ⟨_, q, _⟩ | ⟨_, q⟩
   ·omega
   ·exact absurd q e
  ·constructor
   ·intro h; cases h
   ·rintro ⟨a, j, _, q, _⟩; omega
theorem a8v (g : b5) : ∀ (l : List Nat) (a : Nat) (all : List b6), (a5n g a l all).length = all.length
 | [], _, _ => rfl
 | i :: l, a, all => by simp only [a5n]; rw [a8v g l, b4W]
theorem a3B (g : b5) : (b0C g).length = g.Kinds.length := by
 unfold b0C
 rw [a8v, a3A]; simp [a6p]
theorem b2r {σ β : Type} {body : Nat -> σ -> Option (Stp σ (Option β))} {n : Int} {s0 : σ} {F : σ -> Option β} {r : Option β} (Inv : Nat -> σ -> Prop) (hl : n <= 4611686018427387904) (h0 : Inv 0 s0)
  (h : ∀ (i : Nat) s, (i : Int) < n -> Inv i s -> ∃ s', body i s = some (.nxt s') /\ Inv (i + 1) s') (hF : ∀ s, Inv n.toNat s -> F s = r) : (rni body n s0).bind (oc F) = r := by
 obtain ⟨o, e, s, rfl, hs⟩ := b4b (Q := fun o => ∃ s, o = .fin s /\ Inv n.toNat s) Inv hl h0 (fun i s hx hI => .inl (h i s hx hI)) (fun s hs => ⟨s, rfl, hs⟩)
 rw [e]
 exact hF s hs
end Go.Proofs.YtepdcebjobjjgaaDoor

