/- append: what it makes of abstract values. -/
import Derived.Test.YtnpemocpfdgaoaaWlA8
set_option linter.unusedVariables false
set_option linter.unusedSimpArgs false
namespace Go.Ab
open Go.RowKit

def a9K (esh : Option Nat) (bytes : Nat) (s x : AV) (σ : Hp) (v : AV) (rd : List Nat) (δ : Option (Nat × Ob)) : Prop :=
 ∃ n cells rdx, Src esh x σ n cells rdx /\ cells.all AV.one = true /\
  ((n = 0 /\ v = s /\ rd = rdx /\ δ = none /\ (match s with | .nils | .sl _ _ _ | .ref _ _ _ _ _ => True | _ => False)) \/
   (n = 0 /\ rd = rdx /\ (s = .nils \/ ∃ sz, s = .sl true sz []) /\ ∃ o, σ o = .virgin /\ v = .ref o 0 0 0 esh /\ δ = some (o, .arr 0 [])) \/
   (match s with
    | .nils => 0 < n /\ n * bytes <= 140737488355328 /\ n <= 140737488355328 /\ rd = rdx /\ a1c false esh n cells σ v [] δ
    | .sl true sz xs => 0 < n /\ sz = d9 esh /\ (xs.length + n) * bytes <= 140737488355328 /\ xs.length + n <= 140737488355328 /\ rd = rdx /\ a1c false esh (xs.length + n) (xs.flatMap AV.cells ++ cells) σ v [] δ
    | .ref o ver off m e => e = esh /\ (m + n) * bytes <= 140737488355328 /\ m + n <= 140737488355328 /\ rd = o :: rdx /\ ∃ cs, σ o = .arr ver cs /\ v = .ref o (ver + 1) 0 (m + n) esh /\
      δ = some (o, .arr (ver + 1) ((cs.drop off).take (m * d9 esh) ++ cells))
    | _ => False))

theorem a1c.len {ex esh n cs σ v rd δ} (h : a1c ex esh n cs σ v rd δ) : n * d9 esh <= cs.length := h.2.1

theorem b1P {pm L σ} {cs : List AV} {us : List Value} (hl : us.length = cs.length) (hv : ∀ j (a : j < cs.length) (b : j < us.length), VR pm L σ (cs[j]) (us[j])) (zs : Array Value) :
  cs.length <= (us.toArray ++ zs).size /\ ∀ j (a : j < cs.length) (b : j < (us.toArray ++ zs).size), VR pm L σ (cs[j]) ((us.toArray ++ zs)[j]) := by
 refine ⟨by simp; omega, fun j a b => ?_⟩
 have := hv j a zO
 rw [Array.getElem_append_left zE]
 simpa using this

theorem b2S {pm L σ} {cs cs' : List AV} {us us' : List Value} (hl : us.length = cs.length) (hv : ∀ j (a : j < cs.length) (b : j < us.length), VR pm L σ (cs[j]) (us[j]))
  (hl' : us'.length = cs'.length) (hv' : ∀ j (a : j < cs'.length) (b : j < us'.length), VR pm L σ (cs'[j]) (us'[j])) :
  (us ++ us').length = (cs ++ cs').length /\ ∀ j (a : j < (cs ++ cs').length) (b : j < (us ++ us').length), VR pm L σ ((cs ++ cs')[j]) ((us ++ us')[j]) := by
 refine ⟨by simp [hl, hl'], fun j a b => ?_⟩
 by_cases h : j < cs.length
 ·rw [List.getElem_append_left h, List.getElem_append_left zO]; exact hv j h zO
 ·rw [List.getElem_append_right zO, List.getElem_append_right zO]
  simp only [hl]
  exact hv' _ _ _

theorem a3a {P g σ w t tx ty elem esh base sLen sCap ux v n d} {cs : List AV} {olds us : List Value} {δ : Option (Nat × Ob)} {z : Value} {inf : TypeInfo} (hw : WRel g σ w)
  (ht : P.underlying t = some (.slice elem)) (htx : P.underlying tx = some d) (hd : (∃ e', d = .slice e') \/ d = .string) (he : y4 P elem = some esh) (hi : P.info? elem = some inf) (hz0 : inf.zero = some z) (hzl : z.cells.size = d9 esh)
  (hlen : (Builtin.lenOf ux).run P w = .ok n w) (hf : (Builtin.firstCells (d9 esh) n ux).run P w.drew = .ok us.toArray w.drew)
  (hfo : (Builtin.firstCells (d9 esh) sLen (.slice base sLen sCap)).run P w.drew = .ok olds.toArray w.drew)
  (hroom : sCap < sLen + n) (hbytes : (sLen + n) * inf.bytes <= 140737488355328) (h63 : sLen + n <= 140737488355328)
  (hl : (olds ++ us).length = cs.length) (hln : cs.length = (sLen + n) * d9 esh) (hv : ∀ j (a : j < cs.length) (b : j < (olds ++ us).length), VR g.pm g.L σ (cs[j]) ((olds ++ us)[j]))
  (K : ∀ (c : Array Value) (cap : Nat), sLen + n <= cap -> cap * d9 esh <= c.size -> cs.length <= c.size -> (∀ j (a : j < cs.length) (b : j < c.size), VR g.pm g.L σ (cs[j]) (c[j])) ->
   ∃ g', WRel g' (ap σ δ) (w.drew.alloc (.cells c elem)) /\ g.le σ g' (ap σ δ) /\ VR g'.pm g'.L (ap σ δ) v (.slice (some ⟨w.heap.size, 0, none⟩) (sLen + n) cap)) :
  Goes P g σ w (do pure (.value (<- Builtin.append_ #[t, tx] ty #[.slice base sLen sCap, ux]))) v δ := by
 have hrun := a4d (ty := ty) ht htx hd he hi hz0 hlen hf hfo hroom hbytes zO
 have hcap := grownCap_ge w (sLen + n) sCap elem
 obtain ⟨k1, k2⟩ := b1P (pm := g.pm) (L := g.L) (σ := σ) hl hv (Builtin.zeroCells z.cells (grownCap w (sLen + n) sCap elem - (sLen + n)))
 obtain ⟨g', r1, r2, r3⟩ := K _ (grownCap w (sLen + n) sCap elem) hcap (by
  rw [Array.size_append, size_zeroCells, List.size_toArray, hl, hln, hzl, <- Nat.add_mul]
  exact Nat.mul_le_mul_right _ zO) k1 k2
 exact Goes.val' hrun r1 r2 r3

theorem b1Q {g σ o ver cs} {w : World} (hw : WRel g σ w) (hσ : σ o = .arr ver cs) (off n : Nat) (h : off + n <= cs.length) :
  ∃ us : List Value, us.length = n /\ (∀ j v, us[j]? = some v -> w.cell? ((⟨(g.L o).b, (g.L o).off + off, none⟩ : Addr).add j) = some v) /\
   ∀ j (a : j < ((cs.drop off).take n).length) (b : j < us.length), VR g.pm g.L σ (((cs.drop off).take n)[j]) (us[j]) := by
 have k := hw.ob o ver cs hσ
 have hch : ∀ j, ∃ v, j < cs.length -> w.cell? ⟨(g.L o).b, (g.L o).off + j, none⟩ = some v /\ ∀ hj : j < cs.length, VR g.pm g.L σ (cs[j]) v := fun j => by
  by_cases hj : j < cs.length
  ·obtain ⟨v, a, b⟩ := k.there j (by have := k.len; omega); exact ⟨v, fun _ => ⟨a, b⟩⟩
  ·exact ⟨undef, fun h => absurd h hj⟩
 have hus := fun j => Classical.choose_spec (hch j)
 refine ⟨(List.range n).map (fun j => Classical.choose (hch (off + j))), by simp, fun j v hj => ?_, fun j a b => ?_⟩
 ·rw [List.getElem?_map] at hj
  simp only [Option.map_eq_some_iff] at hj
  obtain ⟨j', hj', rfl⟩ := hj
  obtain ⟨hlt, e2⟩ := List.getElem?_eq_some_iff.1 hj'
  simp at hlt e2
  subst e2
  have := (hus (off + j) zO).1
  rw [Addr.add_lit, <- this]
  congr 2
  omega
 ·simp at a b
  have := (hus (off + j) zO).2 zO
  simpa using this

theorem a6F {P g σ w t tx ty elem esh s x us ux v rd δ d} {z : Value} {inf : TypeInfo} (hw : WRel g σ w)
  (ht : P.underlying t = some (.slice elem)) (htx : P.underlying tx = some d) (hd : (∃ e', d = .slice e') \/ d = .string) (he : y4 P elem = some esh) (hi : P.info? elem = some inf) (hz0 : inf.zero = some z) (hzl : z.cells.size = d9 esh)
  (hs : VR g.pm g.L σ s us) (hx : VR g.pm g.L σ x ux) (h : a9K esh inf.bytes s x σ v rd δ) :
  Goes P g σ w (do pure (.value (<- Builtin.append_ #[t, tx] ty #[us, ux]))) v δ := by
 obtain ⟨n, cells, rdx, hsrc, hone, h⟩ := h
 obtain ⟨l1, l2, vs, l3, l4, l5⟩ := u2 (P := P) hw hx hsrc
 obtain ⟨_, _, vd, d3, d4, d5⟩ := u2 (P := P) hw.drew hx hsrc
 rcases h with ⟨rfl, rfl, _, rfl, hsl⟩ | ⟨rfl, _, hs1, o, ho, rfl, rfl⟩ | h
 ·-- nothing is appended
  have hv0 : vs = [] := by
   have : vs.length = 0 := by omega
   exact List.eq_nil_of_length_eq_zero this
  subst hv0
  have key : ∀ base len cap, us = .slice base len cap -> len <= cap -> Goes P g σ w (do pure (.value (<- Builtin.append_ #[t, tx] ty #[us, ux]))) v none := fun base len cap e hc => by
   subst e
   have := a0t (ty := ty) (base := base) (sLen := len) (sCap := cap) (w' := w) ht htx hd he l1 l3 zO (by cases base <;> simp [storeCells])
   exact Goes.val hw this hs
  split at hsl
  ·cases hs; exact key _ _ _ rfl (Nat.le_refl _)
  ·cases hs with
   | slnil => exact key _ _ _ rfl (Nat.le_refl _)
   | slz => exact key _ _ _ rfl (Nat.le_refl _)
   | sl _ hc => exact key _ _ _ rfl hc
  ·cases hs with
   | ref hn => exact key _ _ _ rfl hn
   | refnil _ => exact key _ _ _ rfl (Nat.le_refl _)
  ·exact hsl.elim
 ·-- nothing is appended: an object without cells
  have hv0 : vs = [] := by
   have : vs.length = 0 := by omega
   exact List.eq_nil_of_length_eq_zero this
  subst hv0
  obtain ⟨w1, w2⟩ := hw.own (o := o) (l := ⟨g.B0, 0, 0⟩) (ver := 0) (cs := []) (by rw [ho]; exact trivial) (fun _ => Nat.le_refl _) zS (fun j hj => by simp at hj) (fun j hj => by simp at hj) (fun j hj => by simp at hj) (fun j hj => by simp at hj)
   (fun o' ver' cs' ho e hb j j' hj hj' => by simp at hj')
  have key : ∀ base, us = .slice base 0 0 -> Goes P g σ w (do pure (.value (<- Builtin.append_ #[t, tx] ty #[us, ux]))) (.ref o 0 0 0 esh) (some (o, .arr 0 [])) := fun base e => by
   subst e
   have := a0t (ty := ty) (base := base) (sLen := 0) (sCap := 0) (w' := w) ht htx hd he l1 l3 zO (by cases base <;> simp [storeCells])
   exact Goes.val' this w1 w2 (.refnil (by simp [a2I, a2f]))
  rcases hs1 with rfl | ⟨sz, rfl⟩
  ·cases hs; exact key _ rfl
  ·cases hs with
   | slnil => exact key _ rfl
   | slz => exact key _ rfl
   | sl us hc hex hz hp hv =>
     have := hex rfl
     simp at this
     subst this
     exact key _ rfl
 ·split at h
  ·obtain ⟨hn, hb, h63, _, hnew⟩ := h
   cases hs
   refine a3a (cs := cells) (olds := []) (us := vd) hw ht htx hd he hi hz0 hzl l1 d3 (by simp [Builtin.firstCells]) zO (by simpa using hb) zO (by simpa using d4) (by simpa using l2) (by simpa using d5) (fun c cap k1 k2 k3 k4 => ?_)
   have := a2C (g := g) (t := elem) (ex := false) (n := 0 + n) (cap := cap) hw.drew k3 k4 k1 k2 zS (by simpa using hnew)
   simpa using this
  ·rename_i sz xs
   obtain ⟨hn, rfl, hb, h63, _, hnew⟩ := h
   have hsx : Src esh (.sl true (d9 esh) xs) σ xs.length (xs.flatMap AV.cells) [] := ⟨rfl, rfl, rfl, rfl⟩
   obtain ⟨_, o2, vo, o3, o4, o5⟩ := u2 (P := P) hw.drew hs hsx
   have key : ∀ base, us = .slice base xs.length xs.length -> Goes P g σ w (do pure (.value (<- Builtin.append_ #[t, tx] ty #[us, ux]))) v δ := fun base e => by
    subst e
    obtain ⟨a1, a2⟩ := b2S o4 o5 d4 d5
    refine a3a (cs := xs.flatMap AV.cells ++ cells) (olds := vo) (us := vd) hw ht htx hd he hi hz0 hzl l1 d3 o3 zO hb h63 a1 (by rw [List.length_append, o2, l2, Nat.add_mul]) a2 (fun c cap k1 k2 k3 k4 => ?_)
    have := a2C (g := g) (t := elem) (ex := false) (n := xs.length + n) (cap := cap) hw.drew k3 k4 k1 k2 zS hnew
    simpa using this
   cases hs with
   | slnil => exact key none rfl
   | slz => exact key _ rfl
   | sl _ hc hex => have := hex rfl; subst this; exact key _ rfl
  ·rename_i o ver off m e
   obtain ⟨rfl, hb, h63, _, cs, hσ, rfl, rfl⟩ := h
   have hs0 := hs
   cases hs with
   | @refnil _ _ _ _ a _ =>
     by_cases hn : 0 < n
     case neg =>
      have hn0 : n = 0 := by omega
      subst hn0
      have hv0 : vs = [] := by
       have : vs.length = 0 := by omega
       exact List.eq_nil_of_length_eq_zero this
      subst hv0
      have hc0 : cells = [] := List.eq_nil_of_length_eq_zero zO
      subst hc0
      have hcells : (cs.drop off).take (0 * d9 e) ++ ([] : List AV) = [] := by simp
      rw [hcells]
      obtain ⟨w1, w2⟩ := hw.own (o := o) (l := ⟨g.B0, 0, 0⟩) (ver := ver + 1) (cs := []) (by rw [hσ]; exact .inl (Nat.lt_succ_self _)) (fun _ => Nat.le_refl _) zS (fun j hj => by simp at hj) (fun j hj => by simp at hj) (fun j hj => by simp at hj) (fun j hj => by simp at hj)
       (fun o' ver' cs' ho e hb j j' hj hj' => by simp at hj')
      have := a0t (ty := ty) (base := a) (sLen := 0) (sCap := 0) (w' := w) ht htx hd he l1 l3 zO (by cases a <;> simp [storeCells])
      exact Goes.val' this w1 w2 (.refnil (by simp [a2I, a2f]))
     obtain ⟨q1, q2⟩ := hw.drop hσ
     have hupd : ∀ x, upd (upd σ o (.dead ver)) o x = upd σ o x := fun x => by funext i; by_cases h : i = o <;> simp [upd, h]
     refine a3a (cs := cells) (olds := []) (us := vd) hw ht htx hd he hi hz0 hzl l1 d3 (by cases a <;> simp [Builtin.firstCells, loadCells, loadCellsFrom]) zO (by simpa using hb) zO (by simpa using d4) (by simpa using l2) (by simpa using d5) (fun c cap' k1 k2 k3 k4 => ?_)
     have q1' := q1.drew
     have hcells : (cs.drop off).take (0 * d9 e) ++ cells = cells := by simp
     rw [hcells]
     obtain ⟨w1, w2⟩ := q1'.alloc_ob (o := o) (ver := ver + 1) c elem cells (by simp [u0]) k3 (fun j a b => (k4 j a b).mono q2.ext)
     rw [hupd] at w1 w2
     refine ⟨_, w1, q2.trans w2, ?_⟩
     simp only [a2f]
     have hb2 := l2
     refine .ref (by simpa using k1) rfl ?_
     simp only [a0p, a1N]
     exact ⟨Nat.le_refl _, fun _ => ⟨by simp, by simp; omega, by simpa using k1, by simpa using k2⟩⟩
   | ref hnc hsp hr =>
     rename_i a cap
     simp only [a0p, hσ] at hr
     obtain ⟨_, rfl, r2, r3, r4⟩ : _ /\ _ := ⟨trivial, hr.2 trivial⟩
     have k := hw.ob o ver cs hσ
     obtain ⟨q1, q2⟩ := hw.drop hσ
     have hvs : ∀ j (a : j < cells.length) (b : j < vs.length), VR g.pm g.L (upd σ o (.dead ver)) (cells[j]) (vs[j]) := fun j a b => (l5 j a b).mono q2.ext
     obtain ⟨uo, uo1, uo2, uo3⟩ := b1Q hw hσ off (m * d9 e) r2
     have huo : ∀ j (a : j < ((cs.drop off).take (m * d9 e)).length) (b : j < uo.length), VR g.pm g.L (upd σ o (.dead ver)) (((cs.drop off).take (m * d9 e))[j]) (uo[j]) := fun j a b => (uo3 j a b).mono q2.ext
     have hcl : ((cs.drop off).take (m * d9 e)).length = m * d9 e := by simp; omega
     have hncs : (((cs.drop off).take (m * d9 e)) ++ cells).length = (m + n) * d9 e := by rw [List.length_append, hcl, l2, Nat.add_mul]
     have hupd : ∀ x, upd (upd σ o (.dead ver)) o x = upd σ o x := fun x => by funext i; by_cases h : i = o <;> simp [upd, h]
     by_cases hroom : m + n <= cap
     ·-- room: the cells behind are written
      have hq : (m + n) * d9 e <= cap * d9 e := Nat.mul_le_mul_right _ hroom
      have hadd : (m + n) * d9 e = m * d9 e + n * d9 e := Nat.add_mul _ _ _
      have hthere : ∀ j, j < vs.length -> (w.cell? ⟨(g.L o).b, (g.L o).off + off + m * d9 e + j, none⟩).isSome = true := fun j hj => by
       obtain ⟨v, hv, _⟩ := k.there (off + m * d9 e + j) zO
       rw [show (g.L o).off + off + m * d9 e + j = (g.L o).off + (off + m * d9 e + j) by omega, hv]; rfl
      have hst := run_storeCells_cells (P := P) (g.L o).b ((g.L o).off + off + m * d9 e) vs 0 w (by simpa using hthere)
       (fun j hj => by
        have := k.free (off + m * d9 e + j) zO
        rwa [show (g.L o).off + off + m * d9 e + 0 + j = (g.L o).off + (off + m * d9 e + j) by omega])
       (fun u hu => by
        obtain ⟨j, hj, rfl⟩ := List.getElem_of_mem hu
        exact (l5 j zO hj).one (List.all_eq_true.1 hone _ (List.getElem_mem _)))
      simp only [Nat.add_zero] at hst
      have hrun := a0t (ty := ty) (base := some ⟨(g.L o).b, (g.L o).off + off, none⟩) (sLen := m) (sCap := cap) ht htx hd he l1 l3 hroom (w' := w.setCells (g.L o).b ((g.L o).off + off + m * d9 e) vs) (by simpa [Addr.add_lit] using hst)
      have hfree := WRel.setCells_free (g := g) (b := (g.L o).b) vs ((g.L o).off + off + m * d9 e) q1 (fun hv => k.low zO) (fun j hj => by
       have e1 : (g.L o).off + off + m * d9 e + j = (g.L o).off + (off + m * d9 e + j) := by omega
       rw [e1]
       refine ⟨k.pm _ zO, k.tm _ zO, ?_, fun o' ver' cs' e' j' hj' hh => ?_⟩
       ·obtain ⟨v, hv, _⟩ := k.there (off + m * d9 e + j) zO; exact ⟨v, hv⟩
       ·by_cases ho : o' = o
        ·subst ho; simp at e'
        ·rw [s8 _ _ ho] at e'
         exact hw.sep o' o _ _ _ _ e' hσ ho hh.1 j' (off + m * d9 e + j) hj' zO hh.2)
      have hin := World.cell?_setCells_in (g.L o).b vs ((g.L o).off + off + m * d9 e) w hthere
      have hout := World.cell?_setCells_out (g.L o).b vs ((g.L o).off + off + m * d9 e) w
      obtain ⟨w1, w2⟩ := hfree.own (o := o) (l := ⟨(g.L o).b, (g.L o).off + off, (g.L o).cap - off⟩) (ver := ver + 1) (cs := (cs.drop off).take (m * d9 e) ++ cells)
       (by simp [u0]) (fun hc => k.low (by simp at hc; omega)) (by rw [hncs]; simp; omega) (fun j hj => by
        simp only at hj ⊢
        by_cases hj1 : j < m * d9 e
        ·refine ⟨uo[j]'zO, ?_, fun hj2 => ?_⟩
         ·rw [hout _ (fun _ _ => Or.inl zE)]
          have := uo2 j (uo[j]'zO) zS
          rwa [Addr.add_lit] at this
         ·rw [List.getElem_append_left zO]
          refine (huo j zO zO).mono ⟨fun _ _ _ h => h, fun i => ?_⟩
          by_cases hi : i = o
          ·subst hi; simp [u0]
          ·simp [s8 _ _ hi]; exact u0.refl _ _
        ·by_cases hj2 : j < (m + n) * d9 e
         ·refine ⟨vs[j - m * d9 e]'zO, ?_, fun hj3 => ?_⟩
          ·have := hin (j - m * d9 e) zO
           rwa [show (g.L o).off + off + m * d9 e + (j - m * d9 e) = (g.L o).off + off + j by omega] at this
          ·rw [List.getElem_append_right zO]
           simp only [hcl]
           refine (hvs (j - m * d9 e) zO zO).mono ⟨fun _ _ _ h => h, fun i => ?_⟩
           by_cases hi : i = o
           ·subst hi; simp [u0]
           ·simp [s8 _ _ hi]; exact u0.refl _ _
         ·obtain ⟨v, hv, _⟩ := k.there (off + j) zO
          refine ⟨v, ?_, fun hj3 => by omega⟩
          rw [hout _ (fun _ _ => Or.inr zE)]
          rwa [show (g.L o).off + off + j = (g.L o).off + (off + j) by omega])
       (fun j hj => by
        simp only at hj ⊢
        rw [World.frozen?_setCells]
        have := k.free (off + j) zO
        rwa [show (g.L o).off + off + j = (g.L o).off + (off + j) by omega])
       (fun j hj => by
        simp only at hj ⊢
        have := k.pm (off + j) zO
        rwa [show (g.L o).off + off + j = (g.L o).off + (off + j) by omega])
       (fun j hj => by
        simp only at hj ⊢
        have := k.tm (off + j) zO
        rwa [show (g.L o).off + off + j = (g.L o).off + (off + j) by omega])
       (fun o' ver' cs' ho e' hb j j' hj hj' => by
        rw [s8 _ _ ho] at e'
        simp only at hj' hb ⊢
        have := hw.sep o' o _ _ _ _ e' hσ ho hb j (off + j') hj zO
        omega)
      rw [hupd] at w1 w2
      refine Goes.val' hrun w1 (q2.trans w2) ?_
      simp only [a2f]
      refine .ref hroom rfl ?_
      simp only [a0p, a1N]
      exact ⟨Nat.le_refl _, fun _ => ⟨by simp, by rw [hncs]; omega, hroom, by simp; omega⟩⟩
     ·-- no room: a new array
      have hso : Src e (.ref o ver off m e) σ m ((cs.drop off).take (m * d9 e)) [o] := ⟨rfl, rfl, rfl, cs, hσ, rfl⟩
      obtain ⟨_, _, vo, o3, o4, o5⟩ := u2 (P := P) hw.drew hs0 hso
      obtain ⟨a1, a2⟩ := b2S o4 o5 d4 d5
      refine a3a (cs := (cs.drop off).take (m * d9 e) ++ cells) (olds := vo) (us := vd) hw ht htx hd he hi hz0 hzl l1 d3 o3 zO hb h63 a1 hncs a2 (fun c cap' k1 k2 k3 k4 => ?_)
      have q1' := q1.drew
      obtain ⟨w1, w2⟩ := q1'.alloc_ob (o := o) (ver := ver + 1) c elem ((cs.drop off).take (m * d9 e) ++ cells) (by simp [u0]) k3 (fun j a b => (k4 j a b).mono q2.ext)
      rw [hupd] at w1 w2
      refine ⟨_, w1, q2.trans w2, ?_⟩
      simp only [a2f]
      refine .ref k1 rfl ?_
      simp only [a0p, a1N]
      exact ⟨Nat.le_refl _, fun _ => ⟨by simp, by rw [hncs]; omega, k1, by simpa using k2⟩⟩
  ·exact h.elim
def a9L (esh : Option Nat) (s x : AV) (σ : Hp) (v : AV) (rd : List Nat) (δ : Option (Nat × Ob)) : Prop :=
 ∃ n cells rdx, Src esh x σ n cells rdx /\ cells.all AV.one = true /\
  match s with
  | .ref o ver off m e => e = esh /\ n <= m /\ v = .int .i64 n /\ rd = rdx /\ ∃ cs, σ o = .arr ver cs /\ δ = some (o, .arr ver (splice cs off cells))
  | .nils => n = 0 /\ v = .int .i64 0 /\ rd = rdx /\ δ = none
  | _ => False

theorem a9M {P g σ w t tx ty elem esh s x us ux v rd δ} (hw : WRel g σ w)
  (ht : P.underlying t = some (.slice elem)) (he : y4 P elem = some esh)
  (hs : VR g.pm g.L σ s us) (hx : VR g.pm g.L σ x ux) (h : a9L esh s x σ v rd δ) :
  Goes P g σ w (do pure (.value (<- Builtin.copy_ #[t, tx] ty #[us, ux]))) v δ := by
 obtain ⟨n, cells, rdx, hsrc, hone, h⟩ := h
 obtain ⟨l1, l2, vs, l3, l4, l5⟩ := u2 (P := P) hw hx hsrc
 obtain ⟨inf, hi, hsz⟩ := u6 he
 have h3 := q7 (P := P) hi w
 rw [hsz] at h3
 split at h
 ·rename_i o ver off m e
  obtain ⟨rfl, hnm, rfl, _, cs, hσ, rfl⟩ := h
  cases hs with
  | @refnil _ _ _ _ a _ =>
    have hn0 : n = 0 := by omega
    subst hn0
    have : vs = [] := by
     have : vs.length = 0 := by omega
     exact List.eq_nil_of_length_eq_zero this
    subst this
    have hc0 : cells = [] := List.eq_nil_of_length_eq_zero zO
    subst hc0
    have hmin : Nat.min 0 0 = 0 := rfl
    refine Goes.val' (u := .int .i64 0) (g' := g) (w' := w) ?_ ?_ ?_ .int
    ·cases a <;> simp [Builtin.copy_, run_underlying ht, l1, h3, goInt, l3, storeCells]
    ·have : ap σ (some (o, .arr ver (splice cs off []))) = σ := by
      funext i; simp only [a2f, splice]; by_cases hi : i = o
      ·subst hi; simp [hσ]
      ·rw [s8 _ _ hi]
     rw [this]; exact hw
    ·have : ap σ (some (o, .arr ver (splice cs off []))) = σ := by
      funext i; simp only [a2f, splice]; by_cases hi : i = o
      ·subst hi; simp [hσ]
      ·rw [s8 _ _ hi]
     rw [this]; exact Gh.le.refl _ _
  | ref hnc hsp hr =>
    rename_i a cap
    simp only [a0p, hσ] at hr
    obtain ⟨_, rfl, r2, r3, r4⟩ : _ /\ _ := ⟨trivial, hr.2 trivial⟩
    have k := hw.ob o ver cs hσ
    have hle : n * d9 e <= m * d9 e := Nat.mul_le_mul_right _ hnm
    have hst := WRel.stores cells vs hw hσ off (by have := k.len; omega) l4 l5
    have hrun := run_storeCells_cells (P := P) (g.L o).b ((g.L o).off + off) vs 0 w (fun j hj => by
      obtain ⟨v, hv, _⟩ := k.there (off + j) (by have := k.len; omega)
      rw [show (g.L o).off + off + 0 + j = (g.L o).off + (off + j) by omega, hv]; rfl) (fun j hj => by
      have := k.free (off + j) (by have := k.len; omega)
      rwa [show (g.L o).off + off + 0 + j = (g.L o).off + (off + j) by omega]) (fun u hu => by
        obtain ⟨j, hj, rfl⟩ := List.getElem_of_mem hu
        exact (l5 j zO hj).one (List.all_eq_true.1 hone _ (List.getElem_mem _)))
    simp only [Nat.add_zero] at hrun
    refine Goes.val' (u := .int .i64 n) ?_ hst.1 hst.2 .int
    have hmin : Nat.min n m = n := Nat.min_eq_left hnm
    simp [Builtin.copy_, run_underlying ht, l1, hmin, h3, l3, hrun, goInt]
 ·obtain ⟨rfl, rfl, _, rfl⟩ := h
  cases hs
  refine Goes.val hw (u := .int .i64 0) ?_ .int
  have : vs = [] := by
   have : vs.length = 0 := by omega
   exact List.eq_nil_of_length_eq_zero this
  subst this
  have hmin : Nat.min 0 0 = 0 := rfl
  simp [Builtin.copy_, run_underlying ht, l1, h3, goInt, l3]
 ·exact h.elim

theorem a5x : ∀ (l : List UInt8) (s : ByteArray), (l.map (fun b => (b.toNat : Int))).foldl (fun r n => r.push (UInt8.ofNat n.toNat)) s = ⟨s.data ++ l.toArray⟩
 | [], s => by cases s; simp
 | b :: l, s => by
   simp only [List.map_cons, List.foldl_cons]
   rw [a5x l]
   cases s
   simp [ByteArray.push, UInt8.ofNat_toNat]

def b3n (x : AV) (σ : Hp) (v : AV) (rd : List Nat) : Prop :=
 ∃ n s, Src none x σ n (v3 s) rd /\ (match x with | .str _ => False | _ => True) /\ v = .str s

theorem a0u (s : ByteArray) : (v3 s).length = s.size := by simp [v3]

theorem a9N {P g σ w src dst e x u v rd} (hw : WRel g σ w) (hs : P.underlying src = some (.slice e)) (he : P.underlying e = some (.int .u8)) (hd : P.underlying dst = some .string)
  (hx : VR g.pm g.L σ x u) (h : b3n x σ v rd) : Goes P g σ w (do pure (.value (<- convert src dst u))) v none := by
 obtain ⟨n, s, hsrc, hns, rfl⟩ := h
 obtain ⟨l1, l2, vs, l3, l4, l5⟩ := u2 (P := P) hw hx hsrc
 simp only [d9, Option.getD_none, Nat.mul_one] at l2 l3
 rw [a0u] at l2 l4
 have hvs : vs = (s.data.toList.map (fun b => (b.toNat : Int))).map (Value.int .u8) := by
  apply List.ext_getElem
  ·simp [l4]
  ·intro j h1 h2
   have := l5 j (by rw [a0u]; omega) h1
   simp only [v3, List.getElem_map] at this
   simp only [List.getElem_map]
   generalize vs[j] = q at this
   cases this
   rfl
 have hfold : (s.data.toList.map (fun b => (b.toNat : Int))).foldl (fun r n => r.push (UInt8.ofNat n.toNat)) ByteArray.empty = s := by
  rw [a5x]
  cases s
  simp [ByteArray.empty, ByteArray.emptyWithCapacity]
  rfl
 have key : ∀ a len cap, u = .slice a len cap -> Goes P g σ w (do pure (.value (<- convert src dst u))) (.str s) none := fun a len cap e1 => by
  subst e1
  refine Goes.val hw (u := .string s) ?_ .str
  rw [run_convert_bytes_string w src dst e a len cap hs he hd]
  simp [Builtin.lenOf] at l1
  subst l1
  cases a with
  | none =>
    have : s = ByteArray.empty := by
     simp [Builtin.firstCells] at l3
     subst l3
     simp at l4
     have h0 : s.data.toList = [] := by
      apply List.eq_nil_of_length_eq_zero
      simpa using l4.symm
     rw [h0] at hfold
     exact hfold.symm
    subst this
    simp [Conv.bytesToString]
  | some a =>
    have := run_bytesToString (P := P) w a len cap (s.data.toList.map (fun b => (b.toNat : Int))) (by rw [<- hvs]; simpa [Builtin.firstCells] using l3)
    rw [this, hfold]
 unfold Src at hsrc
 split at hsrc
 ·cases hx; exact key _ _ _ rfl
 ·cases hx <;> exact key _ _ _ rfl
 ·cases hx <;> exact key _ _ _ rfl
 ·cases hx <;> exact key _ _ _ rfl
 ·exact hns.elim
 ·exact hsrc.elim

def b1R (x v : AV) : Prop :=
 match x with
 | .str s => v = .sl false 1 (v3 s)
 | _ => False

theorem a6G (s : ByteArray) : (v3 s).all AV.one = true := by
 rw [List.all_eq_true]
 intro x hx
 simp only [v3, List.mem_map] at hx
 obtain ⟨_, _, rfl⟩ := hx
 rfl

theorem a9O {P g σ w src dst e x u v} (hw : WRel g σ w) (hs : P.underlying src = some .string) (he : P.underlying e = some (.int .u8)) (hd : P.underlying dst = some (.slice e))
  (hx : VR g.pm g.L σ x u) (h : b1R x v) : Goes P g σ w (do pure (.value (<- convert src dst u))) v none := by
 unfold b1R at h
 split at h
 ·rename_i s
  subst h
  cases hx
  have hcap : s.size <= grownCap w s.size 0 e := grownCap_ge w s.size 0 e
  have hcs : (bytesRow s (grownCap w s.size 0 e)).size = grownCap w s.size 0 e := by simp [bytesRow]; omega
  obtain ⟨g', h1, h2, h3⟩ := hw.drew.alloc_tell (bytesRow s (grownCap w s.size 0 e)) e ((bytesRow s (grownCap w s.size 0 e)).size, (bytesRow s (grownCap w s.size 0 e)).size + 1)
  refine Goes.val' (run_bytes_of_string w src dst e s hs hd he) h1 h2 ?_
  have hpm : ∀ j, j < s.size -> g'.pm w.heap.size (0 + j) = some (.int .u8 (s.data.getD j 0).toNat) := fun j hj => by
   have := h3 j zO
   rw [Nat.zero_add]
   have hj' : j < s.data.size := by simpa using hj
   have e2 : g'.pm w.heap.size j = some ((bytesRow s (grownCap w s.size 0 e))[j]'zO) := this
   rw [e2]
   simp only [bytesRow]
   rw [Array.getElem_append_left (by simpa using hj')]
   simp only [Array.getElem_map, Array.getD_eq_getD_getElem?, Array.getElem?_eq_getElem hj', Option.getD_some]
  have := VR.told (pm := g'.pm) (L := g'.L) (σ := ap σ none) (esh := none) (k := s.size) (cap := grownCap w s.size 0 e) (cs := v3 s) (b := w.heap.size) (o := 0) (us := fun j => .int .u8 (s.data.getD j 0).toNat) (ex := false)
   (by simp [d9, a0u]) (a6G s) (fun j hj => hpm j (by simpa [d9] using hj)) (fun j hj _ => by
    have hj' : j < s.data.size := by simpa [v3] using hj
    simp only [v3, List.getElem_map, Array.getElem_toList, Array.getD_eq_getD_getElem?, Array.getElem?_eq_getElem hj', Option.getD_some]
    exact .int) hcap zS
  simpa [q8, d9, <- a0u] using this
 ·exact h.elim

def a8U (mx : Bool) (x y v : AV) : Prop :=
 match x, y with
 | .int k a, .int _ b => v = .int k (if mx then (if b > a then b else a) else (if b < a then b else a))
 | _, _ => False

theorem a9P {P g σ w ts ty x y ux uy v} (hw : WRel g σ w) (hx : VR g.pm g.L σ x ux) (hy : VR g.pm g.L σ y uy) (h : a8U false x y v) :
  Goes P g σ w (do pure (.value (<- Builtin.min_ ts ty #[ux, uy]))) v none := by
 unfold a8U at h
 split at h
 ·cases hx; cases hy; subst h
  exact Goes.val hw (run_min_int2 w ts ty _ _ _ _) .int
 ·exact h.elim

theorem a9Q {P g σ w ts ty x y ux uy v} (hw : WRel g σ w) (hx : VR g.pm g.L σ x ux) (hy : VR g.pm g.L σ y uy) (h : a8U true x y v) :
  Goes P g σ w (do pure (.value (<- Builtin.max_ ts ty #[ux, uy]))) v none := by
 unfold a8U at h
 split at h
 ·cases hx; cases hy; subst h
  exact Goes.val hw (run_max_int2 w ts ty _ _ _ _) .int
 ·exact h.elim

inductive FK where
 | int | bool | str
 deriving DecidableEq

def c2j (P : Program) (t : TypeId) : Option FK :=
 match P.underlying t with
 | some (.int _) => some .int
 | some .bool => some .bool
 | some .string => some .str
 | _ => none

def a0F (P : Program) : Nat -> List Field -> List FK -> Bool
 | _, [], [] => true
 | i, f :: r, k :: ks => f.offset == i && f.name != "_" && c2j P f.type == some k && y4 P f.type == some none && a0F P (i + 1) r ks
 | _, _, _ => false

def a2h : List FK -> List AV -> List AV -> Bool
 | [], [], [] => true
 | .int :: ks, .int k _ :: xs, .int k' _ :: ys => k == k' && a2h ks xs ys
 | .bool :: ks, .bool _ :: xs, .bool _ :: ys => a2h ks xs ys
 | .str :: ks, .str _ :: xs, .str _ :: ys => a2h ks xs ys
 | _, _, _ => false

theorem a3U {P : Program} {pm L σ} {us vs : Array Value} (w : World) (d : Nat) : ∀ (fs : List Field) (ks : List FK) (xs ys : List AV) (i : Nat),
  (us.size = i + xs.length /\ ∀ j (h : j < xs.length) (h' : i + j < us.size), VR pm L σ (xs[j]) (us[i + j])) ->
  (vs.size = i + ys.length /\ ∀ j (h : j < ys.length) (h' : i + j < vs.size), VR pm L σ (ys[j]) (vs[i + j])) ->
  a0F P i fs ks = true -> a2h ks xs ys = true -> (Op.eqFields (d + 1) us vs fs).run P w = .ok (a3x xs ys) w
 | [], ks, xs, ys, i, hx, hy, hf, ha => by
   cases ks <;> simp [a0F] at hf
   cases xs <;> cases ys <;> simp [a2h] at ha
   simp [Op.eqFields, a3x]
 | f :: fs, ks, xs, ys, i, hx, hy, hf, ha => by
   cases ks with
   | nil => simp [a0F] at hf
   | cons k ks =>
     simp only [a0F, Bool.and_eq_true, beq_iff_eq, bne_iff_ne] at hf
     obtain ⟨⟨⟨⟨rfl, hname⟩, hty⟩, hesh⟩, hr⟩ := hf
     cases xs with
     | nil => cases k <;> simp [a2h] at ha
     | cons a xs =>
       cases ys with
       | nil => cases k <;> cases a <;> simp [a2h] at ha
       | cons b ys =>
         obtain ⟨hx1, hx2⟩ := hx
         obtain ⟨hy1, hy2⟩ := hy
         simp at hx1 hy1
         have hlu : f.offset < us.size := by omega
         have hlv : f.offset < vs.size := by omega
         have hru := hx2 0 zS zO
         have hrv := hy2 0 zS zO
         simp at hru hrv
         have hal : a2h ks xs ys = true := by
          cases k <;> cases a <;> first | (simp only [a2h, Bool.false_eq_true] at ha; done) | (cases b <;> first | (simp only [a2h, Bool.false_eq_true] at ha; done) | (simp only [a2h, Bool.and_eq_true] at ha; exact ha.2) | (simp only [a2h] at ha; exact ha))
         have ih := a3U (P := P) (us := us) (vs := vs) w d fs ks xs ys (f.offset + 1) ⟨by omega, fun j h h' => by
           have := hx2 (j + 1) (by simpa using h) zO
           simpa [Nat.add_assoc, Nat.add_comm 1] using this⟩ ⟨by omega, fun j h h' => by
           have := hy2 (j + 1) (by simpa using h) zO
           simpa [Nat.add_assoc, Nat.add_comm 1] using this⟩ hr hal
         have hu : (part f.type us f.offset).run P w = .ok us[f.offset] w := by simp [part, a1F hesh, hlu]
         have hv : (part f.type vs f.offset).run P w = .ok vs[f.offset] w := by simp [part, a1F hesh, hlv]
         generalize us[f.offset] = u at hru hu
         generalize vs[f.offset] = v at hrv hv
         have heq : (Op.equalIn (d + 1) f.type u v).run P w = .ok (a.same b) w := by
          unfold c2j at hty
          cases k
          ·cases a <;> cases b <;> simp [a2h] at ha
           obtain ⟨rfl, _⟩ := ha
           cases hru; cases hrv
           split at hty <;> first | (cases hty; done) | skip
           rename_i hut
           simp only [AV.same, beq_self_eq_true, Bool.true_and]
           exact run_equalIn_int (P := P) w d f.type _ _ _ _ hut
          ·cases a <;> cases b <;> simp [a2h] at ha
           cases hru; cases hrv
           split at hty <;> first | (cases hty; done) | skip
           rename_i hut
           exact run_equalIn_bool w d f.type _ _ hut
          ·cases a <;> cases b <;> simp [a2h] at ha
           cases hru; cases hrv
           split at hty <;> first | (cases hty; done) | skip
           rename_i hut
           exact run_equalIn_string w d f.type _ _ hut
         simp only [Op.eqFields, ne_eq, hname, not_false_eq_true, if_true, Sem.run_bind, hu, hv, Result.andThen_ok, heq, a3x]
         cases hab : a.same b
         ·simp
         ·simpa using ih

def b1S (ks : List FK) (op : BinOp) (x y v : AV) : Prop :=
 match x, y with
 | .agg xs, .agg ys => a2h ks xs ys = true /\ a6x op (a3x xs ys) = some v
 | _, _ => False

theorem a9R {P g σ w ks op xt x y ux uy v} {ox oy : Operand} {fields : Array Field} (hw : WRel g σ w) (ht : P.underlying xt = some (.struct fields)) (hk : a0F P 0 fields.toList ks = true) (hs : P.stoodInHeld xt = false) (hg : P.eqGuardType P.depth xt = false)
  (hx : VR g.pm g.L σ x ux) (hy : VR g.pm g.L σ y uy) (h : b1S ks op x y v) :
  Goes P g σ w (do pure (.value (<- (do eqGuard op xt ox oy ux uy; binOp op xt ux uy)))) v none := by
 unfold b1S at h
 split at h
 ·obtain ⟨ha, h⟩ := h
  cases hx with
  | agg hlx hvx =>
    cases hy with
    | agg hly hvy =>
      have hfo : P.fieldsOf xt = fields := by simp [Program.fieldsOf, ht]
      rename_i us vs
      have hq := run_equalIn_struct (P := P) w 9999 xt us vs (by rw [hfo]; exact ht) hs
      have hr := a3U (P := P) w 9998 fields.toList ks _ _ 0 ⟨by rw [hlx]; omega, fun j h h' => by simpa using hvx j h zO⟩ ⟨by rw [hly]; omega, fun j h h' => by simpa using hvy j h zO⟩ hk ha
      obtain ⟨h1, h2⟩ := y6 (P := P) (t := xt) (x := .agg _) (y := .agg _) w h trivial (by rw [Op.equal]; exact (by rw [hfo] at hq; exact hq.trans hr))
      exact Goes.val hw (u := v.val1) (by simp [run_eqGuard_agg w op xt ox oy _ _ hg, h1]) (VR.val1 h2)
 ·exact h.elim
def b1T (t : TypeId) (x v : AV) : Prop := match x with | .iface t' v0 => t' = t /\ v = v0 | _ => False

theorem a9S {P : Program} {g σ} {w : World} {xt t d x u v} (hw : WRel g σ w) (hd : P.underlying t = some d) (hni : ∀ ms, d ≠ .interface ms) (hx : VR g.pm g.L σ x u) (h : b1T t x v) :
  Goes P g σ w (do pure (.value (<- Instr.typeAssert u xt t false))) v none := by
 unfold b1T at h
 split at h
 ·obtain ⟨rfl, rfl⟩ := h
  cases hx with
  | iface hv =>
    rename_i u
    refine Goes.val hw (u := u) ?_ hv
    have hi := hni
    cases d <;> first
     | exact (hi _ rfl).elim
     | simp [Instr.typeAssert, run_underlying hd]
 ·exact h.elim

def a6H (n : Nat) (esh : Option Nat) (x : AV) (lo hi : Option AV) (σ : Hp) (v : AV) (rd : List Nat) : Prop :=
 match x with
 | .ptr o ver off => rd = [o] /\ ∃ cs l h, σ o = .arr ver cs /\ loN lo = some l /\ hiN n hi = some h /\ l <= h /\ h <= n /\ (l = 0 \/ l < n) /\ off + n * d9 esh <= cs.length /\ v = .ref o ver (off + l * d9 esh) (h - l) esh
 | .cptr cs off => rd = [] /\ esh = none /\ lo = none /\ hi = none /\ off + n <= cs.length /\ (∀ x ∈ (cs.drop off).take n, x.cells = [x]) /\ v = .sl false 1 ((cs.drop off).take n)
 | _ => False

theorem a9T {P : Program} {g σ} {w : World} {t elem n esh x ux lo hi lo' hi' v rd} (hw : WRel g σ w) (ht : P.underlying t = some (.array n elem)) (he : y4 P elem = some esh)
  (hx : VR g.pm g.L σ x ux) (hlo : OVR g σ lo lo') (hhi : OVR g σ hi hi') (h : a6H n esh x lo hi σ v rd) :
  Goes P g σ w (do pure (.value (<- Instr.sliceAt t ux lo' hi' none))) v none := by
 obtain ⟨inf, hinf, hsz⟩ := u6 he
 unfold a6H at h
 split at h
 ·rename_i o ver off
  obtain ⟨_, cs, l, h, hσ, e1, e2, h1, h2, h3, h4, rfl⟩ := h
  cases hx with
  | ptr hp =>
    rename_i a
    simp only [a0Q, hσ] at hp
    have ea := hp.2 trivial
    subst ea
    have hb := a2B (P := P) false hlo hhi e1 e2 h1 h2 (Nat.le_refl n) w
    have hadd : (if n = l then (⟨(g.L o).b, (g.L o).off + off, none⟩ : Addr) else Addr.add ⟨(g.L o).b, (g.L o).off + off, none⟩ (l * d9 esh)) = ⟨(g.L o).b, (g.L o).off + (off + l * d9 esh), none⟩ := by
     split
     ·have : l = 0 := by omega
      subst this; simp
     ·rw [Addr.add_lit]; congr 1; omega
    refine Goes.val hw (u := .slice (some ⟨(g.L o).b, (g.L o).off + (off + l * d9 esh), none⟩) (h - l) (n - l)) ?_ ?_
    ·rw [<- hadd]
     simp [Instr.sliceAt, run_underlying ht, hb, q7 hinf, hsz, Instr.sureAddr, asAddr]
    ·refine .ref zO rfl ?_
     simp only [a0p, hσ]
     have k := (hw.ob o ver cs hσ).len
     have q1 : l * d9 esh + (h - l) * d9 esh <= n * d9 esh := by rw [<- Nat.add_mul]; exact Nat.mul_le_mul_right _ zO
     have q2 : l * d9 esh + (n - l) * d9 esh = n * d9 esh := by rw [<- Nat.add_mul]; congr 1; omega
     exact ⟨Nat.le_refl _, fun _ => ⟨trivial, by omega, by omega, by omega⟩⟩
 ·rename_i cs off
  obtain ⟨_, rfl, rfl, rfl, h4, h5, rfl⟩ := h
  cases hx with
  | cptr us hp hv =>
    rename_i b o
    have hb := a2B (P := P) false hlo hhi (show loN none = some 0 from rfl) (show hiN n none = some n from rfl) (Nat.zero_le n) (Nat.le_refl n) (Nat.le_refl n) w
    have hadd : (if n = 0 then (⟨b, o + off, none⟩ : Addr) else Addr.add ⟨b, o + off, none⟩ (0 * d9 none)) = ⟨b, o + off, none⟩ := by
     split
     ·rfl
     ·rw [Addr.add_lit]; simp
    have hl : ((cs.drop off).take n).length = n := by simp; omega
    refine Goes.val hw (u := .slice (some ⟨b, o + off, none⟩) n n) ?_ ?_
    ·have : (.slice (some ⟨b, o + off, none⟩) n n : Value) = .slice (some (if n = 0 then (⟨b, o + off, none⟩ : Addr) else Addr.add ⟨b, o + off, none⟩ (0 * d9 none))) (n - 0) (n - 0) := by rw [hadd]; simp
     rw [this]
     simp [Instr.sliceAt, run_underlying ht, hb, q7 hinf, hsz, Instr.sureAddr, asAddr]
    ·have hget : ∀ i (hi : i < ((cs.drop off).take n).length), ((cs.drop off).take n)[i].cells = [((cs.drop off).take n)[i]] := fun i hi => h5 _ (List.getElem_mem hi)
     have := VR.sl (pm := g.pm) (L := g.L) (σ := σ) (ex := false) (sz := 1) (xs := (cs.drop off).take n) (b := b) (o := o + off) (cap := n) (fun i _ => us (off + i)) zO (by intro e; cases e) (fun i hi => by rw [hget i hi]; rfl)
      (fun i j hi hj => by
       have h0 := hp (off + i) zO
       obtain rfl : j = 0 := by omega
       rw [show o + off + i * 1 + 0 = o + (off + i) by omega]; exact h0) (fun i hi j hj => by
       have hj0 : j = 0 := by rw [hget i hi] at hj; simpa using hj
       subst hj0
       have h0 := hv (off + i) zO
       have e1 : ((cs.drop off).take n)[i].cells[0] = cs[off + i]'zO := by
        have : ((cs.drop off).take n)[i].cells[0]? = some (cs[off + i]'zO) := by rw [hget i hi]; simp
        rw [List.getElem?_eq_getElem (by rw [hget i hi]; simp)] at this
        exact Option.some.inj this
       rw [e1]; exact h0)
     rw [hl] at this
     exact this
 ·exact h.elim

def b1U (esh : Option Nat) (z : List AV) (x : AV) (σ : Hp) (v : AV) (rd : List Nat) (δ : Option (Nat × Ob)) : Prop :=
 rd = [] /\ v = .tup [] /\
 match x with
 | .nils => δ = none
 | .ref o ver off n e => e = esh /\ 0 < n /\ z.all AV.one = true /\ ∃ cs, σ o = .arr ver cs /\ δ = some (o, .arr ver (splice cs off (repl n z)))
 | _ => False

theorem a9U {P : Program} {g σ} {w : World} {t elem esh ty x ux v rd δ} {z : Value} {inf : TypeInfo} {zc : List AV} (hw : WRel g σ w) (ht : P.underlying t = some (.slice elem)) (he : y4 P elem = some esh) (hi : P.info? elem = some inf) (hz : inf.zero = some z) (hzc : a1Z z.cells.toList = some zc)
  (hzl : zc.length = d9 esh) (hx : VR g.pm g.L σ x ux) (h : b1U esh zc x σ v rd δ) :
  Goes P g σ w (do pure (.value (<- Builtin.clear_ #[t] ty #[ux]))) v δ := by
 obtain ⟨_, rfl, h⟩ := h
 have hzr : (zeroValue elem).run P w = .ok z w := by simp [zeroValue, typeInfo, hi, hz]
 split at h
 ·subst h
  cases hx
  exact Goes.val hw (u := .tuple #[]) (by simp [Builtin.clear_, run_underlying ht]) (.tup rfl zS)
 ·rename_i o ver off n e
  obtain ⟨rfl, hn0, hone, cs, hσ, rfl⟩ := h
  cases hx with
  | refnil => exact absurd hn0 (Nat.lt_irrefl 0)
  | ref hnc hsp hr =>
    rename_i a cap
    simp only [a0p, hσ] at hr
    obtain ⟨_, rfl, r2, r3, r4⟩ : _ /\ _ := ⟨trivial, hr.2 trivial⟩
    have k := hw.ob o ver cs hσ
    have hvl := a7z (pm := g.pm) (L := g.L) (σ := σ) hzc n
    have hzs : z.cells.size = zc.length := by have := (a0K (pm := g.pm) (L := g.L) (σ := σ) hzc).1; simpa using this
    have hlen : (repl n zc).length = n * d9 e := by rw [a0g, hzl]
    have hvs : ((Array.range (n * zc.length)).map (z.cells[· % z.cells.size]!)).toList.length = (repl n zc).length := by simp [a0g]
    have hrone : ∀ j (h : j < (repl n zc).length), (repl n zc)[j].one = true := fun j hj => by
     have hm : j % zc.length < zc.length := Nat.mod_lt _ (by rcases Nat.eq_zero_or_pos zc.length with h | h; · rw [a0g, h] at hj; simp at hj
                                                             ·exact h)
     rw [a6c n zc j hj hm]
     exact List.all_eq_true.1 hone _ (List.getElem_mem _)
    have hvv : ∀ j (h1 : j < (repl n zc).length) (h2 : j < ((Array.range (n * zc.length)).map (z.cells[· % z.cells.size]!)).toList.length), VR g.pm g.L σ ((repl n zc)[j]) (((Array.range (n * zc.length)).map (z.cells[· % z.cells.size]!)).toList[j]) := fun j h1 h2 => by
     have := hvl.2 j h1 (by simpa using h2)
     simpa using this
    have hst := WRel.stores (repl n zc) ((Array.range (n * zc.length)).map (z.cells[· % z.cells.size]!)).toList hw hσ off (by have := k.len; omega) hvs hvv
    have hrun := run_storeCells_cells (P := P) (g.L o).b ((g.L o).off + off) ((Array.range (n * zc.length)).map (z.cells[· % z.cells.size]!)).toList 0 w (fun j hj => by
      obtain ⟨v, hv, _⟩ := k.there (off + j) (by have := k.len; omega)
      rw [show (g.L o).off + off + 0 + j = (g.L o).off + (off + j) by omega, hv]; rfl) (fun j hj => by
      have := k.free (off + j) (by have := k.len; omega)
      rwa [show (g.L o).off + off + 0 + j = (g.L o).off + (off + j) by omega]) (fun u hu => by
        obtain ⟨j, hj, rfl⟩ := List.getElem_of_mem hu
        exact (hvv j zO hj).one (hrone j zO))
    simp only [Nat.add_zero] at hrun
    refine Goes.val' (u := .tuple #[]) ?_ hst.1 hst.2 (.tup rfl zS)
    cases n with
    | zero =>
      have hw0 : w.setCells (g.L o).b ((g.L o).off + off) ((Array.range (0 * zc.length)).map (z.cells[· % z.cells.size]!)).toList = w := by simp [World.setCells]
      rw [hw0]
      simp [Builtin.clear_, run_underlying ht]
    | succ n =>
      have hz2 : Builtin.zeroCells z.cells (n + 1) = (Array.range ((n + 1) * zc.length)).map (z.cells[· % z.cells.size]!) := by
       simp only [Builtin.zeroCells, hzs]
      have hrun' : (storeCells ⟨(g.L o).b, (g.L o).off + off, none⟩ (Builtin.zeroCells z.cells (n + 1)).toList).run P w = .ok () (w.setCells (g.L o).b ((g.L o).off + off) ((Array.range ((n + 1) * zc.length)).map (z.cells[· % z.cells.size]!)).toList) := by
       rw [hz2]; exact hrun
      simp only [Builtin.clear_]
      simp [run_underlying ht, hzr, hrun']
 ·exact h.elim

def a8m (esh : Option Nat) (s x : AV) (σ : Hp) (v : AV) (rd : List Nat) (δ : Option (Nat × Ob)) : Prop :=
 ∃ o ver off m o' ver' off' k cells, s = .ref o ver off m esh /\ x = .ref o' ver' off' k esh /\ 0 < m /\ m <= k /\ Src esh (.ref o' ver' off' m esh) σ m cells rd /\ cells.all AV.one = true /\ v = .int .i64 m /\
  ∃ cs, σ o = .arr ver cs /\ δ = some (o, .arr ver (splice cs off cells))

theorem VR.refcut {pm L σ o ver off n m esh a cap} (h : VR pm L σ (.ref o ver off n esh) (.slice (some a) n cap)) (hm : m <= n) : VR pm L σ (.ref o ver off m esh) (.slice (some a) m cap) := by
 cases h with
 | refnil h => obtain rfl : m = 0 := by omega
               exact .refnil h
 | ref hn hs hr =>
   refine .ref zO hs ?_
   unfold a0p at hr ⊢
   split at hr
   ·exact hr.elim
   ·exact hr
   ·have := Nat.mul_le_mul_right (d9 esh) hm
    exact ⟨hr.1, fun e => by obtain ⟨h1, h2, h3, h4⟩ := hr.2 e; exact ⟨h1, by omega, by omega, h4⟩⟩

theorem a8V {P : Program} {g σ} {w : World} {t tx ty elem esh s x us ux v rd δ} (hw : WRel g σ w)
  (ht : P.underlying t = some (.slice elem)) (he : y4 P elem = some esh)
  (hs : VR g.pm g.L σ s us) (hx : VR g.pm g.L σ x ux) (h : a8m esh s x σ v rd δ) :
  Goes P g σ w (do pure (.value (<- Builtin.copy_ #[t, tx] ty #[us, ux]))) v δ := by
 obtain ⟨o, ver, off, m, o', ver', off', k, cells, rfl, rfl, hm0, hmk, hsrc, hone, rfl, cs, hσ, rfl⟩ := h
 obtain ⟨inf, hi, hsz⟩ := u6 he
 have h3 := q7 (P := P) hi w
 rw [hsz] at h3
 have hx0 := hx
 cases hx with
 | refnil => omega
 | ref hn2 hs2 hr2 =>
   rename_i a2 cap2
   have hx' := hx0.refcut hmk
   obtain ⟨l1, l2, vs, l3, l4, l5⟩ := u2 (P := P) hw hx' hsrc
   cases hs with
   | refnil => omega
   | ref hnc hsp hr =>
     rename_i a cap
     simp only [a0p, hσ] at hr
     obtain ⟨_, rfl, r2, r3, r4⟩ : _ /\ _ := ⟨trivial, hr.2 trivial⟩
     have kk := hw.ob o ver cs hσ
     have hst := WRel.stores cells vs hw hσ off (by have := kk.len; omega) l4 l5
     have hrun := run_storeCells_cells (P := P) (g.L o).b ((g.L o).off + off) vs 0 w (fun j hj => by
       obtain ⟨v, hv, _⟩ := kk.there (off + j) (by have := kk.len; omega)
       rw [show (g.L o).off + off + 0 + j = (g.L o).off + (off + j) by omega, hv]; rfl) (fun j hj => by
       have := kk.free (off + j) (by have := kk.len; omega)
       rwa [show (g.L o).off + off + 0 + j = (g.L o).off + (off + j) by omega]) (fun u hu => by
         obtain ⟨j, hj, rfl⟩ := List.getElem_of_mem hu
         exact (l5 j zO hj).one (List.all_eq_true.1 hone _ (List.getElem_mem _)))
     simp only [Nat.add_zero] at hrun
     refine Goes.val' (u := .int .i64 m) ?_ hst.1 hst.2 .int
     have hmin : Nat.min k m = m := Nat.min_eq_right hmk
     have l3' : (Builtin.firstCells (d9 esh) m (.slice (some a2) k cap2)).run P w = .ok vs.toArray w := l3
     have l1' : (Builtin.lenOf (.slice (some a2) k cap2)).run P w = .ok k w := by simp [Builtin.lenOf]
     simp [Builtin.copy_, run_underlying ht, l1', hmin, h3, l3', hrun, goInt]
def a6I (esh : Option Nat) (s x : AV) (σ : Hp) (v : AV) (rd : List Nat) (δ : Option (Nat × Ob)) : Prop :=
 ∃ o ver off m ex xs, s = .ref o ver off m esh /\ x = .sl ex (d9 esh) xs /\ 0 < m /\ m <= xs.length /\ ((xs.take m).flatMap AV.cells).all AV.one = true /\ rd = [] /\ v = .int .i64 m /\
  ∃ cs, σ o = .arr ver cs /\ δ = some (o, .arr ver (splice cs off ((xs.take m).flatMap AV.cells)))

theorem VR.slcut {pm L σ ex sz m a cap n} {xs : List AV} (h : VR pm L σ (.sl ex sz xs) (.slice (some a) n cap)) (h0 : 0 < m) (hm : m <= xs.length) : VR pm L σ (.sl false sz (xs.take m)) (.slice (some a) m cap) /\ n = xs.length := by
 cases h with
 | slz => simp at hm; omega
 | sl us hc he hz hp hv =>
   refine ⟨?_, rfl⟩
   have hl : (xs.take m).length = m := by simp; omega
   have := VR.sl (pm := pm) (L := L) (σ := σ) (ex := false) (sz := sz) (xs := xs.take m) (b := _) (o := _) (cap := cap) us zO (by intro e; cases e) (fun i h => by rw [List.getElem_take]; exact hz i zO) (fun i j h1 h2 => hp i j zO h2) (fun i h j hj => by
    have e : (xs.take m)[i] = xs[i]'zO := List.getElem_take
    have h2 := hv i zO j (by rw [<- e]; exact hj)
    have e2 : ((xs.take m)[i]).cells[j]? = ((xs[i]'zO).cells)[j]? := by rw [e]
    rw [List.getElem?_eq_getElem hj, List.getElem?_eq_getElem (by rw [<- e]; exact hj)] at e2
    rw [Option.some.inj e2]; exact h2)
   rw [hl] at this
   exact this

theorem a8W {P : Program} {g σ} {w : World} {t tx ty elem esh s x us ux v rd δ} (hw : WRel g σ w)
  (ht : P.underlying t = some (.slice elem)) (he : y4 P elem = some esh)
  (hs : VR g.pm g.L σ s us) (hx : VR g.pm g.L σ x ux) (h : a6I esh s x σ v rd δ) :
  Goes P g σ w (do pure (.value (<- Builtin.copy_ #[t, tx] ty #[us, ux]))) v δ := by
 obtain ⟨o, ver, off, m, ex, xs, rfl, rfl, hm0, hmk, hone, rfl, rfl, cs, hσ, rfl⟩ := h
 have hsrc : Src esh (.sl false (d9 esh) (xs.take m)) σ m ((xs.take m).flatMap AV.cells) [] := ⟨rfl, by simp; omega, rfl, rfl⟩
 generalize hcl : (xs.take m).flatMap AV.cells = cells at *
 obtain ⟨inf, hi, hsz⟩ := u6 he
 have h3 := q7 (P := P) hi w
 rw [hsz] at h3
 cases ux with
 | slice a2? k cap2 =>
   cases a2? with
   | none => exfalso; cases hx; simp at hmk; omega
   | some a2 =>
   obtain ⟨hx', hk⟩ := hx.slcut hm0 hmk
   have hmk' : m <= k := by omega
   obtain ⟨l1, l2, vs, l3, l4, l5⟩ := u2 (P := P) hw hx' hsrc
   cases hs with
   | refnil => omega
   | ref hnc hsp hr =>
     rename_i a cap
     simp only [a0p, hσ] at hr
     obtain ⟨_, rfl, r2, r3, r4⟩ : _ /\ _ := ⟨trivial, hr.2 trivial⟩
     have kk := hw.ob o ver cs hσ
     have hst := WRel.stores cells vs hw hσ off (by have := kk.len; omega) l4 l5
     have hrun := run_storeCells_cells (P := P) (g.L o).b ((g.L o).off + off) vs 0 w (fun j hj => by
       obtain ⟨v, hv, _⟩ := kk.there (off + j) (by have := kk.len; omega)
       rw [show (g.L o).off + off + 0 + j = (g.L o).off + (off + j) by omega, hv]; rfl) (fun j hj => by
       have := kk.free (off + j) (by have := kk.len; omega)
       rwa [show (g.L o).off + off + 0 + j = (g.L o).off + (off + j) by omega]) (fun u hu => by
         obtain ⟨j, hj, rfl⟩ := List.getElem_of_mem hu
         exact (l5 j zO hj).one (List.all_eq_true.1 hone _ (List.getElem_mem _)))
     simp only [Nat.add_zero] at hrun
     refine Goes.val' (u := .int .i64 m) ?_ hst.1 hst.2 .int
     have hmin : Nat.min k m = m := Nat.min_eq_right hmk'
     have l3' : (Builtin.firstCells (d9 esh) m (.slice (some a2) k cap2)).run P w = .ok vs.toArray w := l3
     have l1' : (Builtin.lenOf (.slice (some a2) k cap2)).run P w = .ok k w := by simp [Builtin.lenOf]
     simp [Builtin.copy_, run_underlying ht, l1', hmin, h3, l3', hrun, goInt]
 | _ => cases hx
inductive ROp where
 | mv (x : Opd)
 | pick (c a b : Opd)
 | new (cs : List AV)
 | box (x : Opd)
 | build (z : List AV) (ps : List (Nat × Nat × Opd))
 | bsl (esh : Option Nat) (z : List AV) (len : Nat) (ps : List (Nat × Nat × Opd))
 | load (sh : Option Nat) (a : Opd)
 | store (n : Nat) (a x : Opd)
 | nchk (x : Opd)
 | bin (c : EqC) (op : BinOp) (x y : Opd)
 | eqs (ks : List FK) (op : BinOp) (x y : Opd)
 | un (op : UnOp) (x : Opd)
 | cint (k : IntKind) (x : Opd)
 | cstr (x : Opd)
 | b2s (x : Opd)
 | s2b (x : Opd)
 | mki (t : TypeId) (x : Opd)
 | mkf (f : Fn) (first caps : List Opd)
 | mksl (esh : Option Nat) (bytes : Nat) (z : List AV) (l c : Opd)
 | slc (esh : Option Nat) (x : Opd) (lo hi mx : Option Opd)
 | sls (x : Opd) (lo hi : Option Opd)
 | fad (off : Nat) (x : Opd)
 | iad (arr : Option Nat) (esh : Option Nat) (x i : Opd)
 | idxs (x i : Opd)
 | idxa (len : Nat) (sh : Option Nat) (x i : Opd)
 | ext (i : Nat) (x : Opd)
 | fld (off : Nat) (sh : Option Nat) (x : Opd)
 | len (c : b2R) (x : Opd)
 | app (esh : Option Nat) (bytes : Nat) (s x : Opd)
 | cpy (esh : Option Nat) (s x : Opd)
 | mn (mx : Bool) (x y : Opd)
 | tas (t : TypeId) (x : Opd)
 | slp (n : Nat) (esh : Option Nat) (x : Opd) (lo hi : Option Opd)
 | clr (esh : Option Nat) (z : List AV) (x : Opd)

def evP (fr : Fm) : List (Nat × Nat × Opd) -> List (Nat × Nat × AV)
 | [] => []
 | (a, b, x) :: r => (a, b, ev fr x) :: evP fr r

def evO (fr : Fm) : Option Opd -> Option AV
 | none => none
 | some x => some (ev fr x)

def evL (fr : Fm) : List Opd -> List AV
 | [] => []
 | x :: r => ev fr x :: evL fr r

def a9V (c a b v : AV) : Prop := match c with | .bool t => v = (if t then a else b) | _ => False
def c2k (x : AV) (σ : Hp) (v : AV) (rd : List Nat) (δ : Option (Nat × Ob)) : Prop := x.nj = true /\ a8Q x.cells σ v rd δ
def b2T (k : IntKind) (x v : AV) : Prop := match x with | .int _ n => v = .int k (k.wrap n) | _ => False
def b2U (x v : AV) : Prop := match x with | .str s => v = .str s | _ => False
def b5T (off : Nat) (sh : Option Nat) (x v : AV) : Prop := match x with | .agg cs => a6D sh cs off v | _ => False

def St (r : ROp) (fr : Fm) (σ : Hp) (v : AV) (rd : List Nat) (δ : Option (Nat × Ob)) : Prop :=
 match r with
 | .mv x => v = ev fr x /\ rd = [] /\ δ = none
 | .pick c a b => a9V (ev fr c) (ev fr a) (ev fr b) v /\ rd = [] /\ δ = none
 | .new cs => a8Q cs σ v rd δ
 | .box x => c2k (ev fr x) σ v rd δ
 | .build z ps => (∃ cs, a2Z z (evP fr ps) = some cs /\ v = .agg cs) /\ rd = [] /\ δ = none
 | .bsl esh z len ps => ∃ cs, a2Z (repl len z) (evP fr ps) = some cs /\ a1c true esh len cs σ v rd δ
 | .load sh a => a2e sh (ev fr a) σ v rd /\ δ = none
 | .store n a x => a2M n (ev fr a) (ev fr x) σ v rd δ
 | .nchk x => a8h (ev fr x) v /\ rd = [] /\ δ = none
 | .bin c op x y => a9y c op (ev fr x) (ev fr y) v /\ rd = [] /\ δ = none
 | .eqs ks op x y => b1S ks op (ev fr x) (ev fr y) v /\ rd = [] /\ δ = none
 | .un op x => c1T op (ev fr x) v /\ rd = [] /\ δ = none
 | .cint k x => b2T k (ev fr x) v /\ rd = [] /\ δ = none
 | .cstr x => b2U (ev fr x) v /\ rd = [] /\ δ = none
 | .b2s x => b3n (ev fr x) σ v rd /\ δ = none
 | .s2b x => b1R (ev fr x) v /\ rd = [] /\ δ = none
 | .mki t x => v = .iface t (ev fr x) /\ rd = [] /\ δ = none
 | .mkf f a b => v = .fn f (evL fr a) (evL fr b) /\ rd = [] /\ δ = none
 | .mksl esh bytes z l c => a4q esh bytes z (ev fr l) (ev fr c) σ v rd δ
 | .slc esh x lo hi mx => a9C esh (ev fr x) (evO fr lo) (evO fr hi) (evO fr mx) v /\ rd = [] /\ δ = none
 | .sls x lo hi => b1O (evO fr lo) (evO fr hi) (ev fr x) v /\ rd = [] /\ δ = none
 | .fad off x => b1L off (ev fr x) v /\ rd = [] /\ δ = none
 | .iad arr esh x i => a9B arr esh (ev fr x) (ev fr i) v /\ rd = [] /\ δ = none
 | .idxs x i => a8j (ev fr x) (ev fr i) v /\ rd = [] /\ δ = none
 | .idxa len sh x i => a8k len sh (ev fr x) (ev fr i) v /\ rd = [] /\ δ = none
 | .ext i x => b1M i (ev fr x) v /\ rd = [] /\ δ = none
 | .fld off sh x => b5T off sh (ev fr x) v /\ rd = [] /\ δ = none
 | .len c x => b1N c (ev fr x) v /\ rd = [] /\ δ = none
 | .app esh bytes s x => a9K esh bytes (ev fr s) (ev fr x) σ v rd δ
 | .cpy esh s x => a9L esh (ev fr s) (ev fr x) σ v rd δ \/ a8m esh (ev fr s) (ev fr x) σ v rd δ \/ a6I esh (ev fr s) (ev fr x) σ v rd δ
 | .mn mx x y => a8U mx (ev fr x) (ev fr y) v /\ rd = [] /\ δ = none
 | .tas t x => b1T t (ev fr x) v /\ rd = [] /\ δ = none
 | .slp n esh x lo hi => a6H n esh (ev fr x) (evO fr lo) (evO fr hi) σ v rd /\ δ = none
 | .clr esh z x => b1U esh z (ev fr x) σ v rd δ

def a4r (place : Nat -> Option (Nat × Nat)) : List (Nat × Operand) -> Option (List (Nat × Nat × Opd))
 | [] => some []
 | (i, x) :: r => match place i, a1m x, a4r place r with
   | some (a, b), some y, some ys => some ((a, b, y) :: ys)
   | _, _, _ => none

def a6J : List Operand -> Option (List Opd)
 | [] => some []
 | x :: r => match a1m x, a6J r with
   | some y, some ys => some (y :: ys)
   | _, _ => none

def b2V : Option Operand -> Option (Option Opd)
 | none => some none
 | some x => (a1m x).map some

def a1d (P : Program) (t : TypeId) : Option (List AV) :=
 match P.info? t with
 | some i => match i.zero with
   | some z => a1Z z.cells.toList
   | none => none
 | none => none

def a6d (P : Program) (t : TypeId) : Option (Nat -> Option (Nat × Nat)) :=
 match P.underlying t with
 | some (.array _ e) => match P.info? e with
   | some ie => some fun i => some (i * ie.size, ie.size)
   | none => none
 | some (.struct fields) => match fields.toList.mapM (fun f => (P.info? f.type).map fun i => (f.offset, i.size)) with
   | some places => some (places.toArray[·]?)
   | none => none
 | _ => none

def b5U (P : Program) : List Field -> Option (List FK)
 | [] => some []
 | f :: r => match c2j P f.type, b5U P r with
   | some k, some ks => some (k :: ks)
   | _, _ => none

def ifC : Opd -> EqC
 | .v .nili => .ifn
 | _ => .iface
def b2W (P : Program) (op : BinOp) (t : TypeId) (x y : Opd) : Option ROp :=
 match P.underlying t with
 | some .bool => some (.bin .bool op x y)
 | some (.pointer _) => some (.bin .ptr op x y)
 | some (.interface _) => some (.bin (ifC y) op x y)
 | some (.slice _) => some (.bin .flat op x y)
 | some (.struct fields) => match b5U P fields.toList with
   | some ks => if a0F P 0 fields.toList ks && !P.stoodInHeld t && !P.eqGuardType P.depth t then some (.eqs ks op x y) else none
   | none => none
 | _ => some (.bin .none op x y)

def a9W (P : Program) (src dst : TypeId) (x : Opd) : Option ROp :=
 match P.underlying dst, P.underlying src with
 | some (.int k), some _ => some (.cint k x)
 | some .string, some .string => some (.cstr x)
 | some .string, some (.slice e) => match P.underlying e with
   | some (.int .u8) => some (.b2s x)
   | _ => none
 | some (.slice e), some .string => match P.underlying e with
   | some (.int .u8) => some (.s2b x)
   | _ => none
 | _, _ => none

def b2X (P : Program) (t : TypeId) : Option b2R :=
 match P.underlying t with
 | some .string => some .str
 | some (.slice _) => some .sl
 | some (.array n _) => some (.arr n)
 | some (.pointer a) => match P.underlying a with
   | some (.array n _) => some (.arr n)
   | _ => none
 | _ => none

def a4s (P : Program) (t : TypeId) : Option (TypeId × Option Nat) :=
 match P.underlying t with
 | some (.slice e) => (y4 P e).map (e, ·)
 | _ => none

def a1O (P : Program) (t : TypeId) : Option (Option Nat × Nat × List AV) :=
 match a4s P t with
 | some (e, esh) => match P.info? e, a1d P e with
   | some inf, some zc => if zc.length = d9 esh then some (esh, inf.bytes, zc) else none
   | _, _ => none
 | none => none

def b3o (P : Program) (o : Op) : Option ROp :=
 match o with
 | .move x | .assign x => (a1m x).map .mv
 | .pick c a b => match a1m c, a1m a, a1m b with
   | some c, some a, some b => some (.pick c a b)
   | _, _, _ => none
 | .alloc t => (a1d P t).map .new
 | .box _ x => (a1m x).map .box
 | .build t ps => match a1d P t, a6d P t with
   | some zc, some place => (a4r place ps.toList).map (.build zc)
   | _, _ => none
 | .buildSlice t len ps => match a1O P t with
   | some (esh, _, zc) => if len * d9 esh <= 16777216 then (a4r (fun i => some (i * d9 esh, d9 esh)) ps.toList).map (.bsl esh zc len) else none
   | none => none
 | .load t a => match y4 P t, a1m a with
   | some sh, some a => some (.load sh a)
   | _, _ => none
 | .store t a x => match P.info? t, a1m a, a1m x with
   | some i, some a, some x => some (.store i.size a x)
   | _, _, _ => none
 | .nilCheck x => (a1m x).map .nchk
 | .binOp op t x y _ => match a1m x, a1m y with
   | some x, some y => b2W P op t x y
   | _, _ => none
 | .unOp op _ x => (a1m x).map (.un op)
 | .convert src dst x => (a1m x).bind (a9W P src dst)
 | .makeInterface t x => if P.concrete t then (a1m x).map (.mki t) else none
 | .makeFunc f a b => match a6J a.toList, a6J b.toList with
   | some a, some b => some (.mkf f a b)
   | _, _ => none
 | .makeSlice t l c => match a1O P t, a1m l, a1m c with
   | some (esh, bytes, zc), some l, some c => some (.mksl esh bytes zc l c)
   | _, _, _ => none
 | .slice t x lo hi mx => match a1m x, b2V lo, b2V hi, b2V mx with
   | some x, some lo, some hi, some mx => match P.underlying t with
     | some .string => match mx with
       | none => some (.sls x lo hi)
       | some _ => none
     | some (.array n e) => match mx with
       | none => (y4 P e).map fun sh => .slp n sh x lo hi
       | some _ => none
     | _ => (a4s P t).map fun e => .slc e.2 x lo hi mx
   | _, _, _, _ => none
 | .fieldAddr t x fi => match P.underlying t with
   | some (.struct fields) => match fields[fi]? with
     | some f => match P.info? f.type with
       | some i => if i.size = 0 then none else (a1m x).map (.fad f.offset)
       | none => none
     | none => none
   | _ => none
 | .field t x fi => match P.underlying t with
   | some (.struct fields) => match fields[fi]? with
     | some f => match y4 P f.type with
       | some sh => (a1m x).map (.fld f.offset sh)
       | none => none
     | none => none
   | _ => none
 | .indexAddr t x i => match a1m x, a1m i with
   | some x, some i => match P.underlying t with
     | some (.slice e) => (y4 P e).map fun sh => .iad none sh x i
     | some (.array n e) => (y4 P e).map fun sh => .iad (some n) sh x i
     | _ => none
   | _, _ => none
 | .index t x i => match a1m x, a1m i with
   | some x, some i => match P.underlying t with
     | some .string => some (.idxs x i)
     | some (.array n e) => (y4 P e).map fun sh => .idxa n sh x i
     | _ => none
   | _, _ => none
 | .extract x i => (a1m x).map (.ext i)
 | .typeAssert x _ t ok => if ok then none else match P.underlying t with
   | some (.interface _) => none
   | some _ => (a1m x).map (.tas t)
   | none => none
 | .call c => match c.callee with
   | .builtin b => match b, c.args.toList, c.argTypes.toList with
     | .len, [x], [t] => match b2X P t, a1m x with
       | some k, some x => some (.len k x)
       | _, _ => none
     | .append, [s, x], [t, tx] => match a1O P t, a1m s, a1m x with
       | some (esh, bytes, _), some s, some x => match P.underlying tx with
         | some (.slice _) | some .string => some (.app esh bytes s x)
         | _ => none
       | _, _, _ => none
     | .copy, [s, x], [t, _] => match a4s P t, a1m s, a1m x with
       | some (_, esh), some s, some x => some (.cpy esh s x)
       | _, _, _ => none
     | .clear, [x], [t] => match a1O P t, a1m x with
       | some (esh, _, zc), some x => some (.clr esh zc x)
       | _, _ => none
     | .min, [x, y], _ => match a1m x, a1m y with
       | some x, some y => some (.mn false x y)
       | _, _ => none
     | .max, [x, y], _ => match a1m x, a1m y with
       | some x, some y => some (.mn true x y)
       | _, _ => none
     | _, _, _ => none
   | _ => none
 | _ => none

theorem a4t {g σ n fr} {a : Act} (hf : a5i g σ n fr a) {place : Nat -> Option (Nat × Nat)} : ∀ {ps : List (Nat × Operand)} {qs : List (Nat × Nat × Opd)}, a4r place ps = some qs ->
  (evP fr qs).length = ps.length /\ ∀ j (h : j < (evP fr qs).length) (h' : j < ps.length), place (ps[j]).1 = some (((evP fr qs)[j]).1, ((evP fr qs)[j]).2.1) /\ VR g.pm g.L σ ((evP fr qs)[j]).2.2 (a.eval (ps[j]).2)
 | [], qs, h => by simp [a4r] at h; subst h; simp [evP]
 | (i, x) :: r, qs, h => by
   simp only [a4r] at h
   split at h
   ·rename_i p q y ys h1 h2 h3
    cases h
    obtain ⟨i1, i2⟩ := a4t hf h3
    refine ⟨by simp [evP, i1], fun j hj hj' => ?_⟩
    cases j with
    | zero => exact ⟨h1, i8 hf h2⟩
    | succ j => exact i2 j (by simpa [evP] using hj) (by simpa using hj')
   ·cases h

theorem a4h {g σ n fr} {a : Act} (hf : a5i g σ n fr a) : ∀ {ps : List Operand} {qs : List Opd}, a6J ps = some qs ->
  (evL fr qs).length = ps.length /\ ∀ j (h : j < (evL fr qs).length) (h' : j < ps.length), VR g.pm g.L σ ((evL fr qs)[j]) (a.eval (ps[j]))
 | [], qs, h => by simp [a6J] at h; subst h; simp [evL]
 | x :: r, qs, h => by
   simp only [a6J] at h
   split at h
   ·rename_i y ys h2 h3
    cases h
    obtain ⟨i1, i2⟩ := a4h hf h3
    refine ⟨by simp [evL, i1], fun j hj hj' => ?_⟩
    cases j with
    | zero => exact i8 hf h2
    | succ j => exact i2 j (by simpa [evL] using hj) (by simpa using hj')
   ·cases h

theorem a1P {g σ n fr} {a : Act} (hf : a5i g σ n fr a) {x : Option Operand} {y : Option Opd} (h : b2V x = some y) : OVR g σ (evO fr y) (x.map a.eval) := by
 cases x with
 | none => simp [b2V] at h; subst h; exact .none
 | some x =>
   simp only [b2V, Option.map_eq_some_iff] at h
   obtain ⟨z, h1, rfl⟩ := h
   exact .some (i8 hf h1)

theorem a1t {P : Program} {t : TypeId} {zc} (h : a1d P t = some zc) : ∃ i z, P.info? t = some i /\ i.zero = some z /\ a1Z z.cells.toList = some zc := by
 unfold a1d at h
 split at h
 ·rename_i i hi
  split at h
  ·rename_i z hz; exact ⟨i, z, hi, hz, h⟩
  ·cases h
 ·cases h

theorem a9X {P : Program} {t : TypeId} {place : Nat -> Option (Nat × Nat)} {parts : Array (Nat × Value)} {cells : Array Value} {i : TypeInfo} {z : Value} (hp : a6d P t = some place) (hi : P.info? t = some i) (hz : i.zero = some z)
  (h : Instr.fill place z.cells parts.toList = some cells) (w : World) : (Instr.build t parts).run P w = .ok (.agg cells) w := by
 refine run_build w t parts cells ?_
 unfold a6d at hp
 unfold Program.built
 rw [hi]
 split at hp
 ·rename_i e hu
  rw [hu]
  split at hp
  ·rename_i ie hie
   cases hp
   simp only [hz, hie]
   exact h
  ·cases hp
 ·rename_i fields hu
  rw [hu]
  split at hp
  ·rename_i places hpl
   cases hp
   simp only [hz, hpl]
   exact h
  ·cases hp
 ·cases hp

theorem a3z {P : Program} {t e esh} (h : a4s P t = some (e, esh)) : P.underlying t = some (.slice e) /\ y4 P e = some esh := by
 unfold a4s at h
 split at h
 ·rename_i hu
  simp only [Option.map_eq_some_iff, Prod.mk.injEq] at h
  obtain ⟨_, h1, rfl, rfl⟩ := h
  exact ⟨hu, h1⟩
 ·cases h

theorem a1Q {P : Program} {t esh bytes zc} (h : a1O P t = some (esh, bytes, zc)) :
  ∃ e inf z, P.underlying t = some (.slice e) /\ y4 P e = some esh /\ P.info? e = some inf /\ inf.zero = some z /\ a1Z z.cells.toList = some zc /\ zc.length = d9 esh /\ inf.bytes = bytes := by
 unfold a1O at h
 split at h
 ·rename_i e esh' he
  obtain ⟨h1, h2⟩ := a3z he
  split at h
  ·rename_i inf zc' hi hz
   split at h
   ·rename_i hl
    cases h
    obtain ⟨i, z, a, b, c⟩ := a1t hz
    rw [hi] at a; cases a
    exact ⟨e, inf, z, h1, h2, hi, b, c, hl, rfl⟩
   ·cases h
  ·cases h
 ·cases h
theorem Goes.pureV {P g σ w v u} (hw : WRel g σ w) (hv : VR g.pm g.L σ v u) : Goes P g σ w (pure (.value u)) v none :=
 ⟨.value u, u, w, g, rfl, .inl rfl, hw, Gh.le.refl _ _, hv⟩

theorem Goes.of_run {P g σ w s s' v δ} (h : Goes P g σ w s v δ) (e : s'.run P w = s.run P w) : Goes P g σ w s' v δ := by
 obtain ⟨res, u, w', g', e1, e2⟩ := h
 exact ⟨res, u, w', g', e.trans e1, e2⟩

theorem a9Y {oy : Operand} {y : Opd} (h : a1m oy = some y) : ifC y = .ifn -> ∃ u, oy = .const u := by
 intro e
 cases oy with
 | tmp t => cases h; simp [ifC] at e
 | const u => exact ⟨u, rfl⟩
 | func f => cases h; simp [ifC] at e
 | global g => simp [a1m] at h
theorem b1V {P : Program} {t : TypeId} {y : Opd} (h : ∃ ms, P.underlying t = some (.interface ms)) : EqC.fits P t (ifC y) := by
 unfold ifC
 split <;> exact h
theorem a3b {α : Type} {a : Array α} {x : α} (h : a.toList = [x]) : a = #[x] := by
 cases a; simp at h; subst h; rfl
theorem a1H {α : Type} {a : Array α} {x y : α} (h : a.toList = [x, y]) : a = #[x, y] := by
 cases a; simp at h; subst h; rfl

theorem a0v {α β : Type} (f : α -> β) (a : Array α) (j : Nat) (h : j < (a.map f).size) : (a.map f)[j] = f (a.toList[j]'(by simpa using h)) := by simp

def a0R (a : Act) (ps : Array (Nat × Operand)) : Array (Nat × Value) := ps.map fun (i, x) => (i, a.eval x)
theorem a3V (a : Act) (ps) : (a0R a ps).size = ps.size := by simp [a0R]
theorem a7A (a : Act) (ps : Array (Nat × Operand)) (j : Nat) (h : j < (a0R a ps).size) : (a0R a ps)[j] = ((ps[j]'(by simpa [a0R] using h)).1, a.eval (ps[j]'(by simpa [a0R] using h)).2) := by simp [a0R]

theorem b3p {P : Program} {t len esh bytes zc} {ps : Array (Nat × Operand)} {qs} (h1 : a1O P t = some (esh, bytes, zc)) (hbig : len * d9 esh <= 16777216)
  (h3 : a4r (fun i => some (i * d9 esh, d9 esh)) ps.toList = some qs) {g σ n fr} {a : Act} {w v rd δ} (hw : WRel g σ w) (hf : a5i g σ n fr a) (hst : St (.bsl esh zc len qs) fr σ v rd δ) :
  Goes P g σ w (do pure (.value (<- Instr.buildSlice t len (a0R a ps)))) v δ := by
 obtain ⟨e, inf, z, hu, he, hi, hz, hzc, hzl, _⟩ := a1Q h1
 obtain ⟨p1, p2⟩ := a4t hf h3
 have hl : (evP fr qs).length = (a0R a ps).size := by simpa [a3V] using p1
 have hp : ∀ j (b : j < (evP fr qs).length) (c : j < (a0R a ps).size), ((evP fr qs)[j]).1 = ((a0R a ps)[j]).1 * d9 esh /\ ((evP fr qs)[j]).2.1 = d9 esh /\
   VR g.pm g.L σ ((evP fr qs)[j]).2.2 ((a0R a ps)[j]).2 := fun j b c => by
  have c' : j < ps.size := by simpa [a3V] using c
  obtain ⟨q1, q2⟩ := p2 j b (by simpa using c')
  rw [Array.getElem_toList] at q1 q2
  simp only [Option.some.injEq, Prod.mk.injEq] at q1
  rw [a7A]
  exact ⟨q1.1.symm, q1.2.symm, q2⟩
 exact a9J hw hu he hi hz hzc hzl hbig hl hp hst

set_option maxHeartbeats 1000000 in
theorem a9Z {P : Program} {o : Oper} {r : ROp} (h : b3o P o.op = some r) {g σ n fr} {a : Act} {w v rd δ} (hw : WRel g σ w) (hf : a5i g σ n fr a) (hst : St r fr σ v rd δ) :
  Goes P g σ w (execOp a.eval o) v δ := by
 obtain ⟨dst, op, ty, pos, after, guard⟩ := o
 cases op <;> simp only [b3o] at h <;> try (cases h; done)
 case move x =>
  simp only [Option.map_eq_some_iff] at h; obtain ⟨y, h1, rfl⟩ := h
  obtain ⟨rfl, _, rfl⟩ := hst
  exact Goes.pureV hw (i8 hf h1)
 case assign x =>
  simp only [Option.map_eq_some_iff] at h; obtain ⟨y, h1, rfl⟩ := h
  obtain ⟨rfl, _, rfl⟩ := hst
  exact Goes.pureV hw (i8 hf h1)
 case pick c x y =>
  split at h
  ·rename_i c' x' y' h1 h2 h3
   cases h
   obtain ⟨hp, _, rfl⟩ := hst
   unfold a9V at hp
   split at hp
   ·rename_i t ht
    have hc := i8 hf h1
    rw [ht] at hc
    generalize hcv : a.eval c = cv at hc
    cases hc
    subst hp
    refine ⟨.value (if t then a.eval x else a.eval y), _, w, g, ?_, .inl rfl, hw, Gh.le.refl _ _, ?_⟩
    ·show (do pure (Next.value (if <- asBool (a.eval c) then a.eval x else a.eval y))).run P w = _
     rw [hcv]; cases t <;> rfl
    ·cases t
     ·exact i8 hf h3
     ·exact i8 hf h2
   ·exact hp.elim
  ·cases h
 case alloc t =>
  simp only [Option.map_eq_some_iff] at h; obtain ⟨zc, h1, rfl⟩ := h
  obtain ⟨i, z, hi, hz, hzc⟩ := a1t h1
  obtain ⟨z1, z2⟩ := a0K (pm := g.pm) (L := g.L) (σ := σ) hzc
  have := a6A (P := P) (t := t) (c := z.cells) hw (by simpa using z1) (fun j a b => by have := z2 j a (by simpa using b); rwa [Array.getElem_toList] at this) hst
  obtain ⟨res, u, w', g', e1, e2⟩ := this
  refine ⟨res, u, w', g', ?_, e2⟩
  rw [<- e1]
  have hzr : (zeroValue t).run P w = .ok z w := by simp [zeroValue, typeInfo, hi, hz]
  simp [execOp, Instr.alloc, hzr, newVar]
 case box t x =>
  simp only [Option.map_eq_some_iff] at h; obtain ⟨y, h1, rfl⟩ := h
  obtain ⟨hnj, hst⟩ := hst
  obtain ⟨c1, c2⟩ := (i8 hf h1).cells (by rintro e; rw [e] at hnj; simp [AV.nj] at hnj)
  have := a6A (P := P) (t := t) (c := (a.eval x).cells) hw c1 c2 hst
  obtain ⟨res, u, w', g', e1, e2⟩ := this
  refine ⟨res, u, w', g', ?_, e2⟩
  rw [<- e1]
  simp [execOp, Instr.box, newVar]
 case build t ps =>
  split at h
  ·rename_i zc place h1 h2
   simp only [Option.map_eq_some_iff] at h; obtain ⟨qs, h3, rfl⟩ := h
   obtain ⟨⟨cs, hfill, rfl⟩, _, rfl⟩ := hst
   obtain ⟨i, z, hi, hz, hzc⟩ := a1t h1
   obtain ⟨z1, z2⟩ := a0K (pm := g.pm) (L := g.L) (σ := σ) hzc
   obtain ⟨p1, p2⟩ := a4t hf h3
   have hvl : VL g.pm g.L σ zc z.cells := ⟨by simpa using z1, fun j a b => by have := z2 j a (by simpa using b); rwa [Array.getElem_toList] at this⟩
   obtain ⟨vs', e1, e2⟩ := a6a place (evP fr qs) (ps.map fun (i, x) => (i, a.eval x)).toList hvl (by simpa using p1) (fun j a b => by
    have b' : j < ps.size := by simpa using b
    have := p2 j a (by simpa using b')
    rw [Array.getElem_toList] at this
    simpa using this) hfill
   exact Goes.val hw (a9X h2 hi hz e1 w) (.agg e2.1 e2.2)
  ·cases h
 case buildSlice t len ps =>
  split at h
  ·rename_i esh bytes zc h1
   split at h
   ·rename_i hbig
    simp only [Option.map_eq_some_iff] at h; obtain ⟨qs, h3, rfl⟩ := h
    exact b3p h1 hbig h3 hw hf hst
   ·cases h
  ·cases h
 case load t x =>
  split at h
  ·rename_i sh y h1 h2
   cases h
   obtain ⟨hst, rfl⟩ := hst
   exact a8P hw h1 (i8 hf h2) hst
  ·cases h
 case store t x y =>
  split at h
  ·rename_i i x' y' h1 h2 h3
   cases h
   exact a7x hw h1 rfl (i8 hf h2) (i8 hf h3) hst
  ·cases h
 case nilCheck x =>
  simp only [Option.map_eq_some_iff] at h; obtain ⟨y, h1, rfl⟩ := h
  obtain ⟨hst, _, rfl⟩ := hst
  have hx := i8 hf h1
  have key : ∀ u, a.eval x = u -> (match u with | .pointer (some _) | .iface _ _ | .func (.func _) _ _ => True | _ => False) -> v = ev fr y -> Goes P g σ w (execOp a.eval ⟨dst, .nilCheck x, ty, pos, after, guard⟩) v none := fun u e hu hv => by
   subst hv
   refine ⟨.value (a.eval x), a.eval x, w, g, ?_, .inl rfl, hw, Gh.le.refl _ _, hx⟩
   simp only [execOp]
   rw [e]
   cases u <;> first
    | exact hu.elim
    | rfl
    | (rename_i p; cases p <;> first | exact hu.elim | rfl)
    | (rename_i f _ _; cases f <;> first | exact hu.elim | rfl)
  unfold a8h at hst
  generalize hq : ev fr y = q at hst hx
  generalize hev : a.eval x = u at hx
  split at hst
  ·cases hx; exact key _ hev trivial (hst.trans hq.symm)
  ·cases hx; exact key _ hev trivial (hst.trans hq.symm)
  ·cases hx; exact key _ hev trivial (hst.trans hq.symm)
  ·cases hx; exact key _ hev trivial (hst.trans hq.symm)
  ·exact hst.elim
 case binOp op t x y t2 =>
  split at h
  ·rename_i x' y' h1 h2
   have hx := i8 hf h1
   have hy := i8 hf h2
   unfold b2W at h
   split at h
   ·rename_i hu; cases h; obtain ⟨hst, _, rfl⟩ := hst; exact a2g (c := .bool) (fun e => by cases e) hw hu hx hy hst
   ·rename_i hu; cases h; obtain ⟨hst, _, rfl⟩ := hst; exact a2g (c := .ptr) (fun e => by cases e) hw ⟨_, hu⟩ hx hy hst
   ·rename_i hu; cases h; obtain ⟨hst, _, rfl⟩ := hst; exact a2g (c := ifC y') (a9Y h2) hw (b1V ⟨_, hu⟩) hx hy hst
   ·rename_i hu; cases h; obtain ⟨hst, _, rfl⟩ := hst; exact a2g (c := .flat) (fun e => by cases e) hw ⟨_, hu⟩ hx hy hst
   ·rename_i fields hu
    split at h
    ·rename_i ks hk
     split at h
     ·rename_i hc
      cases h
      obtain ⟨hst, _, rfl⟩ := hst
      simp only [Bool.and_eq_true, Bool.not_eq_true'] at hc
      exact a9R hw hu hc.1.1 hc.1.2 hc.2 hx hy hst
     ·cases h
    ·cases h
   ·cases h; obtain ⟨hst, _, rfl⟩ := hst; exact a2g (c := .none) (fun e => by cases e) hw trivial hx hy hst
  ·cases h
 case unOp op t x =>
  simp only [Option.map_eq_some_iff] at h; obtain ⟨y, h1, rfl⟩ := h
  obtain ⟨hst, _, rfl⟩ := hst
  exact b1K hw (i8 hf h1) hst
 case convert src d x =>
  simp only [Option.bind_eq_some_iff] at h; obtain ⟨y, h1, h⟩ := h
  have hx := i8 hf h1
  unfold a9W at h
  split at h
  ·rename_i hd hs
   cases h; obtain ⟨hst, _, rfl⟩ := hst
   exact a5W hw ⟨_, hs⟩ hd hx hst
  ·rename_i hd hs
   cases h; obtain ⟨hst, _, rfl⟩ := hst
   exact a5X hw hs hd hx hst
  ·rename_i e hd hs
   split at h
   ·rename_i he
    cases h; obtain ⟨hst, rfl⟩ := hst
    exact a9N hw hs he hd hx hst
   ·cases h
  ·rename_i e hd hs
   split at h
   ·rename_i he
    cases h; obtain ⟨hst, _, rfl⟩ := hst
    exact a9O hw hs he hd hx hst
   ·cases h
  ·cases h
 case makeInterface t x =>
  split at h
  ·rename_i hc
   simp only [Option.map_eq_some_iff] at h; obtain ⟨y, h1, rfl⟩ := h
   obtain ⟨hst, _, rfl⟩ := hst
   exact a9I hw hc (i8 hf h1) hst
  ·cases h
 case makeFunc f x y =>
  split at h
  ·rename_i x' y' h1 h2
   cases h; obtain ⟨rfl, _, rfl⟩ := hst
   obtain ⟨a1, a2⟩ := a4h hf h1
   obtain ⟨b1, b2⟩ := a4h hf h2
   refine Goes.val hw (u := .func f (x.map a.eval) (y.map a.eval)) rfl (.fn (by simpa using a1.symm) (by simpa using b1.symm) (fun j p q => ?_) (fun j p q => ?_))
   ·rw [a0v]; exact a2 j p _
   ·rw [a0v]; exact b2 j p _
  ·cases h
 case makeSlice t l c =>
  split at h
  ·rename_i esh bytes zc l' c' h1 h2 h3
   cases h
   obtain ⟨e, inf, z, hu, he, hi, hz, hzc, hzl, rfl⟩ := a1Q h1
   exact a8T hw hu he hi hz hzc hzl (i8 hf h2) (i8 hf h3) hst
  ·cases h
 case slice t x lo hi mx =>
  split at h
  ·rename_i x' lo' hi' mx' h1 h2 h3 h4
   split at h
   ·rename_i hu
    split at h
    ·rename_i e1
     cases h; obtain ⟨hst, _, rfl⟩ := hst
     have hm : mx.map a.eval = none := by
      cases mx with
      | none => rfl
      | some z => simp [b2V] at h4
     have := a9H (P := P) hw hu (i8 hf h1) (a1P hf h2) (a1P hf h3) hst
     rw [<- hm] at this
     exact this
    ·cases h
   ·rename_i n e hu
    split at h
    ·rename_i e1
     simp only [Option.map_eq_some_iff] at h; obtain ⟨sh, hs, rfl⟩ := h
     obtain ⟨hst, rfl⟩ := hst
     have hm : mx.map a.eval = none := by
      cases mx with
      | none => rfl
      | some z => simp [b2V] at h4
     have := a9T (P := P) hw hu hs (i8 hf h1) (a1P hf h2) (a1P hf h3) hst
     rw [<- hm] at this
     exact this
    ·cases h
   ·simp only [Option.map_eq_some_iff] at h; obtain ⟨⟨e, esh⟩, h5, rfl⟩ := h
    obtain ⟨hst, _, rfl⟩ := hst
    obtain ⟨hu, he⟩ := a3z h5
    exact a9D hw he hu (i8 hf h1) (a1P hf h2) (a1P hf h3) (a1P hf h4) hst
  ·cases h
 case fieldAddr t x fi =>
  split at h
  ·rename_i fields hu
   split at h
   ·rename_i f hfi
    split at h
    ·rename_i i hi
     split at h
     ·cases h
     ·rename_i hz
      simp only [Option.map_eq_some_iff] at h; obtain ⟨y, h1, rfl⟩ := h
      obtain ⟨hst, _, rfl⟩ := hst
      exact a9A hw hu hfi ⟨i, hi, hz⟩ (i8 hf h1) hst
    ·cases h
   ·cases h
  ·cases h
 case field t x fi =>
  split at h
  ·rename_i fields hu
   split at h
   ·rename_i f hfi
    split at h
    ·rename_i sh hs
     simp only [Option.map_eq_some_iff] at h; obtain ⟨y, h1, rfl⟩ := h
     obtain ⟨hst, _, rfl⟩ := hst
     exact a9E hw hu hfi hs (i8 hf h1) hst
    ·cases h
   ·cases h
  ·cases h
 case indexAddr t x i =>
  split at h
  ·rename_i x' i' h1 h2
   split at h
   ·rename_i e hu
    simp only [Option.map_eq_some_iff] at h; obtain ⟨sh, hs, rfl⟩ := h
    obtain ⟨hst, _, rfl⟩ := hst
    exact a6C (arr := none) hw hs hu (i8 hf h1) (i8 hf h2) hst
   ·rename_i k e hu
    simp only [Option.map_eq_some_iff] at h; obtain ⟨sh, hs, rfl⟩ := h
    obtain ⟨hst, _, rfl⟩ := hst
    exact a6C (arr := some k) hw hs hu (i8 hf h1) (i8 hf h2) hst
   ·cases h
  ·cases h
 case index t x i =>
  split at h
  ·rename_i x' i' h1 h2
   split at h
   ·rename_i hu
    cases h
    obtain ⟨hst, _, rfl⟩ := hst
    exact a5Y hw hu (i8 hf h1) (i8 hf h2) hst
   ·rename_i k e hu
    simp only [Option.map_eq_some_iff] at h; obtain ⟨sh, hs, rfl⟩ := h
    obtain ⟨hst, _, rfl⟩ := hst
    exact a5Z hw hu hs (i8 hf h1) (i8 hf h2) hst
   ·cases h
  ·cases h
 case extract x i =>
  simp only [Option.map_eq_some_iff] at h; obtain ⟨y, h1, rfl⟩ := h
  obtain ⟨hst, _, rfl⟩ := hst
  exact a9F hw (i8 hf h1) hst
 case typeAssert x xt t ok =>
  split at h
  ·cases h
  ·rename_i hok
   have : ok = false := by simpa using hok
   subst this
   split at h
   ·cases h
   ·rename_i d hni hd
    simp only [Option.map_eq_some_iff] at h; obtain ⟨y, h1, rfl⟩ := h
    obtain ⟨hst, _, rfl⟩ := hst
    exact a9S hw hd (fun ms e => hni ms (by rw [e])) (i8 hf h1) hst
   ·cases h
 case call c =>
  obtain ⟨callee, args, argTypes⟩ := c
  simp only at h
  split at h
  ·rename_i b
   split at h
   ·rename_i x t ha ht
    split at h
    ·rename_i k x' h1 h2
     cases h; obtain ⟨hst, _, rfl⟩ := hst
     obtain rfl := a3b ha
     obtain rfl := a3b ht
     have hfit : b2R.fits P t k := by
      unfold b2X at h1
      split at h1 <;> (try cases h1)
      ·rename_i hu; exact hu
      ·rename_i hu; exact ⟨_, hu⟩
      ·rename_i hu; exact .inl ⟨_, hu⟩
      ·rename_i hu
       split at h1
       ·rename_i hu2; cases h1; exact .inr ⟨_, _, hu, hu2⟩
       ·cases h1
     exact (a9G (ty := ty) hw hfit (i8 hf h2) hst).of_run (by simp [execOp, resolve, invoke, builtin])
    ·cases h
   ·rename_i s x t tx ha ht
    split at h
    ·rename_i esh bytes zc s' x' h1 h2 h3
     obtain rfl := a1H ha
     obtain rfl := a1H ht
     obtain ⟨e, inf, z, hu, he, hi, hz, hzc, hzl, rfl⟩ := a1Q h1
     have hzs : z.cells.size = d9 esh := by
      have := (a0K (pm := g.pm) (L := g.L) (σ := σ) hzc).1
      rw [<- hzl, <- this]; simp
     split at h
     ·rename_i e' hux
      cases h
      exact (a6F (ty := ty) hw hu hux (.inl ⟨e', rfl⟩) he hi hz hzs (i8 hf h2) (i8 hf h3) hst).of_run (by simp [execOp, resolve, invoke, builtin])
     ·rename_i hux
      cases h
      exact (a6F (ty := ty) hw hu hux (.inr rfl) he hi hz hzs (i8 hf h2) (i8 hf h3) hst).of_run (by simp [execOp, resolve, invoke, builtin])
     ·cases h
    ·cases h
   ·rename_i s x t tx ha ht
    split at h
    ·rename_i e esh s' x' h1 h2 h3
     cases h
     obtain rfl := a1H ha
     obtain rfl := a1H ht
     obtain ⟨hu, he⟩ := a3z h1
     rcases hst with hst | hst | hst
     ·exact (a9M (ty := ty) (tx := tx) hw hu he (i8 hf h2) (i8 hf h3) hst).of_run (by simp [execOp, resolve, invoke, builtin])
     ·exact (a8V (ty := ty) (tx := tx) hw hu he (i8 hf h2) (i8 hf h3) hst).of_run (by simp [execOp, resolve, invoke, builtin])
     ·exact (a8W (ty := ty) (tx := tx) hw hu he (i8 hf h2) (i8 hf h3) hst).of_run (by simp [execOp, resolve, invoke, builtin])
    ·cases h
   ·rename_i x t ha ht
    split at h
    ·rename_i esh bytes zc x' h1 h2
     cases h
     obtain rfl := a3b ha
     obtain rfl := a3b ht
     obtain ⟨e, inf, z, hu, he, hi, hz, hzc, hzl, rfl⟩ := a1Q h1
     exact (a9U (ty := ty) hw hu he hi hz hzc hzl (i8 hf h2) hst).of_run (by simp [execOp, resolve, invoke, builtin])
    ·cases h
   ·rename_i x y ha
    split at h
    ·rename_i x' y' h1 h2
     cases h; obtain ⟨hst, _, rfl⟩ := hst
     obtain rfl := a1H ha
     exact (a9P (P := P) (ts := argTypes) (ty := ty) hw (i8 hf h1) (i8 hf h2) hst).of_run (by simp [execOp, resolve, invoke, builtin])
    ·cases h
   ·rename_i x y ha
    split at h
    ·rename_i x' y' h1 h2
     cases h; obtain ⟨hst, _, rfl⟩ := hst
     obtain rfl := a1H ha
     exact (a9Q (P := P) (ts := argTypes) (ty := ty) hw (i8 hf h1) (i8 hf h2) hst).of_run (by simp [execOp, resolve, invoke, builtin])
    ·cases h
   ·cases h
  ·cases h
mutual
def AV.blw (n : Nat) : AV -> Bool
 | .ptr o _ _ => decide (o < n)
 | .ref o _ _ _ _ => decide (o < n)
 | .mp o _ => decide (o < n)
 | .cptr cs _ => a0S n cs
 | .sl _ _ xs => a0S n xs
 | .agg cs => a0S n cs
 | .tup vs => a0S n vs
 | .fn _ a b => a0S n a && a0S n b
 | .iface _ v => v.blw n
 | _ => true
def a0S (n : Nat) : List AV -> Bool
 | [] => true
 | x :: r => x.blw n && a0S n r
end

theorem z6 {n : Nat} : ∀ {xs : List AV}, a0S n xs = true -> ∀ j (h : j < xs.length), (xs[j]).blw n = true
 | [], _, j, h => by simp at h
 | x :: r, h, 0, _ => by simp only [a0S, Bool.and_eq_true] at h; exact h.1
 | x :: r, h, j + 1, hj => by simp only [a0S, Bool.and_eq_true] at h; exact z6 h.2 j (by simpa using hj)

theorem a0W {n : Nat} : ∀ {xs : List AV}, a0S n xs = true ↔ ∀ x ∈ xs, x.blw n = true
 | [] => by simp [a0S]
 | x :: r => by simp [a0S, a0W (xs := r)]

theorem a1e {n : Nat} {x : AV} (h : x.blw n = true) : a0S n x.cells = true := by
 cases x <;> first | exact h | (simp only [AV.cells, a0S, Bool.and_true]; exact h)

theorem VR.agree {pm L σ L' σ' n} {x : AV} {v : Value} (h : VR pm L σ x v) (hb : x.blw n = true) (hs : ∀ o, o < n -> σ' o = σ o /\ L' o = L o) : VR pm L' σ' x v := by
 induction h with
 | int => exact .int
 | bool => exact .bool
 | str => exact .str
 | nilp => exact .nilp
 | ptr h =>
   simp only [AV.blw, decide_eq_true_eq] at hb
   obtain ⟨e1, e2⟩ := hs _ hb
   exact .ptr (by unfold a0Q at *; rw [e1, e2]; exact h)
 | cptr us hp hv ih =>
   simp only [AV.blw] at hb
   exact .cptr us hp (fun j hj => ih j hj (z6 hb j hj))
 | nils => exact .nils
 | snn => exact .snn
 | snnz => exact .snnz
 | slnil => exact .slnil
 | slz => exact .slz
 | sl us hc he hz hp hv ih =>
   simp only [AV.blw] at hb
   exact .sl us hc he hz hp (fun i hi j hj => ih i hi j hj (z6 (a1e (z6 hb i hi)) j hj))
 | refnil h =>
   simp only [AV.blw, decide_eq_true_eq] at hb
   obtain ⟨e1, e2⟩ := hs _ hb
   exact .refnil (by unfold a2I at *; rw [e1]; exact h)
 | ref hn hsp h =>
   simp only [AV.blw, decide_eq_true_eq] at hb
   obtain ⟨e1, e2⟩ := hs _ hb
   exact .ref hn hsp (by unfold a0p at *; rw [e1, e2]; exact h)
 | agg hl hv ih => simp only [AV.blw] at hb; exact .agg hl (fun j a b => ih j a b (z6 hb j a))
 | tup hl hv ih => simp only [AV.blw] at hb; exact .tup hl (fun j a b => ih j a b (z6 hb j a))
 | nilf => exact .nilf
 | fn hlf hlc hvf hvc ihf ihc =>
   simp only [AV.blw, Bool.and_eq_true] at hb
   exact .fn hlf hlc (fun j a b => ihf j a b (z6 hb.1 j a)) (fun j a b => ihc j a b (z6 hb.2 j a))
 | nili => exact .nili
 | iface h ih => simp only [AV.blw] at hb; exact .iface (ih hb)
 | nilm => exact .nilm
 | junk => exact .junk

def VRs (g : Gh) (σ : Hp) (args : List AV) (vals : Array Value) : Prop :=
 vals.size = args.length /\ ∀ j (h : j < args.length) (h' : j < vals.size), VR g.pm g.L σ (args[j]) (vals[j])

def Ev (P : Program) (f : FuncId) (args : List AV) (σ : Hp) (r : AV) (σ' : Hp) : Prop :=
 ∀ (g : Gh) (w : World) (vals : Array Value), WRel g σ w -> VRs g σ args vals ->
  Calls P f vals w fun e w' => ∃ u g', e = .returned u /\ g.le σ g' σ' /\ WRel g' σ' w' /\ VR g'.pm g'.L σ' r u

abbrev a6y : Hp := fun _ => .virgin

def p3 (P : Program) (f : FuncId) (args : List AV) (r : AV) : Prop := Ev P f args a6y r a6y

theorem p3.frame {P f args r} (h : p3 P f args r) (hb : a0S 0 args = true) (hr : r.blw 0 = true) (σ : Hp) : Ev P f args σ r σ := by
 intro g w vals hw hv
 classical
 let owned : Nat -> Nat -> Prop := fun b o => ∃ i ver cs, σ i = .arr ver cs /\ (g.L i).b = b /\ ∃ j, j < (g.L i).cap /\ (g.L i).off + j = o
 let gE : Gh := { g with tm := fun b o => if owned b o then w.cell? ⟨b, o, none⟩ else g.tm b o }
 have hwE : WRel gE a6y w := by
  refine ⟨hw.pm, fun b o v e => ?_, fun b o v e => ?_, fun b o v e => ?_, hw.low, hw.B0, hw.tab, fun o ver cs e => by simp [a6y] at e, fun o o' v v' c c' e => by simp [a6y] at e⟩
  ·by_cases ho : owned b o
   ·simpa [gE, ho] using e
   ·exact hw.tm _ _ _ (by simpa [gE, ho] using e)
  ·by_cases ho : owned b o
   ·obtain ⟨i, ver, cs, e1, rfl, j, hj, rfl⟩ := ho
    exact (hw.ob i ver cs e1).free j hj
   ·exact hw.tmf _ _ _ (by simpa [gE, ho] using e)
  ·have ho : ¬ owned b o := by
    rintro ⟨i, ver, cs, e1, rfl, j, hj, rfl⟩
    have := (hw.ob i ver cs e1).pm j hj
    rw [show gE.pm = g.pm from rfl] at e
    rw [this] at e; cases e
   simpa [gE, ho] using hw.disj b o v e
 refine (h gE w vals hwE ⟨hv.1, fun j a b => (hv.2 j a b).agree (z6 hb j a) (fun o ho => by omega)⟩).mono ?_
 rintro e w' ⟨u, g', rfl, hle, hw', hu⟩
 have hpm : ∀ b o v, g.pm b o = some v -> g'.pm b o = some v := hle.ext.pm
 let g2 : Gh := { g with pm := g'.pm }
 have hext : Ext g.pm g.L σ g2.pm g2.L σ := ⟨hpm, fun _ => u0.refl _ _⟩
 have htm : ∀ b o, g'.tm b o = gE.tm b o := fun b o => by rw [hle.tm]
 refine ⟨u, g2, rfl, ⟨hext, rfl, rfl, rfl⟩, ⟨hw'.pm, fun b o v e => ?_, fun b o v e => ?_, fun b o v e => ?_, ?_, ?_, hw.tab, fun i ver cs e => ?_, hw.sep⟩, hu.agree hr (fun o ho => by omega)⟩
 ·have ho : ¬ owned b o := by
   rintro ⟨i, ver, cs, e1, rfl, j, hj, rfl⟩
   have := (hw.ob i ver cs e1).tm j hj
   rw [show g2.tm = g.tm from rfl, this] at e; cases e
  exact hw'.tm b o v (by rw [htm]; simpa [gE, ho] using e)
 ·have ho : ¬ owned b o := by
   rintro ⟨i, ver, cs, e1, rfl, j, hj, rfl⟩
   have := (hw.ob i ver cs e1).tm j hj
   rw [show g2.tm = g.tm from rfl, this] at e; cases e
  exact hw'.tmf b o v (by rw [htm]; simpa [gE, ho] using e)
 ·have hd := hw'.disj b o v e
  rw [htm] at hd
  by_cases ho : owned b o
  ·obtain ⟨i, ver, cs, e1, rfl, j, hj, rfl⟩ := ho
   exact (hw.ob i ver cs e1).tm j hj
  ·simpa [gE, ho] using hd
 ·have := hw'.low
  rw [hle.B0, hle.w0] at this
  exact this
 ·have := hw'.B0
  rw [hle.B0] at this
  exact this
 ·have k := hw.ob i ver cs e
  have hE : ∀ j, j < (g.L i).cap -> gE.tm (g.L i).b ((g.L i).off + j) = w.cell? ⟨(g.L i).b, (g.L i).off + j, none⟩ := fun j hj => if_pos ⟨i, ver, cs, e, rfl, j, hj, rfl⟩
  have hown : ∀ j, j < (g.L i).cap -> owned (g.L i).b ((g.L i).off + j) := fun j hj => ⟨i, ver, cs, e, rfl, j, hj, rfl⟩
  refine ⟨k.low, k.len, fun j hj => ?_, fun j hj => ?_, fun j hj => ?_, k.tm⟩
  ·obtain ⟨v, hv, hr⟩ := k.there j hj
   refine ⟨v, hw'.tm _ _ v (by rw [htm]; exact (hE j hj).trans hv), fun hj' => (hr hj').mono hext⟩
  ·obtain ⟨v, hv, hr⟩ := k.there j hj
   exact hw'.tmf _ _ v (by rw [htm]; exact (hE j hj).trans hv)
  ·show g'.pm (g.L i).b ((g.L i).off + j) = none
   cases hq : g'.pm (g.L i).b ((g.L i).off + j) with
   | none => rfl
   | some v =>
     have := hw'.disj _ _ _ hq
     obtain ⟨v', hv', _⟩ := k.there j hj
     rw [htm, hE j hj, hv'] at this
     cases this

theorem Ev.mono {P f args σ r σ' r' } (h : Ev P f args σ r σ') (hr : ∀ pm L u, VR pm L σ' r u -> VR pm L σ' r' u) : Ev P f args σ r' σ' := by
 intro g w vals hw hv
 refine (h g w vals hw hv).mono ?_
 rintro e w' ⟨u, g', e1, e2, e3, e4⟩
 exact ⟨u, g', e1, e2, e3, hr _ _ _ e4⟩
def hp (S : List Ob) : Hp := fun o => S.getD o .virgin
def a0h : List Ob -> Nat -> Ob -> List Ob
 | [], 0, x => [x]
 | [], n + 1, x => .virgin :: a0h [] n x
 | _ :: s, 0, x => x :: s
 | y :: s, n + 1, x => y :: a0h s n x

theorem a1o (x : Ob) : ∀ (S : List Ob) (o : Nat), hp (a0h S o x) = upd (hp S) o x
 | [], 0 => by funext i; cases i <;> simp [hp, a0h, upd]
 | [], n + 1 => by
   funext i
   cases i with
   | zero => simp [hp, a0h, upd]
   | succ i =>
     have := congrFun (a1o x [] n) i
     simpa [hp, a0h, upd] using this
 | y :: s, 0 => by funext i; cases i <;> simp [hp, a0h, upd]
 | y :: s, n + 1 => by
   funext i
   cases i with
   | zero => simp [hp, a0h, upd]
   | succ i =>
     have := congrFun (a1o x s n) i
     simpa [hp, a0h, upd] using this

inductive RC where
 | op (r : ROp)
 | call (f : FuncId) (args : List Opd)
 | callv (x : Opd) (args : List Opd)
 | inv (x : Opd) (m : String) (args : List Opd)

structure w8 where
 dst : Option Nat
 guard : Option (Nat × Bool)
 c : RC

inductive LE where
 | acc (fp : List Nat) (wr : Option Nat)
 | eff (S S' : List Ob)
 | rdl (o : Nat) (J : Ob -> Prop)

def apS (S : List Ob) : Option (Nat × Ob) -> List Ob
 | none => S
 | some (o, x) => a0h S o x

theorem b5V (S : List Ob) (δ) : hp (apS S δ) = ap (hp S) δ := by
 cases δ with
 | none => rfl
 | some p => exact a1o _ _ _

def y8 (rd : List Nat) : Option (Nat × Ob) -> List Nat
 | none => rd
 | some (o, _) => o :: rd

def y7 (P : Program) (f : FuncId) : Bool :=
 match P.funcs[f]? with
 | some fn => fn.body.isSome && !(fn.name == "runtime.NumGoroutine")
 | none => false

def a4u (P : Program) (t : TypeId) (m : String) : Option FuncId :=
 match P.info? t with
 | none => none
 | some i => match i.methods.find? (·.name == m) with
   | none => none
   | some me => match me.path.toList, me.func with
     | [], some (f, pr) => match P.underlying t with
       | some (.pointer _) => if pr then some f else none
       | some _ => if pr then none else some f
       | none => none
     | _, _ => none

def a6e (P : Program) (t : TypeId) (m : String) : Option (FuncId × Option Nat) :=
 match P.info? t with
 | none => none
 | some i => match i.methods.find? (·.name == m) with
   | none => none
   | some me => match me.path.toList, me.func with
     | [], some (f, false) => match P.underlying t with
       | some (.pointer e) => (y4 P e).map fun sh => (f, sh)
       | _ => none
     | _, _ => none

inductive LG where
 | acc (fp : List Nat) (wr : Option Nat)
 | eff
 | rdl (o : Nat) (J : Ob -> Prop)

def b3q (τ : Hp) : Prop := ∃ N, ∀ o, N <= o -> τ o = .virgin
theorem a6f (S : List Ob) : b3q (hp S) := ⟨S.length, fun o h => by unfold hp; rw [List.getD_eq_getElem?_getD, List.getElem?_eq_none h]; rfl⟩
def c1U (P : Program) (f : FuncId) (args : List AV) (σ : Hp) (v : AV) (M : List Nat) : Prop := ∀ τ : Hp, b3q τ -> (∀ o ∈ M, τ o = σ o) -> Ev P f args τ v τ

def a0X (P : Program) (f : FuncId) (args : List AV) (σ : Hp) (v : AV) (σ' : Hp) (le : LG) : Prop :=
 (p3 P f args v /\ a0S 0 args = true /\ v.blw 0 = true /\ σ' = σ /\ le = .acc [] none) \/ (Ev P f args σ v σ' /\ le = .eff) \/ ∃ M, c1U P f args σ v M /\ σ' = σ /\ le = .acc M none

def ROp.isL : ROp -> Bool
 | .load _ _ => true
 | _ => false
def StW (r : ROp) (fr : Fm) (σ : Hp) (v : AV) (rd : List Nat) (δ : Option (Nat × Ob)) : Prop := ∃ v0, St r fr σ v0 rd δ /\ AVw v0 v

def a5y (P : Program) (t : TypeId) (m : String) (v0 : AV) (args : List AV) (σ : Hp) (v : AV) (σ' : Hp) (le : LG) : Prop :=
 match a6e P t m with
 | some (f, sh) => y7 P f = true /\ le = .eff /\ ∃ x rd, a2e sh v0 σ x rd /\ Ev P f (x :: args) σ v σ'
 | none => False

def StepG (P : Program) (c : RC) (fr : Fm) (σ : Hp) (v : AV) (σ' : Hp) (le : LG) : Prop :=
 match c with
 | .op r => (∃ rd δ, StW r fr σ v rd δ /\ σ' = ap σ δ /\ le = .acc (y8 rd δ) (δ.map (·.1))) \/ (r.isL = true /\ ∃ o J, (∀ τ : Hp, J (τ o) -> ∃ rd, StW r fr τ v rd none) /\ J (σ o) /\ σ' = σ /\ le = .rdl o J)
 | .call f args => a0X P f (evL fr args) σ v σ' le
 | .callv x args => match ev fr x with
   | .fn (.func f) first caps => y7 P f = true /\ a0X P f (first ++ evL fr args ++ caps) σ v σ' le
   | _ => False
 | .inv x m args => match ev fr x with
   | .iface t v0 => match a4u P t m with
     | some f => y7 P f = true /\ a0X P f (v0 :: evL fr args) σ v σ' le
     | none => a5y P t m v0 (evL fr args) σ v σ' le
   | _ => False

def a4v (P : Program) (f : FuncId) (args : List AV) (S : List Ob) (K : AV -> List Ob -> LE -> Prop) : Prop :=
 (∃ v, p3 P f args v /\ a0S 0 args = true /\ v.blw 0 = true /\ K v S (.acc [] none)) \/ (∃ v S', Ev P f args (hp S) v (hp S') /\ K v S' (.eff S S')) \/ ∃ v M, c1U P f args (hp S) v M /\ K v S (.acc M none)

def a6K (P : Program) (t : TypeId) (m : String) (v0 : AV) (args : List AV) (S : List Ob) (K : AV -> List Ob -> LE -> Prop) : Prop :=
 match a6e P t m with
 | some (f, sh) => y7 P f = true /\ ∃ x rd v S', a2e sh v0 (hp S) x rd /\ Ev P f (x :: args) (hp S) v (hp S') /\ K v S' (.eff S S')
 | none => False

def VC1 (P : Program) (c : RC) (fr : Fm) (S : List Ob) (K : AV -> List Ob -> LE -> Prop) : Prop :=
 match c with
 | .op r => (∃ v rd δ, StW r fr (hp S) v rd δ /\ K v (apS S δ) (.acc (y8 rd δ) (δ.map (·.1)))) \/ (r.isL = true /\ ∃ v o J, (∀ τ : Hp, J (τ o) -> ∃ rd, StW r fr τ v rd none) /\ J (hp S o) /\ K v S (.rdl o J))
 | .call f args => a4v P f (evL fr args) S K
 | .callv x args => match ev fr x with
   | .fn (.func f) first caps => y7 P f = true /\ a4v P f (first ++ evL fr args ++ caps) S K
   | _ => False
 | .inv x m args => match ev fr x with
   | .iface t v => match a4u P t m with
     | some f => y7 P f = true /\ a4v P f (v :: evL fr args) S K
     | none => a6K P t m v (evL fr args) S K
   | _ => False

def b1W (P : Program) (o : Op) : Option RC :=
 match b3o P o with
 | some r => some (.op r)
 | none => match o with
   | .call c => match c.callee, a6J c.args.toList with
     | .value (.func f), some args => if y7 P f then some (.call f args) else none
     | .value x, some args => (a1m x).map (.callv · args)
     | .invoke x m, some args => (a1m x).map (.inv · m args)
     | _, _ => none
   | _ => none

theorem a1p {P : Program} {f : FuncId} (h : y7 P f = true) (args : Array Value) (w : World) : (callFunc f args).run P w = .ok (.enter f args) w := by
 unfold y7 at h
 split at h
 ·rename_i fn hf
  simp only [Bool.and_eq_true, Bool.not_eq_true'] at h
  obtain ⟨h1, h2⟩ := h
  have hn : fn.body ≠ none := by intro hb; simp [hb] at h1
  have h2' : fn.name ≠ "runtime.NumGoroutine" := by simpa using h2
  simp [callFunc, hf, h2', hn]
 ·cases h

theorem a8X {P : Program} {t : TypeId} {m : String} {f : FuncId} (h : a4u P t m = some f) (v : Value) (n : Nat) (w : World) : (method (n + 1) t v m).run P w = .ok (f, v) w := by
 unfold a4u at h
 split at h
 ·cases h
 ·rename_i i hi
  split at h
  ·cases h
  ·rename_i me hm
   split at h
   ·rename_i f' pr hp hfn
    split at h
    ·rename_i e hu
     split at h
     ·rename_i hpr
      cases h
      subst hpr
      simp [method, typeInfo, hi, hm, hp, hfn, follow, receiverAt, run_underlying hu, Place.get]
     ·cases h
    ·rename_i d hnp hu
     split at h
     ·cases h
     ·rename_i hpr
      cases h
      have hpr : pr = false := by simpa using hpr
      subst hpr
      cases d <;> first | exact (hnp _ rfl).elim | (simp [method, typeInfo, hi, hm, hp, hfn, follow, receiverAt, run_underlying hu, Place.get])
    ·cases h
   ·cases h

theorem wnc {t t2 : TypeId} {a : Addr} {x y : String} : Builtin.ssaWrapNilChk_ #[t] t2 #[.pointer (some a), strVal x, strVal y] = pure (.pointer (some a)) := rfl
theorem a7B {P : Program} {t : TypeId} {m : String} {f : FuncId} {sh : Option Nat} (h : a6e P t m = some (f, sh)) :
  ∃ e, y4 P e = some sh /\ ∀ (a : Addr) (r : Value) (w : World) (n : Nat), (loadVar e a).run P w = .ok r w -> (method (n + 1) t (.pointer (some a)) m).run P w = .ok (f, r) w := by
 unfold a6e at h
 split at h
 ·cases h
 ·rename_i i hi
  split at h
  ·cases h
  ·rename_i me hm
   split at h
   ·rename_i f' hp hfn
    split at h
    ·rename_i e hu
     simp only [Option.map_eq_some_iff] at h
     obtain ⟨sh', h1, h2⟩ := h
     cases h2
     refine ⟨e, h1, fun a r w n hl => ?_⟩
     have he : me.path = #[] := Array.toList_eq_nil_iff.1 hp
     simp [method, typeInfo, hi, hm, hp, hfn, follow, receiverAt, run_underlying hu, Place.get, he, wnc, asAddr, hl]
    ·cases h
   ·cases h

theorem a8n {g σ n fr} {a : Act} (hf : a5i g σ n fr a) {args : Array Operand} {qs : List Opd} (h : a6J args.toList = some qs) : VRs g σ (evL fr qs) (args.map a.eval) := by
 obtain ⟨a1, a2⟩ := a4h hf h
 refine ⟨by simpa using a1.symm, fun j p q => ?_⟩
 rw [a0v]; exact a2 j p _

theorem VRs.append {g σ} {xs ys : List AV} {us vs : Array Value} (h : VRs g σ xs us) (k : VRs g σ ys vs) : VRs g σ (xs ++ ys) (us ++ vs) := by
 refine ⟨by simp [h.1, k.1], fun j p q => ?_⟩
 have h1 := h.1
 by_cases hj : j < xs.length
 ·rw [List.getElem_append_left hj, Array.getElem_append_left zO]; exact h.2 j hj zO
 ·rw [List.getElem_append_right zO, Array.getElem_append_right zO]
  have := k.2 (j - xs.length) (by simp at p; omega) (by simp at q; omega)
  simpa [h1] using this

theorem a1R {P : Program} {f : FuncId} {args : List AV} {σ σ' : Hp} {v : AV} {le : LG} (h : a0X P f args σ v σ' le) (hfin : b3q σ) {g : Gh} {w : World} {vals : Array Value} (hw : WRel g σ w) (hv : VRs g σ args vals)
  {next : Value -> World -> Prop} {N : Ending -> World -> Prop} (hN : ∀ u w', next u w' -> N (.returned u) w')
  (hK : ∀ u w' g', g.le σ g' σ' -> WRel g' σ' w' -> VR g'.pm g'.L σ' v u -> next u w') : Calls P f vals w N := by
 rcases h with ⟨h1, h2, h3, rfl, _⟩ | ⟨h1, _⟩ | ⟨M, h1, rfl, _⟩
 ·refine (h1.frame h2 h3 σ' g w vals hw hv).mono ?_
  rintro e w' ⟨u, g', rfl, a, b, c⟩
  exact hN _ _ (hK _ _ _ a b c)
 ·refine (h1 g w vals hw hv).mono ?_
  rintro e w' ⟨u, g', rfl, a, b, c⟩
  exact hN _ _ (hK _ _ _ a b c)
 ·refine (h1 _ hfin (fun _ _ => rfl) g w vals hw hv).mono ?_
  rintro e w' ⟨u, g', rfl, a, b, c⟩
  exact hN _ _ (hK _ _ _ a b c)

theorem b1X {P : Program} {o : Oper} {c : RC} (hr : b1W P o.op = some c) {fr : Fm} {σ σ' : Hp} {v : AV} {le : LG} (h : StepG P c fr σ v σ' le) (hfin : b3q σ) {g : Gh} {n : Nat} {a : Act} {w : World}
  (hw : WRel g σ w) (hf : a5i g σ n fr a) {next : Act -> World -> Prop} {Q : Exit -> Act -> World -> Prop}
  (hK : ∀ u w' g', g.le σ g' σ' -> WRel g' σ' w' -> VR g'.pm g'.L σ' v u -> next (a.put o.dst u) w') : o.wp P a w next Q := by
 unfold b1W at hr
 split at hr
 ·rename_i r hres
  cases hr
  obtain ⟨rd, δ, ⟨v0, hst, hvw⟩, rfl⟩ : ∃ rd δ, StW r fr σ v rd δ /\ σ' = ap σ δ := by
   rcases h with ⟨rd, δ, h1, h2, _⟩ | ⟨_, o, J, h1, h2, h3, _⟩
   ·exact ⟨rd, δ, h1, h2⟩
   ·obtain ⟨rd, h1⟩ := h1 _ h2; exact ⟨rd, none, h1, h3⟩
  obtain ⟨res, u, w', g', e1, e2, e3, e4, e5⟩ := a9Z hres hw hf hst
  have := hK _ _ _ e4 e3 (e5.w hvw)
  unfold Oper.wp
  rw [e1]
  rcases e2 with rfl | ⟨rfl, rfl⟩
  ·exact this
  ·exact this
 ·split at hr
  ·rename_i cl hop
   obtain ⟨dst, op, ty, pos, after, guard⟩ := o
   simp only at hop
   subst hop
   obtain ⟨callee, args, argTypes⟩ := cl
   have enter : ∀ f vals, (execOp a.eval ⟨dst, .call ⟨callee, args, argTypes⟩, ty, pos, after, guard⟩).run P w = .ok (.enter f vals) w ->
     Calls P f vals w (fun | .returned v, w'' => next (a.put dst v) w'' | .panicked chain, w'' => Q (.panic chain) a w'' | .outgrown, _ => LetsOut Q) -> Oper.wp P ⟨dst, .call ⟨callee, args, argTypes⟩, ty, pos, after, guard⟩ a w next Q := fun f vals h1 h2 => by
    unfold Oper.wp; rw [h1]; exact h2
   split at hr
   ·rename_i f qs hc hq
    simp only at hc; subst hc
    split at hr
    ·rename_i hcal
     cases hr
     refine enter f (args.map a.eval) ?_ ?_
     ·simp [execOp, resolve, Act.eval, Deferred.ofValue, invoke, a1p hcal]
     ·exact a1R h hfin hw (a8n hf hq) (next := fun u w' => next (a.put dst u) w') (fun _ _ h => h) hK
    ·cases hr
   ·rename_i x qs hnf hc hq
    simp only at hc; subst hc
    simp only [Option.map_eq_some_iff] at hr; obtain ⟨y, h1, rfl⟩ := hr
    have hx := i8 hf h1
    simp only [StepG] at h
    split at h
    ·rename_i f first caps he
     obtain ⟨hcal, h⟩ := h
     rw [he] at hx
     generalize hev : a.eval x = ux at hx
     cases hx with
     | fn hlf hlc hvf hvc =>
       rename_i fs cs
       refine enter f ((fs ++ args.map a.eval) ++ cs) ?_ ?_
       ·simp [execOp, resolve, hev, Deferred.ofValue, invoke, a1p hcal]
       ·refine a1R h hfin hw ?_ (next := fun u w' => next (a.put dst u) w') (fun _ _ h => h) hK
        exact VRs.append (VRs.append ⟨hlf, hvf⟩ (a8n hf hq)) ⟨hlc, hvc⟩
    ·exact h.elim
   ·rename_i x m qs hc hq
    simp only at hc; subst hc
    simp only [Option.map_eq_some_iff] at hr; obtain ⟨y, h1, rfl⟩ := hr
    have hx := i8 hf h1
    simp only [StepG] at h
    split at h
    ·rename_i t v0 he
     split at h
     ·rename_i f hm
      obtain ⟨hcal, h⟩ := h
      rw [he] at hx
      generalize hev : a.eval x = ux at hx
      cases hx with
      | iface hv =>
        rename_i u
        refine enter f (#[u] ++ args.map a.eval) ?_ ?_
        ·have hd : ∃ k, P.types.size + Made.depth = k + 1 := ⟨P.types.size + 99, by simp [Made.depth]⟩
         obtain ⟨k, hk⟩ := hd
         have h0 : ((#[Value.iface t u] : Array Value) ++ Array.map a.eval args)[0]? = some (.iface t u) := by rw [Array.getElem?_append_left zS]; rfl
         have hx : (Array.map a.eval args).extract 0 args.size = Array.map a.eval args := by
          have : args.size = (Array.map a.eval args).size := by simp
          rw [this, Array.extract_size]
         simp [execOp, resolve, hev, invoke, callMethod, h0, hx, hk, a8X hm, a1p hcal]
        ·refine a1R h hfin hw ?_ (next := fun u w' => next (a.put dst u) w') (fun _ _ h => h) hK
         have : VRs g σ [v0] #[u] := ⟨rfl, fun j p q => by
          simp at p; subst p; exact hv⟩
         exact VRs.append this (a8n hf hq)
     ·rename_i hm0
      unfold a5y at h
      split at h
      ·rename_i f sh hm
       obtain ⟨hcal, _, y, rd, hld, hev'⟩ := h
       rw [he] at hx
       generalize hev : a.eval x = ux at hx
       cases hx with
       | iface hv =>
         rename_i u
         obtain ⟨e0, he0, hrun0⟩ := a7B hm
         obtain ⟨ad, r, rfl, hr1, hr2⟩ := a7w hw he0 hv hld
         have hrun : ∀ n, (method (n + 1) t (.pointer (some ad)) m).run P w = .ok (f, r) w := fun n => hrun0 ad r w n hr1
         refine enter f (#[r] ++ args.map a.eval) ?_ ?_
         ·have hd : ∃ k, P.types.size + Made.depth = k + 1 := ⟨P.types.size + 99, by simp [Made.depth]⟩
          obtain ⟨k, hk⟩ := hd
          have h0 : ((#[Value.iface t (.pointer (some ad))] : Array Value) ++ Array.map a.eval args)[0]? = some (.iface t (.pointer (some ad))) := by rw [Array.getElem?_append_left zS]; rfl
          have hx : (Array.map a.eval args).extract 0 args.size = Array.map a.eval args := by
           have : args.size = (Array.map a.eval args).size := by simp
           rw [this, Array.extract_size]
          simp [execOp, resolve, hev, invoke, callMethod, h0, hx, hk, hrun, a1p hcal]
         ·refine a1R (le := .eff) (.inr (.inl ⟨hev', rfl⟩)) hfin hw ?_ (next := fun u w' => next (a.put dst u) w') (fun _ _ h => h) hK
          have : VRs g σ [y] #[r] := ⟨rfl, fun j p q => by
           simp at p; subst p; exact hr2⟩
          exact VRs.append this (a8n hf hq)
      ·exact h.elim
    ·exact h.elim
   ·cases hr
  ·cases hr
end Go.Ab

