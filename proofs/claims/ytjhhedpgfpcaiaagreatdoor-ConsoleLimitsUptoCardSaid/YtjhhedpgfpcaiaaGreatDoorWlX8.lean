/- Each operation of the evaluator does what the layer's operation does. -/
import Derived.Test.YtjhhedpgfpcaiaaGreatDoorWlX5
import Derived.Carry
namespace Go.Ab
set_option linter.constructorNameAsVariable false
set_option linter.unusedSimpArgs false
set_option linter.unusedVariables false
open Go.RowKit
set_option linter.unusedVariables false
set_option linter.unusedSimpArgs false
section
variable {ρ : Env}
theorem xNchk_ok {x v : XV} (h : xNchk x = some v) : StNchk (x.av ρ) (v.av ρ) := by
  unfold xNchk at h
  split at h <;> cases h <;> simp [XV.av, StNchk]
theorem sameX_ok : ∀ {ks : List FK} {xs ys : List XV} {b : Bool}, sameX ks xs ys = some b → alike ks (xs.map (XV.av ρ)) (ys.map (XV.av ρ)) = true ∧ sameAll (xs.map (XV.av ρ)) (ys.map (XV.av ρ)) = b := by
  intro ks
  induction ks with
  | nil =>
    intro xs ys b h
    cases xs <;> cases ys <;> simp [sameX] at h
    subst h; simp [alike, sameAll]
  | cons k ks ih =>
    intro xs ys b h
    unfold sameX at h
    split at h
    · contradiction
    · rename_i ks' k1 a xs k2 c ys e
      cases e
      replace h := bif_some h
      obtain ⟨h1, h⟩ := h
      have := keq_eq h1
      subst this
      split at h
      · rename_i r hr
        cases h
        obtain ⟨i1, i2⟩ := ih hr
        simp [XV.av, alike, sameAll, AV.same, i1, i2, ieq_eq]
      · cases h
    · rename_i ks' k1 a xs k2 c ys e
      cases e
      replace h := bif_some h
      obtain ⟨h1, h⟩ := h
      simp only [Bool.and_eq_true] at h1
      have := keq_eq h1.1
      subst this
      obtain ⟨i1, i2⟩ := ih h
      simp [XV.av, alike, sameAll, AV.same, i1, i2, SE.eq_val h1.2]
    · rename_i ks' a xs c ys e
      cases e
      split at h
      · rename_i r hr
        cases h
        obtain ⟨i1, i2⟩ := ih hr
        simp [XV.av, alike, sameAll, AV.same, i1, i2, beqB_eq]
      · cases h
    · rename_i ks' a xs c ys e
      cases e
      split at h
      · rename_i r hr
        cases h
        obtain ⟨i1, i2⟩ := ih hr
        simp [XV.av, alike, sameAll, AV.same, i1, i2, leq_eq, toList_strB]
      · cases h
    · cases h
theorem xEqs_ok {ks op} {x y v : XV} (h : xEqs ks op x y = some v) : StEqs ks op (x.av ρ) (y.av ρ) (v.av ρ) := by
  unfold xEqs at h
  split at h
  · split at h
    · rename_i b hb
      obtain ⟨h1, h2⟩ := sameX_ok (ρ := ρ) hb
      simp only [XV.av, StEqs, avs_eq, h2]
      exact ⟨h1, eqX_ok h⟩
    · cases h
  · cases h
theorem xUn_ok {op} {x v : XV} (h : xUn op x = some v) : StUn op (x.av ρ) (v.av ρ) := by
  unfold xUn at h
  split at h
  · cases h; simp [XV.av, StUn]
  · cases h; simp [XV.av, StUn, wrapX_eq]
  · simp only [XV.av, StUn]; exact intX_ok h
  · cases h
theorem xCint_ok {fs : List (SE × SE)} (hf : FactsOK ρ fs) {k} {x v : XV} (h : xCint fs k x = some v) : StCint k (x.av ρ) (v.av ρ) := by
  unfold xCint at h
  split at h
  · cases h; simp [XV.av, StCint, wrapX_eq]
  · cases h; simp [XV.av, StCint, nrmF_av hf, SE.val]
  · cases h
theorem xFad_ok {fo} {x v : XV} (h : xFad fo x = some v) : StFad fo (x.av ρ) (v.av ρ) := by
  unfold xFad at h
  split at h <;> cases h <;> simp [XV.av, StFad]
theorem xIad_ok {arr esh} {x i v : XV} (h : xIad arr esh x i = some v) : StIad arr esh (x.av ρ) (i.av ρ) (v.av ρ) := by
  unfold xIad at h
  split at h
  · rename_i k n
    split at h
    · rename_i ex sz xs
      replace h := bif_some h
      obtain ⟨h1, h⟩ := h
      have q := Nat.eq_of_beq_eq_true h1
      split at h
      · rename_i y hy
        cases h
        rw [nthX_eq] at hy
        obtain ⟨hl, hv⟩ := List.getElem?_eq_some_iff.1 hy
        simp only [XV.av, StIad, avs_eq]
        refine ⟨by rw [q, szX_eq], Int.natCast_nonneg _, by simp; omega, ?_⟩
        simp [List.getD_eq_getElem?_getD, hy, cells_av]
      · cases h
    · replace h := bif_some h
      obtain ⟨h1, h⟩ := h
      simp only [Bool.and_eq_true, Nat.blt_eq] at h1
      cases h
      simp only [XV.av, StIad]
      exact ⟨oeq_eq h1.1, Int.natCast_nonneg _, Int.ofNat_lt.2 h1.2, by simp [szX_eq]⟩
    · replace h := bif_some h
      obtain ⟨h1, h⟩ := h
      simp only [Nat.blt_eq] at h1
      cases h
      simp only [XV.av, StIad]
      exact ⟨Int.natCast_nonneg _, Int.ofNat_lt.2 h1, by simp [szX_eq]⟩
    · replace h := bif_some h
      obtain ⟨h1, h⟩ := h
      simp only [Nat.blt_eq] at h1
      cases h
      simp only [XV.av, StIad]
      exact ⟨Int.natCast_nonneg _, Int.ofNat_lt.2 h1, by simp [szX_eq]⟩
    · cases h
  · cases h
theorem loX_ok {x : Option XV} {l : Nat} (h : loX x = some l) : loN (x.map (XV.av ρ)) = some l := by
  unfold loX at h
  split at h
  · cases h; rfl
  · cases h; simp [XV.av, loN]
  · cases h
theorem hiX_ok {x : Option XV} {n l : Nat} (h : hiX n x = some l) : hiN n (x.map (XV.av ρ)) = some l := by
  unfold hiX at h
  split at h
  · cases h; rfl
  · cases h; simp [XV.av, hiN]
  · cases h
theorem xSlc_ok {esh} {x v : XV} {lo hi mx : Option XV} (h : xSlc esh x lo hi mx = some v) : StSlc esh (x.av ρ) (lo.map (XV.av ρ)) (hi.map (XV.av ρ)) (mx.map (XV.av ρ)) (v.av ρ) := by
  unfold xSlc at h
  split at h
  · split at h
    · split at h
      · rename_i l h' e1 e2
        replace h := bif_some h
        obtain ⟨h1, h⟩ := h
        simp only [Bool.and_eq_true] at h1
        cases h
        exact ⟨l, h', loX_ok e1, hiX_ok e2, Nat.le_of_ble_eq_true h1.1, Nat.le_of_ble_eq_true h1.2, rfl⟩
      · cases h
    · rename_i ex sz xs
      split at h
      · rename_i l h' e1 e2
        replace h := bif_some h
        obtain ⟨h1, h⟩ := h
        simp only [Bool.and_eq_true] at h1
        split at h
        · rename_i ys hys
          cases h
          obtain ⟨a, rfl⟩ := takeX_some hys
          have q := Nat.eq_of_beq_eq_true h1.1
          have e3 := hiX_ok (ρ := ρ) e2
          rw [lenX_eq] at e3
          simp only [XV.av, avs_eq]
          refine ⟨by rw [q, szX_eq], l, h', loX_ok e1, by simpa using e3, Nat.le_of_ble_eq_true h1.2.1, by simpa using a, ?_⟩
          simp [dropX_eq, List.map_drop, List.map_take]
        · cases h
      · cases h
    · rename_i ex sz xs
      split at h
      · rename_i l k h' e1
        replace h := bif_some h
        obtain ⟨h1, h⟩ := h
        simp only [Bool.and_eq_true] at h1
        split at h
        · rename_i ys hys
          cases h
          obtain ⟨a, rfl⟩ := takeX_some hys
          have q := Nat.eq_of_beq_eq_true h1.1
          simp only [XV.av, avs_eq]
          refine ⟨by rw [q, szX_eq], l, h', loX_ok e1, by simp [XV.av, hiN], Nat.le_of_ble_eq_true h1.2, by simp; omega, ?_⟩
          rw [List.take_append_of_le_length (by simpa using a)]
          simp [dropX_eq, List.map_drop, List.map_take]
        · cases h
      · cases h
    · rename_i o ver off n e
      split at h
      · rename_i l h' e1 e2
        replace h := bif_some h
        obtain ⟨h1, h⟩ := h
        simp only [Bool.and_eq_true] at h1
        have q1 := Nat.le_of_ble_eq_true h1.2.1
        refine ⟨oeq_eq h1.1, l, h', loX_ok e1, hiX_ok e2, q1, Nat.le_of_ble_eq_true h1.2.2, ?_⟩
        cases h
        rcases Nat.lt_or_ge l h' with c1 | c1
        · exact .inl ⟨.inr c1, by simp [XV.av, szX_eq]⟩
        · have e : l = h' := by omega
          exact .inr (.inr ⟨e, by simp [XV.av, szX_eq, e]⟩)
      · cases h
    · cases h
  · rename_i k m
    split at h
    · rename_i k' h'
      replace h := bif_some h
      obtain ⟨h1, h⟩ := h
      simp only [Bool.and_eq_true] at h1
      have q1 := Nat.eq_of_beq_eq_true h1.1
      have q2 := Nat.eq_of_beq_eq_true h1.2
      subst q1; subst q2
      split at h
      · rename_i e1
        refine ⟨rfl, loX_ok e1, ⟨k', rfl⟩, ?_⟩
        split at h
        · cases h; simp [XV.av]
        · cases h; simp [XV.av, XV.avs, szX_eq]
        · cases h; simp [XV.av, XV.avs, szX_eq]
        · cases h
      · cases h
    · cases h
  · cases h
theorem strB_extract (s : List Nat) (l h : Nat) : strB ((s.take h).drop l) = (strB s).extract l h := by
  apply ByteArray.ext
  apply Array.toList_inj.1
  simp [strB, List.map_drop, List.map_take, List.extract_eq_take_drop]
  rw [List.drop_take]
theorem xSls_ok {x v : XV} {lo hi : Option XV} (h : xSls lo hi x = some v) : StSls (lo.map (XV.av ρ)) (hi.map (XV.av ρ)) (x.av ρ) (v.av ρ) := by
  unfold xSls at h
  split at h
  · split at h
    · rename_i l h' e1 e2
      replace h := bif_some h
      obtain ⟨h1, h⟩ := h
      split at h
      · rename_i t ht
        cases h
        obtain ⟨a, rfl⟩ := takeN_some ht
        have e3 := hiX_ok (ρ := ρ) e2
        rw [nlen_eq] at e3
        simp only [XV.av, StSls]
        refine ⟨l, h', loX_ok e1, by rw [strB_size]; exact e3, Nat.le_of_ble_eq_true h1, by rw [strB_size]; exact a, ?_⟩
        rw [dropN_eq, strB_extract]
      · cases h
    · cases h
  · cases h
theorem strB_get (s : List Nat) (n : Nat) (h : n < s.length) : ((strB s)[n]?.getD 0).toNat = s[n] % 256 := by
  have hs : n < (strB s).size := by rw [strB_size]; exact h
  rw [getElem?_pos (strB s) n hs]
  simp only [Option.getD_some]
  have : (strB s)[n] = UInt8.ofNat s[n] := by
    show (strB s).data[n] = _
    simp [strB]
  rw [this, UInt8.toNat_ofNat']
theorem xIdxS_ok {x i v : XV} (h : xIdxS x i = some v) : StIdxS (x.av ρ) (i.av ρ) (v.av ρ) := by
  unfold xIdxS at h
  split at h
  · rename_i s k n
    split at h
    · rename_i b hb
      cases h
      rw [nthN_eq] at hb
      obtain ⟨hl, hv⟩ := List.getElem?_eq_some_iff.1 hb
      simp only [XV.av, StIdxS]
      refine ⟨Int.natCast_nonneg _, by rw [strB_size]; exact Int.ofNat_lt.2 hl, ?_⟩
      have := strB_get s n hl
      simp only [Int.ofNat_eq_natCast, Int.toNat_natCast, this, hv]
    · cases h
  · cases h
theorem xIdxA_ok {len sh} {x i v : XV} (h : xIdxA len sh x i = some v) : StIdxA len sh (x.av ρ) (i.av ρ) (v.av ρ) := by
  unfold xIdxA at h
  split at h
  · replace h := bif_some h
    obtain ⟨h1, h⟩ := h
    simp only [Nat.blt_eq] at h1
    simp only [XV.av, StIdxA, avs_eq]
    refine ⟨Int.natCast_nonneg _, Int.ofNat_lt.2 h1, ?_⟩
    have := xPart_ok (ρ := ρ) h
    simpa [szX_eq] using this
  · cases h
theorem xExt_ok {i} {x v : XV} (h : xExt i x = some v) : StExt i (x.av ρ) (v.av ρ) := by
  unfold xExt at h
  split at h
  · rw [nthX_eq] at h
    obtain ⟨hl, hv⟩ := List.getElem?_eq_some_iff.1 h
    simp only [XV.av, StExt, avs_eq]
    exact ⟨by simpa using hl, by simp [List.getD_eq_getElem?_getD, h]⟩
  · cases h
theorem xFld_ok {off sh} {x v : XV} (h : xFld off sh x = some v) : StFld off sh (x.av ρ) (v.av ρ) := by
  unfold xFld at h
  split at h
  · simp only [XV.av, StFld, avs_eq]; exact xPart_ok h
  · cases h
theorem xLen_ok {c} {x v : XV} (h : xLen c x = some v) : StLen c (x.av ρ) (v.av ρ) := by
  unfold xLen at h
  split at h <;> cases h <;> simp [XV.av, StLen, nlen_eq, lenX_eq, strB_size, avs_eq]
theorem xMin_ok {mx} {x y v : XV} (h : xMin mx x y = some v) : StMin mx (x.av ρ) (y.av ρ) (v.av ρ) := by
  unfold xMin at h
  split at h
  · rename_i k a k' b
    cases h
    simp only [XV.av, StMin, ilt_eq, gt_iff_lt]
    cases mx
    · simp only [cond_false, Bool.false_eq_true, if_false]
      by_cases hc : b < a <;> simp [hc]
    · simp only [cond_true, if_true]
      by_cases hc : a < b <;> simp [hc]
  · rename_i n k m
    cases mx
    · simp only [cond_false] at h
      replace h := bif_some h
      obtain ⟨h1, h⟩ := h
      have h1 := Nat.le_of_ble_eq_true h1
      cases h
      simp only [XV.av, StMin, Bool.false_eq_true, if_false]
      by_cases hc : (m : Int) < ((n + ρ.t.length : Nat) : Int)
      · simp only [Int.ofNat_eq_natCast]; rw [if_pos hc]
      · have : m = n + ρ.t.length := by omega
        simp [this]
    · cases h
  · cases h
theorem xTas_ok {t} {x v : XV} (h : xTas t x = some v) : StTas t (x.av ρ) (v.av ρ) := by
  unfold xTas at h
  split at h
  · replace h := bif_some h
    obtain ⟨h1, h⟩ := h
    cases h
    simp only [XV.av, StTas]
    exact ⟨Nat.eq_of_beq_eq_true h1, trivial⟩
  · cases h
theorem xSlp_ok {n esh x v rd wr} {lo hi : Option XV} {H H' : XH} (hk : H.ok ρ) (h : xSlp n esh x lo hi H = some (v, H', rd, wr)) : Okx ρ (fun v rd δ => StSlp n esh (x.av ρ) (lo.map (XV.av ρ)) (hi.map (XV.av ρ)) (hpx ρ H) v rd ∧ δ = none) H v H' rd wr := by
  unfold xSlp at h
  split at h
  · split at h
    · cases h
    · rename_i o ver off x ob ho
      obtain ⟨e1, e2, e3⟩ := obj_eq (ρ := ρ) ho
      split at h
      · rename_i l h' e4 e5
        replace h := bif_some h
        obtain ⟨h1, h⟩ := h
        simp only [Bool.and_eq_true, Bool.or_eq_true, Nat.blt_eq] at h1
        simp only [Option.some.injEq, Prod.mk.injEq] at h
        obtain ⟨rfl, rfl, rfl, rfl⟩ := h
        refine .read hk ⟨⟨rfl, ob.cells ρ, l, h', e3, loX_ok e4, hiX_ok e5, Nat.le_of_ble_eq_true h1.1, Nat.le_of_ble_eq_true h1.2.1, h1.2.2.1.elim (fun c => .inl (Nat.eq_of_beq_eq_true c)) .inr, ?_, ?_⟩, rfl⟩
        · have := Nat.le_of_ble_eq_true h1.2.2.2
          rw [XO.len_cells, ← szX_eq]; exact this
        · simp [XV.av, szX_eq]
      · cases h
  · cases h
theorem xClr_ok {esh} {z : List XV} {x v rd wr} {H H' : XH} (hk : H.ok ρ) (h : xClr esh z x H = some (v, H', rd, wr)) : Okx ρ (StClr esh (z.map (XV.av ρ)) (x.av ρ) (hpx ρ H)) H v H' rd wr := by
  unfold xClr at h
  split at h
  · simp only [Option.some.injEq, Prod.mk.injEq] at h
    obtain ⟨rfl, rfl, rfl, rfl⟩ := h
    exact .read hk ⟨rfl, by simp [XV.av, XV.avs], by simp [XV.av]⟩
  · replace h := bif_some h
    obtain ⟨h1, h⟩ := h
    simp only [Bool.and_eq_true] at h1
    split at h
    · cases h
    · rename_i o ver off n e x ob ho
      obtain ⟨e1, e2, e3⟩ := obj_eq (ρ := ρ) ho
      replace h := bif_some h
      obtain ⟨h2, h⟩ := h
      simp only [Tr.look_eq, Option.some.injEq, Prod.mk.injEq] at h
      obtain ⟨rfl, rfl, rfl, rfl⟩ := h
      have hle := Nat.le_of_ble_eq_true h2
      rw [lenX_eq] at hle
      refine put_okx hk e1 _ ⟨rfl, by simp [XV.av, XV.avs], ?_⟩
      simp only [XV.av]
      refine ⟨oeq_eq h1.1, allOne_av h1.2, ob.cells ρ, e3, ?_⟩
      rw [cells_setL _ _ _ _ _ hle, replX_eq]; rfl
  · cases h
theorem mfX_ok {k : IntKind} {n : Int} : ∀ {es : XM} {r : Option XV}, mfX k n es = some r → mFind k n (mAv ρ es) = some (r.map (XV.av ρ))
  | [], r, h => by simp only [mfX, Option.some.injEq] at h; subst h; rfl
  | e :: es, r, h => by
    simp only [mfX] at h
    obtain ⟨h1, h⟩ := bif_some h
    have h1 := keq_eq h1
    show (if e.1.1 = k then (if n = e.1.2 then some (some (e.2.av ρ)) else mFind k n (mAv ρ es)) else none) = _
    rw [if_pos h1]
    rw [ieq_eq] at h
    by_cases hn : n = e.1.2
    · rw [if_pos hn]
      have : (n == e.1.2) = true := by simpa using hn
      rw [this, cond_true] at h
      cases h; rfl
    · rw [if_neg hn]
      have : (n == e.1.2) = false := by simpa using hn
      rw [this, cond_false] at h
      exact mfX_ok h
theorem mpX_ok {k : IntKind} {n : Int} {v : XV} : ∀ {es es' : XM}, mpX k n v es = some es' → mPut k n (v.av ρ) (mAv ρ es) = some (mAv ρ es')
  | [], es', h => by simp only [mpX, Option.some.injEq] at h; subst h; rfl
  | e :: es, es', h => by
    simp only [mpX] at h
    obtain ⟨h1, h⟩ := bif_some h
    have h1 := keq_eq h1
    show (if e.1.1 = k then (if n = e.1.2 then some (((k, n), v.av ρ) :: mAv ρ es) else (mPut k n (v.av ρ) (mAv ρ es)).map ((e.1, e.2.av ρ) :: ·)) else none) = _
    rw [if_pos h1]
    rw [ieq_eq] at h
    by_cases hn : n = e.1.2
    · rw [if_pos hn]
      have : (n == e.1.2) = true := by simpa using hn
      rw [this, cond_true] at h
      cases h; rfl
    · rw [if_neg hn]
      have : (n == e.1.2) = false := by simpa using hn
      rw [this, cond_false] at h
      split at h
      · rename_i es1 he
        cases h
        rw [mpX_ok he]; rfl
      · cases h
theorem hpx_m {H : XH} (hk : H.ok ρ) {o : Nat} {es : XM × Option (List Nat)} (e : H.fs.m.get o = some es) : hpx ρ H o = .mpo (mAv ρ es.1) es.2 := by
  simp [hpx, (hk.2.2 o es e).1, e]
theorem xMkm_ok {H H' : XH} {v rd wr} (hk : H.ok ρ) (h : xMkm H = some (v, H', rd, wr)) : Okx ρ (StMkm (hpx ρ H)) H v H' rd wr := by
  unfold xMkm at h
  obtain ⟨hnb0, h⟩ := bif_some h
  simp only [Bool.and_eq_true] at hnb0
  obtain ⟨hnb, hng⟩ := hnb0
  have hng := Nat.not_lt.2 (Nat.le_of_ble_eq_true hng)
  have hfr : hp ρ.φ H.nx = .virgin := ρ.hφ _ (Nat.lt_of_lt_of_le (Nat.le_of_ble_eq_true hnb) hk.2.1.2)
  simp only [Tr.look_eq, Option.some.injEq, Prod.mk.injEq] at h
  obtain ⟨rfl, rfl, rfl, rfl⟩ := h
  have hv : H.fs.m.get H.nx = none := by
    cases e : H.fs.m.get H.nx with
    | none => rfl
    | some es => exact absurd (hk.2.2 _ es e).2 (Nat.lt_irrefl _)
  have hv2 : H.t.get H.nx = none := hk.1 _ (Nat.le_refl _)
  refine ⟨⟨fun o ho => hk.1 o (by simp only at ho; omega), hk.2.1, fun o es e => ?_⟩, some (H.nx, .mpo [] none), ⟨rfl, H.nx, by simp [hpx, hv, hv2, hfr, hng], rfl, rfl⟩, ?_, rfl⟩
  · simp only [Tr.get_set] at e
    split at e
    · rename_i e1; subst e1; exact ⟨hv2, Nat.lt_succ_self _⟩
    · obtain ⟨a, b⟩ := hk.2.2 o es e; exact ⟨a, by simp only; omega⟩
  · funext o
    simp only [hpx, ap, upd, Tr.get_set]
    by_cases e : o = H.nx
    · subst e; simp [hv2, mAv]
    · rw [if_neg e, if_neg e]
theorem xLkp_ok {k : IntKind} {z : XV} {ok : Bool} {x i : XV} {H H' : XH} {v rd wr} (hk : H.ok ρ) (h : xLkp k z ok x i H = some (v, H', rd, wr)) : Okx ρ (fun v rd δ => StLkp k (z.av ρ) ok (x.av ρ) (i.av ρ) (hpx ρ H) v rd ∧ δ = none) H v H' rd wr := by
  unfold xLkp at h
  split at h
  · rename_i o k' n
    obtain ⟨h1, h⟩ := bif_some h
    have h1 := keq_eq h1
    split at h
    · cases h
    · rename_i es it e1
      have hm := hpx_m hk e1
      split at h
      · cases h
      · rename_i e2
        simp only [Option.some.injEq, Prod.mk.injEq] at h
        obtain ⟨rfl, rfl, rfl, rfl⟩ := h
        refine .read hk ⟨⟨h1, rfl, _, _, _, hm, mfX_ok e2, ?_⟩, rfl⟩
        cases ok <;> rfl
      · rename_i y e2
        simp only [Option.some.injEq, Prod.mk.injEq] at h
        obtain ⟨rfl, rfl, rfl, rfl⟩ := h
        refine .read hk ⟨⟨h1, rfl, _, _, _, hm, mfX_ok e2, ?_⟩, rfl⟩
        cases ok <;> rfl
  · cases h
theorem xMpu_ok {k : IntKind} {x i y : XV} {H H' : XH} {v rd wr} (hk : H.ok ρ) (h : xMpu k x i y H = some (v, H', rd, wr)) : Okx ρ (StMpu k (x.av ρ) (i.av ρ) (y.av ρ) (hpx ρ H)) H v H' rd wr := by
  unfold xMpu at h
  split at h
  · rename_i o k' n ky m
    obtain ⟨h1, h⟩ := bif_some h
    have h1 := keq_eq h1
    split at h
    · cases h
    · cases h
    · rename_i es e1
      have hm := hpx_m hk e1
      split at h
      · cases h
      · rename_i es' e2
        simp only [Tr.look_eq, Option.some.injEq, Prod.mk.injEq] at h
        obtain ⟨rfl, rfl, rfl, rfl⟩ := h
        have ht := (hk.2.2 o _ e1).1
        refine ⟨⟨hk.1, hk.2.1, fun o' es2 e => ?_⟩, some (o, .mpo (mAv ρ es') none), ⟨h1, rfl, rfl, _, _, hm, mpX_ok e2, rfl⟩, ?_, rfl⟩
        · simp only [Tr.get_set] at e
          split at e
          · rename_i e3; subst e3; exact hk.2.2 _ _ e1
          · exact hk.2.2 o' es2 e
        · funext o'
          simp only [hpx, ap, upd, Tr.get_set]
          by_cases e : o' = o
          · subst e; simp [ht]
          · rw [if_neg e, if_neg e]
  · cases h
theorem xRgm_ok {x : XV} {H H' : XH} {v rd wr} (hk : H.ok ρ) (h : xRgm x H = some (v, H', rd, wr)) : Okx ρ (StRgm (x.av ρ) (hpx ρ H)) H v H' rd wr := by
  unfold xRgm at h
  split at h
  · rename_i o
    split at h
    · rename_i es e1
      have hm := hpx_m hk e1
      simp only [Tr.look_eq, Option.some.injEq, Prod.mk.injEq] at h
      obtain ⟨rfl, rfl, rfl, rfl⟩ := h
      have ht := (hk.2.2 o _ e1).1
      refine ⟨⟨hk.1, hk.2.1, fun o' es2 e => ?_⟩, some (o, .mpo (mAv ρ es) (some [])), ⟨rfl, _, hm, rfl, rfl⟩, ?_, rfl⟩
      · simp only [Tr.get_set] at e
        split at e
        · rename_i e3; subst e3; exact hk.2.2 _ _ e1
        · exact hk.2.2 o' es2 e
      · funext o'
        simp only [hpx, ap, upd, Tr.get_set]
        by_cases e : o' = o
        · subst e; simp [ht]
        · rw [if_neg e, if_neg e]
    · cases h
  · cases h
theorem opX_ok {r : ROp} {F : XF} {H H' : XH} {v rd wr} (hk : H.ok ρ) (h : opX r F H = some (v, H', rd, wr)) : Okx ρ (St r (fm ρ F) (hpx ρ H)) H v H' rd wr := by
  cases r <;> simp only [opX] at h
  case mv x =>
    simp only [Option.some.injEq, Prod.mk.injEq] at h; obtain ⟨rfl, rfl, rfl, rfl⟩ := h
    exact .pure hk ⟨evx_ev F x, rfl, rfl⟩
  case pick c a b =>
    refine pvx_ok hk h (fun e => ⟨?_, rfl, rfl⟩)
    rw [← evx_ev, ← evx_ev, ← evx_ev]
    revert e
    generalize evx F c = q
    intro e
    cases q <;> simp [xPick] at e
    rename_i t
    subst e
    cases t <;> simp [XV.av, StPick]
  case new cs =>
    have := xNew_ok (ρ := ρ) hk h
    rw [ofAVs_map] at this
    exact this
  case box x =>
    replace h := bif_some h
    obtain ⟨h1, h⟩ := h
    obtain ⟨a, δ, c, d, e⟩ := xNew_ok (ρ := ρ) hk h
    refine ⟨a, δ, ?_, d, e⟩
    show StBox (ev (fm ρ F) x) (hpx ρ H) (v.av ρ) rd δ
    rw [← evx_ev]
    exact ⟨nj_av h1, by rw [cells_av]; exact c⟩
  case build z ps =>
    refine pvx_ok hk h (fun e => ⟨?_, rfl, rfl⟩)
    unfold xFill at e
    split at e
    · rename_i l hl
      cases e
      have := fillX_ok (ρ := ρ) _ _ _ hl
      rw [ofAVs_map, evxP_ev] at this
      exact ⟨_, this, by simp [XV.av, avs_eq]⟩
    · cases e
  case bsl esh z len ps =>
    split at h
    · rename_i cs hcs
      obtain ⟨rfl, a, δ, c, d, e⟩ := xNewSl_ok (ρ := ρ) (ex := true) hk h
      have := fillX_ok (ρ := ρ) _ _ _ hcs
      rw [replX_eq, ofAVs_map, evxP_ev] at this
      exact ⟨a, δ, ⟨_, this, c⟩, d, e⟩
    · cases h
  case load sh a =>
    have := xLoad_ok (ρ := ρ) hk h
    rw [evx_ev] at this
    exact this
  case store n a x =>
    have := xStore_ok (ρ := ρ) hk h
    rw [evx_ev, evx_ev] at this
    exact this
  case nchk x => exact pvx_ok hk h (fun e => ⟨by rw [← evx_ev]; exact xNchk_ok e, rfl, rfl⟩)
  case bin c op x y => exact pvx_ok hk h (fun e => ⟨by rw [← evx_ev, ← evx_ev]; exact xBin_ok hk.2.1.1 e, rfl, rfl⟩)
  case eqs ks op x y => exact pvx_ok hk h (fun e => ⟨by rw [← evx_ev, ← evx_ev]; exact xEqs_ok e, rfl, rfl⟩)
  case un op x => exact pvx_ok hk h (fun e => ⟨by rw [← evx_ev]; exact xUn_ok e, rfl, rfl⟩)
  case cint k x => exact pvx_ok hk h (fun e => ⟨by rw [← evx_ev]; exact xCint_ok hk.2.1.1 e, rfl, rfl⟩)
  case cstr x =>
    split at h
    · rename_i s q
      simp only [Option.some.injEq, Prod.mk.injEq] at h; obtain ⟨rfl, rfl, rfl, rfl⟩ := h
      refine .pure hk ⟨?_, rfl, rfl⟩
      rw [← evx_ev, q]; simp [XV.av, StCstr]
    · cases h
  case b2s x =>
    have := xB2s_ok (ρ := ρ) hk h
    rw [evx_ev] at this
    exact this
  case s2b x =>
    split at h
    · rename_i s q
      simp only [Option.some.injEq, Prod.mk.injEq] at h; obtain ⟨rfl, rfl, rfl, rfl⟩ := h
      refine .pure hk ⟨?_, rfl, rfl⟩
      rw [← evx_ev, q]; simp [XV.av, StS2b, avs_eq, strXs_eq]
    · cases h
  case mki t x =>
    simp only [Option.some.injEq, Prod.mk.injEq] at h; obtain ⟨rfl, rfl, rfl, rfl⟩ := h
    exact .pure hk ⟨by simp [XV.av, evx_ev], rfl, rfl⟩
  case mkf f a b =>
    simp only [Option.some.injEq, Prod.mk.injEq] at h; obtain ⟨rfl, rfl, rfl, rfl⟩ := h
    exact .pure hk ⟨by simp [XV.av, avs_eq, evxL_ev], rfl, rfl⟩
  case mksl esh bytes z l c =>
    have := xMksl_ok (ρ := ρ) hk h
    rw [evx_ev, evx_ev, ofAVs_map] at this
    exact this
  case slc esh x lo hi mx => exact pvx_ok hk h (fun e => ⟨by rw [← evx_ev, ← evxO_ev, ← evxO_ev, ← evxO_ev]; exact xSlc_ok e, rfl, rfl⟩)
  case sls x lo hi => exact pvx_ok hk h (fun e => ⟨by rw [← evx_ev, ← evxO_ev, ← evxO_ev]; exact xSls_ok e, rfl, rfl⟩)
  case fad off x => exact pvx_ok hk h (fun e => ⟨by rw [← evx_ev]; exact xFad_ok e, rfl, rfl⟩)
  case iad arr esh x i => exact pvx_ok hk h (fun e => ⟨by rw [← evx_ev, ← evx_ev]; exact xIad_ok e, rfl, rfl⟩)
  case idxs x i => exact pvx_ok hk h (fun e => ⟨by rw [← evx_ev, ← evx_ev]; exact xIdxS_ok e, rfl, rfl⟩)
  case idxa len sh x i => exact pvx_ok hk h (fun e => ⟨by rw [← evx_ev, ← evx_ev]; exact xIdxA_ok e, rfl, rfl⟩)
  case ext i x => exact pvx_ok hk h (fun e => ⟨by rw [← evx_ev]; exact xExt_ok e, rfl, rfl⟩)
  case fld off sh x => exact pvx_ok hk h (fun e => ⟨by rw [← evx_ev]; exact xFld_ok e, rfl, rfl⟩)
  case len c x => exact pvx_ok hk h (fun e => ⟨by rw [← evx_ev]; exact xLen_ok e, rfl, rfl⟩)
  case app esh bytes s x =>
    have := xApp_ok (ρ := ρ) hk h
    rw [evx_ev, evx_ev] at this
    exact this
  case cpy esh s x =>
    have := xCpy_ok (ρ := ρ) hk h
    rw [evx_ev, evx_ev] at this
    exact this
  case mn mx x y => exact pvx_ok hk h (fun e => ⟨by rw [← evx_ev, ← evx_ev]; exact xMin_ok e, rfl, rfl⟩)
  case tas t x => exact pvx_ok hk h (fun e => ⟨by rw [← evx_ev]; exact xTas_ok e, rfl, rfl⟩)
  case slp n esh x lo hi =>
    have := xSlp_ok (ρ := ρ) hk h
    rw [evx_ev, evxO_ev, evxO_ev] at this
    exact this
  case mkm => exact xMkm_ok hk h
  case lkp k z ok x i =>
    have := xLkp_ok (ρ := ρ) hk h
    rw [evx_ev, evx_ev, ofAV_av] at this
    exact this
  case mpu k x i y =>
    have := xMpu_ok (ρ := ρ) hk h
    rw [evx_ev, evx_ev, evx_ev] at this
    exact this
  case rgm x =>
    have := xRgm_ok (ρ := ρ) hk h
    rw [evx_ev] at this
    exact this
  case ent x => cases h
  case clr esh z x =>
    have := xClr_ok (ρ := ρ) hk h
    rw [evx_ev, ofAVs_map] at this
    exact this
end
end Go.Ab
/- The evaluator is sound: what it comes to, the program's code does. -/
namespace Go.Ab
set_option linter.constructorNameAsVariable false
set_option linter.unusedSimpArgs false
set_option linter.unusedVariables false
open Go.RowKit
set_option linter.unusedVariables false
set_option linter.unusedSimpArgs false

/-! ### results -/
def oneR (σ : Hp) (F : Fm) : RS → AV → Prop
  | (t, none), v => v = F t
  | (t, some sh), v => ∃ rd, StLoad sh (F t) σ v rd
def manyR (σ : Hp) (F : Fm) : List RS → List AV → Prop
  | [], vs => vs = []
  | t :: r, vs => ∃ v vs', oneR σ F t v ∧ manyR σ F r vs' ∧ vs = v :: vs'
def retR (σ : Hp) (F : Fm) (ts : List RS) (v : AV) : Prop :=
  match ts with
  | [t] => oneR σ F t v
  | ts => ∃ vs, manyR σ F ts vs ∧ v = .tup vs

theorem oneR_ok {P : Program} {g : Gh} {σ : Hp} {n : Nat} {F : Fm} {a : Act} {w : World} (hw : WRel g σ w) (hf : FRel g σ n F a) {x : ResultVar} {t : RS}
    (hr : resSlots3 P [x] = some [t]) {v : AV} (hv : oneR σ F t v) {one : ResultVar → Sem Value} (ho : ∀ t, one (.tmp t) = pure (a.tmps.getD t undef)) (hc : ∀ b t, one (.cell b t) = (do loadVar t (← asAddr (a.tmps.getD b undef)))) :
    ∃ u, (one x).run P w = .ok u w ∧ VR g.pm g.L σ v u := by
  cases x with
  | tmp i =>
    simp [resSlots3] at hr; subst hr
    simp only [oneR] at hv; subst hv
    exact ⟨_, by rw [ho]; rfl, hf.get i⟩
  | cell b ty =>
    simp only [resSlots3] at hr
    split at hr
    · rename_i sh q e1 e2
      cases e2
      cases hr
      simp only [oneR] at hv
      obtain ⟨rd, h2⟩ := hv
      obtain ⟨a', r, h3, h4, h5⟩ := load_ok hw e1 (hf.get b) h2
      refine ⟨r, ?_, h5⟩
      rw [hc, h3]
      simp [asAddr, h4]
    · cases hr

theorem manyR_ok {P : Program} {g : Gh} {σ : Hp} {n : Nat} {F : Fm} {a : Act} {w : World} (hw : WRel g σ w) (hf : FRel g σ n F a) {one : ResultVar → Sem Value} (ho : ∀ t, one (.tmp t) = pure (a.tmps.getD t undef)) (hc : ∀ b t, one (.cell b t) = (do loadVar t (← asAddr (a.tmps.getD b undef)))) :
    ∀ (rs : List ResultVar) (ts : List RS) (vs : List AV), resSlots3 P rs = some ts → manyR σ F ts vs →
      ∃ us : List Value, (rs.mapM one).run P w = .ok us w ∧ us.length = vs.length ∧ ∀ j (h : j < vs.length) (h' : j < us.length), VR g.pm g.L σ vs[j] us[j] := by
  intro rs
  induction rs with
  | nil =>
    intro ts vs h1 h2
    simp only [resSlots3, Option.some.injEq] at h1; subst h1
    simp only [manyR] at h2; subst h2
    exact ⟨[], rfl, rfl, fun j h => by simp at h⟩
  | cons r rs ih =>
    intro ts vs h1 h2
    have hsplit : ∃ t ts', ts = t :: ts' ∧ resSlots3 P [r] = some [t] ∧ resSlots3 P rs = some ts' := by
      cases r with
      | tmp i =>
        simp only [resSlots3, Option.map_eq_some_iff] at h1
        obtain ⟨q, e, rfl⟩ := h1
        exact ⟨_, q, rfl, rfl, e⟩
      | cell b ty =>
        simp only [resSlots3] at h1 ⊢
        split at h1
        · rename_i sh q e1 e2
          cases h1
          exact ⟨_, q, rfl, by rw [e1], e2⟩
        · cases h1
    obtain ⟨t, ts', rfl, e1, e2⟩ := hsplit
    simp only [manyR] at h2
    obtain ⟨v, vs', e3, e4, rfl⟩ := h2
    obtain ⟨u, k1, k2⟩ := oneR_ok hw hf e1 e3 ho hc
    obtain ⟨us, k3, k4, k5⟩ := ih ts' vs' e2 e4
    refine ⟨u :: us, by simp [k1, k3], by simp [k4], fun j h h' => ?_⟩
    cases j with
    | zero => exact k2
    | succ j => simpa using k5 j (by simpa using h) (by simpa using h')

theorem resultsX_ok {P : Program} {fn : Func} {g : Gh} {σ : Hp} {n : Nat} {F : Fm} {a : Act} {w : World} (hw : WRel g σ w) (hf : FRel g σ n F a) {ts : List RS} (hr : resSlots3 P fn.results.toList = some ts) {v : AV} (hv : retR σ F ts v) :
    ∃ u, (results fn a.tmps).run P w = .ok u w ∧ VR g.pm g.L σ v u := by
  unfold results
  generalize fn.results = R at hr
  rcases R with ⟨rs⟩
  simp only [List.mapM_toArray]
  simp only at hr
  have hlen : ∀ (rs : List ResultVar) (ts : List RS), resSlots3 P rs = some ts → rs.length = ts.length := by
    intro rs
    induction rs with
    | nil => intro ts h; simp only [resSlots3, Option.some.injEq] at h; subst h; rfl
    | cons r rs ih =>
      intro ts h
      cases r with
      | tmp i => simp only [resSlots3, Option.map_eq_some_iff] at h; obtain ⟨q, e, rfl⟩ := h; simp [ih q e]
      | cell b ty =>
        simp only [resSlots3] at h
        split at h
        · rename_i sh q e1 e2; cases h; simp [ih q e2]
        · cases h
  rw [Sem.run_bind, Sem.run_map]
  revert hv
  match ts, hr with
  | [t], hr =>
    intro hv
    have hl := hlen _ _ hr
    obtain ⟨us, k1, k2, k3⟩ := manyR_ok (one := fun | .tmp t => pure (a.tmps.getD t undef) | .cell b t => do loadVar t (← asAddr (a.tmps.getD b undef))) hw hf (fun _ => rfl) (fun _ _ => rfl) rs [t] [v] hr ⟨v, [], hv, rfl, rfl⟩
    refine ⟨us.headD undef, ?_, ?_⟩
    · erw [k1]
      simp only [List.length_singleton] at k2
      match us, k2 with
      | [u], _ => rfl
    · match us, k2 with
      | [u], _ => exact k3 0 (by simp) (by simp)
  | [], hr =>
    intro hv
    obtain ⟨vs, hm, rfl⟩ := hv
    simp only [manyR] at hm
    subst hm
    obtain ⟨us, k1, k2, k3⟩ := manyR_ok (one := fun | .tmp t => pure (a.tmps.getD t undef) | .cell b t => do loadVar t (← asAddr (a.tmps.getD b undef))) hw hf (fun _ => rfl) (fun _ _ => rfl) rs [] [] hr rfl
    refine ⟨.tuple us.toArray, ?_, .tup (by simpa using k2) (fun j h => by simp at h)⟩
    erw [k1]
    simp only [List.length_nil] at k2
    match us, k2 with
    | [], _ => rfl
  | t :: t2 :: ts, hr =>
    intro hv
    obtain ⟨vs, hv2, rfl⟩ := hv
    obtain ⟨us, k1, k2, k3⟩ := manyR_ok (one := fun | .tmp t => pure (a.tmps.getD t undef) | .cell b t => do loadVar t (← asAddr (a.tmps.getD b undef))) hw hf (fun _ => rfl) (fun _ _ => rfl) rs _ vs hr hv2
    have hl2 : 2 ≤ vs.length := by
      obtain ⟨v, vs', _, ⟨v2, vs2, _, _, rfl⟩, rfl⟩ := hv2
      simp
    refine ⟨.tuple us.toArray, ?_, .tup (by simpa using k2) (fun j h h' => by simpa using k3 j h (by simpa using h'))⟩
    erw [k1]
    simp only [Result.andThen_ok]
    rw [dif_neg (by simp; omega)]
    rfl

structure Fn3 (P : Program) (f : FuncId) (n : Nat) (ts : List RS) (fc : FC) : Prop where
  ex : ∃ fn c, P.funcs[f]? = some fn ∧ fn.body = some c ∧ fn.ntmps = n ∧ resSlots3 P fn.results.toList = some ts ∧ resCode P n c = some fc
def isRet : Exit → Prop
  | .normal | .ret => True
  | _ => False

theorem At_init {g : Gh} {σ : Hp} {n : Nat} {args : List AV} {vals : Array Value} {w : World} (hw : WRel g σ w) (hv : VRs g σ args vals) (hn : args.length ≤ n) :
    At g σ n (Fr.get (initFr 0 args)) σ { tmps := vals ++ Array.replicate (n - vals.size) undef, defers := [] } w := by
  have hvs := hv.1
  refine ⟨rfl, g, Gh.le.refl _ _, hw, ⟨by simp; omega, fun t => ?_⟩⟩
  rw [initFr_get]
  simp only [Nat.zero_le, if_true, Nat.sub_zero]
  by_cases ht : t < args.length
  · have := hv.2 t ht (by omega)
    rw [List.getD_eq_getElem?_getD, List.getElem?_eq_getElem ht]
    rw [Array.getD_eq_getD_getElem?, Array.getElem?_append_left (by omega), Array.getElem?_eq_getElem (by omega)]
    exact this
  · rw [List.getD_eq_getElem?_getD, List.getElem?_eq_none (by omega)]
    exact .junk

theorem EvX_end {P : Program} {f n : Nat} {ts : List RS} {fc : FC} (hm : P.follows .mixedOrders = true) (hfn : Fn3 P f n ts fc) {args : List AV} (hn : args.length ≤ n) {S : List Ob} {σ' : Hp} {r : AV}
    (h : VC P S fc (initFr 0 args) S (fun e fr1 S1 => isRet e ∧ hp S1 = σ' ∧ retR σ' (Fr.get fr1) ts r)) : Ev P f args (hp S) r σ' := by
  obtain ⟨fn, c, hf, hb, hnt, hrs, hrc⟩ := hfn.ex
  intro g w vals hw hv
  subst hnt
  refine calls_of_wp hf hb ?_
  refine wp_mono (VC_wp hm c fc hrc _ _ _ h _ _ (At_init hw hv hn)) (fun e a' w' hq => ?_)
  obtain ⟨fr1, S1, ⟨hd, g', hle, hw', hf'⟩, he, hs, hret⟩ := hq
  rw [hs] at hle hw' hf'
  obtain ⟨u, hu, hvu⟩ := resultsX_ok hw' hf' hrs hret
  have hfin : a'.defers = [] ∧ ∃ v, (results fn a'.tmps).run P w' = .ok v w' ∧ ∃ u g', Ending.returned v = .returned u ∧ g.le (hp S) g' σ' ∧ WRel g' σ' w' ∧ VR g'.pm g'.L σ' r u :=
    ⟨hd, u, hu, u, g', rfl, hle, hw', hvu⟩
  cases e with
  | normal => exact hfin
  | ret => exact hfin
  | _ => exact he.elim

/-! ### calls that only read -/
section
variable {ρ : Env}
theorem fm_put (F : XF) (d : Option Nat) (v : XV) : fm ρ (putXF F d v) = putM (fm ρ F) d (v.av ρ) := by
  cases d with
  | none => rfl
  | some d =>
    funext t
    simp only [fm, putXF, XF.at_set, putM, upd]
    by_cases e : t = d <;> simp [e]
theorem fm_args (args : List XV) : fm ρ (XF.ofL args .nil 0) = Fr.get (initFr 0 (args.map (XV.av ρ))) := by
  funext t
  rw [initFr_get]
  simp only [fm, XF.at_ofL, XF.at_nil, Nat.zero_le, true_and, if_true, Nat.sub_zero, Nat.zero_add]
  by_cases h : t < args.length
  · rw [if_pos h]; simp [List.getD_eq_getElem?_getD, h]
  · rw [if_neg h]; simp [List.getD_eq_getElem?_getD, h, XV.av]

theorem rdOps_sub : ∀ (rs : List ROper) (F F' : XF) (H : XH) (M M' : List Nat), rdOps rs F H M = some (F', M') → ∀ o ∈ M, o ∈ M'
  | [], F, F', H, M, M', h, o, ho => by simp [rdOps] at h; obtain ⟨rfl, rfl⟩ := h; exact ho
  | r :: rs, F, F', H, M, M', h, o, ho => by
    simp only [rdOps] at h
    split at h
    · cases h
    · split at h
      · split at h
        · exact rdOps_sub rs _ _ _ _ _ h o (by simp [ho])
        · cases h
      · cases h
theorem rdOps_wp {P : Program} {n : Nat} {ops : Array Oper} {g0 σ0} {Q : Exit → Act → World → Prop} {H : XH} (hk : H.ok ρ) {τ : Hp} : ∀ (l : List Oper) (rs : List ROper) (i : Nat) (F F' : XF) (M M' : List Nat) (a : Act) (w : World),
    (∀ j (o : Oper), l[j]? = some o → ops[i + j]? = some o) → resOpers P n ops l = some rs → rdOps rs F H M = some (F', M') → (∀ o ∈ M', τ o = hpx ρ H o) → At g0 σ0 n (fm ρ F) τ a w →
    (∀ a' w', At g0 σ0 n (fm ρ F') τ a' w' → Q .normal a' w') → wpOps P ops Q (List.range' i l.length) a w
  | [], rs, i, F, F', M, M', a, w, _, hr, h, hτ, hat, hQ => by
    simp [resOpers] at hr; subst hr
    simp [rdOps] at h; obtain ⟨rfl, rfl⟩ := h
    exact hQ _ _ hat
  | o :: l, rs, i, F, F', M, M', a, w, hl, hr, h, hτ, hat, hQ => by
    simp only [resOpers] at hr
    split at hr
    · rename_i ro xs h1 h2
      cases hr
      have hoi : ops[i]? = some o := by have := hl 0 o rfl; simpa using this
      simp only [rdOps] at h
      split at h
      · cases h
      · rename_i hg
        split at h
        · rename_i q hq
          split at h
          · rename_i v H' rd hop
            obtain ⟨hok, δ, hst, hh, hwr⟩ := opX_ok (ρ := ρ) hk hop
            have hδ : δ = none := by cases δ with | none => rfl | some p => simp at hwr
            subst hδ
            have hsub := rdOps_sub _ _ _ _ _ _ h
            have hst' : St q (fm ρ F) τ (v.av ρ) rd none := St_local hst (fun _ _ => rfl) (fun o ho => hτ o (hsub o (by simp [fpOf] at ho; simp [ho])))
            rw [List.length_cons, List.range'_succ]
            simp only [wpOps, hoi]
            obtain ⟨_, gg, hle, hwr', hfr⟩ := id hat
            obtain ⟨w1, _, _⟩ := wanted_of h1 hfr
            rw [if_pos (w1 hg)]
            refine .inl (At.step h1 hat (σ' := τ) (v := v.av ρ) (le := .acc (fpOf rd none) none) ?_ (fun a' w' hat' => ?_))
            · rw [hq]; exact .inl ⟨rd, none, ⟨_, hst', .refl _⟩, rfl, rfl⟩
            · rw [← fm_put] at hat'
              exact rdOps_wp hk l xs (i + 1) _ _ _ _ a' w' (fun j o' hj => by have := hl (j + 1) o' (by simpa using hj); rwa [show i + (j + 1) = i + 1 + j by omega] at this) h2 h hτ hat' hQ
          · cases h
        · cases h
    · cases hr
theorem rdCode_sub {P : Program} {n : Nat} : ∀ (c : Code) (F F' : XF) (H : XH) (M M' : List Nat) (b : Bool), rdCode P n c F H M = some (b, F', M') → ∀ o ∈ M, o ∈ M' := by
  intro c
  induction c with
  | skip => intro F F' H M M' b h; simp [rdCode] at h; obtain ⟨rfl, rfl, rfl⟩ := h; exact fun o h => h
  | ret => intro F F' H M M' b h; simp [rdCode] at h; obtain ⟨rfl, rfl, rfl⟩ := h; exact fun o h => h
  | region id ops d =>
    intro F F' H M M' b h
    cases d with
    | true => simp [rdCode] at h
    | false =>
      simp only [rdCode] at h
      split at h
      · split at h
        · rename_i F1 M1 e
          simp only [Option.some.injEq, Prod.mk.injEq] at h
          obtain ⟨rfl, rfl, rfl⟩ := h
          exact rdOps_sub _ _ _ _ _ _ e
        · cases h
      · cases h
  | seq a b iha ihb =>
    intro F F' H M M' b' h
    simp only [rdCode] at h
    split at h
    · rename_i F1 M1 e
      exact fun o ho => ihb _ _ _ _ _ _ h o (iha _ _ _ _ _ _ e o ho)
    · rename_i hne
      exact iha _ _ _ _ _ _ h
  | _ => intro F F' H M M' b h; simp [rdCode] at h
theorem rdCode_wp {P : Program} {n : Nat} {g0 σ0} {H : XH} (hk : H.ok ρ) {τ : Hp} : ∀ (c : Code) (F F' : XF) (M M' : List Nat) (b : Bool), rdCode P n c F H M = some (b, F', M') → (∀ o ∈ M', τ o = hpx ρ H o) →
    ∀ a w, At g0 σ0 n (fm ρ F) τ a w → c.wp P (fun e a' w' => e = (if b then .ret else .normal) ∧ At g0 σ0 n (fm ρ F') τ a' w') a w := by
  intro c
  induction c with
  | skip => intro F F' M M' b h hτ a w hat; simp [rdCode] at h; obtain ⟨rfl, rfl, rfl⟩ := h; exact wp_skip ⟨rfl, hat⟩
  | ret => intro F F' M M' b h hτ a w hat; simp [rdCode] at h; obtain ⟨rfl, rfl, rfl⟩ := h; exact wp_ret ⟨rfl, hat⟩
  | region id ops d =>
    intro F F' M M' b h hτ a w hat
    cases d with
    | true => simp [rdCode] at h
    | false =>
      simp only [rdCode] at h
      split at h
      · rename_i rs hrs
        split at h
        · rename_i F1 M1 e
          simp only [Option.some.injEq, Prod.mk.injEq] at h
          obtain ⟨rfl, rfl, rfl⟩ := h
          refine wp_region ?_
          have := rdOps_wp (P := P) (n := n) (ops := ops) (Q := fun e a' w' => e = (if false then Exit.ret else .normal) ∧ At g0 σ0 n (fm ρ F1) τ a' w') hk ops.toList rs 0 F F1 M M1 a w (fun j o hj => by rw [Nat.zero_add, ← Array.getElem?_toList]; exact hj) hrs e hτ hat (fun a' w' hat' => ⟨rfl, hat'⟩)
          rw [List.range_eq_range']
          simpa using this
        · cases h
      · cases h
  | seq x y ihx ihy =>
    intro F F' M M' b h hτ a w hat
    simp only [rdCode] at h
    split at h
    · rename_i F1 M1 e
      have hsub := rdCode_sub _ _ _ _ _ _ _ h
      refine wp_seq (wp_mono (ihx _ _ _ _ _ e (fun o ho => hτ o (hsub o ho)) a w hat) (fun e' a' w' hq => ?_))
      obtain ⟨rfl, hat'⟩ := hq
      exact ihy _ _ _ _ _ h hτ a' w' hat'
    · rename_i hne
      refine wp_seq (wp_mono (ihx _ _ _ _ _ h hτ a w hat) (fun e' a' w' hq => ?_))
      obtain ⟨rfl, hat'⟩ := hq
      cases b with
      | true => exact ⟨rfl, hat'⟩
      | false => exact (hne _ _ h).elim
  | _ => intro F F' M M' b h; simp [rdCode] at h
theorem rdCall_ok {P : Program} {f : FuncId} {args : List XV} {H : XH} {v : XV} {M : List Nat} (hk : H.ok ρ) (h : rdCall P f args H = some (v, M)) : RdEv P f (args.map (XV.av ρ)) (hpx ρ H) (v.av ρ) M := by
  intro τ hτ
  unfold rdCall at h
  split at h
  · cases h
  · rename_i fn hf
    split at h
    · cases h
    · rename_i c hb
      replace h := bif_some h
      obtain ⟨hn, h⟩ := h
      have hn := Nat.le_of_ble_eq_true hn
      rw [lenX_eq] at hn
      split at h
      · rename_i b F M' hc
        split at h
        · rename_i t hts
          simp only [Option.some.injEq, Prod.mk.injEq] at h
          obtain ⟨rfl, rfl⟩ := h
          intro g w vals hw hv
          refine calls_of_wp hf hb ?_
          have hat := At_init (n := fn.ntmps) hw hv (by simpa using hn)
          rw [← fm_args] at hat
          refine wp_mono (rdCode_wp hk c _ _ _ _ _ hc hτ _ _ hat) (fun e a' w' hq => ?_)
          obtain ⟨rfl, hd, g', hle, hw', hf'⟩ := hq
          obtain ⟨u, hu, hvu⟩ := resultsX_ok (v := fm ρ F t) hw' hf' hts rfl
          have hfin : a'.defers = [] ∧ ∃ v, (results fn a'.tmps).run P w' = .ok v w' ∧ ∃ u g', Ending.returned v = .returned u ∧ g.le τ g' τ ∧ WRel g' τ w' ∧ VR g'.pm g'.L τ (fm ρ F t) u :=
            ⟨hd, u, hu, u, g', rfl, hle, hw', hvu⟩
          cases b <;> exact hfin
        · cases h
      · cases h
end
end Go.Ab
/- A loop over a map, its rounds in whatever order. -/
namespace Go.Ab
set_option linter.constructorNameAsVariable false
set_option linter.unusedSimpArgs false
set_option linter.unusedVariables false
open Go.RowKit
set_option linter.unusedVariables false
set_option linter.unusedSimpArgs false
section
variable {ρ : Env}
theorem memN_iff (o : Nat) : ∀ (l : List Nat), memN o l = true ↔ o ∈ l
  | [] => by simp [memN]
  | x :: r => by
    simp only [memN, Bool.or_eq_true, memN_iff o r, List.mem_cons]
    exact or_congr ⟨Nat.eq_of_beq_eq_true, fun h => by subst h; simp⟩ Iff.rfl
/-! ### one frame and heap for another -/
theorem wk_frame {S0 : List Ob} {fr fr' : Fr} {S S' : List Ob} (hS : hp S' = hp S) (hF : ∀ t, Fr.get fr' t = .junk ∨ Fr.get fr' t = Fr.get fr t) : Wk S0 fr S fr' S' := by
  intro g0 n a w h
  obtain ⟨hd, g, h1, h2, h3⟩ := h
  rw [hS]
  refine ⟨hd, g, h1, h2, h3.size, fun t => ?_⟩
  rcases hF t with e | e
  · rw [e]; exact .junk
  · rw [e]; exact h3.get t
theorem WRel.itDone {g σ} {w : World} (h : WRel g σ w) {o : Nat} {es : List ((IntKind × Int) × AV)} {sn : List Nat} (e : σ o = .mpo es (some sn)) :
    WRel g (upd σ o (.mpo es (some [es.length]))) w ∧ g.le σ g (upd σ o (.mpo es (some [es.length]))) := by
  have hL : upd g.L o (g.L o) = g.L := by
    funext i
    by_cases hi : i = o
    · subst hi; simp
    · simp [upd_ne _ _ hi]
  obtain ⟨k1, ⟨ms, k2, k3⟩, k4⟩ := h.mo o es _ e
  obtain ⟨d1, seen, d2, d3⟩ := k4 sn rfl
  obtain ⟨a1, a2⟩ := h.remap (w' := w) (es' := es) (it' := some [es.length]) (l := g.L o) e rfl (fun _ => ⟨rfl, rfl⟩) (BkOK.refl _) (fun a u hu => hu) (fun a u _ => rfl) (Below.refl _ _) h.B0
    (fun i es2 it2 hi e2 => ⟨rfl, fun hs => ⟨rfl, fun _ => (h.ms i o _ _ _ _ e2 e hi).2 hs rfl⟩⟩)
    (by
      rw [hL]
      refine ⟨k1, ⟨ms, k2, k3.mono ⟨fun _ _ _ e => e, fun i => ?_⟩⟩, fun s hs => ?_⟩
      · by_cases hi : i = o
        · subst hi; simp only [e, upd_same, ObExt]; exact ⟨trivial, fun _ => ⟨trivial, rfl⟩⟩
        · simp only [upd_ne _ _ hi]; exact ObExt.refl _ _
      · cases hs
        exact ⟨d1, seen, d2, fun hn => (hn (by simp)).elim⟩)
  rw [hL] at a1 a2
  exact ⟨a1, a2⟩
theorem wk_done {S0 : List Ob} {fr : Fr} {S S' : List Ob} {o : Nat} {es : List ((IntKind × Int) × AV)} {sn : List Nat} (e : hp S o = .mpo es (some sn)) (hS : hp S' = upd (hp S) o (.mpo es (some [es.length]))) : Wk S0 fr S fr S' := by
  intro g0 n a w h
  obtain ⟨hd, g, h1, h2, h3⟩ := h
  obtain ⟨a1, a2⟩ := h2.itDone e
  rw [hS]
  exact ⟨hd, g, h1.trans a2, a1, h3.mono a2⟩
/-! ### operations that look only -/
theorem rdOps_VC {P : Program} {H : XH} (hk : H.ok ρ) {S : List Ob} {tl : List ROper} {K : Fr → List Ob → List LE → Prop} : ∀ (rs : List ROper) (F F' : XF) (M M' : List Nat) (fr : Fr) (log : List LE), rdOps rs F H M = some (F', M') →
    (∀ o ∈ M', hp S o = hpx ρ H o) → Fr.get fr = fm ρ F → (∀ fr' log', Fr.get fr' = fm ρ F' → VCops P tl fr' S log' K) → VCops P (rs ++ tl) fr S log K
  | [], F, F', M, M', fr, log, h, hτ, hf, hK => by
    simp [rdOps] at h; obtain ⟨rfl, rfl⟩ := h
    exact hK _ _ hf
  | ro :: rs, F, F', M, M', fr, log, h, hτ, hf, hK => by
    simp only [rdOps] at h
    split at h
    · cases h
    · rename_i hg
      split at h
      · rename_i q hq
        split at h
        · rename_i v H' rd hop
          obtain ⟨hok, δ, hst, hh, hwr⟩ := opX_ok (ρ := ρ) hk hop
          have hδ : δ = none := by cases δ with | none => rfl | some p => simp at hwr
          subst hδ
          have hsub := rdOps_sub _ _ _ _ _ _ h
          have hst' : St q (Fr.get fr) (hp S) (v.av ρ) rd none := by
            rw [hf]
            exact St_local hst (fun _ _ => rfl) (fun o ho => hτ o (hsub o (by simp [fpOf] at ho; simp [ho])))
          show VCops P (ro :: (rs ++ tl)) fr S log K
          simp only [VCops, hg, hq, VC1]
          refine .inl ⟨v.av ρ, rd, none, ⟨_, hst', .refl _⟩, ?_⟩
          exact rdOps_VC hk rs _ F' _ M' _ _ h hτ (by rw [get_putF, hf, fm_put]) hK
        · cases h
      · cases h
/-! ### changes -/
abbrev Wr := Nat × Nat × List AV
def wv (ρ : Env) (p : Nat × Nat × Nat × XV) : Wr := (p.1, p.2.2.1, (p.2.2.2.av ρ).cells)
def stH (σ : Hp) (p : Wr) : Hp :=
  match σ p.1 with
  | .arr v cs => upd σ p.1 (.arr v (splice cs p.2.1 p.2.2))
  | _ => σ
def stS (S : List Ob) (p : Wr) : List Ob :=
  match hp S p.1 with
  | .arr v cs => apS S (some (p.1, .arr v (splice cs p.2.1 p.2.2)))
  | _ => S
theorem hp_stS (S : List Ob) (p : Wr) : hp (stS S p) = stH (hp S) p := by
  unfold stS stH
  split
  · rw [hp_apS]; rfl
  · rfl
theorem hp_stSs (ps : List Wr) : ∀ (S : List Ob), hp (ps.foldl stS S) = ps.foldl stH (hp S) := by
  induction ps with
  | nil => intro S; rfl
  | cons p ps ih => intro S; rw [List.foldl_cons, ih, hp_stS, List.foldl_cons]
theorem stH_ne {σ : Hp} {p : Wr} {i : Nat} (h : i ≠ p.1) : stH σ p i = σ i := by
  unfold stH
  cases σ p.1 with
  | arr v cs => exact upd_ne _ _ h
  | _ => rfl
theorem stHs_ne {i : Nat} : ∀ {ps : List Wr} {σ : Hp}, (∀ p ∈ ps, i ≠ p.1) → ps.foldl stH σ i = σ i
  | [], σ, _ => rfl
  | p :: ps, σ, h => by rw [List.foldl_cons, stHs_ne (fun q hq => h q (.tail _ hq)), stH_ne (h p (.head _))]
theorem stHs_arr {O ver n : Nat} : ∀ {ps : List Wr} {σ : Hp}, (∃ cs, σ O = .arr ver cs ∧ cs.length = n) → ∃ cs, ps.foldl stH σ O = .arr ver cs ∧ cs.length = n
  | [], σ, h => h
  | p :: ps, σ, ⟨cs, h1, h2⟩ => by
    rw [List.foldl_cons]
    refine stHs_arr ?_
    by_cases e : O = p.1
    · refine ⟨splice cs p.2.1 p.2.2, ?_, by rw [splice_length]; exact h2⟩
      unfold stH
      rw [← e, h1]
      simp
    · exact ⟨cs, by rw [stH_ne e]; exact h1, h2⟩
theorem one_of {l : List AV} (h : l.length = 1) : ∃ x, l = [x] := by
  match l, h with
  | [x], _ => exact ⟨x, rfl⟩
theorem stH_comm {σ : Hp} {p q : Wr} (h1 : p.1 = q.1) (h2 : p.2.1 ≠ q.2.1) (hp1 : p.2.2.length = 1) (hq1 : q.2.2.length = 1) : stH (stH σ p) q = stH (stH σ q) p := by
  obtain ⟨O, i, xs⟩ := p
  obtain ⟨O', j, ys⟩ := q
  simp only at h1 h2 hp1 hq1
  subst h1
  obtain ⟨x, rfl⟩ := one_of hp1
  obtain ⟨y, rfl⟩ := one_of hq1
  cases e : σ O with
  | arr v cs =>
    have a1 : ∀ (k : Nat) (z : AV), stH σ (O, k, [z]) = upd σ O (.arr v (splice cs k [z])) := fun k z => by unfold stH; simp only [e]
    rw [a1, a1]
    have a2 : ∀ (cs' : List AV) (k : Nat) (z : AV), stH (upd σ O (.arr v cs')) (O, k, [z]) = upd σ O (.arr v (splice cs' k [z])) := fun cs' k z => by
      unfold stH
      simp only [upd_same]
      funext t
      by_cases ht : t = O
      · subst ht; simp
      · simp only [upd_ne _ _ ht]
    rw [a2, a2]
    simp only [splice]
    rw [List.set_comm _ _ h2]
  | _ =>
    have a1 : ∀ (k : Nat) (z : AV), stH σ (O, k, [z]) = σ := fun k z => by unfold stH; simp only [e]
    rw [a1, a1, a1]
def picks {α : Type} (ws : List α) (sn : List Nat) : List α := sn.filterMap (ws[·]?)
theorem picks_all {α : Type} (ws : List α) : picks ws (List.range ws.length) = ws := by
  have h : (List.range ws.length).map (fun j => ws[j]?) = ws.map some := by
    refine List.ext_getElem (by simp) (fun i h1 h2 => ?_)
    simp at h1 h2 ⊢
  have h' := congrArg (List.filterMap id) h
  rw [List.filterMap_map, List.filterMap_map] at h'
  simpa [picks, Function.comp_def] using h'
theorem picks_mem {α : Type} {ws : List α} {sn : List Nat} {p : α} (h : p ∈ picks ws sn) : p ∈ ws := by
  unfold picks at h
  obtain ⟨j, _, hj⟩ := List.mem_filterMap.1 h
  exact List.mem_of_getElem? hj
theorem picks_snoc {α : Type} {ws : List α} {sn : List Nat} {i : Nat} {p : α} (h : ws[i]? = some p) : picks ws (sn ++ [i]) = picks ws sn ++ [p] := by
  simp [picks, h]
theorem perm_all {sn : List Nat} {n : Nat} (h1 : sn.Nodup) (h2 : ∀ i ∈ sn, i < n) (h3 : ∀ i, i < n → i ∈ sn) : sn.Perm (List.range n) :=
  (List.perm_ext_iff_of_nodup h1 List.nodup_range).2 (fun a => ⟨fun h => List.mem_range.2 (h2 a h), fun h => h3 a (List.mem_range.1 h)⟩)
/-! ### what the evaluator asks -/
theorem otherX_mem {p : Nat × Nat × Nat × XV} : ∀ {l : List (Nat × Nat × Nat × XV)}, otherX p l = true → ∀ q ∈ l, p.1 = q.1 ∧ p.2.1 = q.2.1 ∧ p.2.2.1 ≠ q.2.2.1
  | [], _, q, hq => by simp at hq
  | q :: r, h, q', hq => by
    simp only [otherX, Bool.and_eq_true, Bool.not_eq_true'] at h
    rcases List.mem_cons.1 hq with rfl | hq
    · exact ⟨Nat.eq_of_beq_eq_true h.1, Nat.eq_of_beq_eq_true h.2.1, fun e => by rw [e] at h; simp at h⟩
    · exact otherX_mem h.2.2.2 q' hq
theorem othersX_pair : ∀ {l : List (Nat × Nat × Nat × XV)}, othersX l = true → ∀ p ∈ l, ∀ q ∈ l, p.1 = q.1 ∧ p.2.1 = q.2.1 ∧ (p = q ∨ p.2.2.1 ≠ q.2.2.1)
  | [], _, p, hp, _, _ => by simp at hp
  | x :: r, h, p, hp, q, hq => by
    simp only [othersX, Bool.and_eq_true] at h
    rcases List.mem_cons.1 hp with rfl | hp2
    · rcases List.mem_cons.1 hq with rfl | hq
      · exact ⟨rfl, rfl, .inl rfl⟩
      · obtain ⟨a, b, c⟩ := otherX_mem h.1 q hq; exact ⟨a, b, .inr c⟩
    · rcases List.mem_cons.1 hq with hqx | hq
      · subst hqx
        obtain ⟨a, b, c⟩ := otherX_mem h.1 p hp2; exact ⟨a.symm, b.symm, .inr (Ne.symm c)⟩
      · exact othersX_pair h.2 p hp2 q hq
theorem roundsX_get {m : MLoop} {F : XF} {H : XH} {o : Nat} : ∀ {es : XM} {ws}, roundsX m F H o es = some ws → ws.length = es.length ∧ ∀ (i : Nat) (e : (IntKind × Int) × XV), es[i]? = some e → ∃ p, ws[i]? = some p ∧ roundX m F H o e = some p
  | [], ws, h => by simp only [roundsX, Option.some.injEq] at h; subst h; exact ⟨rfl, fun i e he => by simp at he⟩
  | e :: es, ws, h => by
    simp only [roundsX] at h
    split at h
    · cases h
    · rename_i p hp
      split at h
      · cases h
      · rename_i ps hps
        cases h
        obtain ⟨a, b⟩ := roundsX_get hps
        refine ⟨by simp [a], fun i e' he => ?_⟩
        cases i with
        | zero => simp at he; subst he; exact ⟨p, rfl, hp⟩
        | succ i => simpa using b i e' (by simpa using he)
theorem lenM_eq : ∀ (l : XM), lenM l = l.length
  | [] => rfl
  | _ :: r => by simp only [lenM, List.length_cons, lenM_eq r]
theorem storesX_ok : ∀ {ws : List (Nat × Nat × Nat × XV)} {H H' : XH}, H.ok ρ → storesX ws H = some H' → H'.ok ρ ∧ hpx ρ H' = (ws.map (wv ρ)).foldl stH (hpx ρ H) ∧ H'.fs = H.fs
  | [], H, H', hk, h => by simp only [storesX, Option.some.injEq] at h; subst h; exact ⟨hk, rfl, rfl⟩
  | p :: ws, H, H', hk, h => by
    simp only [storesX] at h
    split at h
    · rename_i v H1 rd wr e
      obtain ⟨k1, δ, hst, hh, hwr⟩ := xStore_ok (ρ := ρ) hk e
      obtain ⟨a, b, c⟩ := storesX_ok k1 h
      have hfs : H1.fs = H.fs := by
        simp only [xStore] at e
        split at e
        · cases e
        · obtain ⟨_, e⟩ := bif_some e
          simp only [Tr.look_eq, Option.some.injEq, Prod.mk.injEq] at e
          obtain ⟨_, rfl, _⟩ := e
          simp [XH.put, Tr.look_eq]
      refine ⟨a, ?_, c.trans hfs⟩
      rw [b, List.map_cons, List.foldl_cons, hh]
      congr 1
      simp only [XV.av, StStore] at hst
      obtain ⟨_, _, cs, h1, _, _, _, rfl⟩ := hst
      unfold stH wv
      simp only [h1]
      rfl
    · cases h
theorem junkF_at : ∀ (ds : List Nat) (F : XF) (t : Nat), (junkF F ds).at t = if t ∈ ds then .junk else F.at t
  | [], F, t => by simp [junkF]
  | d :: ds, F, t => by
    rw [junkF, junkF_at ds, XF.at_set]
    by_cases h1 : t ∈ ds
    · simp [h1]
    · by_cases h2 : t = d
      · subst h2; simp
      · simp [h1, h2]
theorem rdOps_dst : ∀ (rs : List ROper) (F F' : XF) (H : XH) (M M' : List Nat), rdOps rs F H M = some (F', M') → ∀ t, t ∉ dstL rs → F'.at t = F.at t
  | [], F, F', H, M, M', h, t, ht => by simp [rdOps] at h; obtain ⟨rfl, rfl⟩ := h; rfl
  | ro :: rs, F, F', H, M, M', h, t, ht => by
    simp only [rdOps] at h
    simp only [dstL, List.mem_append, not_or] at ht
    split at h
    · cases h
    · split at h
      · split at h
        · rw [rdOps_dst rs _ _ _ _ _ h t ht.2]
          cases hd : ro.dst with
          | none => rfl
          | some d =>
            rw [hd] at ht
            simp only [optL, List.mem_singleton] at ht
            simp only [putXF]
            rw [XF.at_set, if_neg ht.1]
        · cases h
      · cases h
theorem lastR_eq : ∀ {l l' : List ROper} {x : ROper}, lastR l = some (l', x) → l = l' ++ [x]
  | [], _, _, h => by simp [lastR] at h
  | [y], l', x, h => by simp only [lastR, Option.some.injEq, Prod.mk.injEq] at h; obtain ⟨rfl, rfl⟩ := h; rfl
  | y :: z :: r, l', x, h => by
    simp only [lastR] at h
    split at h
    · rename_i l1 z1 e
      simp only [Option.some.injEq, Prod.mk.injEq] at h
      obtain ⟨rfl, rfl⟩ := h
      rw [lastR_eq e]; rfl
    · cases h
theorem mapLoop_eq {c : FC} {m : MLoop} (h : mapLoop c = some m) : c = .seq (.nxr m.a m.b m.it) (.seq (.cond (.t m.b) .skip (.exit m.e)) (.block m.id (.seq (.reg (⟨m.d, none, .op (.ent (.t m.it))⟩ :: m.r1) []) (.reg (m.r2 ++ [⟨m.dl, none, .op (.store 1 m.x m.y)⟩]) [])))) := by
  unfold mapLoop at h
  split at h
  · split at h
    · rename_i e
      obtain ⟨h1, h2⟩ := bif_some h
      simp only [Bool.and_eq_true] at h1
      obtain ⟨q1, q2, q3⟩ := h1
      have q1 := Nat.eq_of_beq_eq_true q1
      have q2 := Nat.eq_of_beq_eq_true q2
      have q3 := Nat.eq_of_beq_eq_true q3
      subst q1 q2 q3
      cases h2
      rw [lastR_eq e]
    · cases h
  · cases h
end
end Go.Ab
/- A loop over a map, its rounds in whatever order: sound. -/
namespace Go.Ab
set_option linter.constructorNameAsVariable false
set_option linter.unusedSimpArgs false
set_option linter.unusedVariables false
open Go.RowKit
set_option linter.unusedVariables false
set_option linter.unusedSimpArgs false
section
variable {ρ : Env}
theorem wk_refl' {S0 S : List Ob} {fr : Fr} : Wk S0 fr S fr S := fun _ _ _ _ h => h
theorem get_junks (fr : Fr) (t : Nat) : ∀ (ds : List Nat), Fr.get (ds.map (fun d => (d, AV.junk)) ++ fr) t = if t ∈ ds then .junk else Fr.get fr t
  | [] => by simp
  | d :: ds => by
    rw [List.map_cons, List.cons_append, Fr.get_cons]
    by_cases h : t = d
    · subst h; simp
    · rw [upd_ne _ _ h, get_junks fr t ds]
      simp [h]
theorem fm_set (F : XF) (d : Nat) (v : XV) : fm ρ (F.set d v) = upd (fm ρ F) d (v.av ρ) := by
  have := fm_put (ρ := ρ) F (some d) v
  exact this
theorem mAv_get {es : XM} {i : Nat} {e : (IntKind × Int) × AV} (h : (mAv ρ es)[i]? = some e) : ∃ x, es[i]? = some x ∧ e = (x.1, x.2.av ρ) := by
  simp only [mAv, List.getElem?_map, Option.map_eq_some_iff] at h
  obtain ⟨x, h1, rfl⟩ := h
  exact ⟨x, h1, rfl⟩
theorem mapX_ok {m : MLoop} {F : XF} {H : XH} {e : XE} {F' : XF} {H' : XH} (hk : H.ok ρ) (h : mapX m F H = some (e, F', H')) :
    H'.ok ρ ∧ e = .exit m.e ∧ ∀ (P : Program) (a : FC), mapLoop a = some m → ∀ (S0 : List Ob) (fr : Fr) (S : List Ob) (K : Post), Fr.get fr = fm ρ F → hp S = hpx ρ H → (∀ fr' S', Fr.get fr' = fm ρ F' → hp S' = hpx ρ H' → K (.exit m.e) fr' S') → VC P S0 (.loop a) fr S K := by
  unfold mapX at h
  split at h
  · rename_i o hit
    split at h
    · rename_i es hm
      split at h
      · cases h
      · rename_i ws hws
        obtain ⟨hc, h⟩ := bif_some h
        split at h
        · cases h
        · rename_i H1 hst
          simp only [Option.some.injEq, Prod.mk.injEq] at h
          obtain ⟨rfl, rfl, rfl⟩ := h
          simp only [Bool.and_eq_true, Bool.not_eq_true'] at hc
          obtain ⟨hoth, hitd⟩ := hc
          have hitd : m.it ∉ m.ds := fun hh => by rw [(memN_iff _ _).2 hh] at hitd; cases hitd
          obtain ⟨k1, q1, q2⟩ := storesX_ok hk hst
          have hσo : hpx ρ H o = .mpo (mAv ρ es) (some []) := hpx_m hk hm
          have hm1 : H1.fs.m.get o = some (es, some []) := by rw [q2]; exact hm
          obtain ⟨ht1, hn1⟩ := k1.2.2 o _ hm1
          have hpx' : hpx ρ ⟨H1.nx, H1.t, ⟨H1.fs.f, H1.fs.m.set o (es, some [lenM es]), H1.fs.n, H1.fs.d, H1.fs.g⟩⟩ = upd (hpx ρ H1) o (.mpo (mAv ρ es) (some [lenM es])) := by
            funext i
            simp only [hpx, upd, Tr.get_set]
            by_cases hi : i = o
            · subst hi; simp [ht1]
            · rw [if_neg hi, if_neg hi]
          refine ⟨⟨k1.1, k1.2.1, fun i es2 e2 => ?_⟩, rfl, fun P a ha S0 fr S K hf hS hK => ?_⟩
          · simp only [Tr.get_set] at e2
            split at e2
            · rename_i hi; subst hi; exact ⟨ht1, hn1⟩
            · exact k1.2.2 i es2 e2
          have hlen : (mAv ρ es).length = es.length := by simp [mAv]
          obtain ⟨hwl, hwg⟩ := roundsX_get hws
          have hpl : (ws.map (wv ρ)).length = es.length := by simp [hwl]
          have hpair := othersX_pair hoth
          generalize hps : ws.map (wv ρ) = ps at hpl q1
          -- every write's cell is there at the beginning
          have hone : ∀ p ∈ ws, ((p.2.2.2).av ρ).cells.length = 1 ∧ p.1 ≠ o ∧ ∃ cs, hpx ρ H p.1 = .arr p.2.1 cs ∧ p.2.2.1 + 1 ≤ cs.length ∧ ((p.2.2.2).av ρ).cells.all AV.one = true := fun p hp => by
            obtain ⟨i, hi⟩ := List.getElem?_of_mem hp
            have hil : i < es.length := by rw [← hwl]; exact (List.getElem?_eq_some_iff.1 hi).1
            obtain ⟨p', hp', hr⟩ := hwg i _ (List.getElem?_eq_getElem hil)
            rw [hi] at hp'; cases hp'
            unfold roundX at hr
            split at hr
            · cases hr
            · split at hr
              · cases hr
              · split at hr
                · rename_i O ver off hx
                  cases hcc : (memN O _ || (memN o _ || Nat.beq O o)) with
                  | true => rw [hcc] at hr; cases hr
                  | false =>
                    rw [hcc] at hr
                    simp only [cond_false] at hr
                    split at hr
                    · rename_i r hxs
                      obtain ⟨v, Hx, rd, wr⟩ := r
                      cases hr
                      obtain ⟨_, δ, hsx, _, _⟩ := xStore_ok (ρ := ρ) hk hxs
                      simp only [XV.av, StStore] at hsx
                      obtain ⟨_, _, cs, s1, s2, s3, s4, _⟩ := hsx
                      simp only [Bool.or_eq_false_iff] at hcc
                      refine ⟨s2, fun e => ?_, cs, s1, s3, s4⟩
                      simp only at e
                      rw [e] at hcc
                      simp at hcc
                    · cases hr
                · cases hr
          have hps1 : ∀ p ∈ ps, p.2.2.length = 1 ∧ p.1 ≠ o := fun p hp => by
            rw [← hps] at hp
            obtain ⟨q, hq, rfl⟩ := List.mem_map.1 hp
            exact ⟨(hone q hq).1, (hone q hq).2.1⟩
          have hcomm : ∀ p ∈ ps, ∀ q ∈ ps, ∀ σ : Hp, stH (stH σ p) q = stH (stH σ q) p := fun p hp q hq σ => by
            have hp1 := hps1 p hp
            have hq1 := hps1 q hq
            rw [← hps] at hp hq
            obtain ⟨p, hp2, rfl⟩ := List.mem_map.1 hp
            obtain ⟨q, hq2, rfl⟩ := List.mem_map.1 hq
            obtain ⟨a1, a2, a3⟩ := hpair p hp2 q hq2
            rcases a3 with rfl | a3
            · rfl
            · exact stH_comm a1 a3 hp1.1 hq1.1
          let T : List Nat → List Ob := fun sn => apS ((picks ps sn).foldl stS S) (some (o, .mpo (mAv ρ es) (some sn)))
          have hT : ∀ sn, hp (T sn) = upd ((picks ps sn).foldl stH (hpx ρ H)) o (.mpo (mAv ρ es) (some sn)) := fun sn => by
            show hp (apS _ _) = _
            rw [hp_apS, hp_stSs, hS]; rfl
          let fr0 : Fr := m.ds.map (fun d => (d, AV.junk)) ++ fr
          have hfr0 : Fr.get fr0 = fm ρ (junkF F m.ds) := by
            funext t
            show Fr.get (m.ds.map (fun d => (d, AV.junk)) ++ fr) t = (XF.at (junkF F m.ds) t).av ρ
            rw [get_junks, junkF_at]
            by_cases ht : t ∈ m.ds
            · rw [if_pos ht, if_pos ht]; rfl
            · rw [if_neg ht, if_neg ht, hf]; rfl
          have ha1 : m.a ∈ m.ds := by simp [MLoop.ds]
          have hb1 : m.b ∈ m.ds := by simp [MLoop.ds]
          have hfit : Fr.get fr0 m.it = .itr o := by
            rw [hfr0]
            show (XF.at (junkF F m.ds) m.it).av ρ = _
            rw [junkF_at, if_neg hitd, hit]; rfl
          have hb2 : ∀ (x y : AV), ev (Fr.get ((m.b, x) :: (m.a, y) :: fr0)) (.t m.b) = x := fun x y => by simp [ev, Fr.get]
          have hit2 : ∀ (x y : AV), Fr.get ((m.b, x) :: (m.a, y) :: fr0) m.it = .itr o := fun x y => by
            rw [Fr.get_cons, Fr.get_cons, upd_ne _ _ (fun e => hitd (by rw [e]; exact hb1)), upd_ne _ _ (fun e => hitd (by rw [e]; exact ha1)), hfit]
          show LoopVC S0 (VC P S0 a) fr S K
          refine ⟨List Nat, fun _ => fr0, T, fun sn => sn.Nodup ∧ ∀ i ∈ sn, i < es.length, fun sn => ((List.range es.length).filter (fun i => decide (i ∉ sn))).length, [], ⟨List.nodup_nil, nofun⟩, ?_, fun sn hsn => ?_⟩
          · refine wk_frame ?_ (fun t => ?_)
            · rw [hT, hS]
              show upd (hpx ρ H) o _ = _
              rw [← hσo]
              funext i
              by_cases hi : i = o
              · subst hi; simp
              · simp [upd_ne _ _ hi]
            · show Fr.get (m.ds.map (fun d => (d, AV.junk)) ++ fr) t = _ ∨ Fr.get (m.ds.map (fun d => (d, AV.junk)) ++ fr) t = _
              rw [get_junks]
              by_cases ht : t ∈ m.ds
              · exact .inl (if_pos ht)
              · exact .inr (if_neg ht)
          obtain ⟨hnd, hlt⟩ := hsn
          rw [mapLoop_eq ha]
          simp only [VC]
          refine ⟨o, mAv ρ es, sn, hfit, by rw [hT]; simp, fun hh => absurd (hlt _ hh) (by rw [hlen]; exact Nat.lt_irrefl _), fun hall => ?_, fun i e2 he hni => ?_⟩
          · -- all was seen
            have hperm := (perm_all hnd hlt (fun i hi => hall i (by rw [hlen]; exact hi)))
            have hfold : (picks ps sn).foldl stH (hpx ρ H) = hpx ρ H1 := by
              have hh := (hperm.filterMap (ps[·]?)).foldl_eq' (f := stH) (fun p hp q hq σ => hcomm p (picks_mem (sn := sn) hp) q (picks_mem (sn := sn) hq) σ) (hpx ρ H)
              refine hh.trans ?_
              rw [← hpl]
              show (picks ps (List.range ps.length)).foldl stH (hpx ρ H) = _
              rw [picks_all, q1]
            simp only [Post.thn]
            refine ⟨_, apS (T sn) (some (o, .mpo (mAv ρ es) (some [(mAv ρ es).length]))), wk_done (o := o) (es := mAv ρ es) (sn := sn) (by rw [hT]; simp) (by rw [hp_apS]; rfl), ?_⟩
            rw [hb2]
            refine ⟨nofun, fun _ => ?_⟩
            refine hK _ _ ?_ ?_
            · rw [fm_set, fm_set, Fr.get_cons, Fr.get_cons, hfr0]; rfl
            · rw [hpx', hp_apS, hT, hfold, lenM_eq, hlen]
              funext i
              simp only [ap, upd]
              by_cases hi : i = o
              · simp [hi]
              · simp [hi]
          · -- one that was not
            obtain ⟨x, hx, rfl⟩ := mAv_get he
            obtain ⟨p, hpp, hr⟩ := hwg i x hx
            have hil := (List.getElem?_eq_some_iff.1 hx).1
            have hpm := List.mem_of_getElem? hpp
            obtain ⟨c1, c2, cs, c3, c4, c5⟩ := hone p hpm
            have hpi : ps[i]? = some (wv ρ p) := by rw [← hps, List.getElem?_map, hpp]; rfl
            unfold roundX at hr
            split at hr
            · cases hr
            · rename_i F1 M1 e1
              split at hr
              · cases hr
              · rename_i F2 M2 e2
                split at hr
                · rename_i O ver off hx
                  cases hcc : (memN O M2 || (memN o M2 || Nat.beq O o)) with
                  | true => rw [hcc] at hr; cases hr
                  | false =>
                    rw [hcc] at hr
                    simp only [cond_false] at hr
                    split at hr
                    · rename_i hxs
                      cases hr
                      simp only [Bool.or_eq_false_iff] at hcc
                      obtain ⟨cc1, cc2, _⟩ := hcc
                      have hOM : O ∉ M2 := fun hh => by rw [(memN_iff _ _).2 hh] at cc1; cases cc1
                      have hoM : o ∉ M2 := fun hh => by rw [(memN_iff _ _).2 hh] at cc2; cases cc2
                      simp only at c2 c3 c4 c5 c1
                      have hO : ∀ q ∈ ps, q.1 = O := fun q hq => by
                        rw [← hps] at hq
                        obtain ⟨q, hq2, rfl⟩ := List.mem_map.1 hq
                        exact (hpair q hq2 _ hpm).1
                      have hpk : ∀ q ∈ picks ps sn, q.1 = O := fun q hq => hO q (picks_mem hq)
                      obtain ⟨cs', d1, d2⟩ := stHs_arr (ps := picks ps sn) (σ := hpx ρ H) (O := O) ⟨cs, c3, rfl⟩
                      simp only [Post.thn]
                      refine ⟨_, _, wk_refl', ?_⟩
                      rw [hb2]
                      refine ⟨fun _ => ⟨_, _, wk_refl', ?_⟩, nofun⟩
                      generalize hS1 : apS (T sn) (some (o, Ob.mpo (mAv ρ es) (some (sn ++ [i])))) = S1
                      have hp1 : hp S1 = upd ((picks ps sn).foldl stH (hpx ρ H)) o (.mpo (mAv ρ es) (some (sn ++ [i]))) := by
                        rw [← hS1, hp_apS, hT]
                        funext j
                        simp only [ap, upd]
                        by_cases hj : j = o
                        · simp [hj]
                        · simp [hj]
                      have hlook : ∀ j ∈ M2, hp S1 j = hpx ρ H j := fun j hj => by
                        rw [hp1, upd_ne _ _ (fun e => hoM (by rw [← e]; exact hj)), stHs_ne (fun q hq e => hOM (by rw [← hpk q hq, ← e]; exact hj))]
                      simp only [VCops, VC1]
                      refine .inl ⟨.tup [.int x.1.1 x.1.2, x.2.av ρ], [o], none, ⟨_, ?_, .refl _⟩, ?_⟩
                      · simp only [St, ev]
                        rw [hit2]
                        refine ⟨⟨rfl, mAv ρ es, sn, i, (x.1, x.2.av ρ), by rw [hp1]; simp, fun hh => ?_, he, rfl⟩, trivial⟩
                        rcases List.mem_append.1 hh with h | h
                        · exact absurd (hlt _ h) (by rw [hlen]; exact Nat.lt_irrefl _)
                        · have := List.mem_singleton.1 h; omega
                      rw [← List.append_nil m.r1]
                      refine rdOps_VC hk m.r1 _ F1 _ M1 _ _ e1 (fun j hj => hlook j (rdOps_sub _ _ _ _ _ _ e2 j hj)) ?_ (fun fr1 log1 hf1 => ?_)
                      · rw [get_putF, fm_put, fm_set, fm_set, Fr.get_cons, Fr.get_cons, hfr0]
                        rfl
                      refine ⟨trivial, _, _, wk_refl', ?_⟩
                      refine rdOps_VC hk m.r2 _ F2 _ M2 _ _ e2 hlook hf1 (fun fr2 log2 hf2 => ?_)
                      have hS1O : hp S1 O = .arr ver cs' := by rw [hp1, upd_ne _ _ c2]; exact d1
                      simp only [VCops, VC1]
                      refine .inl ⟨.tup [], [], some (O, .arr ver (splice cs' off ((evx F2 m.y).av ρ).cells)), ⟨_, ?_, .refl _⟩, ?_⟩
                      · simp only [St]
                        rw [hf2, ← evx_ev, ← evx_ev, hx]
                        exact ⟨rfl, rfl, cs', hS1O, c1, by omega, c5, rfl⟩
                      refine ⟨trivial, ?_⟩
                      show ∃ i', _
                      refine ⟨sn ++ [i], ⟨?_, fun j hj => ?_⟩, ?_, wk_frame ?_ (fun t => ?_)⟩
                      · rw [List.nodup_append]
                        exact ⟨hnd, by simp, fun y hy z hz e => by rw [List.mem_singleton.1 hz] at e; subst e; exact hni hy⟩
                      · rcases List.mem_append.1 hj with h | h
                        · exact hlt j h
                        · rw [List.mem_singleton.1 h]; exact hil
                      · exact filter_lt _ (fun j _ hj => by simp at hj ⊢; exact hj.1) i (List.mem_range.2 hil) (by simpa using hni) (by simp)
                      · rw [hT, picks_snoc hpi, List.foldl_append, hp_apS]
                        show _ = ap (hp S1) _
                        rw [hp1]
                        have hst1 : stH ((picks ps sn).foldl stH (hpx ρ H)) (wv ρ (O, ver, off, evx F2 m.y)) = upd ((picks ps sn).foldl stH (hpx ρ H)) O (.arr ver (splice cs' off ((evx F2 m.y).av ρ).cells)) := by
                          show (match (picks ps sn).foldl stH (hpx ρ H) O with
                            | .arr v cs => upd ((picks ps sn).foldl stH (hpx ρ H)) O (.arr v (splice cs off ((evx F2 m.y).av ρ).cells))
                            | _ => (picks ps sn).foldl stH (hpx ρ H)) = _
                          rw [d1]
                        show upd (stH _ _) o _ = upd (upd _ o _) O _
                        rw [hst1]
                        funext j
                        simp only [upd]
                        by_cases hj : j = o
                        · subst hj; simp [Ne.symm c2]
                        · simp [hj]
                      · by_cases ht : t ∈ m.ds
                        · left
                          show Fr.get (m.ds.map (fun d => (d, AV.junk)) ++ fr) t = _
                          rw [get_junks, if_pos ht]
                        · right
                          have hdl : ∀ d, m.dl = some d → t ≠ d := fun d hd e => ht (by simp [MLoop.ds, hd, optL, e])
                          have hd1 : ∀ d, m.d = some d → t ≠ d := fun d hd e => ht (by simp [MLoop.ds, hd, optL, e])
                          have ht1 : t ∉ dstL m.r1 := fun hh => ht (by simp [MLoop.ds, hh])
                          have ht2 : t ∉ dstL m.r2 := fun hh => ht (by simp [MLoop.ds, hh])
                          have hta : t ≠ m.a := fun e => ht (e ▸ ha1)
                          have htb : t ≠ m.b := fun e => ht (e ▸ hb1)
                          have hput : ∀ (G : Fm) (d : Option Nat) (v : AV), (∀ d', d = some d' → t ≠ d') → putM G d v t = G t := fun G d v hd => by
                            cases d with
                            | none => rfl
                            | some d' => exact upd_ne _ _ (hd d' rfl)
                          rw [get_putF, hput _ _ _ hdl, hf2, hfr0]
                          show _ = (XF.at F2 t).av ρ
                          rw [rdOps_dst _ _ _ _ _ _ e2 t ht2, rdOps_dst _ _ _ _ _ _ e1 t ht1]
                          show _ = fm ρ _ t
                          rw [fm_put, hput _ _ _ hd1, fm_set, fm_set, upd_ne _ _ htb, upd_ne _ _ hta]
                    · cases hr
                · cases hr
    · cases h
  · cases h
end
end Go.Ab
/- The evaluator is sound: code, calls, laws. -/
namespace Go.Ab
set_option linter.constructorNameAsVariable false
set_option linter.unusedSimpArgs false
set_option linter.unusedVariables false
open Go.RowKit
set_option linter.unusedVariables false
set_option linter.unusedSimpArgs false
section
variable {ρ : Env}
theorem ap_list (S : List Ob) (σ' : Hp) (H' : XH) (hk : H'.ok ρ) (h : σ' = hpx ρ H') : ∃ S', hp S' = σ' := by
  refine ⟨(List.range (H'.nx + ρ.φ.length + H'.fs.g)).map (hpx ρ H'), ?_⟩
  funext o
  subst h
  simp only [hp, List.getD_eq_getElem?_getD, List.getElem?_map]
  by_cases ho : o < H'.nx + ρ.φ.length + H'.fs.g
  · simp [List.getElem?_range ho]
  · rw [List.getElem?_eq_none (by simp; omega)]
    have hm : H'.fs.m.get o = none := by
      cases e : H'.fs.m.get o with
      | none => rfl
      | some es => have := (hk.2.2 o es e).2; omega
    have hf : hp ρ.φ o = .virgin := by simp only [hp, List.getD_eq_getElem?_getD]; rw [List.getElem?_eq_none (by omega)]; rfl
    have hgo : ¬ o < H'.fs.g := by omega
    simp [hpx, hk.1 o (by omega), hm, hf, hgo]

/-- The same numbers, other unknown objects. -/
def Env.fr (ρ : Env) (φ : List Ob) (N : Nat) (h : ∀ o, o < N → hp φ o = .virgin) : Env := { v := ρ.v, t := ρ.t, φ := φ, N := N, hφ := h }
theorem val_fr {φ N h} : ∀ (e : SE), e.val (ρ.fr φ N h) = e.val ρ
  | .num n => rfl
  | .var i => rfl
  | .bop o k a b => by simp only [SE.val, val_fr a, val_fr b]
  | .cv k a => by simp only [SE.val, val_fr a]
theorem av_fr' {φ N h} : ∀ (x : XV), x.av (ρ.fr φ N h) = x.av ρ
  | .int k n => rfl
  | .sym k e => by simp only [XV.av, val_fr]
  | .bool b => rfl
  | .str s => rfl
  | .nilp => rfl
  | .ptr o v f => rfl
  | .cptr cs f => by simp only [XV.av, avs_fr cs]
  | .nils => rfl
  | .sl ex sz xs => by simp only [XV.av, avs_fr xs]
  | .ref o v f n e => rfl
  | .slt ex sz xs => by simp only [XV.av, avs_fr xs]; rfl
  | .lenT n => rfl
  | .agg cs => by simp only [XV.av, avs_fr cs]
  | .tup cs => by simp only [XV.av, avs_fr cs]
  | .nilf => rfl
  | .fn f a b => by simp only [XV.av, avs_fr a, avs_fr b]
  | .nili => rfl
  | .iface t v => by simp only [XV.av, av_fr' v]
  | .mp o => rfl
  | .itr o => rfl
  | .lit x => by cases x <;> rfl
  | .junk => rfl
where avs_fr {φ N h} : ∀ (l : List XV), XV.avs (ρ.fr φ N h) l = XV.avs ρ l
  | [] => rfl
  | x :: r => by simp only [XV.avs, av_fr' x, avs_fr r]
theorem av_fr {φ N h} : XV.av (ρ.fr φ N h) = XV.av ρ := funext av_fr'
theorem cells_fr {φ N h} (ob : XO) : ob.cells (ρ.fr φ N h) = ob.cells ρ := by simp only [XO.cells, av_fr]
theorem mAv_fr {φ N h} (es : XM) : mAv (ρ.fr φ N h) es = mAv ρ es := by simp only [mAv, av_fr]
theorem facts_fr {φ N h} {fs : List (SE × SE)} : FactsOK (ρ.fr φ N h) fs ↔ FactsOK ρ fs := by simp only [FactsOK, val_fr]
theorem hpx_fr {φ N h} (H : XH) (o : Nat) : hpx (ρ.fr φ N h) H o = (match H.t.get o with | some ob => .arr ob.ver (ob.cells ρ) | none => match H.fs.m.get o with | none => (if o < H.fs.g then .gone else hp φ o) | some es => .mpo (mAv ρ es.1) es.2) := by
  simp only [hpx, cells_fr, mAv_fr]
  rfl
def cutT (n : Nat) (T : List Ob) : List Ob := (List.range T.length).map fun o => if o < n then .virgin else T.getD o .virgin
theorem hp_cutT (n : Nat) (T : List Ob) (o : Nat) : hp (cutT n T) o = if o < n then .virgin else hp T o := by
  simp only [hp, cutT, List.getD_eq_getElem?_getD, List.getElem?_map]
  by_cases h : o < T.length
  · simp [List.getElem?_range h]
  · rw [List.getElem?_eq_none (by simp; omega), List.getElem?_eq_none (by omega)]
    simp
/-- What is there and what is not, seen from number st on. -/
theorem hpx_cut {H : XH} {st : Nat} (T : List Ob) {h : ∀ o, o < st → hp (cutT st T) o = .virgin} (hk1 : ∀ o, H.nx ≤ o → H.t.get o = none) (hk2 : ∀ o es, H.fs.m.get o = some es → H.t.get o = none ∧ o < H.nx) (hn : H.nx ≤ st) (hg : H.fs.g ≤ st) (hst : st ≤ ρ.N) :
    hpx (ρ.fr (cutT st T) st h) H = fun o => if o < st then hpx ρ H o else hp T o := by
  funext o
  rw [hpx_fr]
  by_cases ho : o < st
  · rw [if_pos ho]
    simp only [hpx]
    rw [hp_cutT, if_pos ho, ρ.hφ o (by omega)]
    rfl
  · rw [if_neg ho, hk1 o (by omega)]
    have : H.fs.m.get o = none := by
      cases e : H.fs.m.get o with
      | none => rfl
      | some es => have := (hk2 o es e).2; omega
    rw [this, hp_cutT, if_neg ho]
    simp only
    rw [if_neg (by omega)]
theorem hpx_bey {H : XH} {st : Nat} (hk1 : ∀ o, H.nx ≤ o → H.t.get o = none) (hk2 : ∀ o es, H.fs.m.get o = some es → H.t.get o = none ∧ o < H.nx) (hn : H.nx ≤ st) (hg : H.fs.g ≤ st) (o : Nat) (ho : st ≤ o) : hpx ρ H o = hp ρ.φ o := by
  have : H.fs.m.get o = none := by
    cases e : H.fs.m.get o with
    | none => rfl
    | some es => have := (hk2 o es e).2; omega
  simp only [hpx, hk1 o (by omega), this]
  rw [if_neg (by omega)]
def CallOK (ρ : Env) (P : Program) (call : XCall) : Prop := ∀ f args H v H', call f args H = some (v, H') → ∀ φ N h, H.ok (ρ.fr φ N h) → H'.ok (ρ.fr φ N h) ∧ Ev P f (args.map (XV.av ρ)) (hpx (ρ.fr φ N h) H) (v.av ρ) (hpx (ρ.fr φ N h) H')
theorem CallOK.at {P : Program} {call : XCall} (hc : CallOK ρ P call) {f args} {H H' : XH} {v : XV} (e : call f args H = some (v, H')) (hk : H.ok ρ) : H'.ok ρ ∧ Ev P f (args.map (XV.av ρ)) (hpx ρ H) (v.av ρ) (hpx ρ H') :=
  hc f args H v H' e ρ.φ ρ.N ρ.hφ hk
theorem CallOK.frm {P : Program} {call : XCall} (hc : CallOK ρ P call) {φ N h} : CallOK (ρ.fr φ N h) P call := fun f args H v H' e φ' N' h' hk => by
  have := hc f args H v H' e φ' N' h' hk
  simp only [av_fr]
  exact this
def RdOK (ρ : Env) (P : Program) (rd : XRd) : Prop := ∀ f args H v M, rd f args H = some (v, M) → H.ok ρ → RdEv P f (args.map (XV.av ρ)) (hpx ρ H) (v.av ρ) M

/-- What the load needs of its object. -/
def Jl (ρ : Env) (sh : Option Nat) (o ver off : Nat) (v : XV) : Ob → Prop := fun ob => ∀ τ : Hp, τ o = ob → ∃ rd, StLoad sh (.ptr o ver off) τ (v.av ρ) rd
theorem Jl_of {σ : Hp} {sh : Option Nat} {o ver off : Nat} {v : XV} {rd : List Nat} (h : StLoad sh (.ptr o ver off) σ (v.av ρ) rd) : Jl ρ sh o ver off v (σ o) := fun τ hτ => by
  refine ⟨rd, StLoad_local h (fun o' ho => ?_)⟩
  have h1 : rd = [o] := h.1
  rw [h1] at ho
  rw [List.mem_singleton.1 ho]; exact hτ
def XLr (ρ : Env) (x : XL) (l : LE) : Prop :=
  match x, l with
  | .acc fp wr, .acc fp' wr' => fp = fp' ∧ wr = wr'
  | .eff H H', .eff S S' => hp S = hpx ρ H ∧ hp S' = hpx ρ H' ∧ H.ok ρ ∧ H'.ok ρ
  | .ldv sh o ver off v, .rdl o' J => o' = o ∧ J = Jl ρ sh o ver off v
  | .efs H H' st, .efs S S' st' => hp S = hpx ρ H ∧ hp S' = hpx ρ H' ∧ st' = st ∧ H.ok ρ ∧ H'.ok ρ
  | _, _ => False
def LogR (ρ : Env) : List XL → List LE → Prop
  | [], ls => ls = []
  | x :: xs, ls => ∃ l ls', ls = l :: ls' ∧ XLr ρ x l ∧ LogR ρ xs ls'

theorem callX_ok {P : Program} {call : XCall} {rd : XRd} (hc : CallOK ρ P call) (hr : RdOK ρ P rd) {dr : Bool} {f : FuncId} {args : List XV} {H H' : XH} {v : XV} {le : XL} (hk : H.ok ρ) (h : callX call rd dr f args H = some (v, H', le)) {S : List Ob} (hS : hp S = hpx ρ H)
    {K : AV → List Ob → LE → Prop} (hK : ∀ S' le', hp S' = hpx ρ H' → XLr ρ le le' → K (v.av ρ) S' le') : H'.ok ρ ∧ VCcall P f (args.map (XV.av ρ)) S K := by
  unfold callX at h
  split at h
  · rename_i v1 M e
    simp only [Option.some.injEq, Prod.mk.injEq] at h
    obtain ⟨rfl, rfl, rfl⟩ := h
    have e' : rd f args H = some (v1, M) := by cases dr <;> simp at e ⊢; exact e
    have := hr _ _ _ _ _ e' hk
    rw [← hS] at this
    exact ⟨hk, .inr (.inr (.inl ⟨_, M, this, hK S _ hS ⟨rfl, rfl⟩⟩))⟩
  · cases hd : H.fs.d with
    | true =>
      rw [hd] at h
      simp only [cond_true] at h
      split at h
      · cases h
      · rename_i v0 H1 e0
        split at h
        · cases h
        · rename_i v1 H2 e
          obtain ⟨hb, h⟩ := bif_some h
          simp only [Bool.and_eq_true] at hb
          have hb1 := Nat.le_of_ble_eq_true hb.1
          have hb2 := Nat.le_of_ble_eq_true hb.2.1
          have hb3 := Nat.le_of_ble_eq_true hb.2.2.1
          have hb4 := Nat.le_of_ble_eq_true hb.2.2.2.1
          have hb5 := Nat.le_of_ble_eq_true hb.2.2.2.2
          have hN : H1.nx ≤ ρ.N := Nat.le_trans hb3 hk.2.1.2
          simp only [Option.some.injEq, Prod.mk.injEq] at h
          obtain ⟨rfl, rfl, rfl⟩ := h
          have hcut : ∀ T : List Ob, ∀ o, o < H1.nx → hp (cutT H1.nx T) o = .virgin := fun T o ho => by rw [hp_cutT, if_pos ho]
          have run : ∀ T : List Ob, (H2.ok (ρ.fr (cutT H1.nx T) H1.nx (hcut T))) ∧ Ev P f (args.map (XV.av ρ)) (hpx (ρ.fr (cutT H1.nx T) H1.nx (hcut T)) (H.lim H1.nx)) (v1.av ρ) (hpx (ρ.fr (cutT H1.nx T) H1.nx (hcut T)) H2) := fun T =>
            hc _ _ _ _ _ e _ _ _ ⟨hk.1, ⟨facts_fr.2 hk.2.1.1, Nat.le_refl _⟩, hk.2.2⟩
          have k2 := (run S).1
          have hk' : (H2.dbl H.fs.n true).ok ρ := ⟨k2.1, ⟨facts_fr.1 k2.2.1.1, hk.2.1.2⟩, k2.2.2⟩
          obtain ⟨S', hS'⟩ := ap_list S _ (H2.dbl H.fs.n true) hk' rfl
          refine ⟨hk', .inr (.inr (.inr ⟨_, S', H1.nx, ⟨fun o ho => ?_, fun τ hτ hag => ?_⟩, hK S' _ hS' ⟨hS, hS', rfl, hk, hk'⟩⟩))⟩
          · rw [hS, hS', hpx_bey hk.1 hk.2.2 hb2 hb4 o ho]
            exact hpx_bey (H := H2.dbl H.fs.n true) k2.1 k2.2.2 hb1 hb5 o ho
          · obtain ⟨T, rfl⟩ := hτ
            have h2 := (run T).2
            rw [hpx_cut (H := H.lim H1.nx) T hk.1 hk.2.2 hb2 hb4 hN, hpx_cut (H := H2) T k2.1 k2.2.2 hb1 hb5 hN] at h2
            have e1 : (fun o => if o < H1.nx then hpx ρ (H.lim H1.nx) o else hp T o) = hp T := by
              funext o
              by_cases ho : o < H1.nx
              · rw [if_pos ho, hag o ho, hS]; rfl
              · rw [if_neg ho]
            rw [e1] at h2
            rw [hS']
            exact h2
    | false =>
     rw [hd] at h
     simp only [cond_false] at h
     split at h
     · cases h
     · rename_i v1 H1 e
       simp only [Option.some.injEq, Prod.mk.injEq] at h
       obtain ⟨rfl, rfl, rfl⟩ := h
       obtain ⟨a, b⟩ := hc.at e hk
       obtain ⟨S', hS'⟩ := ap_list S _ H1 a rfl
       refine ⟨a, .inr (.inl ⟨_, S', ?_, hK S' _ hS' ⟨hS, hS', hk, a⟩⟩)⟩
       rw [hS, hS']; exact b

theorem stepX_ok {P : Program} {call : XCall} {rd : XRd} (hc : CallOK ρ P call) (hr : RdOK ρ P rd) {dr : Bool} {c : RC} {F : XF} {H H' : XH} {v : XV} {le : XL} (hk : H.ok ρ) (h : stepX P call rd dr c F H = some (v, H', le)) {fr : Fr} {S : List Ob} (hF : Fr.get fr = fm ρ F) (hS : hp S = hpx ρ H)
    {K : AV → List Ob → LE → Prop} (hK : ∀ S' le', hp S' = hpx ρ H' → XLr ρ le le' → K (v.av ρ) S' le') : H'.ok ρ ∧ VC1 P c (Fr.get fr) S K := by
  cases c with
  | op r =>
    simp only [stepX] at h
    split at h
    · cases h
    · rename_i v1 H1 rd1 wr e
      simp only [Option.some.injEq, Prod.mk.injEq] at h
      obtain ⟨rfl, rfl, rfl⟩ := h
      obtain ⟨a, δ, b, c, d⟩ := opX_ok (ρ := ρ) hk e
      have plain : XLr ρ (relog r F H.fs.d v1 (.acc (match (generalizing := false) wr with | none => rd1 | some o => o :: rd1) wr)) (.acc (fpOf rd1 δ) (δ.map (·.1))) → VC1 P (.op r) (Fr.get fr) S K := fun hx => by
        refine .inl ⟨_, rd1, δ, ⟨_, ?_, .refl _⟩, hK _ _ ?_ hx⟩
        · rw [hF, hS]; exact b
        · rw [hp_apS, hS, c]
      have pl : XLr ρ (.acc (match (generalizing := false) wr with | none => rd1 | some o => o :: rd1) wr) (.acc (fpOf rd1 δ) (δ.map (·.1))) := by
        refine ⟨?_, d⟩
        cases δ with
        | none => subst d; rfl
        | some p => subst d; rfl
      refine ⟨a, ?_⟩
      cases hd : H.fs.d with
      | false => rw [hd] at plain; exact plain pl
      | true =>
        rw [hd] at plain
        by_cases hl : ∃ sh x o ver off, r = .load sh x ∧ evx F x = .ptr o ver off
        · obtain ⟨sh, x, o, ver, off, rfl, hx⟩ := hl
          simp only [St] at b
          obtain ⟨b1, rfl⟩ := b
          rw [← evx_ev, hx] at b1
          refine .inr ⟨rfl, _, o, Jl ρ sh o ver off v1, fun τ hτ => ?_, ?_, hK _ _ ?_ ?_⟩
          · obtain ⟨rd, h3⟩ := hτ τ rfl
            refine ⟨rd, _, ?_, .refl _⟩
            simp only [St]
            rw [hF, ← evx_ev, hx]
            exact ⟨h3, trivial⟩
          · rw [hS]; exact Jl_of b1
          · rw [hS, c]; rfl
          · simp only [relog, hd, cond_true, hx]; exact ⟨rfl, rfl⟩
        · refine plain ?_
          have : relog r F true v1 (.acc (match (generalizing := false) wr with | none => rd1 | some o => o :: rd1) wr) = .acc (match (generalizing := false) wr with | none => rd1 | some o => o :: rd1) wr := by
            unfold relog
            rw [cond_true]
            split
            · split
              · rename_i sh x o ver off hx; exact (hl ⟨_, _, _, _, _, rfl, hx⟩).elim
              · rfl
            · rfl
          rw [this]; exact pl
  | call f args =>
    simp only [stepX] at h
    have := callX_ok hc hr hk h hS hK
    rw [evxL_ev, ← hF] at this
    exact this
  | callv x args =>
    simp only [stepX] at h
    simp only [VC1]
    rw [hF, ← evx_ev]
    split at h
    · rename_i f first caps q
      replace h := bif_some h
      obtain ⟨h1, h⟩ := h
      obtain ⟨a, b⟩ := callX_ok hc hr hk h hS hK
      rw [q]
      simp only [XV.av, avs_eq]
      refine ⟨a, h1, ?_⟩
      rw [List.map_append, List.map_append, evxL_ev] at b
      exact b
    · cases h
  | inv x m args =>
    simp only [stepX] at h
    simp only [VC1]
    rw [hF, ← evx_ev]
    split at h
    · rename_i t v0 q
      split at h
      · rename_i f hm
        replace h := bif_some h
        obtain ⟨h1, h⟩ := h
        obtain ⟨a, b⟩ := callX_ok hc hr hk h hS hK
        rw [q]
        simp only [XV.av, hm]
        refine ⟨a, h1, ?_⟩
        rw [List.map_cons, evxL_ev] at b
        exact b
      · rename_i hm
        split at h
        · rename_i f sh hmv
          replace h := bif_some h
          obtain ⟨h1, h⟩ := h
          split at h
          · rename_i x Hx rdx e1
            split at h
            · rename_i y H1 e2
              simp only [Option.some.injEq, Prod.mk.injEq] at h
              obtain ⟨rfl, rfl, rfl⟩ := h
              obtain ⟨_, δ, h3, _, h5⟩ := xLoad_ok (ρ := ρ) hk e1
              obtain ⟨k1, h4⟩ := hc.at e2 hk
              obtain ⟨S', hS'⟩ := ap_list (ρ := ρ) S _ H1 k1 rfl
              rw [q]
              simp only [XV.av, hm]
              refine ⟨k1, ?_⟩
              unfold VCinv
              rw [hmv]
              refine ⟨h1, x.av ρ, rdx, y.av ρ, S', ?_, ?_, hK _ _ hS' ⟨hS, hS', hk, k1⟩⟩
              · rw [hS]; exact h3.1
              · rw [hS, hS']
                rw [List.map_cons, evxL_ev] at h4
                exact h4
            · cases h
          · cases h
        · cases h
    · cases h

theorem callX_k {P : Program} {call : XCall} {rd : XRd} (hc : CallOK ρ P call) (hr : RdOK ρ P rd) {dr : Bool} {f : FuncId} {args : List XV} {H H' : XH} {v : XV} {le : XL} (hk : H.ok ρ) (h : callX call rd dr f args H = some (v, H', le)) : H'.ok ρ := by
  obtain ⟨S, hS⟩ := ap_list (ρ := ρ) [] _ H hk rfl
  exact (callX_ok hc hr hk h hS (K := fun _ _ _ => True) (fun _ _ _ _ => trivial)).1
theorem stepX_k {P : Program} {call : XCall} {rd : XRd} (hc : CallOK ρ P call) (hr : RdOK ρ P rd) {dr : Bool} {c : RC} {F : XF} {H H' : XH} {v : XV} {le : XL} (hk : H.ok ρ) (h : stepX P call rd dr c F H = some (v, H', le)) : H'.ok ρ := by
  cases c with
  | op r =>
    simp only [stepX] at h
    split at h
    · cases h
    · rename_i v1 H1 rd1 wr e
      simp only [Option.some.injEq, Prod.mk.injEq] at h
      obtain ⟨rfl, rfl, rfl⟩ := h
      exact (opX_ok (ρ := ρ) hk e).1
  | call f args => exact callX_k hc hr hk h
  | callv x args =>
    simp only [stepX] at h
    split at h
    · exact callX_k hc hr hk (bif_some h).2
    · cases h
  | inv x m args =>
    simp only [stepX] at h
    split at h
    · split at h
      · exact callX_k hc hr hk (bif_some h).2
      · split at h
        · replace h := (bif_some h).2
          split at h
          · split at h
            · rename_i e2
              simp only [Option.some.injEq, Prod.mk.injEq] at h
              obtain ⟨rfl, rfl, rfl⟩ := h
              exact (hc.at e2 hk).1
            · cases h
          · cases h
        · cases h
    · cases h

theorem opsX_ok {P : Program} {call : XCall} {rd : XRd} (hc : CallOK ρ P call) (hr : RdOK ρ P rd) {dr : Bool} {F' : XF} {H' : XH} {log' : List XL} : ∀ (rs : List ROper) (F : XF) (H : XH) (log : List XL), H.ok ρ → opsX P call rd dr rs F H log = some (F', H', log') → H'.ok ρ ∧
    ∀ (fr : Fr) (S : List Ob) (logA : List LE) (K : Fr → List Ob → List LE → Prop), Fr.get fr = fm ρ F → hp S = hpx ρ H → LogR ρ log logA → (∀ fr' S' logA', Fr.get fr' = fm ρ F' → hp S' = hpx ρ H' → LogR ρ log' logA' → K fr' S' logA') → VCops P rs fr S logA K
  | [], F, H, log, hk, h => by
    simp only [opsX, Option.some.injEq, Prod.mk.injEq] at h
    obtain ⟨rfl, rfl, rfl⟩ := h
    exact ⟨hk, fun fr S logA K h1 h2 h3 hK => hK _ _ _ h1 h2 h3⟩
  | o :: r, F, H, log, hk, h => by
    have stp : ∀ v H1 le, stepX P call rd dr o.c F H = some (v, H1, le) → opsX P call rd dr r (putXF F o.dst v) H1 (le :: log) = some (F', H', log') → H'.ok ρ ∧
        ∀ (fr : Fr) (S : List Ob) (logA : List LE) (K : Fr → List Ob → List LE → Prop), Fr.get fr = fm ρ F → hp S = hpx ρ H → LogR ρ log logA → (∀ fr' S' logA', Fr.get fr' = fm ρ F' → hp S' = hpx ρ H' → LogR ρ log' logA' → K fr' S' logA') →
          VC1 P o.c (Fr.get fr) S fun v S' le => VCops P r (putF fr o.dst v) S' (le :: logA) K := fun v H1 le e1 e2 => by
      have k1 : H1.ok ρ := stepX_k (ρ := ρ) hc hr hk e1
      obtain ⟨i1, i2⟩ := opsX_ok hc hr r _ H1 _ k1 e2
      refine ⟨i1, fun fr S logA K h1 h2 h3 hK => ?_⟩
      refine (stepX_ok hc hr hk e1 h1 h2 (fun S' le' q1 q2 => ?_)).2
      exact i2 _ _ _ _ (by rw [get_putF, h1, fm_put]) q1 ⟨le', logA, rfl, q2, h3⟩ hK
    have off : ∀ (want : Option Nat), opsX P call rd dr r (putXF F o.dst (.tup [])) H (.acc [] none :: log) = some (F', H', log') → H'.ok ρ ∧
        ∀ (fr : Fr) (S : List Ob) (logA : List LE) (K : Fr → List Ob → List LE → Prop), Fr.get fr = fm ρ F → hp S = hpx ρ H → LogR ρ log logA → (∀ fr' S' logA', Fr.get fr' = fm ρ F' → hp S' = hpx ρ H' → LogR ρ log' logA' → K fr' S' logA') →
          VCops P r (putF fr o.dst (.tup [])) S (.acc [] none :: logA) K := fun _ e2 => by
      obtain ⟨i1, i2⟩ := opsX_ok hc hr r _ H _ hk e2
      refine ⟨i1, fun fr S logA K h1 h2 h3 hK => ?_⟩
      exact i2 _ _ _ _ (by rw [get_putF, h1, fm_put]; simp [XV.av, XV.avs]) h2 ⟨_, logA, rfl, ⟨rfl, rfl⟩, h3⟩ hK
    simp only [opsX] at h
    split at h
    · rename_i hg
      split at h
      · cases h
      · rename_i v H1 le e1
        obtain ⟨a, b⟩ := stp _ _ _ e1 h
        refine ⟨a, fun fr S logA K h1 h2 h3 hK => ?_⟩
        simp only [VCops, hg]
        exact b fr S logA K h1 h2 h3 hK
    · rename_i t want hg
      split at h
      · rename_i b hb
        have hbv : fm ρ F t = .bool b := by simp [fm, hb, XV.av]
        cases hbw : beqB b want
        · rw [hbw, cond_false] at h
          obtain ⟨a, c⟩ := off none h
          refine ⟨a, fun fr S logA K h1 h2 h3 hK => ?_⟩
          simp only [VCops, hg]
          rw [h1, hbv]
          refine ⟨fun e => ?_, fun _ => c fr S logA K h1 h2 h3 hK⟩
          subst e
          rw [beqB_eq] at hbw; simp at hbw
        · rw [hbw, cond_true] at h
          split at h
          · cases h
          · rename_i v H1 le e1
            obtain ⟨a, c⟩ := stp _ _ _ e1 h
            refine ⟨a, fun fr S logA K h1 h2 h3 hK => ?_⟩
            simp only [VCops, hg]
            rw [h1, hbv]
            refine ⟨fun _ => ?_, fun e => ?_⟩
            · have := c fr S logA K h1 h2 h3 hK
              rw [h1] at this
              exact this
            · subst e
              rw [beqB_eq] at hbw
              cases want <;> simp at hbw
      · rename_i ht
        obtain ⟨a, c⟩ := off none h
        have htv : fm ρ F t = .tup [] := by simp [fm, ht, XV.av, XV.avs]
        refine ⟨a, fun fr S logA K h1 h2 h3 hK => ?_⟩
        simp only [VCops, hg]
        rw [h1, htv]
        exact c fr S logA K h1 h2 h3 hK
      · cases h

/-! ### orders -/
theorem memN_eq (o : Nat) : ∀ (l : List Nat), memN o l = true ↔ o ∈ l
  | [] => by simp [memN]
  | x :: r => by
    simp only [memN, Bool.or_eq_true, memN_eq o r, List.mem_cons]
    constructor
    · rintro (h | h)
      · exact .inl (Nat.eq_of_beq_eq_true h)
      · exact .inr h
    · rintro (h | h)
      · subst h; exact .inl (Nat.beq_refl _)
      · exact .inr h
theorem wrOut_ok {wr : Option Nat} {fp : List Nat} (h : wrOut wr fp = true) : match (generalizing := false) wr with | none => True | some o => o ∉ fp := by
  cases wr with
  | none => trivial
  | some o =>
    simp only [wrOut, Bool.not_eq_true'] at h
    intro hm
    rw [(memN_eq o fp).2 hm] at h; cases h
theorem sameV_ok : ∀ (x y : XV), sameV x y = true → x.av ρ = y.av ρ
  | .int k a, y, h => by
    cases y <;> simp [sameV, ieq_eq] at h
    rw [keq_eq h.1, h.2]
  | .sym k a, y, h => by
    cases y <;> simp [sameV] at h
    simp only [XV.av]; rw [keq_eq h.1, SE.eq_val h.2]
  | .bool a, y, h => by
    cases y <;> simp [sameV, beqB_eq] at h
    rw [h]
  | .str a, y, h => by
    cases y <;> simp [sameV, leq_eq] at h
    simp [XV.av, strB, h]
  | .nilp, y, h => by cases y <;> simp [sameV] at h; rfl
  | .ptr o v f, y, h => by
    cases y <;> simp only [sameV, Bool.and_eq_true, Bool.false_eq_true] at h
    rw [Nat.eq_of_beq_eq_true h.1, Nat.eq_of_beq_eq_true h.2.1, Nat.eq_of_beq_eq_true h.2.2]
  | .nils, y, h => by cases y <;> simp [sameV] at h; rfl
  | .ref o v f n e, y, h => by
    cases y <;> simp only [sameV, Bool.and_eq_true, Bool.false_eq_true] at h
    rw [Nat.eq_of_beq_eq_true h.1, Nat.eq_of_beq_eq_true h.2.1, Nat.eq_of_beq_eq_true h.2.2.1, Nat.eq_of_beq_eq_true h.2.2.2.1, oeq_eq h.2.2.2.2]
  | .nilf, y, h => by cases y <;> simp [sameV] at h; rfl
  | .fn f a b, y, h => by
    cases f with
    | func f =>
      cases y <;> (try simp only [sameV, Bool.false_eq_true] at h)
      rename_i f' a' b'
      cases f' <;> simp only [sameV, Bool.and_eq_true, Bool.false_eq_true] at h
      simp only [XV.av, avs_eq]
      rw [Nat.eq_of_beq_eq_true h.1, sameVs_ok a a' h.2.1, sameVs_ok b b' h.2.2]
    | _ => cases y <;> simp [sameV] at h
  | .nili, y, h => by cases y <;> simp [sameV] at h; rfl
  | .mp _, y, h => by cases y <;> simp [sameV] at h; rw [h]
  | .itr _, y, h => by cases y <;> simp [sameV] at h; rw [h]
  | .iface t v, y, h => by
    cases y <;> simp only [sameV, Bool.and_eq_true, Bool.false_eq_true] at h
    simp only [XV.av]
    rw [Nat.eq_of_beq_eq_true h.1, sameV_ok v _ h.2]
  | .agg a, y, h => by
    cases y <;> simp only [sameV, Bool.false_eq_true] at h
    simp only [XV.av, avs_eq]
    rw [sameVs_ok a _ h]
  | .cptr a f, y, h => by
    cases y <;> simp only [sameV, Bool.and_eq_true, Bool.false_eq_true] at h
    simp only [XV.av, avs_eq]
    rw [Nat.eq_of_beq_eq_true h.1, sameVs_ok a _ h.2]
  | .sl e n a, y, h => by
    cases y <;> simp only [sameV, Bool.and_eq_true, Bool.false_eq_true] at h
    rw [beqB_eq] at h
    simp only [XV.av, avs_eq]
    rw [show e = _ by simpa using h.1, Nat.eq_of_beq_eq_true h.2.1, sameVs_ok a _ h.2.2]
  | .slt e n a, y, h => by
    cases y <;> simp only [sameV, Bool.and_eq_true, Bool.false_eq_true] at h
    rw [beqB_eq] at h
    simp only [XV.av, avs_eq]
    rw [show e = _ by simpa using h.1, Nat.eq_of_beq_eq_true h.2.1, sameVs_ok a _ h.2.2]
  | .lenT _, y, h => by cases y <;> simp [sameV] at h
  | .tup a, y, h => by
    cases y <;> simp only [sameV, Bool.false_eq_true] at h
    simp only [XV.av, avs_eq]
    rw [sameVs_ok a _ h]
  | .lit _, y, h => by cases y <;> simp [sameV] at h
  | .junk, y, h => by cases y <;> simp [sameV] at h
where sameVs_ok : ∀ (xs ys : List XV), sameVs xs ys = true → xs.map (XV.av ρ) = ys.map (XV.av ρ)
  | [], ys, h => by cases ys <;> simp [sameVs] at h; rfl
  | x :: xs, ys, h => by
    cases ys <;> simp only [sameVs, Bool.and_eq_true, Bool.false_eq_true] at h
    simp only [List.map_cons]
    rw [sameV_ok x _ h.1, sameVs_ok xs _ h.2]
theorem sameOb_ok {H H' : XH} {o : Nat} (h : sameOb H H' o = true) : hpx ρ H' o = hpx ρ H o := by
  unfold sameOb at h
  split at h
  · rename_i x y e1 e2
    simp only [Bool.and_eq_true] at h
    obtain ⟨h1, h2, h3⟩ := h
    have h1 := Nat.eq_of_beq_eq_true h1
    have h2 := Nat.eq_of_beq_eq_true h2
    split at h3
    · rename_i xs ys ex ey
      have h4 := sameV_ok.sameVs_ok (ρ := ρ) _ _ h3
      have c1 := cells_rd (ρ := ρ) ex (by omega)
      have c2 := cells_rd (ρ := ρ) ey (by omega)
      rw [List.drop_zero, List.take_of_length_le (by rw [XO.len_cells]; omega)] at c1 c2
      simp only [hpx, e1, e2]
      rw [← c1, ← c2, h4, h1]
    · cases h3
  · cases h
theorem sameObs_ok {H H' : XH} : ∀ {fp : List Nat}, sameObs H H' fp = true → ∀ o ∈ fp, hpx ρ H' o = hpx ρ H o
  | [], _, o, ho => by simp at ho
  | x :: r, h, o, ho => by
    simp only [sameObs, Bool.and_eq_true] at h
    rcases List.mem_cons.1 ho with e | e
    · subst e; exact sameOb_ok h.1
    · exact sameObs_ok h.2 o e
theorem ldOK_ok {sh : Option Nat} {o ver off : Nat} {v : XV} {H : XH} (hk : H.ok ρ) (h : ldOK sh o ver off v H = true) : Jl ρ sh o ver off v (hpx ρ H o) := by
  unfold ldOK at h
  split at h
  · rename_i v' p e
    obtain ⟨H1, rd, wr⟩ := p
    obtain ⟨_, δ, ⟨h1, _⟩, _⟩ := xLoad_ok (ρ := ρ) hk e
    rw [sameV_ok _ _ h] at h1
    exact Jl_of h1
  · cases h
theorem wrNe_ok {o : Nat} {wr : Option Nat} (h : wrNe o wr = true) : wr ≠ some o := by
  intro e
  subst e
  simp [wrNe] at h
theorem sameLow_ok {st : Nat} {H H' : XH} : ∀ {l : List Nat}, sameLow st H H' l = true → ∀ o ∈ l, o < st → hpx ρ H' o = hpx ρ H o
  | [], _, o, ho, _ => by simp at ho
  | x :: r, h, o, ho, hl => by
    simp only [sameLow, Bool.and_eq_true, Bool.or_eq_true] at h
    rcases List.mem_cons.1 ho with e | e
    · subst e
      rcases h.1 with h1 | h1
      · have := Nat.le_of_ble_eq_true h1; omega
      · exact sameOb_ok h1
    · exact sameLow_ok h.2 o e hl
theorem pairX_ok {x y : XL} {a b : LE} (h : pairX x y = true) (hx : XLr ρ x a) (hy : XLr ρ y b) : okPair a b := by
  have eff : ∀ H H' fp wr S S', effOK H H' fp wr = true → hp S = hpx ρ H → hp S' = hpx ρ H' → wr = none ∧ ∀ o ∈ fp, hp S' o = hp S o := fun H H' fp wr S S' h e1 e2 => by
    unfold effOK at h
    split at h
    · refine ⟨rfl, fun o ho => ?_⟩
      rw [e1, e2]; exact sameObs_ok h o ho
    · cases h
  have ldp : ∀ (H H' : XH) sh o ver off v S S', H.ok ρ → H'.ok ρ → (ldOK sh o ver off v H && ldOK sh o ver off v H') = true → hp S = hpx ρ H → hp S' = hpx ρ H' → Jl ρ sh o ver off v (hp S o) ∧ Jl ρ sh o ver off v (hp S' o) := fun H H' sh o ver off v S S' k1 k2 h e1 e2 => by
    simp only [Bool.and_eq_true] at h
    rw [e1, e2]
    exact ⟨ldOK_ok k1 h.1, ldOK_ok k2 h.2⟩
  have efs : ∀ H H' st fp wr S S', (sameLow st H H' fp && wrBey st wr) = true → hp S = hpx ρ H → hp S' = hpx ρ H' → (∀ o ∈ fp, o < st → hp S' o = hp S o) ∧ (∀ o, wr = some o → st ≤ o) := fun H H' st fp wr S S' h e1 e2 => by
    simp only [Bool.and_eq_true] at h
    refine ⟨fun o ho hl => ?_, fun o ho => ?_⟩
    · rw [e1, e2]; exact sameLow_ok h.1 o ho hl
    · subst ho; exact Nat.le_of_ble_eq_true h.2
  cases x <;> cases a <;> simp only [XLr] at hx <;> cases y <;> cases b <;> simp only [XLr] at hy <;> simp only [pairX] at h
  all_goals first
    | (exact absurd h (by decide))
    | trivial
    | (obtain ⟨rfl, rfl⟩ := hx; obtain ⟨h1, h2, k1, k2⟩ := hy; exact ldp _ _ _ _ _ _ _ _ _ k1 k2 h h1 h2)
    | (obtain ⟨rfl, rfl⟩ := hy; obtain ⟨h1, h2, k1, k2⟩ := hx; exact ldp _ _ _ _ _ _ _ _ _ k1 k2 h h1 h2)
    | (obtain ⟨rfl, rfl⟩ := hx; obtain ⟨h1, h2, rfl, k1, k2⟩ := hy; exact ldp _ _ _ _ _ _ _ _ _ k1 k2 h h1 h2)
    | (obtain ⟨rfl, rfl⟩ := hy; obtain ⟨h1, h2, rfl, k1, k2⟩ := hx; exact ldp _ _ _ _ _ _ _ _ _ k1 k2 h h1 h2)
    | (obtain ⟨rfl, rfl⟩ := hx; obtain ⟨rfl, rfl⟩ := hy; exact wrNe_ok h)
    | (obtain ⟨rfl, rfl⟩ := hx; obtain ⟨rfl, rfl⟩ := hy; simp only [Bool.and_eq_true] at h; exact ⟨wrOut_ok h.1, wrOut_ok h.2⟩)
    | (obtain ⟨rfl, rfl⟩ := hx; exact eff _ _ _ _ _ _ h hy.1 hy.2.1)
    | (obtain ⟨rfl, rfl⟩ := hy; exact eff _ _ _ _ _ _ h hx.1 hx.2.1)
    | (obtain ⟨rfl, rfl⟩ := hx; obtain ⟨h1, h2, rfl, _, _⟩ := hy; exact efs _ _ _ _ _ _ _ h h1 h2)
    | (obtain ⟨rfl, rfl⟩ := hy; obtain ⟨h1, h2, rfl, _, _⟩ := hx; exact efs _ _ _ _ _ _ _ h h1 h2)
theorem LogR.append {xs ys : List XL} : ∀ {a b : List LE}, LogR ρ xs a → LogR ρ ys b → LogR ρ (xs ++ ys) (a ++ b) := by
  induction xs with
  | nil => intro a b h k; simp only [LogR] at h; subst h; exact k
  | cons x xs ih =>
    intro a b h k
    obtain ⟨l, ls, rfl, h1, h2⟩ := h
    exact ⟨l, ls ++ b, rfl, h1, ih h2 k⟩
theorem LogR.reverse : ∀ {xs : List XL} {a : List LE}, LogR ρ xs a → LogR ρ xs.reverse a.reverse
  | [], a, h => by simp only [LogR] at h; subst h; rfl
  | x :: xs, a, h => by
    obtain ⟨l, ls, rfl, h1, h2⟩ := h
    rw [List.reverse_cons, List.reverse_cons]
    exact (LogR.reverse h2).append ⟨l, [], rfl, h1, rfl⟩
theorem LogR.nth : ∀ {xs : List XL} {a : List LE} (i : Nat), LogR ρ xs a → XLr ρ (nthX' xs i) (a.getD i (.acc [] none))
  | [], a, i, h => by simp only [LogR] at h; subst h; cases i <;> exact ⟨rfl, rfl⟩
  | x :: xs, a, 0, h => by obtain ⟨l, ls, rfl, h1, h2⟩ := h; exact h1
  | x :: xs, a, i + 1, h => by
    obtain ⟨l, ls, rfl, h1, h2⟩ := h
    have := LogR.nth i h2
    simpa [nthX'] using this
theorem logX_ok {log : List XL} {logA : List LE} (hl : LogR ρ log logA) : ∀ {pairs : List (Nat × Nat)}, logX pairs log.reverse = true → okLog pairs logA
  | [], _ => trivial
  | (i, j) :: ps, h => by
    simp only [logX, Bool.and_eq_true] at h
    exact ⟨pairX_ok h.1 (LogR.nth i hl.reverse) (LogR.nth j hl.reverse), logX_ok hl h.2⟩

/-! ### code -/
def exitOf : XE → Exit
  | .normal => .normal
  | .exit i => .exit i
  | .ret => .ret
/-- What code comes to, from one frame and heap. -/
def CodeOK (ρ : Env) (P : Program) (fc : FC) (F : XF) (H : XH) (e : XE) (F' : XF) (H' : XH) : Prop :=
  H'.ok ρ ∧ ∀ (S0 : List Ob) (fr : Fr) (S : List Ob) (K : Post), Fr.get fr = fm ρ F → hp S = hpx ρ H → (∀ fr' S', Fr.get fr' = fm ρ F' → hp S' = hpx ρ H' → K (exitOf e) fr' S') → VC P S0 fc fr S K
theorem wk_refl {S0 S : List Ob} {fr : Fr} : Wk S0 fr S fr S := fun _ _ _ _ h => h
theorem exX_ok {P : Program} {call : XCall} {rd : XRd} (hc : CallOK ρ P call) (hr : RdOK ρ P rd) : ∀ (fc : FC) (F : XF) (H : XH) (e : XE) (F' : XF) (H' : XH), H.ok ρ → exX P call rd fc F H = some (e, F', H') → CodeOK ρ P fc F H e F' H' := by
  intro fc
  induction fc with
  | skip =>
    intro F H e F' H' hk h
    simp only [exX, Option.some.injEq, Prod.mk.injEq] at h
    obtain ⟨rfl, rfl, rfl⟩ := h
    exact ⟨hk, fun S0 fr S K h1 h2 hK => hK _ _ h1 h2⟩
  | reg rs pairs =>
    intro F H e F' H' hk h
    simp only [exX] at h
    split at h
    · split at h
      · cases h
      · rename_i F1 H1 log e1
        simp only [Option.some.injEq, Prod.mk.injEq] at h
        obtain ⟨rfl, rfl, rfl⟩ := h
        obtain ⟨a, b⟩ := opsX_ok (ρ := ρ) hc hr rs F H [] hk e1
        refine ⟨a, fun S0 fr S K h1 h2 hK => ?_⟩
        simp only [VC]
        exact b fr S [] _ h1 h2 rfl (fun fr' S' logA' q1 q2 q3 => ⟨trivial, hK _ _ q1 q2⟩)
    · rename_i p ps
      split at h
      · cases h
      · rename_i F1 H1 log e1
        cases hlog : logX (p :: ps) log.reverse with
        | false =>
          rw [hlog] at h
          simp only [cond_false, twiceX] at h
          split at h
          · cases h
          · rename_i F2 H2 log2 e2
            obtain ⟨hlog2, h⟩ := bif_some h
            simp only [Option.some.injEq, Prod.mk.injEq] at h
            obtain ⟨rfl, rfl, rfl⟩ := h
            obtain ⟨a, b⟩ := opsX_ok (ρ := ρ) hc hr rs F (H.dbl H.fs.n true) [] hk e2
            refine ⟨a, fun S0 fr S K h1 h2 hK => ?_⟩
            simp only [VC]
            exact b fr S [] _ h1 h2 rfl (fun fr' S' logA' q1 q2 q3 => ⟨logX_ok q3 hlog2, hK _ _ q1 q2⟩)
        | true =>
        rw [hlog] at h
        simp only [cond_true, Option.some.injEq, Prod.mk.injEq] at h
        obtain ⟨rfl, rfl, rfl⟩ := h
        obtain ⟨a, b⟩ := opsX_ok (ρ := ρ) hc hr rs F H [] hk e1
        refine ⟨a, fun S0 fr S K h1 h2 hK => ?_⟩
        simp only [VC]
        exact b fr S [] _ h1 h2 rfl (fun fr' S' logA' q1 q2 q3 => ⟨logX_ok q3 hlog, hK _ _ q1 q2⟩)
  | seq a b iha ihb =>
    intro F H e F' H' hk h
    simp only [exX] at h
    split at h
    · rename_i F1 H1 e1
      obtain ⟨k1, v1⟩ := iha _ _ _ _ _ hk e1
      obtain ⟨k2, v2⟩ := ihb _ _ _ _ _ k1 h
      refine ⟨k2, fun S0 fr S K h1 h2 hK => ?_⟩
      simp only [VC]
      refine v1 S0 fr S _ h1 h2 (fun fr' S' q1 q2 => ?_)
      exact ⟨fr', S', wk_refl, v2 S0 fr' S' K q1 q2 hK⟩
    · rename_i hne
      obtain ⟨k1, v1⟩ := iha _ _ _ _ _ hk h
      refine ⟨k1, fun S0 fr S K h1 h2 hK => ?_⟩
      simp only [VC]
      refine v1 S0 fr S _ h1 h2 (fun fr' S' q1 q2 => ?_)
      cases e with
      | normal => exact (hne _ _ h).elim
      | exit i => exact hK _ _ q1 q2
      | ret => exact hK _ _ q1 q2
  | cond c a b iha ihb =>
    intro F H e F' H' hk h
    simp only [exX] at h
    split at h
    · rename_i t hq
      have hv : ev (fm ρ F) c = .bool t := by rw [← evx_ev, hq]; rfl
      cases t with
      | true =>
        obtain ⟨k1, v1⟩ := iha _ _ _ _ _ hk h
        refine ⟨k1, fun S0 fr S K h1 h2 hK => ?_⟩
        simp only [VC]
        rw [h1, hv]
        exact ⟨fun _ => v1 S0 fr S K h1 h2 hK, nofun⟩
      | false =>
        obtain ⟨k1, v1⟩ := ihb _ _ _ _ _ hk h
        refine ⟨k1, fun S0 fr S K h1 h2 hK => ?_⟩
        simp only [VC]
        rw [h1, hv]
        exact ⟨nofun, fun _ => v1 S0 fr S K h1 h2 hK⟩
    · cases h
  | block i a iha =>
    intro F H e F' H' hk h
    simp only [exX] at h
    split at h
    · rename_i j F1 H1 e1
      obtain ⟨k1, v1⟩ := iha _ _ _ _ _ hk e1
      cases hj : Nat.beq j i
      · rw [hj] at h
        simp only [cond_false, Option.some.injEq, Prod.mk.injEq] at h
        obtain ⟨rfl, rfl, rfl⟩ := h
        refine ⟨k1, fun S0 fr S K h1 h2 hK => ?_⟩
        simp only [VC]
        refine v1 S0 fr S _ h1 h2 (fun fr' S' q1 q2 => ?_)
        simp only [exitOf, Post.blk]
        rw [if_neg]
        · exact hK _ _ q1 q2
        · intro e; subst e; rw [Nat.beq_refl] at hj; cases hj
      · rw [hj] at h
        simp only [cond_true, Option.some.injEq, Prod.mk.injEq] at h
        obtain ⟨rfl, rfl, rfl⟩ := h
        have := Nat.eq_of_beq_eq_true hj
        subst this
        refine ⟨k1, fun S0 fr S K h1 h2 hK => ?_⟩
        simp only [VC]
        refine v1 S0 fr S _ h1 h2 (fun fr' S' q1 q2 => ?_)
        simp only [exitOf, Post.blk, if_true]
        exact hK _ _ q1 q2
    · rename_i hne
      obtain ⟨k1, v1⟩ := iha _ _ _ _ _ hk h
      refine ⟨k1, fun S0 fr S K h1 h2 hK => ?_⟩
      simp only [VC]
      refine v1 S0 fr S _ h1 h2 (fun fr' S' q1 q2 => ?_)
      cases e with
      | normal => exact hK _ _ q1 q2
      | exit i => exact (hne _ _ _ h).elim
      | ret => exact hK _ _ q1 q2
  | loop a iha =>
    intro F H e F' H' hk h
    simp only [exX] at h
    split at h
    · rename_i m hm
      obtain ⟨k1, rfl, k2⟩ := mapX_ok hk h
      exact ⟨k1, fun S0 fr S K h1 h2 hK => k2 P a hm S0 fr S K h1 h2 hK⟩
    have key : ∀ n F H, H.ok ρ → loopX (exX P call rd a) n F H = some (e, F', H') → H'.ok ρ := by
      intro n
      induction n with
      | zero => intro F H _ h; simp [loopX] at h
      | succ n ih =>
        intro F H hk h
        simp only [loopX] at h
        split at h
        · rename_i F1 H1 e1
          exact ih _ _ (iha _ _ _ _ _ hk e1).1 h
        · exact (iha _ _ _ _ _ hk h).1
    refine ⟨key _ _ _ hk h, fun S0 fr S K h1 h2 hK => ?_⟩
    simp only [VC]
    refine ⟨Nat × Fr × List Ob, fun i => i.2.1, fun i => i.2.2, fun i => ∃ F H, H.ok ρ ∧ Fr.get i.2.1 = fm ρ F ∧ hp i.2.2 = hpx ρ H ∧ loopX (exX P call rd a) i.1 F H = some (e, F', H'), fun i => i.1, (1000000000, fr, S), ⟨F, H, hk, h1, h2, h⟩, wk_refl, ?_⟩
    rintro ⟨n, fr1, S1⟩ ⟨F1, H1, k1, q1, q2, q3⟩
    cases n with
    | zero => simp [loopX] at q3
    | succ n =>
      simp only [loopX] at q3
      split at q3
      · rename_i F2 H2 e2
        obtain ⟨k2, v2⟩ := iha _ _ _ _ _ k1 e2
        refine v2 S0 fr1 S1 _ q1 q2 (fun fr' S' r1 r2 => ?_)
        exact ⟨(n, fr', S'), ⟨F2, H2, k2, r1, r2, q3⟩, Nat.lt_succ_self n, wk_refl⟩
      · rename_i hne
        obtain ⟨k2, v2⟩ := iha _ _ _ _ _ k1 q3
        refine v2 S0 fr1 S1 _ q1 q2 (fun fr' S' r1 r2 => ?_)
        cases e with
        | normal => exact (hne _ _ q3).elim
        | exit i => exact hK _ _ r1 r2
        | ret => exact hK _ _ r1 r2
  | exit i =>
    intro F H e F' H' hk h
    simp only [exX, Option.some.injEq, Prod.mk.injEq] at h
    obtain ⟨rfl, rfl, rfl⟩ := h
    exact ⟨hk, fun S0 fr S K h1 h2 hK => hK _ _ h1 h2⟩
  | ret =>
    intro F H e F' H' hk h
    simp only [exX, Option.some.injEq, Prod.mk.injEq] at h
    obtain ⟨rfl, rfl, rfl⟩ := h
    exact ⟨hk, fun S0 fr S K h1 h2 hK => hK _ _ h1 h2⟩
  | nxr a b it =>
    intro F H e F' H' hk h
    simp only [exX] at h
    cases h
  | scp a iha =>
    intro F H e F' H' hk h
    simp only [exX] at h
    obtain ⟨k1, v1⟩ := iha _ _ _ _ _ hk h
    refine ⟨k1, fun S0 fr S K h1 h2 hK => ?_⟩
    simp only [VC]
    refine v1 S0 fr S _ h1 h2 (fun fr' S' q1 q2 => ?_)
    cases e <;> exact hK _ _ q1 q2

/-! ### calls -/
theorem oneX_ok {F : XF} {H : XH} (hk : H.ok ρ) {t : RS} {v : XV} (h : oneX F H t = some v) : oneR (hpx ρ H) (fm ρ F) t (v.av ρ) := by
  obtain ⟨t, s⟩ := t
  cases s with
  | none => simp only [oneX, Option.some.injEq] at h; subst h; rfl
  | some sh =>
    simp only [oneX] at h
    split at h
    · rename_i v1 p e
      cases h
      obtain ⟨H1, rd, wr⟩ := p
      obtain ⟨_, δ, ⟨h1, _⟩, _⟩ := xLoad_ok (ρ := ρ) hk e
      exact ⟨rd, h1⟩
    · cases h
theorem manyX_ok {F : XF} {H : XH} (hk : H.ok ρ) : ∀ {ts : List RS} {vs : List XV}, manyX F H ts = some vs → manyR (hpx ρ H) (fm ρ F) ts (vs.map (XV.av ρ))
  | [], vs, h => by simp [manyX] at h; subst h; rfl
  | t :: r, vs, h => by
    simp only [manyX] at h
    split at h
    · cases h
    · rename_i v hv
      split at h
      · cases h
      · rename_i vs' hvs
        cases h
        exact ⟨_, _, oneX_ok hk hv, manyX_ok hk hvs, rfl⟩
theorem retX_ok {F : XF} {H : XH} (hk : H.ok ρ) {ts : List RS} {v : XV} (h : retX F H ts = some v) : retR (hpx ρ H) (fm ρ F) ts (v.av ρ) := by
  unfold retX at h
  split at h
  · exact oneX_ok hk h
  · rename_i hne
    split at h
    · rename_i l hl
      cases h
      have := manyX_ok (ρ := ρ) hk hl
      unfold retR
      split
      · rename_i t; exact (hne t rfl).elim
      · exact ⟨_, this, by simp [XV.av, avs_eq]⟩
    · cases h

def CodesOK (P : Program) (code : FuncId → Option (Nat × List RS × FC)) : Prop := ∀ f n ts fc, code f = some (n, ts, fc) → Fn3 P f n ts fc
theorem codeOf_ok (P : Program) : CodesOK P (codeOf P) := by
  intro f n ts fc h
  unfold codeOf at h
  split at h
  · cases h
  · rename_i fn hf
    split at h
    · cases h
    · rename_i c hb
      split at h
      · cases h
      · rename_i ts' hts
        split at h
        · cases h
        · rename_i fc' hfc
          simp only [Option.some.injEq, Prod.mk.injEq] at h
          obtain ⟨rfl, rfl, rfl⟩ := h
          exact ⟨fn, c, hf, hb, rfl, hts, hfc⟩
def OvOK (ρ : Env) (P : Program) (ov : FuncId → List XV → Option (Option XV)) : Prop := ∀ f args v, ov f args = some (some v) → ∀ σ, Ev P f (args.map (XV.av ρ)) σ (v.av ρ) σ
def OvH (ρ : Env) (P : Program) (ov : OvT) : Prop := ∀ f args H r, ov f args H = some (some r) → ∀ φ N h, H.ok (ρ.fr φ N h) → r.2.ok (ρ.fr φ N h) ∧ Ev P f (args.map (XV.av ρ)) (hpx (ρ.fr φ N h) H) (r.1.av ρ) (hpx (ρ.fr φ N h) r.2)
theorem OvH.frm {P : Program} {ov : OvT} (h : OvH ρ P ov) {φ N h'} : OvH (ρ.fr φ N h') P ov := fun f args H r e φ' N' h'' hk => by
  have := h f args H r e φ' N' h'' hk
  simp only [av_fr]
  exact this
theorem OvH.at {P : Program} {ov : OvT} (hov : OvH ρ P ov) {f args} {H : XH} {r : XV × XH} (e : ov f args H = some (some r)) (hk : H.ok ρ) : r.2.ok ρ ∧ Ev P f (args.map (XV.av ρ)) (hpx ρ H) (r.1.av ρ) (hpx ρ r.2) :=
  hov f args H r e ρ.φ ρ.N ρ.hφ hk
def PvOK (ρ : Env) (P : Program) (pv : PvT) : Prop := ∀ f args v, pv f args = some v → ∀ σ, Ev P f (args.map (XV.av ρ)) σ (v.av ρ) σ
theorem PvOK.frm {P : Program} {pv : PvT} (h : PvOK ρ P pv) {φ N h'} : PvOK (ρ.fr φ N h') P pv := fun f args v e σ => by
  simp only [av_fr]
  exact h f args v e σ
theorem rdK_ok {P : Program} {pv : PvT} (hpv : PvOK ρ P pv) : RdOK ρ P (rdK pv P) := fun f args H v M h hk => by
  unfold rdK at h
  split at h
  · rename_i v' e
    cases h
    exact fun τ _ => hpv f args _ e τ
  · exact rdCall_ok hk h
theorem runX_step {P : Program} {pv : PvT} (hpv : PvOK ρ P pv) (hm : P.follows .mixedOrders = true) {code : FuncId → Option (Nat × List RS × FC)} (hcode : CodesOK P code) {ov : OvT} (hov : OvH ρ P ov) {d : Nat} (ih : CallOK ρ P (runX P pv code ov d)) :
    ∀ f args (H : XH) v H', runX P pv code ov (d + 1) f args H = some (v, H') → H.ok ρ → H'.ok ρ ∧ Ev P f (args.map (XV.av ρ)) (hpx ρ H) (v.av ρ) (hpx ρ H') := by
    intro f args H v H' h hk
    simp only [runX] at h
    split at h
    · rename_i r e
      simp only [Option.some.injEq] at h
      subst h
      exact hov.at e hk
    · cases h
    · split at h
      · cases h
      · rename_i n ts fc hcf
        replace h := bif_some h
        obtain ⟨hn, h⟩ := h
        have hn := Nat.le_of_ble_eq_true hn
        rw [lenX_eq] at hn
        have hrd : RdOK ρ P (rdK pv P) := rdK_ok hpv
        have fin : ∀ e F1 H1, exX P (runX P pv code ov d) (rdK pv P) fc (XF.ofL args .nil 0) H = some (e, F1, H1) → isRet (exitOf e) → retX F1 H1 ts = some v → H1 = H' → H'.ok ρ ∧ Ev P f (args.map (XV.av ρ)) (hpx ρ H) (v.av ρ) (hpx ρ H') := fun e F1 H1 hx he hret hh => by
          subst hh
          obtain ⟨k1, v1⟩ := exX_ok ih hrd fc _ _ _ _ _ hk hx
          refine ⟨k1, ?_⟩
          obtain ⟨S, hS⟩ := ap_list (ρ := ρ) [] _ H hk rfl
          rw [← hS]
          refine EvX_end hm (hcode _ _ _ _ hcf) (by simpa using hn) ?_
          refine v1 S _ S _ (fm_args args).symm hS (fun fr' S' q1 q2 => ⟨he, q2, ?_⟩)
          rw [q1]; exact retX_ok k1 hret
        split at h
        · rename_i F1 H1 hx
          split at h
          · rename_i v1 hv
            simp only [Option.some.injEq, Prod.mk.injEq] at h
            obtain ⟨rfl, rfl⟩ := h
            exact fin _ _ _ hx trivial hv rfl
          · cases h
        · rename_i F1 H1 hx
          split at h
          · rename_i v1 hv
            simp only [Option.some.injEq, Prod.mk.injEq] at h
            obtain ⟨rfl, rfl⟩ := h
            exact fin _ _ _ hx trivial hv rfl
          · cases h
        · cases h
theorem runX_ok {P : Program} {pv : PvT} (hpv : PvOK ρ P pv) (hm : P.follows .mixedOrders = true) {code : FuncId → Option (Nat × List RS × FC)} (hcode : CodesOK P code) {ov : OvT} (hov : OvH ρ P ov) : ∀ d, CallOK ρ P (runX P pv code ov d)
  | 0 => fun f args H v H' h => by simp [runX] at h
  | d + 1 => fun f args H v H' h φ N hφ hk => by
    have := runX_step (ρ := ρ.fr φ N hφ) hpv.frm hm hcode hov.frm (runX_ok hpv hm hcode hov d).frm f args H v H' h hk
    simp only [av_fr] at this
    exact this

end
end Go.Ab
