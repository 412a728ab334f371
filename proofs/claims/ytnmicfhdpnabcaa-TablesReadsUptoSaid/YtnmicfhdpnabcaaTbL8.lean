/- Plain laws of the tables: the document's bytes. -/
import Derived.Test.YtnmicfhdpnabcaaTbL6
import Derived.Test.YtnmicfhdpnabcaaTbL3
namespace Go.Proofs.Ytnmicfhdpnabcaa
open Go Go.Ab
set_option maxRecDepth 20000
set_option linter.unusedVariables false
set_option linter.unusedSimpArgs false

theorem put_go {ρ : Type} (fuel : Nat) (hf : 5 ≤ fuel) (b : List Int) (v : Int) (h : b.length ≤ 70368744177664) (h0 : 0 ≤ v) (h1 : v < 4294967296) :
    whileN (fun (s_1 : (Int × Int × (List Int))) => ((if (decide (s_1.2.1 < 4)) then ((appL 1 s_1.2.2 [(U8 (Int.tmod s_1.1 256))]).bind fun l_2 => (some (.nxt ((I64 (Int.tdiv s_1.1 256)), (I64 (s_1.2.1 + 1)), l_2)))) else (some (.brk (s_1.1, s_1.2.1, s_1.2.2)))) : Option (Stp (Int × Int × (List Int)) ρ))) fuel (v, 0, b) =
      some (.fin (I64 (Int.tdiv (v / 16777216) 256), 4, b ++ le4 v)) := by
  have step : ∀ (i : Int) (w : Int) (c : List Int), i < 4 → 0 ≤ i → c.length ≤ 70368744177700 → 0 ≤ w → w < 4294967296 → (if (decide (i < 4)) then ((appL 1 c [(U8 (Int.tmod w 256))]).bind fun l_2 => (some (Stp.nxt (ρ := ρ) ((I64 (Int.tdiv w 256)), (I64 (i + 1)), l_2)))) else (some (.brk (w, i, c)))) = some (.nxt (w / 256, i + 1, c ++ [w % 256])) := by
    intro i w c hi hi0 hc hw0 hw1
    rw [if_pos (by simpa using hi), appL_of (by simp only [List.length_singleton]; omega) (by simp only [List.length_singleton]; omega)]
    simp only [Option.bind_some]
    rw [Int.tmod_eq_emod_of_nonneg hw0, Int.tdiv_eq_ediv_of_nonneg hw0, I64_of (by omega), I64_of (by omega), U8_of (by omega)]
  obtain ⟨f, rfl⟩ : ∃ f, fuel = f + 5 := ⟨fuel - 5, by omega⟩
  rw [whileN_step (step 0 v b (by omega) (by omega) (by omega) h0 h1)]
  rw [whileN_step (step (0 + 1) (v / 256) (b ++ [v % 256]) (by omega) (by omega) (by simp only [List.length_append, List.length_singleton]; omega) (by omega) (by omega))]
  rw [whileN_step (step (0 + 1 + 1) (v / 256 / 256) (b ++ [v % 256] ++ [v / 256 % 256]) (by omega) (by omega) (by simp only [List.length_append, List.length_singleton]; omega) (by omega) (by omega))]
  rw [whileN_step (step (0 + 1 + 1 + 1) (v / 256 / 256 / 256) (b ++ [v % 256] ++ [v / 256 % 256] ++ [v / 256 / 256 % 256]) (by omega) (by omega) (by simp only [List.length_append, List.length_singleton]; omega) (by omega) (by omega))]
  rw [whileN_brk (s' := (v / 256 / 256 / 256 / 256, 0 + 1 + 1 + 1 + 1, b ++ [v % 256] ++ [v / 256 % 256] ++ [v / 256 / 256 % 256] ++ [v / 256 / 256 / 256 % 256])) (by rfl)]
  have e1 : v / 256 / 256 = v / 65536 := by omega
  have e2 : v / 65536 / 256 = v / 16777216 := by omega
  have e3 : I64 (Int.tdiv (v / 16777216) 256) = v / 16777216 / 256 := by rw [Int.tdiv_eq_ediv_of_nonneg (by omega), I64_of (by omega)]
  rw [e1, e2, e3]
  simp only [le4, List.append_assoc, List.cons_append, List.nil_append]
  rfl
theorem put_n {fuel : Nat} (hf : 5 ≤ fuel) (v : Int) (h0 : 0 ≤ v) (h1 : v < 4294967296) : windlassref19_put_n_s fuel v = some (le4 v) := by
  unfold windlassref19_put_n_s
  rw [put_go fuel hf [] v (by simp) h0 h1]; rfl
theorem put_r {fuel : Nat} (hf : 5 ≤ fuel) (b : List Int) (v : Int) (h : b.length ≤ 70368744177664) (h0 : 0 ≤ v) (h1 : v < 4294967296) : windlassref19_put_r_s fuel b v = some (b ++ le4 v) := by
  unfold windlassref19_put_r_s
  rw [put_go fuel hf b v h h0 h1]; rfl

theorem Bytes_eq {fuel : Nat} (hfu : 5 ≤ fuel) (t : Tables) (ht : Fit t) (hw : Wh t) : windlassref19_Bytes_s fuel t = some (encT t) := by
  unfold windlassref19_Bytes_s
  have hf := hw.f
  have hs := hw.s
  have hL := lenT ht hf hs
  have hlen : (encT t).length = 4 + ((t.Funcs.flatMap encF).length + (4 + (t.Sites.flatMap encS).length)) := by simp only [encT, List.length_append, le4_len]
  rw [put_n hfu _ (by omega) (by omega)]
  simp only [Option.bind_some]
  rw [rng_app (xs := t.Funcs) encF 1099511627776 (by omega) ?h1 (by simp only [le4_len]; omega)]
  case h1 =>
    intro i r s hr hB
    obtain ⟨hp, hv⟩ := ht.r r hr
    obtain ⟨r1, r2, r3, r4, r5, r6, r7, r8⟩ := hw.r r hr
    rw [lenF hp hv] at hB
    have a := flat4 r.Params
    have b := flat8 r.Saves
    have e : I64 (r.Resume + 1) = r.Resume + 1 := I64_of (by omega)
    rw [e]
    rw [put_r hfu _ _ (by omega) (by omega) (by omega)]
    simp only [Option.bind_some]
    rw [put_r hfu _ _ (by simp only [List.length_append, le4_len]; omega) (by omega) (by omega)]
    simp only [Option.bind_some]
    rw [put_r hfu _ _ (by simp only [List.length_append, le4_len]; omega) (by omega) (by omega)]
    simp only [Option.bind_some]
    rw [put_r hfu _ _ (by simp only [List.length_append, le4_len]; omega) (by omega) (by omega)]
    simp only [Option.bind_some]
    rw [put_r hfu _ _ (by simp only [List.length_append, le4_len]; omega) (by omega) (by omega)]
    simp only [Option.bind_some]
    rw [rng_app (xs := r.Params) le4 1099511627776 (by omega) ?g2 (by simp only [List.length_append, le4_len]; omega)]
    case g2 =>
      intro i v s hv' hB
      rw [le4_len] at hB
      have := r6 v hv'
      have e : I64 v = v := I64_of (by omega)
      rw [e, put_r hfu s v (by omega) (by omega) (by omega)]; rfl
    simp only [Option.bind_some, oc]
    rw [put_r hfu _ _ (by simp only [List.length_append, le4_len]; omega) (by omega) (by omega)]
    simp only [Option.bind_some, oc]
    rw [rng_app (xs := r.Saves) encV 1099511627776 (by omega) ?g3 (by simp only [List.length_append, le4_len]; omega)]
    case g3 =>
      intro i v s hv' hB
      have : (encV v).length = 8 := rfl
      have := r8 v hv'
      rw [put_r hfu s _ (by omega) (by omega) (by omega)]
      simp only [Option.bind_some]
      rw [put_r hfu _ _ (by simp only [List.length_append, le4_len]; omega) (by omega) (by omega)]
      simp only [Option.bind_some, encV, List.append_assoc]
    simp only [Option.bind_some, oc, encF, List.append_assoc]
  simp only [Option.bind_some, oc]
  rw [put_r hfu _ _ (by simp only [List.length_append, le4_len]; omega) (by omega) (by omega)]
  simp only [Option.bind_some, oc]
  rw [rng_app (xs := t.Sites) encS 1099511627776 (by omega) ?h2 (by simp only [List.length_append, le4_len]; omega)]
  case h2 =>
    intro i s b hs hB
    obtain ⟨r1, r2, r3⟩ := hw.l s hs
    rw [lenS] at hB
    have a := flat4 s.Live
    rw [put_r hfu _ _ (by omega) (by omega) (by omega)]
    simp only [Option.bind_some]
    rw [put_r hfu _ _ (by simp only [List.length_append, le4_len]; omega) (by omega) (by omega)]
    simp only [Option.bind_some]
    rw [rng_app (xs := s.Live) le4 1099511627776 (by omega) ?g2 (by simp only [List.length_append, le4_len]; omega)]
    case g2 =>
      intro i v s hv' hB
      rw [le4_len] at hB
      have := r3 v hv'
      rw [put_r hfu s v (by omega) (by omega) (by omega)]; rfl
    simp only [Option.bind_some, oc, encS, List.append_assoc]
  simp only [Option.bind_some, oc, encT, List.append_assoc]

theorem bytes_le4 (v : Int) : ∀ x ∈ le4 v, 0 ≤ x ∧ x ≤ 255 := by
  intro x hx
  simp only [le4, List.mem_cons, List.mem_nil_iff, or_false] at hx
  rcases hx with rfl | rfl | rfl | rfl <;> omega
theorem bytes_flat {α : Type} {f : α → List Int} {l : List α} (h : ∀ a ∈ l, ∀ x ∈ f a, 0 ≤ x ∧ x ≤ 255) : ∀ x ∈ l.flatMap f, 0 ≤ x ∧ x ≤ 255 := by
  intro x hx
  obtain ⟨a, ha, hx⟩ := List.mem_flatMap.1 hx
  exact h a ha x hx
theorem bytes_app {l m : List Int} (h : ∀ x ∈ l, 0 ≤ x ∧ x ≤ 255) (h' : ∀ x ∈ m, 0 ≤ x ∧ x ≤ 255) : ∀ x ∈ l ++ m, 0 ≤ x ∧ x ≤ 255 := by
  intro x hx
  rcases List.mem_append.1 hx with hx | hx
  · exact h x hx
  · exact h' x hx
theorem bytes_encT (t : Tables) : ∀ x ∈ encT t, 0 ≤ x ∧ x ≤ 255 := by
  refine bytes_app (bytes_le4 _) (bytes_app (bytes_flat fun r _ => ?_) (bytes_app (bytes_le4 _) (bytes_flat fun s _ => ?_)))
  · exact bytes_app (bytes_le4 _) (bytes_app (bytes_le4 _) (bytes_app (bytes_le4 _) (bytes_app (bytes_le4 _) (bytes_app (bytes_le4 _) (bytes_app (bytes_flat fun _ _ => bytes_le4 _) (bytes_app (bytes_le4 _) (bytes_flat fun _ _ => bytes_app (bytes_le4 _) (bytes_le4 _))))))))
  · exact bytes_app (bytes_le4 _) (bytes_app (bytes_le4 _) (bytes_flat fun _ _ => bytes_le4 _))
theorem bytesOf_some : ∀ {l : List Int}, (∀ x ∈ l, 0 ≤ x ∧ x ≤ 255) → ∃ bs, bytesOf (l.map (avI .u8)) = some bs ∧ bs.map (fun b => (b.toNat : Int)) = l
  | [], _ => ⟨[], rfl, rfl⟩
  | x :: r, h => by
    obtain ⟨bs, hb, he⟩ := bytesOf_some (fun y hy => h y (List.mem_cons_of_mem x hy))
    have hx := h x List.mem_cons_self
    refine ⟨UInt8.ofNat x.toNat :: bs, ?_, ?_⟩
    · show bytesOf (.int .u8 x :: r.map (avI .u8)) = _
      unfold bytesOf
      rw [if_pos (by omega), hb]; rfl
    · rw [List.map_cons, he]
      congr 1
      rw [UInt8.toNat_ofNat']
      omega
theorem toStr_some {l : List Int} (h : ∀ x ∈ l, 0 ≤ x ∧ x ≤ 255) : ∃ s, toStr l = some s ∧ ofStr s = l := by
  obtain ⟨bs, hb, he⟩ := bytesOf_some h
  refine ⟨⟨bs.toArray⟩, by unfold toStr; rw [hb]; rfl, ?_⟩
  unfold ofStr
  exact he
theorem Bytes_law (fuel : Nat) (t : Tables) (ht : Fit t) (hb : Bts t) (hf : 5 ≤ fuel) : windlasslaw19_TablesBytes_s fuel t = some true := by
  unfold windlasslaw19_TablesBytes_s
  rw [first_eq fuel (by omega), Encode_eq t ht hb, Right_eq t ht, Check_eq t ht]
  simp only [Option.bind_some]
  cases ho : okT t
  · rfl
  have hw := wh_of ht hb ho
  have hL := lenT ht hw.f hw.s
  simp only [Bool.not_true, Bool.false_eq_true, if_false, if_true, jp]
  rw [Decode_enc ht ho hw (by omega), Bytes_eq hf t ht hw]
  obtain ⟨st, hst, _⟩ := toStr_some (bytes_encT t)
  simp only [Option.bind_some, hst, Right_eq t ht, ho, Bytes_eq hf t ht hw, beq_self_eq_true, if_true]
end Go.Proofs.Ytnmicfhdpnabcaa
