/- Plain laws of the tables: how long they are. -/
import Derived.Test.YtnmicfhdpnabcaaTbL6
import Derived.Test.YtnmicfhdpnabcaaTbL3
namespace Go.Proofs.Ytnmicfhdpnabcaa
open Go Go.Ab
set_option maxRecDepth 20000
set_option linter.unusedVariables false
set_option linter.unusedSimpArgs false

theorem rangeL_cells {α ρ : Type} {en : α → List Int} {f : α → Nat} {body : Nat → α → Int → Option (Stp Int ρ)} {B : Nat} : ∀ (xs : List α) (i n : Nat),
    (∀ x ∈ xs, (en x).length = 4 * f x) → (∀ i x (n : Nat), x ∈ xs → n + f x ≤ B → body i x (n : Int) = some (.nxt ((n + f x : Nat) : Int))) → n + (xs.flatMap en).length / 4 ≤ B →
    rangeL body xs i (n : Int) = some (.fin ((n + (xs.flatMap en).length / 4 : Nat) : Int)) ∧ (xs.flatMap en).length % 4 = 0
  | [], i, n, _, _, _ => by simp [rangeL]
  | x :: r, i, n, h4, h, hB => by
    have hx := h4 x (by simp)
    simp only [List.flatMap_cons, List.length_append] at hB ⊢
    have hh := h i x n (by simp) (by omega)
    obtain ⟨a, b⟩ := rangeL_cells r (i + 1) (n + f x) (fun y hy => h4 y (by simp [hy])) (fun i y n hy => h i y n (by simp [hy])) (by omega)
    simp only [rangeL, hh]
    refine ⟨?_, by omega⟩
    rw [a]
    have : n + f x + (List.flatMap en r).length / 4 = n + ((en x).length + (List.flatMap en r).length) / 4 := by omega
    rw [this]
theorem rng_cells {α ρ : Type} {xs : List α} {n : Nat} {body : Nat → α → Int → Option (Stp Int ρ)} (en : α → List Int) (f : α → Nat) (B : Nat) (hl : xs.length ≤ 4611686018427387904)
    (h4 : ∀ x ∈ xs, (en x).length = 4 * f x) (h : ∀ i x (n : Nat), x ∈ xs → n + f x ≤ B → body i x (n : Int) = some (.nxt ((n + f x : Nat) : Int))) (hB : n + (xs.flatMap en).length / 4 ≤ B) :
    rng body xs (n : Int) = some (.fin ((n + (xs.flatMap en).length / 4 : Nat) : Int)) ∧ (xs.flatMap en).length % 4 = 0 := by
  obtain ⟨a, b⟩ := rangeL_cells xs 0 n h4 h hB
  unfold rng; rw [if_pos hl]; exact ⟨a, b⟩

theorem Sizes_eq (fuel : Nat) (t : Tables) (x : Int) (ht : Fit t) (hb : Bts t) (hf : 2 < fuel) (hx : -9223372036854775808 ≤ x ∧ x ≤ 9223372036854775807) : windlasslaw19_TablesSizes_s fuel t x = some true := by
  unfold windlasslaw19_TablesSizes_s
  rw [first_eq fuel hf, Encode_eq t ht hb]
  simp only [Option.bind_some]
  cases ho : okT t
  · rfl
  have hw := wh_of ht hb ho
  have hL := lenT ht hw.f hw.s
  have hwf := hw.f
  have hws := hw.s
  have hlen : (encT t).length = 4 + ((t.Funcs.flatMap encF).length + (4 + (t.Sites.flatMap encS).length)) := by simp only [encT, List.length_append, le4_len]
  simp only [if_true, Bool.not_true, Bool.false_eq_true, if_false, bne_self_eq_false]
  obtain ⟨e1, m1⟩ := rng_cells (xs := t.Funcs) (n := 2) (ρ := Option Bool) (body := fun (i_4 : Nat) (r_5 : FuncRow) (s_3 : Int) => some (.nxt (I64 (s_3 + (I64 ((I64 (6 + (List.length r_5.Params : Int))) + (I64 (2 * (List.length r_5.Saves : Int))))))))) encF (fun r => 6 + r.Params.length + 2 * r.Saves.length) 1099511627776 (by omega)
    (fun r hr => by rw [lenF (ht.r r hr).1 (ht.r r hr).2]; omega) (fun i r n hr hn => by
      have := ht.r r hr
      rw [I64_of (x := 6 + _) (by omega), I64_of (x := 2 * _) (by omega), I64_of (x := (6 + _ + _)) (by omega), I64_of (by omega)]
      congr 2) (by omega)
  have e1' := e1
  rw [show ((2 : Nat) : Int) = 2 from rfl] at e1'
  rw [e1']
  simp only [Option.bind_some, oc]
  obtain ⟨e2, m2⟩ := rng_cells (xs := t.Sites) (n := 2 + (t.Funcs.flatMap encF).length / 4) (ρ := Option Bool) (body := fun (i_8 : Nat) (s_9 : Site) (s_7 : Int) => some (.nxt (I64 (s_7 + (I64 (2 + (List.length s_9.Live : Int))))))) encS (fun s => 2 + s.Live.length) 1099511627776 (by omega)
    (fun s hs => by rw [lenS]; omega) (fun i s n hs hn => by
      have := ht.l s hs
      rw [I64_of (x := 2 + _) (by omega), I64_of (by omega)]
      congr 2) (by omega)
  rw [e2]
  simp only [Option.bind_some, oc]
  have hu : U64 (List.length (encT t) : Int) = (encT t).length := U64_of (by omega)
  have hx' : 0 ≤ U64 x ∧ U64 x ≤ 18446744073709551615 := by
    have : U64 x = x % 18446744073709551616 := by
      show IntKind.u64.wrap x = _
      simp [IntKind.wrap, IntKind.bits, IntKind.signed]
    rw [this]; omega
  rw [hu]
  have hk0 : 0 ≤ Int.tmod (U64 x) ((encT t).length : Int) := by rw [Int.tmod_eq_emod_of_nonneg hx'.1]; exact Int.emod_nonneg _ (by omega)
  have hk1 : Int.tmod (U64 x) ((encT t).length : Int) < (encT t).length := by rw [Int.tmod_eq_emod_of_nonneg hx'.1]; exact Int.emod_lt_of_pos _ (by omega)
  rw [I64_of (x := Int.tmod _ _) (by omega)]
  generalize hk : Int.tmod (U64 x) ((encT t).length : Int) = k at hk0 hk1
  unfold gd
  rw [if_pos (by omega)]
  have hsub : subL (encT t) 0 k = some ((encT t).take k.toNat) := by
    unfold subL
    rw [if_pos ⟨Int.le_refl _, hk0, by omega⟩]; rfl
  rw [hsub]
  simp only [Option.bind_some]
  rw [Decode_cut hw (q := (encT t).drop k.toNat) (by intro h; have := congrArg List.length h; simp only [List.length_drop, List.length_nil] at this; omega) (List.take_append_drop _ _) (by simp only [List.length_take]; omega)]
  simp only [Option.bind_some]
  rw [appL_of (by simp only [List.length_nil]; omega) (by simp only [List.length_nil]; omega)]
  simp only [Option.bind_some, List.nil_append]
  rw [appL_of (by simp only [List.length_cons, List.length_nil]; omega) (by simp only [List.length_cons, List.length_nil]; omega)]
  simp only [Option.bind_some]
  rw [Decode_tail hw (by simp) (by simp only [List.length_append, List.length_cons, List.length_nil]; omega)]
  simp only [Option.bind_some, jp]
  rw [I64_of (x := 4 * _) (by omega)]
  have : ((encT t).length : Int) = 4 * ((2 + (t.Funcs.flatMap encF).length / 4 + (t.Sites.flatMap encS).length / 4 : Nat) : Int) := by omega
  rw [← this]
  simp
end Go.Proofs.Ytnmicfhdpnabcaa
