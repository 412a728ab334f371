/- Plain laws of the tables: their bytes. -/
import Derived.Test.YtnmicfhdpnabcaaTbL2
namespace Go.Proofs.Ytnmicfhdpnabcaa
open Go Go.Ab
set_option maxRecDepth 20000
set_option linter.unusedVariables false
set_option linter.unusedSimpArgs false

def le4 (v : Int) : List Int := [v % 256, v / 256 % 256, v / 65536 % 256, v / 16777216 % 256]
theorem le4_len (v : Int) : (le4 v).length = 4 := rfl
theorem U8_mod (x : Int) : U8 x = x % 256 := by
  show IntKind.u8.wrap x = x % 256
  simp [IntKind.wrap, IntKind.bits, IntKind.signed]
theorem bytes_of (v : Int) : [(U8 v), (U8 (shR .i64 v 8)), (U8 (shR .i64 v 16)), (U8 (shR .i64 v 24))] = le4 v := by
  unfold le4
  simp only [U8_mod, shR]
  have e1 : (2 : Int) ^ (min (8 : Int).toNat IntKind.i64.bits) = 256 := by decide
  have e2 : (2 : Int) ^ (min (16 : Int).toNat IntKind.i64.bits) = 65536 := by decide
  have e3 : (2 : Int) ^ (min (24 : Int).toNat IntKind.i64.bits) = 16777216 := by decide
  rw [e1, e2, e3, Int.fdiv_eq_ediv_of_nonneg _ (by decide), Int.fdiv_eq_ediv_of_nonneg _ (by decide), Int.fdiv_eq_ediv_of_nonneg _ (by decide)]
theorem appL_of {α : Type} {k : Nat} {l m : List α} (h : (l.length + m.length) * k ≤ 140737488355328) (h' : l.length + m.length ≤ 140737488355328) : appL k l m = some (l ++ m) := by
  unfold appL; rw [if_pos ⟨h, h'⟩]
theorem number_n (v : Int) : tables_number_n_s v = some (le4 v) := by
  unfold tables_number_n_s
  rw [bytes_of, appL_of (by simp [le4]) (by simp [le4])]; rfl
theorem number_r (b : List Int) (v : Int) (h : b.length ≤ 70368744177664) : tables_number_r_s b v = some (b ++ le4 v) := by
  unfold tables_number_r_s
  rw [bytes_of, appL_of (by simp [le4]; omega) (by simp [le4]; omega)]; rfl

def encV (s : Save) : List Int := le4 s.Reg ++ le4 s.Off
def encP (k : Int) : List Int := le4 k
def encF (r : FuncRow) : List Int := le4 r.Start ++ (le4 r.Stop ++ (le4 r.Size ++ (le4 (r.Resume + 1) ++ (le4 r.Params.length ++ (r.Params.flatMap le4 ++ (le4 r.Saves.length ++ r.Saves.flatMap encV))))))
def encS (s : Site) : List Int := le4 s.At ++ (le4 s.Live.length ++ s.Live.flatMap le4)
def encT (t : Tables) : List Int := le4 t.Funcs.length ++ (t.Funcs.flatMap encF ++ (le4 t.Sites.length ++ t.Sites.flatMap encS))

theorem flat_len {α β : Type} (f : α → List β) (k : Nat) : ∀ (l : List α), (∀ x ∈ l, (f x).length ≤ k) → (l.flatMap f).length ≤ l.length * k
  | [], _ => by simp
  | x :: r, h => by
    have h1 := h x (by simp)
    have h2 := flat_len f k r (fun y hy => h y (by simp [hy]))
    simp only [List.flatMap_cons, List.length_append, List.length_cons, Nat.succ_mul]
    omega
theorem flat_len' {α β : Type} (f : α → List β) (k : Nat) : ∀ (l : List α), (∀ x ∈ l, (f x).length = k) → (l.flatMap f).length = l.length * k
  | [], _ => by simp
  | x :: r, h => by
    have h1 := h x (by simp)
    have h2 := flat_len' f k r (fun y hy => h y (by simp [hy]))
    simp only [List.flatMap_cons, List.length_append, List.length_cons, Nat.succ_mul]
    omega
theorem flat_ge {α β : Type} (f : α → List β) (k : Nat) : ∀ (l : List α), (∀ x ∈ l, k ≤ (f x).length) → l.length * k ≤ (l.flatMap f).length
  | [], _ => by simp
  | x :: r, h => by
    have h1 := h x (by simp)
    have h2 := flat_ge f k r (fun y hy => h y (by simp [hy]))
    simp only [List.flatMap_cons, List.length_append, List.length_cons, Nat.succ_mul]
    omega

theorem rangeL_app {α ρ : Type} {en : α → List Int} {body : Nat → α → List Int → Option (Stp (List Int) ρ)} {B : Nat} : ∀ (xs : List α) (i : Nat) (s : List Int),
    (∀ i x s, x ∈ xs → s.length + (en x).length ≤ B → body i x s = some (.nxt (s ++ en x))) → s.length + (xs.flatMap en).length ≤ B → rangeL body xs i s = some (.fin (s ++ xs.flatMap en))
  | [], i, s, _, _ => by simp [rangeL]
  | x :: r, i, s, h, hB => by
    simp only [List.flatMap_cons, List.length_append] at hB
    simp only [rangeL, h i x s (by simp) (by omega)]
    rw [rangeL_app r (i + 1) (s ++ en x) (fun i y s hy => h i y s (by simp [hy])) (by simp only [List.length_append]; omega), List.append_assoc, List.flatMap_cons]
theorem rng_app {α ρ : Type} {xs : List α} {s : List Int} {body : Nat → α → List Int → Option (Stp (List Int) ρ)} (en : α → List Int) (B : Nat) (hl : xs.length ≤ 4611686018427387904)
    (h : ∀ i x s, x ∈ xs → s.length + (en x).length ≤ B → body i x s = some (.nxt (s ++ en x))) (hB : s.length + (xs.flatMap en).length ≤ B) : rng body xs s = some (.fin (s ++ xs.flatMap en)) := by
  unfold rng; rw [if_pos hl]; exact rangeL_app xs 0 s h hB

theorem lenF {r : FuncRow} (h1 : r.Params.length ≤ 1048576) (h2 : r.Saves.length ≤ 1048576) : (encF r).length = 24 + 4 * r.Params.length + 8 * r.Saves.length := by
  have a := flat_len' le4 4 r.Params (fun _ _ => rfl)
  have b := flat_len' encV 8 r.Saves (fun _ _ => rfl)
  simp only [encF, List.length_append, le4_len]; omega
theorem lenS (s : Site) : (encS s).length = 8 + 4 * s.Live.length := by
  have a := flat_len' le4 4 s.Live (fun _ _ => rfl)
  simp only [encS, List.length_append, le4_len]; omega
theorem lenT {t : Tables} (ht : Fit t) (hf : t.Funcs.length ≤ 16) (hs : t.Sites.length ≤ 65536) : (encT t).length ≤ 1099511627776 := by
  have a := flat_len encF 16777216 t.Funcs (fun r hr => by have := ht.r r hr; rw [lenF this.1 this.2]; omega)
  have b := flat_len encS 8388608 t.Sites (fun s hs => by have := ht.l s hs; rw [lenS]; omega)
  simp only [encT, List.length_append, le4_len]
  omega

theorem rowP_res {t : Tables} (hP : allP rowP none t.Funcs = true) : ∀ r ∈ t.Funcs, ∃ p, rowP p r = true := by
  have : ∀ (l : List FuncRow) (p : Option FuncRow), allP rowP p l = true → ∀ r ∈ l, ∃ p, rowP p r = true := by
    intro l
    induction l with
    | nil => intro p _ r hr; cases hr
    | cons x xs ih =>
      intro p h r hr
      simp only [allP, Bool.and_eq_true] at h
      rcases List.mem_cons.1 hr with rfl | hr
      · exact ⟨p, h.1⟩
      · exact ih _ h.2 r hr
  exact this _ _ hP
theorem row_facts {p : Option FuncRow} {r : FuncRow} (h : rowP p r = true) : 0 ≤ r.Start ∧ r.Start < r.Stop ∧ r.Stop ≤ 1048576 ∧ 0 ≤ r.Size ∧ r.Size ≤ 65536 ∧ r.Params.length ≤ 4 ∧ (r.Resume = -1 ∨ r.Start ≤ r.Resume ∧ r.Resume < r.Stop) := by
  unfold rowP rowC at h
  simp only [Bool.and_eq_true, decide_eq_true_eq] at h
  obtain ⟨⟨⟨h1, h2, h3⟩, _⟩, ⟨⟨⟨h4, h5, _, h6⟩, _⟩, _⟩, h7⟩ := h
  exact ⟨h1, h2, h3, h4, h5, h6, h7⟩

/-- The kinds of parameters are bytes. -/
def Bts (t : Tables) : Prop := ∀ r ∈ t.Funcs, ∀ k ∈ r.Params, 0 ≤ k ∧ k ≤ 255
theorem Encode_eq (t : Tables) (ht : Fit t) (hb : Bts t) : tables_Encode_s t = some (if okT t = true then (encT t, 0) else ([], 190)) := by
  unfold tables_Encode_s
  rw [Check_eq t ht]
  simp only [Option.bind_some]
  cases ho : okT t
  · rfl
  simp only [if_true]
  simp only [bne_self_eq_false, Bool.false_eq_true, if_false]
  have ho' := ho
  unfold okT at ho'
  simp only [Bool.and_eq_true, decide_eq_true_eq] at ho'
  obtain ⟨⟨⟨hf, hs⟩, hP⟩, hS⟩ := ho'
  have hL := lenT ht hf hs
  have hlen : (encT t).length = 4 + ((t.Funcs.flatMap encF).length + (4 + (t.Sites.flatMap encS).length)) := by simp only [encT, List.length_append, le4_len]
  rw [number_n]
  simp only [Option.bind_some]
  rw [rng_app (xs := t.Funcs) encF 1099511627776 (by omega) ?h1 (by simp only [le4_len]; omega)]
  case h1 =>
    intro i r s hr hB
    obtain ⟨hp, hv⟩ := ht.r r hr
    obtain ⟨p, hpr⟩ := rowP_res hP r hr
    obtain ⟨f1, f2, f3, f4, f5, f6, f7⟩ := row_facts hpr
    rw [lenF hp hv] at hB
    have a := flat_len' le4 4 r.Params (fun _ _ => rfl)
    have b := flat_len' encV 8 r.Saves (fun _ _ => rfl)
    rw [rng_app (xs := [r.Start, r.Stop, r.Size, (I64 (r.Resume + 1)), (List.length r.Params : Int)]) le4 1099511627776 (by simp) ?g1 (by simp only [List.length_append, List.flatMap_cons, List.flatMap_nil, List.length_nil, le4_len]; omega)]
    case g1 =>
      intro i v s hv hB
      rw [le4_len] at hB
      rw [number_r s v (by omega)]; rfl
    have e : I64 (r.Resume + 1) = r.Resume + 1 := I64_of (by omega)
    simp only [Option.bind_some, oc]
    rw [rng_app (xs := r.Params) le4 1099511627776 (by omega) ?g2 (by simp only [List.length_append, List.flatMap_cons, List.flatMap_nil, List.length_nil, le4_len]; omega)]
    case g2 =>
      intro i v s hv' hB
      rw [le4_len] at hB
      have e : I64 v = v := by have := hb r hr v hv'; exact I64_of (by omega)
      rw [e, number_r s v (by omega)]; rfl
    simp only [Option.bind_some, oc]
    rw [number_r _ _ (by simp only [List.length_append, List.flatMap_cons, List.flatMap_nil, List.length_nil, le4_len]; omega)]
    simp only [Option.bind_some, oc]
    rw [rng_app (xs := r.Saves) encV 1099511627776 (by omega) ?g3 (by simp only [List.length_append, List.flatMap_cons, List.flatMap_nil, List.length_nil, le4_len]; omega)]
    case g3 =>
      intro i v s hv' hB
      have : (encV v).length = 8 := rfl
      rw [number_r s _ (by omega)]
      simp only [Option.bind_some]
      rw [number_r _ _ (by simp only [List.length_append, List.flatMap_cons, List.flatMap_nil, List.length_nil, le4_len]; omega)]
      simp [encV]
    simp only [Option.bind_some, oc, e, encF, List.flatMap_cons, List.flatMap_nil, List.append_assoc, List.append_nil]
  simp only [Option.bind_some, oc]
  rw [number_r _ _ (by simp only [List.length_append, le4_len]; omega)]
  simp only [Option.bind_some, oc]
  rw [rng_app (xs := t.Sites) encS 1099511627776 (by omega) ?h2 (by simp only [List.length_append, le4_len]; omega)]
  case h2 =>
    intro i s b hs hB
    have hl := ht.l s hs
    rw [lenS] at hB
    have a := flat_len' le4 4 s.Live (fun _ _ => rfl)
    rw [number_r _ _ (by omega)]
    simp only [Option.bind_some]
    rw [number_r _ _ (by simp only [List.length_append, le4_len]; omega)]
    simp only [Option.bind_some]
    rw [rng_app (xs := s.Live) le4 1099511627776 (by omega) ?g2 (by simp only [List.length_append, le4_len]; omega)]
    case g2 =>
      intro i v s hv' hB
      rw [le4_len] at hB
      rw [number_r s v (by omega)]; rfl
    simp only [Option.bind_some, oc, encS, List.append_assoc]
  simp only [Option.bind_some, oc, encT, List.append_assoc]
end Go.Proofs.Ytnmicfhdpnabcaa
