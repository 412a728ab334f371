/- Plain laws of the tables: the document's tape. -/
import Derived.Test.YtnmicfhdpnabcaaTbL8
import Derived.Test.YtnmicfhdpnabcaaTbL9
namespace Go.Proofs.Ytnmicfhdpnabcaa
open Go Go.Ab
set_option maxRecDepth 20000
set_option linter.unusedVariables false
set_option linter.unusedSimpArgs false

theorem next_bad (fuel : Nat) (B : List Int) (at_ : Int) : windlassref19_Tape_next_pNNN_s fuel B at_ true = some (0, B, at_, true) := rfl
theorem next_short (fuel : Nat) {B : List Int} {p : Nat} (hB : B.length ≤ 1048576) (hp : p ≤ B.length) (h : (B.drop p).length < 4) : windlassref19_Tape_next_pNNN_s fuel B p false = some (0, B, (p : Int), true) := by
  rw [List.length_drop] at h
  unfold windlassref19_Tape_next_pNNN_s jp
  have e : I64 ((p : Int) + 4) = p + 4 := I64_of (by omega)
  simp only [Bool.false_eq_true, if_false, e, decide_eq_true (show (p : Int) + 4 > B.length by omega), if_true]
theorem next_go {fuel : Nat} (hf : 5 ≤ fuel) {B : List Int} {p : Nat} {a b c d : Int} {r : List Int} (hB : B.length ≤ 1048576) (h : B.drop p = a :: b :: c :: d :: r)
    (ha : 0 ≤ a ∧ a ≤ 255) (hb : 0 ≤ b ∧ b ≤ 255) (hc : 0 ≤ c ∧ c ≤ 255) (hd : 0 ≤ d ∧ d ≤ 255) :
    windlassref19_Tape_next_pNNN_s fuel B p false = some (val4 a b c d, B, ((p + 4 : Nat) : Int), false) := by
  have hl := congrArg List.length h
  simp only [List.length_drop, List.length_cons] at hl
  have g : ∀ (j : Nat), B[p + j]? = (a :: b :: c :: d :: r)[j]? := fun j => by rw [← h, List.getElem?_drop]
  have e : I64 ((p : Int) + 4) = p + 4 := I64_of (by omega)
  unfold windlassref19_Tape_next_pNNN_s jp
  simp only [Bool.false_eq_true, if_false, e, decide_eq_false (show ¬ ((p : Int) + 4 > B.length) by omega)]
  have step : ∀ (v y : Int) (k : Nat), B[p + k]? = some y → 0 ≤ v → v ≤ 4294967296 → 0 ≤ y ∧ y ≤ 255 → k ≤ 3 →
      (if (decide ((k : Int) ≥ 0)) then ((getI B (I64 ((p : Int) + (k : Int)))).bind fun y_4 => (some (Stp.nxt (ρ := Option (Int × (List Int) × Int × Bool)) ((I64 ((I64 (v * 256)) + (I64 y_4))), (I64 ((k : Int) - 1)))))) else (some (.brk (v, (k : Int))))) = some (.nxt (v * 256 + y, (k : Int) - 1)) := by
    intro v y k hy hv0 hv1 hy' hk
    rw [if_pos (by simp), I64_of (x := (p : Int) + k) (by omega)]
    rw [show (p : Int) + (k : Int) = ((p + k : Nat) : Int) by omega, getI_nat, hy]
    simp only [Option.bind_some]
    rw [I64_of (x := v * 256) (by omega), I64_of (x := y) (by omega), I64_of (x := v * 256 + y) (by omega), I64_of (by omega)]
  obtain ⟨f, rfl⟩ : ∃ f, fuel = f + 5 := ⟨fuel - 5, by omega⟩
  rw [whileN_step (step 0 d 3 (g 3) (by omega) (by omega) hd (by omega))]
  rw [whileN_step (step (0 * 256 + d) c 2 (g 2) (by omega) (by omega) hc (by omega))]
  rw [whileN_step (step ((0 * 256 + d) * 256 + c) b 1 (g 1) (by omega) (by omega) hb (by omega))]
  rw [whileN_step (step (((0 * 256 + d) * 256 + c) * 256 + b) a 0 (g 0) (by omega) (by omega) ha (by omega))]
  rw [whileN_brk (s' := ((((0 * 256 + d) * 256 + c) * 256 + b) * 256 + a, ((0 : Nat) : Int) - 1)) (by rfl)]
  simp only [Option.bind_some, oc]
  have : (((0 * 256 + d) * 256 + c) * 256 + b) * 256 + a = val4 a b c d := by unfold val4; omega
  rw [this]
  rfl

/-- What comes at a place. -/
def AtB (B : List Int) (p : Nat) (E : List Int) : Prop := p ≤ B.length ∧ B.drop p = E
/-- Reading, when the bytes are there. -/
theorem next_le4 {fuel : Nat} (hf : 5 ≤ fuel) {B : List Int} {p : Nat} {v : Int} {E : List Int} (hB : B.length ≤ 1048576) (h : AtB B p (le4 v ++ E)) (h0 : 0 ≤ v) (h1 : v < 4294967296) :
    windlassref19_Tape_next_pNNN_s fuel B p false = some (v, B, ((p + 4 : Nat) : Int), false) ∧ AtB B (p + 4) E := by
  have := next_go hf hB (a := v % 256) (b := v / 256 % 256) (c := v / 65536 % 256) (d := v / 16777216 % 256) (r := E) h.2 (by omega) (by omega) (by omega) (by omega)
  rw [val_le4 h0 h1] at this
  have hl := congrArg List.length h.2
  simp only [List.length_drop, List.length_append, le4_len] at hl
  refine ⟨this, by omega, ?_⟩
  rw [← List.drop_drop, h.2]; rfl
/-- Reading, whatever comes. -/
theorem next_any {fuel : Nat} (hf : 5 ≤ fuel) {b0 B pre : List Int} {p : Nat} {bad : Bool} (hB : B.length ≤ 1048576) (hp : p ≤ B.length) (h : Rst b0 (B.drop p) bad pre) :
    ∃ v p' bad', windlassref19_Tape_next_pNNN_s fuel B p bad = some (v, B, ((p' : Nat) : Int), bad') ∧ p' ≤ B.length ∧ Rst b0 (B.drop p') bad' (pre ++ le4 v) ∧ 0 ≤ v ∧ v < 4294967296 ∧ (bad' = false → bad = false) ∧ (bad' = false → p' = p + 4) ∧ p ≤ p' := by
  cases bad with
  | true => exact ⟨0, p, true, next_bad fuel B p, hp, h.skip, by omega, by omega, nofun, nofun, by omega⟩
  | false =>
    by_cases hs : (B.drop p).length < 4
    · exact ⟨0, p, true, next_short fuel hB hp hs, hp, h.skip, by omega, by omega, nofun, nofun, by omega⟩
    · generalize hD : B.drop p = D at hs h
      match D, hs, h, hD with
      | a :: b :: c :: d :: r, _, ⟨hl, hb, he⟩, hD =>
        have h1 := hb a (by simp)
        have h2 := hb b (by simp)
        have h3 := hb c (by simp)
        have h4 := hb d (by simp)
        obtain ⟨e, p0, p1⟩ := val_le4' h1 h2 h3 h4
        have hd : B.drop (p + 4) = r := by rw [← List.drop_drop, hD]; rfl
        have hl' := congrArg List.length hD
        simp only [List.length_drop, List.length_cons] at hl'
        refine ⟨_, p + 4, false, next_go hf hB hD h1 h2 h3 h4, by omega, ?_, p0, p1, fun _ => rfl, fun _ => rfl, by omega⟩
        rw [hd]
        refine ⟨by simp only [List.length_cons] at hl; omega, fun x hx => hb x (by simp [hx]), fun _ => ?_⟩
        rw [he rfl, e]; simp
      | [], hs, _, _ => simp at hs
      | [_], hs, _, _ => simp at hs
      | [_, _], hs, _, _ => simp at hs
      | [_, _, _], hs, _, _ => simp at hs

/-- A loop over bytes that are there. -/
theorem tapeC {α ρ : Type} {B : List Int} (en : α → List Int) (n : Int) {body : (Int × List Int × Int × Bool × List α) → Option (Stp (Int × List Int × Int × Bool × List α) ρ)}
    (hend : ∀ p acc, body (n, B, p, false, acc) = some (.brk (n, B, p, false, acc))) :
    ∀ (xs : List α) (fuel : Nat) (i : Int) (p : Nat) (acc : List α) (E : List Int), xs.length < fuel → i + xs.length = n → acc.length + xs.length ≤ 1048576 →
    (∀ x ∈ xs, ∀ (i : Int) (p : Nat) (acc : List α) (E : List Int), i < n → n ≤ i + 1048576 → acc.length ≤ 1048576 → AtB B p (en x ++ E) → ∃ p' : Nat, body (i, B, (p : Int), false, acc) = some (.nxt (i + 1, B, (p' : Int), false, acc ++ [x])) ∧ AtB B p' E) →
    AtB B p (xs.flatMap en ++ E) → ∃ p' : Nat, whileN body fuel (i, B, (p : Int), false, acc) = some (.fin (n, B, (p' : Int), false, acc ++ xs)) ∧ AtB B p' E
  | [], fuel, i, p, acc, E, hf, hn, hl, hb, h => by
    obtain ⟨f, rfl⟩ : ∃ f, fuel = f + 1 := ⟨fuel - 1, by simp only [List.length_nil] at hf; omega⟩
    obtain rfl : i = n := by simpa using hn
    exact ⟨p, by rw [whileN_brk (hend p acc), List.append_nil], by simpa using h⟩
  | x :: r, fuel, i, p, acc, E, hf, hn, hl, hb, h => by
    simp only [List.length_cons] at hf hn hl
    obtain ⟨f, rfl⟩ : ∃ f, fuel = f + 1 := ⟨fuel - 1, by omega⟩
    rw [List.flatMap_cons, List.append_assoc] at h
    obtain ⟨p1, e1, d1⟩ := hb x (by simp) i p acc _ (by omega) (by omega) (by omega) h
    obtain ⟨p2, e2, d2⟩ := tapeC en n hend r f (i + 1) p1 (acc ++ [x]) E (by omega) (by omega) (by simp only [List.length_append, List.length_singleton]; omega) (fun z hz => hb z (by simp [hz])) d1
    exact ⟨p2, by rw [whileN_step e1, e2, List.append_assoc]; rfl, d2⟩

/-- A loop over any bytes. -/
theorem tapeS {α ρ : Type} {b0 B : List Int} (en : α → List Int) (Q : α → Prop) (n : Int) (r0 : ρ) {body : (Int × List Int × Int × Bool × List α) → Option (Stp (Int × List Int × Int × Bool × List α) ρ)}
    (hend : ∀ i p bad acc, (i < n ∧ bad = false → False) → body (i, B, p, bad, acc) = some (.brk (i, B, p, bad, acc)))
    (hb : ∀ (p : Nat) (acc : List α) (pre : List Int), (acc.length : Int) < n → acc.length ≤ 1048576 → p ≤ B.length → Rst b0 (B.drop p) false pre →
      (body ((acc.length : Int), B, (p : Int), false, acc) = some (.ret r0)) ∨ ∃ (p' : Nat) (bad' : Bool) (y : α), body ((acc.length : Int), B, (p : Int), false, acc) = some (.nxt ((acc.length : Int) + 1, B, (p' : Int), bad', acc ++ [y])) ∧ p' ≤ B.length ∧ p ≤ p' ∧ Rst b0 (B.drop p') bad' (pre ++ en y) ∧ (bad' = false → p < p' ∧ Q y)) :
    ∀ (m fuel : Nat) (p : Nat) (bad : Bool) (acc : List α) (pre : List Int), B.length - p + 1 ≤ m → m < fuel → acc.length ≤ p + 1 → (bad = false → acc.length ≤ p) → B.length ≤ 1048576 → p ≤ B.length → (bad = false → (acc.length : Int) ≤ n) → Rst b0 (B.drop p) bad pre →
    (whileN body fuel ((acc.length : Int), B, (p : Int), bad, acc) = some (.ret r0)) ∨ ∃ (p' : Nat) (bad' : Bool) (ys : List α), whileN body fuel ((acc.length : Int), B, (p : Int), bad, acc) = some (.fin (((acc ++ ys).length : Int), B, (p' : Int), bad', acc ++ ys)) ∧ p' ≤ B.length ∧ p ≤ p' ∧ (acc ++ ys).length ≤ p' + 1 ∧ Rst b0 (B.drop p') bad' (pre ++ ys.flatMap en) ∧ (bad' = false → bad = false ∧ ((acc ++ ys).length : Int) = n ∧ (acc ++ ys).length ≤ p' ∧ ∀ y ∈ ys, Q y)
  | 0, fuel, p, bad, acc, pre, hm, _, _, _, _, _, _, _ => by omega
  | m + 1, fuel, p, bad, acc, pre, hm, hf, ha, ha', hB, hp, hn, h => by
    obtain ⟨f, rfl⟩ : ∃ f, fuel = f + 1 := ⟨fuel - 1, by omega⟩
    by_cases hc : (acc.length : Int) < n ∧ bad = false
    · obtain ⟨hi, rfl⟩ := hc
      have := ha' rfl
      rcases hb p acc pre hi (by omega) hp h with e | ⟨p1, bad1, y, e, hp1, hpp, h1, hq⟩
      · exact .inl (by rw [whileN_ret e])
      · have el : ((acc.length : Int) + 1) = ((acc ++ [y]).length : Int) := by simp
        rw [el] at e
        rw [whileN_step e]
        cases bad1 with
        | true =>
          have hb1 := hend ((acc ++ [y]).length : Int) (p1 : Int) true (acc ++ [y]) nofun
          obtain ⟨f', rfl⟩ : ∃ f', f = f' + 1 := ⟨f - 1, by omega⟩
          refine .inr ⟨p1, true, [y], by rw [whileN_brk hb1], hp1, hpp, by simp only [List.length_append, List.length_singleton]; omega, h1.skip, nofun⟩
        | false =>
          obtain ⟨hlt, hq⟩ := hq rfl
          rcases tapeS en Q n r0 hend hb m f p1 false (acc ++ [y]) (pre ++ en y) (by omega) (by omega) (by simp only [List.length_append, List.length_singleton]; omega) (fun _ => by simp only [List.length_append, List.length_singleton]; omega) hB hp1 (fun _ => by simp only [List.length_append, List.length_singleton]; omega) h1 with e2 | ⟨p2, bad2, ys, e2, hp2, hpp2, hl2, h2, g2⟩
          · exact .inl e2
          · refine .inr ⟨p2, bad2, y :: ys, ?_, hp2, by omega, by simpa using hl2, by simpa using h2, fun hd => ?_⟩
            · rw [e2]; simp
            · obtain ⟨_, g3, g5, g4⟩ := g2 hd
              refine ⟨rfl, by simpa using g3, by simpa using g5, fun z hz => ?_⟩
              rcases List.mem_cons.1 hz with rfl | hz
              · exact hq
              · exact g4 z hz
    · refine .inr ⟨p, bad, [], ?_, hp, by omega, by simpa using ha, by simpa using h, fun hd => ⟨hd, ?_, by simpa using ha' hd, fun y hy => by cases hy⟩⟩
      · rw [whileN_brk (hend _ _ _ _ fun hh => hc hh)]; simp
      · have := hn hd
        have h2 : ¬ (acc.length : Int) < n := fun hh => hc ⟨hh, hd⟩
        simp only [List.append_nil]; omega
theorem tapeC0 {α ρ : Type} {B : List Int} (en : α → List Int) {n : Int} {body : (Int × List Int × Int × Bool × List α) → Option (Stp (Int × List Int × Int × Bool × List α) ρ)} {fuel p : Nat} {E : List Int} (xs : List α)
    (hend : ∀ p acc, body (n, B, p, false, acc) = some (.brk (n, B, p, false, acc))) (hf : 1048578 ≤ fuel) (hn : n = xs.length) (hl : xs.length ≤ 1048576)
    (hb : ∀ x ∈ xs, ∀ (i : Int) (p : Nat) (acc : List α) (E : List Int), i < n → n ≤ i + 1048576 → acc.length ≤ 1048576 → AtB B p (en x ++ E) → ∃ p' : Nat, body (i, B, (p : Int), false, acc) = some (.nxt (i + 1, B, (p' : Int), false, acc ++ [x])) ∧ AtB B p' E)
    (h : AtB B p (xs.flatMap en ++ E)) : ∃ p' : Nat, whileN body fuel (0, B, (p : Int), false, []) = some (.fin (n, B, (p' : Int), false, xs)) ∧ AtB B p' E :=
  tapeC en n hend xs fuel 0 p [] E (by omega) (by omega) (by simpa using hl) hb h
theorem tapeS0 {α ρ : Type} {b0 B pre : List Int} (en : α → List Int) (Q : α → Prop) {n : Int} (r0 : ρ) {body : (Int × List Int × Int × Bool × List α) → Option (Stp (Int × List Int × Int × Bool × List α) ρ)} {fuel p : Nat} {bad : Bool}
    (hend : ∀ i p bad acc, (i < n ∧ bad = false → False) → body (i, B, p, bad, acc) = some (.brk (i, B, p, bad, acc)))
    (hb : ∀ (p : Nat) (acc : List α) (pre : List Int), (acc.length : Int) < n → acc.length ≤ 1048576 → p ≤ B.length → Rst b0 (B.drop p) false pre →
      (body ((acc.length : Int), B, (p : Int), false, acc) = some (.ret r0)) ∨ ∃ (p' : Nat) (bad' : Bool) (y : α), body ((acc.length : Int), B, (p : Int), false, acc) = some (.nxt ((acc.length : Int) + 1, B, (p' : Int), bad', acc ++ [y])) ∧ p' ≤ B.length ∧ p ≤ p' ∧ Rst b0 (B.drop p') bad' (pre ++ en y) ∧ (bad' = false → p < p' ∧ Q y))
    (hf : 1048578 ≤ fuel) (hB : B.length ≤ 1048576) (hp : p ≤ B.length) (hn : 0 ≤ n) (h : Rst b0 (B.drop p) bad pre) :
    (whileN body fuel (0, B, (p : Int), bad, []) = some (.ret r0)) ∨ ∃ (i' : Int) (p' : Nat) (bad' : Bool) (ys : List α), whileN body fuel (0, B, (p : Int), bad, []) = some (.fin (i', B, (p' : Int), bad', ys)) ∧ p' ≤ B.length ∧ p ≤ p' ∧ ys.length ≤ 1048577 ∧ Rst b0 (B.drop p') bad' (pre ++ ys.flatMap en) ∧ (bad' = false → bad = false ∧ (ys.length : Int) = n ∧ ys.length ≤ 1048576 ∧ ∀ y ∈ ys, Q y) := by
  rcases tapeS en Q n r0 hend hb (B.length - p + 1) fuel p bad [] pre (by omega) (by omega) (by simp) (fun _ => by simp) hB hp (fun _ => by simpa using hn) h with e | ⟨p', bad', ys, e, h1, h2, h3, h4, h5⟩
  · exact .inl e
  · refine .inr ⟨_, p', bad', ys, e, h1, h2, by simp only [List.nil_append] at h3; omega, h4, fun hd => ?_⟩
    obtain ⟨a, b, c, d⟩ := h5 hd
    exact ⟨a, b, by simp only [List.nil_append] at c; omega, d⟩
end Go.Proofs.Ytnmicfhdpnabcaa
