/- Plain laws of the tables: reading their bytes. -/
import Derived.Test.YtnmicfhdpnabcaaTbL4
namespace Go.Proofs.Ytnmicfhdpnabcaa
open Go Go.Ab
set_option maxRecDepth 20000
set_option linter.unusedVariables false
set_option linter.unusedSimpArgs false

theorem or_add {x y : Int} (k z : Nat) (h0 : 0 ≤ x) (hx : x < 2 ^ k) (hy : y = 2 ^ k * (z : Int)) (hb : x + y < 9223372036854775808) : bitOr .i64 x y = x + y := by
  obtain ⟨n, rfl⟩ : ∃ n : Nat, x = n := ⟨x.toNat, by omega⟩
  have hy' : y = ((2 ^ k * z : Nat) : Int) := by rw [hy]; push_cast; rfl
  generalize hm : 2 ^ k * z = m at hy'
  subst hy'
  have hn : n < 2 ^ k := by exact_mod_cast hx
  have e : n ||| m = n + m := by
    have := Nat.two_pow_add_eq_or_of_lt hn z
    rw [hm] at this
    rw [Nat.or_comm, ← this, Nat.add_comm]
  unfold bitOr
  have hs : IntKind.i64.bits = 64 := rfl
  rw [hs, BitVec.ofInt_natCast, BitVec.ofInt_natCast, BitVec.toNat_or, BitVec.toNat_ofNat, BitVec.toNat_ofNat, Nat.mod_eq_of_lt (by omega), Nat.mod_eq_of_lt (by omega), e]
  show I64 _ = _
  rw [I64_of (by omega)]; omega

def val4 (a b c d : Int) : Int := a + 256 * b + 65536 * c + 16777216 * d
theorem word_of {a b c d : Int} (ha : 0 ≤ a ∧ a ≤ 255) (hb : 0 ≤ b ∧ b ≤ 255) (hc : 0 ≤ c ∧ c ≤ 255) (hd : 0 ≤ d ∧ d ≤ 255) :
    bitOr .i64 (bitOr .i64 (bitOr .i64 (I64 a) (shL .i64 (I64 b) 8)) (shL .i64 (I64 c) 16)) (shL .i64 (I64 d) 24) = val4 a b c d := by
  have e1 : shL .i64 (I64 b) 8 = 2 ^ 8 * (b.toNat : Int) := by
    unfold shL; rw [I64_of (by omega)]
    have : (2 : Int) ^ (min (8 : Int).toNat IntKind.i64.bits) = 256 := by decide
    rw [this]; show I64 _ = _; rw [I64_of (by omega)]; omega
  have e2 : shL .i64 (I64 c) 16 = 2 ^ 16 * (c.toNat : Int) := by
    unfold shL; rw [I64_of (by omega)]
    have : (2 : Int) ^ (min (16 : Int).toNat IntKind.i64.bits) = 65536 := by decide
    rw [this]; show I64 _ = _; rw [I64_of (by omega)]; omega
  have e3 : shL .i64 (I64 d) 24 = 2 ^ 24 * (d.toNat : Int) := by
    unfold shL; rw [I64_of (by omega)]
    have : (2 : Int) ^ (min (24 : Int).toNat IntKind.i64.bits) = 16777216 := by decide
    rw [this]; show I64 _ = _; rw [I64_of (by omega)]; omega
  rw [e1, e2, e3, I64_of (by omega)]
  have o1 := or_add (x := a) 8 b.toNat (by omega) (by omega) rfl (by omega)
  rw [o1]
  have o2 := or_add (x := a + 2 ^ 8 * (b.toNat : Int)) 16 c.toNat (by omega) (by omega) rfl (by omega)
  rw [o2]
  have o3 := or_add (x := a + 2 ^ 8 * (b.toNat : Int) + 2 ^ 16 * (c.toNat : Int)) 24 d.toNat (by omega) (by omega) rfl (by omega)
  rw [o3]; unfold val4; omega

theorem num_bad (b : List Int) : tables_reader_number_pNN_s b true = some (0, b, true) := rfl
theorem num_short {b : List Int} (h : b.length < 4) : tables_reader_number_pNN_s b false = some (0, b, true) := by
  unfold tables_reader_number_pNN_s jp
  have : (b.length : Int) < 4 := by omega
  simp [this]
theorem get4_0 {a b c d : Int} {r : List Int} : getI (a :: b :: c :: d :: r) 0 = some a := getI_nat _ 0
theorem get4_1 {a b c d : Int} {r : List Int} : getI (a :: b :: c :: d :: r) 1 = some b := getI_nat _ 1
theorem get4_2 {a b c d : Int} {r : List Int} : getI (a :: b :: c :: d :: r) 2 = some c := getI_nat _ 2
theorem get4_3 {a b c d : Int} {r : List Int} : getI (a :: b :: c :: d :: r) 3 = some d := getI_nat _ 3
theorem sub4 {b : List Int} (h : 4 ≤ b.length) : subL b 4 (b.length : Int) = some (b.drop 4) := by
  unfold subL
  rw [if_pos ⟨by decide, by omega, Int.le_refl _⟩, Int.toNat_natCast, List.take_length]; rfl
theorem num_go {b : List Int} (h : 4 ≤ b.length) : tables_reader_number_pNN_s b false =
    ((getI b 0).bind fun y_3 => ((getI b 1).bind fun y_4 => ((getI b 2).bind fun y_5 => ((getI b 3).bind fun y_6 => some ((bitOr .i64 (bitOr .i64 (bitOr .i64 (I64 y_3) (shL .i64 (I64 y_4) 8)) (shL .i64 (I64 y_5) 16)) (shL .i64 (I64 y_6) 24)), b.drop 4, false))))) := by
  unfold tables_reader_number_pNN_s jp
  have n : ¬ ((b.length : Int) < 4) := by omega
  simp only [Bool.false_eq_true, if_false, decide_eq_false n, sub4 h, Option.bind_some]
theorem num_cons {a b c d : Int} {r : List Int} (ha : 0 ≤ a ∧ a ≤ 255) (hb : 0 ≤ b ∧ b ≤ 255) (hc : 0 ≤ c ∧ c ≤ 255) (hd : 0 ≤ d ∧ d ≤ 255) :
    tables_reader_number_pNN_s (a :: b :: c :: d :: r) false = some (val4 a b c d, r, false) := by
  rw [num_go (by simp), get4_0, get4_1, get4_2, get4_3, Option.bind_some, Option.bind_some, Option.bind_some, Option.bind_some, word_of ha hb hc hd]
  simp only [List.drop_succ_cons, List.drop_zero]
theorem val_le4 {v : Int} (h0 : 0 ≤ v) (h1 : v < 4294967296) : val4 (v % 256) (v / 256 % 256) (v / 65536 % 256) (v / 16777216 % 256) = v := by unfold val4; omega
theorem num_le4 {v : Int} {r : List Int} (h0 : 0 ≤ v) (h1 : v < 4294967296) : tables_reader_number_pNN_s (le4 v ++ r) false = some (v, r, false) := by
  have := num_cons (a := v % 256) (b := v / 256 % 256) (c := v / 65536 % 256) (d := v / 16777216 % 256) (r := r) (by omega) (by omega) (by omega) (by omega)
  rw [val_le4 h0 h1] at this
  exact this

/-- What reading keeps: of the bytes and the mark, beside the bytes that ought to come. -/
structure Rdr (C : List Int → Bool → List Int → Prop) : Prop where
  num : ∀ {v : Int} {E b : List Int} {bad : Bool}, 0 ≤ v → v < 4294967296 → C b bad (le4 v ++ E) → ∃ v' b' bad', tables_reader_number_pNN_s b bad = some (v', b', bad') ∧ C b' bad' E ∧ (bad' = false → bad = false ∧ v' = v) ∧ (bad' = true → v' = 0)
  alt : ∀ {E b : List Int}, C b false E → E.length ≤ b.length ∨ C b true E
  skip : ∀ {E E' b : List Int}, C b true E → C b true E'
  small : ∀ {E b : List Int} {bad : Bool}, C b bad E → b.length ≤ 4503599627370496

theorem Rdr.cnt {C : List Int → Bool → List Int → Prop} (hC : Rdr C) {v : Int} {E b : List Int} {bad : Bool} (h0 : 0 ≤ v) (h1 : v < 4294967296) (h4 : 4 * v ≤ E.length) (h : C b bad (le4 v ++ E)) :
    ∃ v' b' bad', tables_reader_count_pNN_s b bad = some (v', b', bad') ∧ C b' bad' E ∧ (bad' = false → bad = false ∧ v' = v) ∧ (bad' = true → v' = 0) := by
  obtain ⟨v', b', bad', e, hc, h5, h6⟩ := hC.num h0 h1 h
  unfold tables_reader_count_pNN_s
  rw [e]
  simp only [Option.bind_some]
  have hs := hC.small hc
  have e4 : I64 (Int.tdiv (b'.length : Int) 4) = (b'.length : Int) / 4 := by
    rw [Int.tdiv_eq_ediv_of_nonneg (by omega), I64_of (by omega)]
  rw [e4]
  cases bad' with
  | true =>
    rw [h6 rfl, decide_eq_false (by omega)]
    exact ⟨_, _, _, rfl, hc, nofun, fun _ => rfl⟩
  | false =>
    obtain ⟨hb, rfl⟩ := h5 rfl
    by_cases hh : v' > (b'.length : Int) / 4
    · rw [decide_eq_true hh]
      refine ⟨_, _, _, rfl, ?_, nofun, fun _ => rfl⟩
      rcases hC.alt hc with h | h
      · omega
      · exact h
    · rw [decide_eq_false hh]
      exact ⟨_, _, _, rfl, hc, fun _ => ⟨hb, rfl⟩, nofun⟩

theorem loopN {α ρ : Type} {C : List Int → Bool → List Int → Prop} (en : α → List Int) {body : Nat → (List Int × Bool × List α) → Option (Stp (List Int × Bool × List α) ρ)} :
    ∀ (xs : List α) (i : Nat) (b : List Int) (bad : Bool) (acc : List α) (E : List Int), acc.length + xs.length ≤ 1048576 →
    (∀ x ∈ xs, ∀ (i : Nat) (b : List Int) (bad : Bool) (acc : List α) (E : List Int), acc.length ≤ 1048576 → C b bad (en x ++ E) →
      ∃ b' bad' y, body i (b, bad, acc) = some (.nxt (b', bad', acc ++ [y])) ∧ C b' bad' E ∧ (bad' = false → bad = false ∧ y = x)) →
    C b bad (xs.flatMap en ++ E) → ∃ b' bad' acc', rangeN body xs.length i (b, bad, acc) = some (.fin (b', bad', acc')) ∧ C b' bad' E ∧ (bad' = false → bad = false ∧ acc' = acc ++ xs)
  | [], i, b, bad, acc, E, hl, hb, h => ⟨b, bad, acc, rfl, h, fun h => ⟨h, by simp⟩⟩
  | x :: r, i, b, bad, acc, E, hl, hb, h => by
    simp only [List.length_cons] at hl
    rw [List.flatMap_cons, List.append_assoc] at h
    obtain ⟨b1, bad1, y, e1, c1, g1⟩ := hb x (by simp) i b bad acc _ (by omega) h
    obtain ⟨b2, bad2, acc2, e2, c2, g2⟩ := loopN en r (i + 1) b1 bad1 (acc ++ [y]) E (by simp only [List.length_append, List.length_singleton]; omega) (fun z hz => hb z (by simp [hz])) c1
    refine ⟨b2, bad2, acc2, ?_, c2, fun hf => ?_⟩
    · simp only [List.length_cons, rangeN, e1]; exact e2
    · obtain ⟨h1, h2⟩ := g2 hf
      obtain ⟨h3, rfl⟩ := g1 h1
      exact ⟨h3, by rw [h2]; simp⟩

theorem loopI {α ρ : Type} {C : List Int → Bool → List Int → Prop} (hC : Rdr C) (en : α → List Int) {body : Nat → (List Int × Bool × List α) → Option (Stp (List Int × Bool × List α) ρ)}
    (xs : List α) {n : Int} {b : List Int} {bad : Bool} {E : List Int} (hl : xs.length ≤ 1048576)
    (hb : ∀ x ∈ xs, ∀ (i : Nat) (b : List Int) (bad : Bool) (acc : List α) (E : List Int), acc.length ≤ 1048576 → C b bad (en x ++ E) →
      ∃ b' bad' y, body i (b, bad, acc) = some (.nxt (b', bad', acc ++ [y])) ∧ C b' bad' E ∧ (bad' = false → bad = false ∧ y = x))
    (hn : bad = false → n = xs.length) (hn' : bad = true → n = 0)
    (h : C b bad (xs.flatMap en ++ E)) : ∃ b' bad' acc', rni body n (b, bad, []) = some (.fin (b', bad', acc')) ∧ C b' bad' E ∧ (bad' = false → bad = false ∧ acc' = xs) := by
  unfold rni
  cases bad with
  | true =>
    rw [hn' rfl, if_pos (by omega)]
    exact ⟨b, true, [], rfl, hC.skip h, nofun⟩
  | false =>
    rw [hn rfl, if_pos (by omega), Int.toNat_natCast]
    obtain ⟨b2, bad2, acc2, e2, c2, g2⟩ := loopN en xs 0 b false [] E (by simpa using hl) hb h
    exact ⟨b2, bad2, acc2, e2, c2, fun h => ⟨rfl, (g2 h).2⟩⟩

/-- What right tables hold. -/
structure Wh (t : Tables) : Prop where
  f : t.Funcs.length ≤ 16
  s : t.Sites.length ≤ 65536
  r : ∀ r ∈ t.Funcs, (0 ≤ r.Start ∧ r.Start ≤ 1048576) ∧ (0 ≤ r.Stop ∧ r.Stop ≤ 1048576) ∧ (0 ≤ r.Size ∧ r.Size ≤ 65536) ∧ (-1 ≤ r.Resume ∧ r.Resume ≤ 1048576) ∧ r.Params.length ≤ 4 ∧ (∀ k ∈ r.Params, 0 ≤ k ∧ k ≤ 1) ∧ r.Saves.length ≤ 1048576 ∧ ∀ s ∈ r.Saves, (0 ≤ s.Reg ∧ s.Reg ≤ 11) ∧ 0 ≤ s.Off ∧ s.Off ≤ 65536
  l : ∀ s ∈ t.Sites, (0 ≤ s.At ∧ s.At ≤ 1048576) ∧ s.Live.length ≤ 1048576 ∧ ∀ o ∈ s.Live, 0 ≤ o ∧ o ≤ 65536

theorem allP_mem {α : Type} {ok : Option α → α → Bool} : ∀ {l : List α} {p : Option α}, allP ok p l = true → ∀ x ∈ l, ∃ p, ok p x = true
  | [], _, _, _, hx => by cases hx
  | y :: r, p, h, x, hx => by
    simp only [allP, Bool.and_eq_true] at h
    rcases List.mem_cons.1 hx with rfl | hx
    · exact ⟨p, h.1⟩
    · exact allP_mem h.2 x hx
theorem ownerI_row {t : Tables} {x : Int} {f : Nat} (h : ownerI t x = some f) : ∃ r ∈ t.Funcs, t.Funcs[f]? = some r ∧ r.Start < x ∧ x ≤ r.Stop := by
  unfold ownerI at h
  obtain ⟨_, r, h1, h2, _⟩ := firstI_some h
  simp only [decide_eq_true_eq] at h2
  exact ⟨r, List.mem_of_getElem? h1, by simpa using h1, h2⟩
theorem wh_of {t : Tables} (ht : Fit t) (hb : Bts t) (h : okT t = true) : Wh t := by
  unfold okT at h
  simp only [Bool.and_eq_true, decide_eq_true_eq] at h
  obtain ⟨⟨⟨hf, hs⟩, hP⟩, hS⟩ := h
  refine ⟨hf, hs, fun r hr => ?_, fun s hs => ?_⟩
  · obtain ⟨p, hp⟩ := allP_mem hP r hr
    obtain ⟨f1, f2, f3, f4, f5, f6, f7⟩ := row_facts hp
    unfold rowP rowC at hp
    simp only [Bool.and_eq_true, decide_eq_true_eq, List.all_eq_true] at hp
    obtain ⟨_, ⟨⟨_, hk⟩, hv⟩, _⟩ := hp
    refine ⟨by omega, by omega, by omega, by omega, f6, fun k hk' => ⟨(hb r hr k hk').1, hk k hk'⟩, (ht.r r hr).2, fun s hs => ?_⟩
    obtain ⟨q, hq⟩ := allP_mem hv s hs
    unfold saveP offB at hq
    simp only [Bool.and_eq_true, decide_eq_true_eq] at hq
    omega
  · obtain ⟨p, hp⟩ := allP_mem hS s hs
    unfold siteP at hp
    cases ho : ownerI t s.At with
    | none => rw [ho] at hp; cases hp
    | some f =>
      obtain ⟨r, hr, hg, h1, h2⟩ := ownerI_row ho
      rw [ho] at hp
      simp only [hg, Bool.and_eq_true] at hp
      obtain ⟨p', hp'⟩ := allP_mem hP r hr
      obtain ⟨f1, f2, f3, f4, f5, f6, f7⟩ := row_facts hp'
      refine ⟨by omega, ht.l s hs, fun o ho => ?_⟩
      obtain ⟨q, hq⟩ := allP_mem hp.2 o ho
      unfold liveP offB at hq
      simp only [Bool.and_eq_true, decide_eq_true_eq] at hq
      omega
end Go.Proofs.Ytnmicfhdpnabcaa
