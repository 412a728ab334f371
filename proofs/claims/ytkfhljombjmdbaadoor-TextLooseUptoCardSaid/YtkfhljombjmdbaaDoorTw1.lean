/- Plain lemmas of texts: bytes, numerals, pieces. -/
import Derived.Test.YtkfhljombjmdbaaDoorTxN
import Derived.Test.YtkfhljombjmdbaaDoorWlH1
import Derived.Test.YtkfhljombjmdbaaDoorTxS
import Derived.Lib.SplitLaws
import Derived.WalkKit
import Derived.ProofKit
import Derived.OpenShut
import Derived.JoinedCond
namespace Go.Proofs.YtkfhljombjmdbaaDoor
open Go Go.Ab Go.RowKit
set_option maxRecDepth 20000
set_option linter.unusedVariables false
set_option linter.unusedSimpArgs false

def bsl (l : List UInt8) : ByteArray := ⟨l.toArray⟩
theorem bsl_data (l : List UInt8) : (bsl l).data.toList = l := by simp [bsl]
theorem bsl_toList (l : List UInt8) : (bsl l).toList = l := by rw [toList_data, bsl_data]
theorem bsl_size (l : List UInt8) : (bsl l).size = l.length := by simp [bsl, ByteArray.size]
theorem bsl_inj {a b : ByteArray} (h : a.data.toList = b.data.toList) : a = b := by
  cases a; cases b; simp only [ByteArray.mk.injEq]; exact Array.toList_inj.1 h
theorem bsl_eq (b : ByteArray) : b = bsl b.data.toList := bsl_inj (by rw [bsl_data])
theorem cat_b (a b : List UInt8) (h : a.length + b.length ≤ 100000000000) : catS (bsl a) (bsl b) = some (bsl (a ++ b)) := by
  unfold catS
  rw [bsl_size, bsl_size, if_pos (by omega)]
  exact congrArg some (bsl_inj (by rw [ByteArray.data_append, Array.toList_append, bsl_data, bsl_data, bsl_data]))
theorem Lib.extract_toList' (s : ByteArray) (i j : Nat) : (s.extract i j).data.toList = (s.data.toList.drop i).take (j - i) := by
  rw [ByteArray.data_extract, Array.toList_extract, List.extract]

theorem sub_b (a : List UInt8) (i j : Nat) (hij : i ≤ j) (hj : j ≤ a.length) : subS (bsl a) i j = some (bsl ((a.take j).drop i)) := by
  unfold subS
  rw [bsl_size, if_pos (by omega)]
  congr 1
  apply bsl_inj
  rw [bsl_data, Int.toNat_natCast, Int.toNat_natCast, Lib.extract_toList', bsl_data, List.drop_take]
theorem strI_b (a : List UInt8) (i : Nat) (h : i < a.length) : strI (bsl a) i = some (a[i].toNat : Int) := by
  unfold strI
  rw [bsl_size, if_pos (by omega)]
  have : (bsl a)[i]? = some a[i] := by
    rw [getElem?_pos (bsl a) i (by show i < (bsl a).size; rw [bsl_size]; exact h)]
    rfl
  simp [this]

theorem digs_len : ∀ (k u : Nat), 1 ≤ (digs k u).length ∧ (digs k u).length ≤ k + 1
  | 0, u => by simp [digs]
  | k + 1, u => by
    rw [digs]
    split
    · simp
    · have := digs_len k (u / 10)
      simp; omega
theorem digs_num : ∀ (k u : Nat), ∀ b ∈ digs k u, b ≠ 32
  | 0, u => by
    intro b hb
    simp only [digs, List.mem_singleton] at hb
    subst hb
    have : u % 10 < 10 := Nat.mod_lt _ (by decide)
    intro e
    have := congrArg UInt8.toNat e
    rw [UInt8.toNat_ofNat', Nat.mod_eq_of_lt (by omega)] at this
    simp at this
    omega
  | k + 1, u => by
    intro b hb
    rw [digs] at hb
    have : u % 10 < 10 := Nat.mod_lt _ (by decide)
    split at hb
    · simp only [List.mem_singleton] at hb
      subst hb
      intro e
      have := congrArg UInt8.toNat e
      rw [UInt8.toNat_ofNat', Nat.mod_eq_of_lt (by omega)] at this
      simp at this
      omega
    · simp only [List.mem_append, List.mem_singleton] at hb
      rcases hb with hb | hb
      · exact digs_num k _ b hb
      · subst hb
        intro e
        have := congrArg UInt8.toNat e
        rw [UInt8.toNat_ofNat', Nat.mod_eq_of_lt (by omega)] at this
        simp at this
        omega

theorem fmt_eq (v : Int) (h : (Lit.int .u64 v).wf = true) : strconv_FormatUint_s v 10 = some (bsl (digs 19 v.toNat)) := by
  have hb : 0 ≤ v ∧ v < 18446744073709551616 := by
    simp only [Lit.wf, Bool.and_eq_true, decide_eq_true_eq] at h
    have h1 : IntKind.u64.min = 0 := by decide
    have h2 : IntKind.u64.max = 18446744073709551615 := by decide
    omega
  unfold strconv_FormatUint_s internal_strconv_FormatUint_s
  rw [if_pos ⟨rfl, hb.1, hb.2⟩]
  rfl

theorem u64_wf {v : Int} (h : (Lit.int .u64 v).wf = true) : 0 ≤ v ∧ v < 18446744073709551616 := by
  simp only [Lit.wf, Bool.and_eq_true, decide_eq_true_eq] at h
  have h1 : IntKind.u64.min = 0 := by decide
  have h2 : IntKind.u64.max = 18446744073709551615 := by decide
  omega
theorem digs19 (u : Nat) (h : u < 18446744073709551616) : digs 19 u = Lib.decDigits u := digs_eq 19 u (by
  have : (10 : Nat) ^ (19 + 1) = 100000000000000000000 := by decide
  omega)
theorem toStr_one (c : Nat) (h : c < 256) : toStr [(c : Int)] = some (bsl [UInt8.ofNat c]) := by
  unfold toStr
  simp only [List.map_cons, List.map_nil, avI, bytesOf]
  rw [if_pos (by omega)]
  simp [bsl]

theorem Number_run {body : Int × ByteArray → Option (Stp (Int × ByteArray) (Option ByteArray))}
    (hb : ∀ n a, body (n, a) = (toStr ([(U8 (U64 (48 + (Int.tmod n 10))))])).bind fun s_2 => ((catS s_2 a).bind fun s_3 => (if ((U64 (Int.tdiv n 10)) == 0) = true then (some (.ret (some s_3))) else (some (.nxt ((U64 (Int.tdiv n 10)), s_3)))))) :
    ∀ (F n : Nat) (acc : List UInt8), n < 10 ^ F → n < 18446744073709551616 → 1 ≤ F → acc.length + F ≤ 1000 → whileN body F ((n : Int), bsl acc) = some (.ret (some (bsl (Lib.decDigits n ++ acc))))
  | 0, n, acc, _, _, h, _ => by omega
  | F + 1, n, acc, hF, hn, _, hl => by
    have hm : n % 10 < 10 := Nat.mod_lt _ (by decide)
    have e1 : Int.tmod (n : Int) 10 = ((n % 10 : Nat) : Int) := rfl
    have e2 : Int.tdiv (n : Int) 10 = ((n / 10 : Nat) : Int) := rfl
    have e3 : U8 (U64 (48 + ((n % 10 : Nat) : Int))) = ((48 + n % 10 : Nat) : Int) := by
      rw [U64_of (by omega), U8_of (by omega)]; omega
    have e4 : U64 ((n / 10 : Nat) : Int) = ((n / 10 : Nat) : Int) := U64_of (by omega)
    have hbd : body ((n : Int), bsl acc) = if n / 10 = 0 then some (.ret (some (bsl (UInt8.ofNat (48 + n % 10) :: acc)))) else some (.nxt (((n / 10 : Nat) : Int), bsl (UInt8.ofNat (48 + n % 10) :: acc))) := by
      rw [hb, e1, e2, e3, e4, toStr_one _ (by omega), Option.bind_some, cat_b _ _ (by simp; omega), Option.bind_some]
      by_cases h : n / 10 = 0
      · rw [if_pos h, if_pos (by rw [h]; rfl)]; rfl
      · rw [if_neg h, if_neg (by rw [beq_iff_eq]; omega)]; rfl
    by_cases h : n / 10 = 0
    · rw [if_pos h] at hbd
      rw [whileN_ret hbd, Lib.decDigits, dif_pos (by omega), Nat.mod_eq_of_lt (by omega)]; rfl
    · rw [if_neg h] at hbd
      rw [whileN_step hbd]
      have hF' : n / 10 < 10 ^ F := by rw [Nat.pow_succ] at hF; exact Nat.div_lt_of_lt_mul (by omega)
      have h1 : 1 ≤ F := by
        cases F with
        | zero => simp at hF'; omega
        | succ F => omega
      rw [Number_run hb F (n / 10) _ hF' (by omega) h1 (by simp; omega), Lib.decDigits.eq_1 n, dif_neg (by omega), List.append_assoc]
      rfl

theorem whileN_more {σ ρ : Type} {body : σ → Option (Stp σ ρ)} : ∀ (n m : Nat) (s : σ) (o : Out σ ρ), whileN body n s = some o → n ≤ m → whileN body m s = some o
  | 0, m, s, o, h, _ => by simp [whileN] at h
  | n + 1, 0, s, o, h, hm => by omega
  | n + 1, m + 1, s, o, h, hm => by
    simp only [whileN] at h ⊢
    cases e : body s with
    | none => rw [e] at h; cases h
    | some x =>
      rw [e] at h
      cases x with
      | nxt s' => exact whileN_more n m s' o h (by omega)
      | brk s' => exact h
      | ret v => exact h

theorem Number_eq (F : Nat) (hF : 20 ≤ F) (v : Int) (h : 0 ≤ v ∧ v < 18446744073709551616) : windlassref02_Number_s F v = some (bsl (digs 19 v.toNat)) := by
  unfold windlassref02_Number_s
  obtain ⟨n, rfl⟩ : ∃ n : Nat, v = n := ⟨v.toNat, by omega⟩
  have e : (10 : Nat) ^ 20 = 100000000000000000000 := by decide
  have := whileN_more 20 F _ _ (Number_run (body := fun (s_1 : (Int × ByteArray)) => (((toStr ([(U8 (U64 (48 + (Int.tmod s_1.1 10))))])).bind fun s_2 => ((catS s_2 s_1.2).bind fun s_3 => (if ((U64 (Int.tdiv s_1.1 10)) == 0) then (some (.ret (some s_3))) else (some (.nxt ((U64 (Int.tdiv s_1.1 10)), s_3)))))) : Option (Stp (Int × ByteArray) (Option ByteArray))))
    (fun n a => rfl) 20 n [] (by omega) (by omega) (by omega) (by simp)) hF
  rw [show (ByteArray.mk #[]) = bsl [] from rfl, this, List.append_nil, Int.toNat_natCast, digs19 n (by omega)]
  rfl

theorem whileN_fin {σ ρ : Type} {body : σ → Option (Stp σ ρ)} (Inv : σ → Prop) (μ : σ → Nat) (e : σ)
    (h : ∀ s, Inv s → (∃ s', body s = some (.nxt s') ∧ Inv s' ∧ μ s' < μ s) ∨ body s = some (.brk e)) (n : Nat) (s : σ) (hi : Inv s) (hn : μ s < n) : whileN body n s = some (.fin e) := by
  obtain ⟨o, h1, h2⟩ := whileN_ex Inv μ (fun o => o = .fin e) (fun s hs => (h s hs).elim .inl fun q => .inr (.inl ⟨e, q, rfl⟩)) n s hi hn
  rw [h1, h2]

theorem beq_bsl (a b : List UInt8) : (ByteArray.toList (bsl a) == ByteArray.toList (bsl b)) = decide (a = b) := by
  rw [bsl_toList, bsl_toList]
  by_cases h : a = b
  · subst h; simp
  · rw [decide_eq_false h, beq_eq_false_iff_ne]; exact h

def valR (l : List UInt8) : Int × Bool := match numOf l with
  | some n => ((n : Int), true)
  | none => (0, false)

theorem numOf_none {l : List UInt8} (h : numP l = false ∨ 18446744073709551616 ≤ valD 0 l) : numOf l = none := by
  unfold numOf
  rw [if_neg]
  rintro ⟨h1, h2⟩
  rcases h with h | h
  · rw [h] at h1; cases h1
  · omega

theorem valD_take (l : List UInt8) (i : Nat) (h : i < l.length) (a : Nat) : valD a (l.take (i + 1)) = valD a (l.take i) * 10 + (l[i].toNat - 48) := by
  rw [List.take_add_one, List.getElem?_eq_getElem h, show (some l[i]).toList = [l[i]] from rfl, valD_snoc]
theorem valD_mono (l : List UInt8) (i : Nat) : valD 0 (l.take i) ≤ valD 0 l := by
  have e : l = l.take i ++ l.drop i := (List.take_append_drop i l).symm
  have app : ∀ (a b : List UInt8) (k : Nat), valD k (a ++ b) = valD (valD k a) b := by
    intro a
    induction a with
    | nil => intro b k; rw [List.nil_append, valD_nil]
    | cons x a ih => intro b k; rw [List.cons_append, valD_cons, ih, valD_cons]
  have h1 := valD_ge (l.drop i) (valD 0 (l.take i))
  rw [← app, List.take_append_drop] at h1
  exact h1
theorem all_take (l : List UInt8) (i : Nat) (h : i < l.length) (ha : (l.take i).all isDig = true) (hc : isDig l[i] = true) : (l.take (i + 1)).all isDig = true := by
  rw [List.take_add_one, List.getElem?_eq_getElem h, show (some l[i]).toList = [l[i]] from rfl, List.all_append, ha, List.all_cons, hc]; rfl
theorem not_all (l : List UInt8) (i : Nat) (h : i < l.length) (hc : isDig l[i] = false) : numP l = false := by
  unfold numP
  have : l.all isDig = false := by
    rw [Bool.eq_false_iff]
    intro q
    rw [List.all_eq_true.1 q l[i] (List.getElem_mem h)] at hc
    cases hc
  rw [this]; rfl

theorem TSplit_eq (c : UInt8) (l : List UInt8) (hl : l.length ≤ 2840000000) : strings_Split_s (bsl l) (bsl [c]) = some ((splitL c l).map bsl) := by
  unfold strings_Split_s
  rw [if_pos ⟨by rw [bsl_size]; omega, by rw [bsl_size]; simp⟩]
  congr 1
  have h1 := Lib.splitB_data (bsl [c]) 0 (Lib.countB (bsl l) (bsl [c])) (bsl l)
  have h2 : Lib.countB (bsl l) (bsl [c]) = l.count c := by
    show Lib.count (bsl l).data.toList (bsl [c]).data.toList = _
    rw [bsl_data, bsl_data, Lib.count_one]
  rw [bsl_data, bsl_data, splitK_ge c _ l (by rw [h2]; exact Nat.le_refl _)] at h1
  rw [← h1, List.map_map]
  show _ = List.map (bsl ∘ fun (x : ByteArray) => x.data.toList) _
  rw [show (bsl ∘ fun (x : ByteArray) => x.data.toList) = id from funext fun x => (bsl_eq x).symm, List.map_id]

theorem fmtN (u : Nat) (h : u < 18446744073709551616) : strconv_FormatUint_s (u : Int) 10 = some (bsl (Lib.decDigits u)) := by
  unfold strconv_FormatUint_s internal_strconv_FormatUint_s
  rw [if_pos ⟨rfl, by omega, by omega⟩, Int.toNat_natCast, digs19 u h]; rfl

theorem parse_eq (r : List UInt8) (hr : r.length ≤ 2840000000) : ∃ p : Int × Bool, strconv_ParseUint_s (bsl r) 10 64 = some p ∧ ((∃ u : Nat, p = ((u : Int), false) ∧ Lib.parseUintB 64 r = .ok u) ∨ (p.2 = true ∧ numOf r = none)) := by
  have hno : (∀ u, Lib.parseUintB 64 r ≠ .ok u) → numOf r = none := by
    intro h
    cases q : numOf r with
    | none => rfl
    | some m =>
      obtain ⟨q1, q2⟩ := (numOf_iff r m).1 q
      exact (h m (parse_num r m q2 q1)).elim
  unfold strconv_ParseUint_s
  rw [if_pos ⟨rfl, rfl, by rw [bsl_size]; omega⟩, bsl_data]
  cases e : Lib.parseUintB 64 r with
  | ok u => exact ⟨_, rfl, .inl ⟨u, rfl, rfl⟩⟩
  | «syntax» => exact ⟨_, rfl, .inr ⟨rfl, hno (fun u q => by rw [e] at q; cases q)⟩⟩
  | range => exact ⟨_, rfl, .inr ⟨rfl, hno (fun u q => by rw [e] at q; cases q)⟩⟩

theorem join_len (c : UInt8) (ws : List (List UInt8)) : ∀ w ∈ ws, w.length ≤ (Lib.join ws [c]).length ∧ ws.length ≤ (Lib.join ws [c]).length + 1 := by
  intro w hw
  obtain ⟨x, r, rfl⟩ := List.exists_cons_of_ne_nil (List.ne_nil_of_mem hw)
  rw [Lib.join_length]
  have h1 : ∀ (l : List (List UInt8)), ∀ u ∈ l, u.length ≤ Lib.lens l := by
    intro l
    induction l with
    | nil => intro u hu; simp at hu
    | cons a b ih =>
      intro u hu
      have : Lib.lens (a :: b) = a.length + Lib.lens b := by simp [Lib.lens]
      rcases List.mem_cons.1 hu with rfl | q
      · omega
      · have := ih u q; omega
  have := h1 (x :: r) w hw
  refine ⟨by omega, ?_⟩
  simp
theorem split_len (c : UInt8) (l : List UInt8) : (splitL c l).length ≤ l.length + 1 ∧ ∀ w ∈ splitL c l, w.length ≤ l.length := by
  have h := join_len c (splitL c l)
  rw [splitL_join] at h
  obtain ⟨x, r, e⟩ := List.exists_cons_of_ne_nil (splitL_ne c l)
  exact ⟨(h x (by rw [e]; simp)).2, fun w hw => (h w hw).1⟩

theorem valR_some {l : List UInt8} {n : Nat} (h : numOf l = some n) : valR l = ((n : Int), true) := by unfold valR; rw [h]
theorem valR_none {l : List UInt8} (h : numOf l = none) : valR l = (0, false) := by unfold valR; rw [h]

end Go.Proofs.YtkfhljombjmdbaaDoor
/- Plain laws of the texts: words, names, numbers, one line's instruction (text.instruction). -/
namespace Go.Proofs.YtkfhljombjmdbaaDoor
open Go Go.Ab Go.RowKit
set_option maxRecDepth 20000
set_option linter.unusedVariables false
set_option linter.unusedSimpArgs false

/-- The words of a line. -/
def wordsOf (l : List UInt8) : List (List UInt8) := (splitL 32 l).filter fun w => decide (w ≠ [])
theorem wordsOf_mem {l w : List UInt8} (h : w ∈ wordsOf l) : w ≠ [] ∧ (32 : UInt8) ∉ w ∧ w.length ≤ l.length := by
  obtain ⟨h1, h2⟩ := List.mem_filter.1 h
  exact ⟨by simpa using h2, splitL_free 32 l w h1, (split_len 32 l).2 w h1⟩
theorem wordsOf_len (l : List UInt8) : (wordsOf l).length ≤ l.length + 1 := Nat.le_trans (List.length_filter_le _ _) (split_len 32 l).1
theorem emptyS_b (w : List UInt8) : Go.Proofs.emptyS (bsl w) = decide (w = []) := by
  unfold Go.Proofs.emptyS
  rw [show (ByteArray.mk #[]) = bsl [] from rfl, beq_bsl]
theorem delE_eq (ws : List (List UInt8)) : delE (ws.map bsl) = (ws.filter fun w => decide (w ≠ [])).map bsl := by
  unfold delE
  rw [List.filter_map]
  congr 1
  apply List.filter_congr
  intro w _
  simp only [Function.comp, emptyS_b]
  by_cases h : w = [] <;> simp [h]
theorem text_words (l : List UInt8) (hl : l.length ≤ 2840000000) : (strings_Split_s (bsl l) (ByteArray.mk #[32])).bind delS = some ((wordsOf l).map bsl) := by
  rw [show (ByteArray.mk #[32]) = bsl [32] from rfl, TSplit_eq 32 l hl, Option.bind_some]
  have h1 := (split_len 32 l).1
  unfold delS
  rw [if_pos ⟨by simpa using splitL_ne 32 l, by rw [List.length_map]; omega⟩, delE_eq]
  rfl
/-- The operations' names. -/
def nm : List (List UInt8) := [[99, 111, 110, 115, 116], [103, 101, 116], [115, 101, 116], [97, 100, 100, 114], [108, 111, 97, 100], [115, 116, 111, 114, 101], [97, 100, 100], [115, 117, 98], [109, 117, 108], [100, 105, 118], [114, 101, 109], [97, 110, 100], [111, 114], [120, 111, 114], [115, 104, 108], [115, 104, 114], [115, 97, 114], [101, 113], [108, 116], [98, 101, 108, 111, 119], [106, 117, 109, 112], [122, 101, 114, 111], [99, 97, 108, 108], [114, 101, 116], [100, 101, 102, 101, 114], [112, 97, 110, 105, 99], [114, 101, 99, 111, 118, 101, 114], [105, 110], [111, 117, 116], [101, 120, 105, 116], [100, 114, 111, 112], [100, 117, 112]]
theorem nm_len : nm.length = 32 := rfl
theorem nm_free : ∀ w ∈ nm, w ≠ [] ∧ (32 : UInt8) ∉ w ∧ w.length ≤ 7 := by decide
theorem nm_nodup : nm.Nodup := by decide
theorem names_eq : text_names_s = some (nm.map bsl) := by
  unfold text_names_s
  rw [show (ByteArray.mk #[32]) = bsl [32] from rfl]
  have := TSplit_eq 32 [99, 111, 110, 115, 116, 32, 103, 101, 116, 32, 115, 101, 116, 32, 97, 100, 100, 114, 32, 108, 111, 97, 100, 32, 115, 116, 111, 114, 101, 32, 97, 100, 100, 32, 115, 117, 98, 32, 109, 117, 108, 32, 100, 105, 118, 32, 114, 101, 109, 32, 97, 110, 100, 32, 111, 114, 32, 120, 111, 114, 32, 115, 104, 108, 32, 115, 104, 114, 32, 115, 97, 114, 32, 101, 113, 32, 108, 116, 32, 98, 101, 108, 111, 119, 32, 106, 117, 109, 112, 32, 122, 101, 114, 111, 32, 99, 97, 108, 108, 32, 114, 101, 116, 32, 100, 101, 102, 101, 114, 32, 112, 97, 110, 105, 99, 32, 114, 101, 99, 111, 118, 101, 114, 32, 105, 110, 32, 111, 117, 116, 32, 101, 120, 105, 116, 32, 100, 114, 111, 112, 32, 100, 117, 112] (by decide)
  refine (congrArg (fun (o : Option (List ByteArray)) => o.bind fun s => some s) this).trans ?_
  kernel_rfl
theorem Name_eq (k : Nat) (h : k < 32) : windlassref04_Name_s ((k + 1 : Nat) : Int) = (nm[k]?).map bsl := by
  have : ∀ k, k < 32 → windlassref04_Name_s ((k + 1 : Nat) : Int) = (nm[k]?).map bsl := by
    intro k hk
    unfold windlassref04_Name_s
    have e : (U8 (((k + 1 : Nat) : Int) - 1)) = (k : Int) := by
      rw [show (((k + 1 : Nat) : Int) - 1) = (k : Int) by omega]
      exact U8_of (by omega)
    rw [e]
    unfold getI
    rw [if_pos (by omega), Int.toNat_natCast, Option.bind_fun_some]
    exact (congrArg (fun (l : List ByteArray) => l[k]?) (show _ = nm.map bsl from rfl)).trans List.getElem?_map
  exact this k h
def ixOf (w : List UInt8) : Option Nat := nm.findIdx? fun x => decide (w = x)
theorem Index_run (w : List UInt8) : ∀ (n k : Nat), k + n = 32 → (∀ j, j < k → nm[j]? ≠ some w) →
    ∃ r, rangeN (fun (i_2 : Nat) (s_1 : ByteArray) => (((getI (nm.map bsl) (i_2 : Int)).bind fun y_3 => (if (ByteArray.toList s_1 == ByteArray.toList y_3) then (some (.ret (some (i_2 : Int)))) else (some (.nxt s_1)))) : Option (Stp ByteArray (Option Int)))) n k (bsl w) = some r ∧
      ((∃ j : Nat, nm[j]? = some w ∧ r = .ret (some (j : Int))) ∨ (w ∉ nm ∧ r = .fin (bsl w)))
  | 0, k, hk, h => ⟨_, rfl, .inr ⟨fun hm => by
      obtain ⟨j, hj, e⟩ := List.getElem_of_mem hm
      exact h j (by rw [nm_len] at hj; omega) (by rw [← e]; exact List.getElem?_eq_getElem hj), rfl⟩⟩
  | n + 1, k, hk, h => by
    have hk2 : k < nm.length := by rw [nm_len]; omega
    have hg : getI (nm.map bsl) (k : Int) = some (bsl nm[k]) := by
      refine getI_of ?_
      rw [List.getElem?_map, List.getElem?_eq_getElem hk2]; rfl
    rw [rangeN]
    simp only [hg, Option.bind_some]
    rw [beq_bsl]
    by_cases hw : w = nm[k]
    · rw [if_pos (by simpa using hw)]
      exact ⟨_, rfl, .inl ⟨k, by rw [hw]; exact List.getElem?_eq_getElem hk2, rfl⟩⟩
    · rw [if_neg (by simpa using hw)]
      exact Index_run w n (k + 1) (by omega) (fun j hj => by
        by_cases hjk : j = k
        · subst hjk; rw [List.getElem?_eq_getElem hk2]; intro q; exact hw (Option.some.inj q).symm
        · exact h j (by omega))
theorem Index_eq (w : List UInt8) : (∃ j : Nat, nm[j]? = some w ∧ slices_Index_0_s (nm.map bsl) (bsl w) = some (j : Int)) ∨ (w ∉ nm ∧ slices_Index_0_s (nm.map bsl) (bsl w) = some (-1)) := by
  unfold slices_Index_0_s rni
  rw [if_pos (by rw [List.length_map, nm_len]; decide)]
  obtain ⟨r, h1, h2⟩ := Index_run w 32 0 rfl (fun j hj => by omega)
  have e : (((nm.map bsl).length : Int)).toNat = 32 := rfl
  rw [e, h1, Option.bind_some]
  rcases h2 with ⟨j, hj, rfl⟩ | ⟨hn, rfl⟩
  · exact .inl ⟨j, hj, rfl⟩
  · exact .inr ⟨hn, rfl⟩

/-- How wide an operand is, by the operation's number from 0 on; the greatest one. -/
def mostN (k : Nat) : Nat := if k = 0 then 18446744073709551615 else if k = 1 ∨ k = 2 ∨ k = 3 ∨ k = 22 ∨ k = 24 then 255 else if k = 20 ∨ k = 21 then 65535 else 0
theorem most_eq (k : Nat) (h : k < 32) : text_most_s ((k + 1 : Nat) : Int) = some (mostN k : Int) := by
  have : ∀ k : Fin 32, text_most_s ((k.val + 1 : Nat) : Int) = some (mostN k.val : Int) := by decide +kernel
  exact this ⟨k, h⟩
/-- A number that is at most so great, in the one form. -/
def numM (m : Nat) (w : List UInt8) : Option Nat := (numOf w).bind fun n => if n ≤ m then some n else none
theorem numM_some {m n : Nat} {w : List UInt8} (h : numM m w = some n) : n ≤ m ∧ w = Lib.decDigits n ∧ n < 18446744073709551616 := by
  unfold numM at h
  cases e : numOf w with
  | none => rw [e] at h; cases h
  | some k =>
    rw [e, Option.bind_some] at h
    split at h
    · cases h; exact ⟨by assumption, (numOf_iff w n).1 e⟩
    · cases h
theorem number_eq (w : List UInt8) (m : Nat) (hw : w.length ≤ 2840000000) : ∃ n' : Int, text_number_s (bsl w) (m : Int) = some (n', (numM m w).isSome) ∧ (∀ n : Nat, numM m w = some n → n' = n) := by
  unfold text_number_s
  obtain ⟨p, hp, hc⟩ := parse_eq w hw
  rw [hp, Option.bind_some]
  rcases hc with ⟨u, rfl, hu⟩ | ⟨h2, hn⟩
  · have hlt := parse_lt w u hu
    dsimp only [jp]
    rw [if_pos (by rfl)]
    by_cases hm : (u : Int) ≤ (m : Int)
    · rw [if_pos (by simpa using hm), fmtN u hlt, Option.bind_some, beq_bsl]
      by_cases he : Lib.decDigits u = w
      · have hnm : numM m w = some u := by
          unfold numM
          rw [(numOf_iff w u).2 ⟨he.symm, hlt⟩, Option.bind_some, if_pos (by omega)]
        refine ⟨(u : Int), by rw [hnm, decide_eq_true he]; rfl, fun n h => ?_⟩
        rw [hnm] at h; exact congrArg Int.ofNat (Option.some.inj h)
      · have hnm : numM m w = none := by
          cases e : numM m w with
          | none => rfl
          | some n =>
            obtain ⟨a, b, c⟩ := numM_some e
            rw [parse_num w n c b] at hu
            cases hu
            exact (he b.symm).elim
        refine ⟨(u : Int), by rw [hnm, decide_eq_false he]; rfl, fun n h => by rw [hnm] at h; cases h⟩
    · have hnm : numM m w = none := by
        cases e : numM m w with
        | none => rfl
        | some n =>
          obtain ⟨a, b, c⟩ := numM_some e
          rw [parse_num w n c b] at hu
          cases hu
          omega
      rw [if_neg (by simpa using hm)]
      exact ⟨(u : Int), by rw [hnm]; rfl, fun n h => by rw [hnm] at h; cases h⟩
  · have hnm : numM m w = none := by unfold numM; rw [hn]; rfl
    obtain ⟨p1, p2⟩ := p
    simp only at h2
    subst h2
    dsimp only [jp]
    rw [if_neg (by simp)]
    exact ⟨p1, by rw [hnm]; rfl, fun n h => by rw [hnm] at h; cases h⟩

/-- The instruction that a line's words say. -/
def instrOf : List (List UInt8) → Option Instr
  | [w0] => (ixOf w0).bind fun k => if mostN k = 0 then some ⟨(k + 1 : Nat), 0, 0⟩ else none
  | [w0, w1] => (ixOf w0).bind fun k => if mostN k = 0 then none else (numM (mostN k) w1).map fun n : Nat => if k = 0 then ⟨1, 0, (n : Int)⟩ else ⟨((k + 1 : Nat) : Int), (n : Int), 0⟩
  | _ => none
theorem nm_inj : ∀ i j : Fin 32, i < j → nm[i] ≠ nm[j] := by decide
theorem ixOf_some {w : List UInt8} {j : Nat} (h : nm[j]? = some w) : ixOf w = some j := by
  unfold ixOf
  obtain ⟨hj, e⟩ := List.getElem?_eq_some_iff.1 h
  rw [List.findIdx?_eq_some_iff_getElem]
  refine ⟨hj, by simpa using e.symm, fun i hi => ?_⟩
  intro q
  have q : w = nm[i] := by simpa using q
  have hj2 : j < 32 := hj
  exact nm_inj ⟨i, by omega⟩ ⟨j, hj2⟩ hi (q.symm.trans e.symm)
theorem ixOf_none {w : List UInt8} (h : w ∉ nm) : ixOf w = none := by
  unfold ixOf
  rw [List.findIdx?_eq_none_iff]
  intro x hx
  exact decide_eq_false (p := w = x) (fun q => h (q ▸ hx))
theorem ixOf_lt {w : List UInt8} {j : Nat} (h : ixOf w = some j) : j < 32 ∧ nm[j]? = some w := by
  unfold ixOf at h
  rw [List.findIdx?_eq_some_iff_getElem] at h
  obtain ⟨hj, e, _⟩ := h
  have e : w = nm[j] := by simpa using e
  exact ⟨hj, by rw [e]; exact List.getElem?_eq_getElem hj⟩
theorem zip_names (ws : List (List UInt8)) (w0 : List UInt8) (r : List (List UInt8)) (h : ws = w0 :: r) (i : Int) (hi : i = 0) : getI (ws.map bsl) i = some (bsl w0) := by
  subst h; subst hi; rfl
theorem instruction_eq (w0 : List UInt8) (r : List (List UInt8)) (hr : ∀ w ∈ r, w.length ≤ 2840000000) (hn : r.length ≤ 2840000000) :
    ∃ i : Instr, text_instruction_s ((w0 :: r).map bsl) = some (i, (instrOf (w0 :: r)).isSome) ∧ ∀ j, instrOf (w0 :: r) = some j → i = j := by
  unfold text_instruction_s
  rw [names_eq, Option.bind_some, zip_names (w0 :: r) w0 r rfl 0 rfl, Option.bind_some]
  rcases Index_eq w0 with ⟨k, hk, e⟩ | ⟨hno, e⟩
  · have hk2 : k < 32 := by
      have := (List.getElem?_eq_some_iff.1 hk).1
      rwa [nm_len] at this
    have hix := ixOf_some hk
    have e1 : U8 (I64 ((k : Int) + 1)) = ((k + 1 : Nat) : Int) := by rw [I64_of (by omega), U8_of (by omega)]; omega
    rw [e, Option.bind_some, e1, if_neg (by rw [beq_iff_eq]; omega), most_eq k hk2, Option.bind_some]
    have e2 : (((k + 1 : Nat) : Int) == 1) = decide (k = 0) := by
      by_cases h : k = 0
      · subst h; rfl
      · rw [decide_eq_false h, beq_eq_false_iff_ne]; omega
    by_cases hm : mostN k = 0
    · rw [if_pos (by rw [hm]; rfl)]
      match r with
      | [] => exact ⟨_, by simp only [instrOf, hix, Option.bind_some, if_pos hm]; rfl, fun j hj => by simp only [instrOf, hix, Option.bind_some, if_pos hm] at hj; exact Option.some.inj hj⟩
      | [w1] => exact ⟨_, by simp only [instrOf, hix, Option.bind_some, if_pos hm]; rfl, fun j hj => by simp [instrOf, hix, hm] at hj⟩
      | w1 :: w2 :: t =>
        refine ⟨⟨((k + 1 : Nat) : Int), 0, 0⟩, ?_, fun j hj => by simp [instrOf] at hj⟩
        have : (((((w0 :: w1 :: w2 :: t).map bsl).length : Nat) : Int) == 1) = false := by
          rw [beq_eq_false_iff_ne]; simp; omega
        rw [this]; rfl
    · rw [if_neg (by rw [beq_iff_eq]; omega)]
      match r, hr, hn with
      | [], _, _ =>
        rw [if_pos (by rfl)]
        exact ⟨_, by simp only [instrOf, hix, Option.bind_some, if_neg hm]; rfl, fun j hj => by simp [instrOf, hix, hm] at hj⟩
      | [w1], hr, _ =>
        rw [if_neg (by simp)]
        have hg : getI ((w0 :: [w1]).map bsl) 1 = some (bsl w1) := rfl
        obtain ⟨n', h1, h2⟩ := number_eq w1 (mostN k) (hr w1 (by simp))
        rw [hg, Option.bind_some, h1, Option.bind_some, e2]
        dsimp only [jp]
        cases hnum : numM (mostN k) w1 with
        | none =>
          by_cases h0 : k = 0
          · rw [decide_eq_true h0, if_pos rfl]
            exact ⟨_, by simp only [instrOf, hix, Option.bind_some, if_neg hm, hnum]; rfl, fun j hj => by simp [instrOf, hix, hm, hnum] at hj⟩
          · rw [decide_eq_false h0, if_neg (by simp)]
            exact ⟨_, by simp only [instrOf, hix, Option.bind_some, if_neg hm, hnum]; rfl, fun j hj => by simp [instrOf, hix, hm, hnum] at hj⟩
        | some n =>
          have hn' := h2 n hnum
          subst hn'
          obtain ⟨b1, b2, b3⟩ := numM_some hnum
          by_cases h0 : k = 0
          · subst h0
            rw [decide_eq_true rfl, if_pos rfl]
            refine ⟨_, by simp only [instrOf, hix, Option.bind_some, if_neg hm, hnum]; rfl, fun j hj => ?_⟩
            simp only [instrOf, hix, Option.bind_some, if_neg hm, hnum, Option.map_some, if_true] at hj
            exact Option.some.inj hj
          · rw [decide_eq_false h0, if_neg (by simp)]
            have hle : n ≤ 65535 := by
              have : mostN k ≤ 65535 := by unfold mostN; rw [if_neg h0]; split <;> (try split) <;> omega
              omega
            have e3 : I64 (n : Int) = (n : Int) := I64_of (by omega)
            refine ⟨_, by simp only [instrOf, hix, Option.bind_some, if_neg hm, hnum]; rfl, fun j hj => ?_⟩
            simp only [instrOf, hix, Option.bind_some, if_neg hm, hnum, Option.map_some, if_neg h0] at hj
            rw [e3]
            exact Option.some.inj hj
      | w1 :: w2 :: t, _, hn =>
        rw [if_pos (by rw [bne_iff_ne]; simp; omega)]
        exact ⟨_, by simp only [instrOf]; rfl, fun j hj => by simp [instrOf] at hj⟩
  · have hix := ixOf_none hno
    rw [e, Option.bind_some]
    have e1 : U8 (I64 ((-1 : Int) + 1)) = 0 := by decide
    rw [e1, if_pos (by rfl)]
    refine ⟨⟨0, 0, 0⟩, ?_, fun j hj => ?_⟩
    · match r with
      | [] => simp only [instrOf, hix, Option.bind_none]; rfl
      | [w1] => simp only [instrOf, hix, Option.bind_none]; rfl
      | w1 :: w2 :: t => rfl
    · match r with
      | [] => simp [instrOf, hix] at hj
      | [w1] => simp [instrOf, hix] at hj
      | w1 :: w2 :: t => simp [instrOf] at hj
end Go.Proofs.YtkfhljombjmdbaaDoor
/- Plain laws of the texts: one line's function (text.function). -/
namespace Go.Proofs.YtkfhljombjmdbaaDoor
open Go Go.Ab Go.RowKit
set_option maxRecDepth 20000
set_option linter.unusedVariables false
set_option linter.unusedSimpArgs false

def kindC (c : UInt8) : Int := if c = 112 then 1 else 0
def okC (c : UInt8) : Bool := decide (c = 110 ∨ c = 112)
def kindsOf (w : List UInt8) : Option (List Int) := if w = [45] then some [] else if w.all okC = true then some (w.map kindC) else none
def flagOf (w : List UInt8) : Option Bool := if w = [48] then some false else if w = [49] then some true else none
def keepOf (w : List UInt8) : Option Int := if w = [45] then some (-1) else (numM 254 w).map fun n => (n : Int)
/-- The function that a line's words say. -/
def funcOf : List (List UInt8) → Option Func
  | [_, w1, w2, w3, w4] => (numM 255 w1).bind fun n => (kindsOf w2).bind fun ks => (flagOf w3).bind fun fl => (keepOf w4).map fun kp => ⟨n, ks, fl, kp, []⟩
  | _ => none
theorem np_eq : ∀ u : Fin 256, Lib.indexByte [110, 112] (UInt8.ofNat u.val) = if u.val = 110 then 0 else if u.val = 112 then 1 else -1 := by decide +kernel
theorem np_at (c : UInt8) : strings_IndexByte_s (ByteArray.mk #[110, 112]) (c.toNat : Int) = some (if c = 110 then 0 else if c = 112 then 1 else -1) := by
  unfold strings_IndexByte_s
  have h := np_eq ⟨c.toNat, c.toNat_lt⟩
  have e : UInt8.ofNat c.toNat = c := UInt8.ofNat_toNat
  simp only [e] at h
  rw [Int.toNat_natCast]
  have e2 : c.toNat.toUInt8 = c := by rw [← e]; simp
  rw [e2, show (ByteArray.mk #[110, 112]).data.toList = [110, 112] from rfl, h]
  congr 1
  have a1 : (c.toNat = 110) ↔ c = 110 := ⟨fun q => UInt8.toNat_inj.1 q, fun q => by rw [q]; rfl⟩
  have a2 : (c.toNat = 112) ↔ c = 112 := ⟨fun q => UInt8.toNat_inj.1 q, fun q => by rw [q]; rfl⟩
  simp only [a1, a2]
theorem kinds_run : ∀ (w : List UInt8) (k : Nat) (b : Bool) (a : List Int), a.length + w.length ≤ 2840000000 →
    rangeL (fun (i_8 : Nat) (c_9 : Int) (s_7 : (Bool × (List Int))) => (((strings_IndexByte_s (ByteArray.mk #[110, 112]) c_9).bind fun ind_11 => (jp (fun (s_13 : Bool) => ((appL 1 s_7.2 [(U8 (if 0 > ind_11 then 0 else ind_11))]).bind fun l_14 => (some (.nxt (s_13, l_14))))) (fun k_12 => (if s_7.1 then (k_12 (decide (ind_11 ≥ 0))) else (k_12 false))))) : Option (Stp (Bool × (List Int)) (Option (Func × Bool)))))
      (w.map fun c => (c.toNat : Int)) k (b, a) = some (.fin (b && w.all okC, a ++ w.map kindC))
  | [], k, b, a, _ => by simp [rangeL]
  | c :: r, k, b, a, h => by
    simp only [List.length_cons] at h
    have key : ∃ z : Int, strings_IndexByte_s (ByteArray.mk #[110, 112]) (c.toNat : Int) = some z ∧ U8 (if 0 > z then 0 else z) = kindC c ∧ decide (z ≥ 0) = okC c := by
      refine ⟨_, np_at c, ?_, ?_⟩
      · unfold kindC
        by_cases h1 : c = 110
        · subst h1; decide
        · by_cases h2 : c = 112
          · subst h2; decide
          · simp only [if_neg h1, if_neg h2]; decide
      · unfold okC
        by_cases h1 : c = 110
        · subst h1; decide
        · by_cases h2 : c = 112
          · subst h2; decide
          · simp only [if_neg h1, if_neg h2, h1, h2, or_self]; decide
    obtain ⟨z, hz, hk, ho⟩ := key
    rw [List.map_cons, rangeL]
    simp only [hz, Option.bind_some, jp, hk, ho]
    have e : ∀ b2 : Bool, ((appL 1 a [kindC c]).bind fun l_14 => (some (.nxt (b2, l_14)) : Option (Stp (Bool × (List Int)) (Option (Func × Bool))))) = some (.nxt (b2, a ++ [kindC c])) := fun b2 => by rw [appL_of (by simp; omega), Option.bind_some]
    cases b with
    | true =>
      simp only [if_true, e]
      have := kinds_run r (k + 1) (okC c) (a ++ [kindC c]) (by simp; omega)
      refine this.trans ?_
      simp
    | false =>
      simp only [Bool.false_eq_true, if_false, e]
      have := kinds_run r (k + 1) false (a ++ [kindC c]) (by simp; omega)
      refine this.trans ?_
      simp
theorem kinds_eq (w : List UInt8) (hw : w.length ≤ 2840000000) (b : Bool) :
    rng (fun (i_8 : Nat) (c_9 : Int) (s_7 : (Bool × (List Int))) => (((strings_IndexByte_s (ByteArray.mk #[110, 112]) c_9).bind fun ind_11 => (jp (fun (s_13 : Bool) => ((appL 1 s_7.2 [(U8 (if 0 > ind_11 then 0 else ind_11))]).bind fun l_14 => (some (.nxt (s_13, l_14))))) (fun k_12 => (if s_7.1 then (k_12 (decide (ind_11 ≥ 0))) else (k_12 false))))) : Option (Stp (Bool × (List Int)) (Option (Func × Bool)))))
      (ofStr (bsl w)) (b, []) = some (.fin (b && w.all okC, w.map kindC)) := by
  have e : ofStr (bsl w) = w.map fun c => (c.toNat : Int) := by
    unfold ofStr
    first | rw [bsl_data] | (rw [bsl_toList])
  unfold rng
  rw [e, if_pos (by rw [List.length_map]; omega), kinds_run w 0 b [] (by simp; omega)]
  simp
theorem numM_none_iff {m : Nat} {w : List UInt8} : (numM m w).isSome = false → numM m w = none := by cases numM m w <;> simp
theorem function_eq (ws : List (List UInt8)) (hr : ∀ w ∈ ws, w.length ≤ 2840000000) :
    ∃ f : Func, text_function_s (ws.map bsl) = some (f, (funcOf ws).isSome) ∧ f.Code = [] ∧ ∀ j, funcOf ws = some j → f = j := by
  by_cases h5 : ws.length = 5
  · match ws, h5, hr with
    | [w0, w1, w2, w3, w4], _, hr =>
      unfold text_function_s
      obtain ⟨n1, e1, c1⟩ := number_eq w1 255 (hr w1 (by simp))
      obtain ⟨n4, e4, c4⟩ := number_eq w4 254 (hr w4 (by simp))
      rw [if_neg (by simp)]
      have g1 : getI (([w0, w1, w2, w3, w4] : List (List UInt8)).map bsl) 1 = some (bsl w1) := rfl
      have g2 : getI (([w0, w1, w2, w3, w4] : List (List UInt8)).map bsl) 2 = some (bsl w2) := rfl
      have g3 : getI (([w0, w1, w2, w3, w4] : List (List UInt8)).map bsl) 3 = some (bsl w3) := rfl
      have g4 : getI (([w0, w1, w2, w3, w4] : List (List UInt8)).map bsl) 4 = some (bsl w4) := rfl
      have ee1 : text_number_s (bsl w1) 255 = some (n1, (numM 255 w1).isSome) := e1
      have ee4 : text_number_s (bsl w4) 254 = some (n4, (numM 254 w4).isSome) := e4
      simp only [g1, g2, g3, g4, Option.bind_some, ee1, ee4]
      rw [show (ByteArray.mk #[45]) = bsl [45] from rfl, show (ByteArray.mk #[48]) = bsl [48] from rfl, show (ByteArray.mk #[49]) = bsl [49] from rfl]
      simp only [beq_bsl, jp]
      have hkk : kindsOf w2 = if w2 = [45] then some [] else if w2.all okC = true then some (w2.map kindC) else none := rfl
      -- what the function is, and whether it is one, in one form
      have fin : ∀ (ks : List Int) (b : Bool), ((b = true ∧ kindsOf w2 = some ks ∧ (numM 255 w1).isSome = true) ∨ (b = false ∧ (kindsOf w2 = none ∨ numM 255 w1 = none))) →
          ∃ f : Func, (if (!decide (w4 = [45])) = true then if b = true then if (numM 254 w4).isSome = true then if decide (w3 = [48]) = true then some (Func.mk (I64 n1) ks (decide (w3 = [49])) (I64 n4) [], true) else some (Func.mk (I64 n1) ks (decide (w3 = [49])) (I64 n4) [], decide (w3 = [49])) else some (Func.mk (I64 n1) ks (decide (w3 = [49])) (I64 n4) [], false) else some (Func.mk (I64 n1) ks (decide (w3 = [49])) (I64 n4) [], false)
            else if b = true then if decide (w3 = [48]) = true then some (Func.mk (I64 n1) ks (decide (w3 = [49])) (-1) [], true) else some (Func.mk (I64 n1) ks (decide (w3 = [49])) (-1) [], decide (w3 = [49])) else some (Func.mk (I64 n1) ks (decide (w3 = [49])) (-1) [], false)) =
            some (f, (funcOf [w0, w1, w2, w3, w4]).isSome) ∧ f.Code = [] ∧ ∀ j, funcOf [w0, w1, w2, w3, w4] = some j → f = j := by
        intro ks b hb
        rcases hb with ⟨rfl, h1, h2⟩ | ⟨rfl, h1⟩
        · obtain ⟨m1, hm1⟩ := Option.isSome_iff_exists.1 h2
          have hn1 := c1 m1 hm1
          subst hn1
          obtain ⟨q1, _, _⟩ := numM_some hm1
          have eI1 : I64 (m1 : Int) = (m1 : Int) := I64_of (by omega)
          have hfl : flagOf w3 = if w3 = [48] then some false else if w3 = [49] then some true else none := rfl
          simp only [funcOf, hm1, h1, Option.bind_some, hfl, eI1, if_true]
          by_cases hk : w4 = [45]
          · have hkp : keepOf w4 = some (-1) := if_pos hk
            simp only [hkp, Option.map_some, decide_eq_true hk, Bool.not_true, Bool.false_eq_true, if_false]
            by_cases h48 : w3 = [48]
            · have h49 : ¬ w3 = [49] := by rw [h48]; decide
              simp only [decide_eq_true h48, decide_eq_false h49, if_pos h48, if_true, Option.bind_some]
              exact ⟨_, rfl, rfl, fun j hj => Option.some.inj hj⟩
            · by_cases h49 : w3 = [49]
              · simp only [decide_eq_false h48, decide_eq_true h49, if_neg h48, if_pos h49, Option.bind_some, Bool.false_eq_true, if_false]
                exact ⟨_, rfl, rfl, fun j hj => Option.some.inj hj⟩
              · simp only [decide_eq_false h48, decide_eq_false h49, if_neg h48, if_neg h49, Option.bind_none, Bool.false_eq_true, if_false]
                exact ⟨_, rfl, rfl, fun j hj => by cases hj⟩
          · simp only [decide_eq_false hk, Bool.not_false, if_true]
            cases hm4 : numM 254 w4 with
            | none =>
              have hkp : keepOf w4 = none := by unfold keepOf; rw [if_neg hk, hm4]; rfl
              simp only [hkp, Option.map_none, Option.isSome_none, Bool.false_eq_true, if_false]
              refine ⟨⟨(m1 : Int), ks, decide (w3 = [49]), I64 n4, []⟩, ?_, rfl, fun j hj => ?_⟩
              · by_cases h48 : w3 = [48]
                · simp [h48]
                · by_cases h49 : w3 = [49] <;> simp [h48, h49]
              · by_cases h48 : w3 = [48]
                · simp [h48] at hj
                · by_cases h49 : w3 = [49] <;> simp [h48, h49] at hj
            | some m4 =>
              have hn4 := c4 m4 hm4
              subst hn4
              obtain ⟨q4, _, _⟩ := numM_some hm4
              have eI4 : I64 (m4 : Int) = (m4 : Int) := I64_of (by omega)
              have hkp : keepOf w4 = some (m4 : Int) := by unfold keepOf; rw [if_neg hk, hm4]; rfl
              simp only [hkp, Option.map_some, Option.isSome_some, if_true, eI4]
              by_cases h48 : w3 = [48]
              · have h49 : ¬ w3 = [49] := by rw [h48]; decide
                simp only [decide_eq_true h48, decide_eq_false h49, if_pos h48, if_true, Option.bind_some]
                exact ⟨_, rfl, rfl, fun j hj => Option.some.inj hj⟩
              · by_cases h49 : w3 = [49]
                · simp only [decide_eq_false h48, decide_eq_true h49, if_neg h48, if_pos h49, Option.bind_some, Bool.false_eq_true, if_false]
                  exact ⟨_, rfl, rfl, fun j hj => Option.some.inj hj⟩
                · simp only [decide_eq_false h48, decide_eq_false h49, if_neg h48, if_neg h49, Option.bind_none, Bool.false_eq_true, if_false]
                  exact ⟨_, rfl, rfl, fun j hj => by cases hj⟩
        · have hno : funcOf [w0, w1, w2, w3, w4] = none := by
            rcases h1 with h1 | h1
            · simp only [funcOf, h1, Option.bind_none]; cases numM 255 w1 <;> rfl
            · simp only [funcOf, h1, Option.bind_none]
          rw [hno]
          simp only [Bool.false_eq_true, if_false]
          by_cases hk : w4 = [45]
          · rw [decide_eq_true hk, if_neg (by simp)]
            exact ⟨_, rfl, rfl, fun j hj => by cases hj⟩
          · rw [decide_eq_false hk, if_pos (by simp)]
            exact ⟨_, rfl, rfl, fun j hj => by cases hj⟩
      by_cases hw2 : w2 = [45]
      · rw [decide_eq_true hw2, if_neg (by simp)]
        refine fin [] (numM 255 w1).isSome ?_
        cases hm : numM 255 w1 with
        | none => exact .inr ⟨rfl, .inr rfl⟩
        | some m => exact .inl ⟨rfl, by rw [hkk, if_pos hw2], rfl⟩
      · rw [decide_eq_false hw2, if_pos (by simp)]
        have hk := kinds_eq w2 (hr w2 (by simp)) (numM 255 w1).isSome
        simp only [jp] at hk
        rw [hk, Option.bind_some]
        simp only [oc]
        refine fin (w2.map kindC) ((numM 255 w1).isSome && w2.all okC) ?_
        cases hm : numM 255 w1 with
        | none => exact .inr ⟨rfl, .inr rfl⟩
        | some m =>
          cases ha : w2.all okC with
          | true => exact .inl ⟨rfl, by rw [hkk, if_neg hw2, if_pos ha], rfl⟩
          | false => exact .inr ⟨rfl, .inl (by rw [hkk, if_neg hw2, if_neg (by rw [ha]; simp)])⟩
  · unfold text_function_s
    rw [if_pos (by rw [bne_iff_ne, List.length_map]; omega)]
    have hno : funcOf ws = none := by
      match ws, h5 with
      | [], _ => rfl
      | [_], _ => rfl
      | [_, _], _ => rfl
      | [_, _, _], _ => rfl
      | [_, _, _, _], _ => rfl
      | [_, _, _, _, _], h => exact (h rfl).elim
      | _ :: _ :: _ :: _ :: _ :: _ :: _, _ => rfl
    rw [hno]
    exact ⟨_, rfl, rfl, fun j hj => by cases hj⟩
end Go.Proofs.YtkfhljombjmdbaaDoor
/- Plain laws of the texts: words joined, an instruction's line (windlassref04.Line, joined), what a line says by the document (windlassref04.one). -/
namespace Go.Proofs.YtkfhljombjmdbaaDoor
open Go Go.Ab Go.RowKit
set_option maxRecDepth 20000
set_option linter.unusedVariables false
set_option linter.unusedSimpArgs false

/-- Words with blanks between. -/
def joinW : List (List UInt8) → List UInt8
  | [] => []
  | [w] => w
  | w :: x :: r => w ++ 32 :: joinW (x :: r)
theorem splitL_joinW : ∀ (ws : List (List UInt8)), ws ≠ [] → (∀ w ∈ ws, (32 : UInt8) ∉ w) → splitL 32 (joinW ws) = ws
  | [], h, _ => (h rfl).elim
  | [w], _, h => splitL_none 32 w (h w (by simp))
  | w :: x :: r, _, h => by
    show splitL 32 (w ++ 32 :: joinW (x :: r)) = _
    rw [splitL_app 32 w (h w (by simp)), splitL_joinW (x :: r) (by simp) (fun y hy => h y (by simp [hy]))]
theorem joinW_inj {a b : List (List UInt8)} (ha : a ≠ []) (hb : b ≠ []) (fa : ∀ w ∈ a, (32 : UInt8) ∉ w) (fb : ∀ w ∈ b, (32 : UInt8) ∉ w) : joinW a = joinW b ↔ a = b :=
  ⟨fun h => by rw [← splitL_joinW a ha fa, h, splitL_joinW b hb fb], fun h => by rw [h]⟩
def lensW (ws : List (List UInt8)) : Nat := (ws.map fun w => w.length + 1).sum
theorem joinW_len : ∀ ws : List (List UInt8), (joinW ws).length ≤ lensW ws
  | [] => by simp [joinW]
  | [w] => by simp [joinW, lensW]
  | w :: x :: r => by
    have := joinW_len (x :: r)
    simp only [joinW, List.length_append, List.length_cons]
    simp only [lensW, List.map_cons, List.sum_cons] at this ⊢
    omega
theorem joinW_flat : ∀ (w : List UInt8) (r : List (List UInt8)), joinW (w :: r) = w ++ r.flatMap fun w => 32 :: w
  | w, [] => by simp [joinW]
  | w, x :: r => by rw [joinW, joinW_flat x r]; simp
/-- How wide an operation's operand is in bytes, by its number from 0 on. -/
def widN (k : Nat) : Nat := if k = 0 then 8 else if k = 1 ∨ k = 2 ∨ k = 3 ∨ k = 22 ∨ k = 24 then 1 else if k = 20 ∨ k = 21 then 2 else 0
theorem Width_eq (k : Nat) (h : k < 32) : windlassref03_Width_s ((k + 1 : Nat) : Int) = some (widN k : Int) := by
  have : ∀ k : Fin 32, windlassref03_Width_s ((k.val + 1 : Nat) : Int) = some (widN k.val : Int) := by decide +kernel
  exact this ⟨k, h⟩
/-- What a candidate says: the operation's number and the operand. -/
def lineP (k : Nat) (name : List UInt8) (v : Nat) : List (List UInt8) := if widN k = 0 then [name] else [name, Lib.decDigits v]
theorem dec_free (v : Nat) : (32 : UInt8) ∉ Lib.decDigits v := by
  intro h
  have := List.all_eq_true.1 (dec_digs v) _ h
  revert this; decide
theorem dec_le {v : Nat} (h : v < 18446744073709551616) : (Lib.decDigits v).length ≤ 20 := by
  rw [← digs19 v h]
  exact (digs_len 19 v).2
/-- The line of an instruction with an operand v (in Imm, if the operation is the first one, else in Arg). -/
theorem Line_eq (F : Nat) (hF : 20 ≤ F) (k : Nat) (name : List UInt8) (hk : nm[k]? = some name) (v : Nat) (hv : v < 18446744073709551616) (i : Instr) (hop : i.Op = ((k + 1 : Nat) : Int))
    (h0 : k = 0 → i.Imm = (v : Int)) (h1 : k ≠ 0 → i.Arg = (v : Int)) : windlassref04_Line_s F i = some (bsl (joinW (lineP k name v))) := by
  have hk2 : k < 32 := (List.getElem?_eq_some_iff.1 hk).1
  have hname : name.length ≤ 7 := (nm_free name (List.mem_of_getElem? hk)).2.2
  have hd := dec_le hv
  have hnum : ∀ z : Int, z = (v : Int) → windlassref02_Number_s F z = some (bsl (Lib.decDigits v)) := by
    intro z hz
    subst hz
    rw [Number_eq F hF (v : Int) ⟨by omega, by omega⟩, Int.toNat_natCast, digs19 v hv]
  unfold windlassref04_Line_s
  rw [hop, Width_eq k hk2, Option.bind_some, Name_eq k hk2, hk]
  simp only [Option.map_some, Option.bind_some]
  have hj : joinW [name, Lib.decDigits v] = name ++ [32] ++ Lib.decDigits v := by simp [joinW]
  rw [show (ByteArray.mk #[32]) = bsl [32] from rfl, cat_b _ _ (by simp; omega), Option.bind_some, Option.bind_some]
  by_cases hk0 : k = 0
  · have hw : widN k = 8 := by rw [hk0]; rfl
    rw [if_pos (by rw [hw]; rfl), hnum _ (h0 hk0), Option.bind_some, cat_b _ _ (by simp; omega), Option.bind_some]
    unfold lineP
    rw [if_neg (by rw [hw]; decide), hj]
  · have hw8 : widN k ≠ 8 := by unfold widN; rw [if_neg hk0]; split <;> (try split) <;> omega
    rw [if_neg (by rw [beq_iff_eq]; omega)]
    by_cases hw : widN k = 0
    · rw [if_pos (by rw [hw]; rfl)]
      unfold lineP
      rw [if_pos hw]
      rfl
    · rw [if_neg (by rw [beq_iff_eq]; omega)]
      have e : U64 i.Arg = (v : Int) := by rw [h1 hk0]; exact U64_of (by omega)
      rw [hnum _ e, Option.bind_some, cat_b _ _ (by simp; omega), Option.bind_some]
      unfold lineP
      rw [if_neg hw, hj]
theorem lineP_free (k : Nat) (name : List UInt8) (hk : nm[k]? = some name) (v : Nat) : lineP k name v ≠ [] ∧ ∀ w ∈ lineP k name v, (32 : UInt8) ∉ w := by
  have hn := (nm_free name (List.mem_of_getElem? hk)).2.1
  unfold lineP
  split
  · exact ⟨by simp, fun w hw => by rw [List.mem_singleton.1 hw]; exact hn⟩
  · refine ⟨by simp, fun w hw => ?_⟩
    rcases List.mem_cons.1 hw with e | e
    · rw [e]; exact hn
    · rw [List.mem_singleton.1 e]; exact dec_free v
end Go.Proofs.YtkfhljombjmdbaaDoor
/- Plain laws of the texts: one line's instruction by the document (windlassref04.one). -/
namespace Go.Proofs.YtkfhljombjmdbaaDoor
open Go Go.Ab Go.RowKit
set_option maxRecDepth 20000
set_option linter.unusedVariables false
set_option linter.unusedSimpArgs false

def saysN (k v : Nat) : Bool := if widN k = 8 then true else if widN k = 1 then decide (v ≤ 255) else if widN k = 2 then decide (v ≤ 65535) else decide (v = 0)
def mkI (k v : Nat) : Instr := if k = 0 then ⟨((k + 1 : Nat) : Int), 0, (v : Int)⟩ else ⟨((k + 1 : Nat) : Int), (v : Int), 0⟩
theorem nm_at {k : Nat} (h : k < 32) : nm[k]? = some (nm.getD k []) := by
  have : k < nm.length := h
  simp [List.getElem?_eq_getElem this]
theorem wid_most : ∀ k : Fin 32, (widN k.val = 0 ↔ mostN k.val = 0) ∧ (k.val ≠ 0 → widN k.val ≠ 0 → mostN k.val = 255 ∧ widN k.val = 1 ∨ mostN k.val = 65535 ∧ widN k.val = 2 ∨ widN k.val = 0) := by decide
end Go.Proofs.YtkfhljombjmdbaaDoor
/- Plain laws of the texts: a function's head (windlassref04.Head), one line's function by the document (windlassref04.begin). -/
namespace Go.Proofs.YtkfhljombjmdbaaDoor
open Go Go.Ab Go.RowKit
set_option maxRecDepth 20000
set_option linter.unusedVariables false
set_option linter.unusedSimpArgs false

def fw : List UInt8 := [102, 117, 110, 99]
def letC (k : Int) : UInt8 := if k = 0 then 110 else 112
def kstr (ks : List Int) : List UInt8 := if ks = [] then [45] else ks.map letC
def fstr (b : Bool) : List UInt8 := if b = true then [49] else [48]
def pstr (kp : Int) : List UInt8 := if kp < 0 then [45] else Lib.decDigits kp.toNat
/-- The words of a function's head. -/
def headW (f : Func) : List (List UInt8) := [fw, Lib.decDigits f.Params.toNat, kstr f.Locals, fstr f.Result, pstr f.Keep]
theorem lets_run : ∀ (ks : List Int) (k : Nat) (a : List UInt8), a.length + ks.length ≤ 10000000000 →
    rangeL (fun (i_5 : Nat) (k_6 : Int) (s_4 : ByteArray) => ((if (k_6 == 0) then ((catS s_4 (ByteArray.mk #[110])).bind fun s_8 => (some (.nxt s_8))) else ((catS s_4 (ByteArray.mk #[112])).bind fun s_9 => (some (.nxt s_9)))) : Option (Stp ByteArray (Option ByteArray)))) ks k (bsl a) = some (.fin (bsl (a ++ ks.map letC)))
  | [], k, a, _ => by simp [rangeL]
  | c :: r, k, a, h => by
    simp only [List.length_cons] at h
    have e1 : catS (bsl a) (ByteArray.mk #[110]) = some (bsl (a ++ [110])) := cat_b a [110] (by simp; omega)
    have e2 : catS (bsl a) (ByteArray.mk #[112]) = some (bsl (a ++ [112])) := cat_b a [112] (by simp; omega)
    rw [rangeL]
    by_cases hc : c = 0
    · rw [if_pos (by rw [hc]; rfl), e1, Option.bind_some]
      simp only
      refine (lets_run r (k + 1) (a ++ [110]) (by simp; omega)).trans ?_
      simp [letC, hc]
    · rw [if_neg (by rw [beq_iff_eq]; exact hc), e2, Option.bind_some]
      simp only
      refine (lets_run r (k + 1) (a ++ [112]) (by simp; omega)).trans ?_
      simp [letC, hc]
theorem Head_eq (F : Nat) (hF : 20 ≤ F) (f : Func) (h1 : 0 ≤ f.Params ∧ f.Params < 4294967296) (h2 : f.Locals.length ≤ 2840000000) (h3 : -1 ≤ f.Keep ∧ f.Keep < 4294967296) : windlassref04_Head_s F f = some (bsl (joinW (headW f))) := by
  unfold windlassref04_Head_s
  obtain ⟨n, hn⟩ : ∃ n : Nat, f.Params = n := ⟨f.Params.toNat, by omega⟩
  have hd := dec_le (v := n) (by omega)
  have eU : U64 f.Params = (n : Int) := by rw [hn]; exact U64_of (by omega)
  have eN : windlassref02_Number_s F (n : Int) = some (bsl (Lib.decDigits n)) := by
    rw [Number_eq F hF (n : Int) ⟨by omega, by omega⟩, Int.toNat_natCast, digs19 n (by omega)]
  rw [eU, eN, Option.bind_some]
  rw [show (ByteArray.mk #[102, 117, 110, 99, 32]) = bsl [102, 117, 110, 99, 32] from rfl, show (ByteArray.mk #[32]) = bsl [32] from rfl, show (ByteArray.mk #[45]) = bsl [45] from rfl, show (ByteArray.mk #[32, 49, 32]) = bsl [32, 49, 32] from rfl, show (ByteArray.mk #[32, 48, 32]) = bsl [32, 48, 32] from rfl]
  rw [cat_b _ _ (by simp; omega), Option.bind_some, cat_b _ _ (by simp; omega), Option.bind_some]
  refine bind_eq ⟨.fin (bsl ([102, 117, 110, 99, 32] ++ Lib.decDigits n ++ [32] ++ f.Locals.map letC)), ?_, ?_⟩
  · unfold rng
    rw [if_pos (by omega)]
    exact lets_run f.Locals 0 _ (by simp; omega)
  · simp only [oc, jp]
    have hk : ∀ (s : List UInt8), s.length ≤ 4000000000 → (if decide (f.Keep < 0) = true then ((catS (bsl s) (bsl [45])).bind fun s_17 => (some s_17)) else ((windlassref02_Number_s F (U64 f.Keep)).bind fun num_18 => ((catS (bsl s) num_18).bind fun s_19 => (some s_19)))) = some (bsl (s ++ pstr f.Keep)) := by
      intro s hs
      unfold pstr
      by_cases hk : f.Keep < 0
      · rw [if_pos (by simpa using hk), cat_b _ _ (by simp; omega), if_pos hk]; rfl
      · obtain ⟨p, hp⟩ : ∃ p : Nat, f.Keep = p := ⟨f.Keep.toNat, by omega⟩
        have hd2 := dec_le (v := p) (by omega)
        have eU : U64 f.Keep = (p : Int) := by rw [hp]; exact U64_of (by omega)
        rw [if_neg (by simpa using hk), if_neg hk, eU, Number_eq F hF (p : Int) ⟨by omega, by omega⟩, Int.toNat_natCast, digs19 p (by omega), Option.bind_some]
        show ((catS (bsl s) (bsl (Lib.decDigits p))).bind fun s_19 => (some s_19)) = _
        rw [cat_b _ _ (by omega), hp, Int.toNat_natCast]; rfl
    have hr : ∀ (s : List UInt8), s.length ≤ 3000000000 → (if f.Result = true then ((catS (bsl s) (bsl [32, 49, 32])).bind fun s_15 => (if decide (f.Keep < 0) = true then ((catS s_15 (bsl [45])).bind fun s_17 => (some s_17)) else ((windlassref02_Number_s F (U64 f.Keep)).bind fun num_18 => ((catS s_15 num_18).bind fun s_19 => (some s_19))))) else ((catS (bsl s) (bsl [32, 48, 32])).bind fun s_16 => (if decide (f.Keep < 0) = true then ((catS s_16 (bsl [45])).bind fun s_17 => (some s_17)) else ((windlassref02_Number_s F (U64 f.Keep)).bind fun num_18 => ((catS s_16 num_18).bind fun s_19 => (some s_19)))))) =
        some (bsl (s ++ 32 :: (fstr f.Result ++ 32 :: pstr f.Keep))) := by
      intro s hs
      by_cases hr : f.Result = true
      · rw [if_pos hr, cat_b _ _ (by simp; omega), Option.bind_some, hk _ (by simp; omega)]
        unfold fstr
        rw [if_pos hr]; simp
      · rw [if_neg hr, cat_b _ _ (by simp; omega), Option.bind_some, hk _ (by simp; omega)]
        unfold fstr
        rw [if_neg hr]; simp
    have hj : joinW (headW f) = ([102, 117, 110, 99, 32] ++ Lib.decDigits n ++ [32] ++ kstr f.Locals) ++ 32 :: (fstr f.Result ++ 32 :: pstr f.Keep) := by
      simp [headW, joinW, fw, hn]
    rw [hj]
    unfold kstr
    by_cases hl : f.Locals = []
    · rw [if_pos (by rw [hl]; rfl), cat_b _ _ (by simp; omega), Option.bind_some, hr _ (by simp; omega), if_pos hl, hl]
      simp
    · rw [if_neg (by rw [beq_iff_eq]; have := List.length_pos_iff.2 hl; omega), hr _ (by simp; omega), if_neg hl]
end Go.Proofs.YtkfhljombjmdbaaDoor
/- Plain laws of the texts: the lines, both readers, TextParses. -/
namespace Go.Proofs.YtkfhljombjmdbaaDoor
open Go Go.Ab Go.RowKit
set_option maxRecDepth 20000
set_option linter.unusedVariables false
set_option linter.unusedSimpArgs false

def WOK (ws : List (List UInt8)) : Prop := (∀ w ∈ ws, (32 : UInt8) ∉ w ∧ w.length ≤ 2840000000) ∧ ws ≠ [] ∧ lensW ws ≤ 10000000000 ∧ ws.length ≤ 2840000000
theorem lensW_split (c : UInt8) : ∀ l : List UInt8, lensW (splitL c l) = l.length + 1
  | [] => rfl
  | x :: r => by
    have ih := lensW_split c r
    obtain ⟨h, t, e⟩ := List.exists_cons_of_ne_nil (splitL_ne c r)
    rw [e] at ih
    simp only [lensW, List.map_cons, List.sum_cons] at ih
    unfold splitL
    split
    · simp only [lensW, List.map_cons, List.sum_cons, List.length_nil, List.length_cons]
      rw [e]
      simp only [List.map_cons, List.sum_cons]
      omega
    · rw [e]
      simp only [lensW, List.map_cons, List.sum_cons, List.length_cons]
      omega
theorem lensW_filter (p : List UInt8 → Bool) : ∀ ws : List (List UInt8), lensW (ws.filter p) ≤ lensW ws
  | [] => Nat.le_refl _
  | w :: r => by
    have := lensW_filter p r
    rw [List.filter_cons]
    split
    · simp only [lensW, List.map_cons, List.sum_cons] at this ⊢; omega
    · simp only [lensW, List.map_cons, List.sum_cons] at this ⊢; omega
theorem words_ok {l : List UInt8} (hl : l.length ≤ 2840000000) {w : List UInt8} {r : List (List UInt8)} (h : wordsOf l = w :: r) : WOK (w :: r) := by
  rw [← h]
  have h1 := wordsOf_len l
  have h2 := lensW_filter (fun w => decide (w ≠ [])) (splitL 32 l)
  rw [lensW_split] at h2
  refine ⟨fun x hx => ⟨(wordsOf_mem hx).2.1, Nat.le_trans (wordsOf_mem hx).2.2 hl⟩, by rw [h]; simp, ?_, ?_⟩
  · exact Nat.le_trans h2 (by omega)
  · have : (wordsOf l).length ≤ l.length := by
      have h3 : (wordsOf l).length ≤ lensW (wordsOf l) / 2 := by
        have : ∀ ws : List (List UInt8), (∀ w ∈ ws, w ≠ []) → 2 * ws.length ≤ lensW ws := by
          intro ws
          induction ws with
          | nil => intro _; simp [lensW]
          | cons w r ih =>
            intro hh
            have a := ih (fun x hx => hh x (by simp [hx]))
            have b := List.length_pos_iff.2 (hh w (by simp))
            simp only [lensW, List.map_cons, List.sum_cons, List.length_cons] at a ⊢
            omega
        have := this (wordsOf l) (fun w hw => (wordsOf_mem hw).1)
        omega
      have : lensW (wordsOf l) ≤ l.length + 1 := h2
      omega
    omega

def pushI (xs : List Func) (i : Instr) : List Func := match xs.getLast? with
  | none => xs
  | some x => xs.dropLast ++ [{ x with Code := x.Code ++ [i] }]
def stepW (xs : List Func) : List (List UInt8) → Option (List Func)
  | [] => some xs
  | w0 :: r => if w0.head? = some 35 then some xs else if w0 = fw then (funcOf (w0 :: r)).map fun f => xs ++ [f] else if xs = [] then none else (instrOf (w0 :: r)).map (pushI xs)
def runL : Nat → List Func → List (List UInt8) → Nat ⊕ List Func
  | _, xs, [] => .inr xs
  | k, xs, l :: r => match stepW xs (wordsOf l) with
    | none => .inl k
    | some ys => runL (k + 1) ys r
def Fits (k : Nat) (xs : List Func) : Prop := xs.length ≤ k ∧ ∀ x ∈ xs, x.Code.length ≤ k
theorem pushF_ok {k : Nat} {xs : List Func} (h : Fits k xs) (hk : k ≤ 2000000000) {f : Func} (hf : f.Code = []) : pushF xs f = some (xs ++ [f]) := by
  have := h.1
  unfold pushF
  rw [if_pos ⟨by rw [hf]; rfl, by omega, by omega⟩]
theorem pushC_ok {k : Nat} {xs : List Func} (h : Fits k xs) (hk : k ≤ 2000000000) (hx : xs ≠ []) (i : Instr) : pushC xs i = some (pushI xs i) := by
  rcases snoc_of xs with rfl | ⟨l, x, rfl⟩
  · exact (hx rfl).elim
  · have h1 := h.1
    have h2 := h.2 x (by simp)
    unfold pushC pushI
    rw [show (l ++ [x]).getLast? = some x by simp]
    simp only
    rw [if_pos (I64_of (by simp at h1 ⊢; omega)), appL_of (by simp; omega)]
    rfl
theorem fits_push {k : Nat} {xs : List Func} (h : Fits k xs) {f : Func} (hf : f.Code = []) : Fits (k + 1) (xs ++ [f]) := by
  refine ⟨by have := h.1; simp; omega, fun x hx => ?_⟩
  rcases List.mem_append.1 hx with e | e
  · have := h.2 x e; omega
  · rw [List.mem_singleton.1 e, hf]; simp
theorem fits_pushI {k : Nat} {xs : List Func} (h : Fits k xs) (i : Instr) : Fits (k + 1) (pushI xs i) := by
  rcases snoc_of xs with rfl | ⟨l, x, rfl⟩
  · exact ⟨by simp [pushI], fun x hx => by simp [pushI] at hx⟩
  · unfold pushI
    rw [show (l ++ [x]).getLast? = some x by simp]
    simp only
    rw [List.dropLast_concat]
    refine ⟨by have := h.1; simp at this ⊢; omega, fun y hy => ?_⟩
    rcases List.mem_append.1 hy with e | e
    · have := h.2 y (by simp [e]); omega
    · rw [List.mem_singleton.1 e]
      have := h.2 x (by simp)
      simp; omega
theorem func_code {ws : List (List UInt8)} {f : Func} (h : funcOf ws = some f) : f.Code = [] := by
  unfold funcOf at h
  split at h
  · rename_i w1 w2 w3 w4
    cases e1 : numM 255 w1 <;> rw [e1] at h
    · cases h
    cases e2 : kindsOf w2 <;> simp only [e2, Option.bind_some, Option.bind_none] at h
    · cases h
    cases e3 : flagOf w3 <;> simp only [e3, Option.bind_some, Option.bind_none] at h
    · cases h
    obtain ⟨kp, _, rfl⟩ := Option.map_eq_some_iff.1 h
    rfl
  · cases h
theorem fits_step {k : Nat} {xs ys : List Func} (h : Fits k xs) {ws : List (List UInt8)} (e : stepW xs ws = some ys) : Fits (k + 1) ys := by
  have h0 : Fits (k + 1) xs := ⟨by have := h.1; omega, fun x hx => by have := h.2 x hx; omega⟩
  unfold stepW at e
  split at e
  · cases e; exact h0
  · split at e
    · cases e; exact h0
    · split at e
      · obtain ⟨f, hf, rfl⟩ := Option.map_eq_some_iff.1 e
        exact fits_push h (func_code hf)
      · split at e
        · cases e
        · obtain ⟨i, _, rfl⟩ := Option.map_eq_some_iff.1 e
          exact fits_pushI h i
/-- A loop over lines that does what the step says. -/
theorem lines_run {ρ : Type} (v : Nat → ρ) {body : Nat → ByteArray → List Func → Option (Stp (List Func) ρ)}
    (hb : ∀ i l xs, l.length ≤ 1048576000 → Fits i xs → i ≤ 1048576001 → body i (bsl l) xs = some (match stepW xs (wordsOf l) with | none => .ret (v i) | some ys => .nxt ys)) :
    ∀ (ls : List (List UInt8)) (k : Nat) (xs : List Func), (∀ l ∈ ls, l.length ≤ 1048576000) → Fits k xs → k + ls.length ≤ 1048576001 →
      rangeL body (ls.map bsl) k xs = some (match runL k xs ls with | .inl n => .ret (v n) | .inr ys => .fin ys)
  | [], k, xs, _, _, _ => by simp [rangeL, runL]
  | l :: r, k, xs, hl, hf, hk => by
    simp only [List.length_cons] at hk
    rw [List.map_cons, rangeL, hb k l xs (hl l (by simp)) hf (by omega), runL]
    cases e : stepW xs (wordsOf l) with
    | none => rfl
    | some ys =>
      simp only
      exact lines_run v hb r (k + 1) ys (fun x hx => hl x (by simp [hx])) (fits_step hf e) (by omega)
theorem head_is {w : List UInt8} (h : w ≠ []) : ∃ b : Int, strI (bsl w) 0 = some b ∧ (b == 35) = decide (w.head? = some 35) := by
  obtain ⟨c, r, rfl⟩ := List.exists_cons_of_ne_nil h
  refine ⟨(c.toNat : Int), strI_b (c :: r) 0 (by simp), ?_⟩
  simp only [List.head?_cons, Option.some.injEq]
  by_cases hc : c = 35
  · rw [hc]; rfl
  · rw [decide_eq_false hc, beq_eq_false_iff_ne]
    intro q
    exact hc (UInt8.toNat_inj.1 (by show c.toNat = 35; omega))
end Go.Proofs.YtkfhljombjmdbaaDoor
/- Plain laws of the texts: what the readers answer; a program is the same as itself; TextParses. -/
namespace Go.Proofs.YtkfhljombjmdbaaDoor
open Go Go.Ab Go.RowKit
set_option maxRecDepth 20000
set_option linter.unusedVariables false
set_option linter.unusedSimpArgs false

theorem stepW_cons (xs : List Func) (w0 : List UInt8) (r : List (List UInt8)) : stepW xs (w0 :: r) = if w0.head? = some 35 then some xs else if w0 = fw then (funcOf (w0 :: r)).map fun f => xs ++ [f] else if xs = [] then none else (instrOf (w0 :: r)).map (pushI xs) := rfl
theorem textB_eq {i : Nat} {l : List UInt8} {xs : List Func} (hl : l.length ≤ 1048576000) (hf : Fits i xs) (hi : i ≤ 1048576001) :
    (((strings_Split_s (bsl l) (ByteArray.mk #[32])).bind fun wsp_6 => (delS wsp_6).bind fun spl_6 => (jp (fun (s_8 : Bool) => (if s_8 then (some (.nxt xs)) else ((getI spl_6 0).bind fun y_11 => (jp (fun (s_13 : (Bool × (List Func))) => (if (!s_13.1) then (some (.ret (some ((Program.mk []), (I64 ((i : Int) + 1)), 40)))) else (some (.nxt s_13.2)))) (fun k_12 => (if (ByteArray.toList y_11 == ByteArray.toList (ByteArray.mk #[102, 117, 110, 99])) then ((text_function_s spl_6).bind fun vfun_14 => ((pushF xs vfun_14.1).bind fun l_15 => (k_12 (vfun_14.2, l_15)))) else (if (decide ((List.length xs : Int) > 0)) then ((text_instruction_s spl_6).bind fun ins_16 => ((pushC xs ins_16.1).bind fun c_17 => (k_12 (ins_16.2, c_17)))) else (k_12 (false, xs))))))))) (fun k_7 => (if ((List.length spl_6 : Int) == 0) then (k_7 true) else ((getI spl_6 0).bind fun y_9 => ((strI y_9 0).bind fun b_10 => (k_7 (b_10 == 35)))))))) : Option (Stp (List Func) (Option (Program × Int × Int)))) =
      some (match stepW xs (wordsOf l) with | none => .ret (some (Program.mk [], ((i + 1 : Nat) : Int), 40)) | some ys => .nxt ys) := by
  have hsp := text_words l (by omega)
  rw [← Option.bind_assoc, hsp, Option.bind_some]
  cases hw : wordsOf l with
  | nil =>
    rw [jp, if_pos (by rfl)]
    rfl
  | cons w0 r =>
    have hok := words_ok (by omega) hw
    have hne : ∀ w ∈ w0 :: r, w ≠ [] := fun w hm => (wordsOf_mem (hw ▸ hm)).1
    obtain ⟨b, hb1, hb2⟩ := head_is (hne w0 (by simp))
    have g0 : getI ((w0 :: r).map bsl) 0 = some (bsl w0) := rfl
    have eI : I64 ((i : Int) + 1) = ((i + 1 : Nat) : Int) := by rw [I64_of (by omega)]; omega
    simp only [jp, g0, Option.bind_some, hb1, hb2]
    rw [if_neg (by rw [beq_iff_eq]; simp; omega), show (ByteArray.mk #[102, 117, 110, 99]) = bsl fw from rfl, beq_bsl, eI]
    rw [stepW_cons]
    by_cases h35 : w0.head? = some 35
    · rw [decide_eq_true h35, if_pos rfl, if_pos h35]
    · rw [decide_eq_false h35, if_neg (by simp), if_neg h35]
      by_cases hfw : w0 = fw
      · rw [decide_eq_true hfw, if_pos rfl, if_pos hfw]
        obtain ⟨f, h1, h2, h3⟩ := function_eq (w0 :: r) (fun w hm => (hok.1 w hm).2)
        rw [h1, Option.bind_some, pushF_ok hf (by omega) h2, Option.bind_some]
        cases e : funcOf (w0 :: r) with
        | none => simp
        | some j => rw [h3 j e]; simp
      · rw [decide_eq_false hfw, if_neg (by simp), if_neg hfw]
        by_cases hx : xs = []
        · rw [if_neg (by simp [hx]), if_pos hx]; simp
        · rw [if_pos (by have := List.length_pos_iff.2 hx; simp; omega), if_neg hx]
          obtain ⟨j, h1, h2⟩ := instruction_eq w0 r (fun w hm => (hok.1 w (by simp [hm])).2) (by have := hok.2.2.2; simp at this; omega)
          rw [h1, Option.bind_some, pushC_ok hf (by omega) hx, Option.bind_some]
          cases e : instrOf (w0 :: r) with
          | none => simp
          | some q => rw [h2 q e]; simp
theorem lines_le {T : List UInt8} (hT : T.length ≤ 1048576000) : (∀ l ∈ splitL 10 T, l.length ≤ 1048576000) ∧ (splitL 10 T).length ≤ 1048576001 := by
  have h := split_len 10 T
  exact ⟨fun l hl => Nat.le_trans (h.2 l hl) hT, by have := h.1; omega⟩
theorem fits0 : Fits 0 [] := ⟨by simp, by simp⟩
/-- What every text is read as. -/
def readT (T : List UInt8) : Nat ⊕ List Func := runL 0 [] (splitL 10 T)
theorem text_Parse_eq (T : List UInt8) (hT : T.length ≤ 1048576000) : text_Parse_s (bsl T) = some (match readT T with | .inl n => (Program.mk [], ((n + 1 : Nat) : Int), 40) | .inr xs => (Program.mk xs, 0, 0)) := by
  unfold text_Parse_s
  rw [show (ByteArray.mk #[10]) = bsl [10] from rfl, TSplit_eq 10 T (by omega), Option.bind_some]
  obtain ⟨h1, h2⟩ := lines_le hT
  unfold rng
  rw [if_pos (by rw [List.length_map]; omega), lines_run (fun n => some (Program.mk [], ((n + 1 : Nat) : Int), 40)) (fun i l xs hl hf hi => textB_eq hl hf hi) (splitL 10 T) 0 [] h1 fits0 (by omega), Option.bind_some]
  unfold readT
  cases runL 0 [] (splitL 10 T) <;> rfl
/-- All lists of a program are short enough to be gone through. -/
def Short (xs : List Func) : Prop := xs.length ≤ 4611686018427387904 ∧ ∀ x ∈ xs, x.Locals.length ≤ 4611686018427387904 ∧ x.Code.length ≤ 4611686018427387904
theorem Same_refl {xs : List Func} (h : Short xs) : windlassref03_Same_s (Program.mk xs) (Program.mk xs) = some true := by
  unfold windlassref03_Same_s
  rw [if_neg (by simp)]
  refine Exists.elim (rni_inv (ρ := Option Bool) (body := fun (i_2 : Nat) (s_1 : Program) => (((getI (Program.mk xs).Funcs (i_2 : Int)).bind fun y_3 => ((getI s_1.Funcs (i_2 : Int)).bind fun y_4 => (jp (fun (s_6 : Bool) => (if s_6 then (some (.ret (some false))) else ((rni (fun (i_8 : Nat) (s_7 : Unit) => (((getI y_3.Locals (i_8 : Int)).bind fun y_9 => ((getI y_4.Locals (i_8 : Int)).bind fun y_10 => (if (y_9 != y_10) then (some (.ret (some (.ret (some false))))) else (some (.nxt ()))))) : Option (Stp Unit (Option (Stp Program (Option Bool)))))) (List.length y_3.Locals : Int) ()).bind (oc (fun (s_7 : Unit) => ((rni (fun (i_12 : Nat) (s_11 : Unit) => (((getI y_3.Code (i_12 : Int)).bind fun y_13 => ((getI y_4.Code (i_12 : Int)).bind fun y_14 => (if (!((y_13.Op == y_14.Op) && ((y_13.Arg == y_14.Arg) && ((y_13.Imm == y_14.Imm) && true)))) then (some (.ret (some (.ret (some false))))) else (some (.nxt ()))))) : Option (Stp Unit (Option (Stp Program (Option Bool)))))) (List.length y_3.Code : Int) ()).bind (oc (fun (s_11 : Unit) => (some (.nxt s_1)))))))))) (fun k_5 => (if (y_3.Params != y_4.Params) then (k_5 true) else (if (!(y_3.Result == y_4.Result)) then (k_5 true) else (if (y_3.Keep != y_4.Keep) then (k_5 true) else (if ((List.length y_3.Locals : Int) != (List.length y_4.Locals : Int)) then (k_5 true) else (k_5 ((List.length y_3.Code : Int) != (List.length y_4.Code : Int))))))))))) : Option (Stp Program (Option Bool))))
    (n := ((Program.mk xs).Funcs.length : Int)) (s0 := Program.mk xs) (fun _ s => s = Program.mk xs) (by have := h.1; simp only; omega) rfl ?_) (fun s' hs => ?_)
  rotate_left
  · exact bind_eq ⟨_, hs.1, rfl⟩
  · rintro i s hi rfl
    have hi2 : i < xs.length := by simpa using hi
    have hg : getI (Program.mk xs).Funcs (i : Int) = some xs[i] := getI_of (List.getElem?_eq_getElem hi2)
    obtain ⟨hl, hc⟩ := h.2 xs[i] (List.getElem_mem hi2)
    refine ⟨Program.mk xs, ?_, rfl⟩
    simp only [hg, Option.bind_some, jp, bne_self_eq_false, Bool.false_eq_true, if_false, beq_self_eq_true, Bool.not_true]
    obtain ⟨u, r1, _⟩ := rni_inv (ρ := Option (Stp Program (Option Bool))) (body := fun (i_8 : Nat) (s_7 : Unit) => (((getI (xs[i]).Locals (i_8 : Int)).bind fun y_9 => ((getI (xs[i]).Locals (i_8 : Int)).bind fun y_10 => (if (y_9 != y_10) = true then (some (.ret (some (.ret (some false))))) else (some (.nxt ()))))) : Option (Stp Unit (Option (Stp Program (Option Bool))))))
      (n := ((xs[i]).Locals.length : Int)) (s0 := ()) (fun _ _ => True) (by omega) trivial (fun k s hk _ => ⟨(), by
        have hk2 : k < (xs[i]).Locals.length := by omega
        rw [getI_of (List.getElem?_eq_getElem hk2), Option.bind_some, Option.bind_some, if_neg (by simp)], trivial⟩)
    rw [r1, Option.bind_some]
    simp only [oc]
    obtain ⟨u2, r2, _⟩ := rni_inv (ρ := Option (Stp Program (Option Bool))) (body := fun (i_12 : Nat) (s_11 : Unit) => (((getI (xs[i]).Code (i_12 : Int)).bind fun y_13 => ((getI (xs[i]).Code (i_12 : Int)).bind fun y_14 => (if (!((y_13.Op == y_14.Op) && ((y_13.Arg == y_14.Arg) && ((y_13.Imm == y_14.Imm) && true)))) = true then (some (.ret (some (.ret (some false))))) else (some (.nxt ()))))) : Option (Stp Unit (Option (Stp Program (Option Bool))))))
      (n := ((xs[i]).Code.length : Int)) (s0 := ()) (fun _ _ => True) (by omega) trivial (fun k s hk _ => ⟨(), by
        have hk2 : k < (xs[i]).Code.length := by omega
        rw [getI_of (List.getElem?_eq_getElem hk2), Option.bind_some, Option.bind_some, if_neg (by simp)], trivial⟩)
    rw [r2, Option.bind_some]
    rfl
theorem fits_run : ∀ (ls : List (List UInt8)) (k : Nat) (xs ys : List Func), Fits k xs → runL k xs ls = .inr ys → Fits (k + ls.length) ys
  | [], k, xs, ys, h, e => by cases e; exact h
  | l :: r, k, xs, ys, h, e => by
    rw [runL] at e
    cases q : stepW xs (wordsOf l) with
    | none => rw [q] at e; cases e
    | some zs =>
      rw [q] at e
      have := fits_run r (k + 1) zs ys (fits_step h q) e
      rw [show k + (l :: r).length = k + 1 + r.length by simp; omega]
      exact this
/-- Locals of what lines say are no longer than the lines. -/
def LocOK (n : Nat) (xs : List Func) : Prop := ∀ x ∈ xs, x.Locals.length ≤ n
theorem func_loc {ws : List (List UInt8)} {f : Func} {n : Nat} (hw : ∀ w ∈ ws, w.length ≤ n) (h : funcOf ws = some f) : f.Locals.length ≤ n := by
  unfold funcOf at h
  split at h
  · rename_i w1 w2 w3 w4
    cases e1 : numM 255 w1 <;> rw [e1] at h
    · cases h
    cases e2 : kindsOf w2 <;> simp only [e2, Option.bind_some, Option.bind_none] at h
    · cases h
    cases e3 : flagOf w3 <;> simp only [e3, Option.bind_some, Option.bind_none] at h
    · cases h
    obtain ⟨kp, _, rfl⟩ := Option.map_eq_some_iff.1 h
    have hl := hw w2 (by simp)
    unfold kindsOf at e2
    split at e2
    · cases e2; simp
    · split at e2
      · cases e2; simpa using hl
      · cases e2
  · cases h
theorem loc_step {n : Nat} {xs ys : List Func} (h : LocOK n xs) {l : List UInt8} (hl : l.length ≤ n) (e : stepW xs (wordsOf l) = some ys) : LocOK n ys := by
  have hw : ∀ w ∈ wordsOf l, w.length ≤ n := fun w hm => Nat.le_trans (wordsOf_mem hm).2.2 hl
  generalize wordsOf l = ws at e hw
  unfold stepW at e
  split at e
  · cases e; exact h
  · split at e
    · cases e; exact h
    · split at e
      · obtain ⟨f, hf, rfl⟩ := Option.map_eq_some_iff.1 e
        intro x hx
        rcases List.mem_append.1 hx with q | q
        · exact h x q
        · rw [List.mem_singleton.1 q]; exact func_loc hw hf
      · split at e
        · cases e
        · obtain ⟨i, _, rfl⟩ := Option.map_eq_some_iff.1 e
          rcases snoc_of xs with rfl | ⟨l, x, rfl⟩
          · exact h
          · unfold pushI
            rw [show (l ++ [x]).getLast? = some x by simp]
            simp only
            rw [List.dropLast_concat]
            intro y hy
            rcases List.mem_append.1 hy with q | q
            · exact h y (by simp [q])
            · rw [List.mem_singleton.1 q]; exact h x (by simp)
theorem loc_run {n : Nat} : ∀ (ls : List (List UInt8)) (k : Nat) (xs ys : List Func), (∀ l ∈ ls, l.length ≤ n) → LocOK n xs → runL k xs ls = .inr ys → LocOK n ys
  | [], k, xs, ys, _, h, e => by cases e; exact h
  | l :: r, k, xs, ys, hl, h, e => by
    rw [runL] at e
    cases q : stepW xs (wordsOf l) with
    | none => rw [q] at e; cases e
    | some zs =>
      rw [q] at e
      exact loc_run r (k + 1) zs ys (fun x hx => hl x (by simp [hx])) (loc_step h (hl l (by simp)) q) e
theorem read_short {T : List UInt8} (hT : T.length ≤ 1048576000) {xs : List Func} (h : readT T = .inr xs) : Short xs := by
  obtain ⟨h1, h2⟩ := lines_le hT
  have a := fits_run (splitL 10 T) 0 [] xs fits0 h
  have b := loc_run (n := 1048576000) (splitL 10 T) 0 [] xs h1 (fun x hx => by cases hx) h
  exact ⟨by have := a.1; omega, fun x hx => ⟨by have := b x hx; omega, by have := a.2 x hx; omega⟩⟩
end Go.Proofs.YtkfhljombjmdbaaDoor
/- Which programs have bytes, and what both codes say of that. -/
namespace Go.Proofs.YtkfhljombjmdbaaDoor.enc
open Go Go.Ab Go.RowKit
set_option maxRecDepth 20000
set_option maxHeartbeats 1000000
set_option linter.unusedVariables false
set_option linter.unusedSimpArgs false

def widthI (op : Int) : Int := if op = 1 then 8 else if op = 2 ∨ op = 3 ∨ op = 4 ∨ op = 23 ∨ op = 25 then 1 else if op = 21 ∨ op = 22 then 2 else if op < 1 ∨ op > 32 then -1 else 0
theorem width_eq (op : Int) : code_width_s op = some (widthI op) := by
  unfold code_width_s widthI
  simp only [jp, beq_iff_eq, decide_eq_true_eq]
  by_cases h1 : op = 1
  · simp [h1]
  by_cases h2 : op = 2
  · simp [h2]
  by_cases h3 : op = 3
  · simp [h3]
  by_cases h4 : op = 4
  · simp [h4]
  by_cases h5 : op = 23
  · simp [h5]
  by_cases h6 : op = 25
  · simp [h6]
  by_cases h7 : op = 21
  · simp [h7]
  by_cases h8 : op = 22
  · simp [h8]
  by_cases h9 : op < 1
  · simp [h1, h2, h3, h4, h5, h6, h7, h8, h9]
  by_cases h10 : op > 32 <;> simp [h1, h2, h3, h4, h5, h6, h7, h8, h9, h10]
theorem width_cases (op : Int) : widthI op = -1 ∨ widthI op = 0 ∨ widthI op = 1 ∨ widthI op = 2 ∨ widthI op = 8 := by
  unfold widthI
  split
  · simp
  · split
    · simp
    · split
      · simp
      · split <;> simp
/-- Which instructions have bytes. -/
def instrP (i : Instr) : Bool := decide (0 ≤ widthI i.Op) && (if widthI i.Op = 8 then decide (i.Arg = 0) else decide (i.Imm = 0 ∧ 0 ≤ i.Arg ∧ i.Arg < 256 ^ (widthI i.Op).toNat))

theorem put_len (b : List Int) (v n : Int) (hb : b.length ≤ 1000000000) (hn : 0 ≤ n ∧ n ≤ 8) : ∃ l, code_put_r_s b v n = some l ∧ l.length = b.length + n.toNat := by
  unfold code_put_r_s
  obtain ⟨s', e1, e2⟩ := rni_inv (σ := Int × List Int) (ρ := Option (List Int)) (n := n) (s0 := (v, b)) (body := fun (i_2 : Nat) (s_1 : (Int × (List Int))) => ((gd (0 ≤ (U64 (I64 (8 * (i_2 : Int))))) ((appL 1 s_1.2 [(U8 (shR .u64 s_1.1 (U64 (I64 (8 * (i_2 : Int))))))]).bind fun l_4 => (some (.nxt (s_1.1, l_4))))) : Option (Stp (Int × (List Int)) (Option (List Int)))))
    (fun i s => s.2.length = b.length + i) (by omega) (by simp) (fun i s hi hs => by
      have e : U64 (I64 (8 * (i : Int))) = 8 * i := by rw [I64_of (by omega), U64_of (by omega)]
      rw [e, gd_true (by omega), appL1 (by simp <;> omega)]
      exact ⟨_, rfl, by simp [hs]; omega⟩)
  rw [e1]
  exact ⟨s'.2, rfl, e2⟩

theorem instruction_eq (b : List Int) (i : Instr) (hb : b.length ≤ 900000000) : ∃ l, code_instruction_r_s b i = some (instrP i, l) ∧ l.length ≤ b.length + 9 := by
  unfold code_instruction_r_s
  rw [width_eq]
  simp only [Option.bind_some, jp]
  have hw := width_cases i.Op
  unfold instrP
  generalize widthI i.Op = w at hw ⊢
  by_cases h0 : w < 0
  · have : ¬ 0 ≤ w := by omega
    simp [h0, this]
  have h0' : 0 ≤ w := by omega
  have hd0 : decide (w < 0) = false := by simpa using h0'
  simp only [hd0, Bool.false_eq_true, if_false]
  by_cases h8 : w = 8
  · subst h8
    simp only [bne_self_eq_false, beq_self_eq_true, Bool.false_eq_true, if_false, if_true]
    rw [appL1 (by simp <;> omega)]
    simp only [Option.bind_some]
    obtain ⟨l, e1, e2⟩ := put_len (b ++ [i.Op]) i.Imm 8 (by simp <;> omega) (by omega)
    rw [e1]
    refine ⟨l, ?_, by rw [e2]; simp⟩
    simp
    by_cases ha : i.Arg = 0 <;> simp [ha]
  · have e8 : (w != 8) = true := by simpa using h8
    have e8' : (w == 8) = false := by simpa using h8
    rw [if_pos e8]
    by_cases hi : i.Imm = 0
    · have : (i.Imm != 0) = false := by simp [hi]
      rw [this]
      simp only [Bool.false_eq_true, if_false]
      rw [appL1 (by simp <;> omega)]
      simp only [Option.bind_some, e8', Bool.false_eq_true, if_false]
      obtain ⟨l, e1, e2⟩ := put_len (b ++ [i.Op]) (U64 i.Arg) w (by simp <;> omega) (by omega)
      rw [e1]
      simp only [Option.bind_some]
      by_cases ha : i.Arg ≥ 0
      · rw [if_pos (by simpa using ha), gd_true (by rw [I64_of (by omega), U64_of (by omega)]; omega)]
        refine ⟨l, ?_, by rw [e2]; simp; omega⟩
        have : shL .i64 1 (U64 (I64 (8 * w))) = 256 ^ w.toNat := by
          rw [I64_of (by omega), U64_of (by omega)]
          rcases hw with h | h | h | h | h <;> first | omega | (subst h; rfl)
        rw [this]
        simp [h0', h8, hi]
        by_cases hb2 : i.Arg < 256 ^ w.toNat <;> simp [hb2] <;> omega
      · rw [if_neg (by simpa using ha)]
        refine ⟨l, ?_, by rw [e2]; simp; omega⟩
        simp [h8]
        intro _ _ h; omega
    · have : (i.Imm != 0) = true := by simpa using hi
      rw [this]
      simp only [if_true]
      refine ⟨[], ?_, by simp⟩
      simp [h8, hi]

/-- Which functions have bytes. -/
def funcP (f : Func) : Bool := decide (0 ≤ f.Params ∧ f.Params ≤ f.Locals.length ∧ f.Locals.length ≤ 255 ∧ -1 ≤ f.Keep ∧ f.Keep ≤ 254 ∧ f.Code.length ≤ 65535) && (f.Locals.all (fun k => decide (k ≤ 1)) && f.Code.all instrP)
theorem function_eq (b : List Int) (f : Func) (hb : b.length ≤ 800000000) : ∃ l, code_function_r_s b f = some (funcP f, l) ∧ (funcP f = true → l.length ≤ b.length + 600000) := by
  unfold code_function_r_s
  simp only [jp]
  by_cases hc : 0 ≤ f.Params ∧ f.Params ≤ f.Locals.length ∧ f.Locals.length ≤ 255 ∧ -1 ≤ f.Keep ∧ f.Keep ≤ 254 ∧ f.Code.length ≤ 65535
  case neg =>
    have hf : funcP f = false := by unfold funcP; rw [decide_eq_false hc]; rfl
    refine ⟨[], ?_, by rw [hf]; simp⟩
    rw [hf]
    by_cases h1 : f.Params < 0
    · simp [h1]
    by_cases h2 : f.Params > f.Locals.length
    · simp [h1, h2]
    by_cases h3 : (f.Locals.length : Int) > 255
    · simp [h1, h2, h3]
    by_cases h4 : f.Keep < -1
    · simp [h1, h2, h3, h4]
    by_cases h5 : f.Keep > 254
    · simp [h1, h2, h3, h4, h5]
    by_cases h6 : (f.Code.length : Int) > 65535
    · simp [h1, h2, h3, h4, h5, h6]
    · omega
  obtain ⟨c1, c2, c3, c4, c5, c6⟩ := hc
  have n1 : ¬ f.Params < 0 := by omega
  have n2 : ¬ f.Params > f.Locals.length := by omega
  have n3 : ¬ (f.Locals.length : Int) > 255 := by omega
  have n4 : ¬ f.Keep < -1 := by omega
  have n5 : ¬ f.Keep > 254 := by omega
  have n6 : ¬ (f.Code.length : Int) > 65535 := by omega
  simp only [n1, n2, n3, n4, n5, n6, decide_false, Bool.false_eq_true, if_false]
  rw [appL1 (by simp <;> omega)]
  simp only [Option.bind_some]
  have hf : funcP f = (f.Locals.all (fun k => decide (k ≤ 1)) && f.Code.all instrP) := by
    unfold funcP; rw [decide_eq_true (by omega)]; rfl
  have L1 := rng_inv (σ := List Int) (ρ := Option (Bool × List Int)) (xs := f.Locals) (s0 := b ++ [U8 f.Params, U8 f.Locals.length]) (fun k => decide (k ≤ 1)) (some (false, []))
    (fun i s => s.length = b.length + 2 + i) (body := fun (i_5 : Nat) (k_6 : Int) (s_4 : (List Int)) => ((if (decide (k_6 > 1)) then (some (.ret (some (false, [])))) else ((appL 1 s_4 [k_6]).bind fun l_8 => (some (.nxt l_8)))) : Option (Stp (List Int) (Option (Bool × (List Int)))))) (by omega) (by simp) (fun i x s hx hs => by
      have hi := (List.getElem?_eq_some_iff.1 hx).1
      by_cases h : x ≤ 1
      · rw [if_pos (by simpa using h), if_neg (by simpa using h), appL1 (by simp <;> omega)]
        exact ⟨_, rfl, by simp <;> omega⟩
      · rw [if_neg (by simpa using h), if_pos (by simpa using h)])
  cases hl : f.Locals.all (fun k => decide (k ≤ 1)) with
  | false =>
    rw [hl] at L1
    simp only [Bool.false_eq_true, if_false] at L1
    rw [L1]
    exact ⟨[], by rw [hf, hl]; rfl, by rw [hf, hl]; simp⟩
  | true =>
    rw [hl] at L1
    simp only [if_true] at L1
    obtain ⟨s1, e1, e2⟩ := L1
    rw [e1]
    simp only [Option.bind_some, oc]
    have key : ∀ (r : Int), ∃ l, ((appL 1 s1 [r, (U8 f.Keep)]).bind fun l_11 => ((code_put_r_s l_11 (U64 (List.length f.Code : Int)) 2).bind fun (put_12 : (List Int)) => ((rng (fun (i_14 : Nat) (i_15 : Instr) (s_13 : (List Int)) => (((code_instruction_r_s s_13 i_15).bind fun (ins_17 : (Bool × (List Int))) => (if (!ins_17.1) then (some (.ret (some (false, [])))) else (some (.nxt ins_17.2)))) : Option (Stp (List Int) (Option (Bool × (List Int)))))) f.Code put_12).bind (oc (fun (s_13 : (List Int)) => (some (true, s_13))))))) = some (funcP f, l) ∧ (funcP f = true → l.length ≤ b.length + 600000) := by
      intro r
      rw [appL1 (by simp <;> omega)]
      simp only [Option.bind_some]
      obtain ⟨l2, e3, e4⟩ := put_len (s1 ++ [r, U8 f.Keep]) (U64 f.Code.length) 2 (by simp <;> omega) (by omega)
      rw [e3]
      simp only [Option.bind_some]
      have L2 := rng_inv (σ := List Int) (ρ := Option (Bool × List Int)) (xs := f.Code) (s0 := l2) instrP (some (false, [])) (fun i s => s.length ≤ b.length + 300 + 9 * i)
        (body := fun (i_14 : Nat) (i_15 : Instr) (s_13 : (List Int)) => (((code_instruction_r_s s_13 i_15).bind fun (ins_17 : (Bool × (List Int))) => (if (!ins_17.1) then (some (.ret (some (false, [])))) else (some (.nxt ins_17.2)))) : Option (Stp (List Int) (Option (Bool × (List Int)))))) (by omega) (by rw [e4]; simp; omega) (fun i x s hx hs => by
          have hi := (List.getElem?_eq_some_iff.1 hx).1
          obtain ⟨l, a, c⟩ := instruction_eq s x (by omega)
          rw [a]
          cases instrP x with
          | false => rfl
          | true => exact ⟨l, rfl, by omega⟩)
      cases hc : f.Code.all instrP with
      | false =>
        rw [hc] at L2
        simp only [Bool.false_eq_true, if_false] at L2
        rw [L2]
        exact ⟨[], by rw [hf, hl, hc]; rfl, by rw [hf, hl, hc]; simp⟩
      | true =>
        rw [hc] at L2
        simp only [if_true] at L2
        obtain ⟨s3, a, c⟩ := L2
        rw [a]
        exact ⟨s3, by rw [hf, hl, hc]; rfl, fun _ => by omega⟩
    cases f.Result with
    | false => exact key 0
    | true => exact key 1

theorem big_aux {a s i C : Nat} (h : a ≤ s + C) (k : s ≤ 3 + C * i) : a ≤ 3 + C * (i + 1) := by
  rw [Nat.mul_add, Nat.mul_one]
  generalize C * i = q at k ⊢
  omega
/-- Which programs have bytes. -/
def encP (p : Program) : Bool := decide (1 ≤ p.Funcs.length ∧ p.Funcs.length ≤ 255) && p.Funcs.all funcP
theorem Encode_eq (p : Program) : ∃ l, code_Encode_s p = some (l, if encP p = true then 0 else 30) := by
  unfold code_Encode_s
  simp only [jp]
  by_cases hc : 1 ≤ p.Funcs.length ∧ p.Funcs.length ≤ 255
  case neg =>
    have : encP p = false := by unfold encP; rw [decide_eq_false hc]; rfl
    rw [this]
    refine ⟨[], ?_⟩
    by_cases h1 : p.Funcs.length = 0
    · simp [h1]
    · have h2 : (p.Funcs.length : Int) > 255 := by omega
      have h1' : ((p.Funcs.length : Int) == 0) = false := by simpa using h1
      simp [h1', h2]
  have h1' : ((p.Funcs.length : Int) == 0) = false := by simp; intro h; simp [h] at hc
  have h2 : ¬ (p.Funcs.length : Int) > 255 := by omega
  simp only [h1', h2, decide_false, Bool.false_eq_true, if_false]
  have L := rng_inv (σ := List Int) (ρ := Option (List Int × Int)) (xs := p.Funcs) (s0 := [87, 76, U8 p.Funcs.length]) funcP (some ([], 30)) (fun i s => s.length ≤ 3 + 600000 * i)
    (body := fun (i_4 : Nat) (f_5 : Func) (s_3 : (List Int)) => (((code_function_r_s s_3 f_5).bind fun (vfun_7 : (Bool × (List Int))) => (if (!vfun_7.1) then (some (.ret (some ([], 30)))) else (some (.nxt vfun_7.2)))) : Option (Stp (List Int) (Option ((List Int) × Int))))) (by omega) (by simp) (fun i x s hx hs => by
      have hi := (List.getElem?_eq_some_iff.1 hx).1
      obtain ⟨l, a, c⟩ := function_eq s x (by omega)
      rw [a]
      cases e : funcP x with
      | false => rfl
      | true => exact ⟨l, rfl, big_aux (c e) hs⟩)
  have he : encP p = p.Funcs.all funcP := by unfold encP; rw [decide_eq_true hc]; rfl
  rw [he]
  cases e : p.Funcs.all funcP with
  | false =>
    rw [e] at L
    simp only [Bool.false_eq_true, if_false] at L
    rw [L]
    exact ⟨[], rfl⟩
  | true =>
    rw [e] at L
    simp only [if_true] at L
    obtain ⟨s, a, _⟩ := L
    rw [a]
    exact ⟨s, rfl⟩
/-- Within the bounds. -/
theorem instr_arg {i : Instr} (h : instrP i = true) : 0 ≤ i.Arg ∧ i.Arg ≤ 65535 ∧ 0 ≤ widthI i.Op := by
  unfold instrP at h
  simp only [Bool.and_eq_true, decide_eq_true_eq] at h
  obtain ⟨h1, h2⟩ := h
  split at h2
  · simp at h2; omega
  · rename_i h8
    simp only [decide_eq_true_eq] at h2
    obtain ⟨_, h3, h4⟩ := h2
    have hw := width_cases i.Op
    have : (256 : Int) ^ (widthI i.Op).toNat ≤ 65536 := by
      rcases hw with e | e | e | e | e <;> rw [e] at h1 h8 ⊢ <;> first | omega | decide
    omega
theorem bind_ex {α β : Type} {x : Option α} {F : α → Option β} {P : β → Prop} (h : ∃ o, x = some o ∧ ∃ r, F o = some r ∧ P r) : ∃ r, x.bind F = some r ∧ P r := by
  obtain ⟨o, rfl, r, h1, h2⟩ := h
  exact ⟨r, h1, h2⟩
theorem jp_ite {σ β : Type} (c : Bool) (a b : σ) (K : σ → Option β) : jp K (fun k => if c = true then k a else k b) = K (if c = true then a else b) := by unfold jp; cases c <;> rfl
theorem Width_eq (op : Int) : windlassref03_Width_s op = some (widthI op) := by
  unfold windlassref03_Width_s
  simp only [jp]
  by_cases h9 : op < 1
  · have h1 : ¬ op = 1 := by omega
    have h2 : ¬ (op = 2 ∨ op = 3 ∨ op = 4 ∨ op = 23 ∨ op = 25) := by omega
    have h3 : ¬ (op = 21 ∨ op = 22) := by omega
    have e : widthI op = -1 := by unfold widthI; rw [if_neg h1, if_neg h2, if_neg h3, if_pos (.inl h9)]
    rw [e]
    simp [h9]
  by_cases h10 : op > 32
  · have h1 : ¬ op = 1 := by omega
    have h2 : ¬ (op = 2 ∨ op = 3 ∨ op = 4 ∨ op = 23 ∨ op = 25) := by omega
    have h3 : ¬ (op = 21 ∨ op = 22) := by omega
    have e : widthI op = -1 := by unfold widthI; rw [if_neg h1, if_neg h2, if_neg h3, if_pos (.inr h10)]
    rw [e]
    simp [h9, h10]
  simp only [decide_eq_false h9, decide_eq_false h10, Bool.false_eq_true, if_false]
  unfold widthI
  by_cases h1 : op = 1
  · simp [h1]
  by_cases h2 : op = 2
  · simp [h2]
  by_cases h3 : op = 3
  · simp [h3]
  by_cases h4 : op = 4
  · simp [h4]
  by_cases h5 : op = 23
  · simp [h5]
  by_cases h6 : op = 25
  · simp [h6]
  by_cases h7 : op = 21
  · simp [h7]
  by_cases h8 : op = 22
  · simp [h8]
  have e : ¬ (op < 1 ∨ op > 32) := by omega
  have q2 : ¬ (op = 2 ∨ op = 3 ∨ op = 4 ∨ op = 23 ∨ op = 25) := by omega
  have q3 : ¬ (op = 21 ∨ op = 22) := by omega
  rw [if_neg h1, if_neg q2, if_neg q3, if_neg e]
  simp [h1, h2, h3, h4, h5, h6, h7, h8]
theorem Says_eq (i : Instr) : windlassref03_Says_s i = some (instrP i) := by
  unfold windlassref03_Says_s instrP
  rw [Width_eq]
  simp only [Option.bind_some, jp]
  have hw := width_cases i.Op
  generalize widthI i.Op = w at hw ⊢
  rcases hw with rfl | rfl | rfl | rfl | rfl
  · simp
  · by_cases h1 : i.Imm = 0
    · simp [h1]; rw [Bool.eq_iff_iff]; simp; omega
    · simp [h1]
  · by_cases h1 : i.Imm = 0
    · by_cases h2 : i.Arg ≥ 0
      · simp [h1, h2]; omega
      · have : ¬ 0 ≤ i.Arg := h2
        simp [h1, h2, this]
    · simp [h1]
  · by_cases h1 : i.Imm = 0
    · by_cases h2 : i.Arg ≥ 0
      · simp [h1, h2]; omega
      · have : ¬ 0 ≤ i.Arg := h2
        simp [h1, h2, this]
    · simp [h1]
  · by_cases h1 : i.Arg = 0 <;> simp [h1]
end Go.Proofs.YtkfhljombjmdbaaDoor.enc
/- How arguments are read. -/
namespace Go.Proofs.YtkfhljombjmdbaaDoor
open Go Go.Ab Go.RowKit
set_option maxRecDepth 20000
set_option linter.unusedVariables false
set_option linter.unusedSimpArgs false
theorem part_le {H : Type} {d : DataW H} {l : List (DataW H)} (h : d ∈ l) : Rows.uptoBulk d ≤ Rows.uptoBulkAll l := by
  induction l with
  | nil => cases h
  | cons x r ih =>
    simp only [Rows.uptoBulkAll]
    rcases List.mem_cons.1 h with e | e
    · subst e; omega
    · have := ih e; omega
theorem one_le {H : Type} (d : DataW H) : 1 ≤ Rows.uptoBulk d := by
  cases d with
  | lit l => cases l <;> simp [Rows.uptoBulk]
  | _ => simp [Rows.uptoBulk]
theorem length_le {H : Type} (l : List (DataW H)) : l.length ≤ Rows.uptoBulkAll l := by
  induction l with
  | nil => simp [Rows.uptoBulkAll]
  | cons x r ih => have := one_le x; simp only [Rows.uptoBulkAll, List.length_cons]; omega
theorem bulk {H : Type} : Bulk (H := H) Rows.uptoBulk :=
  ⟨fun bytes => by simp [Rows.uptoBulk], fun e s => by have := length_le e; simp only [Rows.uptoBulk]; omega, fun e s d h => by have := part_le h; simp only [Rows.uptoBulk]; omega, fun p d h => by have := part_le h; simp only [Rows.uptoBulk]; omega⟩

theorem cells121 : Tryd.prog.cellsOf 121 = 1 := by kernel_rfl
theorem cells56 : Tryd.prog.cellsOf 56 = 1 := by kernel_rfl
theorem cells3 : Tryd.prog.cellsOf 3 = 1 := by kernel_rfl
theorem cells24 : Tryd.prog.cellsOf 24 = 1 := by kernel_rfl
theorem cells58 : Tryd.prog.cellsOf 58 = 3 := by kernel_rfl
def Instr.Ok (N : Nat) (x : Instr) : Prop := (fun n => (Lit.int .u8 n).wf = true) x.Op ∧ (fun n => (Lit.int .i64 n).wf = true) x.Arg ∧ (fun n => (Lit.int .u64 n).wf = true) x.Imm
theorem Instr.rd {N : Nat} : Rd Tryd.prog N Instr.av (Instr.Ok N) 58 := by
  intro avs ht
  obtain ⟨hl, hf⟩ := ty_struct Tryd.underlying58 ht
  have e0 : Ty Tryd.prog N 56 ((avs.drop 0).take (Tryd.prog.cellsOf 56)) := hf 0 _ rfl
  rw [cells56] at e0
  obtain ⟨a0, h0, q0⟩ := (rdI Tryd.underlying56) _ e0
  have e1 : Ty Tryd.prog N 3 ((avs.drop 1).take (Tryd.prog.cellsOf 3)) := hf 1 _ rfl
  rw [cells3] at e1
  obtain ⟨a1, h1, q1⟩ := (rdI Tryd.underlying3) _ e1
  have e2 : Ty Tryd.prog N 24 ((avs.drop 2).take (Tryd.prog.cellsOf 24)) := hf 2 _ rfl
  rw [cells24] at e2
  obtain ⟨a2, h2, q2⟩ := (rdI Tryd.underlying24) _ e2
  refine ⟨⟨a0, a1, a2⟩, ?_, ⟨q0, q1, q2⟩⟩
  have := (st_cons h0 (st_cons h1 (st_cons h2 (st_nil (hl.trans cells58)))))
  exact this
theorem cells60 : Tryd.prog.cellsOf 60 = 1 := by kernel_rfl
theorem cells4 : Tryd.prog.cellsOf 4 = 1 := by kernel_rfl
theorem cells59 : Tryd.prog.cellsOf 59 = 1 := by kernel_rfl
theorem cells62 : Tryd.prog.cellsOf 62 = 5 := by kernel_rfl
def Func.Ok (N : Nat) (x : Func) : Prop := (fun n => (Lit.int .i64 n).wf = true) x.Params ∧ (fun l => List.length l ≤ N ∧ ∀ a ∈ l, (fun n => (Lit.int .u8 n).wf = true) a) x.Locals ∧ (fun _ => True) x.Result ∧ (fun n => (Lit.int .i64 n).wf = true) x.Keep ∧ (fun l => List.length l ≤ N ∧ ∀ a ∈ l, (Instr.Ok N) a) x.Code
theorem Func.rd {N : Nat} : Rd Tryd.prog N Func.av (Func.Ok N) 62 := by
  intro avs ht
  obtain ⟨hl, hf⟩ := ty_struct Tryd.underlying62 ht
  have e0 : Ty Tryd.prog N 3 ((avs.drop 0).take (Tryd.prog.cellsOf 3)) := hf 0 _ rfl
  rw [cells3] at e0
  obtain ⟨a0, h0, q0⟩ := (rdI Tryd.underlying3) _ e0
  have e1 : Ty Tryd.prog N 60 ((avs.drop 1).take (Tryd.prog.cellsOf 60)) := hf 1 _ rfl
  rw [cells60] at e1
  obtain ⟨a1, h1, q1⟩ := (rdL (encI .u8) (fun fs h => by rw [Tryd.underlying121] at h; cases h) Tryd.underlying60 cells121 (rdI Tryd.underlying121)) _ e1
  have e2 : Ty Tryd.prog N 4 ((avs.drop 2).take (Tryd.prog.cellsOf 4)) := hf 2 _ rfl
  rw [cells4] at e2
  obtain ⟨a2, h2, q2⟩ := (rdB Tryd.underlying4) _ e2
  have e3 : Ty Tryd.prog N 3 ((avs.drop 3).take (Tryd.prog.cellsOf 3)) := hf 3 _ rfl
  rw [cells3] at e3
  obtain ⟨a3, h3, q3⟩ := (rdI Tryd.underlying3) _ e3
  have e4 : Ty Tryd.prog N 59 ((avs.drop 4).take (Tryd.prog.cellsOf 59)) := hf 4 _ rfl
  rw [cells59] at e4
  obtain ⟨a4, h4, q4⟩ := (rdL Instr.enc ⟨_, Tryd.underlying58⟩ Tryd.underlying59 cells58 Instr.rd) _ e4
  refine ⟨⟨a0, a1, a2, a3, a4⟩, ?_, ⟨q0, q1, q2, q3, q4⟩⟩
  have := (st_cons h0 (st_cons h1 (st_cons h2 (st_cons h3 (st_cons h4 (st_nil (hl.trans cells62)))))))
  exact this
theorem cells37 : Tryd.prog.cellsOf 37 = 1 := by kernel_rfl
theorem cells39 : Tryd.prog.cellsOf 39 = 1 := by kernel_rfl
def Program.Ok (N : Nat) (x : Program) : Prop := (fun l => List.length l ≤ N ∧ ∀ a ∈ l, (Func.Ok N) a) x.Funcs
theorem Program.rd {N : Nat} : Rd Tryd.prog N Program.av (Program.Ok N) 39 := by
  intro avs ht
  obtain ⟨hl, hf⟩ := ty_struct Tryd.underlying39 ht
  have e0 : Ty Tryd.prog N 37 ((avs.drop 0).take (Tryd.prog.cellsOf 37)) := hf 0 _ rfl
  rw [cells37] at e0
  obtain ⟨a0, h0, q0⟩ := (rdL Func.enc ⟨_, Tryd.underlying62⟩ Tryd.underlying37 cells62 Func.rd) _ e0
  refine ⟨⟨a0⟩, ?_, q0⟩
  have := (st_cons h0 (st_nil (hl.trans cells39)))
  exact this

theorem own : ownKnob Tryd.prog.godebug = none := by kernel_rfl
theorem laidOut : laidOutB Tryd.prog = true := by kernel_rfl
end Go.Proofs.YtkfhljombjmdbaaDoor
/- Plain laws of the texts: how programs are written (text.Print, and the document's Text). -/
namespace Go.Proofs.YtkfhljombjmdbaaDoor
open Go Go.Ab Go.RowKit
set_option maxRecDepth 20000
set_option linter.unusedVariables false
set_option linter.unusedSimpArgs false

/-- An instruction of number k and operand v. -/
structure InsF (i : Instr) (k v : Nat) : Prop where
  hk : k < 32
  hv : v < 18446744073709551616
  hi : i = mkI k v
  hs : saysN k v = true
theorem wid_eq : ∀ k : Fin 32, enc.widthI ((k.val + 1 : Nat) : Int) = (widN k.val : Int) := by decide
theorem ins_form {i : Instr} (h : enc.instrP i = true) (hu : (Lit.int .u64 i.Imm).wf = true) : ∃ k v, InsF i k v := by
  obtain ⟨hu0, hu1⟩ := u64_wf hu
  unfold enc.instrP at h
  simp only [Bool.and_eq_true, decide_eq_true_eq] at h
  obtain ⟨h0, h1⟩ := h
  have hr : 1 ≤ i.Op ∧ i.Op ≤ 32 := by
    unfold enc.widthI at h0
    split at h0
    · omega
    · split at h0
      · omega
      · split at h0
        · omega
        · split at h0 <;> omega
  obtain ⟨k, hk⟩ : ∃ k : Nat, i.Op = ((k + 1 : Nat) : Int) := ⟨(i.Op - 1).toNat, by omega⟩
  have hk2 : k < 32 := by omega
  have hw := wid_eq ⟨k, hk2⟩
  simp only at hw
  rw [hk, hw] at h1
  obtain ⟨op, arg, imm⟩ := i
  simp only at hk h1 hu0 hu1
  subst hk
  by_cases h8 : widN k = 8
  · have hk0 : k = 0 := by unfold widN at h8; split at h8 <;> (try omega); split at h8 <;> (try omega); split at h8 <;> omega
    subst hk0
    rw [if_pos (by rw [h8]; rfl), decide_eq_true_eq] at h1
    refine ⟨0, imm.toNat, by omega, by omega, ?_, by unfold saysN; rw [if_pos h8]⟩
    unfold mkI
    rw [if_pos rfl, h1, Int.toNat_of_nonneg hu0]
  · rw [if_neg (by omega), decide_eq_true_eq] at h1
    obtain ⟨a1, a2, a3⟩ := h1
    have hk0 : k ≠ 0 := by intro e; subst e; exact h8 rfl
    have hcs : widN k = 0 ∨ widN k = 1 ∨ widN k = 2 := by unfold widN; rw [if_neg hk0]; split <;> (try split) <;> simp
    refine ⟨k, arg.toNat, hk2, ?_, ?_, ?_⟩
    · rcases hcs with e | e | e <;> rw [e] at a3 <;> simp at a3 <;> omega
    · unfold mkI
      rw [if_neg hk0, a1, Int.toNat_of_nonneg a2]
    · unfold saysN
      rw [if_neg h8]
      rcases hcs with e | e | e <;> rw [e] at a3 ⊢ <;> simp at a3 ⊢ <;> omega
/-- The words of an instruction's line. -/
def insW (i : Instr) : List (List UInt8) := lineP (i.Op - 1).toNat (nm.getD (i.Op - 1).toNat []) (if i.Op = 1 then i.Imm.toNat else i.Arg.toNat)
theorem insW_eq {i : Instr} {k v : Nat} (h : InsF i k v) : insW i = lineP k (nm.getD k []) v := by
  unfold insW
  have e1 : i.Op = ((k + 1 : Nat) : Int) := by rw [h.hi]; unfold mkI; split <;> rfl
  have e2 : (i.Op - 1).toNat = k := by omega
  rw [e2]
  congr 1
  by_cases hk : k = 0
  · subst hk
    rw [if_pos (by rw [e1]; rfl), h.hi]
    unfold mkI
    simp
  · rw [if_neg (by omega), h.hi]
    unfold mkI
    rw [if_neg hk]
    simp
def insB (i : Instr) : List UInt8 := joinW (insW i) ++ [10]
def headB (f : Func) : List UInt8 := joinW (headW f) ++ [10]
def funcB (f : Func) : List UInt8 := headB f ++ f.Code.flatMap insB
def textB (xs : List Func) : List UInt8 := xs.flatMap funcB
theorem nm_le {k : Nat} (hk : k < 32) : (nm.getD k []).length ≤ 7 := (nm_free _ (List.mem_of_getElem? (nm_at hk))).2.2
theorem insB_len {i : Instr} {k v : Nat} (h : InsF i k v) : (insB i).length ≤ 29 := by
  have h1 := nm_le h.hk
  have h2 := dec_le h.hv
  unfold insB
  rw [insW_eq h]
  generalize nm.getD k [] = name at h1 ⊢
  unfold lineP
  split <;> simp [joinW] <;> omega
theorem line_ok {i : Instr} {k v : Nat} (h : InsF i k v) (a : List UInt8) (ha : a.length ≤ 100000000000) : text_line_s i a = some (a ++ insB i) := by
  have h1 := nm_le h.hk
  have h2 := dec_le h.hv
  have hat := nm_at h.hk
  have e1 : i.Op = ((k + 1 : Nat) : Int) := by rw [h.hi]; unfold mkI; split <;> rfl
  have hk := h.hk
  have hv := h.hv
  unfold text_line_s insB
  rw [insW_eq h]
  generalize nm.getD k [] = name at h1 hat ⊢
  rw [names_eq, Option.bind_some, e1]
  have eU : IntKind.u8.wrap (((k + 1 : Nat) : Int) - 1) = (k : Int) := by
    have : ∀ k : Fin 32, IntKind.u8.wrap (((k.val + 1 : Nat) : Int) - 1) = (k.val : Int) := by decide
    exact this ⟨k, hk⟩
  rw [show U8 (((k + 1 : Nat) : Int) - 1) = (k : Int) from eU, getI_nat, List.getElem?_map, hat, Option.map_some, Option.bind_some]
  have w1 : wr a (bsl name).data.toList = some (a ++ name) := by
    unfold wr
    rw [bsl_data, if_pos (by omega)]
  rw [w1, Option.bind_some, most_eq k hk, Option.bind_some]
  obtain ⟨wm, _⟩ := wid_most ⟨k, hk⟩
  simp only at wm
  by_cases hw : widN k = 0
  · have hm := wm.1 hw
    rw [if_neg (by simp [hm]), Option.bind_some]
    unfold wr lineP
    rw [if_pos (by simp; omega), if_pos hw]
    simp [joinW]
  · have hm : mostN k ≠ 0 := fun e => hw (wm.2 e)
    rw [if_pos (by simp; omega)]
    have ev : U64 (i.Imm + U64 i.Arg) = (v : Int) := by
      rw [h.hi]
      unfold mkI
      split
      · simp only
        rw [U64_of (x := 0) (by omega), Int.add_zero]
        exact U64_of (by omega)
      · simp only
        rw [U64_of (x := (v : Int)) (by omega), Int.zero_add]
        exact U64_of (by omega)
    rw [ev, fmtN v hv, Option.bind_some, show (ByteArray.mk #[32]) = bsl [32] from rfl, cat_b _ _ (by simp; omega), Option.bind_some]
    have w2 : wr (a ++ name) (bsl ([32] ++ Lib.decDigits v)).data.toList = some (a ++ name ++ ([32] ++ Lib.decDigits v)) := by
      unfold wr
      rw [bsl_data, if_pos (by simp; omega)]
    rw [w2, Option.bind_some]
    unfold wr lineP
    rw [if_pos (by simp; omega), if_neg hw]
    simp [joinW]
/-- A function that bytes say. -/
structure FunF (f : Func) : Prop where
  p : 0 ≤ f.Params ∧ f.Params ≤ 255
  l : f.Locals.length ≤ 255
  k : -1 ≤ f.Keep ∧ f.Keep ≤ 254
  c : f.Code.length ≤ 65535
  z : ∀ x ∈ f.Locals, x = 0 ∨ x = 1
  i : ∀ x ∈ f.Code, ∃ k v, InsF x k v
theorem fun_form {f : Func} (h : enc.funcP f = true) (hz : ∀ x ∈ f.Locals, 0 ≤ x) (hu : ∀ x ∈ f.Code, (Lit.int .u64 x.Imm).wf = true) : FunF f := by
  unfold enc.funcP at h
  simp only [Bool.and_eq_true, decide_eq_true_eq, List.all_eq_true] at h
  obtain ⟨⟨a1, a2, a3, a4, a5, a6⟩, a7, a8⟩ := h
  refine ⟨by omega, by omega, by omega, by omega, fun x hx => ?_, fun x hx => ins_form (a8 x hx) (hu x hx)⟩
  have := a7 x hx
  have := hz x hx
  omega
theorem locs_run : ∀ (ks : List Int) (k : Nat) (a : List UInt8), (∀ x ∈ ks, x = 0 ∨ x = 1) → a.length + ks.length ≤ 100000000 →
    rangeL (fun (i_7 : Nat) (k_8 : Int) (s_6 : ByteArray) => (((getI [(ByteArray.mk #[110]), (ByteArray.mk #[112])] k_8).bind fun y_10 => ((catS s_6 y_10).bind fun s_11 => (some (.nxt s_11)))) : Option (Stp ByteArray (Option ByteArray)))) ks k (bsl a) = some (.fin (bsl (a ++ ks.map letC)))
  | [], k, a, _, _ => by simp [rangeL]
  | x :: r, k, a, hz, hl => by
    simp only [List.length_cons] at hl
    have key : ((getI [(ByteArray.mk #[110]), (ByteArray.mk #[112])] x).bind fun y_10 => ((catS (bsl a) y_10).bind fun s_11 => (some (.nxt s_11) : Option (Stp ByteArray (Option ByteArray))))) = some (.nxt (bsl (a ++ [letC x]))) := by
      rcases hz x (by simp) with rfl | rfl
      · rw [show getI [(ByteArray.mk #[110]), (ByteArray.mk #[112])] 0 = some (bsl [110]) from rfl, Option.bind_some, cat_b _ _ (by simp; omega)]
        rfl
      · rw [show getI [(ByteArray.mk #[110]), (ByteArray.mk #[112])] 1 = some (bsl [112]) from rfl, Option.bind_some, cat_b _ _ (by simp; omega)]
        rfl
    rw [rangeL, key]
    simp only
    rw [locs_run r (k + 1) (a ++ [letC x]) (fun y hy => hz y (by simp [hy])) (by simp; omega)]
    simp
theorem itoa_ok {n : Int} (h : 0 ≤ n ∧ n ≤ 1000) : strconv_Itoa_s n = some (bsl (Lib.decDigits n.toNat)) := by
  unfold strconv_Itoa_s
  rw [if_pos (by omega), digs19 n.toNat (by omega)]
  rfl
theorem head_ok {f : Func} (h : FunF f) : text_head_s f = some (bsl (headB f)) := by
  have hp := dec_le (v := f.Params.toNat) (by have := h.p; omega)
  have hk := dec_le (v := f.Keep.toNat) (by have := h.k; omega)
  have hl := h.l
  unfold text_head_s
  rw [show (ByteArray.mk #[]) = bsl [] from rfl]
  unfold rng
  rw [if_pos (by omega), locs_run f.Locals 0 [] h.z (by simp; omega), List.nil_append, Option.bind_some]
  simp only [oc, beq_bsl]
  have e1 : ∀ {β : Type} (K : ByteArray → Option β), jp K (fun k_12 => if decide (f.Locals.map letC = []) = true then k_12 (ByteArray.mk #[45]) else k_12 (bsl (f.Locals.map letC))) = K (bsl (kstr f.Locals)) := by
    intro β K
    unfold kstr
    show (if decide (f.Locals.map letC = []) = true then K (ByteArray.mk #[45]) else K (bsl (f.Locals.map letC))) = _
    by_cases e : f.Locals = []
    · rw [e]; rfl
    · rw [if_neg (by simpa using e), if_neg e]
  rw [e1]
  have e2 : ∀ {β : Type} (K : ByteArray → Option β), jp K (fun k_14 => if f.Result = true then k_14 (ByteArray.mk #[49]) else k_14 (ByteArray.mk #[48])) = K (bsl (fstr f.Result)) := by
    intro β K
    unfold fstr
    show (if f.Result = true then K (ByteArray.mk #[49]) else K (ByteArray.mk #[48])) = _
    cases f.Result <;> rfl
  rw [e2]
  have e3 : ∀ {β : Type} (K : ByteArray → Option β), jp K (fun k_16 => if decide (f.Keep ≥ 0) = true then (strconv_Itoa_s f.Keep).bind fun ito_18 => k_16 ito_18 else k_16 (ByteArray.mk #[45])) = K (bsl (pstr f.Keep)) := by
    intro β K
    unfold pstr
    show (if decide (f.Keep ≥ 0) = true then (strconv_Itoa_s f.Keep).bind K else K (ByteArray.mk #[45])) = _
    by_cases e : f.Keep ≥ 0
    · rw [if_pos (by simpa using e), itoa_ok ⟨e, by have := h.k; omega⟩, if_neg (by omega)]; rfl
    · rw [if_neg (by simpa using e), if_pos (by omega)]; rfl
  rw [e3, itoa_ok ⟨h.p.1, by have := h.p; omega⟩, Option.bind_some]
  have b1 : (kstr f.Locals).length ≤ 256 := by unfold kstr; split <;> simp <;> omega
  have b2 : (fstr f.Result).length = 1 := by unfold fstr; split <;> rfl
  have b3 : (pstr f.Keep).length ≤ 20 := by unfold pstr; split <;> first | exact hk | simp
  rw [show (ByteArray.mk #[102, 117, 110, 99, 32]) = bsl (fw ++ [32]) from rfl, show (ByteArray.mk #[32]) = bsl [32] from rfl, show (ByteArray.mk #[10]) = bsl [10] from rfl]
  have bf : (fw ++ [32]).length = 5 := rfl
  rw [cat_b _ _ (by omega), Option.bind_some]
  rw [cat_b _ _ (by simp [fw]; omega), Option.bind_some]
  rw [cat_b _ _ (by simp [fw]; omega), Option.bind_some]
  rw [cat_b _ _ (by simp [fw]; omega), Option.bind_some]
  rw [cat_b _ _ (by simp [fw]; omega), Option.bind_some]
  rw [cat_b _ _ (by simp [fw]; omega), Option.bind_some]
  rw [cat_b _ _ (by simp [fw]; omega), Option.bind_some]
  rw [cat_b _ _ (by simp [fw]; omega), Option.bind_some]
  unfold headB headW
  simp [joinW]
theorem headB_len {f : Func} (h : FunF f) : (headB f).length ≤ 400 := by
  have hp := dec_le (v := f.Params.toNat) (by have := h.p; omega)
  have hk := dec_le (v := f.Keep.toNat) (by have := h.k; omega)
  have hl := h.l
  have b1 : (kstr f.Locals).length ≤ 256 := by unfold kstr; split <;> simp <;> omega
  have b2 : (fstr f.Result).length = 1 := by unfold fstr; split <;> rfl
  have b3 : (pstr f.Keep).length ≤ 20 := by unfold pstr; split <;> first | exact hk | simp
  unfold headB headW
  simp [joinW, fw]
  omega
theorem fold_lines : ∀ (l : List Instr) (a : List UInt8), (∀ x ∈ l, ∃ k v, InsF x k v) → a.length + 29 * l.length ≤ 100000000000 → foldA text_line_s l a = some (a ++ l.flatMap insB)
  | [], a, _, _ => by simp [foldA]
  | x :: r, a, h, hl => by
    simp only [List.length_cons] at hl
    obtain ⟨k, v, hx⟩ := h x (by simp)
    have h1 := insB_len hx
    rw [foldA, line_ok hx a (by omega), Option.bind_some, fold_lines r (a ++ insB x) (fun y hy => h y (by simp [hy])) (by simp; omega)]
    simp
theorem code_len : ∀ (l : List Instr), (∀ x ∈ l, ∃ k v, InsF x k v) → (l.flatMap insB).length ≤ 29 * l.length
  | [], _ => by simp
  | x :: r, h => by
    obtain ⟨k, v, hx⟩ := h x (by simp)
    have h1 := insB_len hx
    have := code_len r (fun y hy => h y (by simp [hy]))
    simp only [List.flatMap_cons, List.length_append, List.length_cons]
    omega
theorem funcB_len {f : Func} (h : FunF f) : (funcB f).length ≤ 1901000 := by
  have h1 := headB_len h
  have h2 := code_len f.Code h.i
  have h3 := h.c
  unfold funcB
  simp only [List.length_append]
  omega
theorem func_ok {f : Func} (h : FunF f) (a : List UInt8) (ha : a.length ≤ 90000000000) : text_func_s f a = some (a ++ funcB f) := by
  have h1 := headB_len h
  have h3 := h.c
  unfold text_func_s
  rw [head_ok h, Option.bind_some]
  have w1 : wr a (bsl (headB f)).data.toList = some (a ++ headB f) := by
    unfold wr
    rw [bsl_data, if_pos (by omega)]
  rw [w1, Option.bind_some, if_pos (by omega), fold_lines f.Code _ h.i (by simp; omega)]
  unfold funcB
  simp
theorem fold_funcs : ∀ (l : List Func) (a : List UInt8), (∀ x ∈ l, FunF x) → a.length + 1901000 * l.length ≤ 90000000000 → foldA text_func_s l a = some (a ++ textB l)
  | [], a, _, _ => by simp [foldA, textB]
  | x :: r, a, h, hl => by
    simp only [List.length_cons] at hl
    have h1 := funcB_len (h x (by simp))
    rw [foldA, func_ok (h x (by simp)) a (by omega), Option.bind_some, fold_funcs r (a ++ funcB x) (fun y hy => h y (by simp [hy])) (by simp; omega)]
    simp [textB]
theorem textB_len : ∀ (l : List Func), (∀ x ∈ l, FunF x) → (textB l).length ≤ 1901000 * l.length
  | [], _ => by simp [textB]
  | x :: r, h => by
    have h1 := funcB_len (h x (by simp))
    have := textB_len r (fun y hy => h y (by simp [hy]))
    simp only [textB, List.flatMap_cons, List.length_append, List.length_cons] at this ⊢
    omega
/-- A program that bytes say. -/
structure ProF (p : Program) : Prop where
  n : 1 ≤ p.Funcs.length ∧ p.Funcs.length ≤ 255
  f : ∀ x ∈ p.Funcs, FunF x
theorem pro_form {p : Program} (h : enc.encP p = true) (hz : ∀ f ∈ p.Funcs, ∀ x ∈ f.Locals, 0 ≤ x) (hu : ∀ f ∈ p.Funcs, ∀ x ∈ f.Code, (Lit.int .u64 x.Imm).wf = true) : ProF p := by
  unfold enc.encP at h
  simp only [Bool.and_eq_true, decide_eq_true_eq, List.all_eq_true] at h
  exact ⟨h.1, fun f hf => fun_form (h.2 f hf) (hz f hf) (hu f hf)⟩
theorem ProF.len {p : Program} (h : ProF p) : (textB p.Funcs).length ≤ 490000000 := by
  have := textB_len p.Funcs h.f
  have := h.n
  omega
/-- What text.Print answers. -/
theorem Print_no {p : Program} (h : enc.encP p = false) : text_Print_s p = some (bsl [], 30) := by
  unfold text_Print_s
  obtain ⟨l, e⟩ := enc.Encode_eq p
  rw [e, Option.bind_some, h]
  rfl
theorem Print_ok {p : Program} (he : enc.encP p = true) (h : ProF p) : text_Print_s p = some (bsl (textB p.Funcs), 0) := by
  unfold text_Print_s
  obtain ⟨l, e⟩ := enc.Encode_eq p
  have hn := h.n
  rw [e, Option.bind_some, he]
  simp only [if_true, bne_self_eq_false, Bool.false_eq_true, if_false]
  rw [if_pos (by omega), fold_funcs p.Funcs [] h.f (by simp; omega)]
  simp [bsl]
end Go.Proofs.YtkfhljombjmdbaaDoor
