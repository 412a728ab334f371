/- Plain laws of the texts: the lines, both readers, TextParses. -/
import Derived.Test.YtkfhljombjmdbaaDoorTyL8
import Derived.Test.YtkfhljombjmdbaaDoorGenY
import Derived.Test.YtkfhljombjmdbaaDoorWlT4
import Derived.Lib.LaidTab
import Derived.Stop.LaidErr
import Derived.Deep.DeepHandedRow
import Derived.Test.YtkfhljombjmdbaaDoorTyP
import Derived.Test.YtkfhljombjmdbaaDoorWlH1
import Derived.WalkKit
import Derived.ProofKit
import Derived.OpenShut
import Derived.JoinedCond
namespace Go.Proofs.YtkfhljombjmdbaaDoor
open Go Go.Ab Go.RowKit
set_option maxRecDepth 20000
set_option linter.unusedVariables false
set_option linter.unusedSimpArgs false

theorem lensW_split (c : UInt8) : ∀ l : List UInt8, lensW (splitL c l) = l.length + 1
  | [] => rfl
  | x :: r => by
    have ih := lensW_split c r
    obtain ⟨h, t, e⟩ := List.exists_cons_of_ne_nil (splitL_ne c r)
    rw [e] at ih
    simp only [lensW, List.map_cons, List.sum_cons] at ih
    unfold splitL
    split
    · simp only [lensW, List.map_cons, List.sum_cons, List.length_nil, List.length_cons]
      rw [e]
      simp only [List.map_cons, List.sum_cons]
      omega
    · rw [e]
      simp only [lensW, List.map_cons, List.sum_cons, List.length_cons]
      omega
theorem lensW_filter (p : List UInt8 → Bool) : ∀ ws : List (List UInt8), lensW (ws.filter p) ≤ lensW ws
  | [] => Nat.le_refl _
  | w :: r => by
    have := lensW_filter p r
    rw [List.filter_cons]
    split
    · simp only [lensW, List.map_cons, List.sum_cons] at this ⊢; omega
    · simp only [lensW, List.map_cons, List.sum_cons] at this ⊢; omega
theorem words_ok {l : List UInt8} (hl : l.length ≤ 28400000) {w : List UInt8} {r : List (List UInt8)} (h : wordsOf l = w :: r) : WOK (w :: r) := by
  rw [← h]
  have h1 := wordsOf_len l
  have h2 := lensW_filter (fun w => decide (w ≠ [])) (splitL 32 l)
  rw [lensW_split] at h2
  refine ⟨fun x hx => ⟨(wordsOf_mem hx).2.1, Nat.le_trans (wordsOf_mem hx).2.2 hl⟩, by rw [h]; simp, ?_, ?_⟩
  · exact Nat.le_trans h2 (by omega)
  · have : (wordsOf l).length ≤ l.length := by
      have h3 : (wordsOf l).length ≤ lensW (wordsOf l) / 2 := by
        have : ∀ ws : List (List UInt8), (∀ w ∈ ws, w ≠ []) → 2 * ws.length ≤ lensW ws := by
          intro ws
          induction ws with
          | nil => intro _; simp [lensW]
          | cons w r ih =>
            intro hh
            have a := ih (fun x hx => hh x (by simp [hx]))
            have b := List.length_pos_iff.2 (hh w (by simp))
            simp only [lensW, List.map_cons, List.sum_cons, List.length_cons] at a ⊢
            omega
        have := this (wordsOf l) (fun w hw => (wordsOf_mem hw).1)
        omega
      have : lensW (wordsOf l) ≤ l.length + 1 := h2
      omega
    omega

def pushI (xs : List Func) (i : Instr) : List Func := match xs.getLast? with
  | none => xs
  | some x => xs.dropLast ++ [{ x with Code := x.Code ++ [i] }]
def stepW (xs : List Func) : List (List UInt8) → Option (List Func)
  | [] => some xs
  | w0 :: r => if w0.head? = some 35 then some xs else if w0 = fw then (funcOf (w0 :: r)).map fun f => xs ++ [f] else if xs = [] then none else (instrOf (w0 :: r)).map (pushI xs)
def runL : Nat → List Func → List (List UInt8) → Nat ⊕ List Func
  | _, xs, [] => .inr xs
  | k, xs, l :: r => match stepW xs (wordsOf l) with
    | none => .inl k
    | some ys => runL (k + 1) ys r
def Fits (k : Nat) (xs : List Func) : Prop := xs.length ≤ k ∧ ∀ x ∈ xs, x.Code.length ≤ k
theorem pushF_ok {k : Nat} {xs : List Func} (h : Fits k xs) (hk : k ≤ 2000000) {f : Func} (hf : f.Code = []) : pushF xs f = some (xs ++ [f]) := by
  have := h.1
  unfold pushF
  rw [if_pos ⟨by rw [hf]; rfl, by omega, by omega⟩]
theorem pushC_ok {k : Nat} {xs : List Func} (h : Fits k xs) (hk : k ≤ 2000000) (hx : xs ≠ []) (i : Instr) : pushC xs i = some (pushI xs i) := by
  rcases snoc_of xs with rfl | ⟨l, x, rfl⟩
  · exact (hx rfl).elim
  · have h1 := h.1
    have h2 := h.2 x (by simp)
    unfold pushC pushI
    rw [show (l ++ [x]).getLast? = some x by simp]
    simp only
    rw [if_pos (I64_of (by simp at h1 ⊢; omega)), appL_of (by simp; omega)]
    rfl
theorem fits_push {k : Nat} {xs : List Func} (h : Fits k xs) {f : Func} (hf : f.Code = []) : Fits (k + 1) (xs ++ [f]) := by
  refine ⟨by have := h.1; simp; omega, fun x hx => ?_⟩
  rcases List.mem_append.1 hx with e | e
  · have := h.2 x e; omega
  · rw [List.mem_singleton.1 e, hf]; simp
theorem fits_pushI {k : Nat} {xs : List Func} (h : Fits k xs) (i : Instr) : Fits (k + 1) (pushI xs i) := by
  rcases snoc_of xs with rfl | ⟨l, x, rfl⟩
  · exact ⟨by simp [pushI], fun x hx => by simp [pushI] at hx⟩
  · unfold pushI
    rw [show (l ++ [x]).getLast? = some x by simp]
    simp only
    rw [List.dropLast_concat]
    refine ⟨by have := h.1; simp at this ⊢; omega, fun y hy => ?_⟩
    rcases List.mem_append.1 hy with e | e
    · have := h.2 y (by simp [e]); omega
    · rw [List.mem_singleton.1 e]
      have := h.2 x (by simp)
      simp; omega
theorem func_code {ws : List (List UInt8)} {f : Func} (h : funcOf ws = some f) : f.Code = [] := by
  unfold funcOf at h
  split at h
  · rename_i w1 w2 w3 w4
    cases e1 : numM 255 w1 <;> rw [e1] at h
    · cases h
    cases e2 : kindsOf w2 <;> simp only [e2, Option.bind_some, Option.bind_none] at h
    · cases h
    cases e3 : flagOf w3 <;> simp only [e3, Option.bind_some, Option.bind_none] at h
    · cases h
    obtain ⟨kp, _, rfl⟩ := Option.map_eq_some_iff.1 h
    rfl
  · cases h
theorem fits_step {k : Nat} {xs ys : List Func} (h : Fits k xs) {ws : List (List UInt8)} (e : stepW xs ws = some ys) : Fits (k + 1) ys := by
  have h0 : Fits (k + 1) xs := ⟨by have := h.1; omega, fun x hx => by have := h.2 x hx; omega⟩
  unfold stepW at e
  split at e
  · cases e; exact h0
  · split at e
    · cases e; exact h0
    · split at e
      · obtain ⟨f, hf, rfl⟩ := Option.map_eq_some_iff.1 e
        exact fits_push h (func_code hf)
      · split at e
        · cases e
        · obtain ⟨i, _, rfl⟩ := Option.map_eq_some_iff.1 e
          exact fits_pushI h i
/-- A loop over lines that does what the step says. -/
theorem lines_run {ρ : Type} (v : Nat → ρ) {body : Nat → ByteArray → List Func → Option (Stp (List Func) ρ)}
    (hb : ∀ i l xs, l.length ≤ 1048576 → Fits i xs → i ≤ 1048577 → body i (bsl l) xs = some (match stepW xs (wordsOf l) with | none => .ret (v i) | some ys => .nxt ys)) :
    ∀ (ls : List (List UInt8)) (k : Nat) (xs : List Func), (∀ l ∈ ls, l.length ≤ 1048576) → Fits k xs → k + ls.length ≤ 1048577 →
      rangeL body (ls.map bsl) k xs = some (match runL k xs ls with | .inl n => .ret (v n) | .inr ys => .fin ys)
  | [], k, xs, _, _, _ => by simp [rangeL, runL]
  | l :: r, k, xs, hl, hf, hk => by
    simp only [List.length_cons] at hk
    rw [List.map_cons, rangeL, hb k l xs (hl l (by simp)) hf (by omega), runL]
    cases e : stepW xs (wordsOf l) with
    | none => rfl
    | some ys =>
      simp only
      exact lines_run v hb r (k + 1) ys (fun x hx => hl x (by simp [hx])) (fits_step hf e) (by omega)
theorem head_is {w : List UInt8} (h : w ≠ []) : ∃ b : Int, strI (bsl w) 0 = some b ∧ (b == 35) = decide (w.head? = some 35) := by
  obtain ⟨c, r, rfl⟩ := List.exists_cons_of_ne_nil h
  refine ⟨(c.toNat : Int), strI_b (c :: r) 0 (by simp), ?_⟩
  simp only [List.head?_cons, Option.some.injEq]
  by_cases hc : c = 35
  · rw [hc]; rfl
  · rw [decide_eq_false hc, beq_eq_false_iff_ne]
    intro q
    exact hc (UInt8.toNat_inj.1 (by show c.toNat = 35; omega))
end Go.Proofs.YtkfhljombjmdbaaDoor
/- Plain laws of the texts: what the readers answer; a program is the same as itself; TextParses. -/
namespace Go.Proofs.YtkfhljombjmdbaaDoor
open Go Go.Ab Go.RowKit
set_option maxRecDepth 20000
set_option linter.unusedVariables false
set_option linter.unusedSimpArgs false

theorem stepW_cons (xs : List Func) (w0 : List UInt8) (r : List (List UInt8)) : stepW xs (w0 :: r) = if w0.head? = some 35 then some xs else if w0 = fw then (funcOf (w0 :: r)).map fun f => xs ++ [f] else if xs = [] then none else (instrOf (w0 :: r)).map (pushI xs) := rfl
theorem textB_eq {i : Nat} {l : List UInt8} {xs : List Func} (hl : l.length ≤ 1048576) (hf : Fits i xs) (hi : i ≤ 1048577) :
    (((strings_Split_s (bsl l) (ByteArray.mk #[32])).bind fun wsp_6 => (delS wsp_6).bind fun spl_6 => (jp (fun (s_8 : Bool) => (if s_8 then (some (.nxt xs)) else ((getI spl_6 0).bind fun y_11 => (jp (fun (s_13 : (Bool × (List Func))) => (if (!s_13.1) then (some (.ret (some ((Program.mk []), (I64 ((i : Int) + 1)), 40)))) else (some (.nxt s_13.2)))) (fun k_12 => (if (ByteArray.toList y_11 == ByteArray.toList (ByteArray.mk #[102, 117, 110, 99])) then ((text_function_s spl_6).bind fun vfun_14 => ((pushF xs vfun_14.1).bind fun l_15 => (k_12 (vfun_14.2, l_15)))) else (if (decide ((List.length xs : Int) > 0)) then ((text_instruction_s spl_6).bind fun ins_16 => ((pushC xs ins_16.1).bind fun c_17 => (k_12 (ins_16.2, c_17)))) else (k_12 (false, xs))))))))) (fun k_7 => (if ((List.length spl_6 : Int) == 0) then (k_7 true) else ((getI spl_6 0).bind fun y_9 => ((strI y_9 0).bind fun b_10 => (k_7 (b_10 == 35)))))))) : Option (Stp (List Func) (Option (Program × Int × Int)))) =
      some (match stepW xs (wordsOf l) with | none => .ret (some (Program.mk [], ((i + 1 : Nat) : Int), 40)) | some ys => .nxt ys) := by
  have hsp := text_words l (by omega)
  rw [← Option.bind_assoc, hsp, Option.bind_some]
  cases hw : wordsOf l with
  | nil =>
    rw [jp, if_pos (by rfl)]
    rfl
  | cons w0 r =>
    have hok := words_ok (by omega) hw
    have hne : ∀ w ∈ w0 :: r, w ≠ [] := fun w hm => (wordsOf_mem (hw ▸ hm)).1
    obtain ⟨b, hb1, hb2⟩ := head_is (hne w0 (by simp))
    have g0 : getI ((w0 :: r).map bsl) 0 = some (bsl w0) := rfl
    have eI : I64 ((i : Int) + 1) = ((i + 1 : Nat) : Int) := by rw [I64_of (by omega)]; omega
    simp only [jp, g0, Option.bind_some, hb1, hb2]
    rw [if_neg (by rw [beq_iff_eq]; simp; omega), show (ByteArray.mk #[102, 117, 110, 99]) = bsl fw from rfl, beq_bsl, eI]
    rw [stepW_cons]
    by_cases h35 : w0.head? = some 35
    · rw [decide_eq_true h35, if_pos rfl, if_pos h35]
    · rw [decide_eq_false h35, if_neg (by simp), if_neg h35]
      by_cases hfw : w0 = fw
      · rw [decide_eq_true hfw, if_pos rfl, if_pos hfw]
        obtain ⟨f, h1, h2, h3⟩ := function_eq (w0 :: r) (fun w hm => (hok.1 w hm).2)
        rw [h1, Option.bind_some, pushF_ok hf (by omega) h2, Option.bind_some]
        cases e : funcOf (w0 :: r) with
        | none => simp
        | some j => rw [h3 j e]; simp
      · rw [decide_eq_false hfw, if_neg (by simp), if_neg hfw]
        by_cases hx : xs = []
        · rw [if_neg (by simp [hx]), if_pos hx]; simp
        · rw [if_pos (by have := List.length_pos_iff.2 hx; simp; omega), if_neg hx]
          obtain ⟨j, h1, h2⟩ := instruction_eq w0 r (fun w hm => (hok.1 w (by simp [hm])).2) (by have := hok.2.2.2; simp at this; omega)
          rw [h1, Option.bind_some, pushC_ok hf (by omega) hx, Option.bind_some]
          cases e : instrOf (w0 :: r) with
          | none => simp
          | some q => rw [h2 q e]; simp
theorem lines_le {T : List UInt8} (hT : T.length ≤ 1048576) : (∀ l ∈ splitL 10 T, l.length ≤ 1048576) ∧ (splitL 10 T).length ≤ 1048577 := by
  have h := split_len 10 T
  exact ⟨fun l hl => Nat.le_trans (h.2 l hl) hT, by have := h.1; omega⟩
theorem fits0 : Fits 0 [] := ⟨by simp, by simp⟩
/-- What every text is read as. -/
def readT (T : List UInt8) : Nat ⊕ List Func := runL 0 [] (splitL 10 T)
theorem text_Parse_eq (T : List UInt8) (hT : T.length ≤ 1048576) : text_Parse_s (bsl T) = some (match readT T with | .inl n => (Program.mk [], ((n + 1 : Nat) : Int), 40) | .inr xs => (Program.mk xs, 0, 0)) := by
  unfold text_Parse_s
  rw [show (ByteArray.mk #[10]) = bsl [10] from rfl, TSplit_eq 10 T (by omega), Option.bind_some]
  obtain ⟨h1, h2⟩ := lines_le hT
  unfold rng
  rw [if_pos (by rw [List.length_map]; omega), lines_run (fun n => some (Program.mk [], ((n + 1 : Nat) : Int), 40)) (fun i l xs hl hf hi => textB_eq hl hf hi) (splitL 10 T) 0 [] h1 fits0 (by omega), Option.bind_some]
  unfold readT
  cases runL 0 [] (splitL 10 T) <;> rfl
theorem refB_eq (F : Nat) (hF : 28400002 < F) {i : Nat} {l : List UInt8} {xs : List Func} (hl : l.length ≤ 1048576) (hf : Fits i xs) (hi : i ≤ 1048577) :
    (((windlassref04_Words_s F (bsl l)).bind fun wor_6 => (jp (fun (s_8 : Bool) => (if s_8 then (some (.nxt xs)) else ((getI wor_6 0).bind fun y_11 => (if (ByteArray.toList y_11 == ByteArray.toList (ByteArray.mk #[102, 117, 110, 99])) then ((windlassref04_begin_s F wor_6).bind fun beg_12 => (if (!beg_12.2) then (some (.ret (some ((Program.mk []), (I64 ((i : Int) + 1)))))) else ((pushF xs beg_12.1).bind fun l_13 => (some (.nxt l_13))))) else ((windlassref04_one_s F wor_6).bind fun one_14 => (jp (fun (s_16 : Bool) => (if s_16 then (some (.ret (some ((Program.mk []), (I64 ((i : Int) + 1)))))) else ((pushC xs one_14.1).bind fun c_17 => (some (.nxt c_17))))) (fun k_15 => (if (!one_14.2) then (k_15 true) else (k_15 ((List.length xs : Int) == 0)))))))))) (fun k_7 => (if ((List.length wor_6 : Int) == 0) then (k_7 true) else ((getI wor_6 0).bind fun y_9 => ((strI y_9 0).bind fun b_10 => (k_7 (b_10 == 35)))))))) : Option (Stp (List Func) (Option (Program × Int)))) =
      some (match stepW xs (wordsOf l) with | none => .ret (some (Program.mk [], ((i + 1 : Nat) : Int))) | some ys => .nxt ys) := by
  rw [Words_eq F l (by omega) (by omega), Option.bind_some]
  cases hw : wordsOf l with
  | nil =>
    rw [jp, if_pos (by rfl)]
    rfl
  | cons w0 r =>
    have hok := words_ok (by omega) hw
    have hne : ∀ w ∈ w0 :: r, w ≠ [] := fun w hm => (wordsOf_mem (hw ▸ hm)).1
    obtain ⟨b, hb1, hb2⟩ := head_is (hne w0 (by simp))
    have g0 : getI ((w0 :: r).map bsl) 0 = some (bsl w0) := rfl
    have eI : I64 ((i : Int) + 1) = ((i + 1 : Nat) : Int) := by rw [I64_of (by omega)]; omega
    simp only [jp, g0, Option.bind_some, hb1, hb2]
    rw [if_neg (by rw [beq_iff_eq]; simp; omega), show (ByteArray.mk #[102, 117, 110, 99]) = bsl fw from rfl, beq_bsl, eI]
    rw [stepW_cons]
    by_cases h35 : w0.head? = some 35
    · rw [decide_eq_true h35, if_pos rfl, if_pos h35]
    · rw [decide_eq_false h35, if_neg (by simp), if_neg h35]
      by_cases hfw : w0 = fw
      · rw [decide_eq_true hfw, if_pos rfl, if_pos hfw]
        obtain ⟨f, h1, h2, h3⟩ := begin_eq F hF hok hne ⟨r, by rw [hfw]⟩
        rw [h1, Option.bind_some]
        cases e : funcOf (w0 :: r) with
        | none => simp
        | some j => rw [h3 j e] at h2 ⊢; rw [if_neg (by simp), pushF_ok hf (by omega) h2]; simp
      · rw [decide_eq_false hfw, if_neg (by simp), if_neg hfw]
        obtain ⟨j, h1, h2⟩ := one_eq F (by omega) hok
        rw [h1, Option.bind_some]
        by_cases hx : xs = []
        · rw [if_pos hx]
          cases instrOf (w0 :: r) <;> simp [hx]
        · rw [if_neg hx]
          have hx0 : ((List.length xs : Int) == 0) = false := by rw [beq_eq_false_iff_ne]; have := List.length_pos_iff.2 hx; omega
          cases e : instrOf (w0 :: r) with
          | none => simp
          | some q =>
            rw [h2 q e, pushC_ok hf (by omega) hx]
            simp [hx0]
theorem ref_Parse_eq (F : Nat) (hF : 28400002 < F) (T : List UInt8) (hT : T.length ≤ 1048576) : windlassref04_Parse_s F (bsl T) = some (match readT T with | .inl n => (Program.mk [], ((n + 1 : Nat) : Int)) | .inr xs => (Program.mk xs, 0)) := by
  unfold windlassref04_Parse_s
  have := Split_eq 10 F T (by omega) (by omega)
  rw [show ((10 : UInt8).toNat : Int) = 10 from rfl] at this
  rw [this, Option.bind_some]
  obtain ⟨h1, h2⟩ := lines_le hT
  unfold rng
  rw [if_pos (by rw [List.length_map]; omega), lines_run (fun n => some (Program.mk [], ((n + 1 : Nat) : Int))) (fun i l xs hl hf hi => refB_eq F hF hl hf hi) (splitL 10 T) 0 [] h1 fits0 (by omega), Option.bind_some]
  unfold readT
  cases runL 0 [] (splitL 10 T) <;> rfl
/-- All lists of a program are short enough to be gone through. -/
def Short (xs : List Func) : Prop := xs.length ≤ 4611686018427387904 ∧ ∀ x ∈ xs, x.Locals.length ≤ 4611686018427387904 ∧ x.Code.length ≤ 4611686018427387904
theorem Same_refl {xs : List Func} (h : Short xs) : windlassref03_Same_s (Program.mk xs) (Program.mk xs) = some true := by
  unfold windlassref03_Same_s
  rw [if_neg (by simp)]
  refine Exists.elim (rni_inv (ρ := Option Bool) (body := fun (i_2 : Nat) (s_1 : Program) => (((getI (Program.mk xs).Funcs (i_2 : Int)).bind fun y_3 => ((getI s_1.Funcs (i_2 : Int)).bind fun y_4 => (jp (fun (s_6 : Bool) => (if s_6 then (some (.ret (some false))) else ((rni (fun (i_8 : Nat) (s_7 : Unit) => (((getI y_3.Locals (i_8 : Int)).bind fun y_9 => ((getI y_4.Locals (i_8 : Int)).bind fun y_10 => (if (y_9 != y_10) then (some (.ret (some (.ret (some false))))) else (some (.nxt ()))))) : Option (Stp Unit (Option (Stp Program (Option Bool)))))) (List.length y_3.Locals : Int) ()).bind (oc (fun (s_7 : Unit) => ((rni (fun (i_12 : Nat) (s_11 : Unit) => (((getI y_3.Code (i_12 : Int)).bind fun y_13 => ((getI y_4.Code (i_12 : Int)).bind fun y_14 => (if (!((y_13.Op == y_14.Op) && ((y_13.Arg == y_14.Arg) && ((y_13.Imm == y_14.Imm) && true)))) then (some (.ret (some (.ret (some false))))) else (some (.nxt ()))))) : Option (Stp Unit (Option (Stp Program (Option Bool)))))) (List.length y_3.Code : Int) ()).bind (oc (fun (s_11 : Unit) => (some (.nxt s_1)))))))))) (fun k_5 => (if (y_3.Params != y_4.Params) then (k_5 true) else (if (!(y_3.Result == y_4.Result)) then (k_5 true) else (if (y_3.Keep != y_4.Keep) then (k_5 true) else (if ((List.length y_3.Locals : Int) != (List.length y_4.Locals : Int)) then (k_5 true) else (k_5 ((List.length y_3.Code : Int) != (List.length y_4.Code : Int))))))))))) : Option (Stp Program (Option Bool))))
    (n := ((Program.mk xs).Funcs.length : Int)) (s0 := Program.mk xs) (fun _ s => s = Program.mk xs) (by have := h.1; simp only; omega) rfl ?_) (fun s' hs => ?_)
  rotate_left
  · exact bind_eq ⟨_, hs.1, rfl⟩
  · rintro i s hi rfl
    have hi2 : i < xs.length := by simpa using hi
    have hg : getI (Program.mk xs).Funcs (i : Int) = some xs[i] := getI_of (List.getElem?_eq_getElem hi2)
    obtain ⟨hl, hc⟩ := h.2 xs[i] (List.getElem_mem hi2)
    refine ⟨Program.mk xs, ?_, rfl⟩
    simp only [hg, Option.bind_some, jp, bne_self_eq_false, Bool.false_eq_true, if_false, beq_self_eq_true, Bool.not_true]
    obtain ⟨u, r1, _⟩ := rni_inv (ρ := Option (Stp Program (Option Bool))) (body := fun (i_8 : Nat) (s_7 : Unit) => (((getI (xs[i]).Locals (i_8 : Int)).bind fun y_9 => ((getI (xs[i]).Locals (i_8 : Int)).bind fun y_10 => (if (y_9 != y_10) = true then (some (.ret (some (.ret (some false))))) else (some (.nxt ()))))) : Option (Stp Unit (Option (Stp Program (Option Bool))))))
      (n := ((xs[i]).Locals.length : Int)) (s0 := ()) (fun _ _ => True) (by omega) trivial (fun k s hk _ => ⟨(), by
        have hk2 : k < (xs[i]).Locals.length := by omega
        rw [getI_of (List.getElem?_eq_getElem hk2), Option.bind_some, Option.bind_some, if_neg (by simp)], trivial⟩)
    rw [r1, Option.bind_some]
    simp only [oc]
    obtain ⟨u2, r2, _⟩ := rni_inv (ρ := Option (Stp Program (Option Bool))) (body := fun (i_12 : Nat) (s_11 : Unit) => (((getI (xs[i]).Code (i_12 : Int)).bind fun y_13 => ((getI (xs[i]).Code (i_12 : Int)).bind fun y_14 => (if (!((y_13.Op == y_14.Op) && ((y_13.Arg == y_14.Arg) && ((y_13.Imm == y_14.Imm) && true)))) = true then (some (.ret (some (.ret (some false))))) else (some (.nxt ()))))) : Option (Stp Unit (Option (Stp Program (Option Bool))))))
      (n := ((xs[i]).Code.length : Int)) (s0 := ()) (fun _ _ => True) (by omega) trivial (fun k s hk _ => ⟨(), by
        have hk2 : k < (xs[i]).Code.length := by omega
        rw [getI_of (List.getElem?_eq_getElem hk2), Option.bind_some, Option.bind_some, if_neg (by simp)], trivial⟩)
    rw [r2, Option.bind_some]
    rfl
theorem fits_run : ∀ (ls : List (List UInt8)) (k : Nat) (xs ys : List Func), Fits k xs → runL k xs ls = .inr ys → Fits (k + ls.length) ys
  | [], k, xs, ys, h, e => by cases e; exact h
  | l :: r, k, xs, ys, h, e => by
    rw [runL] at e
    cases q : stepW xs (wordsOf l) with
    | none => rw [q] at e; cases e
    | some zs =>
      rw [q] at e
      have := fits_run r (k + 1) zs ys (fits_step h q) e
      rw [show k + (l :: r).length = k + 1 + r.length by simp; omega]
      exact this
/-- Locals of what lines say are no longer than the lines. -/
def LocOK (n : Nat) (xs : List Func) : Prop := ∀ x ∈ xs, x.Locals.length ≤ n
theorem func_loc {ws : List (List UInt8)} {f : Func} {n : Nat} (hw : ∀ w ∈ ws, w.length ≤ n) (h : funcOf ws = some f) : f.Locals.length ≤ n := by
  unfold funcOf at h
  split at h
  · rename_i w1 w2 w3 w4
    cases e1 : numM 255 w1 <;> rw [e1] at h
    · cases h
    cases e2 : kindsOf w2 <;> simp only [e2, Option.bind_some, Option.bind_none] at h
    · cases h
    cases e3 : flagOf w3 <;> simp only [e3, Option.bind_some, Option.bind_none] at h
    · cases h
    obtain ⟨kp, _, rfl⟩ := Option.map_eq_some_iff.1 h
    have hl := hw w2 (by simp)
    unfold kindsOf at e2
    split at e2
    · cases e2; simp
    · split at e2
      · cases e2; simpa using hl
      · cases e2
  · cases h
theorem loc_step {n : Nat} {xs ys : List Func} (h : LocOK n xs) {l : List UInt8} (hl : l.length ≤ n) (e : stepW xs (wordsOf l) = some ys) : LocOK n ys := by
  have hw : ∀ w ∈ wordsOf l, w.length ≤ n := fun w hm => Nat.le_trans (wordsOf_mem hm).2.2 hl
  generalize wordsOf l = ws at e hw
  unfold stepW at e
  split at e
  · cases e; exact h
  · split at e
    · cases e; exact h
    · split at e
      · obtain ⟨f, hf, rfl⟩ := Option.map_eq_some_iff.1 e
        intro x hx
        rcases List.mem_append.1 hx with q | q
        · exact h x q
        · rw [List.mem_singleton.1 q]; exact func_loc hw hf
      · split at e
        · cases e
        · obtain ⟨i, _, rfl⟩ := Option.map_eq_some_iff.1 e
          rcases snoc_of xs with rfl | ⟨l, x, rfl⟩
          · exact h
          · unfold pushI
            rw [show (l ++ [x]).getLast? = some x by simp]
            simp only
            rw [List.dropLast_concat]
            intro y hy
            rcases List.mem_append.1 hy with q | q
            · exact h y (by simp [q])
            · rw [List.mem_singleton.1 q]; exact h x (by simp)
theorem loc_run {n : Nat} : ∀ (ls : List (List UInt8)) (k : Nat) (xs ys : List Func), (∀ l ∈ ls, l.length ≤ n) → LocOK n xs → runL k xs ls = .inr ys → LocOK n ys
  | [], k, xs, ys, _, h, e => by cases e; exact h
  | l :: r, k, xs, ys, hl, h, e => by
    rw [runL] at e
    cases q : stepW xs (wordsOf l) with
    | none => rw [q] at e; cases e
    | some zs =>
      rw [q] at e
      exact loc_run r (k + 1) zs ys (fun x hx => hl x (by simp [hx])) (loc_step h (hl l (by simp)) q) e
theorem read_short {T : List UInt8} (hT : T.length ≤ 1048576) {xs : List Func} (h : readT T = .inr xs) : Short xs := by
  obtain ⟨h1, h2⟩ := lines_le hT
  have a := fits_run (splitL 10 T) 0 [] xs fits0 h
  have b := loc_run (n := 1048576) (splitL 10 T) 0 [] xs h1 (fun x hx => by cases hx) h
  exact ⟨by have := a.1; omega, fun x hx => ⟨by have := b x hx; omega, by have := a.2 x hx; omega⟩⟩
theorem first04_eq : windlasslaw04_first_s = some true := by kernel_rfl
theorem parses_law (s : ByteArray) (hs : s.size ≤ 1048576) : windlasslaw04_TextParses_s 40000000 s = some true := by
  unfold windlasslaw04_TextParses_s
  generalize hF : 40000000 = F
  have hF1 : 28400002 < F := by omega
  clear hF
  have hX : s.data.toList.length ≤ 1048576 := by rw [Array.length_toList]; exact hs
  have X := bsl_eq s
  generalize s.data.toList = T at X hX
  subst X
  rw [first04_eq, Option.bind_some, if_neg (by simp), text_Parse_eq T hX, Option.bind_some, ref_Parse_eq F hF1 T hX, Option.bind_some]
  cases e : readT T with
  | inl n =>
    simp only [jp]
    rw [if_pos (by simp), if_pos (by simp), if_pos (by rfl)]
    rfl
  | inr xs =>
    simp only [jp]
    rw [if_neg (by simp), if_pos (by rfl), if_pos (by rfl), Same_refl (read_short hX e)]
    rfl
end Go.Proofs.YtkfhljombjmdbaaDoor
/- From the row's list to the settings: the powers of ten, MaxLen, the two errors. -/
namespace Go.Proofs.YtkfhljombjmdbaaDoor
open Go Go.Ab Go.RowKit
set_option maxRecDepth 20000
set_option linter.unusedVariables false
set_option linter.unusedSimpArgs false

theorem pow10_laid : (Rows.laid_internal_strconv_uint64pow10 : DataW Unit) = Lib.tabData .u64 pow10T := by kernel_rfl
theorem glob_pow10 : Tryd.prog.globalNamed "internal/strconv.uint64pow10" = some 0 := by kernel_rfl
theorem glob_range : Tryd.prog.globalNamed "strconv.ErrRange" = some 3 := by kernel_rfl
theorem glob_syntax : Tryd.prog.globalNamed "strconv.ErrSyntax" = some 2 := by kernel_rfl

theorem star248 : "*" ++ "errors.errorString" = "*errors.errorString" := by decide
theorem only248 (u : TypeId) (h : Tryd.prog.typeName? 3 u = some "*errors.errorString") : u = 248 :=
  typeName_ptr_named (nm := "errors.errorString") (by rw [star248]; kernel_rfl) (by kernel_rfl) (by decide) u (by rw [star248]; exact h)

theorem err_at {W : World} {nm : String} {b : Nat} {ti : TypeId} {v : Value} (hg : Tryd.prog.globalNamed nm = some b) (h : W.var? Tryd.prog nm = some #[v]) (hv : v = .nilIface ∨ ∃ te pe, v = .iface te pe) : b < W.heap.size ∧ ∃ cs t fz, W.heap[b]? = some (.cells cs t fz) ∧ someErr cs := by
  have := World.var?_cell hg h 0
  obtain ⟨cs, t, fz, e, q⟩ := tab_cell (b := b) (W := W) (v := v) (by simpa using this)
  exact tab_here e ⟨v, q, hv⟩

theorem tab_of {W : World} (h : laidMet Tryd.prog Rows.traceTextsUptoRow.laid W) (hsh : W.ShapedOpen Tryd.prog) : TabOK W.heap.size W := by
  have h3 := h.tail.tail
  have h5 := h3.tail.tail
  have h6 := h5.tail
  obtain ⟨m, hm⟩ : ∃ m, W.cell? ⟨1, 0, none⟩ = some (.int .i64 m) := Tryd.laysM146.s1_3 W hsh
  obtain ⟨a0, s0, hv0, -, -, -⟩ := laid_sentinel h5 glob_range (by kernel_rfl) Tryd.underlying129 only248 Tryd.underlying248 Tryd.underlying250 rfl rfl Tryd.underlying9 (by kernel_rfl) (by kernel_rfl)
  obtain ⟨a1, s1, hv1, -, -, -⟩ := laid_sentinel h6 glob_syntax (by kernel_rfl) Tryd.underlying129 only248 Tryd.underlying248 Tryd.underlying250 rfl rfl Tryd.underlying9 (by kernel_rfl) (by kernel_rfl)
  have hp : Lib.TabIs Tryd.prog W "internal/strconv.uint64pow10" .u64 pow10T := by
    have h3' : laidMet Tryd.prog (("internal/strconv.uint64pow10", Rows.laid_internal_strconv_uint64pow10) :: _) W := h3
    rw [pow10_laid] at h3'
    exact Lib.tabIs_of_head glob_pow10 (t := 212) (e := 24) (n := 20) (by kernel_rfl) Tryd.underlying212 Tryd.underlying24 (by kernel_rfl) (by kernel_rfl) h3'
  intro b p e
  match b, e with
  | 0, e =>
    cases Option.some.inj e
    obtain ⟨t, fz, q⟩ := tab_is glob_pow10 hp
    exact tab_here q rfl
  | 1, e =>
    cases Option.some.inj e
    obtain ⟨cs, t, fz, q1, q2⟩ := tab_cell hm
    exact tab_here q1 ⟨m, q2⟩
  | 2, e => cases Option.some.inj e; exact err_at (ti := 129) glob_syntax hv1 (Or.inr ⟨_, _, rfl⟩)
  | 3, e => cases Option.some.inj e; exact err_at (ti := 129) glob_range hv0 (Or.inr ⟨_, _, rfl⟩)
  | n + 4, e => cases e
end Go.Proofs.YtkfhljombjmdbaaDoor
/- How arguments are read. -/
namespace Go.Proofs.YtkfhljombjmdbaaDoor
open Go Go.Ab Go.RowKit
set_option maxRecDepth 20000
set_option linter.unusedVariables false
set_option linter.unusedSimpArgs false
theorem part_le {H : Type} {d : DataW H} {l : List (DataW H)} (h : d ∈ l) : Rows.uptoBulk d ≤ Rows.uptoBulkAll l := by
  induction l with
  | nil => cases h
  | cons x r ih =>
    simp only [Rows.uptoBulkAll]
    rcases List.mem_cons.1 h with e | e
    · subst e; omega
    · have := ih e; omega
theorem one_le {H : Type} (d : DataW H) : 1 ≤ Rows.uptoBulk d := by
  cases d with
  | lit l => cases l <;> simp [Rows.uptoBulk]
  | _ => simp [Rows.uptoBulk]
theorem length_le {H : Type} (l : List (DataW H)) : l.length ≤ Rows.uptoBulkAll l := by
  induction l with
  | nil => simp [Rows.uptoBulkAll]
  | cons x r ih => have := one_le x; simp only [Rows.uptoBulkAll, List.length_cons]; omega
theorem bulk {H : Type} : Bulk (H := H) Rows.uptoBulk :=
  ⟨fun bytes => by simp [Rows.uptoBulk], fun e s => by have := length_le e; simp only [Rows.uptoBulk]; omega, fun e s d h => by have := part_le h; simp only [Rows.uptoBulk]; omega, fun p d h => by have := part_le h; simp only [Rows.uptoBulk]; omega⟩

theorem cells121 : Tryd.prog.cellsOf 121 = 1 := by kernel_rfl
theorem cells56 : Tryd.prog.cellsOf 56 = 1 := by kernel_rfl
theorem cells3 : Tryd.prog.cellsOf 3 = 1 := by kernel_rfl
theorem cells24 : Tryd.prog.cellsOf 24 = 1 := by kernel_rfl
theorem cells58 : Tryd.prog.cellsOf 58 = 3 := by kernel_rfl
def Instr.Ok (N : Nat) (x : Instr) : Prop := (fun n => (Lit.int .u8 n).wf = true) x.Op ∧ (fun n => (Lit.int .i64 n).wf = true) x.Arg ∧ (fun n => (Lit.int .u64 n).wf = true) x.Imm
theorem Instr.rd {N : Nat} : Rd Tryd.prog N Instr.av (Instr.Ok N) 58 := by
  intro avs ht
  obtain ⟨hl, hf⟩ := ty_struct Tryd.underlying58 ht
  have e0 : Ty Tryd.prog N 56 ((avs.drop 0).take (Tryd.prog.cellsOf 56)) := hf 0 _ rfl
  rw [cells56] at e0
  obtain ⟨a0, h0, q0⟩ := (rdI Tryd.underlying56) _ e0
  have e1 : Ty Tryd.prog N 3 ((avs.drop 1).take (Tryd.prog.cellsOf 3)) := hf 1 _ rfl
  rw [cells3] at e1
  obtain ⟨a1, h1, q1⟩ := (rdI Tryd.underlying3) _ e1
  have e2 : Ty Tryd.prog N 24 ((avs.drop 2).take (Tryd.prog.cellsOf 24)) := hf 2 _ rfl
  rw [cells24] at e2
  obtain ⟨a2, h2, q2⟩ := (rdI Tryd.underlying24) _ e2
  refine ⟨⟨a0, a1, a2⟩, ?_, ⟨q0, q1, q2⟩⟩
  have := (st_cons h0 (st_cons h1 (st_cons h2 (st_nil (hl.trans cells58)))))
  exact this
theorem cells60 : Tryd.prog.cellsOf 60 = 1 := by kernel_rfl
theorem cells4 : Tryd.prog.cellsOf 4 = 1 := by kernel_rfl
theorem cells59 : Tryd.prog.cellsOf 59 = 1 := by kernel_rfl
theorem cells62 : Tryd.prog.cellsOf 62 = 5 := by kernel_rfl
def Func.Ok (N : Nat) (x : Func) : Prop := (fun n => (Lit.int .i64 n).wf = true) x.Params ∧ (fun l => List.length l ≤ N ∧ ∀ a ∈ l, (fun n => (Lit.int .u8 n).wf = true) a) x.Locals ∧ (fun _ => True) x.Result ∧ (fun n => (Lit.int .i64 n).wf = true) x.Keep ∧ (fun l => List.length l ≤ N ∧ ∀ a ∈ l, (Instr.Ok N) a) x.Code
theorem Func.rd {N : Nat} : Rd Tryd.prog N Func.av (Func.Ok N) 62 := by
  intro avs ht
  obtain ⟨hl, hf⟩ := ty_struct Tryd.underlying62 ht
  have e0 : Ty Tryd.prog N 3 ((avs.drop 0).take (Tryd.prog.cellsOf 3)) := hf 0 _ rfl
  rw [cells3] at e0
  obtain ⟨a0, h0, q0⟩ := (rdI Tryd.underlying3) _ e0
  have e1 : Ty Tryd.prog N 60 ((avs.drop 1).take (Tryd.prog.cellsOf 60)) := hf 1 _ rfl
  rw [cells60] at e1
  obtain ⟨a1, h1, q1⟩ := (rdL (encI .u8) (fun fs h => by rw [Tryd.underlying121] at h; cases h) Tryd.underlying60 cells121 (rdI Tryd.underlying121)) _ e1
  have e2 : Ty Tryd.prog N 4 ((avs.drop 2).take (Tryd.prog.cellsOf 4)) := hf 2 _ rfl
  rw [cells4] at e2
  obtain ⟨a2, h2, q2⟩ := (rdB Tryd.underlying4) _ e2
  have e3 : Ty Tryd.prog N 3 ((avs.drop 3).take (Tryd.prog.cellsOf 3)) := hf 3 _ rfl
  rw [cells3] at e3
  obtain ⟨a3, h3, q3⟩ := (rdI Tryd.underlying3) _ e3
  have e4 : Ty Tryd.prog N 59 ((avs.drop 4).take (Tryd.prog.cellsOf 59)) := hf 4 _ rfl
  rw [cells59] at e4
  obtain ⟨a4, h4, q4⟩ := (rdL Instr.enc ⟨_, Tryd.underlying58⟩ Tryd.underlying59 cells58 Instr.rd) _ e4
  refine ⟨⟨a0, a1, a2, a3, a4⟩, ?_, ⟨q0, q1, q2, q3, q4⟩⟩
  have := (st_cons h0 (st_cons h1 (st_cons h2 (st_cons h3 (st_cons h4 (st_nil (hl.trans cells62)))))))
  exact this
theorem cells37 : Tryd.prog.cellsOf 37 = 1 := by kernel_rfl
theorem cells39 : Tryd.prog.cellsOf 39 = 1 := by kernel_rfl
def Program.Ok (N : Nat) (x : Program) : Prop := (fun l => List.length l ≤ N ∧ ∀ a ∈ l, (Func.Ok N) a) x.Funcs
theorem Program.rd {N : Nat} : Rd Tryd.prog N Program.av (Program.Ok N) 39 := by
  intro avs ht
  obtain ⟨hl, hf⟩ := ty_struct Tryd.underlying39 ht
  have e0 : Ty Tryd.prog N 37 ((avs.drop 0).take (Tryd.prog.cellsOf 37)) := hf 0 _ rfl
  rw [cells37] at e0
  obtain ⟨a0, h0, q0⟩ := (rdL Func.enc ⟨_, Tryd.underlying62⟩ Tryd.underlying37 cells62 Func.rd) _ e0
  refine ⟨⟨a0⟩, ?_, q0⟩
  have := (st_cons h0 (st_nil (hl.trans cells39)))
  exact this

theorem own : ownKnob Tryd.prog.godebug = none := by kernel_rfl
theorem laidOut : laidOutB Tryd.prog = true := by kernel_rfl
end Go.Proofs.YtkfhljombjmdbaaDoor
