/- Plain laws of the texts: how programs are written (text.Print, and the document's Text). -/
import Derived.Test.YtkfhljombjmdbaaDoorTyR
import Derived.Test.YtkfhljombjmdbaaDoorTxN
import Derived.Test.YtkfhljombjmdbaaDoorWlI2
import Derived.Lib.LaidTab
import Derived.Stop.LaidErr
import Derived.Deep.DeepHandedRow
namespace Go.Proofs.YtkfhljombjmdbaaDoor
open Go Go.Ab Go.RowKit
set_option maxRecDepth 20000
set_option linter.unusedVariables false
set_option linter.unusedSimpArgs false

/-- An instruction of number k and operand v. -/
structure InsF (i : Instr) (k v : Nat) : Prop where
  hk : k < 32
  hv : v < 18446744073709551616
  hi : i = mkI k v
  hs : saysN k v = true
theorem wid_eq : ∀ k : Fin 32, enc.widthI ((k.val + 1 : Nat) : Int) = (widN k.val : Int) := by decide
theorem ins_form {i : Instr} (h : enc.instrP i = true) (hu : (Lit.int .u64 i.Imm).wf = true) : ∃ k v, InsF i k v := by
  obtain ⟨hu0, hu1⟩ := u64_wf hu
  unfold enc.instrP at h
  simp only [Bool.and_eq_true, decide_eq_true_eq] at h
  obtain ⟨h0, h1⟩ := h
  have hr : 1 ≤ i.Op ∧ i.Op ≤ 32 := by
    unfold enc.widthI at h0
    split at h0
    · omega
    · split at h0
      · omega
      · split at h0
        · omega
        · split at h0 <;> omega
  obtain ⟨k, hk⟩ : ∃ k : Nat, i.Op = ((k + 1 : Nat) : Int) := ⟨(i.Op - 1).toNat, by omega⟩
  have hk2 : k < 32 := by omega
  have hw := wid_eq ⟨k, hk2⟩
  simp only at hw
  rw [hk, hw] at h1
  obtain ⟨op, arg, imm⟩ := i
  simp only at hk h1 hu0 hu1
  subst hk
  by_cases h8 : widN k = 8
  · have hk0 : k = 0 := by unfold widN at h8; split at h8 <;> (try omega); split at h8 <;> (try omega); split at h8 <;> omega
    subst hk0
    rw [if_pos (by rw [h8]; rfl), decide_eq_true_eq] at h1
    refine ⟨0, imm.toNat, by omega, by omega, ?_, by unfold saysN; rw [if_pos h8]⟩
    unfold mkI
    rw [if_pos rfl, h1, Int.toNat_of_nonneg hu0]
  · rw [if_neg (by omega), decide_eq_true_eq] at h1
    obtain ⟨a1, a2, a3⟩ := h1
    have hk0 : k ≠ 0 := by intro e; subst e; exact h8 rfl
    have hcs : widN k = 0 ∨ widN k = 1 ∨ widN k = 2 := by unfold widN; rw [if_neg hk0]; split <;> (try split) <;> simp
    refine ⟨k, arg.toNat, hk2, ?_, ?_, ?_⟩
    · rcases hcs with e | e | e <;> rw [e] at a3 <;> simp at a3 <;> omega
    · unfold mkI
      rw [if_neg hk0, a1, Int.toNat_of_nonneg a2]
    · unfold saysN
      rw [if_neg h8]
      rcases hcs with e | e | e <;> rw [e] at a3 ⊢ <;> simp at a3 ⊢ <;> omega
/-- The words of an instruction's line. -/
def insW (i : Instr) : List (List UInt8) := lineP (i.Op - 1).toNat (nm.getD (i.Op - 1).toNat []) (if i.Op = 1 then i.Imm.toNat else i.Arg.toNat)
theorem insW_eq {i : Instr} {k v : Nat} (h : InsF i k v) : insW i = lineP k (nm.getD k []) v := by
  unfold insW
  have e1 : i.Op = ((k + 1 : Nat) : Int) := by rw [h.hi]; unfold mkI; split <;> rfl
  have e2 : (i.Op - 1).toNat = k := by omega
  rw [e2]
  congr 1
  by_cases hk : k = 0
  · subst hk
    rw [if_pos (by rw [e1]; rfl), h.hi]
    unfold mkI
    simp
  · rw [if_neg (by omega), h.hi]
    unfold mkI
    rw [if_neg hk]
    simp
def insB (i : Instr) : List UInt8 := joinW (insW i) ++ [10]
def headB (f : Func) : List UInt8 := joinW (headW f) ++ [10]
def funcB (f : Func) : List UInt8 := headB f ++ f.Code.flatMap insB
def textB (xs : List Func) : List UInt8 := xs.flatMap funcB
theorem nm_le {k : Nat} (hk : k < 32) : (nm.getD k []).length ≤ 7 := (nm_free _ (List.mem_of_getElem? (nm_at hk))).2.2
theorem insB_len {i : Instr} {k v : Nat} (h : InsF i k v) : (insB i).length ≤ 29 := by
  have h1 := nm_le h.hk
  have h2 := dec_le h.hv
  unfold insB
  rw [insW_eq h]
  generalize nm.getD k [] = name at h1 ⊢
  unfold lineP
  split <;> simp [joinW] <;> omega
theorem line_ok {i : Instr} {k v : Nat} (h : InsF i k v) (a : List UInt8) (ha : a.length ≤ 100000000000) : text_line_s i a = some (a ++ insB i) := by
  have h1 := nm_le h.hk
  have h2 := dec_le h.hv
  have hat := nm_at h.hk
  have e1 : i.Op = ((k + 1 : Nat) : Int) := by rw [h.hi]; unfold mkI; split <;> rfl
  have hk := h.hk
  have hv := h.hv
  unfold text_line_s insB
  rw [insW_eq h]
  generalize nm.getD k [] = name at h1 hat ⊢
  rw [names_eq, Option.bind_some, e1]
  have eU : IntKind.u8.wrap (((k + 1 : Nat) : Int) - 1) = (k : Int) := by
    have : ∀ k : Fin 32, IntKind.u8.wrap (((k.val + 1 : Nat) : Int) - 1) = (k.val : Int) := by decide
    exact this ⟨k, hk⟩
  rw [show U8 (((k + 1 : Nat) : Int) - 1) = (k : Int) from eU, getI_nat, List.getElem?_map, hat, Option.map_some, Option.bind_some]
  have w1 : wr a (bsl name).data.toList = some (a ++ name) := by
    unfold wr
    rw [bsl_data, if_pos (by omega)]
  rw [w1, Option.bind_some, most_eq k hk, Option.bind_some]
  obtain ⟨wm, _⟩ := wid_most ⟨k, hk⟩
  simp only at wm
  by_cases hw : widN k = 0
  · have hm := wm.1 hw
    rw [if_neg (by simp [hm]), Option.bind_some]
    unfold wr lineP
    rw [if_pos (by simp; omega), if_pos hw]
    simp [joinW]
  · have hm : mostN k ≠ 0 := fun e => hw (wm.2 e)
    rw [if_pos (by simp; omega)]
    have ev : U64 (i.Imm + U64 i.Arg) = (v : Int) := by
      rw [h.hi]
      unfold mkI
      split
      · simp only
        rw [U64_of (x := 0) (by omega), Int.add_zero]
        exact U64_of (by omega)
      · simp only
        rw [U64_of (x := (v : Int)) (by omega), Int.zero_add]
        exact U64_of (by omega)
    rw [ev, fmtN v hv, Option.bind_some, show (ByteArray.mk #[32]) = bsl [32] from rfl, cat_b _ _ (by simp; omega), Option.bind_some]
    have w2 : wr (a ++ name) (bsl ([32] ++ Lib.decDigits v)).data.toList = some (a ++ name ++ ([32] ++ Lib.decDigits v)) := by
      unfold wr
      rw [bsl_data, if_pos (by simp; omega)]
    rw [w2, Option.bind_some]
    unfold wr lineP
    rw [if_pos (by simp; omega), if_neg hw]
    simp [joinW]
/-- A function that bytes say. -/
structure FunF (f : Func) : Prop where
  p : 0 ≤ f.Params ∧ f.Params ≤ 255
  l : f.Locals.length ≤ 255
  k : -1 ≤ f.Keep ∧ f.Keep ≤ 254
  c : f.Code.length ≤ 65535
  z : ∀ x ∈ f.Locals, x = 0 ∨ x = 1
  i : ∀ x ∈ f.Code, ∃ k v, InsF x k v
theorem fun_form {f : Func} (h : enc.funcP f = true) (hz : ∀ x ∈ f.Locals, 0 ≤ x) (hu : ∀ x ∈ f.Code, (Lit.int .u64 x.Imm).wf = true) : FunF f := by
  unfold enc.funcP at h
  simp only [Bool.and_eq_true, decide_eq_true_eq, List.all_eq_true] at h
  obtain ⟨⟨a1, a2, a3, a4, a5, a6⟩, a7, a8⟩ := h
  refine ⟨by omega, by omega, by omega, by omega, fun x hx => ?_, fun x hx => ins_form (a8 x hx) (hu x hx)⟩
  have := a7 x hx
  have := hz x hx
  omega
theorem locs_run : ∀ (ks : List Int) (k : Nat) (a : List UInt8), (∀ x ∈ ks, x = 0 ∨ x = 1) → a.length + ks.length ≤ 100000000 →
    rangeL (fun (i_7 : Nat) (k_8 : Int) (s_6 : ByteArray) => (((getI [(ByteArray.mk #[110]), (ByteArray.mk #[112])] k_8).bind fun y_10 => ((catS s_6 y_10).bind fun s_11 => (some (.nxt s_11)))) : Option (Stp ByteArray (Option ByteArray)))) ks k (bsl a) = some (.fin (bsl (a ++ ks.map letC)))
  | [], k, a, _, _ => by simp [rangeL]
  | x :: r, k, a, hz, hl => by
    simp only [List.length_cons] at hl
    have key : ((getI [(ByteArray.mk #[110]), (ByteArray.mk #[112])] x).bind fun y_10 => ((catS (bsl a) y_10).bind fun s_11 => (some (.nxt s_11) : Option (Stp ByteArray (Option ByteArray))))) = some (.nxt (bsl (a ++ [letC x]))) := by
      rcases hz x (by simp) with rfl | rfl
      · rw [show getI [(ByteArray.mk #[110]), (ByteArray.mk #[112])] 0 = some (bsl [110]) from rfl, Option.bind_some, cat_b _ _ (by simp; omega)]
        rfl
      · rw [show getI [(ByteArray.mk #[110]), (ByteArray.mk #[112])] 1 = some (bsl [112]) from rfl, Option.bind_some, cat_b _ _ (by simp; omega)]
        rfl
    rw [rangeL, key]
    simp only
    rw [locs_run r (k + 1) (a ++ [letC x]) (fun y hy => hz y (by simp [hy])) (by simp; omega)]
    simp
theorem itoa_ok {n : Int} (h : 0 ≤ n ∧ n ≤ 1000) : strconv_Itoa_s n = some (bsl (Lib.decDigits n.toNat)) := by
  unfold strconv_Itoa_s
  rw [if_pos (by omega), digs19 n.toNat (by omega)]
  rfl
theorem head_ok {f : Func} (h : FunF f) : text_head_s f = some (bsl (headB f)) := by
  have hp := dec_le (v := f.Params.toNat) (by have := h.p; omega)
  have hk := dec_le (v := f.Keep.toNat) (by have := h.k; omega)
  have hl := h.l
  unfold text_head_s
  rw [show (ByteArray.mk #[]) = bsl [] from rfl]
  unfold rng
  rw [if_pos (by omega), locs_run f.Locals 0 [] h.z (by simp; omega), List.nil_append, Option.bind_some]
  simp only [oc, beq_bsl]
  have e1 : ∀ {β : Type} (K : ByteArray → Option β), jp K (fun k_12 => if decide (f.Locals.map letC = []) = true then k_12 (ByteArray.mk #[45]) else k_12 (bsl (f.Locals.map letC))) = K (bsl (kstr f.Locals)) := by
    intro β K
    unfold kstr
    show (if decide (f.Locals.map letC = []) = true then K (ByteArray.mk #[45]) else K (bsl (f.Locals.map letC))) = _
    by_cases e : f.Locals = []
    · rw [e]; rfl
    · rw [if_neg (by simpa using e), if_neg e]
  rw [e1]
  have e2 : ∀ {β : Type} (K : ByteArray → Option β), jp K (fun k_14 => if f.Result = true then k_14 (ByteArray.mk #[49]) else k_14 (ByteArray.mk #[48])) = K (bsl (fstr f.Result)) := by
    intro β K
    unfold fstr
    show (if f.Result = true then K (ByteArray.mk #[49]) else K (ByteArray.mk #[48])) = _
    cases f.Result <;> rfl
  rw [e2]
  have e3 : ∀ {β : Type} (K : ByteArray → Option β), jp K (fun k_16 => if decide (f.Keep ≥ 0) = true then (strconv_Itoa_s f.Keep).bind fun ito_18 => k_16 ito_18 else k_16 (ByteArray.mk #[45])) = K (bsl (pstr f.Keep)) := by
    intro β K
    unfold pstr
    show (if decide (f.Keep ≥ 0) = true then (strconv_Itoa_s f.Keep).bind K else K (ByteArray.mk #[45])) = _
    by_cases e : f.Keep ≥ 0
    · rw [if_pos (by simpa using e), itoa_ok ⟨e, by have := h.k; omega⟩, if_neg (by omega)]; rfl
    · rw [if_neg (by simpa using e), if_pos (by omega)]; rfl
  rw [e3, itoa_ok ⟨h.p.1, by have := h.p; omega⟩, Option.bind_some]
  have b1 : (kstr f.Locals).length ≤ 256 := by unfold kstr; split <;> simp <;> omega
  have b2 : (fstr f.Result).length = 1 := by unfold fstr; split <;> rfl
  have b3 : (pstr f.Keep).length ≤ 20 := by unfold pstr; split <;> first | exact hk | simp
  rw [show (ByteArray.mk #[102, 117, 110, 99, 32]) = bsl (fw ++ [32]) from rfl, show (ByteArray.mk #[32]) = bsl [32] from rfl, show (ByteArray.mk #[10]) = bsl [10] from rfl]
  have bf : (fw ++ [32]).length = 5 := rfl
  rw [cat_b _ _ (by omega), Option.bind_some]
  rw [cat_b _ _ (by simp [fw]; omega), Option.bind_some]
  rw [cat_b _ _ (by simp [fw]; omega), Option.bind_some]
  rw [cat_b _ _ (by simp [fw]; omega), Option.bind_some]
  rw [cat_b _ _ (by simp [fw]; omega), Option.bind_some]
  rw [cat_b _ _ (by simp [fw]; omega), Option.bind_some]
  rw [cat_b _ _ (by simp [fw]; omega), Option.bind_some]
  rw [cat_b _ _ (by simp [fw]; omega), Option.bind_some]
  unfold headB headW
  simp [joinW]
theorem headB_len {f : Func} (h : FunF f) : (headB f).length ≤ 400 := by
  have hp := dec_le (v := f.Params.toNat) (by have := h.p; omega)
  have hk := dec_le (v := f.Keep.toNat) (by have := h.k; omega)
  have hl := h.l
  have b1 : (kstr f.Locals).length ≤ 256 := by unfold kstr; split <;> simp <;> omega
  have b2 : (fstr f.Result).length = 1 := by unfold fstr; split <;> rfl
  have b3 : (pstr f.Keep).length ≤ 20 := by unfold pstr; split <;> first | exact hk | simp
  unfold headB headW
  simp [joinW, fw]
  omega
theorem fold_lines : ∀ (l : List Instr) (a : List UInt8), (∀ x ∈ l, ∃ k v, InsF x k v) → a.length + 29 * l.length ≤ 100000000000 → foldA text_line_s l a = some (a ++ l.flatMap insB)
  | [], a, _, _ => by simp [foldA]
  | x :: r, a, h, hl => by
    simp only [List.length_cons] at hl
    obtain ⟨k, v, hx⟩ := h x (by simp)
    have h1 := insB_len hx
    rw [foldA, line_ok hx a (by omega), Option.bind_some, fold_lines r (a ++ insB x) (fun y hy => h y (by simp [hy])) (by simp; omega)]
    simp
theorem code_len : ∀ (l : List Instr), (∀ x ∈ l, ∃ k v, InsF x k v) → (l.flatMap insB).length ≤ 29 * l.length
  | [], _ => by simp
  | x :: r, h => by
    obtain ⟨k, v, hx⟩ := h x (by simp)
    have h1 := insB_len hx
    have := code_len r (fun y hy => h y (by simp [hy]))
    simp only [List.flatMap_cons, List.length_append, List.length_cons]
    omega
theorem funcB_len {f : Func} (h : FunF f) : (funcB f).length ≤ 1901000 := by
  have h1 := headB_len h
  have h2 := code_len f.Code h.i
  have h3 := h.c
  unfold funcB
  simp only [List.length_append]
  omega
theorem func_ok {f : Func} (h : FunF f) (a : List UInt8) (ha : a.length ≤ 90000000000) : text_func_s f a = some (a ++ funcB f) := by
  have h1 := headB_len h
  have h3 := h.c
  unfold text_func_s
  rw [head_ok h, Option.bind_some]
  have w1 : wr a (bsl (headB f)).data.toList = some (a ++ headB f) := by
    unfold wr
    rw [bsl_data, if_pos (by omega)]
  rw [w1, Option.bind_some, if_pos (by omega), fold_lines f.Code _ h.i (by simp; omega)]
  unfold funcB
  simp
theorem fold_funcs : ∀ (l : List Func) (a : List UInt8), (∀ x ∈ l, FunF x) → a.length + 1901000 * l.length ≤ 90000000000 → foldA text_func_s l a = some (a ++ textB l)
  | [], a, _, _ => by simp [foldA, textB]
  | x :: r, a, h, hl => by
    simp only [List.length_cons] at hl
    have h1 := funcB_len (h x (by simp))
    rw [foldA, func_ok (h x (by simp)) a (by omega), Option.bind_some, fold_funcs r (a ++ funcB x) (fun y hy => h y (by simp [hy])) (by simp; omega)]
    simp [textB]
theorem textB_len : ∀ (l : List Func), (∀ x ∈ l, FunF x) → (textB l).length ≤ 1901000 * l.length
  | [], _ => by simp [textB]
  | x :: r, h => by
    have h1 := funcB_len (h x (by simp))
    have := textB_len r (fun y hy => h y (by simp [hy]))
    simp only [textB, List.flatMap_cons, List.length_append, List.length_cons] at this ⊢
    omega
/-- A program that bytes say. -/
structure ProF (p : Program) : Prop where
  n : 1 ≤ p.Funcs.length ∧ p.Funcs.length ≤ 255
  f : ∀ x ∈ p.Funcs, FunF x
theorem pro_form {p : Program} (h : enc.encP p = true) (hz : ∀ f ∈ p.Funcs, ∀ x ∈ f.Locals, 0 ≤ x) (hu : ∀ f ∈ p.Funcs, ∀ x ∈ f.Code, (Lit.int .u64 x.Imm).wf = true) : ProF p := by
  unfold enc.encP at h
  simp only [Bool.and_eq_true, decide_eq_true_eq, List.all_eq_true] at h
  exact ⟨h.1, fun f hf => fun_form (h.2 f hf) (hz f hf) (hu f hf)⟩
theorem ProF.len {p : Program} (h : ProF p) : (textB p.Funcs).length ≤ 490000000 := by
  have := textB_len p.Funcs h.f
  have := h.n
  omega
/-- What text.Print answers. -/
theorem Print_no {p : Program} (h : enc.encP p = false) : text_Print_s p = some (bsl [], 30) := by
  unfold text_Print_s
  obtain ⟨l, e⟩ := enc.Encode_eq p
  rw [e, Option.bind_some, h]
  rfl
theorem Print_ok {p : Program} (he : enc.encP p = true) (h : ProF p) : text_Print_s p = some (bsl (textB p.Funcs), 0) := by
  unfold text_Print_s
  obtain ⟨l, e⟩ := enc.Encode_eq p
  have hn := h.n
  rw [e, Option.bind_some, he]
  simp only [if_true, bne_self_eq_false, Bool.false_eq_true, if_false]
  rw [if_pos (by omega), fold_funcs p.Funcs [] h.f (by simp; omega)]
  simp [bsl]
end Go.Proofs.YtkfhljombjmdbaaDoor
/- Plain laws of the texts: the document's Text, and how a written program is read again; TextPrints. -/
namespace Go.Proofs.YtkfhljombjmdbaaDoor
open Go Go.Ab Go.RowKit
set_option maxRecDepth 20000
set_option linter.unusedVariables false
set_option linter.unusedSimpArgs false

/-- A loop that puts bytes behind bytes. -/
theorem range_app {α ρ : Type} (g : α → List UInt8) (C B : Nat) {body : Nat → α → ByteArray → Option (Stp ByteArray ρ)} : ∀ (l : List α) (k : Nat) (a : List UInt8),
    (∀ i x a, x ∈ l → a.length ≤ B → body i x (bsl a) = some (.nxt (bsl (a ++ g x)))) → (∀ x ∈ l, (g x).length ≤ C) → a.length + C * l.length ≤ B → rangeL body l k (bsl a) = some (.fin (bsl (a ++ l.flatMap g)))
  | [], k, a, _, _, _ => by simp [rangeL]
  | x :: r, k, a, hb, hg, hl => by
    have e : C * (x :: r).length = C * r.length + C := by simp [Nat.mul_succ]
    rw [e] at hl
    have h1 := hg x (by simp)
    rw [rangeL, hb k x a (by simp) (by omega)]
    simp only
    rw [range_app g C B r (k + 1) (a ++ g x) (fun i y b hy hb' => hb i y b (by simp [hy]) hb') (fun y hy => hg y (by simp [hy])) (by simp; omega)]
    simp
theorem refLine_ok (F : Nat) (hF : 20 ≤ F) {i : Instr} {k v : Nat} (h : InsF i k v) : windlassref04_Line_s F i = some (bsl (joinW (insW i))) := by
  rw [insW_eq h]
  refine Line_eq F hF k _ (nm_at h.hk) v h.hv i ?_ (fun e => ?_) (fun e => ?_)
  · rw [h.hi]; unfold mkI; split <;> rfl
  · rw [h.hi]; unfold mkI; rw [if_pos e]
  · rw [h.hi]; unfold mkI; rw [if_neg e]
theorem Text_ok (F : Nat) (hF : 20 ≤ F) {p : Program} (h : ProF p) : windlassref04_Text_s F p = some (bsl (textB p.Funcs)) := by
  have hn := h.n
  unfold windlassref04_Text_s rng
  rw [if_pos (by omega), show (ByteArray.mk #[]) = bsl [] from rfl]
  rw [range_app funcB 1901000 90000000000 p.Funcs 0 [] (fun i f a hf ha => ?_) (fun f hf => funcB_len (h.f f hf)) (by simp; omega)]
  · simp [oc, textB]
  · have H := h.f f hf
    have h1 := headB_len H
    have h3 := H.c
    rw [Head_eq F hF f (by have := H.p; omega) (by have := H.l; omega) (by have := H.k; omega), Option.bind_some, show (ByteArray.mk #[10]) = bsl [10] from rfl]
    unfold headB at h1
    rw [cat_b _ _ (by simpa using by simp at h1; omega), Option.bind_some, cat_b _ _ (by simp at h1 ⊢; omega), Option.bind_some]
    rw [if_pos (by omega), range_app insB 29 95000000000 f.Code 0 _ (fun j x b hx hb => ?_) (fun x hx => by obtain ⟨k, v, q⟩ := H.i x hx; exact insB_len q) (by simp at h1 ⊢; omega)]
    · simp [oc, funcB, headB]
    · obtain ⟨k, v, q⟩ := H.i x hx
      have h4 := insB_len q
      unfold insB at h4
      rw [refLine_ok F hF q, Option.bind_some, cat_b _ _ (by simp at h4 ⊢; omega), Option.bind_some, cat_b _ _ (by simp at h4 ⊢; omega), Option.bind_some]
      rfl

/-! ### reading again -/
theorem words_join {ws : List (List UInt8)} (h0 : ws ≠ []) (h : ∀ w ∈ ws, (32 : UInt8) ∉ w ∧ w ≠ []) : wordsOf (joinW ws) = ws := by
  unfold wordsOf
  rw [splitL_joinW ws h0 (fun w hw => (h w hw).1), List.filter_eq_self]
  intro w hw
  simpa using (h w hw).2
theorem mem_joinW {c : UInt8} (hc : c ≠ 32) : ∀ (ws : List (List UInt8)), (∀ w ∈ ws, c ∉ w) → c ∉ joinW ws
  | [], _ => by simp [joinW]
  | [w], h => h w (by simp)
  | w :: x :: r, h => by
    show c ∉ w ++ 32 :: joinW (x :: r)
    simp only [List.mem_append, List.mem_cons, not_or]
    exact ⟨h w (by simp), hc, mem_joinW hc (x :: r) (fun y hy => h y (by simp [hy]))⟩
theorem split_lines : ∀ (ls : List (List UInt8)) (rest : List UInt8), (∀ l ∈ ls, (10 : UInt8) ∉ l) → splitL 10 (ls.flatMap (fun l => l ++ [10]) ++ rest) = ls ++ splitL 10 rest
  | [], rest, _ => rfl
  | l :: r, rest, h => by
    have := split_lines r rest (fun x hx => h x (by simp [hx]))
    rw [List.flatMap_cons, show l ++ [10] ++ r.flatMap (fun l => l ++ [10]) ++ rest = l ++ 10 :: (r.flatMap (fun l => l ++ [10]) ++ rest) by simp, splitL_app 10 l (h l (by simp)), this]
    rfl
theorem dec_num (v : Nat) {c : UInt8} (hc : isDig c = false) : c ∉ Lib.decDigits v := by
  intro h
  have := List.all_eq_true.1 (dec_digs v) _ h
  rw [hc] at this; cases this
theorem nm_all : ∀ w ∈ nm, w ≠ [] ∧ (32 : UInt8) ∉ w ∧ (10 : UInt8) ∉ w ∧ w.head? ≠ some 35 ∧ w ≠ fw := by decide
theorem lineP_all (k : Nat) (hk : k < 32) (v : Nat) : ∀ w ∈ lineP k (nm.getD k []) v, (32 : UInt8) ∉ w ∧ w ≠ [] ∧ (10 : UInt8) ∉ w := by
  obtain ⟨a1, a2, a3, _⟩ := nm_all _ (List.mem_of_getElem? (nm_at hk))
  generalize nm.getD k [] = name at a1 a2 a3 ⊢
  unfold lineP
  split
  · intro w hw
    rw [List.mem_singleton.1 hw]
    exact ⟨a2, a1, a3⟩
  · intro w hw
    rcases List.mem_cons.1 hw with rfl | hw
    · exact ⟨a2, a1, a3⟩
    · rw [List.mem_singleton.1 hw]
      exact ⟨dec_free v, dec_len v, dec_num v (by decide)⟩
theorem letC_all (ks : List Int) : ∀ c ∈ ks.map letC, c = 110 ∨ c = 112 := by
  intro c hc
  obtain ⟨k, _, rfl⟩ := List.mem_map.1 hc
  unfold letC
  split
  · exact .inl rfl
  · exact .inr rfl
theorem headW_all (f : Func) : ∀ w ∈ headW f, (32 : UInt8) ∉ w ∧ w ≠ [] ∧ (10 : UInt8) ∉ w := by
  have hd : ∀ v, (32 : UInt8) ∉ Lib.decDigits v ∧ Lib.decDigits v ≠ [] ∧ (10 : UInt8) ∉ Lib.decDigits v := fun v => ⟨dec_free v, dec_len v, dec_num v (by decide)⟩
  intro w hw
  unfold headW at hw
  simp only [List.mem_cons, List.not_mem_nil, or_false] at hw
  rcases hw with rfl | rfl | rfl | rfl | rfl
  · decide
  · exact hd _
  · unfold kstr
    split
    · decide
    · rename_i e
      have := letC_all f.Locals
      refine ⟨fun h => ?_, by simpa using e, fun h => ?_⟩
      · rcases this _ h with h | h <;> exact absurd h (by decide)
      · rcases this _ h with h | h <;> exact absurd h (by decide)
  · unfold fstr; split <;> decide
  · unfold pstr; split
    · decide
    · exact hd _
def linesF (f : Func) : List (List UInt8) := joinW (headW f) :: f.Code.map (fun i => joinW (insW i))
theorem funcB_lines (f : Func) : funcB f = (linesF f).flatMap (fun l => l ++ [10]) := by
  unfold funcB headB linesF
  rw [List.flatMap_cons, List.flatMap_map]
  rfl
theorem textB_lines (xs : List Func) : textB xs = (xs.flatMap linesF).flatMap (fun l => l ++ [10]) := by
  unfold textB
  rw [List.flatMap_assoc]
  congr 1
  funext f
  exact funcB_lines f
theorem linesF_no {f : Func} (h : FunF f) : ∀ l ∈ linesF f, (10 : UInt8) ∉ l := by
  intro l hl
  rcases List.mem_cons.1 hl with rfl | hl
  · exact mem_joinW (by decide) _ (fun w hw => (headW_all f w hw).2.2)
  · obtain ⟨i, hi, rfl⟩ := List.mem_map.1 hl
    obtain ⟨k, v, q⟩ := h.i i hi
    rw [insW_eq q]
    exact mem_joinW (by decide) _ (fun w hw => (lineP_all k q.hk v w hw).2.2)
theorem numM_dec {m v : Nat} (h : v ≤ m) (hm : v < 18446744073709551616) : numM m (Lib.decDigits v) = some v := by
  unfold numM
  rw [(numOf_iff _ v).2 ⟨rfl, hm⟩, Option.bind_some, if_pos h]
theorem funcOf_head {f : Func} (h : FunF f) : funcOf (headW f) = some { f with Code := [] } := by
  have h1 := h.p
  have h2 := h.k
  unfold headW funcOf
  simp only
  rw [numM_dec (by omega) (by omega), Option.bind_some]
  have e2 : kindsOf (kstr f.Locals) = some f.Locals := by
    unfold kstr
    split
    · rename_i e; rw [e]; rfl
    · rename_i e
      have hall := letC_all f.Locals
      unfold kindsOf
      rw [if_neg, if_pos]
      · rw [List.map_map]
        congr 1
        conv => rhs; rw [← List.map_id f.Locals]
        refine List.map_congr_left (fun x hx => ?_)
        rcases h.z x hx with rfl | rfl <;> rfl
      · rw [List.all_eq_true]
        intro c hc
        rcases hall c hc with rfl | rfl <;> rfl
      · intro e3
        have : (45 : UInt8) ∈ f.Locals.map letC := by rw [e3]; simp
        rcases hall _ this with h | h <;> exact absurd h (by decide)
  have e3 : flagOf (fstr f.Result) = some f.Result := by cases f.Result <;> rfl
  have e4 : keepOf (pstr f.Keep) = some f.Keep := by
    unfold pstr keepOf
    split
    · rw [if_pos rfl]; congr 1; omega
    · have hne : Lib.decDigits f.Keep.toNat ≠ [45] := by
        intro e
        have : (45 : UInt8) ∈ Lib.decDigits f.Keep.toNat := by rw [e]; simp
        exact dec_num _ (by decide) this
      rw [if_neg hne, numM_dec (m := 254) (v := f.Keep.toNat) (by omega) (by omega)]
      show some ((f.Keep.toNat : Nat) : Int) = some f.Keep
      congr 1
      omega
  rw [e2, Option.bind_some, e3, Option.bind_some, e4]
  simp only [Option.map_some]
  congr 2
  omega
theorem step_head {f : Func} (h : FunF f) (xs : List Func) : stepW xs (wordsOf (joinW (headW f))) = some (xs ++ [{ f with Code := [] }]) := by
  rw [words_join (by unfold headW; simp) (fun w hw => ⟨(headW_all f w hw).1, (headW_all f w hw).2.1⟩)]
  have hf := funcOf_head h
  unfold headW at hf ⊢
  rw [stepW_cons, if_neg (by decide), if_pos rfl, hf]
  rfl
theorem most_says : ∀ k : Fin 32, widN k.val ≠ 0 → (widN k.val = 8 ∧ mostN k.val = 18446744073709551615) ∨ (widN k.val = 1 ∧ mostN k.val = 255) ∨ (widN k.val = 2 ∧ mostN k.val = 65535) := by decide
theorem instrOf_line {i : Instr} {k v : Nat} (h : InsF i k v) : instrOf (insW i) = some i := by
  obtain ⟨wm, _⟩ := wid_most ⟨k, h.hk⟩
  simp only at wm
  have hix := ixOf_some (nm_at h.hk)
  have hs := h.hs
  have hv := h.hv
  rw [insW_eq h, h.hi]
  generalize nm.getD k [] = name at hix ⊢
  unfold lineP
  by_cases hw : widN k = 0
  · rw [if_pos hw]
    have hv0 : v = 0 := by
      unfold saysN at hs
      rw [if_neg (by omega), if_neg (by omega), if_neg (by omega)] at hs
      simpa using hs
    subst hv0
    have hk0 : k ≠ 0 := by intro e; subst e; exact absurd hw (by decide)
    simp only [instrOf]
    rw [hix, Option.bind_some, if_pos (wm.1 hw)]
    unfold mkI
    rw [if_neg hk0]
    simp
  · rw [if_neg hw]
    simp only [instrOf]
    have hm : mostN k ≠ 0 := fun e => hw (wm.2 e)
    have hle : v ≤ mostN k := by
      unfold saysN at hs
      rcases most_says ⟨k, h.hk⟩ hw with ⟨a, b⟩ | ⟨a, b⟩ | ⟨a, b⟩ <;> simp only at a b <;> rw [b]
      · omega
      · rw [if_neg (by omega), if_pos a] at hs; simpa using hs
      · rw [if_neg (by omega), if_neg (by omega), if_pos a] at hs; simpa using hs
    rw [hix, Option.bind_some, if_neg hm, numM_dec hle hv, Option.map_some]
    unfold mkI
    by_cases hk0 : k = 0
    · subst hk0; rfl
    · rw [if_neg hk0, if_neg hk0]
theorem step_ins {i : Instr} {k v : Nat} (h : InsF i k v) {xs : List Func} (hx : xs ≠ []) : stepW xs (wordsOf (joinW (insW i))) = some (pushI xs i) := by
  have hi := instrOf_line h
  have hall := lineP_all k h.hk v
  obtain ⟨_, _, _, a4, a5⟩ := nm_all _ (List.mem_of_getElem? (nm_at h.hk))
  rw [insW_eq h] at hi ⊢
  rw [words_join (lineP_free k _ (nm_at h.hk) v).1 (fun w hw => ⟨(hall w hw).1, (hall w hw).2.1⟩)]
  obtain ⟨r, hr⟩ : ∃ r, lineP k (nm.getD k []) v = nm.getD k [] :: r := by unfold lineP; split <;> exact ⟨_, rfl⟩
  rw [hr] at hi ⊢
  rw [stepW_cons, if_neg a4, if_neg a5, if_neg hx, hi]
  rfl
theorem pushI_snoc (xs : List Func) (f : Func) (i : Instr) : pushI (xs ++ [f]) i = xs ++ [{ f with Code := f.Code ++ [i] }] := by
  unfold pushI
  simp
theorem run_code : ∀ (l : List Instr) (k : Nat) (xs : List Func) (f : Func) (rest : List (List UInt8)), (∀ x ∈ l, ∃ a b, InsF x a b) →
    runL k (xs ++ [f]) (l.map (fun i => joinW (insW i)) ++ rest) = runL (k + l.length) (xs ++ [{ f with Code := f.Code ++ l }]) rest
  | [], k, xs, f, rest, _ => by simp
  | x :: r, k, xs, f, rest, h => by
    obtain ⟨a, b, hx⟩ := h x (by simp)
    rw [List.map_cons, List.cons_append, runL, step_ins hx (by simp)]
    simp only
    rw [pushI_snoc, run_code r (k + 1) xs _ rest (fun y hy => h y (by simp [hy]))]
    simp only [List.length_cons, List.append_assoc, List.singleton_append]
    rw [show k + 1 + r.length = k + (r.length + 1) by omega]
theorem run_func {f : Func} (h : FunF f) (k : Nat) (xs : List Func) (rest : List (List UInt8)) : runL k xs (linesF f ++ rest) = runL (k + (linesF f).length) (xs ++ [f]) rest := by
  unfold linesF
  rw [List.cons_append, runL, step_head h]
  simp only
  rw [run_code f.Code (k + 1) xs _ rest h.i]
  simp only [List.nil_append, List.length_cons, List.length_map]
  rw [show k + 1 + f.Code.length = k + (f.Code.length + 1) by omega]
theorem run_funcs : ∀ (fs : List Func) (k : Nat) (xs : List Func) (rest : List (List UInt8)), (∀ x ∈ fs, FunF x) → runL k xs (fs.flatMap linesF ++ rest) = runL (k + (fs.flatMap linesF).length) (xs ++ fs) rest
  | [], k, xs, rest, _ => by simp
  | f :: r, k, xs, rest, h => by
    rw [List.flatMap_cons, List.append_assoc, run_func (h f (by simp)), run_funcs r _ _ rest (fun y hy => h y (by simp [hy]))]
    simp only [List.length_append, List.append_assoc, List.singleton_append]
    rw [show k + (linesF f).length + (r.flatMap linesF).length = k + ((linesF f).length + (r.flatMap linesF).length) by omega]
theorem read_text {fs : List Func} (h : ∀ x ∈ fs, FunF x) : readT (textB fs) = .inr fs := by
  unfold readT
  rw [textB_lines, show (fs.flatMap linesF).flatMap (fun l => l ++ [10]) = (fs.flatMap linesF).flatMap (fun l => l ++ [10]) ++ [] by simp,
    split_lines _ _ (fun l hl => by obtain ⟨f, hf, hl⟩ := List.mem_flatMap.1 hl; exact linesF_no (h f hf) l hl), run_funcs fs 0 [] _ h]
  rfl
theorem CopyT_eq (p : Program) (hl : p.Funcs.length ≤ 1048576) (hs : ∀ f ∈ p.Funcs, f.Locals.length ≤ 1048576 ∧ f.Code.length ≤ 1048576) : windlassref03_Copy_s p = some p := by
  unfold windlassref03_Copy_s
  have L := rng_inv (σ := List Func) (ρ := Option Program) (xs := p.Funcs) (s0 := []) (fun _ => true) none (fun i s => s = p.Funcs.take i)
    (body := fun (i_2 : Nat) (f_3 : Func) (s_1 : (List Func)) => (((appL 1 ([] : List Int) f_3.Locals).bind fun l_5 => ((appL 24 ([] : List Instr) f_3.Code).bind fun l_6 => ((appL 72 s_1 [(Func.mk f_3.Params l_5 f_3.Result f_3.Keep l_6)]).bind fun l_7 => (some (.nxt l_7))))) : Option (Stp (List Func) (Option Program)))) (by omega) rfl (fun i x s hx e => by
      subst e
      have hlt := (List.getElem?_eq_some_iff.1 hx).1
      have hb := hs x (List.mem_of_getElem? hx)
      rw [if_pos rfl, appL_of (by simp; omega)]
      simp only [Option.bind_some]
      rw [appL_of (by simp; omega)]
      simp only [Option.bind_some]
      rw [appL_of (by simp; omega)]
      refine ⟨_, rfl, ?_⟩
      rw [List.take_succ_eq_append_getElem hlt]
      rw [List.getElem?_eq_getElem hlt] at hx
      cases hx
      rfl)
  simp only [List.all_eq_true, implies_true, if_true] at L
  obtain ⟨s, e1, e2⟩ := L
  rw [e1, e2]
  simp [oc]
theorem u8_nn {k : Int} (h : (Lit.int .u8 k).wf = true) : 0 ≤ k ∧ k ≤ 255 := by
  have h1 : IntKind.u8.min ≤ k ∧ k ≤ IntKind.u8.max := by simpa [Lit.wf] using h
  have e1 : IntKind.u8.min = 0 := rfl
  have e2 : IntKind.u8.max = 255 := rfl
  omega
/-- What the arguments' reading gives. -/
theorem ok_pro {p : Program} (hp : Program.Ok 1048576 p) : p.Funcs.length ≤ 1048576 ∧ (∀ f ∈ p.Funcs, f.Locals.length ≤ 1048576 ∧ f.Code.length ≤ 1048576) ∧ (∀ f ∈ p.Funcs, ∀ x ∈ f.Locals, 0 ≤ x) ∧ (∀ f ∈ p.Funcs, ∀ x ∈ f.Code, (Lit.int .u64 x.Imm).wf = true) :=
  ⟨hp.1, fun f hf => ⟨(hp.2 f hf).2.1.1, (hp.2 f hf).2.2.2.2.1⟩, fun f hf x hx => (u8_nn ((hp.2 f hf).2.1.2 x hx)).1, fun f hf x hx => ((hp.2 f hf).2.2.2.2.2 x hx).2.2⟩
theorem short_pro {p : Program} (hp : Program.Ok 1048576 p) : Short p.Funcs := by
  obtain ⟨h1, h2, _⟩ := ok_pro hp
  exact ⟨by omega, fun f hf => by have := h2 f hf; omega⟩
theorem Parse_text {fs : List Func} (h : ∀ x ∈ fs, FunF x) (hl : (textB fs).length ≤ 1048576000) : text_Parse_s (bsl (textB fs)) = some (Program.mk fs, 0, 0) := by
  rw [text_Parse_eq _ hl, read_text h]
theorem prints_law (p : Program) (hp : Program.Ok 1048576 p) : windlasslaw04_TextPrints_s 4000000000 p = some true := by
  obtain ⟨h1, h2, h3, h4⟩ := ok_pro hp
  have hsh := short_pro hp
  unfold windlasslaw04_TextPrints_s
  rw [first04_eq, Option.bind_some]
  simp only [Bool.not_true, Bool.false_eq_true, if_false]
  rw [CopyT_eq p h1 h2, Option.bind_some]
  obtain ⟨l, hB⟩ := enc.Bytes_ok p h3
  cases he : enc.encP p with
  | false =>
    rw [Print_no he, Option.bind_some, Same_refl hsh, Option.bind_some]
    simp only [Bool.not_true, Bool.false_eq_true, if_false]
    rw [hB, Option.bind_some, he]
    simp only [Bool.not_false, if_true, jp]
    rw [show (ByteArray.mk #[]) = bsl [] from rfl, beq_bsl]
    rfl
  | true =>
    have H := pro_form he h3 h4
    have hlen := H.len
    rw [Print_ok he H, Option.bind_some, Same_refl hsh, Option.bind_some]
    simp only [Bool.not_true, Bool.false_eq_true, if_false]
    rw [hB, Option.bind_some, he]
    simp only [Bool.not_true, Bool.false_eq_true, if_false]
    rw [Parse_text H.f (by omega), Option.bind_some]
    simp only [jp, beq_self_eq_true, if_true]
    rw [Text_ok _ (by decide) H, Option.bind_some, beq_bsl, decide_eq_true rfl]
    simp only [if_true]
    rw [Same_refl hsh, Option.bind_some]
end Go.Proofs.YtkfhljombjmdbaaDoor
/- From the row's list to the settings: the powers of ten, MaxLen, the two errors. -/
namespace Go.Proofs.YtkfhljombjmdbaaDoor
open Go Go.Ab Go.RowKit
set_option maxRecDepth 20000
set_option linter.unusedVariables false
set_option linter.unusedSimpArgs false

theorem pow10_laid : (Rows.laid_internal_strconv_uint64pow10 : DataW Unit) = Lib.tabData .u64 pow10T := by kernel_rfl
theorem glob_pow10 : Tryd.prog.globalNamed "internal/strconv.uint64pow10" = some 0 := by kernel_rfl
theorem glob_range : Tryd.prog.globalNamed "strconv.ErrRange" = some 3 := by kernel_rfl
theorem glob_syntax : Tryd.prog.globalNamed "strconv.ErrSyntax" = some 2 := by kernel_rfl

theorem star248 : "*" ++ "errors.errorString" = "*errors.errorString" := by decide
theorem only248 (u : TypeId) (h : Tryd.prog.typeName? 3 u = some "*errors.errorString") : u = 248 :=
  typeName_ptr_named (nm := "errors.errorString") (by rw [star248]; kernel_rfl) (by kernel_rfl) (by decide) u (by rw [star248]; exact h)

theorem err_at {W : World} {nm : String} {b : Nat} {ti : TypeId} {v : Value} (hg : Tryd.prog.globalNamed nm = some b) (h : W.var? Tryd.prog nm = some #[v]) (hv : v = .nilIface ∨ ∃ te pe, v = .iface te pe) : b < W.heap.size ∧ ∃ cs t fz, W.heap[b]? = some (.cells cs t fz) ∧ someErr cs := by
  have := World.var?_cell hg h 0
  obtain ⟨cs, t, fz, e, q⟩ := tab_cell (b := b) (W := W) (v := v) (by simpa using this)
  exact tab_here e ⟨v, q, hv⟩

theorem tab_of {W : World} (h : laidMet Tryd.prog Rows.traceTextsUptoRow.laid W) (hsh : W.ShapedOpen Tryd.prog) : TabOK W.heap.size W := by
  have h3 := h.tail.tail
  have h5 := h3.tail.tail
  have h6 := h5.tail
  obtain ⟨m, hm⟩ : ∃ m, W.cell? ⟨1, 0, none⟩ = some (.int .i64 m) := Tryd.laysM146.s1_3 W hsh
  obtain ⟨a0, s0, hv0, -, -, -⟩ := laid_sentinel h5 glob_range (by kernel_rfl) Tryd.underlying129 only248 Tryd.underlying248 Tryd.underlying250 rfl rfl Tryd.underlying9 (by kernel_rfl) (by kernel_rfl)
  obtain ⟨a1, s1, hv1, -, -, -⟩ := laid_sentinel h6 glob_syntax (by kernel_rfl) Tryd.underlying129 only248 Tryd.underlying248 Tryd.underlying250 rfl rfl Tryd.underlying9 (by kernel_rfl) (by kernel_rfl)
  have hp : Lib.TabIs Tryd.prog W "internal/strconv.uint64pow10" .u64 pow10T := by
    have h3' : laidMet Tryd.prog (("internal/strconv.uint64pow10", Rows.laid_internal_strconv_uint64pow10) :: _) W := h3
    rw [pow10_laid] at h3'
    exact Lib.tabIs_of_head glob_pow10 (t := 212) (e := 24) (n := 20) (by kernel_rfl) Tryd.underlying212 Tryd.underlying24 (by kernel_rfl) (by kernel_rfl) h3'
  intro b p e
  match b, e with
  | 0, e =>
    cases Option.some.inj e
    obtain ⟨t, fz, q⟩ := tab_is glob_pow10 hp
    exact tab_here q rfl
  | 1, e =>
    cases Option.some.inj e
    obtain ⟨cs, t, fz, q1, q2⟩ := tab_cell hm
    exact tab_here q1 ⟨m, q2⟩
  | 2, e => cases Option.some.inj e; exact err_at (ti := 129) glob_syntax hv1 (Or.inr ⟨_, _, rfl⟩)
  | 3, e => cases Option.some.inj e; exact err_at (ti := 129) glob_range hv0 (Or.inr ⟨_, _, rfl⟩)
  | n + 4, e => cases e
end Go.Proofs.YtkfhljombjmdbaaDoor
