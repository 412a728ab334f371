/- Plain laws of the texts: the document's Text, and how a written program is read again; TextPrints. -/
import Derived.Test.YtkfhljombjmdbaaDoorTw1
import Derived.Test.YtkfhljombjmdbaaDoorGenL
import Derived.Test.YtkfhljombjmdbaaDoorWlI2
import Derived.Lib.LaidTab
import Derived.Stop.LaidErr
import Derived.Deep.DeepHandedRow
namespace Go.Proofs.YtkfhljombjmdbaaDoor
open Go Go.Ab Go.RowKit
set_option maxRecDepth 20000
set_option linter.unusedVariables false
set_option linter.unusedSimpArgs false

/-- A loop that puts bytes behind bytes. -/
theorem range_app {α ρ : Type} (g : α → List UInt8) (C B : Nat) {body : Nat → α → ByteArray → Option (Stp ByteArray ρ)} : ∀ (l : List α) (k : Nat) (a : List UInt8),
    (∀ i x a, x ∈ l → a.length ≤ B → body i x (bsl a) = some (.nxt (bsl (a ++ g x)))) → (∀ x ∈ l, (g x).length ≤ C) → a.length + C * l.length ≤ B → rangeL body l k (bsl a) = some (.fin (bsl (a ++ l.flatMap g)))
  | [], k, a, _, _, _ => by simp [rangeL]
  | x :: r, k, a, hb, hg, hl => by
    have e : C * (x :: r).length = C * r.length + C := by simp [Nat.mul_succ]
    rw [e] at hl
    have h1 := hg x (by simp)
    rw [rangeL, hb k x a (by simp) (by omega)]
    simp only
    rw [range_app g C B r (k + 1) (a ++ g x) (fun i y b hy hb' => hb i y b (by simp [hy]) hb') (fun y hy => hg y (by simp [hy])) (by simp; omega)]
    simp
theorem refLine_ok (F : Nat) (hF : 20 ≤ F) {i : Instr} {k v : Nat} (h : InsF i k v) : windlassref04_Line_s F i = some (bsl (joinW (insW i))) := by
  rw [insW_eq h]
  refine Line_eq F hF k _ (nm_at h.hk) v h.hv i ?_ (fun e => ?_) (fun e => ?_)
  · rw [h.hi]; unfold mkI; split <;> rfl
  · rw [h.hi]; unfold mkI; rw [if_pos e]
  · rw [h.hi]; unfold mkI; rw [if_neg e]
theorem Text_ok (F : Nat) (hF : 20 ≤ F) {p : Program} (h : ProF p) : windlassref04_Text_s F p = some (bsl (textB p.Funcs)) := by
  have hn := h.n
  unfold windlassref04_Text_s rng
  rw [if_pos (by omega), show (ByteArray.mk #[]) = bsl [] from rfl]
  rw [range_app funcB 1901000 90000000000 p.Funcs 0 [] (fun i f a hf ha => ?_) (fun f hf => funcB_len (h.f f hf)) (by simp; omega)]
  · simp [oc, textB]
  · have H := h.f f hf
    have h1 := headB_len H
    have h3 := H.c
    rw [Head_eq F hF f (by have := H.p; omega) (by have := H.l; omega) (by have := H.k; omega), Option.bind_some, show (ByteArray.mk #[10]) = bsl [10] from rfl]
    unfold headB at h1
    rw [cat_b _ _ (by simpa using by simp at h1; omega), Option.bind_some, cat_b _ _ (by simp at h1 ⊢; omega), Option.bind_some]
    rw [if_pos (by omega), range_app insB 29 95000000000 f.Code 0 _ (fun j x b hx hb => ?_) (fun x hx => by obtain ⟨k, v, q⟩ := H.i x hx; exact insB_len q) (by simp at h1 ⊢; omega)]
    · simp [oc, funcB, headB]
    · obtain ⟨k, v, q⟩ := H.i x hx
      have h4 := insB_len q
      unfold insB at h4
      rw [refLine_ok F hF q, Option.bind_some, cat_b _ _ (by simp at h4 ⊢; omega), Option.bind_some, cat_b _ _ (by simp at h4 ⊢; omega), Option.bind_some]
      rfl

/-! ### reading again -/
theorem words_join {ws : List (List UInt8)} (h0 : ws ≠ []) (h : ∀ w ∈ ws, (32 : UInt8) ∉ w ∧ w ≠ []) : wordsOf (joinW ws) = ws := by
  unfold wordsOf
  rw [splitL_joinW ws h0 (fun w hw => (h w hw).1), List.filter_eq_self]
  intro w hw
  simpa using (h w hw).2
theorem mem_joinW {c : UInt8} (hc : c ≠ 32) : ∀ (ws : List (List UInt8)), (∀ w ∈ ws, c ∉ w) → c ∉ joinW ws
  | [], _ => by simp [joinW]
  | [w], h => h w (by simp)
  | w :: x :: r, h => by
    show c ∉ w ++ 32 :: joinW (x :: r)
    simp only [List.mem_append, List.mem_cons, not_or]
    exact ⟨h w (by simp), hc, mem_joinW hc (x :: r) (fun y hy => h y (by simp [hy]))⟩
theorem split_lines : ∀ (ls : List (List UInt8)) (rest : List UInt8), (∀ l ∈ ls, (10 : UInt8) ∉ l) → splitL 10 (ls.flatMap (fun l => l ++ [10]) ++ rest) = ls ++ splitL 10 rest
  | [], rest, _ => rfl
  | l :: r, rest, h => by
    have := split_lines r rest (fun x hx => h x (by simp [hx]))
    rw [List.flatMap_cons, show l ++ [10] ++ r.flatMap (fun l => l ++ [10]) ++ rest = l ++ 10 :: (r.flatMap (fun l => l ++ [10]) ++ rest) by simp, splitL_app 10 l (h l (by simp)), this]
    rfl
theorem dec_num (v : Nat) {c : UInt8} (hc : isDig c = false) : c ∉ Lib.decDigits v := by
  intro h
  have := List.all_eq_true.1 (dec_digs v) _ h
  rw [hc] at this; cases this
theorem nm_all : ∀ w ∈ nm, w ≠ [] ∧ (32 : UInt8) ∉ w ∧ (10 : UInt8) ∉ w ∧ w.head? ≠ some 35 ∧ w ≠ fw := by decide
theorem lineP_all (k : Nat) (hk : k < 32) (v : Nat) : ∀ w ∈ lineP k (nm.getD k []) v, (32 : UInt8) ∉ w ∧ w ≠ [] ∧ (10 : UInt8) ∉ w := by
  obtain ⟨a1, a2, a3, _⟩ := nm_all _ (List.mem_of_getElem? (nm_at hk))
  generalize nm.getD k [] = name at a1 a2 a3 ⊢
  unfold lineP
  split
  · intro w hw
    rw [List.mem_singleton.1 hw]
    exact ⟨a2, a1, a3⟩
  · intro w hw
    rcases List.mem_cons.1 hw with rfl | hw
    · exact ⟨a2, a1, a3⟩
    · rw [List.mem_singleton.1 hw]
      exact ⟨dec_free v, dec_len v, dec_num v (by decide)⟩
theorem letC_all (ks : List Int) : ∀ c ∈ ks.map letC, c = 110 ∨ c = 112 := by
  intro c hc
  obtain ⟨k, _, rfl⟩ := List.mem_map.1 hc
  unfold letC
  split
  · exact .inl rfl
  · exact .inr rfl
theorem headW_all (f : Func) : ∀ w ∈ headW f, (32 : UInt8) ∉ w ∧ w ≠ [] ∧ (10 : UInt8) ∉ w := by
  have hd : ∀ v, (32 : UInt8) ∉ Lib.decDigits v ∧ Lib.decDigits v ≠ [] ∧ (10 : UInt8) ∉ Lib.decDigits v := fun v => ⟨dec_free v, dec_len v, dec_num v (by decide)⟩
  intro w hw
  unfold headW at hw
  simp only [List.mem_cons, List.not_mem_nil, or_false] at hw
  rcases hw with rfl | rfl | rfl | rfl | rfl
  · decide
  · exact hd _
  · unfold kstr
    split
    · decide
    · rename_i e
      have := letC_all f.Locals
      refine ⟨fun h => ?_, by simpa using e, fun h => ?_⟩
      · rcases this _ h with h | h <;> exact absurd h (by decide)
      · rcases this _ h with h | h <;> exact absurd h (by decide)
  · unfold fstr; split <;> decide
  · unfold pstr; split
    · decide
    · exact hd _
def linesF (f : Func) : List (List UInt8) := joinW (headW f) :: f.Code.map (fun i => joinW (insW i))
theorem funcB_lines (f : Func) : funcB f = (linesF f).flatMap (fun l => l ++ [10]) := by
  unfold funcB headB linesF
  rw [List.flatMap_cons, List.flatMap_map]
  rfl
theorem textB_lines (xs : List Func) : textB xs = (xs.flatMap linesF).flatMap (fun l => l ++ [10]) := by
  unfold textB
  rw [List.flatMap_assoc]
  congr 1
  funext f
  exact funcB_lines f
theorem linesF_no {f : Func} (h : FunF f) : ∀ l ∈ linesF f, (10 : UInt8) ∉ l := by
  intro l hl
  rcases List.mem_cons.1 hl with rfl | hl
  · exact mem_joinW (by decide) _ (fun w hw => (headW_all f w hw).2.2)
  · obtain ⟨i, hi, rfl⟩ := List.mem_map.1 hl
    obtain ⟨k, v, q⟩ := h.i i hi
    rw [insW_eq q]
    exact mem_joinW (by decide) _ (fun w hw => (lineP_all k q.hk v w hw).2.2)
theorem numM_dec {m v : Nat} (h : v ≤ m) (hm : v < 18446744073709551616) : numM m (Lib.decDigits v) = some v := by
  unfold numM
  rw [(numOf_iff _ v).2 ⟨rfl, hm⟩, Option.bind_some, if_pos h]
theorem funcOf_head {f : Func} (h : FunF f) : funcOf (headW f) = some { f with Code := [] } := by
  have h1 := h.p
  have h2 := h.k
  unfold headW funcOf
  simp only
  rw [numM_dec (by omega) (by omega), Option.bind_some]
  have e2 : kindsOf (kstr f.Locals) = some f.Locals := by
    unfold kstr
    split
    · rename_i e; rw [e]; rfl
    · rename_i e
      have hall := letC_all f.Locals
      unfold kindsOf
      rw [if_neg, if_pos]
      · rw [List.map_map]
        congr 1
        conv => rhs; rw [← List.map_id f.Locals]
        refine List.map_congr_left (fun x hx => ?_)
        rcases h.z x hx with rfl | rfl <;> rfl
      · rw [List.all_eq_true]
        intro c hc
        rcases hall c hc with rfl | rfl <;> rfl
      · intro e3
        have : (45 : UInt8) ∈ f.Locals.map letC := by rw [e3]; simp
        rcases hall _ this with h | h <;> exact absurd h (by decide)
  have e3 : flagOf (fstr f.Result) = some f.Result := by cases f.Result <;> rfl
  have e4 : keepOf (pstr f.Keep) = some f.Keep := by
    unfold pstr keepOf
    split
    · rw [if_pos rfl]; congr 1; omega
    · have hne : Lib.decDigits f.Keep.toNat ≠ [45] := by
        intro e
        have : (45 : UInt8) ∈ Lib.decDigits f.Keep.toNat := by rw [e]; simp
        exact dec_num _ (by decide) this
      rw [if_neg hne, numM_dec (m := 254) (v := f.Keep.toNat) (by omega) (by omega)]
      show some ((f.Keep.toNat : Nat) : Int) = some f.Keep
      congr 1
      omega
  rw [e2, Option.bind_some, e3, Option.bind_some, e4]
  simp only [Option.map_some]
  congr 2
  omega
theorem step_head {f : Func} (h : FunF f) (xs : List Func) : stepW xs (wordsOf (joinW (headW f))) = some (xs ++ [{ f with Code := [] }]) := by
  rw [words_join (by unfold headW; simp) (fun w hw => ⟨(headW_all f w hw).1, (headW_all f w hw).2.1⟩)]
  have hf := funcOf_head h
  unfold headW at hf ⊢
  rw [stepW_cons, if_neg (by decide), if_pos rfl, hf]
  rfl
theorem most_says : ∀ k : Fin 32, widN k.val ≠ 0 → (widN k.val = 8 ∧ mostN k.val = 18446744073709551615) ∨ (widN k.val = 1 ∧ mostN k.val = 255) ∨ (widN k.val = 2 ∧ mostN k.val = 65535) := by decide
theorem instrOf_line {i : Instr} {k v : Nat} (h : InsF i k v) : instrOf (insW i) = some i := by
  obtain ⟨wm, _⟩ := wid_most ⟨k, h.hk⟩
  simp only at wm
  have hix := ixOf_some (nm_at h.hk)
  have hs := h.hs
  have hv := h.hv
  rw [insW_eq h, h.hi]
  generalize nm.getD k [] = name at hix ⊢
  unfold lineP
  by_cases hw : widN k = 0
  · rw [if_pos hw]
    have hv0 : v = 0 := by
      unfold saysN at hs
      rw [if_neg (by omega), if_neg (by omega), if_neg (by omega)] at hs
      simpa using hs
    subst hv0
    have hk0 : k ≠ 0 := by intro e; subst e; exact absurd hw (by decide)
    simp only [instrOf]
    rw [hix, Option.bind_some, if_pos (wm.1 hw)]
    unfold mkI
    rw [if_neg hk0]
    simp
  · rw [if_neg hw]
    simp only [instrOf]
    have hm : mostN k ≠ 0 := fun e => hw (wm.2 e)
    have hle : v ≤ mostN k := by
      unfold saysN at hs
      rcases most_says ⟨k, h.hk⟩ hw with ⟨a, b⟩ | ⟨a, b⟩ | ⟨a, b⟩ <;> simp only at a b <;> rw [b]
      · omega
      · rw [if_neg (by omega), if_pos a] at hs; simpa using hs
      · rw [if_neg (by omega), if_neg (by omega), if_pos a] at hs; simpa using hs
    rw [hix, Option.bind_some, if_neg hm, numM_dec hle hv, Option.map_some]
    unfold mkI
    by_cases hk0 : k = 0
    · subst hk0; rfl
    · rw [if_neg hk0, if_neg hk0]
theorem step_ins {i : Instr} {k v : Nat} (h : InsF i k v) {xs : List Func} (hx : xs ≠ []) : stepW xs (wordsOf (joinW (insW i))) = some (pushI xs i) := by
  have hi := instrOf_line h
  have hall := lineP_all k h.hk v
  obtain ⟨_, _, _, a4, a5⟩ := nm_all _ (List.mem_of_getElem? (nm_at h.hk))
  rw [insW_eq h] at hi ⊢
  rw [words_join (lineP_free k _ (nm_at h.hk) v).1 (fun w hw => ⟨(hall w hw).1, (hall w hw).2.1⟩)]
  obtain ⟨r, hr⟩ : ∃ r, lineP k (nm.getD k []) v = nm.getD k [] :: r := by unfold lineP; split <;> exact ⟨_, rfl⟩
  rw [hr] at hi ⊢
  rw [stepW_cons, if_neg a4, if_neg a5, if_neg hx, hi]
  rfl
theorem pushI_snoc (xs : List Func) (f : Func) (i : Instr) : pushI (xs ++ [f]) i = xs ++ [{ f with Code := f.Code ++ [i] }] := by
  unfold pushI
  simp
theorem run_code : ∀ (l : List Instr) (k : Nat) (xs : List Func) (f : Func) (rest : List (List UInt8)), (∀ x ∈ l, ∃ a b, InsF x a b) →
    runL k (xs ++ [f]) (l.map (fun i => joinW (insW i)) ++ rest) = runL (k + l.length) (xs ++ [{ f with Code := f.Code ++ l }]) rest
  | [], k, xs, f, rest, _ => by simp
  | x :: r, k, xs, f, rest, h => by
    obtain ⟨a, b, hx⟩ := h x (by simp)
    rw [List.map_cons, List.cons_append, runL, step_ins hx (by simp)]
    simp only
    rw [pushI_snoc, run_code r (k + 1) xs _ rest (fun y hy => h y (by simp [hy]))]
    simp only [List.length_cons, List.append_assoc, List.singleton_append]
    rw [show k + 1 + r.length = k + (r.length + 1) by omega]
theorem run_func {f : Func} (h : FunF f) (k : Nat) (xs : List Func) (rest : List (List UInt8)) : runL k xs (linesF f ++ rest) = runL (k + (linesF f).length) (xs ++ [f]) rest := by
  unfold linesF
  rw [List.cons_append, runL, step_head h]
  simp only
  rw [run_code f.Code (k + 1) xs _ rest h.i]
  simp only [List.nil_append, List.length_cons, List.length_map]
  rw [show k + 1 + f.Code.length = k + (f.Code.length + 1) by omega]
theorem run_funcs : ∀ (fs : List Func) (k : Nat) (xs : List Func) (rest : List (List UInt8)), (∀ x ∈ fs, FunF x) → runL k xs (fs.flatMap linesF ++ rest) = runL (k + (fs.flatMap linesF).length) (xs ++ fs) rest
  | [], k, xs, rest, _ => by simp
  | f :: r, k, xs, rest, h => by
    rw [List.flatMap_cons, List.append_assoc, run_func (h f (by simp)), run_funcs r _ _ rest (fun y hy => h y (by simp [hy]))]
    simp only [List.length_append, List.append_assoc, List.singleton_append]
    rw [show k + (linesF f).length + (r.flatMap linesF).length = k + ((linesF f).length + (r.flatMap linesF).length) by omega]
theorem read_text {fs : List Func} (h : ∀ x ∈ fs, FunF x) : readT (textB fs) = .inr fs := by
  unfold readT
  rw [textB_lines, show (fs.flatMap linesF).flatMap (fun l => l ++ [10]) = (fs.flatMap linesF).flatMap (fun l => l ++ [10]) ++ [] by simp,
    split_lines _ _ (fun l hl => by obtain ⟨f, hf, hl⟩ := List.mem_flatMap.1 hl; exact linesF_no (h f hf) l hl), run_funcs fs 0 [] _ h]
  rfl
theorem CopyT_eq (p : Program) (hl : p.Funcs.length ≤ 1048576) (hs : ∀ f ∈ p.Funcs, f.Locals.length ≤ 1048576 ∧ f.Code.length ≤ 1048576) : windlassref03_Copy_s p = some p := by
  unfold windlassref03_Copy_s
  have L := rng_inv (σ := List Func) (ρ := Option Program) (xs := p.Funcs) (s0 := []) (fun _ => true) none (fun i s => s = p.Funcs.take i)
    (body := fun (i_2 : Nat) (f_3 : Func) (s_1 : (List Func)) => (((appL 1 ([] : List Int) f_3.Locals).bind fun l_5 => ((appL 24 ([] : List Instr) f_3.Code).bind fun l_6 => ((appL 72 s_1 [(Func.mk f_3.Params l_5 f_3.Result f_3.Keep l_6)]).bind fun l_7 => (some (.nxt l_7))))) : Option (Stp (List Func) (Option Program)))) (by omega) rfl (fun i x s hx e => by
      subst e
      have hlt := (List.getElem?_eq_some_iff.1 hx).1
      have hb := hs x (List.mem_of_getElem? hx)
      rw [if_pos rfl, appL_of (by simp; omega)]
      simp only [Option.bind_some]
      rw [appL_of (by simp; omega)]
      simp only [Option.bind_some]
      rw [appL_of (by simp; omega)]
      refine ⟨_, rfl, ?_⟩
      rw [List.take_succ_eq_append_getElem hlt]
      rw [List.getElem?_eq_getElem hlt] at hx
      cases hx
      rfl)
  simp only [List.all_eq_true, implies_true, if_true] at L
  obtain ⟨s, e1, e2⟩ := L
  rw [e1, e2]
  simp [oc]
theorem u8_nn {k : Int} (h : (Lit.int .u8 k).wf = true) : 0 ≤ k ∧ k ≤ 255 := by
  have h1 : IntKind.u8.min ≤ k ∧ k ≤ IntKind.u8.max := by simpa [Lit.wf] using h
  have e1 : IntKind.u8.min = 0 := rfl
  have e2 : IntKind.u8.max = 255 := rfl
  omega
/-- What the arguments' reading gives. -/
theorem ok_pro {p : Program} (hp : Program.Ok 1048576 p) : p.Funcs.length ≤ 1048576 ∧ (∀ f ∈ p.Funcs, f.Locals.length ≤ 1048576 ∧ f.Code.length ≤ 1048576) ∧ (∀ f ∈ p.Funcs, ∀ x ∈ f.Locals, 0 ≤ x) ∧ (∀ f ∈ p.Funcs, ∀ x ∈ f.Code, (Lit.int .u64 x.Imm).wf = true) :=
  ⟨hp.1, fun f hf => ⟨(hp.2 f hf).2.1.1, (hp.2 f hf).2.2.2.2.1⟩, fun f hf x hx => (u8_nn ((hp.2 f hf).2.1.2 x hx)).1, fun f hf x hx => ((hp.2 f hf).2.2.2.2.2 x hx).2.2⟩
theorem short_pro {p : Program} (hp : Program.Ok 1048576 p) : Short p.Funcs := by
  obtain ⟨h1, h2, _⟩ := ok_pro hp
  exact ⟨by omega, fun f hf => by have := h2 f hf; omega⟩
theorem Parse_text {fs : List Func} (h : ∀ x ∈ fs, FunF x) (hl : (textB fs).length ≤ 1048576000) : text_Parse_s (bsl (textB fs)) = some (Program.mk fs, 0, 0) := by
  rw [text_Parse_eq _ hl, read_text h]
end Go.Proofs.YtkfhljombjmdbaaDoor
/- Plain law: TextNames. -/
namespace Go.Proofs.YtkfhljombjmdbaaDoor
open Go Go.Ab Go.RowKit
set_option maxRecDepth 20000
set_option linter.unusedVariables false
set_option linter.unusedSimpArgs false
theorem firstN : windlasslaw04_first_s = some true := by kernel_rfl
def oneP (op x y : Int) : Program := Program.mk [Func.mk 0 [] false (-1) [Instr.mk op x y]]
theorem enc_one (op x y : Int) : enc.encP (oneP op x y) = enc.instrP ⟨op, x, y⟩ := by simp [enc.encP, enc.funcP, oneP]
theorem pro_one {op x y : Int} (h : enc.instrP ⟨op, x, y⟩ = true) (hu : (Lit.int .u64 y).wf = true) : ProF (oneP op x y) := by
  refine pro_form (by rw [enc_one, h]) (fun f hf z hz => ?_) (fun f hf z hz => ?_)
  · simp only [oneP, List.mem_singleton] at hf
    subst hf
    simp at hz
  · simp only [oneP, List.mem_singleton] at hf
    subst hf
    simp only [List.mem_singleton] at hz
    subst hz
    exact hu
theorem print_one {op x y : Int} (h : enc.instrP ⟨op, x, y⟩ = true) (hu : (Lit.int .u64 y).wf = true) : text_Print_s (oneP op x y) = some (bsl (textB (oneP op x y).Funcs), 0) :=
  Print_ok (by rw [enc_one, h]) (pro_one h hu)
def fitB (op v : Int) : Bool :=
  if (v == 0) = true then true else if (op == 1) = true then true else if (op == 21) = true then true else if (op == 22) = true then true else
    if decide (v < 256) = true then (if (op == 2) = true then true else if (op == 3) = true then true else if (op == 4) = true then true else if (op == 23) = true then true else (op == 25)) else false
theorem op_cases : ∀ k : Fin 32, (((k.val + 1 : Nat) : Int) = 1 ∧ enc.widthI ((k.val + 1 : Nat) : Int) = 8) ∨ ((((k.val + 1 : Nat) : Int) = 21 ∨ ((k.val + 1 : Nat) : Int) = 22) ∧ enc.widthI ((k.val + 1 : Nat) : Int) = 2) ∨
    ((((k.val + 1 : Nat) : Int) = 2 ∨ ((k.val + 1 : Nat) : Int) = 3 ∨ ((k.val + 1 : Nat) : Int) = 4 ∨ ((k.val + 1 : Nat) : Int) = 23 ∨ ((k.val + 1 : Nat) : Int) = 25) ∧ enc.widthI ((k.val + 1 : Nat) : Int) = 1) ∨
    (enc.widthI ((k.val + 1 : Nat) : Int) = 0 ∧ ((k.val + 1 : Nat) : Int) ≠ 1 ∧ ((k.val + 1 : Nat) : Int) ≠ 21 ∧ ((k.val + 1 : Nat) : Int) ≠ 22 ∧ ((k.val + 1 : Nat) : Int) ≠ 2 ∧ ((k.val + 1 : Nat) : Int) ≠ 3 ∧ ((k.val + 1 : Nat) : Int) ≠ 4 ∧ ((k.val + 1 : Nat) : Int) ≠ 23 ∧ ((k.val + 1 : Nat) : Int) ≠ 25) := by decide
theorem fit_eq (k : Nat) (hk : k < 32) (v : Int) (hv : 0 ≤ v ∧ v ≤ 65535) : enc.instrP ⟨((k + 1 : Nat) : Int), (if ((k + 1 : Nat) : Int) = 1 then 0 else v), (if ((k + 1 : Nat) : Int) = 1 then v else 0)⟩ = fitB ((k + 1 : Nat) : Int) v := by
  have h := op_cases ⟨k, hk⟩
  simp only at h
  generalize ((k + 1 : Nat) : Int) = op at h ⊢
  unfold enc.instrP fitB
  simp only
  rcases h with ⟨h1, hw⟩ | ⟨h1, hw⟩ | ⟨h1, hw⟩ | ⟨hw, n1, n21, n22, n2, n3, n4, n23, n25⟩
  · rw [hw, h1]
    simp
  · rw [hw]
    have n1 : op ≠ 1 := by omega
    have hp : (256 : Int) ^ (2 : Int).toNat = 65536 := by decide
    rw [if_neg n1, if_neg n1, if_neg (by decide), hp]
    have e1 : decide ((0 : Int) = 0 ∧ 0 ≤ v ∧ v < 65536) = true := decide_eq_true ⟨rfl, by omega, by omega⟩
    rw [e1]
    rcases h1 with rfl | rfl <;> simp
  · rw [hw]
    have n1 : op ≠ 1 := by omega
    have n21 : op ≠ 21 := by omega
    have n22 : op ≠ 22 := by omega
    have hp : (256 : Int) ^ (1 : Int).toNat = 256 := by decide
    rw [if_neg n1, if_neg n1, if_neg (by decide), hp]
    by_cases hv0 : v < 256
    · have e1 : decide ((0 : Int) = 0 ∧ 0 ≤ v ∧ v < 256) = true := decide_eq_true ⟨rfl, by omega, hv0⟩
      rw [e1]
      rcases h1 with rfl | rfl | rfl | rfl | rfl <;> simp [hv0]
    · have e1 : decide ((0 : Int) = 0 ∧ 0 ≤ v ∧ v < 256) = false := decide_eq_false (fun h => hv0 h.2.2)
      have hne : (v == 0) = false := by rw [beq_eq_false_iff_ne]; omega
      rw [e1, hne]
      simp [n1, n21, n22, hv0]
  · rw [hw]
    have hp : (256 : Int) ^ (0 : Int).toNat = 1 := by decide
    rw [if_neg n1, if_neg n1, if_neg (by decide), hp]
    by_cases hv0 : v = 0
    · subst hv0
      simp
    · have e1 : decide ((0 : Int) = 0 ∧ 0 ≤ v ∧ v < 1) = false := decide_eq_false (fun h => hv0 (by omega))
      rw [e1]
      simp [hv0, n1, n21, n22, n2, n3, n4, n23, n25]
theorem instr0 : ∀ k : Fin 32, enc.instrP ⟨((k.val + 1 : Nat) : Int), 0, 0⟩ = true := by decide
theorem text_inj {p q : Program} (hp : ProF p) (hq : ProF q) (h : textB p.Funcs = textB q.Funcs) : p.Funcs = q.Funcs := by
  have e1 := read_text hp.f
  have e2 := read_text hq.f
  rw [h, e2] at e1
  exact (Sum.inr.inj e1).symm
theorem opK {x : Int} (h : 0 ≤ x ∧ x ≤ 255) : ∃ k : Nat, k < 32 ∧ Int.tmod x 32 = (k : Int) ∧ U8 (1 + Int.tmod x 32) = ((k + 1 : Nat) : Int) := by
  have h1 : Int.tmod x 32 = x % 32 := Int.tmod_eq_emod_of_nonneg h.1
  have h2 : 0 ≤ x % 32 ∧ x % 32 < 32 := ⟨Int.emod_nonneg _ (by decide), Int.emod_lt_of_pos _ (by decide)⟩
  refine ⟨(x % 32).toNat, by omega, by rw [h1]; omega, ?_⟩
  rw [h1, U8_of (by omega)]
  omega
theorem names_law (a b v : Int) (ha : (Lit.int .u8 a).wf = true) (hb : (Lit.int .u8 b).wf = true) (hv : (Lit.int .u16 v).wf = true) : windlasslaw04_TextNames_s a b v = some true := by
  obtain ⟨k, hk, ek, ok⟩ := opK (u8_nn ha)
  obtain ⟨j, hj, ej, oj⟩ := opK (u8_nn hb)
  have hv' : 0 ≤ v ∧ v ≤ 65535 := by
    have h1 : IntKind.u16.min ≤ v ∧ v ≤ IntKind.u16.max := by simpa [Lit.wf] using hv
    have e1 : IntKind.u16.min = 0 := rfl
    have e2 : IntKind.u16.max = 65535 := rfl
    omega
  unfold windlasslaw04_TextNames_s
  rw [firstN, Option.bind_some]
  simp only [Bool.not_true, Bool.false_eq_true, if_false]
  rw [ok, oj, ek, ej]
  have z64 : (Lit.int .u64 (0 : Int)).wf = true := rfl
  have ik := instr0 ⟨k, hk⟩
  have ij := instr0 ⟨j, hj⟩
  simp only at ik ij
  have P1 := print_one ik z64
  have P2 := print_one ij z64
  have H1 := pro_one ik z64
  have H2 := pro_one ij z64
  show (text_Print_s (oneP ((k + 1 : Nat) : Int) 0 0)).bind _ = _
  rw [P1, Option.bind_some]
  show (text_Print_s (oneP ((j + 1 : Nat) : Int) 0 0)).bind _ = _
  rw [P2, Option.bind_some, Parse_text H1.f (by have := H1.len; omega), Option.bind_some]
  have hx : ∀ {β : Type} (K : Int × Int → Option β), jp K (fun k_5 => if (((k + 1 : Nat) : Int) != 1) = true then k_5 (I64 v, 0) else k_5 (0, U64 v)) = K ((if ((k + 1 : Nat) : Int) = 1 then 0 else v), (if ((k + 1 : Nat) : Int) = 1 then v else 0)) := by
    intro β K
    show (if (((k + 1 : Nat) : Int) != 1) = true then K (I64 v, 0) else K (0, U64 v)) = _
    by_cases e : ((k + 1 : Nat) : Int) = 1
    · rw [if_neg (by simpa using e), if_pos e, if_pos e, U64_of (by omega)]
    · rw [if_pos (by simpa using e), if_neg e, if_neg e, I64_of (by omega)]
  rw [hx]
  have hfit : ∀ {β : Type} (K : Bool → Option β), jp K (fun k_8 => (if (v == 0) = true then (k_8 true) else (if (((k + 1 : Nat) : Int) == 1) = true then (k_8 true) else (if (((k + 1 : Nat) : Int) == 21) = true then (k_8 true) else (if (((k + 1 : Nat) : Int) == 22) = true then (k_8 true) else (if (decide (v < 256)) = true then (if (((k + 1 : Nat) : Int) == 2) = true then (k_8 true) else (if (((k + 1 : Nat) : Int) == 3) = true then (k_8 true) else (if (((k + 1 : Nat) : Int) == 4) = true then (k_8 true) else (if (((k + 1 : Nat) : Int) == 23) = true then (k_8 true) else (k_8 (((k + 1 : Nat) : Int) == 25)))))) else (k_8 false))))))) = K (fitB ((k + 1 : Nat) : Int) v) := by
    intro β K
    unfold fitB
    simp only [apply_ite K]
    rfl
  have heq : (ByteArray.toList (bsl (textB (oneP ((k + 1 : Nat) : Int) 0 0).Funcs)) == ByteArray.toList (bsl (textB (oneP ((j + 1 : Nat) : Int) 0 0).Funcs))) = ((k : Int) == (j : Int)) := by
    rw [beq_bsl]
    by_cases e : k = j
    · subst e; simp
    · rw [decide_eq_false]
      · symm; rw [beq_eq_false_iff_ne]; omega
      · intro h
        have := text_inj H1 H2 h
        simp [oneP] at this
        omega
  have hfe := fit_eq k hk v hv'
  have hu3 : (Lit.int .u64 (if ((k + 1 : Nat) : Int) = 1 then v else 0)).wf = true := by
    have e1 : IntKind.u64.min = 0 := rfl
    have e2 : IntKind.u64.max = 18446744073709551615 := rfl
    have : IntKind.u64.min ≤ (if ((k + 1 : Nat) : Int) = 1 then v else 0) ∧ (if ((k + 1 : Nat) : Int) = 1 then v else 0) ≤ IntKind.u64.max := by
      rw [e1, e2]
      split <;> omega
    simpa [Lit.wf] using this
  have P3 : ∃ s e, text_Print_s (oneP ((k + 1 : Nat) : Int) (if ((k + 1 : Nat) : Int) = 1 then 0 else v) (if ((k + 1 : Nat) : Int) = 1 then v else 0)) = some (s, e) ∧ (e == 0) = fitB ((k + 1 : Nat) : Int) v := by
    rw [← hfe]
    cases h3 : enc.instrP ⟨((k + 1 : Nat) : Int), (if ((k + 1 : Nat) : Int) = 1 then 0 else v), (if ((k + 1 : Nat) : Int) = 1 then v else 0)⟩ with
    | false => exact ⟨_, _, Print_no (by rw [enc_one, h3]), rfl⟩
    | true => exact ⟨_, _, print_one h3 hu3, rfl⟩
  obtain ⟨s3, e3, p3, q3⟩ := P3
  show (text_Print_s (oneP ((k + 1 : Nat) : Int) (if ((k + 1 : Nat) : Int) = 1 then 0 else v) (if ((k + 1 : Nat) : Int) = 1 then v else 0))).bind _ = _
  rw [p3, Option.bind_some, hfit, heq, q3]
  simp only [jp, beq_self_eq_true, if_true]
  rw [show getI (Program.mk (oneP ((k + 1 : Nat) : Int) 0 0).Funcs).Funcs 0 = some (Func.mk 0 [] false (-1) [Instr.mk ((k + 1 : Nat) : Int) 0 0]) from rfl, Option.bind_some]
  rw [show getI (Func.mk 0 [] false (-1) [Instr.mk ((k + 1 : Nat) : Int) 0 0]).Code 0 = some (Instr.mk ((k + 1 : Nat) : Int) 0 0) from rfl, Option.bind_some]
  simp
end Go.Proofs.YtkfhljombjmdbaaDoor
/- From the row's list to the settings: the powers of ten, MaxLen, the two errors. -/
namespace Go.Proofs.YtkfhljombjmdbaaDoor
open Go Go.Ab Go.RowKit
set_option maxRecDepth 20000
set_option linter.unusedVariables false
set_option linter.unusedSimpArgs false

theorem pow10_laid : (Rows.laid_internal_strconv_uint64pow10 : DataW Unit) = Lib.tabData .u64 pow10T := by kernel_rfl
theorem glob_pow10 : Tryd.prog.globalNamed "internal/strconv.uint64pow10" = some 0 := by kernel_rfl
theorem glob_range : Tryd.prog.globalNamed "strconv.ErrRange" = some 3 := by kernel_rfl
theorem glob_syntax : Tryd.prog.globalNamed "strconv.ErrSyntax" = some 2 := by kernel_rfl

theorem star248 : "*" ++ "errors.errorString" = "*errors.errorString" := by decide
theorem only248 (u : TypeId) (h : Tryd.prog.typeName? 3 u = some "*errors.errorString") : u = 248 :=
  typeName_ptr_named (nm := "errors.errorString") (by rw [star248]; kernel_rfl) (by kernel_rfl) (by decide) u (by rw [star248]; exact h)

theorem err_at {W : World} {nm : String} {b : Nat} {ti : TypeId} {v : Value} (hg : Tryd.prog.globalNamed nm = some b) (h : W.var? Tryd.prog nm = some #[v]) (hv : v = .nilIface ∨ ∃ te pe, v = .iface te pe) : b < W.heap.size ∧ ∃ cs t fz, W.heap[b]? = some (.cells cs t fz) ∧ someErr cs := by
  have := World.var?_cell hg h 0
  obtain ⟨cs, t, fz, e, q⟩ := tab_cell (b := b) (W := W) (v := v) (by simpa using this)
  exact tab_here e ⟨v, q, hv⟩

theorem tab_of {W : World} (h : laidMet Tryd.prog Rows.traceTextsUptoRow.laid W) (hsh : W.ShapedOpen Tryd.prog) : TabOK W.heap.size W := by
  have h3 := h.tail.tail
  have h5 := h3.tail.tail
  have h6 := h5.tail
  obtain ⟨m, hm⟩ : ∃ m, W.cell? ⟨1, 0, none⟩ = some (.int .i64 m) := Tryd.laysM146.s1_3 W hsh
  obtain ⟨a0, s0, hv0, -, -, -⟩ := laid_sentinel h5 glob_range (by kernel_rfl) Tryd.underlying129 only248 Tryd.underlying248 Tryd.underlying250 rfl rfl Tryd.underlying9 (by kernel_rfl) (by kernel_rfl)
  obtain ⟨a1, s1, hv1, -, -, -⟩ := laid_sentinel h6 glob_syntax (by kernel_rfl) Tryd.underlying129 only248 Tryd.underlying248 Tryd.underlying250 rfl rfl Tryd.underlying9 (by kernel_rfl) (by kernel_rfl)
  have hp : Lib.TabIs Tryd.prog W "internal/strconv.uint64pow10" .u64 pow10T := by
    have h3' : laidMet Tryd.prog (("internal/strconv.uint64pow10", Rows.laid_internal_strconv_uint64pow10) :: _) W := h3
    rw [pow10_laid] at h3'
    exact Lib.tabIs_of_head glob_pow10 (t := 212) (e := 24) (n := 20) (by kernel_rfl) Tryd.underlying212 Tryd.underlying24 (by kernel_rfl) (by kernel_rfl) h3'
  intro b p e
  match b, e with
  | 0, e =>
    cases Option.some.inj e
    obtain ⟨t, fz, q⟩ := tab_is glob_pow10 hp
    exact tab_here q rfl
  | 1, e =>
    cases Option.some.inj e
    obtain ⟨cs, t, fz, q1, q2⟩ := tab_cell hm
    exact tab_here q1 ⟨m, q2⟩
  | 2, e => cases Option.some.inj e; exact err_at (ti := 129) glob_syntax hv1 (Or.inr ⟨_, _, rfl⟩)
  | 3, e => cases Option.some.inj e; exact err_at (ti := 129) glob_range hv0 (Or.inr ⟨_, _, rfl⟩)
  | n + 4, e => cases e
end Go.Proofs.YtkfhljombjmdbaaDoor
