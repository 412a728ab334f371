/- Plain laws of the texts: the document's Text, and how a written program is read again; TextPrints. -/
import Derived.Test.YtkfhljombjmdbaaDoorTw1
import Derived.Test.YtkfhljombjmdbaaDoorGenL
import Derived.Test.YtkfhljombjmdbaaDoorWlI2
import Derived.Lib.LaidTab
import Derived.Stop.LaidErr
import Derived.Deep.DeepHandedRow
namespace Go.Proofs.YtkfhljombjmdbaaDoor
open Go Go.Ab Go.RowKit
set_option maxRecDepth 20000
set_option linter.unusedVariables false
set_option linter.unusedSimpArgs false

/-- A loop that puts bytes behind bytes. -/
theorem range_app {α ρ : Type} (g : α → List UInt8) (C B : Nat) {body : Nat → α → ByteArray → Option (Stp ByteArray ρ)} : ∀ (l : List α) (k : Nat) (a : List UInt8),
    (∀ i x a, x ∈ l → a.length ≤ B → body i x (bsl a) = some (.nxt (bsl (a ++ g x)))) → (∀ x ∈ l, (g x).length ≤ C) → a.length + C * l.length ≤ B → rangeL body l k (bsl a) = some (.fin (bsl (a ++ l.flatMap g)))
  | [], k, a, _, _, _ => by simp [rangeL]
  | x :: r, k, a, hb, hg, hl => by
    have e : C * (x :: r).length = C * r.length + C := by simp [Nat.mul_succ]
    rw [e] at hl
    have h1 := hg x (by simp)
    rw [rangeL, hb k x a (by simp) (by omega)]
    simp only
    rw [range_app g C B r (k + 1) (a ++ g x) (fun i y b hy hb' => hb i y b (by simp [hy]) hb') (fun y hy => hg y (by simp [hy])) (by simp; omega)]
    simp
theorem refLine_ok (F : Nat) (hF : 20 ≤ F) {i : Instr} {k v : Nat} (h : InsF i k v) : windlassref04_Line_s F i = some (bsl (joinW (insW i))) := by
  rw [insW_eq h]
  refine Line_eq F hF k _ (nm_at h.hk) v h.hv i ?_ (fun e => ?_) (fun e => ?_)
  · rw [h.hi]; unfold mkI; split <;> rfl
  · rw [h.hi]; unfold mkI; rw [if_pos e]
  · rw [h.hi]; unfold mkI; rw [if_neg e]
theorem Text_ok (F : Nat) (hF : 20 ≤ F) {p : Program} (h : ProF p) : windlassref04_Text_s F p = some (bsl (textB p.Funcs)) := by
  have hn := h.n
  unfold windlassref04_Text_s rng
  rw [if_pos (by omega), show (ByteArray.mk #[]) = bsl [] from rfl]
  rw [range_app funcB 1901000 90000000000 p.Funcs 0 [] (fun i f a hf ha => ?_) (fun f hf => funcB_len (h.f f hf)) (by simp; omega)]
  · simp [oc, textB]
  · have H := h.f f hf
    have h1 := headB_len H
    have h3 := H.c
    rw [Head_eq F hF f (by have := H.p; omega) (by have := H.l; omega) (by have := H.k; omega), Option.bind_some, show (ByteArray.mk #[10]) = bsl [10] from rfl]
    unfold headB at h1
    rw [cat_b _ _ (by simpa using by simp at h1; omega), Option.bind_some, cat_b _ _ (by simp at h1 ⊢; omega), Option.bind_some]
    rw [if_pos (by omega), range_app insB 29 95000000000 f.Code 0 _ (fun j x b hx hb => ?_) (fun x hx => by obtain ⟨k, v, q⟩ := H.i x hx; exact insB_len q) (by simp at h1 ⊢; omega)]
    · simp [oc, funcB, headB]
    · obtain ⟨k, v, q⟩ := H.i x hx
      have h4 := insB_len q
      unfold insB at h4
      rw [refLine_ok F hF q, Option.bind_some, cat_b _ _ (by simp at h4 ⊢; omega), Option.bind_some, cat_b _ _ (by simp at h4 ⊢; omega), Option.bind_some]
      rfl

/-! ### reading again -/
theorem words_join {ws : List (List UInt8)} (h0 : ws ≠ []) (h : ∀ w ∈ ws, (32 : UInt8) ∉ w ∧ w ≠ []) : wordsOf (joinW ws) = ws := by
  unfold wordsOf
  rw [splitL_joinW ws h0 (fun w hw => (h w hw).1), List.filter_eq_self]
  intro w hw
  simpa using (h w hw).2
theorem mem_joinW {c : UInt8} (hc : c ≠ 32) : ∀ (ws : List (List UInt8)), (∀ w ∈ ws, c ∉ w) → c ∉ joinW ws
  | [], _ => by simp [joinW]
  | [w], h => h w (by simp)
  | w :: x :: r, h => by
    show c ∉ w ++ 32 :: joinW (x :: r)
    simp only [List.mem_append, List.mem_cons, not_or]
    exact ⟨h w (by simp), hc, mem_joinW hc (x :: r) (fun y hy => h y (by simp [hy]))⟩
theorem split_lines : ∀ (ls : List (List UInt8)) (rest : List UInt8), (∀ l ∈ ls, (10 : UInt8) ∉ l) → splitL 10 (ls.flatMap (fun l => l ++ [10]) ++ rest) = ls ++ splitL 10 rest
  | [], rest, _ => rfl
  | l :: r, rest, h => by
    have := split_lines r rest (fun x hx => h x (by simp [hx]))
    rw [List.flatMap_cons, show l ++ [10] ++ r.flatMap (fun l => l ++ [10]) ++ rest = l ++ 10 :: (r.flatMap (fun l => l ++ [10]) ++ rest) by simp, splitL_app 10 l (h l (by simp)), this]
    rfl
theorem dec_num (v : Nat) {c : UInt8} (hc : isDig c = false) : c ∉ Lib.decDigits v := by
  intro h
  have := List.all_eq_true.1 (dec_digs v) _ h
  rw [hc] at this; cases this
theorem nm_all : ∀ w ∈ nm, w ≠ [] ∧ (32 : UInt8) ∉ w ∧ (10 : UInt8) ∉ w ∧ w.head? ≠ some 35 ∧ w ≠ fw := by decide
theorem lineP_all (k : Nat) (hk : k < 32) (v : Nat) : ∀ w ∈ lineP k (nm.getD k []) v, (32 : UInt8) ∉ w ∧ w ≠ [] ∧ (10 : UInt8) ∉ w := by
  obtain ⟨a1, a2, a3, _⟩ := nm_all _ (List.mem_of_getElem? (nm_at hk))
  generalize nm.getD k [] = name at a1 a2 a3 ⊢
  unfold lineP
  split
  · intro w hw
    rw [List.mem_singleton.1 hw]
    exact ⟨a2, a1, a3⟩
  · intro w hw
    rcases List.mem_cons.1 hw with rfl | hw
    · exact ⟨a2, a1, a3⟩
    · rw [List.mem_singleton.1 hw]
      exact ⟨dec_free v, dec_len v, dec_num v (by decide)⟩
theorem letC_all (ks : List Int) : ∀ c ∈ ks.map letC, c = 110 ∨ c = 112 := by
  intro c hc
  obtain ⟨k, _, rfl⟩ := List.mem_map.1 hc
  unfold letC
  split
  · exact .inl rfl
  · exact .inr rfl
theorem headW_all (f : Func) : ∀ w ∈ headW f, (32 : UInt8) ∉ w ∧ w ≠ [] ∧ (10 : UInt8) ∉ w := by
  have hd : ∀ v, (32 : UInt8) ∉ Lib.decDigits v ∧ Lib.decDigits v ≠ [] ∧ (10 : UInt8) ∉ Lib.decDigits v := fun v => ⟨dec_free v, dec_len v, dec_num v (by decide)⟩
  intro w hw
  unfold headW at hw
  simp only [List.mem_cons, List.not_mem_nil, or_false] at hw
  rcases hw with rfl | rfl | rfl | rfl | rfl
  · decide
  · exact hd _
  · unfold kstr
    split
    · decide
    · rename_i e
      have := letC_all f.Locals
      refine ⟨fun h => ?_, by simpa using e, fun h => ?_⟩
      · rcases this _ h with h | h <;> exact absurd h (by decide)
      · rcases this _ h with h | h <;> exact absurd h (by decide)
  · unfold fstr; split <;> decide
  · unfold pstr; split
    · decide
    · exact hd _
def linesF (f : Func) : List (List UInt8) := joinW (headW f) :: f.Code.map (fun i => joinW (insW i))
theorem funcB_lines (f : Func) : funcB f = (linesF f).flatMap (fun l => l ++ [10]) := by
  unfold funcB headB linesF
  rw [List.flatMap_cons, List.flatMap_map]
  rfl
theorem textB_lines (xs : List Func) : textB xs = (xs.flatMap linesF).flatMap (fun l => l ++ [10]) := by
  unfold textB
  rw [List.flatMap_assoc]
  congr 1
  funext f
  exact funcB_lines f
theorem linesF_no {f : Func} (h : FunF f) : ∀ l ∈ linesF f, (10 : UInt8) ∉ l := by
  intro l hl
  rcases List.mem_cons.1 hl with rfl | hl
  · exact mem_joinW (by decide) _ (fun w hw => (headW_all f w hw).2.2)
  · obtain ⟨i, hi, rfl⟩ := List.mem_map.1 hl
    obtain ⟨k, v, q⟩ := h.i i hi
    rw [insW_eq q]
    exact mem_joinW (by decide) _ (fun w hw => (lineP_all k q.hk v w hw).2.2)
theorem numM_dec {m v : Nat} (h : v ≤ m) (hm : v < 18446744073709551616) : numM m (Lib.decDigits v) = some v := by
  unfold numM
  rw [(numOf_iff _ v).2 ⟨rfl, hm⟩, Option.bind_some, if_pos h]
theorem funcOf_head {f : Func} (h : FunF f) : funcOf (headW f) = some { f with Code := [] } := by
  have h1 := h.p
  have h2 := h.k
  unfold headW funcOf
  simp only
  rw [numM_dec (by omega) (by omega), Option.bind_some]
  have e2 : kindsOf (kstr f.Locals) = some f.Locals := by
    unfold kstr
    split
    · rename_i e; rw [e]; rfl
    · rename_i e
      have hall := letC_all f.Locals
      unfold kindsOf
      rw [if_neg, if_pos]
      · rw [List.map_map]
        congr 1
        conv => rhs; rw [← List.map_id f.Locals]
        refine List.map_congr_left (fun x hx => ?_)
        rcases h.z x hx with rfl | rfl <;> rfl
      · rw [List.all_eq_true]
        intro c hc
        rcases hall c hc with rfl | rfl <;> rfl
      · intro e3
        have : (45 : UInt8) ∈ f.Locals.map letC := by rw [e3]; simp
        rcases hall _ this with h | h <;> exact absurd h (by decide)
  have e3 : flagOf (fstr f.Result) = some f.Result := by cases f.Result <;> rfl
  have e4 : keepOf (pstr f.Keep) = some f.Keep := by
    unfold pstr keepOf
    split
    · rw [if_pos rfl]; congr 1; omega
    · have hne : Lib.decDigits f.Keep.toNat ≠ [45] := by
        intro e
        have : (45 : UInt8) ∈ Lib.decDigits f.Keep.toNat := by rw [e]; simp
        exact dec_num _ (by decide) this
      rw [if_neg hne, numM_dec (m := 254) (v := f.Keep.toNat) (by omega) (by omega)]
      show some ((f.Keep.toNat : Nat) : Int) = some f.Keep
      congr 1
      omega
  rw [e2, Option.bind_some, e3, Option.bind_some, e4]
  simp only [Option.map_some]
  congr 2
  omega
theorem step_head {f : Func} (h : FunF f) (xs : List Func) : stepW xs (wordsOf (joinW (headW f))) = some (xs ++ [{ f with Code := [] }]) := by
  rw [words_join (by unfold headW; simp) (fun w hw => ⟨(headW_all f w hw).1, (headW_all f w hw).2.1⟩)]
  have hf := funcOf_head h
  unfold headW at hf ⊢
  rw [stepW_cons, if_neg (by decide), if_pos rfl, hf]
  rfl
theorem most_says : ∀ k : Fin 32, widN k.val ≠ 0 → (widN k.val = 8 ∧ mostN k.val = 18446744073709551615) ∨ (widN k.val = 1 ∧ mostN k.val = 255) ∨ (widN k.val = 2 ∧ mostN k.val = 65535) := by decide
theorem instrOf_line {i : Instr} {k v : Nat} (h : InsF i k v) : instrOf (insW i) = some i := by
  obtain ⟨wm, _⟩ := wid_most ⟨k, h.hk⟩
  simp only at wm
  have hix := ixOf_some (nm_at h.hk)
  have hs := h.hs
  have hv := h.hv
  rw [insW_eq h, h.hi]
  generalize nm.getD k [] = name at hix ⊢
  unfold lineP
  by_cases hw : widN k = 0
  · rw [if_pos hw]
    have hv0 : v = 0 := by
      unfold saysN at hs
      rw [if_neg (by omega), if_neg (by omega), if_neg (by omega)] at hs
      simpa using hs
    subst hv0
    have hk0 : k ≠ 0 := by intro e; subst e; exact absurd hw (by decide)
    simp only [instrOf]
    rw [hix, Option.bind_some, if_pos (wm.1 hw)]
    unfold mkI
    rw [if_neg hk0]
    simp
  · rw [if_neg hw]
    simp only [instrOf]
    have hm : mostN k ≠ 0 := fun e => hw (wm.2 e)
    have hle : v ≤ mostN k := by
      unfold saysN at hs
      rcases most_says ⟨k, h.hk⟩ hw with ⟨a, b⟩ | ⟨a, b⟩ | ⟨a, b⟩ <;> simp only at a b <;> rw [b]
      · omega
      · rw [if_neg (by omega), if_pos a] at hs; simpa using hs
      · rw [if_neg (by omega), if_neg (by omega), if_pos a] at hs; simpa using hs
    rw [hix, Option.bind_some, if_neg hm, numM_dec hle hv, Option.map_some]
    unfold mkI
    by_cases hk0 : k = 0
    · subst hk0; rfl
    · rw [if_neg hk0, if_neg hk0]
theorem step_ins {i : Instr} {k v : Nat} (h : InsF i k v) {xs : List Func} (hx : xs ≠ []) : stepW xs (wordsOf (joinW (insW i))) = some (pushI xs i) := by
  have hi := instrOf_line h
  have hall := lineP_all k h.hk v
  obtain ⟨_, _, _, a4, a5⟩ := nm_all _ (List.mem_of_getElem? (nm_at h.hk))
  rw [insW_eq h] at hi ⊢
  rw [words_join (lineP_free k _ (nm_at h.hk) v).1 (fun w hw => ⟨(hall w hw).1, (hall w hw).2.1⟩)]
  obtain ⟨r, hr⟩ : ∃ r, lineP k (nm.getD k []) v = nm.getD k [] :: r := by unfold lineP; split <;> exact ⟨_, rfl⟩
  rw [hr] at hi ⊢
  rw [stepW_cons, if_neg a4, if_neg a5, if_neg hx, hi]
  rfl
theorem pushI_snoc (xs : List Func) (f : Func) (i : Instr) : pushI (xs ++ [f]) i = xs ++ [{ f with Code := f.Code ++ [i] }] := by
  unfold pushI
  simp
theorem run_code : ∀ (l : List Instr) (k : Nat) (xs : List Func) (f : Func) (rest : List (List UInt8)), (∀ x ∈ l, ∃ a b, InsF x a b) →
    runL k (xs ++ [f]) (l.map (fun i => joinW (insW i)) ++ rest) = runL (k + l.length) (xs ++ [{ f with Code := f.Code ++ l }]) rest
  | [], k, xs, f, rest, _ => by simp
  | x :: r, k, xs, f, rest, h => by
    obtain ⟨a, b, hx⟩ := h x (by simp)
    rw [List.map_cons, List.cons_append, runL, step_ins hx (by simp)]
    simp only
    rw [pushI_snoc, run_code r (k + 1) xs _ rest (fun y hy => h y (by simp [hy]))]
    simp only [List.length_cons, List.append_assoc, List.singleton_append]
    rw [show k + 1 + r.length = k + (r.length + 1) by omega]
theorem run_func {f : Func} (h : FunF f) (k : Nat) (xs : List Func) (rest : List (List UInt8)) : runL k xs (linesF f ++ rest) = runL (k + (linesF f).length) (xs ++ [f]) rest := by
  unfold linesF
  rw [List.cons_append, runL, step_head h]
  simp only
  rw [run_code f.Code (k + 1) xs _ rest h.i]
  simp only [List.nil_append, List.length_cons, List.length_map]
  rw [show k + 1 + f.Code.length = k + (f.Code.length + 1) by omega]
theorem run_funcs : ∀ (fs : List Func) (k : Nat) (xs : List Func) (rest : List (List UInt8)), (∀ x ∈ fs, FunF x) → runL k xs (fs.flatMap linesF ++ rest) = runL (k + (fs.flatMap linesF).length) (xs ++ fs) rest
  | [], k, xs, rest, _ => by simp
  | f :: r, k, xs, rest, h => by
    rw [List.flatMap_cons, List.append_assoc, run_func (h f (by simp)), run_funcs r _ _ rest (fun y hy => h y (by simp [hy]))]
    simp only [List.length_append, List.append_assoc, List.singleton_append]
    rw [show k + (linesF f).length + (r.flatMap linesF).length = k + ((linesF f).length + (r.flatMap linesF).length) by omega]
theorem read_text {fs : List Func} (h : ∀ x ∈ fs, FunF x) : readT (textB fs) = .inr fs := by
  unfold readT
  rw [textB_lines, show (fs.flatMap linesF).flatMap (fun l => l ++ [10]) = (fs.flatMap linesF).flatMap (fun l => l ++ [10]) ++ [] by simp,
    split_lines _ _ (fun l hl => by obtain ⟨f, hf, hl⟩ := List.mem_flatMap.1 hl; exact linesF_no (h f hf) l hl), run_funcs fs 0 [] _ h]
  rfl
theorem CopyT_eq (p : Program) (hl : p.Funcs.length ≤ 1048576) (hs : ∀ f ∈ p.Funcs, f.Locals.length ≤ 1048576 ∧ f.Code.length ≤ 1048576) : windlassref03_Copy_s p = some p := by
  unfold windlassref03_Copy_s
  have L := rng_inv (σ := List Func) (ρ := Option Program) (xs := p.Funcs) (s0 := []) (fun _ => true) none (fun i s => s = p.Funcs.take i)
    (body := fun (i_2 : Nat) (f_3 : Func) (s_1 : (List Func)) => (((appL 1 ([] : List Int) f_3.Locals).bind fun l_5 => ((appL 24 ([] : List Instr) f_3.Code).bind fun l_6 => ((appL 72 s_1 [(Func.mk f_3.Params l_5 f_3.Result f_3.Keep l_6)]).bind fun l_7 => (some (.nxt l_7))))) : Option (Stp (List Func) (Option Program)))) (by omega) rfl (fun i x s hx e => by
      subst e
      have hlt := (List.getElem?_eq_some_iff.1 hx).1
      have hb := hs x (List.mem_of_getElem? hx)
      rw [if_pos rfl, appL_of (by simp; omega)]
      simp only [Option.bind_some]
      rw [appL_of (by simp; omega)]
      simp only [Option.bind_some]
      rw [appL_of (by simp; omega)]
      refine ⟨_, rfl, ?_⟩
      rw [List.take_succ_eq_append_getElem hlt]
      rw [List.getElem?_eq_getElem hlt] at hx
      cases hx
      rfl)
  simp only [List.all_eq_true, implies_true, if_true] at L
  obtain ⟨s, e1, e2⟩ := L
  rw [e1, e2]
  simp [oc]
theorem u8_nn {k : Int} (h : (Lit.int .u8 k).wf = true) : 0 ≤ k ∧ k ≤ 255 := by
  have h1 : IntKind.u8.min ≤ k ∧ k ≤ IntKind.u8.max := by simpa [Lit.wf] using h
  have e1 : IntKind.u8.min = 0 := rfl
  have e2 : IntKind.u8.max = 255 := rfl
  omega
/-- What the arguments' reading gives. -/
theorem ok_pro {p : Program} (hp : Program.Ok 1048576 p) : p.Funcs.length ≤ 1048576 ∧ (∀ f ∈ p.Funcs, f.Locals.length ≤ 1048576 ∧ f.Code.length ≤ 1048576) ∧ (∀ f ∈ p.Funcs, ∀ x ∈ f.Locals, 0 ≤ x) ∧ (∀ f ∈ p.Funcs, ∀ x ∈ f.Code, (Lit.int .u64 x.Imm).wf = true) :=
  ⟨hp.1, fun f hf => ⟨(hp.2 f hf).2.1.1, (hp.2 f hf).2.2.2.2.1⟩, fun f hf x hx => (u8_nn ((hp.2 f hf).2.1.2 x hx)).1, fun f hf x hx => ((hp.2 f hf).2.2.2.2.2 x hx).2.2⟩
theorem short_pro {p : Program} (hp : Program.Ok 1048576 p) : Short p.Funcs := by
  obtain ⟨h1, h2, _⟩ := ok_pro hp
  exact ⟨by omega, fun f hf => by have := h2 f hf; omega⟩
theorem Parse_text {fs : List Func} (h : ∀ x ∈ fs, FunF x) (hl : (textB fs).length ≤ 1048576000) : text_Parse_s (bsl (textB fs)) = some (Program.mk fs, 0, 0) := by
  rw [text_Parse_eq _ hl, read_text h]
end Go.Proofs.YtkfhljombjmdbaaDoor
/- Plain law: TextLines. -/
namespace Go.Proofs.YtkfhljombjmdbaaDoor
open Go Go.Ab Go.RowKit
set_option maxRecDepth 20000
set_option linter.unusedVariables false
set_option linter.unusedSimpArgs false
theorem firstL : windlasslaw04_first_s = some true := by kernel_rfl
/-- The bad line. -/
def fly : List UInt8 := [102, 108, 121, 32, 97, 119, 97, 121]
abbrev nlG : List UInt8 → List UInt8 := fun l => l ++ [10]
/-- The bad line put ahead of line k. -/
def bf (k : Nat) : Nat → Bool → List UInt8 → List UInt8
  | _, _, [] => []
  | m, st, c :: r => (if m = k ∧ st = true then fly ++ [10] else []) ++ c :: bf k (if c = 10 then m + 1 else m) (c == 10) r
theorem bf_mid (k m : Nat) : ∀ (l R : List UInt8), (10 : UInt8) ∉ l → bf k m false (l ++ 10 :: R) = l ++ 10 :: bf k (m + 1) true R
  | [], R, _ => by simp [bf]
  | c :: l, R, h => by
    have hc : c ≠ 10 := fun e => h (by simp [e])
    have hl : (10 : UInt8) ∉ l := fun e => h (by simp [e])
    have e1 : (c == 10) = false := by simpa using hc
    rw [List.cons_append, bf, if_neg (by simp), if_neg hc, e1, bf_mid k m l R hl]
    simp
theorem bf_line (k m : Nat) (l R : List UInt8) (h : (10 : UInt8) ∉ l) : bf k m true (l ++ 10 :: R) = (if m = k then fly ++ [10] else []) ++ (l ++ 10 :: bf k (m + 1) true R) := by
  cases l with
  | nil => simp [bf]
  | cons c l =>
    have hc : c ≠ 10 := fun e => h (by simp [e])
    have hl : (10 : UInt8) ∉ l := fun e => h (by simp [e])
    have e1 : (c == 10) = false := by simpa using hc
    rw [List.cons_append, bf, if_neg hc, e1, bf_mid k m l R hl]
    simp
theorem bf_lines (k : Nat) : ∀ (ls : List (List UInt8)) (m : Nat), (∀ l ∈ ls, (10 : UInt8) ∉ l) →
    bf k m true (ls.flatMap nlG) = if m ≤ k ∧ k < m + ls.length then (ls.take (k - m)).flatMap nlG ++ (fly ++ [10]) ++ (ls.drop (k - m)).flatMap nlG else ls.flatMap nlG
  | [], m, _ => by
    rw [if_neg (by simp)]
    rfl
  | l :: r, m, h => by
    have ih := bf_lines k r (m + 1) (fun x hx => h x (by simp [hx]))
    have e : (l :: r).flatMap nlG = l ++ 10 :: r.flatMap nlG := by simp [nlG]
    rw [e, bf_line k m l _ (h l (by simp)), ih]
    by_cases hk : m = k
    · subst hk
      rw [if_pos rfl, if_neg (by omega), if_pos (by simp), Nat.sub_self]
      simp [nlG]
    · rw [if_neg hk, List.nil_append]
      by_cases hr : m + 1 ≤ k ∧ k < m + 1 + r.length
      · rw [if_pos hr, if_pos (by simp; omega)]
        have e2 : k - m = (k - (m + 1)) + 1 := by omega
        rw [e2, List.take_succ_cons, List.drop_succ_cons]
        simp [nlG]
      · rw [if_neg hr, if_neg (by simp; omega)]
theorem bf_len (k : Nat) : ∀ (l : List UInt8) (m : Nat) (st : Bool), (bf k m st l).length ≤ 10 * l.length
  | [], _, _ => by simp [bf]
  | c :: r, m, st => by
    have := bf_len k r (if c = 10 then m + 1 else m) (c == 10)
    rw [bf]
    simp only [List.length_append, List.length_cons]
    split <;> simp [fly] <;> omega
theorem count_lines : ∀ (ls : List (List UInt8)), (∀ l ∈ ls, (10 : UInt8) ∉ l) → (ls.flatMap nlG).count 10 = ls.length
  | [], _ => rfl
  | l :: r, h => by
    have e : (l :: r).flatMap nlG = l ++ 10 :: r.flatMap nlG := by simp [nlG]
    rw [e, List.count_append, List.count_cons_self, count_lines r (fun x hx => h x (by simp [hx])), List.count_eq_zero.2 (h l (by simp))]
    simp
theorem run_prefix : ∀ (a b : List (List UInt8)) (k : Nat) (xs ys : List Func), runL k xs (a ++ b) = .inr ys → ∃ zs, ∀ rest, runL k xs (a ++ rest) = runL (k + a.length) zs rest
  | [], b, k, xs, ys, _ => ⟨xs, fun rest => rfl⟩
  | l :: a, b, k, xs, ys, h => by
    rw [List.cons_append, runL] at h
    cases e : stepW xs (wordsOf l) with
    | none => rw [e] at h; cases h
    | some zs =>
      rw [e] at h
      simp only at h
      obtain ⟨ws, hw⟩ := run_prefix a b (k + 1) zs ys h
      refine ⟨ws, fun rest => ?_⟩
      rw [List.cons_append, runL, e]
      simp only
      rw [hw rest, List.length_cons, show k + 1 + a.length = k + (a.length + 1) by omega]
theorem fly_words : wordsOf fly = [[102, 108, 121], [97, 119, 97, 121]] := by decide
theorem fly_bad (xs : List Func) : stepW xs (wordsOf fly) = none := by
  rw [fly_words, stepW_cons, if_neg (by decide), if_neg (by decide)]
  split
  · rfl
  · have : instrOf [[102, 108, 121], [97, 119, 97, 121]] = none := by
      simp only [instrOf]
      rw [ixOf_none (by decide)]
      rfl
    rw [this]
    rfl
theorem fly_no : (10 : UInt8) ∉ fly := by decide
/-- The bad text is read up to its bad line. -/
theorem read_bad {fs : List Func} (h : ∀ x ∈ fs, FunF x) (k : Nat) (hk : k ≤ (fs.flatMap linesF).length) :
    readT (if k < (fs.flatMap linesF).length then bf k 0 true (textB fs) else bf k 0 true (textB fs) ++ fly) = .inl k := by
  have hno : ∀ l ∈ fs.flatMap linesF, (10 : UInt8) ∉ l := fun l hl => by obtain ⟨f, hf, hl⟩ := List.mem_flatMap.1 hl; exact linesF_no (h f hf) l hl
  have hrun := run_funcs fs 0 [] [] h
  rw [textB_lines]
  generalize hls : fs.flatMap linesF = ls at hk hno hrun ⊢
  rw [bf_lines k ls 0 hno]
  unfold readT
  by_cases hlt : k < ls.length
  · rw [if_pos hlt, if_pos (by omega), Nat.sub_zero]
    have e : (ls.take k).flatMap nlG ++ (fly ++ [10]) ++ (ls.drop k).flatMap nlG = (ls.take k ++ fly :: ls.drop k).flatMap nlG ++ [] := by simp [nlG]
    rw [e, split_lines _ _ (fun l hl => by
      rcases List.mem_append.1 hl with hl | hl
      · exact hno l (List.mem_of_mem_take hl)
      · rcases List.mem_cons.1 hl with rfl | hl
        · exact fly_no
        · exact hno l (List.mem_of_mem_drop hl))]
    obtain ⟨zs, hz⟩ := run_prefix (ls.take k) (ls.drop k) 0 [] ([] ++ fs) (by rw [List.take_append_drop]; simpa [runL] using hrun)
    rw [List.append_assoc, hz, List.cons_append, runL, fly_bad]
    simp
    omega
  · have hke : k = ls.length := by omega
    rw [if_neg hlt, if_neg (by omega), split_lines _ _ hno, splitL_none 10 fly fly_no]
    obtain ⟨zs, hz⟩ := run_prefix ls [] 0 [] ([] ++ fs) (by simpa [runL] using hrun)
    rw [hz, runL, fly_bad]
    simp [hke]
theorem lines_cnt {f : Func} : (linesF f).length = 1 + f.Code.length := by unfold linesF; simp; omega
theorem lines_le255 : ∀ (l : List Func), (∀ x ∈ l, FunF x) → (l.flatMap linesF).length ≤ 65536 * l.length
  | [], _ => by simp
  | x :: r, h => by
    have h1 := (h x (by simp)).c
    have := lines_le255 r (fun y hy => h y (by simp [hy]))
    rw [List.flatMap_cons, List.length_append, lines_cnt, List.length_cons]
    omega
/-- One byte's round. -/
def linB (T : ByteArray) (K : Int) (s_8 : ByteArray × Int × Int) : Option (Stp (ByteArray × Int × Int) (Option Bool)) :=
  (if (decide (s_8.2.2 < (ByteArray.size T : Int))) then (jp (fun (s_10 : (ByteArray × Int)) => (some (.nxt (s_10.1, s_10.2, (I64 (s_8.2.2 + 1)))))) (fun k_9 => (jp (fun (s_12 : Bool) => (jp (fun (s_15 : ByteArray) => ((subS T s_8.2.2 (I64 (s_8.2.2 + 1))).bind fun s_17 => ((catS s_15 s_17).bind fun s_18 => ((strI T s_8.2.2).bind fun b_19 => (if (b_19 == 10) then (k_9 (s_18, (I64 (s_8.2.1 + 1)))) else (k_9 (s_18, s_8.2.1))))))) (fun k_14 => (if s_12 then ((catS s_8.1 (ByteArray.mk #[102, 108, 121, 32, 97, 119, 97, 121, 10])).bind fun s_16 => (k_14 s_16)) else (k_14 s_8.1))))) (fun k_11 => (if (s_8.2.1 == K) then (if (s_8.2.2 == 0) then (k_11 true) else ((strI T (I64 (s_8.2.2 - 1))).bind fun b_13 => (k_11 (b_13 == 10)))) else (k_11 false)))))) else (some (.brk (s_8.1, s_8.2.1, s_8.2.2))))
/-- Whether a line begins at place j. -/
def lineAt (T : List UInt8) (j : Nat) : Bool := match j with
  | 0 => true
  | i + 1 => T[i]? == some 10
theorem jp_d {σ β : Type} (K : σ → Option β) (f : (σ → Option β) → Option β) : jp K f = f K := rfl
theorem linB_eq (T : List UInt8) (hT : T.length ≤ 1000000000) (k : Nat) (b : List UInt8) (m j : Nat) (hj : j < T.length) (hm : m ≤ j) (hb : b.length ≤ 10 * j) :
    linB (bsl T) (k : Int) (bsl b, (m : Int), (j : Int)) = some (.nxt (bsl (b ++ ((if m = k ∧ lineAt T j = true then fly ++ [10] else []) ++ [T[j]])), ((if T[j] = 10 then m + 1 else m : Nat) : Int), ((j + 1 : Nat) : Int))) := by
  have eI : I64 ((j : Int) + 1) = ((j + 1 : Nat) : Int) := by rw [I64_of (by omega)]; rfl
  have eM : I64 ((m : Int) + 1) = ((m + 1 : Nat) : Int) := by rw [I64_of (by omega)]; rfl
  have hs := strI_b T j hj
  have hsub : subS (bsl T) (j : Int) ((j + 1 : Nat) : Int) = some (bsl [T[j]]) := by
    rw [sub_b T j (j + 1) (by omega) (by omega), List.take_succ_eq_append_getElem hj, List.drop_append_of_le_length (by simp; omega)]
    simp
  have hjp : ∀ {β : Type} (G : Bool → Option β), jp G (fun k_11 => (if ((m : Int) == (k : Int)) = true then (if ((j : Int) == 0) = true then (k_11 true) else ((strI (bsl T) (I64 ((j : Int) - 1))).bind fun b_13 => (k_11 (b_13 == 10)))) else (k_11 false))) = G (decide (m = k ∧ lineAt T j = true)) := by
    intro β G
    show (if ((m : Int) == (k : Int)) = true then (if ((j : Int) == 0) = true then (G true) else ((strI (bsl T) (I64 ((j : Int) - 1))).bind fun b_13 => (G (b_13 == 10)))) else (G false)) = _
    by_cases e : m = k
    · rw [if_pos (by simp [e])]
      cases j with
      | zero => rw [if_pos (by simp), decide_eq_true ⟨e, rfl⟩]
      | succ i =>
        rw [if_neg (by simp; omega)]
        have e2 : I64 (((i + 1 : Nat) : Int) - 1) = (i : Int) := by rw [I64_of (by omega)]; omega
        rw [e2, strI_b T i (by omega), Option.bind_some]
        congr 1
        simp only [e, true_and, lineAt]
        rw [List.getElem?_eq_getElem (by omega)]
        by_cases h10 : T[i] = 10
        · rw [h10]; rfl
        · have : (((T[i]).toNat : Int) == 10) = false := by
            rw [beq_eq_false_iff_ne]
            intro h
            apply h10
            have h2 : (T[i]).toNat = 10 := by omega
            exact UInt8.toNat_inj.1 h2
          rw [this]
          symm
          simpa using h10
    · rw [if_neg (by simp; omega), decide_eq_false (fun h => e h.1)]
  unfold linB
  simp only
  rw [if_pos (by rw [bsl_size]; simpa using hj)]
  simp only [eI]
  rw [jp_d]
  rw [hjp]
  have hj2 : ∀ (G : ByteArray → Option (Stp (ByteArray × Int × Int) (Option Bool))), jp G (fun k_14 => (if decide (m = k ∧ lineAt T j = true) = true then ((catS (bsl b) (ByteArray.mk #[102, 108, 121, 32, 97, 119, 97, 121, 10])).bind fun s_16 => (k_14 s_16)) else (k_14 (bsl b)))) = G (bsl (b ++ (if m = k ∧ lineAt T j = true then fly ++ [10] else []))) := by
    intro G
    show (if decide (m = k ∧ lineAt T j = true) = true then ((catS (bsl b) (ByteArray.mk #[102, 108, 121, 32, 97, 119, 97, 121, 10])).bind fun s_16 => (G s_16)) else (G (bsl b))) = _
    by_cases e : m = k ∧ lineAt T j = true
    · rw [if_pos (by simpa using e), if_pos e, show (ByteArray.mk #[102, 108, 121, 32, 97, 119, 97, 121, 10]) = bsl (fly ++ [10]) from rfl, cat_b _ _ (by simp [fly]; omega)]
      rfl
    · rw [if_neg (by simpa using e), if_neg e, List.append_nil]
  rw [hj2, hsub, Option.bind_some, cat_b _ _ (by split <;> simp [fly] <;> omega), Option.bind_some, hs, Option.bind_some]
  by_cases h10 : T[j] = 10
  · rw [if_pos (by rw [h10]; rfl), if_pos h10, eM]
    simp
  · have : (((T[j]).toNat : Int) == 10) = false := by
      rw [beq_eq_false_iff_ne]
      intro h
      apply h10
      have h2 : (T[j]).toNat = 10 := by omega
      exact UInt8.toNat_inj.1 h2
    rw [if_neg (by rw [this]; simp), if_neg h10]
    simp
theorem lines_loop (T : List UInt8) (hT : T.length ≤ 1000000000) (k F : Nat) (hF : T.length < F) :
    whileN (linB (bsl T) (k : Int)) F (bsl [], 0, 0) = some (.fin (bsl (bf k 0 true T), (T.count 10 : Int), (T.length : Int))) := by
  refine whileN_fin (fun s => ∃ (j m : Nat) (b : List UInt8), s = (bsl b, (m : Int), (j : Int)) ∧ j ≤ T.length ∧ m ≤ j ∧ b.length ≤ 10 * j ∧ b ++ bf k m (lineAt T j) (T.drop j) = bf k 0 true T ∧ m + (T.drop j).count 10 = T.count 10) (fun s => T.length - s.2.2.toNat) _ ?_ F _ ⟨0, 0, [], rfl, Nat.zero_le _, Nat.le_refl _, by simp, by simp [lineAt], by simp⟩ (by simp; omega)
  rintro s ⟨j, m, b, rfl, hj, hm, hb, h1, h2⟩
  by_cases hlt : j < T.length
  · left
    rw [linB_eq T hT k b m j hlt hm hb]
    refine ⟨_, rfl, ⟨j + 1, (if T[j] = 10 then m + 1 else m), _, rfl, hlt, by split <;> omega, ?_, ?_, ?_⟩, by simp; omega⟩
    · split <;> simp [fly] <;> omega
    · rw [List.drop_eq_getElem_cons hlt, bf] at h1
      rw [← h1]
      have e : lineAt T (j + 1) = (T[j] == 10) := by
        simp only [lineAt]
        rw [List.getElem?_eq_getElem hlt]
        rfl
      rw [e]
      simp
    · rw [List.drop_eq_getElem_cons hlt, List.count_cons] at h2
      by_cases h10 : T[j] = 10
      · rw [if_pos h10]
        simp [h10] at h2
        omega
      · rw [if_neg h10]
        simp [h10] at h2
        omega
  · right
    have hje : j = T.length := by omega
    subst hje
    unfold linB
    simp only
    rw [if_neg (by rw [bsl_size]; simp)]
    rw [List.drop_length] at h1 h2
    simp [bf] at h1 h2
    rw [h1, h2]
theorem lines_law (p : Program) (v : Int) (hp : Program.Ok 1048576 p) (hv : (Lit.int .i64 v).wf = true) : windlasslaw04_TextLines_s 4000000000 p v = some true := by
  obtain ⟨h1, h2, h3, h4⟩ := ok_pro hp
  unfold windlasslaw04_TextLines_s
  rw [firstL, Option.bind_some]
  simp only [Bool.not_true, Bool.false_eq_true, if_false]
  cases he : enc.encP p with
  | false =>
    rw [Print_no he, Option.bind_some, if_pos (by decide), show (ByteArray.mk #[]) = bsl [] from rfl, beq_bsl]
    rfl
  | true =>
    have H := pro_form he h3 h4
    have hlen := H.len
    have hn := H.n
    rw [Print_ok he H, Option.bind_some, if_neg (by simp)]
    have hL := lines_le255 p.Funcs H.f
    have hno : ∀ l ∈ p.Funcs.flatMap linesF, (10 : UInt8) ∉ l := fun l hl => by obtain ⟨f, hf, hl⟩ := List.mem_flatMap.1 hl; exact linesF_no (H.f f hf) l hl
    have hcount : (textB p.Funcs).count 10 = (p.Funcs.flatMap linesF).length := by rw [textB_lines]; exact count_lines _ hno
    have hsum := rng_inv (σ := Int) (ρ := Option Bool) (xs := p.Funcs) (s0 := 0) (fun _ => true) none (fun i s => s = (((p.Funcs.take i).flatMap linesF).length : Int))
      (body := fun (i_4 : Nat) (f_5 : Func) (s_3 : Int) => ((some (.nxt (I64 (s_3 + (I64 (1 + (List.length f_5.Code : Int))))))) : Option (Stp Int (Option Bool)))) (by omega) rfl (fun i x s hx e => by
        subst e
        have hlt := (List.getElem?_eq_some_iff.1 hx).1
        have hc := (H.f x (List.mem_of_getElem? hx)).c
        have hlt2 := lines_le255 (p.Funcs.take i) (fun y hy => H.f y (List.mem_of_mem_take hy))
        have hti : (p.Funcs.take i).length ≤ 255 := by simp; omega
        rw [if_pos rfl]
        refine ⟨_, rfl, ?_⟩
        rw [List.take_succ_eq_append_getElem hlt, List.flatMap_append, List.length_append]
        rw [List.getElem?_eq_getElem hlt] at hx
        cases hx
        rw [List.flatMap_cons, List.flatMap_nil, List.append_nil, lines_cnt, I64_of (x := 1 + _) (by omega), I64_of (by omega)]
        omega)
    simp only [List.all_eq_true, implies_true, if_true, List.take_length] at hsum
    obtain ⟨s, e1, rfl⟩ := hsum
    refine bind_eq ⟨_, e1, ?_⟩
    simp only [oc]
    generalize hN : (p.Funcs.flatMap linesF).length = n at hL hcount ⊢
    have hn1 : I64 ((n : Int) + 1) = ((n + 1 : Nat) : Int) := by rw [I64_of (by omega)]; rfl
    rw [hn1, U64_of (by omega), gd_true (by omega)]
    have hU : 0 ≤ U64 v := by
      show 0 ≤ IntKind.u64.wrap v
      unfold IntKind.wrap
      exact Int.emod_nonneg _ (by decide)
    have hm0 : 0 ≤ Int.tmod (U64 v) ((n + 1 : Nat) : Int) := Int.tmod_nonneg _ hU
    have hm1 : Int.tmod (U64 v) ((n + 1 : Nat) : Int) < ((n + 1 : Nat) : Int) := Int.tmod_lt_of_pos _ (by omega)
    rw [I64_of (by omega)]
    generalize Int.tmod (U64 v) ((n + 1 : Nat) : Int) = K at hm0 hm1
    obtain ⟨k, rfl⟩ := Int.eq_ofNat_of_zero_le hm0
    have hk : k ≤ n := by omega
    have hloop := lines_loop (textB p.Funcs) (by omega) k 4000000000 (by omega)
    refine bind_eq ⟨_, hloop, ?_⟩
    simp only [oc]
    have hj : ∀ {β : Type} (G : ByteArray → Option β), jp G (fun k_20 => (if ((k : Int) == (n : Int)) = true then ((catS (bsl (bf k 0 true (textB p.Funcs))) (ByteArray.mk #[102, 108, 121, 32, 97, 119, 97, 121])).bind fun s_22 => (k_20 s_22)) else (k_20 (bsl (bf k 0 true (textB p.Funcs)))))) = G (bsl (if k < n then bf k 0 true (textB p.Funcs) else bf k 0 true (textB p.Funcs) ++ fly)) := by
      intro β G
      show (if ((k : Int) == (n : Int)) = true then ((catS (bsl (bf k 0 true (textB p.Funcs))) (ByteArray.mk #[102, 108, 121, 32, 97, 119, 97, 121])).bind fun s_22 => (G s_22)) else (G (bsl (bf k 0 true (textB p.Funcs))))) = _
      have hbl := bf_len k (textB p.Funcs) 0 true
      by_cases e : k = n
      · rw [if_pos (by simp [e]), if_neg (by omega), show (ByteArray.mk #[102, 108, 121, 32, 97, 119, 97, 121]) = bsl fly from rfl, cat_b _ _ (by simp [fly]; omega)]
        rfl
      · rw [if_neg (by simp; omega), if_pos (by omega)]
    rw [hj]
    have hbad := read_bad H.f k (by rw [hN]; exact hk)
    rw [hN] at hbad
    have hbl : (if k < n then bf k 0 true (textB p.Funcs) else bf k 0 true (textB p.Funcs) ++ fly).length ≤ 1048576000 := by
      have e := bf_lines k (p.Funcs.flatMap linesF) 0 hno
      rw [← textB_lines, hN] at e
      have e2 : (textB p.Funcs).length = (((p.Funcs.flatMap linesF).take k ++ (p.Funcs.flatMap linesF).drop k).flatMap nlG).length := by rw [List.take_append_drop, textB_lines]
      rw [List.flatMap_append, List.length_append] at e2
      rw [e]
      split
      · rw [if_pos (by omega), Nat.sub_zero]
        simp only [List.length_append]
        have e8 : fly.length + [(10 : UInt8)].length = 9 := by simp [fly]
        omega
      · rw [if_neg (by omega)]
        simp only [List.length_append]
        have e7 : fly.length = 8 := by simp [fly]
        omega
    rw [text_Parse_eq _ hbl, hbad, Option.bind_some, hcount]
    simp only [jp, beq_self_eq_true, if_true]
    rw [I64_of (x := (k : Int) + 1) (by omega), if_pos (by simp)]
    rfl
end Go.Proofs.YtkfhljombjmdbaaDoor
/- From the row's list to the settings: the powers of ten, MaxLen, the two errors. -/
namespace Go.Proofs.YtkfhljombjmdbaaDoor
open Go Go.Ab Go.RowKit
set_option maxRecDepth 20000
set_option linter.unusedVariables false
set_option linter.unusedSimpArgs false

theorem pow10_laid : (Rows.laid_internal_strconv_uint64pow10 : DataW Unit) = Lib.tabData .u64 pow10T := by kernel_rfl
theorem glob_pow10 : Tryd.prog.globalNamed "internal/strconv.uint64pow10" = some 0 := by kernel_rfl
theorem glob_range : Tryd.prog.globalNamed "strconv.ErrRange" = some 3 := by kernel_rfl
theorem glob_syntax : Tryd.prog.globalNamed "strconv.ErrSyntax" = some 2 := by kernel_rfl

theorem star248 : "*" ++ "errors.errorString" = "*errors.errorString" := by decide
theorem only248 (u : TypeId) (h : Tryd.prog.typeName? 3 u = some "*errors.errorString") : u = 248 :=
  typeName_ptr_named (nm := "errors.errorString") (by rw [star248]; kernel_rfl) (by kernel_rfl) (by decide) u (by rw [star248]; exact h)

theorem err_at {W : World} {nm : String} {b : Nat} {ti : TypeId} {v : Value} (hg : Tryd.prog.globalNamed nm = some b) (h : W.var? Tryd.prog nm = some #[v]) (hv : v = .nilIface ∨ ∃ te pe, v = .iface te pe) : b < W.heap.size ∧ ∃ cs t fz, W.heap[b]? = some (.cells cs t fz) ∧ someErr cs := by
  have := World.var?_cell hg h 0
  obtain ⟨cs, t, fz, e, q⟩ := tab_cell (b := b) (W := W) (v := v) (by simpa using this)
  exact tab_here e ⟨v, q, hv⟩

theorem tab_of {W : World} (h : laidMet Tryd.prog Rows.traceTextsUptoRow.laid W) (hsh : W.ShapedOpen Tryd.prog) : TabOK W.heap.size W := by
  have h3 := h.tail.tail
  have h5 := h3.tail.tail
  have h6 := h5.tail
  obtain ⟨m, hm⟩ : ∃ m, W.cell? ⟨1, 0, none⟩ = some (.int .i64 m) := Tryd.laysM146.s1_3 W hsh
  obtain ⟨a0, s0, hv0, -, -, -⟩ := laid_sentinel h5 glob_range (by kernel_rfl) Tryd.underlying129 only248 Tryd.underlying248 Tryd.underlying250 rfl rfl Tryd.underlying9 (by kernel_rfl) (by kernel_rfl)
  obtain ⟨a1, s1, hv1, -, -, -⟩ := laid_sentinel h6 glob_syntax (by kernel_rfl) Tryd.underlying129 only248 Tryd.underlying248 Tryd.underlying250 rfl rfl Tryd.underlying9 (by kernel_rfl) (by kernel_rfl)
  have hp : Lib.TabIs Tryd.prog W "internal/strconv.uint64pow10" .u64 pow10T := by
    have h3' : laidMet Tryd.prog (("internal/strconv.uint64pow10", Rows.laid_internal_strconv_uint64pow10) :: _) W := h3
    rw [pow10_laid] at h3'
    exact Lib.tabIs_of_head glob_pow10 (t := 212) (e := 24) (n := 20) (by kernel_rfl) Tryd.underlying212 Tryd.underlying24 (by kernel_rfl) (by kernel_rfl) h3'
  intro b p e
  match b, e with
  | 0, e =>
    cases Option.some.inj e
    obtain ⟨t, fz, q⟩ := tab_is glob_pow10 hp
    exact tab_here q rfl
  | 1, e =>
    cases Option.some.inj e
    obtain ⟨cs, t, fz, q1, q2⟩ := tab_cell hm
    exact tab_here q1 ⟨m, q2⟩
  | 2, e => cases Option.some.inj e; exact err_at (ti := 129) glob_syntax hv1 (Or.inr ⟨_, _, rfl⟩)
  | 3, e => cases Option.some.inj e; exact err_at (ti := 129) glob_range hv0 (Or.inr ⟨_, _, rfl⟩)
  | n + 4, e => cases e
end Go.Proofs.YtkfhljombjmdbaaDoor
