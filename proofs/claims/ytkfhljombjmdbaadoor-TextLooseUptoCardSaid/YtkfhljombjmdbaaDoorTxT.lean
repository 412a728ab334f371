/- Plain laws of the texts: the document's Text, and how a written program is read again; TextPrints. -/
import Derived.Test.YtkfhljombjmdbaaDoorTw1
import Derived.Test.YtkfhljombjmdbaaDoorGenL
import Derived.Test.YtkfhljombjmdbaaDoorWlI2
import Derived.Lib.LaidTab
import Derived.Stop.LaidErr
import Derived.Deep.DeepHandedRow
namespace Go.Proofs.YtkfhljombjmdbaaDoor
open Go Go.Ab Go.RowKit
set_option maxRecDepth 20000
set_option linter.unusedVariables false
set_option linter.unusedSimpArgs false

/-- A loop that puts bytes behind bytes. -/
theorem range_app {α ρ : Type} (g : α → List UInt8) (C B : Nat) {body : Nat → α → ByteArray → Option (Stp ByteArray ρ)} : ∀ (l : List α) (k : Nat) (a : List UInt8),
    (∀ i x a, x ∈ l → a.length ≤ B → body i x (bsl a) = some (.nxt (bsl (a ++ g x)))) → (∀ x ∈ l, (g x).length ≤ C) → a.length + C * l.length ≤ B → rangeL body l k (bsl a) = some (.fin (bsl (a ++ l.flatMap g)))
  | [], k, a, _, _, _ => by simp [rangeL]
  | x :: r, k, a, hb, hg, hl => by
    have e : C * (x :: r).length = C * r.length + C := by simp [Nat.mul_succ]
    rw [e] at hl
    have h1 := hg x (by simp)
    rw [rangeL, hb k x a (by simp) (by omega)]
    simp only
    rw [range_app g C B r (k + 1) (a ++ g x) (fun i y b hy hb' => hb i y b (by simp [hy]) hb') (fun y hy => hg y (by simp [hy])) (by simp; omega)]
    simp
theorem refLine_ok (F : Nat) (hF : 20 ≤ F) {i : Instr} {k v : Nat} (h : InsF i k v) : windlassref04_Line_s F i = some (bsl (joinW (insW i))) := by
  rw [insW_eq h]
  refine Line_eq F hF k _ (nm_at h.hk) v h.hv i ?_ (fun e => ?_) (fun e => ?_)
  · rw [h.hi]; unfold mkI; split <;> rfl
  · rw [h.hi]; unfold mkI; rw [if_pos e]
  · rw [h.hi]; unfold mkI; rw [if_neg e]
theorem Text_ok (F : Nat) (hF : 20 ≤ F) {p : Program} (h : ProF p) : windlassref04_Text_s F p = some (bsl (textB p.Funcs)) := by
  have hn := h.n
  unfold windlassref04_Text_s rng
  rw [if_pos (by omega), show (ByteArray.mk #[]) = bsl [] from rfl]
  rw [range_app funcB 1901000 90000000000 p.Funcs 0 [] (fun i f a hf ha => ?_) (fun f hf => funcB_len (h.f f hf)) (by simp; omega)]
  · simp [oc, textB]
  · have H := h.f f hf
    have h1 := headB_len H
    have h3 := H.c
    rw [Head_eq F hF f (by have := H.p; omega) (by have := H.l; omega) (by have := H.k; omega), Option.bind_some, show (ByteArray.mk #[10]) = bsl [10] from rfl]
    unfold headB at h1
    rw [cat_b _ _ (by simpa using by simp at h1; omega), Option.bind_some, cat_b _ _ (by simp at h1 ⊢; omega), Option.bind_some]
    rw [if_pos (by omega), range_app insB 29 95000000000 f.Code 0 _ (fun j x b hx hb => ?_) (fun x hx => by obtain ⟨k, v, q⟩ := H.i x hx; exact insB_len q) (by simp at h1 ⊢; omega)]
    · simp [oc, funcB, headB]
    · obtain ⟨k, v, q⟩ := H.i x hx
      have h4 := insB_len q
      unfold insB at h4
      rw [refLine_ok F hF q, Option.bind_some, cat_b _ _ (by simp at h4 ⊢; omega), Option.bind_some, cat_b _ _ (by simp at h4 ⊢; omega), Option.bind_some]
      rfl

/-! ### reading again -/
theorem words_join {ws : List (List UInt8)} (h0 : ws ≠ []) (h : ∀ w ∈ ws, (32 : UInt8) ∉ w ∧ w ≠ []) : wordsOf (joinW ws) = ws := by
  unfold wordsOf
  rw [splitL_joinW ws h0 (fun w hw => (h w hw).1), List.filter_eq_self]
  intro w hw
  simpa using (h w hw).2
theorem mem_joinW {c : UInt8} (hc : c ≠ 32) : ∀ (ws : List (List UInt8)), (∀ w ∈ ws, c ∉ w) → c ∉ joinW ws
  | [], _ => by simp [joinW]
  | [w], h => h w (by simp)
  | w :: x :: r, h => by
    show c ∉ w ++ 32 :: joinW (x :: r)
    simp only [List.mem_append, List.mem_cons, not_or]
    exact ⟨h w (by simp), hc, mem_joinW hc (x :: r) (fun y hy => h y (by simp [hy]))⟩
theorem split_lines : ∀ (ls : List (List UInt8)) (rest : List UInt8), (∀ l ∈ ls, (10 : UInt8) ∉ l) → splitL 10 (ls.flatMap (fun l => l ++ [10]) ++ rest) = ls ++ splitL 10 rest
  | [], rest, _ => rfl
  | l :: r, rest, h => by
    have := split_lines r rest (fun x hx => h x (by simp [hx]))
    rw [List.flatMap_cons, show l ++ [10] ++ r.flatMap (fun l => l ++ [10]) ++ rest = l ++ 10 :: (r.flatMap (fun l => l ++ [10]) ++ rest) by simp, splitL_app 10 l (h l (by simp)), this]
    rfl
theorem dec_num (v : Nat) {c : UInt8} (hc : isDig c = false) : c ∉ Lib.decDigits v := by
  intro h
  have := List.all_eq_true.1 (dec_digs v) _ h
  rw [hc] at this; cases this
theorem nm_all : ∀ w ∈ nm, w ≠ [] ∧ (32 : UInt8) ∉ w ∧ (10 : UInt8) ∉ w ∧ w.head? ≠ some 35 ∧ w ≠ fw := by decide
theorem lineP_all (k : Nat) (hk : k < 32) (v : Nat) : ∀ w ∈ lineP k (nm.getD k []) v, (32 : UInt8) ∉ w ∧ w ≠ [] ∧ (10 : UInt8) ∉ w := by
  obtain ⟨a1, a2, a3, _⟩ := nm_all _ (List.mem_of_getElem? (nm_at hk))
  generalize nm.getD k [] = name at a1 a2 a3 ⊢
  unfold lineP
  split
  · intro w hw
    rw [List.mem_singleton.1 hw]
    exact ⟨a2, a1, a3⟩
  · intro w hw
    rcases List.mem_cons.1 hw with rfl | hw
    · exact ⟨a2, a1, a3⟩
    · rw [List.mem_singleton.1 hw]
      exact ⟨dec_free v, dec_len v, dec_num v (by decide)⟩
theorem letC_all (ks : List Int) : ∀ c ∈ ks.map letC, c = 110 ∨ c = 112 := by
  intro c hc
  obtain ⟨k, _, rfl⟩ := List.mem_map.1 hc
  unfold letC
  split
  · exact .inl rfl
  · exact .inr rfl
theorem headW_all (f : Func) : ∀ w ∈ headW f, (32 : UInt8) ∉ w ∧ w ≠ [] ∧ (10 : UInt8) ∉ w := by
  have hd : ∀ v, (32 : UInt8) ∉ Lib.decDigits v ∧ Lib.decDigits v ≠ [] ∧ (10 : UInt8) ∉ Lib.decDigits v := fun v => ⟨dec_free v, dec_len v, dec_num v (by decide)⟩
  intro w hw
  unfold headW at hw
  simp only [List.mem_cons, List.not_mem_nil, or_false] at hw
  rcases hw with rfl | rfl | rfl | rfl | rfl
  · decide
  · exact hd _
  · unfold kstr
    split
    · decide
    · rename_i e
      have := letC_all f.Locals
      refine ⟨fun h => ?_, by simpa using e, fun h => ?_⟩
      · rcases this _ h with h | h <;> exact absurd h (by decide)
      · rcases this _ h with h | h <;> exact absurd h (by decide)
  · unfold fstr; split <;> decide
  · unfold pstr; split
    · decide
    · exact hd _
def linesF (f : Func) : List (List UInt8) := joinW (headW f) :: f.Code.map (fun i => joinW (insW i))
theorem funcB_lines (f : Func) : funcB f = (linesF f).flatMap (fun l => l ++ [10]) := by
  unfold funcB headB linesF
  rw [List.flatMap_cons, List.flatMap_map]
  rfl
theorem textB_lines (xs : List Func) : textB xs = (xs.flatMap linesF).flatMap (fun l => l ++ [10]) := by
  unfold textB
  rw [List.flatMap_assoc]
  congr 1
  funext f
  exact funcB_lines f
theorem linesF_no {f : Func} (h : FunF f) : ∀ l ∈ linesF f, (10 : UInt8) ∉ l := by
  intro l hl
  rcases List.mem_cons.1 hl with rfl | hl
  · exact mem_joinW (by decide) _ (fun w hw => (headW_all f w hw).2.2)
  · obtain ⟨i, hi, rfl⟩ := List.mem_map.1 hl
    obtain ⟨k, v, q⟩ := h.i i hi
    rw [insW_eq q]
    exact mem_joinW (by decide) _ (fun w hw => (lineP_all k q.hk v w hw).2.2)
theorem numM_dec {m v : Nat} (h : v ≤ m) (hm : v < 18446744073709551616) : numM m (Lib.decDigits v) = some v := by
  unfold numM
  rw [(numOf_iff _ v).2 ⟨rfl, hm⟩, Option.bind_some, if_pos h]
theorem funcOf_head {f : Func} (h : FunF f) : funcOf (headW f) = some { f with Code := [] } := by
  have h1 := h.p
  have h2 := h.k
  unfold headW funcOf
  simp only
  rw [numM_dec (by omega) (by omega), Option.bind_some]
  have e2 : kindsOf (kstr f.Locals) = some f.Locals := by
    unfold kstr
    split
    · rename_i e; rw [e]; rfl
    · rename_i e
      have hall := letC_all f.Locals
      unfold kindsOf
      rw [if_neg, if_pos]
      · rw [List.map_map]
        congr 1
        conv => rhs; rw [← List.map_id f.Locals]
        refine List.map_congr_left (fun x hx => ?_)
        rcases h.z x hx with rfl | rfl <;> rfl
      · rw [List.all_eq_true]
        intro c hc
        rcases hall c hc with rfl | rfl <;> rfl
      · intro e3
        have : (45 : UInt8) ∈ f.Locals.map letC := by rw [e3]; simp
        rcases hall _ this with h | h <;> exact absurd h (by decide)
  have e3 : flagOf (fstr f.Result) = some f.Result := by cases f.Result <;> rfl
  have e4 : keepOf (pstr f.Keep) = some f.Keep := by
    unfold pstr keepOf
    split
    · rw [if_pos rfl]; congr 1; omega
    · have hne : Lib.decDigits f.Keep.toNat ≠ [45] := by
        intro e
        have : (45 : UInt8) ∈ Lib.decDigits f.Keep.toNat := by rw [e]; simp
        exact dec_num _ (by decide) this
      rw [if_neg hne, numM_dec (m := 254) (v := f.Keep.toNat) (by omega) (by omega)]
      show some ((f.Keep.toNat : Nat) : Int) = some f.Keep
      congr 1
      omega
  rw [e2, Option.bind_some, e3, Option.bind_some, e4]
  simp only [Option.map_some]
  congr 2
  omega
theorem step_head {f : Func} (h : FunF f) (xs : List Func) : stepW xs (wordsOf (joinW (headW f))) = some (xs ++ [{ f with Code := [] }]) := by
  rw [words_join (by unfold headW; simp) (fun w hw => ⟨(headW_all f w hw).1, (headW_all f w hw).2.1⟩)]
  have hf := funcOf_head h
  unfold headW at hf ⊢
  rw [stepW_cons, if_neg (by decide), if_pos rfl, hf]
  rfl
theorem most_says : ∀ k : Fin 32, widN k.val ≠ 0 → (widN k.val = 8 ∧ mostN k.val = 18446744073709551615) ∨ (widN k.val = 1 ∧ mostN k.val = 255) ∨ (widN k.val = 2 ∧ mostN k.val = 65535) := by decide
theorem instrOf_line {i : Instr} {k v : Nat} (h : InsF i k v) : instrOf (insW i) = some i := by
  obtain ⟨wm, _⟩ := wid_most ⟨k, h.hk⟩
  simp only at wm
  have hix := ixOf_some (nm_at h.hk)
  have hs := h.hs
  have hv := h.hv
  rw [insW_eq h, h.hi]
  generalize nm.getD k [] = name at hix ⊢
  unfold lineP
  by_cases hw : widN k = 0
  · rw [if_pos hw]
    have hv0 : v = 0 := by
      unfold saysN at hs
      rw [if_neg (by omega), if_neg (by omega), if_neg (by omega)] at hs
      simpa using hs
    subst hv0
    have hk0 : k ≠ 0 := by intro e; subst e; exact absurd hw (by decide)
    simp only [instrOf]
    rw [hix, Option.bind_some, if_pos (wm.1 hw)]
    unfold mkI
    rw [if_neg hk0]
    simp
  · rw [if_neg hw]
    simp only [instrOf]
    have hm : mostN k ≠ 0 := fun e => hw (wm.2 e)
    have hle : v ≤ mostN k := by
      unfold saysN at hs
      rcases most_says ⟨k, h.hk⟩ hw with ⟨a, b⟩ | ⟨a, b⟩ | ⟨a, b⟩ <;> simp only at a b <;> rw [b]
      · omega
      · rw [if_neg (by omega), if_pos a] at hs; simpa using hs
      · rw [if_neg (by omega), if_neg (by omega), if_pos a] at hs; simpa using hs
    rw [hix, Option.bind_some, if_neg hm, numM_dec hle hv, Option.map_some]
    unfold mkI
    by_cases hk0 : k = 0
    · subst hk0; rfl
    · rw [if_neg hk0, if_neg hk0]
theorem step_ins {i : Instr} {k v : Nat} (h : InsF i k v) {xs : List Func} (hx : xs ≠ []) : stepW xs (wordsOf (joinW (insW i))) = some (pushI xs i) := by
  have hi := instrOf_line h
  have hall := lineP_all k h.hk v
  obtain ⟨_, _, _, a4, a5⟩ := nm_all _ (List.mem_of_getElem? (nm_at h.hk))
  rw [insW_eq h] at hi ⊢
  rw [words_join (lineP_free k _ (nm_at h.hk) v).1 (fun w hw => ⟨(hall w hw).1, (hall w hw).2.1⟩)]
  obtain ⟨r, hr⟩ : ∃ r, lineP k (nm.getD k []) v = nm.getD k [] :: r := by unfold lineP; split <;> exact ⟨_, rfl⟩
  rw [hr] at hi ⊢
  rw [stepW_cons, if_neg a4, if_neg a5, if_neg hx, hi]
  rfl
theorem pushI_snoc (xs : List Func) (f : Func) (i : Instr) : pushI (xs ++ [f]) i = xs ++ [{ f with Code := f.Code ++ [i] }] := by
  unfold pushI
  simp
theorem run_code : ∀ (l : List Instr) (k : Nat) (xs : List Func) (f : Func) (rest : List (List UInt8)), (∀ x ∈ l, ∃ a b, InsF x a b) →
    runL k (xs ++ [f]) (l.map (fun i => joinW (insW i)) ++ rest) = runL (k + l.length) (xs ++ [{ f with Code := f.Code ++ l }]) rest
  | [], k, xs, f, rest, _ => by simp
  | x :: r, k, xs, f, rest, h => by
    obtain ⟨a, b, hx⟩ := h x (by simp)
    rw [List.map_cons, List.cons_append, runL, step_ins hx (by simp)]
    simp only
    rw [pushI_snoc, run_code r (k + 1) xs _ rest (fun y hy => h y (by simp [hy]))]
    simp only [List.length_cons, List.append_assoc, List.singleton_append]
    rw [show k + 1 + r.length = k + (r.length + 1) by omega]
theorem run_func {f : Func} (h : FunF f) (k : Nat) (xs : List Func) (rest : List (List UInt8)) : runL k xs (linesF f ++ rest) = runL (k + (linesF f).length) (xs ++ [f]) rest := by
  unfold linesF
  rw [List.cons_append, runL, step_head h]
  simp only
  rw [run_code f.Code (k + 1) xs _ rest h.i]
  simp only [List.nil_append, List.length_cons, List.length_map]
  rw [show k + 1 + f.Code.length = k + (f.Code.length + 1) by omega]
theorem run_funcs : ∀ (fs : List Func) (k : Nat) (xs : List Func) (rest : List (List UInt8)), (∀ x ∈ fs, FunF x) → runL k xs (fs.flatMap linesF ++ rest) = runL (k + (fs.flatMap linesF).length) (xs ++ fs) rest
  | [], k, xs, rest, _ => by simp
  | f :: r, k, xs, rest, h => by
    rw [List.flatMap_cons, List.append_assoc, run_func (h f (by simp)), run_funcs r _ _ rest (fun y hy => h y (by simp [hy]))]
    simp only [List.length_append, List.append_assoc, List.singleton_append]
    rw [show k + (linesF f).length + (r.flatMap linesF).length = k + ((linesF f).length + (r.flatMap linesF).length) by omega]
theorem read_text {fs : List Func} (h : ∀ x ∈ fs, FunF x) : readT (textB fs) = .inr fs := by
  unfold readT
  rw [textB_lines, show (fs.flatMap linesF).flatMap (fun l => l ++ [10]) = (fs.flatMap linesF).flatMap (fun l => l ++ [10]) ++ [] by simp,
    split_lines _ _ (fun l hl => by obtain ⟨f, hf, hl⟩ := List.mem_flatMap.1 hl; exact linesF_no (h f hf) l hl), run_funcs fs 0 [] _ h]
  rfl
theorem CopyT_eq (p : Program) (hl : p.Funcs.length ≤ 1048576) (hs : ∀ f ∈ p.Funcs, f.Locals.length ≤ 1048576 ∧ f.Code.length ≤ 1048576) : windlassref03_Copy_s p = some p := by
  unfold windlassref03_Copy_s
  have L := rng_inv (σ := List Func) (ρ := Option Program) (xs := p.Funcs) (s0 := []) (fun _ => true) none (fun i s => s = p.Funcs.take i)
    (body := fun (i_2 : Nat) (f_3 : Func) (s_1 : (List Func)) => (((appL 1 ([] : List Int) f_3.Locals).bind fun l_5 => ((appL 24 ([] : List Instr) f_3.Code).bind fun l_6 => ((appL 72 s_1 [(Func.mk f_3.Params l_5 f_3.Result f_3.Keep l_6)]).bind fun l_7 => (some (.nxt l_7))))) : Option (Stp (List Func) (Option Program)))) (by omega) rfl (fun i x s hx e => by
      subst e
      have hlt := (List.getElem?_eq_some_iff.1 hx).1
      have hb := hs x (List.mem_of_getElem? hx)
      rw [if_pos rfl, appL_of (by simp; omega)]
      simp only [Option.bind_some]
      rw [appL_of (by simp; omega)]
      simp only [Option.bind_some]
      rw [appL_of (by simp; omega)]
      refine ⟨_, rfl, ?_⟩
      rw [List.take_succ_eq_append_getElem hlt]
      rw [List.getElem?_eq_getElem hlt] at hx
      cases hx
      rfl)
  simp only [List.all_eq_true, implies_true, if_true] at L
  obtain ⟨s, e1, e2⟩ := L
  rw [e1, e2]
  simp [oc]
theorem u8_nn {k : Int} (h : (Lit.int .u8 k).wf = true) : 0 ≤ k ∧ k ≤ 255 := by
  have h1 : IntKind.u8.min ≤ k ∧ k ≤ IntKind.u8.max := by simpa [Lit.wf] using h
  have e1 : IntKind.u8.min = 0 := rfl
  have e2 : IntKind.u8.max = 255 := rfl
  omega
/-- What the arguments' reading gives. -/
theorem ok_pro {p : Program} (hp : Program.Ok 1048576 p) : p.Funcs.length ≤ 1048576 ∧ (∀ f ∈ p.Funcs, f.Locals.length ≤ 1048576 ∧ f.Code.length ≤ 1048576) ∧ (∀ f ∈ p.Funcs, ∀ x ∈ f.Locals, 0 ≤ x) ∧ (∀ f ∈ p.Funcs, ∀ x ∈ f.Code, (Lit.int .u64 x.Imm).wf = true) :=
  ⟨hp.1, fun f hf => ⟨(hp.2 f hf).2.1.1, (hp.2 f hf).2.2.2.2.1⟩, fun f hf x hx => (u8_nn ((hp.2 f hf).2.1.2 x hx)).1, fun f hf x hx => ((hp.2 f hf).2.2.2.2.2 x hx).2.2⟩
theorem short_pro {p : Program} (hp : Program.Ok 1048576 p) : Short p.Funcs := by
  obtain ⟨h1, h2, _⟩ := ok_pro hp
  exact ⟨by omega, fun f hf => by have := h2 f hf; omega⟩
theorem Parse_text {fs : List Func} (h : ∀ x ∈ fs, FunF x) (hl : (textB fs).length ≤ 1048576000) : text_Parse_s (bsl (textB fs)) = some (Program.mk fs, 0, 0) := by
  rw [text_Parse_eq _ hl, read_text h]
end Go.Proofs.YtkfhljombjmdbaaDoor
/- Plain law: TextLoose. -/
namespace Go.Proofs.YtkfhljombjmdbaaDoor
open Go Go.Ab Go.RowKit
set_option maxRecDepth 20000
set_option linter.unusedVariables false
set_option linter.unusedSimpArgs false
theorem cells5 : Tryd.prog.cellsOf 5 = 1 := by kernel_rfl
theorem firstO : windlasslaw04_first_s = some true := by kernel_rfl
/-- What stands in a byte's place. -/
def gB (n : Nat) (c : UInt8) : List UInt8 :=
  if c = 32 then (if n = 0 then [32] else if n = 1 then [32, 32] else [32, 32, 32, 32, 32])
  else if c = 10 then (if n = 0 then [10] else if n = 1 then [32, 10, 10, 32, 32] else [10, 35, 32, 102, 117, 110, 99, 10]) else [c]
def lo (N : Nat → Nat) : Nat → List UInt8 → List UInt8
  | _, [] => []
  | i, c :: r => gB (N i) c ++ lo N (i + 1) r
theorem lo_app (N : Nat → Nat) : ∀ (a b : List UInt8) (i : Nat), lo N i (a ++ b) = lo N i a ++ lo N (i + a.length) b
  | [], b, i => by simp [lo]
  | c :: a, b, i => by
    rw [List.cons_append, lo, lo, lo_app N a b (i + 1), List.append_assoc, List.length_cons, show i + 1 + a.length = i + (a.length + 1) by omega]
theorem lo_word (N : Nat → Nat) : ∀ (w : List UInt8) (i : Nat), (32 : UInt8) ∉ w → (10 : UInt8) ∉ w → lo N i w = w
  | [], _, _, _ => rfl
  | c :: w, i, h1, h2 => by
    have c1 : c ≠ 32 := fun e => h1 (by simp [e])
    have c2 : c ≠ 10 := fun e => h2 (by simp [e])
    rw [lo, lo_word N w (i + 1) (fun e => h1 (by simp [e])) (fun e => h2 (by simp [e]))]
    unfold gB
    rw [if_neg c1, if_neg c2]
    rfl
theorem splitL_cut (c : UInt8) : ∀ (a b : List UInt8), splitL c (a ++ c :: b) = splitL c a ++ splitL c b
  | [], b => by simp [splitL]
  | x :: a, b => by
    have ih := splitL_cut c a b
    obtain ⟨h, t, e⟩ := List.exists_cons_of_ne_nil (splitL_ne c a)
    rw [e] at ih
    have hx : ∀ L, splitL c (x :: L) = if x = c then [] :: splitL c L else match splitL c L with
      | w :: ws => (x :: w) :: ws
      | [] => [[x]] := fun L => by
      conv => lhs; unfold splitL
      rfl
    rw [List.cons_append, hx, hx, ih, e]
    split <;> rfl
theorem words_cut (a b : List UInt8) : wordsOf (a ++ 32 :: b) = wordsOf a ++ wordsOf b := by
  unfold wordsOf
  rw [splitL_cut, List.filter_append]
theorem words_nil : wordsOf [] = [] := by decide
theorem words_b (b : List UInt8) : wordsOf (32 :: b) = wordsOf b := by
  have := words_cut [] b
  rw [words_nil] at this
  simpa using this
theorem words_e (a : List UInt8) : wordsOf (a ++ [32]) = wordsOf a := by
  rw [words_cut, words_nil, List.append_nil]
theorem words_pre : ∀ (n : Nat) (b : List UInt8), wordsOf (List.replicate n 32 ++ b) = wordsOf b
  | 0, b => rfl
  | n + 1, b => by rw [List.replicate_succ, List.cons_append, words_b, words_pre n b]
/-- A line of words with single blanks. -/
def GL (l : List UInt8) : Prop := ∃ ws, l = joinW ws ∧ ws ≠ [] ∧ ws.length ≤ 5 ∧ ∀ w ∈ ws, (32 : UInt8) ∉ w ∧ w ≠ [] ∧ (10 : UInt8) ∉ w
theorem blank_is (n : Nat) : ∃ m, gB n 32 = 32 :: List.replicate m 32 ∧ m ≤ 4 := by
  unfold gB
  rw [if_pos rfl]
  split
  · exact ⟨0, rfl, by omega⟩
  · split
    · exact ⟨1, rfl, by omega⟩
    · exact ⟨4, rfl, by omega⟩
theorem lo_join (N : Nat → Nat) : ∀ (ws : List (List UInt8)) (i : Nat), ws ≠ [] → (∀ w ∈ ws, (32 : UInt8) ∉ w ∧ w ≠ [] ∧ (10 : UInt8) ∉ w) →
    wordsOf (lo N i (joinW ws)) = ws ∧ (10 : UInt8) ∉ lo N i (joinW ws) ∧ (lo N i (joinW ws)).length ≤ (joinW ws).length + 4 * ws.length
  | [], _, h, _ => (h rfl).elim
  | [w], i, _, h => by
    obtain ⟨h1, h2, h3⟩ := h w (by simp)
    show wordsOf (lo N i w) = [w] ∧ _
    rw [show joinW [w] = w from rfl, lo_word N w i h1 h3]
    exact ⟨words_join (ws := [w]) (by simp) (fun x hx => by rw [List.mem_singleton.1 hx]; exact ⟨h1, h2⟩), h3, by simp⟩
  | w :: x :: r, i, _, h => by
    obtain ⟨h1, h2, h3⟩ := h w (by simp)
    obtain ⟨m, hm, hm4⟩ := blank_is (N (i + w.length))
    obtain ⟨a1, a2, a3⟩ := lo_join N (x :: r) (i + w.length + 1) (by simp) (fun y hy => h y (by simp [hy]))
    have e : lo N i (joinW (w :: x :: r)) = w ++ 32 :: (List.replicate m 32 ++ lo N (i + w.length + 1) (joinW (x :: r))) := by
      show lo N i (w ++ 32 :: joinW (x :: r)) = _
      rw [lo_app, lo_word N w i h1 h3, lo, hm]
      simp
    rw [e]
    refine ⟨?_, ?_, ?_⟩
    · rw [words_cut, words_pre, a1, show wordsOf w = [w] from words_join (ws := [w]) (by simp) (fun y hy => by rw [List.mem_singleton.1 hy]; exact ⟨h1, h2⟩)]
      rfl
    · simp only [List.mem_append, List.mem_cons, List.mem_replicate, not_or]
      exact ⟨h3, by decide, fun hh => absurd hh.2 (by decide), a2⟩
    · show _ ≤ (w ++ 32 :: joinW (x :: r)).length + _
      simp only [List.length_append, List.length_cons, List.length_replicate] at a3 ⊢
      omega
theorem GL.lse {l : List UInt8} (h : GL l) (N : Nat → Nat) (i : Nat) : wordsOf (lo N i l) = wordsOf l ∧ (10 : UInt8) ∉ lo N i l ∧ (lo N i l).length ≤ l.length + 20 := by
  obtain ⟨ws, rfl, h0, h5, hw⟩ := h
  obtain ⟨a1, a2, a3⟩ := lo_join N ws i h0 hw
  exact ⟨by rw [a1, words_join h0 (fun w hh => ⟨(hw w hh).1, (hw w hh).2.1⟩)], a2, by omega⟩
/-- The lines' run, their numbers left out. -/
def runO : List Func → List (List UInt8) → Option (List Func)
  | xs, [] => some xs
  | xs, l :: r => (stepW xs (wordsOf l)).bind fun ys => runO ys r
theorem runO_of : ∀ (ls : List (List UInt8)) (k : Nat) (xs ys : List Func), runL k xs ls = .inr ys → runO xs ls = some ys
  | [], k, xs, ys, h => by cases h; rfl
  | l :: r, k, xs, ys, h => by
    rw [runL] at h
    rw [runO]
    cases e : stepW xs (wordsOf l) with
    | none => rw [e] at h; cases h
    | some zs => rw [e] at h; exact runO_of r (k + 1) zs ys h
theorem runL_of : ∀ (ls : List (List UInt8)) (k : Nat) (xs ys : List Func), runO xs ls = some ys → runL k xs ls = .inr ys
  | [], k, xs, ys, h => by cases h; rfl
  | l :: r, k, xs, ys, h => by
    rw [runO] at h
    rw [runL]
    cases e : stepW xs (wordsOf l) with
    | none => rw [e] at h; cases h
    | some zs => rw [e] at h; exact runL_of r (k + 1) zs ys h
theorem no_rep (n : Nat) : (10 : UInt8) ∉ List.replicate n (32 : UInt8) := by
  rw [List.mem_replicate]
  exact fun h => absurd h.2 (by decide)
theorem rem_words : wordsOf [35, 32, 102, 117, 110, 99] = [[35], [102, 117, 110, 99]] := by decide
theorem loose_run (N : Nat → Nat) : ∀ (ls : List (List UInt8)) (i p : Nat) (xs : List Func), (∀ l ∈ ls, GL l) →
    runO xs (splitL 10 (List.replicate p 32 ++ lo N i (ls.flatMap (fun l => l ++ [10])))) = runO xs ls
  | [], i, p, xs, _ => by
    rw [List.flatMap_nil, lo, List.append_nil, splitL_none 10 _ (no_rep p)]
    show (stepW xs (wordsOf (List.replicate p 32))).bind (fun ys => runO ys []) = some xs
    have : wordsOf (List.replicate p 32) = [] := by
      have := words_pre p []
      rw [List.append_nil, words_nil] at this
      exact this
    rw [this]
    rfl
  | l :: r, i, p, xs, h => by
    obtain ⟨a1, a2, _⟩ := (h l (by simp)).lse N i
    have ih := fun i p xs => loose_run N r i p xs (fun x hx => h x (by simp [hx]))
    have e : (l :: r).flatMap (fun l => l ++ [10]) = l ++ 10 :: r.flatMap (fun l => l ++ [10]) := by simp
    rw [e, lo_app, lo]
    generalize hR : r.flatMap (fun l => l ++ [10]) = R at ih ⊢
    generalize lo N i l = L at a1 a2 ⊢
    generalize hi' : i + l.length + 1 = i'
    have hpl : (10 : UInt8) ∉ List.replicate p 32 ++ L := by
      rw [List.mem_append, not_or]
      exact ⟨no_rep p, a2⟩
    have w1 : wordsOf (List.replicate p 32 ++ L) = wordsOf l := by rw [words_pre, a1]
    rw [runO]
    unfold gB
    rw [if_neg (by decide), if_pos rfl]
    split
    · rw [show List.replicate p 32 ++ (L ++ ([10] ++ lo N i' R)) = (List.replicate p 32 ++ L) ++ 10 :: lo N i' R by simp, splitL_app 10 _ hpl, runO, w1]
      congr 1
      funext ys
      have := ih i' 0 ys
      simpa using this
    · split
      · have hpl2 : (10 : UInt8) ∉ List.replicate p 32 ++ L ++ [32] := by
          rw [List.mem_append, not_or]
          exact ⟨hpl, by decide⟩
        rw [show List.replicate p 32 ++ (L ++ ([32, 10, 10, 32, 32] ++ lo N i' R)) = (List.replicate p 32 ++ L ++ [32]) ++ 10 :: ([] ++ 10 :: (List.replicate 2 32 ++ lo N i' R)) by simp [List.replicate], splitL_app 10 _ hpl2, splitL_app 10 [] (by simp), runO, words_e, w1]
        congr 1
        funext ys
        rw [runO, words_nil]
        show runO ys _ = _
        exact ih i' 2 ys
      · rw [show List.replicate p 32 ++ (L ++ ([10, 35, 32, 102, 117, 110, 99, 10] ++ lo N i' R)) = (List.replicate p 32 ++ L) ++ 10 :: ([35, 32, 102, 117, 110, 99] ++ 10 :: lo N i' R) by simp, splitL_app 10 _ hpl, splitL_app 10 [35, 32, 102, 117, 110, 99] (by decide), runO, w1]
        congr 1
        funext ys
        rw [runO, rem_words, stepW_cons, if_pos (by decide)]
        show runO ys _ = _
        have := ih i' 0 ys
        simpa using this
theorem loose_len (N : Nat → Nat) : ∀ (ls : List (List UInt8)) (i : Nat), (∀ l ∈ ls, GL l) → (lo N i (ls.flatMap (fun l => l ++ [10]))).length ≤ (ls.flatMap (fun l => l ++ [10])).length + 27 * ls.length
  | [], i, _ => by simp [lo]
  | l :: r, i, h => by
    obtain ⟨_, _, a3⟩ := (h l (by simp)).lse N i
    have ih := loose_len N r (i + l.length + 1) (fun x hx => h x (by simp [hx]))
    have e : (l :: r).flatMap (fun l => l ++ [10]) = l ++ 10 :: r.flatMap (fun l => l ++ [10]) := by simp
    rw [e, lo_app, lo]
    have hg : (gB (N (i + l.length)) 10).length ≤ 8 := by
      unfold gB
      rw [if_neg (by decide), if_pos rfl]
      split
      · simp
      · split <;> simp
    simp only [List.length_append, List.length_cons] at ih ⊢
    omega
theorem linesF_GL {f : Func} (h : FunF f) : ∀ l ∈ linesF f, GL l := by
  intro l hl
  rcases List.mem_cons.1 hl with rfl | hl
  · exact ⟨headW f, rfl, by unfold headW; simp, by unfold headW; simp, headW_all f⟩
  · obtain ⟨i, hi, rfl⟩ := List.mem_map.1 hl
    obtain ⟨k, v, q⟩ := h.i i hi
    rw [insW_eq q]
    exact ⟨_, rfl, (lineP_free k _ (nm_at q.hk) v).1, by unfold lineP; split <;> simp, lineP_all k q.hk v⟩
theorem read_loose {fs : List Func} (h : ∀ x ∈ fs, FunF x) (N : Nat → Nat) : readT (lo N 0 (textB fs)) = .inr fs := by
  have hG : ∀ l ∈ fs.flatMap linesF, GL l := fun l hl => by obtain ⟨f, hf, hl⟩ := List.mem_flatMap.1 hl; exact linesF_GL (h f hf) l hl
  have hrun := run_funcs fs 0 [] [] h
  have h1 : runO [] (fs.flatMap linesF) = some fs := runO_of _ 0 [] fs (by simpa [runL] using hrun)
  unfold readT
  rw [textB_lines]
  refine runL_of _ 0 [] fs ?_
  have := loose_run N (fs.flatMap linesF) 0 0 [] hG
  rw [h1] at this
  simpa using this
theorem lines_leO : ∀ (l : List Func), (∀ x ∈ l, FunF x) → (l.flatMap linesF).length ≤ 65536 * l.length
  | [], _ => by simp
  | x :: r, h => by
    have h1 := (h x (by simp)).c
    have := lines_leO r (fun y hy => h y (by simp [hy]))
    have hc : (linesF x).length = 1 + x.Code.length := by unfold linesF; simp; omega
    rw [List.flatMap_cons, List.length_append, hc, List.length_cons]
    omega
/-- The gap at place j. -/
def gapN (gaps : List Int) (j : Nat) : Nat := if gaps.length = 0 then 0 else (gaps.getD (j % gaps.length) 0).toNat % 3
/-- One byte's round. -/
def looB (T : ByteArray) (gaps_01 : List Int) (s_3 : ByteArray × Int) : Option (Stp (ByteArray × Int) (Option Bool)) :=
  (if (decide (s_3.2 < (ByteArray.size T : Int))) then (jp (fun (s_5 : ByteArray) => (some (.nxt (s_5, (I64 (s_3.2 + 1)))))) (fun k_4 => (jp (fun (s_7 : Int) => ((strI T s_3.2).bind fun b_10 => (if (b_10 == 32) then ((getI [(ByteArray.mk #[32]), (ByteArray.mk #[32, 32]), (ByteArray.mk #[32, 32, 32, 32, 32])] s_7).bind fun y_11 => ((catS s_3.1 y_11).bind fun s_12 => (k_4 s_12))) else (if (b_10 == 10) then ((getI [(ByteArray.mk #[10]), (ByteArray.mk #[32, 10, 10, 32, 32]), (ByteArray.mk #[10, 35, 32, 102, 117, 110, 99, 10])] s_7).bind fun y_13 => ((catS s_3.1 y_13).bind fun s_14 => (k_4 s_14))) else ((subS T s_3.2 (I64 (s_3.2 + 1))).bind fun s_15 => ((catS s_3.1 s_15).bind fun s_16 => (k_4 s_16))))))) (fun k_6 => (if (decide ((List.length gaps_01 : Int) > 0)) then (gd ((List.length gaps_01 : Int) ≠ 0) ((getI gaps_01 (Int.tmod s_3.2 (List.length gaps_01 : Int))).bind fun y_9 => (k_6 (I64 (Int.tmod y_9 3))))) else (k_6 0)))))) else (some (.brk (s_3.1, s_3.2))))
theorem jp_d {σ β : Type} (K : σ → Option β) (f : (σ → Option β) → Option β) : jp K f = f K := rfl
theorem looB_eq (T : List UInt8) (hT : T.length ≤ 1000000000) (gaps : List Int) (hg : ∀ x ∈ gaps, 0 ≤ x ∧ x ≤ 255) (b : List UInt8) (j : Nat) (hj : j < T.length) (hb : b.length ≤ 8 * j) :
    looB (bsl T) gaps (bsl b, (j : Int)) = some (.nxt (bsl (b ++ gB (gapN gaps j) T[j]), ((j + 1 : Nat) : Int))) := by
  have eI : I64 ((j : Int) + 1) = ((j + 1 : Nat) : Int) := by rw [I64_of (by omega)]; rfl
  have hs := strI_b T j hj
  have hsub : subS (bsl T) (j : Int) ((j + 1 : Nat) : Int) = some (bsl [T[j]]) := by
    rw [sub_b T j (j + 1) (by omega) (by omega), List.take_succ_eq_append_getElem hj, List.drop_append_of_le_length (by simp; omega)]
    simp
  have hn3 : gapN gaps j < 3 := by unfold gapN; split <;> omega
  have hgap : ∀ {β : Type} (G : Int → Option β), jp G (fun k_6 => (if (decide ((List.length gaps : Int) > 0)) = true then (gd ((List.length gaps : Int) ≠ 0) ((getI gaps (Int.tmod (j : Int) (List.length gaps : Int))).bind fun y_9 => (k_6 (I64 (Int.tmod y_9 3))))) else (k_6 0))) = G ((gapN gaps j : Nat) : Int) := by
    intro β G
    show (if (decide ((List.length gaps : Int) > 0)) = true then (gd ((List.length gaps : Int) ≠ 0) ((getI gaps (Int.tmod (j : Int) (List.length gaps : Int))).bind fun y_9 => (G (I64 (Int.tmod y_9 3))))) else (G 0)) = _
    unfold gapN
    by_cases e : gaps.length = 0
    · rw [if_neg (by simp [e]), if_pos e]; rfl
    · rw [if_pos (by simp; omega), if_neg e, gd_true (by omega)]
      have hm : Int.tmod (j : Int) (gaps.length : Int) = ((j % gaps.length : Nat) : Int) := by rw [Int.tmod_eq_emod_of_nonneg (by omega)]; rfl
      have hlt : j % gaps.length < gaps.length := Nat.mod_lt _ (by omega)
      rw [hm, getI_nat, List.getElem?_eq_getElem hlt, Option.bind_some]
      obtain ⟨g0, g1⟩ := hg _ (List.getElem_mem hlt)
      congr 1
      have e3 : gaps.getD (j % gaps.length) 0 = gaps[j % gaps.length] := by simp [hlt]
      rw [e3, Int.tmod_eq_emod_of_nonneg g0]
      generalize gaps[j % gaps.length] = z at g0 g1
      rw [I64_of (by omega)]
      omega
  have t32 : ∀ c : UInt8, (((c).toNat : Int) == 32) = decide (c = 32) := by
    intro c
    by_cases h : c = 32
    · rw [h]; rfl
    · rw [decide_eq_false h, beq_eq_false_iff_ne]
      intro e
      exact h (UInt8.toNat_inj.1 (by show c.toNat = 32; omega))
  have t10 : ∀ c : UInt8, (((c).toNat : Int) == 10) = decide (c = 10) := by
    intro c
    by_cases h : c = 10
    · rw [h]; rfl
    · rw [decide_eq_false h, beq_eq_false_iff_ne]
      intro e
      exact h (UInt8.toNat_inj.1 (by show c.toNat = 10; omega))
  unfold looB
  simp only
  rw [if_pos (by rw [bsl_size]; simpa using hj)]
  simp only [eI]
  rw [jp_d]
  rw [hgap, hs, Option.bind_some, t32, t10]
  generalize T[j] = c at hsub ⊢
  unfold gB
  by_cases h32 : c = 32
  · rw [if_pos (by simpa using h32), if_pos h32]
    have hget : getI [(ByteArray.mk #[32]), (ByteArray.mk #[32, 32]), (ByteArray.mk #[32, 32, 32, 32, 32])] ((gapN gaps j : Nat) : Int) = some (bsl (if gapN gaps j = 0 then [32] else if gapN gaps j = 1 then [32, 32] else [32, 32, 32, 32, 32])) := by
      rcases (by omega : gapN gaps j = 0 ∨ gapN gaps j = 1 ∨ gapN gaps j = 2) with e | e | e <;> rw [e] <;> rfl
    rw [hget, Option.bind_some, cat_b _ _ (by split <;> (try split) <;> simp <;> omega), Option.bind_some]
  · rw [if_neg (by simpa using h32), if_neg h32]
    by_cases h10 : c = 10
    · rw [if_pos (by simpa using h10), if_pos h10]
      have hget : getI [(ByteArray.mk #[10]), (ByteArray.mk #[32, 10, 10, 32, 32]), (ByteArray.mk #[10, 35, 32, 102, 117, 110, 99, 10])] ((gapN gaps j : Nat) : Int) = some (bsl (if gapN gaps j = 0 then [10] else if gapN gaps j = 1 then [32, 10, 10, 32, 32] else [10, 35, 32, 102, 117, 110, 99, 10])) := by
        rcases (by omega : gapN gaps j = 0 ∨ gapN gaps j = 1 ∨ gapN gaps j = 2) with e | e | e <;> rw [e] <;> rfl
      rw [hget, Option.bind_some, cat_b _ _ (by split <;> (try split) <;> simp <;> omega), Option.bind_some]
    · rw [if_neg (by simpa using h10), if_neg h10, hsub, Option.bind_some, cat_b _ _ (by simp; omega), Option.bind_some]
theorem gB_len (n : Nat) (c : UInt8) : (gB n c).length ≤ 8 := by
  unfold gB
  split
  · split
    · simp
    · split <;> simp
  · split
    · split
      · simp
      · split <;> simp
    · simp
theorem loose_loop (T : List UInt8) (hT : T.length ≤ 1000000000) (gaps : List Int) (hg : ∀ x ∈ gaps, 0 ≤ x ∧ x ≤ 255) (F : Nat) (hF : T.length < F) :
    whileN (looB (bsl T) gaps) F (bsl [], 0) = some (.fin (bsl (lo (gapN gaps) 0 T), (T.length : Int))) := by
  refine whileN_fin (fun s => ∃ (j : Nat) (b : List UInt8), s = (bsl b, (j : Int)) ∧ j ≤ T.length ∧ b.length ≤ 8 * j ∧ b ++ lo (gapN gaps) j (T.drop j) = lo (gapN gaps) 0 T) (fun s => T.length - s.2.toNat) _ ?_ F _ ⟨0, [], rfl, Nat.zero_le _, by simp, by simp⟩ (by simp; omega)
  rintro s ⟨j, b, rfl, hj, hb, h1⟩
  by_cases hlt : j < T.length
  · left
    rw [looB_eq T hT gaps hg b j hlt hb]
    refine ⟨_, rfl, ⟨j + 1, _, rfl, hlt, ?_, ?_⟩, by simp; omega⟩
    · have := gB_len (gapN gaps j) T[j]
      simp only [List.length_append]
      omega
    · rw [List.drop_eq_getElem_cons hlt, lo] at h1
      rw [← h1]
      simp
  · right
    have hje : j = T.length := by omega
    subst hje
    unfold looB
    simp only
    rw [if_neg (by rw [bsl_size]; simp)]
    rw [List.drop_length] at h1
    simp [lo] at h1
    rw [h1]
theorem loose_law (p : Program) (gaps : List Int) (hp : Program.Ok 1048576 p) (hg : gaps.length ≤ 1048576 ∧ ∀ x ∈ gaps, (Lit.int .u8 x).wf = true) : windlasslaw04_TextLoose_s 4000000000 p gaps = some true := by
  obtain ⟨h1, h2, h3, h4⟩ := ok_pro hp
  unfold windlasslaw04_TextLoose_s
  rw [firstO, Option.bind_some]
  simp only [Bool.not_true, Bool.false_eq_true, if_false]
  cases he : enc.encP p with
  | false =>
    rw [Print_no he, Option.bind_some, if_pos (by decide), show (ByteArray.mk #[]) = bsl [] from rfl, beq_bsl]
    rfl
  | true =>
    have H := pro_form he h3 h4
    have hlen := textB_len p.Funcs H.f
    have hn := H.n
    rw [Print_ok he H, Option.bind_some, if_neg (by simp)]
    have hG : ∀ l ∈ p.Funcs.flatMap linesF, GL l := fun l hl => by obtain ⟨f, hf, hl⟩ := List.mem_flatMap.1 hl; exact linesF_GL (H.f f hf) l hl
    have hL := lines_leO p.Funcs H.f
    have hll := loose_len (gapN gaps) (p.Funcs.flatMap linesF) 0 hG
    rw [← textB_lines] at hll
    have hloop := loose_loop (textB p.Funcs) (by omega) gaps (fun x hx => u8_nn (hg.2 x hx)) 4000000000 (by omega)
    refine bind_eq ⟨_, hloop, ?_⟩
    simp only [oc]
    rw [text_Parse_eq _ (by omega), read_loose H.f, Option.bind_some]
    simp only [jp, beq_self_eq_true, if_true]
    rw [Same_refl (short_pro hp), Option.bind_some]
end Go.Proofs.YtkfhljombjmdbaaDoor
/- From the row's list to the settings: the powers of ten, MaxLen, the two errors. -/
namespace Go.Proofs.YtkfhljombjmdbaaDoor
open Go Go.Ab Go.RowKit
set_option maxRecDepth 20000
set_option linter.unusedVariables false
set_option linter.unusedSimpArgs false

theorem pow10_laid : (Rows.laid_internal_strconv_uint64pow10 : DataW Unit) = Lib.tabData .u64 pow10T := by kernel_rfl
theorem glob_pow10 : Tryd.prog.globalNamed "internal/strconv.uint64pow10" = some 0 := by kernel_rfl
theorem glob_range : Tryd.prog.globalNamed "strconv.ErrRange" = some 3 := by kernel_rfl
theorem glob_syntax : Tryd.prog.globalNamed "strconv.ErrSyntax" = some 2 := by kernel_rfl

theorem star248 : "*" ++ "errors.errorString" = "*errors.errorString" := by decide
theorem only248 (u : TypeId) (h : Tryd.prog.typeName? 3 u = some "*errors.errorString") : u = 248 :=
  typeName_ptr_named (nm := "errors.errorString") (by rw [star248]; kernel_rfl) (by kernel_rfl) (by decide) u (by rw [star248]; exact h)

theorem err_at {W : World} {nm : String} {b : Nat} {ti : TypeId} {v : Value} (hg : Tryd.prog.globalNamed nm = some b) (h : W.var? Tryd.prog nm = some #[v]) (hv : v = .nilIface ∨ ∃ te pe, v = .iface te pe) : b < W.heap.size ∧ ∃ cs t fz, W.heap[b]? = some (.cells cs t fz) ∧ someErr cs := by
  have := World.var?_cell hg h 0
  obtain ⟨cs, t, fz, e, q⟩ := tab_cell (b := b) (W := W) (v := v) (by simpa using this)
  exact tab_here e ⟨v, q, hv⟩

theorem tab_of {W : World} (h : laidMet Tryd.prog Rows.traceTextsUptoRow.laid W) (hsh : W.ShapedOpen Tryd.prog) : TabOK W.heap.size W := by
  have h3 := h.tail.tail
  have h5 := h3.tail.tail
  have h6 := h5.tail
  obtain ⟨m, hm⟩ : ∃ m, W.cell? ⟨1, 0, none⟩ = some (.int .i64 m) := Tryd.laysM146.s1_3 W hsh
  obtain ⟨a0, s0, hv0, -, -, -⟩ := laid_sentinel h5 glob_range (by kernel_rfl) Tryd.underlying129 only248 Tryd.underlying248 Tryd.underlying250 rfl rfl Tryd.underlying9 (by kernel_rfl) (by kernel_rfl)
  obtain ⟨a1, s1, hv1, -, -, -⟩ := laid_sentinel h6 glob_syntax (by kernel_rfl) Tryd.underlying129 only248 Tryd.underlying248 Tryd.underlying250 rfl rfl Tryd.underlying9 (by kernel_rfl) (by kernel_rfl)
  have hp : Lib.TabIs Tryd.prog W "internal/strconv.uint64pow10" .u64 pow10T := by
    have h3' : laidMet Tryd.prog (("internal/strconv.uint64pow10", Rows.laid_internal_strconv_uint64pow10) :: _) W := h3
    rw [pow10_laid] at h3'
    exact Lib.tabIs_of_head glob_pow10 (t := 212) (e := 24) (n := 20) (by kernel_rfl) Tryd.underlying212 Tryd.underlying24 (by kernel_rfl) (by kernel_rfl) h3'
  intro b p e
  match b, e with
  | 0, e =>
    cases Option.some.inj e
    obtain ⟨t, fz, q⟩ := tab_is glob_pow10 hp
    exact tab_here q rfl
  | 1, e =>
    cases Option.some.inj e
    obtain ⟨cs, t, fz, q1, q2⟩ := tab_cell hm
    exact tab_here q1 ⟨m, q2⟩
  | 2, e => cases Option.some.inj e; exact err_at (ti := 129) glob_syntax hv1 (Or.inr ⟨_, _, rfl⟩)
  | 3, e => cases Option.some.inj e; exact err_at (ti := 129) glob_range hv0 (Or.inr ⟨_, _, rfl⟩)
  | n + 4, e => cases e
end Go.Proofs.YtkfhljombjmdbaaDoor
