/- The sets of live.solve: the functions of bits on any heap. -/
import Derived.Test.YtgoejecjmodjiaaDoorWlTz
import Derived.Test.YtgoejecjmodjiaaDoorGenB
namespace Go.Proofs.YtgoejecjmodjiaaDoor
open Go Go.Ab
set_option linter.unusedVariables false
set_option linter.unusedSimpArgs false
def isS (S : List Ob) (p pw v : Nat) (s : Bits_Set) : Prop :=
  hp S p = .arr 0 [.int .i64 s.n, .ref pw v 0 (List.length s.words) none] ∧ hp S pw = .arr v (flat (avI .u64) s.words)
def putS (S : List Ob) (p pw v : Nat) (s : Bits_Set) : List Ob :=
  setAt (setAt S p (.arr 0 [.int .i64 s.n, .ref pw v 0 (List.length s.words) none])) pw (.arr v (flat (avI .u64) s.words))
section
variable {S : List Ob} {p pw q qw v v' : Nat} {s t : Bits_Set}
theorem hp_putS {i : Nat} (h1 : i ≠ p) (h2 : i ≠ pw) : hp (putS S p pw v s) i = hp S i := by
  simp only [putS, hp_setAt]; rw [upd_no h2, upd_no h1]
theorem isS_put (h : p ≠ pw) : isS (putS S p pw v s) p pw v s := by
  simp only [isS, putS, hp_setAt]
  exact ⟨by rw [upd_no h, upd_eq], upd_eq⟩
theorem isS_lt (h : isS S p pw v s) : p < S.length ∧ pw < S.length := ⟨hp_lt h.1, hp_lt h.2⟩
theorem putS_len (h : isS S p pw v s) {v' : Nat} {t : Bits_Set} : (putS S p pw v' t).length = S.length := by
  have := isS_lt h
  simp only [putS]
  rw [setAt_len _ _ _ (by rw [setAt_len _ _ _ (by omega)]; omega), setAt_len _ _ _ (by omega)]
  omega
theorem putS_newlen : (putS S S.length (S.length + 1) v s).length = S.length + 2 := by
  simp only [putS]
  rw [setAt_len _ _ _ (by rw [setAt_len _ _ _ (Nat.le_refl _)]; omega), setAt_len _ _ _ (Nat.le_refl _)]
  omega
theorem isS_congr {S' : List Ob} (h : isS S p pw v s) (h1 : hp S' p = hp S p) (h2 : hp S' pw = hp S pw) : isS S' p pw v s := by
  unfold isS; rw [h1, h2]; exact h
theorem frIn2 {M : List Nat} {T : List Ob} {o o' O' v0 V : Nat} {n : Int} {k : Nat} {cs CS : List AV} (h : hp S (M.getD o 0) = .arr 0 [.int .i64 n, .ref O' V 0 k none]) (h1 : Nat.blt o' T.length = true) (h2 : M.getD o' 0 = O') (h3 : hp S O' = .arr V CS) (h4 : hp T o' = .arr v0 cs) :
    FrIn M T S o (.arr 0 [.int .i64 n, .ref o' v0 0 k none]) :=
  fr_in h rfl (.cons (rn_b rfl) (.cons (fi_ref h1 h2 h3 h4) (.nil (Nat.zero_le _))))
theorem frOut2 {M : List Nat} {T T' S' : List Ob} {o' O' v0 V : Nat} {n : Int} {k : Nat} {cs CS : List AV} (h1 : Nat.blt o' T'.length = true) (h2 : frN M T S o' = O') (h3 : hp T' o' = .arr v0 cs) (h4 : hp S' O' = .arr V CS) :
    RnL (frO M T T' S S') 0 [.int .i64 n, .ref o' v0 0 k none] [.int .i64 n, .ref O' V 0 k none] := .cons (rn_b rfl) (.cons (fo_ref h1 h2 h3 h4) (.nil (Nat.zero_le _)))

theorem ev_del {i : Int} {r} (h : bits_Set_Del_pNR_s s.n s.words i = some r) (hs : isS S p pw v s) (hne : p ≠ pw) :
    Ev Tryd.prog 58 [.ptr p 0 0, .int .i64 i] (hp S) (.bool r.1) (hp (putS S p pw (v + 1) ⟨r.2.1, r.2.2⟩)) := by
  have hk := isS_put (S := S) (v := v + 1) (s := ⟨r.2.1, r.2.2⟩) hne
  refine (bits_Set_Del_pNR_ev h).frame [p, pw] rfl (by simp [hne]) (Nat.le_refl _) (by rw [putS_len hs]; rfl)
    ⟨frIn2 hs.1 rfl rfl hs.2 rfl, fr_in hs.2 rfl (.refl ((encI .u64).blwf 0 _)), trivial⟩
    ⟨fr_outS hk.1 rfl (frOut2 rfl rfl rfl hk.2) hs.1 rfl, fr_out hk.2 rfl (.refl ((encI .u64).blwf 0 _)) hs.2 (by simp [Nat.blt_eq]), trivial⟩
    (fun j hj hm => ?_) rfl (.cons (fi_ptr rfl rfl hs.1 rfl) (.cons (rn_b rfl) (.nil (Nat.zero_le _)))) (rn_b rfl)
  simp only [List.mem_cons, List.not_mem_nil, or_false, not_or] at hm
  exact hp_putS hm.1 hm.2
theorem ev_add {i : Int} {r} (h : bits_Set_Add_pNR_s s.n s.words i = some r) (hs : isS S p pw v s) (hne : p ≠ pw) :
    Ev Tryd.prog 60 [.ptr p 0 0, .int .i64 i] (hp S) (.bool r.1) (hp (putS S p pw (v + 1) ⟨r.2.1, r.2.2⟩)) := by
  have hk := isS_put (S := S) (v := v + 1) (s := ⟨r.2.1, r.2.2⟩) hne
  refine (bits_Set_Add_pNR_ev h).frame [p, pw] rfl (by simp [hne]) (Nat.le_refl _) (by rw [putS_len hs]; rfl)
    ⟨frIn2 hs.1 rfl rfl hs.2 rfl, fr_in hs.2 rfl (.refl ((encI .u64).blwf 0 _)), trivial⟩
    ⟨fr_outS hk.1 rfl (frOut2 rfl rfl rfl hk.2) hs.1 rfl, fr_out hk.2 rfl (.refl ((encI .u64).blwf 0 _)) hs.2 (by simp [Nat.blt_eq]), trivial⟩
    (fun j hj hm => ?_) rfl (.cons (fi_ptr rfl rfl hs.1 rfl) (.cons (rn_b rfl) (.nil (Nat.zero_le _)))) (rn_b rfl)
  simp only [List.mem_cons, List.not_mem_nil, or_false, not_or] at hm
  exact hp_putS hm.1 hm.2
theorem ev_or {fuel : Nat} {r} {vq : Nat} (h : bits_Set_Or_pNR_pNR_s fuel s.n s.words t.n t.words = some r) (hn : r.2.2.2 = t.n) (hs : isS S p pw v s) (ht : isS S q qw vq t) (hnd : [p, pw, q, qw].Nodup) :
    Ev Tryd.prog 56 [.ptr p 0 0, .ptr q 0 0] (hp S) (.bool r.1) (hp (putS S p pw (v + 1) ⟨r.2.1, r.2.2.1⟩)) := by
  have hd := hnd
  simp only [List.nodup_cons, List.mem_cons, List.not_mem_nil, or_false, not_or, not_false_eq_true, List.nodup_nil, and_true] at hd
  obtain ⟨⟨d1, d2, d3⟩, ⟨d4, d5⟩, d6⟩ := hd
  have hk := isS_put (S := S) (v := v + 1) (s := ⟨r.2.1, r.2.2.1⟩) d1
  have hk2 : isS (putS S p pw (v + 1) ⟨r.2.1, r.2.2.1⟩) q qw vq t := isS_congr ht (hp_putS (Ne.symm d2) (Ne.symm d4)) (hp_putS (Ne.symm d3) (Ne.symm d5))
  have e := bits_Set_Or_pNR_pNR_ev h
  rw [hn] at e
  refine e.frame [p, pw, q, qw] rfl hnd (Nat.le_refl _) (by rw [putS_len hs]; rfl)
    ⟨frIn2 hs.1 rfl rfl hs.2 rfl, fr_in hs.2 rfl (.refl ((encI .u64).blwf 0 _)), frIn2 ht.1 rfl rfl ht.2 rfl, fr_in ht.2 rfl (.refl ((encI .u64).blwf 0 _)), trivial⟩
    ⟨fr_outS hk.1 rfl (frOut2 rfl rfl rfl hk.2) hs.1 rfl, fr_out hk.2 rfl (.refl ((encI .u64).blwf 0 _)) hs.2 (by simp [Nat.blt_eq]), fr_outS hk2.1 rfl (frOut2 rfl rfl rfl hk2.2) ht.1 rfl, fr_outS hk2.2 rfl (.refl ((encI .u64).blwf 0 _)) ht.2 rfl, trivial⟩
    (fun j hj hm => ?_) rfl (.cons (fi_ptr rfl rfl hs.1 rfl) (.cons (fi_ptr rfl rfl ht.1 rfl) (.nil (Nat.zero_le _)))) (rn_b rfl)
  simp only [List.mem_cons, List.not_mem_nil, or_false, not_or] at hm
  exact hp_putS hm.1 hm.2.1
theorem ev_copy {r} (h : bits_Set_Copy_pNR_o_s s.n s.words = some r) (hn : r.1 = s.n) (hs : isS S p pw v s) (hne : p ≠ pw) :
    Ev Tryd.prog 57 [.ptr p 0 0] (hp S) (.ptr S.length 0 0) (hp (putS S S.length (S.length + 1) 1 ⟨r.2.1, r.2.2⟩)) := by
  have hl := isS_lt hs
  have hk := isS_put (S := S) (p := S.length) (pw := S.length + 1) (v := 1) (s := ⟨r.2.1, r.2.2⟩) (by omega)
  have hk2 : isS (putS S S.length (S.length + 1) 1 ⟨r.2.1, r.2.2⟩) p pw v s := isS_congr hs (hp_putS (by omega) (by omega)) (hp_putS (by omega) (by omega))
  have e := bits_Set_Copy_pNR_o_ev h
  rw [hn] at e
  have e2 : ∀ T : List Ob, T.length = 2 → frN [p, pw] T S 2 = S.length := fun T hT => by simp [frN, hT]
  have e3 : ∀ T : List Ob, T.length = 2 → frN [p, pw] T S 3 = S.length + 1 := fun T hT => by simp [frN, hT]
  refine e.frame [p, pw] rfl (by simp [hne]) (by simp) (by rw [putS_newlen]; rfl)
    ⟨frIn2 hs.1 rfl rfl hs.2 rfl, fr_in hs.2 rfl (.refl ((encI .u64).blwf 0 _)), trivial⟩
    ⟨fr_outS hk2.1 rfl (frOut2 rfl rfl rfl hk2.2) hs.1 rfl, fr_outS hk2.2 rfl (.refl ((encI .u64).blwf 0 _)) hs.2 rfl,
      fr_outN (CS' := [.int .i64 r.2.1, .ref (S.length + 1) 1 0 (List.length r.2.2) none]) (by rw [e2 _ rfl]; exact hk.1) rfl (frOut2 rfl (e3 _ rfl) rfl hk.2) rfl, fr_outN (by rw [e3 _ rfl]; exact hk.2) rfl (.refl ((encI .u64).blwf 0 _)) rfl, trivial⟩
    (fun j hj hm => ?_) rfl (.cons (fi_ptr rfl rfl hs.1 rfl) (.nil (Nat.zero_le _))) (fo_ptr rfl (e2 _ rfl) rfl hk.1)
  exact hp_putS (by omega) (by omega)
theorem ev_new {n : Int} {r} (h : bits_New_o_s n = some r) :
    Ev Tryd.prog 54 [.int .i64 n] (hp S) (.ptr S.length 0 0) (hp (putS S S.length (S.length + 1) 1 ⟨r.1, r.2⟩)) := by
  have hk := isS_put (S := S) (p := S.length) (pw := S.length + 1) (v := 1) (s := ⟨r.1, r.2⟩) (by omega)
  have e2 : frN [] [] S 0 = S.length := by simp [frN]
  have e3 : frN [] [] S 1 = S.length + 1 := by simp [frN]
  refine (bits_New_o_ev h).frame [] rfl (by simp) (Nat.zero_le _) (by rw [putS_newlen]; rfl)
    trivial
    ⟨fr_outN (CS' := [.int .i64 r.1, .ref (S.length + 1) 1 0 (List.length r.2) none]) (by rw [e2]; exact hk.1) rfl (frOut2 rfl e3 rfl hk.2) rfl, fr_outN (by rw [e3]; exact hk.2) rfl (.refl ((encI .u64).blwf 0 _)) rfl, trivial⟩
    (fun j hj hm => hp_putS (by omega) (by omega)) rfl (.cons (rn_b rfl) (.nil (Nat.zero_le _))) (fo_ptr rfl e2 rfl hk.1)
end
end Go.Proofs.YtgoejecjmodjiaaDoor

/- The heap of live.solve: lists of pointers to sets, lists of lists, two lists; every set and every inner list has its own objects. -/
namespace Go.Proofs.YtgoejecjmodjiaaDoor
open Go Go.Ab
set_option linter.unusedVariables false
set_option linter.unusedSimpArgs false
def structOb (s : Option Bits_Set) (pw : Nat) : Ob := match s with | some s => .arr 0 [.int .i64 s.n, .ref pw 0 0 (List.length s.words) none] | none => .arr 0 []
def wordsOb (s : Option Bits_Set) : Ob := match s with | some s => .arr 0 (flat (avI .u64) s.words) | none => .arr 0 []
def famF (ins outs : List Bits_Set) (bef : List (List Int)) (j c : Nat) : Ob :=
  match c with
  | 0 => structOb ins[j]? (6 + 5 * j)
  | 1 => wordsOb ins[j]?
  | 2 => structOb outs[j]? (8 + 5 * j)
  | 3 => wordsOb outs[j]?
  | _ => .arr 0 (flat (avI .i64) (bef.getD j []))
def ptrsC (N k b : Nat) : List AV := (List.range N).map fun j => if j < k then .ptr (b + 5 * j) 0 0 else .junk
def befC (N : Nat) (bef : List (List Int)) : List AV := (List.range N).map fun j => .ref (9 + 5 * j) 0 0 (bef.getD j []).length none
def obF (N : Nat) (ins outs : List Bits_Set) (bef : List (List Int)) (todo : List Int) (waits : List Bool) : Nat → Ob
  | 0 => .arr 0 (ptrsC N ins.length 5)
  | 1 => .arr 0 (ptrsC N outs.length 7)
  | 2 => .arr 0 (befC N bef)
  | 3 => .arr 0 (flat (avI .i64) todo)
  | 4 => .arr 0 (flat avB waits)
  | i + 5 => famF ins outs bef (i / 5) (i % 5)
section
variable {N : Nat} {ins outs : List Bits_Set} {bef : List (List Int)} {todo : List Int} {waits : List Bool}
theorem obF_c {j c : Nat} (hc : c < 5) : obF N ins outs bef todo waits (5 + c + 5 * j) = famF ins outs bef j c := by
  rw [show 5 + c + 5 * j = (5 * j + c) + 5 by omega]
  show famF ins outs bef ((5 * j + c) / 5) ((5 * j + c) % 5) = _
  rw [show (5 * j + c) / 5 = j by omega, show (5 * j + c) % 5 = c by omega]
theorem obF_5 {j : Nat} : obF N ins outs bef todo waits (5 + 5 * j) = structOb ins[j]? (6 + 5 * j) := obF_c (c := 0) (by omega)
theorem obF_6 {j : Nat} : obF N ins outs bef todo waits (6 + 5 * j) = wordsOb ins[j]? := obF_c (c := 1) (by omega)
theorem obF_7 {j : Nat} : obF N ins outs bef todo waits (7 + 5 * j) = structOb outs[j]? (8 + 5 * j) := obF_c (c := 2) (by omega)
theorem obF_8 {j : Nat} : obF N ins outs bef todo waits (8 + 5 * j) = wordsOb outs[j]? := obF_c (c := 3) (by omega)
theorem obF_9 {j : Nat} : obF N ins outs bef todo waits (9 + 5 * j) = .arr 0 (flat (avI .i64) (bef.getD j [])) := obF_c (c := 4) (by omega)
theorem ptrsC_len {k b : Nat} : (ptrsC N k b).length = N := by simp [ptrsC]
theorem ptrsC_get {k b j : Nat} (hj : j < N) (hk : j < k) : (ptrsC N k b)[j]? = some (.ptr (b + 5 * j) 0 0) := by simp [ptrsC, hj, hk]
theorem befC_len : (befC N bef).length = N := by simp [befC]
theorem befC_get {j : Nat} (hj : j < N) : (befC N bef)[j]? = some (.ref (9 + 5 * j) 0 0 (bef.getD j []).length none) := by simp [befC, hj]
theorem structOb_arr (s : Option Bits_Set) (pw : Nat) : ∃ cs, structOb s pw = .arr 0 cs := by cases s <;> exact ⟨_, rfl⟩
theorem wordsOb_arr (s : Option Bits_Set) : ∃ cs, wordsOb s = .arr 0 cs := by cases s <;> exact ⟨_, rfl⟩
end
structure HasSt (S : List Ob) (m : Nat → Nat) (N : Nat) (ins outs : List Bits_Set) (bef : List (List Int)) (v3 : Nat) (todo : List Int) (waits : List Bool) : Prop where
  c0 : ∃ cs, hp S (m 0) = .arr 0 cs ∧ cs.length = N ∧ ∀ j, j < ins.length → cs[j]? = some (.ptr (m (5 + 5 * j)) 0 0)
  c1 : ∃ cs, hp S (m 1) = .arr 0 cs ∧ cs.length = N ∧ ∀ j, j < outs.length → cs[j]? = some (.ptr (m (7 + 5 * j)) 0 0)
  c2 : ∃ cs, hp S (m 2) = .arr 0 cs ∧ cs.length = N ∧ ∀ j, j < N → ∃ v, cs[j]? = some (.ref (m (9 + 5 * j)) v 0 (bef.getD j []).length none) ∧ hp S (m (9 + 5 * j)) = .arr v (flat (avI .i64) (bef.getD j []))
  c3 : ∃ x, hp S (m 3) = .arr v3 (flat (avI .i64) todo ++ x)
  c4 : hp S (m 4) = .arr 0 (flat avB waits)
  c5 : ∀ j s, ins[j]? = some s → ∃ v, isS S (m (5 + 5 * j)) (m (6 + 5 * j)) v s
  c6 : ∀ j s, outs[j]? = some s → ∃ v, isS S (m (7 + 5 * j)) (m (8 + 5 * j)) v s
  c7 : ∀ j, ins.length ≤ j → j < N → (∃ v cs, hp S (m (5 + 5 * j)) = .arr v cs) ∧ ∃ v cs, hp S (m (6 + 5 * j)) = .arr v cs
  c8 : ∀ j, outs.length ≤ j → j < N → (∃ v cs, hp S (m (7 + 5 * j)) = .arr v cs) ∧ ∃ v cs, hp S (m (8 + 5 * j)) = .arr v cs
  li : ins.length ≤ N
  lo : outs.length ≤ N
section
variable {S : List Ob} {m : Nat → Nat} {m' : Nat → Option Nat} {n N v3 : Nat} {ins outs : List Bits_Set} {bef : List (List Int)} {todo : List Int} {waits : List Bool} {f : Nat → Ob}
theorem HasSt.ok (h : HasSt S m N ins outs bef v3 todo waits) (hn : 5 + 5 * N ≤ n) (hm : ∀ i, i < 5 + 5 * N → m' i = some (m i)) (hf : ∀ i, i < 5 + 5 * N → f i = obF N ins outs bef todo waits i) :
    ∀ i, i < 5 + 5 * N → OkOb n m' S f i := by
  intro i hi
  match i, hi with
  | 0, hi =>
    obtain ⟨cs, h1, h2, h3⟩ := h.c0
    refine ok_some (hm 0 hi) h1 (hf 0 hi) (rnl_get (by rw [ptrsC_len]; omega) (fun j a b => ?_))
    have hj : j < N := by rw [ptrsC_len] at b; exact b
    simp only [ptrsC, List.getElem_map, List.getElem_range]
    split
    · rename_i hk
      have e := h3 j hk
      rw [List.getElem?_eq_getElem a] at e
      rw [Option.some.inj e]
      obtain ⟨s, hs⟩ : ∃ s, ins[j]? = some s := ⟨_, List.getElem?_eq_getElem hk⟩
      obtain ⟨v, q⟩ := h.c5 j s hs
      exact wr_ptr (by omega) (hm _ (by omega)) q.1 (by rw [hf _ (by omega), obF_5, hs]; rfl)
    · exact .junk _
  | 1, hi =>
    obtain ⟨cs, h1, h2, h3⟩ := h.c1
    refine ok_some (hm 1 hi) h1 (hf 1 hi) (rnl_get (by rw [ptrsC_len]; omega) (fun j a b => ?_))
    have hj : j < N := by rw [ptrsC_len] at b; exact b
    simp only [ptrsC, List.getElem_map, List.getElem_range]
    split
    · rename_i hk
      have e := h3 j hk
      rw [List.getElem?_eq_getElem a] at e
      rw [Option.some.inj e]
      obtain ⟨s, hs⟩ : ∃ s, outs[j]? = some s := ⟨_, List.getElem?_eq_getElem hk⟩
      obtain ⟨v, q⟩ := h.c6 j s hs
      exact wr_ptr (by omega) (hm _ (by omega)) q.1 (by rw [hf _ (by omega), obF_7, hs]; rfl)
    · exact .junk _
  | 2, hi =>
    obtain ⟨cs, h1, h2, h3⟩ := h.c2
    refine ok_some (hm 2 hi) h1 (hf 2 hi) (rnl_get (by rw [befC_len]; omega) (fun j a b => ?_))
    have hj : j < N := by rw [befC_len] at b; exact b
    simp only [befC, List.getElem_map, List.getElem_range]
    obtain ⟨v, e, q⟩ := h3 j hj
    rw [List.getElem?_eq_getElem a] at e
    rw [Option.some.inj e]
    exact wr_ref (by omega) (hm _ (by omega)) q (by rw [hf _ (by omega), obF_9]) (by rw [(encI .i64).length]; exact Nat.le_refl _)
  | 3, hi =>
    obtain ⟨x, h1⟩ := h.c3
    refine ok_some (hm 3 hi) h1 (hf 3 hi) (rnl_get (by simp) (fun j a b => ?_))
    rw [List.getElem_append_left b]
    exact rn_b (blwL_get ((encI .i64).blwf 0 _) j b)
  | 4, hi => exact ok_some (hm 4 hi) h.c4 (hf 4 hi) (.refl (encB.blwf 0 _))
  | i + 5, hi =>
    obtain ⟨j, c, hc, rfl⟩ : ∃ j c, c < 5 ∧ i = c + 5 * j := ⟨i / 5, i % 5, by omega, by omega⟩
    have hj : j < N := by omega
    match c, hc with
    | 0, _ =>
      rw [show 0 + 5 * j + 5 = 5 + 5 * j by omega] at hi ⊢
      cases e : ins[j]? with
      | some s =>
        obtain ⟨v, q⟩ := h.c5 j s e
        exact ok_some (hm _ hi) q.1 (by rw [hf _ hi, obF_5, e]; rfl) (.cons (rn_b rfl) (.cons (wr_ref (by omega) (hm _ (by omega)) q.2 (by rw [hf _ (by omega), obF_6, e]; rfl) (by rw [(encI .u64).length]; exact Nat.le_refl _)) (.nil (Nat.zero_le _))))
      | none =>
        obtain ⟨⟨v, cs, q⟩, _⟩ := h.c7 j (by simpa using e) hj
        exact ok_some (hm _ hi) q (by rw [hf _ hi, obF_5, e]; rfl) (.nil (Nat.zero_le _))
    | 1, _ =>
      rw [show 1 + 5 * j + 5 = 6 + 5 * j by omega] at hi ⊢
      cases e : ins[j]? with
      | some s =>
        obtain ⟨v, q⟩ := h.c5 j s e
        exact ok_some (hm _ hi) q.2 (by rw [hf _ hi, obF_6, e]; rfl) (.refl ((encI .u64).blwf 0 _))
      | none =>
        obtain ⟨_, v, cs, q⟩ := h.c7 j (by simpa using e) hj
        exact ok_some (hm _ hi) q (by rw [hf _ hi, obF_6, e]; rfl) (.nil (Nat.zero_le _))
    | 2, _ =>
      rw [show 2 + 5 * j + 5 = 7 + 5 * j by omega] at hi ⊢
      cases e : outs[j]? with
      | some s =>
        obtain ⟨v, q⟩ := h.c6 j s e
        exact ok_some (hm _ hi) q.1 (by rw [hf _ hi, obF_7, e]; rfl) (.cons (rn_b rfl) (.cons (wr_ref (by omega) (hm _ (by omega)) q.2 (by rw [hf _ (by omega), obF_8, e]; rfl) (by rw [(encI .u64).length]; exact Nat.le_refl _)) (.nil (Nat.zero_le _))))
      | none =>
        obtain ⟨⟨v, cs, q⟩, _⟩ := h.c8 j (by simpa using e) hj
        exact ok_some (hm _ hi) q (by rw [hf _ hi, obF_7, e]; rfl) (.nil (Nat.zero_le _))
    | 3, _ =>
      rw [show 3 + 5 * j + 5 = 8 + 5 * j by omega] at hi ⊢
      cases e : outs[j]? with
      | some s =>
        obtain ⟨v, q⟩ := h.c6 j s e
        exact ok_some (hm _ hi) q.2 (by rw [hf _ hi, obF_8, e]; rfl) (.refl ((encI .u64).blwf 0 _))
      | none =>
        obtain ⟨_, v, cs, q⟩ := h.c8 j (by simpa using e) hj
        exact ok_some (hm _ hi) q (by rw [hf _ hi, obF_8, e]; rfl) (.nil (Nat.zero_le _))
    | 4, _ =>
      rw [show 4 + 5 * j + 5 = 9 + 5 * j by omega] at hi ⊢
      obtain ⟨cs, h1, h2, h3⟩ := h.c2
      obtain ⟨v, _, q⟩ := h3 j hj
      exact ok_some (hm _ hi) q (by rw [hf _ hi, obF_9]) (.refl ((encI .i64).blwf 0 _))
theorem hasSt_of (hn : 5 + 5 * N ≤ n) (hf : ∀ i, i < 5 + 5 * N → f i = obF N ins outs bef todo waits i) (li : ins.length ≤ N) (lo : outs.length ≤ N) : HasSt (ofF n f) id N ins outs bef 0 todo waits := by
  have H : ∀ i, i < 5 + 5 * N → hp (ofF n f) i = obF N ins outs bef todo waits i := fun i hi => by rw [hp_ofF (by omega), hf i hi]
  refine ⟨⟨_, H 0 (by omega), ptrsC_len, fun j hj => ptrsC_get (by omega) hj⟩, ⟨_, H 1 (by omega), ptrsC_len, fun j hj => ptrsC_get (by omega) hj⟩,
    ⟨_, H 2 (by omega), befC_len, fun j hj => ⟨0, befC_get hj, (H (9 + 5 * j) (by omega)).trans obF_9⟩⟩, ⟨[], by rw [List.append_nil]; exact H 3 (by omega)⟩, H 4 (by omega), fun j s hs => ⟨0, ?_, ?_⟩, fun j s hs => ⟨0, ?_, ?_⟩, fun j h1 h2 => ⟨⟨0, ?_⟩, 0, ?_⟩, fun j h1 h2 => ⟨⟨0, ?_⟩, 0, ?_⟩, li, lo⟩
  · have : j < ins.length := (List.getElem?_eq_some_iff.1 hs).1
    exact (H (5 + 5 * j) (by omega)).trans (by rw [obF_5, hs]; rfl)
  · have : j < ins.length := (List.getElem?_eq_some_iff.1 hs).1
    exact (H (6 + 5 * j) (by omega)).trans (by rw [obF_6, hs]; rfl)
  · have : j < outs.length := (List.getElem?_eq_some_iff.1 hs).1
    exact (H (7 + 5 * j) (by omega)).trans (by rw [obF_7, hs]; rfl)
  · have : j < outs.length := (List.getElem?_eq_some_iff.1 hs).1
    exact (H (8 + 5 * j) (by omega)).trans (by rw [obF_8, hs]; rfl)
  · obtain ⟨cs, e⟩ := structOb_arr ins[j]? (6 + 5 * j); exact ⟨cs, ((H (5 + 5 * j) (by omega)).trans obF_5).trans e⟩
  · obtain ⟨cs, e⟩ := wordsOb_arr ins[j]?; exact ⟨cs, ((H (6 + 5 * j) (by omega)).trans obF_6).trans e⟩
  · obtain ⟨cs, e⟩ := structOb_arr outs[j]? (8 + 5 * j); exact ⟨cs, ((H (7 + 5 * j) (by omega)).trans obF_7).trans e⟩
  · obtain ⟨cs, e⟩ := wordsOb_arr outs[j]?; exact ⟨cs, ((H (8 + 5 * j) (by omega)).trans obF_8).trans e⟩
theorem HasSt.ext {S' : List Ob} (h : HasSt S id N ins outs bef v3 todo waits) (he : ∀ i, i < 5 + 5 * N → hp S' i = hp S i) : HasSt S' id N ins outs bef v3 todo waits := by
  have hli := h.li; have hlo := h.lo
  have e0 := he 0 (by omega)
  have e1 := he 1 (by omega)
  have e2 := he 2 (by omega)
  have e3 := he 3 (by omega)
  have e4 := he 4 (by omega)
  refine ⟨by rw [id, e0]; exact h.c0, by rw [id, e1]; exact h.c1, ?_, by rw [id, e3]; exact h.c3, by rw [id, e4]; exact h.c4, fun j s hs => ?_, fun j s hs => ?_, fun j a b => ?_, fun j a b => ?_, h.li, h.lo⟩
  · obtain ⟨cs, h1, h2, h3⟩ := h.c2
    refine ⟨cs, by rw [id, e2]; exact h1, h2, fun j hj => ?_⟩
    obtain ⟨v, q1, q2⟩ := h3 j hj
    exact ⟨v, q1, by rw [id, he _ (by omega)]; exact q2⟩
  · have : j < ins.length := (List.getElem?_eq_some_iff.1 hs).1
    obtain ⟨v, q⟩ := h.c5 j s hs
    exact ⟨v, isS_congr q (he _ (by simp only [id]; omega)) (he _ (by simp only [id]; omega))⟩
  · have : j < outs.length := (List.getElem?_eq_some_iff.1 hs).1
    obtain ⟨v, q⟩ := h.c6 j s hs
    exact ⟨v, isS_congr q (he _ (by simp only [id]; omega)) (he _ (by simp only [id]; omega))⟩
  · have := h.c7 j a b
    simp only [id] at this ⊢
    rw [he _ (by omega), he _ (by omega)]; exact this
  · have := h.c8 j a b
    simp only [id] at this ⊢
    rw [he _ (by omega), he _ (by omega)]; exact this
theorem HasSt.inAt (h : HasSt S id N ins outs bef v3 todo waits) {j : Nat} (hj : j < ins.length) : ∃ cs, hp S 0 = .arr 0 cs ∧ vPart none cs j = some (.ptr (5 + 5 * j) 0 0) := by
  obtain ⟨cs, h1, h2, h3⟩ := h.c0
  have := h.li
  refine ⟨cs, h1, ?_⟩
  simp only [vPart]
  rw [if_pos (by omega), List.getD_eq_getElem?_getD, h3 j hj]; rfl
theorem HasSt.outAt (h : HasSt S id N ins outs bef v3 todo waits) {j : Nat} (hj : j < outs.length) : ∃ cs, hp S 1 = .arr 0 cs ∧ vPart none cs j = some (.ptr (7 + 5 * j) 0 0) := by
  obtain ⟨cs, h1, h2, h3⟩ := h.c1
  have := h.lo
  refine ⟨cs, h1, ?_⟩
  simp only [vPart]
  rw [if_pos (by omega), List.getD_eq_getElem?_getD, h3 j hj]; rfl
theorem HasSt.befAt (h : HasSt S id N ins outs bef v3 todo waits) {j : Nat} (hj : j < N) : ∃ cs v, hp S 2 = .arr 0 cs ∧ cs.length = N ∧ vPart none cs j = some (.ref (9 + 5 * j) v 0 (bef.getD j []).length none) ∧ hp S (9 + 5 * j) = .arr v (flat (avI .i64) (bef.getD j [])) := by
  obtain ⟨cs, h1, h2, h3⟩ := h.c2
  obtain ⟨v, q1, q2⟩ := h3 j hj
  refine ⟨cs, v, h1, h2, ?_, q2⟩
  simp only [vPart]
  rw [if_pos (by omega), List.getD_eq_getElem?_getD, q1]; rfl
theorem HasSt.setOut (h : HasSt S id N ins outs bef v3 todo waits) {j v v' : Nat} {s t : Bits_Set} (hs : outs[j]? = some s) : HasSt (putS S (7 + 5 * j) (8 + 5 * j) v' t) id N ins (outs.set j t) bef v3 todo waits := by
  have hj : j < outs.length := (List.getElem?_eq_some_iff.1 hs).1
  have hlo := h.lo
  have hli := h.li
  have e : ∀ i, i ≠ 7 + 5 * j → i ≠ 8 + 5 * j → hp (putS S (7 + 5 * j) (8 + 5 * j) v' t) i = hp S i := fun i h1 h2 => hp_putS h1 h2
  refine ⟨by rw [id, e 0 (by omega) (by omega)]; exact h.c0, by rw [id, e 1 (by omega) (by omega), List.length_set]; exact h.c1, ?_, by rw [id, e 3 (by omega) (by omega)]; exact h.c3, by rw [id, e 4 (by omega) (by omega)]; exact h.c4, fun k s hs => ?_, fun k s hs => ?_, fun k a b => ?_, fun k a b => ?_, h.li, by rw [List.length_set]; exact h.lo⟩
  · obtain ⟨cs, h1, h2, h3⟩ := h.c2
    refine ⟨cs, by rw [id, e 2 (by omega) (by omega)]; exact h1, h2, fun k hk => ?_⟩
    obtain ⟨v, q1, q2⟩ := h3 k hk
    exact ⟨v, q1, by rw [id, e _ (by omega) (by omega)]; exact q2⟩
  · obtain ⟨v, q⟩ := h.c5 k s hs
    exact ⟨v, isS_congr q (e _ (by simp only [id]; omega) (by simp only [id]; omega)) (e _ (by simp only [id]; omega) (by simp only [id]; omega))⟩
  · by_cases hk : j = k
    · subst hk
      rw [List.getElem?_set_self hj] at hs
      cases hs
      exact ⟨v', isS_put (by omega)⟩
    · rw [List.getElem?_set_ne hk] at hs
      obtain ⟨v, q⟩ := h.c6 k s hs
      exact ⟨v, isS_congr q (e _ (by simp only [id]; omega) (by simp only [id]; omega)) (e _ (by simp only [id]; omega) (by simp only [id]; omega))⟩
  · have := h.c7 k a b
    simp only [id] at this ⊢
    rw [e _ (by omega) (by omega), e _ (by omega) (by omega)]; exact this
  · rw [List.length_set] at a
    have := h.c8 k a b
    simp only [id] at this ⊢
    rw [e _ (by omega) (by omega), e _ (by omega) (by omega)]; exact this
theorem HasSt.setIn (h : HasSt S id N ins outs bef v3 todo waits) {j v v' : Nat} {s t : Bits_Set} (hs : ins[j]? = some s) : HasSt (putS S (5 + 5 * j) (6 + 5 * j) v' t) id N (ins.set j t) outs bef v3 todo waits := by
  have hj : j < ins.length := (List.getElem?_eq_some_iff.1 hs).1
  have hlo := h.lo
  have hli := h.li
  have e : ∀ i, i ≠ 5 + 5 * j → i ≠ 6 + 5 * j → hp (putS S (5 + 5 * j) (6 + 5 * j) v' t) i = hp S i := fun i h1 h2 => hp_putS h1 h2
  refine ⟨by rw [id, e 0 (by omega) (by omega), List.length_set]; exact h.c0, by rw [id, e 1 (by omega) (by omega)]; exact h.c1, ?_, by rw [id, e 3 (by omega) (by omega)]; exact h.c3, by rw [id, e 4 (by omega) (by omega)]; exact h.c4, fun k s hs => ?_, fun k s hs => ?_, fun k a b => ?_, fun k a b => ?_, by rw [List.length_set]; exact h.li, h.lo⟩
  · obtain ⟨cs, h1, h2, h3⟩ := h.c2
    refine ⟨cs, by rw [id, e 2 (by omega) (by omega)]; exact h1, h2, fun k hk => ?_⟩
    obtain ⟨v, q1, q2⟩ := h3 k hk
    exact ⟨v, q1, by rw [id, e _ (by omega) (by omega)]; exact q2⟩
  · by_cases hk : j = k
    · subst hk
      rw [List.getElem?_set_self hj] at hs
      cases hs
      exact ⟨v', isS_put (by omega)⟩
    · rw [List.getElem?_set_ne hk] at hs
      obtain ⟨v, q⟩ := h.c5 k s hs
      exact ⟨v, isS_congr q (e _ (by simp only [id]; omega) (by simp only [id]; omega)) (e _ (by simp only [id]; omega) (by simp only [id]; omega))⟩
  · obtain ⟨v, q⟩ := h.c6 k s hs
    exact ⟨v, isS_congr q (e _ (by simp only [id]; omega) (by simp only [id]; omega)) (e _ (by simp only [id]; omega) (by simp only [id]; omega))⟩
  · rw [List.length_set] at a
    have := h.c7 k a b
    simp only [id] at this ⊢
    rw [e _ (by omega) (by omega), e _ (by omega) (by omega)]; exact this
  · have := h.c8 k a b
    simp only [id] at this ⊢
    rw [e _ (by omega) (by omega), e _ (by omega) (by omega)]; exact this
theorem HasSt.setBef (h : HasSt S id N ins outs bef v3 todo waits) {j v : Nat} {l : List Int} {cs : List AV} (hj : j < N) (hb : j < bef.length) (hcs : hp S 2 = .arr 0 cs) :
    HasSt (setAt (setAt S (9 + 5 * j) (.arr v (flat (avI .i64) l))) 2 (.arr 0 (cs.set j (.ref (9 + 5 * j) v 0 l.length none)))) id N ins outs (bef.set j l) v3 todo waits := by
  have hlo := h.lo
  have hli := h.li
  have e : ∀ i, i ≠ 9 + 5 * j → i ≠ 2 → hp (setAt (setAt S (9 + 5 * j) (.arr v (flat (avI .i64) l))) 2 (.arr 0 (cs.set j (.ref (9 + 5 * j) v 0 l.length none)))) i = hp S i := fun i h1 h2 => by
    simp only [hp_setAt]; rw [upd_no h2, upd_no h1]
  have e9 : hp (setAt (setAt S (9 + 5 * j) (.arr v (flat (avI .i64) l))) 2 (.arr 0 (cs.set j (.ref (9 + 5 * j) v 0 l.length none)))) (9 + 5 * j) = .arr v (flat (avI .i64) l) := by
    simp only [hp_setAt]; rw [upd_no (by omega), upd_eq]
  have e2 : hp (setAt (setAt S (9 + 5 * j) (.arr v (flat (avI .i64) l))) 2 (.arr 0 (cs.set j (.ref (9 + 5 * j) v 0 l.length none)))) 2 = .arr 0 (cs.set j (.ref (9 + 5 * j) v 0 l.length none)) := by
    simp only [hp_setAt]; rw [upd_eq]
  generalize hS' : setAt (setAt S (9 + 5 * j) (.arr v (flat (avI .i64) l))) 2 (.arr 0 (cs.set j (.ref (9 + 5 * j) v 0 l.length none))) = S' at e e9 e2
  refine ⟨by rw [id, e 0 (by omega) (by omega)]; exact h.c0, by rw [id, e 1 (by omega) (by omega)]; exact h.c1, ?_, by rw [id, e 3 (by omega) (by omega)]; exact h.c3, by rw [id, e 4 (by omega) (by omega)]; exact h.c4, fun k s hs => ?_, fun k s hs => ?_, fun k a b => ?_, fun k a b => ?_, h.li, h.lo⟩
  · obtain ⟨cs1, h1, h2, h3⟩ := h.c2
    have hcc : cs1 = cs := by
      have h1' : hp S 2 = .arr 0 cs1 := h1
      rw [hcs] at h1'; cases h1'; rfl
    subst hcc
    refine ⟨_, e2, by rw [List.length_set]; exact h2, fun k hk => ?_⟩
    by_cases hkj : j = k
    · subst hkj
      refine ⟨v, ?_, ?_⟩
      · rw [List.getElem?_set_self (by omega)]
        simp [List.getD_eq_getElem?_getD, List.getElem?_set_self hb]
      · rw [id, e9]; simp [List.getD_eq_getElem?_getD, List.getElem?_set_self hb]
    · obtain ⟨v, q1, q2⟩ := h3 k hk
      refine ⟨v, ?_, ?_⟩
      · rw [List.getElem?_set_ne hkj, q1]; simp [List.getD_eq_getElem?_getD, List.getElem?_set_ne hkj]
      · rw [id, e _ (by omega) (by omega)]; simp only [id] at q2; rw [q2]; simp [List.getD_eq_getElem?_getD, List.getElem?_set_ne hkj]
  · obtain ⟨v, q⟩ := h.c5 k s hs
    exact ⟨v, isS_congr q (e _ (by simp only [id]; omega) (by simp only [id]; omega)) (e _ (by simp only [id]; omega) (by simp only [id]; omega))⟩
  · obtain ⟨v, q⟩ := h.c6 k s hs
    exact ⟨v, isS_congr q (e _ (by simp only [id]; omega) (by simp only [id]; omega)) (e _ (by simp only [id]; omega) (by simp only [id]; omega))⟩
  · have := h.c7 k a b
    simp only [id] at this ⊢
    rw [e _ (by omega) (by omega), e _ (by omega) (by omega)]; exact this
  · have := h.c8 k a b
    simp only [id] at this ⊢
    rw [e _ (by omega) (by omega), e _ (by omega) (by omega)]; exact this
theorem HasSt.only (h : HasSt S id N ins outs bef v3 todo waits) {S' : List Ob} {v3' : Nat} {todo' : List Int} {waits' : List Bool} (e : ∀ i, i ≠ 3 → i ≠ 4 → hp S' i = hp S i) (h3 : ∃ x, hp S' 3 = .arr v3' (flat (avI .i64) todo' ++ x)) (h4 : hp S' 4 = .arr 0 (flat avB waits')) :
    HasSt S' id N ins outs bef v3' todo' waits' := by
  refine ⟨by rw [id, e 0 (by omega) (by omega)]; exact h.c0, by rw [id, e 1 (by omega) (by omega)]; exact h.c1, ?_, h3, h4, fun k s hs => ?_, fun k s hs => ?_, fun k a b => ?_, fun k a b => ?_, h.li, h.lo⟩
  · obtain ⟨cs, h1, h2, h3⟩ := h.c2
    refine ⟨cs, by rw [id, e 2 (by omega) (by omega)]; exact h1, h2, fun k hk => ?_⟩
    obtain ⟨v, q1, q2⟩ := h3 k hk
    exact ⟨v, q1, by rw [id, e _ (by omega) (by omega)]; exact q2⟩
  · obtain ⟨v, q⟩ := h.c5 k s hs
    exact ⟨v, isS_congr q (e _ (by simp only [id]; omega) (by simp only [id]; omega)) (e _ (by simp only [id]; omega) (by simp only [id]; omega))⟩
  · obtain ⟨v, q⟩ := h.c6 k s hs
    exact ⟨v, isS_congr q (e _ (by simp only [id]; omega) (by simp only [id]; omega)) (e _ (by simp only [id]; omega) (by simp only [id]; omega))⟩
  · have := h.c7 k a b
    simp only [id] at this ⊢
    rw [e _ (by omega) (by omega), e _ (by omega) (by omega)]; exact this
  · have := h.c8 k a b
    simp only [id] at this ⊢
    rw [e _ (by omega) (by omega), e _ (by omega) (by omega)]; exact this
theorem HasSt.setWaits (h : HasSt S id N ins outs bef v3 todo waits) {waits' : List Bool} : HasSt (setAt S 4 (.arr 0 (flat avB waits'))) id N ins outs bef v3 todo waits' := by
  obtain ⟨x, h3⟩ := h.c3
  exact h.only (fun i a b => by rw [hp_setAt, upd_no b]) ⟨x, by rw [hp_setAt, upd_no (by decide)]; exact h3⟩ (by rw [hp_setAt, upd_eq])
theorem HasSt.setTodo (h : HasSt S id N ins outs bef v3 todo waits) {v : Nat} {todo' : List Int} : HasSt (setAt S 3 (.arr v (flat (avI .i64) todo'))) id N ins outs bef v todo' waits :=
  h.only (fun i a b => by rw [hp_setAt, upd_no a]) ⟨[], by rw [hp_setAt, upd_eq, List.append_nil]⟩ (by rw [hp_setAt, upd_no (by decide)]; exact h.c4)
theorem HasSt.popTodo (h : HasSt S id N ins outs bef v3 todo waits) {todo' : List Int} (he : ∃ r, todo = todo' ++ r) : HasSt S id N ins outs bef v3 todo' waits := by
  obtain ⟨r, rfl⟩ := he
  obtain ⟨x, h3⟩ := h.c3
  exact h.only (fun _ _ _ => rfl) ⟨flat (avI .i64) r ++ x, by rw [← List.append_assoc, ← flat_append]; exact h3⟩ h.c4
end
end Go.Proofs.YtgoejecjmodjiaaDoor

/- The heap of live.solve: from one statement to the next. -/
namespace Go.Proofs.YtgoejecjmodjiaaDoor
open Go Go.Ab
set_option linter.unusedVariables false
set_option linter.unusedSimpArgs false
abbrev HS (N : Nat) (ins outs : List Bits_Set) (bef : List (List Int)) (todo : List Int) (waits : List Bool) : List Ob := ofF (5 + 5 * N) (obF N ins outs bef todo waits)
def tmpF (M : Nat) (s : Bits_Set) (f : Nat → Ob) (i : Nat) : Ob := if i = M then structOb (some s) (M + 1) else if i = M + 1 then wordsOb (some s) else f i
abbrev HT (N : Nat) (ins outs : List Bits_Set) (bef : List (List Int)) (todo : List Int) (waits : List Bool) (s : Bits_Set) : List Ob := ofF (5 + 5 * N + 2) (tmpF (5 + 5 * N) s (obF N ins outs bef todo waits))
section
variable {S : List Ob} {m : Nat → Nat} {m' : Nat → Option Nat} {n N v3 : Nat} {ins outs : List Bits_Set} {bef : List (List Int)} {todo : List Int} {waits : List Bool} {f : Nat → Ob} {s : Bits_Set} {fr fr' : Fr}
theorem tmpF_lt {M i : Nat} (h : i < M) : tmpF M s f i = f i := by unfold tmpF; rw [if_neg (by omega), if_neg (by omega)]
theorem tmpF_0 {M : Nat} : tmpF M s f M = structOb (some s) (M + 1) := by unfold tmpF; rw [if_pos rfl]
theorem tmpF_1 {M : Nat} : tmpF M s f (M + 1) = wordsOb (some s) := by unfold tmpF; rw [if_neg (by omega), if_pos rfl]
theorem hs_st (li : ins.length ≤ N) (lo : outs.length ≤ N) : HasSt (HS N ins outs bef todo waits) id N ins outs bef 0 todo waits := hasSt_of (Nat.le_refl _) (fun _ _ => rfl) li lo
theorem ht_st (li : ins.length ≤ N) (lo : outs.length ≤ N) : HasSt (HT N ins outs bef todo waits s) id N ins outs bef 0 todo waits := hasSt_of (by omega) (fun i hi => tmpF_lt hi) li lo
theorem ht_s : isS (HT N ins outs bef todo waits s) (5 + 5 * N) (5 + 5 * N + 1) 0 s :=
  ⟨by rw [hp_ofF (by omega), tmpF_0]; rfl, by rw [hp_ofF (by omega), tmpF_1]; rfl⟩
theorem HasSt.r4 (h : HasSt S m N ins outs bef v3 todo waits) (hn : 5 + 5 * N ≤ n) (hm : m' 0 = some (m 0)) (hf : f 0 = obF N ins outs bef todo waits 0) {o : Nat} (ho : m 0 = o) : RnV (WR n m' S f) (.ref o 0 0 N none) (.ref 0 0 0 N none) := by
  subst ho
  obtain ⟨cs, h1, h2, _⟩ := h.c0
  exact wr_ref (by omega) hm h1 hf (by rw [ptrsC_len]; simp [szOf])
theorem HasSt.r5 (h : HasSt S m N ins outs bef v3 todo waits) (hn : 5 + 5 * N ≤ n) (hm : m' 1 = some (m 1)) (hf : f 1 = obF N ins outs bef todo waits 1) {o : Nat} (ho : m 1 = o) : RnV (WR n m' S f) (.ref o 0 0 N none) (.ref 1 0 0 N none) := by
  subst ho
  obtain ⟨cs, h1, h2, _⟩ := h.c1
  exact wr_ref (by omega) hm h1 hf (by rw [ptrsC_len]; simp [szOf])
theorem HasSt.r6 (h : HasSt S m N ins outs bef v3 todo waits) (hn : 5 + 5 * N ≤ n) (hm : m' 2 = some (m 2)) (hf : f 2 = obF N ins outs bef todo waits 2) {o : Nat} (ho : m 2 = o) : RnV (WR n m' S f) (.ref o 0 0 N none) (.ref 2 0 0 N none) := by
  subst ho
  obtain ⟨cs, h1, h2, _⟩ := h.c2
  exact wr_ref (by omega) hm h1 hf (by rw [befC_len]; simp [szOf])
theorem HasSt.r7 (h : HasSt S m N ins outs bef v3 todo waits) (hn : 5 + 5 * N ≤ n) (hm : m' 3 = some (m 3)) (hf : f 3 = obF N ins outs bef todo waits 3) {k o : Nat} (hk : k = todo.length) (ho : m 3 = o) : RnV (WR n m' S f) (.ref o v3 0 k none) (.ref 3 0 0 todo.length none) := by
  subst ho
  obtain ⟨x, h1⟩ := h.c3
  exact wr_refE hk (by omega) hm h1 hf (by rw [(encI .i64).length]; simp [szOf])
theorem HasSt.r12 (h : HasSt S m N ins outs bef v3 todo waits) (hn : 5 + 5 * N ≤ n) (hm : m' 4 = some (m 4)) (hf : f 4 = obF N ins outs bef todo waits 4) {k o : Nat} (hk : k = waits.length) (ho : m 4 = o) : RnV (WR n m' S f) (.ref o 0 0 k none) (.ref 4 0 0 waits.length none) := by
  subst ho
  exact wr_refE hk (by omega) hm h.c4 hf (by rw [encB.length]; simp [szOf])
theorem HasSt.r17 {v : Nat} (hs : isS S (5 + 5 * N) (5 + 5 * N + 1) v s) : RnV (WR (5 + 5 * N + 2) some S (tmpF (5 + 5 * N) s f)) (.ptr (5 + 5 * N) 0 0) (.ptr (5 + 5 * N) 0 0) :=
  wr_ptr (by omega) rfl hs.1 (by rw [tmpF_0]; rfl)
theorem HasSt.wkM (h : HasSt S m N ins outs bef v3 todo waits) (hi : ∀ i j, i < 5 + 5 * N → j < 5 + 5 * N → m i = m j → i = j) (hf : rnF (WR (5 + 5 * N) (fun i => some (m i)) S (obF N ins outs bef todo waits)) fr fr') : Wk [] fr S fr' (HS N ins outs bef todo waits) :=
  wk_of (fun i j o a b h1 h2 => hi i j a b (by rw [Option.some.inj h1, Option.some.inj h2])) (h.ok (Nat.le_refl _) (fun _ _ => rfl) (fun _ _ => rfl)) hf
theorem HasSt.wkI (h : HasSt S id N ins outs bef v3 todo waits) (hf : rnF (WR (5 + 5 * N) some S (obF N ins outs bef todo waits)) fr fr') : Wk [] fr S fr' (HS N ins outs bef todo waits) :=
  wk_of inj_some (h.ok (Nat.le_refl _) (fun _ _ => rfl) (fun _ _ => rfl)) hf
theorem HasSt.wkT {v : Nat} (h : HasSt S id N ins outs bef v3 todo waits) (hs : isS S (5 + 5 * N) (5 + 5 * N + 1) v s) (hf : rnF (WR (5 + 5 * N + 2) some S (tmpF (5 + 5 * N) s (obF N ins outs bef todo waits))) fr fr') : Wk [] fr S fr' (HT N ins outs bef todo waits s) := by
  refine wk_of inj_some (fun i hi => ?_) hf
  by_cases h1 : i < 5 + 5 * N
  · exact h.ok (by omega) (fun _ _ => rfl) (fun i hi => tmpF_lt hi) i h1
  · by_cases h2 : i = 5 + 5 * N
    · subst h2
      exact ok_some rfl hs.1 tmpF_0 (.cons (rn_b rfl) (.cons (wr_ref (by omega) rfl hs.2 tmpF_1 (by rw [(encI .u64).length]; exact Nat.le_refl _)) (.nil (Nat.zero_le _))))
    · obtain rfl : i = 5 + 5 * N + 1 := by omega
      exact ok_some rfl hs.2 tmpF_1 (.refl ((encI .u64).blwf 0 _))
def pushM (M i k : Nat) : Nat := if k = 5 + 5 * i then M + 1 else if k = 6 + 5 * i then M + 2 else if k = 7 + 5 * i then M + 3 else if k = 8 + 5 * i then M + 4 else k
theorem pushM_no {M i k : Nat} (h1 : k ≠ 5 + 5 * i) (h2 : k ≠ 6 + 5 * i) (h3 : k ≠ 7 + 5 * i) (h4 : k ≠ 8 + 5 * i) : pushM M i k = k := by
  unfold pushM; rw [if_neg h1, if_neg h2, if_neg h3, if_neg h4]
theorem pushM_5 {M i : Nat} : pushM M i (5 + 5 * i) = M + 1 := by unfold pushM; rw [if_pos rfl]
theorem pushM_6 {M i : Nat} : pushM M i (6 + 5 * i) = M + 2 := by unfold pushM; rw [if_neg (by omega), if_pos rfl]
theorem pushM_7 {M i : Nat} : pushM M i (7 + 5 * i) = M + 3 := by unfold pushM; rw [if_neg (by omega), if_neg (by omega), if_pos rfl]
theorem pushM_8 {M i : Nat} : pushM M i (8 + 5 * i) = M + 4 := by unfold pushM; rw [if_neg (by omega), if_neg (by omega), if_neg (by omega), if_pos rfl]
theorem pushM_inj {M i : Nat} : ∀ a b, a < M → b < M → pushM M i a = pushM M i b → a = b := by
  intro a b ha hb h
  unfold pushM at h
  repeat' split at h
  all_goals omega
theorem HasSt.push (h : HasSt S id N ins outs bef v3 todo waits) {i va vb : Nat} {a b : Bits_Set} {cs0 cs1 : List AV} {S' : List Ob} (hi : ins.length = i) (ho : outs.length = i) (hlt : i < N) (h0 : hp S 0 = .arr 0 cs0) (h1 : hp S 1 = .arr 0 cs1)
    (e : ∀ k, k < 5 + 5 * N → k ≠ 0 → k ≠ 1 → hp S' k = hp S k) (e0 : hp S' 0 = .arr 0 (cs0.set i (.ptr (5 + 5 * N + 1) 0 0))) (e1 : hp S' 1 = .arr 0 (cs1.set i (.ptr (5 + 5 * N + 3) 0 0)))
    (ha : isS S' (5 + 5 * N + 1) (5 + 5 * N + 2) va a) (hb : isS S' (5 + 5 * N + 3) (5 + 5 * N + 4) vb b) : HasSt S' (pushM (5 + 5 * N) i) N (ins ++ [a]) (outs ++ [b]) bef v3 todo waits := by
  have p0 : pushM (5 + 5 * N) i 0 = 0 := pushM_no (by omega) (by omega) (by omega) (by omega)
  have p1 : pushM (5 + 5 * N) i 1 = 1 := pushM_no (by omega) (by omega) (by omega) (by omega)
  have p2 : pushM (5 + 5 * N) i 2 = 2 := pushM_no (by omega) (by omega) (by omega) (by omega)
  have p3 : pushM (5 + 5 * N) i 3 = 3 := pushM_no (by omega) (by omega) (by omega) (by omega)
  have p4 : pushM (5 + 5 * N) i 4 = 4 := pushM_no (by omega) (by omega) (by omega) (by omega)
  refine ⟨?_, ?_, ?_, ?_, ?_, fun j s hs => ?_, fun j s hs => ?_, fun j c d => ?_, fun j c d => ?_, by simp; omega, by simp; omega⟩
  · obtain ⟨cs, q1, q2, q3⟩ := h.c0
    have hcc : cs = cs0 := by
      have q1' : hp S 0 = .arr 0 cs := q1
      rw [h0] at q1'; cases q1'; rfl
    subst hcc
    refine ⟨_, by rw [p0]; exact e0, by rw [List.length_set]; exact q2, fun j hj => ?_⟩
    by_cases hji : j = i
    · subst hji; rw [List.getElem?_set_self (by omega), pushM_5]
    · rw [List.getElem?_set_ne (Ne.symm hji), pushM_no (by omega) (by omega) (by omega) (by omega)]
      exact q3 j (by simp at hj; omega)
  · obtain ⟨cs, q1, q2, q3⟩ := h.c1
    have hcc : cs = cs1 := by
      have q1' : hp S 1 = .arr 0 cs := q1
      rw [h1] at q1'; cases q1'; rfl
    subst hcc
    refine ⟨_, by rw [p1]; exact e1, by rw [List.length_set]; exact q2, fun j hj => ?_⟩
    by_cases hji : j = i
    · subst hji; rw [List.getElem?_set_self (by omega), pushM_7]
    · rw [List.getElem?_set_ne (Ne.symm hji), pushM_no (by omega) (by omega) (by omega) (by omega)]
      exact q3 j (by simp at hj; omega)
  · obtain ⟨cs, q1, q2, q3⟩ := h.c2
    refine ⟨cs, by rw [p2, e 2 (by omega) (by omega) (by omega)]; exact q1, q2, fun j hj => ?_⟩
    obtain ⟨v, k1, k2⟩ := q3 j hj
    have pj : pushM (5 + 5 * N) i (9 + 5 * j) = 9 + 5 * j := pushM_no (by omega) (by omega) (by omega) (by omega)
    exact ⟨v, by rw [pj]; exact k1, by rw [pj, e _ (by omega) (by omega) (by omega)]; exact k2⟩
  · obtain ⟨x, q⟩ := h.c3
    exact ⟨x, by rw [p3, e 3 (by omega) (by omega) (by omega)]; exact q⟩
  · rw [p4, e 4 (by omega) (by omega) (by omega)]; exact h.c4
  · by_cases hji : j = i
    · subst hji
      rw [← hi, List.getElem?_append_right (Nat.le_refl _)] at hs
      simp at hs; subst hs
      rw [pushM_5, pushM_6]; exact ⟨va, ha⟩
    · have hj : j < i := by
        have := (List.getElem?_eq_some_iff.1 hs).1
        simp at this; omega
      rw [List.getElem?_append_left (by omega)] at hs
      obtain ⟨v, q⟩ := h.c5 j s hs
      rw [pushM_no (by omega) (by omega) (by omega) (by omega), pushM_no (by omega) (by omega) (by omega) (by omega)]
      exact ⟨v, isS_congr q (e _ (by omega) (by omega) (by omega)) (e _ (by omega) (by omega) (by omega))⟩
  · by_cases hji : j = i
    · subst hji
      rw [← ho, List.getElem?_append_right (Nat.le_refl _)] at hs
      simp at hs; subst hs
      rw [pushM_7, pushM_8]; exact ⟨vb, hb⟩
    · have hj : j < i := by
        have := (List.getElem?_eq_some_iff.1 hs).1
        simp at this; omega
      rw [List.getElem?_append_left (by omega)] at hs
      obtain ⟨v, q⟩ := h.c6 j s hs
      rw [pushM_no (by omega) (by omega) (by omega) (by omega), pushM_no (by omega) (by omega) (by omega) (by omega)]
      exact ⟨v, isS_congr q (e _ (by omega) (by omega) (by omega)) (e _ (by omega) (by omega) (by omega))⟩
  · simp at c
    have q := h.c7 j (by omega) d
    simp only [id] at q
    rw [pushM_no (by omega) (by omega) (by omega) (by omega), pushM_no (by omega) (by omega) (by omega) (by omega), e _ (by omega) (by omega) (by omega), e _ (by omega) (by omega) (by omega)]
    exact q
  · simp at c
    have q := h.c8 j (by omega) d
    simp only [id] at q
    rw [pushM_no (by omega) (by omega) (by omega) (by omega), pushM_no (by omega) (by omega) (by omega) (by omega), e _ (by omega) (by omega) (by omega), e _ (by omega) (by omega) (by omega)]
    exact q
def waitM (M k : Nat) : Nat := if k = 4 then M else k
theorem waitM_no {M k : Nat} (h : k ≠ 4) : waitM M k = k := by unfold waitM; rw [if_neg h]
theorem waitM_4 {M : Nat} : waitM M 4 = M := by unfold waitM; rw [if_pos rfl]
theorem waitM_inj {M : Nat} : ∀ a b, a < M → b < M → waitM M a = waitM M b → a = b := by
  intro a b ha hb h
  unfold waitM at h
  repeat' split at h
  all_goals omega
theorem HasSt.newWaits (h : HasSt S id N ins outs bef v3 todo waits) {S' : List Ob} {waits' : List Bool} (e : ∀ k, k < 5 + 5 * N → hp S' k = hp S k) (e4 : hp S' (5 + 5 * N) = .arr 0 (flat avB waits')) : HasSt S' (waitM (5 + 5 * N)) N ins outs bef v3 todo waits' := by
  have hli := h.li; have hlo := h.lo
  refine ⟨?_, ?_, ?_, ?_, by rw [waitM_4]; exact e4, fun j s hs => ?_, fun j s hs => ?_, fun j c d => ?_, fun j c d => ?_, h.li, h.lo⟩
  · obtain ⟨cs, q1, q2, q3⟩ := h.c0
    refine ⟨cs, by rw [waitM_no (by omega), e 0 (by omega)]; exact q1, q2, fun j hj => ?_⟩
    rw [waitM_no (by omega)]; exact q3 j hj
  · obtain ⟨cs, q1, q2, q3⟩ := h.c1
    refine ⟨cs, by rw [waitM_no (by omega), e 1 (by omega)]; exact q1, q2, fun j hj => ?_⟩
    rw [waitM_no (by omega)]; exact q3 j hj
  · obtain ⟨cs, q1, q2, q3⟩ := h.c2
    refine ⟨cs, by rw [waitM_no (by omega), e 2 (by omega)]; exact q1, q2, fun j hj => ?_⟩
    obtain ⟨v, k1, k2⟩ := q3 j hj
    exact ⟨v, by rw [waitM_no (by omega)]; exact k1, by rw [waitM_no (by omega), e _ (by omega)]; exact k2⟩
  · obtain ⟨x, q⟩ := h.c3
    exact ⟨x, by rw [waitM_no (by omega), e 3 (by omega)]; exact q⟩
  · have := (List.getElem?_eq_some_iff.1 hs).1
    obtain ⟨v, q⟩ := h.c5 j s hs
    rw [waitM_no (by omega), waitM_no (by omega)]
    exact ⟨v, isS_congr q (e _ (by omega)) (e _ (by omega))⟩
  · have := (List.getElem?_eq_some_iff.1 hs).1
    obtain ⟨v, q⟩ := h.c6 j s hs
    rw [waitM_no (by omega), waitM_no (by omega)]
    exact ⟨v, isS_congr q (e _ (by omega)) (e _ (by omega))⟩
  · have q := h.c7 j c d
    simp only [id] at q
    rw [waitM_no (by omega), waitM_no (by omega), e _ (by omega), e _ (by omega)]
    exact q
  · have q := h.c8 j c d
    simp only [id] at q
    rw [waitM_no (by omega), waitM_no (by omega), e _ (by omega), e _ (by omega)]
    exact q
def initM (i : Nat) : Option Nat := if i < 4 then some i else none
theorem wk_init {m1 m2 : List Unit} {m3 : List (List Int)} (h1 : m1.length = N) (h2 : m2.length = N) (h3 : m3 = List.replicate N [])
    (hf : rnF (WR (5 + 5 * N) initM [.arr 0 (flat (fun (_ : Unit) => AV.nilp) m1), .arr 0 (flat (fun (_ : Unit) => AV.nilp) m2), .arr 0 (flat (fun (_ : List Int) => AV.nils) m3), .arr 0 (flat (avI .i64) [])] (obF N [] [] m3 [] [])) fr fr') :
    Wk [] fr [.arr 0 (flat (fun (_ : Unit) => AV.nilp) m1), .arr 0 (flat (fun (_ : Unit) => AV.nilp) m2), .arr 0 (flat (fun (_ : List Int) => AV.nils) m3), .arr 0 (flat (avI .i64) [])] fr' (HS N [] [] m3 [] []) := by
  have eN : Enc (fun (_ : Unit) => AV.nilp) none := ⟨fun _ => rfl, fun _ => rfl, fun _ => rfl, fun _ _ => rfl⟩
  have eL : Enc (fun (_ : List Int) => AV.nils) none := ⟨fun _ => rfl, fun _ => rfl, fun _ => rfl, fun _ _ => rfl⟩
  refine wk_of (fun i j o _ _ a b => ?_) (fun i hi => ?_) hf
  · unfold initM at a b
    split at a <;> split at b <;> first | (cases a; cases b; rfl) | (cases a; done) | (cases b; done)
  · match i, hi with
    | 0, _ =>
      refine ok_some rfl rfl rfl (rnl_get (by rw [ptrsC_len, eN.length]; simp [szOf]; omega) (fun j a b => ?_))
      simp only [ptrsC, List.getElem_map, List.length_nil, Nat.not_lt_zero, if_false]
      exact .junk _
    | 1, _ =>
      refine ok_some rfl rfl rfl (rnl_get (by rw [ptrsC_len, eN.length]; simp [szOf]; omega) (fun j a b => ?_))
      simp only [ptrsC, List.getElem_map, List.length_nil, Nat.not_lt_zero, if_false]
      exact .junk _
    | 2, _ =>
      have hl : m3.length = N := by rw [h3]; simp
      refine ok_some rfl rfl rfl (rnl_get (by rw [befC_len, eL.length]; simp [szOf]; omega) (fun j a b => ?_))
      rw [befC_len] at b
      have e1 : ∀ l : List (List Int), flat (fun (_ : List Int) => AV.nils) l = List.replicate l.length .nils := fun l => by
        induction l with
        | nil => rfl
        | cons x l ih => rw [flat_cons, ih]; rfl
      have e2 : (flat (fun (_ : List Int) => AV.nils) m3)[j] = .nils := by simp only [e1, List.getElem_replicate]
      rw [e2]
      have e3 : m3.getD j [] = [] := by rw [h3]; simp [List.getD_eq_getElem?_getD, b]
      simp only [befC, List.getElem_map, List.getElem_range, e3, List.length_nil]
      exact wr_nil (by omega) obF_9
    | 3, _ => exact ok_some rfl rfl rfl (.nil (Nat.zero_le _))
    | 4, _ => exact ok_none rfl rfl
    | i + 5, hi =>
      refine ok_none (v' := 0) rfl ?_
      obtain ⟨j, c, hc, rfl⟩ : ∃ j c, c < 5 ∧ i = c + 5 * j := ⟨i / 5, i % 5, by omega, by omega⟩
      rw [show c + 5 * j + 5 = 5 + c + 5 * j by omega, obF_c hc]
      match c, hc with
      | 0, _ => rfl
      | 1, _ => rfl
      | 2, _ => rfl
      | 3, _ => rfl
      | 4, _ =>
        show Ob.arr 0 (flat (avI .i64) (m3.getD j [])) = _
        rw [show m3.getD j [] = [] by rw [h3]; simp [List.getD_eq_getElem?_getD, List.getElem?_replicate]; split <;> rfl]; rfl
end
end Go.Proofs.YtgoejecjmodjiaaDoor

/- live.solve's answer, when it is frozen. -/
namespace Go.Proofs.YtgoejecjmodjiaaDoor
open Go Go.Ab
set_option linter.unusedVariables false
set_option linter.unusedSimpArgs false
section
variable {S : List Ob} {N v3 k : Nat} {ins outs : List Bits_Set} {bef : List (List Int)} {todo : List Int} {waits : List Bool}
theorem frz_ref {α : Type} {f : α → AV} {esh : Option Nat} (he : Enc f esh) {o ver : Nat} {l : List α} (ho : hp S o = .arr ver (flat f l)) : frz 0 S (k + 1) (.ref o ver 0 l.length esh) = .sl false (szOf esh) (l.map f) := by
  have hb : (AV.ref o ver 0 l.length esh).blw 0 = false := by simp [AV.blw]
  have hm : (flat f l).map (frz 0 S k) = flat f l := frz_map (he.blwf 0 l)
  simp only [frz, hb, ho, Bool.false_eq_true, if_false, hm, List.drop_zero]
  rw [if_pos ⟨trivial, by rw [he.length]; omega, he.all l⟩, he.elems]
theorem frz_set {p pw v : Nat} {s : Bits_Set} (hs : isS S p pw v s) : frz 0 S (k + 2) (.ptr p 0 0) = avP Bits_Set.av (some s) := by
  have hb : (AV.ptr p 0 0).blw 0 = false := by simp [AV.blw]
  have h1 : frz 0 S (k + 1) (.int .i64 s.n) = .int .i64 s.n := frz_id rfl
  have h2 : frz 0 S (k + 1) (.ref pw v 0 (List.length s.words) none) = .sl false 1 (s.words.map (avI .u64)) := frz_ref (encI .u64) hs.2
  have e : frz 0 S (k + 2) (.ptr p 0 0) = .cptr ([AV.int .i64 s.n, .ref pw v 0 (List.length s.words) none].map (frz 0 S (k + 1))) 0 := by
    show (if (AV.ptr p 0 0).blw 0 = true then AV.ptr p 0 0 else match hp S p with | .arr v cs => if v = 0 then .cptr (cs.map (frz 0 S (k + 1))) 0 else .junk | _ => .junk) = _
    rw [hb, hs.1]; rfl
  rw [e, List.map_cons, List.map_cons, List.map_nil, h1, h2]
  rfl
theorem frz_list {o N : Nat} {cs : List AV} {l : List Bits_Set} (ho : hp S o = .arr 0 cs) (hl : cs.length = N) (hN : l.length = N) (h : ∀ (j : Nat) (s : Bits_Set), l[j]? = some s → ∃ c, cs[j]? = some c ∧ frz 0 S (k + 2) c = avP Bits_Set.av (some s)) :
    frz 0 S (k + 3) (.ref o 0 0 N none) = .sl false 1 ((l.map some).map (avP Bits_Set.av)) := by
  have hb : (AV.ref o 0 0 N none).blw 0 = false := by simp [AV.blw]
  have e1 : cs.map (frz 0 S (k + 2)) = (l.map some).map (avP Bits_Set.av) := by
    apply List.ext_getElem?
    intro j
    cases e : l[j]? with
    | some s =>
      obtain ⟨c, h1, h2⟩ := h j s e
      simp only [List.getElem?_map, h1, e, Option.map_some, h2]
    | none =>
      have : cs[j]? = none := by simp at e ⊢; omega
      simp only [List.getElem?_map, this, e, Option.map_none]
  have e2 : frz 0 S (k + 3) (.ref o 0 0 N none) = if 0 = 0 ∧ 0 + N * szOf none ≤ cs.length ∧ ((cs.map (frz 0 S (k + 2))).drop 0).all AV.one = true then .sl false (szOf none) (elemsOf none N ((cs.map (frz 0 S (k + 2))).drop 0)) else .junk := by
    show (if (AV.ref o 0 0 N none).blw 0 = true then AV.ref o 0 0 N none else match hp S o with | .arr v cs => if v = 0 ∧ 0 + N * szOf none ≤ cs.length ∧ ((cs.map (frz 0 S (k + 2))).drop 0).all AV.one = true then .sl false (szOf none) (elemsOf none N ((cs.map (frz 0 S (k + 2))).drop 0)) else .junk | _ => .junk) = _
    rw [hb, ho]; rfl
  rw [e2, e1, List.drop_zero]
  rw [if_pos ⟨rfl, by simp [szOf]; omega, by simp [AV.one, avP]⟩]
  show AV.sl false 1 (((l.map some).map (avP Bits_Set.av)).take N) = _
  rw [List.take_of_length_le (by simp; omega)]
theorem frz_ins (h : HasSt S id N ins outs bef v3 todo waits) (hN : ins.length = N) : frz 0 S (k + 3) (.ref 0 0 0 N none) = .sl false 1 ((ins.map some).map (avP Bits_Set.av)) := by
  obtain ⟨cs, h1, h2, h3⟩ := h.c0
  refine frz_list h1 h2 hN (fun j s e => ?_)
  obtain ⟨v, q⟩ := h.c5 j s e
  exact ⟨_, h3 j (List.getElem?_eq_some_iff.1 e).1, frz_set q⟩
theorem frz_outs (h : HasSt S id N ins outs bef v3 todo waits) (hN : outs.length = N) : frz 0 S (k + 3) (.ref 1 0 0 N none) = .sl false 1 ((outs.map some).map (avP Bits_Set.av)) := by
  obtain ⟨cs, h1, h2, h3⟩ := h.c1
  refine frz_list h1 h2 hN (fun j s e => ?_)
  obtain ⟨v, q⟩ := h.c6 j s e
  exact ⟨_, h3 j (List.getElem?_eq_some_iff.1 e).1, frz_set q⟩
theorem fz_res (h : HasSt S id N ins outs bef v3 todo waits) (h1 : ins.length = N) (h2 : outs.length = N) :
    AVw (frz 0 S 6 (.tup [.ref 0 0 0 N none, .ref 1 0 0 N none])) (.tup [.sl false 1 ((ins.map some).map (avP Bits_Set.av)), .sl false 1 ((outs.map some).map (avP Bits_Set.av))]) :=
  fz_tup ⟨by rw [frz_ins h h1]; exact .refl _, by rw [frz_outs h h2]; exact .refl _, trivial⟩
theorem setAt_twice {x y : Ob} : ∀ (S : List Ob) (o : Nat), setAt (setAt S o x) o y = setAt S o y
  | [], 0 => rfl
  | [], n + 1 => by simp only [setAt, setAt_twice [] n]
  | z :: s, 0 => rfl
  | z :: s, n + 1 => by simp only [setAt, setAt_twice s n]
end
end Go.Proofs.YtgoejecjmodjiaaDoor

