/- The sets of live.solve: the functions of bits on any heap. -/
import Derived.Test.YtepdcebjobjjgaaDoorWlTz
import Derived.Test.YtepdcebjobjjgaaDoorGenB
set_option linter.unusedVariables false
set_option linter.unusedSimpArgs false
namespace Go.Proofs.YtepdcebjobjjgaaDoor
open Go Go.Ab
def isS (S : List Ob) (p pw v : Nat) (s : d7) : Prop :=
 hp S p = .arr 0 [.int .i64 s.n, .ref pw v 0 (List.length s.words) none] /\ hp S pw = .arr v (flat (avI .u64) s.words)
def a3j (S : List Ob) (p pw v : Nat) (s : d7) : List Ob :=
 p8 (p8 S p (.arr 0 [.int .i64 s.n, .ref pw v 0 (List.length s.words) none])) pw (.arr v (flat (avI .u64) s.words))
section
variable {S : List Ob} {p pw q qw v v' : Nat} {s t : d7}
theorem a1k {i : Nat} (h1 : i ≠ p) (h2 : i ≠ pw) : hp (a3j S p pw v s) i = hp S i := by
 simp only [a3j, o8]; rw [a1A h2, a1A h1]
theorem a1Z (h : p ≠ pw) : isS (a3j S p pw v s) p pw v s := by
 simp only [isS, a3j, o8]
 exact ⟨by rw [a1A h, a4h], a4h⟩
theorem b7A (h : isS S p pw v s) : p < S.length /\ pw < S.length := ⟨a6j h.1, a6j h.2⟩
theorem a8Z (h : isS S p pw v s) {v' : Nat} {t : d7} : (a3j S p pw v' t).length = S.length := by
 have := b7A h
 simp only [a3j]
 rw [a1B _ _ _ (by rw [a1B _ _ _ zO]; omega), a1B _ _ _ zO]
 omega
theorem a4V : (a3j S S.length (S.length + 1) v s).length = S.length + 2 := by
 simp only [a3j]
 rw [a1B _ _ _ (by rw [a1B _ _ _ (Nat.le_refl _)]; omega), a1B _ _ _ (Nat.le_refl _)]
 omega
theorem x5 {S' : List Ob} (h : isS S p pw v s) (h1 : hp S' p = hp S p) (h2 : hp S' pw = hp S pw) : isS S' p pw v s := by
 unfold isS; rw [h1, h2]; exact h
theorem b4l {M : List Nat} {T : List Ob} {o o' O' v0 V : Nat} {n : Int} {k : Nat} {cs CS : List AV} (h : hp S (M.getD o 0) = .arr 0 [.int .i64 n, .ref O' V 0 k none]) (h1 : Nat.blt o' T.length = true) (h2 : M.getD o' 0 = O') (h3 : hp S O' = .arr V CS) (h4 : hp T o' = .arr v0 cs) :
  FrIn M T S o (.arr 0 [.int .i64 n, .ref o' v0 0 k none]) :=
 a0e h rfl (cB rfl (.cons (a4f h1 h2 h3 h4) nL))
theorem a7n {M : List Nat} {T T' S' : List Ob} {o' O' v0 V : Nat} {n : Int} {k : Nat} {cs CS : List AV} (h1 : Nat.blt o' T'.length = true) (h2 : frN M T S o' = O') (h3 : hp T' o' = .arr v0 cs) (h4 : hp S' O' = .arr V CS) :
  RnL (frO M T T' S S') 0 [.int .i64 n, .ref o' v0 0 k none] [.int .i64 n, .ref O' V 0 k none] := cB rfl (.cons (a3a h1 h2 h3 h4) nL)

theorem c0u {i : Int} {r} (h : w5 s.n s.words i = some r) (hs : isS S p pw v s) (hne : p ≠ pw) :
  Ev Tryd.prog 69 [.ptr p 0 0, .int .i64 i] (hp S) (.bool r.1) (hp (a3j S p pw (v + 1) ⟨r.2.1, r.2.2⟩)) := by
 have hk := a1Z (S := S) (v := v + 1) (s := ⟨r.2.1, r.2.2⟩) hne
 refine (a4U h).frame [p, pw] rfl (by simp [hne]) (Nat.le_refl _) (by rw [a8Z hs]; rfl)
  ⟨b4l hs.1 rfl rfl hs.2 rfl, a0e hs.2 rfl (.refl ((g5 .u64).blwf 0 _)), trivial⟩
  ⟨m0 hk.1 rfl (a7n rfl rfl rfl hk.2) hs.1 rfl, b1T hk.2 rfl (.refl ((g5 .u64).blwf 0 _)) hs.2 (by simp [Nat.blt_eq]), trivial⟩
  (fun j hj hm => ?_) rfl (.cons (v9 rfl rfl hs.1 rfl) (cB rfl nL)) (g7 rfl)
 simp only [List.mem_cons, List.not_mem_nil, or_false, not_or] at hm
 exact a1k hm.1 hm.2
theorem c0v {i : Int} {r} (h : p9 s.n s.words i = some r) (hs : isS S p pw v s) (hne : p ≠ pw) :
  Ev Tryd.prog 71 [.ptr p 0 0, .int .i64 i] (hp S) (.bool r.1) (hp (a3j S p pw (v + 1) ⟨r.2.1, r.2.2⟩)) := by
 have hk := a1Z (S := S) (v := v + 1) (s := ⟨r.2.1, r.2.2⟩) hne
 refine (a2r h).frame [p, pw] rfl (by simp [hne]) (Nat.le_refl _) (by rw [a8Z hs]; rfl)
  ⟨b4l hs.1 rfl rfl hs.2 rfl, a0e hs.2 rfl (.refl ((g5 .u64).blwf 0 _)), trivial⟩
  ⟨m0 hk.1 rfl (a7n rfl rfl rfl hk.2) hs.1 rfl, b1T hk.2 rfl (.refl ((g5 .u64).blwf 0 _)) hs.2 (by simp [Nat.blt_eq]), trivial⟩
  (fun j hj hm => ?_) rfl (.cons (v9 rfl rfl hs.1 rfl) (cB rfl nL)) (g7 rfl)
 simp only [List.mem_cons, List.not_mem_nil, or_false, not_or] at hm
 exact a1k hm.1 hm.2
theorem c2D {fuel : Nat} {r} {vq : Nat} (h : y5 fuel s.n s.words t.n t.words = some r) (hn : r.2.2.2 = t.n) (hs : isS S p pw v s) (ht : isS S q qw vq t) (hnd : [p, pw, q, qw].Nodup) :
  Ev Tryd.prog 67 [.ptr p 0 0, .ptr q 0 0] (hp S) (.bool r.1) (hp (a3j S p pw (v + 1) ⟨r.2.1, r.2.2.1⟩)) := by
 have hd := hnd
 simp only [List.nodup_cons, List.mem_cons, List.not_mem_nil, or_false, not_or, not_false_eq_true, List.nodup_nil, and_true] at hd
 obtain ⟨⟨d1, d2, d3⟩, ⟨d4, d5⟩, d6⟩ := hd
 have hk := a1Z (S := S) (v := v + 1) (s := ⟨r.2.1, r.2.2.1⟩) d1
 have hk2 : isS (a3j S p pw (v + 1) ⟨r.2.1, r.2.2.1⟩) q qw vq t := x5 ht (a1k (Ne.symm d2) (Ne.symm d4)) (a1k (Ne.symm d3) (Ne.symm d5))
 have e := a3J h
 rw [hn] at e
 refine e.frame [p, pw, q, qw] rfl hnd (Nat.le_refl _) (by rw [a8Z hs]; rfl)
  ⟨b4l hs.1 rfl rfl hs.2 rfl, a0e hs.2 rfl (.refl ((g5 .u64).blwf 0 _)), b4l ht.1 rfl rfl ht.2 rfl, a0e ht.2 rfl (.refl ((g5 .u64).blwf 0 _)), trivial⟩
  ⟨m0 hk.1 rfl (a7n rfl rfl rfl hk.2) hs.1 rfl, b1T hk.2 rfl (.refl ((g5 .u64).blwf 0 _)) hs.2 (by simp [Nat.blt_eq]), m0 hk2.1 rfl (a7n rfl rfl rfl hk2.2) ht.1 rfl, m0 hk2.2 rfl (.refl ((g5 .u64).blwf 0 _)) ht.2 rfl, trivial⟩
  (fun j hj hm => ?_) rfl (.cons (v9 rfl rfl hs.1 rfl) (.cons (v9 rfl rfl ht.1 rfl) nL)) (g7 rfl)
 simp only [List.mem_cons, List.not_mem_nil, or_false, not_or] at hm
 exact a1k hm.1 hm.2.1
theorem b8v {r} (h : y6 s.n s.words = some r) (hn : r.1 = s.n) (hs : isS S p pw v s) (hne : p ≠ pw) :
  Ev Tryd.prog 68 [.ptr p 0 0] (hp S) (.ptr S.length 0 0) (hp (a3j S S.length (S.length + 1) 1 ⟨r.2.1, r.2.2⟩)) := by
 have hl := b7A hs
 have hk := a1Z (S := S) (p := S.length) (pw := S.length + 1) (v := 1) (s := ⟨r.2.1, r.2.2⟩) zO
 have hk2 : isS (a3j S S.length (S.length + 1) 1 ⟨r.2.1, r.2.2⟩) p pw v s := x5 hs (a1k zO zO) (a1k zO zO)
 have e := a3K h
 rw [hn] at e
 have e2 : ∀ T : List Ob, T.length = 2 -> frN [p, pw] T S 2 = S.length := fun T hT => by simp [frN, hT]
 have e3 : ∀ T : List Ob, T.length = 2 -> frN [p, pw] T S 3 = S.length + 1 := fun T hT => by simp [frN, hT]
 refine e.frame [p, pw] rfl (by simp [hne]) zS (by rw [a4V]; rfl)
  ⟨b4l hs.1 rfl rfl hs.2 rfl, a0e hs.2 rfl (.refl ((g5 .u64).blwf 0 _)), trivial⟩
  ⟨m0 hk2.1 rfl (a7n rfl rfl rfl hk2.2) hs.1 rfl, m0 hk2.2 rfl (.refl ((g5 .u64).blwf 0 _)) hs.2 rfl,
   fr_outN (CS' := [.int .i64 r.2.1, .ref (S.length + 1) 1 0 (List.length r.2.2) none]) (by rw [e2 _ rfl]; exact hk.1) rfl (a7n rfl (e3 _ rfl) rfl hk.2) rfl, fr_outN (by rw [e3 _ rfl]; exact hk.2) rfl (.refl ((g5 .u64).blwf 0 _)) rfl, trivial⟩
  (fun j hj hm => ?_) rfl (.cons (v9 rfl rfl hs.1 rfl) nL) (b7s rfl (e2 _ rfl) rfl hk.1)
 exact a1k zO zO
theorem c0w {n : Int} {r} (h : a1U n = some r) :
  Ev Tryd.prog 66 [.int .i64 n] (hp S) (.ptr S.length 0 0) (hp (a3j S S.length (S.length + 1) 1 ⟨r.1, r.2⟩)) := by
 have hk := a1Z (S := S) (p := S.length) (pw := S.length + 1) (v := 1) (s := ⟨r.1, r.2⟩) zO
 have e2 : frN [] [] S 0 = S.length := by simp [frN]
 have e3 : frN [] [] S 1 = S.length + 1 := by simp [frN]
 refine (a8Y h).frame [] rfl zS (Nat.zero_le _) (by rw [a4V]; rfl)
  trivial
  ⟨fr_outN (CS' := [.int .i64 r.1, .ref (S.length + 1) 1 0 (List.length r.2) none]) (by rw [e2]; exact hk.1) rfl (a7n rfl e3 rfl hk.2) rfl, fr_outN (by rw [e3]; exact hk.2) rfl (.refl ((g5 .u64).blwf 0 _)) rfl, trivial⟩
  (fun j hj hm => a1k zO zO) rfl (cB rfl nL) (b7s rfl e2 rfl hk.1)
end
end Go.Proofs.YtepdcebjobjjgaaDoor

/- The heap of live.solve: lists of pointers to sets, lists of lists, two lists; every set and every inner list has its own objects. -/
namespace Go.Proofs.YtepdcebjobjjgaaDoor
open Go Go.Ab
def a3x (s : Option d7) (pw : Nat) : Ob := match s with | some s => .arr 0 [.int .i64 s.n, .ref pw 0 0 (List.length s.words) none] | none => .arr 0 []
def a4W (s : Option d7) : Ob := match s with | some s => .arr 0 (flat (avI .u64) s.words) | none => .arr 0 []
def c2E (ins outs : List d7) (bef : List (List Int)) (j c : Nat) : Ob :=
 match c with
 | 0 => a3x ins[j]? (6 + 5 * j)
 | 1 => a4W ins[j]?
 | 2 => a3x outs[j]? (8 + 5 * j)
 | 3 => a4W outs[j]?
 | _ => .arr 0 (flat (avI .i64) (bef.getD j []))
def a7S (N k b : Nat) : List AV := (List.range N).map fun j => if j < k then .ptr (b + 5 * j) 0 0 else .junk
def b8w (N : Nat) (bef : List (List Int)) : List AV := (List.range N).map fun j => .ref (9 + 5 * j) 0 0 (bef.getD j []).length none
def obF (N : Nat) (ins outs : List d7) (bef : List (List Int)) (todo : List Int) (waits : List Bool) : Nat -> Ob
 | 0 => .arr 0 (a7S N ins.length 5)
 | 1 => .arr 0 (a7S N outs.length 7)
 | 2 => .arr 0 (b8w N bef)
 | 3 => .arr 0 (flat (avI .i64) todo)
 | 4 => .arr 0 (flat avB waits)
 | i + 5 => c2E ins outs bef (i / 5) (i % 5)
section
variable {N : Nat} {ins outs : List d7} {bef : List (List Int)} {todo : List Int} {waits : List Bool}
theorem b2O {j c : Nat} (hc : c < 5) : obF N ins outs bef todo waits (5 + c + 5 * j) = c2E ins outs bef j c := by
 rw [show 5 + c + 5 * j = (5 * j + c) + 5 by omega]
 show c2E ins outs bef ((5 * j + c) / 5) ((5 * j + c) % 5) = _
 rw [show (5 * j + c) / 5 = j by omega, show (5 * j + c) % 5 = c by omega]
theorem b4m {j : Nat} : obF N ins outs bef todo waits (5 + 5 * j) = a3x ins[j]? (6 + 5 * j) := b2O (c := 0) zO
theorem b4n {j : Nat} : obF N ins outs bef todo waits (6 + 5 * j) = a4W ins[j]? := b2O (c := 1) zO
theorem b4o {j : Nat} : obF N ins outs bef todo waits (7 + 5 * j) = a3x outs[j]? (8 + 5 * j) := b2O (c := 2) zO
theorem b4p {j : Nat} : obF N ins outs bef todo waits (8 + 5 * j) = a4W outs[j]? := b2O (c := 3) zO
theorem b1g {j : Nat} : obF N ins outs bef todo waits (9 + 5 * j) = .arr 0 (flat (avI .i64) (bef.getD j [])) := b2O (c := 4) zO
theorem a0P {k b : Nat} : (a7S N k b).length = N := by simp [a7S]
theorem b0e {k b j : Nat} (hj : j < N) (hk : j < k) : (a7S N k b)[j]? = some (.ptr (b + 5 * j) 0 0) := by simp [a7S, hj, hk]
theorem a3y : (b8w N bef).length = N := by simp [b8w]
theorem b6p {j : Nat} (hj : j < N) : (b8w N bef)[j]? = some (.ref (9 + 5 * j) 0 0 (bef.getD j []).length none) := by simp [b8w, hj]
theorem a6d (s : Option d7) (pw : Nat) : ∃ cs, a3x s pw = .arr 0 cs := by cases s <;> exact ⟨_, rfl⟩
theorem a7o (s : Option d7) : ∃ cs, a4W s = .arr 0 cs := by cases s <;> exact ⟨_, rfl⟩
end
structure HasSt (S : List Ob) (m : Nat -> Nat) (N : Nat) (ins outs : List d7) (bef : List (List Int)) (v3 : Nat) (todo : List Int) (waits : List Bool) : Prop where
 c0 : ∃ cs, hp S (m 0) = .arr 0 cs /\ cs.length = N /\ ∀ j, j < ins.length -> cs[j]? = some (.ptr (m (5 + 5 * j)) 0 0)
 c1 : ∃ cs, hp S (m 1) = .arr 0 cs /\ cs.length = N /\ ∀ j, j < outs.length -> cs[j]? = some (.ptr (m (7 + 5 * j)) 0 0)
 c2 : ∃ cs, hp S (m 2) = .arr 0 cs /\ cs.length = N /\ ∀ j, j < N -> ∃ v, cs[j]? = some (.ref (m (9 + 5 * j)) v 0 (bef.getD j []).length none) /\ hp S (m (9 + 5 * j)) = .arr v (flat (avI .i64) (bef.getD j []))
 c3 : ∃ x, hp S (m 3) = .arr v3 (flat (avI .i64) todo ++ x)
 c4 : hp S (m 4) = .arr 0 (flat avB waits)
 c5 : ∀ j s, ins[j]? = some s -> ∃ v, isS S (m (5 + 5 * j)) (m (6 + 5 * j)) v s
 c6 : ∀ j s, outs[j]? = some s -> ∃ v, isS S (m (7 + 5 * j)) (m (8 + 5 * j)) v s
 c7 : ∀ j, ins.length <= j -> j < N -> (∃ v cs, hp S (m (5 + 5 * j)) = .arr v cs) /\ ∃ v cs, hp S (m (6 + 5 * j)) = .arr v cs
 c8 : ∀ j, outs.length <= j -> j < N -> (∃ v cs, hp S (m (7 + 5 * j)) = .arr v cs) /\ ∃ v cs, hp S (m (8 + 5 * j)) = .arr v cs
 li : ins.length <= N
 lo : outs.length <= N
section
variable {S : List Ob} {m : Nat -> Nat} {m' : Nat -> Option Nat} {n N v3 : Nat} {ins outs : List d7} {bef : List (List Int)} {todo : List Int} {waits : List Bool} {f : Nat -> Ob}
theorem HasSt.ok (h : HasSt S m N ins outs bef v3 todo waits) (hn : 5 + 5 * N <= n) (hm : ∀ i, i < 5 + 5 * N -> m' i = some (m i)) (hf : ∀ i, i < 5 + 5 * N -> f i = obF N ins outs bef todo waits i) :
  ∀ i, i < 5 + 5 * N -> b7z n m' S f i := by
 intro i hi
 match i, hi with
 | 0, hi =>
   obtain ⟨cs, h1, h2, h3⟩ := h.c0
   refine a0G (hm 0 hi) h1 (hf 0 hi) (a4T (by rw [a0P]; omega) (fun j a b => ?_))
   have hj : j < N := by rw [a0P] at b; exact b
   simp only [a7S, List.getElem_map, List.getElem_range]
   split
   ·rename_i hk
    have e := h3 j hk
    rw [List.getElem?_eq_getElem a] at e
    rw [Option.some.inj e]
    obtain ⟨s, hs⟩ : ∃ s, ins[j]? = some s := ⟨_, List.getElem?_eq_getElem hk⟩
    obtain ⟨v, q⟩ := h.c5 j s hs
    exact b4i zO (hm _ zO) q.1 (by rw [hf _ zO, b4m, hs]; rfl)
   ·exact .junk _
 | 1, hi =>
   obtain ⟨cs, h1, h2, h3⟩ := h.c1
   refine a0G (hm 1 hi) h1 (hf 1 hi) (a4T (by rw [a0P]; omega) (fun j a b => ?_))
   have hj : j < N := by rw [a0P] at b; exact b
   simp only [a7S, List.getElem_map, List.getElem_range]
   split
   ·rename_i hk
    have e := h3 j hk
    rw [List.getElem?_eq_getElem a] at e
    rw [Option.some.inj e]
    obtain ⟨s, hs⟩ : ∃ s, outs[j]? = some s := ⟨_, List.getElem?_eq_getElem hk⟩
    obtain ⟨v, q⟩ := h.c6 j s hs
    exact b4i zO (hm _ zO) q.1 (by rw [hf _ zO, b4o, hs]; rfl)
   ·exact .junk _
 | 2, hi =>
   obtain ⟨cs, h1, h2, h3⟩ := h.c2
   refine a0G (hm 2 hi) h1 (hf 2 hi) (a4T (by rw [a3y]; omega) (fun j a b => ?_))
   have hj : j < N := by rw [a3y] at b; exact b
   simp only [b8w, List.getElem_map, List.getElem_range]
   obtain ⟨v, e, q⟩ := h3 j hj
   rw [List.getElem?_eq_getElem a] at e
   rw [Option.some.inj e]
   exact a3G zO (hm _ zO) q (by rw [hf _ zO, b1g]) (by rw [(g5 .i64).length]; exact Nat.le_refl _)
 | 3, hi =>
   obtain ⟨x, h1⟩ := h.c3
   refine a0G (hm 3 hi) h1 (hf 3 hi) (a4T zS (fun j a b => ?_))
   rw [List.getElem_append_left b]
   exact g7 (a1o ((g5 .i64).blwf 0 _) j b)
 | 4, hi => exact a0G (hm 4 hi) h.c4 (hf 4 hi) (.refl (a8R.blwf 0 _))
 | i + 5, hi =>
   obtain ⟨j, c, hc, rfl⟩ : ∃ j c, c < 5 /\ i = c + 5 * j := ⟨i / 5, i % 5, by omega, by omega⟩
   have hj : j < N := by omega
   match c, hc with
   | 0, _ =>
     rw [show 0 + 5 * j + 5 = 5 + 5 * j by omega] at hi ⊢
     cases e : ins[j]? with
     | some s =>
       obtain ⟨v, q⟩ := h.c5 j s e
       exact a0G (hm _ hi) q.1 (by rw [hf _ hi, b4m, e]; rfl) (cB rfl (.cons (a3G zO (hm _ zO) q.2 (by rw [hf _ zO, b4n, e]; rfl) (by rw [(g5 .u64).length]; exact Nat.le_refl _)) nL))
     | none =>
       obtain ⟨⟨v, cs, q⟩, _⟩ := h.c7 j (by simpa using e) hj
       exact a0G (hm _ hi) q (by rw [hf _ hi, b4m, e]; rfl) nL
   | 1, _ =>
     rw [show 1 + 5 * j + 5 = 6 + 5 * j by omega] at hi ⊢
     cases e : ins[j]? with
     | some s =>
       obtain ⟨v, q⟩ := h.c5 j s e
       exact a0G (hm _ hi) q.2 (by rw [hf _ hi, b4n, e]; rfl) (.refl ((g5 .u64).blwf 0 _))
     | none =>
       obtain ⟨_, v, cs, q⟩ := h.c7 j (by simpa using e) hj
       exact a0G (hm _ hi) q (by rw [hf _ hi, b4n, e]; rfl) nL
   | 2, _ =>
     rw [show 2 + 5 * j + 5 = 7 + 5 * j by omega] at hi ⊢
     cases e : outs[j]? with
     | some s =>
       obtain ⟨v, q⟩ := h.c6 j s e
       exact a0G (hm _ hi) q.1 (by rw [hf _ hi, b4o, e]; rfl) (cB rfl (.cons (a3G zO (hm _ zO) q.2 (by rw [hf _ zO, b4p, e]; rfl) (by rw [(g5 .u64).length]; exact Nat.le_refl _)) nL))
     | none =>
       obtain ⟨⟨v, cs, q⟩, _⟩ := h.c8 j (by simpa using e) hj
       exact a0G (hm _ hi) q (by rw [hf _ hi, b4o, e]; rfl) nL
   | 3, _ =>
     rw [show 3 + 5 * j + 5 = 8 + 5 * j by omega] at hi ⊢
     cases e : outs[j]? with
     | some s =>
       obtain ⟨v, q⟩ := h.c6 j s e
       exact a0G (hm _ hi) q.2 (by rw [hf _ hi, b4p, e]; rfl) (.refl ((g5 .u64).blwf 0 _))
     | none =>
       obtain ⟨_, v, cs, q⟩ := h.c8 j (by simpa using e) hj
       exact a0G (hm _ hi) q (by rw [hf _ hi, b4p, e]; rfl) nL
   | 4, _ =>
     rw [show 4 + 5 * j + 5 = 9 + 5 * j by omega] at hi ⊢
     obtain ⟨cs, h1, h2, h3⟩ := h.c2
     obtain ⟨v, _, q⟩ := h3 j hj
     exact a0G (hm _ hi) q (by rw [hf _ hi, b1g]) (.refl ((g5 .i64).blwf 0 _))
theorem b1Y (hn : 5 + 5 * N <= n) (hf : ∀ i, i < 5 + 5 * N -> f i = obF N ins outs bef todo waits i) (li : ins.length <= N) (lo : outs.length <= N) : HasSt (ofF n f) id N ins outs bef 0 todo waits := by
 have H : ∀ i, i < 5 + 5 * N -> hp (ofF n f) i = obF N ins outs bef todo waits i := fun i hi => by rw [a4L zO, hf i hi]
 refine ⟨⟨_, H 0 zO, a0P, fun j hj => b0e zO hj⟩, ⟨_, H 1 zO, a0P, fun j hj => b0e zO hj⟩,
  ⟨_, H 2 zO, a3y, fun j hj => ⟨0, b6p hj, (H (9 + 5 * j) zO).trans b1g⟩⟩, ⟨[], by rw [List.append_nil]; exact H 3 zO⟩, H 4 zO, fun j s hs => ⟨0, ?_, ?_⟩, fun j s hs => ⟨0, ?_, ?_⟩, fun j h1 h2 => ⟨⟨0, ?_⟩, 0, ?_⟩, fun j h1 h2 => ⟨⟨0, ?_⟩, 0, ?_⟩, li, lo⟩
 ·have : j < ins.length := (List.getElem?_eq_some_iff.1 hs).1
  exact (H (5 + 5 * j) zO).trans (by rw [b4m, hs]; rfl)
 ·have : j < ins.length := (List.getElem?_eq_some_iff.1 hs).1
  exact (H (6 + 5 * j) zO).trans (by rw [b4n, hs]; rfl)
 ·have : j < outs.length := (List.getElem?_eq_some_iff.1 hs).1
  exact (H (7 + 5 * j) zO).trans (by rw [b4o, hs]; rfl)
 ·have : j < outs.length := (List.getElem?_eq_some_iff.1 hs).1
  exact (H (8 + 5 * j) zO).trans (by rw [b4p, hs]; rfl)
 ·obtain ⟨cs, e⟩ := a6d ins[j]? (6 + 5 * j); exact ⟨cs, ((H (5 + 5 * j) zO).trans b4m).trans e⟩
 ·obtain ⟨cs, e⟩ := a7o ins[j]?; exact ⟨cs, ((H (6 + 5 * j) zO).trans b4n).trans e⟩
 ·obtain ⟨cs, e⟩ := a6d outs[j]? (8 + 5 * j); exact ⟨cs, ((H (7 + 5 * j) zO).trans b4o).trans e⟩
 ·obtain ⟨cs, e⟩ := a7o outs[j]?; exact ⟨cs, ((H (8 + 5 * j) zO).trans b4p).trans e⟩
theorem HasSt.ext {S' : List Ob} (h : HasSt S id N ins outs bef v3 todo waits) (he : ∀ i, i < 5 + 5 * N -> hp S' i = hp S i) : HasSt S' id N ins outs bef v3 todo waits := by
 have hli := h.li; have hlo := h.lo
 have e0 := he 0 zO
 have e1 := he 1 zO
 have e2 := he 2 zO
 have e3 := he 3 zO
 have e4 := he 4 zO
 refine ⟨by rw [id, e0]; exact h.c0, by rw [id, e1]; exact h.c1, ?_, by rw [id, e3]; exact h.c3, by rw [id, e4]; exact h.c4, fun j s hs => ?_, fun j s hs => ?_, fun j a b => ?_, fun j a b => ?_, h.li, h.lo⟩
 ·obtain ⟨cs, h1, h2, h3⟩ := h.c2
  refine ⟨cs, by rw [id, e2]; exact h1, h2, fun j hj => ?_⟩
  obtain ⟨v, q1, q2⟩ := h3 j hj
  exact ⟨v, q1, by rw [id, he _ zO]; exact q2⟩
 ·have : j < ins.length := (List.getElem?_eq_some_iff.1 hs).1
  obtain ⟨v, q⟩ := h.c5 j s hs
  exact ⟨v, x5 q (he _ zI) (he _ zI)⟩
 ·have : j < outs.length := (List.getElem?_eq_some_iff.1 hs).1
  obtain ⟨v, q⟩ := h.c6 j s hs
  exact ⟨v, x5 q (he _ zI) (he _ zI)⟩
 ·have := h.c7 j a b
  simp only [id] at this ⊢
  rw [he _ zO, he _ zO]; exact this
 ·have := h.c8 j a b
  simp only [id] at this ⊢
  rw [he _ zO, he _ zO]; exact this
theorem HasSt.inAt (h : HasSt S id N ins outs bef v3 todo waits) {j : Nat} (hj : j < ins.length) : ∃ cs, hp S 0 = .arr 0 cs /\ a0M none cs j = some (.ptr (5 + 5 * j) 0 0) := by
 obtain ⟨cs, h1, h2, h3⟩ := h.c0
 have := h.li
 refine ⟨cs, h1, ?_⟩
 simp only [a0M]
 rw [if_pos zO, List.getD_eq_getElem?_getD, h3 j hj]; rfl
theorem HasSt.outAt (h : HasSt S id N ins outs bef v3 todo waits) {j : Nat} (hj : j < outs.length) : ∃ cs, hp S 1 = .arr 0 cs /\ a0M none cs j = some (.ptr (7 + 5 * j) 0 0) := by
 obtain ⟨cs, h1, h2, h3⟩ := h.c1
 have := h.lo
 refine ⟨cs, h1, ?_⟩
 simp only [a0M]
 rw [if_pos zO, List.getD_eq_getElem?_getD, h3 j hj]; rfl
theorem HasSt.befAt (h : HasSt S id N ins outs bef v3 todo waits) {j : Nat} (hj : j < N) : ∃ cs v, hp S 2 = .arr 0 cs /\ cs.length = N /\ a0M none cs j = some (.ref (9 + 5 * j) v 0 (bef.getD j []).length none) /\ hp S (9 + 5 * j) = .arr v (flat (avI .i64) (bef.getD j [])) := by
 obtain ⟨cs, h1, h2, h3⟩ := h.c2
 obtain ⟨v, q1, q2⟩ := h3 j hj
 refine ⟨cs, v, h1, h2, ?_, q2⟩
 simp only [a0M]
 rw [if_pos zO, List.getD_eq_getElem?_getD, q1]; rfl
theorem HasSt.setOut (h : HasSt S id N ins outs bef v3 todo waits) {j v v' : Nat} {s t : d7} (hs : outs[j]? = some s) : HasSt (a3j S (7 + 5 * j) (8 + 5 * j) v' t) id N ins (outs.set j t) bef v3 todo waits := by
 have hj : j < outs.length := (List.getElem?_eq_some_iff.1 hs).1
 have hlo := h.lo
 have hli := h.li
 have e : ∀ i, i ≠ 7 + 5 * j -> i ≠ 8 + 5 * j -> hp (a3j S (7 + 5 * j) (8 + 5 * j) v' t) i = hp S i := fun i h1 h2 => a1k h1 h2
 refine ⟨by rw [id, e 0 zO zO]; exact h.c0, by rw [id, e 1 zO zO, List.length_set]; exact h.c1, ?_, by rw [id, e 3 zO zO]; exact h.c3, by rw [id, e 4 zO zO]; exact h.c4, fun k s hs => ?_, fun k s hs => ?_, fun k a b => ?_, fun k a b => ?_, h.li, by rw [List.length_set]; exact h.lo⟩
 ·obtain ⟨cs, h1, h2, h3⟩ := h.c2
  refine ⟨cs, by rw [id, e 2 zO zO]; exact h1, h2, fun k hk => ?_⟩
  obtain ⟨v, q1, q2⟩ := h3 k hk
  exact ⟨v, q1, by rw [id, e _ zO zO]; exact q2⟩
 ·obtain ⟨v, q⟩ := h.c5 k s hs
  exact ⟨v, x5 q (e _ zI zI) (e _ zI zI)⟩
 ·by_cases hk : j = k
  ·subst hk
   rw [List.getElem?_set_self hj] at hs
   cases hs
   exact ⟨v', a1Z zO⟩
  ·rw [List.getElem?_set_ne hk] at hs
   obtain ⟨v, q⟩ := h.c6 k s hs
   exact ⟨v, x5 q (e _ zI zI) (e _ zI zI)⟩
 ·have := h.c7 k a b
  simp only [id] at this ⊢
  rw [e _ zO zO, e _ zO zO]; exact this
 ·rw [List.length_set] at a
  have := h.c8 k a b
  simp only [id] at this ⊢
  rw [e _ zO zO, e _ zO zO]; exact this
theorem HasSt.setIn (h : HasSt S id N ins outs bef v3 todo waits) {j v v' : Nat} {s t : d7} (hs : ins[j]? = some s) : HasSt (a3j S (5 + 5 * j) (6 + 5 * j) v' t) id N (ins.set j t) outs bef v3 todo waits := by
 have hj : j < ins.length := (List.getElem?_eq_some_iff.1 hs).1
 have hlo := h.lo
 have hli := h.li
 have e : ∀ i, i ≠ 5 + 5 * j -> i ≠ 6 + 5 * j -> hp (a3j S (5 + 5 * j) (6 + 5 * j) v' t) i = hp S i := fun i h1 h2 => a1k h1 h2
 refine ⟨by rw [id, e 0 zO zO, List.length_set]; exact h.c0, by rw [id, e 1 zO zO]; exact h.c1, ?_, by rw [id, e 3 zO zO]; exact h.c3, by rw [id, e 4 zO zO]; exact h.c4, fun k s hs => ?_, fun k s hs => ?_, fun k a b => ?_, fun k a b => ?_, by rw [List.length_set]; exact h.li, h.lo⟩
 ·obtain ⟨cs, h1, h2, h3⟩ := h.c2
  refine ⟨cs, by rw [id, e 2 zO zO]; exact h1, h2, fun k hk => ?_⟩
  obtain ⟨v, q1, q2⟩ := h3 k hk
  exact ⟨v, q1, by rw [id, e _ zO zO]; exact q2⟩
 ·by_cases hk : j = k
  ·subst hk
   rw [List.getElem?_set_self hj] at hs
   cases hs
   exact ⟨v', a1Z zO⟩
  ·rw [List.getElem?_set_ne hk] at hs
   obtain ⟨v, q⟩ := h.c5 k s hs
   exact ⟨v, x5 q (e _ zI zI) (e _ zI zI)⟩
 ·obtain ⟨v, q⟩ := h.c6 k s hs
  exact ⟨v, x5 q (e _ zI zI) (e _ zI zI)⟩
 ·rw [List.length_set] at a
  have := h.c7 k a b
  simp only [id] at this ⊢
  rw [e _ zO zO, e _ zO zO]; exact this
 ·have := h.c8 k a b
  simp only [id] at this ⊢
  rw [e _ zO zO, e _ zO zO]; exact this
theorem HasSt.setBef (h : HasSt S id N ins outs bef v3 todo waits) {j v : Nat} {l : List Int} {cs : List AV} (hj : j < N) (hb : j < bef.length) (hcs : hp S 2 = .arr 0 cs) :
  HasSt (p8 (p8 S (9 + 5 * j) (.arr v (flat (avI .i64) l))) 2 (.arr 0 (cs.set j (.ref (9 + 5 * j) v 0 l.length none)))) id N ins outs (bef.set j l) v3 todo waits := by
 have hlo := h.lo
 have hli := h.li
 have e : ∀ i, i ≠ 9 + 5 * j -> i ≠ 2 -> hp (p8 (p8 S (9 + 5 * j) (.arr v (flat (avI .i64) l))) 2 (.arr 0 (cs.set j (.ref (9 + 5 * j) v 0 l.length none)))) i = hp S i := fun i h1 h2 => by
  simp only [o8]; rw [a1A h2, a1A h1]
 have e9 : hp (p8 (p8 S (9 + 5 * j) (.arr v (flat (avI .i64) l))) 2 (.arr 0 (cs.set j (.ref (9 + 5 * j) v 0 l.length none)))) (9 + 5 * j) = .arr v (flat (avI .i64) l) := by
  simp only [o8]; rw [a1A zO, a4h]
 have e2 : hp (p8 (p8 S (9 + 5 * j) (.arr v (flat (avI .i64) l))) 2 (.arr 0 (cs.set j (.ref (9 + 5 * j) v 0 l.length none)))) 2 = .arr 0 (cs.set j (.ref (9 + 5 * j) v 0 l.length none)) := by
  simp only [o8]; rw [a4h]
 generalize hS' : p8 (p8 S (9 + 5 * j) (.arr v (flat (avI .i64) l))) 2 (.arr 0 (cs.set j (.ref (9 + 5 * j) v 0 l.length none))) = S' at e e9 e2
 refine ⟨by rw [id, e 0 zO zO]; exact h.c0, by rw [id, e 1 zO zO]; exact h.c1, ?_, by rw [id, e 3 zO zO]; exact h.c3, by rw [id, e 4 zO zO]; exact h.c4, fun k s hs => ?_, fun k s hs => ?_, fun k a b => ?_, fun k a b => ?_, h.li, h.lo⟩
 ·obtain ⟨cs1, h1, h2, h3⟩ := h.c2
  have hcc : cs1 = cs := by
   have h1' : hp S 2 = .arr 0 cs1 := h1
   rw [hcs] at h1'; cases h1'; rfl
  subst hcc
  refine ⟨_, e2, by rw [List.length_set]; exact h2, fun k hk => ?_⟩
  by_cases hkj : j = k
  ·subst hkj
   refine ⟨v, ?_, ?_⟩
   ·rw [List.getElem?_set_self zO]
    simp [List.getD_eq_getElem?_getD, List.getElem?_set_self hb]
   ·rw [id, e9]; simp [List.getD_eq_getElem?_getD, List.getElem?_set_self hb]
  ·obtain ⟨v, q1, q2⟩ := h3 k hk
   refine ⟨v, ?_, ?_⟩
   ·rw [List.getElem?_set_ne hkj, q1]; simp [List.getD_eq_getElem?_getD, List.getElem?_set_ne hkj]
   ·rw [id, e _ zO zO]; simp only [id] at q2; rw [q2]; simp [List.getD_eq_getElem?_getD, List.getElem?_set_ne hkj]
 ·obtain ⟨v, q⟩ := h.c5 k s hs
  exact ⟨v, x5 q (e _ zI zI) (e _ zI zI)⟩
 ·obtain ⟨v, q⟩ := h.c6 k s hs
  exact ⟨v, x5 q (e _ zI zI) (e _ zI zI)⟩
 ·have := h.c7 k a b
  simp only [id] at this ⊢
  rw [e _ zO zO, e _ zO zO]; exact this
 ·have := h.c8 k a b
  simp only [id] at this ⊢
  rw [e _ zO zO, e _ zO zO]; exact this
theorem HasSt.only (h : HasSt S id N ins outs bef v3 todo waits) {S' : List Ob} {v3' : Nat} {todo' : List Int} {waits' : List Bool} (e : ∀ i, i ≠ 3 -> i ≠ 4 -> hp S' i = hp S i) (h3 : ∃ x, hp S' 3 = .arr v3' (flat (avI .i64) todo' ++ x)) (h4 : hp S' 4 = .arr 0 (flat avB waits')) :
  HasSt S' id N ins outs bef v3' todo' waits' := by
 refine ⟨by rw [id, e 0 zO zO]; exact h.c0, by rw [id, e 1 zO zO]; exact h.c1, ?_, h3, h4, fun k s hs => ?_, fun k s hs => ?_, fun k a b => ?_, fun k a b => ?_, h.li, h.lo⟩
 ·obtain ⟨cs, h1, h2, h3⟩ := h.c2
  refine ⟨cs, by rw [id, e 2 zO zO]; exact h1, h2, fun k hk => ?_⟩
  obtain ⟨v, q1, q2⟩ := h3 k hk
  exact ⟨v, q1, by rw [id, e _ zO zO]; exact q2⟩
 ·obtain ⟨v, q⟩ := h.c5 k s hs
  exact ⟨v, x5 q (e _ zI zI) (e _ zI zI)⟩
 ·obtain ⟨v, q⟩ := h.c6 k s hs
  exact ⟨v, x5 q (e _ zI zI) (e _ zI zI)⟩
 ·have := h.c7 k a b
  simp only [id] at this ⊢
  rw [e _ zO zO, e _ zO zO]; exact this
 ·have := h.c8 k a b
  simp only [id] at this ⊢
  rw [e _ zO zO, e _ zO zO]; exact this
theorem HasSt.setWaits (h : HasSt S id N ins outs bef v3 todo waits) {waits' : List Bool} : HasSt (p8 S 4 (.arr 0 (flat avB waits'))) id N ins outs bef v3 todo waits' := by
 obtain ⟨x, h3⟩ := h.c3
 exact h.only (fun i a b => by rw [o8, a1A b]) ⟨x, by rw [o8, a1A zD]; exact h3⟩ (by rw [o8, a4h])
theorem HasSt.setTodo (h : HasSt S id N ins outs bef v3 todo waits) {v : Nat} {todo' : List Int} : HasSt (p8 S 3 (.arr v (flat (avI .i64) todo'))) id N ins outs bef v todo' waits :=
 h.only (fun i a b => by rw [o8, a1A a]) ⟨[], by rw [o8, a4h, List.append_nil]⟩ (by rw [o8, a1A zD]; exact h.c4)
theorem HasSt.popTodo (h : HasSt S id N ins outs bef v3 todo waits) {todo' : List Int} (he : ∃ r, todo = todo' ++ r) : HasSt S id N ins outs bef v3 todo' waits := by
 obtain ⟨r, rfl⟩ := he
 obtain ⟨x, h3⟩ := h.c3
 exact h.only (fun _ _ _ => rfl) ⟨flat (avI .i64) r ++ x, by rw [<- List.append_assoc, <- a0C]; exact h3⟩ h.c4
end
end Go.Proofs.YtepdcebjobjjgaaDoor

/- The heap of live.solve: from one statement to the next. -/
namespace Go.Proofs.YtepdcebjobjjgaaDoor
open Go Go.Ab
abbrev HS (N : Nat) (ins outs : List d7) (bef : List (List Int)) (todo : List Int) (waits : List Bool) : List Ob := ofF (5 + 5 * N) (obF N ins outs bef todo waits)
def b6q (M : Nat) (s : d7) (f : Nat -> Ob) (i : Nat) : Ob := if i = M then a3x (some s) (M + 1) else if i = M + 1 then a4W (some s) else f i
abbrev HT (N : Nat) (ins outs : List d7) (bef : List (List Int)) (todo : List Int) (waits : List Bool) (s : d7) : List Ob := ofF (5 + 5 * N + 2) (b6q (5 + 5 * N) s (obF N ins outs bef todo waits))
section
variable {S : List Ob} {m : Nat -> Nat} {m' : Nat -> Option Nat} {n N v3 : Nat} {ins outs : List d7} {bef : List (List Int)} {todo : List Int} {waits : List Bool} {f : Nat -> Ob} {s : d7} {fr fr' : Fr}
theorem a0t {M i : Nat} (h : i < M) : b6q M s f i = f i := by unfold b6q; rw [if_neg zO, if_neg zO]
theorem b4q {M : Nat} : b6q M s f M = a3x (some s) (M + 1) := by unfold b6q; rw [if_pos rfl]
theorem b4r {M : Nat} : b6q M s f (M + 1) = a4W (some s) := by unfold b6q; rw [if_neg zO, if_pos rfl]
theorem a6m (li : ins.length <= N) (lo : outs.length <= N) : HasSt (HS N ins outs bef todo waits) id N ins outs bef 0 todo waits := b1Y (Nat.le_refl _) (fun _ _ => rfl) li lo
theorem b6r (li : ins.length <= N) (lo : outs.length <= N) : HasSt (HT N ins outs bef todo waits s) id N ins outs bef 0 todo waits := b1Y zO (fun i hi => a0t hi) li lo
theorem c1P : isS (HT N ins outs bef todo waits s) (5 + 5 * N) (5 + 5 * N + 1) 0 s :=
 ⟨by rw [a4L zO, b4q]; rfl, by rw [a4L zO, b4r]; rfl⟩
theorem HasSt.r4 (h : HasSt S m N ins outs bef v3 todo waits) (hn : 5 + 5 * N <= n) (hm : m' 0 = some (m 0)) (hf : f 0 = obF N ins outs bef todo waits 0) {o : Nat} (ho : m 0 = o) : RnV (WR n m' S f) (.ref o 0 0 N none) (.ref 0 0 0 N none) := by
 subst ho
 obtain ⟨cs, h1, h2, _⟩ := h.c0
 exact a3G zO hm h1 hf (by rw [a0P]; simp [g8])
theorem HasSt.r5 (h : HasSt S m N ins outs bef v3 todo waits) (hn : 5 + 5 * N <= n) (hm : m' 1 = some (m 1)) (hf : f 1 = obF N ins outs bef todo waits 1) {o : Nat} (ho : m 1 = o) : RnV (WR n m' S f) (.ref o 0 0 N none) (.ref 1 0 0 N none) := by
 subst ho
 obtain ⟨cs, h1, h2, _⟩ := h.c1
 exact a3G zO hm h1 hf (by rw [a0P]; simp [g8])
theorem HasSt.r6 (h : HasSt S m N ins outs bef v3 todo waits) (hn : 5 + 5 * N <= n) (hm : m' 2 = some (m 2)) (hf : f 2 = obF N ins outs bef todo waits 2) {o : Nat} (ho : m 2 = o) : RnV (WR n m' S f) (.ref o 0 0 N none) (.ref 2 0 0 N none) := by
 subst ho
 obtain ⟨cs, h1, h2, _⟩ := h.c2
 exact a3G zO hm h1 hf (by rw [a3y]; simp [g8])
theorem HasSt.r7 (h : HasSt S m N ins outs bef v3 todo waits) (hn : 5 + 5 * N <= n) (hm : m' 3 = some (m 3)) (hf : f 3 = obF N ins outs bef todo waits 3) {k o : Nat} (hk : k = todo.length) (ho : m 3 = o) : RnV (WR n m' S f) (.ref o v3 0 k none) (.ref 3 0 0 todo.length none) := by
 subst ho
 obtain ⟨x, h1⟩ := h.c3
 exact a7l hk zO hm h1 hf (by rw [(g5 .i64).length]; simp [g8])
theorem HasSt.r12 (h : HasSt S m N ins outs bef v3 todo waits) (hn : 5 + 5 * N <= n) (hm : m' 4 = some (m 4)) (hf : f 4 = obF N ins outs bef todo waits 4) {k o : Nat} (hk : k = waits.length) (ho : m 4 = o) : RnV (WR n m' S f) (.ref o 0 0 k none) (.ref 4 0 0 waits.length none) := by
 subst ho
 exact a7l hk zO hm h.c4 hf (by rw [a8R.length]; simp [g8])
theorem HasSt.r17 {v : Nat} (hs : isS S (5 + 5 * N) (5 + 5 * N + 1) v s) : RnV (WR (5 + 5 * N + 2) some S (b6q (5 + 5 * N) s f)) (.ptr (5 + 5 * N) 0 0) (.ptr (5 + 5 * N) 0 0) :=
 b4i zO rfl hs.1 (by rw [b4q]; rfl)
theorem HasSt.wkM (h : HasSt S m N ins outs bef v3 todo waits) (hi : ∀ i j, i < 5 + 5 * N -> j < 5 + 5 * N -> m i = m j -> i = j) (hf : rnF (WR (5 + 5 * N) (fun i => some (m i)) S (obF N ins outs bef todo waits)) fr fr') : Wk [] fr S fr' (HS N ins outs bef todo waits) :=
 b6o (fun i j o a b h1 h2 => hi i j a b (by rw [Option.some.inj h1, Option.some.inj h2])) (h.ok (Nat.le_refl _) (fun _ _ => rfl) (fun _ _ => rfl)) hf
theorem HasSt.wkI (h : HasSt S id N ins outs bef v3 todo waits) (hf : rnF (WR (5 + 5 * N) some S (obF N ins outs bef todo waits)) fr fr') : Wk [] fr S fr' (HS N ins outs bef todo waits) :=
 b6o b1X (h.ok (Nat.le_refl _) (fun _ _ => rfl) (fun _ _ => rfl)) hf
theorem HasSt.wkT {v : Nat} (h : HasSt S id N ins outs bef v3 todo waits) (hs : isS S (5 + 5 * N) (5 + 5 * N + 1) v s) (hf : rnF (WR (5 + 5 * N + 2) some S (b6q (5 + 5 * N) s (obF N ins outs bef todo waits))) fr fr') : Wk [] fr S fr' (HT N ins outs bef todo waits s) := by
 refine b6o b1X (fun i hi => ?_) hf
 by_cases h1 : i < 5 + 5 * N
 ·exact h.ok zO (fun _ _ => rfl) (fun i hi => a0t hi) i h1
 ·by_cases h2 : i = 5 + 5 * N
  ·subst h2
   exact a0G rfl hs.1 b4q (cB rfl (.cons (a3G zO rfl hs.2 b4r (by rw [(g5 .u64).length]; exact Nat.le_refl _)) nL))
  ·obtain rfl : i = 5 + 5 * N + 1 := by omega
   exact a0G rfl hs.2 b4r (.refl ((g5 .u64).blwf 0 _))
def a2O (M i k : Nat) : Nat := if k = 5 + 5 * i then M + 1 else if k = 6 + 5 * i then M + 2 else if k = 7 + 5 * i then M + 3 else if k = 8 + 5 * i then M + 4 else k
theorem a0a {M i k : Nat} (h1 : k ≠ 5 + 5 * i) (h2 : k ≠ 6 + 5 * i) (h3 : k ≠ 7 + 5 * i) (h4 : k ≠ 8 + 5 * i) : a2O M i k = k := by
 unfold a2O; rw [if_neg h1, if_neg h2, if_neg h3, if_neg h4]
theorem b4s {M i : Nat} : a2O M i (5 + 5 * i) = M + 1 := by unfold a2O; rw [if_pos rfl]
theorem b8x {M i : Nat} : a2O M i (6 + 5 * i) = M + 2 := by unfold a2O; rw [if_neg zO, if_pos rfl]
theorem b4t {M i : Nat} : a2O M i (7 + 5 * i) = M + 3 := by unfold a2O; rw [if_neg zO, if_neg zO, if_pos rfl]
theorem b8y {M i : Nat} : a2O M i (8 + 5 * i) = M + 4 := by unfold a2O; rw [if_neg zO, if_neg zO, if_neg zO, if_pos rfl]
theorem b4u {M i : Nat} : ∀ a b, a < M -> b < M -> a2O M i a = a2O M i b -> a = b := by
 intro a b ha hb h
 unfold a2O at h
 repeat' split at h
 all_goals omega
theorem HasSt.push (h : HasSt S id N ins outs bef v3 todo waits) {i va vb : Nat} {a b : d7} {cs0 cs1 : List AV} {S' : List Ob} (hi : ins.length = i) (ho : outs.length = i) (hlt : i < N) (h0 : hp S 0 = .arr 0 cs0) (h1 : hp S 1 = .arr 0 cs1)
  (e : ∀ k, k < 5 + 5 * N -> k ≠ 0 -> k ≠ 1 -> hp S' k = hp S k) (e0 : hp S' 0 = .arr 0 (cs0.set i (.ptr (5 + 5 * N + 1) 0 0))) (e1 : hp S' 1 = .arr 0 (cs1.set i (.ptr (5 + 5 * N + 3) 0 0)))
  (ha : isS S' (5 + 5 * N + 1) (5 + 5 * N + 2) va a) (hb : isS S' (5 + 5 * N + 3) (5 + 5 * N + 4) vb b) : HasSt S' (a2O (5 + 5 * N) i) N (ins ++ [a]) (outs ++ [b]) bef v3 todo waits := by
 have p0 : a2O (5 + 5 * N) i 0 = 0 := a0a zO zO zO zO
 have p1 : a2O (5 + 5 * N) i 1 = 1 := a0a zO zO zO zO
 have p2 : a2O (5 + 5 * N) i 2 = 2 := a0a zO zO zO zO
 have p3 : a2O (5 + 5 * N) i 3 = 3 := a0a zO zO zO zO
 have p4 : a2O (5 + 5 * N) i 4 = 4 := a0a zO zO zO zO
 refine ⟨?_, ?_, ?_, ?_, ?_, fun j s hs => ?_, fun j s hs => ?_, fun j c d => ?_, fun j c d => ?_, by simp; omega, by simp; omega⟩
 ·obtain ⟨cs, q1, q2, q3⟩ := h.c0
  have hcc : cs = cs0 := by
   have q1' : hp S 0 = .arr 0 cs := q1
   rw [h0] at q1'; cases q1'; rfl
  subst hcc
  refine ⟨_, by rw [p0]; exact e0, by rw [List.length_set]; exact q2, fun j hj => ?_⟩
  by_cases hji : j = i
  ·subst hji; rw [List.getElem?_set_self zO, b4s]
  ·rw [List.getElem?_set_ne (Ne.symm hji), a0a zO zO zO zO]
   exact q3 j (by simp at hj; omega)
 ·obtain ⟨cs, q1, q2, q3⟩ := h.c1
  have hcc : cs = cs1 := by
   have q1' : hp S 1 = .arr 0 cs := q1
   rw [h1] at q1'; cases q1'; rfl
  subst hcc
  refine ⟨_, by rw [p1]; exact e1, by rw [List.length_set]; exact q2, fun j hj => ?_⟩
  by_cases hji : j = i
  ·subst hji; rw [List.getElem?_set_self zO, b4t]
  ·rw [List.getElem?_set_ne (Ne.symm hji), a0a zO zO zO zO]
   exact q3 j (by simp at hj; omega)
 ·obtain ⟨cs, q1, q2, q3⟩ := h.c2
  refine ⟨cs, by rw [p2, e 2 zO zO zO]; exact q1, q2, fun j hj => ?_⟩
  obtain ⟨v, k1, k2⟩ := q3 j hj
  have pj : a2O (5 + 5 * N) i (9 + 5 * j) = 9 + 5 * j := a0a zO zO zO zO
  exact ⟨v, by rw [pj]; exact k1, by rw [pj, e _ zO zO zO]; exact k2⟩
 ·obtain ⟨x, q⟩ := h.c3
  exact ⟨x, by rw [p3, e 3 zO zO zO]; exact q⟩
 ·rw [p4, e 4 zO zO zO]; exact h.c4
 ·by_cases hji : j = i
  ·subst hji
   rw [<- hi, List.getElem?_append_right (Nat.le_refl _)] at hs
   simp at hs; subst hs
   rw [b4s, b8x]; exact ⟨va, ha⟩
  ·have hj : j < i := by
    have := (List.getElem?_eq_some_iff.1 hs).1
    simp at this; omega
   rw [List.getElem?_append_left zO] at hs
   obtain ⟨v, q⟩ := h.c5 j s hs
   rw [a0a zO zO zO zO, a0a zO zO zO zO]
   exact ⟨v, x5 q (e _ zO zO zO) (e _ zO zO zO)⟩
 ·by_cases hji : j = i
  ·subst hji
   rw [<- ho, List.getElem?_append_right (Nat.le_refl _)] at hs
   simp at hs; subst hs
   rw [b4t, b8y]; exact ⟨vb, hb⟩
  ·have hj : j < i := by
    have := (List.getElem?_eq_some_iff.1 hs).1
    simp at this; omega
   rw [List.getElem?_append_left zO] at hs
   obtain ⟨v, q⟩ := h.c6 j s hs
   rw [a0a zO zO zO zO, a0a zO zO zO zO]
   exact ⟨v, x5 q (e _ zO zO zO) (e _ zO zO zO)⟩
 ·simp at c
  have q := h.c7 j zO d
  simp only [id] at q
  rw [a0a zO zO zO zO, a0a zO zO zO zO, e _ zO zO zO, e _ zO zO zO]
  exact q
 ·simp at c
  have q := h.c8 j zO d
  simp only [id] at q
  rw [a0a zO zO zO zO, a0a zO zO zO zO, e _ zO zO zO, e _ zO zO zO]
  exact q
def a5L (M k : Nat) : Nat := if k = 4 then M else k
theorem a0b {M k : Nat} (h : k ≠ 4) : a5L M k = k := by unfold a5L; rw [if_neg h]
theorem b4v {M : Nat} : a5L M 4 = M := by unfold a5L; rw [if_pos rfl]
theorem b4w {M : Nat} : ∀ a b, a < M -> b < M -> a5L M a = a5L M b -> a = b := by
 intro a b ha hb h
 unfold a5L at h
 repeat' split at h
 all_goals omega
theorem HasSt.newWaits (h : HasSt S id N ins outs bef v3 todo waits) {S' : List Ob} {waits' : List Bool} (e : ∀ k, k < 5 + 5 * N -> hp S' k = hp S k) (e4 : hp S' (5 + 5 * N) = .arr 0 (flat avB waits')) : HasSt S' (a5L (5 + 5 * N)) N ins outs bef v3 todo waits' := by
 have hli := h.li; have hlo := h.lo
 refine ⟨?_, ?_, ?_, ?_, by rw [b4v]; exact e4, fun j s hs => ?_, fun j s hs => ?_, fun j c d => ?_, fun j c d => ?_, h.li, h.lo⟩
 ·obtain ⟨cs, q1, q2, q3⟩ := h.c0
  refine ⟨cs, by rw [a0b zO, e 0 zO]; exact q1, q2, fun j hj => ?_⟩
  rw [a0b zO]; exact q3 j hj
 ·obtain ⟨cs, q1, q2, q3⟩ := h.c1
  refine ⟨cs, by rw [a0b zO, e 1 zO]; exact q1, q2, fun j hj => ?_⟩
  rw [a0b zO]; exact q3 j hj
 ·obtain ⟨cs, q1, q2, q3⟩ := h.c2
  refine ⟨cs, by rw [a0b zO, e 2 zO]; exact q1, q2, fun j hj => ?_⟩
  obtain ⟨v, k1, k2⟩ := q3 j hj
  exact ⟨v, by rw [a0b zO]; exact k1, by rw [a0b zO, e _ zO]; exact k2⟩
 ·obtain ⟨x, q⟩ := h.c3
  exact ⟨x, by rw [a0b zO, e 3 zO]; exact q⟩
 ·have := (List.getElem?_eq_some_iff.1 hs).1
  obtain ⟨v, q⟩ := h.c5 j s hs
  rw [a0b zO, a0b zO]
  exact ⟨v, x5 q (e _ zO) (e _ zO)⟩
 ·have := (List.getElem?_eq_some_iff.1 hs).1
  obtain ⟨v, q⟩ := h.c6 j s hs
  rw [a0b zO, a0b zO]
  exact ⟨v, x5 q (e _ zO) (e _ zO)⟩
 ·have q := h.c7 j c d
  simp only [id] at q
  rw [a0b zO, a0b zO, e _ zO, e _ zO]
  exact q
 ·have q := h.c8 j c d
  simp only [id] at q
  rw [a0b zO, a0b zO, e _ zO, e _ zO]
  exact q
def c0x (i : Nat) : Option Nat := if i < 4 then some i else none
theorem b8z {m1 m2 : List Unit} {m3 : List (List Int)} (h1 : m1.length = N) (h2 : m2.length = N) (h3 : m3 = List.replicate N [])
  (hf : rnF (WR (5 + 5 * N) c0x [.arr 0 (flat (fun (_ : Unit) => AV.nilp) m1), .arr 0 (flat (fun (_ : Unit) => AV.nilp) m2), .arr 0 (flat (fun (_ : List Int) => AV.nils) m3), .arr 0 (flat (avI .i64) [])] (obF N [] [] m3 [] [])) fr fr') :
  Wk [] fr [.arr 0 (flat (fun (_ : Unit) => AV.nilp) m1), .arr 0 (flat (fun (_ : Unit) => AV.nilp) m2), .arr 0 (flat (fun (_ : List Int) => AV.nils) m3), .arr 0 (flat (avI .i64) [])] fr' (HS N [] [] m3 [] []) := by
 have eN : Enc (fun (_ : Unit) => AV.nilp) none := ⟨fun _ => rfl, fun _ => rfl, fun _ => rfl, fun _ _ => rfl⟩
 have eL : Enc (fun (_ : List Int) => AV.nils) none := ⟨fun _ => rfl, fun _ => rfl, fun _ => rfl, fun _ _ => rfl⟩
 refine b6o (fun i j o _ _ a b => ?_) (fun i hi => ?_) hf
 ·unfold c0x at a b
  split at a <;> split at b <;> first | (cases a; cases b; rfl) | (cases a; done) | (cases b; done)
 ·match i, hi with
  | 0, _ =>
    refine a0G rfl rfl rfl (a4T (by rw [a0P, eN.length]; simp [g8]; omega) (fun j a b => ?_))
    simp only [a7S, List.getElem_map, List.length_nil, Nat.not_lt_zero, if_false]
    exact .junk _
  | 1, _ =>
    refine a0G rfl rfl rfl (a4T (by rw [a0P, eN.length]; simp [g8]; omega) (fun j a b => ?_))
    simp only [a7S, List.getElem_map, List.length_nil, Nat.not_lt_zero, if_false]
    exact .junk _
  | 2, _ =>
    have hl : m3.length = N := by rw [h3]; simp
    refine a0G rfl rfl rfl (a4T (by rw [a3y, eL.length]; simp [g8]; omega) (fun j a b => ?_))
    rw [a3y] at b
    have e1 : ∀ l : List (List Int), flat (fun (_ : List Int) => AV.nils) l = List.replicate l.length .nils := fun l => by
     induction l with
     | nil => rfl
     | cons x l ih => rw [a0w, ih]; rfl
    have e2 : (flat (fun (_ : List Int) => AV.nils) m3)[j] = .nils := by simp only [e1, List.getElem_replicate]
    rw [e2]
    have e3 : m3.getD j [] = [] := by rw [h3]; simp [List.getD_eq_getElem?_getD, b]
    simp only [b8w, List.getElem_map, List.getElem_range, e3, List.length_nil]
    exact c0s zO b1g
  | 3, _ => exact a0G rfl rfl rfl nL
  | 4, _ => exact b4j rfl rfl
  | i + 5, hi =>
    refine b4j (v' := 0) rfl ?_
    obtain ⟨j, c, hc, rfl⟩ : ∃ j c, c < 5 /\ i = c + 5 * j := ⟨i / 5, i % 5, by omega, by omega⟩
    rw [show c + 5 * j + 5 = 5 + c + 5 * j by omega, b2O hc]
    match c, hc with
    | 0, _ => rfl
    | 1, _ => rfl
    | 2, _ => rfl
    | 3, _ => rfl
    | 4, _ =>
      show Ob.arr 0 (flat (avI .i64) (m3.getD j [])) = _
      rw [show m3.getD j [] = [] by rw [h3]; simp [List.getD_eq_getElem?_getD, List.getElem?_replicate]; split <;> rfl]; rfl
end
end Go.Proofs.YtepdcebjobjjgaaDoor

/- live.solve's answer, when it is frozen. -/
namespace Go.Proofs.YtepdcebjobjjgaaDoor
open Go Go.Ab
section
variable {S : List Ob} {N v3 k : Nat} {ins outs : List d7} {bef : List (List Int)} {todo : List Int} {waits : List Bool}
theorem b8A {α : Type} {f : α -> AV} {esh : Option Nat} (he : Enc f esh) {o ver : Nat} {l : List α} (ho : hp S o = .arr ver (flat f l)) : frz 0 S (k + 1) (.ref o ver 0 l.length esh) = .sl false (g8 esh) (l.map f) := by
 have hb : (AV.ref o ver 0 l.length esh).blw 0 = false := by simp [AV.blw]
 have hm : (flat f l).map (frz 0 S k) = flat f l := a7d (he.blwf 0 l)
 simp only [frz, hb, ho, Bool.false_eq_true, if_false, hm, List.drop_zero]
 rw [if_pos ⟨trivial, by rw [he.length]; omega, he.all l⟩, he.elems]
theorem b4x {p pw v : Nat} {s : d7} (hs : isS S p pw v s) : frz 0 S (k + 2) (.ptr p 0 0) = avP d7.av (some s) := by
 have hb : (AV.ptr p 0 0).blw 0 = false := by simp [AV.blw]
 have h1 : frz 0 S (k + 1) (.int .i64 s.n) = .int .i64 s.n := b3S rfl
 have h2 : frz 0 S (k + 1) (.ref pw v 0 (List.length s.words) none) = .sl false 1 (s.words.map (avI .u64)) := b8A (g5 .u64) hs.2
 have e : frz 0 S (k + 2) (.ptr p 0 0) = .cptr ([AV.int .i64 s.n, .ref pw v 0 (List.length s.words) none].map (frz 0 S (k + 1))) 0 := by
  show (if (AV.ptr p 0 0).blw 0 = true then AV.ptr p 0 0 else match hp S p with | .arr v cs => if v = 0 then .cptr (cs.map (frz 0 S (k + 1))) 0 else .junk | _ => .junk) = _
  rw [hb, hs.1]; rfl
 rw [e, List.map_cons, List.map_cons, List.map_nil, h1, h2]
 rfl
theorem b1Z {o N : Nat} {cs : List AV} {l : List d7} (ho : hp S o = .arr 0 cs) (hl : cs.length = N) (hN : l.length = N) (h : ∀ (j : Nat) (s : d7), l[j]? = some s -> ∃ c, cs[j]? = some c /\ frz 0 S (k + 2) c = avP d7.av (some s)) :
  frz 0 S (k + 3) (.ref o 0 0 N none) = .sl false 1 ((l.map some).map (avP d7.av)) := by
 have hb : (AV.ref o 0 0 N none).blw 0 = false := by simp [AV.blw]
 have e1 : cs.map (frz 0 S (k + 2)) = (l.map some).map (avP d7.av) := by
  apply List.ext_getElem?
  intro j
  cases e : l[j]? with
  | some s =>
    obtain ⟨c, h1, h2⟩ := h j s e
    simp only [List.getElem?_map, h1, e, Option.map_some, h2]
  | none =>
    have : cs[j]? = none := by simp at e ⊢; omega
    simp only [List.getElem?_map, this, e, Option.map_none]
 have e2 : frz 0 S (k + 3) (.ref o 0 0 N none) = if 0 = 0 /\ 0 + N * g8 none <= cs.length /\ ((cs.map (frz 0 S (k + 2))).drop 0).all AV.one = true then .sl false (g8 none) (x8 none N ((cs.map (frz 0 S (k + 2))).drop 0)) else .junk := by
  show (if (AV.ref o 0 0 N none).blw 0 = true then AV.ref o 0 0 N none else match hp S o with | .arr v cs => if v = 0 /\ 0 + N * g8 none <= cs.length /\ ((cs.map (frz 0 S (k + 2))).drop 0).all AV.one = true then .sl false (g8 none) (x8 none N ((cs.map (frz 0 S (k + 2))).drop 0)) else .junk | _ => .junk) = _
  rw [hb, ho]; rfl
 rw [e2, e1, List.drop_zero]
 rw [if_pos ⟨rfl, by simp [g8]; omega, by simp [AV.one, avP]⟩]
 show AV.sl false 1 (((l.map some).map (avP d7.av)).take N) = _
 rw [List.take_of_length_le zE]
theorem b8B (h : HasSt S id N ins outs bef v3 todo waits) (hN : ins.length = N) : frz 0 S (k + 3) (.ref 0 0 0 N none) = .sl false 1 ((ins.map some).map (avP d7.av)) := by
 obtain ⟨cs, h1, h2, h3⟩ := h.c0
 refine b1Z h1 h2 hN (fun j s e => ?_)
 obtain ⟨v, q⟩ := h.c5 j s e
 exact ⟨_, h3 j (List.getElem?_eq_some_iff.1 e).1, b4x q⟩
theorem b6s (h : HasSt S id N ins outs bef v3 todo waits) (hN : outs.length = N) : frz 0 S (k + 3) (.ref 1 0 0 N none) = .sl false 1 ((outs.map some).map (avP d7.av)) := by
 obtain ⟨cs, h1, h2, h3⟩ := h.c1
 refine b1Z h1 h2 hN (fun j s e => ?_)
 obtain ⟨v, q⟩ := h.c6 j s e
 exact ⟨_, h3 j (List.getElem?_eq_some_iff.1 e).1, b4x q⟩
theorem c0y (h : HasSt S id N ins outs bef v3 todo waits) (h1 : ins.length = N) (h2 : outs.length = N) :
  AVw (frz 0 S 6 (.tup [.ref 0 0 0 N none, .ref 1 0 0 N none])) (.tup [.sl false 1 ((ins.map some).map (avP d7.av)), .sl false 1 ((outs.map some).map (avP d7.av))]) :=
 a7i ⟨by rw [b8B h h1]; exact .refl _, by rw [b6s h h2]; exact .refl _, trivial⟩
theorem a4X {x y : Ob} : ∀ (S : List Ob) (o : Nat), p8 (p8 S o x) o y = p8 S o y
 | [], 0 => rfl
 | [], n + 1 => by simp only [p8, a4X [] n]
 | z :: s, 0 => rfl
 | z :: s, n + 1 => by simp only [p8, a4X s n]
end
end Go.Proofs.YtepdcebjobjjgaaDoor

/- live.solve: what it computes, and that it does. -/
namespace Go.Proofs.YtepdcebjobjjgaaDoor
open Go Go.Ab
set_option maxRecDepth 20000
set_option maxHeartbeats 2000000
noncomputable def c3V : FC := fcO 52
theorem c5k : Fn3 Tryd.prog 52 224 [(2, none), (3, none)] c3V := ⟨_, _, Tryd.func52, rfl, rfl, rfl, by kernel_rfl⟩
def b0f (n : Int) : Option d7 := (a1U n).bind fun r => some ⟨r.1, r.2⟩
def b4y (fuel : Nat) (a b : d7) : Option (Bool × d7) := (y5 fuel a.n a.words b.n b.words).bind fun r => gd (r.2.2.2 = b.n) (some (r.1, ⟨r.2.1, r.2.2.1⟩))
def a9a (a : d7) : Option d7 := (y6 a.n a.words).bind fun r => gd (r.1 = a.n) (some ⟨r.2.1, r.2.2⟩)
def a7p (a : d7) (i : Int) : Option d7 := (w5 a.n a.words i).bind fun r => some ⟨r.2.1, r.2.2⟩
def a7q (a : d7) (i : Int) : Option d7 := (p9 a.n a.words i).bind fun r => some ⟨r.2.1, r.2.2⟩
section
variable {S : List Ob} {p pw q qw v vq : Nat} {s t u : d7}
theorem c0z {n : Int} (h : b0f n = some u) : Ev Tryd.prog 66 [.int .i64 n] (hp S) (.ptr S.length 0 0) (hp (a3j S S.length (S.length + 1) 1 u)) := by
 obtain ⟨r, hr, e⟩ := b9 h
 cases e
 exact c0w hr
theorem c0A (h : a9a s = some u) (hs : isS S p pw v s) (hne : p ≠ pw) : Ev Tryd.prog 68 [.ptr p 0 0] (hp S) (.ptr S.length 0 0) (hp (a3j S S.length (S.length + 1) 1 u)) := by
 obtain ⟨r, hr, e⟩ := b9 h
 obtain ⟨e1, e2⟩ := a0F e
 cases e2
 exact b8v hr e1 hs hne
theorem c2F {i : Int} (h : a7p s i = some u) (hs : isS S p pw v s) (hne : p ≠ pw) : ∃ b, Ev Tryd.prog 69 [.ptr p 0 0, .int .i64 i] (hp S) (.bool b) (hp (a3j S p pw (v + 1) u)) := by
 obtain ⟨r, hr, e⟩ := b9 h
 cases e
 exact ⟨_, c0u hr hs hne⟩
theorem c2G {i : Int} (h : a7q s i = some u) (hs : isS S p pw v s) (hne : p ≠ pw) : ∃ b, Ev Tryd.prog 71 [.ptr p 0 0, .int .i64 i] (hp S) (.bool b) (hp (a3j S p pw (v + 1) u)) := by
 obtain ⟨r, hr, e⟩ := b9 h
 cases e
 exact ⟨_, c0v hr hs hne⟩
theorem c3W {fuel : Nat} {r : Bool × d7} (h : b4y fuel s t = some r) (hs : isS S p pw v s) (ht : isS S q qw vq t) (hnd : [p, pw, q, qw].Nodup) : Ev Tryd.prog 67 [.ptr p 0 0, .ptr q 0 0] (hp S) (.bool r.1) (hp (a3j S p pw (v + 1) r.2)) := by
 obtain ⟨k, hk, e⟩ := b9 h
 obtain ⟨e1, e2⟩ := a0F e
 cases e2
 exact c2D hk e1 hs ht hnd
end
abbrev R0 := List d7 × List d7
abbrev T1 := List d7 × List d7 × List (List Int) × List Int
abbrev T2 := List d7 × List d7 × List Int × List Bool
def b0g (N i : Nat) (_ : Nat) (to : Int) (s : List (List Int)) : Option (Stp (List (List Int)) (Option (Stp T1 (Option R0)))) :=
 gd (s.length = N) ((o6 s to).bind fun y => (a4R 8 y [(i : Int)]).bind fun l => some (.nxt (s.set to.toNat l)))
def b0h (g : b5) (i : Nat) (n : g6) (s : T1) : Option (Stp T1 (Option R0)) :=
 gd (s.1.length = i /\ s.2.1.length = i) ((b0f (List.length g.Kinds : Int)).bind fun a => (b0f (List.length g.Kinds : Int)).bind fun b => (a2o n).bind fun nx =>
  (rng (b0g g.Nodes.length i) nx s.2.2.1).bind (oc fun bf => (a4R 8 s.2.2.2 [(i : Int)]).bind fun l => some (.nxt (s.1 ++ [a], s.2.1 ++ [b], bf, l))))
def a7r (i : Nat) (s : List Bool) : Option (Stp (List Bool) (Option R0)) := (o6 s (i : Int)).bind fun _ => some (.nxt (s.set (i : Int).toNat true))
def b4z (fuel : Nat) (ins : List d7) (i : Int) (_ : Nat) (to : Int) (outs : List d7) : Option (Stp (List d7) (Option (Stp T2 (Option R0)))) :=
 gd (outs.length = ins.length) ((o6 outs i).bind fun a => (o6 ins to).bind fun b => (b4y fuel a b).bind fun r => some (.nxt (outs.set i.toNat r.2)))
def b0i (_ : Nat) (p : Int) (s : d7) : Option (Stp d7 (Option (Stp T2 (Option R0)))) := (a7p s p).bind fun d => some (.nxt d)
def b0j (_ : Nat) (p : Int) (s : d7) : Option (Stp d7 (Option (Stp T2 (Option R0)))) := (a7q s p).bind fun d => some (.nxt d)
def b0k (_ : Nat) (b : Int) (s : List Int × List Bool) : Option (Stp (List Int × List Bool) (Option (Stp T2 (Option R0)))) :=
 (o6 s.2 b).bind fun y => if (!y) = true then (a4R 8 s.1 [b]).bind fun l => (o6 s.2 b).bind fun _ => some (.nxt (l, s.2.set b.toNat true)) else some (.nxt s)
def a5M (fuel : Nat) (g : b5) (bef : List (List Int)) (s : T2) : Option (Stp T2 (Option R0)) :=
 gd (s.1.length = g.Nodes.length /\ s.2.1.length = g.Nodes.length /\ bef.length = g.Nodes.length) (if (decide ((List.length s.2.2.1 : Int) > 0)) = true then
  (o6 s.2.2.1 (I64 ((List.length s.2.2.1 : Int) - 1))).bind fun i => (b2K s.2.2.1 0 (I64 ((List.length s.2.2.1 : Int) - 1))).bind fun td => (o6 s.2.2.2 i).bind fun _ =>
  (o6 g.Nodes i).bind fun nd => (a2o nd).bind fun nx => (rng (b4z fuel s.1 i) nx s.2.1).bind (oc fun outs => gd (outs.length = g.Nodes.length) ((o6 outs i).bind fun oi => (a9a oi).bind fun c =>
  (o6 g.Nodes i).bind fun nd2 => (a1M nd2).bind fun wr => (rng b0i wr c).bind (oc fun c1 => (o6 g.Nodes i).bind fun nd3 => (a3g nd3).bind fun rd => (rng b0j rd c1).bind (oc fun c2 =>
  (o6 s.1 i).bind fun ii => (b4y fuel ii c2).bind fun r => (if (!r.1) = true then some (.nxt (s.1.set i.toNat r.2, outs, td, s.2.2.2.set i.toNat false)) else
  (o6 bef i).bind fun bs => (rng b0k bs (td, s.2.2.2.set i.toNat false)).bind (oc fun q => some (.nxt (s.1.set i.toNat r.2, outs, q.1, q.2))))))))
 else some (.brk s))
def a1D (fuel : Nat) (g : b5) : Option R0 :=
 (mkL 8 (List.length g.Nodes : Int) (List.length g.Nodes : Int) ()).bind fun m1 => (mkL 8 (List.length g.Nodes : Int) (List.length g.Nodes : Int) ()).bind fun m2 => (mkL 24 (List.length g.Nodes : Int) (List.length g.Nodes : Int) []).bind fun m3 => (mkL 8 0 (List.length g.Nodes : Int) 0).bind fun m4 =>
 (rng (b0h g) g.Nodes ([], [], m3, m4)).bind (oc fun s => gd (s.1.length = g.Nodes.length /\ s.2.1.length = g.Nodes.length /\ s.2.2.1.length = g.Nodes.length) ((mkL 1 (List.length g.Nodes : Int) (List.length g.Nodes : Int) false).bind fun w =>
 (rni a7r (List.length w : Int) w).bind (oc fun w2 => (whileN (a5M fuel g s.2.2.1) fuel (s.1, s.2.1, s.2.2.2, w2)).bind (oc fun e => gd (e.1.length = g.Nodes.length /\ e.2.1.length = g.Nodes.length) (some (e.1, e.2.1))))))
theorem c0B {P : Program} {ow : List Nat} {fr : Fr} {S : List Ob} {log : List LE} {d n rs} {cs : List AV} {S' : List Ob} {K : Fr -> List Ob -> List LE -> Prop} (how : ow.contains d = true) (hn : S.length = n) (hS : p8 S n (.arr 0 cs) = S')
  (h : VTops P ow rs ((d, .ptr n 0 0) :: fr) S' (.acc [n] (some n) :: log) K) : VTops P ow (⟨some d, none, .op (.new cs)⟩ :: rs) fr S log K := by
 subst hn
 refine a1d (v := .ptr S.length 0 0) (rd := []) (δ := some (S.length, .arr 0 cs)) ?_ rfl hS h
 simp only [opV, b7U, how, if_true]
theorem b4A {S : List Ob} {n v : Nat} {s : d7} (hn : S.length = n) : (a3j S n (n + 1) v s).length = n + 2 := by subst hn; exact a4V
section
variable {g : b5} {r : R0} {fuel : Nat}
theorem c0C {P : Program} {ow : List Nat} {fr : Fr} {S : List Ob} {log : List LE} {α : Type} {f : α -> AV} {esh : Option Nat} {d o} {bytes : Nat} {z l c rs} {K : Fr -> List Ob -> List LE -> Prop} {k k' n n'} {S' : List Ob} {x : α} {v : List α} (hn : S.length = o) (he : Enc f esh) (how : ow.contains d = true) (e : ev (Fr.get fr) l = .int k n) (e1 : ev (Fr.get fr) c = .int k' n') (hz : (f x).cells = z) (hv : mkL bytes n n' x = some v)
  (hS : p8 S o (.arr 0 (flat f v)) = S')
  (h : VTops P ow rs ((d, .ref o 0 0 v.length esh) :: fr) S' (.acc [o] (some o) :: log) K) : VTops P ow (⟨some d, none, .op (.mksl esh bytes z l c)⟩ :: rs) fr S log K := by
 subst hn
 exact b1b he how e e1 hz hv hS h
theorem c3X : Enc (fun (_ : Unit) => AV.nilp) none := ⟨fun _ => rfl, fun _ => rfl, fun _ => rfl, fun _ _ => rfl⟩
theorem c5l : Enc (fun (_ : List Int) => AV.nils) none := ⟨fun _ => rfl, fun _ => rfl, fun _ => rfl, fun _ _ => rfl⟩
theorem a1P {α : Type} {l : List α} {i : Int} {y : α} (h : o6 l i = some y) : 0 <= i /\ i.toNat < l.length /\ i = (i.toNat : Int) /\ l[i.toNat]? = some y := by
 obtain ⟨h1, h2, h3⟩ := i8 h
 exact ⟨h1, by omega, by omega, h3⟩
abbrev gR (g : b5) : AV := .cptr (b5.av g).cells 0
theorem gb {R : Rn} {g : b5} : RnV R (gR g) (gR g) := g7 (i9 (b5.enc.blw _ 0))
theorem a7T (h : a1D fuel g = some r) : m5 Tryd.prog 52 [(.cptr (b5.av g).cells 0)] (.tup [(.sl false 1 ((r.1.map some).map (avP d7.av))), (.sl false 1 ((r.2.map some).map (avP d7.av)))]) := by
 unfold a1D at h
 refine k6 mixed c5k zS [9, 29, 35, 41, 47, 104] 6 ?_
 unfold c3V
 refine d9 ?_
 refine b8 ?_
 refine oM .nils ?_
 refine oM .nils ?_
 refine b7 ?_
 refine f5 ?_
 refine d9 ?_
 refine a4I ?_
 refine oM (.cptr (b5.av g).cells 0) ?_
 refine oP (.cptr (b5.av g).cells 0) ?_
 refine oP (.cptr (b5.av g).cells 6) ?_
 refine oP (.sl false 12 (List.map g6.av g.Nodes)) ?_
 refine n5 rfl ?_
 obtain ⟨m1, hm1, h⟩ := b9 h
 refine b1b (f := (fun (_ : Unit) => AV.nilp)) (x := ()) (S' := [.arr 0 (flat (fun (_ : Unit) => AV.nilp) m1)]) c3X rfl rfl rfl rfl hm1 rfl ?_
 refine oM (.cptr (b5.av g).cells 0) ?_
 refine oP (.cptr (b5.av g).cells 0) ?_
 refine oP (.cptr (b5.av g).cells 6) ?_
 refine oP (.sl false 12 (List.map g6.av g.Nodes)) ?_
 refine n5 rfl ?_
 obtain ⟨m2, hm2, h⟩ := b9 h
 refine b1b (f := (fun (_ : Unit) => AV.nilp)) (x := ()) (S' := [.arr 0 (flat (fun (_ : Unit) => AV.nilp) m1), .arr 0 (flat (fun (_ : Unit) => AV.nilp) m2)]) c3X rfl rfl rfl rfl hm2 rfl ?_
 refine oM (.ref 0 0 0 (List.length m1) none) ?_
 refine oM (.ref 1 0 0 (List.length m2) none) ?_
 refine b7 ?_
 refine And.intro (by simp [a1X, a7L, a1r, hp, a2z]) ?_
 refine f5 ?_
 refine d9 ?_
 refine b8 ?_
 refine oM (.cptr (b5.av g).cells 0) ?_
 refine oP (.cptr (b5.av g).cells 0) ?_
 refine oP (.cptr (b5.av g).cells 6) ?_
 refine oP (.sl false 12 (List.map g6.av g.Nodes)) ?_
 refine n5 rfl ?_
 obtain ⟨m3, hm3, h⟩ := b9 h
 refine b1b (f := (fun (_ : List Int) => AV.nils)) (x := []) (S' := [.arr 0 (flat (fun (_ : Unit) => AV.nilp) m1), .arr 0 (flat (fun (_ : Unit) => AV.nilp) m2), .arr 0 (flat (fun (_ : List Int) => AV.nils) m3)]) c5l rfl rfl rfl rfl hm3 rfl ?_
 refine oM (.ref 2 0 0 (List.length m3) none) ?_
 refine b7 ?_
 refine f5 ?_
 refine d9 ?_
 refine b8 ?_
 refine oM (.cptr (b5.av g).cells 0) ?_
 refine oP (.cptr (b5.av g).cells 0) ?_
 refine oP (.cptr (b5.av g).cells 6) ?_
 refine oP (.sl false 12 (List.map g6.av g.Nodes)) ?_
 refine n5 rfl ?_
 obtain ⟨m4, hm4, h⟩ := b9 h
 refine b1b (x := 0) (S' := [.arr 0 (flat (fun (_ : Unit) => AV.nilp) m1), .arr 0 (flat (fun (_ : Unit) => AV.nilp) m2), .arr 0 (flat (fun (_ : List Int) => AV.nils) m3), .arr 0 (flat (avI .i64) m4)]) (g5 .i64) rfl rfl rfl rfl hm4 rfl ?_
 obtain ⟨_, q1⟩ := a3s hm1
 obtain ⟨_, q2⟩ := a3s hm2
 obtain ⟨_, q3⟩ := a3s hm3
 obtain ⟨_, q4⟩ := a3s hm4
 have l1 : m1.length = g.Nodes.length := by rw [q1]; simp
 have l2 : m2.length = g.Nodes.length := by rw [q2]; simp
 have l3 : m3.length = g.Nodes.length := by rw [q3]; simp
 have q3' : m3 = List.replicate g.Nodes.length [] := by rw [q3]; simp
 obtain rfl : m4 = [] := by rw [q4]; rfl
 refine oM (.ref 3 0 0 (List.length ([] : List Int)) none) ?_
 refine b7 ?_
 refine f5 ?_
 refine x9 ?_
 refine d9 ?_
 refine b8 ?_
 refine oM (.cptr (b5.av g).cells 0) ?_
 refine oP (.cptr (b5.av g).cells 0) ?_
 refine oP (.cptr (b5.av g).cells 6) ?_
 refine oP (.sl false 12 (List.map g6.av g.Nodes)) ?_
 refine n5 rfl ?_
 refine oM (.int .i64 0) ?_
 refine b7 ?_
 refine f5 ?_
 refine d9 ?_
 refine a0j (fun s : T1 => [(0, gR g), (4, (.ref 0 0 0 g.Nodes.length none)), (5, (.ref 1 0 0 g.Nodes.length none)), (6, (.ref 2 0 0 g.Nodes.length none)), (7, (.ref 3 0 0 (List.length s.2.2.2) none)), (51, (.sl false 12 (List.map g6.av g.Nodes)))]) (fun s : T1 => HS g.Nodes.length s.1 s.2.1 s.2.2.1 s.2.2.2 []) h zD zD (fun _ => ⟨rfl, rfl, rfl, rfl⟩)
  (b8z l1 l2 q3' ⟨(g7 rfl), (g7 rfl), gb, a7l l1 zO rfl rfl rfl (by rw [a0P]; simp [g8]), a7l l2 zO rfl rfl rfl (by rw [a0P]; simp [g8]), a7l l3 zO rfl rfl rfl (by rw [a3y]; simp [g8]), a3G zO rfl rfl rfl zS, (g7 (g6.enc.blws 0)), trivial⟩) (fun i n s c hx hlt h => ?_) (fun s fr' S' h hw => ?_)
 ·unfold b0h at h
  obtain ⟨⟨hi, ho⟩, h⟩ := a0F h
  have h0 : HasSt (HS g.Nodes.length s.1 s.2.1 s.2.2.1 s.2.2.2 []) id g.Nodes.length s.1 s.2.1 s.2.2.1 0 s.2.2.2 [] := a6m zO zO
  have hl0 : (HS g.Nodes.length s.1 s.2.1 s.2.2.1 s.2.2.2 []).length = 5 + 5 * g.Nodes.length := a8W
  generalize hS0 : HS g.Nodes.length s.1 s.2.1 s.2.2.1 s.2.2.2 [] = S0 at h0 hl0
  refine d9 ?_
  refine b8 ?_
  refine oM (.int .i64 (i : Int)) ?_
  refine j7 rfl rfl (v6 hx) ?_
  refine oP (g6.av n) ?_
  refine c0B rfl hl0 rfl ?_
  refine oM (.int .i64 (i : Int)) ?_
  refine b4e (S' := p8 S0 (5 + 5 * g.Nodes.length) (.arr 0 (g6.cells n))) (xv := g6.av n) rfl rfl (by rw [o8, a4h]) rfl rfl nB (by rw [a4X]; rfl) ?_
  refine b7 ?_
  refine f5 ?_
  have hl1 : (p8 S0 (5 + 5 * g.Nodes.length) (.arr 0 (g6.cells n))).length = 5 + 5 * g.Nodes.length + 1 := by rw [a1B _ _ _ zO]; omega
  have k1 : ∀ k, k < 5 + 5 * g.Nodes.length -> hp (p8 S0 (5 + 5 * g.Nodes.length) (.arr 0 (g6.cells n))) k = hp S0 k := fun k hk => by rw [o8, a1A zO]
  have k1n : hp (p8 S0 (5 + 5 * g.Nodes.length) (.arr 0 (g6.cells n))) (5 + 5 * g.Nodes.length) = .arr 0 (g6.cells n) := by rw [o8, a4h]
  generalize hS1 : p8 S0 (5 + 5 * g.Nodes.length) (.arr 0 (g6.cells n)) = S1 at hl1 k1 k1n
  refine d9 ?_
  refine a4I ?_
  refine oM (.ref 0 0 0 g.Nodes.length none) ?_
  refine oM (.int .i64 (i : Int)) ?_
  refine oM (.ref 1 0 0 g.Nodes.length none) ?_
  refine oM (.int .i64 (i : Int)) ?_
  refine oM (.cptr (b5.av g).cells 0) ?_
  refine oP (.cptr (b5.av g).cells 0) ?_
  refine oP (.cptr (b5.av g).cells 1) ?_
  refine oP (.sl false 1 (List.map (avI .u8) g.Kinds)) ?_
  refine n5 rfl ?_
  obtain ⟨a, ha, h⟩ := b9 h
  have eA := c0z (S := S1) ha
  rw [hl1] at eA
  refine a3r eA rfl ?_
  have hl2 : (a3j S1 (5 + 5 * g.Nodes.length + 1) (5 + 5 * g.Nodes.length + 1 + 1) 1 a).length = 5 + 5 * g.Nodes.length + 3 := b4A hl1
  have k2 : ∀ k, k < 5 + 5 * g.Nodes.length + 1 -> hp (a3j S1 (5 + 5 * g.Nodes.length + 1) (5 + 5 * g.Nodes.length + 1 + 1) 1 a) k = hp S1 k := fun k hk => a1k zO zO
  have sA : isS (a3j S1 (5 + 5 * g.Nodes.length + 1) (5 + 5 * g.Nodes.length + 1 + 1) 1 a) (5 + 5 * g.Nodes.length + 1) (5 + 5 * g.Nodes.length + 2) 1 a := a1Z zO
  generalize hS2 : a3j S1 (5 + 5 * g.Nodes.length + 1) (5 + 5 * g.Nodes.length + 1 + 1) 1 a = S2 at hl2 k2 sA
  refine oM (.cptr (b5.av g).cells 0) ?_
  refine oP (.cptr (b5.av g).cells 0) ?_
  refine oP (.cptr (b5.av g).cells 1) ?_
  refine oP (.sl false 1 (List.map (avI .u8) g.Kinds)) ?_
  refine n5 rfl ?_
  obtain ⟨b, hb, h⟩ := b9 h
  have eB := c0z (S := S2) hb
  rw [hl2] at eB
  refine a3r eB rfl ?_
  have k3 : ∀ k, k < 5 + 5 * g.Nodes.length + 3 -> hp (a3j S2 (5 + 5 * g.Nodes.length + 3) (5 + 5 * g.Nodes.length + 3 + 1) 1 b) k = hp S2 k := fun k hk => a1k zO zO
  have sB : isS (a3j S2 (5 + 5 * g.Nodes.length + 3) (5 + 5 * g.Nodes.length + 3 + 1) 1 b) (5 + 5 * g.Nodes.length + 3) (5 + 5 * g.Nodes.length + 4) 1 b := a1Z zO
  generalize hS3 : a3j S2 (5 + 5 * g.Nodes.length + 3) (5 + 5 * g.Nodes.length + 3 + 1) 1 b = S3 at k3 sB
  obtain ⟨cs0, c01, c02, _⟩ := h0.c0
  obtain ⟨cs1, c11, c12, _⟩ := h0.c1
  have d0 : hp S3 0 = .arr 0 cs0 := by rw [k3 _ zO, k2 _ zO, k1 _ zO]; exact c01
  have d1 : hp S3 1 = .arr 0 cs1 := by rw [k3 _ zO, k2 _ zO, k1 _ zO]; exact c11
  refine n7 rfl rfl ⟨by omega, by omega⟩ ?_
  refine b4e (S' := p8 S3 0 (.arr 0 (cs0.set i (.ptr (5 + 5 * g.Nodes.length + 1) 0 0)))) (xv := .ptr (5 + 5 * g.Nodes.length + 1) 0 0) rfl rfl d0 rfl rfl (by simp [g8]; omega) (by simp [g8, splice, AV.cells]) ?_
  refine n7 rfl rfl ⟨by omega, by omega⟩ ?_
  refine b4e (S' := p8 (p8 S3 0 (.arr 0 (cs0.set i (.ptr (5 + 5 * g.Nodes.length + 1) 0 0)))) 1 (.arr 0 (cs1.set i (.ptr (5 + 5 * g.Nodes.length + 3) 0 0)))) (xv := .ptr (5 + 5 * g.Nodes.length + 3) 0 0) rfl rfl (by rw [o8, a1A zD]; exact d1) rfl rfl (by simp [g8]; omega) (by simp [g8, splice, AV.cells]) ?_
  have k5 : ∀ k, k ≠ 0 -> k ≠ 1 -> hp (p8 (p8 S3 0 (.arr 0 (cs0.set i (.ptr (5 + 5 * g.Nodes.length + 1) 0 0)))) 1 (.arr 0 (cs1.set i (.ptr (5 + 5 * g.Nodes.length + 3) 0 0)))) k = hp S3 k := fun k a b => by rw [o8, a1A b, o8, a1A a]
  have k50 : hp (p8 (p8 S3 0 (.arr 0 (cs0.set i (.ptr (5 + 5 * g.Nodes.length + 1) 0 0)))) 1 (.arr 0 (cs1.set i (.ptr (5 + 5 * g.Nodes.length + 3) 0 0)))) 0 = .arr 0 (cs0.set i (.ptr (5 + 5 * g.Nodes.length + 1) 0 0)) := by rw [o8, a1A zD, o8, a4h]
  have k51 : hp (p8 (p8 S3 0 (.arr 0 (cs0.set i (.ptr (5 + 5 * g.Nodes.length + 1) 0 0)))) 1 (.arr 0 (cs1.set i (.ptr (5 + 5 * g.Nodes.length + 3) 0 0)))) 1 = .arr 0 (cs1.set i (.ptr (5 + 5 * g.Nodes.length + 3) 0 0)) := by rw [o8, a4h]
  generalize hS5 : p8 (p8 S3 0 (.arr 0 (cs0.set i (.ptr (5 + 5 * g.Nodes.length + 1) 0 0)))) 1 (.arr 0 (cs1.set i (.ptr (5 + 5 * g.Nodes.length + 3) 0 0))) = S5 at k5 k50 k51
  refine b7 ?_
  refine And.intro (by simp [a1X, a7L, a1r]) ?_
  refine f5 ?_
  have hP : HasSt S5 (a2O (5 + 5 * g.Nodes.length) i) g.Nodes.length (s.1 ++ [a]) (s.2.1 ++ [b]) s.2.2.1 0 s.2.2.2 [] :=
   h0.push hi ho hlt c01 c11 (fun k a b c => by rw [k5 k b c, k3 k zO, k2 k zO, k1 k a]) k50 k51 (x5 sA (by rw [k5 _ zO zO, k3 _ zO]) (by rw [k5 _ zO zO, k3 _ zO])) (x5 sB (k5 _ zO zO) (k5 _ zO zO))
  refine x9 ?_
  refine d9 ?_
  refine b8 ?_
  refine b0b (v := g6.av n) rfl (by rw [k5 _ zO zO, k3 _ zO, k2 _ zO]; exact k1n) rfl ?_
  obtain ⟨nx, hnx, h⟩ := b9 h
  refine j4 (a3d hnx) rfl ⟨(.refl _), trivial⟩ (i6 ⟨(g6.enc.blw _ 0), trivial⟩) ((g5 .i64).blws 0) ?_
  refine n5 rfl ?_
  refine oM (.int .i64 0) ?_
  refine b7 ?_
  refine f5 ?_
  refine d9 ?_
  refine a0j (fun bf => [(0, gR g), (4, (.ref 0 0 0 g.Nodes.length none)), (5, (.ref 1 0 0 g.Nodes.length none)), (6, (.ref 2 0 0 g.Nodes.length none)), (7, (.ref 3 0 0 (List.length s.2.2.2) none)), (8, (.int .i64 (i : Int))), (51, (.sl false 12 (List.map g6.av g.Nodes))), (52, (.int .i64 (List.length g.Nodes : Int))), (53, (.int .i64 (i : Int))), (77, (.sl false 1 (List.map (avI .i64) nx)))]) (fun bf => HS g.Nodes.length (s.1 ++ [a]) (s.2.1 ++ [b]) bf s.2.2.2 []) h zD zD (fun _ => ⟨rfl, rfl, rfl, rfl⟩)
   (hP.wkM b4u ⟨(g7 rfl), (g7 rfl), gb, hP.r4 (Nat.le_refl _) rfl rfl (a0a zO zO zO zO), hP.r5 (Nat.le_refl _) rfl rfl (a0a zO zO zO zO), hP.r6 (Nat.le_refl _) rfl rfl (a0a zO zO zO zO), hP.r7 (Nat.le_refl _) rfl rfl rfl (a0a zO zO zO zO), (g7 rfl), (g7 (g6.enc.blws 0)), (g7 rfl), (g7 rfl), (g7 ((g5 .i64).blws 0)), trivial⟩) (fun i2 to bf c hx2 hlt2 h => ?_) (fun bf fr' S' h hw => ?_)
  ·unfold b0g at h
   obtain ⟨hbl, h⟩ := a0F h
   obtain ⟨y, hy, h⟩ := b9 h
   obtain ⟨l, hl, h⟩ := b9 h
   obtain ⟨y0, y1, y2, y3⟩ := a1P hy
   have hB : HasSt (HS g.Nodes.length (s.1 ++ [a]) (s.2.1 ++ [b]) bf s.2.2.2 []) id g.Nodes.length (s.1 ++ [a]) (s.2.1 ++ [b]) bf 0 s.2.2.2 [] := a6m zE zE
   generalize hSB : HS g.Nodes.length (s.1 ++ [a]) (s.2.1 ++ [b]) bf s.2.2.2 [] = SB at hB
   obtain ⟨cs, v, b1, b2, b3, b4⟩ := hB.befAt (j := to.toNat) zO
   have ey : bf.getD to.toNat [] = y := by simp [List.getD_eq_getElem?_getD, y3]
   rw [ey] at b3 b4
   refine d9 ?_
   refine b8 ?_
   refine j7 rfl rfl (v6 hx2) ?_
   refine oP (.int .i64 to) ?_
   refine oM (.int .i64 to) ?_
   refine b7 ?_
   refine f5 ?_
   refine b8 ?_
   refine oM (.ref 2 0 0 g.Nodes.length none) ?_
   refine oM (.int .i64 to) ?_
   refine oM (.ref 2 0 0 g.Nodes.length none) ?_
   refine oM (.int .i64 to) ?_
   refine n7 rfl rfl ⟨by omega, by omega⟩ ?_
   refine b0b rfl b1 (by simpa [g8] using b3) ?_
   refine oM (.int .i64 (i : Int)) ?_
   refine t8 (v' := (.sl true 1 (List.map (avI .i64) [(i : Int)]))) rfl (.refl _) rfl ?_
   refine a5D (S' := p8 SB (9 + 5 * to.toNat) (.arr (v + 1) (flat (avI .i64) l))) (g5 .i64) rfl (a4b [(i : Int)]) b4 hl rfl ?_
   refine n7 rfl rfl ⟨by omega, by omega⟩ ?_
   refine b4e (S' := p8 (p8 SB (9 + 5 * to.toNat) (.arr (v + 1) (flat (avI .i64) l))) 2 (.arr 0 (cs.set to.toNat (.ref (9 + 5 * to.toNat) (v + 1) 0 l.length none)))) (xv := .ref (9 + 5 * to.toNat) (v + 1) 0 l.length none) rfl rfl (by rw [o8, a1A zO]; exact b1) rfl rfl (by simp [g8]; omega) (by simp [g8, splice, AV.cells]) ?_
   refine b7 ?_
   have hC := hB.setBef (j := to.toNat) (v := v + 1) (l := l) zO y1 b1
   cases h
   exact a1O rfl (hC.wkI ⟨(g7 rfl), (g7 rfl), gb, hC.r4 (Nat.le_refl _) rfl rfl rfl, hC.r5 (Nat.le_refl _) rfl rfl rfl, hC.r6 (Nat.le_refl _) rfl rfl rfl, hC.r7 (Nat.le_refl _) rfl rfl rfl rfl, (g7 rfl), (g7 (g6.enc.blws 0)), (g7 rfl), (g7 rfl), (g7 ((g5 .i64).blws 0)), trivial⟩)
  ·refine a2Z hw ?_
   have hB : HasSt (HS g.Nodes.length (s.1 ++ [a]) (s.2.1 ++ [b]) bf s.2.2.2 []) id g.Nodes.length (s.1 ++ [a]) (s.2.1 ++ [b]) bf 0 s.2.2.2 [] := a6m zE zE
   have e3 : hp (HS g.Nodes.length (s.1 ++ [a]) (s.2.1 ++ [b]) bf s.2.2.2 []) 3 = .arr 0 (flat (avI .i64) s.2.2.2) := a4L zO
   generalize hSB : HS g.Nodes.length (s.1 ++ [a]) (s.2.1 ++ [b]) bf s.2.2.2 [] = SB at hB e3
   refine b8 ?_
   refine oM (.ref 3 0 0 (List.length s.2.2.2) none) ?_
   refine oM (.int .i64 (i : Int)) ?_
   refine t8 (v' := (.sl true 1 (List.map (avI .i64) [(i : Int)]))) rfl (.refl _) rfl ?_
   obtain ⟨l, hl, h⟩ := b9 h
   refine a5D (S' := p8 SB 3 (.arr 1 (flat (avI .i64) l))) (g5 .i64) rfl (a4b [(i : Int)]) e3 hl rfl ?_
   refine oM (.ref 3 1 0 (List.length l) none) ?_
   refine b7 ?_
   have hC := hB.setTodo (v := 1) (todo' := l)
   cases h
   exact a1O rfl (hC.wkI ⟨(g7 rfl), (g7 rfl), gb, hC.r4 (Nat.le_refl _) rfl rfl rfl, hC.r5 (Nat.le_refl _) rfl rfl rfl, hC.r6 (Nat.le_refl _) rfl rfl rfl, hC.r7 (Nat.le_refl _) rfl rfl rfl rfl, (g7 (g6.enc.blws 0)), trivial⟩)
 ·refine a2Z hw ?_
  obtain ⟨⟨li, lo, lb⟩, h⟩ := a0F h
  have h0 : HasSt (HS g.Nodes.length s.1 s.2.1 s.2.2.1 s.2.2.2 []) id g.Nodes.length s.1 s.2.1 s.2.2.1 0 s.2.2.2 [] := a6m zO zO
  have hl0 : (HS g.Nodes.length s.1 s.2.1 s.2.2.1 s.2.2.2 []).length = 5 + 5 * g.Nodes.length := a8W
  generalize hS0 : HS g.Nodes.length s.1 s.2.1 s.2.2.1 s.2.2.2 [] = S0 at h0 hl0
  refine d9 ?_
  refine b8 ?_
  refine oM (.cptr (b5.av g).cells 0) ?_
  refine oP (.cptr (b5.av g).cells 0) ?_
  refine oP (.cptr (b5.av g).cells 6) ?_
  refine oP (.sl false 12 (List.map g6.av g.Nodes)) ?_
  refine n5 rfl ?_
  obtain ⟨w, hw1, h⟩ := b9 h
  refine c0C (x := false) (S' := p8 S0 (5 + 5 * g.Nodes.length) (.arr 0 (flat avB w))) hl0 a8R rfl rfl rfl rfl hw1 rfl ?_
  refine oM (.ref (5 + 5 * g.Nodes.length) 0 0 (List.length w) none) ?_
  refine b7 ?_
  refine f5 ?_
  have hP : HasSt (p8 S0 (5 + 5 * g.Nodes.length) (.arr 0 (flat avB w))) (a5L (5 + 5 * g.Nodes.length)) g.Nodes.length s.1 s.2.1 s.2.2.1 0 s.2.2.2 w := h0.newWaits (fun k hk => by rw [o8, a1A zO]) (by rw [o8, a4h])
  refine x9 ?_
  refine d9 ?_
  refine b8 ?_
  refine oM (.ref (5 + 5 * g.Nodes.length) 0 0 (List.length w) none) ?_
  refine a4J rfl ?_
  refine oM (.int .i64 0) ?_
  refine b7 ?_
  refine f5 ?_
  refine d9 ?_
  refine a4d (fun w => [(0, gR g), (4, (.ref 0 0 0 g.Nodes.length none)), (5, (.ref 1 0 0 g.Nodes.length none)), (6, (.ref 2 0 0 g.Nodes.length none)), (7, (.ref 3 0 0 (List.length s.2.2.2) none)), (12, (.ref 4 0 0 (List.length w) none))]) (fun w => HS g.Nodes.length s.1 s.2.1 s.2.2.1 s.2.2.2 w) h zD zD (fun _ => ⟨rfl, rfl, rfl, rfl⟩)
   (hP.wkM b4w ⟨(g7 rfl), (g7 rfl), gb, hP.r4 (m' := fun i => some (a5L (5 + 5 * g.Nodes.length) i)) (Nat.le_refl _) rfl rfl (a0b zO), hP.r5 (m' := fun i => some (a5L (5 + 5 * g.Nodes.length) i)) (Nat.le_refl _) rfl rfl (a0b zO), hP.r6 (m' := fun i => some (a5L (5 + 5 * g.Nodes.length) i)) (Nat.le_refl _) rfl rfl (a0b zO), hP.r7 (m' := fun i => some (a5L (5 + 5 * g.Nodes.length) i)) (Nat.le_refl _) rfl rfl rfl (a0b zO), hP.r12 (Nat.le_refl _) rfl rfl rfl b4v, trivial⟩) (fun i w c hlt h => ?_) (fun w fr' S' h hw => ?_)
  ·unfold a7r at h
   obtain ⟨y, hy, h⟩ := b9 h
   have hB : HasSt (HS g.Nodes.length s.1 s.2.1 s.2.2.1 s.2.2.2 w) id g.Nodes.length s.1 s.2.1 s.2.2.1 0 s.2.2.2 w := a6m zO zO
   generalize hSB : HS g.Nodes.length s.1 s.2.1 s.2.2.1 s.2.2.2 w = SB at hB
   refine d9 ?_
   refine b8 ?_
   refine oM (.int .i64 (i : Int)) ?_
   refine oM (.int .i64 (i : Int)) ?_
   refine b7 ?_
   refine f5 ?_
   refine b8 ?_
   refine oM (.ref 4 0 0 (List.length w) none) ?_
   refine oM (.int .i64 (i : Int)) ?_
   refine n7 rfl rfl ⟨(i8 hy).1, (i8 hy).2.1⟩ ?_
   refine b1a (y := y) (y' := true) (S' := p8 SB 4 (.arr 0 (flat avB (List.set w (Int.toNat (i : Int)) true)))) a8R rfl rfl hB.c4 zA (i8 hy).2.2 rfl rfl nB rfl rfl ?_
   refine b7 ?_
   have hC := hB.setWaits (waits' := List.set w (Int.toNat (i : Int)) true)
   cases h
   exact a1O rfl (hC.wkI ⟨(g7 rfl), (g7 rfl), gb, hC.r4 (Nat.le_refl _) rfl rfl rfl, hC.r5 (Nat.le_refl _) rfl rfl rfl, hC.r6 (Nat.le_refl _) rfl rfl rfl, hC.r7 (Nat.le_refl _) rfl rfl rfl rfl, hC.r12 (Nat.le_refl _) rfl rfl (by rw [List.length_set]) rfl, trivial⟩)
  ·refine a2Z hw ?_
   have hQ : HasSt (HS g.Nodes.length s.1 s.2.1 s.2.2.1 s.2.2.2 w) id g.Nodes.length s.1 s.2.1 s.2.2.1 0 s.2.2.2 w := a6m zO zO
   refine d9 ?_
   refine a6z (fun q : T2 => [(0, gR g), (4, (.ref 0 0 0 g.Nodes.length none)), (5, (.ref 1 0 0 g.Nodes.length none)), (6, (.ref 2 0 0 g.Nodes.length none)), (7, (.ref 3 0 0 (List.length q.2.2.1) none)), (12, (.ref 4 0 0 (List.length q.2.2.2) none))]) (fun q : T2 => HS g.Nodes.length q.1 q.2.1 s.2.2.1 q.2.2.1 q.2.2.2) h
    (hQ.wkI ⟨gb, hQ.r4 (Nat.le_refl _) rfl rfl rfl, hQ.r5 (Nat.le_refl _) rfl rfl rfl, hQ.r6 (Nat.le_refl _) rfl rfl rfl, hQ.r7 (Nat.le_refl _) rfl rfl rfl rfl, hQ.r12 (Nat.le_refl _) rfl rfl rfl rfl, trivial⟩) (fun q c h => ?_) (fun q fr' S' h hw => ?_)
   ·unfold a5M at h
    obtain ⟨⟨li, lo, lb⟩, h⟩ := a0F h
    have h0 : HasSt (HS g.Nodes.length q.1 q.2.1 s.2.2.1 q.2.2.1 q.2.2.2) id g.Nodes.length q.1 q.2.1 s.2.2.1 0 q.2.2.1 q.2.2.2 := a6m zO zO
    have e3 : hp (HS g.Nodes.length q.1 q.2.1 s.2.2.1 q.2.2.1 q.2.2.2) 3 = .arr 0 (flat (avI .i64) q.2.2.1) := a4L zO
    generalize hS0 : HS g.Nodes.length q.1 q.2.1 s.2.2.1 q.2.2.1 q.2.2.2 = S0 at h0 e3
    refine x9 ?_
    refine d9 ?_
    refine b8 ?_
    refine oM (.ref 3 0 0 (List.length q.2.2.1) none) ?_
    refine a4J rfl ?_
    refine oP (.bool (decide ((List.length q.2.2.1 : Int) > 0))) ?_
    refine b7 ?_
    refine f5 ?_
    refine d9 ?_
    refine a1i (t := (decide ((List.length q.2.2.1 : Int) > 0))) rfl (fun hb => ?_) (fun hb => ?_)
    ·rw [b0X hb] at h
     refine i7 ?_
     refine f5 ?_
     refine k7 ?_
     refine d9 ?_
     refine b8 ?_
     refine oM (.ref 3 0 0 (List.length q.2.2.1) none) ?_
     refine oM (.ref 3 0 0 (List.length q.2.2.1) none) ?_
     refine a4J rfl ?_
     refine oP (.int .i64 (I64 ((List.length q.2.2.1 : Int) - 1))) ?_
     obtain ⟨i, hi, h⟩ := b9 h
     refine n7 rfl rfl ⟨(i8 hi).1, (i8 hi).2.1⟩ ?_
     refine a5C (g5 .i64) rfl e3 zA (i8 hi).2.2 rfl (.refl _) ?_
     refine oM (.int .i64 i) ?_
     refine b7 ?_
     refine f5 ?_
     refine d9 ?_
     refine b8 ?_
     refine oM (.ref 4 0 0 (List.length q.2.2.2) none) ?_
     refine oM (.int .i64 i) ?_
     refine oM (.ref 3 0 0 (List.length q.2.2.1) none) ?_
     refine oM (.ref 3 0 0 (List.length q.2.2.1) none) ?_
     refine a4J rfl ?_
     refine oP (.int .i64 (I64 ((List.length q.2.2.1 : Int) - 1))) ?_
     obtain ⟨td, htd, h⟩ := b9 h
     refine c0k rfl rfl htd ?_
     refine oM (.ref 3 0 (0 + 0 * g8 none) (Int.toNat (I64 ((List.length q.2.2.1 : Int) - 1))) none) ?_
     obtain ⟨y, hy, h⟩ := b9 h
     refine n7 rfl rfl ⟨(i8 hy).1, (i8 hy).2.1⟩ ?_
     refine b1a (y := y) (y' := false) (S' := p8 S0 4 (.arr 0 (flat avB (List.set q.2.2.2 (Int.toNat i) false)))) a8R rfl rfl h0.c4 zA (i8 hy).2.2 rfl rfl nB rfl rfl ?_
     refine b7 ?_
     refine f5 ?_
     obtain ⟨t1, t2⟩ := a7f htd
     have tl : (I64 ((List.length q.2.2.1 : Int) - 1)).toNat = td.length := by rw [t2]; simp; omega
     have tp : ∃ r, q.2.2.1 = td ++ r := ⟨q.2.2.1.drop (I64 ((List.length q.2.2.1 : Int) - 1)).toNat, by rw [t2]; simp⟩
     have hA := (h0.setWaits (waits' := List.set q.2.2.2 (Int.toNat i) false)).popTodo tp
     refine x9 ?_
     refine d9 ?_
     refine b8 ?_
     refine oM (.cptr (b5.av g).cells 0) ?_
     refine oP (.cptr (b5.av g).cells 0) ?_
     refine oP (.cptr (b5.av g).cells 6) ?_
     refine oP (.sl false 12 (List.map g6.av g.Nodes)) ?_
     refine oM (.int .i64 i) ?_
     obtain ⟨nd, hnd, h⟩ := b9 h
     refine j7 rfl rfl hnd ?_
     refine oP (g6.av nd) ?_
     obtain ⟨nx, hnx, h⟩ := b9 h
     refine j4 (a3d hnx) rfl ⟨(.refl _), trivial⟩ (i6 ⟨(g6.enc.blw _ 0), trivial⟩) ((g5 .i64).blws 0) ?_
     refine n5 rfl ?_
     refine oM (.int .i64 0) ?_
     refine b7 ?_
     refine f5 ?_
     refine d9 ?_
     refine a0j (fun outs => [(0, gR g), (4, (.ref 0 0 0 g.Nodes.length none)), (5, (.ref 1 0 0 g.Nodes.length none)), (6, (.ref 2 0 0 g.Nodes.length none)), (7, (.ref 3 0 0 (List.length td) none)), (12, (.ref 4 0 0 (List.length (List.set q.2.2.2 (Int.toNat i) false)) none)), (14, (.int .i64 i)), (138, (.sl false 1 (List.map (avI .i64) nx)))]) (fun outs => HS g.Nodes.length q.1 outs s.2.2.1 td (List.set q.2.2.2 (Int.toNat i) false)) h zD zD (fun _ => ⟨rfl, rfl, rfl, rfl⟩)
      (hA.wkI ⟨(g7 rfl), (g7 rfl), gb, hA.r4 (Nat.le_refl _) rfl rfl rfl, hA.r5 (Nat.le_refl _) rfl rfl rfl, hA.r6 (Nat.le_refl _) rfl rfl rfl, hA.r7 (Nat.le_refl _) rfl rfl tl rfl, hA.r12 (Nat.le_refl _) rfl rfl (by rw [List.length_set]) rfl, (g7 rfl), (g7 ((g5 .i64).blws 0)), trivial⟩) (fun i2 to outs c hx hlt h => ?_) (fun outs fr' S' h hw => ?_)
     ·unfold b4z at h
      obtain ⟨hol, h⟩ := a0F h
      obtain ⟨a, ha, h⟩ := b9 h
      obtain ⟨b, hb, h⟩ := b9 h
      obtain ⟨o, ho, h⟩ := b9 h
      obtain ⟨a0, a1, a2, a3⟩ := a1P ha
      obtain ⟨b0, b1, b2, b3⟩ := a1P hb
      have hB : HasSt (HS g.Nodes.length q.1 outs s.2.2.1 td (List.set q.2.2.2 (Int.toNat i) false)) id g.Nodes.length q.1 outs s.2.2.1 0 td (List.set q.2.2.2 (Int.toNat i) false) := a6m zO zO
      generalize hSB : HS g.Nodes.length q.1 outs s.2.2.1 td (List.set q.2.2.2 (Int.toNat i) false) = SB at hB
      refine d9 ?_
      refine b8 ?_
      refine j7 rfl rfl (v6 hx) ?_
      refine oP (.int .i64 to) ?_
      refine oM (.int .i64 to) ?_
      refine b7 ?_
      refine f5 ?_
      refine b8 ?_
      refine oM (.ref 1 0 0 g.Nodes.length none) ?_
      refine oM (.int .i64 i) ?_
      refine n7 rfl rfl ⟨by omega, by omega⟩ ?_
      obtain ⟨cs1, u1, u2⟩ := hB.outAt (j := i.toNat) a1
      refine b0b rfl u1 (by simpa [g8] using u2) ?_
      refine oM (.ref 0 0 0 g.Nodes.length none) ?_
      refine oM (.int .i64 to) ?_
      refine n7 rfl rfl ⟨by omega, by omega⟩ ?_
      obtain ⟨cs0, w1, w2⟩ := hB.inAt (j := to.toNat) b1
      refine b0b rfl w1 (by simpa [g8] using w2) ?_
      obtain ⟨va, sa⟩ := hB.c6 _ _ a3
      obtain ⟨vb, sb⟩ := hB.c5 _ _ b3
      refine a3r (c3W ho sa sb (by simp [id]; omega)) rfl ?_
      refine b7 ?_
      have hC := hB.setOut (j := i.toNat) (v := va) (v' := va + 1) (t := o.2) a3
      cases h
      exact a1O rfl (hC.wkI ⟨(g7 rfl), (g7 rfl), gb, hC.r4 (Nat.le_refl _) rfl rfl rfl, hC.r5 (Nat.le_refl _) rfl rfl rfl, hC.r6 (Nat.le_refl _) rfl rfl rfl, hC.r7 (Nat.le_refl _) rfl rfl rfl rfl, hC.r12 (Nat.le_refl _) rfl rfl rfl rfl, (g7 rfl), (g7 ((g5 .i64).blws 0)), trivial⟩)
     ·refine a2Z hw ?_
      obtain ⟨hoN, h⟩ := a0F h
      obtain ⟨oi, hoi, h⟩ := b9 h
      obtain ⟨c0, hc0, h⟩ := b9 h
      obtain ⟨nd2, hnd2, h⟩ := b9 h
      obtain ⟨wr, hwr, h⟩ := b9 h
      obtain ⟨a0, a1, a2, a3⟩ := a1P hoi
      have hloN : outs.length <= g.Nodes.length := by omega
      have hB : HasSt (HS g.Nodes.length q.1 outs s.2.2.1 td (List.set q.2.2.2 (Int.toNat i) false)) id g.Nodes.length q.1 outs s.2.2.1 0 td (List.set q.2.2.2 (Int.toNat i) false) := a6m zO hloN
      have hlB : (HS g.Nodes.length q.1 outs s.2.2.1 td (List.set q.2.2.2 (Int.toNat i) false)).length = 5 + 5 * g.Nodes.length := a8W
      generalize hSB : HS g.Nodes.length q.1 outs s.2.2.1 td (List.set q.2.2.2 (Int.toNat i) false) = SB at hB hlB
      refine d9 ?_
      refine b8 ?_
      refine oM (.ref 1 0 0 g.Nodes.length none) ?_
      refine oM (.int .i64 i) ?_
      refine n7 rfl rfl ⟨by omega, by omega⟩ ?_
      obtain ⟨cs1, u1, u2⟩ := hB.outAt (j := i.toNat) a1
      refine b0b rfl u1 (by simpa [g8] using u2) ?_
      obtain ⟨va, sa⟩ := hB.c6 _ _ a3
      have eC := c0A hc0 sa zI
      rw [hlB] at eC
      refine a3r eC rfl ?_
      refine oM (.ptr (5 + 5 * g.Nodes.length) 0 0) ?_
      refine b7 ?_
      refine f5 ?_
      have sC : isS (a3j SB (5 + 5 * g.Nodes.length) (5 + 5 * g.Nodes.length + 1) 1 c0) (5 + 5 * g.Nodes.length) (5 + 5 * g.Nodes.length + 1) 1 c0 := a1Z zO
      have hC : HasSt (a3j SB (5 + 5 * g.Nodes.length) (5 + 5 * g.Nodes.length + 1) 1 c0) id g.Nodes.length q.1 outs s.2.2.1 0 td (List.set q.2.2.2 (Int.toNat i) false) := hB.ext (fun k hk => a1k zO zO)
      generalize hSC : a3j SB (5 + 5 * g.Nodes.length) (5 + 5 * g.Nodes.length + 1) 1 c0 = SC at sC hC
      refine x9 ?_
      refine d9 ?_
      refine b8 ?_
      refine oM (.cptr (b5.av g).cells 0) ?_
      refine oP (.cptr (b5.av g).cells 0) ?_
      refine oP (.cptr (b5.av g).cells 6) ?_
      refine oP (.sl false 12 (List.map g6.av g.Nodes)) ?_
      refine oM (.int .i64 i) ?_
      refine j7 rfl rfl hnd2 ?_
      refine oP (g6.av nd2) ?_
      refine j4 (a4j hwr) rfl ⟨(.refl _), trivial⟩ (i6 ⟨(g6.enc.blw _ 0), trivial⟩) ((g5 .i64).blws 0) ?_
      refine n5 rfl ?_
      refine oM (.int .i64 0) ?_
      refine b7 ?_
      refine f5 ?_
      refine d9 ?_
      refine a0j (fun _ => [(0, gR g), (4, (.ref 0 0 0 g.Nodes.length none)), (5, (.ref 1 0 0 g.Nodes.length none)), (6, (.ref 2 0 0 g.Nodes.length none)), (7, (.ref 3 0 0 (List.length td) none)), (12, (.ref 4 0 0 (List.length (List.set q.2.2.2 (Int.toNat i) false)) none)), (14, (.int .i64 i)), (17, (.ptr (5 + 5 * g.Nodes.length) 0 0)), (166, (.sl false 1 (List.map (avI .i64) wr)))]) (fun c => HT g.Nodes.length q.1 outs s.2.2.1 td (List.set q.2.2.2 (Int.toNat i) false) c) h zD zD (fun _ => ⟨rfl, rfl, rfl, rfl⟩)
       (hC.wkT sC ⟨(g7 rfl), (g7 rfl), gb, hC.r4 (Nat.le_add_right _ _) rfl (a0t zO) rfl, hC.r5 (Nat.le_add_right _ _) rfl (a0t zO) rfl, hC.r6 (Nat.le_add_right _ _) rfl (a0t zO) rfl, hC.r7 (Nat.le_add_right _ _) rfl (a0t zO) rfl rfl, hC.r12 (Nat.le_add_right _ _) rfl (a0t zO) rfl rfl, (g7 rfl), HasSt.r17 sC, (g7 ((g5 .i64).blws 0)), trivial⟩) (fun i2 p c1 c hx hlt h => ?_) (fun c1 fr' S' h hw => ?_)
      ·unfold b0i at h
       obtain ⟨d, hd, h⟩ := b9 h
       have hD : HasSt (HT g.Nodes.length q.1 outs s.2.2.1 td (List.set q.2.2.2 (Int.toNat i) false) c1) id g.Nodes.length q.1 outs s.2.2.1 0 td (List.set q.2.2.2 (Int.toNat i) false) := b6r zO hloN
       have sD : isS (HT g.Nodes.length q.1 outs s.2.2.1 td (List.set q.2.2.2 (Int.toNat i) false) c1) (5 + 5 * g.Nodes.length) (5 + 5 * g.Nodes.length + 1) 0 c1 := c1P
       generalize hSD : HT g.Nodes.length q.1 outs s.2.2.1 td (List.set q.2.2.2 (Int.toNat i) false) c1 = SD at hD sD
       refine d9 ?_
       refine b8 ?_
       refine j7 rfl rfl (v6 hx) ?_
       refine oP (.int .i64 p) ?_
       refine oM (.int .i64 p) ?_
       refine b7 ?_
       refine f5 ?_
       refine b8 ?_
       refine oM (.ptr (5 + 5 * g.Nodes.length) 0 0) ?_
       refine oM (.int .i64 p) ?_
       obtain ⟨_, eD⟩ := c2F hd sD zO
       refine a3r eD rfl ?_
       refine b7 ?_
       have sE : isS (a3j SD (5 + 5 * g.Nodes.length) (5 + 5 * g.Nodes.length + 1) (0 + 1) d) (5 + 5 * g.Nodes.length) (5 + 5 * g.Nodes.length + 1) 1 d := a1Z zO
       have hE : HasSt (a3j SD (5 + 5 * g.Nodes.length) (5 + 5 * g.Nodes.length + 1) (0 + 1) d) id g.Nodes.length q.1 outs s.2.2.1 0 td (List.set q.2.2.2 (Int.toNat i) false) := hD.ext (fun k hk => a1k zO zO)
       cases h
       exact a1O rfl (hE.wkT sE ⟨(g7 rfl), (g7 rfl), gb, hE.r4 (Nat.le_add_right _ _) rfl (a0t zO) rfl, hE.r5 (Nat.le_add_right _ _) rfl (a0t zO) rfl, hE.r6 (Nat.le_add_right _ _) rfl (a0t zO) rfl, hE.r7 (Nat.le_add_right _ _) rfl (a0t zO) rfl rfl, hE.r12 (Nat.le_add_right _ _) rfl (a0t zO) rfl rfl, (g7 rfl), HasSt.r17 sE, (g7 ((g5 .i64).blws 0)), trivial⟩)
      ·refine a2Z hw ?_
       obtain ⟨nd3, hnd3, h⟩ := b9 h
       obtain ⟨rd, hrd, h⟩ := b9 h
       have hC : HasSt (HT g.Nodes.length q.1 outs s.2.2.1 td (List.set q.2.2.2 (Int.toNat i) false) c1) id g.Nodes.length q.1 outs s.2.2.1 0 td (List.set q.2.2.2 (Int.toNat i) false) := b6r zO hloN
       have sC : isS (HT g.Nodes.length q.1 outs s.2.2.1 td (List.set q.2.2.2 (Int.toNat i) false) c1) (5 + 5 * g.Nodes.length) (5 + 5 * g.Nodes.length + 1) 0 c1 := c1P
       generalize hSD : HT g.Nodes.length q.1 outs s.2.2.1 td (List.set q.2.2.2 (Int.toNat i) false) c1 = SD at hC sC
       refine x9 ?_
       refine d9 ?_
       refine b8 ?_
       refine oM (.cptr (b5.av g).cells 0) ?_
       refine oP (.cptr (b5.av g).cells 0) ?_
       refine oP (.cptr (b5.av g).cells 6) ?_
       refine oP (.sl false 12 (List.map g6.av g.Nodes)) ?_
       refine oM (.int .i64 i) ?_
       refine j7 rfl rfl hnd3 ?_
       refine oP (g6.av nd3) ?_
       refine j4 (b1f hrd) rfl ⟨(.refl _), trivial⟩ (i6 ⟨(g6.enc.blw _ 0), trivial⟩) ((g5 .i64).blws 0) ?_
       refine n5 rfl ?_
       refine oM (.int .i64 0) ?_
       refine b7 ?_
       refine f5 ?_
       refine d9 ?_
       refine a0j (fun _ => [(0, gR g), (4, (.ref 0 0 0 g.Nodes.length none)), (5, (.ref 1 0 0 g.Nodes.length none)), (6, (.ref 2 0 0 g.Nodes.length none)), (7, (.ref 3 0 0 (List.length td) none)), (12, (.ref 4 0 0 (List.length (List.set q.2.2.2 (Int.toNat i) false)) none)), (14, (.int .i64 i)), (17, (.ptr (5 + 5 * g.Nodes.length) 0 0)), (183, (.sl false 1 (List.map (avI .i64) rd)))]) (fun c => HT g.Nodes.length q.1 outs s.2.2.1 td (List.set q.2.2.2 (Int.toNat i) false) c) h zD zD (fun _ => ⟨rfl, rfl, rfl, rfl⟩)
        (hC.wkT sC ⟨(g7 rfl), (g7 rfl), gb, hC.r4 (Nat.le_add_right _ _) rfl (a0t zO) rfl, hC.r5 (Nat.le_add_right _ _) rfl (a0t zO) rfl, hC.r6 (Nat.le_add_right _ _) rfl (a0t zO) rfl, hC.r7 (Nat.le_add_right _ _) rfl (a0t zO) rfl rfl, hC.r12 (Nat.le_add_right _ _) rfl (a0t zO) rfl rfl, (g7 rfl), HasSt.r17 sC, (g7 ((g5 .i64).blws 0)), trivial⟩) (fun i2 p c1 c hx hlt h => ?_) (fun c1 fr' S' h hw => ?_)
       ·unfold b0j at h
        obtain ⟨d, hd, h⟩ := b9 h
        have hD : HasSt (HT g.Nodes.length q.1 outs s.2.2.1 td (List.set q.2.2.2 (Int.toNat i) false) c1) id g.Nodes.length q.1 outs s.2.2.1 0 td (List.set q.2.2.2 (Int.toNat i) false) := b6r zO hloN
        have sD : isS (HT g.Nodes.length q.1 outs s.2.2.1 td (List.set q.2.2.2 (Int.toNat i) false) c1) (5 + 5 * g.Nodes.length) (5 + 5 * g.Nodes.length + 1) 0 c1 := c1P
        generalize hSE : HT g.Nodes.length q.1 outs s.2.2.1 td (List.set q.2.2.2 (Int.toNat i) false) c1 = SE at hD sD
        refine d9 ?_
        refine b8 ?_
        refine j7 rfl rfl (v6 hx) ?_
        refine oP (.int .i64 p) ?_
        refine oM (.int .i64 p) ?_
        refine b7 ?_
        refine f5 ?_
        refine b8 ?_
        refine oM (.ptr (5 + 5 * g.Nodes.length) 0 0) ?_
        refine oM (.int .i64 p) ?_
        obtain ⟨_, eD⟩ := c2G hd sD zO
        refine a3r eD rfl ?_
        refine b7 ?_
        have sE : isS (a3j SE (5 + 5 * g.Nodes.length) (5 + 5 * g.Nodes.length + 1) (0 + 1) d) (5 + 5 * g.Nodes.length) (5 + 5 * g.Nodes.length + 1) 1 d := a1Z zO
        have hE : HasSt (a3j SE (5 + 5 * g.Nodes.length) (5 + 5 * g.Nodes.length + 1) (0 + 1) d) id g.Nodes.length q.1 outs s.2.2.1 0 td (List.set q.2.2.2 (Int.toNat i) false) := hD.ext (fun k hk => a1k zO zO)
        cases h
        exact a1O rfl (hE.wkT sE ⟨(g7 rfl), (g7 rfl), gb, hE.r4 (Nat.le_add_right _ _) rfl (a0t zO) rfl, hE.r5 (Nat.le_add_right _ _) rfl (a0t zO) rfl, hE.r6 (Nat.le_add_right _ _) rfl (a0t zO) rfl, hE.r7 (Nat.le_add_right _ _) rfl (a0t zO) rfl rfl, hE.r12 (Nat.le_add_right _ _) rfl (a0t zO) rfl rfl, (g7 rfl), HasSt.r17 sE, (g7 ((g5 .i64).blws 0)), trivial⟩)
       ·refine a2Z hw ?_
        obtain ⟨ii, hii, h⟩ := b9 h
        obtain ⟨o, ho, h⟩ := b9 h
        obtain ⟨d0, d1, d2, d3⟩ := a1P hii
        have hC : HasSt (HT g.Nodes.length q.1 outs s.2.2.1 td (List.set q.2.2.2 (Int.toNat i) false) c1) id g.Nodes.length q.1 outs s.2.2.1 0 td (List.set q.2.2.2 (Int.toNat i) false) := b6r zO hloN
        have sC : isS (HT g.Nodes.length q.1 outs s.2.2.1 td (List.set q.2.2.2 (Int.toNat i) false) c1) (5 + 5 * g.Nodes.length) (5 + 5 * g.Nodes.length + 1) 0 c1 := c1P
        generalize hSD : HT g.Nodes.length q.1 outs s.2.2.1 td (List.set q.2.2.2 (Int.toNat i) false) c1 = SD at hC sC
        refine x9 ?_
        refine d9 ?_
        refine b8 ?_
        refine oM (.ref 0 0 0 g.Nodes.length none) ?_
        refine oM (.int .i64 i) ?_
        refine n7 rfl rfl ⟨by omega, by omega⟩ ?_
        obtain ⟨cs0, w1, w2⟩ := hC.inAt (j := i.toNat) d1
        refine b0b rfl w1 (by simpa [g8] using w2) ?_
        refine oM (.ptr (5 + 5 * g.Nodes.length) 0 0) ?_
        obtain ⟨vi, si⟩ := hC.c5 _ _ d3
        refine a3r (c3W ho si sC (by simp [id]; omega)) rfl ?_
        have hE := hC.setIn (j := i.toNat) (v := vi) (v' := vi + 1) (t := o.2) d3
        simp only [id] at hE ⊢
        generalize hSE : a3j SD (5 + 5 * i.toNat) (6 + 5 * i.toNat) (vi + 1) o.2 = SE at hE ⊢
        refine oP (.bool (!o.1)) ?_
        refine b7 ?_
        refine f5 ?_
        refine d9 ?_
        refine a1i (t := (!o.1)) rfl (fun hb => ?_) (fun hb => ?_)
        ·rw [b0X hb] at h
         refine w8 ?_
         refine a7N ?_
         refine b9X ?_
         cases h
         exact a1O rfl (hE.wkI ⟨gb, hE.r4 (Nat.le_refl _) rfl rfl rfl, hE.r5 (Nat.le_refl _) rfl rfl rfl, hE.r6 (Nat.le_refl _) rfl rfl rfl, hE.r7 (Nat.le_refl _) rfl rfl rfl rfl, hE.r12 (Nat.le_refl _) rfl rfl rfl rfl, trivial⟩)
        ·rw [b0Y hb] at h
         refine i7 ?_
         refine f5 ?_
         obtain ⟨bs, hbs, h⟩ := b9 h
         obtain ⟨e0, e1, e2, e4⟩ := a1P hbs
         obtain ⟨cs2, v2, g1, g2, g3, g4⟩ := hE.befAt (j := i.toNat) zO
         have ey : s.2.2.1.getD i.toNat [] = bs := by simp [List.getD_eq_getElem?_getD, e4]
         rw [ey] at g3 g4
         refine d9 ?_
         refine b8 ?_
         refine oM (.ref 2 0 0 g.Nodes.length none) ?_
         refine oM (.int .i64 i) ?_
         refine n7 rfl rfl ⟨by omega, by omega⟩ ?_
         refine b0b rfl g1 (by simpa [g8] using g3) ?_
         refine a4J rfl ?_
         refine oM (.int .i64 0) ?_
         refine b7 ?_
         refine f5 ?_
         have r9 : obF g.Nodes.length (q.1.set i.toNat o.2) outs s.2.2.1 td (List.set q.2.2.2 (Int.toNat i) false) (9 + 5 * i.toNat) = .arr 0 (flat (avI .i64) bs) := by rw [b1g, ey]
         refine a0j (xs := bs) (fun p : List Int × List Bool => [(0, gR g), (4, (.ref 0 0 0 g.Nodes.length none)), (5, (.ref 1 0 0 g.Nodes.length none)), (6, (.ref 2 0 0 g.Nodes.length none)), (7, (.ref 3 0 0 (List.length p.1) none)), (12, (.ref 4 0 0 (List.length p.2) none)), (203, (.ref (9 + 5 * i.toNat) 0 0 (List.length bs) none))]) (fun p => HS g.Nodes.length (q.1.set i.toNat o.2) outs s.2.2.1 p.1 p.2) h zD zD (fun _ => ⟨rfl, rfl, rfl, rfl⟩)
          (hE.wkI ⟨(g7 rfl), (g7 rfl), gb, hE.r4 (Nat.le_refl _) rfl rfl rfl, hE.r5 (Nat.le_refl _) rfl rfl rfl, hE.r6 (Nat.le_refl _) rfl rfl rfl, hE.r7 (Nat.le_refl _) rfl rfl rfl rfl, hE.r12 (Nat.le_refl _) rfl rfl rfl rfl, a3G zO rfl g4 r9 (by rw [(g5 .i64).length]; exact Nat.le_refl _), trivial⟩) (fun i2 b p c hx hlt h => ?_) (fun p fr' S' h hw => ?_)
         ·unfold b0k at h
          obtain ⟨y2, hy2, h⟩ := b9 h
          have hB : HasSt (HS g.Nodes.length (q.1.set i.toNat o.2) outs s.2.2.1 p.1 p.2) id g.Nodes.length (q.1.set i.toNat o.2) outs s.2.2.1 0 p.1 p.2 := a6m (by rw [List.length_set]; omega) hloN
          have e3 : hp (HS g.Nodes.length (q.1.set i.toNat o.2) outs s.2.2.1 p.1 p.2) 3 = .arr 0 (flat (avI .i64) p.1) := a4L zO
          have e9 : hp (HS g.Nodes.length (q.1.set i.toNat o.2) outs s.2.2.1 p.1 p.2) (9 + 5 * i.toNat) = .arr 0 (flat (avI .i64) bs) := by rw [a4L zO, b1g, ey]
          have f9 : ∀ l w, obF g.Nodes.length (q.1.set i.toNat o.2) outs s.2.2.1 l w (9 + 5 * i.toNat) = .arr 0 (flat (avI .i64) bs) := fun l w => by rw [b1g, ey]
          generalize hSB : HS g.Nodes.length (q.1.set i.toNat o.2) outs s.2.2.1 p.1 p.2 = SB at hB e3 e9
          refine d9 ?_
          refine b8 ?_
          refine n7 rfl rfl ⟨by omega, by omega⟩ ?_
          refine a5C (g5 .i64) (y := b) (n := i2) (fo := 0) rfl e9 zS hx rfl (.refl _) ?_
          refine oM (.int .i64 b) ?_
          refine b7 ?_
          refine f5 ?_
          refine d9 ?_
          refine b8 ?_
          refine oM (.ref 4 0 0 (List.length p.2) none) ?_
          refine oM (.int .i64 b) ?_
          refine n7 rfl rfl ⟨(i8 hy2).1, (i8 hy2).2.1⟩ ?_
          refine a5C a8R rfl hB.c4 zA (i8 hy2).2.2 rfl (.refl _) ?_
          refine oP (.bool (!y2)) ?_
          refine b7 ?_
          refine f5 ?_
          refine a1i (t := (!y2)) rfl (fun hb2 => ?_) (fun hb2 => ?_)
          ·rw [b0X hb2] at h
           refine b8 ?_
           refine oM (.ref 4 0 0 (List.length p.2) none) ?_
           refine oM (.int .i64 b) ?_
           refine oM (.ref 3 0 0 (List.length p.1) none) ?_
           refine oM (.int .i64 b) ?_
           refine t8 (v' := (.sl true 1 (List.map (avI .i64) [b]))) rfl (.refl _) rfl ?_
           obtain ⟨l, hl, h⟩ := b9 h
           refine a5D (S' := p8 SB 3 (.arr 1 (flat (avI .i64) l))) (g5 .i64) rfl (a4b [b]) e3 hl rfl ?_
           refine oM (.ref 3 1 0 (List.length l) none) ?_
           obtain ⟨y3, hy3, h⟩ := b9 h
           have hC1 := hB.setTodo (v := 1) (todo' := l)
           refine n7 rfl rfl ⟨(i8 hy3).1, (i8 hy3).2.1⟩ ?_
           refine b1a (y := y3) (y' := true) (S' := p8 (p8 SB 3 (.arr 1 (flat (avI .i64) l))) 4 (.arr 0 (flat avB (List.set p.2 (Int.toNat b) true)))) a8R rfl rfl hC1.c4 zA (i8 hy3).2.2 rfl rfl nB rfl rfl ?_
           refine b7 ?_
           have hC := hC1.setWaits (waits' := List.set p.2 (Int.toNat b) true)
           have e9' : hp (p8 (p8 SB 3 (.arr 1 (flat (avI .i64) l))) 4 (.arr 0 (flat avB (List.set p.2 (Int.toNat b) true)))) (9 + 5 * i.toNat) = .arr 0 (flat (avI .i64) bs) := by rw [o8, a1A zO, o8, a1A zO]; exact e9
           cases h
           exact a1O rfl (hC.wkI ⟨(g7 rfl), (g7 rfl), gb, hC.r4 (Nat.le_refl _) rfl rfl rfl, hC.r5 (Nat.le_refl _) rfl rfl rfl, hC.r6 (Nat.le_refl _) rfl rfl rfl, hC.r7 (Nat.le_refl _) rfl rfl rfl rfl, hC.r12 (Nat.le_refl _) rfl rfl (by rw [List.length_set]) rfl, a3G zO rfl e9' (f9 _ _) (by rw [(g5 .i64).length]; exact Nat.le_refl _), trivial⟩)
          ·rw [b0Y hb2] at h
           refine i7 ?_
           cases h
           exact a1O rfl (hB.wkI ⟨(g7 rfl), (g7 rfl), gb, hB.r4 (Nat.le_refl _) rfl rfl rfl, hB.r5 (Nat.le_refl _) rfl rfl rfl, hB.r6 (Nat.le_refl _) rfl rfl rfl, hB.r7 (Nat.le_refl _) rfl rfl rfl rfl, hB.r12 (Nat.le_refl _) rfl rfl rfl rfl, a3G zO rfl e9 (f9 _ _) (by rw [(g5 .i64).length]; exact Nat.le_refl _), trivial⟩)
         ·refine a0m ?_
          have hQ : HasSt (HS g.Nodes.length (q.1.set i.toNat o.2) outs s.2.2.1 p.1 p.2) id g.Nodes.length (q.1.set i.toNat o.2) outs s.2.2.1 0 p.1 p.2 := a6m (by rw [List.length_set]; omega) hloN
          cases h
          exact b9D rfl hw (hQ.wkI ⟨gb, hQ.r4 (Nat.le_refl _) rfl rfl rfl, hQ.r5 (Nat.le_refl _) rfl rfl rfl, hQ.r6 (Nat.le_refl _) rfl rfl rfl, hQ.r7 (Nat.le_refl _) rfl rfl rfl rfl, hQ.r12 (Nat.le_refl _) rfl rfl rfl rfl, trivial⟩)
    ·rw [b0Y hb] at h
     refine w8 ?_
     refine a7N ?_
     cases h
     have hQ := h0
     exact c1L rfl rfl rfl (hQ.wkI ⟨gb, hQ.r4 (Nat.le_refl _) rfl rfl rfl, hQ.r5 (Nat.le_refl _) rfl rfl rfl, hQ.r6 (Nat.le_refl _) rfl rfl rfl, hQ.r7 (Nat.le_refl _) rfl rfl rfl rfl, hQ.r12 (Nat.le_refl _) rfl rfl rfl rfl, trivial⟩)
   ·refine a2Z hw ?_
    obtain ⟨⟨li, lo⟩, h⟩ := a0F h
    have hQ : HasSt (HS g.Nodes.length q.1 q.2.1 s.2.2.1 q.2.2.1 q.2.2.2) id g.Nodes.length q.1 q.2.1 s.2.2.1 0 q.2.2.1 q.2.2.2 := a6m zO zO
    refine d9 ?_
    refine b8 ?_
    refine oM (.ref 0 0 0 g.Nodes.length none) ?_
    refine oM (.ref 1 0 0 g.Nodes.length none) ?_
    refine oM (.ref 0 0 0 g.Nodes.length none) ?_
    refine oM (.ref 1 0 0 g.Nodes.length none) ?_
    refine b7 ?_
    refine f5 ?_
    refine j5 ?_
    cases h
    exact ⟨trivial, _, rfl, c0y hQ li lo⟩
def a1s (fuel : Nat) (g : b5) : Option (List (Option d7) × List (Option d7)) := (a1D fuel g).map fun r => (r.1.map some, r.2.map some)
theorem a5l {fuel : Nat} {g : b5} {r : List (Option d7) × List (Option d7)} (h : a1s fuel g = some r) : m5 Tryd.prog 52 [(.cptr (b5.av g).cells 0)] (.tup [(.sl false 1 (List.map (avP d7.av) r.1)), (.sl false 1 (List.map (avP d7.av) r.2))]) := by
 unfold a1s at h
 obtain ⟨r0, h0, rfl⟩ := Option.map_eq_some_iff.1 h
 exact a7T h0
end
end Go.Proofs.YtepdcebjobjjgaaDoor

