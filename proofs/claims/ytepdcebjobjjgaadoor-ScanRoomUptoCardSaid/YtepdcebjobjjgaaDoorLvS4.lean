/- The sets of live.solve: the functions of bits on any heap. -/
import Derived.Test.YtepdcebjobjjgaaDoorWlTz
import Derived.Test.YtepdcebjobjjgaaDoorGenB
set_option linter.unusedVariables false
set_option linter.unusedSimpArgs false
namespace Go.Proofs.YtepdcebjobjjgaaDoor
open Go Go.Ab
def isS (S : List Ob) (p pw v : Nat) (s : d7) : Prop :=
 hp S p = .arr 0 [.int .i64 s.n, .ref pw v 0 (List.length s.words) none] ∧ hp S pw = .arr v (flat (avI .u64) s.words)
def a2Y (S : List Ob) (p pw v : Nat) (s : d7) : List Ob :=
 n8 (n8 S p (.arr 0 [.int .i64 s.n, .ref pw v 0 (List.length s.words) none])) pw (.arr v (flat (avI .u64) s.words))
section
variable {S : List Ob} {p pw q qw v v' : Nat} {s t : d7}
theorem a1e {i : Nat} (h1 : i ≠ p) (h2 : i ≠ pw) : hp (a2Y S p pw v s) i = hp S i := by
 simp only [a2Y, n7]; rw [a1u h2, a1u h1]
theorem a1Q (h : p ≠ pw) : isS (a2Y S p pw v s) p pw v s := by
 simp only [isS, a2Y, n7]
 exact ⟨by rw [a1u h, a3U], a3U⟩
theorem b7f (h : isS S p pw v s) : p < S.length ∧ pw < S.length := ⟨a6a h.1, a6a h.2⟩
theorem a8L (h : isS S p pw v s) {v' : Nat} {t : d7} : (a2Y S p pw v' t).length = S.length := by
 have := b7f h
 simp only [a2Y]
 rw [a1v _ _ _ (by rw [a1v _ _ _ zO]; omega), a1v _ _ _ zO]
 omega
theorem a4I : (a2Y S S.length (S.length + 1) v s).length = S.length + 2 := by
 simp only [a2Y]
 rw [a1v _ _ _ (by rw [a1v _ _ _ (Nat.le_refl _)]; omega), a1v _ _ _ (Nat.le_refl _)]
 omega
theorem x7 {S' : List Ob} (h : isS S p pw v s) (h1 : hp S' p = hp S p) (h2 : hp S' pw = hp S pw) : isS S' p pw v s := by
 unfold isS; rw [h1, h2]; exact h
theorem b3V {M : List Nat} {T : List Ob} {o o' O' v0 V : Nat} {n : Int} {k : Nat} {cs CS : List AV} (h : hp S (M.getD o 0) = .arr 0 [.int .i64 n, .ref O' V 0 k none]) (h1 : Nat.blt o' T.length = true) (h2 : M.getD o' 0 = O') (h3 : hp S O' = .arr V CS) (h4 : hp T o' = .arr v0 cs) :
  FrIn M T S o (.arr 0 [.int .i64 n, .ref o' v0 0 k none]) :=
 a0e h rfl (cB rfl (.cons (a3T h1 h2 h3 h4) nL))
theorem a7a {M : List Nat} {T T' S' : List Ob} {o' O' v0 V : Nat} {n : Int} {k : Nat} {cs CS : List AV} (h1 : Nat.blt o' T'.length = true) (h2 : frN M T S o' = O') (h3 : hp T' o' = .arr v0 cs) (h4 : hp S' O' = .arr V CS) :
  RnL (frO M T T' S S') 0 [.int .i64 n, .ref o' v0 0 k none] [.int .i64 n, .ref O' V 0 k none] := cB rfl (.cons (a2P h1 h2 h3 h4) nL)

theorem b9P {i : Int} {r} (h : w6 s.n s.words i = some r) (hs : isS S p pw v s) (hne : p ≠ pw) :
  Ev Tryd.prog 69 [.ptr p 0 0, .int .i64 i] (hp S) (.bool r.1) (hp (a2Y S p pw (v + 1) ⟨r.2.1, r.2.2⟩)) := by
 have hk := a1Q (S := S) (v := v + 1) (s := ⟨r.2.1, r.2.2⟩) hne
 refine (a4H h).frame [p, pw] rfl (by simp [hne]) (Nat.le_refl _) (by rw [a8L hs]; rfl)
  ⟨b3V hs.1 rfl rfl hs.2 rfl, a0e hs.2 rfl (.refl ((d8 .u64).blwf 0 _)), trivial⟩
  ⟨m0 hk.1 rfl (a7a rfl rfl rfl hk.2) hs.1 rfl, b1C hk.2 rfl (.refl ((d8 .u64).blwf 0 _)) hs.2 (by simp [Nat.blt_eq]), trivial⟩
  (fun j hj hm => ?_) rfl (.cons (w4 rfl rfl hs.1 rfl) (cB rfl nL)) (c9 rfl)
 simp only [List.mem_cons, List.not_mem_nil, or_false, not_or] at hm
 exact a1e hm.1 hm.2
theorem b9Q {i : Int} {r} (h : o8 s.n s.words i = some r) (hs : isS S p pw v s) (hne : p ≠ pw) :
  Ev Tryd.prog 71 [.ptr p 0 0, .int .i64 i] (hp S) (.bool r.1) (hp (a2Y S p pw (v + 1) ⟨r.2.1, r.2.2⟩)) := by
 have hk := a1Q (S := S) (v := v + 1) (s := ⟨r.2.1, r.2.2⟩) hne
 refine (a2i h).frame [p, pw] rfl (by simp [hne]) (Nat.le_refl _) (by rw [a8L hs]; rfl)
  ⟨b3V hs.1 rfl rfl hs.2 rfl, a0e hs.2 rfl (.refl ((d8 .u64).blwf 0 _)), trivial⟩
  ⟨m0 hk.1 rfl (a7a rfl rfl rfl hk.2) hs.1 rfl, b1C hk.2 rfl (.refl ((d8 .u64).blwf 0 _)) hs.2 (by simp [Nat.blt_eq]), trivial⟩
  (fun j hj hm => ?_) rfl (.cons (w4 rfl rfl hs.1 rfl) (cB rfl nL)) (c9 rfl)
 simp only [List.mem_cons, List.not_mem_nil, or_false, not_or] at hm
 exact a1e hm.1 hm.2
theorem c2z {fuel : Nat} {r} {vq : Nat} (h : y7 fuel s.n s.words t.n t.words = some r) (hn : r.2.2.2 = t.n) (hs : isS S p pw v s) (ht : isS S q qw vq t) (hnd : [p, pw, q, qw].Nodup) :
  Ev Tryd.prog 67 [.ptr p 0 0, .ptr q 0 0] (hp S) (.bool r.1) (hp (a2Y S p pw (v + 1) ⟨r.2.1, r.2.2.1⟩)) := by
 have hd := hnd
 simp only [List.nodup_cons, List.mem_cons, List.not_mem_nil, or_false, not_or, not_false_eq_true, List.nodup_nil, and_true] at hd
 obtain ⟨⟨d1, d2, d3⟩, ⟨d4, d5⟩, d6⟩ := hd
 have hk := a1Q (S := S) (v := v + 1) (s := ⟨r.2.1, r.2.2.1⟩) d1
 have hk2 : isS (a2Y S p pw (v + 1) ⟨r.2.1, r.2.2.1⟩) q qw vq t := x7 ht (a1e (Ne.symm d2) (Ne.symm d4)) (a1e (Ne.symm d3) (Ne.symm d5))
 have e := a3z h
 rw [hn] at e
 refine e.frame [p, pw, q, qw] rfl hnd (Nat.le_refl _) (by rw [a8L hs]; rfl)
  ⟨b3V hs.1 rfl rfl hs.2 rfl, a0e hs.2 rfl (.refl ((d8 .u64).blwf 0 _)), b3V ht.1 rfl rfl ht.2 rfl, a0e ht.2 rfl (.refl ((d8 .u64).blwf 0 _)), trivial⟩
  ⟨m0 hk.1 rfl (a7a rfl rfl rfl hk.2) hs.1 rfl, b1C hk.2 rfl (.refl ((d8 .u64).blwf 0 _)) hs.2 (by simp [Nat.blt_eq]), m0 hk2.1 rfl (a7a rfl rfl rfl hk2.2) ht.1 rfl, m0 hk2.2 rfl (.refl ((d8 .u64).blwf 0 _)) ht.2 rfl, trivial⟩
  (fun j hj hm => ?_) rfl (.cons (w4 rfl rfl hs.1 rfl) (.cons (w4 rfl rfl ht.1 rfl) nL)) (c9 rfl)
 simp only [List.mem_cons, List.not_mem_nil, or_false, not_or] at hm
 exact a1e hm.1 hm.2.1
theorem b8a {r} (h : y8 s.n s.words = some r) (hn : r.1 = s.n) (hs : isS S p pw v s) (hne : p ≠ pw) :
  Ev Tryd.prog 68 [.ptr p 0 0] (hp S) (.ptr S.length 0 0) (hp (a2Y S S.length (S.length + 1) 1 ⟨r.2.1, r.2.2⟩)) := by
 have hl := b7f hs
 have hk := a1Q (S := S) (p := S.length) (pw := S.length + 1) (v := 1) (s := ⟨r.2.1, r.2.2⟩) zO
 have hk2 : isS (a2Y S S.length (S.length + 1) 1 ⟨r.2.1, r.2.2⟩) p pw v s := x7 hs (a1e zO zO) (a1e zO zO)
 have e := a3A h
 rw [hn] at e
 have e2 : ∀ T : List Ob, T.length = 2 → frN [p, pw] T S 2 = S.length := fun T hT => by simp [frN, hT]
 have e3 : ∀ T : List Ob, T.length = 2 → frN [p, pw] T S 3 = S.length + 1 := fun T hT => by simp [frN, hT]
 refine e.frame [p, pw] rfl (by simp [hne]) zS (by rw [a4I]; rfl)
  ⟨b3V hs.1 rfl rfl hs.2 rfl, a0e hs.2 rfl (.refl ((d8 .u64).blwf 0 _)), trivial⟩
  ⟨m0 hk2.1 rfl (a7a rfl rfl rfl hk2.2) hs.1 rfl, m0 hk2.2 rfl (.refl ((d8 .u64).blwf 0 _)) hs.2 rfl,
   fr_outN (CS' := [.int .i64 r.2.1, .ref (S.length + 1) 1 0 (List.length r.2.2) none]) (by rw [e2 _ rfl]; exact hk.1) rfl (a7a rfl (e3 _ rfl) rfl hk.2) rfl, fr_outN (by rw [e3 _ rfl]; exact hk.2) rfl (.refl ((d8 .u64).blwf 0 _)) rfl, trivial⟩
  (fun j hj hm => ?_) rfl (.cons (w4 rfl rfl hs.1 rfl) nL) (b6W rfl (e2 _ rfl) rfl hk.1)
 exact a1e zO zO
theorem b9R {n : Int} {r} (h : a1K n = some r) :
  Ev Tryd.prog 66 [.int .i64 n] (hp S) (.ptr S.length 0 0) (hp (a2Y S S.length (S.length + 1) 1 ⟨r.1, r.2⟩)) := by
 have hk := a1Q (S := S) (p := S.length) (pw := S.length + 1) (v := 1) (s := ⟨r.1, r.2⟩) zO
 have e2 : frN [] [] S 0 = S.length := by simp [frN]
 have e3 : frN [] [] S 1 = S.length + 1 := by simp [frN]
 refine (a8K h).frame [] rfl zS (Nat.zero_le _) (by rw [a4I]; rfl)
  trivial
  ⟨fr_outN (CS' := [.int .i64 r.1, .ref (S.length + 1) 1 0 (List.length r.2) none]) (by rw [e2]; exact hk.1) rfl (a7a rfl e3 rfl hk.2) rfl, fr_outN (by rw [e3]; exact hk.2) rfl (.refl ((d8 .u64).blwf 0 _)) rfl, trivial⟩
  (fun j hj hm => a1e zO zO) rfl (cB rfl nL) (b6W rfl e2 rfl hk.1)
end
end Go.Proofs.YtepdcebjobjjgaaDoor

/- The heap of live.solve: lists of pointers to sets, lists of lists, two lists; every set and every inner list has its own objects. -/
namespace Go.Proofs.YtepdcebjobjjgaaDoor
open Go Go.Ab
def a3m (s : Option d7) (pw : Nat) : Ob := match s with | some s => .arr 0 [.int .i64 s.n, .ref pw 0 0 (List.length s.words) none] | none => .arr 0 []
def a4J (s : Option d7) : Ob := match s with | some s => .arr 0 (flat (avI .u64) s.words) | none => .arr 0 []
def c2A (ins outs : List d7) (bef : List (List Int)) (j c : Nat) : Ob :=
 match c with
 | 0 => a3m ins[j]? (6 + 5 * j)
 | 1 => a4J ins[j]?
 | 2 => a3m outs[j]? (8 + 5 * j)
 | 3 => a4J outs[j]?
 | _ => .arr 0 (flat (avI .i64) (bef.getD j []))
def a7C (N k b : Nat) : List AV := (List.range N).map fun j => if j < k then .ptr (b + 5 * j) 0 0 else .junk
def b8b (N : Nat) (bef : List (List Int)) : List AV := (List.range N).map fun j => .ref (9 + 5 * j) 0 0 (bef.getD j []).length none
def obF (N : Nat) (ins outs : List d7) (bef : List (List Int)) (todo : List Int) (waits : List Bool) : Nat → Ob
 | 0 => .arr 0 (a7C N ins.length 5)
 | 1 => .arr 0 (a7C N outs.length 7)
 | 2 => .arr 0 (b8b N bef)
 | 3 => .arr 0 (flat (avI .i64) todo)
 | 4 => .arr 0 (flat avB waits)
 | i + 5 => c2A ins outs bef (i / 5) (i % 5)
section
variable {N : Nat} {ins outs : List d7} {bef : List (List Int)} {todo : List Int} {waits : List Bool}
theorem b2y {j c : Nat} (hc : c < 5) : obF N ins outs bef todo waits (5 + c + 5 * j) = c2A ins outs bef j c := by
 rw [show 5 + c + 5 * j = (5 * j + c) + 5 by omega]
 show c2A ins outs bef ((5 * j + c) / 5) ((5 * j + c) % 5) = _
 rw [show (5 * j + c) / 5 = j by omega, show (5 * j + c) % 5 = c by omega]
theorem b3W {j : Nat} : obF N ins outs bef todo waits (5 + 5 * j) = a3m ins[j]? (6 + 5 * j) := b2y (c := 0) zO
theorem b3X {j : Nat} : obF N ins outs bef todo waits (6 + 5 * j) = a4J ins[j]? := b2y (c := 1) zO
theorem b3Y {j : Nat} : obF N ins outs bef todo waits (7 + 5 * j) = a3m outs[j]? (8 + 5 * j) := b2y (c := 2) zO
theorem b3Z {j : Nat} : obF N ins outs bef todo waits (8 + 5 * j) = a4J outs[j]? := b2y (c := 3) zO
theorem b0P {j : Nat} : obF N ins outs bef todo waits (9 + 5 * j) = .arr 0 (flat (avI .i64) (bef.getD j [])) := b2y (c := 4) zO
theorem a0M {k b : Nat} : (a7C N k b).length = N := by simp [a7C]
theorem a9R {k b j : Nat} (hj : j < N) (hk : j < k) : (a7C N k b)[j]? = some (.ptr (b + 5 * j) 0 0) := by simp [a7C, hj, hk]
theorem a3n : (b8b N bef).length = N := by simp [b8b]
theorem b5V {j : Nat} (hj : j < N) : (b8b N bef)[j]? = some (.ref (9 + 5 * j) 0 0 (bef.getD j []).length none) := by simp [b8b, hj]
theorem a5T (s : Option d7) (pw : Nat) : ∃ cs, a3m s pw = .arr 0 cs := by cases s <;> exact ⟨_, rfl⟩
theorem a7b (s : Option d7) : ∃ cs, a4J s = .arr 0 cs := by cases s <;> exact ⟨_, rfl⟩
end
structure HasSt (S : List Ob) (m : Nat → Nat) (N : Nat) (ins outs : List d7) (bef : List (List Int)) (v3 : Nat) (todo : List Int) (waits : List Bool) : Prop where
 c0 : ∃ cs, hp S (m 0) = .arr 0 cs ∧ cs.length = N ∧ ∀ j, j < ins.length → cs[j]? = some (.ptr (m (5 + 5 * j)) 0 0)
 c1 : ∃ cs, hp S (m 1) = .arr 0 cs ∧ cs.length = N ∧ ∀ j, j < outs.length → cs[j]? = some (.ptr (m (7 + 5 * j)) 0 0)
 c2 : ∃ cs, hp S (m 2) = .arr 0 cs ∧ cs.length = N ∧ ∀ j, j < N → ∃ v, cs[j]? = some (.ref (m (9 + 5 * j)) v 0 (bef.getD j []).length none) ∧ hp S (m (9 + 5 * j)) = .arr v (flat (avI .i64) (bef.getD j []))
 c3 : ∃ x, hp S (m 3) = .arr v3 (flat (avI .i64) todo ++ x)
 c4 : hp S (m 4) = .arr 0 (flat avB waits)
 c5 : ∀ j s, ins[j]? = some s → ∃ v, isS S (m (5 + 5 * j)) (m (6 + 5 * j)) v s
 c6 : ∀ j s, outs[j]? = some s → ∃ v, isS S (m (7 + 5 * j)) (m (8 + 5 * j)) v s
 c7 : ∀ j, ins.length ≤ j → j < N → (∃ v cs, hp S (m (5 + 5 * j)) = .arr v cs) ∧ ∃ v cs, hp S (m (6 + 5 * j)) = .arr v cs
 c8 : ∀ j, outs.length ≤ j → j < N → (∃ v cs, hp S (m (7 + 5 * j)) = .arr v cs) ∧ ∃ v cs, hp S (m (8 + 5 * j)) = .arr v cs
 li : ins.length ≤ N
 lo : outs.length ≤ N
section
variable {S : List Ob} {m : Nat → Nat} {m' : Nat → Option Nat} {n N v3 : Nat} {ins outs : List d7} {bef : List (List Int)} {todo : List Int} {waits : List Bool} {f : Nat → Ob}
theorem HasSt.ok (h : HasSt S m N ins outs bef v3 todo waits) (hn : 5 + 5 * N ≤ n) (hm : ∀ i, i < 5 + 5 * N → m' i = some (m i)) (hf : ∀ i, i < 5 + 5 * N → f i = obF N ins outs bef todo waits i) :
  ∀ i, i < 5 + 5 * N → b7e n m' S f i := by
 intro i hi
 match i, hi with
 | 0, hi =>
   obtain ⟨cs, h1, h2, h3⟩ := h.c0
   refine a0B (hm 0 hi) h1 (hf 0 hi) (a4G (by rw [a0M]; omega) (fun j a b => ?_))
   have hj : j < N := by rw [a0M] at b; exact b
   simp only [a7C, List.getElem_map, List.getElem_range]
   split
   ·rename_i hk
    have e := h3 j hk
    rw [List.getElem?_eq_getElem a] at e
    rw [Option.some.inj e]
    obtain ⟨s, hs⟩ : ∃ s, ins[j]? = some s := ⟨_, List.getElem?_eq_getElem hk⟩
    obtain ⟨v, q⟩ := h.c5 j s hs
    exact b3S zO (hm _ zO) q.1 (by rw [hf _ zO, b3W, hs]; rfl)
   ·exact .junk _
 | 1, hi =>
   obtain ⟨cs, h1, h2, h3⟩ := h.c1
   refine a0B (hm 1 hi) h1 (hf 1 hi) (a4G (by rw [a0M]; omega) (fun j a b => ?_))
   have hj : j < N := by rw [a0M] at b; exact b
   simp only [a7C, List.getElem_map, List.getElem_range]
   split
   ·rename_i hk
    have e := h3 j hk
    rw [List.getElem?_eq_getElem a] at e
    rw [Option.some.inj e]
    obtain ⟨s, hs⟩ : ∃ s, outs[j]? = some s := ⟨_, List.getElem?_eq_getElem hk⟩
    obtain ⟨v, q⟩ := h.c6 j s hs
    exact b3S zO (hm _ zO) q.1 (by rw [hf _ zO, b3Y, hs]; rfl)
   ·exact .junk _
 | 2, hi =>
   obtain ⟨cs, h1, h2, h3⟩ := h.c2
   refine a0B (hm 2 hi) h1 (hf 2 hi) (a4G (by rw [a3n]; omega) (fun j a b => ?_))
   have hj : j < N := by rw [a3n] at b; exact b
   simp only [b8b, List.getElem_map, List.getElem_range]
   obtain ⟨v, e, q⟩ := h3 j hj
   rw [List.getElem?_eq_getElem a] at e
   rw [Option.some.inj e]
   exact a3w zO (hm _ zO) q (by rw [hf _ zO, b0P]) (by rw [(d8 .i64).length]; exact Nat.le_refl _)
 | 3, hi =>
   obtain ⟨x, h1⟩ := h.c3
   refine a0B (hm 3 hi) h1 (hf 3 hi) (a4G zS (fun j a b => ?_))
   rw [List.getElem_append_left b]
   exact c9 (a1h ((d8 .i64).blwf 0 _) j b)
 | 4, hi => exact a0B (hm 4 hi) h.c4 (hf 4 hi) (.refl (a8C.blwf 0 _))
 | i + 5, hi =>
   obtain ⟨j, c, hc, rfl⟩ : ∃ j c, c < 5 ∧ i = c + 5 * j := ⟨i / 5, i % 5, by omega, by omega⟩
   have hj : j < N := by omega
   match c, hc with
   | 0, _ =>
     rw [show 0 + 5 * j + 5 = 5 + 5 * j by omega] at hi ⊢
     cases e : ins[j]? with
     | some s =>
       obtain ⟨v, q⟩ := h.c5 j s e
       exact a0B (hm _ hi) q.1 (by rw [hf _ hi, b3W, e]; rfl) (cB rfl (.cons (a3w zO (hm _ zO) q.2 (by rw [hf _ zO, b3X, e]; rfl) (by rw [(d8 .u64).length]; exact Nat.le_refl _)) nL))
     | none =>
       obtain ⟨⟨v, cs, q⟩, _⟩ := h.c7 j (by simpa using e) hj
       exact a0B (hm _ hi) q (by rw [hf _ hi, b3W, e]; rfl) nL
   | 1, _ =>
     rw [show 1 + 5 * j + 5 = 6 + 5 * j by omega] at hi ⊢
     cases e : ins[j]? with
     | some s =>
       obtain ⟨v, q⟩ := h.c5 j s e
       exact a0B (hm _ hi) q.2 (by rw [hf _ hi, b3X, e]; rfl) (.refl ((d8 .u64).blwf 0 _))
     | none =>
       obtain ⟨_, v, cs, q⟩ := h.c7 j (by simpa using e) hj
       exact a0B (hm _ hi) q (by rw [hf _ hi, b3X, e]; rfl) nL
   | 2, _ =>
     rw [show 2 + 5 * j + 5 = 7 + 5 * j by omega] at hi ⊢
     cases e : outs[j]? with
     | some s =>
       obtain ⟨v, q⟩ := h.c6 j s e
       exact a0B (hm _ hi) q.1 (by rw [hf _ hi, b3Y, e]; rfl) (cB rfl (.cons (a3w zO (hm _ zO) q.2 (by rw [hf _ zO, b3Z, e]; rfl) (by rw [(d8 .u64).length]; exact Nat.le_refl _)) nL))
     | none =>
       obtain ⟨⟨v, cs, q⟩, _⟩ := h.c8 j (by simpa using e) hj
       exact a0B (hm _ hi) q (by rw [hf _ hi, b3Y, e]; rfl) nL
   | 3, _ =>
     rw [show 3 + 5 * j + 5 = 8 + 5 * j by omega] at hi ⊢
     cases e : outs[j]? with
     | some s =>
       obtain ⟨v, q⟩ := h.c6 j s e
       exact a0B (hm _ hi) q.2 (by rw [hf _ hi, b3Z, e]; rfl) (.refl ((d8 .u64).blwf 0 _))
     | none =>
       obtain ⟨_, v, cs, q⟩ := h.c8 j (by simpa using e) hj
       exact a0B (hm _ hi) q (by rw [hf _ hi, b3Z, e]; rfl) nL
   | 4, _ =>
     rw [show 4 + 5 * j + 5 = 9 + 5 * j by omega] at hi ⊢
     obtain ⟨cs, h1, h2, h3⟩ := h.c2
     obtain ⟨v, _, q⟩ := h3 j hj
     exact a0B (hm _ hi) q (by rw [hf _ hi, b0P]) (.refl ((d8 .i64).blwf 0 _))
theorem b1I (hn : 5 + 5 * N ≤ n) (hf : ∀ i, i < 5 + 5 * N → f i = obF N ins outs bef todo waits i) (li : ins.length ≤ N) (lo : outs.length ≤ N) : HasSt (ofF n f) id N ins outs bef 0 todo waits := by
 have H : ∀ i, i < 5 + 5 * N → hp (ofF n f) i = obF N ins outs bef todo waits i := fun i hi => by rw [a4y zO, hf i hi]
 refine ⟨⟨_, H 0 zO, a0M, fun j hj => a9R zO hj⟩, ⟨_, H 1 zO, a0M, fun j hj => a9R zO hj⟩,
  ⟨_, H 2 zO, a3n, fun j hj => ⟨0, b5V hj, (H (9 + 5 * j) zO).trans b0P⟩⟩, ⟨[], by rw [List.append_nil]; exact H 3 zO⟩, H 4 zO, fun j s hs => ⟨0, ?_, ?_⟩, fun j s hs => ⟨0, ?_, ?_⟩, fun j h1 h2 => ⟨⟨0, ?_⟩, 0, ?_⟩, fun j h1 h2 => ⟨⟨0, ?_⟩, 0, ?_⟩, li, lo⟩
 ·have : j < ins.length := (List.getElem?_eq_some_iff.1 hs).1
  exact (H (5 + 5 * j) zO).trans (by rw [b3W, hs]; rfl)
 ·have : j < ins.length := (List.getElem?_eq_some_iff.1 hs).1
  exact (H (6 + 5 * j) zO).trans (by rw [b3X, hs]; rfl)
 ·have : j < outs.length := (List.getElem?_eq_some_iff.1 hs).1
  exact (H (7 + 5 * j) zO).trans (by rw [b3Y, hs]; rfl)
 ·have : j < outs.length := (List.getElem?_eq_some_iff.1 hs).1
  exact (H (8 + 5 * j) zO).trans (by rw [b3Z, hs]; rfl)
 ·obtain ⟨cs, e⟩ := a5T ins[j]? (6 + 5 * j); exact ⟨cs, ((H (5 + 5 * j) zO).trans b3W).trans e⟩
 ·obtain ⟨cs, e⟩ := a7b ins[j]?; exact ⟨cs, ((H (6 + 5 * j) zO).trans b3X).trans e⟩
 ·obtain ⟨cs, e⟩ := a5T outs[j]? (8 + 5 * j); exact ⟨cs, ((H (7 + 5 * j) zO).trans b3Y).trans e⟩
 ·obtain ⟨cs, e⟩ := a7b outs[j]?; exact ⟨cs, ((H (8 + 5 * j) zO).trans b3Z).trans e⟩
theorem HasSt.ext {S' : List Ob} (h : HasSt S id N ins outs bef v3 todo waits) (he : ∀ i, i < 5 + 5 * N → hp S' i = hp S i) : HasSt S' id N ins outs bef v3 todo waits := by
 have hli := h.li; have hlo := h.lo
 have e0 := he 0 zO
 have e1 := he 1 zO
 have e2 := he 2 zO
 have e3 := he 3 zO
 have e4 := he 4 zO
 refine ⟨by rw [id, e0]; exact h.c0, by rw [id, e1]; exact h.c1, ?_, by rw [id, e3]; exact h.c3, by rw [id, e4]; exact h.c4, fun j s hs => ?_, fun j s hs => ?_, fun j a b => ?_, fun j a b => ?_, h.li, h.lo⟩
 ·obtain ⟨cs, h1, h2, h3⟩ := h.c2
  refine ⟨cs, by rw [id, e2]; exact h1, h2, fun j hj => ?_⟩
  obtain ⟨v, q1, q2⟩ := h3 j hj
  exact ⟨v, q1, by rw [id, he _ zO]; exact q2⟩
 ·have : j < ins.length := (List.getElem?_eq_some_iff.1 hs).1
  obtain ⟨v, q⟩ := h.c5 j s hs
  exact ⟨v, x7 q (he _ zI) (he _ zI)⟩
 ·have : j < outs.length := (List.getElem?_eq_some_iff.1 hs).1
  obtain ⟨v, q⟩ := h.c6 j s hs
  exact ⟨v, x7 q (he _ zI) (he _ zI)⟩
 ·have := h.c7 j a b
  simp only [id] at this ⊢
  rw [he _ zO, he _ zO]; exact this
 ·have := h.c8 j a b
  simp only [id] at this ⊢
  rw [he _ zO, he _ zO]; exact this
theorem HasSt.inAt (h : HasSt S id N ins outs bef v3 todo waits) {j : Nat} (hj : j < ins.length) : ∃ cs, hp S 0 = .arr 0 cs ∧ a0I none cs j = some (.ptr (5 + 5 * j) 0 0) := by
 obtain ⟨cs, h1, h2, h3⟩ := h.c0
 have := h.li
 refine ⟨cs, h1, ?_⟩
 simp only [a0I]
 rw [if_pos zO, List.getD_eq_getElem?_getD, h3 j hj]; rfl
theorem HasSt.outAt (h : HasSt S id N ins outs bef v3 todo waits) {j : Nat} (hj : j < outs.length) : ∃ cs, hp S 1 = .arr 0 cs ∧ a0I none cs j = some (.ptr (7 + 5 * j) 0 0) := by
 obtain ⟨cs, h1, h2, h3⟩ := h.c1
 have := h.lo
 refine ⟨cs, h1, ?_⟩
 simp only [a0I]
 rw [if_pos zO, List.getD_eq_getElem?_getD, h3 j hj]; rfl
theorem HasSt.befAt (h : HasSt S id N ins outs bef v3 todo waits) {j : Nat} (hj : j < N) : ∃ cs v, hp S 2 = .arr 0 cs ∧ cs.length = N ∧ a0I none cs j = some (.ref (9 + 5 * j) v 0 (bef.getD j []).length none) ∧ hp S (9 + 5 * j) = .arr v (flat (avI .i64) (bef.getD j [])) := by
 obtain ⟨cs, h1, h2, h3⟩ := h.c2
 obtain ⟨v, q1, q2⟩ := h3 j hj
 refine ⟨cs, v, h1, h2, ?_, q2⟩
 simp only [a0I]
 rw [if_pos zO, List.getD_eq_getElem?_getD, q1]; rfl
theorem HasSt.setOut (h : HasSt S id N ins outs bef v3 todo waits) {j v v' : Nat} {s t : d7} (hs : outs[j]? = some s) : HasSt (a2Y S (7 + 5 * j) (8 + 5 * j) v' t) id N ins (outs.set j t) bef v3 todo waits := by
 have hj : j < outs.length := (List.getElem?_eq_some_iff.1 hs).1
 have hlo := h.lo
 have hli := h.li
 have e : ∀ i, i ≠ 7 + 5 * j → i ≠ 8 + 5 * j → hp (a2Y S (7 + 5 * j) (8 + 5 * j) v' t) i = hp S i := fun i h1 h2 => a1e h1 h2
 refine ⟨by rw [id, e 0 zO zO]; exact h.c0, by rw [id, e 1 zO zO, List.length_set]; exact h.c1, ?_, by rw [id, e 3 zO zO]; exact h.c3, by rw [id, e 4 zO zO]; exact h.c4, fun k s hs => ?_, fun k s hs => ?_, fun k a b => ?_, fun k a b => ?_, h.li, by rw [List.length_set]; exact h.lo⟩
 ·obtain ⟨cs, h1, h2, h3⟩ := h.c2
  refine ⟨cs, by rw [id, e 2 zO zO]; exact h1, h2, fun k hk => ?_⟩
  obtain ⟨v, q1, q2⟩ := h3 k hk
  exact ⟨v, q1, by rw [id, e _ zO zO]; exact q2⟩
 ·obtain ⟨v, q⟩ := h.c5 k s hs
  exact ⟨v, x7 q (e _ zI zI) (e _ zI zI)⟩
 ·by_cases hk : j = k
  ·subst hk
   rw [List.getElem?_set_self hj] at hs
   cases hs
   exact ⟨v', a1Q zO⟩
  ·rw [List.getElem?_set_ne hk] at hs
   obtain ⟨v, q⟩ := h.c6 k s hs
   exact ⟨v, x7 q (e _ zI zI) (e _ zI zI)⟩
 ·have := h.c7 k a b
  simp only [id] at this ⊢
  rw [e _ zO zO, e _ zO zO]; exact this
 ·rw [List.length_set] at a
  have := h.c8 k a b
  simp only [id] at this ⊢
  rw [e _ zO zO, e _ zO zO]; exact this
theorem HasSt.setIn (h : HasSt S id N ins outs bef v3 todo waits) {j v v' : Nat} {s t : d7} (hs : ins[j]? = some s) : HasSt (a2Y S (5 + 5 * j) (6 + 5 * j) v' t) id N (ins.set j t) outs bef v3 todo waits := by
 have hj : j < ins.length := (List.getElem?_eq_some_iff.1 hs).1
 have hlo := h.lo
 have hli := h.li
 have e : ∀ i, i ≠ 5 + 5 * j → i ≠ 6 + 5 * j → hp (a2Y S (5 + 5 * j) (6 + 5 * j) v' t) i = hp S i := fun i h1 h2 => a1e h1 h2
 refine ⟨by rw [id, e 0 zO zO, List.length_set]; exact h.c0, by rw [id, e 1 zO zO]; exact h.c1, ?_, by rw [id, e 3 zO zO]; exact h.c3, by rw [id, e 4 zO zO]; exact h.c4, fun k s hs => ?_, fun k s hs => ?_, fun k a b => ?_, fun k a b => ?_, by rw [List.length_set]; exact h.li, h.lo⟩
 ·obtain ⟨cs, h1, h2, h3⟩ := h.c2
  refine ⟨cs, by rw [id, e 2 zO zO]; exact h1, h2, fun k hk => ?_⟩
  obtain ⟨v, q1, q2⟩ := h3 k hk
  exact ⟨v, q1, by rw [id, e _ zO zO]; exact q2⟩
 ·by_cases hk : j = k
  ·subst hk
   rw [List.getElem?_set_self hj] at hs
   cases hs
   exact ⟨v', a1Q zO⟩
  ·rw [List.getElem?_set_ne hk] at hs
   obtain ⟨v, q⟩ := h.c5 k s hs
   exact ⟨v, x7 q (e _ zI zI) (e _ zI zI)⟩
 ·obtain ⟨v, q⟩ := h.c6 k s hs
  exact ⟨v, x7 q (e _ zI zI) (e _ zI zI)⟩
 ·rw [List.length_set] at a
  have := h.c7 k a b
  simp only [id] at this ⊢
  rw [e _ zO zO, e _ zO zO]; exact this
 ·have := h.c8 k a b
  simp only [id] at this ⊢
  rw [e _ zO zO, e _ zO zO]; exact this
theorem HasSt.setBef (h : HasSt S id N ins outs bef v3 todo waits) {j v : Nat} {l : List Int} {cs : List AV} (hj : j < N) (hb : j < bef.length) (hcs : hp S 2 = .arr 0 cs) :
  HasSt (n8 (n8 S (9 + 5 * j) (.arr v (flat (avI .i64) l))) 2 (.arr 0 (cs.set j (.ref (9 + 5 * j) v 0 l.length none)))) id N ins outs (bef.set j l) v3 todo waits := by
 have hlo := h.lo
 have hli := h.li
 have e : ∀ i, i ≠ 9 + 5 * j → i ≠ 2 → hp (n8 (n8 S (9 + 5 * j) (.arr v (flat (avI .i64) l))) 2 (.arr 0 (cs.set j (.ref (9 + 5 * j) v 0 l.length none)))) i = hp S i := fun i h1 h2 => by
  simp only [n7]; rw [a1u h2, a1u h1]
 have e9 : hp (n8 (n8 S (9 + 5 * j) (.arr v (flat (avI .i64) l))) 2 (.arr 0 (cs.set j (.ref (9 + 5 * j) v 0 l.length none)))) (9 + 5 * j) = .arr v (flat (avI .i64) l) := by
  simp only [n7]; rw [a1u zO, a3U]
 have e2 : hp (n8 (n8 S (9 + 5 * j) (.arr v (flat (avI .i64) l))) 2 (.arr 0 (cs.set j (.ref (9 + 5 * j) v 0 l.length none)))) 2 = .arr 0 (cs.set j (.ref (9 + 5 * j) v 0 l.length none)) := by
  simp only [n7]; rw [a3U]
 generalize hS' : n8 (n8 S (9 + 5 * j) (.arr v (flat (avI .i64) l))) 2 (.arr 0 (cs.set j (.ref (9 + 5 * j) v 0 l.length none))) = S' at e e9 e2
 refine ⟨by rw [id, e 0 zO zO]; exact h.c0, by rw [id, e 1 zO zO]; exact h.c1, ?_, by rw [id, e 3 zO zO]; exact h.c3, by rw [id, e 4 zO zO]; exact h.c4, fun k s hs => ?_, fun k s hs => ?_, fun k a b => ?_, fun k a b => ?_, h.li, h.lo⟩
 ·obtain ⟨cs1, h1, h2, h3⟩ := h.c2
  have hcc : cs1 = cs := by
   have h1' : hp S 2 = .arr 0 cs1 := h1
   rw [hcs] at h1'; cases h1'; rfl
  subst hcc
  refine ⟨_, e2, by rw [List.length_set]; exact h2, fun k hk => ?_⟩
  by_cases hkj : j = k
  ·subst hkj
   refine ⟨v, ?_, ?_⟩
   ·rw [List.getElem?_set_self zO]
    simp [List.getD_eq_getElem?_getD, List.getElem?_set_self hb]
   ·rw [id, e9]; simp [List.getD_eq_getElem?_getD, List.getElem?_set_self hb]
  ·obtain ⟨v, q1, q2⟩ := h3 k hk
   refine ⟨v, ?_, ?_⟩
   ·rw [List.getElem?_set_ne hkj, q1]; simp [List.getD_eq_getElem?_getD, List.getElem?_set_ne hkj]
   ·rw [id, e _ zO zO]; simp only [id] at q2; rw [q2]; simp [List.getD_eq_getElem?_getD, List.getElem?_set_ne hkj]
 ·obtain ⟨v, q⟩ := h.c5 k s hs
  exact ⟨v, x7 q (e _ zI zI) (e _ zI zI)⟩
 ·obtain ⟨v, q⟩ := h.c6 k s hs
  exact ⟨v, x7 q (e _ zI zI) (e _ zI zI)⟩
 ·have := h.c7 k a b
  simp only [id] at this ⊢
  rw [e _ zO zO, e _ zO zO]; exact this
 ·have := h.c8 k a b
  simp only [id] at this ⊢
  rw [e _ zO zO, e _ zO zO]; exact this
theorem HasSt.only (h : HasSt S id N ins outs bef v3 todo waits) {S' : List Ob} {v3' : Nat} {todo' : List Int} {waits' : List Bool} (e : ∀ i, i ≠ 3 → i ≠ 4 → hp S' i = hp S i) (h3 : ∃ x, hp S' 3 = .arr v3' (flat (avI .i64) todo' ++ x)) (h4 : hp S' 4 = .arr 0 (flat avB waits')) :
  HasSt S' id N ins outs bef v3' todo' waits' := by
 refine ⟨by rw [id, e 0 zO zO]; exact h.c0, by rw [id, e 1 zO zO]; exact h.c1, ?_, h3, h4, fun k s hs => ?_, fun k s hs => ?_, fun k a b => ?_, fun k a b => ?_, h.li, h.lo⟩
 ·obtain ⟨cs, h1, h2, h3⟩ := h.c2
  refine ⟨cs, by rw [id, e 2 zO zO]; exact h1, h2, fun k hk => ?_⟩
  obtain ⟨v, q1, q2⟩ := h3 k hk
  exact ⟨v, q1, by rw [id, e _ zO zO]; exact q2⟩
 ·obtain ⟨v, q⟩ := h.c5 k s hs
  exact ⟨v, x7 q (e _ zI zI) (e _ zI zI)⟩
 ·obtain ⟨v, q⟩ := h.c6 k s hs
  exact ⟨v, x7 q (e _ zI zI) (e _ zI zI)⟩
 ·have := h.c7 k a b
  simp only [id] at this ⊢
  rw [e _ zO zO, e _ zO zO]; exact this
 ·have := h.c8 k a b
  simp only [id] at this ⊢
  rw [e _ zO zO, e _ zO zO]; exact this
theorem HasSt.setWaits (h : HasSt S id N ins outs bef v3 todo waits) {waits' : List Bool} : HasSt (n8 S 4 (.arr 0 (flat avB waits'))) id N ins outs bef v3 todo waits' := by
 obtain ⟨x, h3⟩ := h.c3
 exact h.only (fun i a b => by rw [n7, a1u b]) ⟨x, by rw [n7, a1u zD]; exact h3⟩ (by rw [n7, a3U])
theorem HasSt.setTodo (h : HasSt S id N ins outs bef v3 todo waits) {v : Nat} {todo' : List Int} : HasSt (n8 S 3 (.arr v (flat (avI .i64) todo'))) id N ins outs bef v todo' waits :=
 h.only (fun i a b => by rw [n7, a1u a]) ⟨[], by rw [n7, a3U, List.append_nil]⟩ (by rw [n7, a1u zD]; exact h.c4)
theorem HasSt.popTodo (h : HasSt S id N ins outs bef v3 todo waits) {todo' : List Int} (he : ∃ r, todo = todo' ++ r) : HasSt S id N ins outs bef v3 todo' waits := by
 obtain ⟨r, rfl⟩ := he
 obtain ⟨x, h3⟩ := h.c3
 exact h.only (fun _ _ _ => rfl) ⟨flat (avI .i64) r ++ x, by rw [← List.append_assoc, ← a0w]; exact h3⟩ h.c4
end
end Go.Proofs.YtepdcebjobjjgaaDoor

/- The heap of live.solve: from one statement to the next. -/
namespace Go.Proofs.YtepdcebjobjjgaaDoor
open Go Go.Ab
abbrev HS (N : Nat) (ins outs : List d7) (bef : List (List Int)) (todo : List Int) (waits : List Bool) : List Ob := ofF (5 + 5 * N) (obF N ins outs bef todo waits)
def b5W (M : Nat) (s : d7) (f : Nat → Ob) (i : Nat) : Ob := if i = M then a3m (some s) (M + 1) else if i = M + 1 then a4J (some s) else f i
abbrev HT (N : Nat) (ins outs : List d7) (bef : List (List Int)) (todo : List Int) (waits : List Bool) (s : d7) : List Ob := ofF (5 + 5 * N + 2) (b5W (5 + 5 * N) s (obF N ins outs bef todo waits))
section
variable {S : List Ob} {m : Nat → Nat} {m' : Nat → Option Nat} {n N v3 : Nat} {ins outs : List d7} {bef : List (List Int)} {todo : List Int} {waits : List Bool} {f : Nat → Ob} {s : d7} {fr fr' : Fr}
theorem a0q {M i : Nat} (h : i < M) : b5W M s f i = f i := by unfold b5W; rw [if_neg zO, if_neg zO]
theorem b4a {M : Nat} : b5W M s f M = a3m (some s) (M + 1) := by unfold b5W; rw [if_pos rfl]
theorem b4b {M : Nat} : b5W M s f (M + 1) = a4J (some s) := by unfold b5W; rw [if_neg zO, if_pos rfl]
theorem a6d (li : ins.length ≤ N) (lo : outs.length ≤ N) : HasSt (HS N ins outs bef todo waits) id N ins outs bef 0 todo waits := b1I (Nat.le_refl _) (fun _ _ => rfl) li lo
theorem b5X (li : ins.length ≤ N) (lo : outs.length ≤ N) : HasSt (HT N ins outs bef todo waits s) id N ins outs bef 0 todo waits := b1I zO (fun i hi => a0q hi) li lo
theorem c1N : isS (HT N ins outs bef todo waits s) (5 + 5 * N) (5 + 5 * N + 1) 0 s :=
 ⟨by rw [a4y zO, b4a]; rfl, by rw [a4y zO, b4b]; rfl⟩
theorem HasSt.r4 (h : HasSt S m N ins outs bef v3 todo waits) (hn : 5 + 5 * N ≤ n) (hm : m' 0 = some (m 0)) (hf : f 0 = obF N ins outs bef todo waits 0) {o : Nat} (ho : m 0 = o) : RnV (WR n m' S f) (.ref o 0 0 N none) (.ref 0 0 0 N none) := by
 subst ho
 obtain ⟨cs, h1, h2, _⟩ := h.c0
 exact a3w zO hm h1 hf (by rw [a0M]; simp [f7])
theorem HasSt.r5 (h : HasSt S m N ins outs bef v3 todo waits) (hn : 5 + 5 * N ≤ n) (hm : m' 1 = some (m 1)) (hf : f 1 = obF N ins outs bef todo waits 1) {o : Nat} (ho : m 1 = o) : RnV (WR n m' S f) (.ref o 0 0 N none) (.ref 1 0 0 N none) := by
 subst ho
 obtain ⟨cs, h1, h2, _⟩ := h.c1
 exact a3w zO hm h1 hf (by rw [a0M]; simp [f7])
theorem HasSt.r6 (h : HasSt S m N ins outs bef v3 todo waits) (hn : 5 + 5 * N ≤ n) (hm : m' 2 = some (m 2)) (hf : f 2 = obF N ins outs bef todo waits 2) {o : Nat} (ho : m 2 = o) : RnV (WR n m' S f) (.ref o 0 0 N none) (.ref 2 0 0 N none) := by
 subst ho
 obtain ⟨cs, h1, h2, _⟩ := h.c2
 exact a3w zO hm h1 hf (by rw [a3n]; simp [f7])
theorem HasSt.r7 (h : HasSt S m N ins outs bef v3 todo waits) (hn : 5 + 5 * N ≤ n) (hm : m' 3 = some (m 3)) (hf : f 3 = obF N ins outs bef todo waits 3) {k o : Nat} (hk : k = todo.length) (ho : m 3 = o) : RnV (WR n m' S f) (.ref o v3 0 k none) (.ref 3 0 0 todo.length none) := by
 subst ho
 obtain ⟨x, h1⟩ := h.c3
 exact a6Y hk zO hm h1 hf (by rw [(d8 .i64).length]; simp [f7])
theorem HasSt.r12 (h : HasSt S m N ins outs bef v3 todo waits) (hn : 5 + 5 * N ≤ n) (hm : m' 4 = some (m 4)) (hf : f 4 = obF N ins outs bef todo waits 4) {k o : Nat} (hk : k = waits.length) (ho : m 4 = o) : RnV (WR n m' S f) (.ref o 0 0 k none) (.ref 4 0 0 waits.length none) := by
 subst ho
 exact a6Y hk zO hm h.c4 hf (by rw [a8C.length]; simp [f7])
theorem HasSt.r17 {v : Nat} (hs : isS S (5 + 5 * N) (5 + 5 * N + 1) v s) : RnV (WR (5 + 5 * N + 2) some S (b5W (5 + 5 * N) s f)) (.ptr (5 + 5 * N) 0 0) (.ptr (5 + 5 * N) 0 0) :=
 b3S zO rfl hs.1 (by rw [b4a]; rfl)
theorem HasSt.wkM (h : HasSt S m N ins outs bef v3 todo waits) (hi : ∀ i j, i < 5 + 5 * N → j < 5 + 5 * N → m i = m j → i = j) (hf : rnF (WR (5 + 5 * N) (fun i => some (m i)) S (obF N ins outs bef todo waits)) fr fr') : Wk [] fr S fr' (HS N ins outs bef todo waits) :=
 b5U (fun i j o a b h1 h2 => hi i j a b (by rw [Option.some.inj h1, Option.some.inj h2])) (h.ok (Nat.le_refl _) (fun _ _ => rfl) (fun _ _ => rfl)) hf
theorem HasSt.wkI (h : HasSt S id N ins outs bef v3 todo waits) (hf : rnF (WR (5 + 5 * N) some S (obF N ins outs bef todo waits)) fr fr') : Wk [] fr S fr' (HS N ins outs bef todo waits) :=
 b5U b1H (h.ok (Nat.le_refl _) (fun _ _ => rfl) (fun _ _ => rfl)) hf
theorem HasSt.wkT {v : Nat} (h : HasSt S id N ins outs bef v3 todo waits) (hs : isS S (5 + 5 * N) (5 + 5 * N + 1) v s) (hf : rnF (WR (5 + 5 * N + 2) some S (b5W (5 + 5 * N) s (obF N ins outs bef todo waits))) fr fr') : Wk [] fr S fr' (HT N ins outs bef todo waits s) := by
 refine b5U b1H (fun i hi => ?_) hf
 by_cases h1 : i < 5 + 5 * N
 ·exact h.ok zO (fun _ _ => rfl) (fun i hi => a0q hi) i h1
 ·by_cases h2 : i = 5 + 5 * N
  ·subst h2
   exact a0B rfl hs.1 b4a (cB rfl (.cons (a3w zO rfl hs.2 b4b (by rw [(d8 .u64).length]; exact Nat.le_refl _)) nL))
  ·obtain rfl : i = 5 + 5 * N + 1 := by omega
   exact a0B rfl hs.2 b4b (.refl ((d8 .u64).blwf 0 _))
def a2B (M i k : Nat) : Nat := if k = 5 + 5 * i then M + 1 else if k = 6 + 5 * i then M + 2 else if k = 7 + 5 * i then M + 3 else if k = 8 + 5 * i then M + 4 else k
theorem a0a {M i k : Nat} (h1 : k ≠ 5 + 5 * i) (h2 : k ≠ 6 + 5 * i) (h3 : k ≠ 7 + 5 * i) (h4 : k ≠ 8 + 5 * i) : a2B M i k = k := by
 unfold a2B; rw [if_neg h1, if_neg h2, if_neg h3, if_neg h4]
theorem b4c {M i : Nat} : a2B M i (5 + 5 * i) = M + 1 := by unfold a2B; rw [if_pos rfl]
theorem b8c {M i : Nat} : a2B M i (6 + 5 * i) = M + 2 := by unfold a2B; rw [if_neg zO, if_pos rfl]
theorem b4d {M i : Nat} : a2B M i (7 + 5 * i) = M + 3 := by unfold a2B; rw [if_neg zO, if_neg zO, if_pos rfl]
theorem b8d {M i : Nat} : a2B M i (8 + 5 * i) = M + 4 := by unfold a2B; rw [if_neg zO, if_neg zO, if_neg zO, if_pos rfl]
theorem b4e {M i : Nat} : ∀ a b, a < M → b < M → a2B M i a = a2B M i b → a = b := by
 intro a b ha hb h
 unfold a2B at h
 repeat' split at h
 all_goals omega
theorem HasSt.push (h : HasSt S id N ins outs bef v3 todo waits) {i va vb : Nat} {a b : d7} {cs0 cs1 : List AV} {S' : List Ob} (hi : ins.length = i) (ho : outs.length = i) (hlt : i < N) (h0 : hp S 0 = .arr 0 cs0) (h1 : hp S 1 = .arr 0 cs1)
  (e : ∀ k, k < 5 + 5 * N → k ≠ 0 → k ≠ 1 → hp S' k = hp S k) (e0 : hp S' 0 = .arr 0 (cs0.set i (.ptr (5 + 5 * N + 1) 0 0))) (e1 : hp S' 1 = .arr 0 (cs1.set i (.ptr (5 + 5 * N + 3) 0 0)))
  (ha : isS S' (5 + 5 * N + 1) (5 + 5 * N + 2) va a) (hb : isS S' (5 + 5 * N + 3) (5 + 5 * N + 4) vb b) : HasSt S' (a2B (5 + 5 * N) i) N (ins ++ [a]) (outs ++ [b]) bef v3 todo waits := by
 have p0 : a2B (5 + 5 * N) i 0 = 0 := a0a zO zO zO zO
 have p1 : a2B (5 + 5 * N) i 1 = 1 := a0a zO zO zO zO
 have p2 : a2B (5 + 5 * N) i 2 = 2 := a0a zO zO zO zO
 have p3 : a2B (5 + 5 * N) i 3 = 3 := a0a zO zO zO zO
 have p4 : a2B (5 + 5 * N) i 4 = 4 := a0a zO zO zO zO
 refine ⟨?_, ?_, ?_, ?_, ?_, fun j s hs => ?_, fun j s hs => ?_, fun j c d => ?_, fun j c d => ?_, by simp; omega, by simp; omega⟩
 ·obtain ⟨cs, q1, q2, q3⟩ := h.c0
  have hcc : cs = cs0 := by
   have q1' : hp S 0 = .arr 0 cs := q1
   rw [h0] at q1'; cases q1'; rfl
  subst hcc
  refine ⟨_, by rw [p0]; exact e0, by rw [List.length_set]; exact q2, fun j hj => ?_⟩
  by_cases hji : j = i
  ·subst hji; rw [List.getElem?_set_self zO, b4c]
  ·rw [List.getElem?_set_ne (Ne.symm hji), a0a zO zO zO zO]
   exact q3 j (by simp at hj; omega)
 ·obtain ⟨cs, q1, q2, q3⟩ := h.c1
  have hcc : cs = cs1 := by
   have q1' : hp S 1 = .arr 0 cs := q1
   rw [h1] at q1'; cases q1'; rfl
  subst hcc
  refine ⟨_, by rw [p1]; exact e1, by rw [List.length_set]; exact q2, fun j hj => ?_⟩
  by_cases hji : j = i
  ·subst hji; rw [List.getElem?_set_self zO, b4d]
  ·rw [List.getElem?_set_ne (Ne.symm hji), a0a zO zO zO zO]
   exact q3 j (by simp at hj; omega)
 ·obtain ⟨cs, q1, q2, q3⟩ := h.c2
  refine ⟨cs, by rw [p2, e 2 zO zO zO]; exact q1, q2, fun j hj => ?_⟩
  obtain ⟨v, k1, k2⟩ := q3 j hj
  have pj : a2B (5 + 5 * N) i (9 + 5 * j) = 9 + 5 * j := a0a zO zO zO zO
  exact ⟨v, by rw [pj]; exact k1, by rw [pj, e _ zO zO zO]; exact k2⟩
 ·obtain ⟨x, q⟩ := h.c3
  exact ⟨x, by rw [p3, e 3 zO zO zO]; exact q⟩
 ·rw [p4, e 4 zO zO zO]; exact h.c4
 ·by_cases hji : j = i
  ·subst hji
   rw [← hi, List.getElem?_append_right (Nat.le_refl _)] at hs
   simp at hs; subst hs
   rw [b4c, b8c]; exact ⟨va, ha⟩
  ·have hj : j < i := by
    have := (List.getElem?_eq_some_iff.1 hs).1
    simp at this; omega
   rw [List.getElem?_append_left zO] at hs
   obtain ⟨v, q⟩ := h.c5 j s hs
   rw [a0a zO zO zO zO, a0a zO zO zO zO]
   exact ⟨v, x7 q (e _ zO zO zO) (e _ zO zO zO)⟩
 ·by_cases hji : j = i
  ·subst hji
   rw [← ho, List.getElem?_append_right (Nat.le_refl _)] at hs
   simp at hs; subst hs
   rw [b4d, b8d]; exact ⟨vb, hb⟩
  ·have hj : j < i := by
    have := (List.getElem?_eq_some_iff.1 hs).1
    simp at this; omega
   rw [List.getElem?_append_left zO] at hs
   obtain ⟨v, q⟩ := h.c6 j s hs
   rw [a0a zO zO zO zO, a0a zO zO zO zO]
   exact ⟨v, x7 q (e _ zO zO zO) (e _ zO zO zO)⟩
 ·simp at c
  have q := h.c7 j zO d
  simp only [id] at q
  rw [a0a zO zO zO zO, a0a zO zO zO zO, e _ zO zO zO, e _ zO zO zO]
  exact q
 ·simp at c
  have q := h.c8 j zO d
  simp only [id] at q
  rw [a0a zO zO zO zO, a0a zO zO zO zO, e _ zO zO zO, e _ zO zO zO]
  exact q
def a5A (M k : Nat) : Nat := if k = 4 then M else k
theorem a0b {M k : Nat} (h : k ≠ 4) : a5A M k = k := by unfold a5A; rw [if_neg h]
theorem b4f {M : Nat} : a5A M 4 = M := by unfold a5A; rw [if_pos rfl]
theorem b4g {M : Nat} : ∀ a b, a < M → b < M → a5A M a = a5A M b → a = b := by
 intro a b ha hb h
 unfold a5A at h
 repeat' split at h
 all_goals omega
theorem HasSt.newWaits (h : HasSt S id N ins outs bef v3 todo waits) {S' : List Ob} {waits' : List Bool} (e : ∀ k, k < 5 + 5 * N → hp S' k = hp S k) (e4 : hp S' (5 + 5 * N) = .arr 0 (flat avB waits')) : HasSt S' (a5A (5 + 5 * N)) N ins outs bef v3 todo waits' := by
 have hli := h.li; have hlo := h.lo
 refine ⟨?_, ?_, ?_, ?_, by rw [b4f]; exact e4, fun j s hs => ?_, fun j s hs => ?_, fun j c d => ?_, fun j c d => ?_, h.li, h.lo⟩
 ·obtain ⟨cs, q1, q2, q3⟩ := h.c0
  refine ⟨cs, by rw [a0b zO, e 0 zO]; exact q1, q2, fun j hj => ?_⟩
  rw [a0b zO]; exact q3 j hj
 ·obtain ⟨cs, q1, q2, q3⟩ := h.c1
  refine ⟨cs, by rw [a0b zO, e 1 zO]; exact q1, q2, fun j hj => ?_⟩
  rw [a0b zO]; exact q3 j hj
 ·obtain ⟨cs, q1, q2, q3⟩ := h.c2
  refine ⟨cs, by rw [a0b zO, e 2 zO]; exact q1, q2, fun j hj => ?_⟩
  obtain ⟨v, k1, k2⟩ := q3 j hj
  exact ⟨v, by rw [a0b zO]; exact k1, by rw [a0b zO, e _ zO]; exact k2⟩
 ·obtain ⟨x, q⟩ := h.c3
  exact ⟨x, by rw [a0b zO, e 3 zO]; exact q⟩
 ·have := (List.getElem?_eq_some_iff.1 hs).1
  obtain ⟨v, q⟩ := h.c5 j s hs
  rw [a0b zO, a0b zO]
  exact ⟨v, x7 q (e _ zO) (e _ zO)⟩
 ·have := (List.getElem?_eq_some_iff.1 hs).1
  obtain ⟨v, q⟩ := h.c6 j s hs
  rw [a0b zO, a0b zO]
  exact ⟨v, x7 q (e _ zO) (e _ zO)⟩
 ·have q := h.c7 j c d
  simp only [id] at q
  rw [a0b zO, a0b zO, e _ zO, e _ zO]
  exact q
 ·have q := h.c8 j c d
  simp only [id] at q
  rw [a0b zO, a0b zO, e _ zO, e _ zO]
  exact q
def b9S (i : Nat) : Option Nat := if i < 4 then some i else none
theorem b8e {m1 m2 : List Unit} {m3 : List (List Int)} (h1 : m1.length = N) (h2 : m2.length = N) (h3 : m3 = List.replicate N [])
  (hf : rnF (WR (5 + 5 * N) b9S [.arr 0 (flat (fun (_ : Unit) => AV.nilp) m1), .arr 0 (flat (fun (_ : Unit) => AV.nilp) m2), .arr 0 (flat (fun (_ : List Int) => AV.nils) m3), .arr 0 (flat (avI .i64) [])] (obF N [] [] m3 [] [])) fr fr') :
  Wk [] fr [.arr 0 (flat (fun (_ : Unit) => AV.nilp) m1), .arr 0 (flat (fun (_ : Unit) => AV.nilp) m2), .arr 0 (flat (fun (_ : List Int) => AV.nils) m3), .arr 0 (flat (avI .i64) [])] fr' (HS N [] [] m3 [] []) := by
 have eN : Enc (fun (_ : Unit) => AV.nilp) none := ⟨fun _ => rfl, fun _ => rfl, fun _ => rfl, fun _ _ => rfl⟩
 have eL : Enc (fun (_ : List Int) => AV.nils) none := ⟨fun _ => rfl, fun _ => rfl, fun _ => rfl, fun _ _ => rfl⟩
 refine b5U (fun i j o _ _ a b => ?_) (fun i hi => ?_) hf
 ·unfold b9S at a b
  split at a <;> split at b <;> first | (cases a; cases b; rfl) | (cases a; done) | (cases b; done)
 ·match i, hi with
  | 0, _ =>
    refine a0B rfl rfl rfl (a4G (by rw [a0M, eN.length]; simp [f7]; omega) (fun j a b => ?_))
    simp only [a7C, List.getElem_map, List.length_nil, Nat.not_lt_zero, if_false]
    exact .junk _
  | 1, _ =>
    refine a0B rfl rfl rfl (a4G (by rw [a0M, eN.length]; simp [f7]; omega) (fun j a b => ?_))
    simp only [a7C, List.getElem_map, List.length_nil, Nat.not_lt_zero, if_false]
    exact .junk _
  | 2, _ =>
    have hl : m3.length = N := by rw [h3]; simp
    refine a0B rfl rfl rfl (a4G (by rw [a3n, eL.length]; simp [f7]; omega) (fun j a b => ?_))
    rw [a3n] at b
    have e1 : ∀ l : List (List Int), flat (fun (_ : List Int) => AV.nils) l = List.replicate l.length .nils := fun l => by
     induction l with
     | nil => rfl
     | cons x l ih => rw [a0t, ih]; rfl
    have e2 : (flat (fun (_ : List Int) => AV.nils) m3)[j] = .nils := by simp only [e1, List.getElem_replicate]
    rw [e2]
    have e3 : m3.getD j [] = [] := by rw [h3]; simp [List.getD_eq_getElem?_getD, b]
    simp only [b8b, List.getElem_map, List.getElem_range, e3, List.length_nil]
    exact b9N zO b0P
  | 3, _ => exact a0B rfl rfl rfl nL
  | 4, _ => exact b3T rfl rfl
  | i + 5, hi =>
    refine b3T (v' := 0) rfl ?_
    obtain ⟨j, c, hc, rfl⟩ : ∃ j c, c < 5 ∧ i = c + 5 * j := ⟨i / 5, i % 5, by omega, by omega⟩
    rw [show c + 5 * j + 5 = 5 + c + 5 * j by omega, b2y hc]
    match c, hc with
    | 0, _ => rfl
    | 1, _ => rfl
    | 2, _ => rfl
    | 3, _ => rfl
    | 4, _ =>
      show Ob.arr 0 (flat (avI .i64) (m3.getD j [])) = _
      rw [show m3.getD j [] = [] by rw [h3]; simp [List.getD_eq_getElem?_getD, List.getElem?_replicate]; split <;> rfl]; rfl
end
end Go.Proofs.YtepdcebjobjjgaaDoor

/- live.solve's answer, when it is frozen. -/
namespace Go.Proofs.YtepdcebjobjjgaaDoor
open Go Go.Ab
section
variable {S : List Ob} {N v3 k : Nat} {ins outs : List d7} {bef : List (List Int)} {todo : List Int} {waits : List Bool}
theorem b8f {α : Type} {f : α → AV} {esh : Option Nat} (he : Enc f esh) {o ver : Nat} {l : List α} (ho : hp S o = .arr ver (flat f l)) : frz 0 S (k + 1) (.ref o ver 0 l.length esh) = .sl false (f7 esh) (l.map f) := by
 have hb : (AV.ref o ver 0 l.length esh).blw 0 = false := by simp [AV.blw]
 have hm : (flat f l).map (frz 0 S k) = flat f l := a6R (he.blwf 0 l)
 simp only [frz, hb, ho, Bool.false_eq_true, if_false, hm, List.drop_zero]
 rw [if_pos ⟨trivial, by rw [he.length]; omega, he.all l⟩, he.elems]
theorem b4h {p pw v : Nat} {s : d7} (hs : isS S p pw v s) : frz 0 S (k + 2) (.ptr p 0 0) = avP d7.av (some s) := by
 have hb : (AV.ptr p 0 0).blw 0 = false := by simp [AV.blw]
 have h1 : frz 0 S (k + 1) (.int .i64 s.n) = .int .i64 s.n := b3C rfl
 have h2 : frz 0 S (k + 1) (.ref pw v 0 (List.length s.words) none) = .sl false 1 (s.words.map (avI .u64)) := b8f (d8 .u64) hs.2
 have e : frz 0 S (k + 2) (.ptr p 0 0) = .cptr ([AV.int .i64 s.n, .ref pw v 0 (List.length s.words) none].map (frz 0 S (k + 1))) 0 := by
  show (if (AV.ptr p 0 0).blw 0 = true then AV.ptr p 0 0 else match hp S p with | .arr v cs => if v = 0 then .cptr (cs.map (frz 0 S (k + 1))) 0 else .junk | _ => .junk) = _
  rw [hb, hs.1]; rfl
 rw [e, List.map_cons, List.map_cons, List.map_nil, h1, h2]
 rfl
theorem b1J {o N : Nat} {cs : List AV} {l : List d7} (ho : hp S o = .arr 0 cs) (hl : cs.length = N) (hN : l.length = N) (h : ∀ (j : Nat) (s : d7), l[j]? = some s → ∃ c, cs[j]? = some c ∧ frz 0 S (k + 2) c = avP d7.av (some s)) :
  frz 0 S (k + 3) (.ref o 0 0 N none) = .sl false 1 ((l.map some).map (avP d7.av)) := by
 have hb : (AV.ref o 0 0 N none).blw 0 = false := by simp [AV.blw]
 have e1 : cs.map (frz 0 S (k + 2)) = (l.map some).map (avP d7.av) := by
  apply List.ext_getElem?
  intro j
  cases e : l[j]? with
  | some s =>
    obtain ⟨c, h1, h2⟩ := h j s e
    simp only [List.getElem?_map, h1, e, Option.map_some, h2]
  | none =>
    have : cs[j]? = none := by simp at e ⊢; omega
    simp only [List.getElem?_map, this, e, Option.map_none]
 have e2 : frz 0 S (k + 3) (.ref o 0 0 N none) = if 0 = 0 ∧ 0 + N * f7 none ≤ cs.length ∧ ((cs.map (frz 0 S (k + 2))).drop 0).all AV.one = true then .sl false (f7 none) (x9 none N ((cs.map (frz 0 S (k + 2))).drop 0)) else .junk := by
  show (if (AV.ref o 0 0 N none).blw 0 = true then AV.ref o 0 0 N none else match hp S o with | .arr v cs => if v = 0 ∧ 0 + N * f7 none ≤ cs.length ∧ ((cs.map (frz 0 S (k + 2))).drop 0).all AV.one = true then .sl false (f7 none) (x9 none N ((cs.map (frz 0 S (k + 2))).drop 0)) else .junk | _ => .junk) = _
  rw [hb, ho]; rfl
 rw [e2, e1, List.drop_zero]
 rw [if_pos ⟨rfl, by simp [f7]; omega, by simp [AV.one, avP]⟩]
 show AV.sl false 1 (((l.map some).map (avP d7.av)).take N) = _
 rw [List.take_of_length_le zE]
theorem b8g (h : HasSt S id N ins outs bef v3 todo waits) (hN : ins.length = N) : frz 0 S (k + 3) (.ref 0 0 0 N none) = .sl false 1 ((ins.map some).map (avP d7.av)) := by
 obtain ⟨cs, h1, h2, h3⟩ := h.c0
 refine b1J h1 h2 hN (fun j s e => ?_)
 obtain ⟨v, q⟩ := h.c5 j s e
 exact ⟨_, h3 j (List.getElem?_eq_some_iff.1 e).1, b4h q⟩
theorem b5Y (h : HasSt S id N ins outs bef v3 todo waits) (hN : outs.length = N) : frz 0 S (k + 3) (.ref 1 0 0 N none) = .sl false 1 ((outs.map some).map (avP d7.av)) := by
 obtain ⟨cs, h1, h2, h3⟩ := h.c1
 refine b1J h1 h2 hN (fun j s e => ?_)
 obtain ⟨v, q⟩ := h.c6 j s e
 exact ⟨_, h3 j (List.getElem?_eq_some_iff.1 e).1, b4h q⟩
theorem b9T (h : HasSt S id N ins outs bef v3 todo waits) (h1 : ins.length = N) (h2 : outs.length = N) :
  AVw (frz 0 S 6 (.tup [.ref 0 0 0 N none, .ref 1 0 0 N none])) (.tup [.sl false 1 ((ins.map some).map (avP d7.av)), .sl false 1 ((outs.map some).map (avP d7.av))]) :=
 a6V ⟨by rw [b8g h h1]; exact .refl _, by rw [b5Y h h2]; exact .refl _, trivial⟩
theorem a4K {x y : Ob} : ∀ (S : List Ob) (o : Nat), n8 (n8 S o x) o y = n8 S o y
 | [], 0 => rfl
 | [], n + 1 => by simp only [n8, a4K [] n]
 | z :: s, 0 => rfl
 | z :: s, n + 1 => by simp only [n8, a4K s n]
end
end Go.Proofs.YtepdcebjobjjgaaDoor

/- live.solve: what it computes, and that it does. -/
namespace Go.Proofs.YtepdcebjobjjgaaDoor
open Go Go.Ab
set_option maxRecDepth 20000
set_option maxHeartbeats 2000000
noncomputable def c4a : FC := fcO 52
theorem c5m : Fn3 Tryd.prog 52 224 [(2, none), (3, none)] c4a := ⟨_, _, Tryd.func52, rfl, rfl, rfl, by kernel_rfl⟩
def a9S (n : Int) : Option d7 := (a1K n).bind fun r => some ⟨r.1, r.2⟩
def b4i (fuel : Nat) (a b : d7) : Option (Bool × d7) := (y7 fuel a.n a.words b.n b.words).bind fun r => gd (r.2.2.2 = b.n) (some (r.1, ⟨r.2.1, r.2.2.1⟩))
def a8M (a : d7) : Option d7 := (y8 a.n a.words).bind fun r => gd (r.1 = a.n) (some ⟨r.2.1, r.2.2⟩)
def a7c (a : d7) (i : Int) : Option d7 := (w6 a.n a.words i).bind fun r => some ⟨r.2.1, r.2.2⟩
def a7d (a : d7) (i : Int) : Option d7 := (o8 a.n a.words i).bind fun r => some ⟨r.2.1, r.2.2⟩
section
variable {S : List Ob} {p pw q qw v vq : Nat} {s t u : d7}
theorem b9U {n : Int} (h : a9S n = some u) : Ev Tryd.prog 66 [.int .i64 n] (hp S) (.ptr S.length 0 0) (hp (a2Y S S.length (S.length + 1) 1 u)) := by
 obtain ⟨r, hr, e⟩ := b9 h
 cases e
 exact b9R hr
theorem b9V (h : a8M s = some u) (hs : isS S p pw v s) (hne : p ≠ pw) : Ev Tryd.prog 68 [.ptr p 0 0] (hp S) (.ptr S.length 0 0) (hp (a2Y S S.length (S.length + 1) 1 u)) := by
 obtain ⟨r, hr, e⟩ := b9 h
 obtain ⟨e1, e2⟩ := a0z e
 cases e2
 exact b8a hr e1 hs hne
theorem c2B {i : Int} (h : a7c s i = some u) (hs : isS S p pw v s) (hne : p ≠ pw) : ∃ b, Ev Tryd.prog 69 [.ptr p 0 0, .int .i64 i] (hp S) (.bool b) (hp (a2Y S p pw (v + 1) u)) := by
 obtain ⟨r, hr, e⟩ := b9 h
 cases e
 exact ⟨_, b9P hr hs hne⟩
theorem c2C {i : Int} (h : a7d s i = some u) (hs : isS S p pw v s) (hne : p ≠ pw) : ∃ b, Ev Tryd.prog 71 [.ptr p 0 0, .int .i64 i] (hp S) (.bool b) (hp (a2Y S p pw (v + 1) u)) := by
 obtain ⟨r, hr, e⟩ := b9 h
 cases e
 exact ⟨_, b9Q hr hs hne⟩
theorem c4b {fuel : Nat} {r : Bool × d7} (h : b4i fuel s t = some r) (hs : isS S p pw v s) (ht : isS S q qw vq t) (hnd : [p, pw, q, qw].Nodup) : Ev Tryd.prog 67 [.ptr p 0 0, .ptr q 0 0] (hp S) (.bool r.1) (hp (a2Y S p pw (v + 1) r.2)) := by
 obtain ⟨k, hk, e⟩ := b9 h
 obtain ⟨e1, e2⟩ := a0z e
 cases e2
 exact c2z hk e1 hs ht hnd
end
abbrev R0 := List d7 × List d7
abbrev T1 := List d7 × List d7 × List (List Int) × List Int
abbrev T2 := List d7 × List d7 × List Int × List Bool
def a9T (N i : Nat) (_ : Nat) (to : Int) (s : List (List Int)) : Option (Stp (List (List Int)) (Option (Stp T1 (Option R0)))) :=
 gd (s.length = N) ((u6 s to).bind fun y => (a4E 8 y [(i : Int)]).bind fun l => some (.nxt (s.set to.toNat l)))
def a9U (g : b5) (i : Nat) (n : i7) (s : T1) : Option (Stp T1 (Option R0)) :=
 gd (s.1.length = i ∧ s.2.1.length = i) ((a9S (List.length g.Kinds : Int)).bind fun a => (a9S (List.length g.Kinds : Int)).bind fun b => (a2f n).bind fun nx =>
  (rng (a9T g.Nodes.length i) nx s.2.2.1).bind (oc fun bf => (a4E 8 s.2.2.2 [(i : Int)]).bind fun l => some (.nxt (s.1 ++ [a], s.2.1 ++ [b], bf, l))))
def a7e (i : Nat) (s : List Bool) : Option (Stp (List Bool) (Option R0)) := (u6 s (i : Int)).bind fun _ => some (.nxt (s.set (i : Int).toNat true))
def b4j (fuel : Nat) (ins : List d7) (i : Int) (_ : Nat) (to : Int) (outs : List d7) : Option (Stp (List d7) (Option (Stp T2 (Option R0)))) :=
 gd (outs.length = ins.length) ((u6 outs i).bind fun a => (u6 ins to).bind fun b => (b4i fuel a b).bind fun r => some (.nxt (outs.set i.toNat r.2)))
def a9V (_ : Nat) (p : Int) (s : d7) : Option (Stp d7 (Option (Stp T2 (Option R0)))) := (a7c s p).bind fun d => some (.nxt d)
def a9W (_ : Nat) (p : Int) (s : d7) : Option (Stp d7 (Option (Stp T2 (Option R0)))) := (a7d s p).bind fun d => some (.nxt d)
def a9X (_ : Nat) (b : Int) (s : List Int × List Bool) : Option (Stp (List Int × List Bool) (Option (Stp T2 (Option R0)))) :=
 (u6 s.2 b).bind fun y => if (!y) = true then (a4E 8 s.1 [b]).bind fun l => (u6 s.2 b).bind fun _ => some (.nxt (l, s.2.set b.toNat true)) else some (.nxt s)
def a5B (fuel : Nat) (g : b5) (bef : List (List Int)) (s : T2) : Option (Stp T2 (Option R0)) :=
 gd (s.1.length = g.Nodes.length ∧ s.2.1.length = g.Nodes.length ∧ bef.length = g.Nodes.length) (if (decide ((List.length s.2.2.1 : Int) > 0)) = true then
  (u6 s.2.2.1 (I64 ((List.length s.2.2.1 : Int) - 1))).bind fun i => (b5g s.2.2.1 0 (I64 ((List.length s.2.2.1 : Int) - 1))).bind fun td => (u6 s.2.2.2 i).bind fun _ =>
  (u6 g.Nodes i).bind fun nd => (a2f nd).bind fun nx => (rng (b4j fuel s.1 i) nx s.2.1).bind (oc fun outs => gd (outs.length = g.Nodes.length) ((u6 outs i).bind fun oi => (a8M oi).bind fun c =>
  (u6 g.Nodes i).bind fun nd2 => (a1G nd2).bind fun wr => (rng a9V wr c).bind (oc fun c1 => (u6 g.Nodes i).bind fun nd3 => (a2U nd3).bind fun rd => (rng a9W rd c1).bind (oc fun c2 =>
  (u6 s.1 i).bind fun ii => (b4i fuel ii c2).bind fun r => (if (!r.1) = true then some (.nxt (s.1.set i.toNat r.2, outs, td, s.2.2.2.set i.toNat false)) else
  (u6 bef i).bind fun bs => (rng a9X bs (td, s.2.2.2.set i.toNat false)).bind (oc fun q => some (.nxt (s.1.set i.toNat r.2, outs, q.1, q.2))))))))
 else some (.brk s))
def a1x (fuel : Nat) (g : b5) : Option R0 :=
 (mkL 8 (List.length g.Nodes : Int) (List.length g.Nodes : Int) ()).bind fun m1 => (mkL 8 (List.length g.Nodes : Int) (List.length g.Nodes : Int) ()).bind fun m2 => (mkL 24 (List.length g.Nodes : Int) (List.length g.Nodes : Int) []).bind fun m3 => (mkL 8 0 (List.length g.Nodes : Int) 0).bind fun m4 =>
 (rng (a9U g) g.Nodes ([], [], m3, m4)).bind (oc fun s => gd (s.1.length = g.Nodes.length ∧ s.2.1.length = g.Nodes.length ∧ s.2.2.1.length = g.Nodes.length) ((mkL 1 (List.length g.Nodes : Int) (List.length g.Nodes : Int) false).bind fun w =>
 (rni a7e (List.length w : Int) w).bind (oc fun w2 => (whileN (a5B fuel g s.2.2.1) fuel (s.1, s.2.1, s.2.2.2, w2)).bind (oc fun e => gd (e.1.length = g.Nodes.length ∧ e.2.1.length = g.Nodes.length) (some (e.1, e.2.1))))))
theorem b9W {P : Program} {ow : List Nat} {fr : Fr} {S : List Ob} {log : List LE} {d n rs} {cs : List AV} {S' : List Ob} {K : Fr → List Ob → List LE → Prop} (how : ow.contains d = true) (hn : S.length = n) (hS : n8 S n (.arr 0 cs) = S')
  (h : VTops P ow rs ((d, .ptr n 0 0) :: fr) S' (.acc [n] (some n) :: log) K) : VTops P ow (⟨some d, none, .op (.new cs)⟩ :: rs) fr S log K := by
 subst hn
 refine a1E (v := .ptr S.length 0 0) (rd := []) (δ := some (S.length, .arr 0 cs)) ?_ rfl hS h
 simp only [opV, b7A, how, if_true]
theorem b4k {S : List Ob} {n v : Nat} {s : d7} (hn : S.length = n) : (a2Y S n (n + 1) v s).length = n + 2 := by subst hn; exact a4I
section
variable {g : b5} {r : R0} {fuel : Nat}
theorem b9X {P : Program} {ow : List Nat} {fr : Fr} {S : List Ob} {log : List LE} {α : Type} {f : α → AV} {esh : Option Nat} {d o} {bytes : Nat} {z l c rs} {K : Fr → List Ob → List LE → Prop} {k k' n n'} {S' : List Ob} {x : α} {v : List α} (hn : S.length = o) (he : Enc f esh) (how : ow.contains d = true) (e : ev (Fr.get fr) l = .int k n) (e1 : ev (Fr.get fr) c = .int k' n') (hz : (f x).cells = z) (hv : mkL bytes n n' x = some v)
  (hS : n8 S o (.arr 0 (flat f v)) = S')
  (h : VTops P ow rs ((d, .ref o 0 0 v.length esh) :: fr) S' (.acc [o] (some o) :: log) K) : VTops P ow (⟨some d, none, .op (.mksl esh bytes z l c)⟩ :: rs) fr S log K := by
 subst hn
 exact b2u he how e e1 hz hv hS h
theorem c4c : Enc (fun (_ : Unit) => AV.nilp) none := ⟨fun _ => rfl, fun _ => rfl, fun _ => rfl, fun _ _ => rfl⟩
theorem c5n : Enc (fun (_ : List Int) => AV.nils) none := ⟨fun _ => rfl, fun _ => rfl, fun _ => rfl, fun _ _ => rfl⟩
theorem a1H {α : Type} {l : List α} {i : Int} {y : α} (h : u6 l i = some y) : 0 ≤ i ∧ i.toNat < l.length ∧ i = (i.toNat : Int) ∧ l[i.toNat]? = some y := by
 obtain ⟨h1, h2, h3⟩ := j4 h
 exact ⟨h1, by omega, by omega, h3⟩
abbrev gR (g : b5) : AV := .cptr (b5.av g).cells 0
theorem gb {R : Rn} {g : b5} : RnV R (gR g) (gR g) := c9 (j9 (b5.enc.blw _ 0))
theorem a7D (h : a1x fuel g = some r) : m8 Tryd.prog 52 [(.cptr (b5.av g).cells 0)] (.tup [(.sl false 1 ((r.1.map some).map (avP d7.av))), (.sl false 1 ((r.2.map some).map (avP d7.av)))]) := by
 unfold a1x at h
 refine k7 mixed c5m zS [9, 29, 35, 41, 47, 104] 6 ?_
 unfold c4a
 refine f6 ?_
 refine b8 ?_
 refine oM .nils ?_
 refine oM .nils ?_
 refine b7 ?_
 refine f8 ?_
 refine f6 ?_
 refine a4v ?_
 refine oM (.cptr (b5.av g).cells 0) ?_
 refine oP (.cptr (b5.av g).cells 0) ?_
 refine oP (.cptr (b5.av g).cells 6) ?_
 refine oP (.sl false 12 (List.map i7.av g.Nodes)) ?_
 refine x2 rfl ?_
 obtain ⟨m1, hm1, h⟩ := b9 h
 refine b2u (f := (fun (_ : Unit) => AV.nilp)) (x := ()) (S' := [.arr 0 (flat (fun (_ : Unit) => AV.nilp) m1)]) c4c rfl rfl rfl rfl hm1 rfl ?_
 refine oM (.cptr (b5.av g).cells 0) ?_
 refine oP (.cptr (b5.av g).cells 0) ?_
 refine oP (.cptr (b5.av g).cells 6) ?_
 refine oP (.sl false 12 (List.map i7.av g.Nodes)) ?_
 refine x2 rfl ?_
 obtain ⟨m2, hm2, h⟩ := b9 h
 refine b2u (f := (fun (_ : Unit) => AV.nilp)) (x := ()) (S' := [.arr 0 (flat (fun (_ : Unit) => AV.nilp) m1), .arr 0 (flat (fun (_ : Unit) => AV.nilp) m2)]) c4c rfl rfl rfl rfl hm2 rfl ?_
 refine oM (.ref 0 0 0 (List.length m1) none) ?_
 refine oM (.ref 1 0 0 (List.length m2) none) ?_
 refine b7 ?_
 refine And.intro (by simp [a1N, a7x, a1k, hp, a2n]) ?_
 refine f8 ?_
 refine f6 ?_
 refine b8 ?_
 refine oM (.cptr (b5.av g).cells 0) ?_
 refine oP (.cptr (b5.av g).cells 0) ?_
 refine oP (.cptr (b5.av g).cells 6) ?_
 refine oP (.sl false 12 (List.map i7.av g.Nodes)) ?_
 refine x2 rfl ?_
 obtain ⟨m3, hm3, h⟩ := b9 h
 refine b2u (f := (fun (_ : List Int) => AV.nils)) (x := []) (S' := [.arr 0 (flat (fun (_ : Unit) => AV.nilp) m1), .arr 0 (flat (fun (_ : Unit) => AV.nilp) m2), .arr 0 (flat (fun (_ : List Int) => AV.nils) m3)]) c5n rfl rfl rfl rfl hm3 rfl ?_
 refine oM (.ref 2 0 0 (List.length m3) none) ?_
 refine b7 ?_
 refine f8 ?_
 refine f6 ?_
 refine b8 ?_
 refine oM (.cptr (b5.av g).cells 0) ?_
 refine oP (.cptr (b5.av g).cells 0) ?_
 refine oP (.cptr (b5.av g).cells 6) ?_
 refine oP (.sl false 12 (List.map i7.av g.Nodes)) ?_
 refine x2 rfl ?_
 obtain ⟨m4, hm4, h⟩ := b9 h
 refine b2u (x := 0) (S' := [.arr 0 (flat (fun (_ : Unit) => AV.nilp) m1), .arr 0 (flat (fun (_ : Unit) => AV.nilp) m2), .arr 0 (flat (fun (_ : List Int) => AV.nils) m3), .arr 0 (flat (avI .i64) m4)]) (d8 .i64) rfl rfl rfl rfl hm4 rfl ?_
 obtain ⟨_, q1⟩ := a3h hm1
 obtain ⟨_, q2⟩ := a3h hm2
 obtain ⟨_, q3⟩ := a3h hm3
 obtain ⟨_, q4⟩ := a3h hm4
 have l1 : m1.length = g.Nodes.length := by rw [q1]; simp
 have l2 : m2.length = g.Nodes.length := by rw [q2]; simp
 have l3 : m3.length = g.Nodes.length := by rw [q3]; simp
 have q3' : m3 = List.replicate g.Nodes.length [] := by rw [q3]; simp
 obtain rfl : m4 = [] := by rw [q4]; rfl
 refine oM (.ref 3 0 0 (List.length ([] : List Int)) none) ?_
 refine b7 ?_
 refine f8 ?_
 refine a0o ?_
 refine f6 ?_
 refine b8 ?_
 refine oM (.cptr (b5.av g).cells 0) ?_
 refine oP (.cptr (b5.av g).cells 0) ?_
 refine oP (.cptr (b5.av g).cells 6) ?_
 refine oP (.sl false 12 (List.map i7.av g.Nodes)) ?_
 refine x2 rfl ?_
 refine oM (.int .i64 0) ?_
 refine b7 ?_
 refine f8 ?_
 refine f6 ?_
 refine a1b (fun s : T1 => [(0, gR g), (4, (.ref 0 0 0 g.Nodes.length none)), (5, (.ref 1 0 0 g.Nodes.length none)), (6, (.ref 2 0 0 g.Nodes.length none)), (7, (.ref 3 0 0 (List.length s.2.2.2) none)), (51, (.sl false 12 (List.map i7.av g.Nodes)))]) (fun s : T1 => HS g.Nodes.length s.1 s.2.1 s.2.2.1 s.2.2.2 []) h zD zD (fun _ => ⟨rfl, rfl, rfl, rfl⟩)
  (b8e l1 l2 q3' ⟨(c9 rfl), (c9 rfl), gb, a6Y l1 zO rfl rfl rfl (by rw [a0M]; simp [f7]), a6Y l2 zO rfl rfl rfl (by rw [a0M]; simp [f7]), a6Y l3 zO rfl rfl rfl (by rw [a3n]; simp [f7]), a3w zO rfl rfl rfl zS, (c9 (i7.enc.blws 0)), trivial⟩) (fun i n s c hx hlt h => ?_) (fun s fr' S' h hw => ?_)
 ·unfold a9U at h
  obtain ⟨⟨hi, ho⟩, h⟩ := a0z h
  have h0 : HasSt (HS g.Nodes.length s.1 s.2.1 s.2.2.1 s.2.2.2 []) id g.Nodes.length s.1 s.2.1 s.2.2.1 0 s.2.2.2 [] := a6d zO zO
  have hl0 : (HS g.Nodes.length s.1 s.2.1 s.2.2.1 s.2.2.2 []).length = 5 + 5 * g.Nodes.length := a8I
  generalize hS0 : HS g.Nodes.length s.1 s.2.1 s.2.2.1 s.2.2.2 [] = S0 at h0 hl0
  refine f6 ?_
  refine b8 ?_
  refine oM (.int .i64 (i : Int)) ?_
  refine l8 rfl rfl (a0A hx) ?_
  refine oP (i7.av n) ?_
  refine b9W rfl hl0 rfl ?_
  refine oM (.int .i64 (i : Int)) ?_
  refine b3O (S' := n8 S0 (5 + 5 * g.Nodes.length) (.arr 0 (i7.cells n))) (xv := i7.av n) rfl rfl (by rw [n7, a3U]) rfl rfl nB (by rw [a4K]; rfl) ?_
  refine b7 ?_
  refine f8 ?_
  have hl1 : (n8 S0 (5 + 5 * g.Nodes.length) (.arr 0 (i7.cells n))).length = 5 + 5 * g.Nodes.length + 1 := by rw [a1v _ _ _ zO]; omega
  have k1 : ∀ k, k < 5 + 5 * g.Nodes.length → hp (n8 S0 (5 + 5 * g.Nodes.length) (.arr 0 (i7.cells n))) k = hp S0 k := fun k hk => by rw [n7, a1u zO]
  have k1n : hp (n8 S0 (5 + 5 * g.Nodes.length) (.arr 0 (i7.cells n))) (5 + 5 * g.Nodes.length) = .arr 0 (i7.cells n) := by rw [n7, a3U]
  generalize hS1 : n8 S0 (5 + 5 * g.Nodes.length) (.arr 0 (i7.cells n)) = S1 at hl1 k1 k1n
  refine f6 ?_
  refine a4v ?_
  refine oM (.ref 0 0 0 g.Nodes.length none) ?_
  refine oM (.int .i64 (i : Int)) ?_
  refine oM (.ref 1 0 0 g.Nodes.length none) ?_
  refine oM (.int .i64 (i : Int)) ?_
  refine oM (.cptr (b5.av g).cells 0) ?_
  refine oP (.cptr (b5.av g).cells 0) ?_
  refine oP (.cptr (b5.av g).cells 1) ?_
  refine oP (.sl false 1 (List.map (avI .u8) g.Kinds)) ?_
  refine x2 rfl ?_
  obtain ⟨a, ha, h⟩ := b9 h
  have eA := b9U (S := S1) ha
  rw [hl1] at eA
  refine a3g eA rfl ?_
  have hl2 : (a2Y S1 (5 + 5 * g.Nodes.length + 1) (5 + 5 * g.Nodes.length + 1 + 1) 1 a).length = 5 + 5 * g.Nodes.length + 3 := b4k hl1
  have k2 : ∀ k, k < 5 + 5 * g.Nodes.length + 1 → hp (a2Y S1 (5 + 5 * g.Nodes.length + 1) (5 + 5 * g.Nodes.length + 1 + 1) 1 a) k = hp S1 k := fun k hk => a1e zO zO
  have sA : isS (a2Y S1 (5 + 5 * g.Nodes.length + 1) (5 + 5 * g.Nodes.length + 1 + 1) 1 a) (5 + 5 * g.Nodes.length + 1) (5 + 5 * g.Nodes.length + 2) 1 a := a1Q zO
  generalize hS2 : a2Y S1 (5 + 5 * g.Nodes.length + 1) (5 + 5 * g.Nodes.length + 1 + 1) 1 a = S2 at hl2 k2 sA
  refine oM (.cptr (b5.av g).cells 0) ?_
  refine oP (.cptr (b5.av g).cells 0) ?_
  refine oP (.cptr (b5.av g).cells 1) ?_
  refine oP (.sl false 1 (List.map (avI .u8) g.Kinds)) ?_
  refine x2 rfl ?_
  obtain ⟨b, hb, h⟩ := b9 h
  have eB := b9U (S := S2) hb
  rw [hl2] at eB
  refine a3g eB rfl ?_
  have k3 : ∀ k, k < 5 + 5 * g.Nodes.length + 3 → hp (a2Y S2 (5 + 5 * g.Nodes.length + 3) (5 + 5 * g.Nodes.length + 3 + 1) 1 b) k = hp S2 k := fun k hk => a1e zO zO
  have sB : isS (a2Y S2 (5 + 5 * g.Nodes.length + 3) (5 + 5 * g.Nodes.length + 3 + 1) 1 b) (5 + 5 * g.Nodes.length + 3) (5 + 5 * g.Nodes.length + 4) 1 b := a1Q zO
  generalize hS3 : a2Y S2 (5 + 5 * g.Nodes.length + 3) (5 + 5 * g.Nodes.length + 3 + 1) 1 b = S3 at k3 sB
  obtain ⟨cs0, c01, c02, _⟩ := h0.c0
  obtain ⟨cs1, c11, c12, _⟩ := h0.c1
  have d0 : hp S3 0 = .arr 0 cs0 := by rw [k3 _ zO, k2 _ zO, k1 _ zO]; exact c01
  have d1 : hp S3 1 = .arr 0 cs1 := by rw [k3 _ zO, k2 _ zO, k1 _ zO]; exact c11
  refine o6 rfl rfl ⟨by omega, by omega⟩ ?_
  refine b3O (S' := n8 S3 0 (.arr 0 (cs0.set i (.ptr (5 + 5 * g.Nodes.length + 1) 0 0)))) (xv := .ptr (5 + 5 * g.Nodes.length + 1) 0 0) rfl rfl d0 rfl rfl (by simp [f7]; omega) (by simp [f7, splice, AV.cells]) ?_
  refine o6 rfl rfl ⟨by omega, by omega⟩ ?_
  refine b3O (S' := n8 (n8 S3 0 (.arr 0 (cs0.set i (.ptr (5 + 5 * g.Nodes.length + 1) 0 0)))) 1 (.arr 0 (cs1.set i (.ptr (5 + 5 * g.Nodes.length + 3) 0 0)))) (xv := .ptr (5 + 5 * g.Nodes.length + 3) 0 0) rfl rfl (by rw [n7, a1u zD]; exact d1) rfl rfl (by simp [f7]; omega) (by simp [f7, splice, AV.cells]) ?_
  have k5 : ∀ k, k ≠ 0 → k ≠ 1 → hp (n8 (n8 S3 0 (.arr 0 (cs0.set i (.ptr (5 + 5 * g.Nodes.length + 1) 0 0)))) 1 (.arr 0 (cs1.set i (.ptr (5 + 5 * g.Nodes.length + 3) 0 0)))) k = hp S3 k := fun k a b => by rw [n7, a1u b, n7, a1u a]
  have k50 : hp (n8 (n8 S3 0 (.arr 0 (cs0.set i (.ptr (5 + 5 * g.Nodes.length + 1) 0 0)))) 1 (.arr 0 (cs1.set i (.ptr (5 + 5 * g.Nodes.length + 3) 0 0)))) 0 = .arr 0 (cs0.set i (.ptr (5 + 5 * g.Nodes.length + 1) 0 0)) := by rw [n7, a1u zD, n7, a3U]
  have k51 : hp (n8 (n8 S3 0 (.arr 0 (cs0.set i (.ptr (5 + 5 * g.Nodes.length + 1) 0 0)))) 1 (.arr 0 (cs1.set i (.ptr (5 + 5 * g.Nodes.length + 3) 0 0)))) 1 = .arr 0 (cs1.set i (.ptr (5 + 5 * g.Nodes.length + 3) 0 0)) := by rw [n7, a3U]
  generalize hS5 : n8 (n8 S3 0 (.arr 0 (cs0.set i (.ptr (5 + 5 * g.Nodes.length + 1) 0 0)))) 1 (.arr 0 (cs1.set i (.ptr (5 + 5 * g.Nodes.length + 3) 0 0))) = S5 at k5 k50 k51
  refine b7 ?_
  refine And.intro (by simp [a1N, a7x, a1k]) ?_
  refine f8 ?_
  have hP : HasSt S5 (a2B (5 + 5 * g.Nodes.length) i) g.Nodes.length (s.1 ++ [a]) (s.2.1 ++ [b]) s.2.2.1 0 s.2.2.2 [] :=
   h0.push hi ho hlt c01 c11 (fun k a b c => by rw [k5 k b c, k3 k zO, k2 k zO, k1 k a]) k50 k51 (x7 sA (by rw [k5 _ zO zO, k3 _ zO]) (by rw [k5 _ zO zO, k3 _ zO])) (x7 sB (k5 _ zO zO) (k5 _ zO zO))
  refine a0o ?_
  refine f6 ?_
  refine b8 ?_
  refine a9O (v := i7.av n) rfl (by rw [k5 _ zO zO, k3 _ zO, k2 _ zO]; exact k1n) rfl ?_
  obtain ⟨nx, hnx, h⟩ := b9 h
  refine j6 (a2R hnx) rfl ⟨(.refl _), trivial⟩ (i8 ⟨(i7.enc.blw _ 0), trivial⟩) ((d8 .i64).blws 0) ?_
  refine x2 rfl ?_
  refine oM (.int .i64 0) ?_
  refine b7 ?_
  refine f8 ?_
  refine f6 ?_
  refine a1b (fun bf => [(0, gR g), (4, (.ref 0 0 0 g.Nodes.length none)), (5, (.ref 1 0 0 g.Nodes.length none)), (6, (.ref 2 0 0 g.Nodes.length none)), (7, (.ref 3 0 0 (List.length s.2.2.2) none)), (8, (.int .i64 (i : Int))), (51, (.sl false 12 (List.map i7.av g.Nodes))), (52, (.int .i64 (List.length g.Nodes : Int))), (53, (.int .i64 (i : Int))), (77, (.sl false 1 (List.map (avI .i64) nx)))]) (fun bf => HS g.Nodes.length (s.1 ++ [a]) (s.2.1 ++ [b]) bf s.2.2.2 []) h zD zD (fun _ => ⟨rfl, rfl, rfl, rfl⟩)
   (hP.wkM b4e ⟨(c9 rfl), (c9 rfl), gb, hP.r4 (Nat.le_refl _) rfl rfl (a0a zO zO zO zO), hP.r5 (Nat.le_refl _) rfl rfl (a0a zO zO zO zO), hP.r6 (Nat.le_refl _) rfl rfl (a0a zO zO zO zO), hP.r7 (Nat.le_refl _) rfl rfl rfl (a0a zO zO zO zO), (c9 rfl), (c9 (i7.enc.blws 0)), (c9 rfl), (c9 rfl), (c9 ((d8 .i64).blws 0)), trivial⟩) (fun i2 to bf c hx2 hlt2 h => ?_) (fun bf fr' S' h hw => ?_)
  ·unfold a9T at h
   obtain ⟨hbl, h⟩ := a0z h
   obtain ⟨y, hy, h⟩ := b9 h
   obtain ⟨l, hl, h⟩ := b9 h
   obtain ⟨y0, y1, y2, y3⟩ := a1H hy
   have hB : HasSt (HS g.Nodes.length (s.1 ++ [a]) (s.2.1 ++ [b]) bf s.2.2.2 []) id g.Nodes.length (s.1 ++ [a]) (s.2.1 ++ [b]) bf 0 s.2.2.2 [] := a6d zE zE
   generalize hSB : HS g.Nodes.length (s.1 ++ [a]) (s.2.1 ++ [b]) bf s.2.2.2 [] = SB at hB
   obtain ⟨cs, v, b1, b2, b3, b4⟩ := hB.befAt (j := to.toNat) zO
   have ey : bf.getD to.toNat [] = y := by simp [List.getD_eq_getElem?_getD, y3]
   rw [ey] at b3 b4
   refine f6 ?_
   refine b8 ?_
   refine l8 rfl rfl (a0A hx2) ?_
   refine oP (.int .i64 to) ?_
   refine oM (.int .i64 to) ?_
   refine b7 ?_
   refine f8 ?_
   refine b8 ?_
   refine oM (.ref 2 0 0 g.Nodes.length none) ?_
   refine oM (.int .i64 to) ?_
   refine oM (.ref 2 0 0 g.Nodes.length none) ?_
   refine oM (.int .i64 to) ?_
   refine o6 rfl rfl ⟨by omega, by omega⟩ ?_
   refine a9O rfl b1 (by simpa [f7] using b3) ?_
   refine oM (.int .i64 (i : Int)) ?_
   refine w9 (v' := (.sl true 1 (List.map (avI .i64) [(i : Int)]))) rfl (.refl _) rfl ?_
   refine a5s (S' := n8 SB (9 + 5 * to.toNat) (.arr (v + 1) (flat (avI .i64) l))) (d8 .i64) rfl (a3O [(i : Int)]) b4 hl rfl ?_
   refine o6 rfl rfl ⟨by omega, by omega⟩ ?_
   refine b3O (S' := n8 (n8 SB (9 + 5 * to.toNat) (.arr (v + 1) (flat (avI .i64) l))) 2 (.arr 0 (cs.set to.toNat (.ref (9 + 5 * to.toNat) (v + 1) 0 l.length none)))) (xv := .ref (9 + 5 * to.toNat) (v + 1) 0 l.length none) rfl rfl (by rw [n7, a1u zO]; exact b1) rfl rfl (by simp [f7]; omega) (by simp [f7, splice, AV.cells]) ?_
   refine b7 ?_
   have hC := hB.setBef (j := to.toNat) (v := v + 1) (l := l) zO y1 b1
   cases h
   exact a2F rfl (hC.wkI ⟨(c9 rfl), (c9 rfl), gb, hC.r4 (Nat.le_refl _) rfl rfl rfl, hC.r5 (Nat.le_refl _) rfl rfl rfl, hC.r6 (Nat.le_refl _) rfl rfl rfl, hC.r7 (Nat.le_refl _) rfl rfl rfl rfl, (c9 rfl), (c9 (i7.enc.blws 0)), (c9 rfl), (c9 rfl), (c9 ((d8 .i64).blws 0)), trivial⟩)
  ·refine a4w hw ?_
   have hB : HasSt (HS g.Nodes.length (s.1 ++ [a]) (s.2.1 ++ [b]) bf s.2.2.2 []) id g.Nodes.length (s.1 ++ [a]) (s.2.1 ++ [b]) bf 0 s.2.2.2 [] := a6d zE zE
   have e3 : hp (HS g.Nodes.length (s.1 ++ [a]) (s.2.1 ++ [b]) bf s.2.2.2 []) 3 = .arr 0 (flat (avI .i64) s.2.2.2) := a4y zO
   generalize hSB : HS g.Nodes.length (s.1 ++ [a]) (s.2.1 ++ [b]) bf s.2.2.2 [] = SB at hB e3
   refine b8 ?_
   refine oM (.ref 3 0 0 (List.length s.2.2.2) none) ?_
   refine oM (.int .i64 (i : Int)) ?_
   refine w9 (v' := (.sl true 1 (List.map (avI .i64) [(i : Int)]))) rfl (.refl _) rfl ?_
   obtain ⟨l, hl, h⟩ := b9 h
   refine a5s (S' := n8 SB 3 (.arr 1 (flat (avI .i64) l))) (d8 .i64) rfl (a3O [(i : Int)]) e3 hl rfl ?_
   refine oM (.ref 3 1 0 (List.length l) none) ?_
   refine b7 ?_
   have hC := hB.setTodo (v := 1) (todo' := l)
   cases h
   exact a2F rfl (hC.wkI ⟨(c9 rfl), (c9 rfl), gb, hC.r4 (Nat.le_refl _) rfl rfl rfl, hC.r5 (Nat.le_refl _) rfl rfl rfl, hC.r6 (Nat.le_refl _) rfl rfl rfl, hC.r7 (Nat.le_refl _) rfl rfl rfl rfl, (c9 (i7.enc.blws 0)), trivial⟩)
 ·refine a4w hw ?_
  obtain ⟨⟨li, lo, lb⟩, h⟩ := a0z h
  have h0 : HasSt (HS g.Nodes.length s.1 s.2.1 s.2.2.1 s.2.2.2 []) id g.Nodes.length s.1 s.2.1 s.2.2.1 0 s.2.2.2 [] := a6d zO zO
  have hl0 : (HS g.Nodes.length s.1 s.2.1 s.2.2.1 s.2.2.2 []).length = 5 + 5 * g.Nodes.length := a8I
  generalize hS0 : HS g.Nodes.length s.1 s.2.1 s.2.2.1 s.2.2.2 [] = S0 at h0 hl0
  refine f6 ?_
  refine b8 ?_
  refine oM (.cptr (b5.av g).cells 0) ?_
  refine oP (.cptr (b5.av g).cells 0) ?_
  refine oP (.cptr (b5.av g).cells 6) ?_
  refine oP (.sl false 12 (List.map i7.av g.Nodes)) ?_
  refine x2 rfl ?_
  obtain ⟨w, hw1, h⟩ := b9 h
  refine b9X (x := false) (S' := n8 S0 (5 + 5 * g.Nodes.length) (.arr 0 (flat avB w))) hl0 a8C rfl rfl rfl rfl hw1 rfl ?_
  refine oM (.ref (5 + 5 * g.Nodes.length) 0 0 (List.length w) none) ?_
  refine b7 ?_
  refine f8 ?_
  have hP : HasSt (n8 S0 (5 + 5 * g.Nodes.length) (.arr 0 (flat avB w))) (a5A (5 + 5 * g.Nodes.length)) g.Nodes.length s.1 s.2.1 s.2.2.1 0 s.2.2.2 w := h0.newWaits (fun k hk => by rw [n7, a1u zO]) (by rw [n7, a3U])
  refine a0o ?_
  refine f6 ?_
  refine b8 ?_
  refine oM (.ref (5 + 5 * g.Nodes.length) 0 0 (List.length w) none) ?_
  refine a4X rfl ?_
  refine oM (.int .i64 0) ?_
  refine b7 ?_
  refine f8 ?_
  refine f6 ?_
  refine a3R (fun w => [(0, gR g), (4, (.ref 0 0 0 g.Nodes.length none)), (5, (.ref 1 0 0 g.Nodes.length none)), (6, (.ref 2 0 0 g.Nodes.length none)), (7, (.ref 3 0 0 (List.length s.2.2.2) none)), (12, (.ref 4 0 0 (List.length w) none))]) (fun w => HS g.Nodes.length s.1 s.2.1 s.2.2.1 s.2.2.2 w) h zD zD (fun _ => ⟨rfl, rfl, rfl, rfl⟩)
   (hP.wkM b4g ⟨(c9 rfl), (c9 rfl), gb, hP.r4 (m' := fun i => some (a5A (5 + 5 * g.Nodes.length) i)) (Nat.le_refl _) rfl rfl (a0b zO), hP.r5 (m' := fun i => some (a5A (5 + 5 * g.Nodes.length) i)) (Nat.le_refl _) rfl rfl (a0b zO), hP.r6 (m' := fun i => some (a5A (5 + 5 * g.Nodes.length) i)) (Nat.le_refl _) rfl rfl (a0b zO), hP.r7 (m' := fun i => some (a5A (5 + 5 * g.Nodes.length) i)) (Nat.le_refl _) rfl rfl rfl (a0b zO), hP.r12 (Nat.le_refl _) rfl rfl rfl b4f, trivial⟩) (fun i w c hlt h => ?_) (fun w fr' S' h hw => ?_)
  ·unfold a7e at h
   obtain ⟨y, hy, h⟩ := b9 h
   have hB : HasSt (HS g.Nodes.length s.1 s.2.1 s.2.2.1 s.2.2.2 w) id g.Nodes.length s.1 s.2.1 s.2.2.1 0 s.2.2.2 w := a6d zO zO
   generalize hSB : HS g.Nodes.length s.1 s.2.1 s.2.2.1 s.2.2.2 w = SB at hB
   refine f6 ?_
   refine b8 ?_
   refine oM (.int .i64 (i : Int)) ?_
   refine oM (.int .i64 (i : Int)) ?_
   refine b7 ?_
   refine f8 ?_
   refine b8 ?_
   refine oM (.ref 4 0 0 (List.length w) none) ?_
   refine oM (.int .i64 (i : Int)) ?_
   refine o6 rfl rfl ⟨(j4 hy).1, (j4 hy).2.1⟩ ?_
   refine b3F (y := y) (y' := true) (S' := n8 SB 4 (.arr 0 (flat avB (List.set w (Int.toNat (i : Int)) true)))) a8C rfl rfl hB.c4 zA (j4 hy).2.2 rfl rfl nB rfl rfl ?_
   refine b7 ?_
   have hC := hB.setWaits (waits' := List.set w (Int.toNat (i : Int)) true)
   cases h
   exact a2F rfl (hC.wkI ⟨(c9 rfl), (c9 rfl), gb, hC.r4 (Nat.le_refl _) rfl rfl rfl, hC.r5 (Nat.le_refl _) rfl rfl rfl, hC.r6 (Nat.le_refl _) rfl rfl rfl, hC.r7 (Nat.le_refl _) rfl rfl rfl rfl, hC.r12 (Nat.le_refl _) rfl rfl (by rw [List.length_set]) rfl, trivial⟩)
  ·refine a4w hw ?_
   have hQ : HasSt (HS g.Nodes.length s.1 s.2.1 s.2.2.1 s.2.2.2 w) id g.Nodes.length s.1 s.2.1 s.2.2.1 0 s.2.2.2 w := a6d zO zO
   refine f6 ?_
   refine a8E (fun q : T2 => [(0, gR g), (4, (.ref 0 0 0 g.Nodes.length none)), (5, (.ref 1 0 0 g.Nodes.length none)), (6, (.ref 2 0 0 g.Nodes.length none)), (7, (.ref 3 0 0 (List.length q.2.2.1) none)), (12, (.ref 4 0 0 (List.length q.2.2.2) none))]) (fun q : T2 => HS g.Nodes.length q.1 q.2.1 s.2.2.1 q.2.2.1 q.2.2.2) h
    (hQ.wkI ⟨gb, hQ.r4 (Nat.le_refl _) rfl rfl rfl, hQ.r5 (Nat.le_refl _) rfl rfl rfl, hQ.r6 (Nat.le_refl _) rfl rfl rfl, hQ.r7 (Nat.le_refl _) rfl rfl rfl rfl, hQ.r12 (Nat.le_refl _) rfl rfl rfl rfl, trivial⟩) (fun q c h => ?_) (fun q fr' S' h hw => ?_)
   ·unfold a5B at h
    obtain ⟨⟨li, lo, lb⟩, h⟩ := a0z h
    have h0 : HasSt (HS g.Nodes.length q.1 q.2.1 s.2.2.1 q.2.2.1 q.2.2.2) id g.Nodes.length q.1 q.2.1 s.2.2.1 0 q.2.2.1 q.2.2.2 := a6d zO zO
    have e3 : hp (HS g.Nodes.length q.1 q.2.1 s.2.2.1 q.2.2.1 q.2.2.2) 3 = .arr 0 (flat (avI .i64) q.2.2.1) := a4y zO
    generalize hS0 : HS g.Nodes.length q.1 q.2.1 s.2.2.1 q.2.2.1 q.2.2.2 = S0 at h0 e3
    refine a0o ?_
    refine f6 ?_
    refine b8 ?_
    refine oM (.ref 3 0 0 (List.length q.2.2.1) none) ?_
    refine a4X rfl ?_
    refine oP (.bool (decide ((List.length q.2.2.1 : Int) > 0))) ?_
    refine b7 ?_
    refine f8 ?_
    refine f6 ?_
    refine m7 (t := (decide ((List.length q.2.2.1 : Int) > 0))) rfl (fun hb => ?_) (fun hb => ?_)
    ·rw [g6 hb] at h
     refine i6 ?_
     refine f8 ?_
     refine j8 ?_
     refine f6 ?_
     refine b8 ?_
     refine oM (.ref 3 0 0 (List.length q.2.2.1) none) ?_
     refine oM (.ref 3 0 0 (List.length q.2.2.1) none) ?_
     refine a4X rfl ?_
     refine oP (.int .i64 (I64 ((List.length q.2.2.1 : Int) - 1))) ?_
     obtain ⟨i, hi, h⟩ := b9 h
     refine o6 rfl rfl ⟨(j4 hi).1, (j4 hi).2.1⟩ ?_
     refine a8B (d8 .i64) rfl e3 zA (j4 hi).2.2 rfl (.refl _) ?_
     refine oM (.int .i64 i) ?_
     refine b7 ?_
     refine f8 ?_
     refine f6 ?_
     refine b8 ?_
     refine oM (.ref 4 0 0 (List.length q.2.2.2) none) ?_
     refine oM (.int .i64 i) ?_
     refine oM (.ref 3 0 0 (List.length q.2.2.1) none) ?_
     refine oM (.ref 3 0 0 (List.length q.2.2.1) none) ?_
     refine a4X rfl ?_
     refine oP (.int .i64 (I64 ((List.length q.2.2.1 : Int) - 1))) ?_
     obtain ⟨td, htd, h⟩ := b9 h
     refine b9G rfl rfl htd ?_
     refine oM (.ref 3 0 (0 + 0 * f7 none) (Int.toNat (I64 ((List.length q.2.2.1 : Int) - 1))) none) ?_
     obtain ⟨y, hy, h⟩ := b9 h
     refine o6 rfl rfl ⟨(j4 hy).1, (j4 hy).2.1⟩ ?_
     refine b3F (y := y) (y' := false) (S' := n8 S0 4 (.arr 0 (flat avB (List.set q.2.2.2 (Int.toNat i) false)))) a8C rfl rfl h0.c4 zA (j4 hy).2.2 rfl rfl nB rfl rfl ?_
     refine b7 ?_
     refine f8 ?_
     obtain ⟨t1, t2⟩ := a6T htd
     have tl : (I64 ((List.length q.2.2.1 : Int) - 1)).toNat = td.length := by rw [t2]; simp; omega
     have tp : ∃ r, q.2.2.1 = td ++ r := ⟨q.2.2.1.drop (I64 ((List.length q.2.2.1 : Int) - 1)).toNat, by rw [t2]; simp⟩
     have hA := (h0.setWaits (waits' := List.set q.2.2.2 (Int.toNat i) false)).popTodo tp
     refine a0o ?_
     refine f6 ?_
     refine b8 ?_
     refine oM (.cptr (b5.av g).cells 0) ?_
     refine oP (.cptr (b5.av g).cells 0) ?_
     refine oP (.cptr (b5.av g).cells 6) ?_
     refine oP (.sl false 12 (List.map i7.av g.Nodes)) ?_
     refine oM (.int .i64 i) ?_
     obtain ⟨nd, hnd, h⟩ := b9 h
     refine l8 rfl rfl hnd ?_
     refine oP (i7.av nd) ?_
     obtain ⟨nx, hnx, h⟩ := b9 h
     refine j6 (a2R hnx) rfl ⟨(.refl _), trivial⟩ (i8 ⟨(i7.enc.blw _ 0), trivial⟩) ((d8 .i64).blws 0) ?_
     refine x2 rfl ?_
     refine oM (.int .i64 0) ?_
     refine b7 ?_
     refine f8 ?_
     refine f6 ?_
     refine a1b (fun outs => [(0, gR g), (4, (.ref 0 0 0 g.Nodes.length none)), (5, (.ref 1 0 0 g.Nodes.length none)), (6, (.ref 2 0 0 g.Nodes.length none)), (7, (.ref 3 0 0 (List.length td) none)), (12, (.ref 4 0 0 (List.length (List.set q.2.2.2 (Int.toNat i) false)) none)), (14, (.int .i64 i)), (138, (.sl false 1 (List.map (avI .i64) nx)))]) (fun outs => HS g.Nodes.length q.1 outs s.2.2.1 td (List.set q.2.2.2 (Int.toNat i) false)) h zD zD (fun _ => ⟨rfl, rfl, rfl, rfl⟩)
      (hA.wkI ⟨(c9 rfl), (c9 rfl), gb, hA.r4 (Nat.le_refl _) rfl rfl rfl, hA.r5 (Nat.le_refl _) rfl rfl rfl, hA.r6 (Nat.le_refl _) rfl rfl rfl, hA.r7 (Nat.le_refl _) rfl rfl tl rfl, hA.r12 (Nat.le_refl _) rfl rfl (by rw [List.length_set]) rfl, (c9 rfl), (c9 ((d8 .i64).blws 0)), trivial⟩) (fun i2 to outs c hx hlt h => ?_) (fun outs fr' S' h hw => ?_)
     ·unfold b4j at h
      obtain ⟨hol, h⟩ := a0z h
      obtain ⟨a, ha, h⟩ := b9 h
      obtain ⟨b, hb, h⟩ := b9 h
      obtain ⟨o, ho, h⟩ := b9 h
      obtain ⟨a0, a1, a2, a3⟩ := a1H ha
      obtain ⟨b0, b1, b2, b3⟩ := a1H hb
      have hB : HasSt (HS g.Nodes.length q.1 outs s.2.2.1 td (List.set q.2.2.2 (Int.toNat i) false)) id g.Nodes.length q.1 outs s.2.2.1 0 td (List.set q.2.2.2 (Int.toNat i) false) := a6d zO zO
      generalize hSB : HS g.Nodes.length q.1 outs s.2.2.1 td (List.set q.2.2.2 (Int.toNat i) false) = SB at hB
      refine f6 ?_
      refine b8 ?_
      refine l8 rfl rfl (a0A hx) ?_
      refine oP (.int .i64 to) ?_
      refine oM (.int .i64 to) ?_
      refine b7 ?_
      refine f8 ?_
      refine b8 ?_
      refine oM (.ref 1 0 0 g.Nodes.length none) ?_
      refine oM (.int .i64 i) ?_
      refine o6 rfl rfl ⟨by omega, by omega⟩ ?_
      obtain ⟨cs1, u1, u2⟩ := hB.outAt (j := i.toNat) a1
      refine a9O rfl u1 (by simpa [f7] using u2) ?_
      refine oM (.ref 0 0 0 g.Nodes.length none) ?_
      refine oM (.int .i64 to) ?_
      refine o6 rfl rfl ⟨by omega, by omega⟩ ?_
      obtain ⟨cs0, w1, w2⟩ := hB.inAt (j := to.toNat) b1
      refine a9O rfl w1 (by simpa [f7] using w2) ?_
      obtain ⟨va, sa⟩ := hB.c6 _ _ a3
      obtain ⟨vb, sb⟩ := hB.c5 _ _ b3
      refine a3g (c4b ho sa sb (by simp [id]; omega)) rfl ?_
      refine b7 ?_
      have hC := hB.setOut (j := i.toNat) (v := va) (v' := va + 1) (t := o.2) a3
      cases h
      exact a2F rfl (hC.wkI ⟨(c9 rfl), (c9 rfl), gb, hC.r4 (Nat.le_refl _) rfl rfl rfl, hC.r5 (Nat.le_refl _) rfl rfl rfl, hC.r6 (Nat.le_refl _) rfl rfl rfl, hC.r7 (Nat.le_refl _) rfl rfl rfl rfl, hC.r12 (Nat.le_refl _) rfl rfl rfl rfl, (c9 rfl), (c9 ((d8 .i64).blws 0)), trivial⟩)
     ·refine a4w hw ?_
      obtain ⟨hoN, h⟩ := a0z h
      obtain ⟨oi, hoi, h⟩ := b9 h
      obtain ⟨c0, hc0, h⟩ := b9 h
      obtain ⟨nd2, hnd2, h⟩ := b9 h
      obtain ⟨wr, hwr, h⟩ := b9 h
      obtain ⟨a0, a1, a2, a3⟩ := a1H hoi
      have hloN : outs.length ≤ g.Nodes.length := by omega
      have hB : HasSt (HS g.Nodes.length q.1 outs s.2.2.1 td (List.set q.2.2.2 (Int.toNat i) false)) id g.Nodes.length q.1 outs s.2.2.1 0 td (List.set q.2.2.2 (Int.toNat i) false) := a6d zO hloN
      have hlB : (HS g.Nodes.length q.1 outs s.2.2.1 td (List.set q.2.2.2 (Int.toNat i) false)).length = 5 + 5 * g.Nodes.length := a8I
      generalize hSB : HS g.Nodes.length q.1 outs s.2.2.1 td (List.set q.2.2.2 (Int.toNat i) false) = SB at hB hlB
      refine f6 ?_
      refine b8 ?_
      refine oM (.ref 1 0 0 g.Nodes.length none) ?_
      refine oM (.int .i64 i) ?_
      refine o6 rfl rfl ⟨by omega, by omega⟩ ?_
      obtain ⟨cs1, u1, u2⟩ := hB.outAt (j := i.toNat) a1
      refine a9O rfl u1 (by simpa [f7] using u2) ?_
      obtain ⟨va, sa⟩ := hB.c6 _ _ a3
      have eC := b9V hc0 sa zI
      rw [hlB] at eC
      refine a3g eC rfl ?_
      refine oM (.ptr (5 + 5 * g.Nodes.length) 0 0) ?_
      refine b7 ?_
      refine f8 ?_
      have sC : isS (a2Y SB (5 + 5 * g.Nodes.length) (5 + 5 * g.Nodes.length + 1) 1 c0) (5 + 5 * g.Nodes.length) (5 + 5 * g.Nodes.length + 1) 1 c0 := a1Q zO
      have hC : HasSt (a2Y SB (5 + 5 * g.Nodes.length) (5 + 5 * g.Nodes.length + 1) 1 c0) id g.Nodes.length q.1 outs s.2.2.1 0 td (List.set q.2.2.2 (Int.toNat i) false) := hB.ext (fun k hk => a1e zO zO)
      generalize hSC : a2Y SB (5 + 5 * g.Nodes.length) (5 + 5 * g.Nodes.length + 1) 1 c0 = SC at sC hC
      refine a0o ?_
      refine f6 ?_
      refine b8 ?_
      refine oM (.cptr (b5.av g).cells 0) ?_
      refine oP (.cptr (b5.av g).cells 0) ?_
      refine oP (.cptr (b5.av g).cells 6) ?_
      refine oP (.sl false 12 (List.map i7.av g.Nodes)) ?_
      refine oM (.int .i64 i) ?_
      refine l8 rfl rfl hnd2 ?_
      refine oP (i7.av nd2) ?_
      refine j6 (a3W hwr) rfl ⟨(.refl _), trivial⟩ (i8 ⟨(i7.enc.blw _ 0), trivial⟩) ((d8 .i64).blws 0) ?_
      refine x2 rfl ?_
      refine oM (.int .i64 0) ?_
      refine b7 ?_
      refine f8 ?_
      refine f6 ?_
      refine a1b (fun _ => [(0, gR g), (4, (.ref 0 0 0 g.Nodes.length none)), (5, (.ref 1 0 0 g.Nodes.length none)), (6, (.ref 2 0 0 g.Nodes.length none)), (7, (.ref 3 0 0 (List.length td) none)), (12, (.ref 4 0 0 (List.length (List.set q.2.2.2 (Int.toNat i) false)) none)), (14, (.int .i64 i)), (17, (.ptr (5 + 5 * g.Nodes.length) 0 0)), (166, (.sl false 1 (List.map (avI .i64) wr)))]) (fun c => HT g.Nodes.length q.1 outs s.2.2.1 td (List.set q.2.2.2 (Int.toNat i) false) c) h zD zD (fun _ => ⟨rfl, rfl, rfl, rfl⟩)
       (hC.wkT sC ⟨(c9 rfl), (c9 rfl), gb, hC.r4 (Nat.le_add_right _ _) rfl (a0q zO) rfl, hC.r5 (Nat.le_add_right _ _) rfl (a0q zO) rfl, hC.r6 (Nat.le_add_right _ _) rfl (a0q zO) rfl, hC.r7 (Nat.le_add_right _ _) rfl (a0q zO) rfl rfl, hC.r12 (Nat.le_add_right _ _) rfl (a0q zO) rfl rfl, (c9 rfl), HasSt.r17 sC, (c9 ((d8 .i64).blws 0)), trivial⟩) (fun i2 p c1 c hx hlt h => ?_) (fun c1 fr' S' h hw => ?_)
      ·unfold a9V at h
       obtain ⟨d, hd, h⟩ := b9 h
       have hD : HasSt (HT g.Nodes.length q.1 outs s.2.2.1 td (List.set q.2.2.2 (Int.toNat i) false) c1) id g.Nodes.length q.1 outs s.2.2.1 0 td (List.set q.2.2.2 (Int.toNat i) false) := b5X zO hloN
       have sD : isS (HT g.Nodes.length q.1 outs s.2.2.1 td (List.set q.2.2.2 (Int.toNat i) false) c1) (5 + 5 * g.Nodes.length) (5 + 5 * g.Nodes.length + 1) 0 c1 := c1N
       generalize hSD : HT g.Nodes.length q.1 outs s.2.2.1 td (List.set q.2.2.2 (Int.toNat i) false) c1 = SD at hD sD
       refine f6 ?_
       refine b8 ?_
       refine l8 rfl rfl (a0A hx) ?_
       refine oP (.int .i64 p) ?_
       refine oM (.int .i64 p) ?_
       refine b7 ?_
       refine f8 ?_
       refine b8 ?_
       refine oM (.ptr (5 + 5 * g.Nodes.length) 0 0) ?_
       refine oM (.int .i64 p) ?_
       obtain ⟨_, eD⟩ := c2B hd sD zO
       refine a3g eD rfl ?_
       refine b7 ?_
       have sE : isS (a2Y SD (5 + 5 * g.Nodes.length) (5 + 5 * g.Nodes.length + 1) (0 + 1) d) (5 + 5 * g.Nodes.length) (5 + 5 * g.Nodes.length + 1) 1 d := a1Q zO
       have hE : HasSt (a2Y SD (5 + 5 * g.Nodes.length) (5 + 5 * g.Nodes.length + 1) (0 + 1) d) id g.Nodes.length q.1 outs s.2.2.1 0 td (List.set q.2.2.2 (Int.toNat i) false) := hD.ext (fun k hk => a1e zO zO)
       cases h
       exact a2F rfl (hE.wkT sE ⟨(c9 rfl), (c9 rfl), gb, hE.r4 (Nat.le_add_right _ _) rfl (a0q zO) rfl, hE.r5 (Nat.le_add_right _ _) rfl (a0q zO) rfl, hE.r6 (Nat.le_add_right _ _) rfl (a0q zO) rfl, hE.r7 (Nat.le_add_right _ _) rfl (a0q zO) rfl rfl, hE.r12 (Nat.le_add_right _ _) rfl (a0q zO) rfl rfl, (c9 rfl), HasSt.r17 sE, (c9 ((d8 .i64).blws 0)), trivial⟩)
      ·refine a4w hw ?_
       obtain ⟨nd3, hnd3, h⟩ := b9 h
       obtain ⟨rd, hrd, h⟩ := b9 h
       have hC : HasSt (HT g.Nodes.length q.1 outs s.2.2.1 td (List.set q.2.2.2 (Int.toNat i) false) c1) id g.Nodes.length q.1 outs s.2.2.1 0 td (List.set q.2.2.2 (Int.toNat i) false) := b5X zO hloN
       have sC : isS (HT g.Nodes.length q.1 outs s.2.2.1 td (List.set q.2.2.2 (Int.toNat i) false) c1) (5 + 5 * g.Nodes.length) (5 + 5 * g.Nodes.length + 1) 0 c1 := c1N
       generalize hSD : HT g.Nodes.length q.1 outs s.2.2.1 td (List.set q.2.2.2 (Int.toNat i) false) c1 = SD at hC sC
       refine a0o ?_
       refine f6 ?_
       refine b8 ?_
       refine oM (.cptr (b5.av g).cells 0) ?_
       refine oP (.cptr (b5.av g).cells 0) ?_
       refine oP (.cptr (b5.av g).cells 6) ?_
       refine oP (.sl false 12 (List.map i7.av g.Nodes)) ?_
       refine oM (.int .i64 i) ?_
       refine l8 rfl rfl hnd3 ?_
       refine oP (i7.av nd3) ?_
       refine j6 (b0O hrd) rfl ⟨(.refl _), trivial⟩ (i8 ⟨(i7.enc.blw _ 0), trivial⟩) ((d8 .i64).blws 0) ?_
       refine x2 rfl ?_
       refine oM (.int .i64 0) ?_
       refine b7 ?_
       refine f8 ?_
       refine f6 ?_
       refine a1b (fun _ => [(0, gR g), (4, (.ref 0 0 0 g.Nodes.length none)), (5, (.ref 1 0 0 g.Nodes.length none)), (6, (.ref 2 0 0 g.Nodes.length none)), (7, (.ref 3 0 0 (List.length td) none)), (12, (.ref 4 0 0 (List.length (List.set q.2.2.2 (Int.toNat i) false)) none)), (14, (.int .i64 i)), (17, (.ptr (5 + 5 * g.Nodes.length) 0 0)), (183, (.sl false 1 (List.map (avI .i64) rd)))]) (fun c => HT g.Nodes.length q.1 outs s.2.2.1 td (List.set q.2.2.2 (Int.toNat i) false) c) h zD zD (fun _ => ⟨rfl, rfl, rfl, rfl⟩)
        (hC.wkT sC ⟨(c9 rfl), (c9 rfl), gb, hC.r4 (Nat.le_add_right _ _) rfl (a0q zO) rfl, hC.r5 (Nat.le_add_right _ _) rfl (a0q zO) rfl, hC.r6 (Nat.le_add_right _ _) rfl (a0q zO) rfl, hC.r7 (Nat.le_add_right _ _) rfl (a0q zO) rfl rfl, hC.r12 (Nat.le_add_right _ _) rfl (a0q zO) rfl rfl, (c9 rfl), HasSt.r17 sC, (c9 ((d8 .i64).blws 0)), trivial⟩) (fun i2 p c1 c hx hlt h => ?_) (fun c1 fr' S' h hw => ?_)
       ·unfold a9W at h
        obtain ⟨d, hd, h⟩ := b9 h
        have hD : HasSt (HT g.Nodes.length q.1 outs s.2.2.1 td (List.set q.2.2.2 (Int.toNat i) false) c1) id g.Nodes.length q.1 outs s.2.2.1 0 td (List.set q.2.2.2 (Int.toNat i) false) := b5X zO hloN
        have sD : isS (HT g.Nodes.length q.1 outs s.2.2.1 td (List.set q.2.2.2 (Int.toNat i) false) c1) (5 + 5 * g.Nodes.length) (5 + 5 * g.Nodes.length + 1) 0 c1 := c1N
        generalize hSE : HT g.Nodes.length q.1 outs s.2.2.1 td (List.set q.2.2.2 (Int.toNat i) false) c1 = SE at hD sD
        refine f6 ?_
        refine b8 ?_
        refine l8 rfl rfl (a0A hx) ?_
        refine oP (.int .i64 p) ?_
        refine oM (.int .i64 p) ?_
        refine b7 ?_
        refine f8 ?_
        refine b8 ?_
        refine oM (.ptr (5 + 5 * g.Nodes.length) 0 0) ?_
        refine oM (.int .i64 p) ?_
        obtain ⟨_, eD⟩ := c2C hd sD zO
        refine a3g eD rfl ?_
        refine b7 ?_
        have sE : isS (a2Y SE (5 + 5 * g.Nodes.length) (5 + 5 * g.Nodes.length + 1) (0 + 1) d) (5 + 5 * g.Nodes.length) (5 + 5 * g.Nodes.length + 1) 1 d := a1Q zO
        have hE : HasSt (a2Y SE (5 + 5 * g.Nodes.length) (5 + 5 * g.Nodes.length + 1) (0 + 1) d) id g.Nodes.length q.1 outs s.2.2.1 0 td (List.set q.2.2.2 (Int.toNat i) false) := hD.ext (fun k hk => a1e zO zO)
        cases h
        exact a2F rfl (hE.wkT sE ⟨(c9 rfl), (c9 rfl), gb, hE.r4 (Nat.le_add_right _ _) rfl (a0q zO) rfl, hE.r5 (Nat.le_add_right _ _) rfl (a0q zO) rfl, hE.r6 (Nat.le_add_right _ _) rfl (a0q zO) rfl, hE.r7 (Nat.le_add_right _ _) rfl (a0q zO) rfl rfl, hE.r12 (Nat.le_add_right _ _) rfl (a0q zO) rfl rfl, (c9 rfl), HasSt.r17 sE, (c9 ((d8 .i64).blws 0)), trivial⟩)
       ·refine a4w hw ?_
        obtain ⟨ii, hii, h⟩ := b9 h
        obtain ⟨o, ho, h⟩ := b9 h
        obtain ⟨d0, d1, d2, d3⟩ := a1H hii
        have hC : HasSt (HT g.Nodes.length q.1 outs s.2.2.1 td (List.set q.2.2.2 (Int.toNat i) false) c1) id g.Nodes.length q.1 outs s.2.2.1 0 td (List.set q.2.2.2 (Int.toNat i) false) := b5X zO hloN
        have sC : isS (HT g.Nodes.length q.1 outs s.2.2.1 td (List.set q.2.2.2 (Int.toNat i) false) c1) (5 + 5 * g.Nodes.length) (5 + 5 * g.Nodes.length + 1) 0 c1 := c1N
        generalize hSD : HT g.Nodes.length q.1 outs s.2.2.1 td (List.set q.2.2.2 (Int.toNat i) false) c1 = SD at hC sC
        refine a0o ?_
        refine f6 ?_
        refine b8 ?_
        refine oM (.ref 0 0 0 g.Nodes.length none) ?_
        refine oM (.int .i64 i) ?_
        refine o6 rfl rfl ⟨by omega, by omega⟩ ?_
        obtain ⟨cs0, w1, w2⟩ := hC.inAt (j := i.toNat) d1
        refine a9O rfl w1 (by simpa [f7] using w2) ?_
        refine oM (.ptr (5 + 5 * g.Nodes.length) 0 0) ?_
        obtain ⟨vi, si⟩ := hC.c5 _ _ d3
        refine a3g (c4b ho si sC (by simp [id]; omega)) rfl ?_
        have hE := hC.setIn (j := i.toNat) (v := vi) (v' := vi + 1) (t := o.2) d3
        simp only [id] at hE ⊢
        generalize hSE : a2Y SD (5 + 5 * i.toNat) (6 + 5 * i.toNat) (vi + 1) o.2 = SE at hE ⊢
        refine oP (.bool (!o.1)) ?_
        refine b7 ?_
        refine f8 ?_
        refine f6 ?_
        refine m7 (t := (!o.1)) rfl (fun hb => ?_) (fun hb => ?_)
        ·rw [g6 hb] at h
         refine y6 ?_
         refine s4 ?_
         refine s6 ?_
         cases h
         exact a2F rfl (hE.wkI ⟨gb, hE.r4 (Nat.le_refl _) rfl rfl rfl, hE.r5 (Nat.le_refl _) rfl rfl rfl, hE.r6 (Nat.le_refl _) rfl rfl rfl, hE.r7 (Nat.le_refl _) rfl rfl rfl rfl, hE.r12 (Nat.le_refl _) rfl rfl rfl rfl, trivial⟩)
        ·rw [g7 hb] at h
         refine i6 ?_
         refine f8 ?_
         obtain ⟨bs, hbs, h⟩ := b9 h
         obtain ⟨e0, e1, e2, e4⟩ := a1H hbs
         obtain ⟨cs2, v2, g1, g2, g3, g4⟩ := hE.befAt (j := i.toNat) zO
         have ey : s.2.2.1.getD i.toNat [] = bs := by simp [List.getD_eq_getElem?_getD, e4]
         rw [ey] at g3 g4
         refine f6 ?_
         refine b8 ?_
         refine oM (.ref 2 0 0 g.Nodes.length none) ?_
         refine oM (.int .i64 i) ?_
         refine o6 rfl rfl ⟨by omega, by omega⟩ ?_
         refine a9O rfl g1 (by simpa [f7] using g3) ?_
         refine a4X rfl ?_
         refine oM (.int .i64 0) ?_
         refine b7 ?_
         refine f8 ?_
         have r9 : obF g.Nodes.length (q.1.set i.toNat o.2) outs s.2.2.1 td (List.set q.2.2.2 (Int.toNat i) false) (9 + 5 * i.toNat) = .arr 0 (flat (avI .i64) bs) := by rw [b0P, ey]
         refine a1b (xs := bs) (fun p : List Int × List Bool => [(0, gR g), (4, (.ref 0 0 0 g.Nodes.length none)), (5, (.ref 1 0 0 g.Nodes.length none)), (6, (.ref 2 0 0 g.Nodes.length none)), (7, (.ref 3 0 0 (List.length p.1) none)), (12, (.ref 4 0 0 (List.length p.2) none)), (203, (.ref (9 + 5 * i.toNat) 0 0 (List.length bs) none))]) (fun p => HS g.Nodes.length (q.1.set i.toNat o.2) outs s.2.2.1 p.1 p.2) h zD zD (fun _ => ⟨rfl, rfl, rfl, rfl⟩)
          (hE.wkI ⟨(c9 rfl), (c9 rfl), gb, hE.r4 (Nat.le_refl _) rfl rfl rfl, hE.r5 (Nat.le_refl _) rfl rfl rfl, hE.r6 (Nat.le_refl _) rfl rfl rfl, hE.r7 (Nat.le_refl _) rfl rfl rfl rfl, hE.r12 (Nat.le_refl _) rfl rfl rfl rfl, a3w zO rfl g4 r9 (by rw [(d8 .i64).length]; exact Nat.le_refl _), trivial⟩) (fun i2 b p c hx hlt h => ?_) (fun p fr' S' h hw => ?_)
         ·unfold a9X at h
          obtain ⟨y2, hy2, h⟩ := b9 h
          have hB : HasSt (HS g.Nodes.length (q.1.set i.toNat o.2) outs s.2.2.1 p.1 p.2) id g.Nodes.length (q.1.set i.toNat o.2) outs s.2.2.1 0 p.1 p.2 := a6d (by rw [List.length_set]; omega) hloN
          have e3 : hp (HS g.Nodes.length (q.1.set i.toNat o.2) outs s.2.2.1 p.1 p.2) 3 = .arr 0 (flat (avI .i64) p.1) := a4y zO
          have e9 : hp (HS g.Nodes.length (q.1.set i.toNat o.2) outs s.2.2.1 p.1 p.2) (9 + 5 * i.toNat) = .arr 0 (flat (avI .i64) bs) := by rw [a4y zO, b0P, ey]
          have f9 : ∀ l w, obF g.Nodes.length (q.1.set i.toNat o.2) outs s.2.2.1 l w (9 + 5 * i.toNat) = .arr 0 (flat (avI .i64) bs) := fun l w => by rw [b0P, ey]
          generalize hSB : HS g.Nodes.length (q.1.set i.toNat o.2) outs s.2.2.1 p.1 p.2 = SB at hB e3 e9
          refine f6 ?_
          refine b8 ?_
          refine o6 rfl rfl ⟨by omega, by omega⟩ ?_
          refine a8B (d8 .i64) (y := b) (n := i2) (fo := 0) rfl e9 zS hx rfl (.refl _) ?_
          refine oM (.int .i64 b) ?_
          refine b7 ?_
          refine f8 ?_
          refine f6 ?_
          refine b8 ?_
          refine oM (.ref 4 0 0 (List.length p.2) none) ?_
          refine oM (.int .i64 b) ?_
          refine o6 rfl rfl ⟨(j4 hy2).1, (j4 hy2).2.1⟩ ?_
          refine a8B a8C rfl hB.c4 zA (j4 hy2).2.2 rfl (.refl _) ?_
          refine oP (.bool (!y2)) ?_
          refine b7 ?_
          refine f8 ?_
          refine m7 (t := (!y2)) rfl (fun hb2 => ?_) (fun hb2 => ?_)
          ·rw [g6 hb2] at h
           refine b8 ?_
           refine oM (.ref 4 0 0 (List.length p.2) none) ?_
           refine oM (.int .i64 b) ?_
           refine oM (.ref 3 0 0 (List.length p.1) none) ?_
           refine oM (.int .i64 b) ?_
           refine w9 (v' := (.sl true 1 (List.map (avI .i64) [b]))) rfl (.refl _) rfl ?_
           obtain ⟨l, hl, h⟩ := b9 h
           refine a5s (S' := n8 SB 3 (.arr 1 (flat (avI .i64) l))) (d8 .i64) rfl (a3O [b]) e3 hl rfl ?_
           refine oM (.ref 3 1 0 (List.length l) none) ?_
           obtain ⟨y3, hy3, h⟩ := b9 h
           have hC1 := hB.setTodo (v := 1) (todo' := l)
           refine o6 rfl rfl ⟨(j4 hy3).1, (j4 hy3).2.1⟩ ?_
           refine b3F (y := y3) (y' := true) (S' := n8 (n8 SB 3 (.arr 1 (flat (avI .i64) l))) 4 (.arr 0 (flat avB (List.set p.2 (Int.toNat b) true)))) a8C rfl rfl hC1.c4 zA (j4 hy3).2.2 rfl rfl nB rfl rfl ?_
           refine b7 ?_
           have hC := hC1.setWaits (waits' := List.set p.2 (Int.toNat b) true)
           have e9' : hp (n8 (n8 SB 3 (.arr 1 (flat (avI .i64) l))) 4 (.arr 0 (flat avB (List.set p.2 (Int.toNat b) true)))) (9 + 5 * i.toNat) = .arr 0 (flat (avI .i64) bs) := by rw [n7, a1u zO, n7, a1u zO]; exact e9
           cases h
           exact a2F rfl (hC.wkI ⟨(c9 rfl), (c9 rfl), gb, hC.r4 (Nat.le_refl _) rfl rfl rfl, hC.r5 (Nat.le_refl _) rfl rfl rfl, hC.r6 (Nat.le_refl _) rfl rfl rfl, hC.r7 (Nat.le_refl _) rfl rfl rfl rfl, hC.r12 (Nat.le_refl _) rfl rfl (by rw [List.length_set]) rfl, a3w zO rfl e9' (f9 _ _) (by rw [(d8 .i64).length]; exact Nat.le_refl _), trivial⟩)
          ·rw [g7 hb2] at h
           refine i6 ?_
           cases h
           exact a2F rfl (hB.wkI ⟨(c9 rfl), (c9 rfl), gb, hB.r4 (Nat.le_refl _) rfl rfl rfl, hB.r5 (Nat.le_refl _) rfl rfl rfl, hB.r6 (Nat.le_refl _) rfl rfl rfl, hB.r7 (Nat.le_refl _) rfl rfl rfl rfl, hB.r12 (Nat.le_refl _) rfl rfl rfl rfl, a3w zO rfl e9 (f9 _ _) (by rw [(d8 .i64).length]; exact Nat.le_refl _), trivial⟩)
         ·refine l7 ?_
          have hQ : HasSt (HS g.Nodes.length (q.1.set i.toNat o.2) outs s.2.2.1 p.1 p.2) id g.Nodes.length (q.1.set i.toNat o.2) outs s.2.2.1 0 p.1 p.2 := a6d (by rw [List.length_set]; omega) hloN
          cases h
          exact c1J rfl hw (hQ.wkI ⟨gb, hQ.r4 (Nat.le_refl _) rfl rfl rfl, hQ.r5 (Nat.le_refl _) rfl rfl rfl, hQ.r6 (Nat.le_refl _) rfl rfl rfl, hQ.r7 (Nat.le_refl _) rfl rfl rfl rfl, hQ.r12 (Nat.le_refl _) rfl rfl rfl rfl, trivial⟩)
    ·rw [g7 hb] at h
     refine y6 ?_
     refine s4 ?_
     cases h
     have hQ := h0
     exact c2g rfl rfl rfl (hQ.wkI ⟨gb, hQ.r4 (Nat.le_refl _) rfl rfl rfl, hQ.r5 (Nat.le_refl _) rfl rfl rfl, hQ.r6 (Nat.le_refl _) rfl rfl rfl, hQ.r7 (Nat.le_refl _) rfl rfl rfl rfl, hQ.r12 (Nat.le_refl _) rfl rfl rfl rfl, trivial⟩)
   ·refine a4w hw ?_
    obtain ⟨⟨li, lo⟩, h⟩ := a0z h
    have hQ : HasSt (HS g.Nodes.length q.1 q.2.1 s.2.2.1 q.2.2.1 q.2.2.2) id g.Nodes.length q.1 q.2.1 s.2.2.1 0 q.2.2.1 q.2.2.2 := a6d zO zO
    refine f6 ?_
    refine b8 ?_
    refine oM (.ref 0 0 0 g.Nodes.length none) ?_
    refine oM (.ref 1 0 0 g.Nodes.length none) ?_
    refine oM (.ref 0 0 0 g.Nodes.length none) ?_
    refine oM (.ref 1 0 0 g.Nodes.length none) ?_
    refine b7 ?_
    refine f8 ?_
    refine j3 ?_
    cases h
    exact ⟨trivial, _, rfl, b9T hQ li lo⟩
def a1l (fuel : Nat) (g : b5) : Option (List (Option d7) × List (Option d7)) := (a1x fuel g).map fun r => (r.1.map some, r.2.map some)
theorem a5c {fuel : Nat} {g : b5} {r : List (Option d7) × List (Option d7)} (h : a1l fuel g = some r) : m8 Tryd.prog 52 [(.cptr (b5.av g).cells 0)] (.tup [(.sl false 1 (List.map (avP d7.av) r.1)), (.sl false 1 (List.map (avP d7.av) r.2))]) := by
 unfold a1l at h
 obtain ⟨r0, h0, rfl⟩ := Option.map_eq_some_iff.1 h
 exact a7D h0
end
end Go.Proofs.YtepdcebjobjjgaaDoor

