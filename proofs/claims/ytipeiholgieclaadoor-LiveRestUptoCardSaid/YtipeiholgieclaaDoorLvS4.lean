/- The sets of live.solve: the functions of bits on any heap. -/
import Derived.Test.YtipeiholgieclaaDoorWlTz
import Derived.Test.YtipeiholgieclaaDoorGenB
set_option linter.unusedVariables false
set_option linter.unusedSimpArgs false
namespace Go.Proofs.YtipeiholgieclaaDoor
open Go Go.Ab
def isS (S : List Ob) (p pw v : Nat) (s : b9) : Prop :=
 hp S p = .arr 0 [.int .i64 s.n, .ref pw v 0 (List.length s.words) none] /\ hp S pw = .arr v (flat (avI .u64) s.words)
def a3m (S : List Ob) (p pw v : Nat) (s : b9) : List Ob :=
 s9 (s9 S p (.arr 0 [.int .i64 s.n, .ref pw v 0 (List.length s.words) none])) pw (.arr v (flat (avI .u64) s.words))
section
variable {S : List Ob} {p pw q qw v v' : Nat} {s t : b9}
theorem a1m {i : Nat} (h1 : i ≠ p) (h2 : i ≠ pw) : hp (a3m S p pw v s) i = hp S i := by
 simp only [a3m, t6]; rw [a1N h2, a1N h1]
theorem a2l (h : p ≠ pw) : isS (a3m S p pw v s) p pw v s := by
 simp only [isS, a3m, t6]
 exact ⟨by rw [a1N h, a4j], a4j⟩
theorem b6P (h : isS S p pw v s) : p < S.length /\ pw < S.length := ⟨a6g h.1, a6g h.2⟩
theorem a8t (h : isS S p pw v s) {v' : Nat} {t : b9} : (a3m S p pw v' t).length = S.length := by
 have := b6P h
 simp only [a3m]
 rw [a2f _ _ _ (by rw [a2f _ _ _ zO]; omega), a2f _ _ _ zO]
 omega
theorem a4Y : (a3m S S.length (S.length + 1) v s).length = S.length + 2 := by
 simp only [a3m]
 rw [a2f _ _ _ (by rw [a2f _ _ _ (Nat.le_refl _)]; omega), a2f _ _ _ (Nat.le_refl _)]
 omega
theorem y4 {S' : List Ob} (h : isS S p pw v s) (h1 : hp S' p = hp S p) (h2 : hp S' pw = hp S pw) : isS S' p pw v s := by
 unfold isS; rw [h1, h2]; exact h
theorem b3U {M : List Nat} {T : List Ob} {o o' O' v0 V : Nat} {n : Int} {k : Nat} {cs CS : List AV} (h : hp S (M.getD o 0) = .arr 0 [.int .i64 n, .ref O' V 0 k none]) (h1 : Nat.blt o' T.length = true) (h2 : M.getD o' 0 = O') (h3 : hp S O' = .arr V CS) (h4 : hp T o' = .arr v0 cs) :
  FrIn M T S o (.arr 0 [.int .i64 n, .ref o' v0 0 k none]) :=
 a0p h rfl (cB rfl (.cons (a4J h1 h2 h3 h4) nL))
theorem a6R {M : List Nat} {T T' S' : List Ob} {o' O' v0 V : Nat} {n : Int} {k : Nat} {cs CS : List AV} (h1 : Nat.blt o' T'.length = true) (h2 : frN M T S o' = O') (h3 : hp T' o' = .arr v0 cs) (h4 : hp S' O' = .arr V CS) :
  RnL (frO M T T' S S') 0 [.int .i64 n, .ref o' v0 0 k none] [.int .i64 n, .ref O' V 0 k none] := cB rfl (.cons (a5Y h1 h2 h3 h4) nL)

theorem c0G {i : Int} {r} (h : x6 s.n s.words i = some r) (hs : isS S p pw v s) (hne : p ≠ pw) :
  Ev Tryd.prog 37 [.ptr p 0 0, .int .i64 i] (hp S) (.bool r.1) (hp (a3m S p pw (v + 1) ⟨r.2.1, r.2.2⟩)) := by
 have hk := a2l (S := S) (v := v + 1) (s := ⟨r.2.1, r.2.2⟩) hne
 refine (a4X h).frame [p, pw] rfl (by simp [hne]) (Nat.le_refl _) (by rw [a8t hs]; rfl)
  ⟨b3U hs.1 rfl rfl hs.2 rfl, a0p hs.2 rfl (.refl ((j3 .u64).blwf 0 _)), trivial⟩
  ⟨m5 hk.1 rfl (a6R rfl rfl rfl hk.2) hs.1 rfl, b1p hk.2 rfl (.refl ((j3 .u64).blwf 0 _)) hs.2 (by simp [Nat.blt_eq]), trivial⟩
  (fun j hj hm => ?_) rfl (.cons (w9 rfl rfl hs.1 rfl) (cB rfl nL)) (l7 rfl)
 simp only [List.mem_cons, List.not_mem_nil, or_false, not_or] at hm
 exact a1m hm.1 hm.2
theorem c0H {i : Int} {r} (h : t8 s.n s.words i = some r) (hs : isS S p pw v s) (hne : p ≠ pw) :
  Ev Tryd.prog 39 [.ptr p 0 0, .int .i64 i] (hp S) (.bool r.1) (hp (a3m S p pw (v + 1) ⟨r.2.1, r.2.2⟩)) := by
 have hk := a2l (S := S) (v := v + 1) (s := ⟨r.2.1, r.2.2⟩) hne
 refine (a2G h).frame [p, pw] rfl (by simp [hne]) (Nat.le_refl _) (by rw [a8t hs]; rfl)
  ⟨b3U hs.1 rfl rfl hs.2 rfl, a0p hs.2 rfl (.refl ((j3 .u64).blwf 0 _)), trivial⟩
  ⟨m5 hk.1 rfl (a6R rfl rfl rfl hk.2) hs.1 rfl, b1p hk.2 rfl (.refl ((j3 .u64).blwf 0 _)) hs.2 (by simp [Nat.blt_eq]), trivial⟩
  (fun j hj hm => ?_) rfl (.cons (w9 rfl rfl hs.1 rfl) (cB rfl nL)) (l7 rfl)
 simp only [List.mem_cons, List.not_mem_nil, or_false, not_or] at hm
 exact a1m hm.1 hm.2
theorem c5R {fuel : Nat} {r} {vq : Nat} (h : a0a fuel s.n s.words t.n t.words = some r) (hn : r.2.2.2 = t.n) (hs : isS S p pw v s) (ht : isS S q qw vq t) (hnd : [p, pw, q, qw].Nodup) :
  Ev Tryd.prog 34 [.ptr p 0 0, .ptr q 0 0] (hp S) (.bool r.1) (hp (a3m S p pw (v + 1) ⟨r.2.1, r.2.2.1⟩)) := by
 have hd := hnd
 simp only [List.nodup_cons, List.mem_cons, List.not_mem_nil, or_false, not_or, not_false_eq_true, List.nodup_nil, and_true] at hd
 obtain ⟨⟨d1, d2, d3⟩, ⟨d4, d5⟩, d6⟩ := hd
 have hk := a2l (S := S) (v := v + 1) (s := ⟨r.2.1, r.2.2.1⟩) d1
 have hk2 : isS (a3m S p pw (v + 1) ⟨r.2.1, r.2.2.1⟩) q qw vq t := y4 ht (a1m (Ne.symm d2) (Ne.symm d4)) (a1m (Ne.symm d3) (Ne.symm d5))
 have e := a3J h
 rw [hn] at e
 refine e.frame [p, pw, q, qw] rfl hnd (Nat.le_refl _) (by rw [a8t hs]; rfl)
  ⟨b3U hs.1 rfl rfl hs.2 rfl, a0p hs.2 rfl (.refl ((j3 .u64).blwf 0 _)), b3U ht.1 rfl rfl ht.2 rfl, a0p ht.2 rfl (.refl ((j3 .u64).blwf 0 _)), trivial⟩
  ⟨m5 hk.1 rfl (a6R rfl rfl rfl hk.2) hs.1 rfl, b1p hk.2 rfl (.refl ((j3 .u64).blwf 0 _)) hs.2 (by simp [Nat.blt_eq]), m5 hk2.1 rfl (a6R rfl rfl rfl hk2.2) ht.1 rfl, m5 hk2.2 rfl (.refl ((j3 .u64).blwf 0 _)) ht.2 rfl, trivial⟩
  (fun j hj hm => ?_) rfl (.cons (w9 rfl rfl hs.1 rfl) (.cons (w9 rfl rfl ht.1 rfl) nL)) (l7 rfl)
 simp only [List.mem_cons, List.not_mem_nil, or_false, not_or] at hm
 exact a1m hm.1 hm.2.1
theorem b7T {r} (h : a0b s.n s.words = some r) (hn : r.1 = s.n) (hs : isS S p pw v s) (hne : p ≠ pw) :
  Ev Tryd.prog 35 [.ptr p 0 0] (hp S) (.ptr S.length 0 0) (hp (a3m S S.length (S.length + 1) 1 ⟨r.2.1, r.2.2⟩)) := by
 have hl := b6P hs
 have hk := a2l (S := S) (p := S.length) (pw := S.length + 1) (v := 1) (s := ⟨r.2.1, r.2.2⟩) zO
 have hk2 : isS (a3m S S.length (S.length + 1) 1 ⟨r.2.1, r.2.2⟩) p pw v s := y4 hs (a1m zO zO) (a1m zO zO)
 have e := a3K h
 rw [hn] at e
 have e2 : ∀ T : List Ob, T.length = 2 -> frN [p, pw] T S 2 = S.length := fun T hT => by simp [frN, hT]
 have e3 : ∀ T : List Ob, T.length = 2 -> frN [p, pw] T S 3 = S.length + 1 := fun T hT => by simp [frN, hT]
 refine e.frame [p, pw] rfl (by simp [hne]) zS (by rw [a4Y]; rfl)
  ⟨b3U hs.1 rfl rfl hs.2 rfl, a0p hs.2 rfl (.refl ((j3 .u64).blwf 0 _)), trivial⟩
  ⟨m5 hk2.1 rfl (a6R rfl rfl rfl hk2.2) hs.1 rfl, m5 hk2.2 rfl (.refl ((j3 .u64).blwf 0 _)) hs.2 rfl,
   fr_outN (CS' := [.int .i64 r.2.1, .ref (S.length + 1) 1 0 (List.length r.2.2) none]) (by rw [e2 _ rfl]; exact hk.1) rfl (a6R rfl (e3 _ rfl) rfl hk.2) rfl, fr_outN (by rw [e3 _ rfl]; exact hk.2) rfl (.refl ((j3 .u64).blwf 0 _)) rfl, trivial⟩
  (fun j hj hm => ?_) rfl (.cons (w9 rfl rfl hs.1 rfl) nL) (b6G rfl (e2 _ rfl) rfl hk.1)
 exact a1m zO zO
theorem c0I {n : Int} {r} (h : a2g n = some r) :
  Ev Tryd.prog 32 [.int .i64 n] (hp S) (.ptr S.length 0 0) (hp (a3m S S.length (S.length + 1) 1 ⟨r.1, r.2⟩)) := by
 have hk := a2l (S := S) (p := S.length) (pw := S.length + 1) (v := 1) (s := ⟨r.1, r.2⟩) zO
 have e2 : frN [] [] S 0 = S.length := by simp [frN]
 have e3 : frN [] [] S 1 = S.length + 1 := by simp [frN]
 refine (a8s h).frame [] rfl zS (Nat.zero_le _) (by rw [a4Y]; rfl)
  trivial
  ⟨fr_outN (CS' := [.int .i64 r.1, .ref (S.length + 1) 1 0 (List.length r.2) none]) (by rw [e2]; exact hk.1) rfl (a6R rfl e3 rfl hk.2) rfl, fr_outN (by rw [e3]; exact hk.2) rfl (.refl ((j3 .u64).blwf 0 _)) rfl, trivial⟩
  (fun j hj hm => a1m zO zO) rfl (cB rfl nL) (b6G rfl e2 rfl hk.1)
end
end Go.Proofs.YtipeiholgieclaaDoor

/- The heap of live.solve: lists of pointers to sets, lists of lists, two lists; every set and every inner list has its own objects. -/
namespace Go.Proofs.YtipeiholgieclaaDoor
open Go Go.Ab
def a3z (s : Option b9) (pw : Nat) : Ob := match s with | some s => .arr 0 [.int .i64 s.n, .ref pw 0 0 (List.length s.words) none] | none => .arr 0 []
def a4Z (s : Option b9) : Ob := match s with | some s => .arr 0 (flat (avI .u64) s.words) | none => .arr 0 []
def c5S (ins outs : List b9) (bef : List (List Int)) (j c : Nat) : Ob :=
 match c with
 | 0 => a3z ins[j]? (6 + 5 * j)
 | 1 => a4Z ins[j]?
 | 2 => a3z outs[j]? (8 + 5 * j)
 | 3 => a4Z outs[j]?
 | _ => .arr 0 (flat (avI .i64) (bef.getD j []))
def a7m (N k b : Nat) : List AV := (List.range N).map fun j => if j < k then .ptr (b + 5 * j) 0 0 else .junk
def b7U (N : Nat) (bef : List (List Int)) : List AV := (List.range N).map fun j => .ref (9 + 5 * j) 0 0 (bef.getD j []).length none
def obF (N : Nat) (ins outs : List b9) (bef : List (List Int)) (todo : List Int) (waits : List Bool) : Nat -> Ob
 | 0 => .arr 0 (a7m N ins.length 5)
 | 1 => .arr 0 (a7m N outs.length 7)
 | 2 => .arr 0 (b7U N bef)
 | 3 => .arr 0 (flat (avI .i64) todo)
 | 4 => .arr 0 (flat avB waits)
 | i + 5 => c5S ins outs bef (i / 5) (i % 5)
section
variable {N : Nat} {ins outs : List b9} {bef : List (List Int)} {todo : List Int} {waits : List Bool}
theorem b2x {j c : Nat} (hc : c < 5) : obF N ins outs bef todo waits (5 + c + 5 * j) = c5S ins outs bef j c := by
 rw [show 5 + c + 5 * j = (5 * j + c) + 5 by omega]
 show c5S ins outs bef ((5 * j + c) / 5) ((5 * j + c) % 5) = _
 rw [show (5 * j + c) / 5 = j by omega, show (5 * j + c) % 5 = c by omega]
theorem b3V {j : Nat} : obF N ins outs bef todo waits (5 + 5 * j) = a3z ins[j]? (6 + 5 * j) := b2x (c := 0) zO
theorem b3W {j : Nat} : obF N ins outs bef todo waits (6 + 5 * j) = a4Z ins[j]? := b2x (c := 1) zO
theorem b3X {j : Nat} : obF N ins outs bef todo waits (7 + 5 * j) = a3z outs[j]? (8 + 5 * j) := b2x (c := 2) zO
theorem b3Y {j : Nat} : obF N ins outs bef todo waits (8 + 5 * j) = a4Z outs[j]? := b2x (c := 3) zO
theorem b0x {j : Nat} : obF N ins outs bef todo waits (9 + 5 * j) = .arr 0 (flat (avI .i64) (bef.getD j [])) := b2x (c := 4) zO
theorem a0V {k b : Nat} : (a7m N k b).length = N := by simp [a7m]
theorem a9r {k b j : Nat} (hj : j < N) (hk : j < k) : (a7m N k b)[j]? = some (.ptr (b + 5 * j) 0 0) := by simp [a7m, hj, hk]
theorem a3A : (b7U N bef).length = N := by simp [b7U]
theorem b5H {j : Nat} (hj : j < N) : (b7U N bef)[j]? = some (.ref (9 + 5 * j) 0 0 (bef.getD j []).length none) := by simp [b7U, hj]
theorem a5Z (s : Option b9) (pw : Nat) : ∃ cs, a3z s pw = .arr 0 cs := by cases s <;> exact ⟨_, rfl⟩
theorem a6S (s : Option b9) : ∃ cs, a4Z s = .arr 0 cs := by cases s <;> exact ⟨_, rfl⟩
end
structure HasSt (S : List Ob) (m : Nat -> Nat) (N : Nat) (ins outs : List b9) (bef : List (List Int)) (v3 : Nat) (todo : List Int) (waits : List Bool) : Prop where
 c0 : ∃ cs, hp S (m 0) = .arr 0 cs /\ cs.length = N /\ ∀ j, j < ins.length -> cs[j]? = some (.ptr (m (5 + 5 * j)) 0 0)
 c1 : ∃ cs, hp S (m 1) = .arr 0 cs /\ cs.length = N /\ ∀ j, j < outs.length -> cs[j]? = some (.ptr (m (7 + 5 * j)) 0 0)
 c2 : ∃ cs, hp S (m 2) = .arr 0 cs /\ cs.length = N /\ ∀ j, j < N -> ∃ v, cs[j]? = some (.ref (m (9 + 5 * j)) v 0 (bef.getD j []).length none) /\ hp S (m (9 + 5 * j)) = .arr v (flat (avI .i64) (bef.getD j []))
 c3 : ∃ x, hp S (m 3) = .arr v3 (flat (avI .i64) todo ++ x)
 c4 : hp S (m 4) = .arr 0 (flat avB waits)
 c5 : ∀ j s, ins[j]? = some s -> ∃ v, isS S (m (5 + 5 * j)) (m (6 + 5 * j)) v s
 c6 : ∀ j s, outs[j]? = some s -> ∃ v, isS S (m (7 + 5 * j)) (m (8 + 5 * j)) v s
 c7 : ∀ j, ins.length <= j -> j < N -> (∃ v cs, hp S (m (5 + 5 * j)) = .arr v cs) /\ ∃ v cs, hp S (m (6 + 5 * j)) = .arr v cs
 c8 : ∀ j, outs.length <= j -> j < N -> (∃ v cs, hp S (m (7 + 5 * j)) = .arr v cs) /\ ∃ v cs, hp S (m (8 + 5 * j)) = .arr v cs
 li : ins.length <= N
 lo : outs.length <= N
section
variable {S : List Ob} {m : Nat -> Nat} {m' : Nat -> Option Nat} {n N v3 : Nat} {ins outs : List b9} {bef : List (List Int)} {todo : List Int} {waits : List Bool} {f : Nat -> Ob}
theorem HasSt.ok (h : HasSt S m N ins outs bef v3 todo waits) (hn : 5 + 5 * N <= n) (hm : ∀ i, i < 5 + 5 * N -> m' i = some (m i)) (hf : ∀ i, i < 5 + 5 * N -> f i = obF N ins outs bef todo waits i) :
  ∀ i, i < 5 + 5 * N -> b6L n m' S f i := by
 intro i hi
 match i, hi with
 | 0, hi =>
   obtain ⟨cs, h1, h2, h3⟩ := h.c0
   refine a0L (hm 0 hi) h1 (hf 0 hi) (a4V (by rw [a0V]; omega) (fun j a b => ?_))
   have hj : j < N := by rw [a0V] at b; exact b
   simp only [a7m, List.getElem_map, List.getElem_range]
   split
   ·rename_i hk
    have e := h3 j hk
    rw [List.getElem?_eq_getElem a] at e
    rw [Option.some.inj e]
    obtain ⟨s, hs⟩ : ∃ s, ins[j]? = some s := ⟨_, List.getElem?_eq_getElem hk⟩
    obtain ⟨v, q⟩ := h.c5 j s hs
    exact b3N zO (hm _ zO) q.1 (by rw [hf _ zO, b3V, hs]; rfl)
   ·exact .junk _
 | 1, hi =>
   obtain ⟨cs, h1, h2, h3⟩ := h.c1
   refine a0L (hm 1 hi) h1 (hf 1 hi) (a4V (by rw [a0V]; omega) (fun j a b => ?_))
   have hj : j < N := by rw [a0V] at b; exact b
   simp only [a7m, List.getElem_map, List.getElem_range]
   split
   ·rename_i hk
    have e := h3 j hk
    rw [List.getElem?_eq_getElem a] at e
    rw [Option.some.inj e]
    obtain ⟨s, hs⟩ : ∃ s, outs[j]? = some s := ⟨_, List.getElem?_eq_getElem hk⟩
    obtain ⟨v, q⟩ := h.c6 j s hs
    exact b3N zO (hm _ zO) q.1 (by rw [hf _ zO, b3X, hs]; rfl)
   ·exact .junk _
 | 2, hi =>
   obtain ⟨cs, h1, h2, h3⟩ := h.c2
   refine a0L (hm 2 hi) h1 (hf 2 hi) (a4V (by rw [a3A]; omega) (fun j a b => ?_))
   have hj : j < N := by rw [a3A] at b; exact b
   simp only [b7U, List.getElem_map, List.getElem_range]
   obtain ⟨v, e, q⟩ := h3 j hj
   rw [List.getElem?_eq_getElem a] at e
   rw [Option.some.inj e]
   exact a3F zO (hm _ zO) q (by rw [hf _ zO, b0x]) (by rw [(j3 .i64).length]; exact Nat.le_refl _)
 | 3, hi =>
   obtain ⟨x, h1⟩ := h.c3
   refine a0L (hm 3 hi) h1 (hf 3 hi) (a4V zS (fun j a b => ?_))
   rw [List.getElem_append_left b]
   exact l7 (a1s ((j3 .i64).blwf 0 _) j b)
 | 4, hi => exact a0L (hm 4 hi) h.c4 (hf 4 hi) (.refl (b6D.blwf 0 _))
 | i + 5, hi =>
   obtain ⟨j, c, hc, rfl⟩ : ∃ j c, c < 5 /\ i = c + 5 * j := ⟨i / 5, i % 5, by omega, by omega⟩
   have hj : j < N := by omega
   match c, hc with
   | 0, _ =>
     rw [show 0 + 5 * j + 5 = 5 + 5 * j by omega] at hi ⊢
     cases e : ins[j]? with
     | some s =>
       obtain ⟨v, q⟩ := h.c5 j s e
       exact a0L (hm _ hi) q.1 (by rw [hf _ hi, b3V, e]; rfl) (cB rfl (.cons (a3F zO (hm _ zO) q.2 (by rw [hf _ zO, b3W, e]; rfl) (by rw [(j3 .u64).length]; exact Nat.le_refl _)) nL))
     | none =>
       obtain ⟨⟨v, cs, q⟩, _⟩ := h.c7 j (by simpa using e) hj
       exact a0L (hm _ hi) q (by rw [hf _ hi, b3V, e]; rfl) nL
   | 1, _ =>
     rw [show 1 + 5 * j + 5 = 6 + 5 * j by omega] at hi ⊢
     cases e : ins[j]? with
     | some s =>
       obtain ⟨v, q⟩ := h.c5 j s e
       exact a0L (hm _ hi) q.2 (by rw [hf _ hi, b3W, e]; rfl) (.refl ((j3 .u64).blwf 0 _))
     | none =>
       obtain ⟨_, v, cs, q⟩ := h.c7 j (by simpa using e) hj
       exact a0L (hm _ hi) q (by rw [hf _ hi, b3W, e]; rfl) nL
   | 2, _ =>
     rw [show 2 + 5 * j + 5 = 7 + 5 * j by omega] at hi ⊢
     cases e : outs[j]? with
     | some s =>
       obtain ⟨v, q⟩ := h.c6 j s e
       exact a0L (hm _ hi) q.1 (by rw [hf _ hi, b3X, e]; rfl) (cB rfl (.cons (a3F zO (hm _ zO) q.2 (by rw [hf _ zO, b3Y, e]; rfl) (by rw [(j3 .u64).length]; exact Nat.le_refl _)) nL))
     | none =>
       obtain ⟨⟨v, cs, q⟩, _⟩ := h.c8 j (by simpa using e) hj
       exact a0L (hm _ hi) q (by rw [hf _ hi, b3X, e]; rfl) nL
   | 3, _ =>
     rw [show 3 + 5 * j + 5 = 8 + 5 * j by omega] at hi ⊢
     cases e : outs[j]? with
     | some s =>
       obtain ⟨v, q⟩ := h.c6 j s e
       exact a0L (hm _ hi) q.2 (by rw [hf _ hi, b3Y, e]; rfl) (.refl ((j3 .u64).blwf 0 _))
     | none =>
       obtain ⟨_, v, cs, q⟩ := h.c8 j (by simpa using e) hj
       exact a0L (hm _ hi) q (by rw [hf _ hi, b3Y, e]; rfl) nL
   | 4, _ =>
     rw [show 4 + 5 * j + 5 = 9 + 5 * j by omega] at hi ⊢
     obtain ⟨cs, h1, h2, h3⟩ := h.c2
     obtain ⟨v, _, q⟩ := h3 j hj
     exact a0L (hm _ hi) q (by rw [hf _ hi, b0x]) (.refl ((j3 .i64).blwf 0 _))
theorem b1y (hn : 5 + 5 * N <= n) (hf : ∀ i, i < 5 + 5 * N -> f i = obF N ins outs bef todo waits i) (li : ins.length <= N) (lo : outs.length <= N) : HasSt (ofF n f) id N ins outs bef 0 todo waits := by
 have H : ∀ i, i < 5 + 5 * N -> hp (ofF n f) i = obF N ins outs bef todo waits i := fun i hi => by rw [a4K zO, hf i hi]
 refine ⟨⟨_, H 0 zO, a0V, fun j hj => a9r zO hj⟩, ⟨_, H 1 zO, a0V, fun j hj => a9r zO hj⟩,
  ⟨_, H 2 zO, a3A, fun j hj => ⟨0, b5H hj, (H (9 + 5 * j) zO).trans b0x⟩⟩, ⟨[], by rw [List.append_nil]; exact H 3 zO⟩, H 4 zO, fun j s hs => ⟨0, ?_, ?_⟩, fun j s hs => ⟨0, ?_, ?_⟩, fun j h1 h2 => ⟨⟨0, ?_⟩, 0, ?_⟩, fun j h1 h2 => ⟨⟨0, ?_⟩, 0, ?_⟩, li, lo⟩
 ·have : j < ins.length := (List.getElem?_eq_some_iff.1 hs).1
  exact (H (5 + 5 * j) zO).trans (by rw [b3V, hs]; rfl)
 ·have : j < ins.length := (List.getElem?_eq_some_iff.1 hs).1
  exact (H (6 + 5 * j) zO).trans (by rw [b3W, hs]; rfl)
 ·have : j < outs.length := (List.getElem?_eq_some_iff.1 hs).1
  exact (H (7 + 5 * j) zO).trans (by rw [b3X, hs]; rfl)
 ·have : j < outs.length := (List.getElem?_eq_some_iff.1 hs).1
  exact (H (8 + 5 * j) zO).trans (by rw [b3Y, hs]; rfl)
 ·obtain ⟨cs, e⟩ := a5Z ins[j]? (6 + 5 * j); exact ⟨cs, ((H (5 + 5 * j) zO).trans b3V).trans e⟩
 ·obtain ⟨cs, e⟩ := a6S ins[j]?; exact ⟨cs, ((H (6 + 5 * j) zO).trans b3W).trans e⟩
 ·obtain ⟨cs, e⟩ := a5Z outs[j]? (8 + 5 * j); exact ⟨cs, ((H (7 + 5 * j) zO).trans b3X).trans e⟩
 ·obtain ⟨cs, e⟩ := a6S outs[j]?; exact ⟨cs, ((H (8 + 5 * j) zO).trans b3Y).trans e⟩
theorem HasSt.ext {S' : List Ob} (h : HasSt S id N ins outs bef v3 todo waits) (he : ∀ i, i < 5 + 5 * N -> hp S' i = hp S i) : HasSt S' id N ins outs bef v3 todo waits := by
 have hli := h.li; have hlo := h.lo
 have e0 := he 0 zO
 have e1 := he 1 zO
 have e2 := he 2 zO
 have e3 := he 3 zO
 have e4 := he 4 zO
 refine ⟨by rw [id, e0]; exact h.c0, by rw [id, e1]; exact h.c1, ?_, by rw [id, e3]; exact h.c3, by rw [id, e4]; exact h.c4, fun j s hs => ?_, fun j s hs => ?_, fun j a b => ?_, fun j a b => ?_, h.li, h.lo⟩
 ·obtain ⟨cs, h1, h2, h3⟩ := h.c2
  refine ⟨cs, by rw [id, e2]; exact h1, h2, fun j hj => ?_⟩
  obtain ⟨v, q1, q2⟩ := h3 j hj
  exact ⟨v, q1, by rw [id, he _ zO]; exact q2⟩
 ·have : j < ins.length := (List.getElem?_eq_some_iff.1 hs).1
  obtain ⟨v, q⟩ := h.c5 j s hs
  exact ⟨v, y4 q (he _ zI) (he _ zI)⟩
 ·have : j < outs.length := (List.getElem?_eq_some_iff.1 hs).1
  obtain ⟨v, q⟩ := h.c6 j s hs
  exact ⟨v, y4 q (he _ zI) (he _ zI)⟩
 ·have := h.c7 j a b
  simp only [id] at this ⊢
  rw [he _ zO, he _ zO]; exact this
 ·have := h.c8 j a b
  simp only [id] at this ⊢
  rw [he _ zO, he _ zO]; exact this
theorem HasSt.inAt (h : HasSt S id N ins outs bef v3 todo waits) {j : Nat} (hj : j < ins.length) : ∃ cs, hp S 0 = .arr 0 cs /\ a1y none cs j = some (.ptr (5 + 5 * j) 0 0) := by
 obtain ⟨cs, h1, h2, h3⟩ := h.c0
 have := h.li
 refine ⟨cs, h1, ?_⟩
 simp only [a1y]
 rw [if_pos zO, List.getD_eq_getElem?_getD, h3 j hj]; rfl
theorem HasSt.outAt (h : HasSt S id N ins outs bef v3 todo waits) {j : Nat} (hj : j < outs.length) : ∃ cs, hp S 1 = .arr 0 cs /\ a1y none cs j = some (.ptr (7 + 5 * j) 0 0) := by
 obtain ⟨cs, h1, h2, h3⟩ := h.c1
 have := h.lo
 refine ⟨cs, h1, ?_⟩
 simp only [a1y]
 rw [if_pos zO, List.getD_eq_getElem?_getD, h3 j hj]; rfl
theorem HasSt.befAt (h : HasSt S id N ins outs bef v3 todo waits) {j : Nat} (hj : j < N) : ∃ cs v, hp S 2 = .arr 0 cs /\ cs.length = N /\ a1y none cs j = some (.ref (9 + 5 * j) v 0 (bef.getD j []).length none) /\ hp S (9 + 5 * j) = .arr v (flat (avI .i64) (bef.getD j [])) := by
 obtain ⟨cs, h1, h2, h3⟩ := h.c2
 obtain ⟨v, q1, q2⟩ := h3 j hj
 refine ⟨cs, v, h1, h2, ?_, q2⟩
 simp only [a1y]
 rw [if_pos zO, List.getD_eq_getElem?_getD, q1]; rfl
theorem HasSt.setOut (h : HasSt S id N ins outs bef v3 todo waits) {j v v' : Nat} {s t : b9} (hs : outs[j]? = some s) : HasSt (a3m S (7 + 5 * j) (8 + 5 * j) v' t) id N ins (outs.set j t) bef v3 todo waits := by
 have hj : j < outs.length := (List.getElem?_eq_some_iff.1 hs).1
 have hlo := h.lo
 have hli := h.li
 have e : ∀ i, i ≠ 7 + 5 * j -> i ≠ 8 + 5 * j -> hp (a3m S (7 + 5 * j) (8 + 5 * j) v' t) i = hp S i := fun i h1 h2 => a1m h1 h2
 refine ⟨by rw [id, e 0 zO zO]; exact h.c0, by rw [id, e 1 zO zO, List.length_set]; exact h.c1, ?_, by rw [id, e 3 zO zO]; exact h.c3, by rw [id, e 4 zO zO]; exact h.c4, fun k s hs => ?_, fun k s hs => ?_, fun k a b => ?_, fun k a b => ?_, h.li, by rw [List.length_set]; exact h.lo⟩
 ·obtain ⟨cs, h1, h2, h3⟩ := h.c2
  refine ⟨cs, by rw [id, e 2 zO zO]; exact h1, h2, fun k hk => ?_⟩
  obtain ⟨v, q1, q2⟩ := h3 k hk
  exact ⟨v, q1, by rw [id, e _ zO zO]; exact q2⟩
 ·obtain ⟨v, q⟩ := h.c5 k s hs
  exact ⟨v, y4 q (e _ zI zI) (e _ zI zI)⟩
 ·by_cases hk : j = k
  ·subst hk
   rw [List.getElem?_set_self hj] at hs
   cases hs
   exact ⟨v', a2l zO⟩
  ·rw [List.getElem?_set_ne hk] at hs
   obtain ⟨v, q⟩ := h.c6 k s hs
   exact ⟨v, y4 q (e _ zI zI) (e _ zI zI)⟩
 ·have := h.c7 k a b
  simp only [id] at this ⊢
  rw [e _ zO zO, e _ zO zO]; exact this
 ·rw [List.length_set] at a
  have := h.c8 k a b
  simp only [id] at this ⊢
  rw [e _ zO zO, e _ zO zO]; exact this
theorem HasSt.setIn (h : HasSt S id N ins outs bef v3 todo waits) {j v v' : Nat} {s t : b9} (hs : ins[j]? = some s) : HasSt (a3m S (5 + 5 * j) (6 + 5 * j) v' t) id N (ins.set j t) outs bef v3 todo waits := by
 have hj : j < ins.length := (List.getElem?_eq_some_iff.1 hs).1
 have hlo := h.lo
 have hli := h.li
 have e : ∀ i, i ≠ 5 + 5 * j -> i ≠ 6 + 5 * j -> hp (a3m S (5 + 5 * j) (6 + 5 * j) v' t) i = hp S i := fun i h1 h2 => a1m h1 h2
 refine ⟨by rw [id, e 0 zO zO, List.length_set]; exact h.c0, by rw [id, e 1 zO zO]; exact h.c1, ?_, by rw [id, e 3 zO zO]; exact h.c3, by rw [id, e 4 zO zO]; exact h.c4, fun k s hs => ?_, fun k s hs => ?_, fun k a b => ?_, fun k a b => ?_, by rw [List.length_set]; exact h.li, h.lo⟩
 ·obtain ⟨cs, h1, h2, h3⟩ := h.c2
  refine ⟨cs, by rw [id, e 2 zO zO]; exact h1, h2, fun k hk => ?_⟩
  obtain ⟨v, q1, q2⟩ := h3 k hk
  exact ⟨v, q1, by rw [id, e _ zO zO]; exact q2⟩
 ·by_cases hk : j = k
  ·subst hk
   rw [List.getElem?_set_self hj] at hs
   cases hs
   exact ⟨v', a2l zO⟩
  ·rw [List.getElem?_set_ne hk] at hs
   obtain ⟨v, q⟩ := h.c5 k s hs
   exact ⟨v, y4 q (e _ zI zI) (e _ zI zI)⟩
 ·obtain ⟨v, q⟩ := h.c6 k s hs
  exact ⟨v, y4 q (e _ zI zI) (e _ zI zI)⟩
 ·rw [List.length_set] at a
  have := h.c7 k a b
  simp only [id] at this ⊢
  rw [e _ zO zO, e _ zO zO]; exact this
 ·have := h.c8 k a b
  simp only [id] at this ⊢
  rw [e _ zO zO, e _ zO zO]; exact this
theorem HasSt.setBef (h : HasSt S id N ins outs bef v3 todo waits) {j v : Nat} {l : List Int} {cs : List AV} (hj : j < N) (hb : j < bef.length) (hcs : hp S 2 = .arr 0 cs) :
  HasSt (s9 (s9 S (9 + 5 * j) (.arr v (flat (avI .i64) l))) 2 (.arr 0 (cs.set j (.ref (9 + 5 * j) v 0 l.length none)))) id N ins outs (bef.set j l) v3 todo waits := by
 have hlo := h.lo
 have hli := h.li
 have e : ∀ i, i ≠ 9 + 5 * j -> i ≠ 2 -> hp (s9 (s9 S (9 + 5 * j) (.arr v (flat (avI .i64) l))) 2 (.arr 0 (cs.set j (.ref (9 + 5 * j) v 0 l.length none)))) i = hp S i := fun i h1 h2 => by
  simp only [t6]; rw [a1N h2, a1N h1]
 have e9 : hp (s9 (s9 S (9 + 5 * j) (.arr v (flat (avI .i64) l))) 2 (.arr 0 (cs.set j (.ref (9 + 5 * j) v 0 l.length none)))) (9 + 5 * j) = .arr v (flat (avI .i64) l) := by
  simp only [t6]; rw [a1N zO, a4j]
 have e2 : hp (s9 (s9 S (9 + 5 * j) (.arr v (flat (avI .i64) l))) 2 (.arr 0 (cs.set j (.ref (9 + 5 * j) v 0 l.length none)))) 2 = .arr 0 (cs.set j (.ref (9 + 5 * j) v 0 l.length none)) := by
  simp only [t6]; rw [a4j]
 generalize hS' : s9 (s9 S (9 + 5 * j) (.arr v (flat (avI .i64) l))) 2 (.arr 0 (cs.set j (.ref (9 + 5 * j) v 0 l.length none))) = S' at e e9 e2
 refine ⟨by rw [id, e 0 zO zO]; exact h.c0, by rw [id, e 1 zO zO]; exact h.c1, ?_, by rw [id, e 3 zO zO]; exact h.c3, by rw [id, e 4 zO zO]; exact h.c4, fun k s hs => ?_, fun k s hs => ?_, fun k a b => ?_, fun k a b => ?_, h.li, h.lo⟩
 ·obtain ⟨cs1, h1, h2, h3⟩ := h.c2
  have hcc : cs1 = cs := by
   have h1' : hp S 2 = .arr 0 cs1 := h1
   rw [hcs] at h1'; cases h1'; rfl
  subst hcc
  refine ⟨_, e2, by rw [List.length_set]; exact h2, fun k hk => ?_⟩
  by_cases hkj : j = k
  ·subst hkj
   refine ⟨v, ?_, ?_⟩
   ·rw [List.getElem?_set_self zO]
    simp [List.getD_eq_getElem?_getD, List.getElem?_set_self hb]
   ·rw [id, e9]; simp [List.getD_eq_getElem?_getD, List.getElem?_set_self hb]
  ·obtain ⟨v, q1, q2⟩ := h3 k hk
   refine ⟨v, ?_, ?_⟩
   ·rw [List.getElem?_set_ne hkj, q1]; simp [List.getD_eq_getElem?_getD, List.getElem?_set_ne hkj]
   ·rw [id, e _ zO zO]; simp only [id] at q2; rw [q2]; simp [List.getD_eq_getElem?_getD, List.getElem?_set_ne hkj]
 ·obtain ⟨v, q⟩ := h.c5 k s hs
  exact ⟨v, y4 q (e _ zI zI) (e _ zI zI)⟩
 ·obtain ⟨v, q⟩ := h.c6 k s hs
  exact ⟨v, y4 q (e _ zI zI) (e _ zI zI)⟩
 ·have := h.c7 k a b
  simp only [id] at this ⊢
  rw [e _ zO zO, e _ zO zO]; exact this
 ·have := h.c8 k a b
  simp only [id] at this ⊢
  rw [e _ zO zO, e _ zO zO]; exact this
theorem HasSt.only (h : HasSt S id N ins outs bef v3 todo waits) {S' : List Ob} {v3' : Nat} {todo' : List Int} {waits' : List Bool} (e : ∀ i, i ≠ 3 -> i ≠ 4 -> hp S' i = hp S i) (h3 : ∃ x, hp S' 3 = .arr v3' (flat (avI .i64) todo' ++ x)) (h4 : hp S' 4 = .arr 0 (flat avB waits')) :
  HasSt S' id N ins outs bef v3' todo' waits' := by
 refine ⟨by rw [id, e 0 zO zO]; exact h.c0, by rw [id, e 1 zO zO]; exact h.c1, ?_, h3, h4, fun k s hs => ?_, fun k s hs => ?_, fun k a b => ?_, fun k a b => ?_, h.li, h.lo⟩
 ·obtain ⟨cs, h1, h2, h3⟩ := h.c2
  refine ⟨cs, by rw [id, e 2 zO zO]; exact h1, h2, fun k hk => ?_⟩
  obtain ⟨v, q1, q2⟩ := h3 k hk
  exact ⟨v, q1, by rw [id, e _ zO zO]; exact q2⟩
 ·obtain ⟨v, q⟩ := h.c5 k s hs
  exact ⟨v, y4 q (e _ zI zI) (e _ zI zI)⟩
 ·obtain ⟨v, q⟩ := h.c6 k s hs
  exact ⟨v, y4 q (e _ zI zI) (e _ zI zI)⟩
 ·have := h.c7 k a b
  simp only [id] at this ⊢
  rw [e _ zO zO, e _ zO zO]; exact this
 ·have := h.c8 k a b
  simp only [id] at this ⊢
  rw [e _ zO zO, e _ zO zO]; exact this
theorem HasSt.setWaits (h : HasSt S id N ins outs bef v3 todo waits) {waits' : List Bool} : HasSt (s9 S 4 (.arr 0 (flat avB waits'))) id N ins outs bef v3 todo waits' := by
 obtain ⟨x, h3⟩ := h.c3
 exact h.only (fun i a b => by rw [t6, a1N b]) ⟨x, by rw [t6, a1N zD]; exact h3⟩ (by rw [t6, a4j])
theorem HasSt.setTodo (h : HasSt S id N ins outs bef v3 todo waits) {v : Nat} {todo' : List Int} : HasSt (s9 S 3 (.arr v (flat (avI .i64) todo'))) id N ins outs bef v todo' waits :=
 h.only (fun i a b => by rw [t6, a1N a]) ⟨[], by rw [t6, a4j, List.append_nil]⟩ (by rw [t6, a1N zD]; exact h.c4)
theorem HasSt.popTodo (h : HasSt S id N ins outs bef v3 todo waits) {todo' : List Int} (he : ∃ r, todo = todo' ++ r) : HasSt S id N ins outs bef v3 todo' waits := by
 obtain ⟨r, rfl⟩ := he
 obtain ⟨x, h3⟩ := h.c3
 exact h.only (fun _ _ _ => rfl) ⟨flat (avI .i64) r ++ x, by rw [<- List.append_assoc, <- a0t]; exact h3⟩ h.c4
end
end Go.Proofs.YtipeiholgieclaaDoor

/- The heap of live.solve: from one statement to the next. -/
namespace Go.Proofs.YtipeiholgieclaaDoor
open Go Go.Ab
abbrev HS (N : Nat) (ins outs : List b9) (bef : List (List Int)) (todo : List Int) (waits : List Bool) : List Ob := ofF (5 + 5 * N) (obF N ins outs bef todo waits)
def b5I (M : Nat) (s : b9) (f : Nat -> Ob) (i : Nat) : Ob := if i = M then a3z (some s) (M + 1) else if i = M + 1 then a4Z (some s) else f i
abbrev HT (N : Nat) (ins outs : List b9) (bef : List (List Int)) (todo : List Int) (waits : List Bool) (s : b9) : List Ob := ofF (5 + 5 * N + 2) (b5I (5 + 5 * N) s (obF N ins outs bef todo waits))
section
variable {S : List Ob} {m : Nat -> Nat} {m' : Nat -> Option Nat} {n N v3 : Nat} {ins outs : List b9} {bef : List (List Int)} {todo : List Int} {waits : List Bool} {f : Nat -> Ob} {s : b9} {fr fr' : Fr}
theorem a0B {M i : Nat} (h : i < M) : b5I M s f i = f i := by unfold b5I; rw [if_neg zO, if_neg zO]
theorem b3Z {M : Nat} : b5I M s f M = a3z (some s) (M + 1) := by unfold b5I; rw [if_pos rfl]
theorem b4a {M : Nat} : b5I M s f (M + 1) = a4Z (some s) := by unfold b5I; rw [if_neg zO, if_pos rfl]
theorem a6i (li : ins.length <= N) (lo : outs.length <= N) : HasSt (HS N ins outs bef todo waits) id N ins outs bef 0 todo waits := b1y (Nat.le_refl _) (fun _ _ => rfl) li lo
theorem b5J (li : ins.length <= N) (lo : outs.length <= N) : HasSt (HT N ins outs bef todo waits s) id N ins outs bef 0 todo waits := b1y zO (fun i hi => a0B hi) li lo
theorem c5m : isS (HT N ins outs bef todo waits s) (5 + 5 * N) (5 + 5 * N + 1) 0 s :=
 ⟨by rw [a4K zO, b3Z]; rfl, by rw [a4K zO, b4a]; rfl⟩
theorem HasSt.r4 (h : HasSt S m N ins outs bef v3 todo waits) (hn : 5 + 5 * N <= n) (hm : m' 0 = some (m 0)) (hf : f 0 = obF N ins outs bef todo waits 0) {o : Nat} (ho : m 0 = o) : RnV (WR n m' S f) (.ref o 0 0 N none) (.ref 0 0 0 N none) := by
 subst ho
 obtain ⟨cs, h1, h2, _⟩ := h.c0
 exact a3F zO hm h1 hf (by rw [a0V]; simp [g6])
theorem HasSt.r5 (h : HasSt S m N ins outs bef v3 todo waits) (hn : 5 + 5 * N <= n) (hm : m' 1 = some (m 1)) (hf : f 1 = obF N ins outs bef todo waits 1) {o : Nat} (ho : m 1 = o) : RnV (WR n m' S f) (.ref o 0 0 N none) (.ref 1 0 0 N none) := by
 subst ho
 obtain ⟨cs, h1, h2, _⟩ := h.c1
 exact a3F zO hm h1 hf (by rw [a0V]; simp [g6])
theorem HasSt.r6 (h : HasSt S m N ins outs bef v3 todo waits) (hn : 5 + 5 * N <= n) (hm : m' 2 = some (m 2)) (hf : f 2 = obF N ins outs bef todo waits 2) {o : Nat} (ho : m 2 = o) : RnV (WR n m' S f) (.ref o 0 0 N none) (.ref 2 0 0 N none) := by
 subst ho
 obtain ⟨cs, h1, h2, _⟩ := h.c2
 exact a3F zO hm h1 hf (by rw [a3A]; simp [g6])
theorem HasSt.r7 (h : HasSt S m N ins outs bef v3 todo waits) (hn : 5 + 5 * N <= n) (hm : m' 3 = some (m 3)) (hf : f 3 = obF N ins outs bef todo waits 3) {k o : Nat} (hk : k = todo.length) (ho : m 3 = o) : RnV (WR n m' S f) (.ref o v3 0 k none) (.ref 3 0 0 todo.length none) := by
 subst ho
 obtain ⟨x, h1⟩ := h.c3
 exact a6P hk zO hm h1 hf (by rw [(j3 .i64).length]; simp [g6])
theorem HasSt.r12 (h : HasSt S m N ins outs bef v3 todo waits) (hn : 5 + 5 * N <= n) (hm : m' 4 = some (m 4)) (hf : f 4 = obF N ins outs bef todo waits 4) {k o : Nat} (hk : k = waits.length) (ho : m 4 = o) : RnV (WR n m' S f) (.ref o 0 0 k none) (.ref 4 0 0 waits.length none) := by
 subst ho
 exact a6P hk zO hm h.c4 hf (by rw [b6D.length]; simp [g6])
theorem HasSt.r17 {v : Nat} (hs : isS S (5 + 5 * N) (5 + 5 * N + 1) v s) : RnV (WR (5 + 5 * N + 2) some S (b5I (5 + 5 * N) s f)) (.ptr (5 + 5 * N) 0 0) (.ptr (5 + 5 * N) 0 0) :=
 b3N zO rfl hs.1 (by rw [b3Z]; rfl)
theorem HasSt.wkM (h : HasSt S m N ins outs bef v3 todo waits) (hi : ∀ i j, i < 5 + 5 * N -> j < 5 + 5 * N -> m i = m j -> i = j) (hf : rnF (WR (5 + 5 * N) (fun i => some (m i)) S (obF N ins outs bef todo waits)) fr fr') : Wk [] fr S fr' (HS N ins outs bef todo waits) :=
 b5F (fun i j o a b h1 h2 => hi i j a b (by rw [Option.some.inj h1, Option.some.inj h2])) (h.ok (Nat.le_refl _) (fun _ _ => rfl) (fun _ _ => rfl)) hf
theorem HasSt.wkI (h : HasSt S id N ins outs bef v3 todo waits) (hf : rnF (WR (5 + 5 * N) some S (obF N ins outs bef todo waits)) fr fr') : Wk [] fr S fr' (HS N ins outs bef todo waits) :=
 b5F b1u (h.ok (Nat.le_refl _) (fun _ _ => rfl) (fun _ _ => rfl)) hf
theorem HasSt.wkT {v : Nat} (h : HasSt S id N ins outs bef v3 todo waits) (hs : isS S (5 + 5 * N) (5 + 5 * N + 1) v s) (hf : rnF (WR (5 + 5 * N + 2) some S (b5I (5 + 5 * N) s (obF N ins outs bef todo waits))) fr fr') : Wk [] fr S fr' (HT N ins outs bef todo waits s) := by
 refine b5F b1u (fun i hi => ?_) hf
 by_cases h1 : i < 5 + 5 * N
 ·exact h.ok zO (fun _ _ => rfl) (fun i hi => a0B hi) i h1
 ·by_cases h2 : i = 5 + 5 * N
  ·subst h2
   exact a0L rfl hs.1 b3Z (cB rfl (.cons (a3F zO rfl hs.2 b4a (by rw [(j3 .u64).length]; exact Nat.le_refl _)) nL))
  ·obtain rfl : i = 5 + 5 * N + 1 := by omega
   exact a0L rfl hs.2 b4a (.refl ((j3 .u64).blwf 0 _))
def a2V (M i k : Nat) : Nat := if k = 5 + 5 * i then M + 1 else if k = 6 + 5 * i then M + 2 else if k = 7 + 5 * i then M + 3 else if k = 8 + 5 * i then M + 4 else k
theorem a0h {M i k : Nat} (h1 : k ≠ 5 + 5 * i) (h2 : k ≠ 6 + 5 * i) (h3 : k ≠ 7 + 5 * i) (h4 : k ≠ 8 + 5 * i) : a2V M i k = k := by
 unfold a2V; rw [if_neg h1, if_neg h2, if_neg h3, if_neg h4]
theorem b4b {M i : Nat} : a2V M i (5 + 5 * i) = M + 1 := by unfold a2V; rw [if_pos rfl]
theorem b7V {M i : Nat} : a2V M i (6 + 5 * i) = M + 2 := by unfold a2V; rw [if_neg zO, if_pos rfl]
theorem b4c {M i : Nat} : a2V M i (7 + 5 * i) = M + 3 := by unfold a2V; rw [if_neg zO, if_neg zO, if_pos rfl]
theorem b7W {M i : Nat} : a2V M i (8 + 5 * i) = M + 4 := by unfold a2V; rw [if_neg zO, if_neg zO, if_neg zO, if_pos rfl]
theorem b4d {M i : Nat} : ∀ a b, a < M -> b < M -> a2V M i a = a2V M i b -> a = b := by
 intro a b ha hb h
 unfold a2V at h
 repeat' split at h
 all_goals omega
theorem HasSt.push (h : HasSt S id N ins outs bef v3 todo waits) {i va vb : Nat} {a b : b9} {cs0 cs1 : List AV} {S' : List Ob} (hi : ins.length = i) (ho : outs.length = i) (hlt : i < N) (h0 : hp S 0 = .arr 0 cs0) (h1 : hp S 1 = .arr 0 cs1)
  (e : ∀ k, k < 5 + 5 * N -> k ≠ 0 -> k ≠ 1 -> hp S' k = hp S k) (e0 : hp S' 0 = .arr 0 (cs0.set i (.ptr (5 + 5 * N + 1) 0 0))) (e1 : hp S' 1 = .arr 0 (cs1.set i (.ptr (5 + 5 * N + 3) 0 0)))
  (ha : isS S' (5 + 5 * N + 1) (5 + 5 * N + 2) va a) (hb : isS S' (5 + 5 * N + 3) (5 + 5 * N + 4) vb b) : HasSt S' (a2V (5 + 5 * N) i) N (ins ++ [a]) (outs ++ [b]) bef v3 todo waits := by
 have p0 : a2V (5 + 5 * N) i 0 = 0 := a0h zO zO zO zO
 have p1 : a2V (5 + 5 * N) i 1 = 1 := a0h zO zO zO zO
 have p2 : a2V (5 + 5 * N) i 2 = 2 := a0h zO zO zO zO
 have p3 : a2V (5 + 5 * N) i 3 = 3 := a0h zO zO zO zO
 have p4 : a2V (5 + 5 * N) i 4 = 4 := a0h zO zO zO zO
 refine ⟨?_, ?_, ?_, ?_, ?_, fun j s hs => ?_, fun j s hs => ?_, fun j c d => ?_, fun j c d => ?_, by simp; omega, by simp; omega⟩
 ·obtain ⟨cs, q1, q2, q3⟩ := h.c0
  have hcc : cs = cs0 := by
   have q1' : hp S 0 = .arr 0 cs := q1
   rw [h0] at q1'; cases q1'; rfl
  subst hcc
  refine ⟨_, by rw [p0]; exact e0, by rw [List.length_set]; exact q2, fun j hj => ?_⟩
  by_cases hji : j = i
  ·subst hji; rw [List.getElem?_set_self zO, b4b]
  ·rw [List.getElem?_set_ne (Ne.symm hji), a0h zO zO zO zO]
   exact q3 j (by simp at hj; omega)
 ·obtain ⟨cs, q1, q2, q3⟩ := h.c1
  have hcc : cs = cs1 := by
   have q1' : hp S 1 = .arr 0 cs := q1
   rw [h1] at q1'; cases q1'; rfl
  subst hcc
  refine ⟨_, by rw [p1]; exact e1, by rw [List.length_set]; exact q2, fun j hj => ?_⟩
  by_cases hji : j = i
  ·subst hji; rw [List.getElem?_set_self zO, b4c]
  ·rw [List.getElem?_set_ne (Ne.symm hji), a0h zO zO zO zO]
   exact q3 j (by simp at hj; omega)
 ·obtain ⟨cs, q1, q2, q3⟩ := h.c2
  refine ⟨cs, by rw [p2, e 2 zO zO zO]; exact q1, q2, fun j hj => ?_⟩
  obtain ⟨v, k1, k2⟩ := q3 j hj
  have pj : a2V (5 + 5 * N) i (9 + 5 * j) = 9 + 5 * j := a0h zO zO zO zO
  exact ⟨v, by rw [pj]; exact k1, by rw [pj, e _ zO zO zO]; exact k2⟩
 ·obtain ⟨x, q⟩ := h.c3
  exact ⟨x, by rw [p3, e 3 zO zO zO]; exact q⟩
 ·rw [p4, e 4 zO zO zO]; exact h.c4
 ·by_cases hji : j = i
  ·subst hji
   rw [<- hi, List.getElem?_append_right (Nat.le_refl _)] at hs
   simp at hs; subst hs
   rw [b4b, b7V]; exact ⟨va, ha⟩
  ·have hj : j < i := by
    have := (List.getElem?_eq_some_iff.1 hs).1
    simp at this; omega
   rw [List.getElem?_append_left zO] at hs
   obtain ⟨v, q⟩ := h.c5 j s hs
   rw [a0h zO zO zO zO, a0h zO zO zO zO]
   exact ⟨v, y4 q (e _ zO zO zO) (e _ zO zO zO)⟩
 ·by_cases hji : j = i
  ·subst hji
   rw [<- ho, List.getElem?_append_right (Nat.le_refl _)] at hs
   simp at hs; subst hs
   rw [b4c, b7W]; exact ⟨vb, hb⟩
  ·have hj : j < i := by
    have := (List.getElem?_eq_some_iff.1 hs).1
    simp at this; omega
   rw [List.getElem?_append_left zO] at hs
   obtain ⟨v, q⟩ := h.c6 j s hs
   rw [a0h zO zO zO zO, a0h zO zO zO zO]
   exact ⟨v, y4 q (e _ zO zO zO) (e _ zO zO zO)⟩
 ·simp at c
  have q := h.c7 j zO d
  simp only [id] at q
  rw [a0h zO zO zO zO, a0h zO zO zO zO, e _ zO zO zO, e _ zO zO zO]
  exact q
 ·simp at c
  have q := h.c8 j zO d
  simp only [id] at q
  rw [a0h zO zO zO zO, a0h zO zO zO zO, e _ zO zO zO, e _ zO zO zO]
  exact q
def a5M (M k : Nat) : Nat := if k = 4 then M else k
theorem a0i {M k : Nat} (h : k ≠ 4) : a5M M k = k := by unfold a5M; rw [if_neg h]
theorem b4e {M : Nat} : a5M M 4 = M := by unfold a5M; rw [if_pos rfl]
theorem b4f {M : Nat} : ∀ a b, a < M -> b < M -> a5M M a = a5M M b -> a = b := by
 intro a b ha hb h
 unfold a5M at h
 repeat' split at h
 all_goals omega
theorem HasSt.newWaits (h : HasSt S id N ins outs bef v3 todo waits) {S' : List Ob} {waits' : List Bool} (e : ∀ k, k < 5 + 5 * N -> hp S' k = hp S k) (e4 : hp S' (5 + 5 * N) = .arr 0 (flat avB waits')) : HasSt S' (a5M (5 + 5 * N)) N ins outs bef v3 todo waits' := by
 have hli := h.li; have hlo := h.lo
 refine ⟨?_, ?_, ?_, ?_, by rw [b4e]; exact e4, fun j s hs => ?_, fun j s hs => ?_, fun j c d => ?_, fun j c d => ?_, h.li, h.lo⟩
 ·obtain ⟨cs, q1, q2, q3⟩ := h.c0
  refine ⟨cs, by rw [a0i zO, e 0 zO]; exact q1, q2, fun j hj => ?_⟩
  rw [a0i zO]; exact q3 j hj
 ·obtain ⟨cs, q1, q2, q3⟩ := h.c1
  refine ⟨cs, by rw [a0i zO, e 1 zO]; exact q1, q2, fun j hj => ?_⟩
  rw [a0i zO]; exact q3 j hj
 ·obtain ⟨cs, q1, q2, q3⟩ := h.c2
  refine ⟨cs, by rw [a0i zO, e 2 zO]; exact q1, q2, fun j hj => ?_⟩
  obtain ⟨v, k1, k2⟩ := q3 j hj
  exact ⟨v, by rw [a0i zO]; exact k1, by rw [a0i zO, e _ zO]; exact k2⟩
 ·obtain ⟨x, q⟩ := h.c3
  exact ⟨x, by rw [a0i zO, e 3 zO]; exact q⟩
 ·have := (List.getElem?_eq_some_iff.1 hs).1
  obtain ⟨v, q⟩ := h.c5 j s hs
  rw [a0i zO, a0i zO]
  exact ⟨v, y4 q (e _ zO) (e _ zO)⟩
 ·have := (List.getElem?_eq_some_iff.1 hs).1
  obtain ⟨v, q⟩ := h.c6 j s hs
  rw [a0i zO, a0i zO]
  exact ⟨v, y4 q (e _ zO) (e _ zO)⟩
 ·have q := h.c7 j c d
  simp only [id] at q
  rw [a0i zO, a0i zO, e _ zO, e _ zO]
  exact q
 ·have q := h.c8 j c d
  simp only [id] at q
  rw [a0i zO, a0i zO, e _ zO, e _ zO]
  exact q
def c0J (i : Nat) : Option Nat := if i < 4 then some i else none
theorem b7X {m1 m2 : List Unit} {m3 : List (List Int)} (h1 : m1.length = N) (h2 : m2.length = N) (h3 : m3 = List.replicate N [])
  (hf : rnF (WR (5 + 5 * N) c0J [.arr 0 (flat (fun (_ : Unit) => AV.nilp) m1), .arr 0 (flat (fun (_ : Unit) => AV.nilp) m2), .arr 0 (flat (fun (_ : List Int) => AV.nils) m3), .arr 0 (flat (avI .i64) [])] (obF N [] [] m3 [] [])) fr fr') :
  Wk [] fr [.arr 0 (flat (fun (_ : Unit) => AV.nilp) m1), .arr 0 (flat (fun (_ : Unit) => AV.nilp) m2), .arr 0 (flat (fun (_ : List Int) => AV.nils) m3), .arr 0 (flat (avI .i64) [])] fr' (HS N [] [] m3 [] []) := by
 have eN : Enc (fun (_ : Unit) => AV.nilp) none := ⟨fun _ => rfl, fun _ => rfl, fun _ => rfl, fun _ _ => rfl⟩
 have eL : Enc (fun (_ : List Int) => AV.nils) none := ⟨fun _ => rfl, fun _ => rfl, fun _ => rfl, fun _ _ => rfl⟩
 refine b5F (fun i j o _ _ a b => ?_) (fun i hi => ?_) hf
 ·unfold c0J at a b
  split at a <;> split at b <;> first | (cases a; cases b; rfl) | (cases a; done) | (cases b; done)
 ·match i, hi with
  | 0, _ =>
    refine a0L rfl rfl rfl (a4V (by rw [a0V, eN.length]; simp [g6]; omega) (fun j a b => ?_))
    simp only [a7m, List.getElem_map, List.length_nil, Nat.not_lt_zero, if_false]
    exact .junk _
  | 1, _ =>
    refine a0L rfl rfl rfl (a4V (by rw [a0V, eN.length]; simp [g6]; omega) (fun j a b => ?_))
    simp only [a7m, List.getElem_map, List.length_nil, Nat.not_lt_zero, if_false]
    exact .junk _
  | 2, _ =>
    have hl : m3.length = N := by rw [h3]; simp
    refine a0L rfl rfl rfl (a4V (by rw [a3A, eL.length]; simp [g6]; omega) (fun j a b => ?_))
    rw [a3A] at b
    have e1 : ∀ l : List (List Int), flat (fun (_ : List Int) => AV.nils) l = List.replicate l.length .nils := fun l => by
     induction l with
     | nil => rfl
     | cons x l ih => rw [a0S, ih]; rfl
    have e2 : (flat (fun (_ : List Int) => AV.nils) m3)[j] = .nils := by simp only [e1, List.getElem_replicate]
    rw [e2]
    have e3 : m3.getD j [] = [] := by rw [h3]; simp [List.getD_eq_getElem?_getD, b]
    simp only [b7U, List.getElem_map, List.getElem_range, e3, List.length_nil]
    exact c0B zO b0x
  | 3, _ => exact a0L rfl rfl rfl nL
  | 4, _ => exact b3O rfl rfl
  | i + 5, hi =>
    refine b3O (v' := 0) rfl ?_
    obtain ⟨j, c, hc, rfl⟩ : ∃ j c, c < 5 /\ i = c + 5 * j := ⟨i / 5, i % 5, by omega, by omega⟩
    rw [show c + 5 * j + 5 = 5 + c + 5 * j by omega, b2x hc]
    match c, hc with
    | 0, _ => rfl
    | 1, _ => rfl
    | 2, _ => rfl
    | 3, _ => rfl
    | 4, _ =>
      show Ob.arr 0 (flat (avI .i64) (m3.getD j [])) = _
      rw [show m3.getD j [] = [] by rw [h3]; simp [List.getD_eq_getElem?_getD, List.getElem?_replicate]; split <;> rfl]; rfl
end
end Go.Proofs.YtipeiholgieclaaDoor

/- live.solve's answer, when it is frozen. -/
namespace Go.Proofs.YtipeiholgieclaaDoor
open Go Go.Ab
section
variable {S : List Ob} {N v3 k : Nat} {ins outs : List b9} {bef : List (List Int)} {todo : List Int} {waits : List Bool}
theorem b7Y {α : Type} {f : α -> AV} {esh : Option Nat} (he : Enc f esh) {o ver : Nat} {l : List α} (ho : hp S o = .arr ver (flat f l)) : frz 0 S (k + 1) (.ref o ver 0 l.length esh) = .sl false (g6 esh) (l.map f) := by
 have hb : (AV.ref o ver 0 l.length esh).blw 0 = false := by simp [AV.blw]
 have hm : (flat f l).map (frz 0 S k) = flat f l := a8k (he.blwf 0 l)
 simp only [frz, hb, ho, Bool.false_eq_true, if_false, hm, List.drop_zero]
 rw [if_pos ⟨trivial, by rw [he.length]; omega, he.all l⟩, he.elems]
theorem b4g {p pw v : Nat} {s : b9} (hs : isS S p pw v s) : frz 0 S (k + 2) (.ptr p 0 0) = avP b9.av (some s) := by
 have hb : (AV.ptr p 0 0).blw 0 = false := by simp [AV.blw]
 have h1 : frz 0 S (k + 1) (.int .i64 s.n) = .int .i64 s.n := b3w rfl
 have h2 : frz 0 S (k + 1) (.ref pw v 0 (List.length s.words) none) = .sl false 1 (s.words.map (avI .u64)) := b7Y (j3 .u64) hs.2
 have e : frz 0 S (k + 2) (.ptr p 0 0) = .cptr ([AV.int .i64 s.n, .ref pw v 0 (List.length s.words) none].map (frz 0 S (k + 1))) 0 := by
  show (if (AV.ptr p 0 0).blw 0 = true then AV.ptr p 0 0 else match hp S p with | .arr v cs => if v = 0 then .cptr (cs.map (frz 0 S (k + 1))) 0 else .junk | _ => .junk) = _
  rw [hb, hs.1]; rfl
 rw [e, List.map_cons, List.map_cons, List.map_nil, h1, h2]
 rfl
theorem b1z {o N : Nat} {cs : List AV} {l : List b9} (ho : hp S o = .arr 0 cs) (hl : cs.length = N) (hN : l.length = N) (h : ∀ (j : Nat) (s : b9), l[j]? = some s -> ∃ c, cs[j]? = some c /\ frz 0 S (k + 2) c = avP b9.av (some s)) :
  frz 0 S (k + 3) (.ref o 0 0 N none) = .sl false 1 ((l.map some).map (avP b9.av)) := by
 have hb : (AV.ref o 0 0 N none).blw 0 = false := by simp [AV.blw]
 have e1 : cs.map (frz 0 S (k + 2)) = (l.map some).map (avP b9.av) := by
  apply List.ext_getElem?
  intro j
  cases e : l[j]? with
  | some s =>
    obtain ⟨c, h1, h2⟩ := h j s e
    simp only [List.getElem?_map, h1, e, Option.map_some, h2]
  | none =>
    have : cs[j]? = none := by simp at e ⊢; omega
    simp only [List.getElem?_map, this, e, Option.map_none]
 have e2 : frz 0 S (k + 3) (.ref o 0 0 N none) = if 0 = 0 /\ 0 + N * g6 none <= cs.length /\ ((cs.map (frz 0 S (k + 2))).drop 0).all AV.one = true then .sl false (g6 none) (w7 none N ((cs.map (frz 0 S (k + 2))).drop 0)) else .junk := by
  show (if (AV.ref o 0 0 N none).blw 0 = true then AV.ref o 0 0 N none else match hp S o with | .arr v cs => if v = 0 /\ 0 + N * g6 none <= cs.length /\ ((cs.map (frz 0 S (k + 2))).drop 0).all AV.one = true then .sl false (g6 none) (w7 none N ((cs.map (frz 0 S (k + 2))).drop 0)) else .junk | _ => .junk) = _
  rw [hb, ho]; rfl
 rw [e2, e1, List.drop_zero]
 rw [if_pos ⟨rfl, by simp [g6]; omega, by simp [AV.one, avP]⟩]
 show AV.sl false 1 (((l.map some).map (avP b9.av)).take N) = _
 rw [List.take_of_length_le zE]
theorem b7Z (h : HasSt S id N ins outs bef v3 todo waits) (hN : ins.length = N) : frz 0 S (k + 3) (.ref 0 0 0 N none) = .sl false 1 ((ins.map some).map (avP b9.av)) := by
 obtain ⟨cs, h1, h2, h3⟩ := h.c0
 refine b1z h1 h2 hN (fun j s e => ?_)
 obtain ⟨v, q⟩ := h.c5 j s e
 exact ⟨_, h3 j (List.getElem?_eq_some_iff.1 e).1, b4g q⟩
theorem b5K (h : HasSt S id N ins outs bef v3 todo waits) (hN : outs.length = N) : frz 0 S (k + 3) (.ref 1 0 0 N none) = .sl false 1 ((outs.map some).map (avP b9.av)) := by
 obtain ⟨cs, h1, h2, h3⟩ := h.c1
 refine b1z h1 h2 hN (fun j s e => ?_)
 obtain ⟨v, q⟩ := h.c6 j s e
 exact ⟨_, h3 j (List.getElem?_eq_some_iff.1 e).1, b4g q⟩
theorem c0K (h : HasSt S id N ins outs bef v3 todo waits) (h1 : ins.length = N) (h2 : outs.length = N) :
  AVw (frz 0 S 6 (.tup [.ref 0 0 0 N none, .ref 1 0 0 N none])) (.tup [.sl false 1 ((ins.map some).map (avP b9.av)), .sl false 1 ((outs.map some).map (avP b9.av))]) :=
 a0T ⟨by rw [b7Z h h1]; exact .refl _, by rw [b5K h h2]; exact .refl _, trivial⟩
theorem a5a {x y : Ob} : ∀ (S : List Ob) (o : Nat), s9 (s9 S o x) o y = s9 S o y
 | [], 0 => rfl
 | [], n + 1 => by simp only [s9, a5a [] n]
 | z :: s, 0 => rfl
 | z :: s, n + 1 => by simp only [s9, a5a s n]
end
end Go.Proofs.YtipeiholgieclaaDoor

/- live.solve: what it computes, and that it does. -/
namespace Go.Proofs.YtipeiholgieclaaDoor
open Go Go.Ab
set_option maxRecDepth 20000
set_option maxHeartbeats 2000000
def c8Q : FC := (.seq (.reg [oO 2 (.mv (.v .nils)), oO 3 (.mv (.v .nils))] []) (.seq (.reg [oO 24 (.mv (.t 0)), oO 25 (.nchk (.t 24)), oO 26 (.fad 6 (.t 25)), oO 27 (.load none (.t 26)), oO 28 (.len .sl (.t 27)), oO 29 (.mksl none 8 [.nilp] (.t 28) (.t 28)), oO 30 (.mv (.t 0)), oO 31 (.nchk (.t 30)), oO 32 (.fad 6 (.t 31)), oO 33 (.load none (.t 32)), oO 34 (.len .sl (.t 33)), oO 35 (.mksl none 8 [.nilp] (.t 34) (.t 34)), oO 4 (.mv (.t 29)), oO 5 (.mv (.t 35))] [(5, 9), (3, 11), (5, 11)]) (.seq (.reg [oO 36 (.mv (.t 0)), oO 37 (.nchk (.t 36)), oO 38 (.fad 6 (.t 37)), oO 39 (.load none (.t 38)), oO 40 (.len .sl (.t 39)), oO 41 (.mksl none 24 [.nils] (.t 40) (.t 40)), oO 6 (.mv (.t 41))] []) (.seq (.reg [oO 42 (.mv (.t 0)), oO 43 (.nchk (.t 42)), oO 44 (.fad 6 (.t 43)), oO 45 (.load none (.t 44)), oO 46 (.len .sl (.t 45)), oO 47 (.mksl none 8 [(.int .i64 0)] (.v (.int .i64 0)) (.t 46)), oO 7 (.mv (.t 47))] []) (.seq (.seq (.reg [oO 48 (.mv (.t 0)), oO 49 (.nchk (.t 48)), oO 50 (.fad 6 (.t 49)), oO 51 (.load none (.t 50)), oO 52 (.len .sl (.t 51)), oO 53 (.mv (.v (.int .i64 0)))] []) (.block 0 (.loop (.seq (.reg [oO 54 (.bin .none .lss (.t 53) (.t 52))] []) (.seq (.cond (.t 54) .skip (.exit 0)) (.seq (.block 1 (.seq (.reg [oO 55 (.mv (.t 53)), oO 56 (.iad none (some 12) (.t 51) (.t 53)), oO 57 (.load (some 12) (.t 56)), oO 9 (.new [(.int .u8 0), (.int .u8 0), (.int .i64 0), (.int .i64 0), (.int .i64 0), (.int .i64 0), (.int .i64 0), (.int .i64 0), (.int .u64 0), .nils, (.int .i64 0), (.int .i64 0)]), oO 8 (.mv (.t 55)), ⟨none, none, .op (.store 12 (.t 9) (.t 57))⟩] []) (.seq (.reg [oO 58 (.mv (.t 4)), oO 59 (.mv (.t 8)), oO 60 (.mv (.t 5)), oO 61 (.mv (.t 8)), oO 62 (.mv (.t 0)), oO 63 (.nchk (.t 62)), oO 64 (.fad 1 (.t 63)), oO 65 (.load none (.t 64)), oO 66 (.len .sl (.t 65)), ⟨(some 67), none, .call 32 [(.t 66)]⟩, oO 68 (.mv (.t 0)), oO 69 (.nchk (.t 68)), oO 70 (.fad 1 (.t 69)), oO 71 (.load none (.t 70)), oO 72 (.len .sl (.t 71)), ⟨(some 73), none, .call 32 [(.t 72)]⟩, oO 74 (.iad none none (.t 58) (.t 59)), ⟨none, none, .op (.store 1 (.t 74) (.t 67))⟩, oO 75 (.iad none none (.t 60) (.t 61)), ⟨none, none, .op (.store 1 (.t 75) (.t 73))⟩] [(9, 13)]) (.seq (.seq (.reg [oO 76 (.load (some 12) (.t 9)), ⟨(some 77), none, .call 33 [(.t 76)]⟩, oO 78 (.len .sl (.t 77)), oO 79 (.mv (.v (.int .i64 0)))] []) (.block 2 (.loop (.seq (.reg [oO 80 (.bin .none .lss (.t 79) (.t 78))] []) (.seq (.cond (.t 80) .skip (.exit 2)) (.seq (.block 3 (.seq (.reg [oO 81 (.iad none none (.t 77) (.t 79)), oO 82 (.load none (.t 81)), oO 11 (.mv (.t 82))] []) (.reg [oO 83 (.mv (.t 6)), oO 84 (.mv (.t 11)), oO 85 (.mv (.t 6)), oO 86 (.mv (.t 11)), oO 87 (.iad none none (.t 85) (.t 86)), oO 88 (.load none (.t 87)), oO 89 (.mv (.t 8)), oO 90 (.bsl none [(.int .i64 0)] 1 [(0, 1, (.t 89))]), oO 91 (.app none 8 (.t 88) (.t 90)), oO 92 (.iad none none (.t 83) (.t 84)), ⟨none, none, .op (.store 1 (.t 92) (.t 91))⟩] []))) (.reg [oO 93 (.bin .none .add (.t 79) (.v (.int .i64 1))), oO 79 (.mv (.t 93))] []))))))) (.reg [oO 94 (.mv (.t 7)), oO 95 (.mv (.t 8)), oO 96 (.bsl none [(.int .i64 0)] 1 [(0, 1, (.t 95))]), oO 97 (.app none 8 (.t 94) (.t 96)), oO 7 (.mv (.t 97))] []))))) (.reg [oO 98 (.bin .none .add (.t 53) (.v (.int .i64 1))), oO 53 (.mv (.t 98))] []))))))) (.seq (.reg [oO 99 (.mv (.t 0)), oO 100 (.nchk (.t 99)), oO 101 (.fad 6 (.t 100)), oO 102 (.load none (.t 101)), oO 103 (.len .sl (.t 102)), oO 104 (.mksl none 1 [(.bool false)] (.t 103) (.t 103)), oO 12 (.mv (.t 104))] []) (.seq (.seq (.reg [oO 105 (.mv (.t 12)), oO 106 (.len .sl (.t 105)), oO 107 (.mv (.v (.int .i64 0)))] []) (.block 4 (.loop (.seq (.reg [oO 108 (.bin .none .lss (.t 107) (.t 106))] []) (.seq (.cond (.t 108) .skip (.exit 4)) (.seq (.block 5 (.seq (.reg [oO 109 (.mv (.t 107)), oO 13 (.mv (.t 109))] []) (.reg [oO 110 (.mv (.t 12)), oO 111 (.mv (.t 13)), oO 112 (.iad none none (.t 110) (.t 111)), ⟨none, none, .op (.store 1 (.t 112) (.v (.bool true)))⟩] []))) (.reg [oO 113 (.bin .none .add (.t 107) (.v (.int .i64 1))), oO 107 (.mv (.t 113))] []))))))) (.seq (.block 6 (.loop (.seq (.seq (.reg [oO 114 (.mv (.t 7)), oO 115 (.len .sl (.t 114)), oO 116 (.bin .none .gtr (.t 115) (.v (.int .i64 0)))] []) (.cond (.t 116) .skip (.exit 6))) (.block 7 (.seq (.reg [oO 117 (.mv (.t 7)), oO 118 (.mv (.t 7)), oO 119 (.len .sl (.t 118)), oO 120 (.bin .none .sub (.t 119) (.v (.int .i64 1))), oO 121 (.iad none none (.t 117) (.t 120)), oO 122 (.load none (.t 121)), oO 14 (.mv (.t 122))] []) (.seq (.reg [oO 123 (.mv (.t 12)), oO 124 (.mv (.t 14)), oO 125 (.mv (.t 7)), oO 126 (.mv (.t 7)), oO 127 (.len .sl (.t 126)), oO 128 (.bin .none .sub (.t 127) (.v (.int .i64 1))), oO 129 (.slc none (.t 125) none (some (.t 128)) none), oO 7 (.mv (.t 129)), oO 130 (.iad none none (.t 123) (.t 124)), ⟨none, none, .op (.store 1 (.t 130) (.v (.bool false)))⟩] []) (.seq (.seq (.reg [oO 131 (.mv (.t 0)), oO 132 (.nchk (.t 131)), oO 133 (.fad 6 (.t 132)), oO 134 (.load none (.t 133)), oO 135 (.mv (.t 14)), oO 136 (.iad none (some 12) (.t 134) (.t 135)), oO 137 (.load (some 12) (.t 136)), ⟨(some 138), none, .call 33 [(.t 137)]⟩, oO 139 (.len .sl (.t 138)), oO 140 (.mv (.v (.int .i64 0)))] []) (.block 8 (.loop (.seq (.reg [oO 141 (.bin .none .lss (.t 140) (.t 139))] []) (.seq (.cond (.t 141) .skip (.exit 8)) (.seq (.block 9 (.seq (.reg [oO 142 (.iad none none (.t 138) (.t 140)), oO 143 (.load none (.t 142)), oO 16 (.mv (.t 143))] []) (.reg [oO 144 (.mv (.t 5)), oO 145 (.mv (.t 14)), oO 146 (.iad none none (.t 144) (.t 145)), oO 147 (.load none (.t 146)), oO 148 (.mv (.t 4)), oO 149 (.mv (.t 16)), oO 150 (.iad none none (.t 148) (.t 149)), oO 151 (.load none (.t 150)), ⟨(some 152), none, .call 34 [(.t 147), (.t 151)]⟩] []))) (.reg [oO 153 (.bin .none .add (.t 140) (.v (.int .i64 1))), oO 140 (.mv (.t 153))] []))))))) (.seq (.reg [oO 154 (.mv (.t 5)), oO 155 (.mv (.t 14)), oO 156 (.iad none none (.t 154) (.t 155)), oO 157 (.load none (.t 156)), ⟨(some 158), none, .call 35 [(.t 157)]⟩, oO 17 (.mv (.t 158))] []) (.seq (.seq (.reg [oO 159 (.mv (.t 0)), oO 160 (.nchk (.t 159)), oO 161 (.fad 6 (.t 160)), oO 162 (.load none (.t 161)), oO 163 (.mv (.t 14)), oO 164 (.iad none (some 12) (.t 162) (.t 163)), oO 165 (.load (some 12) (.t 164)), ⟨(some 166), none, .call 36 [(.t 165)]⟩, oO 167 (.len .sl (.t 166)), oO 168 (.mv (.v (.int .i64 0)))] []) (.block 10 (.loop (.seq (.reg [oO 169 (.bin .none .lss (.t 168) (.t 167))] []) (.seq (.cond (.t 169) .skip (.exit 10)) (.seq (.block 11 (.seq (.reg [oO 170 (.iad none none (.t 166) (.t 168)), oO 171 (.load none (.t 170)), oO 19 (.mv (.t 171))] []) (.reg [oO 172 (.mv (.t 17)), oO 173 (.mv (.t 19)), ⟨(some 174), none, .call 37 [(.t 172), (.t 173)]⟩] []))) (.reg [oO 175 (.bin .none .add (.t 168) (.v (.int .i64 1))), oO 168 (.mv (.t 175))] []))))))) (.seq (.seq (.reg [oO 176 (.mv (.t 0)), oO 177 (.nchk (.t 176)), oO 178 (.fad 6 (.t 177)), oO 179 (.load none (.t 178)), oO 180 (.mv (.t 14)), oO 181 (.iad none (some 12) (.t 179) (.t 180)), oO 182 (.load (some 12) (.t 181)), ⟨(some 183), none, .call 38 [(.t 182)]⟩, oO 184 (.len .sl (.t 183)), oO 185 (.mv (.v (.int .i64 0)))] []) (.block 12 (.loop (.seq (.reg [oO 186 (.bin .none .lss (.t 185) (.t 184))] []) (.seq (.cond (.t 186) .skip (.exit 12)) (.seq (.block 13 (.seq (.reg [oO 187 (.iad none none (.t 183) (.t 185)), oO 188 (.load none (.t 187)), oO 21 (.mv (.t 188))] []) (.reg [oO 189 (.mv (.t 17)), oO 190 (.mv (.t 21)), ⟨(some 191), none, .call 39 [(.t 189), (.t 190)]⟩] []))) (.reg [oO 192 (.bin .none .add (.t 185) (.v (.int .i64 1))), oO 185 (.mv (.t 192))] []))))))) (.seq (.seq (.reg [oO 193 (.mv (.t 4)), oO 194 (.mv (.t 14)), oO 195 (.iad none none (.t 193) (.t 194)), oO 196 (.load none (.t 195)), oO 197 (.mv (.t 17)), ⟨(some 198), none, .call 34 [(.t 196), (.t 197)]⟩, oO 199 (.un .not (.t 198))] []) (.cond (.t 199) (.exit 7) .skip)) (.seq (.reg [oO 200 (.mv (.t 6)), oO 201 (.mv (.t 14)), oO 202 (.iad none none (.t 200) (.t 201)), oO 203 (.load none (.t 202)), oO 204 (.len .sl (.t 203)), oO 205 (.mv (.v (.int .i64 0)))] []) (.block 14 (.loop (.seq (.reg [oO 206 (.bin .none .lss (.t 205) (.t 204))] []) (.seq (.cond (.t 206) .skip (.exit 14)) (.seq (.block 15 (.seq (.reg [oO 207 (.iad none none (.t 203) (.t 205)), oO 208 (.load none (.t 207)), oO 23 (.mv (.t 208))] []) (.seq (.reg [oO 209 (.mv (.t 12)), oO 210 (.mv (.t 23)), oO 211 (.iad none none (.t 209) (.t 210)), oO 212 (.load none (.t 211)), oO 213 (.un .not (.t 212))] []) (.cond (.t 213) (.reg [oO 214 (.mv (.t 12)), oO 215 (.mv (.t 23)), oO 216 (.mv (.t 7)), oO 217 (.mv (.t 23)), oO 218 (.bsl none [(.int .i64 0)] 1 [(0, 1, (.t 217))]), oO 219 (.app none 8 (.t 216) (.t 218)), oO 7 (.mv (.t 219)), oO 220 (.iad none none (.t 214) (.t 215)), ⟨none, none, .op (.store 1 (.t 220) (.v (.bool true)))⟩] []) .skip)))) (.reg [oO 221 (.bin .none .add (.t 205) (.v (.int .i64 1))), oO 205 (.mv (.t 221))] [])))))))))))))))))) (.seq (.reg [oO 222 (.mv (.t 4)), oO 223 (.mv (.t 5)), oO 2 (.mv (.t 222)), oO 3 (.mv (.t 223))] []) .ret)))))))))
theorem d0i : Fn3 Tryd.prog 16 224 [(2, none), (3, none)] c8Q := ⟨_, _, Tryd.func16, rfl, rfl, rfl, by kernel_rfl⟩
def a9s (n : Int) : Option b9 := (a2g n).bind fun r => some ⟨r.1, r.2⟩
def b4h (fuel : Nat) (a b : b9) : Option (Bool × b9) := (a0a fuel a.n a.words b.n b.words).bind fun r => gd (r.2.2.2 = b.n) (some (r.1, ⟨r.2.1, r.2.2.1⟩))
def a8u (a : b9) : Option b9 := (a0b a.n a.words).bind fun r => gd (r.1 = a.n) (some ⟨r.2.1, r.2.2⟩)
def a6T (a : b9) (i : Int) : Option b9 := (x6 a.n a.words i).bind fun r => some ⟨r.2.1, r.2.2⟩
def a6U (a : b9) (i : Int) : Option b9 := (t8 a.n a.words i).bind fun r => some ⟨r.2.1, r.2.2⟩
section
variable {S : List Ob} {p pw q qw v vq : Nat} {s t u : b9}
theorem c0L {n : Int} (h : a9s n = some u) : Ev Tryd.prog 32 [.int .i64 n] (hp S) (.ptr S.length 0 0) (hp (a3m S S.length (S.length + 1) 1 u)) := by
 obtain ⟨r, hr, e⟩ := c9 h
 cases e
 exact c0I hr
theorem c0M (h : a8u s = some u) (hs : isS S p pw v s) (hne : p ≠ pw) : Ev Tryd.prog 35 [.ptr p 0 0] (hp S) (.ptr S.length 0 0) (hp (a3m S S.length (S.length + 1) 1 u)) := by
 obtain ⟨r, hr, e⟩ := c9 h
 obtain ⟨e1, e2⟩ := a1z e
 cases e2
 exact b7T hr e1 hs hne
theorem c5T {i : Int} (h : a6T s i = some u) (hs : isS S p pw v s) (hne : p ≠ pw) : ∃ b, Ev Tryd.prog 37 [.ptr p 0 0, .int .i64 i] (hp S) (.bool b) (hp (a3m S p pw (v + 1) u)) := by
 obtain ⟨r, hr, e⟩ := c9 h
 cases e
 exact ⟨_, c0G hr hs hne⟩
theorem c5U {i : Int} (h : a6U s i = some u) (hs : isS S p pw v s) (hne : p ≠ pw) : ∃ b, Ev Tryd.prog 39 [.ptr p 0 0, .int .i64 i] (hp S) (.bool b) (hp (a3m S p pw (v + 1) u)) := by
 obtain ⟨r, hr, e⟩ := c9 h
 cases e
 exact ⟨_, c0H hr hs hne⟩
theorem c8R {fuel : Nat} {r : Bool × b9} (h : b4h fuel s t = some r) (hs : isS S p pw v s) (ht : isS S q qw vq t) (hnd : [p, pw, q, qw].Nodup) : Ev Tryd.prog 34 [.ptr p 0 0, .ptr q 0 0] (hp S) (.bool r.1) (hp (a3m S p pw (v + 1) r.2)) := by
 obtain ⟨k, hk, e⟩ := c9 h
 obtain ⟨e1, e2⟩ := a1z e
 cases e2
 exact c5R hk e1 hs ht hnd
end
abbrev R0 := List b9 × List b9
abbrev T1 := List b9 × List b9 × List (List Int) × List Int
abbrev T2 := List b9 × List b9 × List Int × List Bool
def a9t (N i : Nat) (_ : Nat) (to : Int) (s : List (List Int)) : Option (Stp (List (List Int)) (Option (Stp T1 (Option R0)))) :=
 gd (s.length = N) ((m0 s to).bind fun y => (a8F 8 y [(i : Int)]).bind fun l => some (.nxt (s.set to.toNat l)))
def a9u (g : b5) (i : Nat) (n : f6) (s : T1) : Option (Stp T1 (Option R0)) :=
 gd (s.1.length = i /\ s.2.1.length = i) ((a9s (List.length g.Kinds : Int)).bind fun a => (a9s (List.length g.Kinds : Int)).bind fun b => (a2C n).bind fun nx =>
  (rng (a9t g.Nodes.length i) nx s.2.2.1).bind (oc fun bf => (a8F 8 s.2.2.2 [(i : Int)]).bind fun l => some (.nxt (s.1 ++ [a], s.2.1 ++ [b], bf, l))))
def a6V (i : Nat) (s : List Bool) : Option (Stp (List Bool) (Option R0)) := (m0 s (i : Int)).bind fun _ => some (.nxt (s.set (i : Int).toNat true))
def b4i (fuel : Nat) (ins : List b9) (i : Int) (_ : Nat) (to : Int) (outs : List b9) : Option (Stp (List b9) (Option (Stp T2 (Option R0)))) :=
 gd (outs.length = ins.length) ((m0 outs i).bind fun a => (m0 ins to).bind fun b => (b4h fuel a b).bind fun r => some (.nxt (outs.set i.toNat r.2)))
def a9v (_ : Nat) (p : Int) (s : b9) : Option (Stp b9 (Option (Stp T2 (Option R0)))) := (a6T s p).bind fun d => some (.nxt d)
def a9w (_ : Nat) (p : Int) (s : b9) : Option (Stp b9 (Option (Stp T2 (Option R0)))) := (a6U s p).bind fun d => some (.nxt d)
def a9x (_ : Nat) (b : Int) (s : List Int × List Bool) : Option (Stp (List Int × List Bool) (Option (Stp T2 (Option R0)))) :=
 (m0 s.2 b).bind fun y => if (!y) = true then (a8F 8 s.1 [b]).bind fun l => (m0 s.2 b).bind fun _ => some (.nxt (l, s.2.set b.toNat true)) else some (.nxt s)
def a5N (fuel : Nat) (g : b5) (bef : List (List Int)) (s : T2) : Option (Stp T2 (Option R0)) :=
 gd (s.1.length = g.Nodes.length /\ s.2.1.length = g.Nodes.length /\ bef.length = g.Nodes.length) (if (decide ((List.length s.2.2.1 : Int) > 0)) = true then
  (m0 s.2.2.1 (I64 ((List.length s.2.2.1 : Int) - 1))).bind fun i => (b2r s.2.2.1 0 (I64 ((List.length s.2.2.1 : Int) - 1))).bind fun td => (m0 s.2.2.2 i).bind fun _ =>
  (m0 g.Nodes i).bind fun nd => (a2C nd).bind fun nx => (rng (b4i fuel s.1 i) nx s.2.1).bind (oc fun outs => gd (outs.length = g.Nodes.length) ((m0 outs i).bind fun oi => (a8u oi).bind fun c =>
  (m0 g.Nodes i).bind fun nd2 => (a2D nd2).bind fun wr => (rng a9v wr c).bind (oc fun c1 => (m0 g.Nodes i).bind fun nd3 => (a3f nd3).bind fun rd => (rng a9w rd c1).bind (oc fun c2 =>
  (m0 s.1 i).bind fun ii => (b4h fuel ii c2).bind fun r => (if (!r.1) = true then some (.nxt (s.1.set i.toNat r.2, outs, td, s.2.2.2.set i.toNat false)) else
  (m0 bef i).bind fun bs => (rng a9x bs (td, s.2.2.2.set i.toNat false)).bind (oc fun q => some (.nxt (s.1.set i.toNat r.2, outs, q.1, q.2))))))))
 else some (.brk s))
def a1P (fuel : Nat) (g : b5) : Option R0 :=
 (mkL 8 (List.length g.Nodes : Int) (List.length g.Nodes : Int) ()).bind fun m1 => (mkL 8 (List.length g.Nodes : Int) (List.length g.Nodes : Int) ()).bind fun m2 => (mkL 24 (List.length g.Nodes : Int) (List.length g.Nodes : Int) []).bind fun m3 => (mkL 8 0 (List.length g.Nodes : Int) 0).bind fun m4 =>
 (rng (a9u g) g.Nodes ([], [], m3, m4)).bind (oc fun s => gd (s.1.length = g.Nodes.length /\ s.2.1.length = g.Nodes.length /\ s.2.2.1.length = g.Nodes.length) ((mkL 1 (List.length g.Nodes : Int) (List.length g.Nodes : Int) false).bind fun w =>
 (rni a6V (List.length w : Int) w).bind (oc fun w2 => (whileN (a5N fuel g s.2.2.1) fuel (s.1, s.2.1, s.2.2.2, w2)).bind (oc fun e => gd (e.1.length = g.Nodes.length /\ e.2.1.length = g.Nodes.length) (some (e.1, e.2.1))))))
theorem c0N {P : Program} {ow : List Nat} {fr : Fr} {S : List Ob} {log : List LE} {d n rs} {cs : List AV} {S' : List Ob} {K : Fr -> List Ob -> List LE -> Prop} (how : ow.contains d = true) (hn : S.length = n) (hS : s9 S n (.arr 0 cs) = S')
  (h : VTops P ow rs ((d, .ptr n 0 0) :: fr) S' (.acc [n] (some n) :: log) K) : VTops P ow (⟨some d, none, .op (.new cs)⟩ :: rs) fr S log K := by
 subst hn
 refine a2e (v := .ptr S.length 0 0) (rd := []) (δ := some (S.length, .arr 0 cs)) ?_ rfl hS h
 simp only [opV, b7r, how, if_true]
theorem b4j {S : List Ob} {n v : Nat} {s : b9} (hn : S.length = n) : (a3m S n (n + 1) v s).length = n + 2 := by subst hn; exact a4Y
section
variable {g : b5} {r : R0} {fuel : Nat}
theorem c0O {P : Program} {ow : List Nat} {fr : Fr} {S : List Ob} {log : List LE} {α : Type} {f : α -> AV} {esh : Option Nat} {d o} {bytes : Nat} {z l c rs} {K : Fr -> List Ob -> List LE -> Prop} {k k' n n'} {S' : List Ob} {x : α} {v : List α} (hn : S.length = o) (he : Enc f esh) (how : ow.contains d = true) (e : ev (Fr.get fr) l = .int k n) (e1 : ev (Fr.get fr) c = .int k' n') (hz : (f x).cells = z) (hv : mkL bytes n n' x = some v)
  (hS : s9 S o (.arr 0 (flat f v)) = S')
  (h : VTops P ow rs ((d, .ref o 0 0 v.length esh) :: fr) S' (.acc [o] (some o) :: log) K) : VTops P ow (⟨some d, none, .op (.mksl esh bytes z l c)⟩ :: rs) fr S log K := by
 subst hn
 exact b2t he how e e1 hz hv hS h
theorem c8S : Enc (fun (_ : Unit) => AV.nilp) none := ⟨fun _ => rfl, fun _ => rfl, fun _ => rfl, fun _ _ => rfl⟩
theorem d0j : Enc (fun (_ : List Int) => AV.nils) none := ⟨fun _ => rfl, fun _ => rfl, fun _ => rfl, fun _ _ => rfl⟩
theorem a4z {α : Type} {l : List α} {i : Int} {y : α} (h : m0 l i = some y) : 0 <= i /\ i.toNat < l.length /\ i = (i.toNat : Int) /\ l[i.toNat]? = some y := by
 obtain ⟨h1, h2, h3⟩ := i8 h
 exact ⟨h1, by omega, by omega, h3⟩
abbrev gR (g : b5) : AV := .cptr (b5.av g).cells 0
theorem gb {R : Rn} {g : b5} : RnV R (gR g) (gR g) := l7 (k7 (b5.enc.blw _ 0))
theorem a7n (h : a1P fuel g = some r) : PureEv Tryd.prog 16 [(.cptr (b5.av g).cells 0)] (.tup [(.sl false 1 ((r.1.map some).map (avP b9.av))), (.sl false 1 ((r.2.map some).map (avP b9.av)))]) := by
 unfold a1P at h
 refine j8 mixed d0i zS [9, 29, 35, 41, 47, 104] 6 ?_
 unfold c8Q
 refine d9 ?_
 refine b8 ?_
 refine oM .nils ?_
 refine oM .nils ?_
 refine b6 ?_
 refine f5 ?_
 refine d9 ?_
 refine a1D ?_
 refine oM (.cptr (b5.av g).cells 0) ?_
 refine oP (.cptr (b5.av g).cells 0) ?_
 refine oP (.cptr (b5.av g).cells 6) ?_
 refine oP (.sl false 12 (List.map f6.av g.Nodes)) ?_
 refine t7 rfl ?_
 obtain ⟨m1, hm1, h⟩ := c9 h
 refine b2t (f := (fun (_ : Unit) => AV.nilp)) (x := ()) (S' := [.arr 0 (flat (fun (_ : Unit) => AV.nilp) m1)]) c8S rfl rfl rfl rfl hm1 rfl ?_
 refine oM (.cptr (b5.av g).cells 0) ?_
 refine oP (.cptr (b5.av g).cells 0) ?_
 refine oP (.cptr (b5.av g).cells 6) ?_
 refine oP (.sl false 12 (List.map f6.av g.Nodes)) ?_
 refine t7 rfl ?_
 obtain ⟨m2, hm2, h⟩ := c9 h
 refine b2t (f := (fun (_ : Unit) => AV.nilp)) (x := ()) (S' := [.arr 0 (flat (fun (_ : Unit) => AV.nilp) m1), .arr 0 (flat (fun (_ : Unit) => AV.nilp) m2)]) c8S rfl rfl rfl rfl hm2 rfl ?_
 refine oM (.ref 0 0 0 (List.length m1) none) ?_
 refine oM (.ref 1 0 0 (List.length m2) none) ?_
 refine b6 ?_
 refine And.intro (by simp [a1i, a5b, a0y, hp, a1R]) ?_
 refine f5 ?_
 refine d9 ?_
 refine b8 ?_
 refine oM (.cptr (b5.av g).cells 0) ?_
 refine oP (.cptr (b5.av g).cells 0) ?_
 refine oP (.cptr (b5.av g).cells 6) ?_
 refine oP (.sl false 12 (List.map f6.av g.Nodes)) ?_
 refine t7 rfl ?_
 obtain ⟨m3, hm3, h⟩ := c9 h
 refine b2t (f := (fun (_ : List Int) => AV.nils)) (x := []) (S' := [.arr 0 (flat (fun (_ : Unit) => AV.nilp) m1), .arr 0 (flat (fun (_ : Unit) => AV.nilp) m2), .arr 0 (flat (fun (_ : List Int) => AV.nils) m3)]) d0j rfl rfl rfl rfl hm3 rfl ?_
 refine oM (.ref 2 0 0 (List.length m3) none) ?_
 refine b6 ?_
 refine f5 ?_
 refine d9 ?_
 refine b8 ?_
 refine oM (.cptr (b5.av g).cells 0) ?_
 refine oP (.cptr (b5.av g).cells 0) ?_
 refine oP (.cptr (b5.av g).cells 6) ?_
 refine oP (.sl false 12 (List.map f6.av g.Nodes)) ?_
 refine t7 rfl ?_
 obtain ⟨m4, hm4, h⟩ := c9 h
 refine b2t (x := 0) (S' := [.arr 0 (flat (fun (_ : Unit) => AV.nilp) m1), .arr 0 (flat (fun (_ : Unit) => AV.nilp) m2), .arr 0 (flat (fun (_ : List Int) => AV.nils) m3), .arr 0 (flat (avI .i64) m4)]) (j3 .i64) rfl rfl rfl rfl hm4 rfl ?_
 obtain ⟨_, q1⟩ := a5j hm1
 obtain ⟨_, q2⟩ := a5j hm2
 obtain ⟨_, q3⟩ := a5j hm3
 obtain ⟨_, q4⟩ := a5j hm4
 have l1 : m1.length = g.Nodes.length := by rw [q1]; simp
 have l2 : m2.length = g.Nodes.length := by rw [q2]; simp
 have l3 : m3.length = g.Nodes.length := by rw [q3]; simp
 have q3' : m3 = List.replicate g.Nodes.length [] := by rw [q3]; simp
 obtain rfl : m4 = [] := by rw [q4]; rfl
 refine oM (.ref 3 0 0 (List.length ([] : List Int)) none) ?_
 refine b6 ?_
 refine f5 ?_
 refine a0z ?_
 refine d9 ?_
 refine b8 ?_
 refine oM (.cptr (b5.av g).cells 0) ?_
 refine oP (.cptr (b5.av g).cells 0) ?_
 refine oP (.cptr (b5.av g).cells 6) ?_
 refine oP (.sl false 12 (List.map f6.av g.Nodes)) ?_
 refine t7 rfl ?_
 refine oM (.int .i64 0) ?_
 refine b6 ?_
 refine f5 ?_
 refine d9 ?_
 refine a1a (fun s : T1 => [(0, gR g), (4, (.ref 0 0 0 g.Nodes.length none)), (5, (.ref 1 0 0 g.Nodes.length none)), (6, (.ref 2 0 0 g.Nodes.length none)), (7, (.ref 3 0 0 (List.length s.2.2.2) none)), (51, (.sl false 12 (List.map f6.av g.Nodes)))]) (fun s : T1 => HS g.Nodes.length s.1 s.2.1 s.2.2.1 s.2.2.2 []) h zD zD (fun _ => ⟨rfl, rfl, rfl, rfl⟩)
  (b7X l1 l2 q3' ⟨(l7 rfl), (l7 rfl), gb, a6P l1 zO rfl rfl rfl (by rw [a0V]; simp [g6]), a6P l2 zO rfl rfl rfl (by rw [a0V]; simp [g6]), a6P l3 zO rfl rfl rfl (by rw [a3A]; simp [g6]), a3F zO rfl rfl rfl zS, (l7 (f6.enc.blws 0)), trivial⟩) (fun i n s c hx hlt h => ?_) (fun s fr' S' h hw => ?_)
 ·unfold a9u at h
  obtain ⟨⟨hi, ho⟩, h⟩ := a1z h
  have h0 : HasSt (HS g.Nodes.length s.1 s.2.1 s.2.2.1 s.2.2.2 []) id g.Nodes.length s.1 s.2.1 s.2.2.1 0 s.2.2.2 [] := a6i zO zO
  have hl0 : (HS g.Nodes.length s.1 s.2.1 s.2.2.1 s.2.2.2 []).length = 5 + 5 * g.Nodes.length := a8q
  generalize hS0 : HS g.Nodes.length s.1 s.2.1 s.2.2.1 s.2.2.2 [] = S0 at h0 hl0
  refine d9 ?_
  refine b8 ?_
  refine oM (.int .i64 (i : Int)) ?_
  refine j6 rfl rfl (a0A hx) ?_
  refine oP (f6.av n) ?_
  refine c0N rfl hl0 rfl ?_
  refine oM (.int .i64 (i : Int)) ?_
  refine b3K (S' := s9 S0 (5 + 5 * g.Nodes.length) (.arr 0 (f6.cells n))) (xv := f6.av n) rfl rfl (by rw [t6, a4j]) rfl rfl nB (by rw [a5a]; rfl) ?_
  refine b6 ?_
  refine f5 ?_
  have hl1 : (s9 S0 (5 + 5 * g.Nodes.length) (.arr 0 (f6.cells n))).length = 5 + 5 * g.Nodes.length + 1 := by rw [a2f _ _ _ zO]; omega
  have k1 : ∀ k, k < 5 + 5 * g.Nodes.length -> hp (s9 S0 (5 + 5 * g.Nodes.length) (.arr 0 (f6.cells n))) k = hp S0 k := fun k hk => by rw [t6, a1N zO]
  have k1n : hp (s9 S0 (5 + 5 * g.Nodes.length) (.arr 0 (f6.cells n))) (5 + 5 * g.Nodes.length) = .arr 0 (f6.cells n) := by rw [t6, a4j]
  generalize hS1 : s9 S0 (5 + 5 * g.Nodes.length) (.arr 0 (f6.cells n)) = S1 at hl1 k1 k1n
  refine d9 ?_
  refine a1D ?_
  refine oM (.ref 0 0 0 g.Nodes.length none) ?_
  refine oM (.int .i64 (i : Int)) ?_
  refine oM (.ref 1 0 0 g.Nodes.length none) ?_
  refine oM (.int .i64 (i : Int)) ?_
  refine oM (.cptr (b5.av g).cells 0) ?_
  refine oP (.cptr (b5.av g).cells 0) ?_
  refine oP (.cptr (b5.av g).cells 1) ?_
  refine oP (.sl false 1 (List.map (avI .u8) g.Kinds)) ?_
  refine t7 rfl ?_
  obtain ⟨a, ha, h⟩ := c9 h
  have eA := c0L (S := S1) ha
  rw [hl1] at eA
  refine a3t eA rfl ?_
  have hl2 : (a3m S1 (5 + 5 * g.Nodes.length + 1) (5 + 5 * g.Nodes.length + 1 + 1) 1 a).length = 5 + 5 * g.Nodes.length + 3 := b4j hl1
  have k2 : ∀ k, k < 5 + 5 * g.Nodes.length + 1 -> hp (a3m S1 (5 + 5 * g.Nodes.length + 1) (5 + 5 * g.Nodes.length + 1 + 1) 1 a) k = hp S1 k := fun k hk => a1m zO zO
  have sA : isS (a3m S1 (5 + 5 * g.Nodes.length + 1) (5 + 5 * g.Nodes.length + 1 + 1) 1 a) (5 + 5 * g.Nodes.length + 1) (5 + 5 * g.Nodes.length + 2) 1 a := a2l zO
  generalize hS2 : a3m S1 (5 + 5 * g.Nodes.length + 1) (5 + 5 * g.Nodes.length + 1 + 1) 1 a = S2 at hl2 k2 sA
  refine oM (.cptr (b5.av g).cells 0) ?_
  refine oP (.cptr (b5.av g).cells 0) ?_
  refine oP (.cptr (b5.av g).cells 1) ?_
  refine oP (.sl false 1 (List.map (avI .u8) g.Kinds)) ?_
  refine t7 rfl ?_
  obtain ⟨b, hb, h⟩ := c9 h
  have eB := c0L (S := S2) hb
  rw [hl2] at eB
  refine a3t eB rfl ?_
  have k3 : ∀ k, k < 5 + 5 * g.Nodes.length + 3 -> hp (a3m S2 (5 + 5 * g.Nodes.length + 3) (5 + 5 * g.Nodes.length + 3 + 1) 1 b) k = hp S2 k := fun k hk => a1m zO zO
  have sB : isS (a3m S2 (5 + 5 * g.Nodes.length + 3) (5 + 5 * g.Nodes.length + 3 + 1) 1 b) (5 + 5 * g.Nodes.length + 3) (5 + 5 * g.Nodes.length + 4) 1 b := a2l zO
  generalize hS3 : a3m S2 (5 + 5 * g.Nodes.length + 3) (5 + 5 * g.Nodes.length + 3 + 1) 1 b = S3 at k3 sB
  obtain ⟨cs0, c01, c02, _⟩ := h0.c0
  obtain ⟨cs1, c11, c12, _⟩ := h0.c1
  have d0 : hp S3 0 = .arr 0 cs0 := by rw [k3 _ zO, k2 _ zO, k1 _ zO]; exact c01
  have d1 : hp S3 1 = .arr 0 cs1 := by rw [k3 _ zO, k2 _ zO, k1 _ zO]; exact c11
  refine a1d rfl rfl ⟨by omega, by omega⟩ ?_
  refine b3K (S' := s9 S3 0 (.arr 0 (cs0.set i (.ptr (5 + 5 * g.Nodes.length + 1) 0 0)))) (xv := .ptr (5 + 5 * g.Nodes.length + 1) 0 0) rfl rfl d0 rfl rfl (by simp [g6]; omega) (by simp [g6, splice, AV.cells]) ?_
  refine a1d rfl rfl ⟨by omega, by omega⟩ ?_
  refine b3K (S' := s9 (s9 S3 0 (.arr 0 (cs0.set i (.ptr (5 + 5 * g.Nodes.length + 1) 0 0)))) 1 (.arr 0 (cs1.set i (.ptr (5 + 5 * g.Nodes.length + 3) 0 0)))) (xv := .ptr (5 + 5 * g.Nodes.length + 3) 0 0) rfl rfl (by rw [t6, a1N zD]; exact d1) rfl rfl (by simp [g6]; omega) (by simp [g6, splice, AV.cells]) ?_
  have k5 : ∀ k, k ≠ 0 -> k ≠ 1 -> hp (s9 (s9 S3 0 (.arr 0 (cs0.set i (.ptr (5 + 5 * g.Nodes.length + 1) 0 0)))) 1 (.arr 0 (cs1.set i (.ptr (5 + 5 * g.Nodes.length + 3) 0 0)))) k = hp S3 k := fun k a b => by rw [t6, a1N b, t6, a1N a]
  have k50 : hp (s9 (s9 S3 0 (.arr 0 (cs0.set i (.ptr (5 + 5 * g.Nodes.length + 1) 0 0)))) 1 (.arr 0 (cs1.set i (.ptr (5 + 5 * g.Nodes.length + 3) 0 0)))) 0 = .arr 0 (cs0.set i (.ptr (5 + 5 * g.Nodes.length + 1) 0 0)) := by rw [t6, a1N zD, t6, a4j]
  have k51 : hp (s9 (s9 S3 0 (.arr 0 (cs0.set i (.ptr (5 + 5 * g.Nodes.length + 1) 0 0)))) 1 (.arr 0 (cs1.set i (.ptr (5 + 5 * g.Nodes.length + 3) 0 0)))) 1 = .arr 0 (cs1.set i (.ptr (5 + 5 * g.Nodes.length + 3) 0 0)) := by rw [t6, a4j]
  generalize hS5 : s9 (s9 S3 0 (.arr 0 (cs0.set i (.ptr (5 + 5 * g.Nodes.length + 1) 0 0)))) 1 (.arr 0 (cs1.set i (.ptr (5 + 5 * g.Nodes.length + 3) 0 0))) = S5 at k5 k50 k51
  refine b6 ?_
  refine And.intro (by simp [a1i, a5b, a0y]) ?_
  refine f5 ?_
  have hP : HasSt S5 (a2V (5 + 5 * g.Nodes.length) i) g.Nodes.length (s.1 ++ [a]) (s.2.1 ++ [b]) s.2.2.1 0 s.2.2.2 [] :=
   h0.push hi ho hlt c01 c11 (fun k a b c => by rw [k5 k b c, k3 k zO, k2 k zO, k1 k a]) k50 k51 (y4 sA (by rw [k5 _ zO zO, k3 _ zO]) (by rw [k5 _ zO zO, k3 _ zO])) (y4 sB (k5 _ zO zO) (k5 _ zO zO))
  refine a0z ?_
  refine d9 ?_
  refine b8 ?_
  refine a9l (v := f6.av n) rfl (by rw [k5 _ zO zO, k3 _ zO, k2 _ zO]; exact k1n) rfl ?_
  obtain ⟨nx, hnx, h⟩ := c9 h
  refine j4 (a5J hnx) rfl ⟨(.refl _), trivial⟩ (g9 ⟨(f6.enc.blw _ 0), trivial⟩) ((j3 .i64).blws 0) ?_
  refine t7 rfl ?_
  refine oM (.int .i64 0) ?_
  refine b6 ?_
  refine f5 ?_
  refine d9 ?_
  refine a1a (fun bf => [(0, gR g), (4, (.ref 0 0 0 g.Nodes.length none)), (5, (.ref 1 0 0 g.Nodes.length none)), (6, (.ref 2 0 0 g.Nodes.length none)), (7, (.ref 3 0 0 (List.length s.2.2.2) none)), (8, (.int .i64 (i : Int))), (51, (.sl false 12 (List.map f6.av g.Nodes))), (52, (.int .i64 (List.length g.Nodes : Int))), (53, (.int .i64 (i : Int))), (77, (.sl false 1 (List.map (avI .i64) nx)))]) (fun bf => HS g.Nodes.length (s.1 ++ [a]) (s.2.1 ++ [b]) bf s.2.2.2 []) h zD zD (fun _ => ⟨rfl, rfl, rfl, rfl⟩)
   (hP.wkM b4d ⟨(l7 rfl), (l7 rfl), gb, hP.r4 (Nat.le_refl _) rfl rfl (a0h zO zO zO zO), hP.r5 (Nat.le_refl _) rfl rfl (a0h zO zO zO zO), hP.r6 (Nat.le_refl _) rfl rfl (a0h zO zO zO zO), hP.r7 (Nat.le_refl _) rfl rfl rfl (a0h zO zO zO zO), (l7 rfl), (l7 (f6.enc.blws 0)), (l7 rfl), (l7 rfl), (l7 ((j3 .i64).blws 0)), trivial⟩) (fun i2 to bf c hx2 hlt2 h => ?_) (fun bf fr' S' h hw => ?_)
  ·unfold a9t at h
   obtain ⟨hbl, h⟩ := a1z h
   obtain ⟨y, hy, h⟩ := c9 h
   obtain ⟨l, hl, h⟩ := c9 h
   obtain ⟨y0, y1, y2, y3⟩ := a4z hy
   have hB : HasSt (HS g.Nodes.length (s.1 ++ [a]) (s.2.1 ++ [b]) bf s.2.2.2 []) id g.Nodes.length (s.1 ++ [a]) (s.2.1 ++ [b]) bf 0 s.2.2.2 [] := a6i zE zE
   generalize hSB : HS g.Nodes.length (s.1 ++ [a]) (s.2.1 ++ [b]) bf s.2.2.2 [] = SB at hB
   obtain ⟨cs, v, b1, b2, b3, b4⟩ := hB.befAt (j := to.toNat) zO
   have ey : bf.getD to.toNat [] = y := by simp [List.getD_eq_getElem?_getD, y3]
   rw [ey] at b3 b4
   refine d9 ?_
   refine b8 ?_
   refine j6 rfl rfl (a0A hx2) ?_
   refine oP (.int .i64 to) ?_
   refine oM (.int .i64 to) ?_
   refine b6 ?_
   refine f5 ?_
   refine b8 ?_
   refine oM (.ref 2 0 0 g.Nodes.length none) ?_
   refine oM (.int .i64 to) ?_
   refine oM (.ref 2 0 0 g.Nodes.length none) ?_
   refine oM (.int .i64 to) ?_
   refine a1d rfl rfl ⟨by omega, by omega⟩ ?_
   refine a9l rfl b1 (by simpa [g6] using b3) ?_
   refine oM (.int .i64 (i : Int)) ?_
   refine z9 (v' := (.sl true 1 (List.map (avI .i64) [(i : Int)]))) rfl (.refl _) rfl ?_
   refine a8n (S' := s9 SB (9 + 5 * to.toNat) (.arr (v + 1) (flat (avI .i64) l))) (j3 .i64) rfl (a2z [(i : Int)]) b4 hl rfl ?_
   refine a1d rfl rfl ⟨by omega, by omega⟩ ?_
   refine b3K (S' := s9 (s9 SB (9 + 5 * to.toNat) (.arr (v + 1) (flat (avI .i64) l))) 2 (.arr 0 (cs.set to.toNat (.ref (9 + 5 * to.toNat) (v + 1) 0 l.length none)))) (xv := .ref (9 + 5 * to.toNat) (v + 1) 0 l.length none) rfl rfl (by rw [t6, a1N zO]; exact b1) rfl rfl (by simp [g6]; omega) (by simp [g6, splice, AV.cells]) ?_
   refine b6 ?_
   have hC := hB.setBef (j := to.toNat) (v := v + 1) (l := l) zO y1 b1
   cases h
   exact a3u rfl (hC.wkI ⟨(l7 rfl), (l7 rfl), gb, hC.r4 (Nat.le_refl _) rfl rfl rfl, hC.r5 (Nat.le_refl _) rfl rfl rfl, hC.r6 (Nat.le_refl _) rfl rfl rfl, hC.r7 (Nat.le_refl _) rfl rfl rfl rfl, (l7 rfl), (l7 (f6.enc.blws 0)), (l7 rfl), (l7 rfl), (l7 ((j3 .i64).blws 0)), trivial⟩)
  ·refine a4S hw ?_
   have hB : HasSt (HS g.Nodes.length (s.1 ++ [a]) (s.2.1 ++ [b]) bf s.2.2.2 []) id g.Nodes.length (s.1 ++ [a]) (s.2.1 ++ [b]) bf 0 s.2.2.2 [] := a6i zE zE
   have e3 : hp (HS g.Nodes.length (s.1 ++ [a]) (s.2.1 ++ [b]) bf s.2.2.2 []) 3 = .arr 0 (flat (avI .i64) s.2.2.2) := a4K zO
   generalize hSB : HS g.Nodes.length (s.1 ++ [a]) (s.2.1 ++ [b]) bf s.2.2.2 [] = SB at hB e3
   refine b8 ?_
   refine oM (.ref 3 0 0 (List.length s.2.2.2) none) ?_
   refine oM (.int .i64 (i : Int)) ?_
   refine z9 (v' := (.sl true 1 (List.map (avI .i64) [(i : Int)]))) rfl (.refl _) rfl ?_
   obtain ⟨l, hl, h⟩ := c9 h
   refine a8n (S' := s9 SB 3 (.arr 1 (flat (avI .i64) l))) (j3 .i64) rfl (a2z [(i : Int)]) e3 hl rfl ?_
   refine oM (.ref 3 1 0 (List.length l) none) ?_
   refine b6 ?_
   have hC := hB.setTodo (v := 1) (todo' := l)
   cases h
   exact a3u rfl (hC.wkI ⟨(l7 rfl), (l7 rfl), gb, hC.r4 (Nat.le_refl _) rfl rfl rfl, hC.r5 (Nat.le_refl _) rfl rfl rfl, hC.r6 (Nat.le_refl _) rfl rfl rfl, hC.r7 (Nat.le_refl _) rfl rfl rfl rfl, (l7 (f6.enc.blws 0)), trivial⟩)
 ·refine a4S hw ?_
  obtain ⟨⟨li, lo, lb⟩, h⟩ := a1z h
  have h0 : HasSt (HS g.Nodes.length s.1 s.2.1 s.2.2.1 s.2.2.2 []) id g.Nodes.length s.1 s.2.1 s.2.2.1 0 s.2.2.2 [] := a6i zO zO
  have hl0 : (HS g.Nodes.length s.1 s.2.1 s.2.2.1 s.2.2.2 []).length = 5 + 5 * g.Nodes.length := a8q
  generalize hS0 : HS g.Nodes.length s.1 s.2.1 s.2.2.1 s.2.2.2 [] = S0 at h0 hl0
  refine d9 ?_
  refine b8 ?_
  refine oM (.cptr (b5.av g).cells 0) ?_
  refine oP (.cptr (b5.av g).cells 0) ?_
  refine oP (.cptr (b5.av g).cells 6) ?_
  refine oP (.sl false 12 (List.map f6.av g.Nodes)) ?_
  refine t7 rfl ?_
  obtain ⟨w, hw1, h⟩ := c9 h
  refine c0O (x := false) (S' := s9 S0 (5 + 5 * g.Nodes.length) (.arr 0 (flat avB w))) hl0 b6D rfl rfl rfl rfl hw1 rfl ?_
  refine oM (.ref (5 + 5 * g.Nodes.length) 0 0 (List.length w) none) ?_
  refine b6 ?_
  refine f5 ?_
  have hP : HasSt (s9 S0 (5 + 5 * g.Nodes.length) (.arr 0 (flat avB w))) (a5M (5 + 5 * g.Nodes.length)) g.Nodes.length s.1 s.2.1 s.2.2.1 0 s.2.2.2 w := h0.newWaits (fun k hk => by rw [t6, a1N zO]) (by rw [t6, a4j])
  refine a0z ?_
  refine d9 ?_
  refine b8 ?_
  refine oM (.ref (5 + 5 * g.Nodes.length) 0 0 (List.length w) none) ?_
  refine a5V rfl ?_
  refine oM (.int .i64 0) ?_
  refine b6 ?_
  refine f5 ?_
  refine d9 ?_
  refine a5X (fun w => [(0, gR g), (4, (.ref 0 0 0 g.Nodes.length none)), (5, (.ref 1 0 0 g.Nodes.length none)), (6, (.ref 2 0 0 g.Nodes.length none)), (7, (.ref 3 0 0 (List.length s.2.2.2) none)), (12, (.ref 4 0 0 (List.length w) none))]) (fun w => HS g.Nodes.length s.1 s.2.1 s.2.2.1 s.2.2.2 w) h zD zD (fun _ => ⟨rfl, rfl, rfl, rfl⟩)
   (hP.wkM b4f ⟨(l7 rfl), (l7 rfl), gb, hP.r4 (m' := fun i => some (a5M (5 + 5 * g.Nodes.length) i)) (Nat.le_refl _) rfl rfl (a0i zO), hP.r5 (m' := fun i => some (a5M (5 + 5 * g.Nodes.length) i)) (Nat.le_refl _) rfl rfl (a0i zO), hP.r6 (m' := fun i => some (a5M (5 + 5 * g.Nodes.length) i)) (Nat.le_refl _) rfl rfl (a0i zO), hP.r7 (m' := fun i => some (a5M (5 + 5 * g.Nodes.length) i)) (Nat.le_refl _) rfl rfl rfl (a0i zO), hP.r12 (Nat.le_refl _) rfl rfl rfl b4e, trivial⟩) (fun i w c hlt h => ?_) (fun w fr' S' h hw => ?_)
  ·unfold a6V at h
   obtain ⟨y, hy, h⟩ := c9 h
   have hB : HasSt (HS g.Nodes.length s.1 s.2.1 s.2.2.1 s.2.2.2 w) id g.Nodes.length s.1 s.2.1 s.2.2.1 0 s.2.2.2 w := a6i zO zO
   generalize hSB : HS g.Nodes.length s.1 s.2.1 s.2.2.1 s.2.2.2 w = SB at hB
   refine d9 ?_
   refine b8 ?_
   refine oM (.int .i64 (i : Int)) ?_
   refine oM (.int .i64 (i : Int)) ?_
   refine b6 ?_
   refine f5 ?_
   refine b8 ?_
   refine oM (.ref 4 0 0 (List.length w) none) ?_
   refine oM (.int .i64 (i : Int)) ?_
   refine a1d rfl rfl ⟨(i8 hy).1, (i8 hy).2.1⟩ ?_
   refine b3z (y := y) (y' := true) (S' := s9 SB 4 (.arr 0 (flat avB (List.set w (Int.toNat (i : Int)) true)))) b6D rfl rfl hB.c4 zA (i8 hy).2.2 rfl rfl nB rfl rfl ?_
   refine b6 ?_
   have hC := hB.setWaits (waits' := List.set w (Int.toNat (i : Int)) true)
   cases h
   exact a3u rfl (hC.wkI ⟨(l7 rfl), (l7 rfl), gb, hC.r4 (Nat.le_refl _) rfl rfl rfl, hC.r5 (Nat.le_refl _) rfl rfl rfl, hC.r6 (Nat.le_refl _) rfl rfl rfl, hC.r7 (Nat.le_refl _) rfl rfl rfl rfl, hC.r12 (Nat.le_refl _) rfl rfl (by rw [List.length_set]) rfl, trivial⟩)
  ·refine a4S hw ?_
   have hQ : HasSt (HS g.Nodes.length s.1 s.2.1 s.2.2.1 s.2.2.2 w) id g.Nodes.length s.1 s.2.1 s.2.2.1 0 s.2.2.2 w := a6i zO zO
   refine d9 ?_
   refine a5k (fun q : T2 => [(0, gR g), (4, (.ref 0 0 0 g.Nodes.length none)), (5, (.ref 1 0 0 g.Nodes.length none)), (6, (.ref 2 0 0 g.Nodes.length none)), (7, (.ref 3 0 0 (List.length q.2.2.1) none)), (12, (.ref 4 0 0 (List.length q.2.2.2) none))]) (fun q : T2 => HS g.Nodes.length q.1 q.2.1 s.2.2.1 q.2.2.1 q.2.2.2) h
    (hQ.wkI ⟨gb, hQ.r4 (Nat.le_refl _) rfl rfl rfl, hQ.r5 (Nat.le_refl _) rfl rfl rfl, hQ.r6 (Nat.le_refl _) rfl rfl rfl, hQ.r7 (Nat.le_refl _) rfl rfl rfl rfl, hQ.r12 (Nat.le_refl _) rfl rfl rfl rfl, trivial⟩) (fun q c h => ?_) (fun q fr' S' h hw => ?_)
   ·unfold a5N at h
    obtain ⟨⟨li, lo, lb⟩, h⟩ := a1z h
    have h0 : HasSt (HS g.Nodes.length q.1 q.2.1 s.2.2.1 q.2.2.1 q.2.2.2) id g.Nodes.length q.1 q.2.1 s.2.2.1 0 q.2.2.1 q.2.2.2 := a6i zO zO
    have e3 : hp (HS g.Nodes.length q.1 q.2.1 s.2.2.1 q.2.2.1 q.2.2.2) 3 = .arr 0 (flat (avI .i64) q.2.2.1) := a4K zO
    generalize hS0 : HS g.Nodes.length q.1 q.2.1 s.2.2.1 q.2.2.1 q.2.2.2 = S0 at h0 e3
    refine a0z ?_
    refine d9 ?_
    refine b8 ?_
    refine oM (.ref 3 0 0 (List.length q.2.2.1) none) ?_
    refine a5V rfl ?_
    refine oP (.bool (decide ((List.length q.2.2.1 : Int) > 0))) ?_
    refine b6 ?_
    refine f5 ?_
    refine d9 ?_
    refine E_cs (t := (decide ((List.length q.2.2.1 : Int) > 0))) rfl (fun hb => ?_) (fun hb => ?_)
    ·rw [b2p hb] at h
     refine i7 ?_
     refine f5 ?_
     refine z6 ?_
     refine d9 ?_
     refine b8 ?_
     refine oM (.ref 3 0 0 (List.length q.2.2.1) none) ?_
     refine oM (.ref 3 0 0 (List.length q.2.2.1) none) ?_
     refine a5V rfl ?_
     refine oP (.int .i64 (I64 ((List.length q.2.2.1 : Int) - 1))) ?_
     obtain ⟨i, hi, h⟩ := c9 h
     refine a1d rfl rfl ⟨(i8 hi).1, (i8 hi).2.1⟩ ?_
     refine a9h (j3 .i64) rfl e3 zA (i8 hi).2.2 rfl (.refl _) ?_
     refine oM (.int .i64 i) ?_
     refine b6 ?_
     refine f5 ?_
     refine d9 ?_
     refine b8 ?_
     refine oM (.ref 4 0 0 (List.length q.2.2.2) none) ?_
     refine oM (.int .i64 i) ?_
     refine oM (.ref 3 0 0 (List.length q.2.2.1) none) ?_
     refine oM (.ref 3 0 0 (List.length q.2.2.1) none) ?_
     refine a5V rfl ?_
     refine oP (.int .i64 (I64 ((List.length q.2.2.1 : Int) - 1))) ?_
     obtain ⟨td, htd, h⟩ := c9 h
     refine c0t rfl rfl htd ?_
     refine oM (.ref 3 0 (0 + 0 * g6 none) (Int.toNat (I64 ((List.length q.2.2.1 : Int) - 1))) none) ?_
     obtain ⟨y, hy, h⟩ := c9 h
     refine a1d rfl rfl ⟨(i8 hy).1, (i8 hy).2.1⟩ ?_
     refine b3z (y := y) (y' := false) (S' := s9 S0 4 (.arr 0 (flat avB (List.set q.2.2.2 (Int.toNat i) false)))) b6D rfl rfl h0.c4 zA (i8 hy).2.2 rfl rfl nB rfl rfl ?_
     refine b6 ?_
     refine f5 ?_
     obtain ⟨t1, t2⟩ := a6L htd
     have tl : (I64 ((List.length q.2.2.1 : Int) - 1)).toNat = td.length := by rw [t2]; simp; omega
     have tp : ∃ r, q.2.2.1 = td ++ r := ⟨q.2.2.1.drop (I64 ((List.length q.2.2.1 : Int) - 1)).toNat, by rw [t2]; simp⟩
     have hA := (h0.setWaits (waits' := List.set q.2.2.2 (Int.toNat i) false)).popTodo tp
     refine a0z ?_
     refine d9 ?_
     refine b8 ?_
     refine oM (.cptr (b5.av g).cells 0) ?_
     refine oP (.cptr (b5.av g).cells 0) ?_
     refine oP (.cptr (b5.av g).cells 6) ?_
     refine oP (.sl false 12 (List.map f6.av g.Nodes)) ?_
     refine oM (.int .i64 i) ?_
     obtain ⟨nd, hnd, h⟩ := c9 h
     refine j6 rfl rfl hnd ?_
     refine oP (f6.av nd) ?_
     obtain ⟨nx, hnx, h⟩ := c9 h
     refine j4 (a5J hnx) rfl ⟨(.refl _), trivial⟩ (g9 ⟨(f6.enc.blw _ 0), trivial⟩) ((j3 .i64).blws 0) ?_
     refine t7 rfl ?_
     refine oM (.int .i64 0) ?_
     refine b6 ?_
     refine f5 ?_
     refine d9 ?_
     refine a1a (fun outs => [(0, gR g), (4, (.ref 0 0 0 g.Nodes.length none)), (5, (.ref 1 0 0 g.Nodes.length none)), (6, (.ref 2 0 0 g.Nodes.length none)), (7, (.ref 3 0 0 (List.length td) none)), (12, (.ref 4 0 0 (List.length (List.set q.2.2.2 (Int.toNat i) false)) none)), (14, (.int .i64 i)), (138, (.sl false 1 (List.map (avI .i64) nx)))]) (fun outs => HS g.Nodes.length q.1 outs s.2.2.1 td (List.set q.2.2.2 (Int.toNat i) false)) h zD zD (fun _ => ⟨rfl, rfl, rfl, rfl⟩)
      (hA.wkI ⟨(l7 rfl), (l7 rfl), gb, hA.r4 (Nat.le_refl _) rfl rfl rfl, hA.r5 (Nat.le_refl _) rfl rfl rfl, hA.r6 (Nat.le_refl _) rfl rfl rfl, hA.r7 (Nat.le_refl _) rfl rfl tl rfl, hA.r12 (Nat.le_refl _) rfl rfl (by rw [List.length_set]) rfl, (l7 rfl), (l7 ((j3 .i64).blws 0)), trivial⟩) (fun i2 to outs c hx hlt h => ?_) (fun outs fr' S' h hw => ?_)
     ·unfold b4i at h
      obtain ⟨hol, h⟩ := a1z h
      obtain ⟨a, ha, h⟩ := c9 h
      obtain ⟨b, hb, h⟩ := c9 h
      obtain ⟨o, ho, h⟩ := c9 h
      obtain ⟨a0, a1, a2, a3⟩ := a4z ha
      obtain ⟨b0, b1, b2, b3⟩ := a4z hb
      have hB : HasSt (HS g.Nodes.length q.1 outs s.2.2.1 td (List.set q.2.2.2 (Int.toNat i) false)) id g.Nodes.length q.1 outs s.2.2.1 0 td (List.set q.2.2.2 (Int.toNat i) false) := a6i zO zO
      generalize hSB : HS g.Nodes.length q.1 outs s.2.2.1 td (List.set q.2.2.2 (Int.toNat i) false) = SB at hB
      refine d9 ?_
      refine b8 ?_
      refine j6 rfl rfl (a0A hx) ?_
      refine oP (.int .i64 to) ?_
      refine oM (.int .i64 to) ?_
      refine b6 ?_
      refine f5 ?_
      refine b8 ?_
      refine oM (.ref 1 0 0 g.Nodes.length none) ?_
      refine oM (.int .i64 i) ?_
      refine a1d rfl rfl ⟨by omega, by omega⟩ ?_
      obtain ⟨cs1, u1, u2⟩ := hB.outAt (j := i.toNat) a1
      refine a9l rfl u1 (by simpa [g6] using u2) ?_
      refine oM (.ref 0 0 0 g.Nodes.length none) ?_
      refine oM (.int .i64 to) ?_
      refine a1d rfl rfl ⟨by omega, by omega⟩ ?_
      obtain ⟨cs0, w1, w2⟩ := hB.inAt (j := to.toNat) b1
      refine a9l rfl w1 (by simpa [g6] using w2) ?_
      obtain ⟨va, sa⟩ := hB.c6 _ _ a3
      obtain ⟨vb, sb⟩ := hB.c5 _ _ b3
      refine a3t (c8R ho sa sb (by simp [id]; omega)) rfl ?_
      refine b6 ?_
      have hC := hB.setOut (j := i.toNat) (v := va) (v' := va + 1) (t := o.2) a3
      cases h
      exact a3u rfl (hC.wkI ⟨(l7 rfl), (l7 rfl), gb, hC.r4 (Nat.le_refl _) rfl rfl rfl, hC.r5 (Nat.le_refl _) rfl rfl rfl, hC.r6 (Nat.le_refl _) rfl rfl rfl, hC.r7 (Nat.le_refl _) rfl rfl rfl rfl, hC.r12 (Nat.le_refl _) rfl rfl rfl rfl, (l7 rfl), (l7 ((j3 .i64).blws 0)), trivial⟩)
     ·refine a4S hw ?_
      obtain ⟨hoN, h⟩ := a1z h
      obtain ⟨oi, hoi, h⟩ := c9 h
      obtain ⟨c0, hc0, h⟩ := c9 h
      obtain ⟨nd2, hnd2, h⟩ := c9 h
      obtain ⟨wr, hwr, h⟩ := c9 h
      obtain ⟨a0, a1, a2, a3⟩ := a4z hoi
      have hloN : outs.length <= g.Nodes.length := by omega
      have hB : HasSt (HS g.Nodes.length q.1 outs s.2.2.1 td (List.set q.2.2.2 (Int.toNat i) false)) id g.Nodes.length q.1 outs s.2.2.1 0 td (List.set q.2.2.2 (Int.toNat i) false) := a6i zO hloN
      have hlB : (HS g.Nodes.length q.1 outs s.2.2.1 td (List.set q.2.2.2 (Int.toNat i) false)).length = 5 + 5 * g.Nodes.length := a8q
      generalize hSB : HS g.Nodes.length q.1 outs s.2.2.1 td (List.set q.2.2.2 (Int.toNat i) false) = SB at hB hlB
      refine d9 ?_
      refine b8 ?_
      refine oM (.ref 1 0 0 g.Nodes.length none) ?_
      refine oM (.int .i64 i) ?_
      refine a1d rfl rfl ⟨by omega, by omega⟩ ?_
      obtain ⟨cs1, u1, u2⟩ := hB.outAt (j := i.toNat) a1
      refine a9l rfl u1 (by simpa [g6] using u2) ?_
      obtain ⟨va, sa⟩ := hB.c6 _ _ a3
      have eC := c0M hc0 sa zI
      rw [hlB] at eC
      refine a3t eC rfl ?_
      refine oM (.ptr (5 + 5 * g.Nodes.length) 0 0) ?_
      refine b6 ?_
      refine f5 ?_
      have sC : isS (a3m SB (5 + 5 * g.Nodes.length) (5 + 5 * g.Nodes.length + 1) 1 c0) (5 + 5 * g.Nodes.length) (5 + 5 * g.Nodes.length + 1) 1 c0 := a2l zO
      have hC : HasSt (a3m SB (5 + 5 * g.Nodes.length) (5 + 5 * g.Nodes.length + 1) 1 c0) id g.Nodes.length q.1 outs s.2.2.1 0 td (List.set q.2.2.2 (Int.toNat i) false) := hB.ext (fun k hk => a1m zO zO)
      generalize hSC : a3m SB (5 + 5 * g.Nodes.length) (5 + 5 * g.Nodes.length + 1) 1 c0 = SC at sC hC
      refine a0z ?_
      refine d9 ?_
      refine b8 ?_
      refine oM (.cptr (b5.av g).cells 0) ?_
      refine oP (.cptr (b5.av g).cells 0) ?_
      refine oP (.cptr (b5.av g).cells 6) ?_
      refine oP (.sl false 12 (List.map f6.av g.Nodes)) ?_
      refine oM (.int .i64 i) ?_
      refine j6 rfl rfl hnd2 ?_
      refine oP (f6.av nd2) ?_
      refine j4 (a9q hwr) rfl ⟨(.refl _), trivial⟩ (g9 ⟨(f6.enc.blw _ 0), trivial⟩) ((j3 .i64).blws 0) ?_
      refine t7 rfl ?_
      refine oM (.int .i64 0) ?_
      refine b6 ?_
      refine f5 ?_
      refine d9 ?_
      refine a1a (fun _ => [(0, gR g), (4, (.ref 0 0 0 g.Nodes.length none)), (5, (.ref 1 0 0 g.Nodes.length none)), (6, (.ref 2 0 0 g.Nodes.length none)), (7, (.ref 3 0 0 (List.length td) none)), (12, (.ref 4 0 0 (List.length (List.set q.2.2.2 (Int.toNat i) false)) none)), (14, (.int .i64 i)), (17, (.ptr (5 + 5 * g.Nodes.length) 0 0)), (166, (.sl false 1 (List.map (avI .i64) wr)))]) (fun c => HT g.Nodes.length q.1 outs s.2.2.1 td (List.set q.2.2.2 (Int.toNat i) false) c) h zD zD (fun _ => ⟨rfl, rfl, rfl, rfl⟩)
       (hC.wkT sC ⟨(l7 rfl), (l7 rfl), gb, hC.r4 (Nat.le_add_right _ _) rfl (a0B zO) rfl, hC.r5 (Nat.le_add_right _ _) rfl (a0B zO) rfl, hC.r6 (Nat.le_add_right _ _) rfl (a0B zO) rfl, hC.r7 (Nat.le_add_right _ _) rfl (a0B zO) rfl rfl, hC.r12 (Nat.le_add_right _ _) rfl (a0B zO) rfl rfl, (l7 rfl), HasSt.r17 sC, (l7 ((j3 .i64).blws 0)), trivial⟩) (fun i2 p c1 c hx hlt h => ?_) (fun c1 fr' S' h hw => ?_)
      ·unfold a9v at h
       obtain ⟨d, hd, h⟩ := c9 h
       have hD : HasSt (HT g.Nodes.length q.1 outs s.2.2.1 td (List.set q.2.2.2 (Int.toNat i) false) c1) id g.Nodes.length q.1 outs s.2.2.1 0 td (List.set q.2.2.2 (Int.toNat i) false) := b5J zO hloN
       have sD : isS (HT g.Nodes.length q.1 outs s.2.2.1 td (List.set q.2.2.2 (Int.toNat i) false) c1) (5 + 5 * g.Nodes.length) (5 + 5 * g.Nodes.length + 1) 0 c1 := c5m
       generalize hSD : HT g.Nodes.length q.1 outs s.2.2.1 td (List.set q.2.2.2 (Int.toNat i) false) c1 = SD at hD sD
       refine d9 ?_
       refine b8 ?_
       refine j6 rfl rfl (a0A hx) ?_
       refine oP (.int .i64 p) ?_
       refine oM (.int .i64 p) ?_
       refine b6 ?_
       refine f5 ?_
       refine b8 ?_
       refine oM (.ptr (5 + 5 * g.Nodes.length) 0 0) ?_
       refine oM (.int .i64 p) ?_
       obtain ⟨_, eD⟩ := c5T hd sD zO
       refine a3t eD rfl ?_
       refine b6 ?_
       have sE : isS (a3m SD (5 + 5 * g.Nodes.length) (5 + 5 * g.Nodes.length + 1) (0 + 1) d) (5 + 5 * g.Nodes.length) (5 + 5 * g.Nodes.length + 1) 1 d := a2l zO
       have hE : HasSt (a3m SD (5 + 5 * g.Nodes.length) (5 + 5 * g.Nodes.length + 1) (0 + 1) d) id g.Nodes.length q.1 outs s.2.2.1 0 td (List.set q.2.2.2 (Int.toNat i) false) := hD.ext (fun k hk => a1m zO zO)
       cases h
       exact a3u rfl (hE.wkT sE ⟨(l7 rfl), (l7 rfl), gb, hE.r4 (Nat.le_add_right _ _) rfl (a0B zO) rfl, hE.r5 (Nat.le_add_right _ _) rfl (a0B zO) rfl, hE.r6 (Nat.le_add_right _ _) rfl (a0B zO) rfl, hE.r7 (Nat.le_add_right _ _) rfl (a0B zO) rfl rfl, hE.r12 (Nat.le_add_right _ _) rfl (a0B zO) rfl rfl, (l7 rfl), HasSt.r17 sE, (l7 ((j3 .i64).blws 0)), trivial⟩)
      ·refine a4S hw ?_
       obtain ⟨nd3, hnd3, h⟩ := c9 h
       obtain ⟨rd, hrd, h⟩ := c9 h
       have hC : HasSt (HT g.Nodes.length q.1 outs s.2.2.1 td (List.set q.2.2.2 (Int.toNat i) false) c1) id g.Nodes.length q.1 outs s.2.2.1 0 td (List.set q.2.2.2 (Int.toNat i) false) := b5J zO hloN
       have sC : isS (HT g.Nodes.length q.1 outs s.2.2.1 td (List.set q.2.2.2 (Int.toNat i) false) c1) (5 + 5 * g.Nodes.length) (5 + 5 * g.Nodes.length + 1) 0 c1 := c5m
       generalize hSD : HT g.Nodes.length q.1 outs s.2.2.1 td (List.set q.2.2.2 (Int.toNat i) false) c1 = SD at hC sC
       refine a0z ?_
       refine d9 ?_
       refine b8 ?_
       refine oM (.cptr (b5.av g).cells 0) ?_
       refine oP (.cptr (b5.av g).cells 0) ?_
       refine oP (.cptr (b5.av g).cells 6) ?_
       refine oP (.sl false 12 (List.map f6.av g.Nodes)) ?_
       refine oM (.int .i64 i) ?_
       refine j6 rfl rfl hnd3 ?_
       refine oP (f6.av nd3) ?_
       refine j4 (b0w hrd) rfl ⟨(.refl _), trivial⟩ (g9 ⟨(f6.enc.blw _ 0), trivial⟩) ((j3 .i64).blws 0) ?_
       refine t7 rfl ?_
       refine oM (.int .i64 0) ?_
       refine b6 ?_
       refine f5 ?_
       refine d9 ?_
       refine a1a (fun _ => [(0, gR g), (4, (.ref 0 0 0 g.Nodes.length none)), (5, (.ref 1 0 0 g.Nodes.length none)), (6, (.ref 2 0 0 g.Nodes.length none)), (7, (.ref 3 0 0 (List.length td) none)), (12, (.ref 4 0 0 (List.length (List.set q.2.2.2 (Int.toNat i) false)) none)), (14, (.int .i64 i)), (17, (.ptr (5 + 5 * g.Nodes.length) 0 0)), (183, (.sl false 1 (List.map (avI .i64) rd)))]) (fun c => HT g.Nodes.length q.1 outs s.2.2.1 td (List.set q.2.2.2 (Int.toNat i) false) c) h zD zD (fun _ => ⟨rfl, rfl, rfl, rfl⟩)
        (hC.wkT sC ⟨(l7 rfl), (l7 rfl), gb, hC.r4 (Nat.le_add_right _ _) rfl (a0B zO) rfl, hC.r5 (Nat.le_add_right _ _) rfl (a0B zO) rfl, hC.r6 (Nat.le_add_right _ _) rfl (a0B zO) rfl, hC.r7 (Nat.le_add_right _ _) rfl (a0B zO) rfl rfl, hC.r12 (Nat.le_add_right _ _) rfl (a0B zO) rfl rfl, (l7 rfl), HasSt.r17 sC, (l7 ((j3 .i64).blws 0)), trivial⟩) (fun i2 p c1 c hx hlt h => ?_) (fun c1 fr' S' h hw => ?_)
       ·unfold a9w at h
        obtain ⟨d, hd, h⟩ := c9 h
        have hD : HasSt (HT g.Nodes.length q.1 outs s.2.2.1 td (List.set q.2.2.2 (Int.toNat i) false) c1) id g.Nodes.length q.1 outs s.2.2.1 0 td (List.set q.2.2.2 (Int.toNat i) false) := b5J zO hloN
        have sD : isS (HT g.Nodes.length q.1 outs s.2.2.1 td (List.set q.2.2.2 (Int.toNat i) false) c1) (5 + 5 * g.Nodes.length) (5 + 5 * g.Nodes.length + 1) 0 c1 := c5m
        generalize hSE : HT g.Nodes.length q.1 outs s.2.2.1 td (List.set q.2.2.2 (Int.toNat i) false) c1 = SE at hD sD
        refine d9 ?_
        refine b8 ?_
        refine j6 rfl rfl (a0A hx) ?_
        refine oP (.int .i64 p) ?_
        refine oM (.int .i64 p) ?_
        refine b6 ?_
        refine f5 ?_
        refine b8 ?_
        refine oM (.ptr (5 + 5 * g.Nodes.length) 0 0) ?_
        refine oM (.int .i64 p) ?_
        obtain ⟨_, eD⟩ := c5U hd sD zO
        refine a3t eD rfl ?_
        refine b6 ?_
        have sE : isS (a3m SE (5 + 5 * g.Nodes.length) (5 + 5 * g.Nodes.length + 1) (0 + 1) d) (5 + 5 * g.Nodes.length) (5 + 5 * g.Nodes.length + 1) 1 d := a2l zO
        have hE : HasSt (a3m SE (5 + 5 * g.Nodes.length) (5 + 5 * g.Nodes.length + 1) (0 + 1) d) id g.Nodes.length q.1 outs s.2.2.1 0 td (List.set q.2.2.2 (Int.toNat i) false) := hD.ext (fun k hk => a1m zO zO)
        cases h
        exact a3u rfl (hE.wkT sE ⟨(l7 rfl), (l7 rfl), gb, hE.r4 (Nat.le_add_right _ _) rfl (a0B zO) rfl, hE.r5 (Nat.le_add_right _ _) rfl (a0B zO) rfl, hE.r6 (Nat.le_add_right _ _) rfl (a0B zO) rfl, hE.r7 (Nat.le_add_right _ _) rfl (a0B zO) rfl rfl, hE.r12 (Nat.le_add_right _ _) rfl (a0B zO) rfl rfl, (l7 rfl), HasSt.r17 sE, (l7 ((j3 .i64).blws 0)), trivial⟩)
       ·refine a4S hw ?_
        obtain ⟨ii, hii, h⟩ := c9 h
        obtain ⟨o, ho, h⟩ := c9 h
        obtain ⟨d0, d1, d2, d3⟩ := a4z hii
        have hC : HasSt (HT g.Nodes.length q.1 outs s.2.2.1 td (List.set q.2.2.2 (Int.toNat i) false) c1) id g.Nodes.length q.1 outs s.2.2.1 0 td (List.set q.2.2.2 (Int.toNat i) false) := b5J zO hloN
        have sC : isS (HT g.Nodes.length q.1 outs s.2.2.1 td (List.set q.2.2.2 (Int.toNat i) false) c1) (5 + 5 * g.Nodes.length) (5 + 5 * g.Nodes.length + 1) 0 c1 := c5m
        generalize hSD : HT g.Nodes.length q.1 outs s.2.2.1 td (List.set q.2.2.2 (Int.toNat i) false) c1 = SD at hC sC
        refine a0z ?_
        refine d9 ?_
        refine b8 ?_
        refine oM (.ref 0 0 0 g.Nodes.length none) ?_
        refine oM (.int .i64 i) ?_
        refine a1d rfl rfl ⟨by omega, by omega⟩ ?_
        obtain ⟨cs0, w1, w2⟩ := hC.inAt (j := i.toNat) d1
        refine a9l rfl w1 (by simpa [g6] using w2) ?_
        refine oM (.ptr (5 + 5 * g.Nodes.length) 0 0) ?_
        obtain ⟨vi, si⟩ := hC.c5 _ _ d3
        refine a3t (c8R ho si sC (by simp [id]; omega)) rfl ?_
        have hE := hC.setIn (j := i.toNat) (v := vi) (v' := vi + 1) (t := o.2) d3
        simp only [id] at hE ⊢
        generalize hSE : a3m SD (5 + 5 * i.toNat) (6 + 5 * i.toNat) (vi + 1) o.2 = SE at hE ⊢
        refine oP (.bool (!o.1)) ?_
        refine b6 ?_
        refine f5 ?_
        refine d9 ?_
        refine E_cs (t := (!o.1)) rfl (fun hb => ?_) (fun hb => ?_)
        ·rw [b2p hb] at h
         refine a3E ?_
         refine b0j ?_
         refine c0f ?_
         cases h
         exact a3u rfl (hE.wkI ⟨gb, hE.r4 (Nat.le_refl _) rfl rfl rfl, hE.r5 (Nat.le_refl _) rfl rfl rfl, hE.r6 (Nat.le_refl _) rfl rfl rfl, hE.r7 (Nat.le_refl _) rfl rfl rfl rfl, hE.r12 (Nat.le_refl _) rfl rfl rfl rfl, trivial⟩)
        ·rw [b2q hb] at h
         refine i7 ?_
         refine f5 ?_
         obtain ⟨bs, hbs, h⟩ := c9 h
         obtain ⟨e0, e1, e2, e4⟩ := a4z hbs
         obtain ⟨cs2, v2, g1, g2, g3, g4⟩ := hE.befAt (j := i.toNat) zO
         have ey : s.2.2.1.getD i.toNat [] = bs := by simp [List.getD_eq_getElem?_getD, e4]
         rw [ey] at g3 g4
         refine d9 ?_
         refine b8 ?_
         refine oM (.ref 2 0 0 g.Nodes.length none) ?_
         refine oM (.int .i64 i) ?_
         refine a1d rfl rfl ⟨by omega, by omega⟩ ?_
         refine a9l rfl g1 (by simpa [g6] using g3) ?_
         refine a5V rfl ?_
         refine oM (.int .i64 0) ?_
         refine b6 ?_
         refine f5 ?_
         have r9 : obF g.Nodes.length (q.1.set i.toNat o.2) outs s.2.2.1 td (List.set q.2.2.2 (Int.toNat i) false) (9 + 5 * i.toNat) = .arr 0 (flat (avI .i64) bs) := by rw [b0x, ey]
         refine a1a (xs := bs) (fun p : List Int × List Bool => [(0, gR g), (4, (.ref 0 0 0 g.Nodes.length none)), (5, (.ref 1 0 0 g.Nodes.length none)), (6, (.ref 2 0 0 g.Nodes.length none)), (7, (.ref 3 0 0 (List.length p.1) none)), (12, (.ref 4 0 0 (List.length p.2) none)), (203, (.ref (9 + 5 * i.toNat) 0 0 (List.length bs) none))]) (fun p => HS g.Nodes.length (q.1.set i.toNat o.2) outs s.2.2.1 p.1 p.2) h zD zD (fun _ => ⟨rfl, rfl, rfl, rfl⟩)
          (hE.wkI ⟨(l7 rfl), (l7 rfl), gb, hE.r4 (Nat.le_refl _) rfl rfl rfl, hE.r5 (Nat.le_refl _) rfl rfl rfl, hE.r6 (Nat.le_refl _) rfl rfl rfl, hE.r7 (Nat.le_refl _) rfl rfl rfl rfl, hE.r12 (Nat.le_refl _) rfl rfl rfl rfl, a3F zO rfl g4 r9 (by rw [(j3 .i64).length]; exact Nat.le_refl _), trivial⟩) (fun i2 b p c hx hlt h => ?_) (fun p fr' S' h hw => ?_)
         ·unfold a9x at h
          obtain ⟨y2, hy2, h⟩ := c9 h
          have hB : HasSt (HS g.Nodes.length (q.1.set i.toNat o.2) outs s.2.2.1 p.1 p.2) id g.Nodes.length (q.1.set i.toNat o.2) outs s.2.2.1 0 p.1 p.2 := a6i (by rw [List.length_set]; omega) hloN
          have e3 : hp (HS g.Nodes.length (q.1.set i.toNat o.2) outs s.2.2.1 p.1 p.2) 3 = .arr 0 (flat (avI .i64) p.1) := a4K zO
          have e9 : hp (HS g.Nodes.length (q.1.set i.toNat o.2) outs s.2.2.1 p.1 p.2) (9 + 5 * i.toNat) = .arr 0 (flat (avI .i64) bs) := by rw [a4K zO, b0x, ey]
          have f9 : ∀ l w, obF g.Nodes.length (q.1.set i.toNat o.2) outs s.2.2.1 l w (9 + 5 * i.toNat) = .arr 0 (flat (avI .i64) bs) := fun l w => by rw [b0x, ey]
          generalize hSB : HS g.Nodes.length (q.1.set i.toNat o.2) outs s.2.2.1 p.1 p.2 = SB at hB e3 e9
          refine d9 ?_
          refine b8 ?_
          refine a1d rfl rfl ⟨by omega, by omega⟩ ?_
          refine a9h (j3 .i64) (y := b) (n := i2) (fo := 0) rfl e9 zS hx rfl (.refl _) ?_
          refine oM (.int .i64 b) ?_
          refine b6 ?_
          refine f5 ?_
          refine d9 ?_
          refine b8 ?_
          refine oM (.ref 4 0 0 (List.length p.2) none) ?_
          refine oM (.int .i64 b) ?_
          refine a1d rfl rfl ⟨(i8 hy2).1, (i8 hy2).2.1⟩ ?_
          refine a9h b6D rfl hB.c4 zA (i8 hy2).2.2 rfl (.refl _) ?_
          refine oP (.bool (!y2)) ?_
          refine b6 ?_
          refine f5 ?_
          refine E_cs (t := (!y2)) rfl (fun hb2 => ?_) (fun hb2 => ?_)
          ·rw [b2p hb2] at h
           refine b8 ?_
           refine oM (.ref 4 0 0 (List.length p.2) none) ?_
           refine oM (.int .i64 b) ?_
           refine oM (.ref 3 0 0 (List.length p.1) none) ?_
           refine oM (.int .i64 b) ?_
           refine z9 (v' := (.sl true 1 (List.map (avI .i64) [b]))) rfl (.refl _) rfl ?_
           obtain ⟨l, hl, h⟩ := c9 h
           refine a8n (S' := s9 SB 3 (.arr 1 (flat (avI .i64) l))) (j3 .i64) rfl (a2z [b]) e3 hl rfl ?_
           refine oM (.ref 3 1 0 (List.length l) none) ?_
           obtain ⟨y3, hy3, h⟩ := c9 h
           have hC1 := hB.setTodo (v := 1) (todo' := l)
           refine a1d rfl rfl ⟨(i8 hy3).1, (i8 hy3).2.1⟩ ?_
           refine b3z (y := y3) (y' := true) (S' := s9 (s9 SB 3 (.arr 1 (flat (avI .i64) l))) 4 (.arr 0 (flat avB (List.set p.2 (Int.toNat b) true)))) b6D rfl rfl hC1.c4 zA (i8 hy3).2.2 rfl rfl nB rfl rfl ?_
           refine b6 ?_
           have hC := hC1.setWaits (waits' := List.set p.2 (Int.toNat b) true)
           have e9' : hp (s9 (s9 SB 3 (.arr 1 (flat (avI .i64) l))) 4 (.arr 0 (flat avB (List.set p.2 (Int.toNat b) true)))) (9 + 5 * i.toNat) = .arr 0 (flat (avI .i64) bs) := by rw [t6, a1N zO, t6, a1N zO]; exact e9
           cases h
           exact a3u rfl (hC.wkI ⟨(l7 rfl), (l7 rfl), gb, hC.r4 (Nat.le_refl _) rfl rfl rfl, hC.r5 (Nat.le_refl _) rfl rfl rfl, hC.r6 (Nat.le_refl _) rfl rfl rfl, hC.r7 (Nat.le_refl _) rfl rfl rfl rfl, hC.r12 (Nat.le_refl _) rfl rfl (by rw [List.length_set]) rfl, a3F zO rfl e9' (f9 _ _) (by rw [(j3 .i64).length]; exact Nat.le_refl _), trivial⟩)
          ·rw [b2q hb2] at h
           refine i7 ?_
           cases h
           exact a3u rfl (hB.wkI ⟨(l7 rfl), (l7 rfl), gb, hB.r4 (Nat.le_refl _) rfl rfl rfl, hB.r5 (Nat.le_refl _) rfl rfl rfl, hB.r6 (Nat.le_refl _) rfl rfl rfl, hB.r7 (Nat.le_refl _) rfl rfl rfl rfl, hB.r12 (Nat.le_refl _) rfl rfl rfl rfl, a3F zO rfl e9 (f9 _ _) (by rw [(j3 .i64).length]; exact Nat.le_refl _), trivial⟩)
         ·refine a4a ?_
          have hQ : HasSt (HS g.Nodes.length (q.1.set i.toNat o.2) outs s.2.2.1 p.1 p.2) id g.Nodes.length (q.1.set i.toNat o.2) outs s.2.2.1 0 p.1 p.2 := a6i (by rw [List.length_set]; omega) hloN
          cases h
          exact c0r rfl hw (hQ.wkI ⟨gb, hQ.r4 (Nat.le_refl _) rfl rfl rfl, hQ.r5 (Nat.le_refl _) rfl rfl rfl, hQ.r6 (Nat.le_refl _) rfl rfl rfl, hQ.r7 (Nat.le_refl _) rfl rfl rfl rfl, hQ.r12 (Nat.le_refl _) rfl rfl rfl rfl, trivial⟩)
    ·rw [b2q hb] at h
     refine a3E ?_
     refine b0j ?_
     cases h
     have hQ := h0
     exact c0k rfl rfl rfl (hQ.wkI ⟨gb, hQ.r4 (Nat.le_refl _) rfl rfl rfl, hQ.r5 (Nat.le_refl _) rfl rfl rfl, hQ.r6 (Nat.le_refl _) rfl rfl rfl, hQ.r7 (Nat.le_refl _) rfl rfl rfl rfl, hQ.r12 (Nat.le_refl _) rfl rfl rfl rfl, trivial⟩)
   ·refine a4S hw ?_
    obtain ⟨⟨li, lo⟩, h⟩ := a1z h
    have hQ : HasSt (HS g.Nodes.length q.1 q.2.1 s.2.2.1 q.2.2.1 q.2.2.2) id g.Nodes.length q.1 q.2.1 s.2.2.1 0 q.2.2.1 q.2.2.2 := a6i zO zO
    refine d9 ?_
    refine b8 ?_
    refine oM (.ref 0 0 0 g.Nodes.length none) ?_
    refine oM (.ref 1 0 0 g.Nodes.length none) ?_
    refine oM (.ref 0 0 0 g.Nodes.length none) ?_
    refine oM (.ref 1 0 0 g.Nodes.length none) ?_
    refine b6 ?_
    refine f5 ?_
    refine g8 ?_
    cases h
    exact ⟨trivial, _, rfl, c0K hQ li lo⟩
def a1F (fuel : Nat) (g : b5) : Option (List (Option b9) × List (Option b9)) := (a1P fuel g).map fun r => (r.1.map some, r.2.map some)
theorem a5o {fuel : Nat} {g : b5} {r : List (Option b9) × List (Option b9)} (h : a1F fuel g = some r) : PureEv Tryd.prog 16 [(.cptr (b5.av g).cells 0)] (.tup [(.sl false 1 (List.map (avP b9.av) r.1)), (.sl false 1 (List.map (avP b9.av) r.2))]) := by
 unfold a1F at h
 obtain ⟨r0, h0, rfl⟩ := Option.map_eq_some_iff.1 h
 exact a7n h0
end
end Go.Proofs.YtipeiholgieclaaDoor

