/- Walks through a graph, in depth first: what is seen, and in which order nodes are left. -/
import Derived.Test.YtepdcebjobjjgaaDoorLvC2
import Derived.Test.YtepdcebjobjjgaaDoorWlTz
import Derived.Test.YtepdcebjobjjgaaDoorRows
set_option linter.unusedVariables false
set_option linter.unusedSimpArgs false
namespace Go.Proofs.YtepdcebjobjjgaaDoor
open Go Go.Ab
abbrev St := List Bool × List Int
def sc (g : b5) (i : Nat) : List Nat := (nxt g i).map Int.toNat
def a1n (v : Nat → St → St) (s : St) (t : Nat) : St := if s.1.getD t true = true then s else v t s
def vis (g : b5) : Nat → Nat → St → St
 | 0, _, s => s
 | k + 1, n, s => let r := (sc g n).foldl (a1n (vis g k)) (s.1.set n true, s.2); (r.1, r.2 ++ [(n : Int)])
def uns (s : List Bool) : Nat := s.countP (fun b => !b)
theorem a3N {s : List Bool} {n : Nat} (h : s.getD n true = false) : uns (s.set n true) + 1 = uns s := by
 have hn : n < s.length := by
  rcases Nat.lt_or_ge n s.length with h1 | h1
  ·exact h1
  ·simp [List.getD_eq_getElem?_getD, List.getElem?_eq_none h1] at h
 have hv : s[n] = false := by simpa [List.getD_eq_getElem?_getD, hn] using h
 unfold uns
 induction s generalizing n with
 | nil => simp at hn
 | cons b s ih =>
   cases n with
   | zero => simp at hv; subst hv; simp
   | succ n =>
     have := ih (n := n) (by simpa using h) (by simpa using hn) (by simpa using hv)
     simp only [List.set_cons_succ, List.countP_cons]
     omega
theorem a5A {s : List Bool} {n t : Nat} (hn : n < s.length) : (s.set n true).getD t true = if t = n then true else s.getD t true := by
 simp only [List.getD_eq_getElem?_getD, List.getElem?_set]
 by_cases h : n = t
 ·subst h; simp [hn]
 ·have : ¬ t = n := fun e => h e.symm
  simp [h, this]
theorem a4n {s : List Bool} {n : Nat} (h : s.getD n true = false) : n < s.length := by
 rcases Nat.lt_or_ge n s.length with h1 | h1
 ·exact h1
 ·simp [List.getD_eq_getElem?_getD, List.getElem?_eq_none h1] at h
structure b0L (s s' : St) : Prop where
 len : s'.1.length = s.1.length
 mono : ∀ t, s.1.getD t true = true → s'.1.getD t true = true
 uns : uns s'.1 ≤ uns s.1
theorem b0L.refl (s : St) : b0L s s := ⟨rfl, fun _ h => h, Nat.le_refl _⟩
theorem b0L.trans {a b c : St} (h : b0L a b) (k : b0L b c) : b0L a c := ⟨k.len.trans h.len, fun t e => k.mono t (h.mono t e), Nat.le_trans k.uns h.uns⟩
theorem a9f {v : Nat → St → St} (hv : ∀ t s, s.1.getD t true = false → b0L s (v t s)) : ∀ (ts : List Nat) (s : St), b0L s (ts.foldl (a1n v) s)
 | [], s => .refl s
 | t :: ts, s => by
   refine b0L.trans ?_ (a9f hv ts _)
   unfold a1n
   split
   ·exact .refl s
   ·rename_i h; exact hv t s (by simpa using h)
theorem b0M (g : b5) : ∀ (k n : Nat) (s : St), s.1.getD n true = false → b0L s (vis g k n s)
 | 0, n, s, h => .refl s
 | k + 1, n, s, h => by
   have hn := a4n h
   have h1 : b0L s (s.1.set n true, s.2) := ⟨by simp, fun t e => by rw [a5A hn]; split <;> simp_all, by have := a3N h; show uns (s.1.set n true) ≤ uns s.1; omega⟩
   have h2 := a9f (fun t s e => b0M g k t s e) (sc g n) (s.1.set n true, s.2)
   exact h1.trans ⟨h2.len, h2.mono, h2.uns⟩
theorem a7Q (g : b5) : ∀ (k n : Nat) (s : St), s.1.getD n true = false → uns s.1 ≤ k → vis g (k + 1) n s = vis g k n s
 | 0, n, s, h, hu => by have := a3N h; omega
 | k + 1, n, s, h, hu => by
   have hn := a4n h
   have hu1 := a3N h
   have key : ∀ (ts : List Nat) (s : St), uns s.1 ≤ k → ts.foldl (a1n (vis g (k + 1))) s = ts.foldl (a1n (vis g k)) s := by
    intro ts
    induction ts with
    | nil => intro s _; rfl
    | cons t ts ih =>
      intro s hs
      simp only [List.foldl_cons]
      have e : a1n (vis g (k + 1)) s t = a1n (vis g k) s t := by
       unfold a1n
       split
       ·rfl
       ·rename_i h; exact a7Q g k t s (by simpa using h) hs
      rw [e]
      refine ih _ ?_
      have : b0L s (a1n (vis g k) s t) := by
       unfold a1n
       split
       ·exact .refl s
       ·rename_i h; exact b0M g k t s (by simpa using h)
      have := this.uns
      omega
   show (let r := (sc g n).foldl (a1n (vis g (k + 1))) (s.1.set n true, s.2); (r.1, r.2 ++ [(n : Int)])) = (let r := (sc g n).foldl (a1n (vis g k)) (s.1.set n true, s.2); (r.1, r.2 ++ [(n : Int)]))
   rw [key _ _ (by simp only; omega)]
def a0J (g : b5) : List Int := (vis g g.Nodes.length g.Entry.toNat (List.replicate g.Nodes.length false, [])).2.reverse
def unw (g : b5) (k : Nat) : List (Nat × List Nat) → St → St
 | [], s => s
 | (n, rest) :: td, s => let r := rest.foldl (a1n (vis g k)) s; unw g k td (r.1, r.2 ++ [(n : Int)])
theorem b5a {g : b5} {k n t : Nat} {rest : List Nat} {td : List (Nat × List Nat)} {s : St} (h : s.1.getD t true = true) : unw g k ((n, t :: rest) :: td) s = unw g k ((n, rest) :: td) s := by
 simp only [unw, List.foldl_cons, a1n, h, if_true]
theorem b5b {g : b5} {k n t : Nat} {rest : List Nat} {td : List (Nat × List Nat)} {s : St} (h : s.1.getD t true = false) (hu : uns s.1 ≤ k) :
  unw g k ((n, t :: rest) :: td) s = unw g k ((t, sc g t) :: (n, rest) :: td) (s.1.set t true, s.2) := by
 have e : vis g k t s = vis g (k + 1) t s := (a7Q g k t s h hu).symm
 have e2 : a1n (vis g k) s t = vis g (k + 1) t s := by unfold a1n; rw [h, if_neg zD, e]
 show (let r := (t :: rest).foldl (a1n (vis g k)) s; unw g k td (r.1, r.2 ++ [(n : Int)])) = (let r := (sc g t).foldl (a1n (vis g k)) (s.1.set t true, s.2); unw g k ((n, rest) :: td) (r.1, r.2 ++ [(t : Int)]))
 rw [List.foldl_cons, e2]
 rfl
def tdM : List (Nat × List Nat) → Nat
 | [] => 0
 | (_, r) :: td => r.length + 1 + tdM td
theorem b9n (g : b5) (i : Nat) : (sc g i).length ≤ 2 := by
 unfold sc nxt
 split
 ·simpa using a4l _
 ·simp
structure Wkd (g : b5) (R : Nat → Prop) (s s' : St) : Prop where
 new : ∃ w : List Nat, s'.2 = s.2 ++ w.map (fun (n : Nat) => (n : Int)) ∧ w.Nodup ∧ (∀ x, x ∈ w ↔ (s'.1.getD x true = true ∧ s.1.getD x true = false)) ∧ (∀ x ∈ w, ∀ t ∈ sc g x, s'.1.getD t true = true) ∧
  ∀ x ∈ w, R x ∨ ∃ j ∈ w, j ≠ x ∧ x ∈ sc g j
 gr : b0L s s'
theorem Wkd.refl {g : b5} {R : Nat → Prop} (s : St) : Wkd g R s s := ⟨⟨[], by simp, by simp, by simp, by simp, by simp⟩, .refl s⟩
theorem Wkd.trans {g : b5} {R : Nat → Prop} {a b c : St} (h : Wkd g R a b) (k : Wkd g R b c) : Wkd g R a c := by
 obtain ⟨⟨w, h1, h2, h3, h4, h5⟩, hg⟩ := h
 obtain ⟨⟨w', k1, k2, k3, k4, k5⟩, kg⟩ := k
 refine ⟨⟨w ++ w', by rw [k1, h1]; simp, ?_, fun x => ?_, fun x hx t ht => ?_, fun x hx => ?_⟩, hg.trans kg⟩
 ·rw [List.nodup_append]
  refine ⟨h2, k2, fun x hx y hy e => ?_⟩
  subst e
  have a1 := ((h3 x).1 hx).1
  have a2 := ((k3 x).1 hy).2
  rw [a1] at a2; cases a2
 ·rw [List.mem_append, h3, k3]
  constructor
  ·rintro (⟨p, q⟩ | ⟨p, q⟩)
   ·exact ⟨kg.mono _ p, q⟩
   ·refine ⟨p, ?_⟩
    cases e : a.1.getD x true with
    | false => rfl
    | true => rw [hg.mono _ e] at q; cases q
  ·rintro ⟨p, q⟩
   cases e : b.1.getD x true with
   | false => exact .inr ⟨p, rfl⟩
   | true => exact .inl ⟨rfl, q⟩
 ·rcases List.mem_append.1 hx with hx | hx
  ·exact kg.mono _ (h4 x hx t ht)
  ·exact k4 x hx t ht
 ·rcases List.mem_append.1 hx with hx | hx
  ·rcases h5 x hx with h | ⟨j, hj, e⟩
   ·exact .inl h
   ·exact .inr ⟨j, List.mem_append_left _ hj, e⟩
  ·rcases k5 x hx with h | ⟨j, hj, e⟩
   ·exact .inl h
   ·exact .inr ⟨j, List.mem_append_right _ hj, e⟩
theorem Wkd.mono {g : b5} {R R' : Nat → Prop} {a b : St} (h : Wkd g R a b) (k : ∀ x, R x → R' x) : Wkd g R' a b := by
 obtain ⟨⟨w, h1, h2, h3, h4, h5⟩, hg⟩ := h
 exact ⟨⟨w, h1, h2, h3, h4, fun x hx => (h5 x hx).imp (k x) id⟩, hg⟩
theorem b0N {g : b5} {v : Nat → St → St} {B : Nat} (hv : ∀ t s, s.1.getD t true = false → uns s.1 ≤ B → Wkd g (fun x => x = t) s (v t s) ∧ (v t s).1.getD t true = true) : ∀ (ts : List Nat) (s : St), uns s.1 ≤ B → Wkd g (fun x => x ∈ ts ∧ s.1.getD x true = false) s (ts.foldl (a1n v) s) ∧ ∀ t ∈ ts, (ts.foldl (a1n v) s).1.getD t true = true
 | [], s, _ => ⟨.refl s, by simp⟩
 | t :: ts, s, hB => by
   have h1 : Wkd g (fun x => x = t ∧ s.1.getD x true = false) s (a1n v s t) ∧ (a1n v s t).1.getD t true = true := by
    unfold a1n
    split
    ·rename_i h; exact ⟨.refl s, h⟩
    ·rename_i h
     have h' : s.1.getD t true = false := by simpa using h
     exact ⟨(hv t s h' hB).1.mono (fun x e => ⟨e, e ▸ h'⟩), (hv t s h' hB).2⟩
   obtain ⟨h2, h3⟩ := b0N hv ts (a1n v s t) (Nat.le_trans h1.1.gr.uns hB)
   simp only [List.foldl_cons]
   refine ⟨(h1.1.mono (fun x e => ⟨by simp [e.1], e.2⟩)).trans (h2.mono (fun x e => ⟨by simp [e.1], ?_⟩)), fun x hx => ?_⟩
   ·cases q : s.1.getD x true with
    | false => rfl
    | true => rw [h1.1.gr.mono _ q] at e; cases e.2
   ·rcases List.mem_cons.1 hx with rfl | hx
    ·exact h2.gr.mono _ h1.2
    ·exact h3 x hx
theorem a9R (g : b5) : ∀ (k n : Nat) (s : St), s.1.getD n true = false → uns s.1 ≤ k → Wkd g (fun x => x = n) s (vis g k n s) ∧ (vis g k n s).1.getD n true = true ∧ ∃ l, (vis g k n s).2 = s.2 ++ l ++ [(n : Int)]
 | 0, n, s, h, hu => by have := a3N h; omega
 | k + 1, n, s, h, hu => by
   have hn := a4n h
   have hu1 := a3N h
   obtain ⟨⟨⟨w, h1, h2, h3, h4, h5⟩, hg⟩, h6⟩ := b0N (g := g) (B := k) (fun t s e hu => ⟨(a9R g k t s e hu).1, (a9R g k t s e hu).2.1⟩) (sc g n) (s.1.set n true, s.2) (by simp only; omega)
   generalize hr : (sc g n).foldl (a1n (vis g k)) (s.1.set n true, s.2) = r at h1 h3 h4 h6 hg
   have e : vis g (k + 1) n s = (r.1, r.2 ++ [(n : Int)]) := by rw [← hr]; rfl
   have hsn : (s.1.set n true).getD n true = true := by rw [a5A hn, if_pos rfl]
   have hrn : r.1.getD n true = true := hg.mono _ hsn
   have hnw : n ∉ w := fun hh => by have := ((h3 n).1 hh).2; rw [hsn] at this; cases this
   have hG : b0L s (r.1, r.2 ++ [(n : Int)]) := ⟨by have := hg.len; simpa using this, fun t ht => hg.mono t (by rw [a5A hn]; split <;> simp_all), by have := hg.uns; simp only at this ⊢; omega⟩
   rw [e]
   refine ⟨⟨⟨w ++ [n], by simp [h1], ?_, fun x => ?_, fun x hx t ht => ?_, fun x hx => ?_⟩, hG⟩, hrn, ⟨w.map (fun (n : Nat) => (n : Int)), by simp [h1]⟩⟩
   ·rw [List.nodup_append]
    refine ⟨h2, by simp, fun x hx y hy exy => ?_⟩
    simp at hy; subst hy; subst exy; exact hnw hx
   ·rw [List.mem_append, h3]
    simp only [List.mem_singleton, a5A hn]
    constructor
    ·rintro (⟨p, q⟩ | rfl)
     ·refine ⟨p, ?_⟩
      split at q
      ·cases q
      ·exact q
     ·exact ⟨hrn, h⟩
    ·rintro ⟨p, q⟩
     by_cases ex : x = n
     ·exact .inr ex
     ·exact .inl ⟨p, by rw [if_neg ex]; exact q⟩
   ·rcases List.mem_append.1 hx with hx | hx
    ·exact h4 x hx t ht
    ·simp at hx; subst hx; exact h6 t ht
   ·rcases List.mem_append.1 hx with hx | hx
    ·rcases h5 x hx with ⟨hh, hx2⟩ | ⟨j, hj, e⟩
     ·refine .inr ⟨n, by simp, fun e => ?_, hh⟩
      subst e; rw [hsn] at hx2; cases hx2
     ·exact .inr ⟨j, List.mem_append_left _ hj, e⟩
    ·simp at hx; exact .inl hx
structure b9o (g : b5) (l : List Int) : Prop where
 w : ∃ w : List Nat, l = w.map (fun (n : Nat) => (n : Int)) ∧ w.Nodup ∧ (∀ x ∈ w, x < g.Nodes.length) ∧ (∀ x ∈ w, ∀ t ∈ sc g x, t ∈ w) ∧ (∀ x ∈ w, x = g.Entry.toNat ∨ ∃ j ∈ w, j ≠ x ∧ x ∈ sc g j) ∧ ∃ r, w = g.Entry.toNat :: r
theorem a9S (n : Nat) : uns (List.replicate n false) = n := by unfold uns; simp [List.countP_replicate]
theorem a9T {g : b5} (hg : a2s g) (he : g.Entry.toNat < g.Nodes.length) : b9o g (a0J g) := by
 have h0 : (List.replicate g.Nodes.length false).getD g.Entry.toNat true = false := by simp [List.getD_eq_getElem?_getD, he]
 obtain ⟨⟨⟨w, h1, h2, h3, h4, h5⟩, hgr⟩, h6, l, h7⟩ := a9R g g.Nodes.length g.Entry.toNat (List.replicate g.Nodes.length false, []) h0 (by simp only; rw [a9S]; exact Nat.le_refl _)
 unfold a0J
 generalize vis g g.Nodes.length g.Entry.toNat (List.replicate g.Nodes.length false, []) = r at h1 h3 h4 h6 h7 hgr
 have hr : ∀ x, x ∈ w → x < g.Nodes.length := fun x hx => by
  have := a4n ((h3 x).1 hx).2
  simpa using this
 have hall : ∀ x, x < g.Nodes.length → r.1.getD x true = true → x ∈ w := fun x hx hs => (h3 x).2 ⟨hs, by simp [List.getD_eq_getElem?_getD, hx]⟩
 simp only [List.nil_append] at h1 h7
 refine ⟨w.reverse, by rw [h1, List.map_reverse], (List.reverse_perm w).nodup_iff.2 h2, fun x hx => hr x (by simpa using hx), fun x hx t ht => ?_, fun x hx => ?_, ?_⟩
 ·rw [List.mem_reverse] at hx ⊢
  refine hall t ?_ (h4 x hx t ht)
  unfold sc at ht
  obtain ⟨z, hz, rfl⟩ := List.mem_map.1 ht
  have := hg.nx x z hz
  omega
 ·rw [List.mem_reverse] at hx
  rcases h5 x hx with h | ⟨j, hj, e⟩
  ·exact .inl h
  ·exact .inr ⟨j, by simpa using hj, e⟩
 ·rw [h1] at h7
  have hl : w ≠ [] := by intro e; rw [e] at h7; simp at h7
  obtain ⟨a, b, rfl⟩ : ∃ a b, w = a ++ [b] := ⟨w.dropLast, w.getLast hl, (List.dropLast_concat_getLast hl).symm⟩
  rw [List.map_append, List.map_cons, List.map_nil] at h7
  have := (List.append_inj' h7 rfl).2
  simp only [List.cons.injEq, and_true] at this
  have : b = g.Entry.toNat := by omega
  subst this
  exact ⟨a.reverse, by simp⟩
theorem a4o : ∀ (N : Nat) (w : List Nat), w.Nodup → (∀ x ∈ w, x < N) → w.length ≤ N
 | 0, w, _, h => by
   cases w with
   | nil => simp
   | cons x w => exact absurd (h x zS) (Nat.not_lt_zero x)
 | N + 1, w, hn, h => by
   by_cases hN : N ∈ w
   ·have := a4o N (w.erase N) (hn.erase N) (fun x hx => by
     have h1 := (List.Nodup.mem_erase_iff hn).1 hx
     have := h x h1.2
     have := h1.1
     omega)
    rw [List.length_erase_of_mem hN] at this
    omega
   ·have := a4o N w hn (fun x hx => by
     have := h x hx
     have : x ≠ N := fun e => hN (e ▸ hx)
     omega)
    omega
end Go.Proofs.YtepdcebjobjjgaaDoor

/- slices.Reverse and order.line: the walks. -/
namespace Go.Proofs.YtepdcebjobjjgaaDoor
open Go Go.Ab
set_option maxRecDepth 20000
set_option maxHeartbeats 2000000
def c7M : FC := .reg [⟨(some 4), none, .op (.mv (.t 0))⟩,  ⟨(some 5), none, .op (.len .sl (.t 4))⟩,  ⟨(some 6), none, .op (.bin .none .sub (.t 5) (.v (.int .i64 1)))⟩,  ⟨(some 2), none, .op (.mv (.v (.int .i64 0)))⟩,  ⟨(some 3), none, .op (.mv (.t 6))⟩] []
def c7N : FC := .reg [⟨(some 7), none, .op (.mv (.t 2))⟩,  ⟨(some 8), none, .op (.mv (.t 3))⟩,  ⟨(some 9), none, .op (.bin .none .lss (.t 7) (.t 8))⟩] []
def c7O : FC := .cond (.t 9) FC.skip (FC.exit 0)
def c7P : FC := .seq c7N c7O
def c7Q : FC := .reg [⟨(some 14), none, .op (.mv (.t 0))⟩,  ⟨(some 15), none, .op (.mv (.t 2))⟩,  ⟨(some 16), none, .op (.mv (.t 0))⟩,  ⟨(some 17), none, .op (.mv (.t 3))⟩,  ⟨(some 18), none, .op (.mv (.t 0))⟩,  ⟨(some 19), none, .op (.mv (.t 3))⟩,  ⟨(some 20), none, .op (.iad none none (.t 18) (.t 19))⟩,  ⟨(some 21), none, .op (.load none (.t 20))⟩,  ⟨(some 22), none, .op (.mv (.t 0))⟩,  ⟨(some 23), none, .op (.mv (.t 2))⟩,  ⟨(some 24), none, .op (.iad none none (.t 22) (.t 23))⟩,  ⟨(some 25), none, .op (.load none (.t 24))⟩,  ⟨(some 26), none, .op (.iad none none (.t 14) (.t 15))⟩,  ⟨none, none, .op (.store 1 (.t 26) (.t 21))⟩,  ⟨(some 27), none, .op (.iad none none (.t 16) (.t 17))⟩,  ⟨none, none, .op (.store 1 (.t 27) (.t 25))⟩] []
def c7R : FC := .block 1 c7Q
def c7S : FC := .reg [⟨(some 10), none, .op (.mv (.t 2))⟩,  ⟨(some 11), none, .op (.bin .none .add (.t 10) (.v (.int .i64 1)))⟩,  ⟨(some 12), none, .op (.mv (.t 3))⟩,  ⟨(some 13), none, .op (.bin .none .sub (.t 12) (.v (.int .i64 1)))⟩,  ⟨(some 2), none, .op (.mv (.t 11))⟩,  ⟨(some 3), none, .op (.mv (.t 13))⟩] []
def c7T : FC := .seq c7R c7S
def c7U : FC := .seq c7P c7T
def b9p : FC := .loop c7U
def b9q : FC := .block 0 b9p
def b9r : FC := .seq c7M b9q
def d3X : FC := b9r
theorem d3Y : Fn3 Tryd.prog 55 28 [] d3X := ⟨_, _, Tryd.func55, rfl, rfl, rfl, by kernel_rfl⟩

def c7V : FC := .reg [⟨(some 2), none, .op (.mv (.v .nils))⟩] []
def c7W : FC := .reg [⟨(some 8), none, .op (.mv (.t 0))⟩,  ⟨(some 9), none, .op (.nchk (.t 8))⟩,  ⟨(some 10), none, .op (.fad 6 (.t 9))⟩,  ⟨(some 11), none, .op (.load none (.t 10))⟩,  ⟨(some 12), none, .op (.len .sl (.t 11))⟩,  ⟨(some 13), none, .op (.mksl none 1 [(.bool false)] (.t 12) (.t 12))⟩,  ⟨(some 3), none, .op (.mv (.t 13))⟩] []
def c7X : FC := .reg [⟨(some 4), none, .op (.mv (.v .nils))⟩] []
def c7Y : FC := .reg [⟨(some 14), none, .op (.mv (.t 0))⟩,  ⟨(some 15), none, .op (.nchk (.t 14))⟩,  ⟨(some 16), none, .op (.fad 7 (.t 15))⟩,  ⟨(some 17), none, .op (.load none (.t 16))⟩,  ⟨(some 18), none, .op (.mv (.t 0))⟩,  ⟨(some 19), none, .op (.nchk (.t 18))⟩,  ⟨(some 20), none, .op (.fad 6 (.t 19))⟩,  ⟨(some 21), none, .op (.load none (.t 20))⟩,  ⟨(some 22), none, .op (.mv (.t 0))⟩,  ⟨(some 23), none, .op (.nchk (.t 22))⟩,  ⟨(some 24), none, .op (.fad 7 (.t 23))⟩,  ⟨(some 25), none, .op (.load none (.t 24))⟩,  ⟨(some 26), none, .op (.iad none (some 12) (.t 21) (.t 25))⟩,  ⟨(some 27), none, .op (.load (some 12) (.t 26))⟩,  ⟨(some 28), none, .call 54 [(.t 27)]⟩,  ⟨(some 29), none, .op (.build [(.int .i64 0), .nils] [(0, 1, (.t 17)), (1, 1, (.t 28))])⟩,  ⟨(some 30), none, .op (.bsl (some 2) [(.int .i64 0), .nils] 1 [(0, 2, (.t 29))])⟩,  ⟨(some 5), none, .op (.mv (.t 30))⟩] [(3, 14)]
def c7Z : FC := .reg [⟨(some 31), none, .op (.mv (.t 3))⟩,  ⟨(some 32), none, .op (.mv (.t 0))⟩,  ⟨(some 33), none, .op (.nchk (.t 32))⟩,  ⟨(some 34), none, .op (.fad 7 (.t 33))⟩,  ⟨(some 35), none, .op (.load none (.t 34))⟩,  ⟨(some 36), none, .op (.iad none none (.t 31) (.t 35))⟩,  ⟨none, none, .op (.store 1 (.t 36) (.v (.bool true)))⟩] []
def c8a : FC := .reg [⟨(some 37), none, .op (.mv (.t 5))⟩,  ⟨(some 38), none, .op (.len .sl (.t 37))⟩,  ⟨(some 39), none, .op (.bin .none .gtr (.t 38) (.v (.int .i64 0)))⟩] []
def c8b : FC := .cond (.t 39) FC.skip (FC.exit 0)
def c8c : FC := .seq c8a c8b
def c8d : FC := .reg [⟨(some 40), none, .op (.mv (.t 5))⟩,  ⟨(some 41), none, .op (.mv (.t 5))⟩,  ⟨(some 42), none, .op (.len .sl (.t 41))⟩,  ⟨(some 43), none, .op (.bin .none .sub (.t 42) (.v (.int .i64 1)))⟩,  ⟨(some 44), none, .op (.iad none (some 2) (.t 40) (.t 43))⟩,  ⟨(some 6), none, .op (.mv (.t 44))⟩] []
def b9s : FC := .reg [⟨(some 45), none, .op (.mv (.t 6))⟩,  ⟨(some 46), none, .op (.nchk (.t 45))⟩,  ⟨(some 47), none, .op (.fad 1 (.t 46))⟩,  ⟨(some 48), none, .op (.load none (.t 47))⟩,  ⟨(some 49), none, .op (.len .sl (.t 48))⟩,  ⟨(some 50), none, .op (.bin .none .eql (.t 49) (.v (.int .i64 0)))⟩] []
def b9t : FC := .reg [⟨(some 51), none, .op (.mv (.t 4))⟩,  ⟨(some 52), none, .op (.mv (.t 6))⟩,  ⟨(some 53), none, .op (.nchk (.t 52))⟩,  ⟨(some 54), none, .op (.fad 0 (.t 53))⟩,  ⟨(some 55), none, .op (.load none (.t 54))⟩,  ⟨(some 56), none, .op (.bsl none [(.int .i64 0)] 1 [(0, 1, (.t 55))])⟩,  ⟨(some 57), none, .op (.app none 8 (.t 51) (.t 56))⟩,  ⟨(some 4), none, .op (.mv (.t 57))⟩] []
def b9u : FC := .reg [⟨(some 58), none, .op (.mv (.t 5))⟩,  ⟨(some 59), none, .op (.mv (.t 5))⟩,  ⟨(some 60), none, .op (.len .sl (.t 59))⟩,  ⟨(some 61), none, .op (.bin .none .sub (.t 60) (.v (.int .i64 1)))⟩,  ⟨(some 62), none, .op (.slc (some 2) (.t 58) none (some (.t 61)) none)⟩,  ⟨(some 5), none, .op (.mv (.t 62))⟩] []
def b9v : FC := .seq b9u (FC.exit 1)
def b9w : FC := .seq b9t b9v
def b9x : FC := .cond (.t 50) b9w FC.skip
def b9y : FC := .seq b9s b9x
def b9z : FC := .reg [⟨(some 63), none, .op (.mv (.t 6))⟩,  ⟨(some 64), none, .op (.nchk (.t 63))⟩,  ⟨(some 65), none, .op (.fad 1 (.t 64))⟩,  ⟨(some 66), none, .op (.load none (.t 65))⟩,  ⟨(some 67), none, .op (.iad none none (.t 66) (.v (.int .i64 0)))⟩,  ⟨(some 68), none, .op (.load none (.t 67))⟩,  ⟨(some 7), none, .op (.mv (.t 68))⟩] []
def b9A : FC := .reg [⟨(some 69), none, .op (.mv (.t 6))⟩,  ⟨(some 70), none, .op (.mv (.t 6))⟩,  ⟨(some 71), none, .op (.nchk (.t 70))⟩,  ⟨(some 72), none, .op (.fad 1 (.t 71))⟩,  ⟨(some 73), none, .op (.load none (.t 72))⟩,  ⟨(some 74), none, .op (.slc none (.t 73) (some (.v (.int .i64 1))) none none)⟩,  ⟨(some 75), none, .op (.nchk (.t 69))⟩,  ⟨(some 76), none, .op (.fad 1 (.t 75))⟩,  ⟨none, none, .op (.store 1 (.t 76) (.t 74))⟩] []
def b9B : FC := .reg [⟨(some 77), none, .op (.mv (.t 3))⟩,  ⟨(some 78), none, .op (.mv (.t 7))⟩,  ⟨(some 79), none, .op (.iad none none (.t 77) (.t 78))⟩,  ⟨(some 80), none, .op (.load none (.t 79))⟩,  ⟨(some 81), none, .op (.un .not (.t 80))⟩] []
def b9C : FC := .reg [⟨(some 82), none, .op (.mv (.t 3))⟩,  ⟨(some 83), none, .op (.mv (.t 7))⟩,  ⟨(some 84), none, .op (.iad none none (.t 82) (.t 83))⟩,  ⟨none, none, .op (.store 1 (.t 84) (.v (.bool true)))⟩] []
def b9D : FC := .reg [⟨(some 85), none, .op (.mv (.t 5))⟩,  ⟨(some 86), none, .op (.mv (.t 7))⟩,  ⟨(some 87), none, .op (.mv (.t 0))⟩,  ⟨(some 88), none, .op (.nchk (.t 87))⟩,  ⟨(some 89), none, .op (.fad 6 (.t 88))⟩,  ⟨(some 90), none, .op (.load none (.t 89))⟩,  ⟨(some 91), none, .op (.mv (.t 7))⟩,  ⟨(some 92), none, .op (.iad none (some 12) (.t 90) (.t 91))⟩,  ⟨(some 93), none, .op (.load (some 12) (.t 92))⟩,  ⟨(some 94), none, .call 54 [(.t 93)]⟩,  ⟨(some 95), none, .op (.build [(.int .i64 0), .nils] [(0, 1, (.t 86)), (1, 1, (.t 94))])⟩,  ⟨(some 96), none, .op (.bsl (some 2) [(.int .i64 0), .nils] 1 [(0, 2, (.t 95))])⟩,  ⟨(some 97), none, .op (.app (some 2) 32 (.t 85) (.t 96))⟩,  ⟨(some 5), none, .op (.mv (.t 97))⟩] []
def b9E : FC := .seq b9C b9D
def b9F : FC := .cond (.t 81) b9E FC.skip
def b9G : FC := .seq b9B b9F
def b9H : FC := .seq b9A b9G
def b9I : FC := .seq b9z b9H
def b9J : FC := .seq b9y b9I
def b9K : FC := .seq c8d b9J
def b9L : FC := .block 1 b9K
def b9M : FC := .seq c8c b9L
def b9N : FC := .loop b9M
def b9O : FC := .block 0 b9N
def b9P : FC := .reg [⟨(some 98), none, .op (.mv (.t 4))⟩,  ⟨(some 99), none, .call 55 [(.t 98)]⟩] []
def b9Q : FC := .reg [⟨(some 100), none, .op (.mv (.t 4))⟩,  ⟨(some 2), none, .op (.mv (.t 100))⟩] []
def b9R : FC := .seq b9Q FC.ret
def b9S : FC := .seq b9P b9R
def b9T : FC := .seq b9O b9S
def b9U : FC := .seq c7Z b9T
def b9V : FC := .seq c7Y b9U
def b9W : FC := .seq c7X b9V
def b9X : FC := .seq c7W b9W
def b9Y : FC := .seq c7V b9X
def d3Z : FC := b9Y
theorem d4a : Fn3 Tryd.prog 31 101 [(2, none)] d3Z := ⟨_, _, Tryd.func31, rfl, rfl, rfl, by kernel_rfl⟩

def b8g (l m : List Int) (i : Nat) : Prop := m.length = l.length ∧ ∀ k, k < l.length → m[k]? = if k < i ∨ l.length - i ≤ k then l[l.length - 1 - k]? else l[k]?
theorem b8g.fin {l m : List Int} {i : Nat} (h : b8g l m i) (hi : l.length ≤ 2 * i + 1) : m = l.reverse := by
 apply List.ext_getElem?
 intro k
 by_cases hk : k < l.length
 ·rw [h.2 k hk, List.getElem?_reverse hk]
  by_cases hc : k < i ∨ l.length - i ≤ k
  ·rw [if_pos hc]
  ·rw [if_neg hc]; congr 1; omega
 ·rw [List.getElem?_eq_none (by rw [h.1]; omega), List.getElem?_eq_none zE]
theorem b8g.step {l m : List Int} {i : Nat} (h : b8g l m i) (hi : 2 * i + 1 < l.length) {x y : Int} (hx : m[i]? = some x) (hy : m[l.length - 1 - i]? = some y) : b8g l ((m.set i y).set (l.length - 1 - i) x) (i + 1) := by
 refine ⟨by simp [h.1], fun k hk => ?_⟩
 have h1 := h.2 i zO
 have h2 := h.2 (l.length - 1 - i) zO
 rw [if_neg zO] at h1 h2
 have h3 := h.2 k hk
 rw [List.getElem?_set, List.getElem?_set]
 simp only [List.length_set, h.1]
 by_cases e1 : l.length - 1 - i = k
 ·rw [if_pos e1, if_pos zO, if_pos zO, ← hx, h1]; congr 1; omega
 ·rw [if_neg e1]
  by_cases e2 : i = k
  ·rw [if_pos e2, if_pos zO, if_pos zO, ← hy, h2]; congr 1; omega
  ·rw [if_neg e2, h3]
   by_cases e3 : k < i ∨ l.length - i ≤ k
   ·rw [if_pos e3, if_pos zO]
   ·rw [if_neg e3, if_neg zO]
theorem b7i {l : List Int} {o v : Nat} {j : List AV} (hl : l.length ≤ 4611686018427387904) : Tri Tryd.prog 55 [.ref o v 0 l.length none] [(o, v, flat (avI .i64) l ++ j)] (fun _ L' => L' = [(o, v, flat (avI .i64) l.reverse ++ j)]) := by
 refine y6 mixed d3Y zS [] (fun R S hS => ?_)
 refine aU ?_
 refine j7 (a0e (σ := Nat × List Int) (fun s => [(0, .ref o v 0 l.length none), (2, .int .i64 s.1), (3, .int .i64 ((l.length : Int) - 1 - s.1))]) (fun s => (o, v, flat (avI .i64) s.2 ++ j) :: R) (fun s => b8g l s.2 s.1 ∧ s.1 ≤ l.length) (fun s => l.length - s.1) (0, l) hS ⟨⟨rfl, fun k hk => by rw [if_neg zO]⟩, Nat.zero_le _⟩
  (k9 ⟨.refl _, .refl _, ?_, trivial⟩) (fun s S hI hS => ?_))
 ·have e : IntKind.i64.wrap ((l.length : Int) - 1) = (l.length : Int) - 1 - ((0 : Nat) : Int) := by rw [s3 zO]; omega
  rw [← e]; exact .refl _
 ·obtain ⟨i, m⟩ := s
  obtain ⟨hI, hi⟩ := hI
  dsimp only at hI hi hS
  refine aU ?_
  dsimp only
  refine n6 rfl (fun hb => ?_) (fun hb => ?_)
  ·have hlt : 2 * i + 1 < l.length := by simp only [decide_eq_true_eq] at hb; omega
   have hm := hI.1
   obtain ⟨x, hx⟩ : ∃ x, m[i]? = some x := ⟨m[i], List.getElem?_eq_getElem zO⟩
   obtain ⟨y, hy⟩ : ∃ y, m[l.length - 1 - i]? = some y := ⟨m[l.length - 1 - i], List.getElem?_eq_getElem zO⟩
   refine aU ?_
   refine j7 ?_
   refine aU ?_
   refine p8 rfl rfl ⟨by omega, by omega⟩ ?_
   refine a0N hS (g6 .i64) rfl zM (n := l.length - 1 - i) (fo := 0) (y := y) (by simp [f4] <;> omega) hy rfl ?_
   refine aU ?_
   refine p8 rfl rfl ⟨by omega, by omega⟩ ?_
   refine a0N hS (g6 .i64) rfl zM (n := i) (fo := 0) (y := x) (by simp [f4]) hx rfl ?_
   refine p8 rfl rfl ⟨by omega, by omega⟩ ?_
   refine a4G hS (g6 .i64) rfl zC (n := i) (fo := 0) (y := x) (y' := y) (by simp [f4]) hx (by first | exact Rp.here | (repeat (first | exact Rp.here | apply Rp.there | apply Rp.skip))) rfl rfl (by simp [f4]) rfl (fun S hS => ?_)
   refine p8 rfl rfl ⟨by omega, by omega⟩ ?_
   refine a4G (l := m.set i y) (j := j) hS (g6 .i64) rfl zC (n := l.length - 1 - i) (fo := 0) (y := y) (y' := x) (by simp [f4] <;> omega) (by rw [List.getElem?_set_ne zO]; exact hy) (by first | exact Rp.here | (repeat (first | exact Rp.here | apply Rp.there | apply Rp.skip))) rfl rfl (by simp [f4]) rfl (fun S hS => ?_)
   refine aU ?_
   refine k8 ?_
   refine aU ?_
   refine ⟨(i + 1, (m.set i y).set (l.length - 1 - i) x), ⟨hI.step hlt hx hy, by simp only; omega⟩, by simp only; omega, hS, k9 ⟨.refl _, ?_, ?_, trivial⟩⟩
   ·have e : IntKind.i64.wrap ((i : Int) + 1) = ((i + 1 : Nat) : Int) := by rw [s3 zO]; omega
    rw [← e]; exact .refl _
   ·have e : IntKind.i64.wrap ((l.length : Int) - 1 - i - 1) = (l.length : Int) - 1 - ((i + 1 : Nat) : Int) := by rw [s3 zO]; omega
    simp only; rw [← e]; exact .refl _
  ·have hge : l.length ≤ 2 * i + 1 := by simp only [decide_eq_false_iff_not] at hb; omega
   refine x6 ?_
   (repeat (first | refine n8 ?_ | refine r8 ?_ | refine s4 rfl ?_ | refine j4 ?_ | refine l6 ?_ | refine k8 ?_))
   have := hI.fin hge
   subst this
   exact ⟨trivial, _, rfl, _, rfl, hS⟩
def svN (x : Nat) : AV := .int .i64 (x : Int)
def sv (p : Nat × List Nat) : AV := .agg [.int .i64 (p.1 : Int), .sl false 1 (p.2.map svN)]
theorem c8e : Enc svN none := ⟨fun _ => rfl, fun _ => rfl, fun _ => rfl, fun _ _ => rfl⟩
theorem b1t : Enc sv (some 2) := ⟨fun _ => rfl, fun _ => rfl, fun _ => rfl, fun x n => j5 ⟨rfl, c8e.blws n, trivial⟩⟩
theorem b6h {g : b5} (hg : a2s g) (i : Nat) : (nxt g i).map (avI .i64) = (sc g i).map svN := by
 unfold sc
 rw [List.map_map]
 refine List.map_congr_left (fun x hx => ?_)
 have := hg.nx i x hx
 simp only [Function.comp, avI, svN]
 congr 1; omega
theorem b6i {g : b5} {i : Nat} {n : f7} (h : g.Nodes[i]? = some n) : nxt g i = a5m n := by unfold nxt; rw [h]
theorem a7g {α : Type} {l : List α} {i : Nat} {x : α} (h : l[i]? = some x) : y5 l (i : Int) = some x := by rw [a0j]; exact h
structure d4b (g : b5) (F : St) (seen : List Bool) (out : List Int) (td : List (Nat × List Nat)) : Prop where
 fin : unw g g.Nodes.length td (seen, out) = F
 sl : seen.length = g.Nodes.length
 cnt : out.length + td.length + uns seen = g.Nodes.length
 ok : ∀ p ∈ td, p.1 < g.Nodes.length ∧ ∀ t ∈ p.2, t < g.Nodes.length
theorem b9Z {g : b5} (hg : a2s g) {i t : Nat} (h : t ∈ sc g i) : t < g.Nodes.length := by
 unfold sc at h
 obtain ⟨z, hz, rfl⟩ := List.mem_map.1 h
 have := hg.nx i z hz
 omega
open Classical in
noncomputable def a3i (g : b5) : Option (List Int) := if a2s g ∧ 0 ≤ g.Entry ∧ g.Entry < g.Nodes.length then some (a0J g) else none
theorem a7R {g_00 : b5} {r : List Int} (h : a3i g_00 = some r) : n5 Tryd.prog 31 [(.cptr (b5.av g_00).cells 0)] (.sl false 1 (List.map (avI .i64) r)) := by
 unfold a3i at h
 split at h
 case isFalse => cases h
 rename_i hc
 cases h
 obtain ⟨hg, he0, heN⟩ := hc
 obtain ⟨en, hen⟩ : ∃ e : Nat, g_00.Entry = (e : Int) := ⟨g_00.Entry.toNat, by omega⟩
 have hN := hg.nn
 have henN : en < g_00.Nodes.length := by omega
 obtain ⟨nd, hnd⟩ : ∃ n, g_00.Nodes[en]? = some n := ⟨g_00.Nodes[en], List.getElem?_eq_getElem henN⟩
 refine m0 mixed d4a zS [13, 30] 1 ?_
 have hS : Sep [] [] := Sep.nil
 refine f8 (b9 ?_)
 refine aU ?_
 refine b6Q (x := false) hS b0t rfl rfl rfl rfl zO (fun o3 S hS => ?_)
 simp only [Int.toNat_natCast] at hS ⊢
 refine a3Y zC ?_
 refine b6 (g7 (f8 (b9 ?_)))
 refine a3Y zC ?_
 refine b6 ?_
 refine c7v 4 none hS rfl (fun o4 S hS => ?_)
 refine f8 (a3X ?_)
 refine aS ?_
 rw [hen]
 refine m7 rfl rfl (a7g hnd) ?_
 refine oP (f7.av nd) ?_
 refine l7 (a2n (a6l nd)) rfl ⟨(.refl _), trivial⟩ (j5 ⟨(f7.enc.blw _ 0), trivial⟩) ((g6 .i64).blws 0) ?_
 rw [← b6i hnd, b6h hg]
 refine oP (sv (en, sc g_00 en)) ?_
 refine c7x hS rfl rfl (Nat.le_refl _) rfl (fun o5 S hS => ?_)
 replace hS : Sep S ((o5, 0, flat sv [(en, sc g_00 en)]) :: (o4, 0, flat (avI .i64) []) :: (o3, 0, flat avB (List.replicate g_00.Nodes.length false)) :: []) := hS
 refine a3Y zC ?_
 refine b6 ?_
 refine And.intro (by simp [a1t, a6K, a0S, a1P]) ?_
 refine aU ?_
 rw [hen]
 have hl0 : (List.replicate g_00.Nodes.length false)[en]? = some false := by simp [henN]
 refine p8 rfl rfl ⟨by omega, by omega⟩ ?_
 refine a4g (l := List.replicate g_00.Nodes.length false) hS b0t rfl zC (n := en) (fo := 0) (y := false) (y' := true) (by simp [f4]) hl0 (by first | exact Rp.here | (repeat (first | exact Rp.here | apply Rp.there | apply Rp.skip))) rfl rfl (by simp [f4]) rfl (fun S hS => ?_)
 refine aU ?_
 have hs0 : (List.replicate g_00.Nodes.length false).getD en true = false := by simp [List.getD_eq_getElem?_getD, henN]
 have hu := a3N hs0
 rw [a9S] at hu
 have hF : unw g_00 g_00.Nodes.length [(en, sc g_00 en)] ((List.replicate g_00.Nodes.length false).set en true, []) = vis g_00 g_00.Nodes.length en (List.replicate g_00.Nodes.length false, []) := by
  rw [← a7Q g_00 g_00.Nodes.length en (List.replicate g_00.Nodes.length false, []) hs0 (by simp only; rw [a9S]; exact Nat.le_refl _)]
  rfl
 refine j7 (a0e (σ := List Bool × List Int × List (Nat × List Nat) × Nat × Nat × List AV) (fun s => [(0, gR g_00), (3, .ref o3 0 0 g_00.Nodes.length none), (4, .ref o4 s.2.2.2.1 0 s.2.1.length none), (5, .ref o5 s.2.2.2.2.1 0 s.2.2.1.length (some 2))])
  (fun s => (o5, s.2.2.2.2.1, flat sv s.2.2.1.reverse ++ s.2.2.2.2.2) :: (o4, s.2.2.2.1, flat (avI .i64) s.2.1) :: (o3, 0, flat avB s.1) :: [])
  (fun s => d4b g_00 (vis g_00 g_00.Nodes.length en (List.replicate g_00.Nodes.length false, [])) s.1 s.2.1 s.2.2.1) (fun s => 4 * uns s.1 + tdM s.2.2.1) ((List.replicate g_00.Nodes.length false).set en true, [], [(en, sc g_00 en)], 0, 0, []) (by simpa using hS)
  ⟨hF, by simp, by simp; omega, fun p hp => by simp at hp; subst hp; exact ⟨henN, fun t ht => b9Z hg ht⟩⟩ (k9 ⟨.refl _, .refl _, .refl _, .refl _, trivial⟩) (fun s S hI hS => ?_))
 obtain ⟨seen, out, td, v4, v5, j⟩ := s
 dsimp only at hI hS
 refine aU ?_
 dsimp only
 cases td with
 | nil =>
   refine b2r rfl (x6 ?_)
   (repeat (first | refine n8 ?_ | refine r8 ?_ | refine s4 rfl ?_ | refine j4 ?_ | refine l6 ?_ | refine k8 ?_))
   have hfin : (seen, out) = vis g_00 g_00.Nodes.length en (List.replicate g_00.Nodes.length false, []) := hI.fin
   have hcn := hI.cnt
   refine aU ?_
   refine a4f (b7i (j := []) (l := out) (by simp at hcn; omega)) hS rfl (Spl.cons (by rw [List.append_nil]; exact Pk.there Pk.here) Spl.nil) (fun v S L' hL hS => ?_)
   subst hL
   refine aU ?_
   refine i9 ?_
   refine ⟨trivial, _, rfl, ?_⟩
   have hl : a0J g_00 = out.reverse := by unfold a0J; rw [hen, Int.toNat_natCast, ← hfin]
   rw [hl]
   have := b2P (k := 0) (g6 .i64) (j := []) rfl rfl (hS.at (.head _))
   rw [List.length_reverse] at this
   show AVw (frz 0 S (0 + 1) (.ref o4 v4 0 out.length none)) _
   rw [this]
   exact .refl _
 | cons p td =>
   obtain ⟨n, rest⟩ := p
   have hcn := hI.cnt
   simp only [List.length_cons] at hcn
   obtain ⟨hnN, hrN⟩ := hI.ok (n, rest) zS
   simp only at hnN hrN
   have hrv : ((n, rest) :: td).reverse = td.reverse ++ [(n, rest)] := by simp
   have hget : ((n, rest) :: td).reverse[td.length]? = some (n, rest) := by rw [hrv, List.getElem?_append_right zS]; simp
   have hlen : ((n, rest) :: td).length = td.length + 1 := by simp
   have hw : IntKind.i64.wrap ((((n, rest) :: td).length : Int) - 1) = (td.length : Int) := by rw [hlen, s3 zO]; omega
   refine b1g (by simp [ev, Fr.get, hlen]) ?_
   refine aU ?_
   refine j7 ?_
   refine aU ?_
   rw [hw]
   refine p8 rfl rfl ⟨by omega, by rw [hlen]; omega⟩ ?_
   refine aU ?_
   refine a0N hS b1t rfl zM (n := td.length) (fo := 1) (y := (n, rest)) (by simp [f4]) hget rfl ?_
   refine aU ?_
   cases rest with
   | nil =>
     refine b1g rfl ?_
     refine aU ?_
     refine a0N hS b1t rfl zM (n := td.length) (fo := 0) (y := (n, [])) (by simp [f4]) hget rfl ?_
     refine aU ?_
     refine a9K (m := [(n : Int)]) (j := []) hS (g6 .i64) rfl rfl (by apply Rp.there; rw [List.append_nil]; exact Rp.here) ⟨by simp; omega, by simp; omega⟩ (fun S hS => ?_)
     refine aU ?_
     rw [hw]
     refine a6W (a := 0) (b := td.length) rfl rfl (by simp [evO, ev, Fr.get, hiN]) ⟨by omega, by rw [hlen]; omega, .inl rfl⟩ ?_
     refine aU ?_
     refine x6 ?_
     (repeat (first | refine n8 ?_ | refine r8 ?_ | refine s4 rfl ?_ | refine j4 ?_ | refine l6 ?_ | refine k8 ?_))
     refine ⟨(seen, out ++ [(n : Int)], td, v4 + 1, v5, (sv (n, [])).cells ++ j), ⟨?_, hI.sl, by simp; omega, fun p hp => hI.ok p (by simp [hp])⟩, ?_, ?_, k9 ⟨.refl _, .refl _, .refl _, ?_, trivial⟩⟩
     ·exact hI.fin
     ·simp only [tdM]; simp
     ·rw [hrv, show flat sv (td.reverse ++ [(n, [])]) ++ j = flat sv td.reverse ++ ((sv (n, [])).cells ++ j) by rw [a0c, List.append_assoc]; rfl] at hS
      exact hS
     ·simp only [Nat.zero_mul, Nat.zero_add, Nat.sub_zero]; exact .refl _
   | cons t rest =>
     refine b2r rfl ?_
     refine aU ?_
     have htN : t < g_00.Nodes.length := hrN t zS
     refine a0N hS b1t rfl zM (n := td.length) (fo := 1) (y := (n, t :: rest)) (v := .sl false 1 ((t :: rest).map svN)) (by simp [f4]) hget rfl ?_
     refine m7 (f := svN) (ys := t :: rest) rfl rfl rfl ?_
     refine oP (.int .i64 (t : Int)) ?_
     refine aU ?_
     refine a0N hS b1t rfl zM (n := td.length) (fo := 1) (y := (n, t :: rest)) (v := .sl false 1 ((t :: rest).map svN)) (by simp [f4]) hget rfl ?_
     refine b5N (f := svN) (l := t :: rest) (a := 1) (b := (t :: rest).length) rfl rfl rfl ⟨by simp, Nat.le_refl _⟩ ?_
     refine aU ?_
     have hset : ((n, t :: rest) :: td).reverse.set td.length (n, rest) = ((n, rest) :: td).reverse := by rw [hrv]; simp [List.set_append_right]
     refine a4G hS b1t rfl zC (n := td.length) (fo := 1) (y := (n, t :: rest)) (y' := (n, rest)) (by simp [f4]) hget (by rw [hset]; exact Rp.here) rfl rfl (by simp [f4]) (by simp [sv, AV.cells, splice, f4]) (fun S hS => ?_)
     refine aU ?_
     obtain ⟨b, hb⟩ : ∃ b, seen[t]? = some b := ⟨seen[t]'(by rw [hI.sl]; exact htN), List.getElem?_eq_getElem _⟩
     have hbg : seen.getD t true = b := by rw [List.getD_eq_getElem?_getD, hb]; rfl
     refine p8 rfl rfl ⟨by omega, by omega⟩ ?_
     refine a7b hS b0t rfl zM (n := t) (fo := 0) (y := b) (v := .bool b) (by simp [f4]) hb rfl ?_
     refine aU ?_
     cases b with
     | true =>
       refine b2r rfl ?_
       refine aU ?_
       (repeat (first | refine n8 ?_ | refine r8 ?_ | refine s4 rfl ?_ | refine j4 ?_ | refine l6 ?_ | refine k8 ?_))
       refine ⟨(seen, out, (n, rest) :: td, v4, v5, j), ⟨?_, hI.sl, by simp; omega, fun p hp => ?_⟩, ?_, hS, k9 ⟨.refl _, .refl _, .refl _, .refl _, trivial⟩⟩
       ·rw [← b5a hbg]; exact hI.fin
       ·rcases List.mem_cons.1 hp with rfl | hp
        ·exact ⟨hnN, fun x hx => hrN x (by simp [hx])⟩
        ·exact hI.ok p (by simp [hp])
       ·simp only [tdM]; simp
     | false =>
       refine b1g rfl ?_
       refine aU ?_
       refine p8 rfl rfl ⟨by omega, by omega⟩ ?_
       refine a4g hS b0t rfl zC (n := t) (fo := 0) (y := false) (y' := true) (by simp [f4]) hb (by first | exact Rp.here | (repeat (first | exact Rp.here | apply Rp.there | apply Rp.skip))) rfl rfl (by simp [f4]) rfl (fun S hS => ?_)
       refine aU ?_
       obtain ⟨nd2, hnd2⟩ : ∃ n, g_00.Nodes[t]? = some n := ⟨g_00.Nodes[t], List.getElem?_eq_getElem htN⟩
       refine m7 rfl rfl (a7g hnd2) ?_
       refine oP (f7.av nd2) ?_
       refine l7 (a2n (a6l nd2)) rfl ⟨(.refl _), trivial⟩ (j5 ⟨(f7.enc.blw _ 0), trivial⟩) ((g6 .i64).blws 0) ?_
       rw [← b6i hnd2, b6h hg]
       refine oP (sv (t, sc g_00 t)) ?_
       refine oP (.sl true 2 [sv (t, sc g_00 t)]) ?_
       refine a9K (o := o5) (ver := v5) (l := ((n, rest) :: td).reverse) (m := [(t, sc g_00 t)]) hS b1t (by simp [ev, Fr.get]) rfl (by first | exact Rp.here | (repeat (first | exact Rp.here | apply Rp.there | apply Rp.skip))) ⟨by simp; omega, by simp; omega⟩ (fun S hS => ?_)
       refine aU ?_
       (repeat (first | refine n8 ?_ | refine r8 ?_ | refine s4 rfl ?_ | refine j4 ?_ | refine l6 ?_ | refine k8 ?_))
       have hu2 := a3N hbg
       have h2 := b9n g_00 t
       refine ⟨(seen.set t true, out, (t, sc g_00 t) :: (n, rest) :: td, v4, v5 + 1, []), ⟨?_, by simp [hI.sl], by simp; omega, fun p hp => ?_⟩, ?_, ?_, k9 ⟨.refl _, .refl _, .refl _, ?_, trivial⟩⟩
       ·have hle : uns seen ≤ g_00.Nodes.length := by have := List.countP_le_length (p := fun b => !b) (l := seen); unfold uns; rw [hI.sl] at this; exact this
        show unw g_00 g_00.Nodes.length ((t, sc g_00 t) :: (n, rest) :: td) (seen.set t true, out) = _
        exact (b5b (s := (seen, out)) hbg hle).symm.trans hI.fin
       ·rcases List.mem_cons.1 hp with rfl | hp
        ·exact ⟨htN, fun x hx => b9Z hg hx⟩
        ·rcases List.mem_cons.1 hp with rfl | hp
         ·exact ⟨hnN, fun x hx => hrN x (by simp [hx])⟩
         ·exact hI.ok p (by simp [hp])
       ·simp only [tdM, List.length_cons]; omega
       ·simpa using hS
       ·simp only [List.length_append, List.length_reverse, List.length_cons]; exact .refl _
end Go.Proofs.YtepdcebjobjjgaaDoor

