/- Walks through a graph, in depth first: what is seen, and in which order nodes are left. -/
import Derived.Test.YtepdcebjobjjgaaDoorLvC2
import Derived.Test.YtepdcebjobjjgaaDoorWlTz
import Derived.Test.YtepdcebjobjjgaaDoorRows
set_option linter.unusedVariables false
set_option linter.unusedSimpArgs false
namespace Go.Proofs.YtepdcebjobjjgaaDoor
open Go Go.Ab
abbrev St := List Bool × List Int
def sc (g : b5) (i : Nat) : List Nat := (nxt g i).map Int.toNat
def a0S (v : Nat -> St -> St) (s : St) (t : Nat) : St := if s.1.getD t true = true then s else v t s
def vis (g : b5) : Nat -> Nat -> St -> St
 | 0, _, s => s
 | k + 1, n, s => let r := (sc g n).foldl (a0S (vis g k)) (s.1.set n true, s.2); (r.1, r.2 ++ [(n : Int)])
def uns (s : List Bool) : Nat := s.countP (fun b => !b)
theorem a2P {s : List Bool} {n : Nat} (h : s.getD n true = false) : uns (s.set n true) + 1 = uns s := by
 have hn : n < s.length := by
  rcases Nat.lt_or_ge n s.length with h1 | h1
  ·exact h1
  ·simp [List.getD_eq_getElem?_getD, List.getElem?_eq_none h1] at h
 have hv : s[n] = false := by simpa [List.getD_eq_getElem?_getD, hn] using h
 unfold uns
 induction s generalizing n with
 | nil => simp at hn
 | cons b s ih =>
   cases n with
   | zero => simp at hv; subst hv; simp
   | succ n =>
     have := ih (n := n) (by simpa using h) (by simpa using hn) (by simpa using hv)
     simp only [List.set_cons_succ, List.countP_cons]
     omega
theorem a6C {s : List Bool} {n t : Nat} (hn : n < s.length) : (s.set n true).getD t true = if t = n then true else s.getD t true := by
 simp only [List.getD_eq_getElem?_getD, List.getElem?_set]
 by_cases h : n = t
 ·subst h; simp [hn]
 ·have : ¬ t = n := fun e => h e.symm
  simp [h, this]
theorem a4l {s : List Bool} {n : Nat} (h : s.getD n true = false) : n < s.length := by
 rcases Nat.lt_or_ge n s.length with h1 | h1
 ·exact h1
 ·simp [List.getD_eq_getElem?_getD, List.getElem?_eq_none h1] at h
structure b1m (s s' : St) : Prop where
 len : s'.1.length = s.1.length
 mono : ∀ t, s.1.getD t true = true -> s'.1.getD t true = true
 uns : uns s'.1 <= uns s.1
theorem b1m.refl (s : St) : b1m s s := ⟨rfl, fun _ h => h, Nat.le_refl _⟩
theorem b1m.trans {a b c : St} (h : b1m a b) (k : b1m b c) : b1m a c := ⟨k.len.trans h.len, fun t e => k.mono t (h.mono t e), Nat.le_trans k.uns h.uns⟩
theorem b0s {v : Nat -> St -> St} (hv : ∀ t s, s.1.getD t true = false -> b1m s (v t s)) : ∀ (ts : List Nat) (s : St), b1m s (ts.foldl (a0S v) s)
 | [], s => .refl s
 | t :: ts, s => by
   refine b1m.trans ?_ (b0s hv ts _)
   unfold a0S
   split
   ·exact .refl s
   ·rename_i h; exact hv t s (by simpa using h)
theorem a6D (g : b5) : ∀ (k n : Nat) (s : St), s.1.getD n true = false -> b1m s (vis g k n s)
 | 0, n, s, h => .refl s
 | k + 1, n, s, h => by
   have hn := a4l h
   have h1 : b1m s (s.1.set n true, s.2) := ⟨by simp, fun t e => by rw [a6C hn]; split <;> simp_all, by have := a2P h; show uns (s.1.set n true) <= uns s.1; omega⟩
   have h2 := b0s (fun t s e => a6D g k t s e) (sc g n) (s.1.set n true, s.2)
   exact h1.trans ⟨h2.len, h2.mono, h2.uns⟩
theorem a9d (g : b5) : ∀ (k n : Nat) (s : St), s.1.getD n true = false -> uns s.1 <= k -> vis g (k + 1) n s = vis g k n s
 | 0, n, s, h, hu => by have := a2P h; omega
 | k + 1, n, s, h, hu => by
   have hn := a4l h
   have hu1 := a2P h
   have key : ∀ (ts : List Nat) (s : St), uns s.1 <= k -> ts.foldl (a0S (vis g (k + 1))) s = ts.foldl (a0S (vis g k)) s := by
    intro ts
    induction ts with
    | nil => intro s _; rfl
    | cons t ts ih =>
      intro s hs
      simp only [List.foldl_cons]
      have e : a0S (vis g (k + 1)) s t = a0S (vis g k) s t := by
       unfold a0S
       split
       ·rfl
       ·rename_i h; exact a9d g k t s (by simpa using h) hs
      rw [e]
      refine ih _ ?_
      have : b1m s (a0S (vis g k) s t) := by
       unfold a0S
       split
       ·exact .refl s
       ·rename_i h; exact a6D g k t s (by simpa using h)
      have := this.uns
      omega
   show (let r := (sc g n).foldl (a0S (vis g (k + 1))) (s.1.set n true, s.2); (r.1, r.2 ++ [(n : Int)])) = (let r := (sc g n).foldl (a0S (vis g k)) (s.1.set n true, s.2); (r.1, r.2 ++ [(n : Int)]))
   rw [key _ _ (by simp only; omega)]
def a1l (g : b5) : List Int := (vis g g.Nodes.length g.Entry.toNat (List.replicate g.Nodes.length false, [])).2.reverse
def unw (g : b5) (k : Nat) : List (Nat × List Nat) -> St -> St
 | [], s => s
 | (n, rest) :: td, s => let r := rest.foldl (a0S (vis g k)) s; unw g k td (r.1, r.2 ++ [(n : Int)])
theorem b6C {g : b5} {k n t : Nat} {rest : List Nat} {td : List (Nat × List Nat)} {s : St} (h : s.1.getD t true = true) : unw g k ((n, t :: rest) :: td) s = unw g k ((n, rest) :: td) s := by
 simp only [unw, List.foldl_cons, a0S, h, if_true]
theorem b6D {g : b5} {k n t : Nat} {rest : List Nat} {td : List (Nat × List Nat)} {s : St} (h : s.1.getD t true = false) (hu : uns s.1 <= k) :
  unw g k ((n, t :: rest) :: td) s = unw g k ((t, sc g t) :: (n, rest) :: td) (s.1.set t true, s.2) := by
 have e : vis g k t s = vis g (k + 1) t s := (a9d g k t s h hu).symm
 have e2 : a0S (vis g k) s t = vis g (k + 1) t s := by unfold a0S; rw [h, if_neg zD, e]
 show (let r := (t :: rest).foldl (a0S (vis g k)) s; unw g k td (r.1, r.2 ++ [(n : Int)])) = (let r := (sc g t).foldl (a0S (vis g k)) (s.1.set t true, s.2); unw g k ((n, rest) :: td) (r.1, r.2 ++ [(t : Int)]))
 rw [List.foldl_cons, e2]
 rfl
def tdM : List (Nat × List Nat) -> Nat
 | [] => 0
 | (_, r) :: td => r.length + 1 + tdM td
theorem b7I (g : b5) (i : Nat) : (sc g i).length <= 2 := by
 unfold sc nxt
 split
 ·simpa using a2t _
 ·simp
structure Wkd (g : b5) (R : Nat -> Prop) (s s' : St) : Prop where
 new : ∃ w : List Nat, s'.2 = s.2 ++ w.map (fun (n : Nat) => (n : Int)) /\ w.Nodup /\ (∀ x, x ∈ w ↔ (s'.1.getD x true = true /\ s.1.getD x true = false)) /\ (∀ x ∈ w, ∀ t ∈ sc g x, s'.1.getD t true = true) /\
  ∀ x ∈ w, R x \/ ∃ j ∈ w, j ≠ x /\ x ∈ sc g j
 gr : b1m s s'
theorem Wkd.refl {g : b5} {R : Nat -> Prop} (s : St) : Wkd g R s s := ⟨⟨[], by simp, by simp, by simp, by simp, by simp⟩, .refl s⟩
theorem Wkd.trans {g : b5} {R : Nat -> Prop} {a b c : St} (h : Wkd g R a b) (k : Wkd g R b c) : Wkd g R a c := by
 obtain ⟨⟨w, h1, h2, h3, h4, h5⟩, hg⟩ := h
 obtain ⟨⟨w', k1, k2, k3, k4, k5⟩, kg⟩ := k
 refine ⟨⟨w ++ w', by rw [k1, h1]; simp, ?_, fun x => ?_, fun x hx t ht => ?_, fun x hx => ?_⟩, hg.trans kg⟩
 ·rw [List.nodup_append]
  refine ⟨h2, k2, fun x hx y hy e => ?_⟩
  subst e
  have a1 := ((h3 x).1 hx).1
  have a2 := ((k3 x).1 hy).2
  rw [a1] at a2; cases a2
 ·rw [List.mem_append, h3, k3]
  constructor
  ·rintro (⟨p, q⟩ | ⟨p, q⟩)
   ·exact ⟨kg.mono _ p, q⟩
   ·refine ⟨p, ?_⟩
    cases e : a.1.getD x true with
    | false => rfl
    | true => rw [hg.mono _ e] at q; cases q
  ·rintro ⟨p, q⟩
   cases e : b.1.getD x true with
   | false => exact .inr ⟨p, rfl⟩
   | true => exact .inl ⟨rfl, q⟩
 ·rcases List.mem_append.1 hx with hx | hx
  ·exact kg.mono _ (h4 x hx t ht)
  ·exact k4 x hx t ht
 ·rcases List.mem_append.1 hx with hx | hx
  ·rcases h5 x hx with h | ⟨j, hj, e⟩
   ·exact .inl h
   ·exact .inr ⟨j, List.mem_append_left _ hj, e⟩
  ·rcases k5 x hx with h | ⟨j, hj, e⟩
   ·exact .inl h
   ·exact .inr ⟨j, List.mem_append_right _ hj, e⟩
theorem Wkd.mono {g : b5} {R R' : Nat -> Prop} {a b : St} (h : Wkd g R a b) (k : ∀ x, R x -> R' x) : Wkd g R' a b := by
 obtain ⟨⟨w, h1, h2, h3, h4, h5⟩, hg⟩ := h
 exact ⟨⟨w, h1, h2, h3, h4, fun x hx => (h5 x hx).imp (k x) id⟩, hg⟩
theorem b2i {g : b5} {v : Nat -> St -> St} {B : Nat} (hv : ∀ t s, s.1.getD t true = false -> uns s.1 <= B -> Wkd g (fun x => x = t) s (v t s) /\ (v t s).1.getD t true = true) : ∀ (ts : List Nat) (s : St), uns s.1 <= B -> Wkd g (fun x => x ∈ ts /\ s.1.getD x true = false) s (ts.foldl (a0S v) s) /\ ∀ t ∈ ts, (ts.foldl (a0S v) s).1.getD t true = true
 | [], s, _ => ⟨.refl s, by simp⟩
 | t :: ts, s, hB => by
   have h1 : Wkd g (fun x => x = t /\ s.1.getD x true = false) s (a0S v s t) /\ (a0S v s t).1.getD t true = true := by
    unfold a0S
    split
    ·rename_i h; exact ⟨.refl s, h⟩
    ·rename_i h
     have h' : s.1.getD t true = false := by simpa using h
     exact ⟨(hv t s h' hB).1.mono (fun x e => ⟨e, e ▸ h'⟩), (hv t s h' hB).2⟩
   obtain ⟨h2, h3⟩ := b2i hv ts (a0S v s t) (Nat.le_trans h1.1.gr.uns hB)
   simp only [List.foldl_cons]
   refine ⟨(h1.1.mono (fun x e => ⟨by simp [e.1], e.2⟩)).trans (h2.mono (fun x e => ⟨by simp [e.1], ?_⟩)), fun x hx => ?_⟩
   ·cases q : s.1.getD x true with
    | false => rfl
    | true => rw [h1.1.gr.mono _ q] at e; cases e.2
   ·rcases List.mem_cons.1 hx with rfl | hx
    ·exact h2.gr.mono _ h1.2
    ·exact h3 x hx
theorem b1n (g : b5) : ∀ (k n : Nat) (s : St), s.1.getD n true = false -> uns s.1 <= k -> Wkd g (fun x => x = n) s (vis g k n s) /\ (vis g k n s).1.getD n true = true /\ ∃ l, (vis g k n s).2 = s.2 ++ l ++ [(n : Int)]
 | 0, n, s, h, hu => by have := a2P h; omega
 | k + 1, n, s, h, hu => by
   have hn := a4l h
   have hu1 := a2P h
   obtain ⟨⟨⟨w, h1, h2, h3, h4, h5⟩, hg⟩, h6⟩ := b2i (g := g) (B := k) (fun t s e hu => ⟨(b1n g k t s e hu).1, (b1n g k t s e hu).2.1⟩) (sc g n) (s.1.set n true, s.2) (by simp only; omega)
   generalize hr : (sc g n).foldl (a0S (vis g k)) (s.1.set n true, s.2) = r at h1 h3 h4 h6 hg
   have e : vis g (k + 1) n s = (r.1, r.2 ++ [(n : Int)]) := by rw [<- hr]; rfl
   have hsn : (s.1.set n true).getD n true = true := by rw [a6C hn, if_pos rfl]
   have hrn : r.1.getD n true = true := hg.mono _ hsn
   have hnw : n ∉ w := fun hh => by have := ((h3 n).1 hh).2; rw [hsn] at this; cases this
   have hG : b1m s (r.1, r.2 ++ [(n : Int)]) := ⟨by have := hg.len; simpa using this, fun t ht => hg.mono t (by rw [a6C hn]; split <;> simp_all), by have := hg.uns; simp only at this ⊢; omega⟩
   rw [e]
   refine ⟨⟨⟨w ++ [n], by simp [h1], ?_, fun x => ?_, fun x hx t ht => ?_, fun x hx => ?_⟩, hG⟩, hrn, ⟨w.map (fun (n : Nat) => (n : Int)), by simp [h1]⟩⟩
   ·rw [List.nodup_append]
    refine ⟨h2, by simp, fun x hx y hy exy => ?_⟩
    simp at hy; subst hy; subst exy; exact hnw hx
   ·rw [List.mem_append, h3]
    simp only [List.mem_singleton, a6C hn]
    constructor
    ·rintro (⟨p, q⟩ | rfl)
     ·refine ⟨p, ?_⟩
      split at q
      ·cases q
      ·exact q
     ·exact ⟨hrn, h⟩
    ·rintro ⟨p, q⟩
     by_cases ex : x = n
     ·exact .inr ex
     ·exact .inl ⟨p, by rw [if_neg ex]; exact q⟩
   ·rcases List.mem_append.1 hx with hx | hx
    ·exact h4 x hx t ht
    ·simp at hx; subst hx; exact h6 t ht
   ·rcases List.mem_append.1 hx with hx | hx
    ·rcases h5 x hx with ⟨hh, hx2⟩ | ⟨j, hj, e⟩
     ·refine .inr ⟨n, by simp, fun e => ?_, hh⟩
      subst e; rw [hsn] at hx2; cases hx2
     ·exact .inr ⟨j, List.mem_append_left _ hj, e⟩
    ·simp at hx; exact .inl hx
structure c0M (g : b5) (l : List Int) : Prop where
 w : ∃ w : List Nat, l = w.map (fun (n : Nat) => (n : Int)) /\ w.Nodup /\ (∀ x ∈ w, x < g.Nodes.length) /\ (∀ x ∈ w, ∀ t ∈ sc g x, t ∈ w) /\ (∀ x ∈ w, x = g.Entry.toNat \/ ∃ j ∈ w, j ≠ x /\ x ∈ sc g j) /\ ∃ r, w = g.Entry.toNat :: r
theorem a9e (n : Nat) : uns (List.replicate n false) = n := by unfold uns; simp [List.countP_replicate]
theorem a9f {g : b5} (hg : a1E g) (he : g.Entry.toNat < g.Nodes.length) : c0M g (a1l g) := by
 have h0 : (List.replicate g.Nodes.length false).getD g.Entry.toNat true = false := by simp [List.getD_eq_getElem?_getD, he]
 obtain ⟨⟨⟨w, h1, h2, h3, h4, h5⟩, hgr⟩, h6, l, h7⟩ := b1n g g.Nodes.length g.Entry.toNat (List.replicate g.Nodes.length false, []) h0 (by simp only; rw [a9e]; exact Nat.le_refl _)
 unfold a1l
 generalize vis g g.Nodes.length g.Entry.toNat (List.replicate g.Nodes.length false, []) = r at h1 h3 h4 h6 h7 hgr
 have hr : ∀ x, x ∈ w -> x < g.Nodes.length := fun x hx => by
  have := a4l ((h3 x).1 hx).2
  simpa using this
 have hall : ∀ x, x < g.Nodes.length -> r.1.getD x true = true -> x ∈ w := fun x hx hs => (h3 x).2 ⟨hs, by simp [List.getD_eq_getElem?_getD, hx]⟩
 simp only [List.nil_append] at h1 h7
 refine ⟨w.reverse, by rw [h1, List.map_reverse], (List.reverse_perm w).nodup_iff.2 h2, fun x hx => hr x (by simpa using hx), fun x hx t ht => ?_, fun x hx => ?_, ?_⟩
 ·rw [List.mem_reverse] at hx ⊢
  refine hall t ?_ (h4 x hx t ht)
  unfold sc at ht
  obtain ⟨z, hz, rfl⟩ := List.mem_map.1 ht
  have := hg.nx x z hz
  omega
 ·rw [List.mem_reverse] at hx
  rcases h5 x hx with h | ⟨j, hj, e⟩
  ·exact .inl h
  ·exact .inr ⟨j, by simpa using hj, e⟩
 ·rw [h1] at h7
  have hl : w ≠ [] := by intro e; rw [e] at h7; simp at h7
  obtain ⟨a, b, rfl⟩ : ∃ a b, w = a ++ [b] := ⟨w.dropLast, w.getLast hl, (List.dropLast_concat_getLast hl).symm⟩
  rw [List.map_append, List.map_cons, List.map_nil] at h7
  have := (List.append_inj' h7 rfl).2
  simp only [List.cons.injEq, and_true] at this
  have : b = g.Entry.toNat := by omega
  subst this
  exact ⟨a.reverse, by simp⟩
theorem a4y : ∀ (N : Nat) (w : List Nat), w.Nodup -> (∀ x ∈ w, x < N) -> w.length <= N
 | 0, w, _, h => by
   cases w with
   | nil => simp
   | cons x w => exact absurd (h x zS) (Nat.not_lt_zero x)
 | N + 1, w, hn, h => by
   by_cases hN : N ∈ w
   ·have := a4y N (w.erase N) (hn.erase N) (fun x hx => by
     have h1 := (List.Nodup.mem_erase_iff hn).1 hx
     have := h x h1.2
     have := h1.1
     omega)
    rw [List.length_erase_of_mem hN] at this
    omega
   ·have := a4y N w hn (fun x hx => by
     have := h x hx
     have : x ≠ N := fun e => hN (e ▸ hx)
     omega)
    omega
set_option maxRecDepth 20000
set_option maxHeartbeats 2000000
noncomputable def c5o : FC := fcO 55
theorem c5p : Fn3 Tryd.prog 55 28 [] c5o := ⟨_, _, Tryd.func55, rfl, rfl, rfl, by kernel_rfl⟩

noncomputable def c5q : FC := fcO 31
theorem c5r : Fn3 Tryd.prog 31 101 [(2, none)] c5q := ⟨_, _, Tryd.func31, rfl, rfl, rfl, by kernel_rfl⟩

def b9E (l m : List Int) (i : Nat) : Prop := m.length = l.length /\ ∀ k, k < l.length -> m[k]? = if k < i \/ l.length - i <= k then l[l.length - 1 - k]? else l[k]?
theorem b9E.fin {l m : List Int} {i : Nat} (h : b9E l m i) (hi : l.length <= 2 * i + 1) : m = l.reverse := by
 apply List.ext_getElem?
 intro k
 by_cases hk : k < l.length
 ·rw [h.2 k hk, List.getElem?_reverse hk]
  by_cases hc : k < i \/ l.length - i <= k
  ·rw [if_pos hc]
  ·rw [if_neg hc]; congr 1; omega
 ·rw [List.getElem?_eq_none (by rw [h.1]; omega), List.getElem?_eq_none zE]
theorem b9E.step {l m : List Int} {i : Nat} (h : b9E l m i) (hi : 2 * i + 1 < l.length) {x y : Int} (hx : m[i]? = some x) (hy : m[l.length - 1 - i]? = some y) : b9E l ((m.set i y).set (l.length - 1 - i) x) (i + 1) := by
 refine ⟨by simp [h.1], fun k hk => ?_⟩
 have h1 := h.2 i zO
 have h2 := h.2 (l.length - 1 - i) zO
 rw [if_neg zO] at h1 h2
 have h3 := h.2 k hk
 rw [List.getElem?_set, List.getElem?_set]
 simp only [List.length_set, h.1]
 by_cases e1 : l.length - 1 - i = k
 ·rw [if_pos e1, if_pos zO, if_pos zO, <- hx, h1]; congr 1; omega
 ·rw [if_neg e1]
  by_cases e2 : i = k
  ·rw [if_pos e2, if_pos zO, if_pos zO, <- hy, h2]; congr 1; omega
  ·rw [if_neg e2, h3]
   by_cases e3 : k < i \/ l.length - i <= k
   ·rw [if_pos e3, if_pos zO]
   ·rw [if_neg e3, if_neg zO]
theorem b8J {l : List Int} {o v : Nat} {j : List AV} (hl : l.length <= 4611686018427387904) : Tri Tryd.prog 55 [.ref o v 0 l.length none] [(o, v, flat (avI .i64) l ++ j)] (fun _ L' => L' = [(o, v, flat (avI .i64) l.reverse ++ j)]) := by
 refine a0n mixed c5p zS [] (fun R S hS => ?_)
 refine aU ?_
 refine k7 (a0h (σ := Nat × List Int) (fun s => [(0, .ref o v 0 l.length none), (2, .int .i64 s.1), (3, .int .i64 ((l.length : Int) - 1 - s.1))]) (fun s => (o, v, flat (avI .i64) s.2 ++ j) :: R) (fun s => b9E l s.2 s.1 /\ s.1 <= l.length) (fun s => l.length - s.1) (0, l) hS ⟨⟨rfl, fun k hk => by rw [if_neg zO]⟩, Nat.zero_le _⟩
  (a0B ⟨.refl _, .refl _, ?_, trivial⟩) (fun s S hI hS => ?_))
 ·have e : IntKind.i64.wrap ((l.length : Int) - 1) = (l.length : Int) - 1 - ((0 : Nat) : Int) := by rw [s5 zO]; omega
  rw [<- e]; exact .refl _
 ·obtain ⟨i, m⟩ := s
  obtain ⟨hI, hi⟩ := hI
  dsimp only at hI hi hS
  refine aU ?_
  dsimp only
  refine a1i rfl (fun hb => ?_) (fun hb => ?_)
  ·have hlt : 2 * i + 1 < l.length := by simp only [decide_eq_true_eq] at hb; omega
   have hm := hI.1
   obtain ⟨x, hx⟩ : ∃ x, m[i]? = some x := ⟨m[i], List.getElem?_eq_getElem zO⟩
   obtain ⟨y, hy⟩ : ∃ y, m[l.length - 1 - i]? = some y := ⟨m[l.length - 1 - i], List.getElem?_eq_getElem zO⟩
   refine aU ?_
   refine k7 ?_
   refine aU ?_
   refine n7 rfl rfl ⟨by omega, by omega⟩ ?_
   refine a1u hS (g5 .i64) rfl zM (n := l.length - 1 - i) (fo := 0) (y := y) (by simp [g8] <;> omega) hy rfl ?_
   refine aU ?_
   refine n7 rfl rfl ⟨by omega, by omega⟩ ?_
   refine a1u hS (g5 .i64) rfl zM (n := i) (fo := 0) (y := x) (by simp [g8]) hx rfl ?_
   refine n7 rfl rfl ⟨by omega, by omega⟩ ?_
   refine a5G hS (g5 .i64) rfl zC (n := i) (fo := 0) (y := x) (y' := y) (by simp [g8]) hx (by first | exact Rp.here | (repeat (first | exact Rp.here | apply Rp.there | apply Rp.skip))) rfl rfl (by simp [g8]) rfl (fun S hS => ?_)
   refine n7 rfl rfl ⟨by omega, by omega⟩ ?_
   refine a5G (l := m.set i y) (j := j) hS (g5 .i64) rfl zC (n := l.length - 1 - i) (fo := 0) (y := y) (y' := x) (by simp [g8] <;> omega) (by rw [List.getElem?_set_ne zO]; exact hy) (by first | exact Rp.here | (repeat (first | exact Rp.here | apply Rp.there | apply Rp.skip))) rfl rfl (by simp [g8]) rfl (fun S hS => ?_)
   refine aU ?_
   refine a0m ?_
   refine aU ?_
   refine ⟨(i + 1, (m.set i y).set (l.length - 1 - i) x), ⟨hI.step hlt hx hy, by simp only; omega⟩, by simp only; omega, hS, a0B ⟨.refl _, ?_, ?_, trivial⟩⟩
   ·have e : IntKind.i64.wrap ((i : Int) + 1) = ((i + 1 : Nat) : Int) := by rw [s5 zO]; omega
    rw [<- e]; exact .refl _
   ·have e : IntKind.i64.wrap ((l.length : Int) - 1 - i - 1) = (l.length : Int) - 1 - ((i + 1 : Nat) : Int) := by rw [s5 zO]; omega
    simp only; rw [<- e]; exact .refl _
  ·have hge : l.length <= 2 * i + 1 := by simp only [decide_eq_false_iff_not] at hb; omega
   refine w8 ?_
   refine aE ?_
   have := hI.fin hge
   subst this
   exact ⟨trivial, _, rfl, _, rfl, hS⟩
def svN (x : Nat) : AV := .int .i64 (x : Int)
def sv (p : Nat × List Nat) : AV := .agg [.int .i64 (p.1 : Int), .sl false 1 (p.2.map svN)]
theorem c2L : Enc svN none := ⟨fun _ => rfl, fun _ => rfl, fun _ => rfl, fun _ _ => rfl⟩
theorem b2T : Enc sv (some 2) := ⟨fun _ => rfl, fun _ => rfl, fun _ => rfl, fun x n => i6 ⟨rfl, c2L.blws n, trivial⟩⟩
theorem b4O {g : b5} (hg : a1E g) (i : Nat) : (nxt g i).map (avI .i64) = (sc g i).map svN := by
 unfold sc
 rw [List.map_map]
 refine List.map_congr_left (fun x hx => ?_)
 have := hg.nx i x hx
 simp only [Function.comp, avI, svN]
 congr 1; omega
theorem b4P {g : b5} {i : Nat} {n : g6} (h : g.Nodes[i]? = some n) : nxt g i = a2s n := by unfold nxt; rw [h]
theorem a6g {α : Type} {l : List α} {i : Nat} {x : α} (h : l[i]? = some x) : o6 l (i : Int) = some x := by rw [n8]; exact h
structure c5s (g : b5) (F : St) (seen : List Bool) (out : List Int) (td : List (Nat × List Nat)) : Prop where
 fin : unw g g.Nodes.length td (seen, out) = F
 sl : seen.length = g.Nodes.length
 cnt : out.length + td.length + uns seen = g.Nodes.length
 ok : ∀ p ∈ td, p.1 < g.Nodes.length /\ ∀ t ∈ p.2, t < g.Nodes.length
theorem b8K {g : b5} (hg : a1E g) {i t : Nat} (h : t ∈ sc g i) : t < g.Nodes.length := by
 unfold sc at h
 obtain ⟨z, hz, rfl⟩ := List.mem_map.1 h
 have := hg.nx i z hz
 omega
open Classical in
noncomputable def a4m (g : b5) : Option (List Int) := if a1E g /\ 0 <= g.Entry /\ g.Entry < g.Nodes.length then some (a1l g) else none
theorem a9g {g_00 : b5} {r : List Int} (h : a4m g_00 = some r) : m5 Tryd.prog 31 [(.cptr (b5.av g_00).cells 0)] (.sl false 1 (List.map (avI .i64) r)) := by
 unfold a4m at h
 split at h
 case isFalse => cases h
 rename_i hc
 cases h
 obtain ⟨hg, he0, heN⟩ := hc
 obtain ⟨en, hen⟩ : ∃ e : Nat, g_00.Entry = (e : Int) := ⟨g_00.Entry.toNat, by omega⟩
 have hN := hg.nn
 have henN : en < g_00.Nodes.length := by omega
 obtain ⟨nd, hnd⟩ : ∃ n, g_00.Nodes[en]? = some n := ⟨g_00.Nodes[en], List.getElem?_eq_getElem henN⟩
 refine k6 mixed c5r zS [13, 30] 1 ?_
 have hS : Sep [] [] := Sep.nil
 refine d9 (b8 ?_)
 refine aU ?_
 refine b2M (x := false) hS a8R rfl rfl rfl rfl zO (fun o3 S hS => ?_)
 simp only [Int.toNat_natCast] at hS ⊢
 refine a0Q zC ?_
 refine b7 (f5 (d9 (b8 ?_)))
 refine a0Q zC ?_
 refine b7 ?_
 refine b6l 4 none hS rfl (fun o4 S hS => ?_)
 refine d9 (a4I ?_)
 refine aS ?_
 rw [hen]
 refine j7 rfl rfl (a6g hnd) ?_
 refine oP (g6.av nd) ?_
 refine j4 (a3d (a7t nd)) rfl ⟨(.refl _), trivial⟩ (i6 ⟨(g6.enc.blw _ 0), trivial⟩) ((g5 .i64).blws 0) ?_
 rw [<- b4P hnd, b4O hg]
 refine oP (sv (en, sc g_00 en)) ?_
 refine c2x hS rfl rfl (Nat.le_refl _) rfl (fun o5 S hS => ?_)
 replace hS : Sep S ((o5, 0, flat sv [(en, sc g_00 en)]) :: (o4, 0, flat (avI .i64) []) :: (o3, 0, flat avB (List.replicate g_00.Nodes.length false)) :: []) := hS
 refine a0Q zC ?_
 refine b7 ?_
 refine And.intro (by simp [a1X, a7L, a1r, a2z]) ?_
 refine aU ?_
 rw [hen]
 have hl0 : (List.replicate g_00.Nodes.length false)[en]? = some false := by simp [henN]
 refine n7 rfl rfl ⟨by omega, by omega⟩ ?_
 refine a4K (l := List.replicate g_00.Nodes.length false) hS a8R rfl zC (n := en) (fo := 0) (y := false) (y' := true) (by simp [g8]) hl0 (by first | exact Rp.here | (repeat (first | exact Rp.here | apply Rp.there | apply Rp.skip))) rfl rfl (by simp [g8]) rfl (fun S hS => ?_)
 refine aU ?_
 have hs0 : (List.replicate g_00.Nodes.length false).getD en true = false := by simp [List.getD_eq_getElem?_getD, henN]
 have hu := a2P hs0
 rw [a9e] at hu
 have hF : unw g_00 g_00.Nodes.length [(en, sc g_00 en)] ((List.replicate g_00.Nodes.length false).set en true, []) = vis g_00 g_00.Nodes.length en (List.replicate g_00.Nodes.length false, []) := by
  rw [<- a9d g_00 g_00.Nodes.length en (List.replicate g_00.Nodes.length false, []) hs0 (by simp only; rw [a9e]; exact Nat.le_refl _)]
  rfl
 refine k7 (a0h (σ := List Bool × List Int × List (Nat × List Nat) × Nat × Nat × List AV) (fun s => [(0, gR g_00), (3, .ref o3 0 0 g_00.Nodes.length none), (4, .ref o4 s.2.2.2.1 0 s.2.1.length none), (5, .ref o5 s.2.2.2.2.1 0 s.2.2.1.length (some 2))])
  (fun s => (o5, s.2.2.2.2.1, flat sv s.2.2.1.reverse ++ s.2.2.2.2.2) :: (o4, s.2.2.2.1, flat (avI .i64) s.2.1) :: (o3, 0, flat avB s.1) :: [])
  (fun s => c5s g_00 (vis g_00 g_00.Nodes.length en (List.replicate g_00.Nodes.length false, [])) s.1 s.2.1 s.2.2.1) (fun s => 4 * uns s.1 + tdM s.2.2.1) ((List.replicate g_00.Nodes.length false).set en true, [], [(en, sc g_00 en)], 0, 0, []) (by simpa using hS)
  ⟨hF, by simp, by simp; omega, fun p hp => by simp at hp; subst hp; exact ⟨henN, fun t ht => b8K hg ht⟩⟩ wF (fun s S hI hS => ?_))
 obtain ⟨seen, out, td, v4, v5, j⟩ := s
 dsimp only at hI hS
 refine aU ?_
 dsimp only
 cases td with
 | nil =>
   refine a9S rfl (w8 ?_)
   refine aE ?_
   have hfin : (seen, out) = vis g_00 g_00.Nodes.length en (List.replicate g_00.Nodes.length false, []) := hI.fin
   have hcn := hI.cnt
   refine aU ?_
   refine a4S (b8J (j := []) (l := out) (by simp at hcn; omega)) hS rfl (Spl.cons (by rw [List.append_nil]; exact Pk.there Pk.here) Spl.nil) (fun v S L' hL hS => ?_)
   subst hL
   refine aU ?_
   refine j5 ?_
   refine ⟨trivial, _, rfl, ?_⟩
   have hl : a1l g_00 = out.reverse := by unfold a1l; rw [hen, Int.toNat_natCast, <- hfin]
   rw [hl]
   have := a8V (k := 0) (g5 .i64) (j := []) rfl rfl (hS.at (.head _))
   rw [List.length_reverse] at this
   show AVw (frz 0 S (0 + 1) (.ref o4 v4 0 out.length none)) _
   rw [this]
   exact .refl _
 | cons p td =>
   obtain ⟨n, rest⟩ := p
   have hcn := hI.cnt
   simp only [List.length_cons] at hcn
   obtain ⟨hnN, hrN⟩ := hI.ok (n, rest) zS
   simp only at hnN hrN
   have hrv : ((n, rest) :: td).reverse = td.reverse ++ [(n, rest)] := by simp
   have hget : ((n, rest) :: td).reverse[td.length]? = some (n, rest) := by rw [hrv, List.getElem?_append_right zS]; simp
   have hlen : ((n, rest) :: td).length = td.length + 1 := by simp
   have hw : IntKind.i64.wrap ((((n, rest) :: td).length : Int) - 1) = (td.length : Int) := by rw [hlen, s5 zO]; omega
   refine a9x (by simp [ev, Fr.get, hlen]) ?_
   refine aU ?_
   refine k7 ?_
   refine aU ?_
   rw [hw]
   refine n7 rfl rfl ⟨by omega, by rw [hlen]; omega⟩ ?_
   refine aU ?_
   refine a1u hS b2T rfl zM (n := td.length) (fo := 1) (y := (n, rest)) (by simp [g8]) hget rfl ?_
   refine aU ?_
   cases rest with
   | nil =>
     refine a9x rfl ?_
     refine aU ?_
     refine a1u hS b2T rfl zM (n := td.length) (fo := 0) (y := (n, [])) (by simp [g8]) hget rfl ?_
     refine aU ?_
     refine a7R (m := [(n : Int)]) (j := []) hS (g5 .i64) rfl rfl (by apply Rp.there; rw [List.append_nil]; exact Rp.here) ⟨by simp; omega, by simp; omega⟩ (fun S hS => ?_)
     refine aU ?_
     rw [hw]
     refine a8l (a := 0) (b := td.length) rfl rfl (by simp [evO, ev, Fr.get, hiN]) ⟨by omega, by rw [hlen]; omega, .inl rfl⟩ ?_
     refine aU ?_
     refine w8 ?_
     refine aE ?_
     refine ⟨(seen, out ++ [(n : Int)], td, v4 + 1, v5, (sv (n, [])).cells ++ j), ⟨?_, hI.sl, by simp; omega, fun p hp => hI.ok p (by simp [hp])⟩, ?_, ?_, a0B ⟨.refl _, .refl _, .refl _, ?_, trivial⟩⟩
     ·exact hI.fin
     ·simp only [tdM]; simp
     ·rw [hrv, show flat sv (td.reverse ++ [(n, [])]) ++ j = flat sv td.reverse ++ ((sv (n, [])).cells ++ j) by rw [a0C, List.append_assoc]; rfl] at hS
      exact hS
     ·simp only [Nat.zero_mul, Nat.zero_add, Nat.sub_zero]; exact .refl _
   | cons t rest =>
     refine a9S rfl ?_
     refine aU ?_
     have htN : t < g_00.Nodes.length := hrN t zS
     refine a1u hS b2T rfl zM (n := td.length) (fo := 1) (y := (n, t :: rest)) (v := .sl false 1 ((t :: rest).map svN)) (by simp [g8]) hget rfl ?_
     refine j7 (f := svN) (ys := t :: rest) rfl rfl rfl ?_
     refine oP (.int .i64 (t : Int)) ?_
     refine aU ?_
     refine a1u hS b2T rfl zM (n := td.length) (fo := 1) (y := (n, t :: rest)) (v := .sl false 1 ((t :: rest).map svN)) (by simp [g8]) hget rfl ?_
     refine b7p (f := svN) (l := t :: rest) (a := 1) (b := (t :: rest).length) rfl rfl rfl ⟨by simp, Nat.le_refl _⟩ ?_
     refine aU ?_
     have hset : ((n, t :: rest) :: td).reverse.set td.length (n, rest) = ((n, rest) :: td).reverse := by rw [hrv]; simp [List.set_append_right]
     refine a5G hS b2T rfl zC (n := td.length) (fo := 1) (y := (n, t :: rest)) (y' := (n, rest)) (by simp [g8]) hget (by rw [hset]; exact Rp.here) rfl rfl (by simp [g8]) (by simp [sv, AV.cells, splice, g8]) (fun S hS => ?_)
     refine aU ?_
     obtain ⟨b, hb⟩ : ∃ b, seen[t]? = some b := ⟨seen[t]'(by rw [hI.sl]; exact htN), List.getElem?_eq_getElem _⟩
     have hbg : seen.getD t true = b := by rw [List.getD_eq_getElem?_getD, hb]; rfl
     refine n7 rfl rfl ⟨by omega, by omega⟩ ?_
     refine a6c hS a8R rfl zM (n := t) (fo := 0) (y := b) (v := .bool b) (by simp [g8]) hb rfl ?_
     refine aU ?_
     cases b with
     | true =>
       refine a9S rfl ?_
       refine aU ?_
       refine aE ?_
       refine ⟨(seen, out, (n, rest) :: td, v4, v5, j), ⟨?_, hI.sl, by simp; omega, fun p hp => ?_⟩, ?_, hS, wF⟩
       ·rw [<- b6C hbg]; exact hI.fin
       ·rcases List.mem_cons.1 hp with rfl | hp
        ·exact ⟨hnN, fun x hx => hrN x (by simp [hx])⟩
        ·exact hI.ok p (by simp [hp])
       ·simp only [tdM]; simp
     | false =>
       refine a9x rfl ?_
       refine aU ?_
       refine n7 rfl rfl ⟨by omega, by omega⟩ ?_
       refine a4K hS a8R rfl zC (n := t) (fo := 0) (y := false) (y' := true) (by simp [g8]) hb (by first | exact Rp.here | (repeat (first | exact Rp.here | apply Rp.there | apply Rp.skip))) rfl rfl (by simp [g8]) rfl (fun S hS => ?_)
       refine aU ?_
       obtain ⟨nd2, hnd2⟩ : ∃ n, g_00.Nodes[t]? = some n := ⟨g_00.Nodes[t], List.getElem?_eq_getElem htN⟩
       refine j7 rfl rfl (a6g hnd2) ?_
       refine oP (g6.av nd2) ?_
       refine j4 (a3d (a7t nd2)) rfl ⟨(.refl _), trivial⟩ (i6 ⟨(g6.enc.blw _ 0), trivial⟩) ((g5 .i64).blws 0) ?_
       rw [<- b4P hnd2, b4O hg]
       refine oP (sv (t, sc g_00 t)) ?_
       refine oP (.sl true 2 [sv (t, sc g_00 t)]) ?_
       refine a7R (o := o5) (ver := v5) (l := ((n, rest) :: td).reverse) (m := [(t, sc g_00 t)]) hS b2T (by simp [ev, Fr.get]) rfl (by first | exact Rp.here | (repeat (first | exact Rp.here | apply Rp.there | apply Rp.skip))) ⟨by simp; omega, by simp; omega⟩ (fun S hS => ?_)
       refine aU ?_
       refine aE ?_
       have hu2 := a2P hbg
       have h2 := b7I g_00 t
       refine ⟨(seen.set t true, out, (t, sc g_00 t) :: (n, rest) :: td, v4, v5 + 1, []), ⟨?_, by simp [hI.sl], by simp; omega, fun p hp => ?_⟩, ?_, ?_, a0B ⟨.refl _, .refl _, .refl _, ?_, trivial⟩⟩
       ·have hle : uns seen <= g_00.Nodes.length := by have := List.countP_le_length (p := fun b => !b) (l := seen); unfold uns; rw [hI.sl] at this; exact this
        show unw g_00 g_00.Nodes.length ((t, sc g_00 t) :: (n, rest) :: td) (seen.set t true, out) = _
        exact (b6D (s := (seen, out)) hbg hle).symm.trans hI.fin
       ·rcases List.mem_cons.1 hp with rfl | hp
        ·exact ⟨htN, fun x hx => b8K hg hx⟩
        ·rcases List.mem_cons.1 hp with rfl | hp
         ·exact ⟨hnN, fun x hx => hrN x (by simp [hx])⟩
         ·exact hI.ok p (by simp [hp])
       ·simp only [tdM, List.length_cons]; omega
       ·simpa using hS
       ·simp only [List.length_append, List.length_reverse, List.length_cons]; exact .refl _
end Go.Proofs.YtepdcebjobjjgaaDoor

