/- Plain laws of kinds: stacks as texts. -/
import Derived.Test.YtnpemocpfdgaoaaBdE3
import Derived.Test.YtnpemocpfdgaoaaGenR5
set_option linter.unusedVariables false
set_option linter.unusedSimpArgs false
namespace Go.Proofs.Ytnpemocpfdgaoaa
open Go Go.Ab Go.RowKit
set_option maxRecDepth 20000

theorem toList_loop (bs : ByteArray) : ∀ (d i : Nat) (r : List UInt8), bs.size - i = d -> ByteArray.toList.loop bs i r = r.reverse ++ bs.data.toList.drop i
 | 0, i, r, h => by
   rw [ByteArray.toList.loop.eq_1, if_neg zO]
   rw [List.drop_eq_nil_of_le (by have : bs.data.toList.length = bs.size := by rw [Array.length_toList]; rfl
                                  omega)]
   simp
 | d + 1, i, r, h => by
   have hlt : i < bs.data.toList.length := by
    have : bs.data.toList.length = bs.size := by rw [Array.length_toList]; rfl
    omega
   rw [ByteArray.toList.loop.eq_1, if_pos zO, toList_loop bs d (i + 1) _ zO]
   rw [List.drop_eq_getElem_cons hlt]
   have : bs.get! i = bs.data.toList[i] := by
    simp only [ByteArray.get!]
    rw [getElem!_pos bs.data i (by simpa using hlt)]
    simp
   rw [this]
   simp
theorem toList_data (bs : ByteArray) : bs.toList = bs.data.toList := by
 rw [ByteArray.toList.eq_1, toList_loop bs _ 0 [] rfl]; simp
theorem eqS (a b : ByteArray) : (ByteArray.toList a == ByteArray.toList b) = decide (a = b) := by
 rw [toList_data, toList_data]
 by_cases h : a = b
 ·subst h; simp
 ·rw [decide_eq_false h]
  rw [beq_eq_false_iff_ne]
  intro e
  apply h
  cases a; cases b
  simp only [ByteArray.mk.injEq]
  simp only at e
  exact Array.toList_inj.1 e

def b4g (k : Int) : UInt8 := if k = 1 then 112 else 110
def a0F (l : List Int) : ByteArray := ⟨(l.map b4g).toArray⟩
def c2n : ByteArray := ByteArray.mk #[33]
def a9T : ByteArray := ByteArray.mk #[63]
def K01 (l : List Int) : Prop := ∀ k ∈ l, k = 0 \/ k = 1
theorem a1h (l : List Int) : (a0F l).size = l.length := by simp [a0F, ByteArray.size]
theorem b3A {a b : Int} (ha : a = 0 \/ a = 1) (hb : b = 0 \/ b = 1) (h : b4g a = b4g b) : a = b := by
 rcases ha with rfl | rfl <;> rcases hb with rfl | rfl <;> first | rfl | (exact absurd h zD)
theorem b2a : ∀ {a b : List Int}, K01 a -> K01 b -> a.map b4g = b.map b4g -> a = b
 | [], [], _, _, _ => rfl
 | [], _ :: _, _, _, h => by simp at h
 | _ :: _, [], _, _, h => by simp at h
 | x :: a, y :: b, ha, hb, h => by
   simp only [List.map_cons, List.cons.injEq] at h
   rw [b3A (ha x zS) (hb y zS) h.1, b2a (fun k hk => ha k (by simp [hk])) (fun k hk => hb k (by simp [hk])) h.2]
theorem a7d {a b : List Int} (ha : K01 a) (hb : K01 b) : a0F a = a0F b ↔ a = b := by
 constructor
 ·intro h
  simp only [a0F, ByteArray.mk.injEq] at h
  exact b2a ha hb (List.toArray_inj h)
 ·rintro rfl; rfl
theorem b2b {l : List Int} {c : UInt8} (hc : c ≠ 112 /\ c ≠ 110) : a0F l ≠ ByteArray.mk #[c] := by
 intro h
 simp only [a0F, ByteArray.mk.injEq] at h
 have h2 : l.map b4g = [c] := List.toArray_inj h
 match l, h2 with
 | [k], h2 =>
   simp only [List.map_cons, List.map_nil, List.cons.injEq, and_true] at h2
   unfold b4g at h2
   split at h2
   ·exact hc.1 h2.symm
   ·exact hc.2 h2.symm
theorem b2c (l : List Int) : a0F l ≠ c2n := b2b ⟨by decide, by decide⟩
theorem a4z (l : List Int) : a0F l ≠ a9T := b2b ⟨by decide, by decide⟩
theorem c4F (a b : List Int) (h : a.length + b.length <= 1000000000) : b2o (a0F a) (a0F b) = some (a0F (a ++ b)) := by
 unfold b2o
 rw [a1h, a1h, if_pos zO]
 congr 1
 apply ByteArray.ext
 apply Array.toList_inj.1
 simp [a0F]
theorem c4G (l : List Int) (lo hi : Int) (h : 0 <= lo /\ lo <= hi /\ hi <= l.length) : b2p (a0F l) lo hi = some (a0F ((l.take hi.toNat).drop lo.toNat)) := by
 unfold b2p
 rw [a1h, if_pos h]
 congr 1
 apply ByteArray.ext
 apply Array.toList_inj.1
 simp only [a0F]
 rw [ByteArray.data_extract]
 simp [List.map_take, List.map_drop]
 rw [List.drop_take]
theorem a5K {k : Int} : k8 k = some (a0F [k]) := by
 unfold k8 a0F b4g
 by_cases h : k = 1 <;> simp [h]
theorem a6x (l : List Int) (h : l.length <= 100000) : s5 l = some (a0F l) := by
 unfold s5
 have L := rng_inv (σ := ByteArray) (ρ := Option ByteArray) (xs := l) (s0 := ByteArray.mk #[]) (fun _ => true) none (fun i s => s = a0F (l.take i))
  (body := fun (i_2 : Nat) (k_3 : Int) (s_1 : ByteArray) => (((k8 k_3).bind fun vlet_5 => ((b2o s_1 vlet_5).bind fun s_6 => (some (.nxt s_6)))) : Option (Stp ByteArray (Option ByteArray)))) zO (by simp [a0F]) (fun i x s hx hs => by
   subst hs
   rw [a5K]
   simp only [Option.bind_some, if_true]
   have hlt := (List.getElem?_eq_some_iff.1 hx).1
   rw [c4F _ _ (by simp <;> omega)]
   refine ⟨_, rfl, ?_⟩
   rw [List.take_succ_eq_append_getElem hlt]
   rw [List.getElem?_eq_getElem hlt] at hx
   cases hx; rfl)
 simp only [List.all_eq_true, implies_true, if_true] at L
 obtain ⟨s', e1, e2⟩ := L
 rw [e1, e2]
 simp [oc]

def stK : Option (List Int) -> ByteArray
 | some x => a0F x
 | none => c2n
def b3B (t l s : List Int) : ByteArray := if t.length <= s.length /\ s.drop (s.length - t.length) = t then a0F (s.take (s.length - t.length) ++ l) else c2n
theorem b3C {p f i} {s t l : List Int} (h : i.Op ≠ 24) (e : eff p f i (a1P s) = (t, l)) : b3B t l s = stK (a1v p f i s) := by
 unfold b3B a1v
 simp only [e]
 by_cases h1 : t.length <= s.length /\ s.drop (s.length - t.length) = t
 ·rw [if_pos h1, if_pos ⟨h1.1, h1.2, fun hh => h hh.1⟩]; rfl
 ·rw [if_neg h1, if_neg (fun hh => h1 ⟨hh.1, hh.2.1⟩)]; rfl
theorem c2o {s t l : List Int} (hs : s.length <= 100000) (ht : t.length <= 100000) (hl : l.length <= 100000) (ks : K01 s) (kt : K01 t) :
  (jp (fun (s_25 : Bool) => (if s_25 then (some (ByteArray.mk #[33])) else ((b2p (a0F s) 0 (I64 ((ByteArray.size (a0F s) : Int) - (ByteArray.size (a0F t) : Int)))).bind fun s_27 => ((b2o s_27 (a0F l)).bind fun s_28 => (some s_28))))) (fun k_24 => (if (decide ((ByteArray.size (a0F s) : Int) < (ByteArray.size (a0F t) : Int))) then (k_24 true) else ((b2p (a0F s) (I64 ((ByteArray.size (a0F s) : Int) - (ByteArray.size (a0F t) : Int))) (ByteArray.size (a0F s) : Int)).bind fun s_26 => (k_24 (!(ByteArray.toList s_26 == ByteArray.toList (a0F t)))))))) = some (b3B t l s) := by
 unfold jp
 rw [a1h, a1h, a1H zO]
 by_cases h : s.length < t.length
 ·have h1 : decide ((s.length : Int) < t.length) = true := by simpa using h
  have hf : b3B t l s = c2n := if_neg (fun hh => by omega)
  rw [hf]
  dsimp only
  rw [h1]; rfl
 ·have h1 : decide ((s.length : Int) < t.length) = false := by simp; omega
  dsimp only
  rw [h1]
  simp only [Bool.false_eq_true, if_false]
  rw [c4G s ((s.length : Int) - t.length) s.length zO, show (((s.length : Int) - t.length)).toNat = s.length - t.length by omega, show ((s.length : Int)).toNat = s.length by omega, List.take_length]
  simp only [Option.bind_some]
  rw [eqS]
  have kd : K01 (s.drop (s.length - t.length)) := fun k hk => ks k (List.mem_of_mem_drop hk)
  by_cases h2 : s.drop (s.length - t.length) = t
  ·have hf : b3B t l s = a0F (s.take (s.length - t.length) ++ l) := if_pos ⟨by omega, h2⟩
   have hd : decide (a0F (s.drop (s.length - t.length)) = a0F t) = true := decide_eq_true (by rw [h2])
   rw [hf, hd]
   simp only [Bool.not_true, Bool.false_eq_true, if_false]
   rw [c4G s _ _ zO]
   simp only [Option.bind_some]
   rw [c4F _ _ zE]
   simp
  ·have hf : b3B t l s = c2n := if_neg (fun hh => h2 hh.2)
   have hd : decide (a0F (s.drop (s.length - t.length)) = a0F t) = false := decide_eq_false (fun hh => h2 ((a7d kd kt).1 hh))
   rw [hf, hd]
   rfl
set_option maxHeartbeats 1000000

theorem jp_gen {σ β : Type} {K : σ -> Option β} {f : (σ -> Option β) -> Option β} {r : Option β} (P : (σ -> Option β) -> Prop) (h1 : P K) (h2 : ∀ K, P K -> f K = r) : jp K f = r := h2 K h1
theorem a0q : K01 [] := fun k hk => by simp at hk
theorem a0r {k : Int} (h : k = 0 \/ k = 1) : K01 [k] := fun x hx => by simp at hx; subst hx; exact h
theorem a8G (l : List Int) (h : l.all (fun k => k == 0 || k == 1) = true) : K01 l := fun k hk => by
 have := List.all_eq_true.1 h k hk
 simpa using this
theorem b3D {i : Instr} (h : a1f i = true) : 1 <= i.Op /\ i.Op <= 32 := by
 have h0 := (a2n h).2.2
 unfold y9 at h0
 by_cases h1 : i.Op = 1
 ·omega
 by_cases h2 : i.Op = 2 \/ i.Op = 3 \/ i.Op = 4 \/ i.Op = 23 \/ i.Op = 25
 ·omega
 by_cases h3 : i.Op = 21 \/ i.Op = 22
 ·omega
 rw [if_neg h1, if_neg h2, if_neg h3] at h0
 split at h0 <;> omega

theorem b3E (p : Program) (f : Func) (h : FOk p f) (hK : ∀ g ∈ p.Funcs, K01 g.Locals) (hf : K01 f.Locals) {a : Nat} {i : Instr} (hi : f.Code[a]? = some i) (s : List Int) (hs : s.length <= 10000) (ks : K01 s) :
  windlassref05_After_s p f i (a0F s) = some (stK (a1v p f i s)) := by
 have hn := h.name hi
 have ha := h.arg hi
 have ho := b3D (a2o h.fp i (List.mem_of_getElem? hi))
 unfold windlassref05_After_s
 refine jp_gen (fun K => ∀ t l : List Int, t.length <= 1000 -> l.length <= 1000 -> K01 t -> K (a0F s, a0F t, a0F l) = some (b3B t l s)) (fun t l h1 h2 h3 => c2o zO zO zO ks h3) (fun K hk => ?_)
 simp only [jp]
 have fin : ∀ {t l : List Int}, t.length <= 1000 -> l.length <= 1000 -> K01 t -> i.Op ≠ 24 -> eff p f i (a1P s) = (t, l) -> K (a0F s, a0F t, a0F l) = some (stK (a1v p f i s)) := fun a b c d e => by
  rw [hk _ _ a b c, b3C d e]
 have len1 : ∀ {k : Int}, [k].length <= 1000 := by simp
 by_cases h1 : i.Op = 1
 ·simp only [h1]
  exact fin (t := []) (l := [0]) zS len1 a0q zO (by simp [eff, h1])
 by_cases h28 : i.Op = 28
 ·simp only [h28]
  exact fin (t := []) (l := [0]) zS len1 a0q zO (by simp [eff, h28])
 have n1 : (i.Op == 1) = false := by simpa using h1
 have n28 : (i.Op == 28) = false := by simpa using h28
 simp only [n1, n28, Bool.false_eq_true, if_false]
 have hloc : ∀ (_ : i.Op = 2 \/ i.Op = 3), ∃ k, j9 f.Locals i.Arg = some k /\ a9l f i = [k] /\ (k = 0 \/ k = 1) := fun h2 => by
  unfold a2I at hn
  rw [if_pos h2] at hn
  simp only [decide_eq_true_eq] at hn
  have hlt : i.Arg.toNat < f.Locals.length := by omega
  refine ⟨f.Locals[i.Arg.toNat], a1W ha.1 hlt, ?_, hf _ (List.getElem_mem hlt)⟩
  unfold a9l; rw [List.getElem?_eq_getElem hlt]; rfl
 by_cases h2 : i.Op = 2
 ·obtain ⟨k, k1, k2, k3⟩ := hloc (.inl h2)
  have n2 : (i.Op == 2) = true := by simpa using h2
  rw [if_pos n2, k1]
  simp only [Option.bind_some]
  rw [a5K]
  exact fin (t := []) (l := [k]) zS len1 a0q zO (by rw [<- k2]; simp [eff, h2])
 have n2 : (i.Op == 2) = false := by simpa using h2
 simp only [n2, Bool.false_eq_true, if_false]
 by_cases h3 : i.Op = 3
 ·obtain ⟨k, k1, k2, k3⟩ := hloc (.inr h3)
  have n3 : (i.Op == 3) = true := by simpa using h3
  rw [if_pos n3, k1]
  simp only [Option.bind_some]
  rw [a5K]
  exact fin (t := [k]) (l := []) len1 zS (a0r k3) zO (by rw [<- k2]; simp [eff, h3])
 have n3 : (i.Op == 3) = false := by simpa using h3
 simp only [n3, Bool.false_eq_true, if_false]
 by_cases h4 : i.Op = 4
 ·simp only [h4]
  exact fin (t := []) (l := [1]) zS len1 a0q zO (by simp [eff, h4])
 have n4 : (i.Op == 4) = false := by simpa using h4
 simp only [n4, Bool.false_eq_true, if_false]
 by_cases h5 : i.Op = 5
 ·simp only [h5]
  exact fin (t := [1]) (l := [0]) len1 len1 (a0r (.inr rfl)) zO (by simp [eff, h5])
 have n5 : (i.Op == 5) = false := by simpa using h5
 simp only [n5, Bool.false_eq_true, if_false]
 by_cases h6 : i.Op = 6
 ·simp only [h6]
  exact fin (t := [1, 0]) (l := []) zS zS (a8G _ rfl) zO (by simp [eff, h6])
 have n6 : (i.Op == 6) = false := by simpa using h6
 simp only [n6, Bool.false_eq_true, if_false]
 by_cases h7 : 7 <= i.Op /\ i.Op <= 20
 ·rw [if_pos (by simpa using h7.1), if_pos (by simpa using h7.2)]
  refine fin (t := [0, 0]) (l := [0]) zS len1 (a8G _ rfl) zO ?_
  unfold eff
  rw [if_neg zO, if_neg zO, if_neg zO, if_neg zO, if_neg zO, if_neg zO, if_neg zO, if_neg zO, if_neg zO, if_neg zO, if_neg zO, if_neg zO, if_neg zO]
 have hgt : i.Op >= 21 := by omega
 have d7 : decide (i.Op >= 7) = true := by simp; omega
 have d20 : decide (i.Op <= 20) = false := by simp; omega
 simp only [d7, d20, if_true, Bool.false_eq_true, if_false]
 by_cases h21 : i.Op = 21
 ·simp only [h21]
  exact fin (t := []) (l := []) zS zS a0q zO (by simp [eff, h21])
 have n21 : (i.Op == 21) = false := by simpa using h21
 simp only [n21, Bool.false_eq_true, if_false]
 by_cases h22 : i.Op = 22
 ·simp only [h22]
  exact fin (t := [0]) (l := []) len1 zS (a0r (.inl rfl)) zO (by simp [eff, h22])
 by_cases h26 : i.Op = 26
 ·simp only [h26]
  exact fin (t := [0]) (l := []) len1 zS (a0r (.inl rfl)) zO (by simp [eff, h26])
 by_cases h29 : i.Op = 29
 ·simp only [h29]
  exact fin (t := [0]) (l := []) len1 zS (a0r (.inl rfl)) zO (by simp [eff, h29])
 by_cases h30 : i.Op = 30
 ·simp only [h30]
  exact fin (t := [0]) (l := []) len1 zS (a0r (.inl rfl)) zO (by simp [eff, h30])
 have n22 : (i.Op == 22) = false := by simpa using h22
 have n26 : (i.Op == 26) = false := by simpa using h26
 have n29 : (i.Op == 29) = false := by simpa using h29
 have n30 : (i.Op == 30) = false := by simpa using h30
 simp only [n22, n26, n29, n30, Bool.false_eq_true, if_false]
 by_cases hc : i.Op = 23 \/ i.Op = 25
 ·have hlt : i.Arg.toNat < p.Funcs.length := by
   unfold a2I at hn
   rw [if_neg zO, if_neg zO, if_pos hc] at hn
   simp only [decide_eq_true_eq] at hn
   omega
  have hg := a1x (h.ps _ (List.getElem_mem hlt))
  have kg := hK _ (List.getElem_mem hlt)
  have hsub : a4a (p.Funcs[i.Arg.toNat]).Locals 0 (p.Funcs[i.Arg.toNat]).Params = some ((p.Funcs[i.Arg.toNat]).Locals.take (p.Funcs[i.Arg.toNat]).Params.toNat) := by
   unfold a4a
   rw [if_pos zO]
   simp
  have kt : K01 ((p.Funcs[i.Arg.toNat]).Locals.take (p.Funcs[i.Arg.toNat]).Params.toNat) := fun k hk => kg k (List.mem_of_mem_take hk)
  have hlt2 : ((p.Funcs[i.Arg.toNat]).Locals.take (p.Funcs[i.Arg.toNat]).Params.toNat).length <= 255 := by simp; omega
  have he : ∀ l, (if i.Op = 23 /\ (p.Funcs[i.Arg.toNat]).Result = true then [0] else []) = l -> eff p f i (a1P s) = ((p.Funcs[i.Arg.toNat]).Locals.take (p.Funcs[i.Arg.toNat]).Params.toNat, l) := fun l hl => by
   unfold eff
   rw [if_neg zO, if_neg zO, if_neg zO, if_neg zO, if_neg zO, if_neg zO, if_neg zO, if_neg zO, if_pos hc, List.getElem?_eq_getElem hlt]
   simp only
   rw [hl]
  rcases hc with h23 | h25
  ·have n23 : (i.Op == 23) = true := by simpa using h23
   simp only [n23, if_true]
   rw [a1W ha.1 hlt]
   simp only [Option.bind_some, hsub]
   rw [a6x _ zO]
   simp only [Option.bind_some]
   cases hr : (p.Funcs[i.Arg.toNat]).Result with
   | true => exact fin (l := [0]) zO len1 kt zO (he [0] (by rw [hr]; simp [h23]))
   | false => exact fin (l := []) zO zS kt zO (he [] (by rw [hr]; simp))
  ·have n23 : (i.Op == 23) = false := by rw [h25]; rfl
   have n25 : (i.Op == 25) = true := by simpa using h25
   simp only [n23, n25, if_true, Bool.false_eq_true, if_false]
   rw [a1W ha.1 hlt]
   simp only [Option.bind_some, hsub]
   rw [a6x _ zO]
   simp only [Option.bind_some]
   exact fin (l := []) zO zS kt zO (he [] (by simp [h25]))
 have n23 : (i.Op == 23) = false := by simp; omega
 have n25 : (i.Op == 25) = false := by simp; omega
 simp only [n23, n25, Bool.false_eq_true, if_false]
 by_cases h24 : i.Op = 24
 ·have n24 : (i.Op == 24) = true := by simpa using h24
  simp only [n24, if_true]
  have ret : ∀ t : List Int, t.length <= 1 -> K01 t -> eff p f i (a1P s) = (t, []) -> (if (!(ByteArray.toList (a0F s) == ByteArray.toList (a0F t))) = true then some (ByteArray.mk #[33]) else K (a0F s, a0F t, ByteArray.mk #[])) = some (stK (a1v p f i s)) := by
   intro t ht kt he
   rw [eqS]
   unfold a1v
   simp only [he]
   by_cases e : s = t
   ·subst e
    rw [decide_eq_true rfl]
    simp only [Bool.not_true, Bool.false_eq_true, if_false]
    have := hk s [] zO zS kt
    have hz : b3B s [] s = a0F [] := by unfold b3B; rw [if_pos ⟨Nat.le_refl _, by simp⟩]; simp
    rw [hz] at this
    rw [if_pos ⟨Nat.le_refl _, by simp, by simp⟩]
    simp only [Nat.sub_self, List.take_zero, List.append_nil]
    exact this
   ·rw [decide_eq_false (fun hh => e ((a7d ks kt).1 hh))]
    have : ¬ (t.length <= s.length /\ s.drop (s.length - t.length) = t /\ ¬ (i.Op = 24 /\ t.length < s.length)) := by
     rintro ⟨q1, q2, q3⟩
     have : s.length = t.length := by
      rcases Nat.lt_or_ge t.length s.length with q | q
      ·exact (q3 ⟨h24, q⟩).elim
      ·omega
     rw [this, Nat.sub_self, List.drop_zero] at q2
     exact e q2
    rw [if_neg this]; rfl
  cases hr : f.Result with
  | true => exact ret [0] zS (a0r (.inl rfl)) (by simp [eff, h24, hr])
  | false => exact ret [] zS a0q (by simp [eff, h24, hr])
 have n24 : (i.Op == 24) = false := by simpa using h24
 simp only [n24, Bool.false_eq_true, if_false]
 by_cases h27 : i.Op = 27
 ·simp only [h27]
  exact fin (t := []) (l := [0, 0]) zS zS a0q zO (by simp [eff, h27])
 have n27 : (i.Op == 27) = false := by simpa using h27
 simp only [n27, Bool.false_eq_true, if_false]
 have h3132 : i.Op = 31 \/ i.Op = 32 := by omega
 have heff : eff p f i (a1P s) = ([a1P s], if i.Op = 32 then [a1P s, a1P s] else []) := by
  unfold eff
  rw [if_neg zO, if_neg zO, if_neg zO, if_neg zO, if_neg zO, if_neg zO, if_neg zO, if_neg zO, if_neg zO, if_neg zO, if_neg zO]
  rcases h3132 with e | e <;> simp [e]
 rw [eqS]
 by_cases hs0 : s = []
 ·subst hs0
  have : decide (a0F [] = ByteArray.mk #[]) = true := decide_eq_true rfl
  rw [if_pos this]
  unfold a1v
  simp only [heff]
  rw [if_neg zS]; rfl
 ·obtain ⟨x, r, rfl⟩ := List.exists_cons_of_ne_nil hs0
  have hne : decide (a0F (x :: r) = ByteArray.mk #[]) = false := decide_eq_false (fun hh => by
   have := congrArg ByteArray.size hh
   rw [a1h] at this
   simp [ByteArray.size] at this)
  rw [hne]
  simp only [Bool.false_eq_true, if_false]
  have htop : (x :: r).drop r.length = [a1P (x :: r)] := by
   unfold a1P
   rw [List.drop_eq_getElem_cons zS, List.drop_eq_nil_of_le zS, List.getLast?_eq_getElem?]
   simp
  have kt : a1P (x :: r) = 0 \/ a1P (x :: r) = 1 := ks _ (List.mem_of_mem_drop (by rw [htop]; simp))
  rw [a1h, a1H (by simp only [List.length_cons] at hs ⊢; omega), c4G (x :: r) _ _ (by simp only [List.length_cons]; omega)]
  rw [show (((x :: r).length : Int)).toNat = (x :: r).length by omega, List.take_length, show (((x :: r).length : Int) - 1).toNat = r.length by simp only [List.length_cons]; omega, htop]
  simp only [Option.bind_some]
  rcases h3132 with e | e
  ·have n32 : (i.Op == 32) = false := by rw [e]; rfl
   simp only [n32, Bool.false_eq_true, if_false]
   exact fin (t := [a1P (x :: r)]) (l := []) len1 zS (a0r kt) zO (by rw [heff, e]; rfl)
  ·have n32 : (i.Op == 32) = true := by rw [e]; rfl
   simp only [n32, if_true]
   rw [c4F _ _ zS]
   exact fin (t := [a1P (x :: r)]) (l := [a1P (x :: r), a1P (x :: r)]) len1 zS (a0r kt) zO (by rw [heff, e]; rfl)

theorem b6u (i : Instr) (a b : Nat) (ha : a <= 100000) : p4 i a b = some (decide ((b : Int) ∈ a5Z i a)) := by
 unfold p4 a5Z
 rw [a1H zO]
 simp only [jp]
 by_cases h21 : i.Op = 21
 ·simp [h21]
  rw [Bool.eq_iff_iff]; simp
 have n21 : (i.Op == 21) = false := by simpa using h21
 by_cases h22 : i.Op = 22
 ·simp only [h22]
  by_cases h1 : (b : Int) = a + 1
  ·simp [h1]
  ·simp [h1]
   rw [Bool.eq_iff_iff]; simp
 have n22 : (i.Op == 22) = false := by simpa using h22
 by_cases h24 : i.Op = 24
 ·simp [h24]
 by_cases h26 : i.Op = 26
 ·simp [h26]
 by_cases h30 : i.Op = 30
 ·simp [h30]
 have n24 : (i.Op == 24) = false := by simpa using h24
 have n26 : (i.Op == 26) = false := by simpa using h26
 have n30 : (i.Op == 30) = false := by simpa using h30
 simp [n21, n22, n24, n26, n30, h21, h22, h24, h26, h30]
 rw [Bool.eq_iff_iff]; simp
abbrev OS := Option (List Int)
def qK : OS -> ByteArray
 | some x => a0F x
 | none => a9T
def nn (A : List OS) : Nat := A.countP (·.isNone)
theorem b4h {A : List OS} {m : Nat} {x : List Int} (h : A[m]? = some none) : nn (A.set m (some x)) + 1 = nn A := by
 unfold nn
 induction A generalizing m with
 | nil => simp at h
 | cons y r ih =>
   cases m with
   | zero => simp at h; subst h; simp
   | succ m =>
     have := ih (m := m) (by simpa using h)
     simp only [List.set_cons_succ, List.countP_cons]
     omega
theorem K01.locals {p : Program} {f : Func} (h : FOk p f) (hK : ∀ g ∈ p.Funcs, K01 g.Locals) (hf : K01 f.Locals) {i : Instr} {s s' : List Int} (ks : K01 s) (hs : a1v p f i s = some s') : K01 s' := by
 have kt : a1P s = 0 \/ a1P s = 1 := by
  unfold a1P
  cases e : s.getLast? with
  | none => exact .inl rfl
  | some k => exact ks k (List.mem_of_getLast? e)
 have ke : K01 (eff p f i (a1P s)).2 := by
  have l1 : ∀ {k : Int}, (k = 0 \/ k = 1) -> K01 [k] := a0r
  have lk : K01 (a9l f i) := by
   unfold a9l
   apply a0r
   cases e : f.Locals[i.Arg.toNat]? with
   | none => exact .inl rfl
   | some k => exact hf k (List.mem_of_getElem? e)
  have ki : ∀ {c : Prop} [Decidable c], K01 (if c then [(0 : Int)] else []) := fun {c} _ => by
   split
   ·exact a0r (.inl rfl)
   ·exact a0q
  unfold eff
  by_cases h0 : i.Op = 1 \/ i.Op = 28
  ·rw [if_pos h0]; exact a0r (.inl rfl)
  rw [if_neg h0]
  by_cases h1 : i.Op = 2
  ·rw [if_pos h1]; exact lk
  rw [if_neg h1]
  by_cases h2 : i.Op = 3
  ·rw [if_pos h2]; exact a0q
  rw [if_neg h2]
  by_cases h3 : i.Op = 4
  ·rw [if_pos h3]; exact a0r (.inr rfl)
  rw [if_neg h3]
  by_cases h4 : i.Op = 5
  ·rw [if_pos h4]; exact a0r (.inl rfl)
  rw [if_neg h4]
  by_cases h5 : i.Op = 6
  ·rw [if_pos h5]; exact a0q
  rw [if_neg h5]
  by_cases h6 : i.Op = 21
  ·rw [if_pos h6]; exact a0q
  rw [if_neg h6]
  by_cases h7 : i.Op = 22 \/ i.Op = 26 \/ i.Op = 29 \/ i.Op = 30
  ·rw [if_pos h7]; exact a0q
  rw [if_neg h7]
  by_cases h8 : i.Op = 23 \/ i.Op = 25
  ·rw [if_pos h8]
   cases e : p.Funcs[i.Arg.toNat]? with
   | none => exact a0q
   | some g => exact ki
  rw [if_neg h8]
  by_cases h9 : i.Op = 24
  ·rw [if_pos h9]; exact a0q
  rw [if_neg h9]
  by_cases h10 : i.Op = 27
  ·rw [if_pos h10]; exact a8G _ rfl
  rw [if_neg h10]
  by_cases h11 : i.Op = 31
  ·rw [if_pos h11]; exact a0q
  rw [if_neg h11]
  by_cases h12 : i.Op = 32
  ·rw [if_pos h12]
   intro k hk
   simp only [List.mem_cons, List.not_mem_nil, or_false, or_self] at hk
   rw [hk]; exact kt
  rw [if_neg h12]
  exact a0r (.inl rfl)
 unfold a1v at hs
 simp only at hs
 split at hs
 ·cases hs
  intro k hk
  rcases List.mem_append.1 hk with hk | hk
  ·exact ks k (List.mem_of_mem_take hk)
  ·exact ke k hk
 ·cases hs
theorem Der.k01 {p : Program} {f : Func} (h : FOk p f) (hK : ∀ g ∈ p.Funcs, K01 g.Locals) (hf : K01 f.Locals) {a : Nat} {x : List Int} (d : Der p f a x) : K01 x := by
 induction d with
 | start => exact a0q
 | go _ _ hs _ ih => exact K01.locals h hK hf ih hs
theorem c2p {p : Program} {f : Func} (h : FOk p f) {a : Nat} {i : Instr} (hi : f.Code[a]? = some i) {b : Int} (hb : b ∈ a5Z i a) : 0 <= b /\ b <= f.Code.length := by
 have h0 := h.fol hi b hb
 refine ⟨h0, ?_⟩
 have hlt := (List.getElem?_eq_some_iff.1 hi).1
 have hn := h.name hi
 have harg : i.Op = 21 \/ i.Op = 22 -> i.Arg < f.Code.length := fun e => by
  unfold a2I at hn
  rw [if_neg zO, if_neg zO, if_neg zO, if_pos e] at hn
  simpa using hn
 unfold a5Z at hb
 split at hb
 ·rename_i e; simp at hb; have := harg (.inl e); omega
 ·split at hb
  ·rename_i e
   simp at hb
   have := harg (.inr e)
   omega
  ·split at hb
   ·simp at hb
   ·simp at hb; omega

structure c6e (p : Program) (f : Func) (A0 : List OS) (x' : List Int) (fol : List Int) (mr : Bool) (b : Nat) (A : List OS) (mr' : Bool) : Prop where
 la : A.length = f.Code.length
 mono : ∀ (m : Nat) y, A0[m]? = some (some y) -> A[m]? = some (some y)
 new : ∀ (m : Nat) y, A[m]? = some (some y) -> A0[m]? = some (some y) \/ (y = x' /\ Der p f m x')
 ch : (A = A0 /\ mr' = mr) \/ (mr' = true /\ nn A < nn A0)
 got : ∀ b' : Nat, b' < b -> (b' : Int) ∈ fol -> b' < f.Code.length /\ A[b']? = some (some x')

theorem c2q {ρ : Type} (E : ρ) (p : Program) (f : Func) (h : FOk p f) (hK : ∀ g ∈ p.Funcs, K01 g.Locals) (hf : K01 f.Locals) {a : Nat} {i : Instr} (hi : f.Code[a]? = some i) {x x' : List Int} (hd : Der p f a x) (hs : a1v p f i x = some x')
  {A0 : List OS} (hla : A0.length = f.Code.length) (hder : ∀ (m : Nat) y, A0[m]? = some (some y) -> Der p f m y) (mr : Bool) :
  ∃ o, a0t (fun (s_17 : (Bool × Int × (List ByteArray))) => ((if (decide (s_17.2.1 <= (List.length f.Code : Int))) then (jp (fun (s_19 : (Bool × (List ByteArray))) => (some (.nxt (s_19.1, (I64 (s_17.2.1 + 1)), s_19.2)))) (fun k_18 => ((j9 f.Code (a : Int)).bind fun y_20 => ((p4 y_20 (a : Int) s_17.2.1).bind fun nex_21 => (if (!nex_21) then (k_18 (s_17.1, s_17.2.2)) else (if (s_17.2.1 == (List.length f.Code : Int)) then (some (.ret E)) else ((j9 s_17.2.2 s_17.2.1).bind fun y_22 => (jp (fun (s_24 : (Bool × (List ByteArray))) => ((j9 s_24.2 s_17.2.1).bind fun y_27 => (if (!(ByteArray.toList y_27 == ByteArray.toList (a0F x'))) then (some (.ret E)) else (k_18 (s_24.1, s_24.2))))) (fun k_23 => (if (ByteArray.toList y_22 == ByteArray.toList (ByteArray.mk #[63])) then ((j9 s_17.2.2 s_17.2.1).bind fun y_25 => (k_23 (true, (List.set s_17.2.2 (Int.toNat s_17.2.1) (a0F x'))))) else (k_23 (s_17.1, s_17.2.2)))))))))))) else (some (.brk (s_17.1, s_17.2.1, s_17.2.2)))) : Option (Stp (Bool × Int × (List ByteArray)) ρ))) 1048577 (mr, 0, A0.map qK) = some o /\
   ((∃ A mr' b, o = .fin (mr', b, A.map qK) /\ c6e p f A0 x' (a5Z i a) mr (f.Code.length + 1) A mr') \/ (o = .ret E /\ Bad p f)) := by
 obtain ⟨hn1, hn2⟩ := h.n
 have halt := (List.getElem?_eq_some_iff.1 hi).1
 have kx' := Der.k01 h hK hf hd
 have kx2 : K01 x' := K01.locals h hK hf kx' hs
 refine whileN_ex (fun s => ∃ (b : Nat) (A : List OS), b <= f.Code.length + 1 /\ s.2.1 = ((b : Nat) : Int) /\ s.2.2 = A.map qK /\ c6e p f A0 x' (a5Z i a) mr b A s.1) (fun s => f.Code.length + 1 - s.2.1.toNat) _ ?_ 1048577 _ ?_ (by simp only; omega)
 ·rintro ⟨m1, b1, at1⟩ ⟨b, A, hb, e1, e2, hA⟩
  simp only at e1 e2
  subst e1; subst e2
  simp only at hA
  by_cases hbe : b = f.Code.length + 1
  ·right; left
   subst hbe
   refine ⟨_, by rw [if_neg zE], .inl ⟨A, m1, _, rfl, hA⟩⟩
  have hbl : b <= f.Code.length := by omega
  dsimp only
  rw [if_pos zE]
  simp only [jp]
  rw [r5, hi]
  simp only [Option.bind_some]
  rw [b6u i a b zO]
  simp only [Option.bind_some]
  have hI : I64 ((b : Int) + 1) = ((b + 1 : Nat) : Int) := by rw [a1H zO]; omega
  by_cases hm : (b : Int) ∈ a5Z i a
  ·rw [decide_eq_true hm]
   simp only [Bool.not_true, Bool.false_eq_true, if_false]
   have hdb : Der p f b x' := .go hd hi hs hm
   by_cases hbn : b = f.Code.length
   ·right; right
    have : ((b : Int) == (List.length f.Code : Int)) = true := by simp [hbn]
    rw [if_pos this]
    exact ⟨_, rfl, .inr ⟨rfl, .inl ⟨a, x, i, hd, hi, .inr ⟨b, hm, by omega⟩⟩⟩⟩
   have hblt : b < f.Code.length := by omega
   have n1 : ((b : Int) == (List.length f.Code : Int)) = false := by simp; omega
   simp only [n1, Bool.false_eq_true, if_false]
   have hAb : A[b]? = some (A[b]'(by rw [hA.la]; exact hblt)) := List.getElem?_eq_getElem _
   generalize A[b]'(by rw [hA.la]; exact hblt) = ob at hAb
   have hmb : (A.map qK)[b]? = some (qK ob) := by rw [List.getElem?_map, hAb]; rfl
   rw [r5, hmb]
   simp only [Option.bind_some]
   rw [eqS]
   cases ob with
   | none =>
     left
     have e0 : decide (qK none = ByteArray.mk #[63]) = true := decide_eq_true rfl
     rw [if_pos e0]
     have hset : (A.map qK).set b (a0F x') = (A.set b (some x')).map qK := by rw [List.map_set]; rfl
     simp only [Int.toNat_natCast]
     rw [hset]
     have hgs : ((A.set b (some x')).map qK)[b]? = some (a0F x') := by
      rw [List.getElem?_map, List.getElem?_set_self (by rw [hA.la]; exact hblt)]; rfl
     rw [r5, hgs]
     simp only [Option.bind_some]
     rw [eqS, decide_eq_true rfl]
     simp only [Bool.not_true, Bool.false_eq_true, if_false]
     refine ⟨_, rfl, ⟨b + 1, A.set b (some x'), by omega, hI, rfl, ?_⟩, by rw [hI]; simp only [Int.toNat_natCast]; omega⟩
     have hnn := b4h (x := x') hAb
     have hA0b : A0[b]? = some none := by
      have e1 : A0[b]? = some (A0[b]'(by rw [hla]; exact hblt)) := List.getElem?_eq_getElem _
      cases e2 : A0[b]'(by rw [hla]; exact hblt) with
      | none => rw [e1, e2]
      | some y =>
        rw [e2] at e1
        have := hA.mono b y e1
        rw [hAb] at this; cases this
     refine ⟨by simp [hA.la], fun m y hy => ?_, fun m y hy => ?_, .inr ⟨rfl, ?_⟩, fun b' hb' hbf => ?_⟩
     ·have hne : m ≠ b := by rintro rfl; rw [hA0b] at hy; cases hy
      rw [List.getElem?_set_ne (Ne.symm hne)]; exact hA.mono m y hy
     ·by_cases e : m = b
      ·subst e
       rw [List.getElem?_set_self (by rw [hA.la]; exact hblt)] at hy
       cases hy
       exact .inr ⟨rfl, hdb⟩
      ·rw [List.getElem?_set_ne (Ne.symm e)] at hy
       exact hA.new m y hy
     ·rcases hA.ch with ⟨e, _⟩ | ⟨_, e⟩
      ·show nn (A.set b (some x')) < nn A0
       rw [<- e]; omega
      ·omega
     ·by_cases e : b' = b
      ·subst e
       exact ⟨hblt, by rw [List.getElem?_set_self (by rw [hA.la]; exact hblt)]⟩
      ·obtain ⟨g1, g2⟩ := hA.got b' zO hbf
       exact ⟨g1, by rw [List.getElem?_set_ne (Ne.symm e)]; exact g2⟩
   | some y =>
     have e0 : decide (qK (some y) = ByteArray.mk #[63]) = false := decide_eq_false (a4z y)
     rw [e0]
     simp only [Bool.false_eq_true, if_false, Option.bind_some]
     rw [eqS]
     have dy : Der p f b y := by
      rcases hA.new b y hAb with e | ⟨rfl, e⟩
      ·exact hder b y e
      ·exact e
     have ky : K01 y := Der.k01 h hK hf dy
     by_cases e : y = x'
     ·left
      have : decide (qK (some y) = a0F x') = true := decide_eq_true (by rw [e]; rfl)
      rw [this]
      simp only [Bool.not_true, Bool.false_eq_true, if_false]
      refine ⟨_, rfl, ⟨b + 1, A, by omega, hI, rfl, hA.la, hA.mono, hA.new, hA.ch, fun b' hb' hbf => ?_⟩, by rw [hI]; simp only [Int.toNat_natCast]; omega⟩
      by_cases e2 : b' = b
      ·subst e2; exact ⟨hblt, by rw [hAb, e]⟩
      ·exact hA.got b' zO hbf
     ·right; right
      have : decide (qK (some y) = a0F x') = false := decide_eq_false (fun hh => e ((a7d ky kx2).1 hh))
      rw [this]
      exact ⟨_, rfl, .inr ⟨rfl, .inr ⟨b, y, x', dy, hdb, e⟩⟩⟩
  ·left
   rw [decide_eq_false hm]
   simp only [Bool.not_false, if_true]
   refine ⟨_, rfl, ⟨b + 1, A, by omega, hI, rfl, hA.la, hA.mono, hA.new, hA.ch, fun b' hb' hbf => ?_⟩, by rw [hI]; simp only [Int.toNat_natCast]; omega⟩
   by_cases e2 : b' = b
   ·subst e2; exact (hm hbf).elim
   ·exact hA.got b' zO hbf
 ·exact ⟨0, A0, by omega, rfl, rfl, hla, fun m y hy => hy, fun m y hy => .inl hy, .inl ⟨rfl, rfl⟩, fun b' hb' => by omega⟩
def b3F (p : Program) (f : Func) (dp : Bool) (A : List OS) (a : Nat) (x : List Int) : Prop :=
 ∃ i x', f.Code[a]? = some i /\ a1v p f i x = some x' /\ (16 < x'.length -> dp = true) /\ ∀ b ∈ a5Z i a, ∃ m : Nat, b = m /\ m < f.Code.length /\ A[m]? = some (some x')
structure b6W (p : Program) (f : Func) (dp : Bool) (A : List OS) : Prop where
 la : A.length = f.Code.length
 z : A[0]? = some (some [])
 der : ∀ (m : Nat) y, A[m]? = some (some y) -> Der p f m y /\ y.length + 2 * nn A <= 2 * f.Code.length
 dpD : dp = true -> Deep p f
def qn (l : List ByteArray) : Nat := l.countP (fun b => decide (b = a9T))
theorem b4i (A : List OS) : qn (A.map qK) = nn A := by
 unfold qn nn
 rw [List.countP_map]
 congr 1
 funext o
 cases o with
 | none => rfl
 | some x => simp only [Function.comp, Option.isNone_some]; exact decide_eq_false (a4z x)
def c6f (p : Program) (f : Func) (o : List ByteArray × Bool × Bool) : Prop :=
 (Bad p f /\ o = ([], false, false)) \/ ∃ R, Sol p f R /\ o.2.2 = true /\ (o.2.1 = true ↔ Deep p f) /\ o.1.length = f.Code.length /\ ∀ a, a < f.Code.length -> o.1[a]? = some (qK (R a))
theorem b6W.ans {p f dp A} (h : b6W p f dp A) (hd : ∀ a, a < f.Code.length -> ∀ x, A[a]? = some (some x) -> b3F p f dp A a x) : c6f p f (A.map qK, dp, true) := by
 right
 let R : Nat -> Option (List Int) := fun a => match A[a]? with | some o => o | none => none
 have hRs : ∀ a x, R a = some x ↔ A[a]? = some (some x) := fun a x => by
  simp only [R]
  cases e : A[a]? with
  | none => simp
  | some o => simp
 have hR : Sol p f R := by
  refine ⟨(hRs 0 []).2 h.z, fun a x hx => ?_⟩
  have hx' := (hRs a x).1 hx
  have halt : a < f.Code.length := by rw [<- h.la]; exact (List.getElem?_eq_some_iff.1 hx').1
  obtain ⟨i, x', d1, d2, _, d4⟩ := hd a halt x hx'
  refine ⟨(h.der a x hx').1, i, x', d1, d2, fun b hb => ?_⟩
  obtain ⟨m, m1, m2, m3⟩ := d4 b hb
  exact ⟨m, m1, m2, (hRs m x').2 m3⟩
 refine ⟨R, hR, rfl, ⟨h.dpD, fun ⟨a, x, i, x', d, hi, hs, hl⟩ => ?_⟩, by simp [h.la], fun a ha => ?_⟩
 ·have e := (hRs a x).1 (hR.all d)
  obtain ⟨i2, x2, d1, d2, d3, _⟩ := hd a (by rw [<- h.la]; exact (List.getElem?_eq_some_iff.1 e).1) x e
  rw [hi] at d1; cases d1
  rw [hs] at d2; cases d2
  exact d3 hl
 ·have e : A[a]? = some (A[a]'(by rw [h.la]; exact ha)) := List.getElem?_eq_getElem _
  show (A.map qK)[a]? = some (qK (R a))
  simp only [R]
  rw [List.getElem?_map, e]; rfl

def b3G (p : Program) (f : Func) : Nat -> (Bool × Bool × (List ByteArray)) -> Option (Stp (Bool × Bool × (List ByteArray)) (Option (Stp (Bool × Bool × (List ByteArray)) (Option ((List ByteArray) × Bool × Bool))))) :=
 fun (i_10 : Nat) (s_9 : (Bool × Bool × (List ByteArray))) => (((j9 s_9.2.2 (i_10 : Int)).bind fun y_11 => (if (ByteArray.toList y_11 == ByteArray.toList (ByteArray.mk #[63])) then (some (.nxt (s_9.1, s_9.2.1, s_9.2.2))) else ((j9 f.Code (i_10 : Int)).bind fun y_12 => ((j9 s_9.2.2 (i_10 : Int)).bind fun y_13 => ((windlassref05_After_s p f y_12 y_13).bind fun aft_14 => (if (ByteArray.toList aft_14 == ByteArray.toList (ByteArray.mk #[33])) then (some (.ret (some (.ret (some ([], false, false)))))) else (jp (fun (s_16 : Bool) => ((a0t (fun (s_17 : (Bool × Int × (List ByteArray))) => ((if (decide (s_17.2.1 <= (List.length f.Code : Int))) then (jp (fun (s_19 : (Bool × (List ByteArray))) => (some (.nxt (s_19.1, (I64 (s_17.2.1 + 1)), s_19.2)))) (fun k_18 => ((j9 f.Code (i_10 : Int)).bind fun y_20 => ((p4 y_20 (i_10 : Int) s_17.2.1).bind fun nex_21 => (if (!nex_21) then (k_18 (s_17.1, s_17.2.2)) else (if (s_17.2.1 == (List.length f.Code : Int)) then (some (.ret (some (.ret (some (.ret (some ([], false, false)))))))) else ((j9 s_17.2.2 s_17.2.1).bind fun y_22 => (jp (fun (s_24 : (Bool × (List ByteArray))) => ((j9 s_24.2 s_17.2.1).bind fun y_27 => (if (!(ByteArray.toList y_27 == ByteArray.toList aft_14)) then (some (.ret (some (.ret (some (.ret (some ([], false, false)))))))) else (k_18 (s_24.1, s_24.2))))) (fun k_23 => (if (ByteArray.toList y_22 == ByteArray.toList (ByteArray.mk #[63])) then ((j9 s_17.2.2 s_17.2.1).bind fun y_25 => (k_23 (true, (List.set s_17.2.2 (Int.toNat s_17.2.1) aft_14)))) else (k_23 (s_17.1, s_17.2.2)))))))))))) else (some (.brk (s_17.1, s_17.2.1, s_17.2.2)))) : Option (Stp (Bool × Int × (List ByteArray)) (Option (Stp (Bool × Bool × (List ByteArray)) (Option (Stp (Bool × Bool × (List ByteArray)) (Option ((List ByteArray) × Bool × Bool))))))))) 1048577 (s_9.2.1, 0, s_9.2.2)).bind (oc (fun (s_17 : (Bool × Int × (List ByteArray))) => (some (.nxt (s_16, s_17.1, s_17.2.2))))))) (fun k_15 => (if s_9.1 then (k_15 true) else (k_15 (decide ((ByteArray.size aft_14 : Int) > 16)))))))))))) : Option (Stp (Bool × Bool × (List ByteArray)) (Option (Stp (Bool × Bool × (List ByteArray)) (Option ((List ByteArray) × Bool × Bool))))))
theorem b2d (p : Program) (f : Func) (h : FOk p f) (hK : ∀ g ∈ p.Funcs, K01 g.Locals) (hf : K01 f.Locals) : ∃ o, t4 1048577 p f = some o /\ c6f p f o := by
 obtain ⟨hn1, hn2⟩ := h.n
 unfold t4
 have mk1 : mkL 16 (List.length f.Code : Int) (List.length f.Code : Int) (ByteArray.mk #[]) = some (List.replicate f.Code.length (ByteArray.mk #[])) := by
  unfold mkL; rw [if_pos zO]; simp
 rw [mk1]
 simp only [Option.bind_some]
 have L := rni_inv (σ := List ByteArray) (ρ := Option (List ByteArray × Bool × Bool)) (n := (List.length (List.replicate f.Code.length (ByteArray.mk #[])) : Int)) (s0 := List.replicate f.Code.length (ByteArray.mk #[])) (fun i s => s.length = f.Code.length /\ ∀ k, k < i -> s[k]? = some a9T)
  (body := fun (i_3 : Nat) (s_2 : (List ByteArray)) => (((j9 s_2 (i_3 : Int)).bind fun y_4 => (some (.nxt (List.set s_2 (Int.toNat (i_3 : Int)) (ByteArray.mk #[63]))))))) zE zS (fun i s hi hs => by
   simp only [List.length_replicate] at hi
   rw [r5, List.getElem?_eq_getElem zO]
   refine ⟨_, rfl, by simp [hs.1], fun k hk => ?_⟩
   simp only [Int.toNat_natCast]
   by_cases e : k = i
   ·subst e; rw [List.getElem?_set_self zO]; rfl
   ·rw [List.getElem?_set_ne (Ne.symm e)]; exact hs.2 k zO)
 obtain ⟨s2, e1, e2, e3⟩ := L
 rw [e1]
 simp only [Option.bind_some, oc]
 simp only [List.length_replicate, Int.toNat_natCast] at e3
 have hs2 : s2 = (List.replicate f.Code.length (none : OS)).map qK := by
  apply List.ext_getElem?
  intro k
  by_cases hk : k < f.Code.length
  ·rw [e3 k hk, List.getElem?_map, List.getElem?_replicate, if_pos hk]; rfl
  ·rw [List.getElem?_eq_none zO, List.getElem?_eq_none zE]
 subst hs2
 have hq0 : ((List.replicate f.Code.length (none : OS)).map qK)[0]? = some a9T := by rw [List.getElem?_map, List.getElem?_replicate, if_pos zO]; rfl
 rw [show j9 ((List.replicate f.Code.length (none : OS)).map qK) 0 = some a9T from (r5 _ 0).trans hq0]
 simp only [Option.bind_some]
 have hz : ((List.replicate f.Code.length (none : OS)).map qK).set (Int.toNat 0) (ByteArray.mk #[]) = ((List.replicate f.Code.length (none : OS)).set 0 (some [])).map qK := by
  rw [List.map_set]; rfl
 rw [hz]
 have hn0 : (List.replicate f.Code.length (none : OS))[0]? = some none := by rw [List.getElem?_replicate, if_pos zO]
 have hnn0 := b4h (x := []) hn0
 have hnn1 : nn (List.replicate f.Code.length (none : OS)) = f.Code.length := by unfold nn; rw [List.countP_replicate]; rfl
 refine a5H (whileN_ex (fun s => ∃ A : List OS, s.2.2 = A.map qK /\ b6W p f s.1 A /\ (s.2.1 = false -> ∀ a, a < f.Code.length -> ∀ x, A[a]? = some (some x) -> b3F p f s.1 A a x)) (fun s => 2 * qn s.2.2 + (if s.2.1 = true then 1 else 0)) _ ?h 1048577 _ ?h0 ?hm)
 case h0 =>
  refine ⟨_, rfl, ⟨by simp, by rw [List.getElem?_set_self zE], fun m y hy => ?_, fun e => (Bool.false_ne_true e).elim⟩, fun e => by cases e⟩
  by_cases e : m = 0
  ·subst e
   rw [List.getElem?_set_self zE] at hy
   cases hy
   exact ⟨.start, by simp; omega⟩
  ·rw [List.getElem?_set_ne (Ne.symm e), List.getElem?_replicate] at hy
   split at hy <;> cases hy
 case hm => simp only [b4i, if_true]; omega
 rintro ⟨dp, mr, at1⟩ ⟨A0, e0, hR0, hD0⟩
 simp only at e0 hR0 hD0
 subst e0
 cases mr with
 | false =>
   right; left
   refine ⟨(dp, false, A0.map qK), rfl, ?_⟩
   exact ⟨_, rfl, hR0.ans (hD0 rfl)⟩
 | true =>
   simp only [if_true]
   have key : ∃ o, rni (b3G p f) (List.length f.Code : Int) (dp, false, A0.map qK) = some o /\
     ((∃ dp' mr' A, o = .fin (dp', mr', A.map qK) /\ b6W p f dp' A /\ ((A = A0 /\ mr' = false) \/ (mr' = true /\ nn A < nn A0)) /\ (mr' = false -> ∀ a, a < f.Code.length -> ∀ x, A[a]? = some (some x) -> b3F p f dp' A a x)) \/ (o = .ret (some (.ret (some ([], false, false)))) /\ Bad p f)) := by
    refine rni_ex (body := b3G p f)
     (fun a s => ∃ A : List OS, s.2.2 = A.map qK /\ b6W p f s.1 A /\ (∀ (m : Nat) y, A0[m]? = some (some y) -> A[m]? = some (some y)) /\ ((A = A0 /\ s.2.1 = false) \/ (s.2.1 = true /\ nn A < nn A0)) /\ ∀ a', a' < a -> ∀ x, A0[a']? = some (some x) -> b3F p f s.1 A a' x) _ zO ?i0 ?ih ?iQ
    case i0 => exact ⟨A0, rfl, hR0, fun m y hy => hy, .inl ⟨rfl, rfl⟩, fun a' ha' => by omega⟩
    case iQ =>
     rintro ⟨dp', mr', at'⟩ ⟨A, e, hR, _, hch, hD⟩
     simp only at e hR hch hD
     subst e
     refine .inl ⟨dp', mr', A, rfl, hR, hch, fun em a ha x hx => ?_⟩
     rcases hch with ⟨e, _⟩ | ⟨e, _⟩
     ·exact hD a zO x (by rw [<- e]; exact hx)
     ·rw [em] at e; cases e
    rintro a ⟨dp', mr', at'⟩ hia ⟨A, e, hR, hmono, hch, hD⟩
    simp only at e hR hch hD
    subst e
    have halt : a < f.Code.length := by omega
    have hAa : A[a]? = some (A[a]'(by rw [hR.la]; exact halt)) := List.getElem?_eq_getElem _
    generalize A[a]'(by rw [hR.la]; exact halt) = oa at hAa
    have hma : (A.map qK)[a]? = some (qK oa) := by rw [List.getElem?_map, hAa]; rfl
    unfold b3G
    dsimp only
    rw [r5, hma]
    simp only [Option.bind_some]
    rw [eqS]
    cases oa with
    | none =>
      left
      have e0 : decide (qK none = ByteArray.mk #[63]) = true := decide_eq_true rfl
      rw [if_pos e0]
      refine ⟨_, rfl, A, rfl, hR, hmono, hch, fun a' ha' x hx => ?_⟩
      by_cases e : a' = a
      ·subst e
       have := hmono a' x hx
       rw [hAa] at this; cases this
      ·exact hD a' zO x hx
    | some x =>
      have e0 : decide (qK (some x) = ByteArray.mk #[63]) = false := decide_eq_false (a4z x)
      rw [e0]
      simp only [Bool.false_eq_true, if_false]
      have hia2 : f.Code[a]? = some f.Code[a] := List.getElem?_eq_getElem halt
      generalize f.Code[a] = i at hia2
      obtain ⟨dx, lx⟩ := hR.der a x hAa
      have kx := Der.k01 h hK hf dx
      rw [r5, hia2]
      simp only [Option.bind_some]
      rw [show qK (some x) = a0F x from rfl, b3E p f h hK hf hia2 x zO kx]
      simp only [Option.bind_some]
      rw [eqS]
      cases hst : a1v p f i x with
      | none =>
        right
        have : decide (stK none = ByteArray.mk #[33]) = true := decide_eq_true rfl
        rw [if_pos this]
        exact ⟨_, rfl, .inr ⟨rfl, .inl ⟨a, x, i, dx, hia2, .inl hst⟩⟩⟩
      | some x' =>
        have : decide (stK (some x') = ByteArray.mk #[33]) = false := decide_eq_false (b2c x')
        rw [this]
        simp only [Bool.false_eq_true, if_false]
        rw [b1M, show stK (some x') = a0F x' from rfl, a1h]
        have hx'l := a9m hst
        obtain ⟨o, ho, hq⟩ := c2q (some (.ret (some (.ret (some (([] : List ByteArray), false, false))))) : Option (Stp (Bool × Bool × (List ByteArray)) (Option (Stp (Bool × Bool × (List ByteArray)) (Option ((List ByteArray) × Bool × Bool)))))) p f h hK hf hia2 dx hst hR.la (fun m y hy => (hR.der m y hy).1) mr'
        rw [r5, hia2] at ho
        simp only [Option.bind_some] at ho
        rw [ho]
        simp only [Option.bind_some]
        rcases hq with ⟨A2, mr2, b2, rfl, hN⟩ | ⟨rfl, hb⟩
        ·left
         have hle : nn A2 <= nn A := by
          rcases hN.ch with ⟨e, _⟩ | ⟨_, e⟩
          ·rw [e]; exact Nat.le_refl _
          ·omega
         have hR2 : b6W p f (dp' || decide ((x'.length : Int) > 16)) A2 := by
          refine ⟨hN.la, hN.mono 0 [] hR.z, fun m y hy => ?_, fun hd => ?_⟩
          ·rcases hN.ch with ⟨e, _⟩ | ⟨_, e⟩
           ·rw [e] at hy ⊢; exact hR.der m y hy
           ·rcases hN.new m y hy with h1 | ⟨rfl, h1⟩
            ·have := hR.der m y h1
             exact ⟨this.1, by omega⟩
            ·exact ⟨h1, by omega⟩
          ·simp only [Bool.or_eq_true, decide_eq_true_eq] at hd
           rcases hd with hd | hd
           ·exact hR.dpD hd
           ·exact ⟨a, x, i, x', dx, hia2, hst, by omega⟩
         refine ⟨_, rfl, A2, rfl, hR2, fun m y hy => hN.mono m y (hmono m y hy), ?_, fun a' ha' y hy => ?_⟩
         ·simp only
          rcases hN.ch with ⟨e, em⟩ | ⟨em, e⟩
          ·rw [e, em]; exact hch
          ·right
           refine ⟨em, ?_⟩
           rcases hch with ⟨e2, _⟩ | ⟨_, e2⟩
           ·rw [e2] at e; exact e
           ·omega
         ·by_cases e : a' = a
          ·subst e
           have := hmono a' y hy
           rw [hAa] at this; cases this
           refine ⟨i, x', hia2, hst, fun hl => by simp; right; omega, fun b hb => ?_⟩
           obtain ⟨b0, b1⟩ := c2p h hia2 hb
           obtain ⟨m, rfl⟩ : ∃ m : Nat, b = m := ⟨b.toNat, by omega⟩
           obtain ⟨g1, g2⟩ := hN.got m zO hb
           exact ⟨m, rfl, g1, g2⟩
          ·obtain ⟨i2, y', d1, d2, d3, d4⟩ := hD a' zO y hy
           refine ⟨i2, y', d1, d2, fun hl => by simp [d3 hl], fun b hb => ?_⟩
           obtain ⟨m, m1, m2, m3⟩ := d4 b hb
           exact ⟨m, m1, m2, hN.mono m y' m3⟩
        ·right
         exact ⟨_, rfl, .inr ⟨rfl, hb⟩⟩
   obtain ⟨o, ho, hq⟩ := key
   unfold b3G at ho
   rw [ho]
   simp only [Option.bind_some]
   rcases hq with ⟨dp', mr', A, rfl, hR, hch, hD⟩ | ⟨rfl, hb⟩
   ·left
    refine ⟨_, rfl, ⟨A, rfl, hR, hD⟩, ?_⟩
    simp only [b4i]
    rcases hch with ⟨e, em⟩ | ⟨em, e⟩
    ·rw [e, em]; simp
    ·rw [em]; simp; omega
   ·right; right
    exact ⟨_, rfl, _, rfl, .inl ⟨hb, rfl⟩⟩
theorem jp_ite {σ β : Type} (c : Bool) (a b : σ) (K : σ -> Option β) : jp K (fun k => if c = true then k a else k b) = K (if c = true then a else b) := by unfold jp; cases c <;> rfl
theorem a9r (op : Int) : l8 op = some (y9 op) := by
 unfold l8
 simp only [jp]
 by_cases h9 : op < 1
 ·have h1 : ¬ op = 1 := by omega
  have h2 : ¬ (op = 2 \/ op = 3 \/ op = 4 \/ op = 23 \/ op = 25) := by omega
  have h3 : ¬ (op = 21 \/ op = 22) := by omega
  have e : y9 op = -1 := by unfold y9; rw [if_neg h1, if_neg h2, if_neg h3, if_pos (.inl h9)]
  rw [e]
  simp [h9]
 by_cases h10 : op > 32
 ·have h1 : ¬ op = 1 := by omega
  have h2 : ¬ (op = 2 \/ op = 3 \/ op = 4 \/ op = 23 \/ op = 25) := by omega
  have h3 : ¬ (op = 21 \/ op = 22) := by omega
  have e : y9 op = -1 := by unfold y9; rw [if_neg h1, if_neg h2, if_neg h3, if_pos (.inr h10)]
  rw [e]
  simp [h9, h10]
 simp only [decide_eq_false h9, decide_eq_false h10, Bool.false_eq_true, if_false]
 unfold y9
 by_cases h1 : op = 1
 ·simp [h1]
 by_cases h2 : op = 2
 ·simp [h2]
 by_cases h3 : op = 3
 ·simp [h3]
 by_cases h4 : op = 4
 ·simp [h4]
 by_cases h5 : op = 23
 ·simp [h5]
 by_cases h6 : op = 25
 ·simp [h6]
 by_cases h7 : op = 21
 ·simp [h7]
 by_cases h8 : op = 22
 ·simp [h8]
 have e : ¬ (op < 1 \/ op > 32) := by omega
 have q2 : ¬ (op = 2 \/ op = 3 \/ op = 4 \/ op = 23 \/ op = 25) := by omega
 have q3 : ¬ (op = 21 \/ op = 22) := by omega
 rw [if_neg h1, if_neg q2, if_neg q3, if_neg e]
 simp [h1, h2, h3, h4, h5, h6, h7, h8]
theorem b6v (i : Instr) : p3 i = some (a1f i) := by
 unfold p3 a1f
 rw [a9r]
 simp only [Option.bind_some, jp]
 have hw := a2B i.Op
 generalize y9 i.Op = w at hw ⊢
 rcases hw with rfl | rfl | rfl | rfl | rfl
 ·simp
 ·by_cases h1 : i.Imm = 0
  ·simp [h1]; rw [Bool.eq_iff_iff]; simp; omega
  ·simp [h1]
 ·by_cases h1 : i.Imm = 0
  ·by_cases h2 : i.Arg >= 0
   ·simp [h1, h2]; omega
   ·have : ¬ 0 <= i.Arg := h2
    simp [h1, h2, this]
  ·simp [h1]
 ·by_cases h1 : i.Imm = 0
  ·by_cases h2 : i.Arg >= 0
   ·simp [h1, h2]; omega
   ·have : ¬ 0 <= i.Arg := h2
    simp [h1, h2, this]
  ·simp [h1]
 ·by_cases h1 : i.Arg = 0 <;> simp [h1]
theorem b4j (v n : Int) (hn : 0 <= n /\ n <= 8) : ∃ l, j6 1048577 v n = some l /\ l.length <= 8 := by
 unfold j6
 refine a5H (whileN_ex (fun s => s.2.1 = n /\ ∃ k : Nat, s.2.2.1 = (k : Int) /\ (k : Int) <= n /\ s.2.2.2.length = k) (fun s => 9 - s.2.2.1.toNat) _ ?_ 1048577 _ ⟨rfl, 0, rfl, by simpa using hn.1, rfl⟩ (by simp only; omega))
 rintro ⟨v1, n1, k1, l1⟩ ⟨h1, k, h2, h3, h4⟩
 simp only at h1 h2 h4
 subst h1; subst h2
 dsimp only
 by_cases hk : (k : Int) < n1
 ·left
  rw [if_pos (by simpa using hk), appL1 zE]
  have hI : I64 ((k : Int) + 1) = ((k + 1 : Nat) : Int) := by rw [a1H zO]; omega
  exact ⟨_, rfl, ⟨rfl, k + 1, hI, by omega, by simp [h4]⟩, by simp only [hI, Int.toNat_natCast]; omega⟩
 ·right; left
  rw [if_neg (by simpa using hk)]
  exact ⟨_, rfl, l1, rfl, by omega⟩

theorem b3H (p : Program) (hk : ∀ f ∈ p.Funcs, ∀ k ∈ f.Locals, 0 <= k) : ∃ l, u0 1048577 p = some (l, encP p) := by
 unfold u0
 have hj : ∀ {β : Type} (K : Bool -> Option β), jp K (fun k_1 => (if (decide ((List.length p.Funcs : Int) < 1)) then (k_1 true) else (k_1 (decide ((List.length p.Funcs : Int) > 255))))) = K (!decide (1 <= p.Funcs.length /\ p.Funcs.length <= 255)) := by
  intro β K
  unfold jp
  by_cases h1 : (p.Funcs.length : Int) < 1
  ·have e : decide (1 <= p.Funcs.length /\ p.Funcs.length <= 255) = false := decide_eq_false zO
   rw [e]; simp [h1]
  ·by_cases h2 : (p.Funcs.length : Int) > 255
   ·have e : decide (1 <= p.Funcs.length /\ p.Funcs.length <= 255) = false := decide_eq_false zO
    rw [e]; simp [h1, h2]
   ·have e : decide (1 <= p.Funcs.length /\ p.Funcs.length <= 255) = true := decide_eq_true zO
    rw [e]; simp [h1, h2]
 rw [hj]
 by_cases hc : 1 <= p.Funcs.length /\ p.Funcs.length <= 255
 case neg =>
  have : encP p = false := by unfold encP; rw [decide_eq_false hc]; rfl
  rw [decide_eq_false hc, this]
  exact ⟨[], rfl⟩
 rw [decide_eq_true hc]
 simp only [Bool.not_true, Bool.false_eq_true, if_false]
 have he : encP p = p.Funcs.all a0x := by unfold encP; rw [decide_eq_true hc]; rfl
 have L := rng_inv (σ := List Int) (ρ := Option (List Int × Bool)) (xs := p.Funcs) (s0 := ([87, 76, U8 (List.length p.Funcs : Int)] : List Int)) a0x (some ([], false)) (fun i s => s.length <= 3 + 700000 * i)
  (body := fun (i_4 : Nat) (f_5 : Func) (s_3 : (List Int)) => ((jp (fun (s_8 : Bool) => (if s_8 then (some (.ret (some ([], false)))) else ((a1i 1 s_3 [(U8 f_5.Params), (U8 (List.length f_5.Locals : Int))]).bind fun l_9 => ((rng (fun (i_11 : Nat) (k_12 : Int) (s_10 : (List Int)) => ((jp (fun (s_15 : Bool) => (if s_15 then (some (.ret (some (.ret (some ([], false)))))) else ((a1i 1 s_10 [k_12]).bind fun l_16 => (some (.nxt l_16))))) (fun k_14 => (if (k_12 != 0) then (k_14 (k_12 != 1)) else (k_14 false)))) : Option (Stp (List Int) (Option (Stp (List Int) (Option ((List Int) × Bool))))))) f_5.Locals l_9).bind (oc (fun (s_10 : (List Int)) => (jp (fun (s_18 : Int) => (jp (fun (s_20 : Int) => ((a1i 1 s_10 [s_18, s_20]).bind fun l_21 => ((j6 1048577 (U64 (List.length f_5.Code : Int)) 2).bind fun low_22 => ((a1i 1 l_21 low_22).bind fun l_23 => ((rng (fun (i_25 : Nat) (i_26 : Instr) (s_24 : (List Int)) => (((p3 i_26).bind fun say_28 => (if (!say_28) then (some (.ret (some (.ret (some ([], false)))))) else ((a1i 1 s_24 [i_26.Op]).bind fun l_29 => ((l8 i_26.Op).bind fun wid_30 => (if (wid_30 == 8) then ((j6 1048577 i_26.Imm 8).bind fun low_31 => ((a1i 1 l_29 low_31).bind fun l_32 => (some (.nxt l_32)))) else ((j6 1048577 (U64 i_26.Arg) wid_30).bind fun low_33 => ((a1i 1 l_29 low_33).bind fun l_34 => (some (.nxt l_34))))))))) : Option (Stp (List Int) (Option (Stp (List Int) (Option ((List Int) × Bool))))))) f_5.Code l_23).bind (oc (fun (s_24 : (List Int)) => (some (.nxt s_24))))))))) (fun k_19 => (if (decide (f_5.Keep >= 0)) then (k_19 (U8 f_5.Keep)) else (k_19 255))))) (fun k_17 => (if f_5.Result then (k_17 1) else (k_17 0)))))))))) (fun k_7 => (if (decide (f_5.Params < 0)) then (k_7 true) else (if (decide (f_5.Params > (List.length f_5.Locals : Int))) then (k_7 true) else (if (decide ((List.length f_5.Locals : Int) > 255)) then (k_7 true) else (if (decide (f_5.Keep < (-1))) then (k_7 true) else (if (decide (f_5.Keep > 254)) then (k_7 true) else (k_7 (decide ((List.length f_5.Code : Int) > 65535)))))))))) : Option (Stp (List Int) (Option ((List Int) × Bool))))) zO nB ?body
 case body =>
  intro i f s hi hs
  have hmem := List.mem_of_getElem? hi
  have hilt := (List.getElem?_eq_some_iff.1 hi).1
  have hsl : s.length <= 3 + 700000 * 255 := Nat.le_trans hs (Nat.add_le_add_left (Nat.mul_le_mul_left _ zO) _)
  have hjf : ∀ {β : Type} (K : Bool -> Option β), jp K (fun k_7 => (if (decide (f.Params < 0)) then (k_7 true) else (if (decide (f.Params > (List.length f.Locals : Int))) then (k_7 true) else (if (decide ((List.length f.Locals : Int) > 255)) then (k_7 true) else (if (decide (f.Keep < (-1))) then (k_7 true) else (if (decide (f.Keep > 254)) then (k_7 true) else (k_7 (decide ((List.length f.Code : Int) > 65535))))))))) = K (!decide (0 <= f.Params /\ f.Params <= f.Locals.length /\ f.Locals.length <= 255 /\ -1 <= f.Keep /\ f.Keep <= 254 /\ f.Code.length <= 65535)) := by
   intro β K
   unfold jp
   by_cases h1 : f.Params < 0
   ·have e : decide (0 <= f.Params /\ f.Params <= f.Locals.length /\ f.Locals.length <= 255 /\ -1 <= f.Keep /\ f.Keep <= 254 /\ f.Code.length <= 65535) = false := decide_eq_false zO
    rw [e]; simp [h1]
   by_cases h2 : f.Params > f.Locals.length
   ·have e : decide (0 <= f.Params /\ f.Params <= f.Locals.length /\ f.Locals.length <= 255 /\ -1 <= f.Keep /\ f.Keep <= 254 /\ f.Code.length <= 65535) = false := decide_eq_false zO
    rw [e]; simp [h1, h2]
   by_cases h3 : (f.Locals.length : Int) > 255
   ·have e : decide (0 <= f.Params /\ f.Params <= f.Locals.length /\ f.Locals.length <= 255 /\ -1 <= f.Keep /\ f.Keep <= 254 /\ f.Code.length <= 65535) = false := decide_eq_false zO
    rw [e]; simp [h1, h2, h3]
   by_cases h4 : f.Keep < -1
   ·have e : decide (0 <= f.Params /\ f.Params <= f.Locals.length /\ f.Locals.length <= 255 /\ -1 <= f.Keep /\ f.Keep <= 254 /\ f.Code.length <= 65535) = false := decide_eq_false zO
    rw [e]; simp [h1, h2, h3, h4]
   by_cases h5 : f.Keep > 254
   ·have e : decide (0 <= f.Params /\ f.Params <= f.Locals.length /\ f.Locals.length <= 255 /\ -1 <= f.Keep /\ f.Keep <= 254 /\ f.Code.length <= 65535) = false := decide_eq_false zO
    rw [e]; simp [h1, h2, h3, h4, h5]
   by_cases h6 : (f.Code.length : Int) > 65535
   ·have e : decide (0 <= f.Params /\ f.Params <= f.Locals.length /\ f.Locals.length <= 255 /\ -1 <= f.Keep /\ f.Keep <= 254 /\ f.Code.length <= 65535) = false := decide_eq_false zO
    rw [e]; simp [h1, h2, h3, h4, h5, h6]
   ·have e : decide (0 <= f.Params /\ f.Params <= f.Locals.length /\ f.Locals.length <= 255 /\ -1 <= f.Keep /\ f.Keep <= 254 /\ f.Code.length <= 65535) = true := decide_eq_true zO
    rw [e]; simp [h1, h2, h3, h4, h5, h6]
  rw [hjf]
  by_cases hcf : 0 <= f.Params /\ f.Params <= f.Locals.length /\ f.Locals.length <= 255 /\ -1 <= f.Keep /\ f.Keep <= 254 /\ f.Code.length <= 65535
  case neg =>
   have : a0x f = false := by unfold a0x; rw [decide_eq_false hcf]; rfl
   rw [this, decide_eq_false hcf]; rfl
  rw [decide_eq_true hcf]
  simp only [Bool.not_true, Bool.false_eq_true, if_false]
  rw [appL1 zE]
  simp only [Option.bind_some]
  have hf : a0x f = (f.Locals.all (fun k => decide (k <= 1)) && f.Code.all a1f) := by unfold a0x; rw [decide_eq_true hcf]; rfl
  have L1 := rng_inv (σ := List Int) (ρ := Option (Stp (List Int) (Option (List Int × Bool)))) (xs := f.Locals) (s0 := s ++ [U8 f.Params, U8 (List.length f.Locals : Int)]) (fun k => decide (k <= 1)) (some (.ret (some ([], false))))
   (fun i q => q.length = s.length + 2 + i) (body := fun (i_11 : Nat) (k_12 : Int) (s_10 : (List Int)) => ((jp (fun (s_15 : Bool) => (if s_15 then (some (.ret (some (.ret (some ([], false)))))) else ((a1i 1 s_10 [k_12]).bind fun l_16 => (some (.nxt l_16))))) (fun k_14 => (if (k_12 != 0) then (k_14 (k_12 != 1)) else (k_14 false)))) : Option (Stp (List Int) (Option (Stp (List Int) (Option ((List Int) × Bool))))))) zO zS (fun j x q hx hq => by
    have hj := (List.getElem?_eq_some_iff.1 hx).1
    have hx0 := hk f hmem x (List.mem_of_getElem? hx)
    simp only [jp]
    by_cases h0 : x = 0
    ·rw [if_pos (by simp [h0])]
     have : (x != 0) = false := by simp [h0]
     simp only [this, Bool.false_eq_true, if_false]
     rw [appL1 (by simp <;> omega)]
     exact ⟨_, rfl, by simp <;> omega⟩
    ·have n0 : (x != 0) = true := by simpa using h0
     simp only [n0, if_true]
     by_cases h1 : x = 1
     ·rw [if_pos (by simp [h1])]
      have : (x != 1) = false := by simp [h1]
      simp only [this, Bool.false_eq_true, if_false]
      rw [appL1 (by simp <;> omega)]
      exact ⟨_, rfl, by simp <;> omega⟩
     ·have n1 : (x != 1) = true := by simpa using h1
      rw [if_neg zE, if_pos n1])
  cases hl : f.Locals.all (fun k => decide (k <= 1)) with
  | false =>
    rw [hl] at L1
    simp only [Bool.false_eq_true, if_false] at L1
    rw [L1, hf, hl]; rfl
  | true =>
    rw [hl] at L1
    simp only [if_true] at L1
    obtain ⟨s1, e1, e2⟩ := L1
    rw [e1]
    simp only [Option.bind_some, oc]
    rw [jp_ite, jp_ite]
    generalize (if f.Result = true then (1 : Int) else 0) = r
    generalize (if decide (f.Keep >= 0) = true then U8 f.Keep else (255 : Int)) = r2
    rw [appL1 zE]
    simp only [Option.bind_some]
    obtain ⟨lw, e3, e4⟩ := b4j (U64 (List.length f.Code : Int)) 2 zO
    rw [e3]
    simp only [Option.bind_some]
    rw [appL1 zE]
    simp only [Option.bind_some]
    have L2 := rng_inv (σ := List Int) (ρ := Option (Stp (List Int) (Option (List Int × Bool)))) (xs := f.Code) (s0 := s1 ++ [r, r2] ++ lw) a1f (some (.ret (some ([], false)))) (fun i q => q.length <= s.length + 300 + 9 * i)
     (body := fun (i_25 : Nat) (i_26 : Instr) (s_24 : (List Int)) => (((p3 i_26).bind fun say_28 => (if (!say_28) then (some (.ret (some (.ret (some ([], false)))))) else ((a1i 1 s_24 [i_26.Op]).bind fun l_29 => ((l8 i_26.Op).bind fun wid_30 => (if (wid_30 == 8) then ((j6 1048577 i_26.Imm 8).bind fun low_31 => ((a1i 1 l_29 low_31).bind fun l_32 => (some (.nxt l_32)))) else ((j6 1048577 (U64 i_26.Arg) wid_30).bind fun low_33 => ((a1i 1 l_29 low_33).bind fun l_34 => (some (.nxt l_34))))))))) : Option (Stp (List Int) (Option (Stp (List Int) (Option ((List Int) × Bool))))))) zO zE (fun j x q hx hq => by
      have hj := (List.getElem?_eq_some_iff.1 hx).1
      rw [b6v]
      cases hi2 : a1f x with
      | false => rfl
      | true =>
        have hw0 := (a2n hi2).2.2
        have hw := a2B x.Op
        simp only [Option.bind_some, Bool.not_true, Bool.false_eq_true, if_false, if_true]
        rw [appL1 (by simp <;> omega)]
        simp only [Option.bind_some]
        rw [a9r]
        simp only [Option.bind_some]
        have fin : ∀ v n : Int, 0 <= n /\ n <= 8 -> ∃ s', ((j6 1048577 v n).bind fun low => ((a1i 1 (q ++ [x.Op]) low).bind fun l => (some (.nxt l : Stp (List Int) (Option (Stp (List Int) (Option ((List Int) × Bool)))))))) = some (.nxt s') /\ s'.length <= s.length + 300 + 9 * (j + 1) := fun v n hn => by
         obtain ⟨lv, e5, e6⟩ := b4j v n hn
         rw [e5]
         simp only [Option.bind_some]
         rw [appL1 zE]
         exact ⟨_, rfl, by simp; omega⟩
        by_cases h8 : y9 x.Op = 8
        ·have n8 : (y9 x.Op == 8) = true := by simpa using h8
         rw [if_pos n8]
         exact fin _ 8 zO
        ·have n8 : ¬ ((y9 x.Op == 8) = true) := by simpa using h8
         rw [if_neg n8]
         exact fin _ _ zO)
    cases hci : f.Code.all a1f with
    | false =>
      rw [hci] at L2
      simp only [Bool.false_eq_true, if_false] at L2
      rw [L2, hf, hl, hci]; rfl
    | true =>
      rw [hci] at L2
      simp only [if_true] at L2
      obtain ⟨s3, e5, e6⟩ := L2
      rw [e5, hf, hl, hci]
      refine ⟨s3, rfl, b1G (s := s.length) ?_ hs⟩
      have : s3.length <= s.length + 300 + 9 * f.Code.length := e6
      omega
 rw [he]
 cases e : p.Funcs.all a0x with
 | false =>
   rw [e] at L
   simp only [Bool.false_eq_true, if_false] at L
   rw [L]
   exact ⟨[], rfl⟩
 | true =>
   rw [e] at L
   simp only [if_true] at L
   obtain ⟨s, a, _⟩ := L
   rw [a]
   exact ⟨s, rfl⟩
theorem a8H (p : Program) (hp : p.Funcs.length <= 1048576) : s4 p = some (a1J p) := by
 unfold s4
 have L := rng_inv (σ := Bool) (ρ := Option Bool) (xs := p.Funcs) (s0 := decide ((List.length p.Funcs : Int) <= 16)) (fun _ => true) none (fun i s => s = (decide ((List.length p.Funcs : Int) <= 16) && (p.Funcs.take i).all a2G))
  (body := fun (i_2 : Nat) (f_3 : Func) (s_1 : Bool) => ((if s_1 then (if (decide (f_3.Params <= 4)) then (if (decide ((List.length f_3.Locals : Int) <= 16)) then (some (.nxt (decide ((List.length f_3.Code : Int) <= 256)))) else (some (.nxt false))) else (some (.nxt false))) else (some (.nxt false))) : Option (Stp Bool (Option Bool)))) zO zS (fun i x s hx hs => by
   have hlt := (List.getElem?_eq_some_iff.1 hx).1
   have e : (p.Funcs.take (i + 1)).all a2G = ((p.Funcs.take i).all a2G && a2G x) := by
    rw [List.take_succ_eq_append_getElem hlt, List.all_append]
    rw [List.getElem?_eq_getElem hlt] at hx
    cases hx
    simp
   rw [if_pos rfl, e, <- Bool.and_assoc, <- hs]
   cases s with
   | false => exact ⟨false, rfl, rfl⟩
   | true =>
     unfold a2G
     by_cases h1 : x.Params <= 4
     ·by_cases h2 : (x.Locals.length : Int) <= 16
      ·refine ⟨_, by rw [if_pos rfl, if_pos (by simpa using h1), if_pos (by simpa using h2)], ?_⟩
       have h2' : x.Locals.length <= 16 := by omega
       simp [h1, h2']
       omega
      ·refine ⟨_, by rw [if_pos rfl, if_pos (by simpa using h1), if_neg (by simpa using h2)], ?_⟩
       have : ¬ (x.Params <= 4 /\ x.Locals.length <= 16 /\ x.Code.length <= 256) := by omega
       rw [decide_eq_false this]; rfl
     ·refine ⟨_, by rw [if_pos rfl, if_neg (by simpa using h1)], ?_⟩
      have : ¬ (x.Params <= 4 /\ x.Locals.length <= 16 /\ x.Code.length <= 256) := by omega
      rw [decide_eq_false this]; rfl)
 simp only [List.all_eq_true, implies_true, if_true] at L
 obtain ⟨s, e1, e2⟩ := L
 rw [e1]
 simp only [Option.bind_some, oc]
 rw [e2, List.take_length]
 unfold a1J
 rw [Bool.and_comm]
 congr 2
 exact decide_eq_decide.2 zO

theorem b2e (p : Program) (f : Func) (hf : a0x f = true) (hp : p.Funcs.length <= 1048576) : q8 p f = some (a2m p f) := by
 have hc := a2o hf
 have hd := (a1x hf).2.2.2.2.2
 unfold q8 a2m
 have hj : ∀ {β : Type} (K : Func × Bool -> Option β), jp K (fun k_1 => (if ((List.length f.Code : Int) == 0) then (k_1 (f, true)) else (if (decide (f.Keep >= (List.length f.Locals : Int))) then (k_1 (f, true)) else (if (decide (f.Keep >= 0)) then ((j9 f.Locals f.Keep).bind fun y_3 => (k_1 (f, (y_3 != 0)))) else (k_1 (f, false)))))) = K (f, !a7a f) := by
  intro β K
  unfold jp a7a
  by_cases h1 : f.Code.length = 0
  ·simp [h1]
  have h1' : ((f.Code.length : Int) == 0) = false := by simpa using h1
  by_cases h2 : f.Keep >= f.Locals.length
  ·have : ¬ (f.Keep < f.Locals.length) := by omega
   simp [h1', h2, this]
  have h2' : f.Keep < f.Locals.length := by omega
  have h2'' : ¬ f.Locals.length <= f.Keep := by omega
  by_cases h3 : f.Keep >= 0
  ·have h3' : ¬ f.Keep < 0 := by omega
   simp only [h1', Bool.false_eq_true, if_false, decide_eq_false h2, decide_eq_true h3, if_true]
   rw [a1W h3 zO, List.getElem?_eq_getElem (show f.Keep.toNat < f.Locals.length by omega)]
   simp only [Option.bind_some]
   by_cases h4 : f.Locals[f.Keep.toNat] = 0
   ·simp [h1, h2', h3', h4]
   ·have e4 : (f.Locals[f.Keep.toNat] != 0) = true := by simpa using h4
    rw [e4]
    simp [h1, h2', h3', h4]
  ·have h3' : f.Keep < 0 := by omega
   simp only [h1', Bool.false_eq_true, if_false, decide_eq_false h2, decide_eq_false h3]
   simp [h1, h2', h3']
 rw [hj]
 cases hkp : a7a f with
 | false => rfl
 | true =>
   simp only [Bool.not_true, Bool.false_eq_true, if_false, Bool.true_and]
   have L := rng_inv (σ := Unit) (ρ := Option Bool) (xs := f.Code) (s0 := ()) (a6Z p f) (some false) (fun _ _ => True)
    (body := fun (i_5 : Nat) (i_6 : Instr) (s_4 : Unit) => ((jp (fun (s_9 : Bool) => (if s_9 then (if (decide (i_6.Arg >= (List.length f.Locals : Int))) then (some (.ret (some false))) else (some (.nxt ()))) else (if (i_6.Op == 4) then (jp (fun (s_11 : Bool) => (if s_11 then (some (.ret (some false))) else (some (.nxt ())))) (fun k_10 => (if (decide (i_6.Arg >= (List.length f.Locals : Int))) then (k_10 true) else ((j9 f.Locals i_6.Arg).bind fun y_12 => (k_10 (y_12 != 0)))))) else (jp (fun (s_14 : Bool) => (if s_14 then (if (decide (i_6.Arg >= (List.length f.Code : Int))) then (some (.ret (some false))) else (some (.nxt ()))) else (jp (fun (s_16 : Bool) => (if s_16 then (jp (fun (s_18 : Bool) => (if s_18 then (some (.ret (some false))) else (some (.nxt ())))) (fun k_17 => (if (decide (i_6.Arg >= (List.length p.Funcs : Int))) then (k_17 true) else (if (i_6.Op == 25) then (if f.Result then (k_17 (decide (f.Keep < 0))) else (k_17 false)) else (k_17 false))))) else (some (.nxt ())))) (fun k_15 => (if (i_6.Op == 23) then (k_15 (i_6.Op == 23)) else (k_15 (i_6.Op == 25))))))) (fun k_13 => (if (i_6.Op == 21) then (k_13 (i_6.Op == 21)) else (k_13 (i_6.Op == 22)))))))) (fun k_8 => (if (i_6.Op == 2) then (k_8 (i_6.Op == 2)) else (k_8 (i_6.Op == 3))))) : Option (Stp Unit (Option Bool)))) zO trivial (fun j x s hx _ => by
     have ha := (a2n (hc x (List.mem_of_getElem? hx))).1
     unfold a6Z a2I
     simp only [jp]
     have n25 : ∀ c : Int, x.Op = c -> c ≠ 25 -> decide (x.Op = 25) = false := fun c h1 h2 => decide_eq_false zO
     by_cases h2 : x.Op = 2 \/ x.Op = 3
     ·have e25 : decide (x.Op = 25) = false := decide_eq_false zO
      rw [if_pos h2, e25]
      simp only [Bool.false_and, Bool.not_false, Bool.and_true]
      have : (if (x.Op == 2) = true then (x.Op == 2) else (x.Op == 3)) = true := by rcases h2 with h | h <;> simp [h]
      have hb : ∀ A B : Option (Stp Unit (Option Bool)), (if (x.Op == 2) = true then (if (x.Op == 2) = true then A else B) else (if (x.Op == 3) = true then A else B)) = A := fun A B => by rcases h2 with h | h <;> simp [h]
      rw [hb]
      by_cases hl : x.Arg < f.Locals.length
      ·rw [if_pos (by simpa using hl), if_neg zE]; exact ⟨(), rfl, trivial⟩
      ·rw [if_neg (by simpa using hl), if_pos zE]
     have h2a : ¬ x.Op = 2 := fun h => h2 (.inl h)
     have h2b : ¬ x.Op = 3 := fun h => h2 (.inr h)
     have m2 : (x.Op == 2) = false := by simpa using h2a
     have m3 : (x.Op == 3) = false := by simpa using h2b
     rw [if_neg h2]
     simp only [m2, m3, Bool.false_eq_true, if_false]
     by_cases h4 : x.Op = 4
     ·have e25 : decide (x.Op = 25) = false := decide_eq_false zO
      have m4 : (x.Op == 4) = true := by simpa using h4
      rw [if_pos h4, e25]
      simp only [m4, if_true, Bool.false_and, Bool.not_false, Bool.and_true]
      by_cases hl : x.Arg < f.Locals.length
      ·rw [if_neg (show ¬ (decide (x.Arg >= (f.Locals.length : Int)) = true) by simp; omega), a1W ha zO, List.getElem?_eq_getElem (show x.Arg.toNat < f.Locals.length by omega)]
       simp only [Option.bind_some]
       by_cases h0 : f.Locals[x.Arg.toNat] = 0
       ·rw [decide_eq_true ⟨hl, by rw [h0]⟩]
        have : (f.Locals[x.Arg.toNat] != 0) = false := by simp [h0]
        rw [this]; exact ⟨(), rfl, trivial⟩
       ·have e : decide (x.Arg < f.Locals.length /\ some f.Locals[x.Arg.toNat] = some 0) = false := decide_eq_false (fun hh => h0 (Option.some.inj hh.2))
        rw [e]
        have : (f.Locals[x.Arg.toNat] != 0) = true := by simpa using h0
        rw [this]; rfl
      ·rw [if_pos (show decide (x.Arg >= (f.Locals.length : Int)) = true by simp; omega), decide_eq_false (fun hh => hl hh.1)]; rfl
     have m4 : (x.Op == 4) = false := by simpa using h4
     rw [if_neg h4]
     simp only [m4, Bool.false_eq_true, if_false]
     by_cases h21 : x.Op = 21 \/ x.Op = 22
     ·have e25 : decide (x.Op = 25) = false := decide_eq_false zO
      rw [if_neg (show ¬ (x.Op = 23 \/ x.Op = 25) by omega), if_pos h21, e25]
      simp only [Bool.false_and, Bool.not_false, Bool.and_true]
      have hb : ∀ A B : Option (Stp Unit (Option Bool)), (if (x.Op == 21) = true then (if (x.Op == 21) = true then A else B) else (if (x.Op == 22) = true then A else B)) = A := fun A B => by rcases h21 with h | h <;> simp [h]
      rw [hb]
      by_cases hl : x.Arg < f.Code.length
      ·rw [if_pos (by simpa using hl), if_neg zE]; exact ⟨(), rfl, trivial⟩
      ·rw [if_neg (by simpa using hl), if_pos zE]
     have h21a : ¬ x.Op = 21 := fun h => h21 (.inl h)
     have h21b : ¬ x.Op = 22 := fun h => h21 (.inr h)
     have m21 : (x.Op == 21) = false := by simpa using h21a
     have m22 : (x.Op == 22) = false := by simpa using h21b
     simp only [m21, m22, Bool.false_eq_true, if_false]
     by_cases h23 : x.Op = 23
     ·have e25 : decide (x.Op = 25) = false := decide_eq_false zO
      rw [if_pos (show x.Op = 23 \/ x.Op = 25 from .inl h23), e25]
      have m23 : (x.Op == 23) = true := by simpa using h23
      have m25 : (x.Op == 25) = false := by rw [h23]; rfl
      simp only [m23, m25, if_true, Bool.false_eq_true, if_false, Bool.false_and, Bool.not_false, Bool.and_true]
      by_cases hl : x.Arg < p.Funcs.length
      ·rw [if_pos (by simpa using hl), if_neg zE]; exact ⟨(), rfl, trivial⟩
      ·rw [if_neg (by simpa using hl), if_pos zE]
     have m23 : (x.Op == 23) = false := by simpa using h23
     by_cases h25 : x.Op = 25
     ·rw [if_pos (show x.Op = 23 \/ x.Op = 25 from .inr h25), decide_eq_true h25]
      have m25 : (x.Op == 25) = true := by simpa using h25
      simp only [m23, m25, if_true, Bool.false_eq_true, if_false, Bool.true_and]
      by_cases hl : x.Arg < p.Funcs.length
      ·rw [decide_eq_true hl, if_neg (show ¬ (decide (x.Arg >= (p.Funcs.length : Int)) = true) by simp; omega)]
       simp only [Bool.true_and]
       cases f.Result with
       | false => exact ⟨(), rfl, trivial⟩
       | true =>
         simp only [if_true, Bool.true_and]
         cases decide (f.Keep < 0) with
         | false => exact ⟨(), rfl, trivial⟩
         | true => rfl
      ·rw [decide_eq_false hl, if_pos (show decide (x.Arg >= (p.Funcs.length : Int)) = true by simp; omega)]; rfl
     have m25 : (x.Op == 25) = false := by simpa using h25
     rw [if_neg (show ¬ (x.Op = 23 \/ x.Op = 25) by omega), if_neg (show ¬ (x.Op = 21 \/ x.Op = 22) from h21), decide_eq_false h25]
     simp only [m23, m25, Bool.false_eq_true, if_false]
     exact ⟨(), by simp, trivial⟩)
   cases e : f.Code.all (a6Z p f) with
   | false =>
     rw [e] at L
     simp only [Bool.false_eq_true, if_false] at L
     rw [L]; rfl
   | true =>
     rw [e] at L
     simp only [if_true] at L
     obtain ⟨s, a, _⟩ := L
     rw [a]; rfl
def b6w (p : Program) (f : Func) (l : List ByteArray) : Prop := ∃ R, Sol p f R /\ l.length = f.Code.length /\ ∀ a, a < f.Code.length -> l[a]? = some (qK (R a))
def c2r (p : Program) (o : List (List ByteArray) × Int) : Prop :=
 (encP p = false /\ o = ([], 30)) \/ (encP p = true /\ a1J p = false /\ o = ([], 31)) \/ (encP p = true /\ a1J p = true /\ (a5I p && p.Funcs.all (a2m p)) = false /\ o = ([], 50)) \/
 (a3k p = true /\ (∃ f ∈ p.Funcs, Bad p f) /\ o = ([], 50)) \/
 (a3k p = true /\ (∀ f ∈ p.Funcs, ∃ R, Sol p f R) /\ (∃ f ∈ p.Funcs, Deep p f) /\ o = ([], 31)) \/
 (a3k p = true /\ (∀ f ∈ p.Funcs, ¬ Deep p f) /\ o.2 = 0 /\ o.1.length = p.Funcs.length /\ ∀ (k : Nat) f, p.Funcs[k]? = some f -> ∃ l, o.1[k]? = some l /\ b6w p f l)
structure c4H (p : Program) (j : Nat) (s : Bool × List (List ByteArray)) : Prop where
 l2 : s.2.length = j
 dp : s.1 = true ↔ ∃ (k : Nat) (f : Func), k < j /\ p.Funcs[k]? = some f /\ Deep p f
 ok : ∀ (k : Nat) f, k < j -> p.Funcs[k]? = some f -> ∃ l, s.2[k]? = some l /\ b6w p f l

theorem b2f (p : Program) (hl : p.Funcs.length <= 1048576) (hu : ∀ f ∈ p.Funcs, ∀ k ∈ f.Locals, 0 <= k) : ∃ o, u1 1048577 p = some o /\ c2r p o := by
 unfold u1
 obtain ⟨l, he⟩ := b3H p hu
 rw [he]
 simp only [Option.bind_some]
 cases henc : encP p with
 | false => exact ⟨([], 30), rfl, .inl ⟨henc, rfl⟩⟩
 | true =>
   simp only [Bool.not_true, Bool.false_eq_true, if_false]
   rw [a8H p hl]
   simp only [Option.bind_some]
   cases hbd : a1J p with
   | false => exact ⟨([], 31), rfl, .inr (.inl ⟨henc, hbd, rfl⟩)⟩
   | true =>
     simp only [Bool.not_true, Bool.false_eq_true, if_false]
     have henc2 := henc
     unfold encP at henc2
     simp only [Bool.and_eq_true, decide_eq_true_eq, List.all_eq_true] at henc2
     have hmain : ∀ {β : Type} (K : Bool -> Option β), jp K (fun k_3 => ((j9 p.Funcs 0).bind fun y_5 => (if (y_5.Params != 0) then (k_3 true) else (k_3 y_5.Result)))) = K (!a5I p) := by
      intro β K
      unfold jp a5I
      match hf : p.Funcs with
      | [] => rw [hf] at henc2; simp at henc2
      | f :: r =>
        show ((j9 (f :: r) ((0 : Nat) : Int)).bind _) = _
        rw [r5]
        simp only [List.getElem?_cons_zero, Option.bind_some]
        by_cases h0 : f.Params = 0
        ·simp [h0]
        ·have : (f.Params != 0) = true := by simpa using h0
         simp [h0, this]
     rw [hmain]
     cases hm : a5I p with
     | false => exact ⟨([], 50), rfl, .inr (.inr (.inl ⟨henc, hbd, by rw [hm]; rfl, rfl⟩))⟩
     | true =>
       simp only [Bool.not_true, Bool.false_eq_true, if_false]
       have L := rng_inv (σ := Unit) (ρ := Option (List (List ByteArray) × Int)) (xs := p.Funcs) (s0 := ()) (a2m p) (some ([], 50)) (fun _ _ => True)
        (body := fun (i_7 : Nat) (f_8 : Func) (s_6 : Unit) => (((q8 p f_8).bind fun nam_10 => (if (!nam_10) then (some (.ret (some ([], 50)))) else (some (.nxt ())))) : Option (Stp Unit (Option ((List (List ByteArray)) × Int))))) zO trivial (fun i x s hx _ => by
         rw [b2e p x (henc2.2 x (List.mem_of_getElem? hx)) hl]
         cases a2m p x with
         | false => rfl
         | true => exact ⟨(), rfl, trivial⟩)
       cases hh : p.Funcs.all (a2m p) with
       | false =>
         rw [hh] at L
         simp only [Bool.false_eq_true, if_false] at L
         rw [L]
         exact ⟨([], 50), rfl, .inr (.inr (.inl ⟨henc, hbd, by rw [hm, hh]; rfl, rfl⟩))⟩
       | true =>
         rw [hh] at L
         simp only [if_true] at L
         obtain ⟨_, e1, _⟩ := L
         rw [e1]
         simp only [Option.bind_some, oc]
         have hgood : a3k p = true := by unfold a3k; rw [henc, hbd, hm, hh]; rfl
         have h01 : ∀ g ∈ p.Funcs, K01 g.Locals := fun g hg k hk => by
          have h1 := henc2.2 g hg
          unfold a0x at h1
          simp only [Bool.and_eq_true, decide_eq_true_eq, List.all_eq_true] at h1
          have h2 := h1.2.1 k hk
          have h3 := hu g hg k hk
          omega
         refine a5H (rng_ex (c4H p) _ zO ?h0 ?h ?hQ)
         case h0 => exact ⟨rfl, ⟨fun e => (Bool.false_ne_true e).elim, fun ⟨k, f, hk, _⟩ => by omega⟩, fun k f hk => by omega⟩
         case hQ =>
          intro s hs
          cases hd : s.1 with
          | true =>
            refine ⟨([], 31), by simp only [oc]; rw [hd]; rfl, .inr (.inr (.inr (.inr (.inl ⟨hgood, fun f hf => ?_, ?_, rfl⟩))))⟩
            ·obtain ⟨k, hk⟩ := List.getElem?_of_mem hf
             obtain ⟨_, _, R, hR, _⟩ := hs.ok k f (List.getElem?_eq_some_iff.1 hk).1 hk
             exact ⟨R, hR⟩
            ·obtain ⟨k, f, _, h2, h3⟩ := hs.dp.1 hd
             exact ⟨f, List.mem_of_getElem? h2, h3⟩
          | false =>
            refine ⟨(s.2, 0), by simp only [oc]; rw [hd]; rfl, .inr (.inr (.inr (.inr (.inr ⟨hgood, fun f hf hdp => ?_, rfl, hs.l2, fun k f hk => hs.ok k f (List.getElem?_eq_some_iff.1 hk).1 hk⟩))))⟩
            obtain ⟨k, hk⟩ := List.getElem?_of_mem hf
            have := hs.dp.2 ⟨k, f, (List.getElem?_eq_some_iff.1 hk).1, hk, hdp⟩
            rw [hd] at this; cases this
         intro i f s hi hs
         have hmem := List.mem_of_getElem? hi
         have hilt := (List.getElem?_eq_some_iff.1 hi).1
         have hF := a4X hgood hmem
         obtain ⟨o, ho, ha⟩ := b2d p f hF h01 (h01 f hmem)
         rw [ho]
         simp only [Option.bind_some]
         rcases ha with ⟨hb, rfl⟩ | ⟨R, hR, h0, h3, h1, h4⟩
         ·right
          exact ⟨some ([], 50), rfl, _, rfl, .inr (.inr (.inr (.inl ⟨hgood, ⟨f, hmem, hb⟩, rfl⟩)))⟩
         ·left
          rw [h0]
          simp only [Bool.not_true, Bool.false_eq_true, if_false]
          have hjp : ∀ {β : Type} (K : Bool -> Option β), jp K (fun k_16 => (if s.1 then (k_16 true) else (k_16 o.2.1))) = K (s.1 || o.2.1) := by
           intro β K; unfold jp; cases s.1 <;> rfl
          rw [hjp, appL_of (by have := hs.l2; simp; omega)]
          simp only [Option.bind_some]
          refine ⟨_, rfl, by simp [hs.l2], ?_, fun k g hk hg => ?_⟩
          ·simp only [Bool.or_eq_true]
           constructor
           ·rintro (e | e)
            ·obtain ⟨k, g, a, b, c⟩ := hs.dp.1 e
             exact ⟨k, g, by omega, b, c⟩
            ·exact ⟨i, f, by omega, hi, h3.1 e⟩
           ·rintro ⟨k, g, a, b, c⟩
            by_cases e : k = i
            ·subst e
             rw [hi] at b; cases b
             exact .inr (h3.2 c)
            ·exact .inl (hs.dp.2 ⟨k, g, by omega, b, c⟩)
          ·by_cases e : k = i
           ·subst e
            rw [hi] at hg; cases hg
            refine ⟨o.1, ?_, R, hR, h1, h4⟩
            show (s.2 ++ [o.1])[k]? = _
            rw [List.getElem?_append_right (by rw [hs.l2]; exact Nat.le_refl _), hs.l2]; simp
           ·obtain ⟨l, a, c⟩ := hs.ok k g zO hg
            refine ⟨l, ?_, c⟩
            show (s.2 ++ [o.1])[k]? = _
            rw [List.getElem?_append_left (by rw [hs.l2]; omega)]; exact a

theorem b6x (p : Program) (hl : p.Funcs.length <= 1048576) (hs : ∀ f ∈ p.Funcs, f.Locals.length <= 1048576 /\ f.Code.length <= 1048576) : v6 p = some p := by
 unfold v6
 have L := rng_inv (σ := List Func) (ρ := Option Program) (xs := p.Funcs) (s0 := []) (fun _ => true) none (fun i s => s = p.Funcs.take i)
  (body := fun (i_2 : Nat) (f_3 : Func) (s_1 : (List Func)) => (((a1i 1 ([] : List Int) f_3.Locals).bind fun l_5 => ((a1i 24 ([] : List Instr) f_3.Code).bind fun l_6 => ((a1i 72 s_1 [(Func.mk f_3.Params l_5 f_3.Result f_3.Keep l_6)]).bind fun l_7 => (some (.nxt l_7))))) : Option (Stp (List Func) (Option Program)))) zO rfl (fun i x s hx e => by
   subst e
   have hlt := (List.getElem?_eq_some_iff.1 hx).1
   have hb := hs x (List.mem_of_getElem? hx)
   rw [if_pos rfl, appL_of zE]
   simp only [Option.bind_some]
   rw [appL_of zE]
   simp only [Option.bind_some]
   rw [appL_of zE]
   refine ⟨_, rfl, ?_⟩
   rw [List.take_succ_eq_append_getElem hlt]
   rw [List.getElem?_eq_getElem hlt] at hx
   cases hx
   rfl)
 simp only [List.all_eq_true, implies_true, if_true] at L
 obtain ⟨s, e1, e2⟩ := L
 rw [e1, e2]
 simp [oc]

theorem a8I {ρ : Type} {n : Nat} {σ : Type} (s : σ) {body : Nat -> σ -> Option (Stp σ ρ)} (hn : n <= 4611686018427387904) (h : ∀ i, i < n -> body i s = some (.nxt s)) : rni body (n : Int) s = some (.fin s) := by
 obtain ⟨s', e1, e2⟩ := rni_inv (body := body) (n := (n : Int)) (s0 := s) (fun _ q => q = s) zO rfl (fun i q hi e => by subst e; exact ⟨q, h i zO, rfl⟩)
 rw [e1, e2]
theorem b6y (p : Program) (hl : p.Funcs.length <= 1048576) (hs : ∀ f ∈ p.Funcs, f.Locals.length <= 1048576 /\ f.Code.length <= 1048576) : v7 p p = some true := by
 unfold v7
 simp only [bne_self_eq_false, Bool.false_eq_true, if_false]
 rw [a8I p zO (fun i hi => ?_)]
 ·rfl
 have hlt : i < p.Funcs.length := hi
 have hb := hs _ (List.getElem_mem hlt)
 rw [r5, List.getElem?_eq_getElem hlt]
 simp only [Option.bind_some]
 generalize p.Funcs[i] = f at hb
 have e5 : ∀ {β : Type} (K : Bool -> Option β), jp K (fun k_5 => (if (f.Params != f.Params) then (k_5 true) else (if (!(f.Result == f.Result)) then (k_5 true) else (if (f.Keep != f.Keep) then (k_5 true) else (if ((List.length f.Locals : Int) != (List.length f.Locals : Int)) then (k_5 true) else (k_5 ((List.length f.Code : Int) != (List.length f.Code : Int)))))))) = K false := by
  intro β K; unfold jp; simp
 rw [e5]
 simp only [Bool.false_eq_true, if_false]
 rw [a8I () zO (fun j hj => ?_)]
 ·simp only [Option.bind_some, oc]
  rw [a8I () zO (fun j hj => ?_)]
  ·rfl
  rw [r5, List.getElem?_eq_getElem hj]
  simp
 ·rw [r5, List.getElem?_eq_getElem hj]
  simp
end Go.Proofs.Ytnpemocpfdgaoaa

