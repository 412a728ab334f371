/- ScanRight: the law. -/
import Derived.Test.YtepdcebjobjjgaaDoorGenQ2
import Derived.Test.YtepdcebjobjjgaaDoorScQ1
import Derived.Test.YtepdcebjobjjgaaDoorGenB
import Derived.Test.YtepdcebjobjjgaaDoorWlH2
import Derived.WalkKit
import Derived.ProofKit
import Derived.OpenShut
import Derived.JoinedCond
import Derived.Test.YtepdcebjobjjgaaDoorWlTz
import Derived.Lib.LaidTab
import Derived.Deep.DeepHandedRow
set_option linter.unusedVariables false
set_option linter.unusedSimpArgs false
namespace Go.Proofs.YtepdcebjobjjgaaDoor
open Go Go.Ab
def c3i (sp : List b6) (K : Nat) (n : Nat) (b : List Int) : Prop :=
 b.length = K /\ ∀ p : Nat, p < K -> (∃ (i : Nat) (x : b6), i < n /\ sp[i]? = some x /\ x.Place = (p : Int) /\ b[p]? = some (i : Int)) \/ ((∀ x ∈ sp.take n, x.Place ≠ (p : Int)) /\ b[p]? = some (-1))
theorem b9p {sp : List b6} {K n : Nat} {b : List Int} {x : b6} (h : c3i sp K n b) (hx : sp[n]? = some x) (h0 : 0 <= x.Place) (h1 : x.Place < K) : c3i sp K (n + 1) (b.set x.Place.toNat (n : Int)) := by
 obtain ⟨hl, h⟩ := h
 obtain ⟨ht, _⟩ := a9t hx
 refine ⟨by rw [List.length_set]; exact hl, fun p hp => ?_⟩
 by_cases e : x.Place.toNat = p
 ·exact .inl ⟨n, x, Nat.lt_succ_self n, hx, by omega, by rw [e, List.getElem?_set_self zO]⟩
 ·rw [List.getElem?_set_ne e]
  rcases h p hp with ⟨i, y, a1, a2, a3, a4⟩ | ⟨a1, a2⟩
  ·exact .inl ⟨i, y, by omega, a2, a3, a4⟩
  ·refine .inr ⟨fun y hy => ?_, a2⟩
   rw [ht] at hy
   rcases List.mem_append.1 hy with hy | hy
   ·exact a1 y hy
   ·simp at hy; rw [hy]; omega
theorem b2Z {g : b5} (F : SpF g) {O : List Int} {m : List b6} {c : Int} {h : List (Int × Int)} {S : Sc} (hmp : m.Perm (y7 g)) (H : AInv g.Kinds m c h S O) : z7 100000000000 g O = some true := by
 have hK := F.kn
 have hsl := F.len
 have hol := H.ol
 have hkl : S.ks.length <= g.Kinds.length := by have := H.kl; have := hmp.length_eq; omega
 unfold z7
 rw [if_neg (by simp [hol]), F.spans]
 simp only [Option.bind_some]
 have hmk : mkL 8 (List.length g.Kinds : Int) (List.length g.Kinds : Int) (0 : Int) = some (List.replicate g.Kinds.length 0) := by
  unfold mkL
  rw [if_pos ⟨by omega, by omega, by omega, by omega⟩, Int.toNat_natCast]
 rw [hmk]
 simp only [Option.bind_some]
 have hin : ∀ x, x ∈ y7 g -> x ∈ m := fun x hx => hmp.mem_iff.2 hx
 have hmem := F.mem
 have hinc := F.inc
 generalize y7 g = sp at *
 refine b2r (fun i s => s.length = g.Kinds.length /\ ∀ k, k < i -> s[k]? = some (-1)) zE ⟨by simp, fun k hk => absurd hk (Nat.not_lt_zero k)⟩ (fun i s hi hI => ?_) (fun s hI => ?_)
 ·obtain ⟨hl, hI⟩ := hI
  have hil : i < s.length := by simp at hi; omega
  have hg : o6 s (i : Int) = some s[i] := by rw [a8U zO zO]; simp
  refine ⟨s.set i (-1), by rw [hg]; simp, by simpa using hl, fun k hk => ?_⟩
  by_cases e : i = k
  ·subst e; rw [List.getElem?_set_self hil]
  ·rw [List.getElem?_set_ne e]; exact hI k zO
 obtain ⟨hl, hI⟩ := hI
 refine a5p (fun i b => c3i sp g.Kinds.length i b) zO ⟨hl, fun p hp => .inr ⟨fun x hx => by simp at hx, hI p (by simpa using hp)⟩⟩ (fun i x b hx hB => ?_) (fun b hB => ?_)
 ·obtain ⟨m1, m2, _⟩ := hmem x (List.mem_of_getElem? hx)
  have hg : o6 b x.Place = some b[x.Place.toNat]! := by
   rw [a8U m1 (by have := hB.1; omega)]
   rw [getElem!_pos b x.Place.toNat (by have := hB.1; omega)]
  exact ⟨b.set x.Place.toNat (i : Int), by rw [hg]; rfl, b9p hB hx m1 m2⟩
 obtain ⟨hbl, hB⟩ := hB
 rw [List.take_length] at hB
 have hpk : ∀ x ∈ sp, ∃ p : Nat, p < g.Kinds.length /\ x.Place = (p : Int) := fun x hx => by
  obtain ⟨m1, m2, _⟩ := hmem x hx
  exact ⟨x.Place.toNat, by omega, by omega⟩
 have hplc : ∀ (x : b6) (p : Nat) (v : Int), x.Place = (p : Int) -> O[p]? = some v -> plc O x = v := fun x p v h1 h2 => by
  unfold plc; rw [h1, Int.toNat_natCast, List.getD_eq_getElem?_getD, h2]; rfl
 have hkd : ∀ (x : b6) (p : Nat), x.Place = (p : Int) -> p < g.Kinds.length -> o6 g.Kinds (p : Int) = some (kd g.Kinds x) := fun x p h1 h2 => by
  rw [n8]; unfold kd; rw [h1, Int.toNat_natCast, List.getD_eq_getElem?_getD, List.getElem?_eq_getElem h2]; rfl
 have val : ∀ (x : b6) (p : Nat) (v : Int), x ∈ sp -> x.Place = (p : Int) -> O[p]? = some v -> 0 <= v /\ ¬ (11 < v /\ v < 16) /\ v <= 15 + S.ks.length /\ (x.Held = true -> 6 <= v /\ (v < 16 -> kd g.Kinds x ≠ 1)) := fun x p v hx h1 h2 => by
  have e := hplc x p v h1 h2
  rcases H.pl x (hin x hx) with ⟨i, q1, q2, q3⟩ | ⟨i, q1, q2⟩
  ·rw [e] at q1
   exact ⟨by omega, by omega, by omega, fun hh => ⟨by have := (q3 hh).1; omega, fun _ => (q3 hh).2⟩⟩
  ·rw [e] at q1
   have := (List.getElem?_eq_some_iff.1 q2).1
   exact ⟨by omega, by omega, by omega, fun hh => ⟨by omega, fun hlt => by omega⟩⟩
 have hI64 : I64 (16 + (List.length g.Kinds : Int)) = 16 + (List.length g.Kinds : Int) := a3b zO
 refine a5p (fun _ s => 15 <= s /\ s <= 15 + (S.ks.length : Int)) zO ⟨by omega, by omega⟩ (fun i v s hv hs => ?_) (fun s hs => ?_)
 ·have hiK : i < g.Kinds.length := by have := (List.getElem?_eq_some_iff.1 hv).1; omega
  rcases hB i hiK with ⟨j, x, hj, hxj, hxp, hbi⟩ | ⟨hno, hbi⟩
  ·have hx := List.mem_of_getElem? hxj
   obtain ⟨v1, v2, v3, v4⟩ := val x i v hx hxp hv
   have hg1 : o6 b (i : Int) = some (j : Int) := by rw [n8]; exact hbi
   have hg2 : o6 sp (j : Int) = some x := by rw [n8]; exact hxj
   have hgk := hkd x i hxp hiK
   have inner : ∀ t : Int, ((rng (fun (i_28 : Nat) (y_29 : Int) (s_27 : Unit) => ((jp (fun (s_32 : Bool) => (if s_32 then (some (.nxt ())) else ((o6 b (i_28 : Int)).bind fun y_34 => ((o6 sp y_34).bind fun y_35 => (jp (fun (s_37 : Bool) => (if s_37 then (some (.ret (some (.ret (some false))))) else (some (.nxt ())))) (fun k_36 => (if (decide (x.From <= y_35.To)) then (if (decide (y_35.From <= x.To)) then (k_36 true) else (if (decide (v >= 16)) then ((o6 g.Kinds (i : Int)).bind fun y_38 => ((o6 g.Kinds (i_28 : Int)).bind fun y_39 => (k_36 (y_38 != y_39)))) else (k_36 false))) else (if (decide (v >= 16)) then ((o6 g.Kinds (i : Int)).bind fun y_40 => ((o6 g.Kinds (i_28 : Int)).bind fun y_41 => (k_36 (y_40 != y_41)))) else (k_36 false))))))))) (fun k_31 => (if ((i_28 : Int) == (i : Int)) then (k_31 true) else ((o6 b (i_28 : Int)).bind fun y_33 => (if (decide (y_33 < 0)) then (k_31 true) else (k_31 (v != y_29))))))) : Option (Stp Unit (Option (Stp Int (Option Bool)))))) O ()).bind (oc (fun (s_27 : Unit) => (some (.nxt t))))) = some (.nxt t) := fun t => by
    refine a5p (fun _ _ => True) zO trivial (fun q u _ hu _ => ⟨(), ?_, trivial⟩) (fun _ _ => rfl)
    have hqK : q < g.Kinds.length := by have := (List.getElem?_eq_some_iff.1 hu).1; omega
    simp only [jp]
    by_cases hqi : q = i
    ·subst hqi; simp
    ·have hqi' : ((q : Int) == (i : Int)) = false := by simp; omega
     rw [hqi']
     simp only [Bool.false_eq_true, if_false]
     rcases hB q hqK with ⟨k, y, hk, hyk, hyp, hbq⟩ | ⟨_, hbq⟩
     ·have hy := List.mem_of_getElem? hyk
      have hg3 : o6 b (q : Int) = some (k : Int) := by rw [n8]; exact hbq
      have hg4 : o6 sp (k : Int) = some y := by rw [n8]; exact hyk
      rw [hg3]
      simp only [Option.bind_some, show ¬ (k : Int) < 0 by omega, decide_false, Bool.false_eq_true, if_false, hg4]
      by_cases huv : v = u
      ·have hpw := H.pw x (hin x hx) y (hin y hy) zO (by rw [hplc x i v hxp hv, hplc y q u hyp hu, huv])
       have hge : v >= 16 -> kd g.Kinds x = kd g.Kinds y := fun h16 => by
        have e1 := hplc x i v hxp hv
        have e2 := hplc y q u hyp hu
        rcases H.pl x (hin x hx) with ⟨a, q1, q2, _⟩ | ⟨a, q1, q2⟩
        ·omega
        ·rcases H.pl y (hin y hy) with ⟨a', q1', q2', _⟩ | ⟨a', q1', q2'⟩
         ·omega
         ·have : a = a' := by omega
          subst this
          rw [q2] at q2'; exact Option.some.inj q2'
       rw [hgk, hkd y q hyp hqK]
       simp only [Option.bind_some]
       by_cases h16 : v >= 16
       ·rcases hpw with hlt | hlt
        ·by_cases q1 : x.From <= y.To
         ·simp [huv, q1, show ¬ y.From <= x.To by omega, hge h16]
         ·simp [huv, q1, hge h16]
        ·simp [huv, show ¬ x.From <= y.To by omega, hge h16]
       ·have h16u : ¬ u >= 16 := by omega
        rcases hpw with hlt | hlt
        ·by_cases q1 : x.From <= y.To
         ·simp [huv, q1, show ¬ y.From <= x.To by omega, h16u]
         ·simp [huv, q1, h16u]
        ·simp [huv, show ¬ x.From <= y.To by omega, h16u]
      ·simp [huv]
     ·have hg3 : o6 b (q : Int) = some (-1) := by rw [n8]; exact hbq
      rw [hg3]
      simp
   refine ⟨if v > s then v else s, ?_, by split <;> omega, by split <;> omega⟩
   simp only [jp, hgk, Option.bind_some] at inner
   rw [hg1]
   simp only [Option.bind_some, show ¬ (j : Int) < 0 by omega, decide_false, Bool.false_eq_true, if_false, hg2, jp, hI64, hgk]
   have n1 : ¬ v < 0 := by omega
   have n2 : ¬ v >= 16 + (List.length g.Kinds : Int) := by omega
   by_cases q1 : v > 11
   ·have n3 : ¬ v < 16 := by omega
    have n4 : ¬ v < 6 := by omega
    by_cases q2 : v > s <;> cases hh : x.Held <;> simpa [hgk, n1, n2, n3, n4, q1, q2] using inner (if v > s then v else s)
   ·by_cases q2 : v > s <;> cases hh : x.Held
    ·simpa [hgk, n1, n2, q1, q2] using inner (if v > s then v else s)
    ·obtain ⟨w1, w2⟩ := v4 hh
     simpa [hgk, n1, n2, q1, q2, show ¬ v < 6 by omega, show v < 16 by omega, w2 zO] using inner (if v > s then v else s)
    ·simpa [hgk, n1, n2, q1, q2] using inner (if v > s then v else s)
    ·obtain ⟨w1, w2⟩ := v4 hh
     simpa [hgk, n1, n2, q1, q2, show ¬ v < 6 by omega, show v < 16 by omega, w2 zO] using inner (if v > s then v else s)
  ·have hg1 : o6 b (i : Int) = some (-1) := by rw [n8]; exact hbi
   have hv1 : v = -1 := by
    have := H.un i hiK (fun x hx => hno x (hmp.mem_iff.1 hx))
    rw [hv] at this; exact Option.some.inj this
   refine ⟨s, ?_, hs⟩
   rw [hg1, hv1]; simp
 have loop : ∃ o, whileN (fun (s_42 : Int) => ((if (decide (s_42 <= s)) then ((rng (fun (i_44 : Nat) (y_45 : Int) (s_43 : Bool) => ((if s_43 then (some (.nxt true)) else (some (.nxt (s_42 == y_45)))) : Option (Stp Bool (Option (Stp Int (Option Bool)))))) O false).bind (oc (fun (s_43 : Bool) => (if (!s_43) then (some (.ret (some false))) else (some (.nxt (I64 (s_42 + 1)))))))) else (some (.brk s_42))) : Option (Stp Int (Option Bool)))) 100000000000 16 = some o /\ ∃ x, o = .fin x := by
  refine a4g (fun x => 16 <= x /\ x <= 16 + (S.ks.length : Int)) (fun x => (16 + (S.ks.length : Int) - x).toNat) (fun o => ∃ x, o = .fin x) (fun x hx => ?_) _ _ ⟨by omega, by omega⟩ zO
  by_cases hle : x <= s
  ·left
   obtain ⟨j, hj⟩ : ∃ j : Nat, x = 16 + (j : Int) := ⟨(x - 16).toNat, by omega⟩
   obtain ⟨y, hy, hyv⟩ := H.cv j zO
   obtain ⟨p, hp, hyp⟩ := hpk y (hmp.mem_iff.1 hy)
   have hOp : O[p]? = some x := by
    have : plc O y = x := by rw [hyv, hj]
    unfold plc at this
    rw [hyp, Int.toNat_natCast, List.getD_eq_getElem?_getD, List.getElem?_eq_getElem zO] at this
    rw [List.getElem?_eq_getElem zO]; exact congrArg some this
   refine ⟨x + 1, ?_, ⟨by omega, by omega⟩, by omega⟩
   have hI1 : I64 (x + 1) = x + 1 := a3b zO
   rw [if_pos (by simpa using hle), hI1]
   refine a5p (fun i b => b = true ↔ ∃ k, k < i /\ O[k]? = some x) zO zS (fun i v b hv hb => ?_) (fun b hb => ?_)
   ·cases b with
    | true =>
      obtain ⟨k, k1, k2⟩ := hb.1 rfl
      exact ⟨true, rfl, ⟨fun _ => ⟨k, by omega, k2⟩, fun _ => rfl⟩⟩
    | false =>
      have hno : ¬ ∃ k, k < i /\ O[k]? = some x := fun h => by have := hb.2 h; cases this
      refine ⟨x == v, rfl, ?_⟩
      constructor
      ·intro h
       have : x = v := by simpa using h
       exact ⟨i, Nat.lt_succ_self i, by rw [hv, this]⟩
      ·rintro ⟨k, k1, k2⟩
       by_cases hki : k = i
       ·rw [hki, hv] at k2; simp [Option.some.inj k2]
       ·exact absurd ⟨k, by omega, k2⟩ hno
   ·have : b = true := hb.2 ⟨p, by omega, hOp⟩
    rw [this]; rfl
  ·exact .inr (.inl ⟨x, by rw [if_neg (by simpa using hle)], x, rfl⟩)
 obtain ⟨o, e, hq⟩ := loop
 rw [e]
 obtain ⟨x, rfl⟩ := hq
 rfl
theorem b5s (G : f7) (f : Int) (hp : b9K G = true) : s9 100000000000 G f = some true := by
 unfold s9 a1e
 rw [b9o, if_pos hp, b6G]
 simp only [Option.bind_some, Bool.not_true, Bool.false_eq_true, if_false, jp]
 have hpos := a6L.1 hp
 have hnil : ∀ (h : ¬ ∃ g, a1h G = true /\ o6 G.Funcs f = some g), b0E G f = [] := fun h => by
  unfold b0E; rw [dif_neg]; rintro ⟨l, _, h1, g, h2, _⟩; exact h ⟨g, h1, h2⟩
 cases hR : a1h G with
 | true =>
   cases hgf : o6 G.Funcs f with
   | none =>
     have e : b0A G f = 2 := by unfold b0A; rw [if_pos hR, hgf]
     have hnr : f < 0 \/ f >= (G.Funcs.length : Int) := by
      by_cases h0 : f < 0
      ·exact .inl h0
      ·by_cases h1 : f >= (G.Funcs.length : Int)
       ·exact .inr h1
       ·rw [a8U zO zO] at hgf; cases hgf
     rw [e, hnil (by rintro ⟨g, _, h⟩; rw [hgf] at h; cases h)]
     rcases hnr with h | h
     ·simp [h]
     ·by_cases h0 : f < 0
      ·simp [h0]
      ·simp [h0, h]
   | some g =>
     have e : b0A G f = 0 := by unfold b0A; rw [if_pos hR, hgf]
     obtain ⟨h0, h1, h2⟩ := i8 hgf
     obtain ⟨m, c, h, S, hmp, H, room⟩ := (a9u hpos hR hgf).1
     rw [e]
     have := b2Z (spF hR hgf) hmp H
     simp [show ¬ f < 0 by omega, show ¬ f >= (G.Funcs.length : Int) by omega, this]
 | false =>
   have e : b0A G f = 70 := by unfold b0A; rw [if_neg (by rw [hR]; simp)]
   rw [e, hnil (by rintro ⟨g, h, _⟩; rw [hR] at h; cases h)]; rfl
open Go Go.Ab Go.RowKit
set_option maxRecDepth 20000
theorem b5t {H : Type} {d : DataW H} {l : List (DataW H)} (h : d ∈ l) : Rows.uptoBulk d <= Rows.uptoBulkAll l := by
 induction l with
 | nil => cases h
 | cons x r ih =>
   simp only [Rows.uptoBulkAll]
   rcases List.mem_cons.1 h with e | e
   ·subst e; omega
   ·have := ih e; omega
theorem c1z {H : Type} (d : DataW H) : 1 <= Rows.uptoBulk d := by
 cases d with
 | lit l => cases l <;> simp [Rows.uptoBulk]
 | _ => simp [Rows.uptoBulk]
theorem b5u {H : Type} (l : List (DataW H)) : l.length <= Rows.uptoBulkAll l := by
 induction l with
 | nil => simp [Rows.uptoBulkAll]
 | cons x r ih => have := c1z x; simp only [Rows.uptoBulkAll, List.length_cons]; omega
theorem c3j {H : Type} : c2h (H := H) Rows.uptoBulk :=
 ⟨fun bytes => by simp [Rows.uptoBulk], fun e s => by have := b5u e; simp only [Rows.uptoBulk]; omega, fun e s d h => by have := b5t h; simp only [Rows.uptoBulk]; omega, fun p d h => by have := b5t h; simp only [Rows.uptoBulk]; omega⟩

theorem a2I : Tryd.prog.cellsOf 3 = 1 := by kernel_rfl
theorem b9q : Tryd.prog.cellsOf 49 = 1 := by kernel_rfl
theorem b9r : Tryd.prog.cellsOf 39 = 1 := by kernel_rfl
theorem b9s : Tryd.prog.cellsOf 40 = 1 := by kernel_rfl
theorem b9t : Tryd.prog.cellsOf 41 = 1 := by kernel_rfl
theorem b1B : Tryd.prog.cellsOf 26 = 1 := by kernel_rfl
theorem b5v : Tryd.prog.cellsOf 43 = 12 := by kernel_rfl
def g6.Ok (N : Nat) (x : g6) : Prop := (fun n => (Lit.int .u8 n).wf = true) x.Op /\ (fun n => (Lit.int .u8 n).wf = true) x.By /\ (fun n => (Lit.int .i64 n).wf = true) x.D /\ (fun n => (Lit.int .i64 n).wf = true) x.E /\ (fun n => (Lit.int .i64 n).wf = true) x.A /\ (fun n => (Lit.int .i64 n).wf = true) x.B /\ (fun n => (Lit.int .i64 n).wf = true) x.F /\ (fun n => (Lit.int .i64 n).wf = true) x.Cell /\ (fun n => (Lit.int .u64 n).wf = true) x.Imm /\ (fun l => List.length l <= N /\ ∀ a ∈ l, (fun n => (Lit.int .i64 n).wf = true) a) x.Args /\ (fun n => (Lit.int .i64 n).wf = true) x.Next /\ (fun n => (Lit.int .i64 n).wf = true) x.Else
theorem g6.rd {N : Nat} : Rd Tryd.prog N g6.av (g6.Ok N) 43 := by
 intro avs ht
 obtain ⟨hl, hf⟩ := a7k Tryd.underlying43 ht
 have e0 : Ty Tryd.prog N 39 ((avs.drop 0).take (Tryd.prog.cellsOf 39)) := hf 0 _ rfl
 rw [b9r] at e0
 obtain ⟨a0, h0, q0⟩ := (rdI Tryd.underlying39) _ e0
 have e1 : Ty Tryd.prog N 40 ((avs.drop 1).take (Tryd.prog.cellsOf 40)) := hf 1 _ rfl
 rw [b9s] at e1
 obtain ⟨a1, h1, q1⟩ := (rdI Tryd.underlying40) _ e1
 have e2 : Ty Tryd.prog N 3 ((avs.drop 2).take (Tryd.prog.cellsOf 3)) := hf 2 _ rfl
 rw [a2I] at e2
 obtain ⟨a2, h2, q2⟩ := (rdI Tryd.underlying3) _ e2
 have e3 : Ty Tryd.prog N 3 ((avs.drop 3).take (Tryd.prog.cellsOf 3)) := hf 3 _ rfl
 rw [a2I] at e3
 obtain ⟨a3, h3, q3⟩ := (rdI Tryd.underlying3) _ e3
 have e4 : Ty Tryd.prog N 3 ((avs.drop 4).take (Tryd.prog.cellsOf 3)) := hf 4 _ rfl
 rw [a2I] at e4
 obtain ⟨a4, h4, q4⟩ := (rdI Tryd.underlying3) _ e4
 have e5 : Ty Tryd.prog N 3 ((avs.drop 5).take (Tryd.prog.cellsOf 3)) := hf 5 _ rfl
 rw [a2I] at e5
 obtain ⟨a5, h5, q5⟩ := (rdI Tryd.underlying3) _ e5
 have e6 : Ty Tryd.prog N 3 ((avs.drop 6).take (Tryd.prog.cellsOf 3)) := hf 6 _ rfl
 rw [a2I] at e6
 obtain ⟨a6, h6, q6⟩ := (rdI Tryd.underlying3) _ e6
 have e7 : Ty Tryd.prog N 3 ((avs.drop 7).take (Tryd.prog.cellsOf 3)) := hf 7 _ rfl
 rw [a2I] at e7
 obtain ⟨a7, h7, q7⟩ := (rdI Tryd.underlying3) _ e7
 have e8 : Ty Tryd.prog N 41 ((avs.drop 8).take (Tryd.prog.cellsOf 41)) := hf 8 _ rfl
 rw [b9t] at e8
 obtain ⟨a8, h8, q8⟩ := (rdI Tryd.underlying41) _ e8
 have e9 : Ty Tryd.prog N 26 ((avs.drop 9).take (Tryd.prog.cellsOf 26)) := hf 9 _ rfl
 rw [b1B] at e9
 obtain ⟨a9, h9, q9⟩ := (rdL (g5 .i64) (fun fs h => by rw [Tryd.underlying3] at h; cases h) Tryd.underlying26 a2I (rdI Tryd.underlying3)) _ e9
 have e10 : Ty Tryd.prog N 3 ((avs.drop 10).take (Tryd.prog.cellsOf 3)) := hf 10 _ rfl
 rw [a2I] at e10
 obtain ⟨a10, h10, q10⟩ := (rdI Tryd.underlying3) _ e10
 have e11 : Ty Tryd.prog N 3 ((avs.drop 11).take (Tryd.prog.cellsOf 3)) := hf 11 _ rfl
 rw [a2I] at e11
 obtain ⟨a11, h11, q11⟩ := (rdI Tryd.underlying3) _ e11
 refine ⟨⟨a0, a1, a2, a3, a4, a5, a6, a7, a8, a9, a10, a11⟩, ?_, ⟨q0, q1, q2, q3, q4, q5, q6, q7, q8, q9, q10, q11⟩⟩
 have := (a0D h0 (a0D h1 (a0D h2 (a0D h3 (a0D h4 (a0D h5 (a0D h6 (a0D h7 (a0D h8 (a0D h9 (a0D h10 (a0D h11 (b4d (hl.trans b5v))))))))))))))
 exact this
theorem b9u : Tryd.prog.cellsOf 32 = 1 := by kernel_rfl
theorem c1A : Tryd.prog.cellsOf 4 = 1 := by kernel_rfl
theorem b9v : Tryd.prog.cellsOf 33 = 1 := by kernel_rfl
theorem b5w : Tryd.prog.cellsOf 35 = 8 := by kernel_rfl
def b5.Ok (N : Nat) (x : b5) : Prop := (fun l => List.length l <= N /\ ∀ a ∈ l, (fun n => (Lit.int .i64 n).wf = true) a) x.Params /\ (fun l => List.length l <= N /\ ∀ a ∈ l, (fun n => (Lit.int .u8 n).wf = true) a) x.Kinds /\ (fun n => (Lit.int .i64 n).wf = true) x.Cells /\ (fun l => List.length l <= N /\ ∀ a ∈ l, (fun n => (Lit.int .i64 n).wf = true) a) x.Init /\ (fun _ => True) x.Result /\ (fun n => (Lit.int .i64 n).wf = true) x.Keep /\ (fun l => List.length l <= N /\ ∀ a ∈ l, (g6.Ok N) a) x.Nodes /\ (fun n => (Lit.int .i64 n).wf = true) x.Entry
theorem b5.rd {N : Nat} : Rd Tryd.prog N b5.av (b5.Ok N) 35 := by
 intro avs ht
 obtain ⟨hl, hf⟩ := a7k Tryd.underlying35 ht
 have e0 : Ty Tryd.prog N 26 ((avs.drop 0).take (Tryd.prog.cellsOf 26)) := hf 0 _ rfl
 rw [b1B] at e0
 obtain ⟨a0, h0, q0⟩ := (rdL (g5 .i64) (fun fs h => by rw [Tryd.underlying3] at h; cases h) Tryd.underlying26 a2I (rdI Tryd.underlying3)) _ e0
 have e1 : Ty Tryd.prog N 32 ((avs.drop 1).take (Tryd.prog.cellsOf 32)) := hf 1 _ rfl
 rw [b9u] at e1
 obtain ⟨a1, h1, q1⟩ := (rdL (g5 .u8) (fun fs h => by rw [Tryd.underlying49] at h; cases h) Tryd.underlying32 b9q (rdI Tryd.underlying49)) _ e1
 have e2 : Ty Tryd.prog N 3 ((avs.drop 2).take (Tryd.prog.cellsOf 3)) := hf 2 _ rfl
 rw [a2I] at e2
 obtain ⟨a2, h2, q2⟩ := (rdI Tryd.underlying3) _ e2
 have e3 : Ty Tryd.prog N 26 ((avs.drop 3).take (Tryd.prog.cellsOf 26)) := hf 3 _ rfl
 rw [b1B] at e3
 obtain ⟨a3, h3, q3⟩ := (rdL (g5 .i64) (fun fs h => by rw [Tryd.underlying3] at h; cases h) Tryd.underlying26 a2I (rdI Tryd.underlying3)) _ e3
 have e4 : Ty Tryd.prog N 4 ((avs.drop 4).take (Tryd.prog.cellsOf 4)) := hf 4 _ rfl
 rw [c1A] at e4
 obtain ⟨a4, h4, q4⟩ := (rdB Tryd.underlying4) _ e4
 have e5 : Ty Tryd.prog N 3 ((avs.drop 5).take (Tryd.prog.cellsOf 3)) := hf 5 _ rfl
 rw [a2I] at e5
 obtain ⟨a5, h5, q5⟩ := (rdI Tryd.underlying3) _ e5
 have e6 : Ty Tryd.prog N 33 ((avs.drop 6).take (Tryd.prog.cellsOf 33)) := hf 6 _ rfl
 rw [b9v] at e6
 obtain ⟨a6, h6, q6⟩ := (rdL g6.enc ⟨_, Tryd.underlying43⟩ Tryd.underlying33 b5v g6.rd) _ e6
 have e7 : Ty Tryd.prog N 3 ((avs.drop 7).take (Tryd.prog.cellsOf 3)) := hf 7 _ rfl
 rw [a2I] at e7
 obtain ⟨a7, h7, q7⟩ := (rdI Tryd.underlying3) _ e7
 refine ⟨⟨a0, a1, a2, a3, a4, a5, a6, a7⟩, ?_, ⟨q0, q1, q2, q3, q4, q5, q6, q7⟩⟩
 have := (a0D h0 (a0D h1 (a0D h2 (a0D h3 (a0D h4 (a0D h5 (a0D h6 (a0D h7 (b4d (hl.trans b5w))))))))))
 exact this
theorem b9w : Tryd.prog.cellsOf 22 = 1 := by kernel_rfl
theorem b9x : Tryd.prog.cellsOf 24 = 1 := by kernel_rfl
def f7.Ok (N : Nat) (x : f7) : Prop := (fun l => List.length l <= N /\ ∀ a ∈ l, (b5.Ok N) a) x.Funcs
theorem f7.rd {N : Nat} : Rd Tryd.prog N f7.av (f7.Ok N) 24 := by
 intro avs ht
 obtain ⟨hl, hf⟩ := a7k Tryd.underlying24 ht
 have e0 : Ty Tryd.prog N 22 ((avs.drop 0).take (Tryd.prog.cellsOf 22)) := hf 0 _ rfl
 rw [b9w] at e0
 obtain ⟨a0, h0, q0⟩ := (rdL b5.enc ⟨_, Tryd.underlying35⟩ Tryd.underlying22 b5w b5.rd) _ e0
 refine ⟨⟨a0⟩, ?_, q0⟩
 have := (a0D h0 (b4d (hl.trans b9x)))
 exact this

theorem own : ownKnob Tryd.prog.godebug = none := by kernel_rfl
theorem b5x : laidOutB Tryd.prog = true := by kernel_rfl
theorem okp {N : Nat} {G : f7} (h : f7.Ok N G) : b9K G = true := by
 refine a6L.2 (fun g hg k hk => ?_)
 have h1 := (h.2 g hg).2.1.2 k hk
 simp [Lit.wf, IntKind.min, IntKind.max, IntKind.bits, IntKind.signed] at h1; omega
theorem b3a (G : f7) (f : Int) (hG : f7.Ok 1048576 G) (hf : (Lit.int .i64 f).wf = true) : s9 100000000000 G f = some true := b5s G f (okp hG)
theorem b9y : (Rows.laid_math_bits_deBruijn64tab : DataW Unit) = Lib.tabData .u8 tzT := by kernel_rfl
theorem b9z {P : Program} {W : World} {nm : String} {k : IntKind} {zs : List Int} {b : Nat} (hg : P.globalNamed nm = some b) (h : Lib.TabIs P W nm k zs) : ∃ t fz, W.heap[b]? = some (.cells (zs.map fun z => Value.int k z).toArray t fz) := by
 unfold Lib.TabIs World.var? at h
 rw [hg, Option.bind_some] at h
 cases e2 : W.heap[b]? with
 | none => rw [e2] at h; cases h
 | some o =>
   rw [e2] at h
   cases o with
   | cells c t fz => cases h; exact ⟨t, fz, rfl⟩
   | _ => cases h
theorem c1B {nm : String} (h0 : Tryd.prog.globalNamed nm = some 0) {W : World} (h : laidMet Tryd.prog [(nm, Rows.laid_math_bits_deBruijn64tab)] W) : b2x W.heap.size W := by
 have h' := h
 rw [b9y] at h'
 have hp := Lib.tabIs_of_head (rest := []) h0 (t := 147) (e := 5) (n := 64) zK Tryd.underlying147 Tryd.underlying5 zK zK h'
 obtain ⟨t, fz, q⟩ := b9z h0 hp
 intro b p e
 match b, e with
 | 0, e => cases Option.some.inj e; exact ⟨(Array.getElem?_eq_some_iff.1 q).1, _, t, fz, q, rfl⟩
 | n + 1, e => cases e
end Go.Proofs.YtepdcebjobjjgaaDoor

