/- Runs of checked programs: rows of frames, what a panic and a return come to. -/
import Derived.Test.YtnpemocpfdgaoaaSeT1
set_option linter.unusedVariables false
set_option linter.unusedSimpArgs false
namespace Go.Proofs.Ytnpemocpfdgaoaa
open Go Go.Ab Go.RowKit
set_option maxRecDepth 20000
def a0B (rows : List ARow) : List Func := rows.map (·.fr.f)
def DOK (p : Program) (fs : List Func) (d : a0y) : Prop := ∃ g, j7 p.Funcs d.f = some g /\ LOK fs (g.Locals.take g.Params.toNat) d.args
structure FB (p : Program) (n : Nat) (r : List ARow) (z : ARow) : Prop where
 mem : z.fr.f ∈ p.Funcs
 lo : LOK (a0B (z :: r)) z.fr.f.Locals z.fr.lo
 nu : z.fr.nu = (r.length : Int)
 df : ∀ d ∈ z.df, DOK p (a0B (z :: r)) d
 pc : 0 <= z.fr.pc /\ z.fr.pc <= z.fr.f.Code.length
 st : z.fr.st.length <= 2 * n
 ret : WV z.ret
def c5B (p : Program) (r : List ARow) (y : ARow) : Prop := ∃ R s0 i g, Sol p y.fr.f R /\ j7 y.fr.f.Code (y.fr.pc - 1) = some i /\ j7 p.Funcs i.Arg = some g /\ 1 <= y.fr.pc /\
 R y.fr.pc.toNat = some (s0 ++ if g.Result = true then [0] else []) /\ LOK (a0B (y :: r)) s0.reverse y.fr.st
def b5R (p : Program) (r : List ARow) (z : ARow) : Prop := ∃ R s, Sol p z.fr.f R /\ 0 <= z.fr.pc /\ R z.fr.pc.toNat = some s /\ LOK (a0B (z :: r)) s.reverse z.fr.st
def RT (p : Program) (n : Nat) : List ARow -> Prop
 | [] => True
 | z :: r => FB p n r z /\ (z.why = 0 -> ∀ y t, r = y :: t -> c5B p t y) /\ RT p n r
def w2 : List ARow -> Nat
 | [] => 0
 | z :: r => (if z.why = 2 then 1 else 0) + w2 r
def dfS : List ARow -> Nat
 | [] => 0
 | z :: r => z.df.length + dfS r
structure a5p (p : Program) : Prop where
 ok : a3K p = true
 sol : ∀ f ∈ p.Funcs, ∃ R, Sol p f R
 imm : ∀ f ∈ p.Funcs, ∀ i ∈ f.Code, WV i.Imm
theorem FB.up {p n r z} (h : FB p n r z) : FB p (n + 1) r z := ⟨h.mem, h.lo, h.nu, h.df, h.pc, by have := h.st; omega, h.ret⟩
theorem RT.up {p n} : ∀ {rows : List ARow}, RT p n rows -> RT p (n + 1) rows
 | [], _ => trivial
 | _ :: _, h => ⟨h.1.up, h.2.1, h.2.2.up⟩
theorem a4t {z : ARow} {r : List ARow} : w2 (z :: r) = (if z.why = 2 then 1 else 0) + w2 r := rfl
theorem b7W : ∀ rows : List ARow, w2 rows <= rows.length
 | [] => Nat.le_refl _
 | z :: r => by have := b7W r; unfold w2; split <;> simp <;> omega
theorem b7X : ∀ {rows : List ARow} {z : ARow}, z ∈ rows -> z.df.length <= dfS rows
 | x :: r, z, h => by
   unfold dfS
   rcases List.mem_cons.1 h with rfl | h
   ·omega
   ·have := b7X h; omega
theorem RT.mem {p n} : ∀ {rows : List ARow} {z : ARow}, RT p n rows -> z ∈ rows -> ∃ r, FB p n r z
 | x :: r, z, h, hm => by
   rcases List.mem_cons.1 hm with rfl | hm
   ·exact ⟨r, h.1⟩
   ·exact h.2.2.mem hm
theorem r7 {p : Program} {f : Func} (h : FOk p f) : 0 <= f.Params /\ f.Params <= f.Locals.length /\ f.Locals.length <= 16 /\ f.Code.length <= 256 /\ f.Keep < f.Locals.length := by
 have h1 := a1U h.fp
 have h2 := h.bd
 unfold a3b at h2
 simp only [decide_eq_true_eq] at h2
 have h3 := h.hd
 unfold a2w a9n at h3
 simp only [Bool.and_eq_true, decide_eq_true_eq] at h3
 exact ⟨h1.1, h1.2.1, h2.2.1, h2.2.2, h3.1.1.2⟩
theorem a5p.fok {p f} (G : a5p p) (h : f ∈ p.Funcs) : FOk p f := a8k G.ok h
theorem a1c {α : Type} {l : List α} {k : Int} {x : α} (h : j7 l k = some x) : x ∈ l := List.mem_of_getElem? (d9 h).2.2
theorem a8l {p : Program} (G : a5p p) {fs : List Func} {k : Int} {ag : List Int} {g : Func} (m : Nat) (hg : j7 p.Funcs k = some g) (h : LOK fs (g.Locals.take g.Params.toNat) ag) :
  ∃ lo, a1e p k ag m = some ⟨g, lo, [], 0, (m : Int) - 1⟩ /\ LOK (g :: fs) g.Locals lo := by
 have hb := r7 (G.fok (a1c hg))
 have hl := h.len
 rw [List.length_take] at hl
 refine ⟨ag ++ List.replicate (g.Locals.length - ag.length) 0, ?_, ?_⟩
 ·unfold a1e
  rw [hg, Option.bind_some, if_pos zO]
 ·have h2 : LOK (g :: fs) (g.Locals.drop g.Params.toNat) (List.replicate (g.Locals.length - ag.length) 0) := by
   have := LOK.zeros (fs := g :: fs) (g.Locals.drop g.Params.toNat)
   rw [List.length_drop] at this
   rw [show g.Locals.length - ag.length = g.Locals.length - g.Params.toNat by omega]
   exact this
  have := (h.up (g := g)).app h2
  rwa [List.take_append_drop] at this
theorem a6F {p : Program} (G : a5p p) {g : Func} (hg : g ∈ p.Funcs) {r : List ARow} {w : Int} {lo : List Int} {nu : Int} : b5R p r ⟨⟨g, lo, [], 0, nu⟩, w, [], 0⟩ := by
 obtain ⟨R, hR⟩ := G.sol g hg
 exact ⟨R, [], hR, Int.le_refl _, hR.1, trivial⟩
theorem b3W {p : Program} (G : a5p p) {n : Nat} {z : ARow} {r : List ARow} {x : a0y} {df : List a0y} {w : Int} (hw : w ≠ 0) (hz : z.df = x :: df) (h : RT p n (z :: r)) :
  ∃ f, a1e p x.f x.args (r.length + 2) = some f /\ b5R p ({ z with df := df } :: r) ⟨f, w, [], 0⟩ /\ RT p n (⟨f, w, [], 0⟩ :: { z with df := df } :: r) := by
 obtain ⟨g, hg, ha⟩ := h.1.df x (by rw [hz]; exact .head _)
 obtain ⟨lo, h1, h2⟩ := a8l G (r.length + 2) hg ha
 have hm := a1c hg
 refine ⟨_, h1, a6F G hm, ⟨⟨hm, h2, ?_, nofun, ⟨Int.le_refl _, by show (0 : Int) <= _; omega⟩, Nat.zero_le _, .zero⟩, fun e => absurd e hw, ⟨⟨h.1.mem, h.1.lo, h.1.nu, fun d hd => h.1.df d (by rw [hz]; exact .tail _ hd), h.1.pc, h.1.st, h.1.ret⟩, h.2.1, h.2.2⟩⟩⟩
 show ((r.length + 2 : Nat) : Int) - 1 = ((r.length + 1 : Nat) : Int)
 omega
structure UOK (p : Program) (n : Nat) (rows : List ARow) (u : Option Int × List ARow × List n9) : Prop where
 go : u.1 = none -> (∃ z r, u.2.1 = z :: r /\ b5R p r z) /\ RT p n u.2.1 /\ u.2.2.length = w2 u.2.1 /\ dfS u.2.1 + 1 = dfS rows /\ ∀ a ∈ u.2.2, WV a.v
 len : u.2.1.length <= rows.length + 1
theorem a6G {p : Program} (G : a5p p) {n : Nat} : ∀ (rows : List ARow) (ps : List n9), rows ≠ [] -> RT p n rows -> ps.length = w2 rows + 1 -> (∀ a ∈ ps, WV a.v) -> ∃ u, x8 p rows ps = some u /\ UOK p n rows u
 | [], _, h, _, _, _ => absurd rfl h
 | z :: r, ps, _, h, hp, hv => by
   cases hz : z.df with
   | cons x df =>
     obtain ⟨f, h1, h2, h3⟩ := b3W G (w := 2) zD hz h
     refine ⟨(none, ⟨f, 2, [], 0⟩ :: { z with df := df } :: r, ps), ?_, fun _ => ⟨⟨_, _, rfl, h2⟩, h3, ?_, ?_, hv⟩, ?_⟩
     ·unfold x8; rw [hz]; simp only [h1, Option.bind_some]
     ·rw [hp]; show w2 (z :: r) + 1 = (if (2 : Int) = 2 then 1 else 0) + ((if z.why = 2 then 1 else 0) + w2 r); rw [a4t]; simp; omega
     ·show ([] : List a0y).length + (df.length + dfS r) + 1 = z.df.length + dfS r; rw [hz]; simp; omega
     ·simp
   | nil =>
     obtain ⟨q, hq, hql, hqv⟩ : ∃ q, b6D z.why ps = some q /\ q.length = w2 r + 1 /\ ∀ a ∈ q, WV a.v := by
      rw [a4t] at hp
      unfold b6D
      split
      ·rename_i hw
       rw [if_pos hw] at hp
       match ps, hp with
       | [], hp => simp at hp
       | [a], hp => simp at hp
       | a :: b :: l, hp => exact ⟨a :: l, rfl, by simp at hp ⊢; omega, fun x hx => hv x ((List.mem_cons.1 hx).elim (fun e => e ▸ .head _) (fun e => .tail _ (.tail _ e)))⟩
      ·rename_i hw
       rw [if_neg hw] at hp
       exact ⟨ps, rfl, by omega, hv⟩
     cases r with
     | nil =>
       cases q with
       | nil => simp at hql
       | cons a l =>
         refine ⟨(some a.v, [], a :: l), ?_, nofun, by simp⟩
         unfold x8; rw [hz]; simp only [hq, Option.bind_some]; rfl
     | cons y t =>
       obtain ⟨u, h1, h2⟩ := a6G G (y :: t) q zS h.2.2 hql hqv
       refine ⟨u, ?_, fun e => ?_, ?_⟩
       ·unfold x8; rw [hz]; simp only [hq, Option.bind_some]; exact h1
       ·obtain ⟨a1, a2, a3, a4, a5⟩ := h2.go e
        refine ⟨a1, a2, a3, ?_, a5⟩
        rw [a4]; show _ = z.df.length + _; rw [hz]; simp
       ·have := h2.len; simp at this ⊢; omega
structure ROK (p : Program) (n : Nat) (rows : List ARow) (u : RO) : Prop where
 en : ∀ e, u.en = some e -> e.1 ≠ 0
 go : u.en = none -> (∃ z r, u.A = z :: r /\ b5R p r z) /\ RT p (n + 1) u.A /\ u.ps.length = w2 u.A /\ dfS u.A + (if u.push = true then 1 else 0) = dfS rows /\ ∀ a ∈ u.ps, WV a.v
 len : u.A.length <= rows.length + 1
theorem b1d {p : Program} (G : a5p p) {n : Nat} : ∀ (r : List ARow) (z : ARow) (ps : List n9), RT p n (z :: r) -> ps.length = w2 (z :: r) -> (∀ a ∈ ps, WV a.v) -> ∃ u, a5n p z r ps = some u /\ ROK p n (z :: r) u
 | r, z, ps, h, hp, hv => by
   cases hz : z.df with
   | cons x df =>
     obtain ⟨f, h1, h2, h3⟩ := b3W G (w := 1) zD hz h
     refine ⟨⟨none, true, ⟨f, 1, [], 0⟩ :: { z with df := df } :: r, ps⟩, ?_, nofun, fun _ => ⟨⟨_, _, rfl, h2⟩, h3.up, ?_, ?_, hv⟩, ?_⟩
     ·unfold a5n; rw [hz]; simp only [h1, Option.bind_some]
     ·rw [hp]; show w2 (z :: r) = (if (1 : Int) = 2 then 1 else 0) + ((if z.why = 2 then 1 else 0) + w2 r); rw [a4t]; simp
     ·show ([] : List a0y).length + (df.length + dfS r) + 1 = z.df.length + dfS r; rw [hz]; simp; omega
     ·simp
   | nil =>
     cases r with
     | nil => exact ⟨⟨some (1, 0), false, [], ps⟩, by unfold a5n; rw [hz], fun e he => by cases he; decide, nofun, by simp⟩
     | cons y t =>
       obtain ⟨hF, hW, hy⟩ := h
       by_cases h0 : z.why = 0
       ·obtain ⟨R, s0, i, g, b1, b2, b3, b4, b5, b6⟩ := hW h0 y t rfl
        have hb : y.fr.back p z.ret = some (if g.Result then { y.fr with st := z.ret :: y.fr.st } else y.fr) := by
         unfold SFr.back; rw [b2, Option.bind_some, b3, Option.bind_some]
        refine ⟨⟨none, false, { y with fr := if g.Result then { y.fr with st := z.ret :: y.fr.st } else y.fr } :: t, ps⟩, ?_, nofun, fun _ => ⟨⟨_, _, rfl, ?_⟩, ?_, ?_, ?_, hv⟩, by simp⟩
        ·unfold a5n; rw [hz]; simp only; rw [if_pos h0, hb]; rfl
        ·cases hg : g.Result with
         | true =>
           rw [hg] at b5
           refine ⟨R, _, b1, by show 0 <= y.fr.pc; omega, b5, ?_⟩
           rw [if_pos rfl, List.reverse_append]
           exact ⟨.num hF.ret, b6⟩
         | false =>
           rw [hg] at b5
           refine ⟨R, _, b1, by show 0 <= y.fr.pc; omega, b5, ?_⟩
           simpa using b6
        ·have hy1 := hy.up
         refine ⟨⟨?_, ?_, ?_, ?_, ?_, ?_, hy1.1.ret⟩, hy1.2.1, hy1.2.2⟩
         ·split <;> exact hy.1.mem
         ·cases g.Result <;> exact hy.1.lo
         ·cases g.Result <;> exact hy.1.nu
         ·cases g.Result <;> exact hy.1.df
         ·cases g.Result <;> exact hy.1.pc
         ·have := hy.1.st
          cases g.Result <;> simp <;> omega
        ·rw [hp]; show (if z.why = 2 then 1 else 0) + w2 (y :: t) = w2 (y :: t); rw [if_neg zO]; simp
        ·show dfS (y :: t) + 0 = z.df.length + dfS (y :: t); rw [hz]; simp
       by_cases h2 : z.why = 2
       ·have hp' : ps.length = 1 + w2 (y :: t) := by rw [hp]; show (if z.why = 2 then 1 else 0) + _ = _; rw [if_pos h2]
        cases ps with
        | nil => simp at hp'; omega
        | cons a l =>
        have hl : l.length = w2 (y :: t) := by simp at hp'; omega
        cases ha : a.rcv with
        | true =>
          obtain ⟨v, hkv, hvv⟩ : ∃ v, a8f y.fr = some v /\ WV v := by
           unfold a8f
           split
           ·exact ⟨0, rfl, .zero⟩
           ·have hk := (r7 (G.fok hy.1.mem)).2.2.2.2
            have hll := hy.1.lo.len
            obtain ⟨w, w1, w2⟩ := hy.1.lo.get (j := y.fr.f.Keep.toNat) (List.getElem?_eq_getElem zO)
            exact ⟨w, by rw [a0N zO (by omega : y.fr.f.Keep.toNat < y.fr.lo.length)]; rw [List.getElem?_eq_getElem zO] at w1; exact w1, w2.1⟩
          obtain ⟨u, e1, e2⟩ := b1d G t { y with ret := v } l ⟨⟨hy.1.mem, hy.1.lo, hy.1.nu, hy.1.df, hy.1.pc, hy.1.st, hvv⟩, hy.2.1, hy.2.2⟩ hl (fun x hx => hv x (.tail _ hx))
          refine ⟨u, ?_, e2.en, fun e => ?_, ?_⟩
          ·unfold a5n; rw [hz]; simp only; rw [if_neg h0, if_pos h2, ha, if_pos rfl, hkv, Option.bind_some]; exact e1
          ·obtain ⟨a1, a2, a3, a4, a5⟩ := e2.go e
           refine ⟨a1, a2, a3, ?_, a5⟩
           rw [a4]; show dfS (y :: t) = z.df.length + dfS (y :: t); rw [hz]; simp
          ·have := e2.len; simp at this ⊢; omega
        | false =>
          obtain ⟨w, e1, e2⟩ := a6G G (y :: t) (a :: l) zS hy (by simp [hl]) hv
          refine ⟨⟨w.1.map fun v => (2, v), w.1.isNone, w.2.1, w.2.2⟩, ?_, fun e he => by (cases hw1 : w.1 <;> rw [hw1] at he <;> cases he; show (2 : Int) ≠ 0; decide), fun e => ?_, ?_⟩
          ·unfold a5n; rw [hz]; simp only; rw [if_neg h0, if_pos h2, ha, if_neg zS, e1]; rfl
          ·have hn : w.1 = none := by simpa using e
           obtain ⟨a1, a2, a3, a4, a5⟩ := e2.go hn
           refine ⟨a1, a2.up, a3, ?_, a5⟩
           rw [hn]
           show dfS w.2.1 + 1 = z.df.length + dfS (y :: t)
           rw [a4, hz]; simp
          ·have := e2.len; simp at this ⊢; omega
       ·obtain ⟨u, e1, e2⟩ := b1d G t y ps hy (by rw [hp]; show (if z.why = 2 then 1 else 0) + _ = _; rw [if_neg h2]; simp) hv
        refine ⟨u, ?_, e2.en, fun e => ?_, ?_⟩
        ·unfold a5n; rw [hz]; simp only; rw [if_neg h0, if_neg h2]; exact e1
        ·obtain ⟨a1, a2, a3, a4, a5⟩ := e2.go e
         refine ⟨a1, a2, a3, ?_, a5⟩
         rw [a4]; show dfS (y :: t) = z.df.length + dfS (y :: t); rw [hz]; simp
        ·have := e2.len; simp at this ⊢; omega
 termination_by r => r.length
structure a1S (p : Program) (n : Nat) (s : AS) : Prop where
 top : ∃ z r, s.rows = z :: r /\ b5R p r z
 rt : RT p n s.rows
 pn : s.pans.length = w2 s.rows
 pv : ∀ a ∈ s.pans, WV a.v
 lv : s.live = (dfS s.rows : Int)
 lv2 : s.live <= n
 rn : s.rows.length <= n + 1
 dep : 0 <= s.depth /\ s.depth <= n + 1
 ev : s.evs.length <= n
 tape : ∀ v ∈ s.tape, WV v
section
variable {p : Program} {n : Nat} {s : AS} {z : ARow} {r : List ARow}
theorem a4u {f' : SFr} {df : List a0y} {w rt : Int} (h : f'.f = z.fr.f) : a0B (⟨f', w, df, rt⟩ :: r) = a0B (z :: r) := by simp [a0B, h]
theorem b5S (G : a5p p) (hm : z.fr.f ∈ p.Funcs) (h : b5R p r z) : ∃ i R t top vs st1, j7 z.fr.f.Code z.fr.pc = some i /\ Sol p z.fr.f R /\ z.fr.st = vs ++ st1 /\ LOK (a0B (z :: r)) (eff p z.fr.f i top).1.reverse vs /\ LOK (a0B (z :: r)) t.reverse st1 /\
  (∀ b ∈ a3f i z.fr.pc.toNat, ∃ m : Nat, b = m /\ m < z.fr.f.Code.length /\ R m = some (t ++ (eff p z.fr.f i top).2)) /\ a4s p z.fr.f i = true /\ (0 <= i.Arg /\ i.Arg <= 65535) /\ (0 <= z.fr.pc /\ z.fr.pc < z.fr.f.Code.length) /\ WV i.Imm := by
 obtain ⟨R, s, h1, h2, h3, h4⟩ := h
 obtain ⟨_, i, s', e1, e2, e3⟩ := h1.2 _ _ h3
 have hf := G.fok hm
 unfold a1R at e2
 simp only at e2
 split at e2
 case isFalse => cases e2
 rename_i hc
 cases e2
 obtain ⟨c1, c2, _⟩ := hc
 have hs : s = s.take (s.length - (eff p z.fr.f i (a2K s)).1.length) ++ (eff p z.fr.f i (a2K s)).1 := by
  conv => lhs; rw [<- List.take_append_drop (s.length - (eff p z.fr.f i (a2K s)).1.length) s]
  rw [c2]
 generalize hta : s.take (s.length - (eff p z.fr.f i (a2K s)).1.length) = t at hs e3
 generalize a2K s = top at hs e3 hta
 rw [hs, List.reverse_append] at h4
 obtain ⟨vs, st1, h5, h6, h7⟩ := h4.split
 have hlt := (List.getElem?_eq_some_iff.1 e1).1
 have hcode : a4s p z.fr.f i = true := by
  have := hf.hd
  unfold a2w at this
  simp only [Bool.and_eq_true, List.all_eq_true] at this
  exact this.2 i (List.mem_of_getElem? e1)
 refine ⟨i, R, t, top, vs, st1, ?_, h1, h5, h6, h7, e3, hcode, hf.arg e1, ⟨h2, by omega⟩, G.imm _ hm _ (List.mem_of_getElem? e1)⟩
 rw [show z.fr.pc = ((z.fr.pc.toNat : Nat) : Int) by omega, m9]
 exact e1
theorem Sol.lt {f : Func} {R : Nat -> Option (List Int)} (h : Sol p f R) {m : Nat} {s : List Int} (e : R m = some s) : m < f.Code.length := by
 obtain ⟨_, i, s', e1, _⟩ := h.2 _ _ e
 exact (List.getElem?_eq_some_iff.1 e1).1
theorem b0g (T : a1S p n s) (hs : s.rows = z :: r) {s' : AS} {f' : SFr} {R : Nat -> Option (List Int)} {s2 : List Int} {df : List a0y} (hf : f'.f = z.fr.f) (hlo : LOK (a0B (z :: r)) z.fr.f.Locals f'.lo) (hnu : f'.nu = z.fr.nu) (hR : Sol p z.fr.f R) (hpc0 : 0 <= f'.pc)
  (hRp : R f'.pc.toNat = some s2) (hst : LOK (a0B (z :: r)) s2.reverse f'.st) (hlen : f'.st.length <= z.fr.st.length + 2) (hrows : s'.rows = ⟨f', z.why, df, z.ret⟩ :: r) (hdf : ∀ d ∈ df, DOK p (a0B (z :: r)) d)
  (hpans : s'.pans.length = s.pans.length) (hpv : ∀ a ∈ s'.pans, WV a.v) (hlive : s'.live + z.df.length = s.live + df.length) (hl2 : s'.live <= s.live + 1) (hdep : s'.depth = s.depth) (hev : s'.evs.length <= n + 1) (htape : ∀ v ∈ s'.tape, WV v) : a1S p (n + 1) s' := by
 have hz := T.rt
 rw [hs] at hz
 have hfs : a0B (⟨f', z.why, df, z.ret⟩ :: r) = a0B (z :: r) := a4u hf
 have hst2 := hz.1.st
 have hpc1 := hR.lt hRp
 have hlv := T.lv
 have hl3 := T.lv2
 have hrn := T.rn
 have hd := T.dep
 rw [hs] at hlv hrn
 have hd1 : dfS (z :: r) = z.df.length + dfS r := rfl
 have hrl : (z :: r).length = r.length + 1 := rfl
 refine ⟨⟨_, _, hrows, R, s2, by rw [hf]; exact hR, hpc0, hRp, by rw [hfs]; exact hst⟩, ?_, ?_, hpv, ?_, by omega, by rw [hrows]; show r.length + 1 <= _; omega, by omega, hev, htape⟩
 ·rw [hrows]
  exact ⟨⟨by rw [hf]; exact hz.1.mem, by rw [hfs, hf]; exact hlo, by rw [hnu]; exact hz.1.nu, by rw [hfs]; exact hdf, ⟨hpc0, by rw [hf]; show f'.pc <= _; omega⟩, by show f'.st.length <= _; omega, hz.1.ret⟩, hz.2.1, hz.2.2.up⟩
 ·rw [hpans, T.pn, hs, hrows]; rfl
 ·rw [hrows]; show _ = ((df.length + dfS r : Nat) : Int); omega
theorem b9Z (G : a5p p) (T : a1S p n s) (hs : s.rows = z :: r) {f' : SFr} {v : Int} (hf : f'.f = z.fr.f) (hlo : f'.lo = z.fr.lo) (hnu : f'.nu = z.fr.nu) (hpc : 0 <= f'.pc /\ f'.pc <= z.fr.f.Code.length) (hlen : f'.st.length <= z.fr.st.length + 2) (hv : WV v) :
  ∃ b, a6X p s (⟨f', z.why, z.df, z.ret⟩ :: r) v = some b /\ b.evs.length <= n + 1 /\ (b.ek = 0 -> a1S p (n + 1) b) := by
 have hz := T.rt
 rw [hs] at hz
 have hfs : a0B (⟨f', z.why, z.df, z.ret⟩ :: r) = a0B (z :: r) := a4u hf
 have hst2 := hz.1.st
 have hRT : RT p (n + 1) (⟨f', z.why, z.df, z.ret⟩ :: r) := ⟨⟨by rw [hf]; exact hz.1.mem, by rw [hfs, hf, hlo]; exact hz.1.lo, by rw [hnu]; exact hz.1.nu, by rw [hfs]; exact hz.1.df, ⟨hpc.1, by rw [hf]; exact hpc.2⟩, by show f'.st.length <= _; omega, hz.1.ret⟩, hz.2.1, hz.2.2.up⟩
 have hw : w2 (⟨f', z.why, z.df, z.ret⟩ :: r) = w2 (z :: r) := rfl
 have hdd : dfS (⟨f', z.why, z.df, z.ret⟩ :: r) = dfS (z :: r) := rfl
 obtain ⟨u, h1, h2⟩ := a6G G (⟨f', z.why, z.df, z.ret⟩ :: r) (⟨v, false⟩ :: s.pans) zS hRT (by rw [hw, List.length_cons, T.pn, hs]) (fun a ha => (List.mem_cons.1 ha).elim (fun e => by rw [e]; exact hv) (T.pv a))
 unfold a6X
 rw [h1]
 have hev := T.ev
 refine ⟨_, rfl, by show s.evs.length <= _; omega, fun hk => ?_⟩
 have hn : u.1 = none := by
  cases hu : u.1 with
  | none => rfl
  | some w => simp only [hu, Option.isSome_some, if_true] at hk; cases hk
 obtain ⟨a1, a2, a3, a4, a5⟩ := h2.go hn
 have hl := h2.len
 have hrn := T.rn
 have hd := T.dep
 have hlv := T.lv
 have hl2 := T.lv2
 rw [hs] at hrn hlv
 simp only [List.length_cons] at hl hrn
 refine ⟨a1, a2, a3, a5, ?_, ?_, ?_, ?_, by show s.evs.length <= _; omega, T.tape⟩
 ·simp only [hn, Option.isSome_none]
  rw [hdd] at a4
  simp; omega
 ·simp only [hn, Option.isSome_none]
  simp; omega
 ·show u.2.1.length <= _; omega
 ·simp only [hn, Option.isSome_none]
  simp; omega
theorem b7Y (G : a5p p) (T : a1S p n s) (hs : s.rows = z :: r) {f' : SFr} {v : Int} (hf : f'.f = z.fr.f) (hlo : f'.lo = z.fr.lo) (hnu : f'.nu = z.fr.nu) (hpc : 0 <= f'.pc /\ f'.pc <= z.fr.f.Code.length) (hlen : f'.st.length <= z.fr.st.length) (hv : WV v) :
  ∃ u, a5n p ⟨f', z.why, z.df, v⟩ r s.pans = some u /\ (u.en.elim s.ek (·.1) = 0 -> a1S p (n + 1) { s with rows := u.A, pans := u.ps, ek := u.en.elim s.ek (·.1), ev := u.en.elim s.ev (·.2), depth := if u.push then max s.depth (u.A.length : Int) else s.depth, live := if u.push then s.live - 1 else s.live }) := by
 have hz := T.rt
 rw [hs] at hz
 have hfs : a0B (⟨f', z.why, z.df, v⟩ :: r) = a0B (z :: r) := a4u hf
 have hst2 := hz.1.st
 have hRT : RT p n (⟨f', z.why, z.df, v⟩ :: r) := ⟨⟨by rw [hf]; exact hz.1.mem, by rw [hfs, hf, hlo]; exact hz.1.lo, by rw [hnu]; exact hz.1.nu, by rw [hfs]; exact hz.1.df, ⟨hpc.1, by rw [hf]; exact hpc.2⟩, by show f'.st.length <= _; omega, hv⟩, hz.2.1, hz.2.2⟩
 have hw : w2 (⟨f', z.why, z.df, v⟩ :: r) = w2 (z :: r) := rfl
 have hdd : dfS (⟨f', z.why, z.df, v⟩ :: r) = dfS (z :: r) := rfl
 obtain ⟨u, h1, h2⟩ := b1d G r ⟨f', z.why, z.df, v⟩ s.pans hRT (by rw [hw, T.pn, hs]) T.pv
 refine ⟨u, h1, fun hk => ?_⟩
 have hn : u.en = none := by
  cases hu : u.en with
  | none => rfl
  | some e => rw [hu] at hk; exact absurd hk (h2.en e hu)
 obtain ⟨a1, a2, a3, a4, a5⟩ := h2.go hn
 have hl := h2.len
 have hrn := T.rn
 have hd := T.dep
 have hlv := T.lv
 have hl2 := T.lv2
 have hev := T.ev
 rw [hs] at hrn hlv
 rw [hdd] at a4
 simp only [List.length_cons] at hl hrn
 refine ⟨a1, a2, a3, a5, ?_, ?_, ?_, ?_, by show s.evs.length <= _; omega, T.tape⟩
 ·show (if u.push then s.live - 1 else s.live) = ((dfS u.A : Nat) : Int)
  split
  ·rename_i hp; rw [if_pos hp] at a4; omega
  ·rename_i hp; rw [if_neg hp] at a4; omega
 ·show (if u.push then s.live - 1 else s.live) <= _
  split <;> omega
 ·show u.A.length <= _; omega
 ·show 0 <= (if u.push then max s.depth (u.A.length : Int) else s.depth) /\ (if u.push then max s.depth (u.A.length : Int) else s.depth) <= _
  split <;> omega
end
end Go.Proofs.Ytnpemocpfdgaoaa

/- Runs of checked programs: each step can be taken, operation by operation. -/
namespace Go.Proofs.Ytnpemocpfdgaoaa
open Go Go.Ab Go.RowKit
set_option maxRecDepth 20000
section
variable {p : Program} {n : Nat} {s : AS} {z : ARow} {r : List ARow}
theorem bWV {b : Bool} : WV (if b then 1 else 0) := by cases b <;> exact ⟨by decide, by decide⟩
theorem b3X (b : Bool) : a1q b = some (if b then 1 else 0) := by cases b <;> rfl
theorem c0a {a b : Int} (h : WV a) : WV (shR .u64 a b) := by
 unfold shR
 obtain ⟨h1, h2⟩ := h
 rw [Int.fdiv_eq_ediv_of_nonneg _ (Int.pow_nonneg zD)]
 exact ⟨Int.ediv_nonneg h1 (Int.pow_nonneg zD), Int.lt_of_le_of_lt (Int.ediv_le_self _ h1) h2⟩
theorem c0b {op a b : Int} (ha : WV a) (hb : WV b) : ∃ v e, a0w op a b = some (v, e) /\ WV v := by
 unfold a0w jp
 by_cases h7 : op = 7
 ·exact ⟨_, _, by simp [h7]; exact ⟨rfl, rfl⟩, .u _⟩
 by_cases h8 : op = 8
 ·exact ⟨_, _, by simp [h8]; exact ⟨rfl, rfl⟩, .u _⟩
 by_cases h9 : op = 9
 ·exact ⟨_, _, by simp [h9]; exact ⟨rfl, rfl⟩, .u _⟩
 by_cases hd : op = 10 \/ op = 11
 ·have hdiv : ∀ x y : Int, ∃ v e, s6 op x y = some (v, e) /\ WV v := fun x y => by
   unfold s6
   by_cases h0 : y = 0
   ·exact ⟨0, 10, by simp [h0], .zero⟩
   ·have hg : gd (y ≠ 0) = (id : Option (Int × Int) -> Option (Int × Int)) := by funext q; unfold gd; rw [if_pos h0]; rfl
    rcases hd with h | h
    ·exact ⟨_, _, by simp [h0, h, gd]; exact ⟨rfl, rfl⟩, .u _⟩
    ·exact ⟨_, _, by simp [h0, h, gd]; exact ⟨rfl, rfl⟩, .u _⟩
  obtain ⟨v, e, h1, h2⟩ := hdiv (I64 a) (I64 b)
  refine ⟨v, e, ?_, h2⟩
  rcases hd with h | h
  ·subst h; simp [h1]
  ·subst h; simp [h1]
 have h10 : op ≠ 10 := fun h => hd (.inl h)
 have h11 : op ≠ 11 := fun h => hd (.inr h)
 by_cases h12 : op = 12
 ·exact ⟨_, _, by simp [h12]; exact ⟨rfl, rfl⟩, .u _⟩
 by_cases h13 : op = 13
 ·exact ⟨_, _, by simp [h13]; exact ⟨rfl, rfl⟩, .u _⟩
 by_cases h14 : op = 14
 ·exact ⟨_, _, by simp [h14]; exact ⟨rfl, rfl⟩, .u _⟩
 by_cases h15 : op = 15
 ·exact ⟨_, _, by simp [h15, gd, hb.1]; exact ⟨rfl, rfl⟩, .u _⟩
 by_cases h16 : op = 16
 ·exact ⟨_, _, by simp [h16, gd, hb.1]; exact ⟨rfl, rfl⟩, c0a ha⟩
 by_cases h17 : op = 17
 ·have h0 : 0 <= (if 63 < b then 63 else b) := by have := hb.1; split <;> omega
  exact ⟨_, _, by simp [h17, gd, h0]; exact ⟨rfl, rfl⟩, .u _⟩
 by_cases h18 : op = 18
 ·exact ⟨if a == b then 1 else 0, 0, by simp [h18, b3X], bWV⟩
 by_cases h19 : op = 19
 ·exact ⟨if decide (I64 a < I64 b) then 1 else 0, 0, by simp [h19, b3X], bWV⟩
 by_cases h20 : op = 20
 ·exact ⟨if decide (a < b) then 1 else 0, 0, by simp [h20, b3X], bWV⟩
 exact ⟨0, 2, by simp [h7, h8, h9, h10, h11, h12, h13, h14, h15, h16, h17, h18, h19, h20], .zero⟩
theorem b3Y {k : Nat} {v : Int} (rows : List ARow) (j : Nat) : a0B (rows.modify j (a9h k v)) = a0B rows := by
 unfold a0B
 rw [a6A (f := fun z : ARow => z.fr.f) (g := a9h k v) (h := id) (fun _ => rfl), List.modify_id]
theorem b6E {k : Nat} {v : Int} : ∀ (rows : List ARow) (j : Nat), w2 (rows.modify j (a9h k v)) = w2 rows
 | [], 0 => rfl
 | [], _ + 1 => rfl
 | z :: r, 0 => rfl
 | z :: r, j + 1 => by
   rw [List.modify_succ_cons, a4t, a4t, b6E r j]
theorem b3Z {k : Nat} {v : Int} : ∀ (rows : List ARow) (j : Nat), dfS (rows.modify j (a9h k v)) = dfS rows
 | [], 0 => rfl
 | [], _ + 1 => rfl
 | z :: r, 0 => rfl
 | z :: r, j + 1 => by
   rw [List.modify_succ_cons]
   show z.df.length + dfS (r.modify j (a9h k v)) = z.df.length + dfS r
   rw [b3Z r j]
theorem b6F {k : Nat} {v : Int} (hv : WV v) : ∀ (rows : List ARow) (j : Nat), RT p n rows -> (∀ y, rows[j]? = some y -> y.fr.f.Locals[k]? = some 0) -> RT p n (rows.modify j (a9h k v))
 | [], 0, _, _ => trivial
 | [], _ + 1, _, _ => trivial
 | z :: r, 0, h, hk => by
   rw [List.modify_zero_cons]
   exact ⟨⟨h.1.mem, h.1.lo.set (hk z rfl) (.num hv), h.1.nu, h.1.df, h.1.pc, h.1.st, h.1.ret⟩, h.2.1, h.2.2⟩
 | z :: r, j + 1, h, hk => by
   rw [List.modify_succ_cons]
   have hfs : a0B (z :: r.modify j (a9h k v)) = a0B (z :: r) := by
    show z.fr.f :: a0B (r.modify j (a9h k v)) = z.fr.f :: a0B r
    rw [b3Y]
   refine ⟨⟨h.1.mem, by rw [hfs]; exact h.1.lo, by rw [List.length_modify]; exact h.1.nu, by rw [hfs]; exact h.1.df, h.1.pc, h.1.st, h.1.ret⟩, fun h0 y t e => ?_, b6F hv r j h.2.2 (fun y hy => hk y (by simpa using hy))⟩
   cases r with
   | nil => cases j <;> simp at e
   | cons y0 t0 =>
     have hW := h.2.1 h0 y0 t0 rfl
     cases j with
     | zero =>
       rw [List.modify_zero_cons] at e
       cases e
       exact hW
     | succ j =>
       rw [List.modify_succ_cons] at e
       cases e
       obtain ⟨R, s0, i, g, b1, b2, b3, b4, b5, b6⟩ := hW
       refine ⟨R, s0, i, g, b1, b2, b3, b4, b5, ?_⟩
       have : a0B (y :: t0.modify j (a9h k v)) = a0B (y :: t0) := by
        show y.fr.f :: a0B (t0.modify j (a9h k v)) = y.fr.f :: a0B t0
        rw [b3Y]
       rw [this]; exact b6
theorem a7v {f : Func} {i : Instr} (h : a4s p f i = true) : a2k p f i = true := by
 unfold a4s at h
 simp only [Bool.and_eq_true] at h
 exact h.1
theorem a5S {rows : List ARow} {pt : Int} (h : RT p n rows) (hp : PtrOK (a0B rows) pt) (h0 : pt ≠ 0) (hl : rows.length < 1073741824) (G : a5p p) : ∃ (a b : Nat) (w : Int), a5H rows pt = some (a, b, w) /\ WV w /\ a < rows.length /\ ∀ y, rows[rows.length - 1 - a]? = some y -> y.fr.f.Locals[b]? = some 0 := by
 rcases hp with hp | ⟨a, b, f, h1, h2, h3⟩
 ·exact absurd hp h0
 unfold a0B at h1
 rw [<- List.map_reverse, List.getElem?_map] at h1
 obtain ⟨y, h4, rfl⟩ := Option.map_eq_some_iff.1 h1
 have ha := (List.getElem?_eq_some_iff.1 h4).1
 rw [List.length_reverse] at ha
 obtain ⟨r', hB⟩ := h.mem (z := y) (by simpa using List.mem_of_getElem? h4)
 obtain ⟨w, h5, h6⟩ := hB.lo.get h2
 have hb : b < 256 := by
  have := (r7 (G.fok hB.mem)).2.2.1
  have := (List.getElem?_eq_some_iff.1 h2).1
  omega
 rw [a6E zO hb] at h3
 refine ⟨a, b, w, ?_, h6.1, ha, fun y' hy' => ?_⟩
 ·unfold a5H
  rw [h3, b0e zO hb, b0f zO hb, if_pos zO]
  simp only [Int.toNat_natCast]
  rw [h4, Option.bind_some, h5]; rfl
 ·rw [List.getElem?_reverse ha] at h4
  rw [h4] at hy'; cases hy'
  exact h2
end
end Go.Proofs.Ytnpemocpfdgaoaa

/- Runs of checked programs: each step can be taken. -/
namespace Go.Proofs.Ytnpemocpfdgaoaa
open Go Go.Ab Go.RowKit
set_option maxRecDepth 20000
set_option maxHeartbeats 1000000
section
variable {p : Program} {n : Nat} {s : AS} {z : ARow} {r : List ARow}
theorem c0c {f' : SFr} (hz : RT p n (z :: r)) (hf : f'.f = z.fr.f) (hlo : LOK (a0B (z :: r)) z.fr.f.Locals f'.lo) (hnu : f'.nu = z.fr.nu) (hpc : 0 <= f'.pc /\ f'.pc <= z.fr.f.Code.length) (hlen : f'.st.length <= z.fr.st.length + 2) : RT p (n + 1) (⟨f', z.why, z.df, z.ret⟩ :: r) := by
 have hfs : a0B (⟨f', z.why, z.df, z.ret⟩ :: r) = a0B (z :: r) := a4u hf
 have hst2 := hz.1.st
 exact ⟨⟨by rw [hf]; exact hz.1.mem, by rw [hfs, hf]; exact hlo, by rw [hnu]; exact hz.1.nu, by rw [hfs]; exact hz.1.df, ⟨hpc.1, by rw [hf]; exact hpc.2⟩, by show f'.st.length <= _; omega, hz.1.ret⟩, hz.2.1, hz.2.2.up⟩
theorem b5T {k : Nat} {v : Int} (j : Nat) (h : b5R p r z) : ∃ z' r', (z :: r).modify j (a9h k v) = z' :: r' /\ b5R p r' z' := by
 cases j with
 | zero => rw [List.modify_zero_cons]; exact ⟨_, _, rfl, h⟩
 | succ j =>
   rw [List.modify_succ_cons]
   obtain ⟨R, s, h1, h2, h3, h4⟩ := h
   refine ⟨_, _, rfl, R, s, h1, h2, h3, ?_⟩
   have : a0B (z :: r.modify j (a9h k v)) = a0B (z :: r) := by
    show z.fr.f :: a0B (r.modify j (a9h k v)) = z.fr.f :: a0B r
    rw [b3Y]
   rw [this]; exact h4
theorem b7Z {w : Int} {ps : List n9} (h : ∀ a ∈ ps, WV a.v) : (a1L w ps).2.length = ps.length /\ (∀ a ∈ (a1L w ps).2, WV a.v) /\ WV (a1L w ps).1.1 /\ WV (a1L w ps).1.2 := by
 unfold a1L
 split
 ·exact ⟨rfl, nofun, .zero, .zero⟩
 ·rename_i x l
  split
  ·exact ⟨rfl, h, .zero, .zero⟩
  ·exact ⟨rfl, fun a ha => (List.mem_cons.1 ha).elim (fun e => by rw [e]; exact h x (.head _)) (fun e => h a (.tail _ e)), h x (.head _), (⟨by decide, by decide⟩ : WV 1)⟩
theorem b5U (G : a5p p) (T : a1S p n s) (hs : s.rows = z :: r) (hn : n < 2097152) {f : SFr} {op k im top : Int} {R : Nat -> Option (List Int)} {t vs st1 : List Int}
  (hff : f.f = z.fr.f) (hlo : f.lo = z.fr.lo) (hnu : f.nu = z.fr.nu) (hpcE : f.pc = z.fr.pc + 1) (hpc : 0 <= z.fr.pc /\ z.fr.pc < z.fr.f.Code.length) (hi : j7 z.fr.f.Code z.fr.pc = some ⟨op, k, im⟩) (hS : Sol p z.fr.f R) (hzs : z.fr.st = f.st) (hst : f.st = vs ++ st1)
  (hv : LOK (a0B (z :: r)) (eff p z.fr.f ⟨op, k, im⟩ top).1.reverse vs) (ht : LOK (a0B (z :: r)) t.reverse st1)
  (hfol : ∀ b ∈ a3f ⟨op, k, im⟩ z.fr.pc.toNat, ∃ m : Nat, b = m /\ m < z.fr.f.Code.length /\ R m = some (t ++ (eff p z.fr.f ⟨op, k, im⟩ top).2)) (hname : a2k p z.fr.f ⟨op, k, im⟩ = true) (harg : 0 <= k /\ k <= 65535) (him : WV im) (hk : s.ek = 0) :
  ∃ b, t5 p s z r f op k im = some b /\ b.evs.length <= n + 1 /\ (b.ek = 0 -> a1S p (n + 1) b) := by
 have hz := T.rt
 rw [hs] at hz
 have hrl : r.length <= n := by have := T.rn; rw [hs] at this; simpa using this
 have hev0 := T.ev
 have hev : s.evs.length <= n + 1 := by omega
 have hlo' : LOK (a0B (z :: r)) z.fr.f.Locals f.lo := by rw [hlo]; exact hz.1.lo
 have hpr : 0 <= f.pc /\ f.pc <= z.fr.f.Code.length := by omega
 have hmem : f.pc ∈ [(z.fr.pc.toNat : Int) + 1] := by rw [hpcE, List.mem_singleton]; omega
 have hsl : st1.length <= z.fr.st.length := by rw [hzs, hst]; simp
 have fin : ∀ (f' : SFr) (ws : List Int) (s' : AS), f'.pc ∈ a3f ⟨op, k, im⟩ z.fr.pc.toNat -> f'.f = f.f -> LOK (a0B (z :: r)) z.fr.f.Locals f'.lo -> f'.nu = f.nu -> f'.st = ws ++ st1 -> LOK (a0B (z :: r)) (eff p z.fr.f ⟨op, k, im⟩ top).2.reverse ws -> s'.rows = ⟨f', z.why, z.df, z.ret⟩ :: r ->
   s'.pans = s.pans -> s'.live = s.live -> s'.depth = s.depth -> s'.evs.length <= n + 1 -> (∀ v ∈ s'.tape, WV v) -> a1S p (n + 1) s' := fun f' ws s' a1 a2 a3 a4 a5 a6 a7 a8 a9 a10 a11 a12 => by
  obtain ⟨m, b1, b2, b3⟩ := hfol _ a1
  have hwl := a6.len
  have hel := b0c p z.fr.f ⟨op, k, im⟩ top
  rw [List.length_reverse] at hwl
  refine b0g T hs (a2.trans hff) a3 (a4.trans hnu) hS zO (s2 := t ++ (eff p z.fr.f ⟨op, k, im⟩ top).2) (by rw [b1, Int.toNat_natCast]; exact b3) ?_ ?_ a7 hz.1.df (by rw [a8]) (by rw [a8]; exact T.pv) (by rw [a9]) (by rw [a9]; omega) a10 a11 a12
  ·rw [List.reverse_append, a5]; exact a6.app ht
  ·rw [a5, List.length_append]; omega
 have pan : ∀ (v : Int), WV v -> ∃ b, a6X p s (⟨{ f with st := st1 }, z.why, z.df, z.ret⟩ :: r) v = some b /\ b.evs.length <= n + 1 /\ (b.ek = 0 -> a1S p (n + 1) b) := fun v hv => b9Z G T hs (f' := { f with st := st1 }) hff hlo hnu hpr (by show st1.length <= _; omega) hv
 have hRT : RT p (n + 1) (⟨{ f with st := st1 }, z.why, z.df, z.ret⟩ :: r) := c0c hz hff hlo' hnu hpr (by show st1.length <= _; omega)
 have hfs : a0B (⟨{ f with st := st1 }, z.why, z.df, z.ret⟩ :: r) = a0B (z :: r) := a4u hff
 by_cases n1 : op = 1
 ·subst n1
  obtain rfl := LOK.nil (show LOK _ [] vs from hv)
  exact ⟨goA s z r { f with st := im :: f.st }, rfl, hev, fun _ => fin { f with st := im :: f.st } [im] _ hmem rfl hlo' rfl (by show im :: f.st = _; rw [hst]; rfl) ⟨.num him, trivial⟩ rfl rfl rfl rfl hev T.tape⟩
 by_cases n2 : op = 2
 ·subst n2
  obtain rfl := LOK.nil (show LOK _ [] vs from hv)
  have hlt : k.toNat < z.fr.f.Locals.length := by
   unfold a2k at hname
   have : k < z.fr.f.Locals.length := by simpa using hname
   omega
  have hL : z.fr.f.Locals[k.toNat]? = some (z.fr.f.Locals[k.toNat]?.getD 0) := by rw [List.getElem?_eq_getElem hlt]; rfl
  obtain ⟨v, h1, h2⟩ := hlo'.get hL
  have hg : j7 f.lo k = some v := by unfold j7; rw [if_pos harg.1]; exact h1
  exact ⟨goA s z r { f with st := v :: f.st }, by unfold t5; rw [hg]; rfl, hev, fun _ => fin { f with st := v :: f.st } [v] _ hmem rfl hlo' rfl (by show v :: f.st = _; rw [hst]; rfl) ⟨h2, trivial⟩ rfl rfl rfl rfl hev T.tape⟩
 by_cases n3 : op = 3
 ·subst n3
  have hlt : k.toNat < z.fr.f.Locals.length := by
   unfold a2k at hname
   have : k < z.fr.f.Locals.length := by simpa using hname
   omega
  have hL : z.fr.f.Locals[k.toNat]? = some (z.fr.f.Locals[k.toNat]?.getD 0) := by rw [List.getElem?_eq_getElem hlt]; rfl
  obtain ⟨w, h1, h2⟩ := hlo'.get hL
  have hg : j7 f.lo k = some w := by unfold j7; rw [if_pos harg.1]; exact h1
  obtain ⟨v, rfl, hvk⟩ := LOK.one (show LOK _ [z.fr.f.Locals[k.toNat]?.getD 0] vs from hv)
  exact ⟨goA s z r { f with st := st1, lo := f.lo.set k.toNat v }, by unfold t5; rw [hg, hst]; rfl, hev, fun _ => fin { f with st := st1, lo := f.lo.set k.toNat v } [] _ hmem rfl (hlo'.set hL hvk) rfl rfl trivial rfl rfl rfl rfl hev T.tape⟩
 by_cases n4 : op = 4
 ·subst n4
  obtain rfl := LOK.nil (show LOK _ [] vs from hv)
  obtain ⟨hlt, hL⟩ : k < z.fr.f.Locals.length /\ z.fr.f.Locals[k.toNat]? = some 0 := by
   unfold a2k at hname
   simpa using hname
  have hk1 := (r7 (G.fok hz.1.mem)).2.2.1
  have e : a8s f.nu k = a8s (r.length : Nat) (k.toNat : Nat) := by rw [hnu, hz.1.nu]; congr 1; omega
  have hp : VOK (a0B (z :: r)) 1 (a8s f.nu k) := by
   rw [e]
   refine ⟨?_, fun _ => .inr ⟨r.length, k.toNat, z.fr.f, ?_, hL, rfl⟩⟩
   ·rw [a6E zO zO]; exact ⟨by omega, by omega⟩
   ·show (z.fr.f :: a0B r).reverse[r.length]? = _
    rw [List.reverse_cons, List.getElem?_append_right (by simp [a0B])]; simp [a0B]
  exact ⟨goA s z r { f with st := a8s f.nu k :: f.st }, rfl, hev, fun _ => fin { f with st := a8s f.nu k :: f.st } [a8s f.nu k] _ hmem rfl hlo' rfl (by show a8s f.nu k :: f.st = _; rw [hst]; rfl) ⟨hp, trivial⟩ rfl rfl rfl rfl hev T.tape⟩
 by_cases n5 : op = 5
 ·subst n5
  obtain ⟨pt, rfl, hpt⟩ := LOK.one (show LOK _ [1] vs from hv)
  have e : t5 p s z r f 5 k im = if pt = 0 then a6X p s (⟨{ f with st := st1 }, z.why, z.df, z.ret⟩ :: r) 18446744073709551614 else (a5H (⟨{ f with st := st1 }, z.why, z.df, z.ret⟩ :: r) pt).map fun c => goA s z r { f with st := c.2.2 :: st1 } := by unfold t5; rw [hst]; rfl
  rw [e]
  by_cases h0 : pt = 0
  ·rw [if_pos h0]; exact pan _ ⟨by decide, by decide⟩
  ·rw [if_neg h0]
   obtain ⟨a, b, w, h1, h2, h3, h4⟩ := a5S hRT (by rw [hfs]; exact hpt.2 rfl) h0 zE G
   rw [h1]
   exact ⟨_, rfl, hev, fun _ => fin { f with st := w :: st1 } [w] _ hmem rfl hlo' rfl rfl ⟨.num h2, trivial⟩ rfl rfl rfl rfl hev T.tape⟩
 by_cases n6 : op = 6
 ·subst n6
  obtain ⟨v, pt, rfl, hvv, hpt⟩ := LOK.two (show LOK _ [0, 1] vs from hv)
  have e : t5 p s z r f 6 k im = if pt = 0 then a6X p s (⟨{ f with st := st1 }, z.why, z.df, z.ret⟩ :: r) 18446744073709551614 else (a5H (⟨{ f with st := st1 }, z.why, z.df, z.ret⟩ :: r) pt).map fun c => { s with rows := a8g (⟨{ f with st := st1 }, z.why, z.df, z.ret⟩ :: r) c.1 c.2.1 v } := by unfold t5; rw [hst]; rfl
  rw [e]
  by_cases h0 : pt = 0
  ·rw [if_pos h0]; exact pan _ ⟨by decide, by decide⟩
  ·rw [if_neg h0]
   obtain ⟨a, b, w, h1, h2, h3, h4⟩ := a5S hRT (by rw [hfs]; exact hpt.2 rfl) h0 zE G
   rw [h1]
   have T1 : a1S p (n + 1) { s with rows := ⟨{ f with st := st1 }, z.why, z.df, z.ret⟩ :: r } := fin { f with st := st1 } [] _ hmem rfl hlo' rfl rfl trivial rfl rfl rfl rfl hev T.tape
   obtain ⟨zt, rt, hzt, hrun⟩ := T1.top
   cases hzt
   obtain ⟨z', r', e1, e2⟩ := b5T (k := b) (v := v) ((⟨{ f with st := st1 }, z.why, z.df, z.ret⟩ :: r).length - 1 - a) hrun
   refine ⟨_, rfl, hev, fun _ => ⟨⟨z', r', e1, e2⟩, b6F hvv.1 _ _ T1.rt h4, ?_, T1.pv, ?_, T1.lv2, ?_, T1.dep, T1.ev, T1.tape⟩⟩
   ·show s.pans.length = w2 (List.modify _ _ _); rw [b6E]; exact T1.pn
   ·show s.live = ((dfS (List.modify _ _ _) : Nat) : Int); rw [b3Z]; exact T1.lv
   ·show (List.modify _ _ _).length <= _; rw [List.length_modify]; exact T1.rn
 by_cases n21 : op = 21
 ·subst n21
  obtain rfl := LOK.nil (show LOK _ [] vs from hv)
  exact ⟨goA s z r { f with pc := k }, rfl, hev, fun _ => fin { f with pc := k } [] _ (.head _) rfl hlo' rfl (by show f.st = _; rw [hst]) trivial rfl rfl rfl rfl hev T.tape⟩
 by_cases n22 : op = 22
 ·subst n22
  obtain ⟨v, rfl, hvv⟩ := LOK.one (show LOK _ [0] vs from hv)
  have e : t5 p s z r f 22 k im = some (goA s z r (if v = 0 then { f with pc := k, st := st1 } else { f with st := st1 })) := by unfold t5; rw [hst]; rfl
  rw [e]
  refine ⟨_, rfl, hev, fun _ => ?_⟩
  split
  ·exact fin { f with pc := k, st := st1 } [] _ (.tail _ (.head _)) rfl hlo' rfl rfl trivial rfl rfl rfl rfl hev T.tape
  ·exact fin { f with st := st1 } [] _ (by rw [show ({ f with st := st1 } : SFr).pc = (z.fr.pc.toNat : Int) + 1 from List.mem_singleton.1 hmem]; exact .head _) rfl hlo' rfl rfl trivial rfl rfl rfl rfl hev T.tape
 by_cases n31 : op = 31
 ·subst n31
  obtain ⟨v, rfl, hvv⟩ := LOK.one (show LOK _ [top] vs from hv)
  exact ⟨goA s z r { f with st := st1 }, (by unfold t5; rw [hst]; rfl), hev, fun _ => fin { f with st := st1 } [] _ hmem rfl hlo' rfl rfl trivial rfl rfl rfl rfl hev T.tape⟩
 by_cases n32 : op = 32
 ·subst n32
  obtain ⟨v, rfl, hvv⟩ := LOK.one (show LOK _ [top] vs from hv)
  exact ⟨goA s z r { f with st := v :: v :: st1 }, (by unfold t5; rw [hst]; rfl), hev, fun _ => fin { f with st := v :: v :: st1 } [v, v] _ hmem rfl hlo' rfl rfl ⟨hvv, hvv, trivial⟩ rfl rfl rfl rfl hev T.tape⟩
 by_cases n28 : op = 28
 ·subst n28
  obtain rfl := LOK.nil (show LOK _ [] vs from hv)
  have hin : WV (inV s.tape) := by
   unfold inV
   cases ht : s.tape with
   | nil => exact .zero
   | cons a l => exact T.tape a (by rw [ht]; exact .head _)
  exact ⟨{ s with tape := s.tape.tail, evs := s.evs ++ [⟨2, inV s.tape⟩], rows := { z with fr := { f with st := inV s.tape :: f.st } } :: r }, rfl, by simp; omega, fun _ => fin { f with st := inV s.tape :: f.st } [inV s.tape] _ hmem rfl hlo' rfl (by show inV s.tape :: f.st = _; rw [hst]; rfl) ⟨.num hin, trivial⟩ rfl rfl rfl rfl zE (fun v hv => T.tape v (List.mem_of_mem_tail hv))⟩
 by_cases n29 : op = 29
 ·subst n29
  obtain ⟨v, rfl, hvv⟩ := LOK.one (show LOK _ [0] vs from hv)
  exact ⟨{ s with evs := s.evs ++ [⟨1, v⟩], rows := { z with fr := { f with st := st1 } } :: r }, (by unfold t5; rw [hst]; rfl), by simp; omega, fun _ => fin { f with st := st1 } [] _ hmem rfl hlo' rfl rfl trivial rfl rfl rfl rfl zE T.tape⟩
 by_cases n23 : op = 23
 ·subst n23
  obtain ⟨g, hg⟩ : ∃ g, j7 p.Funcs k = some g := by
   unfold a2k at hname
   have : k < p.Funcs.length := by simpa using hname
   exact ⟨_, a0N harg.1 (by omega : k.toNat < p.Funcs.length)⟩
  have hg3 := (d9 hg).2.2
  have hE : eff p z.fr.f ⟨23, k, im⟩ top = (g.Locals.take g.Params.toNat, if g.Result = true then [0] else []) := by
   have e0 : eff p z.fr.f ⟨23, k, im⟩ top = (match p.Funcs[k.toNat]? with | some g => (g.Locals.take g.Params.toNat, if (23 : Int) = 23 /\ g.Result = true then [0] else []) | none => ([], [])) := rfl
   rw [e0, hg3]; simp
  have hgb := r7 (G.fok (a1c hg))
  rw [hE] at hv
  have hvl : vs.length = g.Params.toNat := by have := hv.len; simp [List.length_take] at this; omega
  have hag : LOK (a0B (z :: r)) (g.Locals.take g.Params.toNat) vs.reverse := by have := hv.rev; rwa [List.reverse_reverse] at this
  have hA : f.args p k = some (vs.reverse, { f with st := st1 }) := by
   unfold SFr.args
   rw [hg, Option.bind_some, hst, if_pos zE, <- hvl, List.take_left, List.drop_left]
  obtain ⟨m, b1, b2, b3⟩ := hfol _ (show f.pc ∈ a3f ⟨23, k, im⟩ z.fr.pc.toNat from hmem)
  rw [hE] at b3
  obtain ⟨lo, hb1, hb2⟩ := a8l G (r.length + 2) hg hag
  have e : t5 p s z r f 23 k im = some { s with rows := ⟨⟨g, lo, [], 0, ((r.length + 2 : Nat) : Int) - 1⟩, 0, [], 0⟩ :: ⟨{ f with st := st1 }, z.why, z.df, z.ret⟩ :: r, depth := max s.depth ((r.length : Int) + 2) } := by
   have e0 : t5 p s z r f 23 k im = ((f.args p k).bind fun a => (a1e p k a.1 (r.length + 2)).map fun f2 => { s with rows := ⟨f2, 0, [], 0⟩ :: { z with fr := a.2 } :: r, depth := max s.depth ((r.length : Int) + 2) }) := rfl
   rw [e0, hA, Option.bind_some, hb1]; rfl
  rw [e]
  have hd := T.dep
  have hlv := T.lv
  have hl2 := T.lv2
  rw [hs] at hlv
  refine ⟨_, rfl, hev, fun _ => ⟨⟨_, _, rfl, a6F G (a1c hg)⟩, ⟨⟨a1c hg, by show LOK (g :: a0B _) _ _; rw [hfs]; exact hb2, by show ((r.length + 2 : Nat) : Int) - 1 = ((r.length + 1 : Nat) : Int); omega, nofun, ⟨Int.le_refl _, by show (0 : Int) <= _; omega⟩, Nat.zero_le _, .zero⟩, fun _ y t' e => ?_, hRT⟩, ?_, T.pv, ?_, by show s.live <= _; omega, by simp; omega, ?_, hev, T.tape⟩⟩
  ·cases e
   refine ⟨R, t, ⟨23, k, im⟩, g, by rw [show (({ f with st := st1 } : SFr).f) = z.fr.f from hff]; exact hS, ?_, hg, by show 1 <= f.pc; omega, ?_, by rw [hfs]; exact ht⟩
   ·show j7 f.f.Code (f.pc - 1) = _
    rw [hff, hpcE, show z.fr.pc + 1 - 1 = z.fr.pc by omega]; exact hi
   ·show R f.pc.toNat = _
    rw [b1, Int.toNat_natCast]; exact b3
  ·show s.pans.length = (if (0 : Int) = 2 then 1 else 0) + w2 (z :: r)
   rw [T.pn, hs]; simp
  ·show s.live = ((0 + dfS (z :: r) : Nat) : Int)
   rw [hlv]; simp
  ·show 0 <= max s.depth ((r.length : Int) + 2) /\ max s.depth ((r.length : Int) + 2) <= _
   omega
 by_cases n25 : op = 25
 ·subst n25
  obtain ⟨g, hg⟩ : ∃ g, j7 p.Funcs k = some g := by
   unfold a2k at hname
   have : k < p.Funcs.length := by simpa using hname
   exact ⟨_, a0N harg.1 (by omega : k.toNat < p.Funcs.length)⟩
  have hg3 := (d9 hg).2.2
  have hE : eff p z.fr.f ⟨25, k, im⟩ top = (g.Locals.take g.Params.toNat, []) := by
   have e0 : eff p z.fr.f ⟨25, k, im⟩ top = (match p.Funcs[k.toNat]? with | some g => (g.Locals.take g.Params.toNat, if (25 : Int) = 23 /\ g.Result = true then [0] else []) | none => ([], [])) := rfl
   rw [e0, hg3]; simp
  have hgb := r7 (G.fok (a1c hg))
  rw [hE] at hv
  have hvl : vs.length = g.Params.toNat := by have := hv.len; simp [List.length_take] at this; omega
  have hag : LOK (a0B (z :: r)) (g.Locals.take g.Params.toNat) vs.reverse := by have := hv.rev; rwa [List.reverse_reverse] at this
  have hA : f.args p k = some (vs.reverse, { f with st := st1 }) := by
   unfold SFr.args
   rw [hg, Option.bind_some, hst, if_pos zE, <- hvl, List.take_left, List.drop_left]
  obtain ⟨m, b1, b2, b3⟩ := hfol _ (show f.pc ∈ a3f ⟨25, k, im⟩ z.fr.pc.toNat from hmem)
  rw [hE] at b3
  have e : t5 p s z r f 25 k im = some { s with rows := ⟨{ f with st := st1 }, z.why, ⟨k, vs.reverse⟩ :: z.df, z.ret⟩ :: r, defers := max s.defers (s.live + 1), live := s.live + 1 } := by
   have e0 : t5 p s z r f 25 k im = ((f.args p k).map fun a => { s with rows := { z with fr := a.2, df := ⟨k, a.1⟩ :: z.df } :: r, defers := max s.defers (s.live + 1), live := s.live + 1 }) := rfl
   rw [e0, hA]; rfl
  rw [e]
  refine ⟨_, rfl, hev, fun _ => b0g (f' := { f with st := st1 }) (df := ⟨k, vs.reverse⟩ :: z.df) T hs hff hlo' hnu hS (by show 0 <= f.pc; omega) (s2 := t ++ []) (by show R f.pc.toNat = _; rw [b1, Int.toNat_natCast]; exact b3) (by rw [List.append_nil]; exact ht) (by show st1.length <= _; omega) rfl (fun d hd => ?_) rfl T.pv (by show s.live + 1 + (z.df.length : Int) = s.live + ((z.df.length + 1 : Nat) : Int); omega) (Int.le_refl _) rfl hev T.tape⟩
  rcases List.mem_cons.1 hd with rfl | hd
  ·exact ⟨g, hg, hag⟩
  ·exact hz.1.df d hd
 by_cases n24 : op = 24
 ·subst n24
  obtain ⟨v, f1, h1, h2, h3, h4, h5, h6, h7⟩ : ∃ v f1, a6W f = some (v, f1) /\ WV v /\ f1.f = f.f /\ f1.lo = f.lo /\ f1.nu = f.nu /\ f1.pc = f.pc /\ f1.st.length <= z.fr.st.length := by
   have hff2 : f.f.Result = z.fr.f.Result := by rw [hff]
   unfold a6W
   rw [hff2]
   cases hres : z.fr.f.Result with
   | true =>
     have hE : eff p z.fr.f ⟨24, k, im⟩ top = (if z.fr.f.Result = true then [0] else [], []) := rfl
     rw [hE, hres] at hv
     obtain ⟨v, rfl, hvv⟩ := LOK.one (show LOK _ [0] vs from hv)
     rw [hst]
     exact ⟨v, { f with st := st1 }, rfl, hvv.1, rfl, rfl, rfl, rfl, hsl⟩
   | false => exact ⟨0, f, rfl, .zero, rfl, rfl, rfl, rfl, by rw [hzs]; exact Nat.le_refl _⟩
  obtain ⟨u, e1, e2⟩ := b7Y G T hs (f' := f1) (v := v) (h3.trans hff) (h4.trans hlo) (h5.trans hnu) (by rw [h6]; exact hpr) h7 h2
  have e : t5 p s z r f 24 k im = ((a6W f).bind fun a => (a5n p { z with fr := a.2, ret := a.1 } r s.pans).map fun u =>
    { s with rows := u.A, pans := u.ps, ek := u.en.elim s.ek (·.1), ev := u.en.elim s.ev (·.2), depth := if u.push then max s.depth (u.A.length : Int) else s.depth, live := if u.push then s.live - 1 else s.live }) := rfl
  rw [e, h1, Option.bind_some, e1]
  exact ⟨_, rfl, hev, e2⟩
 by_cases n26 : op = 26
 ·subst n26
  obtain ⟨v, rfl, hvv⟩ := LOK.one (show LOK _ [0] vs from hv)
  have e : t5 p s z r f 26 k im = a6X p s (⟨{ f with st := st1 }, z.why, z.df, z.ret⟩ :: r) v := by unfold t5; rw [hst]; rfl
  rw [e]
  exact pan v hvv.1
 by_cases n27 : op = 27
 ·subst n27
  obtain rfl := LOK.nil (show LOK _ [] vs from hv)
  have hno : ¬ (z.why = 2 /\ s.pans = []) := fun ⟨h1, h2⟩ => by
   have := T.pn
   rw [hs, h2, a4t, if_pos h1] at this
   simp at this
   omega
  obtain ⟨q1, q2, q3, q4⟩ := b7Z (w := z.why) T.pv
  have e : t5 p s z r f 27 k im = some { s with rows := { z with fr := { f with st := (a1L z.why s.pans).1.2 :: (a1L z.why s.pans).1.1 :: f.st } } :: r, pans := (a1L z.why s.pans).2 } := by
   have e0 : t5 p s z r f 27 k im = (if z.why = 2 /\ s.pans = [] then none else some { s with rows := { z with fr := { f with st := (a1L z.why s.pans).1.2 :: (a1L z.why s.pans).1.1 :: f.st } } :: r, pans := (a1L z.why s.pans).2 }) := rfl
   rw [e0, if_neg hno]
  rw [e]
  obtain ⟨m, b1, b2, b3⟩ := hfol _ (show f.pc ∈ a3f ⟨27, k, im⟩ z.fr.pc.toNat from hmem)
  exact ⟨_, rfl, hev, fun _ => b0g (f' := { f with st := (a1L z.why s.pans).1.2 :: (a1L z.why s.pans).1.1 :: f.st }) (df := z.df) T hs hff hlo' hnu hS (by show 0 <= f.pc; omega) (s2 := t ++ [0, 0]) (by show R f.pc.toNat = _; rw [b1, Int.toNat_natCast]; exact b3) (by rw [List.reverse_append, hst]; exact ⟨.num q4, .num q3, ht⟩) (by simp; rw [hzs]; omega) rfl hz.1.df q1 q2 rfl (by show s.live <= _; omega) rfl hev T.tape⟩
 by_cases n30 : op = 30
 ·subst n30
  obtain ⟨v, rfl, hvv⟩ := LOK.one (show LOK _ [0] vs from hv)
  exact ⟨{ s with rows := { z with fr := { f with st := st1 } } :: r, ek := 1, ev := v }, (by unfold t5; rw [hst]; rfl), hev, fun h => by cases h⟩
 have hE : eff p z.fr.f ⟨op, k, im⟩ top = ([0, 0], [0]) := by
  unfold eff; simp [n1, n2, n3, n4, n5, n6, n21, n22, n31, n32, n28, n29, n23, n25, n24, n26, n27, n30]
 have hF : a3f ⟨op, k, im⟩ z.fr.pc.toNat = [(z.fr.pc.toNat : Int) + 1] := by
  unfold a3f; simp [n21, n22, n24, n26, n30]
 rw [hE] at hv
 obtain ⟨b, a, rfl, hb, ha⟩ := LOK.two (show LOK _ [0, 0] vs from hv)
 obtain ⟨w, er, h1, h2⟩ := c0b (op := op) ha.1 hb.1
 have e : t5 p s z r f op k im = if er = 0 then some (goA s z r { f with st := w :: st1 }) else a6X p s (⟨{ f with st := st1 }, z.why, z.df, z.ret⟩ :: r) 18446744073709551615 := by
  unfold t5
  simp only [n1, n2, n3, n4, n5, n6, n21, n22, n31, n32, n28, n29, n23, n25, n24, n26, n27, n30, if_false]
  rw [hst]
  simp only [List.cons_append, List.nil_append, h1, Option.bind_some]
 rw [e]
 by_cases h0 : er = 0
 ·rw [if_pos h0]
  exact ⟨_, rfl, hev, fun _ => fin { f with st := w :: st1 } [w] _ (by rw [hF]; exact hmem) rfl hlo' rfl rfl (by rw [hE]; exact ⟨.num h2, trivial⟩) rfl rfl rfl rfl hev T.tape⟩
 ·rw [if_neg h0]
  exact pan _ ⟨by decide, by decide⟩
theorem prog (G : a5p p) (T : a1S p n s) (hn : n < 2097152) (hk : s.ek = 0) : ∃ b, a3e p s = some b /\ b.evs.length <= n + 1 /\ (b.ek = 0 -> a1S p (n + 1) b) := by
 obtain ⟨z, r, hs, hR⟩ := T.top
 have hz := T.rt
 rw [hs] at hz
 obtain ⟨⟨op, k, im⟩, R, t, top, vs, st1, hi, hS, hst, hv, ht, hfol, hcode, harg, hpc, him⟩ := b5S G hz.1.mem hR
 have e : a3e p s = t5 p s z r { z.fr with pc := z.fr.pc + 1 } op k im := by
  unfold a3e; rw [hs]; simp only [hi, Option.bind_some]
 rw [e]
 exact b5U G T hs hn (f := { z.fr with pc := z.fr.pc + 1 }) rfl rfl rfl rfl hpc hi hS rfl hst hv ht hfol (a7v hcode) harg him hk
end
end Go.Proofs.Ytnpemocpfdgaoaa

/- Runs of checked programs: the whole run. -/
namespace Go.Proofs.Ytnpemocpfdgaoaa
open Go Go.Ab Go.RowKit
set_option maxRecDepth 20000
section
variable {p : Program} {n : Nat} {s b : AS} {z : ARow} {r : List ARow}
theorem a1S.bd (G : a5p p) (T : a1S p n s) (hn : n <= 2097152) {k : Int} : Bd p { s with steps := k } := by
 have h1 := T.rn
 have h2 := T.pn
 have h3 := b7W s.rows
 have h4 := T.dep
 have h5 := T.lv
 have h6 := T.lv2
 have h7 := T.ev
 refine ⟨fun g hg => by have := (r7 (G.fok hg)).2.2.1; omega, by show s.rows.length < _; omega, by show s.pans.length < _; omega, ⟨h4.1, by show s.depth < _; omega⟩, ⟨by show 0 <= s.live; omega, by show s.live < _; omega⟩, fun z hz => ?_, by show s.evs.length < _; omega⟩
 replace hz : z ∈ s.rows := hz
 obtain ⟨r, hB⟩ := T.rt.mem hz
 have hd := b7X hz
 have hp := hB.pc
 have hs := hB.st
 have hc := (r7 (G.fok hB.mem)).2.2.2.1
 exact ⟨by show (z.df.length : Int) <= s.live; omega, by omega, by omega⟩
theorem a4v {k : Int} (T : a1S p n s) : a1S p n { s with steps := k } := ⟨T.top, T.rt, T.pn, T.pv, T.lv, T.lv2, T.rn, T.dep, T.ev, T.tape⟩
theorem b4a (G : a5p p) : ∀ (k n : Nat) (s : AS), s.evs.length <= n -> (s.ek = 0 -> a1S p n s) -> n + k <= 2097152 -> b9U p k s /\ ∃ s', a8i p k s = some s' /\ s'.evs.length <= n + k
 | 0, n, s, he, h, hn => by
   refine ⟨trivial, ?_⟩
   unfold a8i
   by_cases hk : s.ek = 0
   ·rw [if_neg (by simpa using hk)]; exact ⟨_, rfl, he⟩
   ·rw [if_pos hk]; exact ⟨_, rfl, he⟩
 | k + 1, n, s, he, h, hn => by
   by_cases hk : s.ek = 0
   ·have T := h hk
    obtain ⟨b, h1, h2, h3⟩ := prog G (a4v (k := s.steps + 1) T) zO hk
    have ih := b4a G k (n + 1) b h2 h3 zO
    refine ⟨fun _ => ⟨T.bd G zO, fun s' hs' => ?_⟩, ?_⟩
    ·rw [h1] at hs'; cases hs'; exact ih.1
    ·unfold a8i
     rw [if_neg (by simpa using hk)]
     simp only [h1, Option.bind_some]
     obtain ⟨s', e1, e2⟩ := ih.2
     exact ⟨s', e1, by omega⟩
   ·refine ⟨fun h => absurd h hk, ?_⟩
    unfold a8i
    rw [if_pos hk]
    exact ⟨_, rfl, by omega⟩
theorem b1e (G : a5p p) {tape : List Int} (ht : ∀ v ∈ tape, WV v) : ∃ s1, as1 p tape = some s1 /\ a1S p 0 s1 /\ s1.steps = 0 /\ s1.defers = 0 /\ s1.panics = 0 := by
 have hok := G.ok
 unfold a3K a5J at hok
 cases hf : p.Funcs with
 | nil => rw [hf] at hok; simp at hok
 | cons f l =>
   rw [hf] at hok
   simp only [Bool.and_eq_true, decide_eq_true_eq, Bool.not_eq_true'] at hok
   have hp0 : f.Params = 0 := hok.2.2.1.1
   have hg : j7 p.Funcs 0 = some f := by rw [show (0 : Int) = ((0 : Nat) : Int) from rfl, m9, hf]; rfl
   have hm : f ∈ p.Funcs := by rw [hf]; exact .head _
   obtain ⟨lo, h1, h2⟩ := a8l G (fs := []) (ag := []) 1 hg (by rw [hp0]; exact trivial)
   refine ⟨{ as0 tape with rows := [⟨⟨f, lo, [], 0, ((1 : Nat) : Int) - 1⟩, 0, [], 0⟩], depth := 1 }, by unfold as1; rw [h1]; rfl, ⟨⟨_, _, rfl, a6F G hm⟩, ⟨⟨hm, h2, rfl, nofun, ⟨Int.le_refl _, by show (0 : Int) <= _; omega⟩, Nat.zero_le _, .zero⟩, (fun _ y t e => (by cases e)), trivial⟩, rfl, nofun, rfl, Int.le_refl _, Nat.le_refl _, ⟨by show (0 : Int) <= 1; decide, by show (1 : Int) <= _; omega⟩, Nat.le_refl _, ht⟩, rfl, rfl, rfl⟩
theorem b1f (G : a5p p) {tape : List Int} {fl : Int} {c : Option a1y × Int} (hc : u5 1048577 p = some c) (hc0 : c.2 = 0) (ht : ∀ v ∈ tape, WV v) (htl : tape.length < 1000000000) (hfl : 0 <= fl /\ fl <= 1048576) :
  ∃ s1 s2, as1 p tape = some s1 /\ a1S p 0 s1 /\ s1.steps = 0 /\ a8i p fl.toNat s1 = some s2 /\ a0x 1048577 p tape fl = some (b8F s2, 0) /\ s2.evs.length <= fl.toNat := by
 obtain ⟨s1, h1, h2, h3, _⟩ := b1e G ht
 obtain ⟨h4, s2, h5, h6⟩ := b4a G fl.toNat 0 s1 h2.ev (fun _ => h2) zO
 exact ⟨s1, s2, h1, h2, h3, h5, a5o hc (.run hc0 hfl h1 h5 h4 (fun g hg => by have := (r7 (G.fok hg)).2.2.1; omega) zO htl), by omega⟩
theorem a7w {c : Option a1y × Int} (hl : p.Funcs.length <= 1048576) (hi : ∀ f ∈ p.Funcs, ∀ i ∈ f.Code, WV i.Imm) (hc : u5 1048577 p = some c) (h0 : c.2 = 0) : a5p p := by
 obtain ⟨o, h1, h2⟩ := b1c p hl
 rw [hc] at h1; cases h1
 rcases h2 with ⟨_, rfl⟩ | ⟨_, _, rfl⟩ | ⟨_, _, _, rfl⟩ | ⟨_, _, rfl⟩ | ⟨_, _, _, rfl⟩ | ⟨g1, _, T, _, _, _, g2⟩
 ·cases h0
 ·cases h0
 ·cases h0
 ·cases h0
 ·cases h0
 ·refine ⟨g1, fun f hf => ?_, hi⟩
  obtain ⟨k, hk⟩ := List.getElem?_of_mem hf
  obtain ⟨_, _, _, _, R, hR, _⟩ := g2 k f hk
  exact ⟨R, hR⟩
structure Ext (a b : AS) : Prop where
 evs : ∃ l, b.evs = a.evs ++ l
 depth : a.depth <= b.depth
 defers : a.defers <= b.defers
 panics : a.panics <= b.panics
theorem Ext.refl {a : AS} : Ext a a := ⟨⟨[], by simp⟩, Int.le_refl _, Int.le_refl _, Int.le_refl _⟩
theorem Ext.trans {a b c : AS} (h : Ext a b) (k : Ext b c) : Ext a c := by
 obtain ⟨l, h1⟩ := h.evs
 obtain ⟨m, k1⟩ := k.evs
 exact ⟨⟨l ++ m, by rw [k1, h1, List.append_assoc]⟩, Int.le_trans h.depth k.depth, Int.le_trans h.defers k.defers, Int.le_trans h.panics k.panics⟩
end
end Go.Proofs.Ytnpemocpfdgaoaa

