/- The settings of a claim: no variable of the package's is leant on. -/
import Derived.WalkKit
set_option linter.unusedVariables false
set_option linter.unusedSimpArgs false
namespace Go.Ab
open Go.RowKit

def b5S (_ : Nat) : Option (Array Value -> Prop) := none
theorem a8O (B : Nat) (w : World) : ∀ b p, b5S b = some p -> b < B /\ ∃ cs t fz, w.heap[b]? = some (.cells cs t fz) /\ p cs := fun _ _ h => by cases h
theorem zO {p : Prop} (h : p := by omega) : p := h
theorem zK {p : Prop} (h : p := by kernel_rfl) : p := h
theorem zD {p : Prop} (h : p := by decide) : p := h
theorem zS {p : Prop} (h : p := by simp) : p := h
theorem zI {p : Prop} (h : p := by simp only [id]; omega) : p := h
theorem zC {p : Prop} (h : p := by conv => lhs; whnf) : p := h
theorem zE {p : Prop} (h : p := by simp; omega) : p := h
theorem zqV {p : Prop} (h : p := by first | exact Nat.le_of_ble_eq_true rfl | (simp; omega) | omega) : p := h
theorem zM {p : Prop} (h : p := by first | exact .head _ | exact .tail _ (.head _) | exact .tail _ (.tail _ (.head _)) | simp) : p := h
theorem zA {p : Prop} (h : p := by first | rfl | exact (Nat.add_zero _).symm | (simp only [Nat.zero_add]; exact (Nat.add_zero _).symm) | (simp only [Nat.zero_add, Nat.add_zero])) : p := h
inductive AV where
 | int (k : IntKind) (n : Int)
 | bool (b : Bool)
 | str (s : ByteArray)
 | nilp
 | ptr (o ver off : Nat)
 | cptr (cs : List AV) (off : Nat)
 | nils
 | snn (sz : Nat)
 | sl (ex : Bool) (sz : Nat) (xs : List AV)
 | ref (o ver off n : Nat) (esh : Option Nat)
 | agg (cs : List AV)
 | tup (vs : List AV)
 | nilf
 | fn (f : Fn) (first caps : List AV)
 | nili
 | iface (t : TypeId) (v : AV)
 | nilm
 | mp (o ver : Nat)
 | junk
 deriving Inhabited

def AV.cells : AV -> List AV
 | .agg cs => cs
 | v => [v]

def d9 (esh : Option Nat) : Nat := esh.getD 1

structure Loc where
 b : Nat
 off : Nat
 cap : Nat

inductive Ob where
 | virgin
 | dead (ver : Nat)
 | arr (ver : Nat) (cs : List AV)
 deriving Inhabited

abbrev Hp := Nat -> Ob

def a0Q (L : Nat -> Loc) (σ : Hp) (o ver off : Nat) (a : Addr) : Prop :=
 match σ o with
 | .virgin => False
 | .dead v => ver <= v
 | .arr v _ => ver <= v /\ (ver = v -> a = ⟨(L o).b, (L o).off + off, none⟩)

def a0p (L : Nat -> Loc) (σ : Hp) (o ver off n sz : Nat) (a : Addr) (cap : Nat) : Prop :=
 match σ o with
 | .virgin => False
 | .dead v => ver <= v
 | .arr v cs => ver <= v /\ (ver = v -> a = ⟨(L o).b, (L o).off + off, none⟩ /\ off + n * sz <= cs.length /\ n <= cap /\ off + cap * sz <= (L o).cap)

def a2I (σ : Hp) (o ver : Nat) : Prop :=
 match σ o with
 | .virgin => False
 | .dead v => ver <= v
 | .arr v _ => ver <= v

abbrev Pm := Nat -> Nat -> Option Value

inductive VR (pm : Pm) (L : Nat -> Loc) (σ : Hp) : AV -> Value -> Prop where
 | int {k n} : VR pm L σ (.int k n) (.int k n)
 | bool {b} : VR pm L σ (.bool b) (.bool b)
 | str {s} : VR pm L σ (.str s) (.string s)
 | nilp : VR pm L σ .nilp (.pointer none)
 | ptr {o ver off a} (h : a0Q L σ o ver off a) : VR pm L σ (.ptr o ver off) (.pointer (some a))
 | cptr {cs : List AV} {off b o} (us : Nat -> Value) (hp : ∀ j, j < cs.length -> pm b (o + j) = some (us j))
   (hv : ∀ j (h : j < cs.length), VR pm L σ (cs[j]) (us j)) : VR pm L σ (.cptr cs off) (.pointer (some ⟨b, o + off, none⟩))
 | nils : VR pm L σ .nils (.slice none 0 0)
 | snn {sz b o cap} : VR pm L σ (.snn sz) (.slice (some ⟨b, o, none⟩) 0 cap)
 | snnz {sz a} : VR pm L σ (.snn sz) (.slice (some a) 0 0)
 | slnil {ex sz} : VR pm L σ (.sl ex sz []) (.slice none 0 0)
 | slz {ex sz a} : VR pm L σ (.sl ex sz []) (.slice (some a) 0 0)
 | sl {ex} {sz : Nat} {xs : List AV} {b o cap : Nat} (us : Nat -> Nat -> Value) (hc : xs.length <= cap) (he : ex = true -> cap = xs.length)
   (hz : ∀ i (h : i < xs.length), (xs[i]).cells.length = sz)
   (hp : ∀ i j, i < xs.length -> j < sz -> pm b (o + i * sz + j) = some (us i j))
   (hv : ∀ i (h : i < xs.length) j (hj : j < (xs[i]).cells.length), VR pm L σ ((xs[i]).cells[j]) (us i j)) :
   VR pm L σ (.sl ex sz xs) (.slice (some ⟨b, o, none⟩) xs.length cap)
 | ref {o ver off n esh a cap} (hn : n <= cap) (hs : a.spot = none) (h : a0p L σ o ver off n (d9 esh) a cap) : VR pm L σ (.ref o ver off n esh) (.slice (some a) n cap)
 | refnil {o ver off esh} {a : Option Addr} (h : a2I σ o ver) : VR pm L σ (.ref o ver off 0 esh) (.slice a 0 0)
 | agg {cs : List AV} {vs : Array Value} (hl : vs.size = cs.length) (hv : ∀ j (h : j < cs.length) (h' : j < vs.size), VR pm L σ (cs[j]) (vs[j])) : VR pm L σ (.agg cs) (.agg vs)
 | tup {cs : List AV} {vs : Array Value} (hl : vs.size = cs.length) (hv : ∀ j (h : j < cs.length) (h' : j < vs.size), VR pm L σ (cs[j]) (vs[j])) : VR pm L σ (.tup cs) (.tuple vs)
 | nilf : VR pm L σ .nilf .nilFunc
 | fn {f : Fn} {first caps : List AV} {fs cs : Array Value} (hlf : fs.size = first.length) (hlc : cs.size = caps.length)
   (hvf : ∀ j (h : j < first.length) (h' : j < fs.size), VR pm L σ (first[j]) (fs[j]))
   (hvc : ∀ j (h : j < caps.length) (h' : j < cs.size), VR pm L σ (caps[j]) (cs[j])) : VR pm L σ (.fn f first caps) (.func f fs cs)
 | nili : VR pm L σ .nili .nilIface
 | iface {t v u} (h : VR pm L σ v u) : VR pm L σ (.iface t v) (.iface t u)
 | nilm : VR pm L σ .nilm (.map none)
 | junk {v} : VR pm L σ .junk v

def u0 (a : Ob) (la : Loc) (b : Ob) (lb : Loc) : Prop :=
 match a, b with
 | .virgin, _ => True
 | .dead v, .dead v' => v <= v'
 | .dead v, .arr v' _ => v < v'
 | .arr v _, .dead v' => v <= v'
 | .arr v cs, .arr v' cs' => v < v' \/ (v = v' /\ lb = la /\ cs'.length = cs.length)
 | _, .virgin => False

theorem u0.refl (a : Ob) (l : Loc) : u0 a l a l := by cases a <;> simp [u0]

theorem u0.trans {a b c : Ob} {la lb lc : Loc} (h : u0 a la b lb) (k : u0 b lb c lc) : u0 a la c lc := by
 cases a <;> cases b <;> cases c <;> simp_all [u0] <;> (first | omega | (rcases h with h | ⟨h1, h2, h3⟩ <;> rcases k with k | ⟨k1, k2, k3⟩ <;> first | (left; omega) | (right; refine ⟨by omega, by simp_all, by omega⟩)) | (rcases h with h | ⟨h1, h2, h3⟩ <;> omega) | (rcases k with k | ⟨k1, k2, k3⟩ <;> omega) | skip)

structure Ext (pm : Pm) (L : Nat -> Loc) (σ : Hp) (pm' : Pm) (L' : Nat -> Loc) (σ' : Hp) : Prop where
 pm : ∀ b o v, pm b o = some v -> pm' b o = some v
 ob : ∀ o, u0 (σ o) (L o) (σ' o) (L' o)

theorem Ext.refl (pm : Pm) (L : Nat -> Loc) (σ : Hp) : Ext pm L σ pm L σ := ⟨fun _ _ _ h => h, fun _ => u0.refl _ _⟩
theorem Ext.trans {pm pm' pm'' : Pm} {L L' L''} {σ σ' σ'' : Hp} (h : Ext pm L σ pm' L' σ') (k : Ext pm' L' σ' pm'' L'' σ'') : Ext pm L σ pm'' L'' σ'' :=
 ⟨fun b o v e => k.pm _ _ _ (h.pm _ _ _ e), fun o => (h.ob o).trans (k.ob o)⟩

theorem a0Q.mono {L L'} {σ σ' : Hp} {o ver off a} (h : u0 (σ o) (L o) (σ' o) (L' o)) (k : a0Q L σ o ver off a) : a0Q L' σ' o ver off a := by
 unfold a0Q at *
 cases h1 : σ o <;> cases h2 : σ' o <;> simp only [h1, h2, u0] at h k ⊢
 ·omega
 ·exact ⟨by omega, fun e => by omega⟩
 ·omega
 ·rcases h with h | ⟨h, h', _⟩
  ·exact ⟨by omega, fun e => by omega⟩
  ·subst h; rw [h']; exact k

theorem a0p.mono {L L'} {σ σ' : Hp} {o ver off n sz a cap} (h : u0 (σ o) (L o) (σ' o) (L' o)) (k : a0p L σ o ver off n sz a cap) : a0p L' σ' o ver off n sz a cap := by
 unfold a0p at *
 cases h1 : σ o <;> cases h2 : σ' o <;> simp only [h1, h2, u0] at h k ⊢
 ·omega
 ·exact ⟨by omega, fun e => by omega⟩
 ·omega
 ·rcases h with h | ⟨h, h', h3⟩
  ·exact ⟨by omega, fun e => by omega⟩
  ·subst h; rw [h', h3]; exact k

theorem VR.slz' {pm L σ ex sz} {a : Option Addr} : VR pm L σ (.sl ex sz []) (.slice a 0 0) := by
 cases a with
 | none => exact .slnil
 | some a => exact .slz

theorem a2I.mono {L L' : Nat -> Loc} {σ σ' : Hp} {o ver} (h : u0 (σ o) (L o) (σ' o) (L' o)) (k : a2I σ o ver) : a2I σ' o ver := by
 unfold a2I at *
 cases h1 : σ o <;> cases h2 : σ' o <;> simp only [h1, h2, u0] at h k ⊢ <;> omega

theorem VR.mono {pm pm' : Pm} {L L'} {σ σ' : Hp} (e : Ext pm L σ pm' L' σ') {x : AV} {v : Value} (h : VR pm L σ x v) : VR pm' L' σ' x v := by
 induction h with
 | int => exact .int
 | bool => exact .bool
 | str => exact .str
 | nilp => exact .nilp
 | ptr h => exact .ptr (h.mono (e.ob _))
 | cptr us hp _ ih => exact .cptr us (fun j hj => e.pm _ _ _ (hp j hj)) ih
 | nils => exact .nils
 | snn => exact .snn
 | snnz => exact .snnz
 | slnil => exact .slnil
 | slz => exact .slz
 | sl us hc he hz hp _ ih => exact .sl us hc he hz (fun i j hi hj => e.pm _ _ _ (hp i j hi hj)) ih
 | ref hn hs h => exact .ref hn hs (h.mono (e.ob _))
 | refnil h => exact .refnil (h.mono (e.ob _))
 | agg hl _ ih => exact .agg hl ih
 | tup hl _ ih => exact .tup hl ih
 | nilf => exact .nilf
 | fn hlf hlc _ _ ihf ihc => exact .fn hlf hlc ihf ihc
 | nili => exact .nili
 | iface _ ih => exact .iface ih
 | nilm => exact .nilm
 | junk => exact .junk

structure Gh where
 pm : Pm
 tm : Pm
 L : Nat -> Loc
 B0 : Nat
 w0 : World

def b1H (B0 : Nat) (w0 : World) : Prop := ∀ b p, b5S b = some p -> b < B0 /\ ∃ cs t fz, w0.heap[b]? = some (.cells cs t fz) /\ p cs

structure c1S (g : Gh) (σ : Hp) (o : Nat) (cs : List AV) (w : World) : Prop where
 low : 0 < (g.L o).cap -> g.B0 <= (g.L o).b
 len : cs.length <= (g.L o).cap
 there : ∀ j, j < (g.L o).cap -> ∃ v, w.cell? ⟨(g.L o).b, (g.L o).off + j, none⟩ = some v /\ ∀ h : j < cs.length, VR g.pm g.L σ (cs[j]) v
 free : ∀ j, j < (g.L o).cap -> w.frozen? ⟨(g.L o).b, (g.L o).off + j, none⟩ = false
 pm : ∀ j, j < (g.L o).cap -> g.pm (g.L o).b ((g.L o).off + j) = none
 tm : ∀ j, j < (g.L o).cap -> g.tm (g.L o).b ((g.L o).off + j) = none

def b1I (l l' : Loc) : Prop := l.b = l'.b -> ∀ j j', j < l.cap -> j' < l'.cap -> l.off + j ≠ l'.off + j'

structure WRel (g : Gh) (σ : Hp) (w : World) : Prop where
 pm : ∀ b o v, g.pm b o = some v -> w.cell? ⟨b, o, none⟩ = some v
 tm : ∀ b o v, g.tm b o = some v -> w.cell? ⟨b, o, none⟩ = some v
 tmf : ∀ b o v, g.tm b o = some v -> w.frozen? ⟨b, o, none⟩ = false
 disj : ∀ b o v, g.pm b o = some v -> g.tm b o = none
 low : Below g.B0 g.w0 w
 B0 : g.B0 <= w.heap.size
 tab : b1H g.B0 g.w0
 ob : ∀ o ver cs, σ o = .arr ver cs -> c1S g σ o cs w
 sep : ∀ o o' ver ver' cs cs', σ o = .arr ver cs -> σ o' = .arr ver' cs' -> o ≠ o' -> b1I (g.L o) (g.L o')

structure Gh.le (g : Gh) (σ : Hp) (g' : Gh) (σ' : Hp) : Prop where
 ext : Ext g.pm g.L σ g'.pm g'.L σ'
 tm : g'.tm = g.tm
 B0 : g'.B0 = g.B0
 w0 : g'.w0 = g.w0

theorem Gh.le.refl (g : Gh) (σ : Hp) : g.le σ g σ := ⟨Ext.refl _ _ _, rfl, rfl, rfl⟩
theorem Gh.le.trans {g g' g'' : Gh} {σ σ' σ''} (h : g.le σ g' σ') (k : g'.le σ' g'' σ'') : g.le σ g'' σ'' :=
 ⟨h.ext.trans k.ext, k.tm.trans h.tm, k.B0.trans h.B0, k.w0.trans h.w0⟩
theorem a0E {w : World} {a : Addr} {u : Value} (h : w.cell? a = some u) : a.block < w.heap.size := World.block_lt_of_cell? _ _ h
inductive AVw : AV -> AV -> Prop
 | refl (x) : AVw x x
 | junk (x) : AVw x .junk
 | nil {ex sz} : AVw .nils (.sl ex sz [])
 | snn {sz} : AVw (.snn sz) (.sl false sz [])
 | agg {xs ys : List AV} (hl : xs.length = ys.length) (h : ∀ j (h1 : j < xs.length) (h2 : j < ys.length), AVw xs[j] ys[j]) : AVw (.agg xs) (.agg ys)
 | tup {xs ys : List AV} (hl : xs.length = ys.length) (h : ∀ j (h1 : j < xs.length) (h2 : j < ys.length), AVw xs[j] ys[j]) : AVw (.tup xs) (.tup ys)
 | cptr {xs ys : List AV} {off} (hl : xs.length = ys.length) (h : ∀ j (h1 : j < xs.length) (h2 : j < ys.length), AVw xs[j] ys[j]) : AVw (.cptr xs off) (.cptr ys off)
 | sl {ex ex' sz} {xs ys : List AV} (he : ex' = true -> ex = true) (hl : xs.length = ys.length) (hz : ∀ i (h1 : i < xs.length) (h2 : i < ys.length), (xs[i]).cells.length = (ys[i]).cells.length)
   (h : ∀ i (h1 : i < xs.length) (h2 : i < ys.length) j (h3 : j < (xs[i]).cells.length) (h4 : j < (ys[i]).cells.length), AVw ((xs[i]).cells[j]) ((ys[i]).cells[j])) : AVw (.sl ex sz xs) (.sl ex' sz ys)

theorem VR.w {pm L σ} {x y : AV} {u : Value} (h : VR pm L σ x u) (k : AVw x y) : VR pm L σ y u := by
 induction k generalizing u with
 | refl x => exact h
 | junk x => exact .junk
 | nil => cases h; exact .slnil
 | snn =>
   cases h with
   | snn => exact VR.sl (xs := []) (fun _ _ => undef) (Nat.zero_le _) (by intro e; cases e) (fun i h => by simp at h) (fun i j h => by simp at h) (fun i h => by simp at h)
   | snnz => exact .slz
 | agg hl _ ih => cases h with | agg a b => exact .agg zO (fun j h1 h2 => ih j zO h1 (b j zO h2))
 | tup hl _ ih => cases h with | tup a b => exact .tup zO (fun j h1 h2 => ih j zO h1 (b j zO h2))
 | cptr hl _ ih => cases h with | cptr us hp hv => exact .cptr us (fun j hj => hp j zO) (fun j hj => ih j zO hj (hv j zO))
 | sl he hl hz _ ih =>
   rename_i ex ex' sz xs ys _
   cases h with
   | slnil =>
     have : ys = [] := List.eq_nil_of_length_eq_zero (by simpa using hl.symm)
     subst this; exact .slnil
   | slz =>
     have : ys = [] := List.eq_nil_of_length_eq_zero (by simpa using hl.symm)
     subst this; exact .slz
   | sl us hc hex hzz hp hv =>
     rw [hl]
     refine .sl us zO (fun e => by rw [hex (he e), hl]) (fun i hi => by rw [<- hz i zO hi]; exact hzz i zO) (fun i j hi hj => hp i j zO hj) (fun i hi j hj => ?_)
     have h3 : j < (xs[i]).cells.length := by rw [hz i zO hi]; exact hj
     exact ih i zO hi j h3 hj (hv i zO j h3)
def upd {α : Type} (f : Nat -> α) (o : Nat) (x : α) : Nat -> α := fun i => if i = o then x else f i
@[simp] theorem a1N {α : Type} (f : Nat -> α) (o : Nat) (x : α) : upd f o x o = x := by simp [upd]
theorem s8 {α : Type} (f : Nat -> α) {o i : Nat} (x : α) (h : i ≠ o) : upd f o x i = f i := by simp [upd, h]

def AV.one : AV -> Bool
 | .agg _ | .tup _ | .junk => false
 | _ => true

theorem VR.one {pm L σ} {x : AV} {v : Value} (h : VR pm L σ x v) (h1 : x.one = true) : v.oneCell' = true := by
 cases h <;> simp_all [AV.one, Value.oneCell']

theorem WRel.heap_eq {g σ} {w w' : World} (h : WRel g σ w) (hh : w'.heap = w.heap) (ht : w'.tape = w.tape) (ho : w'.os = w.os) (hout : w'.output = w.output) : WRel g σ w' := by
 have hc : ∀ a, w'.cell? a = w.cell? a := fun a => by simp [World.cell?, hh]
 have hf : ∀ a, w'.frozen? a = w.frozen? a := fun a => by simp [World.frozen?, hh]
 refine ⟨fun b o v e => by rw [hc]; exact h.pm b o v e, fun b o v e => by rw [hc]; exact h.tm b o v e, fun b o v e => by rw [hf]; exact h.tmf b o v e, h.disj, ?_, by rw [hh]; exact h.B0, h.tab, fun o ver cs e => ?_, h.sep⟩
 ·exact h.low.trans ⟨ho, ht, hout, by rw [hh]; exact Nat.le_refl _, fun k _ => by rw [hh]⟩
 ·have k := h.ob o ver cs e
  exact ⟨k.low, k.len, fun j hj => by rw [hc]; exact k.there j hj, fun j hj => by rw [hf]; exact k.free j hj, k.pm, k.tm⟩

theorem WRel.drew {g σ} {w : World} (h : WRel g σ w) : WRel g σ w.drew := h.heap_eq rfl rfl rfl rfl

theorem WRel.pm_lt {g σ} {w : World} (h : WRel g σ w) {b o v} (e : g.pm b o = some v) : b < w.heap.size := a0E (h.pm b o v e)
theorem WRel.tm_lt {g σ} {w : World} (h : WRel g σ w) {b o v} (e : g.tm b o = some v) : b < w.heap.size := a0E (h.tm b o v e)
theorem WRel.pm_new {g σ} {w : World} (h : WRel g σ w) (o : Nat) : g.pm w.heap.size o = none := by
 cases e : g.pm w.heap.size o with
 | none => rfl
 | some v => exact absurd (h.pm_lt e) (Nat.lt_irrefl _)
theorem WRel.tm_new {g σ} {w : World} (h : WRel g σ w) (o : Nat) : g.tm w.heap.size o = none := by
 cases e : g.tm w.heap.size o with
 | none => rfl
 | some v => exact absurd (h.tm_lt e) (Nat.lt_irrefl _)

theorem c1S.lt {g σ o cs} {w : World} (k : c1S g σ o cs w) (hc : 0 < (g.L o).cap) : (g.L o).b < w.heap.size := by
 obtain ⟨v, hv, _⟩ := k.there 0 hc
 exact a0E hv

theorem WRel.alloc_none {g σ} {w : World} (h : WRel g σ w) (x : Go.Obj) : WRel g σ (w.alloc x) := by
 have hc : ∀ b o v, w.cell? ⟨b, o, none⟩ = some v -> (w.alloc x).cell? ⟨b, o, none⟩ = some v := fun b o v e => by
  rw [World.cell?_alloc_lt (h := a0E e)]; exact e
 refine ⟨fun b o v e => hc _ _ _ (h.pm b o v e), fun b o v e => hc _ _ _ (h.tm b o v e), fun b o v e => by
  rw [World.frozen?_alloc_old (h := by have := h.tm_lt e; simp at this ⊢; omega)]; exact h.tmf b o v e, h.disj, h.low.alloc h.B0 x, by have := h.B0; simp; omega, h.tab, fun o ver cs e => ?_, h.sep⟩
 have k := h.ob o ver cs e
 refine ⟨k.low, k.len, fun j hj => ?_, fun j hj => ?_, k.pm, k.tm⟩
 ·obtain ⟨v, hv, hr⟩ := k.there j hj
  exact ⟨v, hc _ _ _ hv, hr⟩
 ·obtain ⟨v, hv, _⟩ := k.there j hj
  rw [World.frozen?_alloc_old (h := by have := a0E hv; simp at this ⊢; omega)]
  exact k.free j hj

theorem WRel.own {g σ} {w : World} (h : WRel g σ w) {o : Nat} {l : Loc} {ver : Nat} {cs : List AV}
  (hob : u0 (σ o) (g.L o) (.arr ver cs) l)
  (hlow : 0 < l.cap -> g.B0 <= l.b) (hlen : cs.length <= l.cap)
  (hth : ∀ j, j < l.cap -> ∃ v, w.cell? ⟨l.b, l.off + j, none⟩ = some v /\ ∀ hj : j < cs.length, VR g.pm (upd g.L o l) (upd σ o (.arr ver cs)) (cs[j]) v)
  (hfr : ∀ j, j < l.cap -> w.frozen? ⟨l.b, l.off + j, none⟩ = false)
  (hpm : ∀ j, j < l.cap -> g.pm l.b (l.off + j) = none) (htm : ∀ j, j < l.cap -> g.tm l.b (l.off + j) = none)
  (hap : ∀ o' ver' cs', o' ≠ o -> σ o' = .arr ver' cs' -> b1I (g.L o') l) :
  WRel { g with L := upd g.L o l } (upd σ o (.arr ver cs)) w /\ g.le σ { g with L := upd g.L o l } (upd σ o (.arr ver cs)) := by
 have hext : Ext g.pm g.L σ g.pm (upd g.L o l) (upd σ o (.arr ver cs)) := ⟨fun _ _ _ e => e, fun i => by
  by_cases hi : i = o
  ·subst hi; simpa using hob
  ·simp [s8 _ _ hi]; exact u0.refl _ _⟩
 refine ⟨⟨h.pm, h.tm, h.tmf, h.disj, h.low, h.B0, h.tab, fun i ver' cs' e => ?_, fun i i' v1 v2 c1 c2 e1 e2 hne => ?_⟩, ⟨hext, rfl, rfl, rfl⟩⟩
 ·by_cases hi : i = o
  ·subst hi
   simp at e
   obtain ⟨rfl, rfl⟩ := e
   exact ⟨by simpa using hlow, by simpa using hlen, by simpa using hth, by simpa using hfr, by simpa using hpm, by simpa using htm⟩
  ·rw [s8 _ _ hi] at e
   have k := h.ob i ver' cs' e
   refine ⟨by simpa [s8 _ _ hi] using k.low, by simpa [s8 _ _ hi] using k.len, ?_, by simpa [s8 _ _ hi] using k.free, by simpa [s8 _ _ hi] using k.pm, by simpa [s8 _ _ hi] using k.tm⟩
   intro j hj
   simp only [s8 _ _ hi] at hj ⊢
   obtain ⟨v, hv, hr⟩ := k.there j hj
   exact ⟨v, hv, fun hj' => (hr hj').mono hext⟩
 ·by_cases hi : i = o
  ·subst hi
   have hi' : i' ≠ i := fun h => hne h.symm
   rw [s8 _ _ hi'] at e2
   simp only [a1N, s8 _ _ hi']
   have := hap i' _ _ hi' e2
   intro hb j j' hj hj' he
   exact this hb.symm j' j hj' hj he.symm
  ·rw [s8 _ _ hi] at e1
   by_cases hi' : i' = o
   ·subst hi'
    simp only [a1N, s8 _ _ hi]
    exact hap i _ _ hi e1
   ·rw [s8 _ _ hi'] at e2
    simp only [s8 _ _ hi, s8 _ _ hi']
    exact h.sep i i' _ _ _ _ e1 e2 hne

theorem WRel.alloc_ob {g σ} {w : World} (h : WRel g σ w) {o ver : Nat} (c : Array Value) (t : TypeId) (cs : List AV)
  (hob : u0 (σ o) (g.L o) (.arr ver cs) ⟨w.heap.size, 0, c.size⟩) (hlen : cs.length <= c.size)
  (hc : ∀ j (hj : j < cs.length) (hj' : j < c.size), VR g.pm g.L σ (cs[j]) (c[j])) :
  WRel { g with L := upd g.L o ⟨w.heap.size, 0, c.size⟩ } (upd σ o (.arr ver cs)) (w.alloc (.cells c t)) /\
   g.le σ { g with L := upd g.L o ⟨w.heap.size, 0, c.size⟩ } (upd σ o (.arr ver cs)) := by
 have hext : Ext g.pm g.L σ g.pm (upd g.L o ⟨w.heap.size, 0, c.size⟩) (upd σ o (.arr ver cs)) := ⟨fun _ _ _ e => e, fun i => by
  by_cases hi : i = o
  ·subst hi; simpa using hob
  ·simp [s8 _ _ hi]; exact u0.refl _ _⟩
 refine (h.alloc_none (.cells c t)).own hob (fun _ => h.B0) hlen (fun j hj => ?_) (fun j hj => ?_) (fun j hj => h.pm_new _) (fun j hj => h.tm_new _) ?_
 ·simp at hj
  refine ⟨c[j], ?_, fun hj' => (hc j hj' hj).mono hext⟩
  rw [show (⟨w.heap.size, 0 + j, none⟩ : Addr) = ⟨w.heap.size, j, none⟩ by simp]
  simp [hj]
 ·simp
 ·intro o' ver' cs' hne e hb j j' hj hj'
  have k := h.ob o' ver' cs' e
  simp at hb
  have := k.lt zO
  omega

theorem WRel.tell {g σ} {w : World} (h : WRel g σ w) (b o n : Nat) (us : Nat -> Value)
  (hc : ∀ j, j < n -> w.cell? ⟨b, o + j, none⟩ = some (us j))
  (htm : ∀ j, j < n -> g.tm b (o + j) = none)
  (hold : ∀ j, j < n -> ∀ v, g.pm b (o + j) = some v -> v = us j)
  (hap : ∀ o' ver' cs', σ o' = .arr ver' cs' -> ∀ j, j < n -> ∀ j', j' < (g.L o').cap -> ¬ ((g.L o').b = b /\ (g.L o').off + j' = o + j)) :
  WRel { g with pm := fun b' o' => if b' = b /\ o <= o' /\ o' < o + n then some (us (o' - o)) else g.pm b' o' } σ w /\
   g.le σ { g with pm := fun b' o' => if b' = b /\ o <= o' /\ o' < o + n then some (us (o' - o)) else g.pm b' o' } σ := by
 have hext : Ext g.pm g.L σ (fun b' o' => if b' = b /\ o <= o' /\ o' < o + n then some (us (o' - o)) else g.pm b' o') g.L σ := ⟨fun b' o' v e => by
  show (if b' = b /\ o <= o' /\ o' < o + n then some (us (o' - o)) else g.pm b' o') = some v
  split
  ·rename_i hh
   obtain ⟨rfl, h1, h2⟩ := hh
   have := hold (o' - o) zO v (by rw [show o + (o' - o) = o' by omega]; exact e)
   rw [this]
  ·exact e, fun i => u0.refl _ _⟩
 refine ⟨⟨fun b' o' v e => ?_, h.tm, h.tmf, fun b' o' v e => ?_, h.low, h.B0, h.tab, fun i ver' cs' e => ?_, h.sep⟩, ⟨hext, rfl, rfl, rfl⟩⟩
 ·replace e : (if b' = b /\ o <= o' /\ o' < o + n then some (us (o' - o)) else g.pm b' o') = some v := e
  split at e
  ·rename_i hh
   obtain ⟨rfl, h1, h2⟩ := hh
   cases e
   have := hc (o' - o) zO
   rwa [show o + (o' - o) = o' by omega] at this
  ·exact h.pm _ _ _ e
 ·replace e : (if b' = b /\ o <= o' /\ o' < o + n then some (us (o' - o)) else g.pm b' o') = some v := e
  split at e
  ·rename_i hh
   obtain ⟨rfl, h1, h2⟩ := hh
   have := htm (o' - o) zO
   rwa [show o + (o' - o) = o' by omega] at this
  ·exact h.disj _ _ _ e
 ·have k := h.ob i ver' cs' e
  refine ⟨k.low, k.len, fun j hj => ?_, k.free, fun j hj => ?_, k.tm⟩
  ·obtain ⟨v, hv, hr⟩ := k.there j hj
   exact ⟨v, hv, fun hj' => (hr hj').mono hext⟩
  ·show (if (g.L i).b = b /\ o <= (g.L i).off + j /\ (g.L i).off + j < o + n then some (us ((g.L i).off + j - o)) else g.pm (g.L i).b ((g.L i).off + j)) = none
   rw [if_neg]
   ·exact k.pm j hj
   ·rintro ⟨h1, h2, h3⟩
    exact hap i _ _ e ((g.L i).off + j - o) zO j hj ⟨h1, by omega⟩

theorem a5V (w : World) (c : Array Value) (t : TypeId) (fz : Nat × Nat) (i : Nat) : (w.alloc (.cells c t fz)).cell? ⟨w.heap.size, i, none⟩ = c[i]? := by
 show (match (w.heap.push (.cells c t fz))[w.heap.size]? with | some (.cells c _ _) => if (none : Option Nat).isSome then none else c[i]? | _ => none) = _
 rw [Array.getElem?_push_size]
 rfl

theorem WRel.alloc_tell {g σ} {w : World} (h : WRel g σ w) (c : Array Value) (t : TypeId) (fz : Nat × Nat := (0, 0)) :
  ∃ g', WRel g' σ (w.alloc (.cells c t fz)) /\ g.le σ g' σ /\ ∀ j, (hj : j < c.size) -> g'.pm w.heap.size j = some (c[j]) := by
 obtain ⟨h1, h2⟩ := (h.alloc_none (.cells c t fz)).tell w.heap.size 0 c.size (fun j => c.getD j undef) (fun j hj => by
   rw [show (⟨w.heap.size, 0 + j, none⟩ : Addr) = ⟨w.heap.size, j, none⟩ by simp]
   rw [a5V]; simp [hj, Array.getD]) (fun j hj => h.tm_new _) (fun j hj v e => by rw [h.pm_new] at e; cases e)
  (fun o' ver' cs' e j hj j' hj' hh => by
   have k := h.ob o' ver' cs' e
   have := k.lt zO
   omega)
 refine ⟨_, h1, h2, fun j hj => ?_⟩
 simp [hj, Array.getD]

theorem a1E (w : World) (b o : Nat) (x : Value) (b' o' : Nat) {u : Value} (h : w.cell? ⟨b, o, none⟩ = some u) :
  (w.setCell ⟨b, o, none⟩ x).cell? ⟨b', o', none⟩ = if b' = b /\ o' = o then some x else w.cell? ⟨b', o', none⟩ := by
 split
 ·rename_i hh; obtain ⟨rfl, rfl⟩ := hh; exact World.cell?_setCell_same _ _ _ h
 ·rename_i hh
  rw [World.cell?_setCell_other]
  intro e; cases e; exact hh ⟨rfl, rfl⟩

theorem WRel.store {g σ} {w : World} (h : WRel g σ w) {o ver : Nat} {cs : List AV} (e : σ o = .arr ver cs) (j : Nat) (hj : j < (g.L o).cap) (x : AV) (v : Value)
  (hx : VR g.pm g.L σ x v) :
  WRel g (upd σ o (.arr ver (cs.set j x))) (w.setCell ⟨(g.L o).b, (g.L o).off + j, none⟩ v) /\ g.le σ g (upd σ o (.arr ver (cs.set j x))) := by
 have k := h.ob o ver cs e
 obtain ⟨u, hu, _⟩ := k.there j hj
 have hcell := fun b' o' => a1E w (g.L o).b ((g.L o).off + j) v b' o' hu
 have hext : Ext g.pm g.L σ g.pm g.L (upd σ o (.arr ver (cs.set j x))) := ⟨fun _ _ _ e => e, fun i => by
  by_cases hi : i = o
  ·subst hi; simp [e, u0]
  ·simp [s8 _ _ hi]; exact u0.refl _ _⟩
 refine ⟨⟨fun b' o' v' e' => ?_, fun b' o' v' e' => ?_, fun b' o' v' e' => by rw [World.frozen?_setCell]; exact h.tmf _ _ _ e', h.disj, h.low.setCell (p := ⟨(g.L o).b, (g.L o).off + j, none⟩) (k.low zO) v, by simpa using h.B0, h.tab, fun i ver' cs' e' => ?_, fun i i' v1 v2 c1 c2 e1 e2 hne => ?_⟩, ⟨hext, rfl, rfl, rfl⟩⟩
 ·rw [hcell, if_neg]
  ·exact h.pm _ _ _ e'
  ·rintro ⟨rfl, rfl⟩; rw [k.pm j hj] at e'; cases e'
 ·rw [hcell, if_neg]
  ·exact h.tm _ _ _ e'
  ·rintro ⟨rfl, rfl⟩; rw [k.tm j hj] at e'; cases e'
 ·by_cases hi : i = o
  ·subst hi
   simp at e'
   obtain ⟨rfl, rfl⟩ := e'
   refine ⟨k.low, by simpa using k.len, fun m hm => ?_, fun m hm => by rw [World.frozen?_setCell]; exact k.free m hm, k.pm, k.tm⟩
   rw [hcell]
   obtain ⟨u', hu', hr'⟩ := k.there m hm
   by_cases hmj : m = j
   ·subst hmj
    refine ⟨v, by simp, fun hm' => ?_⟩
    simp
    exact hx.mono hext
   ·refine ⟨u', by rw [if_neg zO]; exact hu', fun hm' => ?_⟩
    simp at hm'
    rw [List.getElem_set_ne zO]
    exact (hr' hm').mono hext
  ·rw [s8 _ _ hi] at e'
   have k' := h.ob i ver' cs' e'
   refine ⟨k'.low, k'.len, fun m hm => ?_, fun m hm => by rw [World.frozen?_setCell]; exact k'.free m hm, k'.pm, k'.tm⟩
   obtain ⟨u', hu', hr'⟩ := k'.there m hm
   refine ⟨u', ?_, fun hm' => (hr' hm').mono hext⟩
   rw [hcell, if_neg]
   ·exact hu'
   ·rintro ⟨h1, h2⟩
    exact h.sep i o _ _ _ _ e' e hi h1 m j hm hj h2
 ·have a1 : ∃ v c, σ i = .arr v c := by
   by_cases hi : i = o
   ·exact ⟨_, _, hi ▸ e⟩
   ·rw [s8 _ _ hi] at e1; exact ⟨_, _, e1⟩
  have a2 : ∃ v c, σ i' = .arr v c := by
   by_cases hi : i' = o
   ·exact ⟨_, _, hi ▸ e⟩
   ·rw [s8 _ _ hi] at e2; exact ⟨_, _, e2⟩
  obtain ⟨_, _, a1⟩ := a1
  obtain ⟨_, _, a2⟩ := a2
  exact h.sep i i' _ _ _ _ a1 a2 hne

theorem WRel.drop {g σ} {w : World} (h : WRel g σ w) {o ver : Nat} {cs : List AV} (e : σ o = .arr ver cs) :
  WRel g (upd σ o (.dead ver)) w /\ g.le σ g (upd σ o (.dead ver)) := by
 have hext : Ext g.pm g.L σ g.pm g.L (upd σ o (.dead ver)) := ⟨fun _ _ _ e => e, fun i => by
  by_cases hi : i = o
  ·subst hi; simp [e, u0]
  ·simp [s8 _ _ hi]; exact u0.refl _ _⟩
 refine ⟨⟨h.pm, h.tm, h.tmf, h.disj, h.low, h.B0, h.tab, fun i ver' cs' e' => ?_, fun i i' v1 v2 c1 c2 e1 e2 hne => ?_⟩, ⟨hext, rfl, rfl, rfl⟩⟩
 ·by_cases hi : i = o
  ·subst hi; simp at e'
  ·rw [s8 _ _ hi] at e'
   have k := h.ob i ver' cs' e'
   refine ⟨k.low, k.len, fun m hm => ?_, k.free, k.pm, k.tm⟩
   obtain ⟨u', hu', hr'⟩ := k.there m hm
   exact ⟨u', hu', fun hm' => (hr' hm').mono hext⟩
 ·by_cases hi : i = o
  ·subst hi; simp at e1
  ·by_cases hi' : i' = o
   ·subst hi'; simp at e2
   ·rw [s8 _ _ hi] at e1; rw [s8 _ _ hi'] at e2; exact h.sep i i' _ _ _ _ e1 e2 hne
inductive Opd where
 | t (i : Nat)
 | v (x : AV)
 deriving Inhabited

abbrev Fm := Nat -> AV

def ev (fr : Fm) : Opd -> AV
 | .t i => fr i
 | .v x => x

structure a5i (g : Gh) (σ : Hp) (n : Nat) (fr : Fm) (a : Act) : Prop where
 size : a.tmps.size = n
 get : ∀ t, VR g.pm g.L σ (fr t) (a.tmps.getD t undef)

theorem a5i.mono {g g' σ σ' n fr a} (h : a5i g σ n fr a) (k : g.le σ g' σ') : a5i g' σ' n fr a :=
 ⟨h.size, fun t => (h.get t).mono k.ext⟩

theorem a5i.put {g σ n fr a d v u} (h : a5i g σ n fr a) (hd : d < n) (hv : VR g.pm g.L σ v u) : a5i g σ n (upd fr d v) (a.put (some d) u) := by
 refine ⟨by simpa [Act.put] using h.size, fun t => ?_⟩
 have hs := h.size
 simp only [Act.put]
 by_cases e : t = d
 ·subst e; simpa [Array.getD, hs, hd] using hv
 ·have := h.get t
  rw [s8 _ _ e]
  simp only [Array.getD_eq_getD_getElem?, Array.getElem?_setIfInBounds] at this ⊢
  rwa [if_neg (fun h => e h.symm)]

def a8d : Value -> Option AV
 | .int k n => some (.int k n)
 | .bool b => some (.bool b)
 | .string s => some (.str s)
 | .pointer none => some .nilp
 | .slice none 0 0 => some .nils
 | .map none => some .nilm
 | .nilFunc => some .nilf
 | .nilIface => some .nili
 | _ => none
def a1Z : List Value -> Option (List AV)
 | [] => some []
 | v :: r => match a8d v, a1Z r with
   | some x, some xs => some (x :: xs)
   | _, _ => none
def b3m : Value -> Option AV
 | .agg cs => (a1Z cs.toList).map .agg
 | .tuple vs => if vs.size = 0 then some (.tup []) else none
 | v => a8d v

theorem a6z {pm L σ} {v : Value} {x : AV} (h : a8d v = some x) : VR pm L σ x v := by
 unfold a8d at h
 split at h <;> cases h <;> constructor

theorem a0K {pm L σ} : ∀ {vs : List Value} {xs : List AV}, a1Z vs = some xs -> vs.length = xs.length /\ ∀ j (h : j < xs.length) (h' : j < vs.length), VR pm L σ (xs[j]) (vs[j])
 | [], xs, h => by simp [a1Z] at h; subst h; simp
 | v :: r, xs, h => by
   simp only [a1Z] at h
   split at h
   ·rename_i x ys h1 h2
    cases h
    obtain ⟨i1, i2⟩ := a0K (pm := pm) (L := L) (σ := σ) h2
    refine ⟨by simp [i1], fun j hj hj' => ?_⟩
    cases j with
    | zero => exact a6z h1
    | succ j => exact i2 j (by simpa using hj) (by simpa using hj')
   ·cases h

theorem b1J {pm L σ} {v : Value} {x : AV} (h : b3m v = some x) : VR pm L σ x v := by
 unfold b3m at h
 split at h
 ·rename_i cs
  simp only [Option.map_eq_some_iff] at h
  obtain ⟨xs, h1, rfl⟩ := h
  obtain ⟨h2, h3⟩ := a0K (pm := pm) (L := L) (σ := σ) h1
  refine .agg (by simpa using h2) (fun j h h' => ?_)
  have := h3 j h (by simpa using h')
  simpa using this
 ·split at h
  ·rename_i hh; cases h; exact .tup (by simpa only [List.length_nil] using hh) zS
  ·cases h
 ·exact a6z h

def a1m : Operand -> Option Opd
 | .tmp t => some (.t t)
 | .const v => (b3m v).map .v
 | .func f => some (.v (.fn (.func f) [] []))
 | .global _ => none

theorem i8 {g σ n fr} {a : Act} (h : a5i g σ n fr a) {x : Operand} {y : Opd} (e : a1m x = some y) : VR g.pm g.L σ (ev fr y) (a.eval x) := by
 cases x <;> simp only [a1m] at e
 ·cases e; exact h.get _
 ·simp only [Option.map_eq_some_iff] at e
  obtain ⟨z, h1, rfl⟩ := e
  exact b1J h1
 ·cases e
 ·cases e; exact .fn rfl rfl zS zS

def y4 (P : Program) (t : TypeId) : Option (Option Nat) :=
 match P.underlying t, P.info? t with
 | some (.struct _), some i => some (some i.size)
 | some (.array _ _), some i => some (some i.size)
 | some _, some i => if i.size = 1 then some none else none
 | _, _ => none

theorem a1F {P : Program} {t : TypeId} {sh : Option Nat} (h : y4 P t = some sh) (w : World) : (isAgg t).run P w = .ok sh.isSome w := by
 unfold y4 at h
 cases hd : P.underlying t with
 | none => simp [hd] at h
 | some d =>
   cases hi : P.info? t with
   | none => cases d <;> simp [hd, hi] at h
   | some i =>
     cases d <;> simp only [hd, hi] at h <;> (try split at h) <;> cases h <;> simp [isAgg, run_underlying hd]

theorem u6 {P : Program} {t : TypeId} {sh : Option Nat} (h : y4 P t = some sh) : ∃ i, P.info? t = some i /\ i.size = d9 sh := by
 unfold y4 at h
 split at h
 ·rename_i hi; cases h; exact ⟨_, hi, rfl⟩
 ·rename_i hi; cases h; exact ⟨_, hi, rfl⟩
 ·rename_i i _ _ _ hi
  split at h
  ·cases h; exact ⟨_, hi, by simpa [d9]⟩
  ·cases h
 ·cases h

theorem q7 {P : Program} {t : TypeId} {i : TypeInfo} (h : P.info? t = some i) (w : World) : (sizeOf t).run P w = .ok i.size w := by
 simp [sizeOf, typeInfo, h]

theorem a2c {P : Program} {t : TypeId} (h : y4 P t = some none) {w : World} {a : Addr} {v : Value} (hv : w.cell? a = some v) :
  (loadVar t a).run P w = .ok v w := by
 simp [loadVar, a1F h, hv]

theorem a2d {P : Program} {t : TypeId} {n : Nat} (h : y4 P t = some (some n)) {w : World} {b o : Nat} {us : Nat -> Value}
  (hv : ∀ j, j < n -> w.cell? ⟨b, o + j, none⟩ = some (us j)) :
  (loadVar t ⟨b, o, none⟩).run P w = .ok (.agg ((List.range n).map us).toArray) w := by
 obtain ⟨i, hi, hn⟩ := u6 h
 have hl := run_loadCells (P := P) w ⟨b, o, none⟩ n us (fun j hj => by rw [Addr.add_lit]; exact hv j hj)
 simp only [d9, Option.getD_some] at hn
 simp only [loadVar, Sem.run_bind, a1F h, Result.andThen_ok, Option.isSome_some, if_true, q7 hi, hn, hl]
 simp [hl]

def ap (σ : Hp) : Option (Nat × Ob) -> Hp
 | none => σ
 | some (o, x) => upd σ o x

def c2i (res : Next) (u : Value) : Prop := res = .value u \/ (res = .skip /\ u = undef)

def Goes (P : Program) (g : Gh) (σ : Hp) (w : World) (s : Sem Next) (v : AV) (δ : Option (Nat × Ob)) : Prop :=
 ∃ res u w' g', s.run P w = .ok res w' /\ c2i res u /\ WRel g' (ap σ δ) w' /\ g.le σ g' (ap σ δ) /\ VR g'.pm g'.L (ap σ δ) v u

theorem Goes.val {P g σ w} {s : Sem Value} {v : AV} {u : Value} (hw : WRel g σ w) (hr : s.run P w = .ok u w) (hv : VR g.pm g.L σ v u) :
  Goes P g σ w (do pure (.value (<- s))) v none :=
 ⟨.value u, u, w, g, by simp [hr], .inl rfl, hw, Gh.le.refl _ _, hv⟩

theorem Goes.val' {P g g' σ w w'} {s : Sem Value} {v : AV} {u : Value} {δ} (hr : s.run P w = .ok u w') (hw : WRel g' (ap σ δ) w') (hl : g.le σ g' (ap σ δ)) (hv : VR g'.pm g'.L (ap σ δ) v u) :
  Goes P g σ w (do pure (.value (<- s))) v δ :=
 ⟨.value u, u, w', g', by simp [hr], .inl rfl, hw, hl, hv⟩

def a2e (sh : Option Nat) (x : AV) (σ : Hp) (v : AV) (rd : List Nat) : Prop :=
 match x with
 | .ptr o ver off => rd = [o] /\ ∃ cs, σ o = .arr ver cs /\ (match sh with | none => off < cs.length /\ v = cs.getD off .junk | some n => off + n <= cs.length /\ v = .agg ((cs.drop off).take n))
 | .cptr cs off => rd = [] /\ (match sh with | none => off < cs.length /\ v = cs.getD off .junk | some n => off + n <= cs.length /\ v = .agg ((cs.drop off).take n))
 | _ => False

theorem a8e {pm L σ} {cs : List AV} {n off : Nat} {us : Nat -> Value} (hn : off + n <= cs.length) (h : ∀ j (hj : j < cs.length), VR pm L σ (cs[j]) (us j)) :
  VR pm L σ (.agg ((cs.drop off).take n)) (.agg ((List.range n).map fun j => us (off + j)).toArray) := by
 refine .agg zE (fun j h1 h2 => ?_)
 simp at h1 h2
 simpa using h (off + j) zO

theorem a7w {P g σ w sh x u t v rd} (hw : WRel g σ w) (ht : y4 P t = some sh) (hx : VR g.pm g.L σ x u) (h : a2e sh x σ v rd) :
  ∃ a r, u = .pointer (some a) /\ (loadVar t a).run P w = .ok r w /\ VR g.pm g.L σ v r := by
 unfold a2e at h
 split at h
 ·rename_i o ver off
  obtain ⟨_, cs, hσ, h⟩ := h
  cases hx with
  | ptr hp =>
    rename_i a
    have k := hw.ob o ver cs hσ
    simp only [a0Q, hσ] at hp
    obtain ⟨_, rfl⟩ : _ /\ a = _ := ⟨trivial, hp.2 trivial⟩
    have hc : ∀ j, (hj : j < cs.length) -> ∃ v, w.cell? ⟨(g.L o).b, (g.L o).off + j, none⟩ = some v /\ VR g.pm g.L σ (cs[j]) v := fun j hj => by
     obtain ⟨v, h1, h2⟩ := k.there j (by have := k.len; omega)
     exact ⟨v, h1, h2 hj⟩
    cases sh with
    | none =>
      obtain ⟨h1, rfl⟩ := h
      obtain ⟨v, hv, hr⟩ := hc off h1
      refine ⟨_, v, rfl, a2c ht hv, ?_⟩
      simpa [h1] using hr
    | some n =>
      obtain ⟨h1, rfl⟩ := h
      have hch : ∀ j, ∃ v, j < cs.length -> w.cell? ⟨(g.L o).b, (g.L o).off + j, none⟩ = some v /\ ∀ hj : j < cs.length, VR g.pm g.L σ (cs[j]) v := fun j => by
       by_cases hj : j < cs.length
       ·obtain ⟨v, a, b⟩ := hc j hj; exact ⟨v, fun _ => ⟨a, fun _ => b⟩⟩
       ·exact ⟨undef, fun h => absurd h hj⟩
      let us : Nat -> Value := fun j => Classical.choose (hch j)
      have hus := fun j => Classical.choose_spec (hch j)
      refine ⟨_, .agg ((List.range n).map fun j => us (off + j)).toArray, rfl, ?_, a8e h1 fun j hj => (hus j hj).2 hj⟩
      have := a2d (P := P) ht (w := w) (b := (g.L o).b) (o := (g.L o).off + off) (us := fun j => us (off + j)) (fun j hj => by
       have := (hus (off + j) zO).1
       rwa [show (g.L o).off + off + j = (g.L o).off + (off + j) by omega])
      exact this
 ·rename_i cs off
  obtain ⟨_, h⟩ := h
  cases hx with
  | cptr us hp hv =>
    rename_i b o
    have hc : ∀ j, j < cs.length -> w.cell? ⟨b, o + j, none⟩ = some (us j) := fun j hj => hw.pm _ _ _ (hp j hj)
    cases sh with
    | none =>
      obtain ⟨h1, rfl⟩ := h
      refine ⟨_, us off, rfl, a2c ht (hc off h1), ?_⟩
      simpa [h1] using hv off h1
    | some n =>
      obtain ⟨h1, rfl⟩ := h
      refine ⟨_, .agg ((List.range n).map fun j => us (off + j)).toArray, rfl, ?_, a8e h1 fun j hj => hv j hj⟩
      have := a2d (P := P) ht (w := w) (b := b) (o := o + off) (us := fun j => us (off + j)) (fun j hj => by
       have := hc (off + j) zO
       rwa [show o + off + j = o + (off + j) by omega])
      exact this
 ·exact h.elim

theorem a8P {P g σ w sh x u t v rd} (hw : WRel g σ w) (ht : y4 P t = some sh) (hx : VR g.pm g.L σ x u) (h : a2e sh x σ v rd) :
  Goes P g σ w (do pure (.value (<- Instr.loadAt t u))) v none := by
 obtain ⟨a, r, rfl, h1, h2⟩ := a7w hw ht hx h
 exact Goes.val hw (by simp [Instr.loadAt, Instr.sureAddr, h1]) h2

def splice (cs : List AV) : Nat -> List AV -> List AV
 | _, [] => cs
 | off, x :: r => splice (cs.set off x) (off + 1) r

theorem a2X : ∀ (xs : List AV) (cs : List AV) (off : Nat), (splice cs off xs).length = cs.length
 | [], _, _ => rfl
 | x :: r, cs, off => by rw [splice, a2X r]; simp

theorem VR.cells {pm L σ} {x : AV} {u : Value} (h : VR pm L σ x u) (hj : x ≠ .junk) : u.cells.size = x.cells.length /\ ∀ j (h1 : j < x.cells.length) (h2 : j < u.cells.size), VR pm L σ (x.cells[j]) (u.cells[j]) := by
 cases h with
 | agg hl hv => exact ⟨by simpa [AV.cells, Value.cells] using hl, fun j h1 h2 => hv j h1 h2⟩
 | junk => exact (hj rfl).elim
 | _ => exact ⟨rfl, fun j h1 h2 => by simp [AV.cells] at h1; subst h1; simp [AV.cells, Value.cells]; constructor <;> assumption⟩

theorem WRel.stores {o ver : Nat} : ∀ (xs : List AV) (vs : List Value) {g σ} {w : World} {cs : List AV} (_ : WRel g σ w) (_ : σ o = .arr ver cs) (off : Nat),
  off + xs.length <= (g.L o).cap -> vs.length = xs.length -> (∀ j (h1 : j < xs.length) (h2 : j < vs.length), VR g.pm g.L σ (xs[j]) (vs[j])) ->
  WRel g (upd σ o (.arr ver (splice cs off xs))) (w.setCells (g.L o).b ((g.L o).off + off) vs) /\ g.le σ g (upd σ o (.arr ver (splice cs off xs)))
 | [], [], g, σ, w, cs, hw, e, off, _, _, _ => by
   have : upd σ o (.arr ver cs) = σ := by funext i; by_cases h : i = o <;> simp [upd, h, e]
   simp only [splice, World.setCells, this]
   exact ⟨hw, Gh.le.refl _ _⟩
 | x :: r, v :: vs, g, σ, w, cs, hw, e, off, hc, hl, hv => by
   obtain ⟨h1, h2⟩ := hw.store e off (by simp at hc; omega) x v (hv 0 zS zS)
   have ih := WRel.stores r vs h1 (o := o) (ver := ver) (cs := cs.set off x) zS (off + 1) (by simp at hc; omega) (by simpa using hl) (fun j a b => by
    have := hv (j + 1) (by simpa using a) (by simpa using b)
    simp at this
    exact this.mono h2.ext)
   obtain ⟨i1, i2⟩ := ih
   have hu : upd (upd σ o (.arr ver (cs.set off x))) o (.arr ver (splice (cs.set off x) (off + 1) r)) = upd σ o (.arr ver (splice cs off (x :: r))) := by
    funext i; by_cases h : i = o <;> simp [upd, h, splice]
   rw [hu] at i1 i2
   refine ⟨?_, h2.trans i2⟩
   rw [World.setCells]
   rwa [show (g.L o).off + (off + 1) = (g.L o).off + off + 1 by omega] at i1
 | [], _ :: _, _, _, _, _, _, _, _, _, hl, _ => by simp at hl
 | _ :: _, [], _, _, _, _, _, _, _, _, hl, _ => by simp at hl

def a2M (n : Nat) (a x : AV) (σ : Hp) (v : AV) (rd : List Nat) (δ : Option (Nat × Ob)) : Prop :=
 match a with
 | .ptr o ver off => rd = [] /\ v = .tup [] /\ ∃ cs, σ o = .arr ver cs /\ x.cells.length = n /\ off + n <= cs.length /\ x.cells.all AV.one = true /\ δ = some (o, .arr ver (splice cs off x.cells))
 | _ => False

theorem AV.ne_junk_of_one {x : AV} (h : x.cells.all AV.one = true) : x ≠ .junk := by rintro rfl; simp [AV.cells, AV.one] at h

theorem VR.cells_one {pm L σ} {x : AV} {u : Value} (h : VR pm L σ x u) (h1 : x.cells.all AV.one = true) : ∀ v ∈ u.cells.toList, v.oneCell' = true := by
 obtain ⟨hs, hv⟩ := h.cells (AV.ne_junk_of_one h1)
 intro v hv'
 obtain ⟨j, hj, rfl⟩ := List.getElem_of_mem hv'
 simp at hj
 have := hv j zO hj
 simp only [Array.getElem_toList]
 refine this.one ?_
 exact List.all_eq_true.1 h1 _ (List.getElem_mem _)

theorem a7x {P g σ w n a x ua ux t i v rd δ} (hw : WRel g σ w) (hi : P.info? t = some i) (hn : i.size = n) (ha : VR g.pm g.L σ a ua) (hx : VR g.pm g.L σ x ux) (h : a2M n a x σ v rd δ) :
  Goes P g σ w (do Instr.storeAt t ua ux; pure .skip) v δ := by
 unfold a2M at h
 split at h
 ·rename_i o ver off
  obtain ⟨_, rfl, cs, hσ, hl, hoff, hone, rfl⟩ := h
  cases ha with
  | ptr hp =>
    rename_i ad
    have k := hw.ob o ver cs hσ
    simp only [a0Q, hσ] at hp
    obtain ⟨_, rfl⟩ : _ /\ ad = _ := ⟨trivial, hp.2 trivial⟩
    obtain ⟨hs, hv⟩ := hx.cells (AV.ne_junk_of_one hone)
    have hst := WRel.stores x.cells ux.cells.toList hw hσ off (by have := k.len; omega) (by simpa using hs) (fun j h1 h2 => by simpa using hv j h1 (by simpa using h2))
    have hrun := run_storeCells_cells (P := P) (g.L o).b ((g.L o).off + off) ux.cells.toList 0 w (fun j hj => by
      simp at hj
      obtain ⟨v, hv, _⟩ := k.there (off + j) (by have := k.len; omega)
      rw [show (g.L o).off + off + 0 + j = (g.L o).off + (off + j) by omega, hv]; rfl) (fun j hj => by
      simp at hj
      have := k.free (off + j) (by have := k.len; omega)
      rwa [show (g.L o).off + off + 0 + j = (g.L o).off + (off + j) by omega]) (hx.cells_one hone)
    refine ⟨.skip, undef, _, g, ?_, .inr ⟨rfl, rfl⟩, hst.1, hst.2, .tup rfl zS⟩
    simp only [Nat.add_zero] at hrun
    have hsz : ux.cells.size = i.size := by omega
    simp [Instr.storeAt, Instr.sureAddr, storeVar, q7 hi, hsz, hrun]
 ·exact h.elim

theorem a2f (σ : Hp) (o : Nat) (x : Ob) : ap σ (some (o, x)) = upd σ o x := rfl

def a8Q (cs : List AV) (σ : Hp) (v : AV) (rd : List Nat) (δ : Option (Nat × Ob)) : Prop :=
 rd = [] /\ ((∃ o, σ o = .virgin /\ v = .ptr o 0 0 /\ δ = some (o, .arr 0 cs)) \/ (v = .cptr cs 0 /\ δ = none))

theorem a9x {g : Gh} {σ : Hp} {o : Nat} {cs : List AV} {l : Loc} {off : Nat} : a0Q (upd g.L o l) (upd σ o (.arr 0 cs)) o 0 off ⟨l.b, l.off + off, none⟩ := by
 simp [a0Q]

theorem a6A {P g σ w v rd δ} {cs : List AV} {c : Array Value} {t : TypeId} (hw : WRel g σ w) (hl : c.size = cs.length) (hc : ∀ j (h : j < cs.length) (h' : j < c.size), VR g.pm g.L σ (cs[j]) (c[j]))
  (h : a8Q cs σ v rd δ) : Goes P g σ w (do pure (.value (.pointer (some (<- newRow t c))))) v δ := by
 obtain ⟨_, h | h⟩ := h
 ·obtain ⟨o, hv, rfl, rfl⟩ := h
  obtain ⟨h1, h2⟩ := hw.alloc_ob (o := o) (ver := 0) c t cs (by simp [hv, u0]) zO hc
  exact ⟨_, _, _, _, by simp [newRow], .inl rfl, h1, h2, .ptr (a9x (l := ⟨w.heap.size, 0, c.size⟩) (off := 0))⟩
 ·obtain ⟨rfl, rfl⟩ := h
  obtain ⟨g', h1, h2, h3⟩ := hw.alloc_tell c t
  refine ⟨.value (.pointer (some ⟨w.heap.size, 0, none⟩)), _, _, g', by simp [newRow], .inl rfl, h1, h2, ?_⟩
  have := VR.cptr (pm := g'.pm) (L := g'.L) (σ := ap σ none) (cs := cs) (off := 0) (b := w.heap.size) (o := 0) (fun j => c.getD j undef) (fun j hj => by
   have := h3 j zO
   simpa [Array.getD, show j < c.size by omega] using this) (fun j hj => by
   have := hc j hj zO
   simpa [Array.getD, show j < c.size by omega] using this.mono (σ' := ap σ none) h2.ext)
  simpa using this

def a2Y (op : BinOp) (k : IntKind) (x y : Int) : Option AV :=
 match op with
 | .add => some (.int k (k.wrap (x + y)))
 | .sub => some (.int k (k.wrap (x - y)))
 | .mul => some (.int k (k.wrap (x * y)))
 | .quo => if y = 0 then none else some (.int k (k.wrap (x.tdiv y)))
 | .rem => if y = 0 then none else some (.int k (x.tmod y))
 | .and => some (.int k (k.wrap (BitVec.ofInt k.bits x &&& BitVec.ofInt k.bits y).toNat))
 | .or => some (.int k (k.wrap (BitVec.ofInt k.bits x ||| BitVec.ofInt k.bits y).toNat))
 | .xor => some (.int k (k.wrap (BitVec.ofInt k.bits x ^^^ BitVec.ofInt k.bits y).toNat))
 | .andNot => some (.int k (k.wrap (BitVec.ofInt k.bits x &&& ~~~ BitVec.ofInt k.bits y).toNat))
 | .eql => some (.bool (x == y))
 | .neq => some (.bool (x != y))
 | .lss => some (.bool (decide (x < y)))
 | .leq => some (.bool (decide (x <= y)))
 | .gtr => some (.bool (decide (x > y)))
 | .geq => some (.bool (decide (x >= y)))
 | _ => none

def a7y (op : BinOp) (k : IntKind) (x y : Int) : Option AV :=
 if y < 0 then none else
 match op with
 | .shl => some (.int k (k.wrap (x * 2 ^ (min y.toNat k.bits))))
 | .shr => some (.int k (x.fdiv (2 ^ (min y.toNat k.bits))))
 | _ => none

def a8f (op : BinOp) (x y : ByteArray) : Option AV :=
 match op with
 | .add => some (.str (x ++ y))
 | .eql => some (.bool (x.toList == y.toList))
 | .neq => some (.bool (!(x.toList == y.toList)))
 | .lss => some (.bool (Op.bytesLess x.toList y.toList))
 | .leq => some (.bool (Op.bytesLess x.toList y.toList || x.toList == y.toList))
 | .gtr => some (.bool (!(Op.bytesLess x.toList y.toList || x.toList == y.toList)))
 | .geq => some (.bool (!Op.bytesLess x.toList y.toList))
 | _ => none

def a6x (op : BinOp) (b : Bool) : Option AV :=
 match op with
 | .eql => some (.bool b)
 | .neq => some (.bool (!b))
 | _ => none

inductive EqC where
 | none | bool | ptr | iface | flat | ifn
 deriving DecidableEq
def EqC.isI : EqC -> Bool
 | .iface | .ifn => true
 | _ => false

def AV.scalar : AV -> Bool
 | .int _ _ | .bool _ | .str _ => true
 | _ => false

def AV.same : AV -> AV -> Bool
 | .int k a, .int k' b => k == k' && a == b
 | .bool a, .bool b => a == b
 | .str a, .str b => a.toList == b.toList
 | _, _ => false

def a3x : List AV -> List AV -> Bool
 | [], [] => true
 | x :: xs, y :: ys => x.same y && a3x xs ys
 | _, _ => false

def a9y (c : EqC) (op : BinOp) (x y : AV) (v : AV) : Prop :=
 match x, y with
 | .int k a, .int k' b =>
   match op with
   | .shl | .shr => a7y op k a b = some v
   | _ => k = k' /\ a2Y op k a b = some v
 | .str a, .str b => (op = .add -> a.size + b.size <= 9223372036854775807) /\ a8f op a b = some v
 | .bool a, .bool b => c = .bool /\ a6x op (a == b) = some v
 | .nilp, .nilp => c = .ptr /\ a6x op true = some v
 | .ptr _ _ _, .nilp | .cptr _ _, .nilp | .nilp, .ptr _ _ _ | .nilp, .cptr _ _ => c = .ptr /\ a6x op false = some v
 | .iface _ _, .nili | .nili, .iface _ _ => c.isI = true /\ a6x op false = some v
 | .nili, .nili => c = .ifn /\ a6x op true = some v
 | .nils, .nils => c = .flat /\ a6x op true = some v
 | .snn _, .nils | .sl _ _ (_ :: _), .nils | .ref _ _ _ (_ + 1) _, .nils => c = .flat /\ a6x op false = some v
 | _, _ => False

def AV.val1 : AV -> Value
 | .int k n => .int k n
 | .bool b => .bool b
 | .str s => .string s
 | _ => undef

theorem VR.val1 {pm L σ} {v : AV} (h : v.scalar = true) : VR pm L σ v v.val1 := by
 cases v <;> simp [AV.scalar] at h <;> constructor

theorem a8R {P : Program} {op : BinOp} {k : IntKind} {t : TypeId} {a b : Int} {v : AV} (w : World) (hs : op ≠ .shl) (hs' : op ≠ .shr) (h : a2Y op k a b = some v) :
  (binOp op t (.int k a) (.int k b)).run P w = .ok v.val1 w /\ v.scalar = true := by
 cases op <;> simp only [a2Y] at h <;> first
  | (cases h; done)
  | (exact (hs rfl).elim)
  | (exact (hs' rfl).elim)
  | (split at h <;> cases h; rename_i hy; exact ⟨by simp [binOp, Op.intDiv, hy, AV.val1], rfl⟩)
  | (cases h; exact ⟨by simp [binOp, Op.intArith, Op.intBits, Op.intCmp, AV.val1], rfl⟩)

theorem a6B {P : Program} {op : BinOp} {k k' : IntKind} {t : TypeId} {a b : Int} {v : AV} (w : World) (hop : op = .shl \/ op = .shr) (h : a7y op k a b = some v) :
  (binOp op t (.int k a) (.int k' b)).run P w = .ok v.val1 w /\ v.scalar = true := by
 unfold a7y at h
 split at h
 ·cases h
 ·rename_i hb
  rcases hop with rfl | rfl
  ·cases h; exact ⟨by simp [binOp, Op.shift, hb, AV.val1], rfl⟩
  ·cases h; exact ⟨by simp [binOp, Op.shift, hb, AV.val1], rfl⟩

theorem a8S {P : Program} {op : BinOp} {t : TypeId} {a b : ByteArray} {v : AV} (w : World) (hadd : op = .add -> a.size + b.size <= 9223372036854775807) (h : a8f op a b = some v) :
  (binOp op t (.string a) (.string b)).run P w = .ok v.val1 w /\ v.scalar = true := by
 cases op <;> simp only [a8f] at h <;> first
  | (cases h; done)
  | (cases h
     have hk : IntKind.i64.max = 9223372036854775807 := by decide
     have := hadd rfl
     refine ⟨?_, rfl⟩
     have hn : ¬ (((a.size + b.size : Nat) : Int) > 9223372036854775807) := by omega
     simp only [binOp, Op.stringOp, hk]
     rw [if_neg hn]; rfl)
  | (cases h; exact ⟨by simp [binOp, Op.stringOp, AV.val1], rfl⟩)

def EqC.fits (P : Program) (t : TypeId) : EqC -> Prop
 | .none => True
 | .bool => P.underlying t = some .bool
 | .ptr => ∃ e, P.underlying t = some (.pointer e)
 | .iface | .ifn => ∃ ms, P.underlying t = some (.interface ms)
 | .flat => ∃ e, P.underlying t = some (.slice e)

theorem y6 {P : Program} {op : BinOp} {t : TypeId} {x y : Value} {b : Bool} {v : AV} (w : World) (h : a6x op b = some v)
  (hx : match x with | .bool _ | .pointer _ | .nilIface | .iface _ _ | .agg _ | .slice _ _ _ => True | _ => False)
  (hq : (Op.equal t x y).run P w = .ok b w) :
  (binOp op t x y).run P w = .ok v.val1 w /\ v.scalar = true := by
 cases op <;> simp only [a6x] at h <;> first
  | (cases h; done)
  | (cases h
     refine ⟨?_, rfl⟩
     cases x <;> first | (exact hx.elim) | (simp [binOp, hq, AV.val1]))

def a9z (x y : Value) : Prop := match x, y with | .nilIface, .nilIface => False | .agg _, .agg _ => False | _, _ => True

theorem a5k {P : Program} {op : BinOp} {t : TypeId} {ox oy : Operand} {x y : Value} (w : World)
  (hx : a9z x y) : (eqGuard op t ox oy x y).run P w = .ok () w := by
 cases op <;> first | rfl | (cases x <;> first | rfl | (cases y <;> first | exact hx.elim | rfl))

theorem v7 {P : Program} (d : Nat) {t e : TypeId} (h : P.underlying t = some (.pointer e)) (a b : Option Addr) (hab : a = none \/ b = none) (w : World) :
  (Op.equalIn (d + 1) t (.pointer a) (.pointer b)).run P w = .ok (a.isNone && b.isNone) w := by
 cases a <;> cases b <;> simp_all [Op.equalIn, run_underlying h]

theorem a1G {P : Program} (d : Nat) {t : TypeId} {ms} (h : P.underlying t = some (.interface ms)) (u : TypeId) (x : Value) (w : World) :
  (Op.equalIn (d + 1) t (.iface u x) .nilIface).run P w = .ok false w /\ (Op.equalIn (d + 1) t .nilIface (.iface u x)).run P w = .ok false w := by
 constructor <;> simp [Op.equalIn, run_underlying h]

theorem a5l {P : Program} (d : Nat) {t : TypeId} {ms} (h : P.underlying t = some (.interface ms)) (w : World) :
  (Op.equalIn (d + 1) t .nilIface .nilIface).run P w = .ok true w := by simp [Op.equalIn, run_underlying h]

theorem z5 {P : Program} (d : Nat) {t e : TypeId} (h : P.underlying t = some (.slice e)) (a : Option Addr) (n c : Nat) (w : World) :
  (Op.equalIn (d + 1) t (.slice a n c) (.slice none 0 0)).run P w = .ok a.isNone w := by
 cases a <;> simp [Op.equalIn, run_underlying h]

theorem a8g {P : Program} {t : TypeId} {c : EqC} (h : c.isI = true) (hc : EqC.fits P t c) : ∃ ms, P.underlying t = some (.interface ms) := by
 cases c <;> simp [EqC.isI] at h <;> exact hc
theorem a3y {P : Program} {op : BinOp} {t : TypeId} {ox oy : Operand} (w : World) (h : ∃ u, oy = .const u) : (eqGuard op t ox oy .nilIface .nilIface).run P w = .ok () w := by
 obtain ⟨u, rfl⟩ := h
 cases op <;> first | rfl | (unfold eqGuard; simp)

theorem a2g {P g σ w c op xt x y ux uy v} {ox oy : Operand} (hk : c = .ifn -> ∃ u, oy = .const u) (hw : WRel g σ w) (hc : EqC.fits P xt c) (hx : VR g.pm g.L σ x ux) (hy : VR g.pm g.L σ y uy) (h : a9y c op x y v) :
  Goes P g σ w (do pure (.value (<- (do eqGuard op xt ox oy ux uy; binOp op xt ux uy)))) v none := by
 have key : a9z ux uy -> ((binOp op xt ux uy).run P w = .ok v.val1 w /\ v.scalar = true) -> Goes P g σ w (do pure (.value (<- (do eqGuard op xt ox oy ux uy; binOp op xt ux uy)))) v none := fun h1 h2 =>
  Goes.val hw (u := v.val1) (by simp [a5k w h1, h2.1]) (VR.val1 h2.2)
 unfold a9y at h
 split at h
 ·cases hx; cases hy
  split at h
  ·exact key trivial (a6B w (.inl rfl) h)
  ·exact key trivial (a6B w (.inr rfl) h)
  ·rename_i n1 n2
   obtain ⟨rfl, h⟩ := h
   exact key trivial (a8R w (by rintro rfl; exact n1 rfl) (by rintro rfl; exact n2 rfl) h)
 ·cases hx; cases hy
  obtain ⟨ha, h⟩ := h
  exact key trivial (a8S w ha h)
 ·cases hx; cases hy
  obtain ⟨rfl, h⟩ := h
  exact key trivial (y6 w h trivial (run_equal_bool w xt _ _ hc))
 ·cases hx; cases hy
  obtain ⟨rfl, h⟩ := h
  obtain ⟨e, hc⟩ := hc
  exact key trivial (y6 w h trivial (v7 9999 hc none none (.inl rfl) w))
 ·cases hx; cases hy
  obtain ⟨rfl, h⟩ := h
  obtain ⟨e, hc⟩ := hc
  exact key trivial (y6 w h trivial (v7 9999 hc _ none (.inr rfl) w))
 ·cases hx; cases hy
  obtain ⟨rfl, h⟩ := h
  obtain ⟨e, hc⟩ := hc
  exact key trivial (y6 w h trivial (v7 9999 hc _ none (.inr rfl) w))
 ·cases hx; cases hy
  obtain ⟨rfl, h⟩ := h
  obtain ⟨e, hc⟩ := hc
  exact key trivial (y6 w h trivial (v7 9999 hc none _ (.inl rfl) w))
 ·cases hx; cases hy
  obtain ⟨rfl, h⟩ := h
  obtain ⟨e, hc⟩ := hc
  exact key trivial (y6 w h trivial (v7 9999 hc none _ (.inl rfl) w))
 ·cases hx; cases hy
  obtain ⟨hci, h⟩ := h
  obtain ⟨e, hc⟩ := a8g hci hc
  exact key trivial (y6 w h trivial (a1G 9999 hc _ _ w).1)
 ·cases hx; cases hy
  obtain ⟨hci, h⟩ := h
  obtain ⟨e, hc⟩ := a8g hci hc
  exact key trivial (y6 w h trivial (a1G 9999 hc _ _ w).2)
 ·cases hx; cases hy
  obtain ⟨rfl, h⟩ := h
  obtain ⟨e, hc⟩ := hc
  have h2 := y6 (P := P) (t := xt) (x := .nilIface) (y := .nilIface) w h trivial (a5l 9999 hc w)
  exact Goes.val hw (u := v.val1) (by simp [a3y w (hk rfl), h2.1]) (VR.val1 h2.2)
 ·cases hx; cases hy
  obtain ⟨rfl, h⟩ := h
  obtain ⟨e, hc⟩ := hc
  exact key trivial (y6 w h trivial (z5 9999 hc none _ _ w))
 ·obtain ⟨rfl, h⟩ := h
  obtain ⟨e, hc⟩ := hc
  cases hy
  cases hx <;> exact key trivial (y6 w h trivial (z5 9999 hc _ _ _ w))
 ·obtain ⟨rfl, h⟩ := h
  obtain ⟨e, hc⟩ := hc
  cases hy
  cases hx
  exact key trivial (y6 w h trivial (z5 9999 hc _ _ _ w))
 ·obtain ⟨rfl, h⟩ := h
  obtain ⟨e, hc⟩ := hc
  cases hy
  cases hx
  exact key trivial (y6 w h trivial (z5 9999 hc _ _ _ w))
 ·exact h.elim

def c1T (op : UnOp) (x v : AV) : Prop :=
 match op, x with
 | .not, .bool b => v = .bool (!b)
 | .neg, .int k n => v = .int k (k.wrap (0 - n))
 | .xor, .int k n => a2Y .xor k (if k.signed then -1 else k.max) n = some v
 | _, _ => False

theorem b1K {P g σ w op x u v} (hw : WRel g σ w) (hx : VR g.pm g.L σ x u) (h : c1T op x v) : Goes P g σ w (do pure (.value (<- Op.unary op u))) v none := by
 unfold c1T at h
 split at h
 ·cases hx; subst h; exact Goes.val hw (u := .bool _) (by simp [Op.unary]) .bool
 ·cases hx; subst h; exact Goes.val hw (u := .int _ _) (by simp [Op.unary, Op.intArith]) .int
 ·cases hx
  simp only [a2Y, Option.some.injEq] at h; subst h
  exact Goes.val hw (u := .int _ _) (by simp [Op.unary, Op.intBits]) .int
 ·exact h.elim

theorem a5W {P g σ w src dst k x u v} (hw : WRel g σ w) (hs : ∃ d, P.underlying src = some d) (hd : P.underlying dst = some (.int k)) (hx : VR g.pm g.L σ x u)
  (h : match x with | .int _ n => v = .int k (k.wrap n) | _ => False) : Goes P g σ w (do pure (.value (<- convert src dst u))) v none := by
 split at h
 ·cases hx; subst h
  obtain ⟨d, hs⟩ := hs
  exact Goes.val hw (u := .int k _) (by simp [convert, run_underlying hs, run_underlying hd, Conv.intToInt]) .int
 ·exact h.elim

theorem a5X {P g σ w src dst d x u v} (hw : WRel g σ w) (hs : P.underlying src = some d) (hd : P.underlying dst = some .string) (hx : VR g.pm g.L σ x u)
  (h : match x with | .str s => v = .str s | _ => False) : Goes P g σ w (do pure (.value (<- convert src dst u))) v none := by
 split at h
 ·cases hx; subst h
  exact Goes.val hw (u := .string _) (by simp [convert, run_underlying hs, run_underlying hd]) .str
 ·exact h.elim

def a8h (x v : AV) : Prop :=
 match x with
 | .ptr _ _ _ | .cptr _ _ | .iface _ _ | .fn (.func _) _ _ => v = x
 | _ => False

def b1L (fo : Nat) (x v : AV) : Prop :=
 match x with
 | .ptr o ver off => v = .ptr o ver (off + fo)
 | .cptr cs off => v = .cptr cs (off + fo)
 | _ => False

theorem a0Q.shift {L σ o ver off a} (n : Nat) (h : a0Q L σ o ver off a) : ∃ a', a.add n = a' /\ a0Q L σ o ver (off + n) a' := by
 refine ⟨_, rfl, ?_⟩
 unfold a0Q at *
 cases hs : σ o <;> simp only [hs] at h ⊢
 ·exact h
 ·refine ⟨h.1, fun e => ?_⟩
  rw [h.2 e, Addr.add_lit]
  congr 1; omega

theorem a5w {pm L σ cs off u} (n : Nat) (h : VR pm L σ (.cptr cs off) u) : ∃ a, u = .pointer (some a) /\ VR pm L σ (.cptr cs (off + n)) (.pointer (some (a.add n))) := by
 cases h with
 | cptr us hp hv =>
   rename_i b o
   refine ⟨_, rfl, ?_⟩
   rw [Addr.add_lit, show o + off + n = o + (off + n) by omega]
   exact .cptr us hp hv

theorem a9A {P g σ w s fi x u v fields f} (hw : WRel g σ w) (hu : P.underlying s = some (.struct fields)) (hf : fields[fi]? = some f) (hz : ∃ i, P.info? f.type = some i /\ i.size ≠ 0)
  (hx : VR g.pm g.L σ x u) (h : b1L f.offset x v) : Goes P g σ w (do pure (.value (<- Instr.fieldAt s u fi))) v none := by
 obtain ⟨i, hi, hz⟩ := hz
 have hrun : ∀ a : Addr, (Instr.fieldAt s (.pointer (some a)) fi).run P w = .ok (.pointer (some (a.add f.offset))) w := fun a => by
  simp [Instr.fieldAt, run_underlying hu, hf, Instr.sureAddr, fieldPlace, q7 hi, hz]
 unfold b1L at h
 split at h
 ·subst h
  cases hx with
  | ptr hp =>
    obtain ⟨a', e, k⟩ := hp.shift f.offset
    exact Goes.val hw (hrun _) (by rw [e]; exact .ptr k)
 ·subst h
  obtain ⟨a, rfl, h2⟩ := a5w f.offset hx
  exact Goes.val hw (hrun _) h2
 ·exact h.elim

def a9B (arr : Option Nat) (esh : Option Nat) (x i v : AV) : Prop :=
 match arr, x, i with
 | none, .sl _ sz xs, .int _ n => sz = d9 esh /\ 0 <= n /\ n < xs.length /\ v = .cptr (xs.getD n.toNat .junk).cells 0
 | none, .ref o ver off m e, .int _ n => e = esh /\ 0 <= n /\ n < m /\ v = .ptr o ver (off + n.toNat * d9 esh)
 | some len, .ptr o ver off, .int _ n => 0 <= n /\ n < len /\ v = .ptr o ver (off + n.toNat * d9 esh)
 | some len, .cptr cs off, .int _ n => 0 <= n /\ n < len /\ v = .cptr cs (off + n.toNat * d9 esh)
 | _, _, _ => False

theorem a0p.ptr {L σ o ver off n sz a cap} (h : a0p L σ o ver off n sz a cap) (m : Nat) : a0Q L σ o ver (off + m) (a.add m) := by
 unfold a0p at h
 unfold a0Q
 cases hs : σ o <;> simp only [hs] at h ⊢
 ·exact h
 ·refine ⟨h.1, fun e => ?_⟩
  rw [(h.2 e).1, Addr.add_lit]
  congr 1; omega

theorem a6C {P g σ w t x i ux ui v elem esh arr} (hw : WRel g σ w) (he : y4 P elem = some esh)
  (ht : P.underlying t = some (match arr with | none => .slice elem | some n => .array n elem))
  (hx : VR g.pm g.L σ x ux) (hi : VR g.pm g.L σ i ui) (h : a9B arr esh x i v) : Goes P g σ w (do pure (.value (<- Instr.indexAt t ux ui))) v none := by
 obtain ⟨inf, hinf, hsz⟩ := u6 he
 have hsl : ∀ (a : Addr) (len cap : Nat) (k : IntKind) (n : Int), arr = none -> 0 <= n -> n < len -> (Instr.indexAt t (.slice (some a) len cap) (.int k n)).run P w = .ok (.pointer (some (a.add (n.toNat * d9 esh)))) w := fun a len cap k n ha h0 h1 => by
  subst ha
  simp [Instr.indexAt, asIntOf, run_underlying ht, h0, h1, q7 hinf, hsz]
 have har : ∀ (a : Addr) (len : Nat) (k : IntKind) (n : Int), arr = some len -> 0 <= n -> n < len -> (Instr.indexAt t (.pointer (some a)) (.int k n)).run P w = .ok (.pointer (some (a.add (n.toNat * d9 esh)))) w := fun a len k n ha h0 h1 => by
  subst ha
  simp [Instr.indexAt, asIntOf, run_underlying ht, Instr.sureAddr, h0, h1, q7 hinf, hsz]
 unfold a9B at h
 split at h
 ·rename_i ex sz xs k n
  obtain ⟨rfl, h0, h1, rfl⟩ := h
  cases hi
  cases hx with
  | slnil => simp at h1; omega
  | slz => simp at h1; omega
  | sl us hc hex hz hp hv =>
    rename_i b o cap
    have hlt : n.toNat < xs.length := by omega
    refine Goes.val hw (hsl _ _ _ _ _ rfl h0 h1) ?_
    rw [Addr.add_lit]
    have := VR.cptr (pm := g.pm) (L := g.L) (σ := σ) (cs := (xs.getD n.toNat .junk).cells) (off := 0) (b := b) (o := o + n.toNat * d9 esh) (us n.toNat)
     (fun j hj => hp n.toNat j hlt (by simpa [hlt, hz] using hj)) (fun j hj => by
      have := hv n.toNat hlt j (by simpa [hlt] using hj)
      simpa [hlt] using this)
    exact this
 ·obtain ⟨rfl, h0, h1, rfl⟩ := h
  cases hi
  cases hx with
  | ref hn hs hr => exact Goes.val hw (hsl _ _ _ _ _ rfl h0 h1) (.ptr (hr.ptr _))
  | refnil => omega
 ·obtain ⟨h0, h1, rfl⟩ := h
  cases hi
  cases hx with
  | ptr hp => exact Goes.val hw (har _ _ _ _ rfl h0 h1) (.ptr (by obtain ⟨a', e, k⟩ := hp.shift (_ * d9 esh); rw [e]; exact k))
 ·obtain ⟨h0, h1, rfl⟩ := h
  cases hi
  obtain ⟨a, rfl, h2⟩ := a5w (_ * d9 esh) hx
  exact Goes.val hw (har _ _ _ _ rfl h0 h1) h2
 ·exact h.elim
def loN : Option AV -> Option Nat
 | none => some 0
 | some (.int _ i) => if 0 <= i then some i.toNat else none
 | some _ => none
def hiN (len : Nat) : Option AV -> Option Nat
 | none => some len
 | some (.int _ i) => if 0 <= i then some i.toNat else none
 | some _ => none

inductive OVR (g : Gh) (σ : Hp) : Option AV -> Option Value -> Prop
 | none : OVR g σ none none
 | some {x u} (h : VR g.pm g.L σ x u) : OVR g σ (some x) (some u)

theorem a2B {P : Program} {g σ} {lo hi : Option AV} {lo' hi' : Option Value} {l h len cap : Nat} (isS : Bool) (hlo : OVR g σ lo lo') (hhi : OVR g σ hi hi')
  (el : loN lo = some l) (eh : hiN len hi = some h) (h1 : l <= h) (h2 : h <= len) (h3 : len <= cap) (w : World) :
  (Instr.sliceBounds isS len cap lo' hi' none).run P w = .ok (l, h, cap) w := by
 cases hhi with
 | none =>
   simp only [hiN, Option.some.injEq] at eh
   subst eh
   cases hlo with
   | none =>
     simp only [loN, Option.some.injEq] at el
     subst el
     simp [Instr.sliceBounds]
   | some hx =>
     cases hx <;> simp [loN] at el
     rename_i k n
     obtain ⟨e1, rfl⟩ := el
     simp [Instr.sliceBounds, run_sliceBound w k n len .sliceB e1 zO]
 | some hy =>
   cases hy <;> simp [hiN] at eh
   rename_i k m
   obtain ⟨e2, rfl⟩ := eh
   cases hlo with
   | none =>
     simp only [loN, Option.some.injEq] at el
     subst el
     cases isS <;> simp [Instr.sliceBounds, run_sliceBound w k m cap _ e2 zO]
   | some hx =>
     cases hx <;> simp [loN] at el
     rename_i k' n
     obtain ⟨e1, rfl⟩ := el
     cases isS <;> simp [Instr.sliceBounds, run_sliceBound w k m cap _ e2 zO, run_sliceBound w k' n m.toNat .sliceB e1 zO]

def a9C (esh : Option Nat) (x : AV) (lo hi mx : Option AV) (v : AV) : Prop :=
 match mx with
 | none =>
   match x with
   | .nils => ∃ l h, loN lo = some l /\ hiN 0 hi = some h /\ l <= h /\ h <= 0 /\ v = .nils
   | .sl _ sz xs => sz = d9 esh /\ ∃ l h, loN lo = some l /\ hiN xs.length hi = some h /\ l <= h /\ h <= xs.length /\ v = .sl false sz ((xs.take h).drop l)
   | .ref o ver off n e => e = esh /\ ∃ l h, loN lo = some l /\ hiN n hi = some h /\ l <= h /\ h <= n /\ (((l = 0 \/ l < h) /\ v = .ref o ver (off + l * d9 esh) (h - l) e) \/ (l = h /\ v = .sl false (d9 esh) []))
   | _ => False
 | some (.int _ m) => m = 0 /\ loN lo = some 0 /\ (∃ k, hi = some (.int k 0)) /\
   match x with
   | .nils => v = .nils
   | .sl _ _ _ | .ref _ _ _ _ _ => v = .sl true (d9 esh) []
   | _ => False
 | some _ => False

theorem a4g {pm L σ} {ex : Bool} {sz : Nat} {a : Option Addr} {cap : Nat} (hs : ∀ b, a = some b -> b.spot = none) (hcap : ex = true \/ a = none -> cap = 0) : VR pm L σ (.sl ex sz []) (.slice a 0 cap) := by
 cases a with
 | none =>
   have := hcap (.inr rfl)
   subst this
   exact .slnil
 | some b =>
   obtain ⟨b, o, s⟩ := b
   have := hs _ rfl
   simp at this
   subst this
   exact VR.sl (xs := []) (b := b) (o := o) (fun _ _ => undef) zS (by intro h; have := hcap (.inl h); simpa using this) zS zS zS

theorem a9D {P g σ w t elem esh x ux lo hi mx lo' hi' mx' v} (hw : WRel g σ w) (he : y4 P elem = some esh) (ht : P.underlying t = some (.slice elem))
  (hx : VR g.pm g.L σ x ux) (hlo : OVR g σ lo lo') (hhi : OVR g σ hi hi') (hmx : OVR g σ mx mx') (h : a9C esh x lo hi mx v) :
  Goes P g σ w (do pure (.value (<- Instr.sliceAt t ux lo' hi' mx'))) v none := by
 obtain ⟨inf, hinf, hsz⟩ := u6 he
 have hrun : ∀ (a : Option Addr) (len cap l h : Nat), loN lo = some l -> hiN len hi = some h -> l <= h -> h <= len -> len <= cap -> mx' = none ->
   (Instr.sliceAt t (.slice a len cap) lo' hi' mx').run P w = .ok (sliced a l h cap (d9 esh)) w := fun a len cap l h e1 e2 h1 h2 h3 hm => by
  subst hm
  have hb := a2B (P := P) true hlo hhi e1 e2 h1 h2 h3 w
  simp [Instr.sliceAt, Instr.slice, run_underlying ht, hb, q7 hinf, hsz, sliced]
 unfold a9C at h
 split at h
 ·cases hmx
  split at h
  ·obtain ⟨l, h, e1, e2, h1, h2, rfl⟩ := h
   cases hx
   refine Goes.val hw (hrun none 0 0 l h e1 e2 h1 h2 (Nat.le_refl _) rfl) ?_
   obtain ⟨rfl, rfl⟩ : l = 0 /\ h = 0 := by omega
   exact .nils
  ·rename_i ex sz xs
   obtain ⟨rfl, l, h, e1, e2, h1, h2, rfl⟩ := h
   cases hx with
   | slnil =>
     refine Goes.val hw (hrun none 0 0 l h e1 e2 h1 h2 (Nat.le_refl _) rfl) ?_
     have : l = 0 /\ h = 0 := by simp at h2; omega
     obtain ⟨rfl, rfl⟩ := this
     exact .slnil
   | slz =>
     refine Goes.val hw (hrun _ 0 0 l h e1 e2 h1 h2 (Nat.le_refl _) rfl) ?_
     have : l = 0 /\ h = 0 := by simp at h2; omega
     obtain ⟨rfl, rfl⟩ := this
     simp only [sliced]
     exact .slz
   | sl us hc hex hz hp hv =>
     rename_i b o cap
     refine Goes.val hw (hrun _ _ _ l h e1 e2 h1 h2 hc rfl) ?_
     unfold sliced
     by_cases hml : cap = l
     ·have : l = h := by omega
      subst this
      have hnil : (xs.take l).drop l = [] := by simp [List.drop_take]
      rw [if_pos hml, hnil, Nat.sub_self, hml, Nat.sub_self]
      exact a4g (by rintro b' ⟨⟩; rfl) zS
     ·rw [if_neg hml]
      have hlen : ((xs.take h).drop l).length = h - l := by simp; omega
      have hget : ∀ i (hi : i < ((xs.take h).drop l).length), ((xs.take h).drop l)[i] = xs[l + i]'zO := fun i hi => by simp
      simp only [Option.map_some, Addr.add_lit]
      rw [<- hlen]
      refine VR.sl (fun i j => us (l + i) j) zO zS (fun i hi => ?_) (fun i j hi hj => ?_) (fun i hi j hj => ?_)
      ·rw [hget i hi]; exact hz _ _
      ·have := hp (l + i) j zO hj
       rwa [show o + l * d9 esh + i * d9 esh + j = o + (l + i) * d9 esh + j by rw [Nat.add_mul]; omega]
      ·have := hv (l + i) zO j (by rw [<- hget i hi]; exact hj)
       simpa [hget i hi] using this
  ·rename_i o ver off n e
   obtain ⟨rfl, l, h, e1, e2, h1, h2, hh⟩ := h
   cases hx with
   | refnil hr =>
     refine Goes.val hw (hrun _ 0 0 l h e1 e2 h1 h2 (Nat.le_refl _) rfl) ?_
     have : l = 0 /\ h = 0 := by omega
     obtain ⟨rfl, rfl⟩ := this
     simp only [sliced]
     rcases hh with ⟨hl, rfl⟩ | ⟨_, rfl⟩
     ·split <;> first | exact .refnil hr | (rename_i q; exact (q rfl).elim)
     ·exact .slz'
   | ref hn hs hr =>
     rename_i a cap
     refine Goes.val hw (hrun _ _ _ l h e1 e2 h1 h2 hn rfl) ?_
     unfold sliced
     rcases hh with ⟨hl, rfl⟩ | ⟨rfl, rfl⟩
     ·have ha : (if cap = l then some a else (some a).map (·.add (l * d9 e))) = some (a.add (l * d9 e)) := by
       split
       ·have : l = 0 := by omega
        subst this
        simp [Addr.add]
       ·rfl
      rw [ha]
      refine .ref zO (by unfold Addr.add; split <;> simp_all) ?_
      unfold a0p at hr ⊢
      cases hs : σ o <;> simp only [hs] at hr ⊢
      ·exact hr
      ·refine ⟨hr.1, fun ee => ?_⟩
       obtain ⟨r1, r2, r3, r4⟩ := hr.2 ee
       have q1 : (h - l) * d9 e + l * d9 e = h * d9 e := by rw [<- Nat.add_mul]; congr 1; omega
       have q2 : (cap - l) * d9 e + l * d9 e = cap * d9 e := by rw [<- Nat.add_mul]; congr 1; omega
       have q3 : h * d9 e <= n * d9 e := Nat.mul_le_mul_right _ h2
       rw [r1, Addr.add_lit]
       exact ⟨by congr 1; omega, by omega, by omega, by omega⟩
     ·rw [Nat.sub_self]
      refine a4g ?_ ?_
      ·intro b hb
       split at hb
       ·cases hb; exact hs
       ·cases hb; unfold Addr.add; split <;> simp_all
      ·rintro (h | h)
       ·cases h
       ·split at h <;> cases h
  ·exact h.elim
 ·obtain ⟨rfl, e1, e2, h⟩ := h
  cases hmx with
  | some hm =>
    cases hm
    rename_i k
    have hr0 : ∀ (a : Option Addr) (len cap : Nat), (Instr.sliceAt t (.slice a len cap) lo' hi' (some (.int k 0))).run P w = .ok (.slice a 0 0) w := fun a len cap => by
     obtain ⟨kk, rfl⟩ := e2
     cases hhi with
     | some hx =>
       cases hx
       have hb := run_sliceBound (P := P) w kk 0 0 .slice3B zO zO
       have hb' := run_sliceBound (P := P) w k 0 cap .slice3Acap zO zO
       have hbs : (Instr.sliceBounds true len cap lo' (some (.int kk 0)) (some (.int k 0))).run P w = .ok (0, 0, 0) w := by
        cases hlo with
        | none => simp [Instr.sliceBounds, hb', hb]
        | some hx =>
          cases hx <;> simp [loN] at e1
          rename_i k2 n2
          have hl := run_sliceBound (P := P) w k2 n2 0 .slice3C zO zO
          simp [Instr.sliceBounds, hb', hb, hl, show n2.toNat = 0 by omega]
       simp [Instr.sliceAt, Instr.slice, run_underlying ht, hbs, q7 hinf]
    split at h
    ·cases hx; subst h; exact Goes.val hw (hr0 _ _ _) .nils
    ·subst h
     cases hx with
     | slnil => exact Goes.val hw (hr0 _ _ _) .slnil
     | slz => exact Goes.val hw (hr0 _ _ _) .slz
     | sl us hc hex hz hp hv => exact Goes.val hw (hr0 _ _ _) (a4g (by rintro b' ⟨⟩; rfl) zS)
    ·subst h
     cases hx with
     | ref hn hs hr => exact Goes.val hw (hr0 _ _ _) (a4g (by rintro b' ⟨⟩; exact hs) zS)
     | refnil _ => exact Goes.val hw (hr0 _ _ _) .slz'
    ·exact h.elim
 ·exact h.elim
def a6D (sh : Option Nat) (cs : List AV) (off : Nat) (v : AV) : Prop :=
 match sh with
 | none => off < cs.length /\ v = cs.getD off .junk
 | some n => off + n <= cs.length /\ v = .agg ((cs.drop off).take n)

def VL (pm : Pm) (L : Nat -> Loc) (σ : Hp) (cs : List AV) (vs : Array Value) : Prop :=
 vs.size = cs.length /\ ∀ j (h : j < cs.length) (h' : j < vs.size), VR pm L σ (cs[j]) (vs[j])

theorem VL.mono {pm pm' L L' σ σ'} (e : Ext pm L σ pm' L' σ') {cs vs} (h : VL pm L σ cs vs) : VL pm' L' σ' cs vs := ⟨h.1, fun j a b => (h.2 j a b).mono e⟩

theorem a8i {P : Program} {pm L σ} {t : TypeId} {sh : Option Nat} (ht : y4 P t = some sh) {cs : List AV} {vs : Array Value} (h : VL pm L σ cs vs) {off : Nat} {v : AV} (hv : a6D sh cs off v) (w : World) :
  ∃ u, (part t vs off).run P w = .ok u w /\ VR pm L σ v u := by
 obtain ⟨inf, hinf, hsz⟩ := u6 ht
 have hl := h.1
 cases sh with
 | none =>
   obtain ⟨h1, rfl⟩ := hv
   have hlt : off < vs.size := by omega
   exact ⟨vs[off], by simp [part, a1F ht, hlt], by simpa [h1] using h.2 off h1 hlt⟩
 | some n =>
   obtain ⟨h1, rfl⟩ := hv
   simp only [d9, Option.getD_some] at hsz
   refine ⟨.agg (vs.extract off (off + n)), by simp [part, a1F ht, q7 hinf, hsz], .agg zE (fun j a b => ?_)⟩
   simp at a b
   simpa using h.2 (off + j) zO zO

theorem a9E {P g σ w s fi x u v fields f sh} (hw : WRel g σ w) (hu : P.underlying s = some (.struct fields)) (hf : fields[fi]? = some f) (hs : y4 P f.type = some sh)
  (hx : VR g.pm g.L σ x u) (h : match x with | .agg cs => a6D sh cs f.offset v | _ => False) : Goes P g σ w (do pure (.value (<- Instr.field s u fi))) v none := by
 split at h
 ·cases hx with
  | agg hl hv =>
    obtain ⟨r, h1, h2⟩ := a8i hs ⟨hl, hv⟩ h w
    exact Goes.val hw (u := r) (by simp [Instr.field, run_underlying hu, hf, asAgg, h1]) h2
 ·exact h.elim

def a8j (x i v : AV) : Prop :=
 match x, i with
 | .str s, .int _ n => 0 <= n /\ n < s.size /\ v = .int .u8 (s[n.toNat]?.getD 0).toNat
 | _, _ => False

def a8k (len : Nat) (sh : Option Nat) (x i v : AV) : Prop :=
 match x, i with
 | .agg cs, .int _ n => 0 <= n /\ n < len /\ a6D sh cs (n.toNat * d9 sh) v
 | _, _ => False

theorem a5Y {P g σ w t x i ux ui v} (hw : WRel g σ w) (ht : P.underlying t = some .string) (hx : VR g.pm g.L σ x ux) (hi : VR g.pm g.L σ i ui)
  (h : a8j x i v) : Goes P g σ w (do pure (.value (<- Instr.index t ux ui))) v none := by
 unfold a8j at h
 split at h
 ·rename_i s k n
  obtain ⟨h0, h1, rfl⟩ := h
  cases hx; cases hi
  have hlt : n.toNat < s.size := by omega
  refine Goes.val hw (u := .int .u8 (s[n.toNat]?.getD 0).toNat) ?_ .int
  have e : s[n.toNat]? = some (s[n.toNat]'hlt) := by simp [hlt]
  simp [Instr.index, asIntOf, run_underlying ht, h0, e]
 ·exact h.elim

theorem a5Z {P g σ w t x i ux ui v len elem sh} (hw : WRel g σ w) (ht : P.underlying t = some (.array len elem)) (he : y4 P elem = some sh) (hx : VR g.pm g.L σ x ux) (hi : VR g.pm g.L σ i ui)
  (h : a8k len sh x i v) : Goes P g σ w (do pure (.value (<- Instr.index t ux ui))) v none := by
 obtain ⟨inf, hinf, hsz⟩ := u6 he
 unfold a8k at h
 split at h
 ·rename_i cs k n
  obtain ⟨h0, h1, h2⟩ := h
  cases hi
  cases hx with
  | agg hl hv =>
    obtain ⟨r, r1, r2⟩ := a8i he ⟨hl, hv⟩ h2 w
    exact Goes.val hw (u := r) (by simp [Instr.index, asIntOf, run_underlying ht, h0, h1, q7 hinf, hsz, r1]) r2
 ·exact h.elim

def b1M (i : Nat) (x v : AV) : Prop := match x with | .tup vs => i < vs.length /\ v = vs.getD i .junk | _ => False

theorem a9F {P g σ w x u i v} (hw : WRel g σ w) (hx : VR g.pm g.L σ x u) (h : b1M i x v) :
  Goes P g σ w (do pure (.value (<- Instr.extract u i))) v none := by
 unfold b1M at h
 split at h
 ·obtain ⟨h1, rfl⟩ := h
  cases hx with
  | tup hl hv =>
    rename_i us
    have hlt : i < us.size := by omega
    exact Goes.val hw (u := us[i]) (by simp [Instr.extract, hlt]) (by simpa [h1] using hv i h1 hlt)
 ·exact h.elim

inductive b2R where
 | str | sl | arr (n : Nat) | map
 deriving DecidableEq

def b1N (c : b2R) (x v : AV) : Prop :=
 match c, x with
 | .str, .str s => v = .int .i64 s.size
 | .sl, .nils => v = .int .i64 0
 | .sl, .sl _ _ xs => v = .int .i64 xs.length
 | .sl, .ref _ _ _ n _ => v = .int .i64 n
 | .arr n, _ => v = .int .i64 n
 | _, _ => False

def b2R.fits (P : Program) (t : TypeId) : b2R -> Prop
 | .str => P.underlying t = some .string
 | .sl => ∃ e, P.underlying t = some (.slice e)
 | .arr n => (∃ e, P.underlying t = some (.array n e)) \/ ∃ a e, P.underlying t = some (.pointer a) /\ P.underlying a = some (.array n e)
 | .map => False

theorem a9G {P g σ w c t ty x u v} (hw : WRel g σ w) (hc : b2R.fits P t c) (hx : VR g.pm g.L σ x u) (h : b1N c x v) :
  Goes P g σ w (do pure (.value (<- Builtin.len_ #[t] ty #[u]))) v none := by
 have key : ∀ n : Int, v = .int .i64 n -> (Builtin.len_ #[t] ty #[u]).run P w = .ok (.int .i64 n) w -> Goes P g σ w (do pure (.value (<- Builtin.len_ #[t] ty #[u]))) v none := fun n e hr => by
  subst e; exact Goes.val hw hr .int
 unfold b1N at h
 split at h
 ·cases hx; exact key _ h (by simp [Builtin.len_, run_underlying hc, goInt])
 ·obtain ⟨e, hc⟩ := hc
  cases hx; exact key _ h (by simp [Builtin.len_, run_underlying hc, goInt])
 ·obtain ⟨e, hc⟩ := hc
  cases hx <;> first | exact key _ h (by simp [Builtin.len_, run_underlying hc, goInt]) | exact key 0 h (by simp [Builtin.len_, run_underlying hc, goInt])
 ·obtain ⟨e, hc⟩ := hc
  cases hx
  ·exact key _ h (by simp [Builtin.len_, run_underlying hc, goInt])
  ·exact key 0 h (by simp [Builtin.len_, run_underlying hc, goInt])
 ·rcases hc with ⟨e, hc⟩ | ⟨a, e, hc, hc'⟩
  ·refine key _ h ?_
   cases u <;> simp [Builtin.len_, run_underlying hc, goInt]
  ·refine key _ h ?_
   cases u <;> simp [Builtin.len_, run_underlying hc, run_underlying hc', goInt]
 ·exact h.elim

def b1O (lo hi : Option AV) (x v : AV) : Prop := match x with | .str s => ∃ l h, loN lo = some l /\ hiN s.size hi = some h /\ l <= h /\ h <= s.size /\ v = .str (s.extract l h) | _ => False

theorem a9H {P g σ w t x ux lo hi lo' hi' v} (hw : WRel g σ w) (ht : P.underlying t = some .string)
  (hx : VR g.pm g.L σ x ux) (hlo : OVR g σ lo lo') (hhi : OVR g σ hi hi')
  (h : b1O lo hi x v) :
  Goes P g σ w (do pure (.value (<- Instr.sliceAt t ux lo' hi' none))) v none := by
 unfold b1O at h
 split at h
 ·rename_i s
  obtain ⟨l, h, e1, e2, h1, h2, rfl⟩ := h
  cases hx
  have hb := a2B (P := P) false hlo hhi e1 e2 h1 h2 (Nat.le_refl _) w
  exact Goes.val hw (u := .string (s.extract l h)) (by simp [Instr.sliceAt, Instr.slice, run_underlying ht, hb]) .str
 ·exact h.elim

theorem a9I {P g σ w t x u v} (hw : WRel g σ w) (ht : P.concrete t = true) (hx : VR g.pm g.L σ x u) (h : v = .iface t x) :
  Goes P g σ w (do pure (.value (<- Instr.makeInterface t u))) v none := by
 subst h
 exact Goes.val hw (run_makeInterface w t u ht) (.iface hx)

theorem VL.set {pm L σ cs vs x u} (h : VL pm L σ cs vs) (hx : VR pm L σ x u) (i : Nat) : VL pm L σ (cs.set i x) (vs.setIfInBounds i u) := by
 refine ⟨by simpa using h.1, fun j a b => ?_⟩
 simp at a b
 by_cases hij : i = j
 ·subst hij; simpa using hx
 ·rw [List.getElem_set_ne hij, Array.getElem_setIfInBounds_ne (by simpa using b) hij]
  exact h.2 j a b

theorem VL.splice {pm L σ} : ∀ (xs : List AV) (us : List Value) (off : Nat) {cs vs} (_ : VL pm L σ cs vs), us.length = xs.length -> (∀ j (a : j < xs.length) (b : j < us.length), VR pm L σ (xs[j]) (us[j])) -> ∀ k,
  VL pm L σ (Go.Ab.splice cs (off + k) xs) ((us.zipIdx k).foldl (fun cs (c, j) => cs.setIfInBounds (off + j) c) vs)
 | [], [], _, _, _, h, _, _, _ => by simpa [Go.Ab.splice] using h
 | x :: xs, u :: us, off, cs, vs, h, hl, hv, k => by
   simp only [Go.Ab.splice, List.zipIdx_cons, List.foldl_cons]
   exact VL.splice xs us off (h.set (hv 0 zS zS) _) (by simpa using hl) (fun j a b => hv (j + 1) (by simpa using a) (by simpa using b)) (k + 1)
 | [], _ :: _, _, _, _, _, hl, _, _ => by simp at hl
 | _ :: _, [], _, _, _, _, hl, _, _ => by simp at hl

def AV.nj : AV -> Bool
 | .junk => false
 | _ => true

def a2Z (cs : List AV) : List (Nat × Nat × AV) -> Option (List AV)
 | [] => some cs
 | (off, size, x) :: r => if x.nj && x.cells.length == size && decide (off + size <= cs.length) then a2Z (splice cs off x.cells) r else none

theorem a6a {pm L σ} (place : Nat -> Option (Nat × Nat)) : ∀ (ps : List (Nat × Nat × AV)) (qs : List (Nat × Value)) {cs : List AV} {vs : Array Value} {cs' : List AV},
  VL pm L σ cs vs -> ps.length = qs.length -> (∀ j (a : j < ps.length) (b : j < qs.length), place (qs[j]).1 = some ((ps[j]).1, (ps[j]).2.1) /\ VR pm L σ (ps[j]).2.2 (qs[j]).2) ->
  a2Z cs ps = some cs' -> ∃ vs', Instr.fill place vs qs = some vs' /\ VL pm L σ cs' vs'
 | [], [], cs, vs, cs', h, _, _, e => by simp [a2Z] at e; subst e; exact ⟨vs, rfl, h⟩
 | (off, size, x) :: ps, (i, u) :: qs, cs, vs, cs', h, hl, hv, e => by
   simp only [a2Z] at e
   split at e
   ·rename_i hc
    simp only [Bool.and_eq_true, beq_iff_eq, decide_eq_true_eq] at hc
    obtain ⟨⟨hnj, hsz⟩, hoff⟩ := hc
    obtain ⟨hp, hx⟩ := hv 0 zS zS
    simp at hp hx
    obtain ⟨c1, c2⟩ := hx.cells (by rintro rfl; simp [AV.nj] at hnj)
    have hs := VL.splice x.cells u.cells.toList off h (by simpa using c1) (fun j a b => by simpa using c2 j a (by simpa using b)) 0
    have ih := a6a place ps qs hs (by simpa using hl) (fun j a b => hv (j + 1) (by simpa using a) (by simpa using b)) e
    obtain ⟨vs', e1, e2⟩ := ih
    refine ⟨vs', ?_, e2⟩
    simp only [Instr.fill, hp]
    rw [if_neg]
    ·rw [<- e1]
     congr 1
     rw [<- Array.foldl_toList]
     simp [Array.toList_zipIdx]
    ·have := h.1
     simp
     omega
   ·cases e
 | [], _ :: _, _, _, _, _, hl, _, _ => by simp at hl
 | _ :: _, [], _, _, _, _, hl, _, _ => by simp at hl

def a1s (n : Nat) : Nat -> List AV -> List AV
 | 0, _ => []
 | k + 1, cs => .agg (cs.take n) :: a1s n k (cs.drop n)

def q8 (esh : Option Nat) (k : Nat) (cs : List AV) : List AV :=
 match esh with
 | none => cs.take k
 | some n => a1s n k cs

theorem a3T (n : Nat) : ∀ (k : Nat) (cs : List AV), (a1s n k cs).length = k
 | 0, _ => rfl
 | k + 1, cs => by simp [a1s, a3T n k]

theorem a6E (n : Nat) : ∀ (k : Nat) (cs : List AV) (i : Nat) (h : i < (a1s n k cs).length), (a1s n k cs)[i] = .agg ((cs.drop (i * n)).take n)
 | 0, _, i, h => by simp [a1s] at h
 | k + 1, cs, 0, h => by simp [a1s]
 | k + 1, cs, i + 1, h => by
   simp only [a1s, List.getElem_cons_succ]
   rw [a6E n k (cs.drop n) i (by simpa [a1s] using h), List.drop_drop, Nat.add_mul, Nat.one_mul, Nat.add_comm]

theorem a5m {esh k} {cs : List AV} (h : k * d9 esh <= cs.length) : (q8 esh k cs).length = k := by
 cases esh with
 | none => simp [q8, d9] at *; omega
 | some n => simp [q8, a3T]

theorem AV.cells_one {x : AV} (h : x.one = true) : x.cells = [x] := by cases x <;> simp_all [AV.one, AV.cells]

theorem a6b {esh k} {cs : List AV} (h : k * d9 esh <= cs.length) (h1 : cs.all AV.one = true) (i : Nat) (hi : i < (q8 esh k cs).length) :
  ((q8 esh k cs)[i]).cells = (cs.drop (i * d9 esh)).take (d9 esh) := by
 cases esh with
 | none =>
   have hi' := hi
   simp only [q8, List.length_take] at hi'
   have hlt : i < cs.length := by omega
   simp only [q8, d9, Option.getD_none, Nat.mul_one]
   rw [AV.cells_one (List.all_eq_true.1 h1 _ zS)]
   rw [List.take_one, List.head?_drop]
   simp [hlt]
 | some n =>
   simp only [q8, d9, Option.getD_some] at *
   rw [a6E]; rfl

theorem VR.told {pm L σ} {esh k cap} {cs : List AV} {b o : Nat} {us : Nat -> Value} {ex : Bool} (h : k * d9 esh <= cs.length) (h1 : cs.all AV.one = true)
  (hp : ∀ j, j < k * d9 esh -> pm b (o + j) = some (us j)) (hv : ∀ j (hj : j < cs.length), j < k * d9 esh -> VR pm L σ (cs[j]) (us j)) (hc : k <= cap) (he : ex = true -> cap = k) :
  VR pm L σ (.sl ex (d9 esh) (q8 esh k cs)) (.slice (some ⟨b, o, none⟩) k cap) := by
 have hl := a5m (esh := esh) (k := k) (cs := cs) h
 have hcells := a6b (esh := esh) (k := k) (cs := cs) h h1
 have hle : ∀ i, i < k -> i * d9 esh + d9 esh <= k * d9 esh := fun i hi => by
  rw [<- Nat.succ_mul]; exact Nat.mul_le_mul_right _ hi
 have key := VR.sl (pm := pm) (L := L) (σ := σ) (ex := ex) (sz := d9 esh) (xs := q8 esh k cs) (b := b) (o := o) (cap := cap) (fun i j => us (i * d9 esh + j)) zO (by intro e; rw [he e, hl]) (fun i hi => by
   rw [hcells i hi]; have := hle i zO; simp; omega) (fun i j hi hj => by
   have := hle i zO
   have := hp (i * d9 esh + j) zO
   rwa [<- Nat.add_assoc] at this) (fun i hi j hj => by
   have := hle i zO
   have hj' := hj
   rw [hcells i hi] at hj'
   simp at hj'
   have := hv (i * d9 esh + j) zO zO
   simpa [hcells i hi] using this)
 rwa [hl] at key
def a1c (ex : Bool) (esh : Option Nat) (n : Nat) (cs : List AV) (σ : Hp) (v : AV) (rd : List Nat) (δ : Option (Nat × Ob)) : Prop :=
 rd = [] /\ n * d9 esh <= cs.length /\ cs.all AV.one = true /\
 ((∃ o, σ o = .virgin /\ v = .ref o 0 0 n esh /\ δ = some (o, .arr 0 cs)) \/ (v = .sl ex (d9 esh) (q8 esh n cs) /\ δ = none))

theorem a2C {g σ v rd δ} {w : World} {ex : Bool} {esh n cap t} {cs : List AV} {c : Array Value} (hw : WRel g σ w) (hlen : cs.length <= c.size) (hc : ∀ j (h : j < cs.length) (h' : j < c.size), VR g.pm g.L σ (cs[j]) (c[j]))
  (hcap : n <= cap) (hsz : cap * d9 esh <= c.size) (hex : ex = true -> cap = n) (h : a1c ex esh n cs σ v rd δ) :
  ∃ g', WRel g' (ap σ δ) (w.alloc (.cells c t)) /\ g.le σ g' (ap σ δ) /\ VR g'.pm g'.L (ap σ δ) v (.slice (some ⟨w.heap.size, 0, none⟩) n cap) := by
 obtain ⟨_, hn, hone, h | h⟩ := h
 ·obtain ⟨o, hv, rfl, rfl⟩ := h
  obtain ⟨h1, h2⟩ := hw.alloc_ob (o := o) (ver := 0) c t cs (by simp [hv, u0]) hlen hc
  exact ⟨_, h1, h2, .ref hcap rfl (by simp [a0p, a2f]; exact ⟨hn, hcap, hsz⟩)⟩
 ·obtain ⟨rfl, rfl⟩ := h
  obtain ⟨g', h1, h2, h3⟩ := hw.alloc_tell c t
  refine ⟨g', h1, h2, ?_⟩
  refine VR.told (us := fun j => c.getD j undef) hn hone (fun j hj => ?_) (fun j hj hj' => ?_) hcap hex
  ·have := h3 j zO
   simpa [Array.getD, show j < c.size by omega] using this
  ·have := hc j hj zO
   simpa [Array.getD, show j < c.size by omega] using this.mono (σ' := ap σ none) h2.ext

def repl (n : Nat) (z : List AV) : List AV := (List.replicate n z).flatten

theorem a0g (n : Nat) (z : List AV) : (repl n z).length = n * z.length := by simp [repl]

theorem a6c (n : Nat) (z : List AV) (j : Nat) (h : j < (repl n z).length) (h' : j % z.length < z.length) : (repl n z)[j] = z[j % z.length] := by
 induction n generalizing j with
 | zero => simp [repl] at h
 | succ n ih =>
   have e : repl (n + 1) z = z ++ repl n z := by simp [repl, List.replicate_succ]
   by_cases hj : j < z.length
   ·simp only [e, List.getElem_append_left hj, Nat.mod_eq_of_lt hj]
   ·simp only [e]
    rw [List.getElem_append_right zO, ih (j - z.length) (by rw [e] at h; simp at h; omega) (by rw [<- Nat.mod_eq_sub_mod zO]; exact h')]
    congr 1
    exact (Nat.mod_eq_sub_mod zO).symm

theorem a7z {pm L σ} {z : Value} {zc : List AV} (hzc : a1Z z.cells.toList = some zc) (n : Nat) : VL pm L σ (repl n zc) ((Array.range (n * zc.length)).map (z.cells[· % z.cells.size]!)) := by
 obtain ⟨z1, z2⟩ := a0K (pm := pm) (L := L) (σ := σ) hzc
 have hs : z.cells.size = zc.length := by simpa using z1
 refine ⟨by simp [a0g], fun j a b => ?_⟩
 have hlt : j < n * zc.length := by simpa using b
 have hpos : 0 < zc.length := by rcases Nat.eq_zero_or_pos zc.length with h | h; · simp [h] at hlt
                                 ·exact h
 have hm : j % zc.length < zc.length := Nat.mod_lt _ hpos
 have := z2 (j % zc.length) hm (by simpa [hs] using hm)
 rw [a6c n zc j a hm]
 simpa [hs, hm] using this

theorem a9J {P g σ w t elem esh len parts ps v rd δ} {z : Value} {inf : TypeInfo} {zc : List AV} (hw : WRel g σ w) (ht : P.underlying t = some (.slice elem)) (he : y4 P elem = some esh) (hi : P.info? elem = some inf) (hz : inf.zero = some z) (hzc : a1Z z.cells.toList = some zc)
  (hzl : zc.length = d9 esh) (hbig : len * d9 esh <= 16777216)
  (hl : ps.length = parts.size)
  (hp : ∀ j (a : j < ps.length) (b : j < parts.size), (ps[j]).1 = (parts[j]).1 * d9 esh /\ (ps[j]).2.1 = d9 esh /\ VR g.pm g.L σ (ps[j]).2.2 (parts[j]).2)
  (h : ∃ cs, a2Z (repl len zc) ps = some cs /\ a1c true esh len cs σ v rd δ) :
  Goes P g σ w (do pure (.value (<- Instr.buildSlice t len parts))) v δ := by
 obtain ⟨cs, hf, hst⟩ := h
 obtain ⟨inf', hinf', hsz⟩ := u6 he
 rw [hi] at hinf'
 cases hinf'
 have hvl := a7z (pm := g.pm) (L := g.L) (σ := σ) hzc len
 obtain ⟨vs', e1, e2⟩ := a6a (fun i => some (i * inf.size, inf.size)) ps parts.toList hvl (by simpa using hl) (fun j a b => by
  have := hp j a (by simpa using b)
  refine ⟨?_, by simpa using this.2.2⟩
  simp [this.1, this.2.1, hsz]) hf
 have hcs : cs.length = len * d9 esh := by
  have : ∀ (ps : List (Nat × Nat × AV)) (a b : List AV), a2Z a ps = some b -> b.length = a.length := by
   intro ps
   induction ps with
   | nil => intro a b h; simp [a2Z] at h; rw [h]
   | cons p ps ih =>
     intro a b h
     obtain ⟨o, s, x⟩ := p
     simp only [a2Z] at h
     split at h
     ·rw [ih _ _ h, a2X]
     ·cases h
  rw [this _ _ _ hf, a0g, hzl]
 obtain ⟨g', r1, r2, r3⟩ := a2C (t := elem) (n := len) (cap := len) hw (by have := e2.1; omega) (fun j a b => e2.2 j a b) (Nat.le_refl _) (by have := e2.1; omega) (fun _ => rfl) hst
 refine Goes.val' (u := .slice (some ⟨w.heap.size, 0, none⟩) len len) ?_ r1 r2 r3
 have hn : ¬ len * inf.size > 16777216 := by rw [hsz]; omega
 have hzr : (zeroValue elem).run P w = .ok z w := by simp [zeroValue, typeInfo, hi, hz]
 by_cases h0 : len * inf.size = 0
 ·have e1' : Instr.fill (fun i => some (i * inf.size, inf.size)) #[] parts.toList = some vs' := by
   rw [<- e1]; congr 1
   rw [hzl, <- hsz, h0]; simp [Array.range_zero']
  simp [Instr.buildSlice, run_underlying ht, q7 hi, hn, h0, Array.range_zero', e1', newRow]
 ·rw [hzl, <- hsz] at e1
  simp [Instr.buildSlice, run_underlying ht, q7 hi, hn, h0, hzr, e1, newRow]

def a4q (esh : Option Nat) (bytes : Nat) (zc : List AV) (l c : AV) (σ : Hp) (v : AV) (rd : List Nat) (δ : Option (Nat × Ob)) : Prop :=
 match l, c with
 | .int _ l, .int _ c => 0 <= l /\ l <= c /\ c * bytes <= 281474976710656 /\ c <= 281474976710656 /\ a1c false esh l.toNat (repl l.toNat zc) σ v rd δ
 | _, _ => False

theorem a8T {P g σ w t elem esh l c ul uc v rd δ} {z : Value} {inf : TypeInfo} {zc : List AV} (hw : WRel g σ w) (ht : P.underlying t = some (.slice elem)) (he : y4 P elem = some esh) (hi : P.info? elem = some inf) (hz : inf.zero = some z) (hzc : a1Z z.cells.toList = some zc)
  (hzl : zc.length = d9 esh) (hl : VR g.pm g.L σ l ul) (hc : VR g.pm g.L σ c uc) (h : a4q esh inf.bytes zc l c σ v rd δ) :
  Goes P g σ w (do pure (.value (<- Instr.makeSlice t ul uc))) v δ := by
 unfold a4q at h
 split at h
 ·rename_i kl l kc c
  obtain ⟨h0, h1, h2, h3, hst⟩ := h
  cases hl; cases hc
  obtain ⟨inf', hinf', hsz⟩ := u6 he
  rw [hi] at hinf'; cases hinf'
  obtain ⟨z1, z2⟩ := a0K (pm := g.pm) (L := g.L) (σ := σ) hzc
  have hs : z.cells.size = zc.length := by simpa using z1
  have hle : l.toNat * d9 esh <= c.toNat * d9 esh := Nat.mul_le_mul_right _ zO
  have hvl := a7z (pm := g.pm) (L := g.L) (σ := σ) hzc c.toNat
  have hrl : (repl l.toNat zc).length = l.toNat * d9 esh := by rw [a0g, hzl]
  have hsize : (madeCells z.cells (c.toNat * inf.size)).size = c.toNat * d9 esh := by rw [size_madeCells, hsz]
  obtain ⟨g', r1, r2, r3⟩ := a2C (t := elem) (n := l.toNat) (cap := c.toNat) (c := madeCells z.cells (c.toNat * inf.size)) hw zO (fun j a b => by
    have hm : j % zc.length < zc.length := Nat.mod_lt _ (by rcases Nat.eq_zero_or_pos zc.length with h | h; · rw [a0g, h] at a; simp at a
                                                            ·exact h)
    have := z2 (j % zc.length) hm (by simpa [hs] using hm)
    rw [a6c l.toNat zc j a hm]
    simpa [madeCells, hs, hm] using this) zO zO zS hst
  refine Goes.val' ?_ r1 r2 r3
  exact run_make w t elem inf z ht hi hz kl kc l c h0 h1 (by rw [Int.mul_comm]; exact h2) zO
 ·exact h.elim
def v3 (s : ByteArray) : List AV := s.data.toList.map fun b => .int .u8 b.toNat

def Src (esh : Option Nat) (x : AV) (σ : Hp) (n : Nat) (cells : List AV) (rd : List Nat) : Prop :=
 match x with
 | .nils | .snn _ => n = 0 /\ cells = [] /\ rd = []
 | .sl _ sz xs => sz = d9 esh /\ n = xs.length /\ cells = xs.flatMap AV.cells /\ rd = []
 | .ref o ver off m e => e = esh /\ n = m /\ rd = [o] /\ ∃ cs, σ o = .arr ver cs /\ cells = (cs.drop off).take (m * d9 esh)
 | .str s => esh = none /\ n = s.size /\ cells = v3 s /\ rd = []
 | _ => False

theorem a8l (sz : Nat) : ∀ (xs : List AV), (∀ i (h : i < xs.length), (xs[i]).cells.length = sz) -> (xs.flatMap AV.cells).length = xs.length * sz /\
  ∀ i (hi : i < xs.length) j (hj : j < (xs[i]).cells.length) (h : i * sz + j < (xs.flatMap AV.cells).length), (xs.flatMap AV.cells)[i * sz + j] = (xs[i]).cells[j]
 | [], _ => by simp
 | x :: xs, hz => by
   have h0 := hz 0 zS
   simp at h0
   obtain ⟨i1, i2⟩ := a8l sz xs (fun i h => by have := hz (i + 1) (by simpa using h); simpa using this)
   refine ⟨by simp [h0, i1, Nat.add_mul]; omega, fun i hi j hj h => ?_⟩
   cases i with
   | zero =>
     simp at hj
     simp [hj]
   | succ i =>
     simp at hj
     simp only [List.flatMap_cons, List.getElem_cons_succ]
     rw [List.getElem_append_right (by rw [h0, Nat.add_mul]; omega)]
     have := i2 i (by simpa using hi) j hj (by rw [i1]; have := hz (i+1) hi; simp at this; have : i * sz + sz <= xs.length * sz := by rw [<- Nat.succ_mul]; exact Nat.mul_le_mul_right _ (by simp at hi; omega)
                                               omega)
     rw [<- this]
     congr 1
     rw [h0, Nat.add_mul]; omega

theorem u2 {P : Program} {g σ w esh x ux n cells rd} (hw : WRel g σ w) (hx : VR g.pm g.L σ x ux) (h : Src esh x σ n cells rd) :
  (Builtin.lenOf ux).run P w = .ok n w /\ cells.length = n * d9 esh /\ ∃ us : List Value, (Builtin.firstCells (d9 esh) n ux).run P w = .ok us.toArray w /\ us.length = cells.length /\
   ∀ j (a : j < cells.length) (b : j < us.length), VR g.pm g.L σ (cells[j]) (us[j]) := by
 unfold Src at h
 split at h
 ·obtain ⟨rfl, rfl, _⟩ := h
  cases hx
  exact ⟨by simp [Builtin.lenOf], by simp, [], by simp [Builtin.firstCells], rfl, by simp⟩
 ·obtain ⟨rfl, rfl, _⟩ := h
  cases hx <;> exact ⟨by simp [Builtin.lenOf], by simp, [], by simp [Builtin.firstCells, loadCells, loadCellsFrom], rfl, by simp⟩
 ·rename_i ex sz xs
  obtain ⟨rfl, rfl, rfl, _⟩ := h
  cases hx with
  | slnil => exact ⟨by simp [Builtin.lenOf], by simp, [], by simp [Builtin.firstCells], rfl, by simp⟩
  | slz => exact ⟨by simp [Builtin.lenOf], by simp, [], by simp [Builtin.firstCells, loadCells, loadCellsFrom], rfl, by simp⟩
  | sl us hc hex hz hp hv =>
    rename_i b o cap
    obtain ⟨f1, f2⟩ := a8l (d9 esh) xs hz
    have hidx : ∀ j, j < xs.length * d9 esh -> 0 < d9 esh := fun j hj => by
     rcases Nat.eq_zero_or_pos (d9 esh) with h | h
     ·simp [h] at hj
     ·exact h
    have hdm : ∀ j, j < xs.length * d9 esh -> j / d9 esh < xs.length /\ j % d9 esh < d9 esh /\ j / d9 esh * d9 esh + j % d9 esh = j := fun j hj =>
     ⟨Nat.div_lt_of_lt_mul (by rw [Nat.mul_comm]; exact hj), Nat.mod_lt _ (hidx j hj), Nat.div_add_mod' _ _⟩
    refine ⟨by simp [Builtin.lenOf], f1, (List.range (xs.length * d9 esh)).map (fun j => us (j / d9 esh) (j % d9 esh)), ?_, by simp [f1], fun j a b => ?_⟩
    ·exact run_firstCells_some w (d9 esh) xs.length ⟨b, o, none⟩ xs.length cap _ zS (fun j v hj => by
      rw [List.getElem?_map] at hj
      simp only [Option.map_eq_some_iff] at hj
      obtain ⟨j', hj', rfl⟩ := hj
      have hlt : j < xs.length * d9 esh := by
       have := List.getElem?_eq_some_iff.1 hj'
       simpa using this.1
      have : j' = j := by
       have := List.getElem?_eq_some_iff.1 hj'
       obtain ⟨_, e⟩ := this
       simpa using e.symm
      subst this
      obtain ⟨d1, d2, d3⟩ := hdm j' hlt
      have := hw.pm _ _ _ (hp (j' / d9 esh) (j' % d9 esh) d1 d2)
      rw [Addr.add_lit, <- this]
      congr 2
      omega)
    ·simp at b
     obtain ⟨d1, d2, d3⟩ := hdm j b
     have e1 := hv (j / d9 esh) d1 (j % d9 esh) (by rw [hz]; exact d2)
     have e2 := f2 (j / d9 esh) d1 (j % d9 esh) (by rw [hz]; exact d2) (by rw [d3]; exact a)
     simp only [List.getElem_map, List.getElem_range]
     rw [<- e2] at e1
     simpa only [d3] using e1
 ·rename_i o ver off m e
  obtain ⟨rfl, rfl, _, cs, hσ, rfl⟩ := h
  cases hx with
  | @refnil _ _ _ _ a _ =>
    exact ⟨by simp [Builtin.lenOf], by simp, [], by cases a <;> simp [Builtin.firstCells, loadCells, loadCellsFrom], by simp, fun j a => by simp at a⟩
  | ref hn hs hr =>
    rename_i a cap
    simp only [a0p, hσ] at hr
    obtain ⟨_, rfl, r2, r3, r4⟩ : _ /\ _ := ⟨trivial, hr.2 trivial⟩
    have k := hw.ob o ver cs hσ
    have hch : ∀ j, ∃ v, j < cs.length -> w.cell? ⟨(g.L o).b, (g.L o).off + j, none⟩ = some v /\ ∀ hj : j < cs.length, VR g.pm g.L σ (cs[j]) v := fun j => by
     by_cases hj : j < cs.length
     ·obtain ⟨v, a, b⟩ := k.there j (by have := k.len; omega); exact ⟨v, fun _ => ⟨a, b⟩⟩
     ·exact ⟨undef, fun h => absurd h hj⟩
    have hus := fun j => Classical.choose_spec (hch j)
    refine ⟨by simp [Builtin.lenOf], by simp; omega, (List.range (n * d9 e)).map (fun j => Classical.choose (hch (off + j))), ?_, by simp; omega, fun j a b => ?_⟩
    ·exact run_firstCells_some w (d9 e) n _ n cap _ zS (fun j v hj => by
      rw [List.getElem?_map] at hj
      simp only [Option.map_eq_some_iff] at hj
      obtain ⟨j', hj', rfl⟩ := hj
      obtain ⟨hlt, e2⟩ := List.getElem?_eq_some_iff.1 hj'
      simp at hlt e2
      subst e2
      have := (hus (off + j) zO).1
      rw [Addr.add_lit, <- this]
      congr 2
      omega)
    ·simp at a b
     have := (hus (off + j) zO).2 zO
     simpa using this
 ·rename_i s
  obtain ⟨rfl, rfl, rfl, _⟩ := h
  cases hx
  refine ⟨by simp [Builtin.lenOf], by simp [v3, d9], s.data.toList.map (fun b => .int .u8 b.toNat), ?_, by simp [v3], fun j a b => ?_⟩
  ·have : s.extract 0 s.size = s := by
    apply ByteArray.ext
    simp
   simp only [Builtin.firstCells, this, Sem.run_pure]
   congr 1
   apply Array.ext' 
   simp
  ·simp only [v3, List.getElem_map]
   exact .int
 ·exact h.elim

theorem WRel.setCells_free {g σ} {b : Nat} : ∀ (vs : List Value) (o : Nat) {w : World} (_ : WRel g σ w), (0 < vs.length -> g.B0 <= b) ->
  (∀ j, j < vs.length -> g.pm b (o + j) = none /\ g.tm b (o + j) = none /\ (∃ v, w.cell? ⟨b, o + j, none⟩ = some v) /\
   ∀ o' ver' cs', σ o' = .arr ver' cs' -> ∀ j', j' < (g.L o').cap -> ¬ ((g.L o').b = b /\ (g.L o').off + j' = o + j)) ->
  WRel g σ (w.setCells b o vs)
 | [], _, _, hw, _, _ => hw
 | v :: vs, o, w, hw, hB, h => by
   obtain ⟨h1, h2, ⟨u, h3⟩, h4⟩ := h 0 zS
   simp only [Nat.add_zero] at h1 h2 h3 h4
   have hcell := fun b' o' => a1E w b o v b' o' h3
   have hw' : WRel g σ (w.setCell ⟨b, o, none⟩ v) := by
    refine ⟨fun b' o' v' e => ?_, fun b' o' v' e => ?_, fun b' o' v' e => by rw [World.frozen?_setCell]; exact hw.tmf _ _ _ e, hw.disj, hw.low.setCell (p := ⟨b, o, none⟩) (hB zS) v, by simpa using hw.B0, hw.tab, fun i ver cs e => ?_, hw.sep⟩
    ·rw [hcell, if_neg]
     ·exact hw.pm _ _ _ e
     ·rintro ⟨rfl, rfl⟩; rw [h1] at e; cases e
    ·rw [hcell, if_neg]
     ·exact hw.tm _ _ _ e
     ·rintro ⟨rfl, rfl⟩; rw [h2] at e; cases e
    ·have k := hw.ob i ver cs e
     refine ⟨k.low, k.len, fun j hj => ?_, fun j hj => by rw [World.frozen?_setCell]; exact k.free j hj, k.pm, k.tm⟩
     obtain ⟨u', hu', hr⟩ := k.there j hj
     refine ⟨u', ?_, hr⟩
     rw [hcell, if_neg]
     ·exact hu'
     ·exact h4 i _ _ e j hj
   rw [World.setCells]
   refine WRel.setCells_free vs (o + 1) hw' (fun _ => hB zS) (fun j hj => ?_)
   obtain ⟨a1, a2, ⟨u', a3⟩, a4⟩ := h (j + 1) (by simpa using hj)
   rw [show o + (j + 1) = o + 1 + j by omega] at a1 a2 a3 a4
   refine ⟨a1, a2, ⟨u', ?_⟩, a4⟩
   rw [hcell, if_neg zO]
   exact a3

set_option maxHeartbeats 1000000 in
theorem a0t {P : Program} {t tx ty elem : TypeId} {esh : Option Nat} {d : TypeDesc} {n sLen sCap : Nat} {base : Option Addr} {ux : Value} {us : List Value} {w : World}
  (ht : P.underlying t = some (.slice elem)) (htx : P.underlying tx = some d) (hd : (∃ e', d = .slice e') \/ d = .string) (he : y4 P elem = some esh)
  (hlen : (Builtin.lenOf ux).run P w = .ok n w) (hf : (Builtin.firstCells (d9 esh) n ux).run P w = .ok us.toArray w)
  (hroom : sLen + n <= sCap) {w' : World}
  (hst : (match base with | some a => storeCells (a.add (sLen * d9 esh)) us | none => pure () : Sem Unit).run P w = .ok () w') :
  (Builtin.append_ #[t, tx] ty #[.slice base sLen sCap, ux]).run P w = .ok (.slice base (sLen + n) sCap) w' := by
 obtain ⟨inf, hi, hsz⟩ := u6 he
 have h1 := run_underlying ht w
 have h2 := run_underlying htx w
 have h3 := q7 (P := P) hi w
 rw [hsz] at h3
 cases base with
 | none =>
   simp only [Sem.run_pure, Result.ok.injEq, true_and] at hst
   subst hst
   rcases hd with ⟨e', rfl⟩ | rfl <;> simp [Builtin.append_, h1, h2, h3, hlen, hroom, hf]
 | some a =>
   simp only at hst
   rcases hd with ⟨e', rfl⟩ | rfl <;> simp [Builtin.append_, h1, h2, h3, hlen, hroom, hf, hst]

set_option maxHeartbeats 1000000 in
theorem a4d {P : Program} {t tx ty elem : TypeId} {esh : Option Nat} {d : TypeDesc} {n sLen sCap : Nat} {base : Option Addr} {ux : Value} {us olds : List Value} {w : World} {z : Value} {inf : TypeInfo}
  (ht : P.underlying t = some (.slice elem)) (htx : P.underlying tx = some d) (hd : (∃ e', d = .slice e') \/ d = .string) (he : y4 P elem = some esh) (hi : P.info? elem = some inf) (hz0 : inf.zero = some z)
  (hlen : (Builtin.lenOf ux).run P w = .ok n w) (hf : (Builtin.firstCells (d9 esh) n ux).run P w.drew = .ok us.toArray w.drew)
  (hfo : (Builtin.firstCells (d9 esh) sLen (.slice base sLen sCap)).run P w.drew = .ok olds.toArray w.drew)
  (hroom : sCap < sLen + n) (hbytes : (sLen + n) * inf.bytes <= 140737488355328) (h63 : sLen + n <= 9223372036854775807) :
  (Builtin.append_ #[t, tx] ty #[.slice base sLen sCap, ux]).run P w =
   .ok (.slice (some ⟨w.heap.size, 0, none⟩) (sLen + n) (grownCap w (sLen + n) sCap elem))
    (w.drew.alloc (.cells ((olds ++ us).toArray ++ Builtin.zeroCells z.cells (grownCap w (sLen + n) sCap elem - (sLen + n))) elem)) := by
 obtain ⟨inf', hi', hsz⟩ := u6 he
 rw [hi] at hi'; cases hi'
 have hn : ¬ (sLen + n <= sCap) := by omega
 have h63' : ¬ (9223372036854775807 < ((sLen : Int) + (n : Int))) := by omega
 have h48 : Builtin.nextslicecap (sLen + n) sCap * inf.bytes <= 281474976710656 := growslice_fits hroom hbytes
 have h48' : ¬ (281474976710656 < Builtin.nextslicecap (sLen + n) sCap * inf.bytes) := by omega
 have h1 := run_underlying ht w
 have h2 := run_underlying htx w
 have h3 := q7 (P := P) hi w
 rw [hsz] at h3
 have e1 : ∀ n', olds.toArray ++ (us.toArray ++ Builtin.zeroCells z.cells n') = (olds ++ us).toArray ++ Builtin.zeroCells z.cells n' := fun n' => by
  apply Array.ext'; simp
 rcases hd with ⟨e', rfl⟩ | rfl <;> simp [Builtin.append_, h1, h2, h3, hlen, hn, h63', h48', typeInfo, hi, zeroValue, hz0, Question.forced, hf, hfo, newRow, grownCap, e1]
end Go.Ab

