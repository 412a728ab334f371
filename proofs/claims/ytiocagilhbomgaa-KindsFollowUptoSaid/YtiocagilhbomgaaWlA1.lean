/- The layer of abstract values: values as trees, a heap of numbered objects, and how they stand to the model's values and world. Over any program. -/
import Derived.WalkKit
namespace Go.Ab
open Go.RowKit
set_option linter.unusedVariables false
set_option linter.unusedSimpArgs false

inductive AV where
  | int (k : IntKind) (n : Int)
  | bool (b : Bool)
  | str (s : ByteArray)
  | nilp
  | ptr (o ver off : Nat)
  | cptr (cs : List AV) (off : Nat)
  | nils
  | snn (sz : Nat)
  | sl (ex : Bool) (sz : Nat) (xs : List AV)
  | ref (o ver off n : Nat) (esh : Option Nat)
  | agg (cs : List AV)
  | tup (vs : List AV)
  | nilf
  | fn (f : Fn) (first caps : List AV)
  | nili
  | iface (t : TypeId) (v : AV)
  | nilm
  | mp (o ver : Nat)
  | junk
  deriving Inhabited

def AV.cells : AV → List AV
  | .agg cs => cs
  | v => [v]

/-- Of how many cells an element is. -/
def szOf (esh : Option Nat) : Nat := esh.getD 1

structure Loc where
  b : Nat
  off : Nat
  cap : Nat

inductive Ob where
  | virgin
  | dead (ver : Nat)
  | arr (ver : Nat) (cs : List AV)
  deriving Inhabited

abbrev Hp := Nat → Ob

def PtrOK (L : Nat → Loc) (σ : Hp) (o ver off : Nat) (a : Addr) : Prop :=
  match σ o with
  | .virgin => False
  | .dead v => ver ≤ v
  | .arr v _ => ver ≤ v ∧ (ver = v → a = ⟨(L o).b, (L o).off + off, none⟩)

def RefOK (L : Nat → Loc) (σ : Hp) (o ver off n sz : Nat) (a : Addr) (cap : Nat) : Prop :=
  match σ o with
  | .virgin => False
  | .dead v => ver ≤ v
  | .arr v cs => ver ≤ v ∧ (ver = v → a = ⟨(L o).b, (L o).off + off, none⟩ ∧ off + n * sz ≤ cs.length ∧ n ≤ cap ∧ off + cap * sz ≤ (L o).cap)

/-- The object is there, and the version is no later than its own. -/
def VerOK (σ : Hp) (o ver : Nat) : Prop :=
  match σ o with
  | .virgin => False
  | .dead v => ver ≤ v
  | .arr v _ => ver ≤ v

abbrev Pm := Nat → Nat → Option Value

inductive VR (pm : Pm) (L : Nat → Loc) (σ : Hp) : AV → Value → Prop where
  | int {k n} : VR pm L σ (.int k n) (.int k n)
  | bool {b} : VR pm L σ (.bool b) (.bool b)
  | str {s} : VR pm L σ (.str s) (.string s)
  | nilp : VR pm L σ .nilp (.pointer none)
  | ptr {o ver off a} (h : PtrOK L σ o ver off a) : VR pm L σ (.ptr o ver off) (.pointer (some a))
  | cptr {cs : List AV} {off b o} (us : Nat → Value) (hp : ∀ j, j < cs.length → pm b (o + j) = some (us j))
      (hv : ∀ j (h : j < cs.length), VR pm L σ (cs[j]) (us j)) : VR pm L σ (.cptr cs off) (.pointer (some ⟨b, o + off, none⟩))
  | nils : VR pm L σ .nils (.slice none 0 0)
  | snn {sz b o cap} : VR pm L σ (.snn sz) (.slice (some ⟨b, o, none⟩) 0 cap)
  | snnz {sz a} : VR pm L σ (.snn sz) (.slice (some a) 0 0)
  | slnil {ex sz} : VR pm L σ (.sl ex sz []) (.slice none 0 0)
  | slz {ex sz a} : VR pm L σ (.sl ex sz []) (.slice (some a) 0 0)
  | sl {ex} {sz : Nat} {xs : List AV} {b o cap : Nat} (us : Nat → Nat → Value) (hc : xs.length ≤ cap) (he : ex = true → cap = xs.length)
      (hz : ∀ i (h : i < xs.length), (xs[i]).cells.length = sz)
      (hp : ∀ i j, i < xs.length → j < sz → pm b (o + i * sz + j) = some (us i j))
      (hv : ∀ i (h : i < xs.length) j (hj : j < (xs[i]).cells.length), VR pm L σ ((xs[i]).cells[j]) (us i j)) :
      VR pm L σ (.sl ex sz xs) (.slice (some ⟨b, o, none⟩) xs.length cap)
  | ref {o ver off n esh a cap} (hn : n ≤ cap) (hs : a.spot = none) (h : RefOK L σ o ver off n (szOf esh) a cap) : VR pm L σ (.ref o ver off n esh) (.slice (some a) n cap)
  | refnil {o ver off esh} {a : Option Addr} (h : VerOK σ o ver) : VR pm L σ (.ref o ver off 0 esh) (.slice a 0 0)
  | agg {cs : List AV} {vs : Array Value} (hl : vs.size = cs.length) (hv : ∀ j (h : j < cs.length) (h' : j < vs.size), VR pm L σ (cs[j]) (vs[j])) : VR pm L σ (.agg cs) (.agg vs)
  | tup {cs : List AV} {vs : Array Value} (hl : vs.size = cs.length) (hv : ∀ j (h : j < cs.length) (h' : j < vs.size), VR pm L σ (cs[j]) (vs[j])) : VR pm L σ (.tup cs) (.tuple vs)
  | nilf : VR pm L σ .nilf .nilFunc
  | fn {f : Fn} {first caps : List AV} {fs cs : Array Value} (hlf : fs.size = first.length) (hlc : cs.size = caps.length)
      (hvf : ∀ j (h : j < first.length) (h' : j < fs.size), VR pm L σ (first[j]) (fs[j]))
      (hvc : ∀ j (h : j < caps.length) (h' : j < cs.size), VR pm L σ (caps[j]) (cs[j])) : VR pm L σ (.fn f first caps) (.func f fs cs)
  | nili : VR pm L σ .nili .nilIface
  | iface {t v u} (h : VR pm L σ v u) : VR pm L σ (.iface t v) (.iface t u)
  | nilm : VR pm L σ .nilm (.map none)
  | junk {v} : VR pm L σ .junk v

def ObExt (a : Ob) (la : Loc) (b : Ob) (lb : Loc) : Prop :=
  match a, b with
  | .virgin, _ => True
  | .dead v, .dead v' => v ≤ v'
  | .dead v, .arr v' _ => v < v'
  | .arr v _, .dead v' => v ≤ v'
  | .arr v cs, .arr v' cs' => v < v' ∨ (v = v' ∧ lb = la ∧ cs'.length = cs.length)
  | _, .virgin => False

theorem ObExt.refl (a : Ob) (l : Loc) : ObExt a l a l := by cases a <;> simp [ObExt]

theorem ObExt.trans {a b c : Ob} {la lb lc : Loc} (h : ObExt a la b lb) (k : ObExt b lb c lc) : ObExt a la c lc := by
  cases a <;> cases b <;> cases c <;> simp_all [ObExt] <;> (first | omega | (rcases h with h | ⟨h1, h2, h3⟩ <;> rcases k with k | ⟨k1, k2, k3⟩ <;> first | (left; omega) | (right; refine ⟨by omega, by simp_all, by omega⟩)) | (rcases h with h | ⟨h1, h2, h3⟩ <;> omega) | (rcases k with k | ⟨k1, k2, k3⟩ <;> omega) | skip)

structure Ext (pm : Pm) (L : Nat → Loc) (σ : Hp) (pm' : Pm) (L' : Nat → Loc) (σ' : Hp) : Prop where
  pm : ∀ b o v, pm b o = some v → pm' b o = some v
  ob : ∀ o, ObExt (σ o) (L o) (σ' o) (L' o)

theorem Ext.refl (pm : Pm) (L : Nat → Loc) (σ : Hp) : Ext pm L σ pm L σ := ⟨fun _ _ _ h => h, fun _ => ObExt.refl _ _⟩
theorem Ext.trans {pm pm' pm'' : Pm} {L L' L''} {σ σ' σ'' : Hp} (h : Ext pm L σ pm' L' σ') (k : Ext pm' L' σ' pm'' L'' σ'') : Ext pm L σ pm'' L'' σ'' :=
  ⟨fun b o v e => k.pm _ _ _ (h.pm _ _ _ e), fun o => (h.ob o).trans (k.ob o)⟩

theorem PtrOK.mono {L L'} {σ σ' : Hp} {o ver off a} (h : ObExt (σ o) (L o) (σ' o) (L' o)) (k : PtrOK L σ o ver off a) : PtrOK L' σ' o ver off a := by
  unfold PtrOK at *
  cases h1 : σ o <;> cases h2 : σ' o <;> simp only [h1, h2, ObExt] at h k ⊢
  · omega
  · exact ⟨by omega, fun e => by omega⟩
  · omega
  · rcases h with h | ⟨h, h', _⟩
    · exact ⟨by omega, fun e => by omega⟩
    · subst h; rw [h']; exact k

theorem RefOK.mono {L L'} {σ σ' : Hp} {o ver off n sz a cap} (h : ObExt (σ o) (L o) (σ' o) (L' o)) (k : RefOK L σ o ver off n sz a cap) : RefOK L' σ' o ver off n sz a cap := by
  unfold RefOK at *
  cases h1 : σ o <;> cases h2 : σ' o <;> simp only [h1, h2, ObExt] at h k ⊢
  · omega
  · exact ⟨by omega, fun e => by omega⟩
  · omega
  · rcases h with h | ⟨h, h', h3⟩
    · exact ⟨by omega, fun e => by omega⟩
    · subst h; rw [h', h3]; exact k

theorem VR.slz' {pm L σ ex sz} {a : Option Addr} : VR pm L σ (.sl ex sz []) (.slice a 0 0) := by
  cases a with
  | none => exact .slnil
  | some a => exact .slz

theorem VerOK.mono {L L' : Nat → Loc} {σ σ' : Hp} {o ver} (h : ObExt (σ o) (L o) (σ' o) (L' o)) (k : VerOK σ o ver) : VerOK σ' o ver := by
  unfold VerOK at *
  cases h1 : σ o <;> cases h2 : σ' o <;> simp only [h1, h2, ObExt] at h k ⊢ <;> omega

theorem VR.mono {pm pm' : Pm} {L L'} {σ σ' : Hp} (e : Ext pm L σ pm' L' σ') {x : AV} {v : Value} (h : VR pm L σ x v) : VR pm' L' σ' x v := by
  induction h with
  | int => exact .int
  | bool => exact .bool
  | str => exact .str
  | nilp => exact .nilp
  | ptr h => exact .ptr (h.mono (e.ob _))
  | cptr us hp _ ih => exact .cptr us (fun j hj => e.pm _ _ _ (hp j hj)) ih
  | nils => exact .nils
  | snn => exact .snn
  | snnz => exact .snnz
  | slnil => exact .slnil
  | slz => exact .slz
  | sl us hc he hz hp _ ih => exact .sl us hc he hz (fun i j hi hj => e.pm _ _ _ (hp i j hi hj)) ih
  | ref hn hs h => exact .ref hn hs (h.mono (e.ob _))
  | refnil h => exact .refnil (h.mono (e.ob _))
  | agg hl _ ih => exact .agg hl ih
  | tup hl _ ih => exact .tup hl ih
  | nilf => exact .nilf
  | fn hlf hlc _ _ ihf ihc => exact .fn hlf hlc ihf ihc
  | nili => exact .nili
  | iface _ ih => exact .iface ih
  | nilm => exact .nilm
  | junk => exact .junk

/-- The ghost beside a world: what never changes (pm), what must not change till the call's end (tm), where the objects lie (L), and the world at the outermost call. -/
structure Gh where
  pm : Pm
  tm : Pm
  L : Nat → Loc
  B0 : Nat
  w0 : World

structure ObOK (g : Gh) (σ : Hp) (o : Nat) (cs : List AV) (w : World) : Prop where
  low : g.B0 ≤ (g.L o).b
  len : cs.length ≤ (g.L o).cap
  there : ∀ j, j < (g.L o).cap → ∃ v, w.cell? ⟨(g.L o).b, (g.L o).off + j, none⟩ = some v ∧ ∀ h : j < cs.length, VR g.pm g.L σ (cs[j]) v
  free : ∀ j, j < (g.L o).cap → w.frozen? ⟨(g.L o).b, (g.L o).off + j, none⟩ = false
  pm : ∀ j, j < (g.L o).cap → g.pm (g.L o).b ((g.L o).off + j) = none
  tm : ∀ j, j < (g.L o).cap → g.tm (g.L o).b ((g.L o).off + j) = none

def Apart (l l' : Loc) : Prop := l.b = l'.b → ∀ j j', j < l.cap → j' < l'.cap → l.off + j ≠ l'.off + j'

structure WRel (g : Gh) (σ : Hp) (w : World) : Prop where
  pm : ∀ b o v, g.pm b o = some v → w.cell? ⟨b, o, none⟩ = some v
  tm : ∀ b o v, g.tm b o = some v → w.cell? ⟨b, o, none⟩ = some v
  tmf : ∀ b o v, g.tm b o = some v → w.frozen? ⟨b, o, none⟩ = false
  disj : ∀ b o v, g.pm b o = some v → g.tm b o = none
  low : Below g.B0 g.w0 w
  B0 : g.B0 ≤ w.heap.size
  ob : ∀ o ver cs, σ o = .arr ver cs → ObOK g σ o cs w
  sep : ∀ o o' ver ver' cs cs', σ o = .arr ver cs → σ o' = .arr ver' cs' → o ≠ o' → Apart (g.L o) (g.L o')

/-- One ghost goes on from another. -/
structure Gh.le (g : Gh) (σ : Hp) (g' : Gh) (σ' : Hp) : Prop where
  ext : Ext g.pm g.L σ g'.pm g'.L σ'
  tm : g'.tm = g.tm
  B0 : g'.B0 = g.B0
  w0 : g'.w0 = g.w0

theorem Gh.le.refl (g : Gh) (σ : Hp) : g.le σ g σ := ⟨Ext.refl _ _ _, rfl, rfl, rfl⟩
theorem Gh.le.trans {g g' g'' : Gh} {σ σ' σ''} (h : g.le σ g' σ') (k : g'.le σ' g'' σ'') : g.le σ g'' σ'' :=
  ⟨h.ext.trans k.ext, k.tm.trans h.tm, k.B0.trans h.B0, k.w0.trans h.w0⟩
end Go.Ab

namespace Go.Ab
theorem lt_of_cell {w : World} {a : Addr} {u : Value} (h : w.cell? a = some u) : a.block < w.heap.size := World.block_lt_of_cell? _ _ h
end Go.Ab

namespace Go.Ab
/-- A weaker value. -/
inductive AVw : AV → AV → Prop
  | refl (x) : AVw x x
  | junk (x) : AVw x .junk
  | nil {ex sz} : AVw .nils (.sl ex sz [])
  | snn {sz} : AVw (.snn sz) (.sl false sz [])
  | agg {xs ys : List AV} (hl : xs.length = ys.length) (h : ∀ j (h1 : j < xs.length) (h2 : j < ys.length), AVw xs[j] ys[j]) : AVw (.agg xs) (.agg ys)
  | tup {xs ys : List AV} (hl : xs.length = ys.length) (h : ∀ j (h1 : j < xs.length) (h2 : j < ys.length), AVw xs[j] ys[j]) : AVw (.tup xs) (.tup ys)
  | cptr {xs ys : List AV} {off} (hl : xs.length = ys.length) (h : ∀ j (h1 : j < xs.length) (h2 : j < ys.length), AVw xs[j] ys[j]) : AVw (.cptr xs off) (.cptr ys off)
  | sl {ex ex' sz} {xs ys : List AV} (he : ex' = true → ex = true) (hl : xs.length = ys.length) (hz : ∀ i (h1 : i < xs.length) (h2 : i < ys.length), (xs[i]).cells.length = (ys[i]).cells.length)
      (h : ∀ i (h1 : i < xs.length) (h2 : i < ys.length) j (h3 : j < (xs[i]).cells.length) (h4 : j < (ys[i]).cells.length), AVw ((xs[i]).cells[j]) ((ys[i]).cells[j])) : AVw (.sl ex sz xs) (.sl ex' sz ys)

theorem VR.w {pm L σ} {x y : AV} {u : Value} (h : VR pm L σ x u) (k : AVw x y) : VR pm L σ y u := by
  induction k generalizing u with
  | refl x => exact h
  | junk x => exact .junk
  | nil => cases h; exact .slnil
  | snn =>
    cases h with
    | snn => exact VR.sl (xs := []) (fun _ _ => undef) (Nat.zero_le _) (by intro e; cases e) (fun i h => by simp at h) (fun i j h => by simp at h) (fun i h => by simp at h)
    | snnz => exact .slz
  | agg hl _ ih => cases h with | agg a b => exact .agg (by omega) (fun j h1 h2 => ih j (by omega) h1 (b j (by omega) h2))
  | tup hl _ ih => cases h with | tup a b => exact .tup (by omega) (fun j h1 h2 => ih j (by omega) h1 (b j (by omega) h2))
  | cptr hl _ ih => cases h with | cptr us hp hv => exact .cptr us (fun j hj => hp j (by omega)) (fun j hj => ih j (by omega) hj (hv j (by omega)))
  | sl he hl hz _ ih =>
    rename_i ex ex' sz xs ys _
    cases h with
    | slnil =>
      have : ys = [] := List.eq_nil_of_length_eq_zero (by simpa using hl.symm)
      subst this; exact .slnil
    | slz =>
      have : ys = [] := List.eq_nil_of_length_eq_zero (by simpa using hl.symm)
      subst this; exact .slz
    | sl us hc hex hzz hp hv =>
      rw [hl]
      refine .sl us (by omega) (fun e => by rw [hex (he e), hl]) (fun i hi => by rw [← hz i (by omega) hi]; exact hzz i (by omega)) (fun i j hi hj => hp i j (by omega) hj) (fun i hi j hj => ?_)
      have h3 : j < (xs[i]).cells.length := by rw [hz i (by omega) hi]; exact hj
      exact ih i (by omega) hi j h3 hj (hv i (by omega) j h3)
end Go.Ab
