/- The settings of a claim: what the package's variables hold that the laws may lean on, by block. -/
import Derived.WalkKit
namespace Go.Ab
set_option linter.constructorNameAsVariable false
set_option linter.unusedSimpArgs false
set_option linter.unusedVariables false
open Go.RowKit

/-- The table of math/bits for the trailing zeros. -/
def tzT : List Int := [0, 1, 56, 2, 57, 49, 28, 3, 61, 58, 42, 50, 38, 29, 17, 4, 62, 47, 59, 36, 45, 43, 51, 22, 53, 39, 33, 30, 24, 18, 12, 5,
  63, 55, 48, 27, 60, 41, 37, 16, 46, 35, 44, 21, 52, 32, 23, 11, 54, 26, 40, 15, 34, 20, 31, 10, 25, 14, 19, 9, 13, 8, 7, 6]
/-- The powers of ten. -/
def pow10T : List Int := (List.range 20).map fun i => (10 : Int) ^ i
def tabOf : Nat → Option (Array Value → Prop)
  | 0 => some fun cs => ∃ m, cs[0]? = some (.int .i64 m)
  | 3 => some fun cs => cs = (pow10T.map fun z => Value.int .u64 z).toArray
  | 7 => some fun cs => cs = (tzT.map fun z => Value.int .u8 z).toArray
  | _ => none
end Go.Ab
/- The layer of abstract values: values as trees, a heap of numbered objects, and how they stand to the model's values and world. Over any program. -/
namespace Go.Ab
set_option linter.constructorNameAsVariable false
set_option linter.unusedSimpArgs false
set_option linter.unusedVariables false
open Go.RowKit
set_option linter.unusedVariables false
set_option linter.unusedSimpArgs false

inductive AV where
  | int (k : IntKind) (n : Int)
  | bool (b : Bool)
  | str (s : ByteArray)
  | nilp
  | ptr (o ver off : Nat)
  | cptr (cs : List AV) (off : Nat)
  | nils
  | snn (sz : Nat)
  | sl (ex : Bool) (sz : Nat) (xs : List AV)
  | ref (o ver off n : Nat) (esh : Option Nat)
  | agg (cs : List AV)
  | tup (vs : List AV)
  | nilf
  | fn (f : Fn) (first caps : List AV)
  | nili
  | iface (t : TypeId) (v : AV)
  | nilm
  | mp (o ver : Nat)
  | itr (o : Nat)
  | junk
  deriving Inhabited

def AV.cells : AV → List AV
  | .agg cs => cs
  | v => [v]

/-- Of how many cells an element is. -/
def szOf (esh : Option Nat) : Nat := esh.getD 1

structure Loc where
  b : Nat
  off : Nat
  cap : Nat

inductive Ob where
  | virgin
  | dead (ver : Nat)
  | arr (ver : Nat) (cs : List AV)
  | mpo (es : List ((IntKind × Int) × AV)) (it : Option (List Nat))
  | gone
  deriving Inhabited

abbrev Hp := Nat → Ob

def PtrOK (L : Nat → Loc) (σ : Hp) (o ver off : Nat) (a : Addr) : Prop :=
  match σ o with
  | .virgin => False
  | .dead v => ver ≤ v
  | .arr v _ => ver ≤ v ∧ (ver = v → a = ⟨(L o).b, (L o).off + off, none⟩)
  | .mpo _ _ => False
  | .gone => True
/-- A map lies at its block. -/
def MpOK (L : Nat → Loc) (σ : Hp) (o b : Nat) : Prop :=
  match σ o with
  | .mpo _ _ => b = (L o).b
  | .gone => True
  | _ => False
/-- What goes over a map lies at its own block. -/
def ItOK (L : Nat → Loc) (σ : Hp) (o b : Nat) : Prop :=
  match σ o with
  | .mpo _ (some _) => b = (L o).off
  | .gone => True
  | _ => False

def RefOK (L : Nat → Loc) (σ : Hp) (o ver off n sz : Nat) (a : Addr) (cap : Nat) : Prop :=
  match σ o with
  | .virgin => False
  | .dead v => ver ≤ v
  | .arr v cs => ver ≤ v ∧ (ver = v → a = ⟨(L o).b, (L o).off + off, none⟩ ∧ off + n * sz ≤ cs.length ∧ n ≤ cap ∧ off + cap * sz ≤ (L o).cap)
  | .mpo _ _ => False
  | .gone => True

/-- The object is there, and the version is no later than its own. -/
def VerOK (σ : Hp) (o ver : Nat) : Prop :=
  match σ o with
  | .virgin => False
  | .dead v => ver ≤ v
  | .arr v _ => ver ≤ v
  | .mpo _ _ => False
  | .gone => True

abbrev Pm := Nat → Nat → Option Value

inductive VR (pm : Pm) (L : Nat → Loc) (σ : Hp) : AV → Value → Prop where
  | int {k n} : VR pm L σ (.int k n) (.int k n)
  | bool {b} : VR pm L σ (.bool b) (.bool b)
  | str {s} : VR pm L σ (.str s) (.string s)
  | nilp : VR pm L σ .nilp (.pointer none)
  | ptr {o ver off a} (h : PtrOK L σ o ver off a) : VR pm L σ (.ptr o ver off) (.pointer (some a))
  | cptr {cs : List AV} {off b o} (us : Nat → Value) (hp : ∀ j, j < cs.length → pm b (o + j) = some (us j))
      (hv : ∀ j (h : j < cs.length), VR pm L σ (cs[j]) (us j)) : VR pm L σ (.cptr cs off) (.pointer (some ⟨b, o + off, none⟩))
  | nils : VR pm L σ .nils (.slice none 0 0)
  | snn {sz b o cap} : VR pm L σ (.snn sz) (.slice (some ⟨b, o, none⟩) 0 cap)
  | snnz {sz a} : VR pm L σ (.snn sz) (.slice (some a) 0 0)
  | slnil {ex sz} : VR pm L σ (.sl ex sz []) (.slice none 0 0)
  | slz {ex sz a} : VR pm L σ (.sl ex sz []) (.slice (some a) 0 0)
  | sl {ex} {sz : Nat} {xs : List AV} {b o cap : Nat} (us : Nat → Nat → Value) (hc : xs.length ≤ cap) (he : ex = true → cap = xs.length)
      (hz : ∀ i (h : i < xs.length), (xs[i]).cells.length = sz)
      (hp : ∀ i j, i < xs.length → j < sz → pm b (o + i * sz + j) = some (us i j))
      (hv : ∀ i (h : i < xs.length) j (hj : j < (xs[i]).cells.length), VR pm L σ ((xs[i]).cells[j]) (us i j)) :
      VR pm L σ (.sl ex sz xs) (.slice (some ⟨b, o, none⟩) xs.length cap)
  | ref {o ver off n esh a cap} (hn : n ≤ cap) (hs : a.spot = none) (h : RefOK L σ o ver off n (szOf esh) a cap) : VR pm L σ (.ref o ver off n esh) (.slice (some a) n cap)
  | refz {o ver off esh a} (hs : a.spot = none) (h : VerOK σ o ver) : VR pm L σ (.ref o ver off 0 esh) (.slice (some a) 0 0)
  | agg {cs : List AV} {vs : Array Value} (hl : vs.size = cs.length) (hv : ∀ j (h : j < cs.length) (h' : j < vs.size), VR pm L σ (cs[j]) (vs[j])) : VR pm L σ (.agg cs) (.agg vs)
  | tup {cs : List AV} {vs : Array Value} (hl : vs.size = cs.length) (hv : ∀ j (h : j < cs.length) (h' : j < vs.size), VR pm L σ (cs[j]) (vs[j])) : VR pm L σ (.tup cs) (.tuple vs)
  | nilf : VR pm L σ .nilf .nilFunc
  | fn {f : Fn} {first caps : List AV} {fs cs : Array Value} (hlf : fs.size = first.length) (hlc : cs.size = caps.length)
      (hvf : ∀ j (h : j < first.length) (h' : j < fs.size), VR pm L σ (first[j]) (fs[j]))
      (hvc : ∀ j (h : j < caps.length) (h' : j < cs.size), VR pm L σ (caps[j]) (cs[j])) : VR pm L σ (.fn f first caps) (.func f fs cs)
  | nili : VR pm L σ .nili .nilIface
  | iface {t v u} (h : VR pm L σ v u) : VR pm L σ (.iface t v) (.iface t u)
  | nilm : VR pm L σ .nilm (.map none)
  | mp {o ver b} (h : MpOK L σ o b) : VR pm L σ (.mp o ver) (.map (some b))
  | itr {o b} (h : ItOK L σ o b) : VR pm L σ (.itr o) (.pointer (some ⟨b, 0, none⟩))
  | junk {v} : VR pm L σ .junk v

def ObExt (a : Ob) (la : Loc) (b : Ob) (lb : Loc) : Prop :=
  match a, b with
  | .virgin, _ => True
  | .dead v, .dead v' => v ≤ v'
  | .dead v, .arr v' _ => v < v'
  | .arr v _, .dead v' => v ≤ v'
  | .arr v cs, .arr v' cs' => v < v' ∨ (v = v' ∧ lb = la ∧ cs'.length = cs.length)
  | .mpo _ it, .mpo _ it' => lb.b = la.b ∧ (it.isSome = true → lb.off = la.off ∧ it'.isSome = true)
  | _, .gone => True
  | _, _ => False

theorem ObExt.refl (a : Ob) (l : Loc) : ObExt a l a l := by cases a <;> simp [ObExt]

theorem ObExt.trans {a b c : Ob} {la lb lc : Loc} (h : ObExt a la b lb) (k : ObExt b lb c lc) : ObExt a la c lc := by
  cases a <;> cases b <;> cases c <;> simp_all [ObExt] <;> (first | omega | (rcases h with h | ⟨h1, h2, h3⟩ <;> rcases k with k | ⟨k1, k2, k3⟩ <;> first | (left; omega) | (right; refine ⟨by omega, by simp_all, by omega⟩)) | (rcases h with h | ⟨h1, h2, h3⟩ <;> omega) | (rcases k with k | ⟨k1, k2, k3⟩ <;> omega) | skip)

structure Ext (pm : Pm) (L : Nat → Loc) (σ : Hp) (pm' : Pm) (L' : Nat → Loc) (σ' : Hp) : Prop where
  pm : ∀ b o v, pm b o = some v → pm' b o = some v
  ob : ∀ o, ObExt (σ o) (L o) (σ' o) (L' o)

theorem Ext.refl (pm : Pm) (L : Nat → Loc) (σ : Hp) : Ext pm L σ pm L σ := ⟨fun _ _ _ h => h, fun _ => ObExt.refl _ _⟩
theorem Ext.trans {pm pm' pm'' : Pm} {L L' L''} {σ σ' σ'' : Hp} (h : Ext pm L σ pm' L' σ') (k : Ext pm' L' σ' pm'' L'' σ'') : Ext pm L σ pm'' L'' σ'' :=
  ⟨fun b o v e => k.pm _ _ _ (h.pm _ _ _ e), fun o => (h.ob o).trans (k.ob o)⟩

theorem PtrOK.mono {L L'} {σ σ' : Hp} {o ver off a} (h : ObExt (σ o) (L o) (σ' o) (L' o)) (k : PtrOK L σ o ver off a) : PtrOK L' σ' o ver off a := by
  unfold PtrOK at *
  cases h1 : σ o <;> cases h2 : σ' o <;> simp only [h1, h2, ObExt] at h k ⊢
  · omega
  · exact ⟨by omega, fun e => by omega⟩
  · omega
  · rcases h with h | ⟨h, h', _⟩
    · exact ⟨by omega, fun e => by omega⟩
    · subst h; rw [h']; exact k

theorem MpOK.mono {L L'} {σ σ' : Hp} {o b} (h : ObExt (σ o) (L o) (σ' o) (L' o)) (k : MpOK L σ o b) : MpOK L' σ' o b := by
  unfold MpOK at *
  cases h1 : σ o <;> cases h2 : σ' o <;> simp only [h1, h2, ObExt] at h k ⊢
  rw [h.1]; exact k
theorem ItOK.mono {L L'} {σ σ' : Hp} {o b} (h : ObExt (σ o) (L o) (σ' o) (L' o)) (k : ItOK L σ o b) : ItOK L' σ' o b := by
  unfold ItOK at *
  cases h1 : σ o <;> cases h2 : σ' o <;> simp only [h1, h2, ObExt] at h k ⊢
  rename_i it _ it'
  cases it with
  | none => exact k.elim
  | some s =>
    obtain ⟨_, h3⟩ := h
    obtain ⟨h4, h5⟩ := h3 rfl
    cases it' with
    | none => cases h5
    | some s' => show b = _; rw [h4]; exact k

theorem RefOK.mono {L L'} {σ σ' : Hp} {o ver off n sz a cap} (h : ObExt (σ o) (L o) (σ' o) (L' o)) (k : RefOK L σ o ver off n sz a cap) : RefOK L' σ' o ver off n sz a cap := by
  unfold RefOK at *
  cases h1 : σ o <;> cases h2 : σ' o <;> simp only [h1, h2, ObExt] at h k ⊢
  · omega
  · exact ⟨by omega, fun e => by omega⟩
  · omega
  · rcases h with h | ⟨h, h', h3⟩
    · exact ⟨by omega, fun e => by omega⟩
    · subst h; rw [h', h3]; exact k

theorem VR.slz' {pm L σ ex sz} {a : Option Addr} : VR pm L σ (.sl ex sz []) (.slice a 0 0) := by
  cases a with
  | none => exact .slnil
  | some a => exact .slz

theorem VerOK.mono {L L' : Nat → Loc} {σ σ' : Hp} {o ver} (h : ObExt (σ o) (L o) (σ' o) (L' o)) (k : VerOK σ o ver) : VerOK σ' o ver := by
  unfold VerOK at *
  cases h1 : σ o <;> cases h2 : σ' o <;> simp only [h1, h2, ObExt] at h k ⊢ <;> omega

theorem VR.mono {pm pm' : Pm} {L L'} {σ σ' : Hp} (e : Ext pm L σ pm' L' σ') {x : AV} {v : Value} (h : VR pm L σ x v) : VR pm' L' σ' x v := by
  induction h with
  | int => exact .int
  | bool => exact .bool
  | str => exact .str
  | nilp => exact .nilp
  | ptr h => exact .ptr (h.mono (e.ob _))
  | cptr us hp _ ih => exact .cptr us (fun j hj => e.pm _ _ _ (hp j hj)) ih
  | nils => exact .nils
  | snn => exact .snn
  | snnz => exact .snnz
  | slnil => exact .slnil
  | slz => exact .slz
  | sl us hc he hz hp _ ih => exact .sl us hc he hz (fun i j hi hj => e.pm _ _ _ (hp i j hi hj)) ih
  | ref hn hs h => exact .ref hn hs (h.mono (e.ob _))
  | refz hs h => exact .refz hs (h.mono (e.ob _))
  | agg hl _ ih => exact .agg hl ih
  | tup hl _ ih => exact .tup hl ih
  | nilf => exact .nilf
  | fn hlf hlc _ _ ihf ihc => exact .fn hlf hlc ihf ihc
  | nili => exact .nili
  | iface _ ih => exact .iface ih
  | nilm => exact .nilm
  | mp h => exact .mp (h.mono (e.ob _))
  | itr h => exact .itr (h.mono (e.ob _))
  | junk => exact .junk

/-- The ghost beside a world: what never changes (pm), what must not change till the call's end (tm), where the objects lie (L), and the world at the outermost call. -/
structure Gh where
  pm : Pm
  tm : Pm
  L : Nat → Loc
  B0 : Nat
  w0 : World

/-- The package's tables lie where the settings of this text's claim say (WlA0). -/
def TabOK (B0 : Nat) (w0 : World) : Prop := ∀ b p, tabOf b = some p → b < B0 ∧ ∃ cs t fz, w0.heap[b]? = some (.cells cs t fz) ∧ p cs

structure ObOK (g : Gh) (σ : Hp) (o : Nat) (cs : List AV) (w : World) : Prop where
  low : 0 < (g.L o).cap → g.B0 ≤ (g.L o).b
  len : cs.length ≤ (g.L o).cap
  there : ∀ j, j < (g.L o).cap → ∃ v, w.cell? ⟨(g.L o).b, (g.L o).off + j, none⟩ = some v ∧ ∀ h : j < cs.length, VR g.pm g.L σ (cs[j]) v
  free : ∀ j, j < (g.L o).cap → w.frozen? ⟨(g.L o).b, (g.L o).off + j, none⟩ = false
  pm : ∀ j, j < (g.L o).cap → g.pm (g.L o).b ((g.L o).off + j) = none
  tm : ∀ j, j < (g.L o).cap → g.tm (g.L o).b ((g.L o).off + j) = none

/-- A map as it lies in the world: its keys in the order in which they came. -/
def EnR (pm : Pm) (L : Nat → Loc) (σ : Hp) : Nat → List ((IntKind × Int) × AV) → List MapEntry → Prop
  | _, [], [] => True
  | i, e :: es, m :: ms => m.key = .int e.1.1 e.1.2 ∧ VR pm L σ e.2 m.val ∧ m.born = i ∧ EnR pm L σ (i + 1) es ms
  | _, _, _ => False
theorem EnR.mono {pm pm' : Pm} {L L'} {σ σ' : Hp} (e : Ext pm L σ pm' L' σ') : ∀ {es : List ((IntKind × Int) × AV)} {ms : List MapEntry} {i : Nat}, EnR pm L σ i es ms → EnR pm' L' σ' i es ms
  | [], [], _, h => h
  | x :: es, m :: ms, i, ⟨h1, h2, h3, h4⟩ => ⟨h1, h2.mono e, h3, EnR.mono e h4⟩
  | [], _ :: _, _, h => h
  | _ :: _, [], _, h => h
theorem EnR.len {pm : Pm} {L} {σ : Hp} : ∀ {es : List ((IntKind × Int) × AV)} {ms : List MapEntry} {i : Nat}, EnR pm L σ i es ms → ms.length = es.length
  | [], [], _, _ => rfl
  | x :: es, m :: ms, i, ⟨_, _, _, h4⟩ => by simp [h4.len]
  | [], _ :: _, _, h => h.elim
  | _ :: _, [], _, h => h.elim
def MoOK (g : Gh) (σ : Hp) (o : Nat) (es : List ((IntKind × Int) × AV)) (it : Option (List Nat)) (w : World) : Prop :=
  g.B0 ≤ (g.L o).b ∧ (∃ ms : Array MapEntry, w.heap[(g.L o).b]? = some (.map ms es.length) ∧ EnR g.pm g.L σ 0 es ms.toList) ∧
    ∀ sn, it = some sn → g.B0 ≤ (g.L o).off ∧ ∃ seen : Array Nat, w.heap[(g.L o).off]? = some (.mapIter (some (g.L o).b) es.length seen es.length) ∧ (es.length ∉ sn → seen = sn.toArray)
def BkOb : Go.Obj → Prop
  | .map _ _ | .mapIter _ _ _ _ => True
  | _ => False
theorem MoOK.lt {g σ o es it} {w : World} (k : MoOK g σ o es it w) : (g.L o).b < w.heap.size := by
  obtain ⟨_, ⟨ms, h, _⟩, _⟩ := k
  exact (Array.getElem?_eq_some_iff.1 h).1
theorem MoOK.lt2 {g σ o es sn} {w : World} (k : MoOK g σ o es (some sn) w) : (g.L o).off < w.heap.size := by
  obtain ⟨_, _, h⟩ := k
  obtain ⟨_, seen, h, _⟩ := h sn rfl
  exact (Array.getElem?_eq_some_iff.1 h).1
theorem MoOK.keep2 {g g' : Gh} {σ σ' : Hp} {o es it} {w w' : World} (k : MoOK g σ o es it w) (e : Ext g.pm g.L σ g'.pm g'.L σ') (hB : g'.B0 = g.B0) (hL : g'.L o = g.L o) (h1 : w'.heap[(g.L o).b]? = w.heap[(g.L o).b]?) (h2 : it.isSome = true → w'.heap[(g.L o).off]? = w.heap[(g.L o).off]?) : MoOK g' σ' o es it w' := by
  obtain ⟨a, ⟨ms, b, c⟩, d⟩ := k
  refine ⟨by rw [hB, hL]; exact a, ⟨ms, by rw [hL, h1]; exact b, c.mono e⟩, fun sn hs => ?_⟩
  subst hs
  obtain ⟨d1, seen, d2, d3⟩ := d sn rfl
  exact ⟨by rw [hB, hL]; exact d1, seen, by rw [hL, h2 rfl]; exact d2, d3⟩
theorem MoOK.keep {g g' : Gh} {σ σ' : Hp} {o es it} {w w' : World} (k : MoOK g σ o es it w) (e : Ext g.pm g.L σ g'.pm g'.L σ') (hB : g'.B0 = g.B0) (hL : g'.L o = g.L o) (hh : ∀ (b : Nat) (x : Go.Obj), w.heap[b]? = some x → BkOb x → w'.heap[b]? = some x) : MoOK g' σ' o es it w' := by
  have k0 := k
  obtain ⟨a, ⟨ms, b, c⟩, d⟩ := k
  refine k0.keep2 e hB hL ((hh _ _ b trivial).trans b.symm) (fun hs => ?_)
  cases it with
  | none => cases hs
  | some sn => obtain ⟨_, seen, this, _⟩ := d sn rfl; exact (hh _ _ this trivial).trans this.symm
def Apart (l l' : Loc) : Prop := l.b = l'.b → ∀ j j', j < l.cap → j' < l'.cap → l.off + j ≠ l'.off + j'

/-- Blocks of cells keep their type, their size, and which of their cells are frozen. -/
def BkOK (w0 w : World) : Prop := ∀ (b : Nat) (c : Array Value) (t : TypeId) (fz : Nat × Nat), w0.heap[b]? = some (.cells c t fz) → ∃ c', w.heap[b]? = some (.cells c' t fz) ∧ c'.size = c.size
theorem BkOK.refl (w : World) : BkOK w w := fun b c t fz h => ⟨c, h, rfl⟩
theorem BkOK.trans {w w1 w2 : World} (h : BkOK w w1) (k : BkOK w1 w2) : BkOK w w2 := fun b c t fz e => by
  obtain ⟨c1, e1, s1⟩ := h b c t fz e
  obtain ⟨c2, e2, s2⟩ := k b c1 t fz e1
  exact ⟨c2, e2, s2.trans s1⟩
theorem BkOK.same {w w1 w2 : World} (h : BkOK w w1) (k : ∀ (b : Nat) (x : Go.Obj), w1.heap[b]? = some x → w2.heap[b]? = some x) : BkOK w w2 := h.trans fun b c t fz e => ⟨c, k b _ e, rfl⟩
theorem BkOK.setCell {w w1 : World} (h : BkOK w w1) (p : Addr) (v : Value) : BkOK w (w1.setCell p v) := h.trans fun b c t fz e => by
  have q : (w1.setCell p v).heap[b]? = if p.block = b then some (.cells (if p.spot.isSome then c else c.setIfInBounds p.off v) t fz) else some (.cells c t fz) := by
    show (w1.heap.modify p.block _)[b]? = _
    rw [Array.getElem?_modify, e]
    split <;> rfl
  by_cases hb : p.block = b
  · rw [if_pos hb] at q
    exact ⟨_, q, by split <;> simp⟩
  · rw [if_neg hb] at q
    exact ⟨c, q, rfl⟩
structure WRel (g : Gh) (σ : Hp) (w : World) : Prop where
  pm : ∀ b o v, g.pm b o = some v → w.cell? ⟨b, o, none⟩ = some v
  tm : ∀ b o v, g.tm b o = some v → w.cell? ⟨b, o, none⟩ = some v
  tmf : ∀ b o v, g.tm b o = some v → w.frozen? ⟨b, o, none⟩ = false
  disj : ∀ b o v, g.pm b o = some v → g.tm b o = none
  low : Below g.B0 g.w0 w
  B0 : g.B0 ≤ w.heap.size
  tab : TabOK g.B0 g.w0
  bk : BkOK g.w0 w
  ob : ∀ o ver cs, σ o = .arr ver cs → ObOK g σ o cs w
  sep : ∀ o o' ver ver' cs cs', σ o = .arr ver cs → σ o' = .arr ver' cs' → o ≠ o' → Apart (g.L o) (g.L o')
  mo : ∀ o es it, σ o = .mpo es it → MoOK g σ o es it w
  ms : ∀ o o' es es' it it', σ o = .mpo es it → σ o' = .mpo es' it' → o ≠ o' → (g.L o).b ≠ (g.L o').b ∧ (it.isSome = true → it'.isSome = true → (g.L o).off ≠ (g.L o').off)

/-- One ghost goes on from another. -/
structure Gh.le (g : Gh) (σ : Hp) (g' : Gh) (σ' : Hp) : Prop where
  ext : Ext g.pm g.L σ g'.pm g'.L σ'
  tm : g'.tm = g.tm
  B0 : g'.B0 = g.B0
  w0 : g'.w0 = g.w0

theorem Gh.le.refl (g : Gh) (σ : Hp) : g.le σ g σ := ⟨Ext.refl _ _ _, rfl, rfl, rfl⟩
theorem Gh.le.trans {g g' g'' : Gh} {σ σ' σ''} (h : g.le σ g' σ') (k : g'.le σ' g'' σ'') : g.le σ g'' σ'' :=
  ⟨h.ext.trans k.ext, k.tm.trans h.tm, k.B0.trans h.B0, k.w0.trans h.w0⟩
end Go.Ab

namespace Go.Ab
theorem lt_of_cell {w : World} {a : Addr} {u : Value} (h : w.cell? a = some u) : a.block < w.heap.size := World.block_lt_of_cell? _ _ h
end Go.Ab

namespace Go.Ab
/-- A weaker value. -/
inductive AVw : AV → AV → Prop
  | refl (x) : AVw x x
  | junk (x) : AVw x .junk
  | nil {ex sz} : AVw .nils (.sl ex sz [])
  | snn {sz} : AVw (.snn sz) (.sl false sz [])
  | agg {xs ys : List AV} (hl : xs.length = ys.length) (h : ∀ j (h1 : j < xs.length) (h2 : j < ys.length), AVw xs[j] ys[j]) : AVw (.agg xs) (.agg ys)
  | tup {xs ys : List AV} (hl : xs.length = ys.length) (h : ∀ j (h1 : j < xs.length) (h2 : j < ys.length), AVw xs[j] ys[j]) : AVw (.tup xs) (.tup ys)
  | cptr {xs ys : List AV} {off} (hl : xs.length = ys.length) (h : ∀ j (h1 : j < xs.length) (h2 : j < ys.length), AVw xs[j] ys[j]) : AVw (.cptr xs off) (.cptr ys off)
  | sl {ex ex' sz} {xs ys : List AV} (he : ex' = true → ex = true) (hl : xs.length = ys.length) (hz : ∀ i (h1 : i < xs.length) (h2 : i < ys.length), (xs[i]).cells.length = (ys[i]).cells.length)
      (h : ∀ i (h1 : i < xs.length) (h2 : i < ys.length) j (h3 : j < (xs[i]).cells.length) (h4 : j < (ys[i]).cells.length), AVw ((xs[i]).cells[j]) ((ys[i]).cells[j])) : AVw (.sl ex sz xs) (.sl ex' sz ys)

theorem VR.w {pm L σ} {x y : AV} {u : Value} (h : VR pm L σ x u) (k : AVw x y) : VR pm L σ y u := by
  induction k generalizing u with
  | refl x => exact h
  | junk x => exact .junk
  | nil => cases h; exact .slnil
  | snn =>
    cases h with
    | snn => exact VR.sl (xs := []) (fun _ _ => undef) (Nat.zero_le _) (by intro e; cases e) (fun i h => by simp at h) (fun i j h => by simp at h) (fun i h => by simp at h)
    | snnz => exact .slz
  | agg hl _ ih => cases h with | agg a b => exact .agg (by omega) (fun j h1 h2 => ih j (by omega) h1 (b j (by omega) h2))
  | tup hl _ ih => cases h with | tup a b => exact .tup (by omega) (fun j h1 h2 => ih j (by omega) h1 (b j (by omega) h2))
  | cptr hl _ ih => cases h with | cptr us hp hv => exact .cptr us (fun j hj => hp j (by omega)) (fun j hj => ih j (by omega) hj (hv j (by omega)))
  | sl he hl hz _ ih =>
    rename_i ex ex' sz xs ys _
    cases h with
    | slnil =>
      have : ys = [] := List.eq_nil_of_length_eq_zero (by simpa using hl.symm)
      subst this; exact .slnil
    | slz =>
      have : ys = [] := List.eq_nil_of_length_eq_zero (by simpa using hl.symm)
      subst this; exact .slz
    | sl us hc hex hzz hp hv =>
      rw [hl]
      refine .sl us (by omega) (fun e => by rw [hex (he e), hl]) (fun i hi => by rw [← hz i (by omega) hi]; exact hzz i (by omega)) (fun i j hi hj => hp i j (by omega) hj) (fun i hi j hj => ?_)
      have h3 : j < (xs[i]).cells.length := by rw [hz i (by omega) hi]; exact hj
      exact ih i (by omega) hi j h3 hj (hv i (by omega) j h3)
end Go.Ab
/- What stays of the relation between ghost and world when a block is made, a cell is written, or nothing but a count turns. -/
namespace Go.Ab
set_option linter.constructorNameAsVariable false
set_option linter.unusedSimpArgs false
set_option linter.unusedVariables false
open Go.RowKit
set_option linter.unusedVariables false
set_option linter.unusedSimpArgs false

def upd {α : Type} (f : Nat → α) (o : Nat) (x : α) : Nat → α := fun i => if i = o then x else f i
@[simp] theorem upd_same {α : Type} (f : Nat → α) (o : Nat) (x : α) : upd f o x o = x := by simp [upd]
theorem upd_ne {α : Type} (f : Nat → α) {o i : Nat} (x : α) (h : i ≠ o) : upd f o x i = f i := by simp [upd, h]

def AV.one : AV → Bool
  | .agg _ | .tup _ | .junk => false
  | _ => true

theorem VR.one {pm L σ} {x : AV} {v : Value} (h : VR pm L σ x v) (h1 : x.one = true) : v.oneCell' = true := by
  cases h <;> simp_all [AV.one, Value.oneCell']

theorem WRel.heap_eq {g σ} {w w' : World} (h : WRel g σ w) (hh : w'.heap = w.heap) (ht : w'.tape = w.tape) (ho : w'.os = w.os) (hout : w'.output = w.output) : WRel g σ w' := by
  have hc : ∀ a, w'.cell? a = w.cell? a := fun a => by simp [World.cell?, hh]
  have hf : ∀ a, w'.frozen? a = w.frozen? a := fun a => by simp [World.frozen?, hh]
  refine ⟨fun b o v e => by rw [hc]; exact h.pm b o v e, fun b o v e => by rw [hc]; exact h.tm b o v e, fun b o v e => by rw [hf]; exact h.tmf b o v e, h.disj, ?_, by rw [hh]; exact h.B0, h.tab, h.bk.same (fun b x e => by rw [hh]; exact e), fun o ver cs e => ?_, h.sep, fun o es it e => (h.mo o es it e).keep (Ext.refl _ _ _) rfl rfl (fun b x e _ => by rw [hh]; exact e), h.ms⟩
  · exact h.low.trans ⟨ho, ht, hout, by rw [hh]; exact Nat.le_refl _, fun k _ => by rw [hh]⟩
  · have k := h.ob o ver cs e
    exact ⟨k.low, k.len, fun j hj => by rw [hc]; exact k.there j hj, fun j hj => by rw [hf]; exact k.free j hj, k.pm, k.tm⟩

theorem WRel.drew {g σ} {w : World} (h : WRel g σ w) : WRel g σ w.drew := h.heap_eq rfl rfl rfl rfl

theorem WRel.pm_lt {g σ} {w : World} (h : WRel g σ w) {b o v} (e : g.pm b o = some v) : b < w.heap.size := lt_of_cell (h.pm b o v e)
theorem WRel.tm_lt {g σ} {w : World} (h : WRel g σ w) {b o v} (e : g.tm b o = some v) : b < w.heap.size := lt_of_cell (h.tm b o v e)
theorem WRel.pm_new {g σ} {w : World} (h : WRel g σ w) (o : Nat) : g.pm w.heap.size o = none := by
  cases e : g.pm w.heap.size o with
  | none => rfl
  | some v => exact absurd (h.pm_lt e) (Nat.lt_irrefl _)
theorem WRel.tm_new {g σ} {w : World} (h : WRel g σ w) (o : Nat) : g.tm w.heap.size o = none := by
  cases e : g.tm w.heap.size o with
  | none => rfl
  | some v => exact absurd (h.tm_lt e) (Nat.lt_irrefl _)

theorem ObOK.lt {g σ o cs} {w : World} (k : ObOK g σ o cs w) (hc : 0 < (g.L o).cap) : (g.L o).b < w.heap.size := by
  obtain ⟨v, hv, _⟩ := k.there 0 hc
  exact lt_of_cell hv

theorem heap_alloc_lt {w : World} {x : Go.Obj} {b : Nat} (h : b < w.heap.size) : (w.alloc x).heap[b]? = w.heap[b]? := by
  show (w.heap.push x)[b]? = w.heap[b]?
  rw [Array.getElem?_push, if_neg (by omega)]
theorem get_lt {w : World} {b : Nat} {x : Go.Obj} (h : w.heap[b]? = some x) : b < w.heap.size := (Array.getElem?_eq_some_iff.1 h).1
theorem heap_setCell_bk {w : World} {a : Addr} {u y : Value} (h : w.cell? a = some u) (b : Nat) (x : Go.Obj) (hb : w.heap[b]? = some x) (hx : BkOb x) : (w.setCell a y).heap[b]? = some x := by
  rw [← hb]
  by_cases e : a.block = b
  · subst e
    cases x <;> simp [BkOb] at hx <;> simp [World.cell?, hb] at h
  · unfold World.setCell
    split <;> (show (w.heap.modify _ _)[b]? = _; rw [Array.getElem?_modify, if_neg e])
/-- A block is made that is nobody's. -/
theorem WRel.alloc_none {g σ} {w : World} (h : WRel g σ w) (x : Go.Obj) : WRel g σ (w.alloc x) := by
  have hc : ∀ b o v, w.cell? ⟨b, o, none⟩ = some v → (w.alloc x).cell? ⟨b, o, none⟩ = some v := fun b o v e => by
    rw [World.cell?_alloc_lt (h := lt_of_cell e)]; exact e
  refine ⟨fun b o v e => hc _ _ _ (h.pm b o v e), fun b o v e => hc _ _ _ (h.tm b o v e), fun b o v e => by
    rw [World.frozen?_alloc_old (h := by have := h.tm_lt e; simp at this ⊢; omega)]; exact h.tmf b o v e, h.disj, h.low.alloc h.B0 x, by have := h.B0; simp; omega, h.tab, h.bk.same (fun b x e => by rw [heap_alloc_lt (get_lt e)]; exact e), fun o ver cs e => ?_, h.sep, fun o es it e => (h.mo o es it e).keep (Ext.refl _ _ _) rfl rfl (fun b x e _ => by rw [heap_alloc_lt (get_lt e)]; exact e), h.ms⟩
  have k := h.ob o ver cs e
  refine ⟨k.low, k.len, fun j hj => ?_, fun j hj => ?_, k.pm, k.tm⟩
  · obtain ⟨v, hv, hr⟩ := k.there j hj
    exact ⟨v, hc _ _ _ hv, hr⟩
  · obtain ⟨v, hv, _⟩ := k.there j hj
    rw [World.frozen?_alloc_old (h := by have := lt_of_cell hv; simp at this ⊢; omega)]
    exact k.free j hj

/-- The object of a number is laid at a place of cells that nobody has. -/
theorem WRel.own {g σ} {w : World} (h : WRel g σ w) {o : Nat} {l : Loc} {ver : Nat} {cs : List AV}
    (hob : ObExt (σ o) (g.L o) (.arr ver cs) l)
    (hlow : 0 < l.cap → g.B0 ≤ l.b) (hlen : cs.length ≤ l.cap)
    (hth : ∀ j, j < l.cap → ∃ v, w.cell? ⟨l.b, l.off + j, none⟩ = some v ∧ ∀ hj : j < cs.length, VR g.pm (upd g.L o l) (upd σ o (.arr ver cs)) (cs[j]) v)
    (hfr : ∀ j, j < l.cap → w.frozen? ⟨l.b, l.off + j, none⟩ = false)
    (hpm : ∀ j, j < l.cap → g.pm l.b (l.off + j) = none) (htm : ∀ j, j < l.cap → g.tm l.b (l.off + j) = none)
    (hap : ∀ o' ver' cs', o' ≠ o → σ o' = .arr ver' cs' → Apart (g.L o') l) :
    WRel { g with L := upd g.L o l } (upd σ o (.arr ver cs)) w ∧ g.le σ { g with L := upd g.L o l } (upd σ o (.arr ver cs)) := by
  have hext : Ext g.pm g.L σ g.pm (upd g.L o l) (upd σ o (.arr ver cs)) := ⟨fun _ _ _ e => e, fun i => by
    by_cases hi : i = o
    · subst hi; simpa using hob
    · simp [upd_ne _ _ hi]; exact ObExt.refl _ _⟩
  refine ⟨⟨h.pm, h.tm, h.tmf, h.disj, h.low, h.B0, h.tab, h.bk, fun i ver' cs' e => ?_, fun i i' v1 v2 c1 c2 e1 e2 hne => ?_, fun i es it e => ?_, fun i i' e1 e2 t1 t2 h1 h2 hne => ?_⟩, ⟨hext, rfl, rfl, rfl⟩⟩
  rotate_left 2
  · have hi : i ≠ o := fun h => by subst h; simp at e
    rw [upd_ne _ _ hi] at e
    exact (h.mo i es it e).keep hext rfl (upd_ne _ _ hi) (fun _ _ e _ => e)
  · have hi : i ≠ o := fun h => by subst h; simp at h1
    have hi' : i' ≠ o := fun h => by subst h; simp at h2
    rw [upd_ne _ _ hi] at h1
    rw [upd_ne _ _ hi'] at h2
    simp only [upd_ne _ _ hi, upd_ne _ _ hi']
    exact h.ms i i' _ _ _ _ h1 h2 hne
  · by_cases hi : i = o
    · subst hi
      simp at e
      obtain ⟨rfl, rfl⟩ := e
      exact ⟨by simpa using hlow, by simpa using hlen, by simpa using hth, by simpa using hfr, by simpa using hpm, by simpa using htm⟩
    · rw [upd_ne _ _ hi] at e
      have k := h.ob i ver' cs' e
      refine ⟨by simpa [upd_ne _ _ hi] using k.low, by simpa [upd_ne _ _ hi] using k.len, ?_, by simpa [upd_ne _ _ hi] using k.free, by simpa [upd_ne _ _ hi] using k.pm, by simpa [upd_ne _ _ hi] using k.tm⟩
      intro j hj
      simp only [upd_ne _ _ hi] at hj ⊢
      obtain ⟨v, hv, hr⟩ := k.there j hj
      exact ⟨v, hv, fun hj' => (hr hj').mono hext⟩
  · by_cases hi : i = o
    · subst hi
      have hi' : i' ≠ i := fun h => hne h.symm
      rw [upd_ne _ _ hi'] at e2
      simp only [upd_same, upd_ne _ _ hi']
      have := hap i' _ _ hi' e2
      intro hb j j' hj hj' he
      exact this hb.symm j' j hj' hj he.symm
    · rw [upd_ne _ _ hi] at e1
      by_cases hi' : i' = o
      · subst hi'
        simp only [upd_same, upd_ne _ _ hi]
        exact hap i _ _ hi e1
      · rw [upd_ne _ _ hi'] at e2
        simp only [upd_ne _ _ hi, upd_ne _ _ hi']
        exact h.sep i i' _ _ _ _ e1 e2 hne

/-- A new block of cells becomes an object. -/
theorem WRel.alloc_ob {g σ} {w : World} (h : WRel g σ w) {o ver : Nat} (c : Array Value) (t : TypeId) (cs : List AV)
    (hob : ObExt (σ o) (g.L o) (.arr ver cs) ⟨w.heap.size, 0, c.size⟩) (hlen : cs.length ≤ c.size)
    (hc : ∀ j (hj : j < cs.length) (hj' : j < c.size), VR g.pm g.L σ (cs[j]) (c[j])) :
    WRel { g with L := upd g.L o ⟨w.heap.size, 0, c.size⟩ } (upd σ o (.arr ver cs)) (w.alloc (.cells c t)) ∧
      g.le σ { g with L := upd g.L o ⟨w.heap.size, 0, c.size⟩ } (upd σ o (.arr ver cs)) := by
  have hext : Ext g.pm g.L σ g.pm (upd g.L o ⟨w.heap.size, 0, c.size⟩) (upd σ o (.arr ver cs)) := ⟨fun _ _ _ e => e, fun i => by
    by_cases hi : i = o
    · subst hi; simpa using hob
    · simp [upd_ne _ _ hi]; exact ObExt.refl _ _⟩
  refine (h.alloc_none (.cells c t)).own hob (fun _ => h.B0) hlen (fun j hj => ?_) (fun j hj => ?_) (fun j hj => h.pm_new _) (fun j hj => h.tm_new _) ?_
  · simp at hj
    refine ⟨c[j], ?_, fun hj' => (hc j hj' hj).mono hext⟩
    rw [show (⟨w.heap.size, 0 + j, none⟩ : Addr) = ⟨w.heap.size, j, none⟩ by simp]
    simp [hj]
  · simp
  · intro o' ver' cs' hne e hb j j' hj hj'
    have k := h.ob o' ver' cs' e
    simp at hb
    have := k.lt (by omega)
    omega

/-- Cells that nobody has, and that are written no more, are told for good. -/
theorem WRel.tell {g σ} {w : World} (h : WRel g σ w) (b o n : Nat) (us : Nat → Value)
    (hc : ∀ j, j < n → w.cell? ⟨b, o + j, none⟩ = some (us j))
    (htm : ∀ j, j < n → g.tm b (o + j) = none)
    (hold : ∀ j, j < n → ∀ v, g.pm b (o + j) = some v → v = us j)
    (hap : ∀ o' ver' cs', σ o' = .arr ver' cs' → ∀ j, j < n → ∀ j', j' < (g.L o').cap → ¬ ((g.L o').b = b ∧ (g.L o').off + j' = o + j)) :
    WRel { g with pm := fun b' o' => if b' = b ∧ o ≤ o' ∧ o' < o + n then some (us (o' - o)) else g.pm b' o' } σ w ∧
      g.le σ { g with pm := fun b' o' => if b' = b ∧ o ≤ o' ∧ o' < o + n then some (us (o' - o)) else g.pm b' o' } σ := by
  have hext : Ext g.pm g.L σ (fun b' o' => if b' = b ∧ o ≤ o' ∧ o' < o + n then some (us (o' - o)) else g.pm b' o') g.L σ := ⟨fun b' o' v e => by
    show (if b' = b ∧ o ≤ o' ∧ o' < o + n then some (us (o' - o)) else g.pm b' o') = some v
    split
    · rename_i hh
      obtain ⟨rfl, h1, h2⟩ := hh
      have := hold (o' - o) (by omega) v (by rw [show o + (o' - o) = o' by omega]; exact e)
      rw [this]
    · exact e, fun i => ObExt.refl _ _⟩
  refine ⟨⟨fun b' o' v e => ?_, h.tm, h.tmf, fun b' o' v e => ?_, h.low, h.B0, h.tab, h.bk, fun i ver' cs' e => ?_, h.sep, fun o es it e => (h.mo o es it e).keep hext rfl rfl (fun _ _ e _ => e), h.ms⟩, ⟨hext, rfl, rfl, rfl⟩⟩
  · replace e : (if b' = b ∧ o ≤ o' ∧ o' < o + n then some (us (o' - o)) else g.pm b' o') = some v := e
    split at e
    · rename_i hh
      obtain ⟨rfl, h1, h2⟩ := hh
      cases e
      have := hc (o' - o) (by omega)
      rwa [show o + (o' - o) = o' by omega] at this
    · exact h.pm _ _ _ e
  · replace e : (if b' = b ∧ o ≤ o' ∧ o' < o + n then some (us (o' - o)) else g.pm b' o') = some v := e
    split at e
    · rename_i hh
      obtain ⟨rfl, h1, h2⟩ := hh
      have := htm (o' - o) (by omega)
      rwa [show o + (o' - o) = o' by omega] at this
    · exact h.disj _ _ _ e
  · have k := h.ob i ver' cs' e
    refine ⟨k.low, k.len, fun j hj => ?_, k.free, fun j hj => ?_, k.tm⟩
    · obtain ⟨v, hv, hr⟩ := k.there j hj
      exact ⟨v, hv, fun hj' => (hr hj').mono hext⟩
    · show (if (g.L i).b = b ∧ o ≤ (g.L i).off + j ∧ (g.L i).off + j < o + n then some (us ((g.L i).off + j - o)) else g.pm (g.L i).b ((g.L i).off + j)) = none
      rw [if_neg]
      · exact k.pm j hj
      · rintro ⟨h1, h2, h3⟩
        exact hap i _ _ e ((g.L i).off + j - o) (by omega) j hj ⟨h1, by omega⟩

theorem cell_alloc_at (w : World) (c : Array Value) (t : TypeId) (fz : Nat × Nat) (i : Nat) : (w.alloc (.cells c t fz)).cell? ⟨w.heap.size, i, none⟩ = c[i]? := by
  show (match (w.heap.push (.cells c t fz))[w.heap.size]? with | some (.cells c _ _) => if (none : Option Nat).isSome then none else c[i]? | _ => none) = _
  rw [Array.getElem?_push_size]
  rfl

/-- A new block's first cells are told for good. -/
theorem WRel.alloc_tell {g σ} {w : World} (h : WRel g σ w) (c : Array Value) (t : TypeId) (fz : Nat × Nat := (0, 0)) :
    ∃ g', WRel g' σ (w.alloc (.cells c t fz)) ∧ g.le σ g' σ ∧ ∀ j, (hj : j < c.size) → g'.pm w.heap.size j = some (c[j]) := by
  obtain ⟨h1, h2⟩ := (h.alloc_none (.cells c t fz)).tell w.heap.size 0 c.size (fun j => c.getD j undef) (fun j hj => by
      rw [show (⟨w.heap.size, 0 + j, none⟩ : Addr) = ⟨w.heap.size, j, none⟩ by simp]
      rw [cell_alloc_at]; simp [hj, Array.getD]) (fun j hj => h.tm_new _) (fun j hj v e => by rw [h.pm_new] at e; cases e)
    (fun o' ver' cs' e j hj j' hj' hh => by
      have k := h.ob o' ver' cs' e
      have := k.lt (by omega)
      omega)
  refine ⟨_, h1, h2, fun j hj => ?_⟩
  simp [hj, Array.getD]

theorem cell?_setCell_iff (w : World) (b o : Nat) (x : Value) (b' o' : Nat) {u : Value} (h : w.cell? ⟨b, o, none⟩ = some u) :
    (w.setCell ⟨b, o, none⟩ x).cell? ⟨b', o', none⟩ = if b' = b ∧ o' = o then some x else w.cell? ⟨b', o', none⟩ := by
  split
  · rename_i hh; obtain ⟨rfl, rfl⟩ := hh; exact World.cell?_setCell_same _ _ _ h
  · rename_i hh
    rw [World.cell?_setCell_other]
    intro e; cases e; exact hh ⟨rfl, rfl⟩

/-- A cell of an object is written. -/
theorem WRel.store {g σ} {w : World} (h : WRel g σ w) {o ver : Nat} {cs : List AV} (e : σ o = .arr ver cs) (j : Nat) (hj : j < (g.L o).cap) (x : AV) (v : Value)
    (hx : VR g.pm g.L σ x v) :
    WRel g (upd σ o (.arr ver (cs.set j x))) (w.setCell ⟨(g.L o).b, (g.L o).off + j, none⟩ v) ∧ g.le σ g (upd σ o (.arr ver (cs.set j x))) := by
  have k := h.ob o ver cs e
  obtain ⟨u, hu, _⟩ := k.there j hj
  have hcell := fun b' o' => cell?_setCell_iff w (g.L o).b ((g.L o).off + j) v b' o' hu
  have hext : Ext g.pm g.L σ g.pm g.L (upd σ o (.arr ver (cs.set j x))) := ⟨fun _ _ _ e => e, fun i => by
    by_cases hi : i = o
    · subst hi; simp [e, ObExt]
    · simp [upd_ne _ _ hi]; exact ObExt.refl _ _⟩
  refine ⟨⟨fun b' o' v' e' => ?_, fun b' o' v' e' => ?_, fun b' o' v' e' => by rw [World.frozen?_setCell]; exact h.tmf _ _ _ e', h.disj, h.low.setCell (p := ⟨(g.L o).b, (g.L o).off + j, none⟩) (k.low (by omega)) v, by simpa using h.B0, h.tab, h.bk.setCell _ _, fun i ver' cs' e' => ?_, fun i i' v1 v2 c1 c2 e1 e2 hne => ?_, fun i es it e' => ?_, fun i i' e1 e2 t1 t2 h1 h2 hne => ?_⟩, ⟨hext, rfl, rfl, rfl⟩⟩
  rotate_left 4
  · have hi : i ≠ o := fun h => by subst h; simp at e'
    rw [upd_ne _ _ hi] at e'
    exact (h.mo i es it e').keep hext rfl rfl (heap_setCell_bk hu)
  · have hi : i ≠ o := fun h => by subst h; simp at h1
    have hi' : i' ≠ o := fun h => by subst h; simp at h2
    rw [upd_ne _ _ hi] at h1
    rw [upd_ne _ _ hi'] at h2
    exact h.ms i i' _ _ _ _ h1 h2 hne
  · rw [hcell, if_neg]
    · exact h.pm _ _ _ e'
    · rintro ⟨rfl, rfl⟩; rw [k.pm j hj] at e'; cases e'
  · rw [hcell, if_neg]
    · exact h.tm _ _ _ e'
    · rintro ⟨rfl, rfl⟩; rw [k.tm j hj] at e'; cases e'
  · by_cases hi : i = o
    · subst hi
      simp at e'
      obtain ⟨rfl, rfl⟩ := e'
      refine ⟨k.low, by simpa using k.len, fun m hm => ?_, fun m hm => by rw [World.frozen?_setCell]; exact k.free m hm, k.pm, k.tm⟩
      rw [hcell]
      obtain ⟨u', hu', hr'⟩ := k.there m hm
      by_cases hmj : m = j
      · subst hmj
        refine ⟨v, by simp, fun hm' => ?_⟩
        simp
        exact hx.mono hext
      · refine ⟨u', by rw [if_neg (by omega)]; exact hu', fun hm' => ?_⟩
        simp at hm'
        rw [List.getElem_set_ne (by omega)]
        exact (hr' hm').mono hext
    · rw [upd_ne _ _ hi] at e'
      have k' := h.ob i ver' cs' e'
      refine ⟨k'.low, k'.len, fun m hm => ?_, fun m hm => by rw [World.frozen?_setCell]; exact k'.free m hm, k'.pm, k'.tm⟩
      obtain ⟨u', hu', hr'⟩ := k'.there m hm
      refine ⟨u', ?_, fun hm' => (hr' hm').mono hext⟩
      rw [hcell, if_neg]
      · exact hu'
      · rintro ⟨h1, h2⟩
        exact h.sep i o _ _ _ _ e' e hi h1 m j hm hj h2
  · have a1 : ∃ v c, σ i = .arr v c := by
      by_cases hi : i = o
      · exact ⟨_, _, hi ▸ e⟩
      · rw [upd_ne _ _ hi] at e1; exact ⟨_, _, e1⟩
    have a2 : ∃ v c, σ i' = .arr v c := by
      by_cases hi : i' = o
      · exact ⟨_, _, hi ▸ e⟩
      · rw [upd_ne _ _ hi] at e2; exact ⟨_, _, e2⟩
    obtain ⟨_, _, a1⟩ := a1
    obtain ⟨_, _, a2⟩ := a2
    exact h.sep i i' _ _ _ _ a1 a2 hne

/-- An object is let go: its cells are nobody's. -/
theorem WRel.drop {g σ} {w : World} (h : WRel g σ w) {o ver : Nat} {cs : List AV} (e : σ o = .arr ver cs) :
    WRel g (upd σ o (.dead ver)) w ∧ g.le σ g (upd σ o (.dead ver)) := by
  have hext : Ext g.pm g.L σ g.pm g.L (upd σ o (.dead ver)) := ⟨fun _ _ _ e => e, fun i => by
    by_cases hi : i = o
    · subst hi; simp [e, ObExt]
    · simp [upd_ne _ _ hi]; exact ObExt.refl _ _⟩
  refine ⟨⟨h.pm, h.tm, h.tmf, h.disj, h.low, h.B0, h.tab, h.bk, fun i ver' cs' e' => ?_, fun i i' v1 v2 c1 c2 e1 e2 hne => ?_, fun i es it e' => ?_, fun i i' e1 e2 t1 t2 h1 h2 hne => ?_⟩, ⟨hext, rfl, rfl, rfl⟩⟩
  rotate_left 2
  · have hi : i ≠ o := fun h => by subst h; simp at e'
    rw [upd_ne _ _ hi] at e'
    exact (h.mo i es it e').keep hext rfl rfl (fun _ _ e _ => e)
  · have hi : i ≠ o := fun h => by subst h; simp at h1
    have hi' : i' ≠ o := fun h => by subst h; simp at h2
    rw [upd_ne _ _ hi] at h1
    rw [upd_ne _ _ hi'] at h2
    exact h.ms i i' _ _ _ _ h1 h2 hne
  · by_cases hi : i = o
    · subst hi; simp at e'
    · rw [upd_ne _ _ hi] at e'
      have k := h.ob i ver' cs' e'
      refine ⟨k.low, k.len, fun m hm => ?_, k.free, k.pm, k.tm⟩
      obtain ⟨u', hu', hr'⟩ := k.there m hm
      exact ⟨u', hu', fun hm' => (hr' hm').mono hext⟩
  · by_cases hi : i = o
    · subst hi; simp at e1
    · by_cases hi' : i' = o
      · subst hi'; simp at e2
      · rw [upd_ne _ _ hi] at e1; rw [upd_ne _ _ hi'] at e2; exact h.sep i i' _ _ _ _ e1 e2 hne
end Go.Ab
/- Operations with their types resolved (ROp), what each does to abstract values (St), and that the model's operation does just that: memory. -/
namespace Go.Ab
set_option linter.constructorNameAsVariable false
set_option linter.unusedSimpArgs false
set_option linter.unusedVariables false
open Go.RowKit
set_option linter.unusedVariables false
set_option linter.unusedSimpArgs false

inductive Opd where
  | t (i : Nat)
  | v (x : AV)
  deriving Inhabited

abbrev Fm := Nat → AV

def ev (fr : Fm) : Opd → AV
  | .t i => fr i
  | .v x => x

structure FRel (g : Gh) (σ : Hp) (n : Nat) (fr : Fm) (a : Act) : Prop where
  size : a.tmps.size = n
  get : ∀ t, VR g.pm g.L σ (fr t) (a.tmps.getD t undef)

theorem FRel.mono {g g' σ σ' n fr a} (h : FRel g σ n fr a) (k : g.le σ g' σ') : FRel g' σ' n fr a :=
  ⟨h.size, fun t => (h.get t).mono k.ext⟩

theorem FRel.put {g σ n fr a d v u} (h : FRel g σ n fr a) (hd : d < n) (hv : VR g.pm g.L σ v u) : FRel g σ n (upd fr d v) (a.put (some d) u) := by
  refine ⟨by simpa [Act.put] using h.size, fun t => ?_⟩
  have hs := h.size
  simp only [Act.put]
  by_cases e : t = d
  · subst e; simpa [Array.getD, hs, hd] using hv
  · have := h.get t
    rw [upd_ne _ _ e]
    simp only [Array.getD_eq_getD_getElem?, Array.getElem?_setIfInBounds] at this ⊢
    rwa [if_neg (fun h => e h.symm)]

/-- Constants. -/
def ofLit1 : Value → Option AV
  | .int k n => some (.int k n)
  | .bool b => some (.bool b)
  | .string s => some (.str s)
  | .pointer none => some .nilp
  | .slice none 0 0 => some .nils
  | .map none => some .nilm
  | .nilFunc => some .nilf
  | .nilIface => some .nili
  | _ => none
def ofLits : List Value → Option (List AV)
  | [] => some []
  | v :: r => match ofLit1 v, ofLits r with
    | some x, some xs => some (x :: xs)
    | _, _ => none
def ofLit : Value → Option AV
  | .agg cs => (ofLits cs.toList).map .agg
  | .tuple vs => if vs.size = 0 then some (.tup []) else none
  | v => ofLit1 v

theorem ofLit1_VR {pm L σ} {v : Value} {x : AV} (h : ofLit1 v = some x) : VR pm L σ x v := by
  unfold ofLit1 at h
  split at h <;> cases h <;> constructor

theorem ofLits_VR {pm L σ} : ∀ {vs : List Value} {xs : List AV}, ofLits vs = some xs → vs.length = xs.length ∧ ∀ j (h : j < xs.length) (h' : j < vs.length), VR pm L σ (xs[j]) (vs[j])
  | [], xs, h => by simp [ofLits] at h; subst h; simp
  | v :: r, xs, h => by
    simp only [ofLits] at h
    split at h
    · rename_i x ys h1 h2
      cases h
      obtain ⟨i1, i2⟩ := ofLits_VR (pm := pm) (L := L) (σ := σ) h2
      refine ⟨by simp [i1], fun j hj hj' => ?_⟩
      cases j with
      | zero => exact ofLit1_VR h1
      | succ j => exact i2 j (by simpa using hj) (by simpa using hj')
    · cases h

theorem ofLit_VR {pm L σ} {v : Value} {x : AV} (h : ofLit v = some x) : VR pm L σ x v := by
  unfold ofLit at h
  split at h
  · rename_i cs
    simp only [Option.map_eq_some_iff] at h
    obtain ⟨xs, h1, rfl⟩ := h
    obtain ⟨h2, h3⟩ := ofLits_VR (pm := pm) (L := L) (σ := σ) h1
    refine .agg (by simpa using h2) (fun j h h' => ?_)
    have := h3 j h (by simpa using h')
    simpa using this
  · split at h
    · rename_i hh; cases h; exact .tup (by simpa only [List.length_nil] using hh) (by simp)
    · cases h
  · exact ofLit1_VR h

def rOpd : Operand → Option Opd
  | .tmp t => some (.t t)
  | .const v => (ofLit v).map .v
  | .func f => some (.v (.fn (.func f) [] []))
  | .global _ => none

theorem rOpd_VR {g σ n fr} {a : Act} (h : FRel g σ n fr a) {x : Operand} {y : Opd} (e : rOpd x = some y) : VR g.pm g.L σ (ev fr y) (a.eval x) := by
  cases x <;> simp only [rOpd] at e
  · cases e; exact h.get _
  · simp only [Option.map_eq_some_iff] at e
    obtain ⟨z, h1, rfl⟩ := e
    exact ofLit_VR h1
  · cases e
  · cases e; exact .fn rfl rfl (by simp) (by simp)

/-- The shape of a type's values: 'some n': n cells together; 'none': one cell. -/
def eshOf (P : Program) (t : TypeId) : Option (Option Nat) :=
  match P.underlying t, P.info? t with
  | some (.struct _), some i => some (some i.size)
  | some (.array _ _), some i => some (some i.size)
  | some _, some i => if i.size = 1 then some none else none
  | _, _ => none

theorem run_isAgg {P : Program} {t : TypeId} {sh : Option Nat} (h : eshOf P t = some sh) (w : World) : (isAgg t).run P w = .ok sh.isSome w := by
  unfold eshOf at h
  cases hd : P.underlying t with
  | none => simp [hd] at h
  | some d =>
    cases hi : P.info? t with
    | none => cases d <;> simp [hd, hi] at h
    | some i =>
      cases d <;> simp only [hd, hi] at h <;> (try split at h) <;> cases h <;> simp [isAgg, run_underlying hd]

theorem eshOf_info {P : Program} {t : TypeId} {sh : Option Nat} (h : eshOf P t = some sh) : ∃ i, P.info? t = some i ∧ i.size = szOf sh := by
  unfold eshOf at h
  split at h
  · rename_i hi; cases h; exact ⟨_, hi, rfl⟩
  · rename_i hi; cases h; exact ⟨_, hi, rfl⟩
  · rename_i i _ _ _ hi
    split at h
    · cases h; exact ⟨_, hi, by simpa [szOf]⟩
    · cases h
  · cases h

theorem run_sizeOf {P : Program} {t : TypeId} {i : TypeInfo} (h : P.info? t = some i) (w : World) : (sizeOf t).run P w = .ok i.size w := by
  simp [sizeOf, typeInfo, h]

theorem run_loadVar_one {P : Program} {t : TypeId} (h : eshOf P t = some none) {w : World} {a : Addr} {v : Value} (hv : w.cell? a = some v) :
    (loadVar t a).run P w = .ok v w := by
  simp [loadVar, run_isAgg h, hv]

theorem run_loadVar_agg {P : Program} {t : TypeId} {n : Nat} (h : eshOf P t = some (some n)) {w : World} {b o : Nat} {us : Nat → Value}
    (hv : ∀ j, j < n → w.cell? ⟨b, o + j, none⟩ = some (us j)) :
    (loadVar t ⟨b, o, none⟩).run P w = .ok (.agg ((List.range n).map us).toArray) w := by
  obtain ⟨i, hi, hn⟩ := eshOf_info h
  have hl := run_loadCells (P := P) w ⟨b, o, none⟩ n us (fun j hj => by rw [Addr.add_lit]; exact hv j hj)
  simp only [szOf, Option.getD_some] at hn
  simp only [loadVar, Sem.run_bind, run_isAgg h, Result.andThen_ok, Option.isSome_some, if_true, run_sizeOf hi, hn, hl]
  simp [hl]

def ap (σ : Hp) : Option (Nat × Ob) → Hp
  | none => σ
  | some (o, x) => upd σ o x

def OpRes (res : Next) (u : Value) : Prop := res = .value u ∨ (res = .skip ∧ u = undef)

/-- What the model's operation must come to. -/
def Goes (P : Program) (g : Gh) (σ : Hp) (w : World) (s : Sem Next) (v : AV) (δ : Option (Nat × Ob)) : Prop :=
  ∃ res u w' g', s.run P w = .ok res w' ∧ OpRes res u ∧ WRel g' (ap σ δ) w' ∧ g.le σ g' (ap σ δ) ∧ VR g'.pm g'.L (ap σ δ) v u

theorem Goes.val {P g σ w} {s : Sem Value} {v : AV} {u : Value} (hw : WRel g σ w) (hr : s.run P w = .ok u w) (hv : VR g.pm g.L σ v u) :
    Goes P g σ w (do pure (.value (← s))) v none :=
  ⟨.value u, u, w, g, by simp [hr], .inl rfl, hw, Gh.le.refl _ _, hv⟩

theorem Goes.val' {P g g' σ w w'} {s : Sem Value} {v : AV} {u : Value} {δ} (hr : s.run P w = .ok u w') (hw : WRel g' (ap σ δ) w') (hl : g.le σ g' (ap σ δ)) (hv : VR g'.pm g'.L (ap σ δ) v u) :
    Goes P g σ w (do pure (.value (← s))) v δ :=
  ⟨.value u, u, w', g', by simp [hr], .inl rfl, hw, hl, hv⟩

/-! ### load -/
def StLoad (sh : Option Nat) (x : AV) (σ : Hp) (v : AV) (rd : List Nat) : Prop :=
  match x with
  | .ptr o ver off => rd = [o] ∧ ∃ cs, σ o = .arr ver cs ∧ (match sh with | none => off < cs.length ∧ v = cs.getD off .junk | some n => off + n ≤ cs.length ∧ v = .agg ((cs.drop off).take n))
  | .cptr cs off => rd = [] ∧ (match sh with | none => off < cs.length ∧ v = cs.getD off .junk | some n => off + n ≤ cs.length ∧ v = .agg ((cs.drop off).take n))
  | _ => False

theorem VR_cells {pm L σ} {cs : List AV} {n off : Nat} {us : Nat → Value} (hn : off + n ≤ cs.length) (h : ∀ j (hj : j < cs.length), VR pm L σ (cs[j]) (us j)) :
    VR pm L σ (.agg ((cs.drop off).take n)) (.agg ((List.range n).map fun j => us (off + j)).toArray) := by
  refine .agg (by simp; omega) (fun j h1 h2 => ?_)
  simp at h1 h2
  simpa using h (off + j) (by omega)

theorem load_ok {P g σ w sh x u t v rd} (hw : WRel g σ w) (ht : eshOf P t = some sh) (hx : VR g.pm g.L σ x u) (h : StLoad sh x σ v rd) :
    ∃ a r, u = .pointer (some a) ∧ (loadVar t a).run P w = .ok r w ∧ VR g.pm g.L σ v r := by
  unfold StLoad at h
  split at h
  · rename_i o ver off
    obtain ⟨_, cs, hσ, h⟩ := h
    cases hx with
    | ptr hp =>
      rename_i a
      have k := hw.ob o ver cs hσ
      simp only [PtrOK, hσ] at hp
      obtain ⟨_, rfl⟩ : _ ∧ a = _ := ⟨trivial, hp.2 trivial⟩
      have hc : ∀ j, (hj : j < cs.length) → ∃ v, w.cell? ⟨(g.L o).b, (g.L o).off + j, none⟩ = some v ∧ VR g.pm g.L σ (cs[j]) v := fun j hj => by
        obtain ⟨v, h1, h2⟩ := k.there j (by have := k.len; omega)
        exact ⟨v, h1, h2 hj⟩
      cases sh with
      | none =>
        obtain ⟨h1, rfl⟩ := h
        obtain ⟨v, hv, hr⟩ := hc off h1
        refine ⟨_, v, rfl, run_loadVar_one ht hv, ?_⟩
        simpa [h1] using hr
      | some n =>
        obtain ⟨h1, rfl⟩ := h
        have hch : ∀ j, ∃ v, j < cs.length → w.cell? ⟨(g.L o).b, (g.L o).off + j, none⟩ = some v ∧ ∀ hj : j < cs.length, VR g.pm g.L σ (cs[j]) v := fun j => by
          by_cases hj : j < cs.length
          · obtain ⟨v, a, b⟩ := hc j hj; exact ⟨v, fun _ => ⟨a, fun _ => b⟩⟩
          · exact ⟨undef, fun h => absurd h hj⟩
        let us : Nat → Value := fun j => Classical.choose (hch j)
        have hus := fun j => Classical.choose_spec (hch j)
        refine ⟨_, .agg ((List.range n).map fun j => us (off + j)).toArray, rfl, ?_, VR_cells h1 fun j hj => (hus j hj).2 hj⟩
        have := run_loadVar_agg (P := P) ht (w := w) (b := (g.L o).b) (o := (g.L o).off + off) (us := fun j => us (off + j)) (fun j hj => by
          have := (hus (off + j) (by omega)).1
          rwa [show (g.L o).off + off + j = (g.L o).off + (off + j) by omega])
        exact this
  · rename_i cs off
    obtain ⟨_, h⟩ := h
    cases hx with
    | cptr us hp hv =>
      rename_i b o
      have hc : ∀ j, j < cs.length → w.cell? ⟨b, o + j, none⟩ = some (us j) := fun j hj => hw.pm _ _ _ (hp j hj)
      cases sh with
      | none =>
        obtain ⟨h1, rfl⟩ := h
        refine ⟨_, us off, rfl, run_loadVar_one ht (hc off h1), ?_⟩
        simpa [h1] using hv off h1
      | some n =>
        obtain ⟨h1, rfl⟩ := h
        refine ⟨_, .agg ((List.range n).map fun j => us (off + j)).toArray, rfl, ?_, VR_cells h1 fun j hj => hv j hj⟩
        have := run_loadVar_agg (P := P) ht (w := w) (b := b) (o := o + off) (us := fun j => us (off + j)) (fun j hj => by
          have := hc (off + j) (by omega)
          rwa [show o + off + j = o + (off + j) by omega])
        exact this
  · exact h.elim

theorem sound_load {P g σ w sh x u t v rd} (hw : WRel g σ w) (ht : eshOf P t = some sh) (hx : VR g.pm g.L σ x u) (h : StLoad sh x σ v rd) :
    Goes P g σ w (do pure (.value (← Instr.loadAt t u))) v none := by
  obtain ⟨a, r, rfl, h1, h2⟩ := load_ok hw ht hx h
  exact Goes.val hw (by simp [Instr.loadAt, Instr.sureAddr, h1]) h2

/-! ### store -/
def splice (cs : List AV) : Nat → List AV → List AV
  | _, [] => cs
  | off, x :: r => splice (cs.set off x) (off + 1) r

theorem splice_length : ∀ (xs : List AV) (cs : List AV) (off : Nat), (splice cs off xs).length = cs.length
  | [], _, _ => rfl
  | x :: r, cs, off => by rw [splice, splice_length r]; simp

theorem VR.cells {pm L σ} {x : AV} {u : Value} (h : VR pm L σ x u) (hj : x ≠ .junk) : u.cells.size = x.cells.length ∧ ∀ j (h1 : j < x.cells.length) (h2 : j < u.cells.size), VR pm L σ (x.cells[j]) (u.cells[j]) := by
  cases h with
  | agg hl hv => exact ⟨by simpa [AV.cells, Value.cells] using hl, fun j h1 h2 => hv j h1 h2⟩
  | junk => exact (hj rfl).elim
  | refz hs h => exact ⟨rfl, fun j h1 h2 => by simp [AV.cells] at h1; subst h1; exact .refz hs h⟩
  | _ => exact ⟨rfl, fun j h1 h2 => by simp [AV.cells] at h1; subst h1; simp [AV.cells, Value.cells]; constructor <;> assumption⟩

/-- Several cells of an object are written, in a row. -/
theorem WRel.stores {o ver : Nat} : ∀ (xs : List AV) (vs : List Value) {g σ} {w : World} {cs : List AV} (_ : WRel g σ w) (_ : σ o = .arr ver cs) (off : Nat),
    off + xs.length ≤ (g.L o).cap → vs.length = xs.length → (∀ j (h1 : j < xs.length) (h2 : j < vs.length), VR g.pm g.L σ (xs[j]) (vs[j])) →
    WRel g (upd σ o (.arr ver (splice cs off xs))) (w.setCells (g.L o).b ((g.L o).off + off) vs) ∧ g.le σ g (upd σ o (.arr ver (splice cs off xs)))
  | [], [], g, σ, w, cs, hw, e, off, _, _, _ => by
    have : upd σ o (.arr ver cs) = σ := by funext i; by_cases h : i = o <;> simp [upd, h, e]
    simp only [splice, World.setCells, this]
    exact ⟨hw, Gh.le.refl _ _⟩
  | x :: r, v :: vs, g, σ, w, cs, hw, e, off, hc, hl, hv => by
    obtain ⟨h1, h2⟩ := hw.store e off (by simp at hc; omega) x v (hv 0 (by simp) (by simp))
    have ih := WRel.stores r vs h1 (o := o) (ver := ver) (cs := cs.set off x) (by simp) (off + 1) (by simp at hc; omega) (by simpa using hl) (fun j a b => by
      have := hv (j + 1) (by simpa using a) (by simpa using b)
      simp at this
      exact this.mono h2.ext)
    obtain ⟨i1, i2⟩ := ih
    have hu : upd (upd σ o (.arr ver (cs.set off x))) o (.arr ver (splice (cs.set off x) (off + 1) r)) = upd σ o (.arr ver (splice cs off (x :: r))) := by
      funext i; by_cases h : i = o <;> simp [upd, h, splice]
    rw [hu] at i1 i2
    refine ⟨?_, h2.trans i2⟩
    rw [World.setCells]
    rwa [show (g.L o).off + (off + 1) = (g.L o).off + off + 1 by omega] at i1
  | [], _ :: _, _, _, _, _, _, _, _, _, hl, _ => by simp at hl
  | _ :: _, [], _, _, _, _, _, _, _, _, hl, _ => by simp at hl

def StStore (n : Nat) (a x : AV) (σ : Hp) (v : AV) (rd : List Nat) (δ : Option (Nat × Ob)) : Prop :=
  match a with
  | .ptr o ver off => rd = [] ∧ v = .tup [] ∧ ∃ cs, σ o = .arr ver cs ∧ x.cells.length = n ∧ off + n ≤ cs.length ∧ x.cells.all AV.one = true ∧ δ = some (o, .arr ver (splice cs off x.cells))
  | _ => False

theorem AV.ne_junk_of_one {x : AV} (h : x.cells.all AV.one = true) : x ≠ .junk := by rintro rfl; simp [AV.cells, AV.one] at h

theorem VR.cells_one {pm L σ} {x : AV} {u : Value} (h : VR pm L σ x u) (h1 : x.cells.all AV.one = true) : ∀ v ∈ u.cells.toList, v.oneCell' = true := by
  obtain ⟨hs, hv⟩ := h.cells (AV.ne_junk_of_one h1)
  intro v hv'
  obtain ⟨j, hj, rfl⟩ := List.getElem_of_mem hv'
  simp at hj
  have := hv j (by omega) hj
  simp only [Array.getElem_toList]
  refine this.one ?_
  exact List.all_eq_true.1 h1 _ (List.getElem_mem _)

theorem sound_store {P g σ w n a x ua ux t i v rd δ} (hw : WRel g σ w) (hi : P.info? t = some i) (hn : i.size = n) (ha : VR g.pm g.L σ a ua) (hx : VR g.pm g.L σ x ux) (h : StStore n a x σ v rd δ) :
    Goes P g σ w (do Instr.storeAt t ua ux; pure .skip) v δ := by
  unfold StStore at h
  split at h
  · rename_i o ver off
    obtain ⟨_, rfl, cs, hσ, hl, hoff, hone, rfl⟩ := h
    cases ha with
    | ptr hp =>
      rename_i ad
      have k := hw.ob o ver cs hσ
      simp only [PtrOK, hσ] at hp
      obtain ⟨_, rfl⟩ : _ ∧ ad = _ := ⟨trivial, hp.2 trivial⟩
      obtain ⟨hs, hv⟩ := hx.cells (AV.ne_junk_of_one hone)
      have hst := WRel.stores x.cells ux.cells.toList hw hσ off (by have := k.len; omega) (by simpa using hs) (fun j h1 h2 => by simpa using hv j h1 (by simpa using h2))
      have hrun := run_storeCells_cells (P := P) (g.L o).b ((g.L o).off + off) ux.cells.toList 0 w (fun j hj => by
          simp at hj
          obtain ⟨v, hv, _⟩ := k.there (off + j) (by have := k.len; omega)
          rw [show (g.L o).off + off + 0 + j = (g.L o).off + (off + j) by omega, hv]; rfl) (fun j hj => by
          simp at hj
          have := k.free (off + j) (by have := k.len; omega)
          rwa [show (g.L o).off + off + 0 + j = (g.L o).off + (off + j) by omega]) (hx.cells_one hone)
      refine ⟨.skip, undef, _, g, ?_, .inr ⟨rfl, rfl⟩, hst.1, hst.2, .tup rfl (by simp)⟩
      simp only [Nat.add_zero] at hrun
      have hsz : ux.cells.size = i.size := by omega
      simp [Instr.storeAt, Instr.sureAddr, storeVar, run_sizeOf hi, hsz, hrun]
  · exact h.elim

/-! ### new objects -/
theorem ap_some (σ : Hp) (o : Nat) (x : Ob) : ap σ (some (o, x)) = upd σ o x := rfl

def StNew (cs : List AV) (σ : Hp) (v : AV) (rd : List Nat) (δ : Option (Nat × Ob)) : Prop :=
  rd = [] ∧ ((∃ o, σ o = .virgin ∧ v = .ptr o 0 0 ∧ δ = some (o, .arr 0 cs)) ∨ (v = .cptr cs 0 ∧ δ = none))

theorem PtrOK_new {g : Gh} {σ : Hp} {o : Nat} {cs : List AV} {l : Loc} {off : Nat} : PtrOK (upd g.L o l) (upd σ o (.arr 0 cs)) o 0 off ⟨l.b, l.off + off, none⟩ := by
  simp [PtrOK]

theorem sound_new {P g σ w v rd δ} {cs : List AV} {c : Array Value} {t : TypeId} (hw : WRel g σ w) (hl : c.size = cs.length) (hc : ∀ j (h : j < cs.length) (h' : j < c.size), VR g.pm g.L σ (cs[j]) (c[j]))
    (h : StNew cs σ v rd δ) : Goes P g σ w (do pure (.value (.pointer (some (← newRow t c))))) v δ := by
  obtain ⟨_, h | h⟩ := h
  · obtain ⟨o, hv, rfl, rfl⟩ := h
    obtain ⟨h1, h2⟩ := hw.alloc_ob (o := o) (ver := 0) c t cs (by simp [hv, ObExt]) (by omega) hc
    exact ⟨_, _, _, _, by simp [newRow], .inl rfl, h1, h2, .ptr (PtrOK_new (l := ⟨w.heap.size, 0, c.size⟩) (off := 0))⟩
  · obtain ⟨rfl, rfl⟩ := h
    obtain ⟨g', h1, h2, h3⟩ := hw.alloc_tell c t
    refine ⟨.value (.pointer (some ⟨w.heap.size, 0, none⟩)), _, _, g', by simp [newRow], .inl rfl, h1, h2, ?_⟩
    have := VR.cptr (pm := g'.pm) (L := g'.L) (σ := ap σ none) (cs := cs) (off := 0) (b := w.heap.size) (o := 0) (fun j => c.getD j undef) (fun j hj => by
      have := h3 j (by omega)
      simpa [Array.getD, show j < c.size by omega] using this) (fun j hj => by
      have := hc j hj (by omega)
      simpa [Array.getD, show j < c.size by omega] using this.mono (σ' := ap σ none) h2.ext)
    simpa using this

end Go.Ab
/- The operations that touch no object: numbers, comparisons, addresses, slices of slices. -/
namespace Go.Ab
set_option linter.constructorNameAsVariable false
set_option linter.unusedSimpArgs false
set_option linter.unusedVariables false
open Go.RowKit
set_option linter.unusedVariables false
set_option linter.unusedSimpArgs false

/-! ### integers -/
def intBin (op : BinOp) (k : IntKind) (x y : Int) : Option AV :=
  match op with
  | .add => some (.int k (k.wrap (x + y)))
  | .sub => some (.int k (k.wrap (x - y)))
  | .mul => some (.int k (k.wrap (x * y)))
  | .quo => if y = 0 then none else some (.int k (k.wrap (x.tdiv y)))
  | .rem => if y = 0 then none else some (.int k (x.tmod y))
  | .and => some (.int k (k.wrap (BitVec.ofInt k.bits x &&& BitVec.ofInt k.bits y).toNat))
  | .or => some (.int k (k.wrap (BitVec.ofInt k.bits x ||| BitVec.ofInt k.bits y).toNat))
  | .xor => some (.int k (k.wrap (BitVec.ofInt k.bits x ^^^ BitVec.ofInt k.bits y).toNat))
  | .andNot => some (.int k (k.wrap (BitVec.ofInt k.bits x &&& ~~~ BitVec.ofInt k.bits y).toNat))
  | .eql => some (.bool (x == y))
  | .neq => some (.bool (x != y))
  | .lss => some (.bool (decide (x < y)))
  | .leq => some (.bool (decide (x ≤ y)))
  | .gtr => some (.bool (decide (x > y)))
  | .geq => some (.bool (decide (x ≥ y)))
  | _ => none

def shBin (op : BinOp) (k : IntKind) (x y : Int) : Option AV :=
  if y < 0 then none else
  match op with
  | .shl => some (.int k (k.wrap (x * 2 ^ (min y.toNat k.bits))))
  | .shr => some (.int k (x.fdiv (2 ^ (min y.toNat k.bits))))
  | _ => none

def strBin (op : BinOp) (x y : ByteArray) : Option AV :=
  match op with
  | .add => some (.str (x ++ y))
  | .eql => some (.bool (x.toList == y.toList))
  | .neq => some (.bool (!(x.toList == y.toList)))
  | .lss => some (.bool (Op.bytesLess x.toList y.toList))
  | .leq => some (.bool (Op.bytesLess x.toList y.toList || x.toList == y.toList))
  | .gtr => some (.bool (!(Op.bytesLess x.toList y.toList || x.toList == y.toList)))
  | .geq => some (.bool (!Op.bytesLess x.toList y.toList))
  | _ => none

def eqOf (op : BinOp) (b : Bool) : Option AV :=
  match op with
  | .eql => some (.bool b)
  | .neq => some (.bool (!b))
  | _ => none

/-- What the type says of '==': 'flat': a struct of numbers, truth values, strings. -/
inductive EqC where
  | none | bool | ptr | iface | flat | ifn
  deriving DecidableEq
def EqC.isI : EqC → Bool
  | .iface | .ifn => true
  | _ => false

def AV.scalar : AV → Bool
  | .int _ _ | .bool _ | .str _ => true
  | _ => false

def AV.same : AV → AV → Bool
  | .int k a, .int k' b => k == k' && a == b
  | .bool a, .bool b => a == b
  | .str a, .str b => a.toList == b.toList
  | _, _ => false

def sameAll : List AV → List AV → Bool
  | [], [] => true
  | x :: xs, y :: ys => x.same y && sameAll xs ys
  | _, _ => false

def StBin (c : EqC) (op : BinOp) (x y : AV) (v : AV) : Prop :=
  match x, y with
  | .int k a, .int k' b =>
    match op with
    | .shl | .shr => shBin op k a b = some v
    | _ => k = k' ∧ intBin op k a b = some v
  | .str a, .str b => (op = .add → a.size + b.size ≤ 9223372036854775807) ∧ strBin op a b = some v
  | .bool a, .bool b => c = .bool ∧ eqOf op (a == b) = some v
  | .nilp, .nilp => c = .ptr ∧ eqOf op true = some v
  | .ptr _ _ _, .nilp | .cptr _ _, .nilp | .nilp, .ptr _ _ _ | .nilp, .cptr _ _ => c = .ptr ∧ eqOf op false = some v
  | .iface _ _, .nili | .nili, .iface _ _ => c.isI = true ∧ eqOf op false = some v
  | .nili, .nili => c = .ifn ∧ eqOf op true = some v
  | .nils, .nils => c = .flat ∧ eqOf op true = some v
  | .snn _, .nils | .sl _ _ (_ :: _), .nils | .ref _ _ _ _ _, .nils => c = .flat ∧ eqOf op false = some v
  | _, _ => False

def AV.val1 : AV → Value
  | .int k n => .int k n
  | .bool b => .bool b
  | .str s => .string s
  | _ => undef

theorem VR.val1 {pm L σ} {v : AV} (h : v.scalar = true) : VR pm L σ v v.val1 := by
  cases v <;> simp [AV.scalar] at h <;> constructor

theorem run_intBin {P : Program} {op : BinOp} {k : IntKind} {t : TypeId} {a b : Int} {v : AV} (w : World) (hs : op ≠ .shl) (hs' : op ≠ .shr) (h : intBin op k a b = some v) :
    (binOp op t (.int k a) (.int k b)).run P w = .ok v.val1 w ∧ v.scalar = true := by
  cases op <;> simp only [intBin] at h <;> first
    | (cases h; done)
    | (exact (hs rfl).elim)
    | (exact (hs' rfl).elim)
    | (split at h <;> cases h; rename_i hy; exact ⟨by simp [binOp, Op.intDiv, hy, AV.val1], rfl⟩)
    | (cases h; exact ⟨by simp [binOp, Op.intArith, Op.intBits, Op.intCmp, AV.val1], rfl⟩)

theorem run_shBin {P : Program} {op : BinOp} {k k' : IntKind} {t : TypeId} {a b : Int} {v : AV} (w : World) (hop : op = .shl ∨ op = .shr) (h : shBin op k a b = some v) :
    (binOp op t (.int k a) (.int k' b)).run P w = .ok v.val1 w ∧ v.scalar = true := by
  unfold shBin at h
  split at h
  · cases h
  · rename_i hb
    rcases hop with rfl | rfl
    · cases h; exact ⟨by simp [binOp, Op.shift, hb, AV.val1], rfl⟩
    · cases h; exact ⟨by simp [binOp, Op.shift, hb, AV.val1], rfl⟩

theorem run_strBin {P : Program} {op : BinOp} {t : TypeId} {a b : ByteArray} {v : AV} (w : World) (hadd : op = .add → a.size + b.size ≤ 9223372036854775807) (h : strBin op a b = some v) :
    (binOp op t (.string a) (.string b)).run P w = .ok v.val1 w ∧ v.scalar = true := by
  cases op <;> simp only [strBin] at h <;> first
    | (cases h; done)
    | (cases h
       have hk : IntKind.i64.max = 9223372036854775807 := by decide
       have := hadd rfl
       refine ⟨?_, rfl⟩
       have hn : ¬ (((a.size + b.size : Nat) : Int) > 9223372036854775807) := by omega
       simp only [binOp, Op.stringOp, hk]
       rw [if_neg hn]; rfl)
    | (cases h; exact ⟨by simp [binOp, Op.stringOp, AV.val1], rfl⟩)

/-- What the type must be for the class. -/
def EqC.fits (P : Program) (t : TypeId) : EqC → Prop
  | .none => True
  | .bool => P.underlying t = some .bool
  | .ptr => ∃ e, P.underlying t = some (.pointer e)
  | .iface | .ifn => ∃ ms, P.underlying t = some (.interface ms)
  | .flat => ∃ e, P.underlying t = some (.slice e)

theorem run_eqOf {P : Program} {op : BinOp} {t : TypeId} {x y : Value} {b : Bool} {v : AV} (w : World) (h : eqOf op b = some v)
    (hx : match x with | .bool _ | .pointer _ | .nilIface | .iface _ _ | .agg _ | .slice _ _ _ => True | _ => False)
    (hq : (Op.equal t x y).run P w = .ok b w) :
    (binOp op t x y).run P w = .ok v.val1 w ∧ v.scalar = true := by
  cases op <;> simp only [eqOf] at h <;> first
    | (cases h; done)
    | (cases h
       refine ⟨?_, rfl⟩
       cases x <;> first | (exact hx.elim) | (simp [binOp, hq, AV.val1]))

def NoGuard (x y : Value) : Prop := match x, y with | .nilIface, .nilIface => False | .agg _, .agg _ => False | _, _ => True

theorem run_eqGuard_ok {P : Program} {op : BinOp} {t : TypeId} {ox oy : Operand} {x y : Value} (w : World)
    (hx : NoGuard x y) : (eqGuard op t ox oy x y).run P w = .ok () w := by
  cases op <;> first | rfl | (cases x <;> first | rfl | (cases y <;> first | exact hx.elim | rfl))

theorem run_equalIn_nilptr {P : Program} (d : Nat) {t e : TypeId} (h : P.underlying t = some (.pointer e)) (a b : Option Addr) (hab : a = none ∨ b = none) (w : World) :
    (Op.equalIn (d + 1) t (.pointer a) (.pointer b)).run P w = .ok (a.isNone && b.isNone) w := by
  cases a <;> cases b <;> simp_all [Op.equalIn, run_underlying h]

theorem run_equalIn_ifnil {P : Program} (d : Nat) {t : TypeId} {ms} (h : P.underlying t = some (.interface ms)) (u : TypeId) (x : Value) (w : World) :
    (Op.equalIn (d + 1) t (.iface u x) .nilIface).run P w = .ok false w ∧ (Op.equalIn (d + 1) t .nilIface (.iface u x)).run P w = .ok false w := by
  constructor <;> simp [Op.equalIn, run_underlying h]

theorem run_equalIn_nn {P : Program} (d : Nat) {t : TypeId} {ms} (h : P.underlying t = some (.interface ms)) (w : World) :
    (Op.equalIn (d + 1) t .nilIface .nilIface).run P w = .ok true w := by simp [Op.equalIn, run_underlying h]

theorem run_equalIn_slnil {P : Program} (d : Nat) {t e : TypeId} (h : P.underlying t = some (.slice e)) (a : Option Addr) (n c : Nat) (w : World) :
    (Op.equalIn (d + 1) t (.slice a n c) (.slice none 0 0)).run P w = .ok a.isNone w := by
  cases a <;> simp [Op.equalIn, run_underlying h]

theorem isI_fits {P : Program} {t : TypeId} {c : EqC} (h : c.isI = true) (hc : EqC.fits P t c) : ∃ ms, P.underlying t = some (.interface ms) := by
  cases c <;> simp [EqC.isI] at h <;> exact hc
theorem run_eqGuard_const {P : Program} {op : BinOp} {t : TypeId} {ox oy : Operand} (w : World) (h : ∃ u, oy = .const u) : (eqGuard op t ox oy .nilIface .nilIface).run P w = .ok () w := by
  obtain ⟨u, rfl⟩ := h
  cases op <;> first | rfl | (unfold eqGuard; simp)

theorem sound_bin {P g σ w c op xt x y ux uy v} {ox oy : Operand} (hk : c = .ifn → ∃ u, oy = .const u) (hw : WRel g σ w) (hc : EqC.fits P xt c) (hx : VR g.pm g.L σ x ux) (hy : VR g.pm g.L σ y uy) (h : StBin c op x y v) :
    Goes P g σ w (do pure (.value (← (do eqGuard op xt ox oy ux uy; binOp op xt ux uy)))) v none := by
  have key : NoGuard ux uy → ((binOp op xt ux uy).run P w = .ok v.val1 w ∧ v.scalar = true) → Goes P g σ w (do pure (.value (← (do eqGuard op xt ox oy ux uy; binOp op xt ux uy)))) v none := fun h1 h2 =>
    Goes.val hw (u := v.val1) (by simp [run_eqGuard_ok w h1, h2.1]) (VR.val1 h2.2)
  unfold StBin at h
  split at h
  · cases hx; cases hy
    split at h
    · exact key trivial (run_shBin w (.inl rfl) h)
    · exact key trivial (run_shBin w (.inr rfl) h)
    · rename_i n1 n2
      obtain ⟨rfl, h⟩ := h
      exact key trivial (run_intBin w (by rintro rfl; exact n1 rfl) (by rintro rfl; exact n2 rfl) h)
  · cases hx; cases hy
    obtain ⟨ha, h⟩ := h
    exact key trivial (run_strBin w ha h)
  · cases hx; cases hy
    obtain ⟨rfl, h⟩ := h
    exact key trivial (run_eqOf w h trivial (run_equal_bool w xt _ _ hc))
  · cases hx; cases hy
    obtain ⟨rfl, h⟩ := h
    obtain ⟨e, hc⟩ := hc
    exact key trivial (run_eqOf w h trivial (run_equalIn_nilptr 9999 hc none none (.inl rfl) w))
  · cases hx; cases hy
    obtain ⟨rfl, h⟩ := h
    obtain ⟨e, hc⟩ := hc
    exact key trivial (run_eqOf w h trivial (run_equalIn_nilptr 9999 hc _ none (.inr rfl) w))
  · cases hx; cases hy
    obtain ⟨rfl, h⟩ := h
    obtain ⟨e, hc⟩ := hc
    exact key trivial (run_eqOf w h trivial (run_equalIn_nilptr 9999 hc _ none (.inr rfl) w))
  · cases hx; cases hy
    obtain ⟨rfl, h⟩ := h
    obtain ⟨e, hc⟩ := hc
    exact key trivial (run_eqOf w h trivial (run_equalIn_nilptr 9999 hc none _ (.inl rfl) w))
  · cases hx; cases hy
    obtain ⟨rfl, h⟩ := h
    obtain ⟨e, hc⟩ := hc
    exact key trivial (run_eqOf w h trivial (run_equalIn_nilptr 9999 hc none _ (.inl rfl) w))
  · cases hx; cases hy
    obtain ⟨hci, h⟩ := h
    obtain ⟨e, hc⟩ := isI_fits hci hc
    exact key trivial (run_eqOf w h trivial (run_equalIn_ifnil 9999 hc _ _ w).1)
  · cases hx; cases hy
    obtain ⟨hci, h⟩ := h
    obtain ⟨e, hc⟩ := isI_fits hci hc
    exact key trivial (run_eqOf w h trivial (run_equalIn_ifnil 9999 hc _ _ w).2)
  · cases hx; cases hy
    obtain ⟨rfl, h⟩ := h
    obtain ⟨e, hc⟩ := hc
    have h2 := run_eqOf (P := P) (t := xt) (x := .nilIface) (y := .nilIface) w h trivial (run_equalIn_nn 9999 hc w)
    exact Goes.val hw (u := v.val1) (by simp [run_eqGuard_const w (hk rfl), h2.1]) (VR.val1 h2.2)
  · cases hx; cases hy
    obtain ⟨rfl, h⟩ := h
    obtain ⟨e, hc⟩ := hc
    exact key trivial (run_eqOf w h trivial (run_equalIn_slnil 9999 hc none _ _ w))
  · obtain ⟨rfl, h⟩ := h
    obtain ⟨e, hc⟩ := hc
    cases hy
    cases hx <;> exact key trivial (run_eqOf w h trivial (run_equalIn_slnil 9999 hc _ _ _ w))
  · obtain ⟨rfl, h⟩ := h
    obtain ⟨e, hc⟩ := hc
    cases hy
    cases hx <;> exact key trivial (run_eqOf w h trivial (run_equalIn_slnil 9999 hc _ _ _ w))
  · obtain ⟨rfl, h⟩ := h
    obtain ⟨e, hc⟩ := hc
    cases hy
    cases hx <;> exact key trivial (run_eqOf w h trivial (run_equalIn_slnil 9999 hc _ _ _ w))
  · exact h.elim

/-! ### unary, conversions, and other plain things -/
def StUn (op : UnOp) (x v : AV) : Prop :=
  match op, x with
  | .not, .bool b => v = .bool (!b)
  | .neg, .int k n => v = .int k (k.wrap (0 - n))
  | .xor, .int k n => intBin .xor k (if k.signed then -1 else k.max) n = some v
  | _, _ => False

theorem sound_un {P g σ w op x u v} (hw : WRel g σ w) (hx : VR g.pm g.L σ x u) (h : StUn op x v) : Goes P g σ w (do pure (.value (← Op.unary op u))) v none := by
  unfold StUn at h
  split at h
  · cases hx; subst h; exact Goes.val hw (u := .bool _) (by simp [Op.unary]) .bool
  · cases hx; subst h; exact Goes.val hw (u := .int _ _) (by simp [Op.unary, Op.intArith]) .int
  · cases hx
    simp only [intBin, Option.some.injEq] at h; subst h
    exact Goes.val hw (u := .int _ _) (by simp [Op.unary, Op.intBits]) .int
  · exact h.elim

theorem sound_convInt {P g σ w src dst k x u v} (hw : WRel g σ w) (hs : ∃ d, P.underlying src = some d) (hd : P.underlying dst = some (.int k)) (hx : VR g.pm g.L σ x u)
    (h : match x with | .int _ n => v = .int k (k.wrap n) | _ => False) : Goes P g σ w (do pure (.value (← convert src dst u))) v none := by
  split at h
  · cases hx; subst h
    obtain ⟨d, hs⟩ := hs
    exact Goes.val hw (u := .int k _) (by simp [convert, run_underlying hs, run_underlying hd, Conv.intToInt]) .int
  · exact h.elim

theorem sound_convStr {P g σ w src dst d x u v} (hw : WRel g σ w) (hs : P.underlying src = some d) (hd : P.underlying dst = some .string) (hx : VR g.pm g.L σ x u)
    (h : match x with | .str s => v = .str s | _ => False) : Goes P g σ w (do pure (.value (← convert src dst u))) v none := by
  split at h
  · cases hx; subst h
    exact Goes.val hw (u := .string _) (by simp [convert, run_underlying hs, run_underlying hd]) .str
  · exact h.elim

def StNchk (x v : AV) : Prop :=
  match x with
  | .ptr _ _ _ | .cptr _ _ | .iface _ _ | .fn (.func _) _ _ => v = x
  | _ => False

/-! ### addresses -/
def StFad (fo : Nat) (x v : AV) : Prop :=
  match x with
  | .ptr o ver off => v = .ptr o ver (off + fo)
  | .cptr cs off => v = .cptr cs (off + fo)
  | _ => False

theorem PtrOK.shift {L σ o ver off a} (n : Nat) (h : PtrOK L σ o ver off a) : ∃ a', a.add n = a' ∧ PtrOK L σ o ver (off + n) a' := by
  refine ⟨_, rfl, ?_⟩
  unfold PtrOK at *
  cases hs : σ o <;> simp only [hs] at h ⊢
  · exact h
  · refine ⟨h.1, fun e => ?_⟩
    rw [h.2 e, Addr.add_lit]
    congr 1; omega

theorem cptr_shift {pm L σ cs off u} (n : Nat) (h : VR pm L σ (.cptr cs off) u) : ∃ a, u = .pointer (some a) ∧ VR pm L σ (.cptr cs (off + n)) (.pointer (some (a.add n))) := by
  cases h with
  | cptr us hp hv =>
    rename_i b o
    refine ⟨_, rfl, ?_⟩
    rw [Addr.add_lit, show o + off + n = o + (off + n) by omega]
    exact .cptr us hp hv

theorem sound_fad {P g σ w s fi x u v fields f} (hw : WRel g σ w) (hu : P.underlying s = some (.struct fields)) (hf : fields[fi]? = some f) (hz : ∃ i, P.info? f.type = some i ∧ i.size ≠ 0)
    (hx : VR g.pm g.L σ x u) (h : StFad f.offset x v) : Goes P g σ w (do pure (.value (← Instr.fieldAt s u fi))) v none := by
  obtain ⟨i, hi, hz⟩ := hz
  have hrun : ∀ a : Addr, (Instr.fieldAt s (.pointer (some a)) fi).run P w = .ok (.pointer (some (a.add f.offset))) w := fun a => by
    simp [Instr.fieldAt, run_underlying hu, hf, Instr.sureAddr, fieldPlace, run_sizeOf hi, hz]
  unfold StFad at h
  split at h
  · subst h
    cases hx with
    | ptr hp =>
      obtain ⟨a', e, k⟩ := hp.shift f.offset
      exact Goes.val hw (hrun _) (by rw [e]; exact .ptr k)
  · subst h
    obtain ⟨a, rfl, h2⟩ := cptr_shift f.offset hx
    exact Goes.val hw (hrun _) h2
  · exact h.elim

/-- An index into a slice, or into an array behind a pointer. -/
def StIad (arr : Option Nat) (esh : Option Nat) (x i v : AV) : Prop :=
  match arr, x, i with
  | none, .sl _ sz xs, .int _ n => sz = szOf esh ∧ 0 ≤ n ∧ n < xs.length ∧ v = .cptr (xs.getD n.toNat .junk).cells 0
  | none, .ref o ver off m e, .int _ n => e = esh ∧ 0 ≤ n ∧ n < m ∧ v = .ptr o ver (off + n.toNat * szOf esh)
  | some len, .ptr o ver off, .int _ n => 0 ≤ n ∧ n < len ∧ v = .ptr o ver (off + n.toNat * szOf esh)
  | some len, .cptr cs off, .int _ n => 0 ≤ n ∧ n < len ∧ v = .cptr cs (off + n.toNat * szOf esh)
  | _, _, _ => False

theorem RefOK.ptr {L σ o ver off n sz a cap} (h : RefOK L σ o ver off n sz a cap) (m : Nat) : PtrOK L σ o ver (off + m) (a.add m) := by
  unfold RefOK at h
  unfold PtrOK
  cases hs : σ o <;> simp only [hs] at h ⊢
  · exact h
  · refine ⟨h.1, fun e => ?_⟩
    rw [(h.2 e).1, Addr.add_lit]
    congr 1; omega

theorem sound_iad {P g σ w t x i ux ui v elem esh arr} (hw : WRel g σ w) (he : eshOf P elem = some esh)
    (ht : P.underlying t = some (match arr with | none => .slice elem | some n => .array n elem))
    (hx : VR g.pm g.L σ x ux) (hi : VR g.pm g.L σ i ui) (h : StIad arr esh x i v) : Goes P g σ w (do pure (.value (← Instr.indexAt t ux ui))) v none := by
  obtain ⟨inf, hinf, hsz⟩ := eshOf_info he
  have hsl : ∀ (a : Addr) (len cap : Nat) (k : IntKind) (n : Int), arr = none → 0 ≤ n → n < len → (Instr.indexAt t (.slice (some a) len cap) (.int k n)).run P w = .ok (.pointer (some (a.add (n.toNat * szOf esh)))) w := fun a len cap k n ha h0 h1 => by
    subst ha
    simp [Instr.indexAt, asIntOf, run_underlying ht, h0, h1, run_sizeOf hinf, hsz]
  have har : ∀ (a : Addr) (len : Nat) (k : IntKind) (n : Int), arr = some len → 0 ≤ n → n < len → (Instr.indexAt t (.pointer (some a)) (.int k n)).run P w = .ok (.pointer (some (a.add (n.toNat * szOf esh)))) w := fun a len k n ha h0 h1 => by
    subst ha
    simp [Instr.indexAt, asIntOf, run_underlying ht, Instr.sureAddr, h0, h1, run_sizeOf hinf, hsz]
  unfold StIad at h
  split at h
  · rename_i ex sz xs k n
    obtain ⟨rfl, h0, h1, rfl⟩ := h
    cases hi
    cases hx with
    | slnil => simp at h1; omega
    | slz => simp at h1; omega
    | sl us hc hex hz hp hv =>
      rename_i b o cap
      have hlt : n.toNat < xs.length := by omega
      refine Goes.val hw (hsl _ _ _ _ _ rfl h0 h1) ?_
      rw [Addr.add_lit]
      have := VR.cptr (pm := g.pm) (L := g.L) (σ := σ) (cs := (xs.getD n.toNat .junk).cells) (off := 0) (b := b) (o := o + n.toNat * szOf esh) (us n.toNat)
        (fun j hj => hp n.toNat j hlt (by simpa [hlt, hz] using hj)) (fun j hj => by
          have := hv n.toNat hlt j (by simpa [hlt] using hj)
          simpa [hlt] using this)
      exact this
  · obtain ⟨rfl, h0, h1, rfl⟩ := h
    cases hi
    cases hx with
    | ref hn hs hr => exact Goes.val hw (hsl _ _ _ _ _ rfl h0 h1) (.ptr (hr.ptr _))
    | refz hs hr => omega
  · obtain ⟨h0, h1, rfl⟩ := h
    cases hi
    cases hx with
    | ptr hp => exact Goes.val hw (har _ _ _ _ rfl h0 h1) (.ptr (by obtain ⟨a', e, k⟩ := hp.shift (_ * szOf esh); rw [e]; exact k))
  · obtain ⟨h0, h1, rfl⟩ := h
    cases hi
    obtain ⟨a, rfl, h2⟩ := cptr_shift (_ * szOf esh) hx
    exact Goes.val hw (har _ _ _ _ rfl h0 h1) h2
  · exact h.elim
end Go.Ab
/- Slices of slices and strings, indices into strings, fields, tuples, lengths, interfaces, functions. -/
namespace Go.Ab
set_option linter.constructorNameAsVariable false
set_option linter.unusedSimpArgs false
set_option linter.unusedVariables false
open Go.RowKit
set_option linter.unusedVariables false
set_option linter.unusedSimpArgs false

def loN : Option AV → Option Nat
  | none => some 0
  | some (.int _ i) => if 0 ≤ i then some i.toNat else none
  | some _ => none
def hiN (len : Nat) : Option AV → Option Nat
  | none => some len
  | some (.int _ i) => if 0 ≤ i then some i.toNat else none
  | some _ => none

inductive OVR (g : Gh) (σ : Hp) : Option AV → Option Value → Prop
  | none : OVR g σ none none
  | some {x u} (h : VR g.pm g.L σ x u) : OVR g σ (some x) (some u)

theorem run_bounds {P : Program} {g σ} {lo hi : Option AV} {lo' hi' : Option Value} {l h len cap : Nat} (isS : Bool) (hlo : OVR g σ lo lo') (hhi : OVR g σ hi hi')
    (el : loN lo = some l) (eh : hiN len hi = some h) (h1 : l ≤ h) (h2 : h ≤ len) (h3 : len ≤ cap) (w : World) :
    (Instr.sliceBounds isS len cap lo' hi' none).run P w = .ok (l, h, cap) w := by
  cases hhi with
  | none =>
    simp only [hiN, Option.some.injEq] at eh
    subst eh
    cases hlo with
    | none =>
      simp only [loN, Option.some.injEq] at el
      subst el
      simp [Instr.sliceBounds]
    | some hx =>
      cases hx <;> simp [loN] at el
      rename_i k n
      obtain ⟨e1, rfl⟩ := el
      simp [Instr.sliceBounds, run_sliceBound w k n len .sliceB e1 (by omega)]
  | some hy =>
    cases hy <;> simp [hiN] at eh
    rename_i k m
    obtain ⟨e2, rfl⟩ := eh
    cases hlo with
    | none =>
      simp only [loN, Option.some.injEq] at el
      subst el
      cases isS <;> simp [Instr.sliceBounds, run_sliceBound w k m cap _ e2 (by omega)]
    | some hx =>
      cases hx <;> simp [loN] at el
      rename_i k' n
      obtain ⟨e1, rfl⟩ := el
      cases isS <;> simp [Instr.sliceBounds, run_sliceBound w k m cap _ e2 (by omega), run_sliceBound w k' n m.toNat .sliceB e1 (by omega)]

def StSlc (esh : Option Nat) (x : AV) (lo hi mx : Option AV) (v : AV) : Prop :=
  match mx with
  | none =>
    match x with
    | .nils => ∃ l h, loN lo = some l ∧ hiN 0 hi = some h ∧ l ≤ h ∧ h ≤ 0 ∧ v = .nils
    | .sl _ sz xs => sz = szOf esh ∧ ∃ l h, loN lo = some l ∧ hiN xs.length hi = some h ∧ l ≤ h ∧ h ≤ xs.length ∧ v = .sl false sz ((xs.take h).drop l)
    | .ref o ver off n e => e = esh ∧ ∃ l h, loN lo = some l ∧ hiN n hi = some h ∧ l ≤ h ∧ h ≤ n ∧ (((l = 0 ∨ l < h) ∧ v = .ref o ver (off + l * szOf esh) (h - l) e) ∨ (l = h ∧ v = .sl false (szOf esh) []) ∨ (l = h ∧ v = .ref o ver (off + l * szOf esh) 0 e))
    | _ => False
  | some (.int _ m) => m = 0 ∧ loN lo = some 0 ∧ (∃ k, hi = some (.int k 0)) ∧
    match x with
    | .nils => v = .nils
    | .sl _ _ _ | .ref _ _ _ _ _ => v = .sl true (szOf esh) []
    | _ => False
  | some _ => False

theorem sl_empty {pm L σ} {ex : Bool} {sz : Nat} {a : Option Addr} {cap : Nat} (hs : ∀ b, a = some b → b.spot = none) (hcap : ex = true ∨ a = none → cap = 0) : VR pm L σ (.sl ex sz []) (.slice a 0 cap) := by
  cases a with
  | none =>
    have := hcap (.inr rfl)
    subst this
    exact .slnil
  | some b =>
    obtain ⟨b, o, s⟩ := b
    have := hs _ rfl
    simp at this
    subst this
    exact VR.sl (xs := []) (b := b) (o := o) (fun _ _ => undef) (by simp) (by intro h; have := hcap (.inl h); simpa using this) (by simp) (by simp) (by simp)

theorem sound_slc {P g σ w t elem esh x ux lo hi mx lo' hi' mx' v} (hw : WRel g σ w) (he : eshOf P elem = some esh) (ht : P.underlying t = some (.slice elem))
    (hx : VR g.pm g.L σ x ux) (hlo : OVR g σ lo lo') (hhi : OVR g σ hi hi') (hmx : OVR g σ mx mx') (h : StSlc esh x lo hi mx v) :
    Goes P g σ w (do pure (.value (← Instr.sliceAt t ux lo' hi' mx'))) v none := by
  obtain ⟨inf, hinf, hsz⟩ := eshOf_info he
  have hrun : ∀ (a : Option Addr) (len cap l h : Nat), loN lo = some l → hiN len hi = some h → l ≤ h → h ≤ len → len ≤ cap → mx' = none →
      (Instr.sliceAt t (.slice a len cap) lo' hi' mx').run P w = .ok (sliced a l h cap (szOf esh)) w := fun a len cap l h e1 e2 h1 h2 h3 hm => by
    subst hm
    have hb := run_bounds (P := P) true hlo hhi e1 e2 h1 h2 h3 w
    simp [Instr.sliceAt, Instr.slice, run_underlying ht, hb, run_sizeOf hinf, hsz, sliced]
  unfold StSlc at h
  split at h
  · cases hmx
    split at h
    · obtain ⟨l, h, e1, e2, h1, h2, rfl⟩ := h
      cases hx
      refine Goes.val hw (hrun none 0 0 l h e1 e2 h1 h2 (Nat.le_refl _) rfl) ?_
      obtain ⟨rfl, rfl⟩ : l = 0 ∧ h = 0 := by omega
      exact .nils
    · rename_i ex sz xs
      obtain ⟨rfl, l, h, e1, e2, h1, h2, rfl⟩ := h
      cases hx with
      | slnil =>
        refine Goes.val hw (hrun none 0 0 l h e1 e2 h1 h2 (Nat.le_refl _) rfl) ?_
        have : l = 0 ∧ h = 0 := by simp at h2; omega
        obtain ⟨rfl, rfl⟩ := this
        exact .slnil
      | slz =>
        refine Goes.val hw (hrun _ 0 0 l h e1 e2 h1 h2 (Nat.le_refl _) rfl) ?_
        have : l = 0 ∧ h = 0 := by simp at h2; omega
        obtain ⟨rfl, rfl⟩ := this
        simp only [sliced]
        exact .slz
      | sl us hc hex hz hp hv =>
        rename_i b o cap
        refine Goes.val hw (hrun _ _ _ l h e1 e2 h1 h2 hc rfl) ?_
        unfold sliced
        by_cases hml : cap = l
        · have : l = h := by omega
          subst this
          have hnil : (xs.take l).drop l = [] := by simp [List.drop_take]
          rw [if_pos hml, hnil, Nat.sub_self, hml, Nat.sub_self]
          exact sl_empty (by rintro b' ⟨⟩; rfl) (by simp)
        · rw [if_neg hml]
          have hlen : ((xs.take h).drop l).length = h - l := by simp; omega
          have hget : ∀ i (hi : i < ((xs.take h).drop l).length), ((xs.take h).drop l)[i] = xs[l + i]'(by omega) := fun i hi => by simp
          simp only [Option.map_some, Addr.add_lit]
          rw [← hlen]
          refine VR.sl (fun i j => us (l + i) j) (by omega) (by simp) (fun i hi => ?_) (fun i j hi hj => ?_) (fun i hi j hj => ?_)
          · rw [hget i hi]; exact hz _ _
          · have := hp (l + i) j (by omega) hj
            rwa [show o + l * szOf esh + i * szOf esh + j = o + (l + i) * szOf esh + j by rw [Nat.add_mul]; omega]
          · have := hv (l + i) (by omega) j (by rw [← hget i hi]; exact hj)
            simpa [hget i hi] using this
    · rename_i o ver off n e
      obtain ⟨rfl, l, h, e1, e2, h1, h2, hh⟩ := h
      cases hx with
      | ref hn hs hr =>
        rename_i a cap
        refine Goes.val hw (hrun _ _ _ l h e1 e2 h1 h2 hn rfl) ?_
        unfold sliced
        have gen : ∀ hk, (l = 0 ∨ l < h ∨ cap ≠ l) → hk = h - l → VR g.pm g.L σ (.ref o ver (off + l * szOf e) hk e) (.slice (if cap = l then some a else (some a).map (·.add (l * szOf e))) (h - l) (cap - l)) := fun hk hl ehk => by
          subst ehk
          have ha : (if cap = l then some a else (some a).map (·.add (l * szOf e))) = some (a.add (l * szOf e)) := by
            split
            · have : l = 0 := by omega
              subst this
              simp [Addr.add]
            · rfl
          rw [ha]
          refine .ref (by omega) (by unfold Addr.add; split <;> simp_all) ?_
          unfold RefOK at hr ⊢
          cases hs : σ o <;> simp only [hs] at hr ⊢
          · exact hr
          · refine ⟨hr.1, fun ee => ?_⟩
            obtain ⟨r1, r2, r3, r4⟩ := hr.2 ee
            have q1 : (h - l) * szOf e + l * szOf e = h * szOf e := by rw [← Nat.add_mul]; congr 1; omega
            have q2 : (cap - l) * szOf e + l * szOf e = cap * szOf e := by rw [← Nat.add_mul]; congr 1; omega
            have q3 : h * szOf e ≤ n * szOf e := Nat.mul_le_mul_right _ h2
            rw [r1, Addr.add_lit]
            exact ⟨by congr 1; omega, by omega, by omega, by omega⟩
        have hvk : VerOK σ o ver := by
          unfold RefOK at hr; unfold VerOK
          cases hs : σ o <;> simp only [hs] at hr ⊢
          · exact hr
          · exact hr.1
        rcases hh with ⟨hl, rfl⟩ | ⟨rfl, rfl⟩ | ⟨rfl, rfl⟩
        · exact gen _ (by omega) rfl
        · rw [Nat.sub_self]
          refine sl_empty ?_ ?_
          · intro b hb
            split at hb
            · cases hb; exact hs
            · cases hb; unfold Addr.add; split <;> simp_all
          · rintro (h | h)
            · cases h
            · split at h <;> cases h
        · by_cases hcl : cap = l
          · rw [if_pos hcl, Nat.sub_self, hcl, Nat.sub_self]
            exact .refz hs hvk
          · exact gen 0 (.inr (.inr hcl)) (by omega)
      | refz hs hr =>
        refine Goes.val hw (hrun _ 0 0 l h e1 e2 h1 h2 (Nat.le_refl _) rfl) ?_
        obtain ⟨rfl, rfl⟩ : l = 0 ∧ h = 0 := by omega
        simp only [sliced]
        rcases hh with ⟨hl, rfl⟩ | ⟨_, rfl⟩ | ⟨_, rfl⟩
        · exact .refz hs hr
        · exact sl_empty (by rintro b' ⟨⟩; exact hs) (by simp)
        · exact .refz hs hr
    · exact h.elim
  · obtain ⟨rfl, e1, e2, h⟩ := h
    cases hmx with
    | some hm =>
      cases hm
      rename_i k
      have hr0 : ∀ (a : Option Addr) (len cap : Nat), (Instr.sliceAt t (.slice a len cap) lo' hi' (some (.int k 0))).run P w = .ok (.slice a 0 0) w := fun a len cap => by
        obtain ⟨kk, rfl⟩ := e2
        cases hhi with
        | some hx =>
          cases hx
          have hb := run_sliceBound (P := P) w kk 0 0 .slice3B (by omega) (by omega)
          have hb' := run_sliceBound (P := P) w k 0 cap .slice3Acap (by omega) (by omega)
          have hbs : (Instr.sliceBounds true len cap lo' (some (.int kk 0)) (some (.int k 0))).run P w = .ok (0, 0, 0) w := by
            cases hlo with
            | none => simp [Instr.sliceBounds, hb', hb]
            | some hx =>
              cases hx <;> simp [loN] at e1
              rename_i k2 n2
              have hl := run_sliceBound (P := P) w k2 n2 0 .slice3C (by omega) (by omega)
              simp [Instr.sliceBounds, hb', hb, hl, show n2.toNat = 0 by omega]
          simp [Instr.sliceAt, Instr.slice, run_underlying ht, hbs, run_sizeOf hinf]
      split at h
      · cases hx; subst h; exact Goes.val hw (hr0 _ _ _) .nils
      · subst h
        cases hx with
        | slnil => exact Goes.val hw (hr0 _ _ _) .slnil
        | slz => exact Goes.val hw (hr0 _ _ _) .slz
        | sl us hc hex hz hp hv => exact Goes.val hw (hr0 _ _ _) (sl_empty (by rintro b' ⟨⟩; rfl) (by simp))
      · subst h
        cases hx with
        | ref hn hs hr => exact Goes.val hw (hr0 _ _ _) (sl_empty (by rintro b' ⟨⟩; exact hs) (by simp))
        | refz hs hr => exact Goes.val hw (hr0 _ _ _) (sl_empty (by rintro b' ⟨⟩; exact hs) (by simp))
      · exact h.elim
  · exact h.elim
end Go.Ab
/- Small operations, structs and slices that are laid out. -/
namespace Go.Ab
set_option linter.constructorNameAsVariable false
set_option linter.unusedSimpArgs false
set_option linter.unusedVariables false
open Go.RowKit
set_option linter.unusedVariables false
set_option linter.unusedSimpArgs false

/-! ### small ones -/
def partOf (sh : Option Nat) (cs : List AV) (off : Nat) (v : AV) : Prop :=
  match sh with
  | none => off < cs.length ∧ v = cs.getD off .junk
  | some n => off + n ≤ cs.length ∧ v = .agg ((cs.drop off).take n)

def VL (pm : Pm) (L : Nat → Loc) (σ : Hp) (cs : List AV) (vs : Array Value) : Prop :=
  vs.size = cs.length ∧ ∀ j (h : j < cs.length) (h' : j < vs.size), VR pm L σ (cs[j]) (vs[j])

theorem VL.mono {pm pm' L L' σ σ'} (e : Ext pm L σ pm' L' σ') {cs vs} (h : VL pm L σ cs vs) : VL pm' L' σ' cs vs := ⟨h.1, fun j a b => (h.2 j a b).mono e⟩

theorem run_part {P : Program} {pm L σ} {t : TypeId} {sh : Option Nat} (ht : eshOf P t = some sh) {cs : List AV} {vs : Array Value} (h : VL pm L σ cs vs) {off : Nat} {v : AV} (hv : partOf sh cs off v) (w : World) :
    ∃ u, (part t vs off).run P w = .ok u w ∧ VR pm L σ v u := by
  obtain ⟨inf, hinf, hsz⟩ := eshOf_info ht
  have hl := h.1
  cases sh with
  | none =>
    obtain ⟨h1, rfl⟩ := hv
    have hlt : off < vs.size := by omega
    exact ⟨vs[off], by simp [part, run_isAgg ht, hlt], by simpa [h1] using h.2 off h1 hlt⟩
  | some n =>
    obtain ⟨h1, rfl⟩ := hv
    simp only [szOf, Option.getD_some] at hsz
    refine ⟨.agg (vs.extract off (off + n)), by simp [part, run_isAgg ht, run_sizeOf hinf, hsz], .agg (by simp; omega) (fun j a b => ?_)⟩
    simp at a b
    simpa using h.2 (off + j) (by omega) (by omega)

theorem sound_fld {P g σ w s fi x u v fields f sh} (hw : WRel g σ w) (hu : P.underlying s = some (.struct fields)) (hf : fields[fi]? = some f) (hs : eshOf P f.type = some sh)
    (hx : VR g.pm g.L σ x u) (h : match x with | .agg cs => partOf sh cs f.offset v | _ => False) : Goes P g σ w (do pure (.value (← Instr.field s u fi))) v none := by
  split at h
  · cases hx with
    | agg hl hv =>
      obtain ⟨r, h1, h2⟩ := run_part hs ⟨hl, hv⟩ h w
      exact Goes.val hw (u := r) (by simp [Instr.field, run_underlying hu, hf, asAgg, h1]) h2
  · exact h.elim

def StIdxS (x i v : AV) : Prop :=
  match x, i with
  | .str s, .int _ n => 0 ≤ n ∧ n < s.size ∧ v = .int .u8 (s[n.toNat]?.getD 0).toNat
  | _, _ => False

def StIdxA (len : Nat) (sh : Option Nat) (x i v : AV) : Prop :=
  match x, i with
  | .agg cs, .int _ n => 0 ≤ n ∧ n < len ∧ partOf sh cs (n.toNat * szOf sh) v
  | _, _ => False

theorem sound_idx_str {P g σ w t x i ux ui v} (hw : WRel g σ w) (ht : P.underlying t = some .string) (hx : VR g.pm g.L σ x ux) (hi : VR g.pm g.L σ i ui)
    (h : StIdxS x i v) : Goes P g σ w (do pure (.value (← Instr.index t ux ui))) v none := by
  unfold StIdxS at h
  split at h
  · rename_i s k n
    obtain ⟨h0, h1, rfl⟩ := h
    cases hx; cases hi
    have hlt : n.toNat < s.size := by omega
    refine Goes.val hw (u := .int .u8 (s[n.toNat]?.getD 0).toNat) ?_ .int
    have e : s[n.toNat]? = some (s[n.toNat]'hlt) := by simp [hlt]
    simp [Instr.index, asIntOf, run_underlying ht, h0, e]
  · exact h.elim

theorem sound_idx_arr {P g σ w t x i ux ui v len elem sh} (hw : WRel g σ w) (ht : P.underlying t = some (.array len elem)) (he : eshOf P elem = some sh) (hx : VR g.pm g.L σ x ux) (hi : VR g.pm g.L σ i ui)
    (h : StIdxA len sh x i v) : Goes P g σ w (do pure (.value (← Instr.index t ux ui))) v none := by
  obtain ⟨inf, hinf, hsz⟩ := eshOf_info he
  unfold StIdxA at h
  split at h
  · rename_i cs k n
    obtain ⟨h0, h1, h2⟩ := h
    cases hi
    cases hx with
    | agg hl hv =>
      obtain ⟨r, r1, r2⟩ := run_part he ⟨hl, hv⟩ h2 w
      exact Goes.val hw (u := r) (by simp [Instr.index, asIntOf, run_underlying ht, h0, h1, run_sizeOf hinf, hsz, r1]) r2
  · exact h.elim

def StExt (i : Nat) (x v : AV) : Prop := match x with | .tup vs => i < vs.length ∧ v = vs.getD i .junk | _ => False

theorem sound_ext {P g σ w x u i v} (hw : WRel g σ w) (hx : VR g.pm g.L σ x u) (h : StExt i x v) :
    Goes P g σ w (do pure (.value (← Instr.extract u i))) v none := by
  unfold StExt at h
  split at h
  · obtain ⟨h1, rfl⟩ := h
    cases hx with
    | tup hl hv =>
      rename_i us
      have hlt : i < us.size := by omega
      exact Goes.val hw (u := us[i]) (by simp [Instr.extract, hlt]) (by simpa [h1] using hv i h1 hlt)
  · exact h.elim

inductive LenC where
  | str | sl | arr (n : Nat) | map
  deriving DecidableEq

def StLen (c : LenC) (x v : AV) : Prop :=
  match c, x with
  | .str, .str s => v = .int .i64 s.size
  | .sl, .nils => v = .int .i64 0
  | .sl, .sl _ _ xs => v = .int .i64 xs.length
  | .sl, .ref _ _ _ n _ => v = .int .i64 n
  | .arr n, _ => v = .int .i64 n
  | _, _ => False

def LenC.fits (P : Program) (t : TypeId) : LenC → Prop
  | .str => P.underlying t = some .string
  | .sl => ∃ e, P.underlying t = some (.slice e)
  | .arr n => (∃ e, P.underlying t = some (.array n e)) ∨ ∃ a e, P.underlying t = some (.pointer a) ∧ P.underlying a = some (.array n e)
  | .map => False

theorem sound_len {P g σ w c t ty x u v} (hw : WRel g σ w) (hc : LenC.fits P t c) (hx : VR g.pm g.L σ x u) (h : StLen c x v) :
    Goes P g σ w (do pure (.value (← Builtin.len_ #[t] ty #[u]))) v none := by
  have key : ∀ n : Int, v = .int .i64 n → (Builtin.len_ #[t] ty #[u]).run P w = .ok (.int .i64 n) w → Goes P g σ w (do pure (.value (← Builtin.len_ #[t] ty #[u]))) v none := fun n e hr => by
    subst e; exact Goes.val hw hr .int
  unfold StLen at h
  split at h
  · cases hx; exact key _ h (by simp [Builtin.len_, run_underlying hc, goInt])
  · obtain ⟨e, hc⟩ := hc
    cases hx; exact key _ h (by simp [Builtin.len_, run_underlying hc, goInt])
  · obtain ⟨e, hc⟩ := hc
    cases hx <;> first | exact key _ h (by simp [Builtin.len_, run_underlying hc, goInt]) | exact key 0 h (by simp [Builtin.len_, run_underlying hc, goInt])
  · obtain ⟨e, hc⟩ := hc
    cases hx <;> exact key _ h (by simp [Builtin.len_, run_underlying hc, goInt])
  · rcases hc with ⟨e, hc⟩ | ⟨a, e, hc, hc'⟩
    · refine key _ h ?_
      cases u <;> simp [Builtin.len_, run_underlying hc, goInt]
    · refine key _ h ?_
      cases u <;> simp [Builtin.len_, run_underlying hc, run_underlying hc', goInt]
  · exact h.elim

def StSls (lo hi : Option AV) (x v : AV) : Prop := match x with | .str s => ∃ l h, loN lo = some l ∧ hiN s.size hi = some h ∧ l ≤ h ∧ h ≤ s.size ∧ v = .str (s.extract l h) | _ => False

theorem sound_sls {P g σ w t x ux lo hi lo' hi' v} (hw : WRel g σ w) (ht : P.underlying t = some .string)
    (hx : VR g.pm g.L σ x ux) (hlo : OVR g σ lo lo') (hhi : OVR g σ hi hi')
    (h : StSls lo hi x v) :
    Goes P g σ w (do pure (.value (← Instr.sliceAt t ux lo' hi' none))) v none := by
  unfold StSls at h
  split at h
  · rename_i s
    obtain ⟨l, h, e1, e2, h1, h2, rfl⟩ := h
    cases hx
    have hb := run_bounds (P := P) false hlo hhi e1 e2 h1 h2 (Nat.le_refl _) w
    exact Goes.val hw (u := .string (s.extract l h)) (by simp [Instr.sliceAt, Instr.slice, run_underlying ht, hb]) .str
  · exact h.elim

theorem sound_mki {P g σ w t x u v} (hw : WRel g σ w) (ht : P.concrete t = true) (hx : VR g.pm g.L σ x u) (h : v = .iface t x) :
    Goes P g σ w (do pure (.value (← Instr.makeInterface t u))) v none := by
  subst h
  exact Goes.val hw (run_makeInterface w t u ht) (.iface hx)

/-! ### structs and slices that are laid out -/
theorem VL.set {pm L σ cs vs x u} (h : VL pm L σ cs vs) (hx : VR pm L σ x u) (i : Nat) : VL pm L σ (cs.set i x) (vs.setIfInBounds i u) := by
  refine ⟨by simpa using h.1, fun j a b => ?_⟩
  simp at a b
  by_cases hij : i = j
  · subst hij; simpa using hx
  · rw [List.getElem_set_ne hij, Array.getElem_setIfInBounds_ne (by simpa using b) hij]
    exact h.2 j a b

theorem VL.splice {pm L σ} : ∀ (xs : List AV) (us : List Value) (off : Nat) {cs vs} (_ : VL pm L σ cs vs), us.length = xs.length → (∀ j (a : j < xs.length) (b : j < us.length), VR pm L σ (xs[j]) (us[j])) → ∀ k,
    VL pm L σ (Go.Ab.splice cs (off + k) xs) ((us.zipIdx k).foldl (fun cs (c, j) => cs.setIfInBounds (off + j) c) vs)
  | [], [], _, _, _, h, _, _, _ => by simpa [Go.Ab.splice] using h
  | x :: xs, u :: us, off, cs, vs, h, hl, hv, k => by
    simp only [Go.Ab.splice, List.zipIdx_cons, List.foldl_cons]
    exact VL.splice xs us off (h.set (hv 0 (by simp) (by simp)) _) (by simpa using hl) (fun j a b => hv (j + 1) (by simpa using a) (by simpa using b)) (k + 1)
  | [], _ :: _, _, _, _, _, hl, _, _ => by simp at hl
  | _ :: _, [], _, _, _, _, hl, _, _ => by simp at hl

def AV.nj : AV → Bool
  | .junk => false
  | _ => true

/-- The parts of a struct or a slice, laid into its zero cells: place, size, value. -/
def fillA (cs : List AV) : List (Nat × Nat × AV) → Option (List AV)
  | [] => some cs
  | (off, size, x) :: r => if x.nj && x.cells.length == size && decide (off + size ≤ cs.length) then fillA (splice cs off x.cells) r else none

theorem run_fill {pm L σ} (place : Nat → Option (Nat × Nat)) : ∀ (ps : List (Nat × Nat × AV)) (qs : List (Nat × Value)) {cs : List AV} {vs : Array Value} {cs' : List AV},
    VL pm L σ cs vs → ps.length = qs.length → (∀ j (a : j < ps.length) (b : j < qs.length), place (qs[j]).1 = some ((ps[j]).1, (ps[j]).2.1) ∧ VR pm L σ (ps[j]).2.2 (qs[j]).2) →
    fillA cs ps = some cs' → ∃ vs', Instr.fill place vs qs = some vs' ∧ VL pm L σ cs' vs'
  | [], [], cs, vs, cs', h, _, _, e => by simp [fillA] at e; subst e; exact ⟨vs, rfl, h⟩
  | (off, size, x) :: ps, (i, u) :: qs, cs, vs, cs', h, hl, hv, e => by
    simp only [fillA] at e
    split at e
    · rename_i hc
      simp only [Bool.and_eq_true, beq_iff_eq, decide_eq_true_eq] at hc
      obtain ⟨⟨hnj, hsz⟩, hoff⟩ := hc
      obtain ⟨hp, hx⟩ := hv 0 (by simp) (by simp)
      simp at hp hx
      obtain ⟨c1, c2⟩ := hx.cells (by rintro rfl; simp [AV.nj] at hnj)
      have hs := VL.splice x.cells u.cells.toList off h (by simpa using c1) (fun j a b => by simpa using c2 j a (by simpa using b)) 0
      have ih := run_fill place ps qs hs (by simpa using hl) (fun j a b => hv (j + 1) (by simpa using a) (by simpa using b)) e
      obtain ⟨vs', e1, e2⟩ := ih
      refine ⟨vs', ?_, e2⟩
      simp only [Instr.fill, hp]
      rw [if_neg]
      · rw [← e1]
        congr 1
        rw [← Array.foldl_toList]
        simp [Array.toList_zipIdx]
      · have := h.1
        simp
        omega
    · cases e
  | [], _ :: _, _, _, _, _, hl, _, _ => by simp at hl
  | _ :: _, [], _, _, _, _, hl, _, _ => by simp at hl

/-- Flat cells, cut into elements. -/
def chunk (n : Nat) : Nat → List AV → List AV
  | 0, _ => []
  | k + 1, cs => .agg (cs.take n) :: chunk n k (cs.drop n)

def elemsOf (esh : Option Nat) (k : Nat) (cs : List AV) : List AV :=
  match esh with
  | none => cs.take k
  | some n => chunk n k cs

theorem chunk_length (n : Nat) : ∀ (k : Nat) (cs : List AV), (chunk n k cs).length = k
  | 0, _ => rfl
  | k + 1, cs => by simp [chunk, chunk_length n k]

theorem chunk_get (n : Nat) : ∀ (k : Nat) (cs : List AV) (i : Nat) (h : i < (chunk n k cs).length), (chunk n k cs)[i] = .agg ((cs.drop (i * n)).take n)
  | 0, _, i, h => by simp [chunk] at h
  | k + 1, cs, 0, h => by simp [chunk]
  | k + 1, cs, i + 1, h => by
    simp only [chunk, List.getElem_cons_succ]
    rw [chunk_get n k (cs.drop n) i (by simpa [chunk] using h), List.drop_drop, Nat.add_mul, Nat.one_mul, Nat.add_comm]

theorem elemsOf_length {esh k} {cs : List AV} (h : k * szOf esh ≤ cs.length) : (elemsOf esh k cs).length = k := by
  cases esh with
  | none => simp [elemsOf, szOf] at *; omega
  | some n => simp [elemsOf, chunk_length]

theorem AV.cells_one {x : AV} (h : x.one = true) : x.cells = [x] := by cases x <;> simp_all [AV.one, AV.cells]

/-- An element's cells are a piece of the flat ones. -/
theorem elemsOf_cells {esh k} {cs : List AV} (h : k * szOf esh ≤ cs.length) (h1 : cs.all AV.one = true) (i : Nat) (hi : i < (elemsOf esh k cs).length) :
    ((elemsOf esh k cs)[i]).cells = (cs.drop (i * szOf esh)).take (szOf esh) := by
  cases esh with
  | none =>
    have hi' := hi
    simp only [elemsOf, List.length_take] at hi'
    have hlt : i < cs.length := by omega
    simp only [elemsOf, szOf, Option.getD_none, Nat.mul_one]
    rw [AV.cells_one (List.all_eq_true.1 h1 _ (by simp))]
    rw [List.take_one, List.head?_drop]
    simp [hlt]
  | some n =>
    simp only [elemsOf, szOf, Option.getD_some] at *
    rw [chunk_get]; rfl

/-- Cells that are told for good read as a slice of elements. -/
theorem VR.told {pm L σ} {esh k cap} {cs : List AV} {b o : Nat} {us : Nat → Value} {ex : Bool} (h : k * szOf esh ≤ cs.length) (h1 : cs.all AV.one = true)
    (hp : ∀ j, j < k * szOf esh → pm b (o + j) = some (us j)) (hv : ∀ j (hj : j < cs.length), j < k * szOf esh → VR pm L σ (cs[j]) (us j)) (hc : k ≤ cap) (he : ex = true → cap = k) :
    VR pm L σ (.sl ex (szOf esh) (elemsOf esh k cs)) (.slice (some ⟨b, o, none⟩) k cap) := by
  have hl := elemsOf_length (esh := esh) (k := k) (cs := cs) h
  have hcells := elemsOf_cells (esh := esh) (k := k) (cs := cs) h h1
  have hle : ∀ i, i < k → i * szOf esh + szOf esh ≤ k * szOf esh := fun i hi => by
    rw [← Nat.succ_mul]; exact Nat.mul_le_mul_right _ hi
  have key := VR.sl (pm := pm) (L := L) (σ := σ) (ex := ex) (sz := szOf esh) (xs := elemsOf esh k cs) (b := b) (o := o) (cap := cap) (fun i j => us (i * szOf esh + j)) (by omega) (by intro e; rw [he e, hl]) (fun i hi => by
      rw [hcells i hi]; have := hle i (by omega); simp; omega) (fun i j hi hj => by
      have := hle i (by omega)
      have := hp (i * szOf esh + j) (by omega)
      rwa [← Nat.add_assoc] at this) (fun i hi j hj => by
      have := hle i (by omega)
      have hj' := hj
      rw [hcells i hi] at hj'
      simp at hj'
      have := hv (i * szOf esh + j) (by omega) (by omega)
      simpa [hcells i hi] using this)
  rwa [hl] at key
end Go.Ab
/- Structs and slices laid out, made, appended to, copied. -/
namespace Go.Ab
set_option linter.constructorNameAsVariable false
set_option linter.unusedSimpArgs false
set_option linter.unusedVariables false
open Go.RowKit
set_option linter.unusedVariables false
set_option linter.unusedSimpArgs false

/-! ### build -/
theorem sound_build {P g σ w t parts ps v} {z : Value} {inf : TypeInfo} {zc : List AV} (hw : WRel g σ w) (hi : P.info? t = some inf) (hz : inf.zero = some z) (hzc : ofLits z.cells.toList = some zc)
    (place : Nat → Option (Nat × Nat))
    (hplace : (∃ fields, P.underlying t = some (.struct fields) ∧ ∃ pl : Array (Nat × Nat), (fields.mapM fun f => do pure (f.offset, ← sizeOf f.type) : Sem (Array (Nat × Nat))).run P w = .ok pl w ∧ place = (pl[·]?)) ∨
      (∃ n e s, P.underlying t = some (.array n e) ∧ P.info? e = some s ∧ place = fun i => some (i * s.size, s.size)))
    (hl : ps.length = parts.size)
    (hp : ∀ j (a : j < ps.length) (b : j < parts.size), place (parts[j]).1 = some ((ps[j]).1, (ps[j]).2.1) ∧ VR g.pm g.L σ (ps[j]).2.2 (parts[j]).2)
    (h : ∃ cs, fillA zc ps = some cs ∧ v = .agg cs) :
    Goes P g σ w (do pure (.value (← Instr.build t parts))) v none := by
  obtain ⟨cs, hf, rfl⟩ := h
  obtain ⟨z1, z2⟩ := ofLits_VR (pm := g.pm) (L := g.L) (σ := σ) hzc
  have hvl : VL g.pm g.L σ zc z.cells := ⟨by simpa using z1, fun j a b => by have := z2 j a (by simpa using b); rwa [Array.getElem_toList] at this⟩
  obtain ⟨vs', e1, e2⟩ := run_fill place ps parts.toList hvl (by simpa using hl) (fun j a b => by simpa using hp j a (by simpa using b)) hf
  have hzr : (zeroValue t).run P w = .ok z w := by simp [zeroValue, typeInfo, hi, hz]
  refine Goes.val hw (u := .agg vs') ?_ (.agg e2.1 e2.2)
  rcases hplace with ⟨fields, hu, pl, hpl, rfl⟩ | ⟨n, e, s, hu, hs, rfl⟩
  · simp only [Instr.build, Sem.run_bind, hzr, Result.andThen_ok, run_underlying hu, hpl, e1, Sem.run_pure]
  · simp only [Instr.build, Sem.run_bind, hzr, Result.andThen_ok, run_underlying hu, run_sizeOf hs, e1, Sem.run_pure]

/-! ### slices that are laid out -/
/-- What a new slice may be: told for good, or an object of one's own. -/
def StNewSl (ex : Bool) (esh : Option Nat) (n : Nat) (cs : List AV) (σ : Hp) (v : AV) (rd : List Nat) (δ : Option (Nat × Ob)) : Prop :=
  rd = [] ∧ n * szOf esh ≤ cs.length ∧ cs.all AV.one = true ∧
  ((∃ o, σ o = .virgin ∧ v = .ref o 0 0 n esh ∧ δ = some (o, .arr 0 cs)) ∨ (v = .sl ex (szOf esh) (elemsOf esh n cs) ∧ δ = none))

theorem goes_newSl {g σ v rd δ} {w : World} {ex : Bool} {esh n cap t} {cs : List AV} {c : Array Value} (hw : WRel g σ w) (hlen : cs.length ≤ c.size) (hc : ∀ j (h : j < cs.length) (h' : j < c.size), VR g.pm g.L σ (cs[j]) (c[j]))
    (hcap : n ≤ cap) (hsz : cap * szOf esh ≤ c.size) (hex : ex = true → cap = n) (h : StNewSl ex esh n cs σ v rd δ) :
    ∃ g', WRel g' (ap σ δ) (w.alloc (.cells c t)) ∧ g.le σ g' (ap σ δ) ∧ VR g'.pm g'.L (ap σ δ) v (.slice (some ⟨w.heap.size, 0, none⟩) n cap) := by
  obtain ⟨_, hn, hone, h | h⟩ := h
  · obtain ⟨o, hv, rfl, rfl⟩ := h
    obtain ⟨h1, h2⟩ := hw.alloc_ob (o := o) (ver := 0) c t cs (by simp [hv, ObExt]) hlen hc
    exact ⟨_, h1, h2, .ref hcap rfl (by simp [RefOK, ap_some]; exact ⟨hn, hcap, hsz⟩)⟩
  · obtain ⟨rfl, rfl⟩ := h
    obtain ⟨g', h1, h2, h3⟩ := hw.alloc_tell c t
    refine ⟨g', h1, h2, ?_⟩
    refine VR.told (us := fun j => c.getD j undef) hn hone (fun j hj => ?_) (fun j hj hj' => ?_) hcap hex
    · have := h3 j (by omega)
      simpa [Array.getD, show j < c.size by omega] using this
    · have := hc j hj (by omega)
      simpa [Array.getD, show j < c.size by omega] using this.mono (σ' := ap σ none) h2.ext

def repl (n : Nat) (z : List AV) : List AV := (List.replicate n z).flatten

theorem repl_length (n : Nat) (z : List AV) : (repl n z).length = n * z.length := by simp [repl]

theorem repl_get (n : Nat) (z : List AV) (j : Nat) (h : j < (repl n z).length) (h' : j % z.length < z.length) : (repl n z)[j] = z[j % z.length] := by
  induction n generalizing j with
  | zero => simp [repl] at h
  | succ n ih =>
    have e : repl (n + 1) z = z ++ repl n z := by simp [repl, List.replicate_succ]
    by_cases hj : j < z.length
    · simp only [e, List.getElem_append_left hj, Nat.mod_eq_of_lt hj]
    · simp only [e]
      rw [List.getElem_append_right (by omega), ih (j - z.length) (by rw [e] at h; simp at h; omega) (by rw [← Nat.mod_eq_sub_mod (by omega)]; exact h')]
      congr 1
      exact (Nat.mod_eq_sub_mod (by omega)).symm

/-- Zero cells, over and over. -/
theorem VL_made {pm L σ} {z : Value} {zc : List AV} (hzc : ofLits z.cells.toList = some zc) (n : Nat) : VL pm L σ (repl n zc) ((Array.range (n * zc.length)).map (z.cells[· % z.cells.size]!)) := by
  obtain ⟨z1, z2⟩ := ofLits_VR (pm := pm) (L := L) (σ := σ) hzc
  have hs : z.cells.size = zc.length := by simpa using z1
  refine ⟨by simp [repl_length], fun j a b => ?_⟩
  have hlt : j < n * zc.length := by simpa using b
  have hpos : 0 < zc.length := by rcases Nat.eq_zero_or_pos zc.length with h | h; · simp [h] at hlt
                                  · exact h
  have hm : j % zc.length < zc.length := Nat.mod_lt _ hpos
  have := z2 (j % zc.length) hm (by simpa [hs] using hm)
  rw [repl_get n zc j a hm]
  simpa [hs, hm] using this

theorem sound_bsl {P g σ w t elem esh len parts ps v rd δ} {z : Value} {inf : TypeInfo} {zc : List AV} (hw : WRel g σ w) (ht : P.underlying t = some (.slice elem)) (he : eshOf P elem = some esh) (hi : P.info? elem = some inf) (hz : inf.zero = some z) (hzc : ofLits z.cells.toList = some zc)
    (hzl : zc.length = szOf esh) (hbig : len * szOf esh ≤ 16777216)
    (hl : ps.length = parts.size)
    (hp : ∀ j (a : j < ps.length) (b : j < parts.size), (ps[j]).1 = (parts[j]).1 * szOf esh ∧ (ps[j]).2.1 = szOf esh ∧ VR g.pm g.L σ (ps[j]).2.2 (parts[j]).2)
    (h : ∃ cs, fillA (repl len zc) ps = some cs ∧ StNewSl true esh len cs σ v rd δ) :
    Goes P g σ w (do pure (.value (← Instr.buildSlice t len parts))) v δ := by
  obtain ⟨cs, hf, hst⟩ := h
  obtain ⟨inf', hinf', hsz⟩ := eshOf_info he
  rw [hi] at hinf'
  cases hinf'
  have hvl := VL_made (pm := g.pm) (L := g.L) (σ := σ) hzc len
  obtain ⟨vs', e1, e2⟩ := run_fill (fun i => some (i * inf.size, inf.size)) ps parts.toList hvl (by simpa using hl) (fun j a b => by
    have := hp j a (by simpa using b)
    refine ⟨?_, by simpa using this.2.2⟩
    simp [this.1, this.2.1, hsz]) hf
  have hcs : cs.length = len * szOf esh := by
    have : ∀ (ps : List (Nat × Nat × AV)) (a b : List AV), fillA a ps = some b → b.length = a.length := by
      intro ps
      induction ps with
      | nil => intro a b h; simp [fillA] at h; rw [h]
      | cons p ps ih =>
        intro a b h
        obtain ⟨o, s, x⟩ := p
        simp only [fillA] at h
        split at h
        · rw [ih _ _ h, splice_length]
        · cases h
    rw [this _ _ _ hf, repl_length, hzl]
  obtain ⟨g', r1, r2, r3⟩ := goes_newSl (t := elem) (n := len) (cap := len) hw (by have := e2.1; omega) (fun j a b => e2.2 j a b) (Nat.le_refl _) (by have := e2.1; omega) (fun _ => rfl) hst
  refine Goes.val' (u := .slice (some ⟨w.heap.size, 0, none⟩) len len) ?_ r1 r2 r3
  have hn : ¬ len * inf.size > 16777216 := by rw [hsz]; omega
  have hzr : (zeroValue elem).run P w = .ok z w := by simp [zeroValue, typeInfo, hi, hz]
  by_cases h0 : len * inf.size = 0
  · have e1' : Instr.fill (fun i => some (i * inf.size, inf.size)) #[] parts.toList = some vs' := by
      rw [← e1]; congr 1
      rw [hzl, ← hsz, h0]; simp [Array.range_zero']
    simp [Instr.buildSlice, run_underlying ht, run_sizeOf hi, hn, h0, Array.range_zero', e1', newRow]
  · rw [hzl, ← hsz] at e1
    simp [Instr.buildSlice, run_underlying ht, run_sizeOf hi, hn, h0, hzr, e1, newRow]

/-! ### make -/
def StMksl (esh : Option Nat) (bytes : Nat) (zc : List AV) (l c : AV) (σ : Hp) (v : AV) (rd : List Nat) (δ : Option (Nat × Ob)) : Prop :=
  match l, c with
  | .int _ l, .int _ c => 0 ≤ l ∧ l ≤ c ∧ c * bytes ≤ 281474976710656 ∧ c ≤ 281474976710656 ∧ StNewSl false esh l.toNat (repl l.toNat zc) σ v rd δ
  | _, _ => False

theorem sound_mksl {P g σ w t elem esh l c ul uc v rd δ} {z : Value} {inf : TypeInfo} {zc : List AV} (hw : WRel g σ w) (ht : P.underlying t = some (.slice elem)) (he : eshOf P elem = some esh) (hi : P.info? elem = some inf) (hz : inf.zero = some z) (hzc : ofLits z.cells.toList = some zc)
    (hzl : zc.length = szOf esh) (hl : VR g.pm g.L σ l ul) (hc : VR g.pm g.L σ c uc) (h : StMksl esh inf.bytes zc l c σ v rd δ) :
    Goes P g σ w (do pure (.value (← Instr.makeSlice t ul uc))) v δ := by
  unfold StMksl at h
  split at h
  · rename_i kl l kc c
    obtain ⟨h0, h1, h2, h3, hst⟩ := h
    cases hl; cases hc
    obtain ⟨inf', hinf', hsz⟩ := eshOf_info he
    rw [hi] at hinf'; cases hinf'
    obtain ⟨z1, z2⟩ := ofLits_VR (pm := g.pm) (L := g.L) (σ := σ) hzc
    have hs : z.cells.size = zc.length := by simpa using z1
    have hle : l.toNat * szOf esh ≤ c.toNat * szOf esh := Nat.mul_le_mul_right _ (by omega)
    have hvl := VL_made (pm := g.pm) (L := g.L) (σ := σ) hzc c.toNat
    have hrl : (repl l.toNat zc).length = l.toNat * szOf esh := by rw [repl_length, hzl]
    have hsize : (madeCells z.cells (c.toNat * inf.size)).size = c.toNat * szOf esh := by rw [size_madeCells, hsz]
    obtain ⟨g', r1, r2, r3⟩ := goes_newSl (t := elem) (n := l.toNat) (cap := c.toNat) (c := madeCells z.cells (c.toNat * inf.size)) hw (by omega) (fun j a b => by
        have hm : j % zc.length < zc.length := Nat.mod_lt _ (by rcases Nat.eq_zero_or_pos zc.length with h | h; · rw [repl_length, h] at a; simp at a
                                                                · exact h)
        have := z2 (j % zc.length) hm (by simpa [hs] using hm)
        rw [repl_get l.toNat zc j a hm]
        simpa [madeCells, hs, hm] using this) (by omega) (by omega) (by simp) hst
    refine Goes.val' ?_ r1 r2 r3
    exact run_make w t elem inf z ht hi hz kl kc l c h0 h1 (by rw [Int.mul_comm]; exact h2) (by omega)
  · exact h.elim
end Go.Ab
/- append and copy. -/
namespace Go.Ab
set_option linter.constructorNameAsVariable false
set_option linter.unusedSimpArgs false
set_option linter.unusedVariables false
open Go.RowKit
set_option linter.unusedVariables false
set_option linter.unusedSimpArgs false

def strCells (s : ByteArray) : List AV := s.data.toList.map fun b => .int .u8 b.toNat

/-- The flat cells that an operand of append or copy hands over: how many elements, the cells, which object is read. -/
def Src (esh : Option Nat) (x : AV) (σ : Hp) (n : Nat) (cells : List AV) (rd : List Nat) : Prop :=
  match x with
  | .nils | .snn _ => n = 0 ∧ cells = [] ∧ rd = []
  | .sl _ sz xs => sz = szOf esh ∧ n = xs.length ∧ cells = xs.flatMap AV.cells ∧ rd = []
  | .ref o ver off m e => e = esh ∧ n = m ∧ rd = [o] ∧ ∃ cs, σ o = .arr ver cs ∧ cells = (cs.drop off).take (m * szOf esh)
  | .str s => esh = none ∧ n = s.size ∧ cells = strCells s ∧ rd = []
  | _ => False

theorem flat_get (sz : Nat) : ∀ (xs : List AV), (∀ i (h : i < xs.length), (xs[i]).cells.length = sz) → (xs.flatMap AV.cells).length = xs.length * sz ∧
    ∀ i (hi : i < xs.length) j (hj : j < (xs[i]).cells.length) (h : i * sz + j < (xs.flatMap AV.cells).length), (xs.flatMap AV.cells)[i * sz + j] = (xs[i]).cells[j]
  | [], _ => by simp
  | x :: xs, hz => by
    have h0 := hz 0 (by simp)
    simp at h0
    obtain ⟨i1, i2⟩ := flat_get sz xs (fun i h => by have := hz (i + 1) (by simpa using h); simpa using this)
    refine ⟨by simp [h0, i1, Nat.add_mul]; omega, fun i hi j hj h => ?_⟩
    cases i with
    | zero =>
      simp at hj
      simp [hj]
    | succ i =>
      simp at hj
      simp only [List.flatMap_cons, List.getElem_cons_succ]
      rw [List.getElem_append_right (by rw [h0, Nat.add_mul]; omega)]
      have := i2 i (by simpa using hi) j hj (by rw [i1]; have := hz (i+1) hi; simp at this; have : i * sz + sz ≤ xs.length * sz := by rw [← Nat.succ_mul]; exact Nat.mul_le_mul_right _ (by simp at hi; omega)
                                                omega)
      rw [← this]
      congr 1
      rw [h0, Nat.add_mul]; omega

theorem run_firstCells {P : Program} {g σ w esh x ux n cells rd} (hw : WRel g σ w) (hx : VR g.pm g.L σ x ux) (h : Src esh x σ n cells rd) :
    (Builtin.lenOf ux).run P w = .ok n w ∧ cells.length = n * szOf esh ∧ ∃ us : List Value, (Builtin.firstCells (szOf esh) n ux).run P w = .ok us.toArray w ∧ us.length = cells.length ∧
      ∀ j (a : j < cells.length) (b : j < us.length), VR g.pm g.L σ (cells[j]) (us[j]) := by
  unfold Src at h
  split at h
  · obtain ⟨rfl, rfl, _⟩ := h
    cases hx
    exact ⟨by simp [Builtin.lenOf], by simp, [], by simp [Builtin.firstCells], rfl, by simp⟩
  · obtain ⟨rfl, rfl, _⟩ := h
    cases hx <;> exact ⟨by simp [Builtin.lenOf], by simp, [], by simp [Builtin.firstCells, loadCells, loadCellsFrom], rfl, by simp⟩
  · rename_i ex sz xs
    obtain ⟨rfl, rfl, rfl, _⟩ := h
    cases hx with
    | slnil => exact ⟨by simp [Builtin.lenOf], by simp, [], by simp [Builtin.firstCells], rfl, by simp⟩
    | slz => exact ⟨by simp [Builtin.lenOf], by simp, [], by simp [Builtin.firstCells, loadCells, loadCellsFrom], rfl, by simp⟩
    | sl us hc hex hz hp hv =>
      rename_i b o cap
      obtain ⟨f1, f2⟩ := flat_get (szOf esh) xs hz
      have hidx : ∀ j, j < xs.length * szOf esh → 0 < szOf esh := fun j hj => by
        rcases Nat.eq_zero_or_pos (szOf esh) with h | h
        · simp [h] at hj
        · exact h
      have hdm : ∀ j, j < xs.length * szOf esh → j / szOf esh < xs.length ∧ j % szOf esh < szOf esh ∧ j / szOf esh * szOf esh + j % szOf esh = j := fun j hj =>
        ⟨Nat.div_lt_of_lt_mul (by rw [Nat.mul_comm]; exact hj), Nat.mod_lt _ (hidx j hj), Nat.div_add_mod' _ _⟩
      refine ⟨by simp [Builtin.lenOf], f1, (List.range (xs.length * szOf esh)).map (fun j => us (j / szOf esh) (j % szOf esh)), ?_, by simp [f1], fun j a b => ?_⟩
      · exact run_firstCells_some w (szOf esh) xs.length ⟨b, o, none⟩ xs.length cap _ (by simp) (fun j v hj => by
          rw [List.getElem?_map] at hj
          simp only [Option.map_eq_some_iff] at hj
          obtain ⟨j', hj', rfl⟩ := hj
          have hlt : j < xs.length * szOf esh := by
            have := List.getElem?_eq_some_iff.1 hj'
            simpa using this.1
          have : j' = j := by
            have := List.getElem?_eq_some_iff.1 hj'
            obtain ⟨_, e⟩ := this
            simpa using e.symm
          subst this
          obtain ⟨d1, d2, d3⟩ := hdm j' hlt
          have := hw.pm _ _ _ (hp (j' / szOf esh) (j' % szOf esh) d1 d2)
          rw [Addr.add_lit, ← this]
          congr 2
          omega)
      · simp at b
        obtain ⟨d1, d2, d3⟩ := hdm j b
        have e1 := hv (j / szOf esh) d1 (j % szOf esh) (by rw [hz]; exact d2)
        have e2 := f2 (j / szOf esh) d1 (j % szOf esh) (by rw [hz]; exact d2) (by rw [d3]; exact a)
        simp only [List.getElem_map, List.getElem_range]
        rw [← e2] at e1
        simpa only [d3] using e1
  · rename_i o ver off m e
    obtain ⟨rfl, rfl, _, cs, hσ, rfl⟩ := h
    cases hx with
    | refz hs hr => exact ⟨by simp [Builtin.lenOf], by simp, [], by simp [Builtin.firstCells, loadCells, loadCellsFrom], by simp, by simp⟩
    | ref hn hs hr =>
      rename_i a cap
      simp only [RefOK, hσ] at hr
      obtain ⟨_, rfl, r2, r3, r4⟩ : _ ∧ _ := ⟨trivial, hr.2 trivial⟩
      have k := hw.ob o ver cs hσ
      have hch : ∀ j, ∃ v, j < cs.length → w.cell? ⟨(g.L o).b, (g.L o).off + j, none⟩ = some v ∧ ∀ hj : j < cs.length, VR g.pm g.L σ (cs[j]) v := fun j => by
        by_cases hj : j < cs.length
        · obtain ⟨v, a, b⟩ := k.there j (by have := k.len; omega); exact ⟨v, fun _ => ⟨a, b⟩⟩
        · exact ⟨undef, fun h => absurd h hj⟩
      have hus := fun j => Classical.choose_spec (hch j)
      refine ⟨by simp [Builtin.lenOf], by simp; omega, (List.range (n * szOf e)).map (fun j => Classical.choose (hch (off + j))), ?_, by simp; omega, fun j a b => ?_⟩
      · exact run_firstCells_some w (szOf e) n _ n cap _ (by simp) (fun j v hj => by
          rw [List.getElem?_map] at hj
          simp only [Option.map_eq_some_iff] at hj
          obtain ⟨j', hj', rfl⟩ := hj
          obtain ⟨hlt, e2⟩ := List.getElem?_eq_some_iff.1 hj'
          simp at hlt e2
          subst e2
          have := (hus (off + j) (by omega)).1
          rw [Addr.add_lit, ← this]
          congr 2
          omega)
      · simp at a b
        have := (hus (off + j) (by omega)).2 (by omega)
        simpa using this
  · rename_i s
    obtain ⟨rfl, rfl, rfl, _⟩ := h
    cases hx
    refine ⟨by simp [Builtin.lenOf], by simp [strCells, szOf], s.data.toList.map (fun b => .int .u8 b.toNat), ?_, by simp [strCells], fun j a b => ?_⟩
    · have : s.extract 0 s.size = s := by
        apply ByteArray.ext
        simp
      simp only [Builtin.firstCells, this, Sem.run_pure]
      congr 1
      apply Array.ext' 
      simp
    · simp only [strCells, List.getElem_map]
      exact .int
  · exact h.elim

/-- Cells that nobody has are written over. -/
theorem WRel.setCells_free {g σ} {b : Nat} : ∀ (vs : List Value) (o : Nat) {w : World} (_ : WRel g σ w), (0 < vs.length → g.B0 ≤ b) →
    (∀ j, j < vs.length → g.pm b (o + j) = none ∧ g.tm b (o + j) = none ∧ (∃ v, w.cell? ⟨b, o + j, none⟩ = some v) ∧
      ∀ o' ver' cs', σ o' = .arr ver' cs' → ∀ j', j' < (g.L o').cap → ¬ ((g.L o').b = b ∧ (g.L o').off + j' = o + j)) →
    WRel g σ (w.setCells b o vs)
  | [], _, _, hw, _, _ => hw
  | v :: vs, o, w, hw, hB, h => by
    obtain ⟨h1, h2, ⟨u, h3⟩, h4⟩ := h 0 (by simp)
    simp only [Nat.add_zero] at h1 h2 h3 h4
    have hcell := fun b' o' => cell?_setCell_iff w b o v b' o' h3
    have hw' : WRel g σ (w.setCell ⟨b, o, none⟩ v) := by
      refine ⟨fun b' o' v' e => ?_, fun b' o' v' e => ?_, fun b' o' v' e => by rw [World.frozen?_setCell]; exact hw.tmf _ _ _ e, hw.disj, hw.low.setCell (p := ⟨b, o, none⟩) (hB (by simp)) v, by simpa using hw.B0, hw.tab, hw.bk.setCell _ _, fun i ver cs e => ?_, hw.sep, fun i es it e => (hw.mo i es it e).keep (Ext.refl _ _ _) rfl rfl (heap_setCell_bk h3), hw.ms⟩
      · rw [hcell, if_neg]
        · exact hw.pm _ _ _ e
        · rintro ⟨rfl, rfl⟩; rw [h1] at e; cases e
      · rw [hcell, if_neg]
        · exact hw.tm _ _ _ e
        · rintro ⟨rfl, rfl⟩; rw [h2] at e; cases e
      · have k := hw.ob i ver cs e
        refine ⟨k.low, k.len, fun j hj => ?_, fun j hj => by rw [World.frozen?_setCell]; exact k.free j hj, k.pm, k.tm⟩
        obtain ⟨u', hu', hr⟩ := k.there j hj
        refine ⟨u', ?_, hr⟩
        rw [hcell, if_neg]
        · exact hu'
        · exact h4 i _ _ e j hj
    rw [World.setCells]
    refine WRel.setCells_free vs (o + 1) hw' (fun _ => hB (by simp)) (fun j hj => ?_)
    obtain ⟨a1, a2, ⟨u', a3⟩, a4⟩ := h (j + 1) (by simpa using hj)
    rw [show o + (j + 1) = o + 1 + j by omega] at a1 a2 a3 a4
    refine ⟨a1, a2, ⟨u', ?_⟩, a4⟩
    rw [hcell, if_neg (by omega)]
    exact a3

set_option maxHeartbeats 1000000 in
theorem run_append_fits {P : Program} {t tx ty elem : TypeId} {esh : Option Nat} {d : TypeDesc} {n sLen sCap : Nat} {base : Option Addr} {ux : Value} {us : List Value} {w : World}
    (ht : P.underlying t = some (.slice elem)) (htx : P.underlying tx = some d) (hd : (∃ e', d = .slice e') ∨ d = .string) (he : eshOf P elem = some esh)
    (hlen : (Builtin.lenOf ux).run P w = .ok n w) (hf : (Builtin.firstCells (szOf esh) n ux).run P w = .ok us.toArray w)
    (hroom : sLen + n ≤ sCap) {w' : World}
    (hst : (match base with | some a => storeCells (a.add (sLen * szOf esh)) us | none => pure () : Sem Unit).run P w = .ok () w') :
    (Builtin.append_ #[t, tx] ty #[.slice base sLen sCap, ux]).run P w = .ok (.slice base (sLen + n) sCap) w' := by
  obtain ⟨inf, hi, hsz⟩ := eshOf_info he
  have h1 := run_underlying ht w
  have h2 := run_underlying htx w
  have h3 := run_sizeOf (P := P) hi w
  rw [hsz] at h3
  cases base with
  | none =>
    simp only [Sem.run_pure, Result.ok.injEq, true_and] at hst
    subst hst
    rcases hd with ⟨e', rfl⟩ | rfl <;> simp [Builtin.append_, h1, h2, h3, hlen, hroom, hf]
  | some a =>
    simp only at hst
    rcases hd with ⟨e', rfl⟩ | rfl <;> simp [Builtin.append_, h1, h2, h3, hlen, hroom, hf, hst]

set_option maxHeartbeats 1000000 in
theorem run_append_grows {P : Program} {t tx ty elem : TypeId} {esh : Option Nat} {d : TypeDesc} {n sLen sCap : Nat} {base : Option Addr} {ux : Value} {us olds : List Value} {w : World} {z : Value} {inf : TypeInfo}
    (ht : P.underlying t = some (.slice elem)) (htx : P.underlying tx = some d) (hd : (∃ e', d = .slice e') ∨ d = .string) (he : eshOf P elem = some esh) (hi : P.info? elem = some inf) (hz0 : inf.zero = some z)
    (hlen : (Builtin.lenOf ux).run P w = .ok n w) (hf : (Builtin.firstCells (szOf esh) n ux).run P w.drew = .ok us.toArray w.drew)
    (hfo : (Builtin.firstCells (szOf esh) sLen (.slice base sLen sCap)).run P w.drew = .ok olds.toArray w.drew)
    (hroom : sCap < sLen + n) (hbytes : (sLen + n) * inf.bytes ≤ 140737488355328) (h63 : sLen + n ≤ 9223372036854775807) :
    (Builtin.append_ #[t, tx] ty #[.slice base sLen sCap, ux]).run P w =
      .ok (.slice (some ⟨w.heap.size, 0, none⟩) (sLen + n) (grownCap w (sLen + n) sCap elem))
        (w.drew.alloc (.cells ((olds ++ us).toArray ++ Builtin.zeroCells z.cells (grownCap w (sLen + n) sCap elem - (sLen + n))) elem)) := by
  obtain ⟨inf', hi', hsz⟩ := eshOf_info he
  rw [hi] at hi'; cases hi'
  have hn : ¬ (sLen + n ≤ sCap) := by omega
  have h63' : ¬ (9223372036854775807 < ((sLen : Int) + (n : Int))) := by omega
  have h48 : Builtin.nextslicecap (sLen + n) sCap * inf.bytes ≤ 281474976710656 := growslice_fits hroom hbytes
  have h48' : ¬ (281474976710656 < Builtin.nextslicecap (sLen + n) sCap * inf.bytes) := by omega
  have h1 := run_underlying ht w
  have h2 := run_underlying htx w
  have h3 := run_sizeOf (P := P) hi w
  rw [hsz] at h3
  have e1 : ∀ n', olds.toArray ++ (us.toArray ++ Builtin.zeroCells z.cells n') = (olds ++ us).toArray ++ Builtin.zeroCells z.cells n' := fun n' => by
    apply Array.ext'; simp
  rcases hd with ⟨e', rfl⟩ | rfl <;> simp [Builtin.append_, h1, h2, h3, hlen, hn, h63', h48', typeInfo, hi, zeroValue, hz0, Question.forced, hf, hfo, newRow, grownCap, e1]
end Go.Ab
