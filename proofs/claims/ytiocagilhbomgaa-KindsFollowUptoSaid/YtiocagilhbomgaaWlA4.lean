/- The operations that touch no object: numbers, comparisons, addresses, slices of slices. -/
import Derived.Test.YtiocagilhbomgaaWlA3
namespace Go.Ab
open Go.RowKit
set_option linter.unusedVariables false
set_option linter.unusedSimpArgs false

/-! ### integers -/
def intBin (op : BinOp) (k : IntKind) (x y : Int) : Option AV :=
  match op with
  | .add => some (.int k (k.wrap (x + y)))
  | .sub => some (.int k (k.wrap (x - y)))
  | .mul => some (.int k (k.wrap (x * y)))
  | .quo => if y = 0 then none else some (.int k (k.wrap (x.tdiv y)))
  | .rem => if y = 0 then none else some (.int k (x.tmod y))
  | .and => some (.int k (k.wrap (BitVec.ofInt k.bits x &&& BitVec.ofInt k.bits y).toNat))
  | .or => some (.int k (k.wrap (BitVec.ofInt k.bits x ||| BitVec.ofInt k.bits y).toNat))
  | .xor => some (.int k (k.wrap (BitVec.ofInt k.bits x ^^^ BitVec.ofInt k.bits y).toNat))
  | .andNot => some (.int k (k.wrap (BitVec.ofInt k.bits x &&& ~~~ BitVec.ofInt k.bits y).toNat))
  | .eql => some (.bool (x == y))
  | .neq => some (.bool (x != y))
  | .lss => some (.bool (decide (x < y)))
  | .leq => some (.bool (decide (x ≤ y)))
  | .gtr => some (.bool (decide (x > y)))
  | .geq => some (.bool (decide (x ≥ y)))
  | _ => none

def shBin (op : BinOp) (k : IntKind) (x y : Int) : Option AV :=
  if y < 0 then none else
  match op with
  | .shl => some (.int k (k.wrap (x * 2 ^ (min y.toNat k.bits))))
  | .shr => some (.int k (x.fdiv (2 ^ (min y.toNat k.bits))))
  | _ => none

def strBin (op : BinOp) (x y : ByteArray) : Option AV :=
  match op with
  | .add => some (.str (x ++ y))
  | .eql => some (.bool (x.toList == y.toList))
  | .neq => some (.bool (!(x.toList == y.toList)))
  | .lss => some (.bool (Op.bytesLess x.toList y.toList))
  | .leq => some (.bool (Op.bytesLess x.toList y.toList || x.toList == y.toList))
  | .gtr => some (.bool (!(Op.bytesLess x.toList y.toList || x.toList == y.toList)))
  | .geq => some (.bool (!Op.bytesLess x.toList y.toList))
  | _ => none

def eqOf (op : BinOp) (b : Bool) : Option AV :=
  match op with
  | .eql => some (.bool b)
  | .neq => some (.bool (!b))
  | _ => none

/-- What the type says of '==': 'flat': a struct of numbers, truth values, strings. -/
inductive EqC where
  | none | bool | ptr | iface | flat
  deriving DecidableEq

def AV.scalar : AV → Bool
  | .int _ _ | .bool _ | .str _ => true
  | _ => false

def AV.same : AV → AV → Bool
  | .int k a, .int k' b => k == k' && a == b
  | .bool a, .bool b => a == b
  | .str a, .str b => a.toList == b.toList
  | _, _ => false

def sameAll : List AV → List AV → Bool
  | [], [] => true
  | x :: xs, y :: ys => x.same y && sameAll xs ys
  | _, _ => false

def StBin (c : EqC) (op : BinOp) (x y : AV) (v : AV) : Prop :=
  match x, y with
  | .int k a, .int k' b =>
    match op with
    | .shl | .shr => shBin op k a b = some v
    | _ => k = k' ∧ intBin op k a b = some v
  | .str a, .str b => (op = .add → a.size + b.size ≤ 9223372036854775807) ∧ strBin op a b = some v
  | .bool a, .bool b => c = .bool ∧ eqOf op (a == b) = some v
  | .nilp, .nilp => c = .ptr ∧ eqOf op true = some v
  | .ptr _ _ _, .nilp | .cptr _ _, .nilp | .nilp, .ptr _ _ _ | .nilp, .cptr _ _ => c = .ptr ∧ eqOf op false = some v
  | .iface _ _, .nili | .nili, .iface _ _ => c = .iface ∧ eqOf op false = some v
  | .nils, .nils => c = .flat ∧ eqOf op true = some v
  | .snn _, .nils | .sl _ _ (_ :: _), .nils | .ref _ _ _ (_ + 1) _, .nils => c = .flat ∧ eqOf op false = some v
  | _, _ => False

def AV.val1 : AV → Value
  | .int k n => .int k n
  | .bool b => .bool b
  | .str s => .string s
  | _ => undef

theorem VR.val1 {pm L σ} {v : AV} (h : v.scalar = true) : VR pm L σ v v.val1 := by
  cases v <;> simp [AV.scalar] at h <;> constructor

theorem run_intBin {P : Program} {op : BinOp} {k : IntKind} {t : TypeId} {a b : Int} {v : AV} (w : World) (hs : op ≠ .shl) (hs' : op ≠ .shr) (h : intBin op k a b = some v) :
    (binOp op t (.int k a) (.int k b)).run P w = .ok v.val1 w ∧ v.scalar = true := by
  cases op <;> simp only [intBin] at h <;> first
    | (cases h; done)
    | (exact (hs rfl).elim)
    | (exact (hs' rfl).elim)
    | (split at h <;> cases h; rename_i hy; exact ⟨by simp [binOp, Op.intDiv, hy, AV.val1], rfl⟩)
    | (cases h; exact ⟨by simp [binOp, Op.intArith, Op.intBits, Op.intCmp, AV.val1], rfl⟩)

theorem run_shBin {P : Program} {op : BinOp} {k k' : IntKind} {t : TypeId} {a b : Int} {v : AV} (w : World) (hop : op = .shl ∨ op = .shr) (h : shBin op k a b = some v) :
    (binOp op t (.int k a) (.int k' b)).run P w = .ok v.val1 w ∧ v.scalar = true := by
  unfold shBin at h
  split at h
  · cases h
  · rename_i hb
    rcases hop with rfl | rfl
    · cases h; exact ⟨by simp [binOp, Op.shift, hb, AV.val1], rfl⟩
    · cases h; exact ⟨by simp [binOp, Op.shift, hb, AV.val1], rfl⟩

theorem run_strBin {P : Program} {op : BinOp} {t : TypeId} {a b : ByteArray} {v : AV} (w : World) (hadd : op = .add → a.size + b.size ≤ 9223372036854775807) (h : strBin op a b = some v) :
    (binOp op t (.string a) (.string b)).run P w = .ok v.val1 w ∧ v.scalar = true := by
  cases op <;> simp only [strBin] at h <;> first
    | (cases h; done)
    | (cases h
       have hk : IntKind.i64.max = 9223372036854775807 := by decide
       have := hadd rfl
       refine ⟨?_, rfl⟩
       have hn : ¬ (((a.size + b.size : Nat) : Int) > 9223372036854775807) := by omega
       simp only [binOp, Op.stringOp, hk]
       rw [if_neg hn]; rfl)
    | (cases h; exact ⟨by simp [binOp, Op.stringOp, AV.val1], rfl⟩)

/-- What the type must be for the class. -/
def EqC.fits (P : Program) (t : TypeId) : EqC → Prop
  | .none => True
  | .bool => P.underlying t = some .bool
  | .ptr => ∃ e, P.underlying t = some (.pointer e)
  | .iface => ∃ ms, P.underlying t = some (.interface ms)
  | .flat => ∃ e, P.underlying t = some (.slice e)

theorem run_eqOf {P : Program} {op : BinOp} {t : TypeId} {x y : Value} {b : Bool} {v : AV} (w : World) (h : eqOf op b = some v)
    (hx : match x with | .bool _ | .pointer _ | .nilIface | .iface _ _ | .agg _ | .slice _ _ _ => True | _ => False)
    (hq : (Op.equal t x y).run P w = .ok b w) :
    (binOp op t x y).run P w = .ok v.val1 w ∧ v.scalar = true := by
  cases op <;> simp only [eqOf] at h <;> first
    | (cases h; done)
    | (cases h
       refine ⟨?_, rfl⟩
       cases x <;> first | (exact hx.elim) | (simp [binOp, hq, AV.val1]))

def NoGuard (x y : Value) : Prop := match x, y with | .nilIface, .nilIface => False | .agg _, .agg _ => False | _, _ => True

theorem run_eqGuard_ok {P : Program} {op : BinOp} {t : TypeId} {ox oy : Operand} {x y : Value} (w : World)
    (hx : NoGuard x y) : (eqGuard op t ox oy x y).run P w = .ok () w := by
  cases op <;> first | rfl | (cases x <;> first | rfl | (cases y <;> first | exact hx.elim | rfl))

theorem run_equalIn_nilptr {P : Program} (d : Nat) {t e : TypeId} (h : P.underlying t = some (.pointer e)) (a b : Option Addr) (hab : a = none ∨ b = none) (w : World) :
    (Op.equalIn (d + 1) t (.pointer a) (.pointer b)).run P w = .ok (a.isNone && b.isNone) w := by
  cases a <;> cases b <;> simp_all [Op.equalIn, run_underlying h]

theorem run_equalIn_ifnil {P : Program} (d : Nat) {t : TypeId} {ms} (h : P.underlying t = some (.interface ms)) (u : TypeId) (x : Value) (w : World) :
    (Op.equalIn (d + 1) t (.iface u x) .nilIface).run P w = .ok false w ∧ (Op.equalIn (d + 1) t .nilIface (.iface u x)).run P w = .ok false w := by
  constructor <;> simp [Op.equalIn, run_underlying h]

theorem run_equalIn_slnil {P : Program} (d : Nat) {t e : TypeId} (h : P.underlying t = some (.slice e)) (a : Option Addr) (n c : Nat) (w : World) :
    (Op.equalIn (d + 1) t (.slice a n c) (.slice none 0 0)).run P w = .ok a.isNone w := by
  cases a <;> simp [Op.equalIn, run_underlying h]

theorem sound_bin {P g σ w c op xt x y ux uy v} {ox oy : Operand} (hw : WRel g σ w) (hc : EqC.fits P xt c) (hx : VR g.pm g.L σ x ux) (hy : VR g.pm g.L σ y uy) (h : StBin c op x y v) :
    Goes P g σ w (do pure (.value (← (do eqGuard op xt ox oy ux uy; binOp op xt ux uy)))) v none := by
  have key : NoGuard ux uy → ((binOp op xt ux uy).run P w = .ok v.val1 w ∧ v.scalar = true) → Goes P g σ w (do pure (.value (← (do eqGuard op xt ox oy ux uy; binOp op xt ux uy)))) v none := fun h1 h2 =>
    Goes.val hw (u := v.val1) (by simp [run_eqGuard_ok w h1, h2.1]) (VR.val1 h2.2)
  unfold StBin at h
  split at h
  · cases hx; cases hy
    split at h
    · exact key trivial (run_shBin w (.inl rfl) h)
    · exact key trivial (run_shBin w (.inr rfl) h)
    · rename_i n1 n2
      obtain ⟨rfl, h⟩ := h
      exact key trivial (run_intBin w (by rintro rfl; exact n1 rfl) (by rintro rfl; exact n2 rfl) h)
  · cases hx; cases hy
    obtain ⟨ha, h⟩ := h
    exact key trivial (run_strBin w ha h)
  · cases hx; cases hy
    obtain ⟨rfl, h⟩ := h
    exact key trivial (run_eqOf w h trivial (run_equal_bool w xt _ _ hc))
  · cases hx; cases hy
    obtain ⟨rfl, h⟩ := h
    obtain ⟨e, hc⟩ := hc
    exact key trivial (run_eqOf w h trivial (run_equalIn_nilptr 9999 hc none none (.inl rfl) w))
  · cases hx; cases hy
    obtain ⟨rfl, h⟩ := h
    obtain ⟨e, hc⟩ := hc
    exact key trivial (run_eqOf w h trivial (run_equalIn_nilptr 9999 hc _ none (.inr rfl) w))
  · cases hx; cases hy
    obtain ⟨rfl, h⟩ := h
    obtain ⟨e, hc⟩ := hc
    exact key trivial (run_eqOf w h trivial (run_equalIn_nilptr 9999 hc _ none (.inr rfl) w))
  · cases hx; cases hy
    obtain ⟨rfl, h⟩ := h
    obtain ⟨e, hc⟩ := hc
    exact key trivial (run_eqOf w h trivial (run_equalIn_nilptr 9999 hc none _ (.inl rfl) w))
  · cases hx; cases hy
    obtain ⟨rfl, h⟩ := h
    obtain ⟨e, hc⟩ := hc
    exact key trivial (run_eqOf w h trivial (run_equalIn_nilptr 9999 hc none _ (.inl rfl) w))
  · cases hx; cases hy
    obtain ⟨rfl, h⟩ := h
    obtain ⟨e, hc⟩ := hc
    exact key trivial (run_eqOf w h trivial (run_equalIn_ifnil 9999 hc _ _ w).1)
  · cases hx; cases hy
    obtain ⟨rfl, h⟩ := h
    obtain ⟨e, hc⟩ := hc
    exact key trivial (run_eqOf w h trivial (run_equalIn_ifnil 9999 hc _ _ w).2)
  · cases hx; cases hy
    obtain ⟨rfl, h⟩ := h
    obtain ⟨e, hc⟩ := hc
    exact key trivial (run_eqOf w h trivial (run_equalIn_slnil 9999 hc none _ _ w))
  · obtain ⟨rfl, h⟩ := h
    obtain ⟨e, hc⟩ := hc
    cases hy
    cases hx <;> exact key trivial (run_eqOf w h trivial (run_equalIn_slnil 9999 hc _ _ _ w))
  · obtain ⟨rfl, h⟩ := h
    obtain ⟨e, hc⟩ := hc
    cases hy
    cases hx
    exact key trivial (run_eqOf w h trivial (run_equalIn_slnil 9999 hc _ _ _ w))
  · obtain ⟨rfl, h⟩ := h
    obtain ⟨e, hc⟩ := hc
    cases hy
    cases hx
    exact key trivial (run_eqOf w h trivial (run_equalIn_slnil 9999 hc _ _ _ w))
  · exact h.elim

/-! ### unary, conversions, and other plain things -/
def StUn (op : UnOp) (x v : AV) : Prop :=
  match op, x with
  | .not, .bool b => v = .bool (!b)
  | .neg, .int k n => v = .int k (k.wrap (0 - n))
  | .xor, .int k n => intBin .xor k (if k.signed then -1 else k.max) n = some v
  | _, _ => False

theorem sound_un {P g σ w op x u v} (hw : WRel g σ w) (hx : VR g.pm g.L σ x u) (h : StUn op x v) : Goes P g σ w (do pure (.value (← Op.unary op u))) v none := by
  unfold StUn at h
  split at h
  · cases hx; subst h; exact Goes.val hw (u := .bool _) (by simp [Op.unary]) .bool
  · cases hx; subst h; exact Goes.val hw (u := .int _ _) (by simp [Op.unary, Op.intArith]) .int
  · cases hx
    simp only [intBin, Option.some.injEq] at h; subst h
    exact Goes.val hw (u := .int _ _) (by simp [Op.unary, Op.intBits]) .int
  · exact h.elim

theorem sound_convInt {P g σ w src dst k x u v} (hw : WRel g σ w) (hs : ∃ d, P.underlying src = some d) (hd : P.underlying dst = some (.int k)) (hx : VR g.pm g.L σ x u)
    (h : match x with | .int _ n => v = .int k (k.wrap n) | _ => False) : Goes P g σ w (do pure (.value (← convert src dst u))) v none := by
  split at h
  · cases hx; subst h
    obtain ⟨d, hs⟩ := hs
    exact Goes.val hw (u := .int k _) (by simp [convert, run_underlying hs, run_underlying hd, Conv.intToInt]) .int
  · exact h.elim

theorem sound_convStr {P g σ w src dst d x u v} (hw : WRel g σ w) (hs : P.underlying src = some d) (hd : P.underlying dst = some .string) (hx : VR g.pm g.L σ x u)
    (h : match x with | .str s => v = .str s | _ => False) : Goes P g σ w (do pure (.value (← convert src dst u))) v none := by
  split at h
  · cases hx; subst h
    exact Goes.val hw (u := .string _) (by simp [convert, run_underlying hs, run_underlying hd]) .str
  · exact h.elim

def StNchk (x v : AV) : Prop :=
  match x with
  | .ptr _ _ _ | .cptr _ _ | .iface _ _ | .fn (.func _) _ _ => v = x
  | _ => False

/-! ### addresses -/
def StFad (fo : Nat) (x v : AV) : Prop :=
  match x with
  | .ptr o ver off => v = .ptr o ver (off + fo)
  | .cptr cs off => v = .cptr cs (off + fo)
  | _ => False

theorem PtrOK.shift {L σ o ver off a} (n : Nat) (h : PtrOK L σ o ver off a) : ∃ a', a.add n = a' ∧ PtrOK L σ o ver (off + n) a' := by
  refine ⟨_, rfl, ?_⟩
  unfold PtrOK at *
  cases hs : σ o <;> simp only [hs] at h ⊢
  · exact h
  · refine ⟨h.1, fun e => ?_⟩
    rw [h.2 e, Addr.add_lit]
    congr 1; omega

theorem cptr_shift {pm L σ cs off u} (n : Nat) (h : VR pm L σ (.cptr cs off) u) : ∃ a, u = .pointer (some a) ∧ VR pm L σ (.cptr cs (off + n)) (.pointer (some (a.add n))) := by
  cases h with
  | cptr us hp hv =>
    rename_i b o
    refine ⟨_, rfl, ?_⟩
    rw [Addr.add_lit, show o + off + n = o + (off + n) by omega]
    exact .cptr us hp hv

theorem sound_fad {P g σ w s fi x u v fields f} (hw : WRel g σ w) (hu : P.underlying s = some (.struct fields)) (hf : fields[fi]? = some f) (hz : ∃ i, P.info? f.type = some i ∧ i.size ≠ 0)
    (hx : VR g.pm g.L σ x u) (h : StFad f.offset x v) : Goes P g σ w (do pure (.value (← Instr.fieldAt s u fi))) v none := by
  obtain ⟨i, hi, hz⟩ := hz
  have hrun : ∀ a : Addr, (Instr.fieldAt s (.pointer (some a)) fi).run P w = .ok (.pointer (some (a.add f.offset))) w := fun a => by
    simp [Instr.fieldAt, run_underlying hu, hf, Instr.sureAddr, fieldPlace, run_sizeOf hi, hz]
  unfold StFad at h
  split at h
  · subst h
    cases hx with
    | ptr hp =>
      obtain ⟨a', e, k⟩ := hp.shift f.offset
      exact Goes.val hw (hrun _) (by rw [e]; exact .ptr k)
  · subst h
    obtain ⟨a, rfl, h2⟩ := cptr_shift f.offset hx
    exact Goes.val hw (hrun _) h2
  · exact h.elim

/-- An index into a slice, or into an array behind a pointer. -/
def StIad (arr : Option Nat) (esh : Option Nat) (x i v : AV) : Prop :=
  match arr, x, i with
  | none, .sl _ sz xs, .int _ n => sz = szOf esh ∧ 0 ≤ n ∧ n < xs.length ∧ v = .cptr (xs.getD n.toNat .junk).cells 0
  | none, .ref o ver off m e, .int _ n => e = esh ∧ 0 ≤ n ∧ n < m ∧ v = .ptr o ver (off + n.toNat * szOf esh)
  | some len, .ptr o ver off, .int _ n => 0 ≤ n ∧ n < len ∧ v = .ptr o ver (off + n.toNat * szOf esh)
  | some len, .cptr cs off, .int _ n => 0 ≤ n ∧ n < len ∧ v = .cptr cs (off + n.toNat * szOf esh)
  | _, _, _ => False

theorem RefOK.ptr {L σ o ver off n sz a cap} (h : RefOK L σ o ver off n sz a cap) (m : Nat) : PtrOK L σ o ver (off + m) (a.add m) := by
  unfold RefOK at h
  unfold PtrOK
  cases hs : σ o <;> simp only [hs] at h ⊢
  · exact h
  · refine ⟨h.1, fun e => ?_⟩
    rw [(h.2 e).1, Addr.add_lit]
    congr 1; omega

theorem sound_iad {P g σ w t x i ux ui v elem esh arr} (hw : WRel g σ w) (he : eshOf P elem = some esh)
    (ht : P.underlying t = some (match arr with | none => .slice elem | some n => .array n elem))
    (hx : VR g.pm g.L σ x ux) (hi : VR g.pm g.L σ i ui) (h : StIad arr esh x i v) : Goes P g σ w (do pure (.value (← Instr.indexAt t ux ui))) v none := by
  obtain ⟨inf, hinf, hsz⟩ := eshOf_info he
  have hsl : ∀ (a : Addr) (len cap : Nat) (k : IntKind) (n : Int), arr = none → 0 ≤ n → n < len → (Instr.indexAt t (.slice (some a) len cap) (.int k n)).run P w = .ok (.pointer (some (a.add (n.toNat * szOf esh)))) w := fun a len cap k n ha h0 h1 => by
    subst ha
    simp [Instr.indexAt, asIntOf, run_underlying ht, h0, h1, run_sizeOf hinf, hsz]
  have har : ∀ (a : Addr) (len : Nat) (k : IntKind) (n : Int), arr = some len → 0 ≤ n → n < len → (Instr.indexAt t (.pointer (some a)) (.int k n)).run P w = .ok (.pointer (some (a.add (n.toNat * szOf esh)))) w := fun a len k n ha h0 h1 => by
    subst ha
    simp [Instr.indexAt, asIntOf, run_underlying ht, Instr.sureAddr, h0, h1, run_sizeOf hinf, hsz]
  unfold StIad at h
  split at h
  · rename_i ex sz xs k n
    obtain ⟨rfl, h0, h1, rfl⟩ := h
    cases hi
    cases hx with
    | slnil => simp at h1; omega
    | slz => simp at h1; omega
    | sl us hc hex hz hp hv =>
      rename_i b o cap
      have hlt : n.toNat < xs.length := by omega
      refine Goes.val hw (hsl _ _ _ _ _ rfl h0 h1) ?_
      rw [Addr.add_lit]
      have := VR.cptr (pm := g.pm) (L := g.L) (σ := σ) (cs := (xs.getD n.toNat .junk).cells) (off := 0) (b := b) (o := o + n.toNat * szOf esh) (us n.toNat)
        (fun j hj => hp n.toNat j hlt (by simpa [hlt, hz] using hj)) (fun j hj => by
          have := hv n.toNat hlt j (by simpa [hlt] using hj)
          simpa [hlt] using this)
      exact this
  · obtain ⟨rfl, h0, h1, rfl⟩ := h
    cases hi
    cases hx with
    | ref hn hs hr => exact Goes.val hw (hsl _ _ _ _ _ rfl h0 h1) (.ptr (hr.ptr _))
    | refnil => omega
  · obtain ⟨h0, h1, rfl⟩ := h
    cases hi
    cases hx with
    | ptr hp => exact Goes.val hw (har _ _ _ _ rfl h0 h1) (.ptr (by obtain ⟨a', e, k⟩ := hp.shift (_ * szOf esh); rw [e]; exact k))
  · obtain ⟨h0, h1, rfl⟩ := h
    cases hi
    obtain ⟨a, rfl, h2⟩ := cptr_shift (_ * szOf esh) hx
    exact Goes.val hw (har _ _ _ _ rfl h0 h1) h2
  · exact h.elim
end Go.Ab
