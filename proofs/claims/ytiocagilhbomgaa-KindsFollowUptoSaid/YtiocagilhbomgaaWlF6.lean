/- The steps as the printed proofs use them. -/
import Derived.Test.YtiocagilhbomgaaWlF5
namespace Go.Ab
open Go.RowKit
set_option linter.unusedVariables false
set_option linter.unusedSimpArgs false

def blwC (n : Nat) : List AV → Prop
  | [] => True
  | x :: r => x.blw n = true ∧ blwC n r
theorem blwL_of {n : Nat} : ∀ {xs : List AV}, blwC n xs → blwL n xs = true
  | [], _ => rfl
  | x :: r, h => by simp only [blwL, h.1, blwL_of h.2, Bool.and_self]
theorem blw_fn {f : Fn} {a b : List AV} {n : Nat} (h : blwL n a = true) (h' : blwL n b = true) : (AV.fn f a b).blw n = true := by simp only [AV.blw, h, h', Bool.and_self]
theorem Enc.blws {α : Type} {f : α → AV} {esh : Option Nat} (he : Enc f esh) (n : Nat) {ex sz} {l : List α} : (AV.sl ex sz (l.map f)).blw n = true := he.blwm n l
theorem cp_blw {x : AV} {n off : Nat} (h : x.blw n = true) : (AV.cptr x.cells off).blw n = true := cells_below h
theorem agg_blw {n : Nat} {xs : List AV} (h : blwC n xs) : (AV.agg xs).blw n = true := blwL_of h
theorem tup_blw {n : Nat} {xs : List AV} (h : blwC n xs) : (AV.tup xs).blw n = true := blwL_of h
def oneC : List AV → Prop
  | [] => True
  | x :: r => x.one = true ∧ oneC r
theorem allOne_of : ∀ {xs : List AV}, oneC xs → xs.all AV.one = true
  | [], _ => rfl
  | x :: r, h => by simp only [List.all_cons, h.1, allOne_of h.2, Bool.and_self]

def awE : List AV → List AV → Prop
  | [], [] => True
  | x :: xs, y :: ys => (x.cells.length = y.cells.length ∧ awL x.cells y.cells) ∧ awE xs ys
  | _, _ => False
theorem awE_len : ∀ {xs ys : List AV}, awE xs ys → xs.length = ys.length
  | [], [], _ => rfl
  | _ :: xs, _ :: ys, h => congrArg (· + 1) (awE_len h.2)
theorem awE_get : ∀ {xs ys : List AV}, awE xs ys → ∀ i (h1 : i < xs.length) (h2 : i < ys.length), xs[i].cells.length = ys[i].cells.length ∧ awL xs[i].cells ys[i].cells
  | [], _, _, j, h1, _ => by simp at h1
  | x :: xs, y :: ys, h, 0, _, _ => h.1
  | x :: xs, y :: ys, h, j + 1, h1, h2 => awE_get h.2 j (by simpa using h1) (by simpa using h2)
theorem AVw.slL {ex sz} {xs ys : List AV} (h : awE xs ys) : AVw (.sl ex sz xs) (.sl ex sz ys) :=
  .sl id (awE_len h) (fun i h1 h2 => (awE_get h i h1 h2).1) (fun i h1 h2 j h3 h4 => awL_get (awE_get h i h1 h2).2 j h3 h4)
def bitAnd (k : IntKind) (x y : Int) : Int := k.wrap (BitVec.ofInt k.bits x &&& BitVec.ofInt k.bits y).toNat
def bitOr (k : IntKind) (x y : Int) : Int := k.wrap (BitVec.ofInt k.bits x ||| BitVec.ofInt k.bits y).toNat
def bitXor (k : IntKind) (x y : Int) : Int := k.wrap (BitVec.ofInt k.bits x ^^^ BitVec.ofInt k.bits y).toNat
def bitAndnot (k : IntKind) (x y : Int) : Int := k.wrap (BitVec.ofInt k.bits x &&& ~~~ BitVec.ofInt k.bits y).toNat
def shL (k : IntKind) (x y : Int) : Int := k.wrap (x * 2 ^ (min y.toNat k.bits))
def shR (k : IntKind) (x y : Int) : Int := x.fdiv (2 ^ (min y.toNat k.bits))

def rnC (R : Rn) : List AV → List AV → Prop
  | [], [] => True
  | x :: xs, y :: ys => RnV R x y ∧ rnC R xs ys
  | _, _ => False
theorem rnC_len {R : Rn} : ∀ {xs ys : List AV}, rnC R xs ys → xs.length = ys.length
  | [], [], _ => rfl
  | _ :: xs, _ :: ys, h => congrArg (· + 1) (rnC_len h.2)
theorem rnC_get {R : Rn} : ∀ {xs ys : List AV}, rnC R xs ys → ∀ j (h1 : j < xs.length) (h2 : j < ys.length), RnV R xs[j] ys[j]
  | [], _, _, j, h1, _ => by simp at h1
  | x :: xs, y :: ys, h, 0, _, _ => h.1
  | x :: xs, y :: ys, h, j + 1, h1, h2 => rnC_get h.2 j (by simpa using h1) (by simpa using h2)
theorem rn_tup {R : Rn} {xs ys : List AV} (h : rnC R xs ys) : RnV R (.tup xs) (.tup ys) := .tup (rnC_len h) (rnC_get h)
theorem rn_fn {R : Rn} {f} {xs ys xs' ys' : List AV} (h : rnC R xs ys) (h' : rnC R xs' ys') : RnV R (.fn f xs xs') (.fn f ys ys') := .fn (rnC_len h) (rnC_get h) (rnC_len h') (rnC_get h')
theorem rn_agg {R : Rn} {xs ys : List AV} (h : rnC R xs ys) : RnV R (.agg xs) (.agg ys) := .agg (rnC_len h) (rnC_get h)

section
variable {P : Program} {S0 : List Ob} {ow : List Nat} {fr : Fr} {S : List Ob} {log : List LE} {α : Type} {f : α → AV} {esh : Option Nat}
theorem E_quo {d t x y rs} {K : Fr → List Ob → List LE → Prop} {k a b} (e : ev (Fr.get fr) x = .int k a) (e1 : ev (Fr.get fr) y = .int k b) (hb : b ≠ 0)
    (h : VTops P ow rs ((d, .int k (k.wrap (a.tdiv b))) :: fr) S (.acc [] none :: log) K) : VTops P ow (⟨some d, none, .op (.bin t .quo x y)⟩ :: rs) fr S log K := by
  refine E_op0 (v := .int k (k.wrap (a.tdiv b))) ?_ rfl h
  simp [opV, e, e1, vBin, intBin, hb, pv]
theorem E_rem {d t x y rs} {K : Fr → List Ob → List LE → Prop} {k a b} (e : ev (Fr.get fr) x = .int k a) (e1 : ev (Fr.get fr) y = .int k b) (hb : b ≠ 0)
    (h : VTops P ow rs ((d, .int k (a.tmod b)) :: fr) S (.acc [] none :: log) K) : VTops P ow (⟨some d, none, .op (.bin t .rem x y)⟩ :: rs) fr S log K := by
  refine E_op0 (v := .int k (a.tmod b)) ?_ rfl h
  simp [opV, e, e1, vBin, intBin, hb, pv]
theorem E_shl {d t x y rs} {K : Fr → List Ob → List LE → Prop} {k k' a b} (e : ev (Fr.get fr) x = .int k a) (e1 : ev (Fr.get fr) y = .int k' b) (hb : 0 ≤ b)
    (h : VTops P ow rs ((d, .int k (shL k a b)) :: fr) S (.acc [] none :: log) K) : VTops P ow (⟨some d, none, .op (.bin t .shl x y)⟩ :: rs) fr S log K := by
  refine E_op0 (v := .int k (shL k a b)) ?_ rfl h
  simp only [opV, e, e1, vBin, shBin]
  rw [if_neg (by omega)]; rfl
theorem E_shr {d t x y rs} {K : Fr → List Ob → List LE → Prop} {k k' a b} (e : ev (Fr.get fr) x = .int k a) (e1 : ev (Fr.get fr) y = .int k' b) (hb : 0 ≤ b)
    (h : VTops P ow rs ((d, .int k (shR k a b)) :: fr) S (.acc [] none :: log) K) : VTops P ow (⟨some d, none, .op (.bin t .shr x y)⟩ :: rs) fr S log K := by
  refine E_op0 (v := .int k (shR k a b)) ?_ rfl h
  simp only [opV, e, e1, vBin, shBin]
  rw [if_neg (by omega)]; rfl
theorem E_mkL {d} {bytes : Nat} {z l c rs} {K : Fr → List Ob → List LE → Prop} {k k' n n'} {S' : List Ob} {x : α} {v : List α} (he : Enc f esh) (how : ow.contains d = true) (e : ev (Fr.get fr) l = .int k n) (e1 : ev (Fr.get fr) c = .int k' n') (hz : (f x).cells = z) (hv : mkL bytes n n' x = some v)
    (hS : setAt S S.length (.arr 0 (flat f v)) = S')
    (h : VTops P ow rs ((d, .ref S.length 0 0 v.length esh) :: fr) S' (.acc [S.length] (some S.length) :: log) K) : VTops P ow (⟨some d, none, .op (.mksl esh bytes z l c)⟩ :: rs) fr S log K := by
  obtain ⟨h1, rfl⟩ := mkL_some hv
  rw [List.length_replicate] at h
  exact E_mkR he how e e1 hz h1 hS h
theorem E_mkLF {d} {bytes : Nat} {z l c rs} {K : Fr → List Ob → List LE → Prop} {k k' n n'} {x : α} {v : List α} (he : Enc f esh) (how : ow.contains d = false) (e : ev (Fr.get fr) l = .int k n) (e1 : ev (Fr.get fr) c = .int k' n') (hz : (f x).cells = z) (hv : mkL bytes n n' x = some v)
    (h : VTops P ow rs ((d, .sl false (szOf esh) (v.map f)) :: fr) S (.acc [] none :: log) K) : VTops P ow (⟨some d, none, .op (.mksl esh bytes z l c)⟩ :: rs) fr S log K := by
  obtain ⟨h1, rfl⟩ := mkL_some hv
  exact E_mkF he how e e1 hz h1 h
theorem E_apL {d bytes s x rs} {K : Fr → List Ob → List LE → Prop} {o ver : Nat} {l m v : List α} {rdx : List Nat} {S' : List Ob} (he : Enc f esh) (e : ev (Fr.get fr) s = .ref o ver 0 l.length esh) (e2 : vSrc esh (ev (Fr.get fr) x) S = some (m.length, flat f m, rdx))
    (ho : hp S o = .arr ver (flat f l)) (hv : appL bytes l m = some v) (hS : setAt S o (.arr (ver + 1) (flat f v)) = S')
    (h : VTops P ow rs ((d, .ref o (ver + 1) 0 v.length esh) :: fr) S' (.acc (o :: o :: rdx) (some o) :: log) K) : VTops P ow (⟨some d, none, .op (.app esh bytes s x)⟩ :: rs) fr S log K := by
  obtain ⟨h1, rfl⟩ := appL_some hv
  exact E_appR he e e2 ho h1 hS h
theorem E_apN {d bytes s x rs} {K : Fr → List Ob → List LE → Prop} {m v : List α} {rdx : List Nat} {S' : List Ob} (he : Enc f esh) (how : ow.contains d = true) (e : ev (Fr.get fr) s = .nils ∨ ev (Fr.get fr) s = .sl true (szOf esh) []) (e2 : vSrc esh (ev (Fr.get fr) x) S = some (m.length, flat f m, rdx))
    (hv : appL bytes [] m = some v) (hS : setAt S S.length (.arr 0 (flat f v)) = S')
    (h : VTops P ow rs ((d, .ref S.length 0 0 v.length esh) :: fr) S' (.acc (S.length :: rdx) (some S.length) :: log) K) : VTops P ow (⟨some d, none, .op (.app esh bytes s x)⟩ :: rs) fr S log K := by
  obtain ⟨h1, rfl⟩ := appL_some hv
  exact E_appN he how e e2 (by simpa using h1) hS h
theorem E_apF {d bytes s x rs} {K : Fr → List Ob → List LE → Prop} {l m v : List α} {rdx : List Nat} (he : Enc f esh) (how : ow.contains d = false) (e : (ev (Fr.get fr) s = .nils ∧ l = []) ∨ ev (Fr.get fr) s = .sl true (szOf esh) (l.map f)) (e2 : vSrc esh (ev (Fr.get fr) x) S = some (m.length, flat f m, rdx))
    (hv : appL bytes l m = some v) (h : VTops P ow rs ((d, .sl false (szOf esh) (v.map f)) :: fr) S (.acc rdx none :: log) K) : VTops P ow (⟨some d, none, .op (.app esh bytes s x)⟩ :: rs) fr S log K := by
  obtain ⟨h1, rfl⟩ := appL_some hv
  exact E_appF he how e e2 h1 h
theorem E_slcP {d x hi rs} {K : Fr → List Ob → List LE → Prop} {o ver k} {l v : List α} {b : Int} (e : ev (Fr.get fr) x = .ref o ver 0 l.length esh) (e1 : ev (Fr.get fr) hi = .int k b) (hv : subL l 0 b = some v)
    (h : VTops P ow rs ((d, .ref o ver (0 + 0 * szOf esh) b.toNat esh) :: fr) S (.acc [] none :: log) K) : VTops P ow (⟨some d, none, .op (.slc esh x none (some hi) none)⟩ :: rs) fr S log K := by
  obtain ⟨h1, _⟩ := subL_some hv
  exact E_slcR (a := 0) (b := b.toNat) e rfl (by rw [evO_some, e1]; exact hiN_int (by omega)) (by omega) h
theorem E_callW {d f args rs} {K : Fr → List Ob → List LE → Prop} {as as' v} (c : PureEv P f as v) (e : evL (Fr.get fr) args = as') (hw : awL as' as) (h1 : blwL 0 as' = true) (h2 : v.blw 0 = true) (h : VTops P ow rs ((d, v) :: fr) S (.acc [] none :: log) K) :
    VTops P ow (⟨some d, none, .call f args⟩ :: rs) fr S log K :=
  E_call (c.weaka (awL_len hw) (awL_get hw)) e h1 h2 h
theorem E_callvW {d f x args rs} {K : Fr → List Ob → List LE → Prop} {as as' first caps v} (e : ev (Fr.get fr) x = .fn (.func f) first caps) (hc : callable P f = true) (c : PureEv P f as v) (e' : first ++ evL (Fr.get fr) args ++ caps = as') (hw : awL as' as) (h1 : blwL 0 as' = true) (h2 : v.blw 0 = true) (h : VTops P ow rs ((d, v) :: fr) S (.acc [] none :: log) K) :
    VTops P ow (⟨some d, none, .callv x args⟩ :: rs) fr S log K :=
  E_callv e hc (c.weaka (awL_len hw) (awL_get hw)) e' h1 h2 h
theorem E_pne {d x y rs} {K : Fr → List Ob → List LE → Prop} {o : Option α} (e : ev (Fr.get fr) x = avP f o) (e1 : ev (Fr.get fr) y = .nilp)
    (h : VTops P ow rs ((d, .bool o.isNone) :: fr) S (.acc [] none :: log) K) : VTops P ow (⟨some d, none, .op (.bin .ptr .eql x y)⟩ :: rs) fr S log K := by
  refine E_op0 (v := .bool o.isNone) ?_ rfl h
  simp only [opV, e, e1]
  cases o <;> rfl
theorem E_pnn {d x y rs} {K : Fr → List Ob → List LE → Prop} {o : Option α} (e : ev (Fr.get fr) x = avP f o) (e1 : ev (Fr.get fr) y = .nilp)
    (h : VTops P ow rs ((d, .bool o.isSome) :: fr) S (.acc [] none :: log) K) : VTops P ow (⟨some d, none, .op (.bin .ptr .neq x y)⟩ :: rs) fr S log K := by
  refine E_op0 (v := .bool o.isSome) ?_ rfl h
  simp only [opV, e, e1]
  cases o <;> rfl
end

section
variable {M : RMap} {m : Nat} {S S' : List Ob} {α : Type} {f : α → AV} {e : Option Nat}
theorem rn_ex {sz o' ver' cs'} (h3 : hp S' o' = .arr ver' cs') : RnV (wkR M S S') (.sl true sz []) (.ref o' ver' 0 0 e) := .ex ⟨cs', h3⟩
theorem rn_refV (he : Enc f e) {o ver o' ver' a b} {l v : List α} {off n : Nat} (h1 : rmAt M o' = some (o, off)) (h2 : hp S o = .arr ver (flat f l)) (h3 : hp S' o' = .arr ver' (flat f v)) (hv : subL l a b = some v) (hoff : off = a.toNat * szOf e) (hn : n = b.toNat - a.toNat) :
    RnV (wkR M S S') (.ref o ver off n e) (.ref o' ver' 0 v.length e) := by
  obtain ⟨h4, rfl⟩ := subL_some hv
  have : n = ((l.take b.toNat).drop a.toNat).length := by simp; omega
  rw [← this]
  exact .ref ⟨off, _, _, h1, h2, h3, rfl, by rw [he.length, ← this]; omega⟩
theorem rnl_view (he : Enc f e) {R : Rn} {a b} {l v : List α} {off : Nat} (hv : subL l a b = some v) (hoff : off = a.toNat * szOf e) : RnL R off (flat f l) (flat f v) := by
  obtain ⟨h4, rfl⟩ := subL_some hv
  have hlen : a.toNat * szOf e + (flat f ((l.take b.toNat).drop a.toNat)).length ≤ (flat f l).length := by
    rw [he.length, he.length, ← Nat.add_mul]
    refine Nat.mul_le_mul_right _ ?_
    simp; omega
  subst hoff
  refine RnL.mid (he.blwf 0 l) hlen ?_
  rw [he.length, he.drop, he.take]
  congr 1
  rw [List.drop_take]
  simp
end
end Go.Ab
