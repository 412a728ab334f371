/- Operations with their types resolved, what each does, and that the model's operation does it. -/
import Derived.Test.YtiocagilhbomgaaWlA10
namespace Go.Ab
open Go.RowKit
set_option linter.unusedVariables false
set_option linter.unusedSimpArgs false

inductive ROp where
  | mv (x : Opd)
  | pick (c a b : Opd)
  | new (cs : List AV)
  | box (x : Opd)
  | build (z : List AV) (ps : List (Nat × Nat × Opd))
  | bsl (esh : Option Nat) (z : List AV) (len : Nat) (ps : List (Nat × Nat × Opd))
  | load (sh : Option Nat) (a : Opd)
  | store (n : Nat) (a x : Opd)
  | nchk (x : Opd)
  | bin (c : EqC) (op : BinOp) (x y : Opd)
  | eqs (ks : List FK) (op : BinOp) (x y : Opd)
  | un (op : UnOp) (x : Opd)
  | cint (k : IntKind) (x : Opd)
  | cstr (x : Opd)
  | b2s (x : Opd)
  | s2b (x : Opd)
  | mki (t : TypeId) (x : Opd)
  | mkf (f : Fn) (first caps : List Opd)
  | mksl (esh : Option Nat) (bytes : Nat) (z : List AV) (l c : Opd)
  | slc (esh : Option Nat) (x : Opd) (lo hi mx : Option Opd)
  | sls (x : Opd) (lo hi : Option Opd)
  | fad (off : Nat) (x : Opd)
  | iad (arr : Option Nat) (esh : Option Nat) (x i : Opd)
  | idxs (x i : Opd)
  | idxa (len : Nat) (sh : Option Nat) (x i : Opd)
  | ext (i : Nat) (x : Opd)
  | fld (off : Nat) (sh : Option Nat) (x : Opd)
  | len (c : LenC) (x : Opd)
  | app (esh : Option Nat) (bytes : Nat) (s x : Opd)
  | cpy (esh : Option Nat) (s x : Opd)
  | mn (mx : Bool) (x y : Opd)

def evP (fr : Fm) : List (Nat × Nat × Opd) → List (Nat × Nat × AV)
  | [] => []
  | (a, b, x) :: r => (a, b, ev fr x) :: evP fr r

def evO (fr : Fm) : Option Opd → Option AV
  | none => none
  | some x => some (ev fr x)

def evL (fr : Fm) : List Opd → List AV
  | [] => []
  | x :: r => ev fr x :: evL fr r

def StPick (c a b v : AV) : Prop := match c with | .bool t => v = (if t then a else b) | _ => False
def StBox (x : AV) (σ : Hp) (v : AV) (rd : List Nat) (δ : Option (Nat × Ob)) : Prop := x.nj = true ∧ StNew x.cells σ v rd δ
def StCint (k : IntKind) (x v : AV) : Prop := match x with | .int _ n => v = .int k (k.wrap n) | _ => False
def StCstr (x v : AV) : Prop := match x with | .str s => v = .str s | _ => False
def StFld (off : Nat) (sh : Option Nat) (x v : AV) : Prop := match x with | .agg cs => partOf sh cs off v | _ => False

def St (r : ROp) (fr : Fm) (σ : Hp) (v : AV) (rd : List Nat) (δ : Option (Nat × Ob)) : Prop :=
  match r with
  | .mv x => v = ev fr x ∧ rd = [] ∧ δ = none
  | .pick c a b => StPick (ev fr c) (ev fr a) (ev fr b) v ∧ rd = [] ∧ δ = none
  | .new cs => StNew cs σ v rd δ
  | .box x => StBox (ev fr x) σ v rd δ
  | .build z ps => (∃ cs, fillA z (evP fr ps) = some cs ∧ v = .agg cs) ∧ rd = [] ∧ δ = none
  | .bsl esh z len ps => ∃ cs, fillA (repl len z) (evP fr ps) = some cs ∧ StNewSl true esh len cs σ v rd δ
  | .load sh a => StLoad sh (ev fr a) σ v rd ∧ δ = none
  | .store n a x => StStore n (ev fr a) (ev fr x) σ v rd δ
  | .nchk x => StNchk (ev fr x) v ∧ rd = [] ∧ δ = none
  | .bin c op x y => StBin c op (ev fr x) (ev fr y) v ∧ rd = [] ∧ δ = none
  | .eqs ks op x y => StEqs ks op (ev fr x) (ev fr y) v ∧ rd = [] ∧ δ = none
  | .un op x => StUn op (ev fr x) v ∧ rd = [] ∧ δ = none
  | .cint k x => StCint k (ev fr x) v ∧ rd = [] ∧ δ = none
  | .cstr x => StCstr (ev fr x) v ∧ rd = [] ∧ δ = none
  | .b2s x => StB2s (ev fr x) σ v rd ∧ δ = none
  | .s2b x => StS2b (ev fr x) v ∧ rd = [] ∧ δ = none
  | .mki t x => v = .iface t (ev fr x) ∧ rd = [] ∧ δ = none
  | .mkf f a b => v = .fn f (evL fr a) (evL fr b) ∧ rd = [] ∧ δ = none
  | .mksl esh bytes z l c => StMksl esh bytes z (ev fr l) (ev fr c) σ v rd δ
  | .slc esh x lo hi mx => StSlc esh (ev fr x) (evO fr lo) (evO fr hi) (evO fr mx) v ∧ rd = [] ∧ δ = none
  | .sls x lo hi => StSls (evO fr lo) (evO fr hi) (ev fr x) v ∧ rd = [] ∧ δ = none
  | .fad off x => StFad off (ev fr x) v ∧ rd = [] ∧ δ = none
  | .iad arr esh x i => StIad arr esh (ev fr x) (ev fr i) v ∧ rd = [] ∧ δ = none
  | .idxs x i => StIdxS (ev fr x) (ev fr i) v ∧ rd = [] ∧ δ = none
  | .idxa len sh x i => StIdxA len sh (ev fr x) (ev fr i) v ∧ rd = [] ∧ δ = none
  | .ext i x => StExt i (ev fr x) v ∧ rd = [] ∧ δ = none
  | .fld off sh x => StFld off sh (ev fr x) v ∧ rd = [] ∧ δ = none
  | .len c x => StLen c (ev fr x) v ∧ rd = [] ∧ δ = none
  | .app esh bytes s x => StApp esh bytes (ev fr s) (ev fr x) σ v rd δ
  | .cpy esh s x => StCpy esh (ev fr s) (ev fr x) σ v rd δ
  | .mn mx x y => StMin mx (ev fr x) (ev fr y) v ∧ rd = [] ∧ δ = none

/-! ### resolving -/
def rParts (place : Nat → Option (Nat × Nat)) : List (Nat × Operand) → Option (List (Nat × Nat × Opd))
  | [] => some []
  | (i, x) :: r => match place i, rOpd x, rParts place r with
    | some (a, b), some y, some ys => some ((a, b, y) :: ys)
    | _, _, _ => none

def rOpds : List Operand → Option (List Opd)
  | [] => some []
  | x :: r => match rOpd x, rOpds r with
    | some y, some ys => some (y :: ys)
    | _, _ => none

def rOpt : Option Operand → Option (Option Opd)
  | none => some none
  | some x => (rOpd x).map some

def zeroCellsOf (P : Program) (t : TypeId) : Option (List AV) :=
  match P.info? t with
  | some i => match i.zero with
    | some z => ofLits z.cells.toList
    | none => none
  | none => none

def placesOf (P : Program) (t : TypeId) : Option (Nat → Option (Nat × Nat)) :=
  match P.underlying t with
  | some (.array _ e) => match P.info? e with
    | some ie => some fun i => some (i * ie.size, ie.size)
    | none => none
  | some (.struct fields) => match fields.toList.mapM (fun f => (P.info? f.type).map fun i => (f.offset, i.size)) with
    | some places => some (places.toArray[·]?)
    | none => none
  | _ => none

def fksOf (P : Program) : List Field → Option (List FK)
  | [] => some []
  | f :: r => match fkOf P f.type, fksOf P r with
    | some k, some ks => some (k :: ks)
    | _, _ => none

def resBin (P : Program) (op : BinOp) (t : TypeId) (x y : Opd) : Option ROp :=
  match P.underlying t with
  | some .bool => some (.bin .bool op x y)
  | some (.pointer _) => some (.bin .ptr op x y)
  | some (.interface _) => some (.bin .iface op x y)
  | some (.slice _) => some (.bin .flat op x y)
  | some (.struct fields) => match fksOf P fields.toList with
    | some ks => if flatFields P 0 fields.toList ks && !P.stoodInHeld t && !P.eqGuardType P.depth t then some (.eqs ks op x y) else none
    | none => none
  | _ => some (.bin .none op x y)

def resConv (P : Program) (src dst : TypeId) (x : Opd) : Option ROp :=
  match P.underlying dst, P.underlying src with
  | some (.int k), some _ => some (.cint k x)
  | some .string, some .string => some (.cstr x)
  | some .string, some (.slice e) => match P.underlying e with
    | some (.int .u8) => some (.b2s x)
    | _ => none
  | some (.slice e), some .string => match P.underlying e with
    | some (.int .u8) => some (.s2b x)
    | _ => none
  | _, _ => none

def resLen (P : Program) (t : TypeId) : Option LenC :=
  match P.underlying t with
  | some .string => some .str
  | some (.slice _) => some .sl
  | some (.array n _) => some (.arr n)
  | some (.pointer a) => match P.underlying a with
    | some (.array n _) => some (.arr n)
    | _ => none
  | _ => none

/-- The element's shape, of a slice's type. -/
def resElem (P : Program) (t : TypeId) : Option (TypeId × Option Nat) :=
  match P.underlying t with
  | some (.slice e) => (eshOf P e).map (e, ·)
  | _ => none

/-- Its zero cells and bytes too. -/
def resElemZ (P : Program) (t : TypeId) : Option (Option Nat × Nat × List AV) :=
  match resElem P t with
  | some (e, esh) => match P.info? e, zeroCellsOf P e with
    | some inf, some zc => if zc.length = szOf esh then some (esh, inf.bytes, zc) else none
    | _, _ => none
  | none => none

def resOp (P : Program) (o : Op) : Option ROp :=
  match o with
  | .move x | .assign x => (rOpd x).map .mv
  | .pick c a b => match rOpd c, rOpd a, rOpd b with
    | some c, some a, some b => some (.pick c a b)
    | _, _, _ => none
  | .alloc t => (zeroCellsOf P t).map .new
  | .box _ x => (rOpd x).map .box
  | .build t ps => match zeroCellsOf P t, placesOf P t with
    | some zc, some place => (rParts place ps.toList).map (.build zc)
    | _, _ => none
  | .buildSlice t len ps => match resElemZ P t with
    | some (esh, _, zc) => if len * szOf esh ≤ 16777216 then (rParts (fun i => some (i * szOf esh, szOf esh)) ps.toList).map (.bsl esh zc len) else none
    | none => none
  | .load t a => match eshOf P t, rOpd a with
    | some sh, some a => some (.load sh a)
    | _, _ => none
  | .store t a x => match P.info? t, rOpd a, rOpd x with
    | some i, some a, some x => some (.store i.size a x)
    | _, _, _ => none
  | .nilCheck x => (rOpd x).map .nchk
  | .binOp op t x y _ => match rOpd x, rOpd y with
    | some x, some y => resBin P op t x y
    | _, _ => none
  | .unOp op _ x => (rOpd x).map (.un op)
  | .convert src dst x => (rOpd x).bind (resConv P src dst)
  | .makeInterface t x => if P.concrete t then (rOpd x).map (.mki t) else none
  | .makeFunc f a b => match rOpds a.toList, rOpds b.toList with
    | some a, some b => some (.mkf f a b)
    | _, _ => none
  | .makeSlice t l c => match resElemZ P t, rOpd l, rOpd c with
    | some (esh, bytes, zc), some l, some c => some (.mksl esh bytes zc l c)
    | _, _, _ => none
  | .slice t x lo hi mx => match rOpd x, rOpt lo, rOpt hi, rOpt mx with
    | some x, some lo, some hi, some mx => match P.underlying t with
      | some .string => match mx with
        | none => some (.sls x lo hi)
        | some _ => none
      | _ => (resElem P t).map fun e => .slc e.2 x lo hi mx
    | _, _, _, _ => none
  | .fieldAddr t x fi => match P.underlying t with
    | some (.struct fields) => match fields[fi]? with
      | some f => match P.info? f.type with
        | some i => if i.size = 0 then none else (rOpd x).map (.fad f.offset)
        | none => none
      | none => none
    | _ => none
  | .field t x fi => match P.underlying t with
    | some (.struct fields) => match fields[fi]? with
      | some f => match eshOf P f.type with
        | some sh => (rOpd x).map (.fld f.offset sh)
        | none => none
      | none => none
    | _ => none
  | .indexAddr t x i => match rOpd x, rOpd i with
    | some x, some i => match P.underlying t with
      | some (.slice e) => (eshOf P e).map fun sh => .iad none sh x i
      | some (.array n e) => (eshOf P e).map fun sh => .iad (some n) sh x i
      | _ => none
    | _, _ => none
  | .index t x i => match rOpd x, rOpd i with
    | some x, some i => match P.underlying t with
      | some .string => some (.idxs x i)
      | some (.array n e) => (eshOf P e).map fun sh => .idxa n sh x i
      | _ => none
    | _, _ => none
  | .extract x i => (rOpd x).map (.ext i)
  | .call c => match c.callee with
    | .builtin b => match b, c.args.toList, c.argTypes.toList with
      | .len, [x], [t] => match resLen P t, rOpd x with
        | some k, some x => some (.len k x)
        | _, _ => none
      | .append, [s, x], [t, tx] => match resElemZ P t, rOpd s, rOpd x with
        | some (esh, bytes, _), some s, some x => match P.underlying tx with
          | some (.slice _) | some .string => some (.app esh bytes s x)
          | _ => none
        | _, _, _ => none
      | .copy, [s, x], [t, _] => match resElem P t, rOpd s, rOpd x with
        | some (_, esh), some s, some x => some (.cpy esh s x)
        | _, _, _ => none
      | .min, [x, y], _ => match rOpd x, rOpd y with
        | some x, some y => some (.mn false x y)
        | _, _ => none
      | .max, [x, y], _ => match rOpd x, rOpd y with
        | some x, some y => some (.mn true x y)
        | _, _ => none
      | _, _, _ => none
    | _ => none
  | _ => none

/-! ### soundness -/
theorem rParts_VR {g σ n fr} {a : Act} (hf : FRel g σ n fr a) {place : Nat → Option (Nat × Nat)} : ∀ {ps : List (Nat × Operand)} {qs : List (Nat × Nat × Opd)}, rParts place ps = some qs →
    (evP fr qs).length = ps.length ∧ ∀ j (h : j < (evP fr qs).length) (h' : j < ps.length), place (ps[j]).1 = some (((evP fr qs)[j]).1, ((evP fr qs)[j]).2.1) ∧ VR g.pm g.L σ ((evP fr qs)[j]).2.2 (a.eval (ps[j]).2)
  | [], qs, h => by simp [rParts] at h; subst h; simp [evP]
  | (i, x) :: r, qs, h => by
    simp only [rParts] at h
    split at h
    · rename_i p q y ys h1 h2 h3
      cases h
      obtain ⟨i1, i2⟩ := rParts_VR hf h3
      refine ⟨by simp [evP, i1], fun j hj hj' => ?_⟩
      cases j with
      | zero => exact ⟨h1, rOpd_VR hf h2⟩
      | succ j => exact i2 j (by simpa [evP] using hj) (by simpa using hj')
    · cases h

theorem rOpds_VR {g σ n fr} {a : Act} (hf : FRel g σ n fr a) : ∀ {ps : List Operand} {qs : List Opd}, rOpds ps = some qs →
    (evL fr qs).length = ps.length ∧ ∀ j (h : j < (evL fr qs).length) (h' : j < ps.length), VR g.pm g.L σ ((evL fr qs)[j]) (a.eval (ps[j]))
  | [], qs, h => by simp [rOpds] at h; subst h; simp [evL]
  | x :: r, qs, h => by
    simp only [rOpds] at h
    split at h
    · rename_i y ys h2 h3
      cases h
      obtain ⟨i1, i2⟩ := rOpds_VR hf h3
      refine ⟨by simp [evL, i1], fun j hj hj' => ?_⟩
      cases j with
      | zero => exact rOpd_VR hf h2
      | succ j => exact i2 j (by simpa [evL] using hj) (by simpa using hj')
    · cases h

theorem rOpt_OVR {g σ n fr} {a : Act} (hf : FRel g σ n fr a) {x : Option Operand} {y : Option Opd} (h : rOpt x = some y) : OVR g σ (evO fr y) (x.map a.eval) := by
  cases x with
  | none => simp [rOpt] at h; subst h; exact .none
  | some x =>
    simp only [rOpt, Option.map_eq_some_iff] at h
    obtain ⟨z, h1, rfl⟩ := h
    exact .some (rOpd_VR hf h1)

theorem zeroCellsOf_eq {P : Program} {t : TypeId} {zc} (h : zeroCellsOf P t = some zc) : ∃ i z, P.info? t = some i ∧ i.zero = some z ∧ ofLits z.cells.toList = some zc := by
  unfold zeroCellsOf at h
  split at h
  · rename_i i hi
    split at h
    · rename_i z hz; exact ⟨i, z, hi, hz, h⟩
    · cases h
  · cases h

theorem run_built {P : Program} {t : TypeId} {place : Nat → Option (Nat × Nat)} {parts : Array (Nat × Value)} {cells : Array Value} {i : TypeInfo} {z : Value} (hp : placesOf P t = some place) (hi : P.info? t = some i) (hz : i.zero = some z)
    (h : Instr.fill place z.cells parts.toList = some cells) (w : World) : (Instr.build t parts).run P w = .ok (.agg cells) w := by
  refine run_build w t parts cells ?_
  unfold placesOf at hp
  unfold Program.built
  rw [hi]
  split at hp
  · rename_i e hu
    rw [hu]
    split at hp
    · rename_i ie hie
      cases hp
      simp only [hz, hie]
      exact h
    · cases hp
  · rename_i fields hu
    rw [hu]
    split at hp
    · rename_i places hpl
      cases hp
      simp only [hz, hpl]
      exact h
    · cases hp
  · cases hp

theorem resElem_eq {P : Program} {t e esh} (h : resElem P t = some (e, esh)) : P.underlying t = some (.slice e) ∧ eshOf P e = some esh := by
  unfold resElem at h
  split at h
  · rename_i hu
    simp only [Option.map_eq_some_iff, Prod.mk.injEq] at h
    obtain ⟨_, h1, rfl, rfl⟩ := h
    exact ⟨hu, h1⟩
  · cases h

theorem resElemZ_eq {P : Program} {t esh bytes zc} (h : resElemZ P t = some (esh, bytes, zc)) :
    ∃ e inf z, P.underlying t = some (.slice e) ∧ eshOf P e = some esh ∧ P.info? e = some inf ∧ inf.zero = some z ∧ ofLits z.cells.toList = some zc ∧ zc.length = szOf esh ∧ inf.bytes = bytes := by
  unfold resElemZ at h
  split at h
  · rename_i e esh' he
    obtain ⟨h1, h2⟩ := resElem_eq he
    split at h
    · rename_i inf zc' hi hz
      split at h
      · rename_i hl
        cases h
        obtain ⟨i, z, a, b, c⟩ := zeroCellsOf_eq hz
        rw [hi] at a; cases a
        exact ⟨e, inf, z, h1, h2, hi, b, c, hl, rfl⟩
      · cases h
    · cases h
  · cases h
end Go.Ab
