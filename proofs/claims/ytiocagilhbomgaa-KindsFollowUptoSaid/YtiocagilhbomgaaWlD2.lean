/- Evaluating verification conditions: operations as functions. -/
import Derived.Test.YtiocagilhbomgaaWlD1
namespace Go.Ab
open Go.RowKit
set_option linter.unusedVariables false
set_option linter.unusedSimpArgs false

abbrev OV := Option (AV × List Nat × Option (Nat × Ob))
def pv (v : Option AV) : OV := v.map fun v => (v, [], none)

def vPick : AV → AV → AV → Option AV
  | .bool t, a, b => some (if t then a else b)
  | _, _, _ => none
def vNew (ow : Bool) (cs : List AV) (S : List Ob) : OV :=
  if ow then some (.ptr S.length 0 0, [], some (S.length, .arr 0 cs)) else some (.cptr cs 0, [], none)
def vPart (sh : Option Nat) (cs : List AV) (off : Nat) : Option AV :=
  match sh with
  | none => if off < cs.length then some (cs.getD off .junk) else none
  | some n => if off + n ≤ cs.length then some (.agg ((cs.drop off).take n)) else none
def obCells (S : List Ob) (o ver : Nat) : Option (List AV) :=
  match hp S o with
  | .arr v cs => if v = ver then some cs else none
  | _ => none
def vLoad (sh : Option Nat) (x : AV) (S : List Ob) : OV :=
  match x with
  | .ptr o ver off => (obCells S o ver).bind fun cs => (vPart sh cs off).map fun v => (v, [o], none)
  | .cptr cs off => pv (vPart sh cs off)
  | _ => none
def vStore (n : Nat) (a x : AV) (S : List Ob) : OV :=
  match a with
  | .ptr o ver off => (obCells S o ver).bind fun cs => if x.cells.length = n ∧ off + n ≤ cs.length ∧ x.cells.all AV.one = true then some (.tup [], [], some (o, .arr ver (splice cs off x.cells))) else none
  | _ => none
def vNchk (x : AV) : Option AV :=
  match x with
  | .ptr _ _ _ | .cptr _ _ | .iface _ _ | .fn (.func _) _ _ => some x
  | _ => none
def vBin (c : EqC) (op : BinOp) (x y : AV) : Option AV :=
  match x, y with
  | .int k a, .int k' b =>
    match op with
    | .shl => shBin .shl k a b
    | .shr => shBin .shr k a b
    | op => if k = k' then intBin op k a b else none
  | .str a, .str b => if op = .add ∧ ¬ a.size + b.size ≤ 9223372036854775807 then none else strBin op a b
  | .bool a, .bool b => if c = .bool then eqOf op (a == b) else none
  | .nilp, .nilp => if c = .ptr then eqOf op true else none
  | .ptr _ _ _, .nilp | .cptr _ _, .nilp | .nilp, .ptr _ _ _ | .nilp, .cptr _ _ => if c = .ptr then eqOf op false else none
  | .iface _ _, .nili | .nili, .iface _ _ => if c = .iface then eqOf op false else none
  | .nils, .nils => if c = .flat then eqOf op true else none
  | .snn _, .nils | .sl _ _ (_ :: _), .nils | .ref _ _ _ (_ + 1) _, .nils => if c = .flat then eqOf op false else none
  | _, _ => none
def vEqs (ks : List FK) (op : BinOp) (x y : AV) : Option AV :=
  match x, y with
  | .agg xs, .agg ys => if alike ks xs ys = true then eqOf op (sameAll xs ys) else none
  | _, _ => none
def vUn (op : UnOp) (x : AV) : Option AV :=
  match op, x with
  | .not, .bool b => some (.bool (!b))
  | .neg, .int k n => some (.int k (k.wrap (0 - n)))
  | .xor, .int k n => intBin .xor k (if k.signed then -1 else k.max) n
  | _, _ => none
def vCint (k : IntKind) (x : AV) : Option AV := match x with | .int _ n => some (.int k (k.wrap n)) | _ => none
def vCstr (x : AV) : Option AV := match x with | .str s => some (.str s) | _ => none
def vFad (fo : Nat) (x : AV) : Option AV :=
  match x with
  | .ptr o ver off => some (.ptr o ver (off + fo))
  | .cptr cs off => some (.cptr cs (off + fo))
  | _ => none
def vIad (arr : Option Nat) (esh : Option Nat) (x i : AV) : Option AV :=
  match arr, x, i with
  | none, .sl _ sz xs, .int _ n => if sz = szOf esh ∧ 0 ≤ n ∧ n < xs.length then some (.cptr (xs.getD n.toNat .junk).cells 0) else none
  | none, .ref o ver off m e, .int _ n => if e = esh ∧ 0 ≤ n ∧ n < m then some (.ptr o ver (off + n.toNat * szOf esh)) else none
  | some len, .ptr o ver off, .int _ n => if 0 ≤ n ∧ n < len then some (.ptr o ver (off + n.toNat * szOf esh)) else none
  | some len, .cptr cs off, .int _ n => if 0 ≤ n ∧ n < len then some (.cptr cs (off + n.toNat * szOf esh)) else none
  | _, _, _ => none
def vSlc (esh : Option Nat) (x : AV) (lo hi mx : Option AV) : Option AV :=
  match mx with
  | none =>
    match x with
    | .nils => match loN lo, hiN 0 hi with
      | some l, some h => if l ≤ h ∧ h ≤ 0 then some .nils else none
      | _, _ => none
    | .sl _ sz xs => match loN lo, hiN xs.length hi with
      | some l, some h => if sz = szOf esh ∧ l ≤ h ∧ h ≤ xs.length then some (.sl false sz ((xs.take h).drop l)) else none
      | _, _ => none
    | .ref o ver off n e => match loN lo, hiN n hi with
      | some l, some h => if e = esh ∧ l ≤ h ∧ h ≤ n ∧ (l = 0 ∨ l < h) then some (.ref o ver (off + l * szOf esh) (h - l) e) else none
      | _, _ => none
    | _ => none
  | some (.int _ m) => match hi with
    | some (.int _ h) => if m = 0 ∧ h = 0 ∧ loN lo = some 0 then (match x with
      | .nils => some .nils
      | .sl _ _ _ | .ref _ _ _ _ _ => some (.sl true (szOf esh) [])
      | _ => none) else none
    | _ => none
  | some _ => none
def vSls (lo hi : Option AV) (x : AV) : Option AV :=
  match x with
  | .str s => match loN lo, hiN s.size hi with
    | some l, some h => if l ≤ h ∧ h ≤ s.size then some (.str (s.extract l h)) else none
    | _, _ => none
  | _ => none
def vIdxS (x i : AV) : Option AV :=
  match x, i with
  | .str s, .int _ n => if 0 ≤ n ∧ n < s.size then some (.int .u8 (s[n.toNat]?.getD 0).toNat) else none
  | _, _ => none
def vIdxA (len : Nat) (sh : Option Nat) (x i : AV) : Option AV :=
  match x, i with
  | .agg cs, .int _ n => if 0 ≤ n ∧ n < len then vPart sh cs (n.toNat * szOf sh) else none
  | _, _ => none
def vExt (i : Nat) (x : AV) : Option AV := match x with | .tup vs => if i < vs.length then some (vs.getD i .junk) else none | _ => none
def vFld (off : Nat) (sh : Option Nat) (x : AV) : Option AV := match x with | .agg cs => vPart sh cs off | _ => none
def vLen (c : LenC) (x : AV) : Option AV :=
  match c, x with
  | .str, .str s => some (.int .i64 s.size)
  | .sl, .nils => some (.int .i64 0)
  | .sl, .sl _ _ xs => some (.int .i64 xs.length)
  | .sl, .ref _ _ _ n _ => some (.int .i64 n)
  | .arr n, _ => some (.int .i64 n)
  | _, _ => none
def vMin (mx : Bool) (x y : AV) : Option AV :=
  match x, y with
  | .int k a, .int _ b => some (.int k (if mx then (if b > a then b else a) else (if b < a then b else a)))
  | _, _ => none
def vSrc (esh : Option Nat) (x : AV) (S : List Ob) : Option (Nat × List AV × List Nat) :=
  match x with
  | .nils | .snn _ => some (0, [], [])
  | .sl _ sz xs => if sz = szOf esh then some (xs.length, xs.flatMap AV.cells, []) else none
  | .ref o ver off m e => if e = esh then (obCells S o ver).map fun cs => (m, (cs.drop off).take (m * szOf esh), [o]) else none
  | .str s => if esh = none then some (s.size, strCells s, []) else none
  | _ => none
def vNewSl (ow ex : Bool) (esh : Option Nat) (n : Nat) (cs : List AV) (S : List Ob) : OV :=
  if n * szOf esh ≤ cs.length ∧ cs.all AV.one = true then
    (if ow then some (.ref S.length 0 0 n esh, [], some (S.length, .arr 0 cs)) else some (.sl ex (szOf esh) (elemsOf esh n cs), [], none))
  else none
def vMksl (ow : Bool) (esh : Option Nat) (bytes : Nat) (zc : List AV) (l c : AV) (S : List Ob) : OV :=
  match l, c with
  | .int _ l, .int _ c => if 0 ≤ l ∧ l ≤ c ∧ c * bytes ≤ 281474976710656 ∧ c ≤ 281474976710656 then vNewSl ow false esh l.toNat (repl l.toNat zc) S else none
  | _, _ => none
def withRd (rd : List Nat) (x : OV) : OV := x.map fun (v, _, δ) => (v, rd, δ)
def vApp (ow : Bool) (esh : Option Nat) (bytes : Nat) (s x : AV) (S : List Ob) : OV :=
  (vSrc esh x S).bind fun (n, cells, rdx) =>
    if cells.all AV.one = true then
      match s with
      | .ref o ver off m e => if e = esh ∧ (m + n) * bytes ≤ 140737488355328 ∧ m + n ≤ 140737488355328 then (obCells S o ver).map fun cs => (.ref o (ver + 1) 0 (m + n) esh, o :: rdx, some (o, .arr (ver + 1) ((cs.drop off).take (m * szOf esh) ++ cells))) else none
      | .nils => if n = 0 then (if ow then some (.ref S.length 0 0 0 esh, rdx, some (S.length, .arr 0 [])) else some (.nils, rdx, none))
          else if n * bytes ≤ 140737488355328 ∧ n ≤ 140737488355328 then withRd rdx (vNewSl ow false esh n cells S) else none
      | .sl ex sz xs => if n = 0 then (if ow ∧ ex = true ∧ xs.isEmpty = true then some (.ref S.length 0 0 0 esh, rdx, some (S.length, .arr 0 [])) else some (.sl ex sz xs, rdx, none))
          else if ex = true ∧ sz = szOf esh ∧ (xs.length + n) * bytes ≤ 140737488355328 ∧ xs.length + n ≤ 140737488355328 then withRd rdx (vNewSl ow false esh (xs.length + n) (xs.flatMap AV.cells ++ cells) S) else none
      | _ => none
    else none
def vCpy (esh : Option Nat) (s x : AV) (S : List Ob) : OV :=
  (vSrc esh x S).bind fun (n, cells, rdx) =>
    if cells.all AV.one = true then match s with
      | .ref o ver off m e => if e = esh ∧ n ≤ m then (obCells S o ver).map fun cs => (.int .i64 n, rdx, some (o, .arr ver (splice cs off cells))) else none
      | .nils => if n = 0 then some (.int .i64 0, rdx, none) else none
      | _ => none
    else none
def bytesOf : List AV → Option (List UInt8)
  | [] => some []
  | .int .u8 n :: r => if 0 ≤ n ∧ n < 256 then (bytesOf r).map (UInt8.ofNat n.toNat :: ·) else none
  | _ => none
def vB2s (x : AV) (S : List Ob) : OV :=
  match x with
  | .str _ => none
  | x => (vSrc none x S).bind fun (_, cells, rd) => (bytesOf cells).map fun bs => (.str ⟨bs.toArray⟩, rd, none)
def vS2b : AV → Option AV
  | .str s => some (.sl false 1 (strCells s))
  | _ => none
def vFill (z : List AV) (ps : List (Nat × Nat × AV)) : Option AV := (fillA z ps).map .agg

def opV (ow : Bool) (r : ROp) (F : Fm) (S : List Ob) : OV :=
  match r with
  | .mv x => some (ev F x, [], none)
  | .pick c a b => pv (vPick (ev F c) (ev F a) (ev F b))
  | .new cs => vNew ow cs S
  | .box x => if (ev F x).nj = true then vNew ow (ev F x).cells S else none
  | .build z ps => pv (vFill z (evP F ps))
  | .bsl esh z len ps => (fillA (repl len z) (evP F ps)).bind fun cs => vNewSl ow true esh len cs S
  | .load sh a => vLoad sh (ev F a) S
  | .store n a x => vStore n (ev F a) (ev F x) S
  | .nchk x => pv (vNchk (ev F x))
  | .bin c op x y => pv (vBin c op (ev F x) (ev F y))
  | .eqs ks op x y => pv (vEqs ks op (ev F x) (ev F y))
  | .un op x => pv (vUn op (ev F x))
  | .cint k x => pv (vCint k (ev F x))
  | .cstr x => pv (vCstr (ev F x))
  | .b2s x => vB2s (ev F x) S
  | .s2b x => pv (vS2b (ev F x))
  | .mki t x => some (.iface t (ev F x), [], none)
  | .mkf f a b => some (.fn f (evL F a) (evL F b), [], none)
  | .mksl esh bytes z l c => vMksl ow esh bytes z (ev F l) (ev F c) S
  | .slc esh x lo hi mx => pv (vSlc esh (ev F x) (evO F lo) (evO F hi) (evO F mx))
  | .sls x lo hi => pv (vSls (evO F lo) (evO F hi) (ev F x))
  | .fad off x => pv (vFad off (ev F x))
  | .iad arr esh x i => pv (vIad arr esh (ev F x) (ev F i))
  | .idxs x i => pv (vIdxS (ev F x) (ev F i))
  | .idxa len sh x i => pv (vIdxA len sh (ev F x) (ev F i))
  | .ext i x => pv (vExt i (ev F x))
  | .fld off sh x => pv (vFld off sh (ev F x))
  | .len c x => pv (vLen c (ev F x))
  | .app esh bytes s x => vApp ow esh bytes (ev F s) (ev F x) S
  | .cpy esh s x => vCpy esh (ev F s) (ev F x) S
  | .mn mx x y => pv (vMin mx (ev F x) (ev F y))

theorem pv_eq {x : Option AV} {v rd δ} (h : pv x = some (v, rd, δ)) : x = some v ∧ rd = [] ∧ δ = none := by
  cases x with
  | none => simp [pv] at h
  | some y => simp [pv] at h; obtain ⟨rfl, rfl, rfl⟩ := h; simp

theorem obCells_eq {S o ver cs} (h : obCells S o ver = some cs) : hp S o = .arr ver cs := by
  unfold obCells at h
  split at h
  · rename_i e; split at h
    · rename_i e2; cases h; subst e2; exact e
    · cases h
  · cases h

theorem hp_len (S : List Ob) : hp S S.length = .virgin := by simp [hp, List.getD_eq_getElem?_getD]

theorem vNew_eq {ow cs S v rd δ} (h : vNew ow cs S = some (v, rd, δ)) : StNew cs (hp S) v rd δ := by
  unfold vNew at h
  split at h <;> cases h
  · exact ⟨rfl, .inl ⟨S.length, hp_len S, rfl, rfl⟩⟩
  · exact ⟨rfl, .inr ⟨rfl, rfl⟩⟩

theorem vPart_eq {sh cs off v} (h : vPart sh cs off = some v) : partOf sh cs off v := by
  unfold vPart at h
  cases sh <;> simp only at h <;> split at h <;> cases h
  · rename_i e; exact ⟨e, rfl⟩
  · rename_i e; exact ⟨e, rfl⟩

theorem vNewSl_eq {ow ex esh n cs S v rd δ} (h : vNewSl ow ex esh n cs S = some (v, rd, δ)) : StNewSl ex esh n cs (hp S) v rd δ := by
  unfold vNewSl at h
  split at h
  · rename_i e
    split at h <;> cases h
    · exact ⟨rfl, e.1, e.2, .inl ⟨S.length, hp_len S, rfl, rfl⟩⟩
    · exact ⟨rfl, e.1, e.2, .inr ⟨rfl, rfl⟩⟩
  · cases h

theorem vSrc_eq {esh x S n cells rd} (h : vSrc esh x S = some (n, cells, rd)) : Src esh x (hp S) n cells rd := by
  unfold vSrc at h
  unfold Src
  cases x <;> simp only [reduceCtorEq] at h ⊢
  · split at h
    · rename_i e; cases h; exact ⟨e, rfl, rfl, rfl⟩
    · cases h
  · cases h; exact ⟨rfl, rfl, rfl⟩
  · cases h; exact ⟨rfl, rfl, rfl⟩
  · split at h
    · rename_i e; cases h; exact ⟨e, rfl, rfl, rfl⟩
    · cases h
  · split at h
    · rename_i e
      simp only [Option.map_eq_some_iff] at h
      obtain ⟨cs, h1, h2⟩ := h
      cases h2
      exact ⟨e, rfl, rfl, cs, obCells_eq h1, rfl⟩
    · cases h

theorem bytesOf_eq : ∀ {cells : List AV} {bs}, bytesOf cells = some bs → cells = strCells ⟨bs.toArray⟩
  | [], bs, h => by simp [bytesOf] at h; subst h; rfl
  | x :: r, bs, h => by
    cases x <;> try (simp [bytesOf] at h; done)
    rename_i k n
    cases k <;> try (simp [bytesOf] at h; done)
    simp only [bytesOf] at h
    split at h
    · rename_i hn
      simp only [Option.map_eq_some_iff] at h
      obtain ⟨bs', h1, rfl⟩ := h
      have := bytesOf_eq h1
      simp only [strCells, List.map_cons] at this ⊢
      rw [← this]
      congr 2
      have : (UInt8.ofNat n.toNat).toNat = n.toNat % 2 ^ 8 := UInt8.toNat_ofNat'
      rw [this]; omega
    · cases h

theorem vB2s_eq {x S v rd δ} (h : vB2s x S = some (v, rd, δ)) : StB2s x (hp S) v rd ∧ δ = none := by
  unfold vB2s at h
  split at h
  · cases h
  · rename_i hx
    simp only [Option.bind_eq_some_iff, Option.map_eq_some_iff, Prod.exists] at h
    obtain ⟨n, cells, rd', h1, bs, h2, h3⟩ := h
    cases h3
    refine ⟨⟨n, _, ?_, ?_, rfl⟩, rfl⟩
    · rw [← bytesOf_eq h2]; exact vSrc_eq h1
    · cases x <;> first | trivial | exact (hx _ rfl).elim

theorem vLoad_eq {sh x S v rd δ} (h : vLoad sh x S = some (v, rd, δ)) : StLoad sh x (hp S) v rd ∧ δ = none := by
  unfold vLoad at h
  split at h
  · simp only [Option.bind_eq_some_iff, Option.map_eq_some_iff] at h
    obtain ⟨cs, h1, v', h2, h3⟩ := h
    cases h3
    exact ⟨⟨rfl, cs, obCells_eq h1, by have := vPart_eq h2; cases sh <;> exact this⟩, rfl⟩
  · obtain ⟨h1, rfl, rfl⟩ := pv_eq h
    exact ⟨⟨rfl, by have := vPart_eq h1; cases sh <;> exact this⟩, rfl⟩
  · cases h

theorem vStore_eq {n a x S v rd δ} (h : vStore n a x S = some (v, rd, δ)) : StStore n a x (hp S) v rd δ := by
  unfold vStore at h
  split at h
  · simp only [Option.bind_eq_some_iff] at h
    obtain ⟨cs, h1, h2⟩ := h
    split at h2 <;> cases h2
    rename_i e
    exact ⟨rfl, rfl, cs, obCells_eq h1, e.1, e.2.1, e.2.2, rfl⟩
  · cases h

theorem vNchk_eq {x v} (h : vNchk x = some v) : StNchk x v := by
  unfold vNchk at h; unfold StNchk
  split at h <;> cases h <;> rfl

theorem vBin_eq {c op x y v} (h : vBin c op x y = some v) : StBin c op x y v := by
  unfold vBin at h; unfold StBin
  split at h
  · split at h
    · exact h
    · exact h
    · rename_i h1 h2
      split at h
      · cases op <;> first | exact (h1 rfl).elim | exact (h2 rfl).elim | exact ⟨by assumption, h⟩
      · cases h
  · split at h
    · cases h
    · rename_i e
      exact ⟨fun e' => Classical.not_not.1 fun e2 => e ⟨e', e2⟩, h⟩
  all_goals first | cases h; done | (split at h <;> first | cases h; done | exact ⟨by assumption, h⟩)

theorem vIad_eq {arr esh x i v} (h : vIad arr esh x i = some v) : StIad arr esh x i v := by
  unfold vIad at h; unfold StIad
  split at h
  all_goals first | cases h; done | skip
  all_goals (split at h <;> cases h; rename_i e)
  · exact ⟨e.1, e.2.1, e.2.2, rfl⟩
  · exact ⟨e.1, e.2.1, e.2.2, rfl⟩
  · exact ⟨e.1, e.2, rfl⟩
  · exact ⟨e.1, e.2, rfl⟩

theorem vSlc_eq {esh x lo hi mx v} (h : vSlc esh x lo hi mx = some v) : StSlc esh x lo hi mx v := by
  unfold vSlc at h; unfold StSlc
  split at h
  · split at h
    · split at h
      · rename_i l k h1 h2
        split at h <;> cases h
        rename_i e
        exact ⟨l, k, h1, h2, e.1, e.2, rfl⟩
      · cases h
    · split at h
      · rename_i l k h1 h2
        split at h <;> cases h
        rename_i e
        exact ⟨e.1, l, k, h1, h2, e.2.1, e.2.2, rfl⟩
      · cases h
    · split at h
      · rename_i l k h1 h2
        split at h <;> cases h
        rename_i e
        exact ⟨e.1, l, k, h1, h2, e.2.1, e.2.2.1, .inl ⟨e.2.2.2, rfl⟩⟩
      · cases h
    · cases h
  · split at h
    · split at h
      · rename_i e
        obtain ⟨rfl, rfl, e3⟩ := e
        refine ⟨rfl, e3, ⟨_, rfl⟩, ?_⟩
        split at h <;> cases h <;> rfl
      · cases h
    · cases h
  · cases h

theorem vApp_eq {ow esh bytes s x S v rd δ} (h : vApp ow esh bytes s x S = some (v, rd, δ)) : StApp esh bytes s x (hp S) v rd δ := by
  unfold vApp at h
  simp only [Option.bind_eq_some_iff, Prod.exists] at h
  obtain ⟨n, cells, rdx, h1, h2⟩ := h
  refine ⟨n, cells, rdx, vSrc_eq h1, ?_⟩
  split at h2
  · rename_i hone
    refine ⟨hone, ?_⟩
    split at h2
    · split at h2
      · rename_i e
        simp only [Option.map_eq_some_iff] at h2
        obtain ⟨cs, h3, h4⟩ := h2
        cases h4
        exact .inr (.inr ⟨e.1, e.2.1, e.2.2, rfl, cs, obCells_eq h3, rfl, rfl⟩)
      · cases h2
    · split at h2
      · rename_i hn
        split at h2 <;> cases h2
        · exact .inr (.inl ⟨hn, rfl, .inl rfl, _, hp_len S, rfl, rfl⟩)
        · exact .inl ⟨hn, rfl, rfl, rfl, trivial⟩
      · rename_i hn
        split at h2
        · rename_i e
          simp only [withRd, Option.map_eq_some_iff, Prod.exists] at h2
          obtain ⟨v', rd', δ', h3, h4⟩ := h2
          cases h4
          have := vNewSl_eq h3
          obtain ⟨a1, a2⟩ := this
          subst a1
          exact .inr (.inr ⟨by omega, e.1, e.2, rfl, rfl, a2⟩)
        · cases h2
    · rename_i ex sz xs
      split at h2
      · rename_i hn
        split at h2
        · rename_i e
          cases h2
          obtain ⟨_, rfl, e3⟩ := e
          have : xs = [] := by simpa using e3
          subst this
          exact .inr (.inl ⟨hn, rfl, .inr ⟨_, rfl⟩, _, hp_len S, rfl, rfl⟩)
        · cases h2
          exact .inl ⟨hn, rfl, rfl, rfl, trivial⟩
      · rename_i hn
        split at h2
        · rename_i e
          obtain ⟨rfl, e⟩ := e
          simp only [withRd, Option.map_eq_some_iff, Prod.exists] at h2
          obtain ⟨v', rd', δ', h3, h4⟩ := h2
          cases h4
          have := vNewSl_eq h3
          obtain ⟨a1, a2⟩ := this
          subst a1
          exact .inr (.inr ⟨by omega, e.1, e.2.1, e.2.2, rfl, rfl, a2⟩)
        · cases h2
    · cases h2
  · cases h2

theorem vCpy_eq {esh s x S v rd δ} (h : vCpy esh s x S = some (v, rd, δ)) : StCpy esh s x (hp S) v rd δ := by
  unfold vCpy at h
  simp only [Option.bind_eq_some_iff, Prod.exists] at h
  obtain ⟨n, cells, rdx, h1, h2⟩ := h
  refine ⟨n, cells, rdx, vSrc_eq h1, ?_⟩
  split at h2
  · rename_i hone
    refine ⟨hone, ?_⟩
    split at h2
    · split at h2
      · rename_i e
        simp only [Option.map_eq_some_iff] at h2
        obtain ⟨cs, h3, h4⟩ := h2
        cases h4
        exact ⟨e.1, e.2, rfl, rfl, cs, obCells_eq h3, rfl⟩
      · cases h2
    · split at h2
      · rename_i e; cases h2; exact ⟨e, rfl, rfl, rfl⟩
      · cases h2
    · cases h2
  · cases h2

theorem opV_sound {ow r F S v rd δ} (h : opV ow r F S = some (v, rd, δ)) : St r F (hp S) v rd δ := by
  cases r
  all_goals simp only [opV] at h
  all_goals simp only [St]
  case mv => cases h; exact ⟨rfl, rfl, rfl⟩
  case pick =>
    replace h := pv_eq h; obtain ⟨h, rfl, rfl⟩ := h
    unfold vPick at h; unfold StPick
    split at h <;> cases h
    rename_i e
    rw [e]
    exact ⟨rfl, rfl, rfl⟩
  case new => exact vNew_eq h
  case box =>
    split at h
    · rename_i e; exact ⟨e, vNew_eq h⟩
    · cases h
  case build =>
    replace h := pv_eq h; obtain ⟨h, rfl, rfl⟩ := h
    simp only [vFill, Option.map_eq_some_iff] at h
    obtain ⟨cs, h1, rfl⟩ := h
    exact ⟨⟨cs, h1, rfl⟩, rfl, rfl⟩
  case bsl =>
    simp only [Option.bind_eq_some_iff] at h
    obtain ⟨cs, h1, h2⟩ := h
    exact ⟨cs, h1, vNewSl_eq h2⟩
  case load => exact vLoad_eq h
  case store => exact vStore_eq h
  case nchk => replace h := pv_eq h; obtain ⟨h, rfl, rfl⟩ := h; exact ⟨vNchk_eq h, rfl, rfl⟩
  case bin => replace h := pv_eq h; obtain ⟨h, rfl, rfl⟩ := h; exact ⟨vBin_eq h, rfl, rfl⟩
  case eqs =>
    replace h := pv_eq h; obtain ⟨h, rfl, rfl⟩ := h
    refine ⟨?_, rfl, rfl⟩
    unfold vEqs at h; unfold StEqs
    split at h
    · rename_i e1 e2
      rw [e1, e2]
      split at h
      · exact ⟨by assumption, h⟩
      · cases h
    · cases h
  case un =>
    replace h := pv_eq h; obtain ⟨h, rfl, rfl⟩ := h
    refine ⟨?_, rfl, rfl⟩
    unfold vUn at h; unfold StUn
    split at h
    · rename_i e; rw [e]; cases h; rfl
    · rename_i e; rw [e]; cases h; rfl
    · rename_i e; rw [e]; exact h
    · cases h
  case cint =>
    replace h := pv_eq h; obtain ⟨h, rfl, rfl⟩ := h
    refine ⟨?_, rfl, rfl⟩
    unfold vCint at h; unfold StCint
    split at h <;> cases h
    rename_i e; rw [e]
  case cstr =>
    replace h := pv_eq h; obtain ⟨h, rfl, rfl⟩ := h
    refine ⟨?_, rfl, rfl⟩
    unfold vCstr at h; unfold StCstr
    split at h <;> cases h
    rename_i e; rw [e]
  case b2s => exact vB2s_eq h
  case s2b =>
    replace h := pv_eq h; obtain ⟨h, rfl, rfl⟩ := h
    refine ⟨?_, rfl, rfl⟩
    unfold vS2b at h; unfold StS2b
    split at h <;> cases h
    rename_i e; rw [e]
  case mki => cases h; exact ⟨rfl, rfl, rfl⟩
  case mkf => cases h; exact ⟨rfl, rfl, rfl⟩
  case mksl =>
    unfold vMksl at h; unfold StMksl
    split at h
    · rename_i e1 e2
      rw [e1, e2]
      split at h
      · rename_i e; exact ⟨e.1, e.2.1, e.2.2.1, e.2.2.2, vNewSl_eq h⟩
      · cases h
    · cases h
  case slc => replace h := pv_eq h; obtain ⟨h, rfl, rfl⟩ := h; exact ⟨vSlc_eq h, rfl, rfl⟩
  case sls =>
    replace h := pv_eq h; obtain ⟨h, rfl, rfl⟩ := h
    refine ⟨?_, rfl, rfl⟩
    unfold vSls at h; unfold StSls
    split at h
    · rename_i e
      rw [e]
      split at h
      · rename_i l k h1 h2
        split at h <;> cases h
        rename_i e; exact ⟨l, k, h1, h2, e.1, e.2, rfl⟩
      · cases h
    · cases h
  case fad =>
    replace h := pv_eq h; obtain ⟨h, rfl, rfl⟩ := h
    refine ⟨?_, rfl, rfl⟩
    unfold vFad at h; unfold StFad
    split at h <;> cases h <;> (rename_i e; rw [e])
  case iad => replace h := pv_eq h; obtain ⟨h, rfl, rfl⟩ := h; exact ⟨vIad_eq h, rfl, rfl⟩
  case idxs =>
    replace h := pv_eq h; obtain ⟨h, rfl, rfl⟩ := h
    refine ⟨?_, rfl, rfl⟩
    unfold vIdxS at h; unfold StIdxS
    split at h
    · rename_i e1 e2; rw [e1, e2]; split at h <;> cases h; rename_i e; exact ⟨e.1, e.2, rfl⟩
    · cases h
  case idxa =>
    replace h := pv_eq h; obtain ⟨h, rfl, rfl⟩ := h
    refine ⟨?_, rfl, rfl⟩
    unfold vIdxA at h; unfold StIdxA
    split at h
    · rename_i e1 e2
      rw [e1, e2]
      split at h
      · rename_i e; exact ⟨e.1, e.2, vPart_eq h⟩
      · cases h
    · cases h
  case ext =>
    replace h := pv_eq h; obtain ⟨h, rfl, rfl⟩ := h
    refine ⟨?_, rfl, rfl⟩
    unfold vExt at h; unfold StExt
    split at h
    · rename_i e; rw [e]; split at h <;> cases h; exact ⟨by assumption, rfl⟩
    · cases h
  case fld =>
    replace h := pv_eq h; obtain ⟨h, rfl, rfl⟩ := h
    refine ⟨?_, rfl, rfl⟩
    unfold vFld at h; unfold StFld
    split at h
    · rename_i e; rw [e]; exact vPart_eq h
    · cases h
  case len =>
    replace h := pv_eq h; obtain ⟨h, rfl, rfl⟩ := h
    refine ⟨?_, rfl, rfl⟩
    unfold vLen at h; unfold StLen
    split at h
    all_goals first | (cases h; done) | skip
    all_goals (cases h; rename_i e; first | rw [e] | rfl)
  case app => exact vApp_eq h
  case cpy => exact vCpy_eq h
  case mn =>
    replace h := pv_eq h; obtain ⟨h, rfl, rfl⟩ := h
    refine ⟨?_, rfl, rfl⟩
    unfold vMin at h; unfold StMin
    split at h
    · rename_i e1 e2; rw [e1, e2]; cases h; rfl
    · cases h
end Go.Ab
