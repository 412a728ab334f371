/- What is known of two functions of the library, and of one without arguments. -/
import Derived.Test.YtklmiejnopdabaaGreatDoorWlM5
import Derived.Lib.TrailingZeros
import Derived.Lib.Bytes
import Derived.Lib.Bytealg
import Derived.Test.YtklmiejnopdabaaGreatDoorCt
import Derived.Test.YtklmiejnopdabaaGreatDoorRows
import Derived.Test.YtklmiejnopdabaaGreatDoorChecked
import Derived.Shelf.Spec.TrailingZeros
import Derived.Shelf.Bytes.SlIndexAt
import Derived.Shelf.Slices.Turned
namespace Go.Ab
set_option linter.constructorNameAsVariable false
set_option linter.unusedSimpArgs false
set_option linter.unusedVariables false
open Go.RowKit
set_option linter.unusedVariables false
/-- How many zeros stand behind the last one. -/
def tzN : Nat → Nat → Nat
  | 0, _ => 0
  | f + 1, n => bif Nat.beq (Nat.mod n 2) 1 then 0 else Nat.succ (tzN f (Nat.div n 2))
def byteI (n : Int) : Bool := ile 0 n && ilt n 256
/-- Where a byte stands first, from place i on. -/
def ixN (c : Int) : Nat → List XV → Option Int
  | _, [] => some (-1)
  | i, .int .u8 n :: r => bif byteI n then (bif ieq n c then some (.ofNat i) else ixN c (i + 1) r) else none
  | _, _ :: _ => none
def allU8 : List XV → Bool
  | [] => true
  | .int .u8 n :: r => byteI n && allU8 r
  | _ => false
def ovTz : List XV → Option (Option XV)
  | [.int .u64 (.ofNat n)] => bif Nat.blt n 18446744073709551616 then some (some (.int .i64 (.ofNat (tzN 64 n)))) else none
  | _ => none
def ovIx : List XV → Option (Option XV)
  | [.sl false 1 l, .int .u8 c] => bif byteI c && allU8 l then (match ixN c 0 l with
    | some i => some (some (.int .i64 i))
    | none => none) else none
  | _ => none
def ovM (tz ix : Nat) (ov : FuncId → List XV → Option (Option XV)) (f : FuncId) (args : List XV) : Option (Option XV) :=
  bif Nat.beq f tz then ovTz args else bif Nat.beq f ix then ovIx args else ov f args
theorem tzN_from : ∀ (f n : Nat), tzN f n = Lib.ctzFrom f n
  | 0, n => rfl
  | f + 1, n => by
    have hm : Nat.mod n 2 = n % 2 := rfl
    have hd : Nat.div n 2 = n / 2 := rfl
    simp only [tzN, Lib.ctzFrom, hm, hd, tzN_from f]
    by_cases h : n % 2 = 1
    · rw [if_pos h, h]; rfl
    · have : n % 2 = 0 := by omega
      rw [if_neg h, this]
      show Nat.succ _ = _
      omega
theorem tzN_ctz (n : Nat) : tzN 64 n = Lib.ctz 64 n := by
  rw [tzN_from]
  unfold Lib.ctz
  by_cases h : n = 0
  · subst h; rw [if_pos rfl]; decide
  · rw [if_neg h]
theorem byteI_iff {n : Int} : byteI n = true ↔ 0 ≤ n ∧ n < 256 := by
  simp only [byteI, Bool.and_eq_true, ile_eq, ilt_eq, decide_eq_true_eq]
def intsX : List XV → List Int
  | [] => []
  | .int _ n :: r => n :: intsX r
  | _ :: r => 0 :: intsX r
theorem u8i_eq {a b : Int} (ha : 0 ≤ a ∧ a < 256) (hb : 0 ≤ b ∧ b < 256) : (UInt8.ofNat a.toNat == UInt8.ofNat b.toNat) = (a == b) := by
  rw [Bool.eq_iff_iff]
  simp only [beq_iff_eq]
  constructor
  · intro h
    have := congrArg UInt8.toNat h
    simp only [UInt8.toNat_ofNat'] at this
    omega
  · intro h; rw [h]
theorem ixN_ok {c : Int} (hc : 0 ≤ c ∧ c < 256) : ∀ (l : List XV) (i : Nat) (r : Int), ixN c i l = some r → (r = -1 ∧ Lib.indexByte (Lib.bytesOf (intsX l)) (UInt8.ofNat c.toNat) = -1) ∨ (0 ≤ Lib.indexByte (Lib.bytesOf (intsX l)) (UInt8.ofNat c.toNat) ∧ r = i + Lib.indexByte (Lib.bytesOf (intsX l)) (UInt8.ofNat c.toNat))
  | [], i, r, h => by simp only [ixN, Option.some.injEq] at h; exact .inl ⟨h.symm, rfl⟩
  | x :: l, i, r, h => by
    cases x with
    | int k n =>
      cases k with
      | u8 =>
        simp only [ixN] at h
        obtain ⟨hb, h⟩ := bif_some h
        have hb := byteI_iff.1 hb
        show (r = -1 ∧ (if UInt8.ofNat n.toNat == UInt8.ofNat c.toNat then (0 : Int) else if Lib.indexByte (Lib.bytesOf (intsX l)) (UInt8.ofNat c.toNat) == -1 then -1 else Lib.indexByte (Lib.bytesOf (intsX l)) (UInt8.ofNat c.toNat) + 1) = -1) ∨ (0 ≤ (if UInt8.ofNat n.toNat == UInt8.ofNat c.toNat then (0 : Int) else if Lib.indexByte (Lib.bytesOf (intsX l)) (UInt8.ofNat c.toNat) == -1 then -1 else Lib.indexByte (Lib.bytesOf (intsX l)) (UInt8.ofNat c.toNat) + 1) ∧ r = i + (if UInt8.ofNat n.toNat == UInt8.ofNat c.toNat then (0 : Int) else if Lib.indexByte (Lib.bytesOf (intsX l)) (UInt8.ofNat c.toNat) == -1 then -1 else Lib.indexByte (Lib.bytesOf (intsX l)) (UInt8.ofNat c.toNat) + 1))
        rw [u8i_eq hb hc]
        rw [ieq_eq] at h
        by_cases e : n = c
        · have : (n == c) = true := by simpa using e
          rw [this] at h ⊢
          simp only [cond_true, Option.some.injEq] at h
          subst h
          right
          simp
        · have : (n == c) = false := by simpa using e
          rw [this] at h ⊢
          simp only [cond_false] at h
          rcases ixN_ok hc l (i + 1) r h with ⟨a, b⟩ | ⟨a, b⟩
          · left; rw [b]; exact ⟨a, rfl⟩
          · right
            have h2 : (Lib.indexByte (Lib.bytesOf (intsX l)) (UInt8.ofNat c.toNat) == -1) = false := by
              rw [beq_eq_false_iff_ne]; omega
            rw [h2]
            simp only [Bool.false_eq_true, if_false]
            refine ⟨by omega, ?_⟩
            rw [b]; push_cast; omega
      | _ => simp [ixN] at h
    | _ => simp [ixN] at h
theorem allU8_ok {ρ : Env} : ∀ (l : List XV), allU8 l = true → (intsX l).length = l.length ∧ l.map (XV.av ρ) = (intsX l).map (AV.int .u8)
  | [], _ => ⟨rfl, rfl⟩
  | x :: l, h => by
    cases x with
    | int k n =>
      cases k with
      | u8 =>
        simp only [allU8, Bool.and_eq_true] at h
        obtain ⟨a, b⟩ := allU8_ok (ρ := ρ) l h.2
        exact ⟨by simp [intsX, a], by simp only [intsX, List.map_cons, b]; rfl⟩
      | _ => simp [allU8] at h
    | _ => simp [allU8] at h
end Go.Ab
/- The library's count of the zeros at a word's end, over this program. -/
namespace Go.Proofs.YtklmiejnopdabaaGreatDoor
set_option linter.constructorNameAsVariable false
set_option linter.unusedSimpArgs false
set_option linter.unusedVariables false
open Go Go.Ab Go.RowKit
set_option linter.unusedVariables false
set_option linter.unusedSimpArgs false
def laysTz_ren : Go.Shelf.Ren := ⟨fun | 29 => 224 | n => n, fun | 0 => 0 | 22 => 24 | 25 => 51 | 54 => 407 | n => n, fun | n => n⟩
theorem laysTz : Lays7.n29 Tryz.prog laysTz_ren := {
  mixed := by kernel_rfl
  f29 := Tryz.func224.trans (congrArg some (by kernel_rfl))
  t0 := Tryz.underlying0
  a0 := Tryz.isAgg0
  z0 := Tryz.sizeOf0
  v0 := Tryz.zeroValue0
  i0 := by kernel_rfl
  t3 := Tryz.underlying3
  a3 := Tryz.isAgg3
  z3 := Tryz.sizeOf3
  v3 := Tryz.zeroValue3
  i3 := by kernel_rfl
  t4 := Tryz.underlying4
  a4 := Tryz.isAgg4
  z4 := Tryz.sizeOf4
  v4 := Tryz.zeroValue4
  i4 := by kernel_rfl
  t5 := Tryz.underlying5
  a5 := Tryz.isAgg5
  z5 := Tryz.sizeOf5
  v5 := Tryz.zeroValue5
  i5 := by kernel_rfl
  t22 := Tryz.underlying24
  a22 := Tryz.isAgg24
  z22 := Tryz.sizeOf24
  v22 := Tryz.zeroValue24
  i22 := by kernel_rfl
  t25 := Tryz.underlying51
  a25 := Tryz.isAgg51
  z25 := Tryz.sizeOf51
  v25 := Tryz.zeroValue51
  i25 := by kernel_rfl
  t54 := Tryz.underlying407
  a54 := Tryz.isAgg407
  z54 := Tryz.sizeOf407
  g1 := by kernel_rfl }
def math_bits_TrailingZeros64_s (x : Int) : Option Int := if 0 ≤ x ∧ x < 18446744073709551616 then some (Lib.ctz 64 x.toNat : Int) else none
theorem math_bits_TrailingZeros64_ev {x : Int} {r : Int} (h : math_bits_TrailingZeros64_s x = some r) : PureEv Tryz.prog 224 [.int .u64 x] (.int .i64 r) := by
  unfold math_bits_TrailingZeros64_s at h
  split at h
  case isFalse => cases h
  rename_i hl
  cases h
  intro g w vals hw hv
  obtain ⟨u, rfl, hu⟩ : ∃ u, vals = #[u] ∧ VR g.pm g.L noHp (.int .u64 x) u := by
    obtain ⟨hs, hvv⟩ := hv
    obtain ⟨ll⟩ := vals
    match ll, hs with
    | [u], _ => exact ⟨u, rfl, hvv 0 (by simp) (by simp)⟩
  cases hu
  have hx : (x : Int) = (x.toNat : Int) := by omega
  have hT : TabAt (laysTz_ren.g 1) Lib.deBruijn64tab w := by
    obtain ⟨hb, cs, t, fz, e, q⟩ := hw.tab 1 _ rfl
    subst q
    intro j hj
    have := hw.low.block 1 hb
    simp only [World.cell?, show laysTz_ren.g 1 = 1 from rfl, this, e]
    have e1 : tzT = Lib.deBruijn64tab.map fun n => ((n : Nat) : Int) := by decide
    have hall : (List.map (fun z => Value.int IntKind.u8 z) tzT).toArray[j]? = some (.int .u8 (Lib.deBruijn64tab.getD j 0 : Nat)) := by
      rw [e1]
      simp [List.getElem?_map, List.getD_eq_getElem?_getD, List.getElem?_eq_getElem hj]
    exact hall
  have := Any7.bits_TrailingZeros64 laysTz x.toNat (by omega) w (fun _ => hT)
  rw [← hx] at this
  refine Calls.mono this ?_
  rintro e w' ⟨rfl, rfl⟩
  exact ⟨_, g, rfl, Gh.le.refl _ _, hw, .int⟩
end Go.Proofs.YtklmiejnopdabaaGreatDoor
/- What is known of the library's two functions is so, over this program. -/
namespace Go.Proofs.YtklmiejnopdabaaGreatDoor
set_option linter.constructorNameAsVariable false
set_option linter.unusedSimpArgs false
set_option linter.unusedVariables false
open Go Go.Ab Go.RowKit
set_option linter.unusedVariables false
set_option linter.unusedSimpArgs false
def laysIx_ren : Go.Shelf.Ren := ⟨fun | 187 => 90 | 255 => 151 | n => n, fun | 37 => 59 | n => n, fun n => n⟩
theorem laysIx : Lays.n187 Tryz.prog laysIx_ren := {
  mixed := by kernel_rfl
  f187 := Tryz.func90.trans (congrArg some (by kernel_rfl))
  f255 := Tryz.func151.trans (congrArg some (by kernel_rfl))
  t3 := Tryz.underlying3
  a3 := Tryz.isAgg3
  z3 := Tryz.sizeOf3
  v3 := Tryz.zeroValue3
  t5 := Tryz.underlying5
  a5 := Tryz.isAgg5
  z5 := Tryz.sizeOf5
  v5 := Tryz.zeroValue5
  t37 := Tryz.underlying59
  a37 := Tryz.isAgg59
  z37 := Tryz.sizeOf59
  v37 := Tryz.zeroValue59 }
theorem ix_ev {xs : List Int} {c : Int} : PureEv Tryz.prog 90 [.sl false 1 (xs.map (AV.int .u8)), .int .u8 c] (.int .i64 (Lib.indexByte (Lib.bytesOf xs) (UInt8.ofNat c.toNat))) := by
  intro g w vals hw hv
  obtain ⟨u1, u2, rfl, h1, h2⟩ : ∃ u1 u2, vals = #[u1, u2] ∧ VR g.pm g.L noHp (.sl false 1 (xs.map (AV.int .u8))) u1 ∧ VR g.pm g.L noHp (.int .u8 c) u2 := by
    obtain ⟨hs, hvv⟩ := hv
    obtain ⟨ll⟩ := vals
    match ll, hs with
    | [u1, u2], _ => exact ⟨u1, u2, rfl, hvv 0 (by simp) (by simp), hvv 1 (by simp) (by simp)⟩
  cases h2
  generalize hys : xs.map (AV.int .u8) = ys at h1
  have hyl : ys.length = xs.length := by rw [← hys]; simp
  have hyg : ∀ i (h : i < ys.length) (h' : i < xs.length), ys[i] = .int .u8 xs[i] := fun i h h' => by subst hys; simp
  cases h1 with
  | slnil =>
    obtain rfl : xs = [] := by simpa using hys
    refine Calls.mono (Any.bytes_IndexByte_nil laysIx c w) ?_
    rintro e w' ⟨rfl, rfl⟩
    exact ⟨_, g, rfl, Gh.le.refl _ _, hw, .int⟩
  | slz =>
    rename_i a
    obtain rfl : xs = [] := by simpa using hys
    refine Calls.mono (Any.bytes_IndexByte_at laysIx a 0 0 [] c w rfl (fun i hi => by omega)) ?_
    rintro e w' ⟨rfl, rfl⟩
    exact ⟨_, g, rfl, Gh.le.refl _ _, hw, .int⟩
  | sl us hc he hz hp hvv =>
    rename_i b o cap
    have hcell : ∀ i, i < ys.length → w.cell? ⟨b, o + i, none⟩ = some (.int .u8 (xs.getD i 0)) := fun i hi => by
      have hi' : i < xs.length := by omega
      have e1 := hw.pm _ _ _ (hp i 0 hi (by omega))
      have e2 := hvv i hi 0 (by rw [hz i hi]; omega)
      have e3 : ∀ (h : 0 < (ys[i]).cells.length), (ys[i]).cells[0] = .int .u8 xs[i] := fun h => by
        have : (ys[i]).cells = [.int .u8 xs[i]] := by rw [hyg i hi hi']; rfl
        simp [this]
      rw [e3] at e2
      cases hu : us i 0 <;> rw [hu] at e2 <;> cases e2
      rw [hu] at e1
      rw [show o + i * 1 + 0 = o + i by omega] at e1
      rw [e1, List.getD_eq_getElem?_getD, List.getElem?_eq_getElem hi']
      rfl
    have := Any.bytes_IndexByte laysIx b o ys.length cap xs c w hyl.symm hcell
    refine Calls.mono this ?_
    rintro e w' ⟨rfl, rfl⟩
    exact ⟨_, g, rfl, Gh.le.refl _ _, hw, .int⟩
theorem blw_ints (xs : List Int) : blwL 0 (xs.map (AV.int .u8)) = true := by
  rw [blwL_iff]
  intro x hx
  obtain ⟨n, _, rfl⟩ := List.mem_map.1 hx
  rfl
theorem ovM_ok {ρ : Env} {ov : FuncId → List XV → Option (Option XV)} (hov : OvOK ρ Tryz.prog ov) : OvOK ρ Tryz.prog (ovM 224 90 ov) := by
  intro f args v e σ
  unfold ovM at e
  cases h1 : Nat.beq f 224 with
  | true =>
    rw [h1] at e
    have := Nat.eq_of_beq_eq_true h1
    subst this
    simp only [cond_true] at e
    unfold ovTz at e
    split at e
    · rename_i n
      obtain ⟨hl, e⟩ := bif_some e
      cases e
      have hl := Nat.le_of_ble_eq_true hl
      have := math_bits_TrailingZeros64_ev (x := (n : Int)) (r := (Lib.ctz 64 n : Nat)) (by unfold math_bits_TrailingZeros64_s; rw [if_pos ⟨by omega, by omega⟩]; rfl)
      rw [← tzN_ctz] at this
      exact this.frame rfl rfl σ
    · cases e
  | false =>
    rw [h1] at e
    simp only [cond_false] at e
    cases h2 : Nat.beq f 90 with
    | true =>
      rw [h2] at e
      have := Nat.eq_of_beq_eq_true h2
      subst this
      simp only [cond_true] at e
      unfold ovIx at e
      split at e
      · rename_i l c
        obtain ⟨hb, e⟩ := bif_some e
        simp only [Bool.and_eq_true] at hb
        split at e
        · rename_i i hi
          cases e
          obtain ⟨a, b⟩ := allU8_ok (ρ := ρ) l hb.2
          have := ix_ev (xs := intsX l) (c := c)
          have hr : Lib.indexByte (Lib.bytesOf (intsX l)) (UInt8.ofNat c.toNat) = i := by
            rcases ixN_ok (byteI_iff.1 hb.1) _ _ _ hi with ⟨p, q⟩ | ⟨p, q⟩
            · rw [q, p]
            · rw [q]; simp
          rw [hr, ← b] at this
          have hf := this.frame (by
            show (blwL 0 (l.map (XV.av ρ)) && true) = true
            rw [b, blw_ints]; rfl) rfl σ
          simpa only [List.map_cons, List.map_nil, XV.av, avs_eq] using hf
        · cases e
      · cases e
    | false =>
      rw [h2] at e
      exact hov f args v e σ
end Go.Proofs.YtklmiejnopdabaaGreatDoor
/- What is known of slices.Contains upon a list that is not known; of a function that answers a value. -/
namespace Go.Ab
set_option linter.constructorNameAsVariable false
set_option linter.unusedSimpArgs false
set_option linter.unusedVariables false
open Go.RowKit
set_option linter.unusedVariables false
def lookP : List (Nat × Bool) → Nat → Option Bool
  | [], _ => none
  | p :: l, n => bif Nat.beq p.1 n then some p.2 else lookP l n
/-- Is a number among those that stand in the unknown list? As it is said. -/
def ovC (ct : Nat) (pk : List (Nat × Bool)) (ov : FuncId → List XV → Option (Option XV)) (f : FuncId) (args : List XV) : Option (Option XV) :=
  bif Nat.beq f ct then (match args with
    | [.slt false 1 [], .int .i64 (.ofNat n)] => (match lookP pk n with
      | some b => some (some (.bool b))
      | none => some none)
    | _ => none) else ov f args
def PicksOK (l : List Int) (pk : List (Nat × Bool)) : Prop := ∀ p ∈ pk, l.contains (p.1 : Int) = p.2
theorem lookP_ok {l : List Int} : ∀ {pk : List (Nat × Bool)} {n : Nat} {b : Bool}, PicksOK l pk → lookP pk n = some b → l.contains (n : Int) = b
  | [], _, _, _, h => by cases h
  | p :: pk, n, b, hp, h => by
    unfold lookP at h
    cases e : Nat.beq p.1 n with
    | true =>
      rw [e] at h; cases h
      rw [← Nat.eq_of_beq_eq_true e]; exact hp p (List.mem_cons_self ..)
    | false => rw [e] at h; exact lookP_ok (fun q hq => hp q (List.mem_cons_of_mem _ hq)) h
/-- A function without arguments that is known to answer a value. -/
def pvV (k : Nat) (w : XV) : PvT := fun f args => bif Nat.beq f k then (match args with | [] => some w | _ => none) else none
theorem pvV_ok {P : Program} {ρ : Env} {k : Nat} {w : XV} (hw : (w.av ρ).blw 0 = true) (h : PureEv P k [] (w.av ρ)) : PvOK ρ P (pvV k w) := by
  intro f args v e σ
  obtain ⟨h1, h2⟩ := bif_some e
  have := Nat.eq_of_beq_eq_true h1
  subst this
  split at h2
  · cases h2; exact h.frame rfl hw σ
  · cases h2
end Go.Ab
namespace Go.Proofs.YtklmiejnopdabaaGreatDoor
open Go Go.Ab Go.RowKit
set_option linter.unusedVariables false
set_option linter.unusedSimpArgs false
def laysCt_ren : Go.Shelf.Ren := ⟨fun | 107 => 58 | n => n, fun | 28 => 44 | n => n, fun n => n⟩
theorem laysCt : Lays.n107 Tryz.prog laysCt_ren := {
  mixed := by kernel_rfl
  f107 := Tryz.func58.trans (congrArg some (by kernel_rfl))
  f108 := Tryz.func108.trans (congrArg some (by kernel_rfl))
  t0 := Tryz.underlying0
  a0 := Tryz.isAgg0
  z0 := Tryz.sizeOf0
  v0 := Tryz.zeroValue0
  t3 := Tryz.underlying3
  a3 := Tryz.isAgg3
  z3 := Tryz.sizeOf3
  v3 := Tryz.zeroValue3
  t4 := Tryz.underlying4
  a4 := Tryz.isAgg4
  z4 := Tryz.sizeOf4
  v4 := Tryz.zeroValue4
  t28 := Tryz.underlying44
  a28 := Tryz.isAgg44
  z28 := Tryz.sizeOf44
  v28 := Tryz.zeroValue44 }
theorem ct_ev {xs : List Int} {c : Int} (hbig : xs.length ≤ 9223372036854775807) : PureEv Tryz.prog 58 [.sl false 1 (xs.map (AV.int .i64)), .int .i64 c] (.bool (xs.contains c)) := by
  intro g w vals hw hv
  obtain ⟨u1, u2, rfl, h1, h2⟩ : ∃ u1 u2, vals = #[u1, u2] ∧ VR g.pm g.L noHp (.sl false 1 (xs.map (AV.int .i64))) u1 ∧ VR g.pm g.L noHp (.int .i64 c) u2 := by
    obtain ⟨hs, hvv⟩ := hv
    obtain ⟨ll⟩ := vals
    match ll, hs with
    | [u1, u2], _ => exact ⟨u1, u2, rfl, hvv 0 (by simp) (by simp), hvv 1 (by simp) (by simp)⟩
  cases h2
  generalize hys : xs.map (AV.int .i64) = ys at h1
  have hyl : ys.length = xs.length := by rw [← hys]; simp
  have hyg : ∀ i (h : i < ys.length) (h' : i < xs.length), ys[i] = .int .i64 xs[i] := fun i h h' => by subst hys; simp
  cases h1 with
  | slnil =>
    obtain rfl : xs = [] := by simpa using hys
    refine Calls.mono (Any.slices_Contains_int_empty laysCt _ _ c w) ?_
    rintro e w' ⟨rfl, rfl⟩
    exact ⟨_, g, rfl, Gh.le.refl _ _, hw, .bool⟩
  | slz =>
    obtain rfl : xs = [] := by simpa using hys
    refine Calls.mono (Any.slices_Contains_int_empty laysCt _ _ c w) ?_
    rintro e w' ⟨rfl, rfl⟩
    exact ⟨_, g, rfl, Gh.le.refl _ _, hw, .bool⟩
  | sl us hc he hz hp hvv =>
    rename_i b o cap
    have hcell : ∀ i, i < xs.length → w.cell? ⟨b, o + i, none⟩ = some (.int .i64 (xs.getD i 0)) := fun i hi' => by
      have hi : i < ys.length := by omega
      have e1 := hw.pm _ _ _ (hp i 0 hi (by omega))
      have e2 := hvv i hi 0 (by rw [hz i hi]; omega)
      have e3 : ∀ (h : 0 < (ys[i]).cells.length), (ys[i]).cells[0] = .int .i64 xs[i] := fun h => by
        have : (ys[i]).cells = [.int .i64 xs[i]] := by rw [hyg i hi hi']; rfl
        simp [this]
      rw [e3] at e2
      cases hu : us i 0 <;> rw [hu] at e2 <;> cases e2
      rw [hu] at e1
      rw [show o + i * 1 + 0 = o + i by omega] at e1
      rw [e1, List.getD_eq_getElem?_getD, List.getElem?_eq_getElem hi']
      rfl
    have := Any.slices_Contains_int laysCt b o ys.length cap xs c w (by omega) (by omega) hcell
    rw [hyl, List.take_length] at this
    rw [hyl]
    refine Calls.mono this ?_
    rintro e w' ⟨rfl, rfl⟩
    exact ⟨_, g, rfl, Gh.le.refl _ _, hw, .bool⟩
theorem blw_i64 (xs : List Int) : blwL 0 (xs.map (AV.int .i64)) = true := by
  rw [blwL_iff]
  intro x hx
  obtain ⟨n, _, rfl⟩ := List.mem_map.1 hx
  rfl
theorem ovC_ok {ρ : Env} {l : List Int} (ht : ρ.t = l.map (AV.int .i64)) (hl : l.length ≤ 9223372036854775807) {pk : List (Nat × Bool)} (hp : PicksOK l pk) {ov : FuncId → List XV → Option (Option XV)} (hov : OvOK ρ Tryz.prog ov) : OvOK ρ Tryz.prog (ovC 58 pk ov) := by
  intro f args v e σ
  unfold ovC at e
  cases h1 : Nat.beq f 58 with
  | true =>
    rw [h1] at e
    have := Nat.eq_of_beq_eq_true h1
    subst this
    simp only [cond_true] at e
    split at e
    · rename_i n
      split at e
      · rename_i b hb
        cases e
        have := ct_ev (xs := l) (c := (n : Int)) hl
        rw [lookP_ok hp hb] at this
        have hf := this.frame (by
          show (blwL 0 (l.map (AV.int .i64)) && true) = true
          rw [blw_i64]; rfl) rfl σ
        have e1 : ([XV.slt false 1 [], XV.int .i64 (Int.ofNat n)] : List XV).map (XV.av ρ) = [.sl false 1 (l.map (AV.int .i64)), .int .i64 (n : Int)] := by
          simp only [List.map_cons, List.map_nil, XV.av, XV.avs, List.nil_append, ht]; rfl
        rw [e1]
        exact hf
      · cases e
    · cases e
  | false =>
    rw [h1] at e
    exact hov f args v e σ
end Go.Proofs.YtklmiejnopdabaaGreatDoor
/- The program lives: once for all; what runs over known calls come to. -/
namespace Go.Proofs.YtklmiejnopdabaaGreatDoor
set_option linter.constructorNameAsVariable false
set_option linter.unusedSimpArgs false
set_option linter.unusedVariables false
open Go Go.Ab Go.RowKit
set_option maxRecDepth 100000
set_option linter.unusedVariables false
def env0 : Env := { v := fun _ => 0, t := [] }
theorem lives_e : isT (runR Tryz.prog pv0 (codeT tabL) (ovA (ovM 224 90 ov0) []) 200 7 [] .nil) = true := by kernel_rfl
theorem lives_ev : PureEv Tryz.prog 7 [] (.bool true) := law_R env0 (fs := []) nofun pv0_ok mixed rfl (Nat.le_refl _) tabL_ok (ovA_ok (fs := []) nofun (ms := []) (ovM_ok ov0_ok) trivial) lives_e
def zeroV : XV := .agg [.int .i64 1, .int .u64 0]
theorem zero_e : isV zeroV (runR Tryz.prog pv0 (codeT tabL) (ovA ov0 []) 200 10 [] .nil) = true := by kernel_rfl
theorem zero_ev (ρ : Env) : PureEv Tryz.prog 10 [] (zeroV.av ρ) := call_R env0 (fs := []) nofun pv0_ok mixed rfl (Nat.le_refl _) tabL_ok (ovA_ok (fs := []) nofun (ms := []) ov0_ok trivial) rfl zero_e
def pvZ : PvT := pvV 10 zeroV
theorem pvZ_ok {ρ : Env} : PvOK ρ Tryz.prog pvZ := pvV_ok rfl (zero_ev ρ)
abbrev ovL := ovM 224 90 (ovF 7)
theorem ovL_ok {ρ : Env} : OvOK ρ Tryz.prog ovL := ovM_ok (ovF_ok lives_ev)
theorem run_ok {fs : List (SE × SE)} {ms : List Memo} (h : MemosOK Tryz.prog fs ms) (ρ : Env) (hf : FactsOK ρ fs) : CallOK ρ Tryz.prog (runR Tryz.prog pvZ (codeT tabL) (ovA ovL ms) 200) := by
  rw [runR_eq]
  exact runX_ok pvZ_ok mixed (codeT_ok tabL_ok) (ovA_ok hf ovL_ok h) 200
theorem case_ev {fs : List (SE × SE)} {ms : List Memo} (h : MemosOK Tryz.prog fs ms) {ρ : Env} (hf : FactsOK ρ fs) (hφ : ρ.φ = []) (hN : 1000000000 ≤ ρ.N) {f : FuncId} {args : List XV} (e : isT (runR Tryz.prog pvZ (codeT tabL) (ovA ovL ms) 200 f args ⟨0, .e, ⟨fs, .e, 1000000000, false, 0⟩⟩) = true) : PureEv Tryz.prog f (args.map (XV.av ρ)) (.bool true) :=
  law_R ρ hf pvZ_ok mixed hφ hN tabL_ok (ovA_ok hf ovL_ok h) e
theorem case_pk {fs : List (SE × SE)} {ms : List Memo} (h : MemosOK Tryz.prog fs ms) {ρ : Env} (hf : FactsOK ρ fs) (hφ : ρ.φ = []) (hN : 1000000000 ≤ ρ.N) {l : List Int} (ht : ρ.t = l.map (AV.int .i64)) (hl : l.length ≤ 9223372036854775807) {pk : List (Nat × Bool)} (hp : PicksOK l pk) {f : FuncId} {args : List XV} (e : isT (runR Tryz.prog pvZ (codeT tabL) (ovA (ovC 58 pk ovL) ms) 200 f args ⟨0, .e, ⟨fs, .e, 1000000000, false, 0⟩⟩) = true) : PureEv Tryz.prog f (args.map (XV.av ρ)) (.bool true) :=
  law_R ρ hf pvZ_ok mixed hφ hN tabL_ok (ovA_ok hf (ovC_ok ht hl hp ovL_ok) h) e
end Go.Proofs.YtklmiejnopdabaaGreatDoor
/- Facts on numbers that are not known. -/
namespace Go.Ab
set_option linter.constructorNameAsVariable false
set_option linter.unusedSimpArgs false
set_option linter.unusedVariables false
open Go.RowKit
def fs0 : List (SE × SE) := []
theorem MemoOK.mono {P : Program} {fs fs' : List (SE × SE)} {m : Memo} (h : MemoOK P fs m) (hs : ∀ ρ, FactsOK ρ fs' → FactsOK ρ fs) : MemoOK P fs' m := by
  obtain ⟨a, b, c, d⟩ := h
  refine ⟨a, b, c, fun ρ hf hN s => ?_⟩
  exact d ρ (hs ρ hf) hN s
end Go.Ab
/- Facts on numbers that are not known: their bytes make them, what is laid in 32 bits too. -/
namespace Go.Ab
set_option linter.constructorNameAsVariable false
set_option linter.unusedSimpArgs false
set_option linter.unusedVariables false
open Go.RowKit
set_option linter.unusedVariables false
def shE (k : IntKind) (a : SE) (n : Nat) : SE := .bop .shr k a (.num (.ofNat n))
def byt (a : SE) (i : Nat) : SE := .cv .u8 (shE .u64 a (8 * i))
def chn (b : Nat → SE) : Nat → SE
  | 0 => .bop .or .u64 (.num (.ofNat 0)) (.bop .shl .u64 (.cv .u64 (b 0)) (.num (.ofNat 0)))
  | i + 1 => .bop .or .u64 (chn b i) (.bop .shl .u64 (.cv .u64 (b (i + 1))) (.num (.ofNat (8 * (i + 1)))))
def loE (a : SE) : SE := .cv .i32 (.cv .u32 a)
def hiE (a : SE) : SE := .cv .i32 (.cv .u32 (shE .u64 a 32))
def imE (a : SE) : SE := .cv .u64 (.cv .i64 a)
def cyE (a : SE) (i : Nat) : SE := .bop .shl .u32 (.cv .u32 (.cv .u8 (shE .u32 (.cv .u32 a) (8 * i)))) (.num (.ofNat (8 * i)))
def bkE (a : SE) : SE := .cv .i32 (.bop .or .u32 (.bop .or .u32 (.bop .or .u32 (.cv .u32 (.cv .u8 (.cv .u32 a))) (cyE a 1)) (cyE a 2)) (cyE a 3))
def fsC (a : SE) : List (SE × SE) := [(chn (byt a) 7, a), (bkE (loE a), loE a)]
def fsX (a : SE) : Bool → List (SE × SE)
  | true => [(imE (loE a), a)]
  | false => [(.bop .neq .u64 (imE (loE a)) a, .num (.ofNat 1)), (bkE (hiE a), hiE a), (.bop .or .u64 (.bop .and .u64 (imE (loE a)) (.num (.ofNat 4294967295))) (.bop .shl .u64 (imE (hiE a)) (.num (.ofNat 32))), a)]
def fsV (a : SE) (fits : Bool) : List (SE × SE) := fsC a ++ fsX a fits
def remE (a : SE) (m n : Nat) : SE × SE := (.bop .rem .u64 (.cv .u64 a) (.num (.ofNat m)), .num (.ofNat n))
section
variable {ρ : Env}
theorem u64_low {n : Nat} (h : n < 18446744073709551616) : IntKind.wrap .u64 (n : Int) = n := wrap_low .u64 n h
theorem u32_low {n : Nat} (h : n < 4294967296) : IntKind.wrap .u32 (n : Int) = n := wrap_low .u32 n h
theorem u8_mod (n : Nat) : IntKind.wrap .u8 (n : Int) = (n % 256 : Nat) := by
  simp [IntKind.wrap, IntKind.bits, IntKind.signed]
theorem shr_val {k : IntKind} {a : SE} {x n : Nat} (ha : a.val ρ = x) (hn : n ≤ k.bits) : (shE k a n).val ρ = (x / 2 ^ n : Nat) := by
  have h0 : ¬ (Int.ofNat n < 0) := by simp
  simp only [shE, SE.val, shBin, ha, if_neg h0]
  rw [Nat.min_eq_left (by simpa using hn)]
  show Int.fdiv (x : Int) (2 ^ n) = _
  have e : (2 : Int) ^ n = ((2 ^ n : Nat) : Int) := by simp
  rw [e, Int.fdiv_eq_ediv_of_nonneg _ (Int.natCast_nonneg _)]
  exact (Int.natCast_ediv x (2 ^ n)).symm
theorem ofInt_nat (w n : Nat) : (BitVec.ofInt w (n : Int)).toNat = n % 2 ^ w := by
  rw [BitVec.toNat_ofInt]
  rw [← Int.natCast_emod]; rfl
theorem or_add (w : Nat) {a b i : Nat} (ha : a < 2 ^ i) (hb : a + b * 2 ^ i < 2 ^ w) : (BitVec.ofInt w (a : Int) ||| BitVec.ofInt w ((b * 2 ^ i : Nat) : Int)).toNat = a + b * 2 ^ i := by
  rw [BitVec.toNat_or, ofInt_nat, ofInt_nat, Nat.mod_eq_of_lt (by omega), Nat.mod_eq_of_lt (by omega), Nat.or_comm, Nat.mul_comm b, ← Nat.two_pow_add_eq_or_of_lt ha, Nat.add_comm]
theorem or_val {k : IntKind} {p q : SE} {a b i : Nat} (hp : p.val ρ = a) (hq : q.val ρ = (b * 2 ^ i : Nat)) (ha : a < 2 ^ i) (hb : a + b * 2 ^ i < 2 ^ k.bits) (hl : 2 ^ k.bits ≤ limU k) : (SE.bop .or k p q).val ρ = (a + b * 2 ^ i : Nat) := by
  simp only [SE.val, intBin, hp, hq]
  rw [or_add k.bits ha hb]
  exact wrap_low k _ (by omega)
theorem shl_val {k : IntKind} {p : SE} {b n : Nat} (hp : p.val ρ = b) (hn : n ≤ k.bits) (hb : b * 2 ^ n < limU k) : (SE.bop .shl k p (.num (.ofNat n))).val ρ = (b * 2 ^ n : Nat) := by
  have h0 : ¬ (Int.ofNat n < 0) := by simp
  simp only [SE.val, shBin, hp, if_neg h0]
  rw [Nat.min_eq_left (by simpa using hn)]
  show k.wrap ((b : Int) * 2 ^ n) = _
  have e : (b : Int) * (2 : Int) ^ n = ((b * 2 ^ n : Nat) : Int) := by simp
  rw [e]
  exact wrap_low k _ hb
theorem cv_val {k : IntKind} {p : SE} {b : Nat} (hp : p.val ρ = b) (hb : b < limU k) : (SE.cv k p).val ρ = b := by
  simp only [SE.val, hp]
  exact wrap_low k _ hb
theorem byt_val {a : SE} {x i : Nat} (ha : a.val ρ = x) (hi : i ≤ 7) : (byt a i).val ρ = (x / 2 ^ (8 * i) % 256 : Nat) := by
  show IntKind.wrap .u8 ((shE .u64 a (8 * i)).val ρ) = _
  rw [shr_val ha (by show 8 * i ≤ 64; omega), u8_mod]
theorem chn_val {a : SE} {x : Nat} (ha : a.val ρ = x) : ∀ i, i ≤ 7 → (chn (byt a) i).val ρ = (x % 2 ^ (8 * (i + 1)) : Nat)
  | 0, _ => by
    have hb := cv_val (k := .u64) (byt_val (i := 0) ha (by omega)) (by show _ < 18446744073709551616; omega)
    have h := or_val (k := .u64) (p := .num (.ofNat 0)) (a := 0) (i := 0) (ρ := ρ) rfl (shl_val (k := .u64) (n := 0) hb (by show 0 ≤ 64; omega) (by show _ < 18446744073709551616; omega)) (by decide) (by show _ < 18446744073709551616; omega) (by decide)
    refine h.trans ?_
    simp
  | i + 1, hi => by
    have ih := chn_val ha i (by omega)
    have hb := cv_val (k := .u64) (byt_val (i := i + 1) ha hi) (by show _ < 18446744073709551616; omega)
    have hpow : 2 ^ (8 * (i + 1)) * 256 ≤ 18446744073709551616 := by
      have : i = 0 ∨ i = 1 ∨ i = 2 ∨ i = 3 ∨ i = 4 ∨ i = 5 ∨ i = 6 := by omega
      rcases this with rfl | rfl | rfl | rfl | rfl | rfl | rfl <;> decide
    have hpos : 0 < 2 ^ (8 * (i + 1)) := Nat.two_pow_pos _
    have hm : x % 2 ^ (8 * (i + 1)) < 2 ^ (8 * (i + 1)) := Nat.mod_lt _ hpos
    have hlt : x / 2 ^ (8 * (i + 1)) % 256 * 2 ^ (8 * (i + 1)) ≤ 255 * 2 ^ (8 * (i + 1)) := Nat.mul_le_mul_right _ (by omega)
    have h := or_val (k := .u64) ih (shl_val (k := .u64) (n := 8 * (i + 1)) hb (by show 8 * (i + 1) ≤ 64; omega) (by show _ < 18446744073709551616; omega)) hm (by show _ < 18446744073709551616; omega) (by decide)
    refine h.trans ?_
    congr 1
    have e : 2 ^ (8 * (i + 1 + 1)) = 2 ^ (8 * (i + 1)) * 256 := by rw [show 8 * (i + 1 + 1) = 8 * (i + 1) + 8 by omega, Nat.pow_add]
    rw [e, Nat.mod_mul, Nat.mul_comm (x / _ % 256)]
theorem cy_val {a : SE} {m i : Nat} (ha : (SE.cv .u32 a).val ρ = m) (hm : m < 4294967296) (hi : i ≤ 3) : (cyE a i).val ρ = (m / 2 ^ (8 * i) % 256 * 2 ^ (8 * i) : Nat) := by
  have h1 : (SE.cv .u8 (shE .u32 (.cv .u32 a) (8 * i))).val ρ = (m / 2 ^ (8 * i) % 256 : Nat) := by
    show IntKind.wrap .u8 ((shE .u32 (.cv .u32 a) (8 * i)).val ρ) = _
    rw [shr_val ha (by show 8 * i ≤ 32; omega), u8_mod]
  have hpow : 2 ^ (8 * i) * 256 ≤ 4294967296 := by
    have : i = 0 ∨ i = 1 ∨ i = 2 ∨ i = 3 := by omega
    rcases this with rfl | rfl | rfl | rfl <;> decide
  have hpos : 0 < 2 ^ (8 * i) := Nat.two_pow_pos _
  have hlt : m / 2 ^ (8 * i) % 256 * 2 ^ (8 * i) ≤ 255 * 2 ^ (8 * i) := Nat.mul_le_mul_right _ (by omega)
  exact shl_val (k := .u32) (n := 8 * i) (cv_val (k := .u32) h1 (by show _ < 4294967296; omega)) (by show 8 * i ≤ 32; omega) (by show _ < 4294967296; omega)
theorem bk_val {a : SE} (ha : IntKind.wrap .i32 (IntKind.wrap .u32 (a.val ρ)) = a.val ρ) : (bkE a).val ρ = a.val ρ := by
  have hr : 0 ≤ IntKind.wrap .u32 (a.val ρ) ∧ IntKind.wrap .u32 (a.val ρ) < 4294967296 := by
    simp only [IntKind.wrap, IntKind.bits, IntKind.signed]
    simp
    omega
  obtain ⟨m, hm⟩ := Int.eq_ofNat_of_zero_le hr.1
  have hm2 : m < 4294967296 := by omega
  have hc : (SE.cv .u32 a).val ρ = m := hm
  have h0 : (SE.cv .u32 (.cv .u8 (.cv .u32 a))).val ρ = (m % 256 : Nat) := by
    refine cv_val (k := .u32) ?_ (by show _ < 4294967296; omega)
    show IntKind.wrap .u8 ((SE.cv .u32 a).val ρ) = _
    rw [hc, u8_mod]
  have h1 := or_val (k := .u32) h0 (cy_val (i := 1) hc hm2 (by omega)) (by omega) (by show _ < 4294967296; omega) (by decide)
  have h2 := or_val (k := .u32) h1 (cy_val (i := 2) hc hm2 (by omega)) (by omega) (by show _ < 4294967296; omega) (by decide)
  have h3 := or_val (k := .u32) h2 (cy_val (i := 3) hc hm2 (by omega)) (by omega) (by show _ < 4294967296; omega) (by decide)
  show IntKind.wrap .i32 (SE.val ρ _) = _
  rw [h3]
  have e : m % 256 + m / 2 ^ (8 * 1) % 256 * 2 ^ (8 * 1) + m / 2 ^ (8 * 2) % 256 * 2 ^ (8 * 2) + m / 2 ^ (8 * 3) % 256 * 2 ^ (8 * 3) = m := by omega
  rw [e]
  show IntKind.wrap .i32 (m : Int) = _
  have : (m : Int) = IntKind.wrap .u32 (a.val ρ) := hm.symm
  rw [this]; exact ha
theorem i32_back (z : Int) : IntKind.wrap .i32 (IntKind.wrap .u32 (IntKind.wrap .i32 z)) = IntKind.wrap .i32 z := by
  simp only [IntKind.wrap, IntKind.bits, IntKind.signed]
  simp
  omega
/-- The low half of what a number of 32 bits is, widened with its sign. -/
theorem im_val {a : SE} {z : Int} (ha : a.val ρ = IntKind.wrap .i32 z) : ∃ p : Nat, (imE a).val ρ = p ∧ p < 18446744073709551616 ∧ ((p % 4294967296 : Nat) : Int) = z % 4294967296 := by
  have h : (imE a).val ρ = IntKind.wrap .u64 (IntKind.wrap .i64 (IntKind.wrap .i32 z)) := by rw [← ha]; rfl
  have h1 : 0 ≤ (imE a).val ρ ∧ (imE a).val ρ < 18446744073709551616 ∧ (imE a).val ρ % 4294967296 = z % 4294967296 := by
    rw [h]
    simp only [IntKind.wrap, IntKind.bits, IntKind.signed]
    simp
    omega
  obtain ⟨p, hp⟩ := Int.eq_ofNat_of_zero_le h1.1
  refine ⟨p, hp, by omega, ?_⟩
  rw [← h1.2.2, hp]; omega
theorem mhi_val {a : SE} {x : Nat} (ha : a.val ρ = x) (hx : x < 18446744073709551616) : (SE.bop .or .u64 (.bop .and .u64 (imE (loE a)) (.num (.ofNat 4294967295))) (.bop .shl .u64 (imE (hiE a)) (.num (.ofNat 32)))).val ρ = x := by
  have hl : (loE a).val ρ = IntKind.wrap .i32 (IntKind.wrap .u32 (x : Int)) := by rw [← ha]; rfl
  have hs := shr_val (k := .u64) (n := 32) ha (by decide)
  have hh : (hiE a).val ρ = IntKind.wrap .i32 (IntKind.wrap .u32 ((x / 2 ^ 32 : Nat) : Int)) := by rw [← hs]; rfl
  obtain ⟨p, p1, p2, p3⟩ := im_val hl
  obtain ⟨q, q1, q2, q3⟩ := im_val hh
  have e1 : p % 4294967296 = x % 4294967296 := by
    have : IntKind.wrap .u32 (x : Int) % 4294967296 = (x : Int) % 4294967296 := by
      simp only [IntKind.wrap, IntKind.bits, IntKind.signed]
      simp
    omega
  have e2 : q % 4294967296 = x / 4294967296 := by
    have : IntKind.wrap .u32 ((x / 2 ^ 32 : Nat) : Int) = (x / 2 ^ 32 : Nat) := u32_low (by omega)
    rw [this] at q3
    omega
  have ea : (SE.bop .and .u64 (imE (loE a)) (.num (.ofNat 4294967295))).val ρ = (x % 2 ^ 32 : Nat) := by
    simp only [SE.val, intBin, p1]
    show IntKind.wrap .u64 ((BitVec.ofInt 64 (p : Int) &&& BitVec.ofInt 64 ((4294967295 : Nat) : Int)).toNat : Int) = _
    rw [BitVec.toNat_and, ofInt_nat, ofInt_nat, Nat.mod_eq_of_lt (by omega), Nat.mod_eq_of_lt (by omega), show (4294967295 : Nat) = 2 ^ 32 - 1 by decide, Nat.and_two_pow_sub_one_eq_mod, u64_low (by omega)]
    omega
  have es : (SE.bop .shl .u64 (imE (hiE a)) (.num (.ofNat 32))).val ρ = (x / 2 ^ 32 * 2 ^ 32 : Nat) := by
    have h0 : ¬ (Int.ofNat 32 < 0) := by simp
    simp only [SE.val, shBin, q1, if_neg h0]
    show IntKind.wrap .u64 ((q : Int) * 2 ^ 32) = _
    simp only [IntKind.wrap, IntKind.bits, IntKind.signed]
    simp
    omega
  refine (or_val (k := .u64) ea es (by omega) (by show _ < 18446744073709551616; omega) (by decide)).trans ?_
  congr 1
  omega
theorem fsV_ok {i x : Nat} (hv : ρ.v i = x) (hx : x < 18446744073709551616) : ∃ b, FactsOK ρ (fsV (.var i) b) := by
  have ha : (SE.var i).val ρ = x := hv
  have c1 : (chn (byt (.var i)) 7).val ρ = (SE.var i).val ρ := by
    rw [chn_val ha 7 (by omega), ha, Nat.mod_eq_of_lt (by simpa using hx)]
  have c2 : (bkE (loE (.var i))).val ρ = (loE (.var i)).val ρ := bk_val (i32_back _)
  have c3 : (bkE (hiE (.var i))).val ρ = (hiE (.var i)).val ρ := bk_val (i32_back _)
  by_cases h : (imE (loE (.var i))).val ρ = (SE.var i).val ρ
  · refine ⟨true, fun p hp => ?_⟩
    simp only [fsV, fsC, fsX, List.cons_append, List.nil_append, List.mem_cons, List.not_mem_nil, or_false] at hp
    rcases hp with rfl | rfl | rfl
    · exact c1
    · exact c2
    · exact h
  · refine ⟨false, fun p hp => ?_⟩
    simp only [fsV, fsC, fsX, List.cons_append, List.nil_append, List.mem_cons, List.not_mem_nil, or_false] at hp
    rcases hp with rfl | rfl | rfl | rfl | rfl
    · exact c1
    · exact c2
    · have : ((imE (loE (.var i))).val ρ != (SE.var i).val ρ) = true := by simpa using h
      show SE.val ρ (.bop .neq .u64 (imE (loE (.var i))) (.var i)) = 1
      generalize imE (loE (.var i)) = t at this
      simp only [SE.val, intBin] at this ⊢
      rw [this]
    · exact c3
    · exact (mhi_val ha hx).trans ha.symm
theorem FactsOK.app {a b : List (SE × SE)} (h : FactsOK ρ a) (k : FactsOK ρ b) : FactsOK ρ (a ++ b) := fun p hp => by
  rcases List.mem_append.1 hp with e | e
  · exact h p e
  · exact k p e
theorem FactsOK.left {a b : List (SE × SE)} (h : FactsOK ρ (a ++ b)) : FactsOK ρ a := fun p hp => h p (List.mem_append_left _ hp)
theorem FactsOK.right {a b : List (SE × SE)} (h : FactsOK ρ (a ++ b)) : FactsOK ρ b := fun p hp => h p (List.mem_append_right _ hp)
theorem rem_ok {i m n : Nat} (hm : 0 < m) (h : (IntKind.wrap .u64 (ρ.v i)) % m = n) : FactsOK ρ [remE (.var i) m n] := fun p hp => by
  simp only [List.mem_cons, List.not_mem_nil, or_false] at hp
  subst hp
  have h0 : 0 ≤ IntKind.wrap .u64 (ρ.v i) := by
    simp only [IntKind.wrap, IntKind.bits, IntKind.signed]
    simp
    omega
  have hm0 : ¬ (Int.ofNat m = 0) := by simp; omega
  have h2 : intBin .rem .u64 (IntKind.wrap .u64 (ρ.v i)) (Int.ofNat m) = some (.int .u64 ((IntKind.wrap .u64 (ρ.v i)).tmod m)) := by
    unfold intBin
    exact if_neg hm0
  have e : (SE.bop .rem .u64 (.cv .u64 (.var i)) (.num (.ofNat m))).val ρ = (match intBin .rem .u64 (IntKind.wrap .u64 (ρ.v i)) (Int.ofNat m) with | some (.int _ n) => n | some (.bool true) => 1 | _ => 0) := rfl
  show SE.val ρ (.bop .rem .u64 (.cv .u64 (.var i)) (.num (.ofNat m))) = (n : Int)
  rw [e, h2]
  show (IntKind.wrap .u64 (ρ.v i)).tmod m = n
  rw [Int.tmod_eq_emod_of_nonneg h0]; exact h
end
end Go.Ab
/- The facts of the cases. -/
namespace Go.Ab
set_option linter.constructorNameAsVariable false
set_option linter.unusedSimpArgs false
set_option linter.unusedVariables false
open Go.RowKit
def vS : List (SE × SE) := fsC (.var 0)
def uS : List (SE × SE) := fsC (.var 1)
def kS : List (SE × SE) := fsC (.var 0) ++ fsC (.var 1)
def uT : List (SE × SE) := fsV (.var 1) true
theorem uT_sub (ρ : Env) (h : FactsOK ρ uT) : FactsOK ρ uS := h.left
def kTT : List (SE × SE) := fsV (.var 0) true ++ fsV (.var 1) true
theorem kTT_sub (ρ : Env) (h : FactsOK ρ kTT) : FactsOK ρ kS := h.left.left.app h.right.left
def kTF : List (SE × SE) := fsV (.var 0) true ++ fsV (.var 1) false
theorem kTF_sub (ρ : Env) (h : FactsOK ρ kTF) : FactsOK ρ kS := h.left.left.app h.right.left
def e0T : List (SE × SE) := [remE (.var 1) 3 0] ++ fsV (.var 0) true
theorem e0T_sub (ρ : Env) (h : FactsOK ρ e0T) : FactsOK ρ vS := h.right.left
def e1T : List (SE × SE) := [remE (.var 1) 3 1] ++ fsV (.var 0) true
theorem e1T_sub (ρ : Env) (h : FactsOK ρ e1T) : FactsOK ρ vS := h.right.left
def e2T : List (SE × SE) := [remE (.var 1) 3 2] ++ fsV (.var 0) true
theorem e2T_sub (ρ : Env) (h : FactsOK ρ e2T) : FactsOK ρ vS := h.right.left
def r0T : List (SE × SE) := [remE (.var 1) 5 0] ++ fsV (.var 0) true
theorem r0T_sub (ρ : Env) (h : FactsOK ρ r0T) : FactsOK ρ vS := h.right.left
def r1T : List (SE × SE) := [remE (.var 1) 5 1] ++ fsV (.var 0) true
theorem r1T_sub (ρ : Env) (h : FactsOK ρ r1T) : FactsOK ρ vS := h.right.left
def r2T : List (SE × SE) := [remE (.var 1) 5 2] ++ fsV (.var 0) true
theorem r2T_sub (ρ : Env) (h : FactsOK ρ r2T) : FactsOK ρ vS := h.right.left
def r3T : List (SE × SE) := [remE (.var 1) 5 3] ++ fsV (.var 0) true
theorem r3T_sub (ρ : Env) (h : FactsOK ρ r3T) : FactsOK ρ vS := h.right.left
def r4T : List (SE × SE) := [remE (.var 1) 5 4] ++ fsV (.var 0) true
theorem r4T_sub (ρ : Env) (h : FactsOK ρ r4T) : FactsOK ρ vS := h.right.left
def uF : List (SE × SE) := fsV (.var 1) false
theorem uF_sub (ρ : Env) (h : FactsOK ρ uF) : FactsOK ρ uS := h.left
def kFT : List (SE × SE) := fsV (.var 0) false ++ fsV (.var 1) true
theorem kFT_sub (ρ : Env) (h : FactsOK ρ kFT) : FactsOK ρ kS := h.left.left.app h.right.left
def kFF : List (SE × SE) := fsV (.var 0) false ++ fsV (.var 1) false
theorem kFF_sub (ρ : Env) (h : FactsOK ρ kFF) : FactsOK ρ kS := h.left.left.app h.right.left
def e0F : List (SE × SE) := [remE (.var 1) 3 0] ++ fsV (.var 0) false
theorem e0F_sub (ρ : Env) (h : FactsOK ρ e0F) : FactsOK ρ vS := h.right.left
def e1F : List (SE × SE) := [remE (.var 1) 3 1] ++ fsV (.var 0) false
theorem e1F_sub (ρ : Env) (h : FactsOK ρ e1F) : FactsOK ρ vS := h.right.left
def e2F : List (SE × SE) := [remE (.var 1) 3 2] ++ fsV (.var 0) false
theorem e2F_sub (ρ : Env) (h : FactsOK ρ e2F) : FactsOK ρ vS := h.right.left
def r0F : List (SE × SE) := [remE (.var 1) 5 0] ++ fsV (.var 0) false
theorem r0F_sub (ρ : Env) (h : FactsOK ρ r0F) : FactsOK ρ vS := h.right.left
def r1F : List (SE × SE) := [remE (.var 1) 5 1] ++ fsV (.var 0) false
theorem r1F_sub (ρ : Env) (h : FactsOK ρ r1F) : FactsOK ρ vS := h.right.left
def r2F : List (SE × SE) := [remE (.var 1) 5 2] ++ fsV (.var 0) false
theorem r2F_sub (ρ : Env) (h : FactsOK ρ r2F) : FactsOK ρ vS := h.right.left
def r3F : List (SE × SE) := [remE (.var 1) 5 3] ++ fsV (.var 0) false
theorem r3F_sub (ρ : Env) (h : FactsOK ρ r3F) : FactsOK ρ vS := h.right.left
def r4F : List (SE × SE) := [remE (.var 1) 5 4] ++ fsV (.var 0) false
theorem r4F_sub (ρ : Env) (h : FactsOK ρ r4F) : FactsOK ρ vS := h.right.left
def r3N : List (SE × SE) := [remE (.var 1) 5 3]
end Go.Ab
