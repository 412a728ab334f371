/- What is known of two functions of the library, and of one without arguments. -/
import Derived.Test.YtjhhedpgfpcaiaaGreatDoorWlL2
import Derived.Lib.TrailingZeros
import Derived.Lib.Bytes
import Derived.Lib.Bytealg
import Derived.Test.YtjhhedpgfpcaiaaGreatDoorCt
import Derived.Test.YtjhhedpgfpcaiaaGreatDoorRows
import Derived.Test.YtjhhedpgfpcaiaaGreatDoorChecked
import Derived.Shelf.Spec.TrailingZeros
import Derived.Shelf.Bytes.SlIndexAt
namespace Go.Ab
set_option linter.constructorNameAsVariable false
set_option linter.unusedSimpArgs false
set_option linter.unusedVariables false
open Go.RowKit
set_option linter.unusedVariables false
/-- How many zeros stand behind the last one. -/
def tzN : Nat → Nat → Nat
  | 0, _ => 0
  | f + 1, n => bif Nat.beq (Nat.mod n 2) 1 then 0 else Nat.succ (tzN f (Nat.div n 2))
def byteI (n : Int) : Bool := ile 0 n && ilt n 256
/-- Where a byte stands first, from place i on. -/
def ixN (c : Int) : Nat → List XV → Option Int
  | _, [] => some (-1)
  | i, .int .u8 n :: r => bif byteI n then (bif ieq n c then some (.ofNat i) else ixN c (i + 1) r) else none
  | _, _ :: _ => none
def allU8 : List XV → Bool
  | [] => true
  | .int .u8 n :: r => byteI n && allU8 r
  | _ => false
def ovTz : List XV → Option (Option XV)
  | [.int .u64 (.ofNat n)] => bif Nat.blt n 18446744073709551616 then some (some (.int .i64 (.ofNat (tzN 64 n)))) else none
  | _ => none
def ovIx : List XV → Option (Option XV)
  | [.sl false 1 l, .int .u8 c] => bif byteI c && allU8 l then (match ixN c 0 l with
    | some i => some (some (.int .i64 i))
    | none => none) else none
  | _ => none
def ovM (tz ix : Nat) (ov : FuncId → List XV → Option (Option XV)) (f : FuncId) (args : List XV) : Option (Option XV) :=
  bif Nat.beq f tz then ovTz args else bif Nat.beq f ix then ovIx args else ov f args
theorem tzN_from : ∀ (f n : Nat), tzN f n = Lib.ctzFrom f n
  | 0, n => rfl
  | f + 1, n => by
    have hm : Nat.mod n 2 = n % 2 := rfl
    have hd : Nat.div n 2 = n / 2 := rfl
    simp only [tzN, Lib.ctzFrom, hm, hd, tzN_from f]
    by_cases h : n % 2 = 1
    · rw [if_pos h, h]; rfl
    · have : n % 2 = 0 := by omega
      rw [if_neg h, this]
      show Nat.succ _ = _
      omega
theorem tzN_ctz (n : Nat) : tzN 64 n = Lib.ctz 64 n := by
  rw [tzN_from]
  unfold Lib.ctz
  by_cases h : n = 0
  · subst h; rw [if_pos rfl]; decide
  · rw [if_neg h]
theorem byteI_iff {n : Int} : byteI n = true ↔ 0 ≤ n ∧ n < 256 := by
  simp only [byteI, Bool.and_eq_true, ile_eq, ilt_eq, decide_eq_true_eq]
def intsX : List XV → List Int
  | [] => []
  | .int _ n :: r => n :: intsX r
  | _ :: r => 0 :: intsX r
theorem u8i_eq {a b : Int} (ha : 0 ≤ a ∧ a < 256) (hb : 0 ≤ b ∧ b < 256) : (UInt8.ofNat a.toNat == UInt8.ofNat b.toNat) = (a == b) := by
  rw [Bool.eq_iff_iff]
  simp only [beq_iff_eq]
  constructor
  · intro h
    have := congrArg UInt8.toNat h
    simp only [UInt8.toNat_ofNat'] at this
    omega
  · intro h; rw [h]
theorem ixN_ok {c : Int} (hc : 0 ≤ c ∧ c < 256) : ∀ (l : List XV) (i : Nat) (r : Int), ixN c i l = some r → (r = -1 ∧ Lib.indexByte (Lib.bytesOf (intsX l)) (UInt8.ofNat c.toNat) = -1) ∨ (0 ≤ Lib.indexByte (Lib.bytesOf (intsX l)) (UInt8.ofNat c.toNat) ∧ r = i + Lib.indexByte (Lib.bytesOf (intsX l)) (UInt8.ofNat c.toNat))
  | [], i, r, h => by simp only [ixN, Option.some.injEq] at h; exact .inl ⟨h.symm, rfl⟩
  | x :: l, i, r, h => by
    cases x with
    | int k n =>
      cases k with
      | u8 =>
        simp only [ixN] at h
        obtain ⟨hb, h⟩ := bif_some h
        have hb := byteI_iff.1 hb
        show (r = -1 ∧ (if UInt8.ofNat n.toNat == UInt8.ofNat c.toNat then (0 : Int) else if Lib.indexByte (Lib.bytesOf (intsX l)) (UInt8.ofNat c.toNat) == -1 then -1 else Lib.indexByte (Lib.bytesOf (intsX l)) (UInt8.ofNat c.toNat) + 1) = -1) ∨ (0 ≤ (if UInt8.ofNat n.toNat == UInt8.ofNat c.toNat then (0 : Int) else if Lib.indexByte (Lib.bytesOf (intsX l)) (UInt8.ofNat c.toNat) == -1 then -1 else Lib.indexByte (Lib.bytesOf (intsX l)) (UInt8.ofNat c.toNat) + 1) ∧ r = i + (if UInt8.ofNat n.toNat == UInt8.ofNat c.toNat then (0 : Int) else if Lib.indexByte (Lib.bytesOf (intsX l)) (UInt8.ofNat c.toNat) == -1 then -1 else Lib.indexByte (Lib.bytesOf (intsX l)) (UInt8.ofNat c.toNat) + 1))
        rw [u8i_eq hb hc]
        rw [ieq_eq] at h
        by_cases e : n = c
        · have : (n == c) = true := by simpa using e
          rw [this] at h ⊢
          simp only [cond_true, Option.some.injEq] at h
          subst h
          right
          simp
        · have : (n == c) = false := by simpa using e
          rw [this] at h ⊢
          simp only [cond_false] at h
          rcases ixN_ok hc l (i + 1) r h with ⟨a, b⟩ | ⟨a, b⟩
          · left; rw [b]; exact ⟨a, rfl⟩
          · right
            have h2 : (Lib.indexByte (Lib.bytesOf (intsX l)) (UInt8.ofNat c.toNat) == -1) = false := by
              rw [beq_eq_false_iff_ne]; omega
            rw [h2]
            simp only [Bool.false_eq_true, if_false]
            refine ⟨by omega, ?_⟩
            rw [b]; push_cast; omega
      | _ => simp [ixN] at h
    | _ => simp [ixN] at h
theorem allU8_ok {ρ : Env} : ∀ (l : List XV), allU8 l = true → (intsX l).length = l.length ∧ l.map (XV.av ρ) = (intsX l).map (AV.int .u8)
  | [], _ => ⟨rfl, rfl⟩
  | x :: l, h => by
    cases x with
    | int k n =>
      cases k with
      | u8 =>
        simp only [allU8, Bool.and_eq_true] at h
        obtain ⟨a, b⟩ := allU8_ok (ρ := ρ) l h.2
        exact ⟨by simp [intsX, a], by simp only [intsX, List.map_cons, b]; rfl⟩
      | _ => simp [allU8] at h
    | _ => simp [allU8] at h
end Go.Ab
/- The library's count of the zeros at a word's end, over this program. -/
namespace Go.Proofs.YtjhhedpgfpcaiaaGreatDoor
set_option linter.constructorNameAsVariable false
set_option linter.unusedSimpArgs false
set_option linter.unusedVariables false
open Go Go.Ab Go.RowKit
set_option linter.unusedVariables false
set_option linter.unusedSimpArgs false
def laysTz_ren : Go.Shelf.Ren := ⟨fun | 29 => 194 | n => n, fun | 0 => 0 | 22 => 75 | 25 => 23 | 54 => 441 | n => n, fun | 1 => 7 | n => n⟩
theorem laysTz : Lays7.n29 Tryz.prog laysTz_ren := {
  mixed := by kernel_rfl
  f29 := Tryz.func194.trans (congrArg some (by kernel_rfl))
  t0 := Tryz.underlying0
  a0 := Tryz.isAgg0
  z0 := Tryz.sizeOf0
  v0 := Tryz.zeroValue0
  i0 := by kernel_rfl
  t3 := Tryz.underlying3
  a3 := Tryz.isAgg3
  z3 := Tryz.sizeOf3
  v3 := Tryz.zeroValue3
  i3 := by kernel_rfl
  t4 := Tryz.underlying4
  a4 := Tryz.isAgg4
  z4 := Tryz.sizeOf4
  v4 := Tryz.zeroValue4
  i4 := by kernel_rfl
  t5 := Tryz.underlying5
  a5 := Tryz.isAgg5
  z5 := Tryz.sizeOf5
  v5 := Tryz.zeroValue5
  i5 := by kernel_rfl
  t22 := Tryz.underlying75
  a22 := Tryz.isAgg75
  z22 := Tryz.sizeOf75
  v22 := Tryz.zeroValue75
  i22 := by kernel_rfl
  t25 := Tryz.underlying23
  a25 := Tryz.isAgg23
  z25 := Tryz.sizeOf23
  v25 := Tryz.zeroValue23
  i25 := by kernel_rfl
  t54 := Tryz.underlying441
  a54 := Tryz.isAgg441
  z54 := Tryz.sizeOf441
  g1 := by kernel_rfl }
def math_bits_TrailingZeros64_s (x : Int) : Option Int := if 0 ≤ x ∧ x < 18446744073709551616 then some (Lib.ctz 64 x.toNat : Int) else none
theorem math_bits_TrailingZeros64_ev {x : Int} {r : Int} (h : math_bits_TrailingZeros64_s x = some r) : PureEv Tryz.prog 194 [.int .u64 x] (.int .i64 r) := by
  unfold math_bits_TrailingZeros64_s at h
  split at h
  case isFalse => cases h
  rename_i hl
  cases h
  intro g w vals hw hv
  obtain ⟨u, rfl, hu⟩ : ∃ u, vals = #[u] ∧ VR g.pm g.L noHp (.int .u64 x) u := by
    obtain ⟨hs, hvv⟩ := hv
    obtain ⟨ll⟩ := vals
    match ll, hs with
    | [u], _ => exact ⟨u, rfl, hvv 0 (by simp) (by simp)⟩
  cases hu
  have hx : (x : Int) = (x.toNat : Int) := by omega
  have hT : TabAt (laysTz_ren.g 1) Lib.deBruijn64tab w := by
    obtain ⟨hb, cs, t, fz, e, q⟩ := hw.tab 7 _ rfl
    subst q
    intro j hj
    have := hw.low.block 7 hb
    simp only [World.cell?, show laysTz_ren.g 1 = 7 from rfl, this, e]
    have e1 : tzT = Lib.deBruijn64tab.map fun n => ((n : Nat) : Int) := by decide
    have hall : (List.map (fun z => Value.int IntKind.u8 z) tzT).toArray[j]? = some (.int .u8 (Lib.deBruijn64tab.getD j 0 : Nat)) := by
      rw [e1]
      simp [List.getElem?_map, List.getD_eq_getElem?_getD, List.getElem?_eq_getElem hj]
    exact hall
  have := Any7.bits_TrailingZeros64 laysTz x.toNat (by omega) w (fun _ => hT)
  rw [← hx] at this
  refine Calls.mono this ?_
  rintro e w' ⟨rfl, rfl⟩
  exact ⟨_, g, rfl, Gh.le.refl _ _, hw, .int⟩
end Go.Proofs.YtjhhedpgfpcaiaaGreatDoor
/- What is known of the library's two functions is so, over this program. -/
namespace Go.Proofs.YtjhhedpgfpcaiaaGreatDoor
set_option linter.constructorNameAsVariable false
set_option linter.unusedSimpArgs false
set_option linter.unusedVariables false
open Go Go.Ab Go.RowKit
set_option linter.unusedVariables false
set_option linter.unusedSimpArgs false
def laysIx_ren : Go.Shelf.Ren := ⟨fun | 187 => 164 | 255 => 232 | n => n, fun | 37 => 32 | n => n, fun n => n⟩
theorem laysIx : Lays.n187 Tryz.prog laysIx_ren := {
  mixed := by kernel_rfl
  f187 := Tryz.func164.trans (congrArg some (by kernel_rfl))
  f255 := Tryz.func232.trans (congrArg some (by kernel_rfl))
  t3 := Tryz.underlying3
  a3 := Tryz.isAgg3
  z3 := Tryz.sizeOf3
  v3 := Tryz.zeroValue3
  t5 := Tryz.underlying5
  a5 := Tryz.isAgg5
  z5 := Tryz.sizeOf5
  v5 := Tryz.zeroValue5
  t37 := Tryz.underlying32
  a37 := Tryz.isAgg32
  z37 := Tryz.sizeOf32
  v37 := Tryz.zeroValue32 }
theorem ix_ev {xs : List Int} {c : Int} : PureEv Tryz.prog 164 [.sl false 1 (xs.map (AV.int .u8)), .int .u8 c] (.int .i64 (Lib.indexByte (Lib.bytesOf xs) (UInt8.ofNat c.toNat))) := by
  intro g w vals hw hv
  obtain ⟨u1, u2, rfl, h1, h2⟩ : ∃ u1 u2, vals = #[u1, u2] ∧ VR g.pm g.L noHp (.sl false 1 (xs.map (AV.int .u8))) u1 ∧ VR g.pm g.L noHp (.int .u8 c) u2 := by
    obtain ⟨hs, hvv⟩ := hv
    obtain ⟨ll⟩ := vals
    match ll, hs with
    | [u1, u2], _ => exact ⟨u1, u2, rfl, hvv 0 (by simp) (by simp), hvv 1 (by simp) (by simp)⟩
  cases h2
  generalize hys : xs.map (AV.int .u8) = ys at h1
  have hyl : ys.length = xs.length := by rw [← hys]; simp
  have hyg : ∀ i (h : i < ys.length) (h' : i < xs.length), ys[i] = .int .u8 xs[i] := fun i h h' => by subst hys; simp
  cases h1 with
  | slnil =>
    obtain rfl : xs = [] := by simpa using hys
    refine Calls.mono (Any.bytes_IndexByte_nil laysIx c w) ?_
    rintro e w' ⟨rfl, rfl⟩
    exact ⟨_, g, rfl, Gh.le.refl _ _, hw, .int⟩
  | slz =>
    rename_i a
    obtain rfl : xs = [] := by simpa using hys
    refine Calls.mono (Any.bytes_IndexByte_at laysIx a 0 0 [] c w rfl (fun i hi => by omega)) ?_
    rintro e w' ⟨rfl, rfl⟩
    exact ⟨_, g, rfl, Gh.le.refl _ _, hw, .int⟩
  | sl us hc he hz hp hvv =>
    rename_i b o cap
    have hcell : ∀ i, i < ys.length → w.cell? ⟨b, o + i, none⟩ = some (.int .u8 (xs.getD i 0)) := fun i hi => by
      have hi' : i < xs.length := by omega
      have e1 := hw.pm _ _ _ (hp i 0 hi (by omega))
      have e2 := hvv i hi 0 (by rw [hz i hi]; omega)
      have e3 : ∀ (h : 0 < (ys[i]).cells.length), (ys[i]).cells[0] = .int .u8 xs[i] := fun h => by
        have : (ys[i]).cells = [.int .u8 xs[i]] := by rw [hyg i hi hi']; rfl
        simp [this]
      rw [e3] at e2
      cases hu : us i 0 <;> rw [hu] at e2 <;> cases e2
      rw [hu] at e1
      rw [show o + i * 1 + 0 = o + i by omega] at e1
      rw [e1, List.getD_eq_getElem?_getD, List.getElem?_eq_getElem hi']
      rfl
    have := Any.bytes_IndexByte laysIx b o ys.length cap xs c w hyl.symm hcell
    refine Calls.mono this ?_
    rintro e w' ⟨rfl, rfl⟩
    exact ⟨_, g, rfl, Gh.le.refl _ _, hw, .int⟩
theorem blw_ints (xs : List Int) : blwL 0 (xs.map (AV.int .u8)) = true := by
  rw [blwL_iff]
  intro x hx
  obtain ⟨n, _, rfl⟩ := List.mem_map.1 hx
  rfl
theorem ovM_ok {ρ : Env} {ov : FuncId → List XV → Option (Option XV)} (hov : OvOK ρ Tryz.prog ov) : OvOK ρ Tryz.prog (ovM 194 164 ov) := by
  intro f args v e σ
  unfold ovM at e
  cases h1 : Nat.beq f 194 with
  | true =>
    rw [h1] at e
    have := Nat.eq_of_beq_eq_true h1
    subst this
    simp only [cond_true] at e
    unfold ovTz at e
    split at e
    · rename_i n
      obtain ⟨hl, e⟩ := bif_some e
      cases e
      have hl := Nat.le_of_ble_eq_true hl
      have := math_bits_TrailingZeros64_ev (x := (n : Int)) (r := (Lib.ctz 64 n : Nat)) (by unfold math_bits_TrailingZeros64_s; rw [if_pos ⟨by omega, by omega⟩]; rfl)
      rw [← tzN_ctz] at this
      exact this.frame rfl rfl σ
    · cases e
  | false =>
    rw [h1] at e
    simp only [cond_false] at e
    cases h2 : Nat.beq f 164 with
    | true =>
      rw [h2] at e
      have := Nat.eq_of_beq_eq_true h2
      subst this
      simp only [cond_true] at e
      unfold ovIx at e
      split at e
      · rename_i l c
        obtain ⟨hb, e⟩ := bif_some e
        simp only [Bool.and_eq_true] at hb
        split at e
        · rename_i i hi
          cases e
          obtain ⟨a, b⟩ := allU8_ok (ρ := ρ) l hb.2
          have := ix_ev (xs := intsX l) (c := c)
          have hr : Lib.indexByte (Lib.bytesOf (intsX l)) (UInt8.ofNat c.toNat) = i := by
            rcases ixN_ok (byteI_iff.1 hb.1) _ _ _ hi with ⟨p, q⟩ | ⟨p, q⟩
            · rw [q, p]
            · rw [q]; simp
          rw [hr, ← b] at this
          have hf := this.frame (by
            show (blwL 0 (l.map (XV.av ρ)) && true) = true
            rw [b, blw_ints]; rfl) rfl σ
          simpa only [List.map_cons, List.map_nil, XV.av, avs_eq] using hf
        · cases e
      · cases e
    | false =>
      rw [h2] at e
      exact hov f args v e σ
end Go.Proofs.YtjhhedpgfpcaiaaGreatDoor
