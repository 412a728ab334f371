/- What is known of two functions of the library, and of one without arguments. -/
import Derived.Test.YtcicbbceknhkfaaGreatDoorWlL2
import Derived.Lib.TrailingZeros
import Derived.Lib.Bytes
import Derived.Lib.Bytealg
import Derived.Test.YtcicbbceknhkfaaGreatDoorCt
import Derived.Test.YtcicbbceknhkfaaGreatDoorRows
import Derived.Test.YtcicbbceknhkfaaGreatDoorChecked
import Derived.Shelf.Spec.TrailingZeros
import Derived.Shelf.Bytes.SlIndexAt
import Derived.Shelf.Slices.Turned
namespace Go.Ab
set_option linter.constructorNameAsVariable false
set_option linter.unusedSimpArgs false
set_option linter.unusedVariables false
open Go.RowKit
set_option linter.unusedVariables false
/-- How many zeros stand behind the last one. -/
def tzN : Nat → Nat → Nat
  | 0, _ => 0
  | f + 1, n => bif Nat.beq (Nat.mod n 2) 1 then 0 else Nat.succ (tzN f (Nat.div n 2))
def byteI (n : Int) : Bool := ile 0 n && ilt n 256
/-- Where a byte stands first, from place i on. -/
def ixN (c : Int) : Nat → List XV → Option Int
  | _, [] => some (-1)
  | i, .int .u8 n :: r => bif byteI n then (bif ieq n c then some (.ofNat i) else ixN c (i + 1) r) else none
  | _, _ :: _ => none
def allU8 : List XV → Bool
  | [] => true
  | .int .u8 n :: r => byteI n && allU8 r
  | _ => false
def ovTz : List XV → Option (Option XV)
  | [.int .u64 (.ofNat n)] => bif Nat.blt n 18446744073709551616 then some (some (.int .i64 (.ofNat (tzN 64 n)))) else none
  | _ => none
def ovIx : List XV → Option (Option XV)
  | [.sl false 1 l, .int .u8 c] => bif byteI c && allU8 l then (match ixN c 0 l with
    | some i => some (some (.int .i64 i))
    | none => none) else none
  | _ => none
def ovM (tz ix : Nat) (ov : FuncId → List XV → Option (Option XV)) (f : FuncId) (args : List XV) : Option (Option XV) :=
  bif Nat.beq f tz then ovTz args else bif Nat.beq f ix then ovIx args else ov f args
theorem tzN_from : ∀ (f n : Nat), tzN f n = Lib.ctzFrom f n
  | 0, n => rfl
  | f + 1, n => by
    have hm : Nat.mod n 2 = n % 2 := rfl
    have hd : Nat.div n 2 = n / 2 := rfl
    simp only [tzN, Lib.ctzFrom, hm, hd, tzN_from f]
    by_cases h : n % 2 = 1
    · rw [if_pos h, h]; rfl
    · have : n % 2 = 0 := by omega
      rw [if_neg h, this]
      show Nat.succ _ = _
      omega
theorem tzN_ctz (n : Nat) : tzN 64 n = Lib.ctz 64 n := by
  rw [tzN_from]
  unfold Lib.ctz
  by_cases h : n = 0
  · subst h; rw [if_pos rfl]; decide
  · rw [if_neg h]
theorem byteI_iff {n : Int} : byteI n = true ↔ 0 ≤ n ∧ n < 256 := by
  simp only [byteI, Bool.and_eq_true, ile_eq, ilt_eq, decide_eq_true_eq]
def intsX : List XV → List Int
  | [] => []
  | .int _ n :: r => n :: intsX r
  | _ :: r => 0 :: intsX r
theorem u8i_eq {a b : Int} (ha : 0 ≤ a ∧ a < 256) (hb : 0 ≤ b ∧ b < 256) : (UInt8.ofNat a.toNat == UInt8.ofNat b.toNat) = (a == b) := by
  rw [Bool.eq_iff_iff]
  simp only [beq_iff_eq]
  constructor
  · intro h
    have := congrArg UInt8.toNat h
    simp only [UInt8.toNat_ofNat'] at this
    omega
  · intro h; rw [h]
theorem ixN_ok {c : Int} (hc : 0 ≤ c ∧ c < 256) : ∀ (l : List XV) (i : Nat) (r : Int), ixN c i l = some r → (r = -1 ∧ Lib.indexByte (Lib.bytesOf (intsX l)) (UInt8.ofNat c.toNat) = -1) ∨ (0 ≤ Lib.indexByte (Lib.bytesOf (intsX l)) (UInt8.ofNat c.toNat) ∧ r = i + Lib.indexByte (Lib.bytesOf (intsX l)) (UInt8.ofNat c.toNat))
  | [], i, r, h => by simp only [ixN, Option.some.injEq] at h; exact .inl ⟨h.symm, rfl⟩
  | x :: l, i, r, h => by
    cases x with
    | int k n =>
      cases k with
      | u8 =>
        simp only [ixN] at h
        obtain ⟨hb, h⟩ := bif_some h
        have hb := byteI_iff.1 hb
        show (r = -1 ∧ (if UInt8.ofNat n.toNat == UInt8.ofNat c.toNat then (0 : Int) else if Lib.indexByte (Lib.bytesOf (intsX l)) (UInt8.ofNat c.toNat) == -1 then -1 else Lib.indexByte (Lib.bytesOf (intsX l)) (UInt8.ofNat c.toNat) + 1) = -1) ∨ (0 ≤ (if UInt8.ofNat n.toNat == UInt8.ofNat c.toNat then (0 : Int) else if Lib.indexByte (Lib.bytesOf (intsX l)) (UInt8.ofNat c.toNat) == -1 then -1 else Lib.indexByte (Lib.bytesOf (intsX l)) (UInt8.ofNat c.toNat) + 1) ∧ r = i + (if UInt8.ofNat n.toNat == UInt8.ofNat c.toNat then (0 : Int) else if Lib.indexByte (Lib.bytesOf (intsX l)) (UInt8.ofNat c.toNat) == -1 then -1 else Lib.indexByte (Lib.bytesOf (intsX l)) (UInt8.ofNat c.toNat) + 1))
        rw [u8i_eq hb hc]
        rw [ieq_eq] at h
        by_cases e : n = c
        · have : (n == c) = true := by simpa using e
          rw [this] at h ⊢
          simp only [cond_true, Option.some.injEq] at h
          subst h
          right
          simp
        · have : (n == c) = false := by simpa using e
          rw [this] at h ⊢
          simp only [cond_false] at h
          rcases ixN_ok hc l (i + 1) r h with ⟨a, b⟩ | ⟨a, b⟩
          · left; rw [b]; exact ⟨a, rfl⟩
          · right
            have h2 : (Lib.indexByte (Lib.bytesOf (intsX l)) (UInt8.ofNat c.toNat) == -1) = false := by
              rw [beq_eq_false_iff_ne]; omega
            rw [h2]
            simp only [Bool.false_eq_true, if_false]
            refine ⟨by omega, ?_⟩
            rw [b]; push_cast; omega
      | _ => simp [ixN] at h
    | _ => simp [ixN] at h
theorem allU8_ok {ρ : Env} : ∀ (l : List XV), allU8 l = true → (intsX l).length = l.length ∧ l.map (XV.av ρ) = (intsX l).map (AV.int .u8)
  | [], _ => ⟨rfl, rfl⟩
  | x :: l, h => by
    cases x with
    | int k n =>
      cases k with
      | u8 =>
        simp only [allU8, Bool.and_eq_true] at h
        obtain ⟨a, b⟩ := allU8_ok (ρ := ρ) l h.2
        exact ⟨by simp [intsX, a], by simp only [intsX, List.map_cons, b]; rfl⟩
      | _ => simp [allU8] at h
    | _ => simp [allU8] at h
end Go.Ab
/- The library's count of the zeros at a word's end, over this program. -/
namespace Go.Proofs.YtcicbbceknhkfaaGreatDoor
set_option linter.constructorNameAsVariable false
set_option linter.unusedSimpArgs false
set_option linter.unusedVariables false
open Go Go.Ab Go.RowKit
set_option linter.unusedVariables false
set_option linter.unusedSimpArgs false
def laysTz_ren : Go.Shelf.Ren := ⟨fun | 29 => 218 | n => n, fun | 0 => 0 | 22 => 22 | 25 => 27 | 54 => 400 | n => n, fun | n => n⟩
theorem laysTz : Lays7.n29 Tryz.prog laysTz_ren := {
  mixed := by kernel_rfl
  f29 := Tryz.func218.trans (congrArg some (by kernel_rfl))
  t0 := Tryz.underlying0
  a0 := Tryz.isAgg0
  z0 := Tryz.sizeOf0
  v0 := Tryz.zeroValue0
  i0 := by kernel_rfl
  t3 := Tryz.underlying3
  a3 := Tryz.isAgg3
  z3 := Tryz.sizeOf3
  v3 := Tryz.zeroValue3
  i3 := by kernel_rfl
  t4 := Tryz.underlying4
  a4 := Tryz.isAgg4
  z4 := Tryz.sizeOf4
  v4 := Tryz.zeroValue4
  i4 := by kernel_rfl
  t5 := Tryz.underlying5
  a5 := Tryz.isAgg5
  z5 := Tryz.sizeOf5
  v5 := Tryz.zeroValue5
  i5 := by kernel_rfl
  t22 := Tryz.underlying22
  a22 := Tryz.isAgg22
  z22 := Tryz.sizeOf22
  v22 := Tryz.zeroValue22
  i22 := by kernel_rfl
  t25 := Tryz.underlying27
  a25 := Tryz.isAgg27
  z25 := Tryz.sizeOf27
  v25 := Tryz.zeroValue27
  i25 := by kernel_rfl
  t54 := Tryz.underlying400
  a54 := Tryz.isAgg400
  z54 := Tryz.sizeOf400
  g1 := by kernel_rfl }
def math_bits_TrailingZeros64_s (x : Int) : Option Int := if 0 ≤ x ∧ x < 18446744073709551616 then some (Lib.ctz 64 x.toNat : Int) else none
theorem math_bits_TrailingZeros64_ev {x : Int} {r : Int} (h : math_bits_TrailingZeros64_s x = some r) : PureEv Tryz.prog 218 [.int .u64 x] (.int .i64 r) := by
  unfold math_bits_TrailingZeros64_s at h
  split at h
  case isFalse => cases h
  rename_i hl
  cases h
  intro g w vals hw hv
  obtain ⟨u, rfl, hu⟩ : ∃ u, vals = #[u] ∧ VR g.pm g.L noHp (.int .u64 x) u := by
    obtain ⟨hs, hvv⟩ := hv
    obtain ⟨ll⟩ := vals
    match ll, hs with
    | [u], _ => exact ⟨u, rfl, hvv 0 (by simp) (by simp)⟩
  cases hu
  have hx : (x : Int) = (x.toNat : Int) := by omega
  have hT : TabAt (laysTz_ren.g 1) Lib.deBruijn64tab w := by
    obtain ⟨hb, cs, t, fz, e, q⟩ := hw.tab 1 _ rfl
    subst q
    intro j hj
    have := hw.low.block 1 hb
    simp only [World.cell?, show laysTz_ren.g 1 = 1 from rfl, this, e]
    have e1 : tzT = Lib.deBruijn64tab.map fun n => ((n : Nat) : Int) := by decide
    have hall : (List.map (fun z => Value.int IntKind.u8 z) tzT).toArray[j]? = some (.int .u8 (Lib.deBruijn64tab.getD j 0 : Nat)) := by
      rw [e1]
      simp [List.getElem?_map, List.getD_eq_getElem?_getD, List.getElem?_eq_getElem hj]
    exact hall
  have := Any7.bits_TrailingZeros64 laysTz x.toNat (by omega) w (fun _ => hT)
  rw [← hx] at this
  refine Calls.mono this ?_
  rintro e w' ⟨rfl, rfl⟩
  exact ⟨_, g, rfl, Gh.le.refl _ _, hw, .int⟩
end Go.Proofs.YtcicbbceknhkfaaGreatDoor
/- What is known of the library's two functions is so, over this program. -/
namespace Go.Proofs.YtcicbbceknhkfaaGreatDoor
set_option linter.constructorNameAsVariable false
set_option linter.unusedSimpArgs false
set_option linter.unusedVariables false
open Go Go.Ab Go.RowKit
set_option linter.unusedVariables false
set_option linter.unusedSimpArgs false
def laysIx_ren : Go.Shelf.Ren := ⟨fun | 187 => 84 | 255 => 145 | n => n, fun | 37 => 53 | n => n, fun n => n⟩
theorem laysIx : Lays.n187 Tryz.prog laysIx_ren := {
  mixed := by kernel_rfl
  f187 := Tryz.func84.trans (congrArg some (by kernel_rfl))
  f255 := Tryz.func145.trans (congrArg some (by kernel_rfl))
  t3 := Tryz.underlying3
  a3 := Tryz.isAgg3
  z3 := Tryz.sizeOf3
  v3 := Tryz.zeroValue3
  t5 := Tryz.underlying5
  a5 := Tryz.isAgg5
  z5 := Tryz.sizeOf5
  v5 := Tryz.zeroValue5
  t37 := Tryz.underlying53
  a37 := Tryz.isAgg53
  z37 := Tryz.sizeOf53
  v37 := Tryz.zeroValue53 }
theorem ix_ev {xs : List Int} {c : Int} : PureEv Tryz.prog 84 [.sl false 1 (xs.map (AV.int .u8)), .int .u8 c] (.int .i64 (Lib.indexByte (Lib.bytesOf xs) (UInt8.ofNat c.toNat))) := by
  intro g w vals hw hv
  obtain ⟨u1, u2, rfl, h1, h2⟩ : ∃ u1 u2, vals = #[u1, u2] ∧ VR g.pm g.L noHp (.sl false 1 (xs.map (AV.int .u8))) u1 ∧ VR g.pm g.L noHp (.int .u8 c) u2 := by
    obtain ⟨hs, hvv⟩ := hv
    obtain ⟨ll⟩ := vals
    match ll, hs with
    | [u1, u2], _ => exact ⟨u1, u2, rfl, hvv 0 (by simp) (by simp), hvv 1 (by simp) (by simp)⟩
  cases h2
  generalize hys : xs.map (AV.int .u8) = ys at h1
  have hyl : ys.length = xs.length := by rw [← hys]; simp
  have hyg : ∀ i (h : i < ys.length) (h' : i < xs.length), ys[i] = .int .u8 xs[i] := fun i h h' => by subst hys; simp
  cases h1 with
  | slnil =>
    obtain rfl : xs = [] := by simpa using hys
    refine Calls.mono (Any.bytes_IndexByte_nil laysIx c w) ?_
    rintro e w' ⟨rfl, rfl⟩
    exact ⟨_, g, rfl, Gh.le.refl _ _, hw, .int⟩
  | slz =>
    rename_i a
    obtain rfl : xs = [] := by simpa using hys
    refine Calls.mono (Any.bytes_IndexByte_at laysIx a 0 0 [] c w rfl (fun i hi => by omega)) ?_
    rintro e w' ⟨rfl, rfl⟩
    exact ⟨_, g, rfl, Gh.le.refl _ _, hw, .int⟩
  | sl us hc he hz hp hvv =>
    rename_i b o cap
    have hcell : ∀ i, i < ys.length → w.cell? ⟨b, o + i, none⟩ = some (.int .u8 (xs.getD i 0)) := fun i hi => by
      have hi' : i < xs.length := by omega
      have e1 := hw.pm _ _ _ (hp i 0 hi (by omega))
      have e2 := hvv i hi 0 (by rw [hz i hi]; omega)
      have e3 : ∀ (h : 0 < (ys[i]).cells.length), (ys[i]).cells[0] = .int .u8 xs[i] := fun h => by
        have : (ys[i]).cells = [.int .u8 xs[i]] := by rw [hyg i hi hi']; rfl
        simp [this]
      rw [e3] at e2
      cases hu : us i 0 <;> rw [hu] at e2 <;> cases e2
      rw [hu] at e1
      rw [show o + i * 1 + 0 = o + i by omega] at e1
      rw [e1, List.getD_eq_getElem?_getD, List.getElem?_eq_getElem hi']
      rfl
    have := Any.bytes_IndexByte laysIx b o ys.length cap xs c w hyl.symm hcell
    refine Calls.mono this ?_
    rintro e w' ⟨rfl, rfl⟩
    exact ⟨_, g, rfl, Gh.le.refl _ _, hw, .int⟩
theorem blw_ints (xs : List Int) : blwL 0 (xs.map (AV.int .u8)) = true := by
  rw [blwL_iff]
  intro x hx
  obtain ⟨n, _, rfl⟩ := List.mem_map.1 hx
  rfl
theorem ovM_ok {ρ : Env} {ov : FuncId → List XV → Option (Option XV)} (hov : OvOK ρ Tryz.prog ov) : OvOK ρ Tryz.prog (ovM 218 84 ov) := by
  intro f args v e σ
  unfold ovM at e
  cases h1 : Nat.beq f 218 with
  | true =>
    rw [h1] at e
    have := Nat.eq_of_beq_eq_true h1
    subst this
    simp only [cond_true] at e
    unfold ovTz at e
    split at e
    · rename_i n
      obtain ⟨hl, e⟩ := bif_some e
      cases e
      have hl := Nat.le_of_ble_eq_true hl
      have := math_bits_TrailingZeros64_ev (x := (n : Int)) (r := (Lib.ctz 64 n : Nat)) (by unfold math_bits_TrailingZeros64_s; rw [if_pos ⟨by omega, by omega⟩]; rfl)
      rw [← tzN_ctz] at this
      exact this.frame rfl rfl σ
    · cases e
  | false =>
    rw [h1] at e
    simp only [cond_false] at e
    cases h2 : Nat.beq f 84 with
    | true =>
      rw [h2] at e
      have := Nat.eq_of_beq_eq_true h2
      subst this
      simp only [cond_true] at e
      unfold ovIx at e
      split at e
      · rename_i l c
        obtain ⟨hb, e⟩ := bif_some e
        simp only [Bool.and_eq_true] at hb
        split at e
        · rename_i i hi
          cases e
          obtain ⟨a, b⟩ := allU8_ok (ρ := ρ) l hb.2
          have := ix_ev (xs := intsX l) (c := c)
          have hr : Lib.indexByte (Lib.bytesOf (intsX l)) (UInt8.ofNat c.toNat) = i := by
            rcases ixN_ok (byteI_iff.1 hb.1) _ _ _ hi with ⟨p, q⟩ | ⟨p, q⟩
            · rw [q, p]
            · rw [q]; simp
          rw [hr, ← b] at this
          have hf := this.frame (by
            show (blwL 0 (l.map (XV.av ρ)) && true) = true
            rw [b, blw_ints]; rfl) rfl σ
          simpa only [List.map_cons, List.map_nil, XV.av, avs_eq] using hf
        · cases e
      · cases e
    | false =>
      rw [h2] at e
      exact hov f args v e σ
end Go.Proofs.YtcicbbceknhkfaaGreatDoor
/- What is known of slices.Contains upon a list that is not known; of a function that answers a value. -/
namespace Go.Ab
set_option linter.constructorNameAsVariable false
set_option linter.unusedSimpArgs false
set_option linter.unusedVariables false
open Go.RowKit
set_option linter.unusedVariables false
def lookP : List (Nat × Bool) → Nat → Option Bool
  | [], _ => none
  | p :: l, n => bif Nat.beq p.1 n then some p.2 else lookP l n
/-- Is a number among those that stand in the unknown list? As it is said. -/
def ovC (ct : Nat) (pk : List (Nat × Bool)) (ov : FuncId → List XV → Option (Option XV)) (f : FuncId) (args : List XV) : Option (Option XV) :=
  bif Nat.beq f ct then (match args with
    | [.slt false 1 [], .int .i64 (.ofNat n)] => (match lookP pk n with
      | some b => some (some (.bool b))
      | none => some none)
    | _ => none) else ov f args
def PicksOK (l : List Int) (pk : List (Nat × Bool)) : Prop := ∀ p ∈ pk, l.contains (p.1 : Int) = p.2
theorem lookP_ok {l : List Int} : ∀ {pk : List (Nat × Bool)} {n : Nat} {b : Bool}, PicksOK l pk → lookP pk n = some b → l.contains (n : Int) = b
  | [], _, _, _, h => by cases h
  | p :: pk, n, b, hp, h => by
    unfold lookP at h
    cases e : Nat.beq p.1 n with
    | true =>
      rw [e] at h; cases h
      rw [← Nat.eq_of_beq_eq_true e]; exact hp p (List.mem_cons_self ..)
    | false => rw [e] at h; exact lookP_ok (fun q hq => hp q (List.mem_cons_of_mem _ hq)) h
/-- A function without arguments that is known to answer a value. -/
def pvV (k : Nat) (w : XV) : PvT := fun f args => bif Nat.beq f k then (match args with | [] => some w | _ => none) else none
theorem pvV_ok {P : Program} {ρ : Env} {k : Nat} {w : XV} (hw : (w.av ρ).blw 0 = true) (h : PureEv P k [] (w.av ρ)) : PvOK ρ P (pvV k w) := by
  intro f args v e σ
  obtain ⟨h1, h2⟩ := bif_some e
  have := Nat.eq_of_beq_eq_true h1
  subst this
  split at h2
  · cases h2; exact h.frame rfl hw σ
  · cases h2
end Go.Ab
namespace Go.Proofs.YtcicbbceknhkfaaGreatDoor
open Go Go.Ab Go.RowKit
set_option linter.unusedVariables false
set_option linter.unusedSimpArgs false
def laysCt_ren : Go.Shelf.Ren := ⟨fun | 107 => 52 | 108 => 102 | n => n, fun | 28 => 23 | n => n, fun n => n⟩
theorem laysCt : Lays.n107 Tryz.prog laysCt_ren := {
  mixed := by kernel_rfl
  f107 := Tryz.func52.trans (congrArg some (by kernel_rfl))
  f108 := Tryz.func102.trans (congrArg some (by kernel_rfl))
  t0 := Tryz.underlying0
  a0 := Tryz.isAgg0
  z0 := Tryz.sizeOf0
  v0 := Tryz.zeroValue0
  t3 := Tryz.underlying3
  a3 := Tryz.isAgg3
  z3 := Tryz.sizeOf3
  v3 := Tryz.zeroValue3
  t4 := Tryz.underlying4
  a4 := Tryz.isAgg4
  z4 := Tryz.sizeOf4
  v4 := Tryz.zeroValue4
  t28 := Tryz.underlying23
  a28 := Tryz.isAgg23
  z28 := Tryz.sizeOf23
  v28 := Tryz.zeroValue23 }
theorem ct_ev {xs : List Int} {c : Int} (hbig : xs.length ≤ 9223372036854775807) : PureEv Tryz.prog 52 [.sl false 1 (xs.map (AV.int .i64)), .int .i64 c] (.bool (xs.contains c)) := by
  intro g w vals hw hv
  obtain ⟨u1, u2, rfl, h1, h2⟩ : ∃ u1 u2, vals = #[u1, u2] ∧ VR g.pm g.L noHp (.sl false 1 (xs.map (AV.int .i64))) u1 ∧ VR g.pm g.L noHp (.int .i64 c) u2 := by
    obtain ⟨hs, hvv⟩ := hv
    obtain ⟨ll⟩ := vals
    match ll, hs with
    | [u1, u2], _ => exact ⟨u1, u2, rfl, hvv 0 (by simp) (by simp), hvv 1 (by simp) (by simp)⟩
  cases h2
  generalize hys : xs.map (AV.int .i64) = ys at h1
  have hyl : ys.length = xs.length := by rw [← hys]; simp
  have hyg : ∀ i (h : i < ys.length) (h' : i < xs.length), ys[i] = .int .i64 xs[i] := fun i h h' => by subst hys; simp
  cases h1 with
  | slnil =>
    obtain rfl : xs = [] := by simpa using hys
    refine Calls.mono (Any.slices_Contains_int_empty laysCt _ _ c w) ?_
    rintro e w' ⟨rfl, rfl⟩
    exact ⟨_, g, rfl, Gh.le.refl _ _, hw, .bool⟩
  | slz =>
    obtain rfl : xs = [] := by simpa using hys
    refine Calls.mono (Any.slices_Contains_int_empty laysCt _ _ c w) ?_
    rintro e w' ⟨rfl, rfl⟩
    exact ⟨_, g, rfl, Gh.le.refl _ _, hw, .bool⟩
  | sl us hc he hz hp hvv =>
    rename_i b o cap
    have hcell : ∀ i, i < xs.length → w.cell? ⟨b, o + i, none⟩ = some (.int .i64 (xs.getD i 0)) := fun i hi' => by
      have hi : i < ys.length := by omega
      have e1 := hw.pm _ _ _ (hp i 0 hi (by omega))
      have e2 := hvv i hi 0 (by rw [hz i hi]; omega)
      have e3 : ∀ (h : 0 < (ys[i]).cells.length), (ys[i]).cells[0] = .int .i64 xs[i] := fun h => by
        have : (ys[i]).cells = [.int .i64 xs[i]] := by rw [hyg i hi hi']; rfl
        simp [this]
      rw [e3] at e2
      cases hu : us i 0 <;> rw [hu] at e2 <;> cases e2
      rw [hu] at e1
      rw [show o + i * 1 + 0 = o + i by omega] at e1
      rw [e1, List.getD_eq_getElem?_getD, List.getElem?_eq_getElem hi']
      rfl
    have := Any.slices_Contains_int laysCt b o ys.length cap xs c w (by omega) (by omega) hcell
    rw [hyl, List.take_length] at this
    rw [hyl]
    refine Calls.mono this ?_
    rintro e w' ⟨rfl, rfl⟩
    exact ⟨_, g, rfl, Gh.le.refl _ _, hw, .bool⟩
theorem blw_i64 (xs : List Int) : blwL 0 (xs.map (AV.int .i64)) = true := by
  rw [blwL_iff]
  intro x hx
  obtain ⟨n, _, rfl⟩ := List.mem_map.1 hx
  rfl
theorem ovC_ok {ρ : Env} {l : List Int} (ht : ρ.t = l.map (AV.int .i64)) (hl : l.length ≤ 9223372036854775807) {pk : List (Nat × Bool)} (hp : PicksOK l pk) {ov : FuncId → List XV → Option (Option XV)} (hov : OvOK ρ Tryz.prog ov) : OvOK ρ Tryz.prog (ovC 52 pk ov) := by
  intro f args v e σ
  unfold ovC at e
  cases h1 : Nat.beq f 52 with
  | true =>
    rw [h1] at e
    have := Nat.eq_of_beq_eq_true h1
    subst this
    simp only [cond_true] at e
    split at e
    · rename_i n
      split at e
      · rename_i b hb
        cases e
        have := ct_ev (xs := l) (c := (n : Int)) hl
        rw [lookP_ok hp hb] at this
        have hf := this.frame (by
          show (blwL 0 (l.map (AV.int .i64)) && true) = true
          rw [blw_i64]; rfl) rfl σ
        have e1 : ([XV.slt false 1 [], XV.int .i64 (Int.ofNat n)] : List XV).map (XV.av ρ) = [.sl false 1 (l.map (AV.int .i64)), .int .i64 (n : Int)] := by
          simp only [List.map_cons, List.map_nil, XV.av, XV.avs, List.nil_append, ht]; rfl
        rw [e1]
        exact hf
      · cases e
    · cases e
  | false =>
    rw [h1] at e
    exact hov f args v e σ
end Go.Proofs.YtcicbbceknhkfaaGreatDoor
/- The program lives: once for all; what runs over known calls come to. -/
namespace Go.Proofs.YtcicbbceknhkfaaGreatDoor
set_option linter.constructorNameAsVariable false
set_option linter.unusedSimpArgs false
set_option linter.unusedVariables false
open Go Go.Ab Go.RowKit
set_option maxRecDepth 100000
set_option linter.unusedVariables false
def env0 : Env := { v := fun _ => 0, t := [] }
theorem lives_e : isT (runR Tryz.prog pv0 (codeT tabL) (ovA (ovM 218 84 ov0) []) 200 4 [] .nil) = true := by kernel_rfl
theorem lives_ev : PureEv Tryz.prog 4 [] (.bool true) := law_R env0 (fs := []) nofun pv0_ok mixed rfl (Nat.le_refl _) tabL_ok (ovA_ok (fs := []) nofun (ms := []) (ovM_ok ov0_ok) trivial) lives_e
def zeroV : XV := .agg [.int .i64 1, .int .u64 0]
theorem zero_e : isV zeroV (runR Tryz.prog pv0 (codeT tabL) (ovA ov0 []) 200 8 [] .nil) = true := by kernel_rfl
theorem zero_ev (ρ : Env) : PureEv Tryz.prog 8 [] (zeroV.av ρ) := call_R env0 (fs := []) nofun pv0_ok mixed rfl (Nat.le_refl _) tabL_ok (ovA_ok (fs := []) nofun (ms := []) ov0_ok trivial) rfl zero_e
def pvZ : PvT := pvV 8 zeroV
theorem pvZ_ok {ρ : Env} : PvOK ρ Tryz.prog pvZ := pvV_ok rfl (zero_ev ρ)
abbrev ovL := ovM 218 84 (ovF 4)
theorem ovL_ok {ρ : Env} : OvOK ρ Tryz.prog ovL := ovM_ok (ovF_ok lives_ev)
theorem run_ok {fs : List (SE × SE)} {ms : List Memo} (h : MemosOK Tryz.prog fs ms) (ρ : Env) (hf : FactsOK ρ fs) : CallOK ρ Tryz.prog (runR Tryz.prog pvZ (codeT tabL) (ovA ovL ms) 200) := by
  rw [runR_eq]
  exact runX_ok pvZ_ok mixed (codeT_ok tabL_ok) (ovA_ok hf ovL_ok h) 200
theorem case_ev {fs : List (SE × SE)} {ms : List Memo} (h : MemosOK Tryz.prog fs ms) {ρ : Env} (hf : FactsOK ρ fs) (hφ : ρ.φ = []) (hN : 1000000000 ≤ ρ.N) {f : FuncId} {args : List XV} (e : isT (runR Tryz.prog pvZ (codeT tabL) (ovA ovL ms) 200 f args ⟨0, .e, ⟨fs, .e, 1000000000, false, 0⟩⟩) = true) : PureEv Tryz.prog f (args.map (XV.av ρ)) (.bool true) :=
  law_R ρ hf pvZ_ok mixed hφ hN tabL_ok (ovA_ok hf ovL_ok h) e
theorem case_pk {fs : List (SE × SE)} {ms : List Memo} (h : MemosOK Tryz.prog fs ms) {ρ : Env} (hf : FactsOK ρ fs) (hφ : ρ.φ = []) (hN : 1000000000 ≤ ρ.N) {l : List Int} (ht : ρ.t = l.map (AV.int .i64)) (hl : l.length ≤ 9223372036854775807) {pk : List (Nat × Bool)} (hp : PicksOK l pk) {f : FuncId} {args : List XV} (e : isT (runR Tryz.prog pvZ (codeT tabL) (ovA (ovC 52 pk ovL) ms) 200 f args ⟨0, .e, ⟨fs, .e, 1000000000, false, 0⟩⟩) = true) : PureEv Tryz.prog f (args.map (XV.av ρ)) (.bool true) :=
  law_R ρ hf pvZ_ok mixed hφ hN tabL_ok (ovA_ok hf (ovC_ok ht hl hp ovL_ok) h) e
end Go.Proofs.YtcicbbceknhkfaaGreatDoor
