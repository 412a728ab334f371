/- A contract of the kit's shelf as a fact on abstract values: what is left behind differs from the world before only above its end. strings.Join. -/
import Derived.Test.YtekkiedpcgaddaaDoorWlP2
import Derived.Shelf.Strings.OnBuilder
import Derived.Lib.ItoaNum
import Derived.Lib.LaidTab
import Derived.Test.YtekkiedpcgaddaaDoorRows
import Derived.Shelf.Strconv.Itoa1
import Derived.Shelf.Strconv.Itoa2
import Derived.Lib.AppendIntMem
import Derived.Lib.ItoaMem
import Derived.WalkKit
namespace Go.Ab
open Go.RowKit

theorem WRel.below {g σ} {w w' : World} (h : WRel g σ w) (k : Below w.heap.size w w') : WRel g σ w' := by
  have hc : ∀ b o v, w.cell? ⟨b, o, none⟩ = some v → w'.cell? ⟨b, o, none⟩ = some v := fun b o v e => by
    rw [k.cell (lt_of_cell e)]; exact e
  refine ⟨fun b o v e => hc _ _ _ (h.pm b o v e), fun b o v e => hc _ _ _ (h.tm b o v e), fun b o v e => by
    rw [k.frozen (h.tm_lt e)]; exact h.tmf b o v e, h.disj, h.low.trans (k.mono h.B0), Nat.le_trans h.B0 k.size, h.tab, fun o ver cs e => ?_, h.sep⟩
  have q := h.ob o ver cs e
  refine ⟨q.low, q.len, fun j hj => ?_, fun j hj => ?_, q.pm, q.tm⟩
  · obtain ⟨v, hv, hr⟩ := q.there j hj
    exact ⟨v, hc _ _ _ hv, hr⟩
  · obtain ⟨v, hv, _⟩ := q.there j hj
    rw [k.frozen (lt_of_cell hv)]
    exact q.free j hj

theorem WRel.tabIs {g σ} {w : World} (h : WRel g σ w) {P : Program} {nm : String} {k : IntKind} {zs : List Int} {b : Nat} (hg : P.globalNamed nm = some b) (ht : tabOf b = some (tabCells k zs)) : Lib.TabIs P w nm k zs := by
  obtain ⟨hb, t, fz, e⟩ := h.tab b _ ht
  unfold Lib.TabIs World.var?
  rw [hg, Option.bind_some, h.low.block b hb, e]
  rfl
theorem tabOK_of {P : Program} {W : World} {nm : String} {k : IntKind} {zs : List Int} {b : Nat} (hg : P.globalNamed nm = some b) (h : Lib.TabIs P W nm k zs) (ht : ∀ b' cs, tabOf b' = some cs → b' = b ∧ cs = tabCells k zs) : TabOK W.heap.size W := by
  intro b' cs e
  obtain ⟨rfl, rfl⟩ := ht b' cs e
  unfold Lib.TabIs World.var? at h
  rw [hg, Option.bind_some] at h
  cases e2 : W.heap[b']? with
  | none => rw [e2] at h; cases h
  | some o =>
    rw [e2] at h
    cases o with
    | cells c t fz =>
      cases h
      exact ⟨(Array.getElem?_eq_some_iff.1 e2).1, t, fz, rfl⟩
    | _ => cases h

theorem vals_two {g σ x y vals} (h : VRs g σ [x, y] vals) : ∃ u v, vals = #[u, v] ∧ VR g.pm g.L σ x u ∧ VR g.pm g.L σ y v := by
  obtain ⟨hs, hv⟩ := h
  obtain ⟨l⟩ := vals
  match l, hs with
  | [u, v], _ => exact ⟨u, v, rfl, hv 0 (by simp) (by simp), hv 1 (by simp) (by simp)⟩

def strings_Join_s (xs : List ByteArray) (sep : ByteArray) : Option ByteArray :=
  if xs.length ≤ 140737488355328 ∧ (Lib.join (xs.map (·.data.toList)) sep.data.toList).length ≤ 140737488355328 then
    some ⟨(Lib.join (xs.map (·.data.toList)) sep.data.toList).toArray⟩ else none

/-- The decimal digits of u, by so many steps. -/
def digs : Nat → Nat → List UInt8
  | 0, u => [UInt8.ofNat (48 + u % 10)]
  | k + 1, u => if u < 10 then [UInt8.ofNat (48 + u)] else digs k (u / 10) ++ [UInt8.ofNat (48 + u % 10)]
theorem digs_eq : ∀ (k u : Nat), u < 10 ^ (k + 1) → digs k u = Lib.decDigits u
  | 0, u, h => by
    have : u < 10 := by simpa using h
    rw [digs, Lib.decDigits, dif_pos this, Nat.mod_eq_of_lt this]
  | k + 1, u, h => by
    rw [digs, Lib.decDigits]
    by_cases hu : u < 10
    · rw [if_pos hu, dif_pos hu]
    · rw [if_neg hu, dif_neg hu, digs_eq k (u / 10) (by rw [Nat.pow_succ] at h; exact Nat.div_lt_of_lt_mul (by omega))]

theorem join_gen {P : Program} {ρ : Go.Shelf.Ren} (L : Go.Proofs.Lays.n156 P ρ) (X : Go.Proofs.Builder.Extra P ρ) {xs : List ByteArray} {sep r : ByteArray} (h : strings_Join_s xs sep = some r) :
    PureEv P (ρ.f 156) [.sl false 1 (List.map avS xs), .str sep] (.str r) := by
  unfold strings_Join_s at h
  split at h
  case isFalse => cases h
  rename_i hl
  cases h
  intro g w vals hw hv
  obtain ⟨u, v, rfl, hu, hv⟩ := vals_two hv
  cases hv
  have fin : ∀ {e : Ending} {w' : World}, (e = .returned (.string ⟨(Lib.join (xs.map (·.data.toList)) sep.data.toList).toArray⟩) ∧ Below w.heap.size w w') →
      ∃ u g', e = .returned u ∧ g.le noHp g' noHp ∧ WRel g' noHp w' ∧ VR g'.pm g'.L noHp (.str ⟨(Lib.join (xs.map (·.data.toList)) sep.data.toList).toArray⟩) u :=
    fun ⟨he, hb⟩ => ⟨_, g, he, Gh.le.refl _ _, hw.below hb, .str⟩
  by_cases hx : xs = []
  · subst hx
    have nn : ∀ a c, Calls P (ρ.f 156) #[.slice a 0 c, .string sep] w fun e w' => ∃ u g', e = .returned u ∧ g.le noHp g' noHp ∧ WRel g' noHp w' ∧ VR g'.pm g'.L noHp (.str ⟨(Lib.join (([] : List ByteArray).map (·.data.toList)) sep.data.toList).toArray⟩) u := fun a c =>
      (Go.Proofs.Any.strings_Join_none L X a c sep w).mono fun e w' ⟨he, hb⟩ => fin ⟨he, hb ▸ Below.refl _ _⟩
    cases hu with
    | slnil => exact nn _ _
    | slz => exact nn _ _
    | sl us hc he hz hp hv => exact nn _ _
  · have hm : List.map avS xs ≠ [] := by simpa using hx
    generalize hys : List.map avS xs = ys at hu hm
    cases hu with
    | slnil => exact (hm rfl).elim
    | slz => exact (hm rfl).elim
    | @sl _ _ _ b o cap us hc he hz hp hq =>
      subst hys
      simp only [List.length_map] at hc ⊢
      have hcell : ∀ (j : Nat) x, xs[j]? = some x → w.cell? ⟨b, o + j, none⟩ = some (.string x) := by
        intro j x hj
        obtain ⟨hlt, hj⟩ := List.getElem?_eq_some_iff.mp hj
        have h1 := hw.pm _ _ _ (hp j 0 (by simpa using hlt) (by omega))
        have h2 := hq j (by simpa using hlt) 0 (by simp [avS, AV.cells])
        simp only [List.getElem_map, avS, AV.cells, List.getElem_cons_zero, hj] at h2
        generalize us j 0 = q at h1 h2
        cases h2
        rw [show o + j = o + j * 1 + 0 by omega]
        exact h1
      have hbk : b < w.heap.size := by
        obtain ⟨x, t, rfl⟩ := List.exists_cons_of_ne_nil hx
        exact lt_of_cell (hcell 0 x rfl)
      exact (Go.Proofs.Any.strings_Join L X b o cap xs sep w hcell hbk hl.1 hc hl.2).mono fun e w' k => fin k
end Go.Ab
/- internal/strconv.FormatUint at base ten, whatever the number; strings.Join: on abstract values. The table of the powers of ten is where the settings (WlA0) say. -/
namespace Go.Proofs
open Go.Shelf
def Tryd.lays156_ren : Go.Shelf.Ren := ⟨fun | 156 => 38 | 165 => 59 | 166 => 60 | 169 => 61 | 240 => 86 | 241 => 87 | 276 => 99 | 277 => 100 | n => n, fun | 31 => 86 | 9 => 9 | 3 => 3 | 4 => 4 | 0 => 0 | 20 => 20 | 72 => 119 | 76 => 123 | 70 => 116 | 37 => 117 | 75 => 122 | 127 => 145 | 164 => 159 | 5 => 5 | 80 => 125 | n => n, fun | n => n⟩
theorem Tryd.lays156 : Go.Proofs.Lays.n156 Tryd.prog Tryd.lays156_ren := {
  mixed := by kernel_rfl
  f156 := Tryd.func38.trans (congrArg some (by kernel_rfl))
  f165 := Tryd.func59.trans (congrArg some (by kernel_rfl))
  f166 := Tryd.func60.trans (congrArg some (by kernel_rfl))
  f169 := Tryd.func61.trans (congrArg some (by kernel_rfl))
  f240 := Tryd.func86.trans (congrArg some (by kernel_rfl))
  f241 := Tryd.func87.trans (congrArg some (by kernel_rfl))
  f276 := Tryd.func99.trans (congrArg some (by kernel_rfl))
  f277 := Tryd.func100.trans (congrArg some (by kernel_rfl))
  t0 := Tryd.underlying0
  a0 := Tryd.isAgg0
  z0 := Tryd.sizeOf0
  v0 := Tryd.zeroValue0
  t3 := Tryd.underlying3
  a3 := Tryd.isAgg3
  z3 := Tryd.sizeOf3
  v3 := Tryd.zeroValue3
  t4 := Tryd.underlying4
  a4 := Tryd.isAgg4
  z4 := Tryd.sizeOf4
  v4 := Tryd.zeroValue4
  t9 := Tryd.underlying9
  a9 := Tryd.isAgg9
  z9 := Tryd.sizeOf9
  v9 := Tryd.zeroValue9
  t20 := Tryd.underlying20
  a20 := Tryd.isAgg20
  z20 := Tryd.sizeOf20
  v20 := Tryd.zeroValue20
  t31 := Tryd.underlying86
  a31 := Tryd.isAgg86
  z31 := Tryd.sizeOf86
  v31 := Tryd.zeroValue86
  t37 := Tryd.underlying117
  a37 := Tryd.isAgg117
  z37 := Tryd.sizeOf117
  v37 := Tryd.zeroValue117
  t70 := Tryd.underlying116
  a70 := Tryd.isAgg116
  z70 := Tryd.sizeOf116
  v70 := Tryd.zeroValue116
  t72 := Tryd.underlying119
  a72 := Tryd.isAgg119
  z72 := Tryd.sizeOf119
  v72 := Tryd.zeroValue119
  t75 := Tryd.underlying122
  a75 := Tryd.isAgg122
  z75 := Tryd.sizeOf122
  v75 := Tryd.zeroValue122
  t76 := Tryd.underlying123
  a76 := Tryd.isAgg123
  z76 := Tryd.sizeOf123
  v76 := Tryd.zeroValue123
  t127 := Tryd.underlying145
  a127 := Tryd.isAgg145
  z127 := Tryd.sizeOf145
  v127 := Tryd.zeroValue145
  t164 := Tryd.underlying159
  a164 := Tryd.isAgg159
  z164 := Tryd.sizeOf159
  v164 := Tryd.zeroValue159 }
theorem Tryd.Builder_Extra_156 : Builder.Extra Tryd.prog Tryd.lays156_ren := {
  sizeBuilder := by kernel_rfl
  liesBuilder := by kernel_rfl
  t5 := Tryd.underlying5
  a5 := Tryd.isAgg5
  z5 := Tryd.sizeOf5
  v5 := Tryd.zeroValue5
  infoByte := by kernel_rfl
  cellsByte := by kernel_rfl
  sizeByte := by kernel_rfl
  neB5 := by decide }
def Tryd.lays283_ren : Go.Shelf.Ren := ⟨fun | 283 => 82 | n => n, fun | 3 => 3 | 9 => 9 | 4 => 4 | n => n, fun | n => n⟩
theorem Tryd.lays283 : Go.Proofs.Lays.n283 Tryd.prog Tryd.lays283_ren := {
  mixed := by kernel_rfl
  f283 := Tryd.func82.trans (congrArg some (by kernel_rfl))
  t3 := Tryd.underlying3
  a3 := Tryd.isAgg3
  z3 := Tryd.sizeOf3
  v3 := Tryd.zeroValue3
  t4 := Tryd.underlying4
  a4 := Tryd.isAgg4
  z4 := Tryd.sizeOf4
  v4 := Tryd.zeroValue4
  t9 := Tryd.underlying9
  a9 := Tryd.isAgg9
  z9 := Tryd.sizeOf9
  v9 := Tryd.zeroValue9 }
open Go.Lib in
open Go.RowKit in
theorem Tryd.internal_strconv_small (i : Nat) (h : i < 100) (w : World) :
    Calls Tryd.prog 82 #[.int .i64 i] w fun e w' => e = .returned (.string ⟨(Lib.decDigits i).toArray⟩) ∧ w' = w := Any.internal_strconv_small Tryd.lays283 i h w
def Tryd.laysM284_ren : Go.Shelf.Ren := ⟨fun | 284 => 83 | 129 => 95 | 317 => 94 | 318 => 96 | n => n, fun | 53 => 26 | 3 => 3 | 212 => 155 | 0 => 0 | 4 => 4 | 46 => 39 | 5 => 5 | 9 => 9 | n => n, fun | 17 => 0 | n => n⟩
theorem Tryd.laysM284 : Go.Proofs.LaysM.n284 Tryd.prog Tryd.laysM284_ren := {
  mixed := by kernel_rfl
  f129 := Tryd.func95.trans (congrArg some (by kernel_rfl))
  f284 := Tryd.func83.trans (congrArg some (by kernel_rfl))
  f317 := Tryd.func94.trans (congrArg some (by kernel_rfl))
  f318 := Tryd.func96.trans (congrArg some (by kernel_rfl))
  t0 := Tryd.underlying0
  a0 := Tryd.isAgg0
  z0 := Tryd.sizeOf0
  v0 := Tryd.zeroValue0
  t3 := Tryd.underlying3
  a3 := Tryd.isAgg3
  z3 := Tryd.sizeOf3
  v3 := Tryd.zeroValue3
  t4 := Tryd.underlying4
  a4 := Tryd.isAgg4
  z4 := Tryd.sizeOf4
  v4 := Tryd.zeroValue4
  t5 := Tryd.underlying5
  a5 := Tryd.isAgg5
  z5 := Tryd.sizeOf5
  v5 := Tryd.zeroValue5
  t9 := Tryd.underlying9
  a9 := Tryd.isAgg9
  z9 := Tryd.sizeOf9
  v9 := Tryd.zeroValue9
  t46 := Tryd.underlying39
  a46 := Tryd.isAgg39
  z46 := Tryd.sizeOf39
  v46 := Tryd.zeroValue39
  t53 := Tryd.underlying26
  a53 := Tryd.isAgg26
  z53 := Tryd.sizeOf26
  v53 := Tryd.zeroValue26
  t212 := Tryd.underlying155
  a212 := Tryd.isAgg155
  z212 := Tryd.sizeOf155
  v212 := Tryd.zeroValue155
  g17 := by kernel_rfl
  i0 := by kernel_rfl
  i3 := by kernel_rfl
  i4 := by kernel_rfl
  i5 := by kernel_rfl
  i9 := by kernel_rfl
  i46 := by kernel_rfl
  i53 := by kernel_rfl
  i212 := by kernel_rfl
  m17 := by kernel_rfl }
open Go.Lib in
def Tryd.lays285_ren : Go.Shelf.Ren := ⟨fun | 285 => 84 | n => n, fun | 37 => 117 | 53 => 26 | 3 => 3 | 4 => 4 | 51 => 156 | 9 => 9 | 5 => 5 | 0 => 0 | n => n, fun | n => n⟩
theorem Tryd.lays285 : Go.Proofs.Lays.n285 Tryd.prog Tryd.lays285_ren := {
  mixed := by kernel_rfl
  f285 := Tryd.func84.trans (congrArg some (by kernel_rfl))
  t0 := Tryd.underlying0
  a0 := Tryd.isAgg0
  z0 := Tryd.sizeOf0
  v0 := Tryd.zeroValue0
  t3 := Tryd.underlying3
  a3 := Tryd.isAgg3
  z3 := Tryd.sizeOf3
  v3 := Tryd.zeroValue3
  t4 := Tryd.underlying4
  a4 := Tryd.isAgg4
  z4 := Tryd.sizeOf4
  v4 := Tryd.zeroValue4
  t5 := Tryd.underlying5
  a5 := Tryd.isAgg5
  z5 := Tryd.sizeOf5
  v5 := Tryd.zeroValue5
  t9 := Tryd.underlying9
  a9 := Tryd.isAgg9
  z9 := Tryd.sizeOf9
  v9 := Tryd.zeroValue9
  t37 := Tryd.underlying117
  a37 := Tryd.isAgg117
  z37 := Tryd.sizeOf117
  v37 := Tryd.zeroValue117
  t51 := Tryd.underlying156
  a51 := Tryd.isAgg156
  z51 := Tryd.sizeOf156
  v51 := Tryd.zeroValue156
  t53 := Tryd.underlying26
  a53 := Tryd.isAgg26
  z53 := Tryd.sizeOf26
  v53 := Tryd.zeroValue26 }


end Go.Proofs
namespace Go.Proofs.YtekkiedpcgaddaaDoor
open Go Go.Ab Go.RowKit Go.Sort
set_option maxRecDepth 20000
theorem strings_Join_ev {xs : List ByteArray} {sep r : ByteArray} (h : strings_Join_s xs sep = some r) : PureEv Tryd.prog 38 [.sl false 1 (List.map avS xs), .str sep] (.str r) :=
  join_gen Tryd.lays156 Tryd.Builder_Extra_156 h

set_option maxRecDepth 100000 in
theorem format_small (i : Nat) (hi : i < 100) (w : World) :
    Calls Tryd.prog 58 #[.int .u64 i, .int .i64 10] w fun e w' => e = .returned (.string ⟨(Lib.decDigits i).toArray⟩) ∧ w' = w := by
  go_enter Tryd.func58, Tryd.ntmps58
  go_wp2_with (go_at_call 82; refine (Tryd.internal_strconv_small i hi _).mono ?_; rintro e w' ⟨rfl, rfl⟩)
  go_ret
  exact ⟨rfl, rfl⟩

set_option maxHeartbeats 6400000 in
set_option maxRecDepth 100000 in
theorem format_big (u : Nat) (hu : 100 ≤ u) (hu64 : u < 18446744073709551616) (w : World) (htab : ∀ nm, Tryd.prog.globalNamed nm = some 0 → Lib.TabIs Tryd.prog w nm .u64 Lib.pow10Tab) :
    Calls Tryd.prog 58 #[.int .u64 u, .int .i64 10] w fun e w' => e = .returned (.string ⟨(Lib.decDigits u).toArray⟩) ∧ Below w.heap.size w w' := by
  have hu1 : 1 ≤ u := by omega
  have hnd20 : Lib.nDigits u ≤ 20 := by have := Lib.numDigits_eq u hu1 hu64; split at this <;> omega
  have hal : Tryd.prog.arrayLen 140 = 24 := by simp [Program.arrayLen, Tryd.underlying140]
  have hsl : ∀ W, (Instr.sliceAt 140 (.pointer (some ⟨w.heap.size, 0, none⟩)) none (some (.int .i64 (Lib.nDigits u : Int))) none).run Tryd.prog W = .ok (.slice (some ⟨w.heap.size, 0, none⟩) (Lib.nDigits u) 24) W := fun W => by
    rw [run_sliceAt_array_h W 140 ⟨w.heap.size, 0, none⟩ (by simp [Program.arrayLen, Program.elem, Tryd.underlying140]) .i64 (Lib.nDigits u : Int) (by omega) (by rw [hal]; omega)]
    go_simp
  have hH0 := Lib.holds_zero0 w 140 (Lib.nDigits u) (by omega)
  have hfmt := Go.Proofs.Any.internal_strconv_formatBase10 Tryd.lays285 w.heap.size 0 24 u (Array.replicate (Lib.nDigits u) 0) (w.alloc (.cells Lib.zeros24 140)) hH0 (by rw [Array.size_replicate]; exact Lib.lt_pow_nDigits u) hu64 (by rw [Array.size_replicate]; omega)
  rw [Array.size_replicate] at hfmt
  have HH0 := Lib.hid hH0
  have iu : (100 : Int) ≤ (u : Int) := by omega
  have htab0 := fun nm h => Lib.tabIs_alloc (htab nm h) (.cells Lib.zeros24 140)
  have hnum := Go.Proofs.Any.internal_strconv_numDigits Tryd.laysM284 u hu1 hu64 (w.alloc (.cells Lib.zeros24 140)) (htab0 _ (by kernel_rfl))
  clear hH0 hal htab0 htab
  go_enter Tryd.func58, Tryd.ntmps58
  go_wp2_with (go_at_call 83; refine hnum.mono ?_; rintro e w' ⟨rfl, rfl⟩)
  go_at_call 84
  refine hfmt.mono ?_
  rintro e w' ⟨rfl, k, v', dk, rfl, hF⟩
  have hcv : (convert 117 9 (.slice (some ⟨w.heap.size, 0, none⟩) (Lib.nDigits u) 24)).run Tryd.prog ((putRow (fun (b : UInt8) => Value.int .u8 (b.toNat : Int)) (w.alloc (.cells Lib.zeros24 140)) w.heap.size 0 dk).drewN k) = .ok (.string ⟨(Lib.decDigits u).toArray⟩) ((putRow (fun (b : UInt8) => Value.int .u8 (b.toNat : Int)) (w.alloc (.cells Lib.zeros24 140)) w.heap.size 0 dk).drewN k) := by
    have h := run_convert_bytes_back (P := Tryd.prog) ((putRow (fun (b : UInt8) => Value.int .u8 (b.toNat : Int)) (w.alloc (.cells Lib.zeros24 140)) w.heap.size 0 dk).drewN k) 117 9 5 ⟨w.heap.size, 0, none⟩ 24 (Lib.decDigits u) Tryd.underlying117 Tryd.underlying5 Tryd.underlying9 (fun j hj => by
      rw [Lib.row_is_numeral hF j hj, Lib.add_plain, World.cell?_drewN]
      exact cell?_putRow (fun (b : UInt8) => Value.int .u8 (b.toNat : Int)) _ w.heap.size 0 _ dk HH0.out (by rw [hF.size, Array.size_replicate]) j (by rw [hF.size]; rw [Lib.decDigits_length] at hj; exact hj))
    rw [Lib.decDigits_length] at h
    exact h
  go_wp2
  go_ret
  obtain ⟨os, eo⟩ := Lib.fin_at w (.cells Lib.zeros24 140) dk k 0
  refine ⟨rfl, ?_⟩
  have hb : Below w.heap.size w ((putRow (fun (b : UInt8) => Value.int .u8 (b.toNat : Int)) (w.alloc (.cells Lib.zeros24 140)) w.heap.size 0 dk).drewN k) := by rw [eo]; exact Lib.below_grow w.heap.size w (Nat.le_refl _) k os
  exact hb

def internal_strconv_FormatUint_s (n base : Int) : Option ByteArray :=
  if base = 10 ∧ 0 ≤ n ∧ n < 18446744073709551616 then some ⟨(digs 19 n.toNat).toArray⟩ else none

theorem pow_tab : Lib.pow10Tab = pow10T := by decide +kernel

theorem internal_strconv_FormatUint_ev {n base : Int} {r : ByteArray} (h : internal_strconv_FormatUint_s n base = some r) :
    PureEv Tryd.prog 58 [.int .u64 n, .int .i64 base] (.str r) := by
  unfold internal_strconv_FormatUint_s at h
  split at h
  · rename_i hl
    obtain ⟨h2, h0, h1⟩ := hl
    have h3 : ((n.toNat : Nat) : Int) = n := by omega
    have hr := Option.some.inj h
    rw [digs_eq 19 n.toNat (by omega)] at hr
    intro g w vals hw hv
    obtain ⟨u, v, rfl, hu, hw2⟩ := vals_two hv
    cases hu; cases hw2
    by_cases hs : n.toNat < 100
    · have F := format_small n.toNat hs w
      rw [hr, h3, ← h2] at F
      refine F.mono fun e w' ⟨he, hb⟩ => ?_
      subst hb
      exact ⟨_, g, he, Gh.le.refl _ _, hw, .str⟩
    · have F := format_big n.toNat (by omega) (by omega) w (fun nm hn => by rw [pow_tab]; exact hw.tabIs hn rfl)
      rw [hr, h3, ← h2] at F
      exact F.mono fun e w' ⟨he, hb⟩ => ⟨_, g, he, Gh.le.refl _ _, hw.below hb, .str⟩
  · exact absurd h (by simp)
end Go.Proofs.YtekkiedpcgaddaaDoor
