/- A contract of the kit's shelf as a fact on abstract values: what is left behind differs from the world before only above its end. strings.Join. -/
import Derived.Test.YtkfhljombjmdbaaDoorWlH1
import Derived.Shelf.Strings.OnBuilder
import Derived.Lib.ItoaNum
import Derived.Lib.LaidTab
import Derived.Shelf.Strings.Split
import Derived.Shelf.Small.Wraps
import Derived.Shelf.Pu.ParseUintPublic10
import Derived.Lib.AtoiErrMem
import Derived.Test.YtkfhljombjmdbaaDoorRows
import Derived.Shelf.LaysM
import Derived.Shelf.Strconv.Itoa1
import Derived.Shelf.Strconv.Itoa2
import Derived.Shelf.Strings.SplitShaped
import Derived.Lib.AppendIntMem
import Derived.Lib.ItoaMem
import Derived.WalkKit
import Derived.Shelf.SlicesE.DeleteFunc
import Derived.Shelf.Small.Strs
namespace Go.Ab
open Go.RowKit

theorem WRel.below {g σ} {w w' : World} (h : WRel g σ w) (k : Below w.heap.size w w') : WRel g σ w' := by
  have hc : ∀ b o v, w.cell? ⟨b, o, none⟩ = some v → w'.cell? ⟨b, o, none⟩ = some v := fun b o v e => by
    rw [k.cell (lt_of_cell e)]; exact e
  refine ⟨fun b o v e => hc _ _ _ (h.pm b o v e), fun b o v e => hc _ _ _ (h.tm b o v e), fun b o v e => by
    rw [k.frozen (h.tm_lt e)]; exact h.tmf b o v e, h.disj, h.low.trans (k.mono h.B0), Nat.le_trans h.B0 k.size, h.tab, fun o ver cs e => ?_, h.sep⟩
  have q := h.ob o ver cs e
  refine ⟨q.low, q.len, fun j hj => ?_, fun j hj => ?_, q.pm, q.tm⟩
  · obtain ⟨v, hv, hr⟩ := q.there j hj
    exact ⟨v, hc _ _ _ hv, hr⟩
  · obtain ⟨v, hv, _⟩ := q.there j hj
    rw [k.frozen (lt_of_cell hv)]
    exact q.free j hj

theorem WRel.tabIs {g σ} {w : World} (h : WRel g σ w) {P : Program} {nm : String} {k : IntKind} {zs : List Int} {b : Nat} (hg : P.globalNamed nm = some b) (ht : tabOf b = some fun cs => cs = (zs.map fun z => Value.int k z).toArray) : Lib.TabIs P w nm k zs := by
  obtain ⟨hb, cs, t, fz, e, q⟩ := h.tab b _ ht
  subst q
  unfold Lib.TabIs World.var?
  rw [hg, Option.bind_some, h.low.block b hb, e]
theorem WRel.tabCell {g σ} {w : World} (h : WRel g σ w) {p : Array Value → Prop} {b : Nat} (ht : tabOf b = some p) : ∃ cs, p cs ∧ ∀ v, cs[0]? = some v → w.cell? ⟨b, 0, none⟩ = some v := by
  obtain ⟨hb, cs, t, fz, e, q⟩ := h.tab b _ ht
  refine ⟨cs, q, fun v hv => ?_⟩
  have := h.low.block b hb
  simp only [World.cell?, this, e]
  exact hv
theorem tab_here {W : World} {b : Nat} {cs : Array Value} {t fz} (h : W.heap[b]? = some (.cells cs t fz)) {p : Array Value → Prop} (hp : p cs) : b < W.heap.size ∧ ∃ cs t fz, W.heap[b]? = some (.cells cs t fz) ∧ p cs :=
  ⟨(Array.getElem?_eq_some_iff.1 h).1, cs, t, fz, h, hp⟩
theorem tab_is {P : Program} {W : World} {nm : String} {k : IntKind} {zs : List Int} {b : Nat} (hg : P.globalNamed nm = some b) (h : Lib.TabIs P W nm k zs) : ∃ t fz, W.heap[b]? = some (.cells (zs.map fun z => Value.int k z).toArray t fz) := by
  unfold Lib.TabIs World.var? at h
  rw [hg, Option.bind_some] at h
  cases e2 : W.heap[b]? with
  | none => rw [e2] at h; cases h
  | some o =>
    rw [e2] at h
    cases o with
    | cells c t fz => cases h; exact ⟨t, fz, rfl⟩
    | _ => cases h
theorem tab_cell {W : World} {b : Nat} {v : Value} (h : W.cell? ⟨b, 0, none⟩ = some v) : ∃ cs t fz, W.heap[b]? = some (.cells cs t fz) ∧ cs[0]? = some v := by
  simp only [World.cell?] at h
  cases e2 : W.heap[b]? with
  | none => rw [e2] at h; simp at h
  | some o =>
    rw [e2] at h
    cases o with
    | cells c t fz => exact ⟨c, t, fz, rfl, by simpa using h⟩
    | _ => simp at h

theorem vals_two {g σ x y vals} (h : VRs g σ [x, y] vals) : ∃ u v, vals = #[u, v] ∧ VR g.pm g.L σ x u ∧ VR g.pm g.L σ y v := by
  obtain ⟨hs, hv⟩ := h
  obtain ⟨l⟩ := vals
  match l, hs with
  | [u, v], _ => exact ⟨u, v, rfl, hv 0 (by simp) (by simp), hv 1 (by simp) (by simp)⟩

def strings_Join_s (xs : List ByteArray) (sep : ByteArray) : Option ByteArray :=
  if xs.length ≤ 140737488355328 ∧ (Lib.join (xs.map (·.data.toList)) sep.data.toList).length ≤ 140737488355328 then
    some ⟨(Lib.join (xs.map (·.data.toList)) sep.data.toList).toArray⟩ else none

/-- The decimal digits of u, by so many steps. -/
def digs : Nat → Nat → List UInt8
  | 0, u => [UInt8.ofNat (48 + u % 10)]
  | k + 1, u => if u < 10 then [UInt8.ofNat (48 + u)] else digs k (u / 10) ++ [UInt8.ofNat (48 + u % 10)]
theorem digs_eq : ∀ (k u : Nat), u < 10 ^ (k + 1) → digs k u = Lib.decDigits u
  | 0, u, h => by
    have : u < 10 := by simpa using h
    rw [digs, Lib.decDigits, dif_pos this, Nat.mod_eq_of_lt this]
  | k + 1, u, h => by
    rw [digs, Lib.decDigits]
    by_cases hu : u < 10
    · rw [if_pos hu, dif_pos hu]
    · rw [if_neg hu, dif_neg hu, digs_eq k (u / 10) (by rw [Nat.pow_succ] at h; exact Nat.div_lt_of_lt_mul (by omega))]

theorem join_gen {P : Program} {ρ : Go.Shelf.Ren} (L : Go.Proofs.Lays.n156 P ρ) (X : Go.Proofs.Builder.Extra P ρ) {xs : List ByteArray} {sep r : ByteArray} (h : strings_Join_s xs sep = some r) :
    PureEv P (ρ.f 156) [.sl false 1 (List.map avS xs), .str sep] (.str r) := by
  unfold strings_Join_s at h
  split at h
  case isFalse => cases h
  rename_i hl
  cases h
  intro g w vals hw hv
  obtain ⟨u, v, rfl, hu, hv⟩ := vals_two hv
  cases hv
  have fin : ∀ {e : Ending} {w' : World}, (e = .returned (.string ⟨(Lib.join (xs.map (·.data.toList)) sep.data.toList).toArray⟩) ∧ Below w.heap.size w w') →
      ∃ u g', e = .returned u ∧ g.le noHp g' noHp ∧ WRel g' noHp w' ∧ VR g'.pm g'.L noHp (.str ⟨(Lib.join (xs.map (·.data.toList)) sep.data.toList).toArray⟩) u :=
    fun ⟨he, hb⟩ => ⟨_, g, he, Gh.le.refl _ _, hw.below hb, .str⟩
  by_cases hx : xs = []
  · subst hx
    have nn : ∀ a c, Calls P (ρ.f 156) #[.slice a 0 c, .string sep] w fun e w' => ∃ u g', e = .returned u ∧ g.le noHp g' noHp ∧ WRel g' noHp w' ∧ VR g'.pm g'.L noHp (.str ⟨(Lib.join (([] : List ByteArray).map (·.data.toList)) sep.data.toList).toArray⟩) u := fun a c =>
      (Go.Proofs.Any.strings_Join_none L X a c sep w).mono fun e w' ⟨he, hb⟩ => fin ⟨he, hb ▸ Below.refl _ _⟩
    cases hu with
    | slnil => exact nn _ _
    | slz => exact nn _ _
    | sl us hc he hz hp hv => exact nn _ _
  · have hm : List.map avS xs ≠ [] := by simpa using hx
    generalize hys : List.map avS xs = ys at hu hm
    cases hu with
    | slnil => exact (hm rfl).elim
    | slz => exact (hm rfl).elim
    | @sl _ _ _ b o cap us hc he hz hp hq =>
      subst hys
      simp only [List.length_map] at hc ⊢
      have hcell : ∀ (j : Nat) x, xs[j]? = some x → w.cell? ⟨b, o + j, none⟩ = some (.string x) := by
        intro j x hj
        obtain ⟨hlt, hj⟩ := List.getElem?_eq_some_iff.mp hj
        have h1 := hw.pm _ _ _ (hp j 0 (by simpa using hlt) (by omega))
        have h2 := hq j (by simpa using hlt) 0 (by simp [avS, AV.cells])
        simp only [List.getElem_map, avS, AV.cells, List.getElem_cons_zero, hj] at h2
        generalize us j 0 = q at h1 h2
        cases h2
        rw [show o + j = o + j * 1 + 0 by omega]
        exact h1
      have hbk : b < w.heap.size := by
        obtain ⟨x, t, rfl⟩ := List.exists_cons_of_ne_nil hx
        exact lt_of_cell (hcell 0 x rfl)
      exact (Go.Proofs.Any.strings_Join L X b o cap xs sep w hcell hbk hl.1 hc hl.2).mono fun e w' k => fin k
end Go.Ab
/- Contracts of the kit's shelf as facts on abstract values: strings.Split, strings.CutPrefix, strconv.ParseUint. -/
namespace Go.Ab
open Go.RowKit

theorem vals_three {g σ x y z vals} (h : VRs g σ [x, y, z] vals) : ∃ u v t, vals = #[u, v, t] ∧ VR g.pm g.L σ x u ∧ VR g.pm g.L σ y v ∧ VR g.pm g.L σ z t := by
  obtain ⟨hs, hv⟩ := h
  obtain ⟨l⟩ := vals
  match l, hs with
  | [u, v, t], _ => exact ⟨u, v, t, rfl, hv 0 (by simp) (by simp), hv 1 (by simp) (by simp), hv 2 (by simp) (by simp)⟩

/-- Strings in a new block, as a list that is frozen. -/
theorem VR.strs {pm L σ} {b : Nat} {xs : List ByteArray} (h : ∀ j, (hj : j < xs.length) → pm b j = some (.string xs[j])) : VR pm L σ (.sl false 1 (xs.map avS)) (.slice (some ⟨b, 0, none⟩) xs.length xs.length) := by
  have := VR.sl (pm := pm) (L := L) (σ := σ) (ex := false) (sz := 1) (xs := xs.map avS) (b := b) (o := 0) (cap := xs.length) (fun i _ => .string (xs.getD i ByteArray.empty)) (by simp) (fun h => by cases h) (fun i hi => by simp [avS, AV.cells])
    (fun i j hi hj => by
      have hi' : i < xs.length := by simpa using hi
      have : j = 0 := by omega
      subst this
      rw [show 0 + i * 1 + 0 = i by omega, h i hi']
      simp [hi'])
    (fun i hi j hj => by
      have hi' : i < xs.length := by simpa using hi
      simp only [List.getElem_map, avS, AV.cells, List.length_singleton] at hj
      have : j = 0 := by omega
      subst this
      simp only [List.getElem_map, avS, AV.cells, List.getElem_cons_zero, List.getD_eq_getElem?_getD, List.getElem?_eq_getElem hi', Option.getD_some]
      exact .str)
  simpa using this

def strings_Split_s (s sep : ByteArray) : Option (List ByteArray) :=
  if s.size < 4294967281 ∧ 1 ≤ sep.size then some (Lib.splitB sep 0 (Lib.countB s sep) s) else none

theorem split_gen {P : Program} {ρ : Go.Shelf.Ren} {s sep : ByteArray} {r : List ByteArray} (h : strings_Split_s s sep = some r) {b : Nat} (ht : tabOf b = some fun cs => ∃ m, cs[0]? = some (.int .i64 m)) (hb : ρ.g 1 = b)
    (L : Go.Proofs.Lays.n146 P ρ) (hi9 : (P.info? (ρ.t 9)).map (fun i => (i.zero, i.size, i.bytes)) = some (some (.string ByteArray.empty), 1, 16)) :
    PureEv P (ρ.f 146) [.str s, .str sep] (.sl false 1 (List.map avS r)) := by
  unfold strings_Split_s at h
  split at h
  case isFalse => cases h
  rename_i hl
  cases h
  intro g w vals hw hv
  obtain ⟨u, v, rfl, hu, hw2⟩ := vals_two hv
  cases hu; cases hw2
  obtain ⟨cs, ⟨m, hm⟩, hc⟩ := hw.tabCell ht
  subst hb
  refine (Go.Proofs.Any.strings_Split L hi9 s sep m w hl.1 (hc _ hm) hl.2).mono fun e w' ⟨he, hw'⟩ => ?_
  have hlen := Lib.splitB_all sep hl.2 0 _ s rfl
  generalize Lib.splitB sep 0 (Lib.countB s sep) s = xs at he hw' hlen ⊢
  obtain ⟨g', k1, k2, k3⟩ := hw.alloc_tell (xs.map Value.string).toArray (ρ.t 9)
  subst hw'
  refine ⟨_, g', he, k2, k1, ?_⟩
  rw [← hlen]
  exact VR.strs (fun j hj => by
    have := k3 j (by simpa using hj)
    simpa using this)

def strings_CutPrefix_s (s p : ByteArray) : Option (ByteArray × Bool) :=
  some (⟨(Lib.trimPrefix s.data.toList p.data.toList).toArray⟩, Lib.hasPrefix s.data.toList p.data.toList)

theorem cutPrefix_gen {P : Program} {ρ : Go.Shelf.Ren} {s p : ByteArray} {r : ByteArray × Bool} (h : strings_CutPrefix_s s p = some r) (L : Go.Proofs.Lays.n103 P ρ) :
    PureEv P (ρ.f 103) [.str s, .str p] (.tup [.str r.1, .bool r.2]) := by
  cases h
  intro g w vals hw hv
  obtain ⟨u, v, rfl, hu, hw2⟩ := vals_two hv
  cases hu; cases hw2
  refine (Go.Proofs.Any.strings_CutPrefix L s p w).mono fun e w' ⟨he, hw'⟩ => ?_
  subst hw'
  exact ⟨_, g, he, Gh.le.refl _ _, hw, .tup rfl (fun j h h' => by
    match j, h with
    | 0, _ => exact .str
    | 1, _ => exact .bool)⟩

def strconv_ParseUint_s (s : ByteArray) (base bits : Int) : Option (Int × Bool) :=
  if base = 10 ∧ bits = 64 ∧ s.size ≤ 281474976710656 then
    match Lib.parseUintB 64 s.data.toList with
    | .ok u => some ((u : Int), false)
    | .«syntax» => some (0, true)
    | .range => some (18446744073709551615, true)
  else none

theorem VR.pairE {pm L σ} {k : IntKind} {n : Int} {T : TypeId} {v : Value} : VR pm L σ (.tup [.int k n, avE T true]) (.tuple #[.int k n, .iface T v]) :=
  .tup rfl (fun j h h' => by
    match j, h with
    | 0, _ => exact .int
    | 1, _ => exact .iface .junk)
theorem VR.pairO {pm L σ} {k : IntKind} {n : Int} {T : TypeId} : VR pm L σ (.tup [.int k n, avE T false]) (.tuple #[.int k n, .nilIface]) :=
  .tup rfl (fun j h h' => by
    match j, h with
    | 0, _ => exact .int
    | 1, _ => exact .nili)

theorem WRel.bytesW {g σ} {w : World} (h : WRel g σ w) (t : TypeId) (s : ByteArray) : WRel g σ (Lib.bytesWorld w t s) :=
  h.below (Lib.bytesWorld_below w t s)

theorem parseUint_gen {P : Program} {ρ : Go.Shelf.Ren} {s : ByteArray} {base bits : Int} {r : Int × Bool} (h : strconv_ParseUint_s s base bits = some r) {b0 b1 : Nat} {T : TypeId}
    (h0 : tabOf b0 = some fun cs => ∃ v, cs[0]? = some v ∧ (v = .nilIface ∨ ∃ te pe, v = .iface te pe)) (h1 : tabOf b1 = some fun cs => ∃ v, cs[0]? = some v ∧ (v = .nilIface ∨ ∃ te pe, v = .iface te pe))
    (e0 : ρ.g 0 = b0) (e1 : ρ.g 1 = b1) (eT : ρ.t 39 = T) (L : Go.Proofs.LaysPu.n14 P ρ) :
    PureEv P (ρ.f 14) [.str s, .int .i64 base, .int .i64 bits] (.tup [.int .u64 r.1, avE T r.2]) := by
  unfold strconv_ParseUint_s at h
  split at h
  case isFalse => cases h
  rename_i hl
  obtain ⟨rfl, rfl, hl⟩ := hl
  subst e0; subst e1; subst eT
  intro g w vals hw hv
  obtain ⟨u, v, t, rfl, hu, hw2, hw3⟩ := vals_three hv
  cases hu; cases hw2; cases hw3
  cases hp : Lib.parseUintB 64 s.data.toList with
  | ok n =>
    rw [hp] at h
    cases h
    refine (Go.Proofs.Any.strconv_ParseUint_10_at64_ok L s (by omega) n hp w).mono fun e w' ⟨he, hw'⟩ => ?_
    rcases hw' with rfl | rfl
    · exact ⟨_, g, he, Gh.le.refl _ _, hw, .pairO⟩
    · exact ⟨_, g, he, Gh.le.refl _ _, hw.bytesW _ _, .pairO⟩
  | «syntax» =>
    rw [hp] at h
    cases h
    obtain ⟨cs, ⟨ev, q1, q2⟩, hc⟩ := hw.tabCell h0
    exact (Go.Proofs.Any.strconv_ParseUint_10_at64_syntax L s hl hp ev w (hc _ q1) q2).mono fun e w' ⟨N, he, _, _, hb⟩ => ⟨_, g, he, Gh.le.refl _ _, hw.below hb, .pairE⟩
  | range =>
    rw [hp] at h
    cases h
    obtain ⟨cs, ⟨ev, q1, q2⟩, hc⟩ := hw.tabCell h1
    exact (Go.Proofs.Any.strconv_ParseUint_10_at64_range L s hl hp ev w (hc _ q1) q2).mono fun e w' ⟨N, he, _, _, hb⟩ => ⟨_, g, he, Gh.le.refl _ _, hw.below hb, .pairE⟩
end Go.Ab
/- The library's functions that the laws reach, on abstract values: strings.Join, Split, CutPrefix, strconv.FormatUint (base ten), ParseUint (base ten, 64 bits). What the package's variables hold is where the settings (WlA0) say. -/
namespace Go.Proofs
open Go.Shelf
def Tryd.lays156_ren : Go.Shelf.Ren := ⟨fun | 156 => 45 | 165 => 90 | 166 => 62 | 169 => 66 | 240 => 102 | 241 => 119 | 276 => 130 | 277 => 144 | n => n, fun | 31 => 29 | 9 => 9 | 3 => 3 | 4 => 4 | 0 => 0 | 20 => 20 | 72 => 126 | 76 => 130 | 70 => 124 | 37 => 49 | 75 => 129 | 127 => 172 | 164 => 201 | 5 => 5 | 80 => 135 | n => n, fun | n => n⟩
theorem Tryd.lays156 : Go.Proofs.Lays.n156 Tryd.prog Tryd.lays156_ren := {
  mixed := by kernel_rfl
  f156 := Tryd.func45.trans (congrArg some (by kernel_rfl))
  f165 := Tryd.func90.trans (congrArg some (by kernel_rfl))
  f166 := Tryd.func62.trans (congrArg some (by kernel_rfl))
  f169 := Tryd.func66.trans (congrArg some (by kernel_rfl))
  f240 := Tryd.func102.trans (congrArg some (by kernel_rfl))
  f241 := Tryd.func119.trans (congrArg some (by kernel_rfl))
  f276 := Tryd.func130.trans (congrArg some (by kernel_rfl))
  f277 := Tryd.func144.trans (congrArg some (by kernel_rfl))
  t0 := Tryd.underlying0
  a0 := Tryd.isAgg0
  z0 := Tryd.sizeOf0
  v0 := Tryd.zeroValue0
  t3 := Tryd.underlying3
  a3 := Tryd.isAgg3
  z3 := Tryd.sizeOf3
  v3 := Tryd.zeroValue3
  t4 := Tryd.underlying4
  a4 := Tryd.isAgg4
  z4 := Tryd.sizeOf4
  v4 := Tryd.zeroValue4
  t9 := Tryd.underlying9
  a9 := Tryd.isAgg9
  z9 := Tryd.sizeOf9
  v9 := Tryd.zeroValue9
  t20 := Tryd.underlying20
  a20 := Tryd.isAgg20
  z20 := Tryd.sizeOf20
  v20 := Tryd.zeroValue20
  t31 := Tryd.underlying29
  a31 := Tryd.isAgg29
  z31 := Tryd.sizeOf29
  v31 := Tryd.zeroValue29
  t37 := Tryd.underlying49
  a37 := Tryd.isAgg49
  z37 := Tryd.sizeOf49
  v37 := Tryd.zeroValue49
  t70 := Tryd.underlying124
  a70 := Tryd.isAgg124
  z70 := Tryd.sizeOf124
  v70 := Tryd.zeroValue124
  t72 := Tryd.underlying126
  a72 := Tryd.isAgg126
  z72 := Tryd.sizeOf126
  v72 := Tryd.zeroValue126
  t75 := Tryd.underlying129
  a75 := Tryd.isAgg129
  z75 := Tryd.sizeOf129
  v75 := Tryd.zeroValue129
  t76 := Tryd.underlying130
  a76 := Tryd.isAgg130
  z76 := Tryd.sizeOf130
  v76 := Tryd.zeroValue130
  t127 := Tryd.underlying172
  a127 := Tryd.isAgg172
  z127 := Tryd.sizeOf172
  v127 := Tryd.zeroValue172
  t164 := Tryd.underlying201
  a164 := Tryd.isAgg201
  z164 := Tryd.sizeOf201
  v164 := Tryd.zeroValue201 }
theorem Tryd.Builder_Extra_156 : Builder.Extra Tryd.prog Tryd.lays156_ren := {
  sizeBuilder := by kernel_rfl
  liesBuilder := by kernel_rfl
  t5 := Tryd.underlying5
  a5 := Tryd.isAgg5
  z5 := Tryd.sizeOf5
  v5 := Tryd.zeroValue5
  infoByte := by kernel_rfl
  cellsByte := by kernel_rfl
  sizeByte := by kernel_rfl
  neB5 := by decide }
def Tryd.lays103_ren : Go.Shelf.Ren := ⟨fun | 103 => 92 | 210 => 123 | 206 => 149 | n => n, fun | 9 => 9 | 4 => 4 | 24 => 111 | 3 => 3 | n => n, fun | n => n⟩
theorem Tryd.lays103 : Go.Proofs.Lays.n103 Tryd.prog Tryd.lays103_ren := {
  mixed := by kernel_rfl
  f103 := Tryd.func92.trans (congrArg some (by kernel_rfl))
  f206 := Tryd.func149.trans (congrArg some (by kernel_rfl))
  f210 := Tryd.func123.trans (congrArg some (by kernel_rfl))
  t3 := Tryd.underlying3
  a3 := Tryd.isAgg3
  z3 := Tryd.sizeOf3
  v3 := Tryd.zeroValue3
  t4 := Tryd.underlying4
  a4 := Tryd.isAgg4
  z4 := Tryd.sizeOf4
  v4 := Tryd.zeroValue4
  t9 := Tryd.underlying9
  a9 := Tryd.isAgg9
  z9 := Tryd.sizeOf9
  v9 := Tryd.zeroValue9
  t24 := Tryd.underlying111
  a24 := Tryd.isAgg111
  z24 := Tryd.sizeOf111
  v24 := Tryd.zeroValue111 }
def Tryd.lays283_ren : Go.Shelf.Ren := ⟨fun | 283 => 115 | n => n, fun | 3 => 3 | 9 => 9 | 4 => 4 | n => n, fun | n => n⟩
theorem Tryd.lays283 : Go.Proofs.Lays.n283 Tryd.prog Tryd.lays283_ren := {
  mixed := by kernel_rfl
  f283 := Tryd.func115.trans (congrArg some (by kernel_rfl))
  t3 := Tryd.underlying3
  a3 := Tryd.isAgg3
  z3 := Tryd.sizeOf3
  v3 := Tryd.zeroValue3
  t4 := Tryd.underlying4
  a4 := Tryd.isAgg4
  z4 := Tryd.sizeOf4
  v4 := Tryd.zeroValue4
  t9 := Tryd.underlying9
  a9 := Tryd.isAgg9
  z9 := Tryd.sizeOf9
  v9 := Tryd.zeroValue9 }
open Go.Lib in
theorem Tryd.internal_strconv_small (i : Nat) (h : i < 100) (w : World) :
    Calls Tryd.prog 115 #[.int .i64 i] w fun e w' => e = .returned (.string ⟨(Lib.decDigits i).toArray⟩) ∧ w' = w := Any.internal_strconv_small Tryd.lays283 i h w
def Tryd.laysM284_ren : Go.Shelf.Ren := ⟨fun | 284 => 116 | 129 => 140 | 317 => 139 | 318 => 141 | n => n, fun | 53 => 24 | 3 => 3 | 212 => 212 | 0 => 0 | 4 => 4 | 46 => 64 | 5 => 5 | 9 => 9 | n => n, fun | 17 => 0 | n => n⟩
theorem Tryd.laysM284 : Go.Proofs.LaysM.n284 Tryd.prog Tryd.laysM284_ren := {
  mixed := by kernel_rfl
  f129 := Tryd.func140.trans (congrArg some (by kernel_rfl))
  f284 := Tryd.func116.trans (congrArg some (by kernel_rfl))
  f317 := Tryd.func139.trans (congrArg some (by kernel_rfl))
  f318 := Tryd.func141.trans (congrArg some (by kernel_rfl))
  t0 := Tryd.underlying0
  a0 := Tryd.isAgg0
  z0 := Tryd.sizeOf0
  v0 := Tryd.zeroValue0
  t3 := Tryd.underlying3
  a3 := Tryd.isAgg3
  z3 := Tryd.sizeOf3
  v3 := Tryd.zeroValue3
  t4 := Tryd.underlying4
  a4 := Tryd.isAgg4
  z4 := Tryd.sizeOf4
  v4 := Tryd.zeroValue4
  t5 := Tryd.underlying5
  a5 := Tryd.isAgg5
  z5 := Tryd.sizeOf5
  v5 := Tryd.zeroValue5
  t9 := Tryd.underlying9
  a9 := Tryd.isAgg9
  z9 := Tryd.sizeOf9
  v9 := Tryd.zeroValue9
  t46 := Tryd.underlying64
  a46 := Tryd.isAgg64
  z46 := Tryd.sizeOf64
  v46 := Tryd.zeroValue64
  t53 := Tryd.underlying24
  a53 := Tryd.isAgg24
  z53 := Tryd.sizeOf24
  v53 := Tryd.zeroValue24
  t212 := Tryd.underlying212
  a212 := Tryd.isAgg212
  z212 := Tryd.sizeOf212
  v212 := Tryd.zeroValue212
  g17 := by kernel_rfl
  i0 := by kernel_rfl
  i3 := by kernel_rfl
  i4 := by kernel_rfl
  i5 := by kernel_rfl
  i9 := by kernel_rfl
  i46 := by kernel_rfl
  i53 := by kernel_rfl
  i212 := by kernel_rfl
  m17 := by kernel_rfl }
def Tryd.lays285_ren : Go.Shelf.Ren := ⟨fun | 285 => 117 | n => n, fun | 37 => 49 | 53 => 24 | 3 => 3 | 4 => 4 | 51 => 213 | 9 => 9 | 5 => 5 | 0 => 0 | n => n, fun | n => n⟩
theorem Tryd.lays285 : Go.Proofs.Lays.n285 Tryd.prog Tryd.lays285_ren := {
  mixed := by kernel_rfl
  f285 := Tryd.func117.trans (congrArg some (by kernel_rfl))
  t0 := Tryd.underlying0
  a0 := Tryd.isAgg0
  z0 := Tryd.sizeOf0
  v0 := Tryd.zeroValue0
  t3 := Tryd.underlying3
  a3 := Tryd.isAgg3
  z3 := Tryd.sizeOf3
  v3 := Tryd.zeroValue3
  t4 := Tryd.underlying4
  a4 := Tryd.isAgg4
  z4 := Tryd.sizeOf4
  v4 := Tryd.zeroValue4
  t5 := Tryd.underlying5
  a5 := Tryd.isAgg5
  z5 := Tryd.sizeOf5
  v5 := Tryd.zeroValue5
  t9 := Tryd.underlying9
  a9 := Tryd.isAgg9
  z9 := Tryd.sizeOf9
  v9 := Tryd.zeroValue9
  t37 := Tryd.underlying49
  a37 := Tryd.isAgg49
  z37 := Tryd.sizeOf49
  v37 := Tryd.zeroValue49
  t51 := Tryd.underlying213
  a51 := Tryd.isAgg213
  z51 := Tryd.sizeOf213
  v51 := Tryd.zeroValue213
  t53 := Tryd.underlying24
  a53 := Tryd.isAgg24
  z53 := Tryd.sizeOf24
  v53 := Tryd.zeroValue24 }
def Tryd.laysPu14_ren : Go.Shelf.Ren := ⟨fun | 14 => 93 | 16 => 124 | 17 => 125 | 19 => 150 | 20 => 151 | 21 => 152 | 22 => 153 | 23 => 154 | 24 => 155 | 25 => 168 | 27 => 61 | 26 => 169 | 28 => 101 | 29 => 129 | 30 => 115 | 31 => 116 | 32 => 117 | 33 => 118 | 35 => 140 | 34 => 139 | 36 => 141 | 37 => 142 | 38 => 143 | 39 => 163 | 40 => 162 | n => n, fun | 9 => 9 | 3 => 3 | 22 => 24 | 24 => 129 | 25 => 164 | 4 => 4 | 34 => 221 | 5 => 5 | 36 => 64 | 37 => 49 | 0 => 0 | 39 => 223 | 21 => 21 | 44 => 235 | 47 => 172 | 50 => 250 | 48 => 248 | 2 => 2 | 52 => 190 | 55 => 193 | 59 => 212 | 60 => 213 | 20 => 20 | 61 => 214 | 65 => 241 | 66 => 240 | 67 => 135 | n => n, fun | 0 => 2 | 1 => 3 | 2 => 0 | 3 => 5 | 4 => 4 | n => n⟩
theorem Tryd.laysPu14 : Go.Proofs.LaysPu.n14 Tryd.prog Tryd.laysPu14_ren := {
  mixed := by kernel_rfl
  f14 := Tryd.func93.trans (congrArg some (by kernel_rfl))
  f16 := Tryd.func124.trans (congrArg some (by kernel_rfl))
  f17 := Tryd.func125.trans (congrArg some (by kernel_rfl))
  f19 := Tryd.func150.trans (congrArg some (by kernel_rfl))
  f20 := Tryd.func151.trans (congrArg some (by kernel_rfl))
  f21 := Tryd.func152.trans (congrArg some (by kernel_rfl))
  f22 := Tryd.func153.trans (congrArg some (by kernel_rfl))
  f23 := Tryd.func154.trans (congrArg some (by kernel_rfl))
  f24 := Tryd.func155.trans (congrArg some (by kernel_rfl))
  f25 := Tryd.func168.trans (congrArg some (by kernel_rfl))
  f26 := Tryd.func169.trans (congrArg some (by kernel_rfl))
  f27 := Tryd.func61.trans (congrArg some (by kernel_rfl))
  f28 := Tryd.func101.trans (congrArg some (by kernel_rfl))
  f29 := Tryd.func129.trans (congrArg some (by kernel_rfl))
  f30 := Tryd.func115.trans (congrArg some (by kernel_rfl))
  f31 := Tryd.func116.trans (congrArg some (by kernel_rfl))
  f32 := Tryd.func117.trans (congrArg some (by kernel_rfl))
  f33 := Tryd.func118.trans (congrArg some (by kernel_rfl))
  f34 := Tryd.func139.trans (congrArg some (by kernel_rfl))
  f35 := Tryd.func140.trans (congrArg some (by kernel_rfl))
  f36 := Tryd.func141.trans (congrArg some (by kernel_rfl))
  f37 := Tryd.func142.trans (congrArg some (by kernel_rfl))
  f38 := Tryd.func143.trans (congrArg some (by kernel_rfl))
  f39 := Tryd.func163.trans (congrArg some (by kernel_rfl))
  f40 := Tryd.func162.trans (congrArg some (by kernel_rfl))
  t0 := Tryd.underlying0
  a0 := Tryd.isAgg0
  z0 := Tryd.sizeOf0
  v0 := Tryd.zeroValue0
  i0 := by kernel_rfl
  t2 := Tryd.underlying2
  a2 := Tryd.isAgg2
  z2 := Tryd.sizeOf2
  v2 := Tryd.zeroValue2
  i2 := by kernel_rfl
  t3 := Tryd.underlying3
  a3 := Tryd.isAgg3
  z3 := Tryd.sizeOf3
  v3 := Tryd.zeroValue3
  i3 := by kernel_rfl
  t4 := Tryd.underlying4
  a4 := Tryd.isAgg4
  z4 := Tryd.sizeOf4
  v4 := Tryd.zeroValue4
  i4 := by kernel_rfl
  t5 := Tryd.underlying5
  a5 := Tryd.isAgg5
  z5 := Tryd.sizeOf5
  v5 := Tryd.zeroValue5
  i5 := by kernel_rfl
  t9 := Tryd.underlying9
  a9 := Tryd.isAgg9
  z9 := Tryd.sizeOf9
  v9 := Tryd.zeroValue9
  i9 := by kernel_rfl
  t20 := Tryd.underlying20
  a20 := Tryd.isAgg20
  z20 := Tryd.sizeOf20
  v20 := Tryd.zeroValue20
  i20 := by kernel_rfl
  t21 := Tryd.underlying21
  a21 := Tryd.isAgg21
  z21 := Tryd.sizeOf21
  v21 := Tryd.zeroValue21
  i21 := by kernel_rfl
  t22 := Tryd.underlying24
  a22 := Tryd.isAgg24
  z22 := Tryd.sizeOf24
  v22 := Tryd.zeroValue24
  i22 := by kernel_rfl
  t24 := Tryd.underlying129
  a24 := Tryd.isAgg129
  z24 := Tryd.sizeOf129
  v24 := Tryd.zeroValue129
  i24 := by kernel_rfl
  t25 := Tryd.underlying164
  a25 := Tryd.isAgg164
  z25 := Tryd.sizeOf164
  v25 := Tryd.zeroValue164
  i25 := by kernel_rfl
  t34 := Tryd.underlying221
  a34 := Tryd.isAgg221
  z34 := Tryd.sizeOf221
  v34 := Tryd.zeroValue221
  i34 := by kernel_rfl
  c34 := by kernel_rfl
  t36 := Tryd.underlying64
  a36 := Tryd.isAgg64
  z36 := Tryd.sizeOf64
  v36 := Tryd.zeroValue64
  i36 := by kernel_rfl
  t37 := Tryd.underlying49
  a37 := Tryd.isAgg49
  z37 := Tryd.sizeOf49
  v37 := Tryd.zeroValue49
  i37 := by kernel_rfl
  t39 := Tryd.underlying223
  a39 := Tryd.isAgg223
  z39 := Tryd.sizeOf223
  v39 := Tryd.zeroValue223
  i39 := by kernel_rfl
  t44 := Tryd.underlying235
  a44 := Tryd.isAgg235
  z44 := Tryd.sizeOf235
  v44 := Tryd.zeroValue235
  i44 := by kernel_rfl
  t47 := Tryd.underlying172
  a47 := Tryd.isAgg172
  z47 := Tryd.sizeOf172
  v47 := Tryd.zeroValue172
  i47 := by kernel_rfl
  t48 := Tryd.underlying248
  a48 := Tryd.isAgg248
  z48 := Tryd.sizeOf248
  v48 := Tryd.zeroValue248
  i48 := by kernel_rfl
  t50 := Tryd.underlying250
  a50 := Tryd.isAgg250
  z50 := Tryd.sizeOf250
  v50 := Tryd.zeroValue250
  i50 := by kernel_rfl
  t52 := Tryd.underlying190
  a52 := Tryd.isAgg190
  z52 := Tryd.sizeOf190
  v52 := Tryd.zeroValue190
  i52 := by kernel_rfl
  t55 := Tryd.underlying193
  a55 := Tryd.isAgg193
  z55 := Tryd.sizeOf193
  v55 := Tryd.zeroValue193
  i55 := by kernel_rfl
  t59 := Tryd.underlying212
  a59 := Tryd.isAgg212
  z59 := Tryd.sizeOf212
  v59 := Tryd.zeroValue212
  i59 := by kernel_rfl
  t60 := Tryd.underlying213
  a60 := Tryd.isAgg213
  z60 := Tryd.sizeOf213
  v60 := Tryd.zeroValue213
  i60 := by kernel_rfl
  t61 := Tryd.underlying214
  a61 := Tryd.isAgg214
  z61 := Tryd.sizeOf214
  t65 := Tryd.underlying241
  a65 := Tryd.isAgg241
  z65 := Tryd.sizeOf241
  v65 := Tryd.zeroValue241
  i65 := by kernel_rfl
  t66 := Tryd.underlying240
  a66 := Tryd.isAgg240
  z66 := Tryd.sizeOf240
  v66 := Tryd.zeroValue240
  i66 := by kernel_rfl
  t67 := Tryd.underlying135
  a67 := Tryd.isAgg135
  z67 := Tryd.sizeOf135
  v67 := Tryd.zeroValue135
  i67 := by kernel_rfl
  g0 := by kernel_rfl
  m0 := by kernel_rfl
  g1 := by kernel_rfl
  m1 := by kernel_rfl
  g2 := by kernel_rfl
  m2 := by kernel_rfl
  g3 := by kernel_rfl
  m3 := by kernel_rfl
  g4 := by kernel_rfl
  m4 := by kernel_rfl }
def Tryd.laysM146_ren : Go.Shelf.Ren := ⟨fun | 146 => 47 | 221 => 91 | 268 => 120 | 138 => 121 | 143 => 122 | 195 => 145 | 197 => 146 | 218 => 147 | 219 => 148 | 260 => 164 | 217 => 126 | 225 => 165 | 224 => 166 | 267 => 167 | 266 => 156 | 314 => 175 | n => n, fun | 9 => 9 | 31 => 29 | 3 => 3 | 4 => 4 | 0 => 0 | 105 => 218 | 21 => 21 | 5 => 5 | 46 => 64 | 119 => 242 | 139 => 245 | 138 => 244 | 146 => 246 | 51 => 213 | n => n, fun | 1 => 1 | 3 => 6 | 4 => 7 | n => n⟩
theorem Tryd.laysM146 : Go.Proofs.LaysM.n146 Tryd.prog Tryd.laysM146_ren := {
  mixed := by kernel_rfl
  f138 := Tryd.func121.trans (congrArg some (by kernel_rfl))
  f143 := Tryd.func122.trans (congrArg some (by kernel_rfl))
  f146 := Tryd.func47.trans (congrArg some (by kernel_rfl))
  f195 := Tryd.func145.trans (congrArg some (by kernel_rfl))
  f197 := Tryd.func146.trans (congrArg some (by kernel_rfl))
  f217 := Tryd.func126.trans (congrArg some (by kernel_rfl))
  f218 := Tryd.func147.trans (congrArg some (by kernel_rfl))
  f219 := Tryd.func148.trans (congrArg some (by kernel_rfl))
  f221 := Tryd.func91.trans (congrArg some (by kernel_rfl))
  f224 := Tryd.func166.trans (congrArg some (by kernel_rfl))
  f225 := Tryd.func165.trans (congrArg some (by kernel_rfl))
  f260 := Tryd.func164.trans (congrArg some (by kernel_rfl))
  f266 := Tryd.func156.trans (congrArg some (by kernel_rfl))
  f267 := Tryd.func167.trans (congrArg some (by kernel_rfl))
  f268 := Tryd.func120.trans (congrArg some (by kernel_rfl))
  f314 := Tryd.func175.trans (congrArg some (by kernel_rfl))
  t0 := Tryd.underlying0
  a0 := Tryd.isAgg0
  z0 := Tryd.sizeOf0
  v0 := Tryd.zeroValue0
  t3 := Tryd.underlying3
  a3 := Tryd.isAgg3
  z3 := Tryd.sizeOf3
  v3 := Tryd.zeroValue3
  t4 := Tryd.underlying4
  a4 := Tryd.isAgg4
  z4 := Tryd.sizeOf4
  v4 := Tryd.zeroValue4
  t5 := Tryd.underlying5
  a5 := Tryd.isAgg5
  z5 := Tryd.sizeOf5
  v5 := Tryd.zeroValue5
  t9 := Tryd.underlying9
  a9 := Tryd.isAgg9
  z9 := Tryd.sizeOf9
  v9 := Tryd.zeroValue9
  t21 := Tryd.underlying21
  a21 := Tryd.isAgg21
  z21 := Tryd.sizeOf21
  v21 := Tryd.zeroValue21
  t31 := Tryd.underlying29
  a31 := Tryd.isAgg29
  z31 := Tryd.sizeOf29
  v31 := Tryd.zeroValue29
  t46 := Tryd.underlying64
  a46 := Tryd.isAgg64
  z46 := Tryd.sizeOf64
  v46 := Tryd.zeroValue64
  t51 := Tryd.underlying213
  a51 := Tryd.isAgg213
  z51 := Tryd.sizeOf213
  v51 := Tryd.zeroValue213
  t105 := Tryd.underlying218
  a105 := Tryd.isAgg218
  z105 := Tryd.sizeOf218
  v105 := Tryd.zeroValue218
  t119 := Tryd.underlying242
  a119 := Tryd.isAgg242
  z119 := Tryd.sizeOf242
  t138 := Tryd.underlying244
  a138 := Tryd.isAgg244
  z138 := Tryd.sizeOf244
  v138 := Tryd.zeroValue244
  t139 := Tryd.underlying245
  a139 := Tryd.isAgg245
  z139 := Tryd.sizeOf245
  v139 := Tryd.zeroValue245
  t146 := Tryd.underlying246
  a146 := Tryd.isAgg246
  z146 := Tryd.sizeOf246
  v146 := Tryd.zeroValue246
  g1 := by kernel_rfl
  g3 := by kernel_rfl
  g4 := by kernel_rfl
  i0 := by kernel_rfl
  i3 := by kernel_rfl
  i4 := by kernel_rfl
  i5 := by kernel_rfl
  i9 := by kernel_rfl
  i21 := by kernel_rfl
  i31 := by kernel_rfl
  i46 := by kernel_rfl
  i51 := by kernel_rfl
  i105 := by kernel_rfl
  i138 := by kernel_rfl
  i139 := by kernel_rfl
  i146 := by kernel_rfl
  m1 := by kernel_rfl
  s1_3 := fun w h => Go.Proofs.cell_of_shapedOpen_int (zero := #[.int .i64 0]) (t := 3) h (of_decide_eq_true (by kernel_rfl)) (by kernel_rfl) rfl (by kernel_rfl) (by kernel_rfl) Tryd.underlying3
  m3 := by kernel_rfl
  m4 := by kernel_rfl }

end Go.Proofs
namespace Go.Proofs.YtkfhljombjmdbaaDoor
open Go Go.Ab Go.RowKit Go.Sort
set_option maxRecDepth 20000
theorem strings_Join_ev {xs : List ByteArray} {sep r : ByteArray} (h : strings_Join_s xs sep = some r) : PureEv Tryd.prog 45 [.sl false 1 (List.map avS xs), .str sep] (.str r) :=
  join_gen Tryd.lays156 Tryd.Builder_Extra_156 h

set_option maxRecDepth 100000 in
theorem format_small (i : Nat) (hi : i < 100) (w : World) :
    Calls Tryd.prog 89 #[.int .u64 i, .int .i64 10] w fun e w' => e = .returned (.string ⟨(Lib.decDigits i).toArray⟩) ∧ w' = w := by
  go_enter Tryd.func89, Tryd.ntmps89
  go_wp2_with (go_at_call 115; refine (Tryd.internal_strconv_small i hi _).mono ?_; rintro e w' ⟨rfl, rfl⟩)
  go_ret
  exact ⟨rfl, rfl⟩

set_option maxHeartbeats 6400000 in
set_option maxRecDepth 100000 in
theorem format_big (u : Nat) (hu : 100 ≤ u) (hu64 : u < 18446744073709551616) (w : World) (htab : ∀ nm, Tryd.prog.globalNamed nm = some 0 → Lib.TabIs Tryd.prog w nm .u64 Lib.pow10Tab) :
    Calls Tryd.prog 89 #[.int .u64 u, .int .i64 10] w fun e w' => e = .returned (.string ⟨(Lib.decDigits u).toArray⟩) ∧ Below w.heap.size w w' := by
  have hu1 : 1 ≤ u := by omega
  have hnd20 : Lib.nDigits u ≤ 20 := by have := Lib.numDigits_eq u hu1 hu64; split at this <;> omega
  have hal : Tryd.prog.arrayLen 190 = 24 := by simp [Program.arrayLen, Tryd.underlying190]
  have hsl : ∀ W, (Instr.sliceAt 190 (.pointer (some ⟨w.heap.size, 0, none⟩)) none (some (.int .i64 (Lib.nDigits u : Int))) none).run Tryd.prog W = .ok (.slice (some ⟨w.heap.size, 0, none⟩) (Lib.nDigits u) 24) W := fun W => by
    rw [run_sliceAt_array_h W 190 ⟨w.heap.size, 0, none⟩ (by simp [Program.arrayLen, Program.elem, Tryd.underlying190]) .i64 (Lib.nDigits u : Int) (by omega) (by rw [hal]; omega)]
    go_simp
  have hH0 := Lib.holds_zero0 w 190 (Lib.nDigits u) (by omega)
  have hfmt := Go.Proofs.Any.internal_strconv_formatBase10 Tryd.lays285 w.heap.size 0 24 u (Array.replicate (Lib.nDigits u) 0) (w.alloc (.cells Lib.zeros24 190)) hH0 (by rw [Array.size_replicate]; exact Lib.lt_pow_nDigits u) hu64 (by rw [Array.size_replicate]; omega)
  rw [Array.size_replicate] at hfmt
  have HH0 := Lib.hid hH0
  have iu : (100 : Int) ≤ (u : Int) := by omega
  have htab0 := fun nm h => Lib.tabIs_alloc (htab nm h) (.cells Lib.zeros24 190)
  have hnum := Go.Proofs.Any.internal_strconv_numDigits Tryd.laysM284 u hu1 hu64 (w.alloc (.cells Lib.zeros24 190)) (htab0 _ (by kernel_rfl))
  clear hH0 hal htab0 htab
  go_enter Tryd.func89, Tryd.ntmps89
  go_wp2_with (go_at_call 116; refine hnum.mono ?_; rintro e w' ⟨rfl, rfl⟩)
  go_at_call 117
  refine hfmt.mono ?_
  rintro e w' ⟨rfl, k, v', dk, rfl, hF⟩
  have hcv : (convert 49 9 (.slice (some ⟨w.heap.size, 0, none⟩) (Lib.nDigits u) 24)).run Tryd.prog ((putRow (fun (b : UInt8) => Value.int .u8 (b.toNat : Int)) (w.alloc (.cells Lib.zeros24 190)) w.heap.size 0 dk).drewN k) = .ok (.string ⟨(Lib.decDigits u).toArray⟩) ((putRow (fun (b : UInt8) => Value.int .u8 (b.toNat : Int)) (w.alloc (.cells Lib.zeros24 190)) w.heap.size 0 dk).drewN k) := by
    have h := run_convert_bytes_back (P := Tryd.prog) ((putRow (fun (b : UInt8) => Value.int .u8 (b.toNat : Int)) (w.alloc (.cells Lib.zeros24 190)) w.heap.size 0 dk).drewN k) 49 9 5 ⟨w.heap.size, 0, none⟩ 24 (Lib.decDigits u) Tryd.underlying49 Tryd.underlying5 Tryd.underlying9 (fun j hj => by
      rw [Lib.row_is_numeral hF j hj, Lib.add_plain, World.cell?_drewN]
      exact cell?_putRow (fun (b : UInt8) => Value.int .u8 (b.toNat : Int)) _ w.heap.size 0 _ dk HH0.out (by rw [hF.size, Array.size_replicate]) j (by rw [hF.size]; rw [Lib.decDigits_length] at hj; exact hj))
    rw [Lib.decDigits_length] at h
    exact h
  go_wp2
  go_ret
  obtain ⟨os, eo⟩ := Lib.fin_at w (.cells Lib.zeros24 190) dk k 0
  refine ⟨rfl, ?_⟩
  have hb : Below w.heap.size w ((putRow (fun (b : UInt8) => Value.int .u8 (b.toNat : Int)) (w.alloc (.cells Lib.zeros24 190)) w.heap.size 0 dk).drewN k) := by rw [eo]; exact Lib.below_grow w.heap.size w (Nat.le_refl _) k os
  exact hb

def internal_strconv_FormatUint_s (n base : Int) : Option ByteArray :=
  if base = 10 ∧ 0 ≤ n ∧ n < 18446744073709551616 then some ⟨(digs 19 n.toNat).toArray⟩ else none

theorem pow_tab : Lib.pow10Tab = pow10T := by decide +kernel

theorem internal_strconv_FormatUint_ev {n base : Int} {r : ByteArray} (h : internal_strconv_FormatUint_s n base = some r) :
    PureEv Tryd.prog 89 [.int .u64 n, .int .i64 base] (.str r) := by
  unfold internal_strconv_FormatUint_s at h
  split at h
  · rename_i hl
    obtain ⟨h2, h0, h1⟩ := hl
    have h3 : ((n.toNat : Nat) : Int) = n := by omega
    have hr := Option.some.inj h
    rw [digs_eq 19 n.toNat (by omega)] at hr
    intro g w vals hw hv
    obtain ⟨u, v, rfl, hu, hw2⟩ := vals_two hv
    cases hu; cases hw2
    by_cases hs : n.toNat < 100
    · have F := format_small n.toNat hs w
      rw [hr, h3, ← h2] at F
      refine F.mono fun e w' ⟨he, hb⟩ => ?_
      subst hb
      exact ⟨_, g, he, Gh.le.refl _ _, hw, .str⟩
    · have F := format_big n.toNat (by omega) (by omega) w (fun nm hn => by rw [pow_tab]; exact hw.tabIs hn rfl)
      rw [hr, h3, ← h2] at F
      exact F.mono fun e w' ⟨he, hb⟩ => ⟨_, g, he, Gh.le.refl _ _, hw.below hb, .str⟩
  · exact absurd h (by simp)

theorem strings_Split_ev {s sep : ByteArray} {r : List ByteArray} (h : strings_Split_s s sep = some r) : PureEv Tryd.prog 47 [.str s, .str sep] (.sl false 1 (List.map avS r)) :=
  split_gen h (b := 1) rfl rfl { Tryd.laysM146 with } Tryd.laysM146.i9
theorem strings_CutPrefix_ev {s p : ByteArray} {r : ByteArray × Bool} (h : strings_CutPrefix_s s p = some r) : PureEv Tryd.prog 92 [.str s, .str p] (.tup [.str r.1, .bool r.2]) :=
  cutPrefix_gen h Tryd.lays103
theorem strconv_ParseUint_ev {s : ByteArray} {base bits : Int} {r : Int × Bool} (h : strconv_ParseUint_s s base bits = some r) : PureEv Tryd.prog 93 [.str s, .int .i64 base, .int .i64 bits] (.tup [.int .u64 r.1, avE 223 r.2]) :=
  parseUint_gen h (b0 := 2) (b1 := 3) rfl rfl rfl rfl rfl Tryd.laysPu14
end Go.Proofs.YtkfhljombjmdbaaDoor

/- The library's functions that the texts' laws reach besides: strings.IndexByte; strings.Split whose list is owned; slices.DeleteFunc of what is empty. -/
namespace Go.Ab
open Go.RowKit
/-- An object's cells are written anew, all at once. -/
theorem WRel.row {g σ} {w w' : World} (h : WRel g σ w) {o ver ver' : Nat} {cs cs' : List AV} (e : σ o = .arr ver cs) (hv : ver < ver') (hlen : cs'.length ≤ (g.L o).cap)
    (hb : Below g.B0 w w') (hsz : w.heap.size ≤ w'.heap.size)
    (hother : ∀ b x, (b ≠ (g.L o).b ∨ x < (g.L o).off ∨ (g.L o).off + (g.L o).cap ≤ x) → w'.cell? ⟨b, x, none⟩ = w.cell? ⟨b, x, none⟩)
    (hfr : ∀ a, w'.frozen? a = w.frozen? a)
    (hin : ∀ j, j < (g.L o).cap → ∃ v, w'.cell? ⟨(g.L o).b, (g.L o).off + j, none⟩ = some v ∧ ∀ hj : j < cs'.length, VR g.pm g.L σ (cs'[j]) v) :
    WRel g (upd σ o (.arr ver' cs')) w' ∧ g.le σ g (upd σ o (.arr ver' cs')) := by
  have k := h.ob o ver cs e
  have hext : Ext g.pm g.L σ g.pm g.L (upd σ o (.arr ver' cs')) := ⟨fun _ _ _ e => e, fun i => by
    by_cases hi : i = o
    · subst hi; simp [e, ObExt, hv]
    · simp [upd_ne _ _ hi]; exact ObExt.refl _ _⟩
  have out : ∀ b x, (∀ j, j < (g.L o).cap → ¬ (b = (g.L o).b ∧ x = (g.L o).off + j)) → w'.cell? ⟨b, x, none⟩ = w.cell? ⟨b, x, none⟩ := fun b x hn => by
    apply hother
    by_cases h1 : b = (g.L o).b
    · by_cases h2 : x < (g.L o).off
      · exact .inr (.inl h2)
      · by_cases h3 : (g.L o).off + (g.L o).cap ≤ x
        · exact .inr (.inr h3)
        · exact absurd ⟨h1, by omega⟩ (hn (x - (g.L o).off) (by omega))
    · exact .inl h1
  refine ⟨⟨fun b x v ev => ?_, fun b x v ev => ?_, fun b x v ev => by rw [hfr]; exact h.tmf _ _ _ ev, h.disj, h.low.trans hb, Nat.le_trans h.B0 hsz, h.tab, fun i v1 c1 e1 => ?_, fun i i' v1 v2 c1 c2 e1 e2 hne => ?_⟩, ⟨hext, rfl, rfl, rfl⟩⟩
  · rw [out b x (fun j hj hh => by obtain ⟨rfl, rfl⟩ := hh; rw [k.pm j hj] at ev; cases ev)]
    exact h.pm _ _ _ ev
  · rw [out b x (fun j hj hh => by obtain ⟨rfl, rfl⟩ := hh; rw [k.tm j hj] at ev; cases ev)]
    exact h.tm _ _ _ ev
  · by_cases hi : i = o
    · subst hi
      simp at e1
      obtain ⟨rfl, rfl⟩ := e1
      refine ⟨k.low, hlen, fun m hm => ?_, fun m hm => by rw [hfr]; exact k.free m hm, k.pm, k.tm⟩
      obtain ⟨v, hv1, hv2⟩ := hin m hm
      exact ⟨v, hv1, fun hj => (hv2 hj).mono hext⟩
    · rw [upd_ne _ _ hi] at e1
      have k' := h.ob i _ _ e1
      refine ⟨k'.low, k'.len, fun m hm => ?_, fun m hm => by rw [hfr]; exact k'.free m hm, k'.pm, k'.tm⟩
      obtain ⟨u, hu, hr⟩ := k'.there m hm
      refine ⟨u, ?_, fun hj => (hr hj).mono hext⟩
      rw [out _ _ (fun j hj hh => ?_)]
      · exact hu
      · exact h.sep i o _ _ _ _ e1 e hi hh.1 m j hm hj hh.2
  · have a1 : ∃ v c, σ i = .arr v c := by
      by_cases hi : i = o
      · exact ⟨_, _, hi ▸ e⟩
      · rw [upd_ne _ _ hi] at e1; exact ⟨_, _, e1⟩
    have a2 : ∃ v c, σ i' = .arr v c := by
      by_cases hi : i' = o
      · exact ⟨_, _, hi ▸ e⟩
      · rw [upd_ne _ _ hi] at e2; exact ⟨_, _, e2⟩
    obtain ⟨_, _, a1⟩ := a1
    obtain ⟨_, _, a2⟩ := a2
    exact h.sep i i' _ _ _ _ a1 a2 hne
end Go.Ab
namespace Go.Proofs
open Go.Shelf
def Tryd.lays137_ren : Go.Shelf.Ren := ⟨fun | 137 => 96 | 217 => 126 | 266 => 156 | n => n, fun | 9 => 9 | 5 => 5 | 3 => 3 | n => n, fun | n => n⟩
theorem Tryd.lays137 : Go.Proofs.Lays.n137 Tryd.prog Tryd.lays137_ren := {
  mixed := by kernel_rfl
  f137 := Tryd.func96.trans (congrArg some (by kernel_rfl))
  f217 := Tryd.func126.trans (congrArg some (by kernel_rfl))
  f266 := Tryd.func156.trans (congrArg some (by kernel_rfl))
  t3 := Tryd.underlying3
  a3 := Tryd.isAgg3
  z3 := Tryd.sizeOf3
  v3 := Tryd.zeroValue3
  t5 := Tryd.underlying5
  a5 := Tryd.isAgg5
  z5 := Tryd.sizeOf5
  v5 := Tryd.zeroValue5
  t9 := Tryd.underlying9
  a9 := Tryd.isAgg9
  z9 := Tryd.sizeOf9
  v9 := Tryd.zeroValue9 }

def Tryd.laysDf_ren : Go.Shelf.Ren := ⟨fun | 6 => 94 | 10 => 53 | n => n, fun | 0 => 0 | 3 => 3 | 4 => 4 | 22 => 29 | 23 => 9 | 25 => 45 | n => n, fun | n => n⟩
theorem Tryd.laysDf : SlLaysH.n10 Tryd.prog Tryd.laysDf_ren := {
  mixed := by kernel_rfl
  f6 := ⟨"slices.IndexFunc[[]string,string]", by kernel_rfl, Tryd.func94.trans (congrArg some (by kernel_rfl))⟩
  f10 := ⟨"slices.DeleteFunc[[]string,string]", by kernel_rfl, Tryd.func53.trans (congrArg some (by kernel_rfl))⟩
  t0 := Tryd.underlying0
  a0 := Tryd.isAgg0
  z0 := Tryd.sizeOf0
  v0 := Tryd.zeroValue0
  t3 := Tryd.underlying3
  a3 := Tryd.isAgg3
  z3 := Tryd.sizeOf3
  v3 := Tryd.zeroValue3
  t4 := Tryd.underlying4
  a4 := Tryd.isAgg4
  z4 := Tryd.sizeOf4
  v4 := Tryd.zeroValue4
  t22 := Tryd.underlying29
  a22 := Tryd.isAgg29
  z22 := Tryd.sizeOf29
  v22 := Tryd.zeroValue29
  a23 := Tryd.isAgg9
  z23 := Tryd.sizeOf9
  t25 := Tryd.underlying45
  a25 := Tryd.isAgg45
  z25 := Tryd.sizeOf45
  v25 := Tryd.zeroValue45 }
open Go.RowKit Go.Lib Go.Sort
def emptyS (s : ByteArray) : Bool := s.toList == (ByteArray.mk #[]).toList
theorem gives54 (s : ByteArray) (W : World) : FnGives Tryd.prog 54 #[] #[.string s] (.bool (emptyS s)) W := by
  show Calls Tryd.prog 54 #[.string s] W _
  go_enter Tryd.func54, Tryd.ntmps54
  go_wp2
  all_goals (go_ret; exact ⟨by simp_all [emptyS], 0, rfl⟩)
end Go.Proofs
namespace Go.Proofs.YtkfhljombjmdbaaDoor
open Go Go.Ab Go.RowKit Go.Shelf
set_option maxRecDepth 20000
set_option linter.unusedVariables false
set_option linter.unusedSimpArgs false
theorem encI (k : IntKind) : Go.Ab.Enc (Go.Ab.avI k) none := Go.Ab.encI k
theorem flat_str (xs : List ByteArray) : flat avS xs = xs.map AV.str := by
  induction xs with
  | nil => rfl
  | cons x r ih => rw [flat_cons, ih]; rfl
def delE (xs : List ByteArray) : List ByteArray := xs.filter fun s => !emptyS s
theorem enters54 : ∀ args w, (callFunc 54 args).run Tryd.prog w = .ok (.enter 54 args) w := enters_of Tryd.func54 (by kernel_rfl) rfl
theorem slices_DeleteFunc_0_ev {xs : List ByteArray} (hx : xs ≠ []) (hl : xs.length ≤ 9223372036854775807) {ver : Nat} : Ev Tryd.prog 53 [.ref 0 ver 0 xs.length none, .fn (.func 54) [] []] (hp [.arr ver (flat avS xs)]) (.ref 0 (ver + 1) 0 (delE xs).length none) (hp [.arr (ver + 1) (flat avS (delE xs))]) := by
  intro g w vals hw hv
  obtain ⟨u, v, rfl, hu, hv⟩ := vals_two hv
  have hlen : 0 < xs.length := List.length_pos_iff.2 hx
  obtain ⟨f, fs, cs0, rfl, hfs, hcs⟩ : ∃ f fs cs0, v = .func f fs cs0 ∧ fs.size = 0 ∧ cs0.size = 0 ∧ f = .func 54 := by
    cases hv with | fn a b c d => exact ⟨_, _, _, rfl, by simpa using a, by simpa using b, rfl⟩
  obtain ⟨hcs, rfl⟩ := hcs
  obtain rfl : fs = #[] := Array.eq_empty_of_size_eq_zero hfs
  obtain rfl : cs0 = #[] := Array.eq_empty_of_size_eq_zero hcs
  generalize hn : xs.length = n at hu
  cases hu with
  | refnil _ => omega
  | @ref _ _ _ _ _ a cap hn2 hs h =>
    have ho : hp [.arr ver (flat avS xs)] 0 = .arr ver (flat avS xs) := rfl
    simp only [RefOK, ho] at h
    obtain ⟨_, h⟩ := h
    obtain ⟨ha, hb1, hb2, hb3⟩ := h trivial
    have k := hw.ob 0 ver _ ho
    have hfl : (flat avS xs).length = xs.length := by rw [encS.length]; simp [szOf]
    have hlc : xs.length ≤ (g.L 0).cap := hfl ▸ k.len
    have hat : ∀ j (hj : j < xs.length), w.cell? ⟨(g.L 0).b, (g.L 0).off + j, none⟩ = some (.string xs[j]) := by
      intro j hj
      obtain ⟨v, h1, h2⟩ := k.there j (by omega)
      have h3 := h2 (by omega)
      have : (flat avS xs)[j]'(by omega) = .str xs[j] := by simp only [flat_str, List.getElem_map]
      rw [this] at h3
      cases h3
      exact h1
    have hH : Go.Sort.Holds Value.string w (g.L 0).b (g.L 0).off xs.toArray := fun j hj => by
      have hj' : j < xs.length := by simpa using hj
      refine ⟨?_, k.free j (by omega)⟩
      rw [hat j hj', getElem!_pos xs.toArray j hj]
      simp
    have main := Go.Proofs.AnyE.slices_DeleteFunc Tryd.laysDf Value.string (fun _ => rfl) emptyS 54 #[] enters54 ByteArray.empty Tryd.zeroValue9 (g.L 0).b (g.L 0).off cap xs.toArray w
      (fun W x _ => gives54 x W) (fun n os dk x _ => gives54 x _) hH (by simpa using hl) (by simp; omega)
    subst hn
    have e1 : (Value.slice (some a) xs.length cap) = .slice (some ⟨(g.L 0).b, (g.L 0).off, none⟩) xs.toArray.size cap := by rw [ha]; simp
    rw [e1]
    refine main.mono fun e w' ⟨he, q, hw'⟩ => ?_
    have hde : (xs.toArray.toList.filter fun x => !emptyS x) = delE xs := by simp [delE]
    rw [hde] at he hw'
    have hdl : (delE xs).length ≤ xs.length := List.length_filter_le _ _
    generalize hys : ((delE xs) ++ List.replicate (xs.toArray.size - (delE xs).length) ByteArray.empty).toArray = ys at hw'
    have hysz : ys.size = xs.length := by rw [← hys]; simp; omega
    have hH' : Go.Sort.Holds Value.string (Go.Sort.ahead w q) (g.L 0).b (g.L 0).off xs.toArray := hH
    have hB : (g.L 0).b < w.heap.size := k.lt (by omega)
    have hbel : Below g.B0 w w' := by
      subst hw'
      refine ⟨rfl, rfl, rfl, by simp [Go.Sort.ahead], fun i hi => ?_⟩
      have : (g.L 0).b ≠ i := by have := k.low; omega
      simp [Go.Sort.putRow, Go.Sort.mapBlock, Array.getElem?_modify, this, Go.Sort.ahead]
    obtain ⟨r1, r2⟩ := hw.row ho (ver' := ver + 1) (cs' := flat avS (delE xs)) (by omega) (by rw [encS.length]; simp [szOf]; omega) hbel (by subst hw'; simp [Go.Sort.ahead])
      (fun b x hne => by subst hw'; rw [Go.Sort.cell?_putRow_other]; · rfl
                         · simp only; rw [hysz]; omega)
      (fun a => by subst hw'; rw [Go.Sort.frozen?_putRow]; rfl)
      (fun j hj => by
        by_cases hjx : j < xs.length
        · refine ⟨_, by subst hw'; exact Go.Sort.cell?_putRow _ _ _ _ _ _ hH' (by simp [hysz]) j (by omega), fun hj2 => ?_⟩
          have hj3 : j < (delE xs).length := by rw [encS.length] at hj2; simpa [szOf] using hj2
          have e3 : (flat avS (delE xs))[j] = .str ((delE xs)[j]) := by simp only [flat_str, List.getElem_map]
          rw [e3]
          have e4 : ys[j]! = (delE xs)[j] := by rw [getElem!_pos ys j (by omega)]; subst hys; simp [List.getElem_append_left, hj3]
          rw [e4]
          exact .str
        · obtain ⟨v, h1, _⟩ := k.there j hj
          refine ⟨v, ?_, fun hj2 => by rw [encS.length] at hj2; simp [szOf] at hj2; omega⟩
          subst hw'
          rw [Go.Sort.cell?_putRow_other]
          · exact h1
          · simp only; rw [hysz]; omega)
    have hup : upd (hp [.arr ver (flat avS xs)]) 0 (.arr (ver + 1) (flat avS (delE xs))) = hp [.arr (ver + 1) (flat avS (delE xs))] := by
      funext i
      match i with
      | 0 => rfl
      | i + 1 => rfl
    rw [hup] at r1 r2
    refine ⟨_, g, he, r2, r1, ?_⟩
    refine .ref (by omega) rfl ?_
    show RefOK _ _ _ _ _ _ _ _ _
    have ho' : hp [.arr (ver + 1) (flat avS (delE xs))] 0 = .arr (ver + 1) (flat avS (delE xs)) := rfl
    simp only [RefOK, ho']
    refine ⟨Nat.le_refl _, fun _ => ⟨rfl, ?_, by omega, ?_⟩⟩
    · rw [encS.length]; simp [szOf]
    · simpa using hb3

theorem strings_Split_o_ev {s sep : ByteArray} {r : List ByteArray} (h : strings_Split_s s sep = some r) : Ev Tryd.prog 47 [.str s, .str sep] (hp []) (.ref 0 0 0 r.length none) (hp [.arr 0 (flat avS r)]) := by
  unfold strings_Split_s at h
  split at h
  case isFalse => cases h
  rename_i hl
  cases h
  intro g w vals hw hv
  obtain ⟨u, v, rfl, hu, hw2⟩ := vals_two hv
  cases hu; cases hw2
  obtain ⟨cs, ⟨m, hm⟩, hc⟩ := hw.tabCell (b := 1) rfl
  refine (Go.Proofs.Any.strings_Split { Tryd.laysM146 with } Tryd.laysM146.i9 s sep m w hl.1 (hc _ hm) hl.2).mono fun e w' ⟨he, hw'⟩ => ?_
  have hlen := Lib.splitB_all sep hl.2 0 _ s rfl
  generalize Lib.splitB sep 0 (Lib.countB s sep) s = xs at he hw' hlen ⊢
  have hno : hp [] 0 = .virgin := rfl
  obtain ⟨k1, k2⟩ := hw.alloc_ob (o := 0) (ver := 0) (xs.map Value.string).toArray 9 (flat avS xs) (by rw [hno]; exact True.intro) (by simp [flat_str]) (fun j hj hj' => by
    simp only [flat_str, List.getElem_map]
    simp
    exact .str)
  have hup : upd (hp []) 0 (.arr 0 (flat avS xs)) = hp [.arr 0 (flat avS xs)] := by
    funext i
    match i with
    | 0 => rfl
    | i + 1 => rfl
  rw [hup] at k1 k2
  subst hw'
  refine ⟨_, _, he, k2, k1, ?_⟩
  rw [← hlen]
  refine .ref (Nat.le_refl _) rfl ?_
  have ho' : hp [.arr 0 (flat avS xs)] 0 = .arr 0 (flat avS xs) := rfl
  simp only [RefOK, ho']
  refine ⟨Nat.le_refl _, fun _ => ⟨by simp [upd_same], by rw [encS.length]; simp [szOf], Nat.le_refl _, by simp [upd_same, szOf]⟩⟩
def strings_IndexByte_s (s : ByteArray) (c : Int) : Option Int := some (Lib.indexByte s.data.toList c.toNat.toUInt8)
theorem strings_IndexByte_ev {s : ByteArray} {c r : Int} (h : strings_IndexByte_s s c = some r) : PureEv Tryd.prog 96 [.str s, .int .u8 c] (.int .i64 r) := by
  cases h
  intro g w vals hw hv
  obtain ⟨u, v, rfl, hu, hw2⟩ := vals_two hv
  cases hu; cases hw2
  refine (Go.Proofs.Any.strings_IndexByte Tryd.lays137 s c w).mono fun e w' ⟨he, hw'⟩ => ?_
  subst hw'
  exact ⟨_, g, he, Gh.le.refl _ _, hw, .int⟩
end Go.Proofs.YtkfhljombjmdbaaDoor
