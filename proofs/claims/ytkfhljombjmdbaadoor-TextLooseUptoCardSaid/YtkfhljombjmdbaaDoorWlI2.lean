/- A contract of the kit's shelf as a fact on abstract values: what is left behind differs from the world before only above its end. strings.Join. -/
import Derived.Test.YtkfhljombjmdbaaDoorWlH1
import Derived.Shelf.Strings.OnBuilder
import Derived.Lib.ItoaNum
import Derived.Lib.LaidTab
import Derived.Shelf.Strings.Split
import Derived.Shelf.Small.Wraps
import Derived.Shelf.Pu.ParseUintPublic10
import Derived.Lib.AtoiErrMem
import Derived.Test.YtkfhljombjmdbaaDoorRows
import Derived.Shelf.LaysM
import Derived.Shelf.Strconv.Itoa1
import Derived.Shelf.Strconv.Itoa2
import Derived.Shelf.Strings.SplitShaped
import Derived.Lib.AppendIntMem
import Derived.Lib.ItoaMem
import Derived.WalkKit
import Derived.Shelf.SlicesE.DeleteFunc
import Derived.Shelf.Small.Strs
import Derived.Shelf.Strings.BuilderK
namespace Go.Ab
open Go.RowKit

theorem WRel.below {g σ} {w w' : World} (h : WRel g σ w) (k : Below w.heap.size w w') : WRel g σ w' := by
  have hc : ∀ b o v, w.cell? ⟨b, o, none⟩ = some v → w'.cell? ⟨b, o, none⟩ = some v := fun b o v e => by
    rw [k.cell (lt_of_cell e)]; exact e
  refine ⟨fun b o v e => hc _ _ _ (h.pm b o v e), fun b o v e => hc _ _ _ (h.tm b o v e), fun b o v e => by
    rw [k.frozen (h.tm_lt e)]; exact h.tmf b o v e, h.disj, h.low.trans (k.mono h.B0), Nat.le_trans h.B0 k.size, h.tab, fun o ver cs e => ?_, h.sep⟩
  have q := h.ob o ver cs e
  refine ⟨q.low, q.len, fun j hj => ?_, fun j hj => ?_, q.pm, q.tm⟩
  · obtain ⟨v, hv, hr⟩ := q.there j hj
    exact ⟨v, hc _ _ _ hv, hr⟩
  · obtain ⟨v, hv, _⟩ := q.there j hj
    rw [k.frozen (lt_of_cell hv)]
    exact q.free j hj

theorem WRel.tabIs {g σ} {w : World} (h : WRel g σ w) {P : Program} {nm : String} {k : IntKind} {zs : List Int} {b : Nat} (hg : P.globalNamed nm = some b) (ht : tabOf b = some fun cs => cs = (zs.map fun z => Value.int k z).toArray) : Lib.TabIs P w nm k zs := by
  obtain ⟨hb, cs, t, fz, e, q⟩ := h.tab b _ ht
  subst q
  unfold Lib.TabIs World.var?
  rw [hg, Option.bind_some, h.low.block b hb, e]
theorem WRel.tabCell {g σ} {w : World} (h : WRel g σ w) {p : Array Value → Prop} {b : Nat} (ht : tabOf b = some p) : ∃ cs, p cs ∧ ∀ v, cs[0]? = some v → w.cell? ⟨b, 0, none⟩ = some v := by
  obtain ⟨hb, cs, t, fz, e, q⟩ := h.tab b _ ht
  refine ⟨cs, q, fun v hv => ?_⟩
  have := h.low.block b hb
  simp only [World.cell?, this, e]
  exact hv
theorem tab_here {W : World} {b : Nat} {cs : Array Value} {t fz} (h : W.heap[b]? = some (.cells cs t fz)) {p : Array Value → Prop} (hp : p cs) : b < W.heap.size ∧ ∃ cs t fz, W.heap[b]? = some (.cells cs t fz) ∧ p cs :=
  ⟨(Array.getElem?_eq_some_iff.1 h).1, cs, t, fz, h, hp⟩
theorem tab_is {P : Program} {W : World} {nm : String} {k : IntKind} {zs : List Int} {b : Nat} (hg : P.globalNamed nm = some b) (h : Lib.TabIs P W nm k zs) : ∃ t fz, W.heap[b]? = some (.cells (zs.map fun z => Value.int k z).toArray t fz) := by
  unfold Lib.TabIs World.var? at h
  rw [hg, Option.bind_some] at h
  cases e2 : W.heap[b]? with
  | none => rw [e2] at h; cases h
  | some o =>
    rw [e2] at h
    cases o with
    | cells c t fz => cases h; exact ⟨t, fz, rfl⟩
    | _ => cases h
theorem tab_cell {W : World} {b : Nat} {v : Value} (h : W.cell? ⟨b, 0, none⟩ = some v) : ∃ cs t fz, W.heap[b]? = some (.cells cs t fz) ∧ cs[0]? = some v := by
  simp only [World.cell?] at h
  cases e2 : W.heap[b]? with
  | none => rw [e2] at h; simp at h
  | some o =>
    rw [e2] at h
    cases o with
    | cells c t fz => exact ⟨c, t, fz, rfl, by simpa using h⟩
    | _ => simp at h

theorem vals_two {g σ x y vals} (h : VRs g σ [x, y] vals) : ∃ u v, vals = #[u, v] ∧ VR g.pm g.L σ x u ∧ VR g.pm g.L σ y v := by
  obtain ⟨hs, hv⟩ := h
  obtain ⟨l⟩ := vals
  match l, hs with
  | [u, v], _ => exact ⟨u, v, rfl, hv 0 (by simp) (by simp), hv 1 (by simp) (by simp)⟩

def strings_Join_s (xs : List ByteArray) (sep : ByteArray) : Option ByteArray :=
  if xs.length ≤ 140737488355328 ∧ (Lib.join (xs.map (·.data.toList)) sep.data.toList).length ≤ 140737488355328 then
    some ⟨(Lib.join (xs.map (·.data.toList)) sep.data.toList).toArray⟩ else none

/-- The decimal digits of u, by so many steps. -/
def digs : Nat → Nat → List UInt8
  | 0, u => [UInt8.ofNat (48 + u % 10)]
  | k + 1, u => if u < 10 then [UInt8.ofNat (48 + u)] else digs k (u / 10) ++ [UInt8.ofNat (48 + u % 10)]
theorem digs_eq : ∀ (k u : Nat), u < 10 ^ (k + 1) → digs k u = Lib.decDigits u
  | 0, u, h => by
    have : u < 10 := by simpa using h
    rw [digs, Lib.decDigits, dif_pos this, Nat.mod_eq_of_lt this]
  | k + 1, u, h => by
    rw [digs, Lib.decDigits]
    by_cases hu : u < 10
    · rw [if_pos hu, dif_pos hu]
    · rw [if_neg hu, dif_neg hu, digs_eq k (u / 10) (by rw [Nat.pow_succ] at h; exact Nat.div_lt_of_lt_mul (by omega))]

theorem join_gen {P : Program} {ρ : Go.Shelf.Ren} (L : Go.Proofs.Lays.n156 P ρ) (X : Go.Proofs.Builder.Extra P ρ) {xs : List ByteArray} {sep r : ByteArray} (h : strings_Join_s xs sep = some r) :
    PureEv P (ρ.f 156) [.sl false 1 (List.map avS xs), .str sep] (.str r) := by
  unfold strings_Join_s at h
  split at h
  case isFalse => cases h
  rename_i hl
  cases h
  intro g w vals hw hv
  obtain ⟨u, v, rfl, hu, hv⟩ := vals_two hv
  cases hv
  have fin : ∀ {e : Ending} {w' : World}, (e = .returned (.string ⟨(Lib.join (xs.map (·.data.toList)) sep.data.toList).toArray⟩) ∧ Below w.heap.size w w') →
      ∃ u g', e = .returned u ∧ g.le noHp g' noHp ∧ WRel g' noHp w' ∧ VR g'.pm g'.L noHp (.str ⟨(Lib.join (xs.map (·.data.toList)) sep.data.toList).toArray⟩) u :=
    fun ⟨he, hb⟩ => ⟨_, g, he, Gh.le.refl _ _, hw.below hb, .str⟩
  by_cases hx : xs = []
  · subst hx
    have nn : ∀ a c, Calls P (ρ.f 156) #[.slice a 0 c, .string sep] w fun e w' => ∃ u g', e = .returned u ∧ g.le noHp g' noHp ∧ WRel g' noHp w' ∧ VR g'.pm g'.L noHp (.str ⟨(Lib.join (([] : List ByteArray).map (·.data.toList)) sep.data.toList).toArray⟩) u := fun a c =>
      (Go.Proofs.Any.strings_Join_none L X a c sep w).mono fun e w' ⟨he, hb⟩ => fin ⟨he, hb ▸ Below.refl _ _⟩
    cases hu with
    | slnil => exact nn _ _
    | slz => exact nn _ _
    | sl us hc he hz hp hv => exact nn _ _
  · have hm : List.map avS xs ≠ [] := by simpa using hx
    generalize hys : List.map avS xs = ys at hu hm
    cases hu with
    | slnil => exact (hm rfl).elim
    | slz => exact (hm rfl).elim
    | @sl _ _ _ b o cap us hc he hz hp hq =>
      subst hys
      simp only [List.length_map] at hc ⊢
      have hcell : ∀ (j : Nat) x, xs[j]? = some x → w.cell? ⟨b, o + j, none⟩ = some (.string x) := by
        intro j x hj
        obtain ⟨hlt, hj⟩ := List.getElem?_eq_some_iff.mp hj
        have h1 := hw.pm _ _ _ (hp j 0 (by simpa using hlt) (by omega))
        have h2 := hq j (by simpa using hlt) 0 (by simp [avS, AV.cells])
        simp only [List.getElem_map, avS, AV.cells, List.getElem_cons_zero, hj] at h2
        generalize us j 0 = q at h1 h2
        cases h2
        rw [show o + j = o + j * 1 + 0 by omega]
        exact h1
      have hbk : b < w.heap.size := by
        obtain ⟨x, t, rfl⟩ := List.exists_cons_of_ne_nil hx
        exact lt_of_cell (hcell 0 x rfl)
      exact (Go.Proofs.Any.strings_Join L X b o cap xs sep w hcell hbk hl.1 hc hl.2).mono fun e w' k => fin k
end Go.Ab
/- Contracts of the kit's shelf as facts on abstract values: strings.Split, strings.CutPrefix, strconv.ParseUint. -/
namespace Go.Ab
open Go.RowKit

theorem vals_three {g σ x y z vals} (h : VRs g σ [x, y, z] vals) : ∃ u v t, vals = #[u, v, t] ∧ VR g.pm g.L σ x u ∧ VR g.pm g.L σ y v ∧ VR g.pm g.L σ z t := by
  obtain ⟨hs, hv⟩ := h
  obtain ⟨l⟩ := vals
  match l, hs with
  | [u, v, t], _ => exact ⟨u, v, t, rfl, hv 0 (by simp) (by simp), hv 1 (by simp) (by simp), hv 2 (by simp) (by simp)⟩

/-- Strings in a new block, as a list that is frozen. -/
theorem VR.strs {pm L σ} {b : Nat} {xs : List ByteArray} (h : ∀ j, (hj : j < xs.length) → pm b j = some (.string xs[j])) : VR pm L σ (.sl false 1 (xs.map avS)) (.slice (some ⟨b, 0, none⟩) xs.length xs.length) := by
  have := VR.sl (pm := pm) (L := L) (σ := σ) (ex := false) (sz := 1) (xs := xs.map avS) (b := b) (o := 0) (cap := xs.length) (fun i _ => .string (xs.getD i ByteArray.empty)) (by simp) (fun h => by cases h) (fun i hi => by simp [avS, AV.cells])
    (fun i j hi hj => by
      have hi' : i < xs.length := by simpa using hi
      have : j = 0 := by omega
      subst this
      rw [show 0 + i * 1 + 0 = i by omega, h i hi']
      simp [hi'])
    (fun i hi j hj => by
      have hi' : i < xs.length := by simpa using hi
      simp only [List.getElem_map, avS, AV.cells, List.length_singleton] at hj
      have : j = 0 := by omega
      subst this
      simp only [List.getElem_map, avS, AV.cells, List.getElem_cons_zero, List.getD_eq_getElem?_getD, List.getElem?_eq_getElem hi', Option.getD_some]
      exact .str)
  simpa using this

def strings_Split_s (s sep : ByteArray) : Option (List ByteArray) :=
  if s.size < 4294967281 ∧ 1 ≤ sep.size then some (Lib.splitB sep 0 (Lib.countB s sep) s) else none

theorem split_gen {P : Program} {ρ : Go.Shelf.Ren} {s sep : ByteArray} {r : List ByteArray} (h : strings_Split_s s sep = some r) {b : Nat} (ht : tabOf b = some fun cs => ∃ m, cs[0]? = some (.int .i64 m)) (hb : ρ.g 1 = b)
    (L : Go.Proofs.Lays.n146 P ρ) (hi9 : (P.info? (ρ.t 9)).map (fun i => (i.zero, i.size, i.bytes)) = some (some (.string ByteArray.empty), 1, 16)) :
    PureEv P (ρ.f 146) [.str s, .str sep] (.sl false 1 (List.map avS r)) := by
  unfold strings_Split_s at h
  split at h
  case isFalse => cases h
  rename_i hl
  cases h
  intro g w vals hw hv
  obtain ⟨u, v, rfl, hu, hw2⟩ := vals_two hv
  cases hu; cases hw2
  obtain ⟨cs, ⟨m, hm⟩, hc⟩ := hw.tabCell ht
  subst hb
  refine (Go.Proofs.Any.strings_Split L hi9 s sep m w hl.1 (hc _ hm) hl.2).mono fun e w' ⟨he, hw'⟩ => ?_
  have hlen := Lib.splitB_all sep hl.2 0 _ s rfl
  generalize Lib.splitB sep 0 (Lib.countB s sep) s = xs at he hw' hlen ⊢
  obtain ⟨g', k1, k2, k3⟩ := hw.alloc_tell (xs.map Value.string).toArray (ρ.t 9)
  subst hw'
  refine ⟨_, g', he, k2, k1, ?_⟩
  rw [← hlen]
  exact VR.strs (fun j hj => by
    have := k3 j (by simpa using hj)
    simpa using this)

def strings_CutPrefix_s (s p : ByteArray) : Option (ByteArray × Bool) :=
  some (⟨(Lib.trimPrefix s.data.toList p.data.toList).toArray⟩, Lib.hasPrefix s.data.toList p.data.toList)

theorem cutPrefix_gen {P : Program} {ρ : Go.Shelf.Ren} {s p : ByteArray} {r : ByteArray × Bool} (h : strings_CutPrefix_s s p = some r) (L : Go.Proofs.Lays.n103 P ρ) :
    PureEv P (ρ.f 103) [.str s, .str p] (.tup [.str r.1, .bool r.2]) := by
  cases h
  intro g w vals hw hv
  obtain ⟨u, v, rfl, hu, hw2⟩ := vals_two hv
  cases hu; cases hw2
  refine (Go.Proofs.Any.strings_CutPrefix L s p w).mono fun e w' ⟨he, hw'⟩ => ?_
  subst hw'
  exact ⟨_, g, he, Gh.le.refl _ _, hw, .tup rfl (fun j h h' => by
    match j, h with
    | 0, _ => exact .str
    | 1, _ => exact .bool)⟩

def strconv_ParseUint_s (s : ByteArray) (base bits : Int) : Option (Int × Bool) :=
  if base = 10 ∧ bits = 64 ∧ s.size ≤ 281474976710656 then
    match Lib.parseUintB 64 s.data.toList with
    | .ok u => some ((u : Int), false)
    | .«syntax» => some (0, true)
    | .range => some (18446744073709551615, true)
  else none

theorem VR.pairE {pm L σ} {k : IntKind} {n : Int} {T : TypeId} {v : Value} : VR pm L σ (.tup [.int k n, avE T true]) (.tuple #[.int k n, .iface T v]) :=
  .tup rfl (fun j h h' => by
    match j, h with
    | 0, _ => exact .int
    | 1, _ => exact .iface .junk)
theorem VR.pairO {pm L σ} {k : IntKind} {n : Int} {T : TypeId} : VR pm L σ (.tup [.int k n, avE T false]) (.tuple #[.int k n, .nilIface]) :=
  .tup rfl (fun j h h' => by
    match j, h with
    | 0, _ => exact .int
    | 1, _ => exact .nili)

theorem WRel.bytesW {g σ} {w : World} (h : WRel g σ w) (t : TypeId) (s : ByteArray) : WRel g σ (Lib.bytesWorld w t s) :=
  h.below (Lib.bytesWorld_below w t s)

theorem parseUint_gen {P : Program} {ρ : Go.Shelf.Ren} {s : ByteArray} {base bits : Int} {r : Int × Bool} (h : strconv_ParseUint_s s base bits = some r) {b0 b1 : Nat} {T : TypeId}
    (h0 : tabOf b0 = some fun cs => ∃ v, cs[0]? = some v ∧ (v = .nilIface ∨ ∃ te pe, v = .iface te pe)) (h1 : tabOf b1 = some fun cs => ∃ v, cs[0]? = some v ∧ (v = .nilIface ∨ ∃ te pe, v = .iface te pe))
    (e0 : ρ.g 0 = b0) (e1 : ρ.g 1 = b1) (eT : ρ.t 39 = T) (L : Go.Proofs.LaysPu.n14 P ρ) :
    PureEv P (ρ.f 14) [.str s, .int .i64 base, .int .i64 bits] (.tup [.int .u64 r.1, avE T r.2]) := by
  unfold strconv_ParseUint_s at h
  split at h
  case isFalse => cases h
  rename_i hl
  obtain ⟨rfl, rfl, hl⟩ := hl
  subst e0; subst e1; subst eT
  intro g w vals hw hv
  obtain ⟨u, v, t, rfl, hu, hw2, hw3⟩ := vals_three hv
  cases hu; cases hw2; cases hw3
  cases hp : Lib.parseUintB 64 s.data.toList with
  | ok n =>
    rw [hp] at h
    cases h
    refine (Go.Proofs.Any.strconv_ParseUint_10_at64_ok L s (by omega) n hp w).mono fun e w' ⟨he, hw'⟩ => ?_
    rcases hw' with rfl | rfl
    · exact ⟨_, g, he, Gh.le.refl _ _, hw, .pairO⟩
    · exact ⟨_, g, he, Gh.le.refl _ _, hw.bytesW _ _, .pairO⟩
  | «syntax» =>
    rw [hp] at h
    cases h
    obtain ⟨cs, ⟨ev, q1, q2⟩, hc⟩ := hw.tabCell h0
    exact (Go.Proofs.Any.strconv_ParseUint_10_at64_syntax L s hl hp ev w (hc _ q1) q2).mono fun e w' ⟨N, he, _, _, hb⟩ => ⟨_, g, he, Gh.le.refl _ _, hw.below hb, .pairE⟩
  | range =>
    rw [hp] at h
    cases h
    obtain ⟨cs, ⟨ev, q1, q2⟩, hc⟩ := hw.tabCell h1
    exact (Go.Proofs.Any.strconv_ParseUint_10_at64_range L s hl hp ev w (hc _ q1) q2).mono fun e w' ⟨N, he, _, _, hb⟩ => ⟨_, g, he, Gh.le.refl _ _, hw.below hb, .pairE⟩
end Go.Ab
/- The library's functions that the laws reach, on abstract values: strings.Join, Split, CutPrefix, strconv.FormatUint (base ten), ParseUint (base ten, 64 bits). What the package's variables hold is where the settings (WlA0) say. -/
namespace Go.Proofs
open Go.Shelf
def Tryd.lays156_ren : Go.Shelf.Ren := ⟨fun | 156 => 45 | 165 => 90 | 166 => 62 | 169 => 66 | 240 => 102 | 241 => 119 | 276 => 130 | 277 => 144 | n => n, fun | 31 => 29 | 9 => 9 | 3 => 3 | 4 => 4 | 0 => 0 | 20 => 20 | 72 => 126 | 76 => 130 | 70 => 124 | 37 => 49 | 75 => 129 | 127 => 172 | 164 => 201 | 5 => 5 | 80 => 135 | n => n, fun | n => n⟩
theorem Tryd.lays156 : Go.Proofs.Lays.n156 Tryd.prog Tryd.lays156_ren := {
  mixed := by kernel_rfl
  f156 := Tryd.func45.trans (congrArg some (by kernel_rfl))
  f165 := Tryd.func90.trans (congrArg some (by kernel_rfl))
  f166 := Tryd.func62.trans (congrArg some (by kernel_rfl))
  f169 := Tryd.func66.trans (congrArg some (by kernel_rfl))
  f240 := Tryd.func102.trans (congrArg some (by kernel_rfl))
  f241 := Tryd.func119.trans (congrArg some (by kernel_rfl))
  f276 := Tryd.func130.trans (congrArg some (by kernel_rfl))
  f277 := Tryd.func144.trans (congrArg some (by kernel_rfl))
  t0 := Tryd.underlying0
  a0 := Tryd.isAgg0
  z0 := Tryd.sizeOf0
  v0 := Tryd.zeroValue0
  t3 := Tryd.underlying3
  a3 := Tryd.isAgg3
  z3 := Tryd.sizeOf3
  v3 := Tryd.zeroValue3
  t4 := Tryd.underlying4
  a4 := Tryd.isAgg4
  z4 := Tryd.sizeOf4
  v4 := Tryd.zeroValue4
  t9 := Tryd.underlying9
  a9 := Tryd.isAgg9
  z9 := Tryd.sizeOf9
  v9 := Tryd.zeroValue9
  t20 := Tryd.underlying20
  a20 := Tryd.isAgg20
  z20 := Tryd.sizeOf20
  v20 := Tryd.zeroValue20
  t31 := Tryd.underlying29
  a31 := Tryd.isAgg29
  z31 := Tryd.sizeOf29
  v31 := Tryd.zeroValue29
  t37 := Tryd.underlying49
  a37 := Tryd.isAgg49
  z37 := Tryd.sizeOf49
  v37 := Tryd.zeroValue49
  t70 := Tryd.underlying124
  a70 := Tryd.isAgg124
  z70 := Tryd.sizeOf124
  v70 := Tryd.zeroValue124
  t72 := Tryd.underlying126
  a72 := Tryd.isAgg126
  z72 := Tryd.sizeOf126
  v72 := Tryd.zeroValue126
  t75 := Tryd.underlying129
  a75 := Tryd.isAgg129
  z75 := Tryd.sizeOf129
  v75 := Tryd.zeroValue129
  t76 := Tryd.underlying130
  a76 := Tryd.isAgg130
  z76 := Tryd.sizeOf130
  v76 := Tryd.zeroValue130
  t127 := Tryd.underlying172
  a127 := Tryd.isAgg172
  z127 := Tryd.sizeOf172
  v127 := Tryd.zeroValue172
  t164 := Tryd.underlying201
  a164 := Tryd.isAgg201
  z164 := Tryd.sizeOf201
  v164 := Tryd.zeroValue201 }
theorem Tryd.Builder_Extra_156 : Builder.Extra Tryd.prog Tryd.lays156_ren := {
  sizeBuilder := by kernel_rfl
  liesBuilder := by kernel_rfl
  t5 := Tryd.underlying5
  a5 := Tryd.isAgg5
  z5 := Tryd.sizeOf5
  v5 := Tryd.zeroValue5
  infoByte := by kernel_rfl
  cellsByte := by kernel_rfl
  sizeByte := by kernel_rfl
  neB5 := by decide }
def Tryd.lays103_ren : Go.Shelf.Ren := ⟨fun | 103 => 92 | 210 => 123 | 206 => 149 | n => n, fun | 9 => 9 | 4 => 4 | 24 => 111 | 3 => 3 | n => n, fun | n => n⟩
theorem Tryd.lays103 : Go.Proofs.Lays.n103 Tryd.prog Tryd.lays103_ren := {
  mixed := by kernel_rfl
  f103 := Tryd.func92.trans (congrArg some (by kernel_rfl))
  f206 := Tryd.func149.trans (congrArg some (by kernel_rfl))
  f210 := Tryd.func123.trans (congrArg some (by kernel_rfl))
  t3 := Tryd.underlying3
  a3 := Tryd.isAgg3
  z3 := Tryd.sizeOf3
  v3 := Tryd.zeroValue3
  t4 := Tryd.underlying4
  a4 := Tryd.isAgg4
  z4 := Tryd.sizeOf4
  v4 := Tryd.zeroValue4
  t9 := Tryd.underlying9
  a9 := Tryd.isAgg9
  z9 := Tryd.sizeOf9
  v9 := Tryd.zeroValue9
  t24 := Tryd.underlying111
  a24 := Tryd.isAgg111
  z24 := Tryd.sizeOf111
  v24 := Tryd.zeroValue111 }
def Tryd.lays283_ren : Go.Shelf.Ren := ⟨fun | 283 => 115 | n => n, fun | 3 => 3 | 9 => 9 | 4 => 4 | n => n, fun | n => n⟩
theorem Tryd.lays283 : Go.Proofs.Lays.n283 Tryd.prog Tryd.lays283_ren := {
  mixed := by kernel_rfl
  f283 := Tryd.func115.trans (congrArg some (by kernel_rfl))
  t3 := Tryd.underlying3
  a3 := Tryd.isAgg3
  z3 := Tryd.sizeOf3
  v3 := Tryd.zeroValue3
  t4 := Tryd.underlying4
  a4 := Tryd.isAgg4
  z4 := Tryd.sizeOf4
  v4 := Tryd.zeroValue4
  t9 := Tryd.underlying9
  a9 := Tryd.isAgg9
  z9 := Tryd.sizeOf9
  v9 := Tryd.zeroValue9 }
open Go.Lib in
theorem Tryd.internal_strconv_small (i : Nat) (h : i < 100) (w : World) :
    Calls Tryd.prog 115 #[.int .i64 i] w fun e w' => e = .returned (.string ⟨(Lib.decDigits i).toArray⟩) ∧ w' = w := Any.internal_strconv_small Tryd.lays283 i h w
def Tryd.laysM284_ren : Go.Shelf.Ren := ⟨fun | 284 => 116 | 129 => 140 | 317 => 139 | 318 => 141 | n => n, fun | 53 => 24 | 3 => 3 | 212 => 212 | 0 => 0 | 4 => 4 | 46 => 64 | 5 => 5 | 9 => 9 | n => n, fun | 17 => 0 | n => n⟩
theorem Tryd.laysM284 : Go.Proofs.LaysM.n284 Tryd.prog Tryd.laysM284_ren := {
  mixed := by kernel_rfl
  f129 := Tryd.func140.trans (congrArg some (by kernel_rfl))
  f284 := Tryd.func116.trans (congrArg some (by kernel_rfl))
  f317 := Tryd.func139.trans (congrArg some (by kernel_rfl))
  f318 := Tryd.func141.trans (congrArg some (by kernel_rfl))
  t0 := Tryd.underlying0
  a0 := Tryd.isAgg0
  z0 := Tryd.sizeOf0
  v0 := Tryd.zeroValue0
  t3 := Tryd.underlying3
  a3 := Tryd.isAgg3
  z3 := Tryd.sizeOf3
  v3 := Tryd.zeroValue3
  t4 := Tryd.underlying4
  a4 := Tryd.isAgg4
  z4 := Tryd.sizeOf4
  v4 := Tryd.zeroValue4
  t5 := Tryd.underlying5
  a5 := Tryd.isAgg5
  z5 := Tryd.sizeOf5
  v5 := Tryd.zeroValue5
  t9 := Tryd.underlying9
  a9 := Tryd.isAgg9
  z9 := Tryd.sizeOf9
  v9 := Tryd.zeroValue9
  t46 := Tryd.underlying64
  a46 := Tryd.isAgg64
  z46 := Tryd.sizeOf64
  v46 := Tryd.zeroValue64
  t53 := Tryd.underlying24
  a53 := Tryd.isAgg24
  z53 := Tryd.sizeOf24
  v53 := Tryd.zeroValue24
  t212 := Tryd.underlying212
  a212 := Tryd.isAgg212
  z212 := Tryd.sizeOf212
  v212 := Tryd.zeroValue212
  g17 := by kernel_rfl
  i0 := by kernel_rfl
  i3 := by kernel_rfl
  i4 := by kernel_rfl
  i5 := by kernel_rfl
  i9 := by kernel_rfl
  i46 := by kernel_rfl
  i53 := by kernel_rfl
  i212 := by kernel_rfl
  m17 := by kernel_rfl }
def Tryd.lays285_ren : Go.Shelf.Ren := ⟨fun | 285 => 117 | n => n, fun | 37 => 49 | 53 => 24 | 3 => 3 | 4 => 4 | 51 => 213 | 9 => 9 | 5 => 5 | 0 => 0 | n => n, fun | n => n⟩
theorem Tryd.lays285 : Go.Proofs.Lays.n285 Tryd.prog Tryd.lays285_ren := {
  mixed := by kernel_rfl
  f285 := Tryd.func117.trans (congrArg some (by kernel_rfl))
  t0 := Tryd.underlying0
  a0 := Tryd.isAgg0
  z0 := Tryd.sizeOf0
  v0 := Tryd.zeroValue0
  t3 := Tryd.underlying3
  a3 := Tryd.isAgg3
  z3 := Tryd.sizeOf3
  v3 := Tryd.zeroValue3
  t4 := Tryd.underlying4
  a4 := Tryd.isAgg4
  z4 := Tryd.sizeOf4
  v4 := Tryd.zeroValue4
  t5 := Tryd.underlying5
  a5 := Tryd.isAgg5
  z5 := Tryd.sizeOf5
  v5 := Tryd.zeroValue5
  t9 := Tryd.underlying9
  a9 := Tryd.isAgg9
  z9 := Tryd.sizeOf9
  v9 := Tryd.zeroValue9
  t37 := Tryd.underlying49
  a37 := Tryd.isAgg49
  z37 := Tryd.sizeOf49
  v37 := Tryd.zeroValue49
  t51 := Tryd.underlying213
  a51 := Tryd.isAgg213
  z51 := Tryd.sizeOf213
  v51 := Tryd.zeroValue213
  t53 := Tryd.underlying24
  a53 := Tryd.isAgg24
  z53 := Tryd.sizeOf24
  v53 := Tryd.zeroValue24 }
def Tryd.laysPu14_ren : Go.Shelf.Ren := ⟨fun | 14 => 93 | 16 => 124 | 17 => 125 | 19 => 150 | 20 => 151 | 21 => 152 | 22 => 153 | 23 => 154 | 24 => 155 | 25 => 168 | 27 => 61 | 26 => 169 | 28 => 101 | 29 => 129 | 30 => 115 | 31 => 116 | 32 => 117 | 33 => 118 | 35 => 140 | 34 => 139 | 36 => 141 | 37 => 142 | 38 => 143 | 39 => 163 | 40 => 162 | n => n, fun | 9 => 9 | 3 => 3 | 22 => 24 | 24 => 129 | 25 => 164 | 4 => 4 | 34 => 221 | 5 => 5 | 36 => 64 | 37 => 49 | 0 => 0 | 39 => 223 | 21 => 21 | 44 => 235 | 47 => 172 | 50 => 250 | 48 => 248 | 2 => 2 | 52 => 190 | 55 => 193 | 59 => 212 | 60 => 213 | 20 => 20 | 61 => 214 | 65 => 241 | 66 => 240 | 67 => 135 | n => n, fun | 0 => 2 | 1 => 3 | 2 => 0 | 3 => 5 | 4 => 4 | n => n⟩
theorem Tryd.laysPu14 : Go.Proofs.LaysPu.n14 Tryd.prog Tryd.laysPu14_ren := {
  mixed := by kernel_rfl
  f14 := Tryd.func93.trans (congrArg some (by kernel_rfl))
  f16 := Tryd.func124.trans (congrArg some (by kernel_rfl))
  f17 := Tryd.func125.trans (congrArg some (by kernel_rfl))
  f19 := Tryd.func150.trans (congrArg some (by kernel_rfl))
  f20 := Tryd.func151.trans (congrArg some (by kernel_rfl))
  f21 := Tryd.func152.trans (congrArg some (by kernel_rfl))
  f22 := Tryd.func153.trans (congrArg some (by kernel_rfl))
  f23 := Tryd.func154.trans (congrArg some (by kernel_rfl))
  f24 := Tryd.func155.trans (congrArg some (by kernel_rfl))
  f25 := Tryd.func168.trans (congrArg some (by kernel_rfl))
  f26 := Tryd.func169.trans (congrArg some (by kernel_rfl))
  f27 := Tryd.func61.trans (congrArg some (by kernel_rfl))
  f28 := Tryd.func101.trans (congrArg some (by kernel_rfl))
  f29 := Tryd.func129.trans (congrArg some (by kernel_rfl))
  f30 := Tryd.func115.trans (congrArg some (by kernel_rfl))
  f31 := Tryd.func116.trans (congrArg some (by kernel_rfl))
  f32 := Tryd.func117.trans (congrArg some (by kernel_rfl))
  f33 := Tryd.func118.trans (congrArg some (by kernel_rfl))
  f34 := Tryd.func139.trans (congrArg some (by kernel_rfl))
  f35 := Tryd.func140.trans (congrArg some (by kernel_rfl))
  f36 := Tryd.func141.trans (congrArg some (by kernel_rfl))
  f37 := Tryd.func142.trans (congrArg some (by kernel_rfl))
  f38 := Tryd.func143.trans (congrArg some (by kernel_rfl))
  f39 := Tryd.func163.trans (congrArg some (by kernel_rfl))
  f40 := Tryd.func162.trans (congrArg some (by kernel_rfl))
  t0 := Tryd.underlying0
  a0 := Tryd.isAgg0
  z0 := Tryd.sizeOf0
  v0 := Tryd.zeroValue0
  i0 := by kernel_rfl
  t2 := Tryd.underlying2
  a2 := Tryd.isAgg2
  z2 := Tryd.sizeOf2
  v2 := Tryd.zeroValue2
  i2 := by kernel_rfl
  t3 := Tryd.underlying3
  a3 := Tryd.isAgg3
  z3 := Tryd.sizeOf3
  v3 := Tryd.zeroValue3
  i3 := by kernel_rfl
  t4 := Tryd.underlying4
  a4 := Tryd.isAgg4
  z4 := Tryd.sizeOf4
  v4 := Tryd.zeroValue4
  i4 := by kernel_rfl
  t5 := Tryd.underlying5
  a5 := Tryd.isAgg5
  z5 := Tryd.sizeOf5
  v5 := Tryd.zeroValue5
  i5 := by kernel_rfl
  t9 := Tryd.underlying9
  a9 := Tryd.isAgg9
  z9 := Tryd.sizeOf9
  v9 := Tryd.zeroValue9
  i9 := by kernel_rfl
  t20 := Tryd.underlying20
  a20 := Tryd.isAgg20
  z20 := Tryd.sizeOf20
  v20 := Tryd.zeroValue20
  i20 := by kernel_rfl
  t21 := Tryd.underlying21
  a21 := Tryd.isAgg21
  z21 := Tryd.sizeOf21
  v21 := Tryd.zeroValue21
  i21 := by kernel_rfl
  t22 := Tryd.underlying24
  a22 := Tryd.isAgg24
  z22 := Tryd.sizeOf24
  v22 := Tryd.zeroValue24
  i22 := by kernel_rfl
  t24 := Tryd.underlying129
  a24 := Tryd.isAgg129
  z24 := Tryd.sizeOf129
  v24 := Tryd.zeroValue129
  i24 := by kernel_rfl
  t25 := Tryd.underlying164
  a25 := Tryd.isAgg164
  z25 := Tryd.sizeOf164
  v25 := Tryd.zeroValue164
  i25 := by kernel_rfl
  t34 := Tryd.underlying221
  a34 := Tryd.isAgg221
  z34 := Tryd.sizeOf221
  v34 := Tryd.zeroValue221
  i34 := by kernel_rfl
  c34 := by kernel_rfl
  t36 := Tryd.underlying64
  a36 := Tryd.isAgg64
  z36 := Tryd.sizeOf64
  v36 := Tryd.zeroValue64
  i36 := by kernel_rfl
  t37 := Tryd.underlying49
  a37 := Tryd.isAgg49
  z37 := Tryd.sizeOf49
  v37 := Tryd.zeroValue49
  i37 := by kernel_rfl
  t39 := Tryd.underlying223
  a39 := Tryd.isAgg223
  z39 := Tryd.sizeOf223
  v39 := Tryd.zeroValue223
  i39 := by kernel_rfl
  t44 := Tryd.underlying235
  a44 := Tryd.isAgg235
  z44 := Tryd.sizeOf235
  v44 := Tryd.zeroValue235
  i44 := by kernel_rfl
  t47 := Tryd.underlying172
  a47 := Tryd.isAgg172
  z47 := Tryd.sizeOf172
  v47 := Tryd.zeroValue172
  i47 := by kernel_rfl
  t48 := Tryd.underlying248
  a48 := Tryd.isAgg248
  z48 := Tryd.sizeOf248
  v48 := Tryd.zeroValue248
  i48 := by kernel_rfl
  t50 := Tryd.underlying250
  a50 := Tryd.isAgg250
  z50 := Tryd.sizeOf250
  v50 := Tryd.zeroValue250
  i50 := by kernel_rfl
  t52 := Tryd.underlying190
  a52 := Tryd.isAgg190
  z52 := Tryd.sizeOf190
  v52 := Tryd.zeroValue190
  i52 := by kernel_rfl
  t55 := Tryd.underlying193
  a55 := Tryd.isAgg193
  z55 := Tryd.sizeOf193
  v55 := Tryd.zeroValue193
  i55 := by kernel_rfl
  t59 := Tryd.underlying212
  a59 := Tryd.isAgg212
  z59 := Tryd.sizeOf212
  v59 := Tryd.zeroValue212
  i59 := by kernel_rfl
  t60 := Tryd.underlying213
  a60 := Tryd.isAgg213
  z60 := Tryd.sizeOf213
  v60 := Tryd.zeroValue213
  i60 := by kernel_rfl
  t61 := Tryd.underlying214
  a61 := Tryd.isAgg214
  z61 := Tryd.sizeOf214
  t65 := Tryd.underlying241
  a65 := Tryd.isAgg241
  z65 := Tryd.sizeOf241
  v65 := Tryd.zeroValue241
  i65 := by kernel_rfl
  t66 := Tryd.underlying240
  a66 := Tryd.isAgg240
  z66 := Tryd.sizeOf240
  v66 := Tryd.zeroValue240
  i66 := by kernel_rfl
  t67 := Tryd.underlying135
  a67 := Tryd.isAgg135
  z67 := Tryd.sizeOf135
  v67 := Tryd.zeroValue135
  i67 := by kernel_rfl
  g0 := by kernel_rfl
  m0 := by kernel_rfl
  g1 := by kernel_rfl
  m1 := by kernel_rfl
  g2 := by kernel_rfl
  m2 := by kernel_rfl
  g3 := by kernel_rfl
  m3 := by kernel_rfl
  g4 := by kernel_rfl
  m4 := by kernel_rfl }
def Tryd.laysM146_ren : Go.Shelf.Ren := ⟨fun | 146 => 47 | 221 => 91 | 268 => 120 | 138 => 121 | 143 => 122 | 195 => 145 | 197 => 146 | 218 => 147 | 219 => 148 | 260 => 164 | 217 => 126 | 225 => 165 | 224 => 166 | 267 => 167 | 266 => 156 | 314 => 175 | n => n, fun | 9 => 9 | 31 => 29 | 3 => 3 | 4 => 4 | 0 => 0 | 105 => 218 | 21 => 21 | 5 => 5 | 46 => 64 | 119 => 242 | 139 => 245 | 138 => 244 | 146 => 246 | 51 => 213 | n => n, fun | 1 => 1 | 3 => 6 | 4 => 7 | n => n⟩
theorem Tryd.laysM146 : Go.Proofs.LaysM.n146 Tryd.prog Tryd.laysM146_ren := {
  mixed := by kernel_rfl
  f138 := Tryd.func121.trans (congrArg some (by kernel_rfl))
  f143 := Tryd.func122.trans (congrArg some (by kernel_rfl))
  f146 := Tryd.func47.trans (congrArg some (by kernel_rfl))
  f195 := Tryd.func145.trans (congrArg some (by kernel_rfl))
  f197 := Tryd.func146.trans (congrArg some (by kernel_rfl))
  f217 := Tryd.func126.trans (congrArg some (by kernel_rfl))
  f218 := Tryd.func147.trans (congrArg some (by kernel_rfl))
  f219 := Tryd.func148.trans (congrArg some (by kernel_rfl))
  f221 := Tryd.func91.trans (congrArg some (by kernel_rfl))
  f224 := Tryd.func166.trans (congrArg some (by kernel_rfl))
  f225 := Tryd.func165.trans (congrArg some (by kernel_rfl))
  f260 := Tryd.func164.trans (congrArg some (by kernel_rfl))
  f266 := Tryd.func156.trans (congrArg some (by kernel_rfl))
  f267 := Tryd.func167.trans (congrArg some (by kernel_rfl))
  f268 := Tryd.func120.trans (congrArg some (by kernel_rfl))
  f314 := Tryd.func175.trans (congrArg some (by kernel_rfl))
  t0 := Tryd.underlying0
  a0 := Tryd.isAgg0
  z0 := Tryd.sizeOf0
  v0 := Tryd.zeroValue0
  t3 := Tryd.underlying3
  a3 := Tryd.isAgg3
  z3 := Tryd.sizeOf3
  v3 := Tryd.zeroValue3
  t4 := Tryd.underlying4
  a4 := Tryd.isAgg4
  z4 := Tryd.sizeOf4
  v4 := Tryd.zeroValue4
  t5 := Tryd.underlying5
  a5 := Tryd.isAgg5
  z5 := Tryd.sizeOf5
  v5 := Tryd.zeroValue5
  t9 := Tryd.underlying9
  a9 := Tryd.isAgg9
  z9 := Tryd.sizeOf9
  v9 := Tryd.zeroValue9
  t21 := Tryd.underlying21
  a21 := Tryd.isAgg21
  z21 := Tryd.sizeOf21
  v21 := Tryd.zeroValue21
  t31 := Tryd.underlying29
  a31 := Tryd.isAgg29
  z31 := Tryd.sizeOf29
  v31 := Tryd.zeroValue29
  t46 := Tryd.underlying64
  a46 := Tryd.isAgg64
  z46 := Tryd.sizeOf64
  v46 := Tryd.zeroValue64
  t51 := Tryd.underlying213
  a51 := Tryd.isAgg213
  z51 := Tryd.sizeOf213
  v51 := Tryd.zeroValue213
  t105 := Tryd.underlying218
  a105 := Tryd.isAgg218
  z105 := Tryd.sizeOf218
  v105 := Tryd.zeroValue218
  t119 := Tryd.underlying242
  a119 := Tryd.isAgg242
  z119 := Tryd.sizeOf242
  t138 := Tryd.underlying244
  a138 := Tryd.isAgg244
  z138 := Tryd.sizeOf244
  v138 := Tryd.zeroValue244
  t139 := Tryd.underlying245
  a139 := Tryd.isAgg245
  z139 := Tryd.sizeOf245
  v139 := Tryd.zeroValue245
  t146 := Tryd.underlying246
  a146 := Tryd.isAgg246
  z146 := Tryd.sizeOf246
  v146 := Tryd.zeroValue246
  g1 := by kernel_rfl
  g3 := by kernel_rfl
  g4 := by kernel_rfl
  i0 := by kernel_rfl
  i3 := by kernel_rfl
  i4 := by kernel_rfl
  i5 := by kernel_rfl
  i9 := by kernel_rfl
  i21 := by kernel_rfl
  i31 := by kernel_rfl
  i46 := by kernel_rfl
  i51 := by kernel_rfl
  i105 := by kernel_rfl
  i138 := by kernel_rfl
  i139 := by kernel_rfl
  i146 := by kernel_rfl
  m1 := by kernel_rfl
  s1_3 := fun w h => Go.Proofs.cell_of_shapedOpen_int (zero := #[.int .i64 0]) (t := 3) h (of_decide_eq_true (by kernel_rfl)) (by kernel_rfl) rfl (by kernel_rfl) (by kernel_rfl) Tryd.underlying3
  m3 := by kernel_rfl
  m4 := by kernel_rfl }

end Go.Proofs
namespace Go.Proofs.YtkfhljombjmdbaaDoor
open Go Go.Ab Go.RowKit Go.Sort
set_option maxRecDepth 20000
theorem strings_Join_ev {xs : List ByteArray} {sep r : ByteArray} (h : strings_Join_s xs sep = some r) : PureEv Tryd.prog 45 [.sl false 1 (List.map avS xs), .str sep] (.str r) :=
  join_gen Tryd.lays156 Tryd.Builder_Extra_156 h

set_option maxRecDepth 100000 in
theorem format_small (i : Nat) (hi : i < 100) (w : World) :
    Calls Tryd.prog 89 #[.int .u64 i, .int .i64 10] w fun e w' => e = .returned (.string ⟨(Lib.decDigits i).toArray⟩) ∧ w' = w := by
  go_enter Tryd.func89, Tryd.ntmps89
  go_wp2_with (go_at_call 115; refine (Tryd.internal_strconv_small i hi _).mono ?_; rintro e w' ⟨rfl, rfl⟩)
  go_ret
  exact ⟨rfl, rfl⟩

set_option maxHeartbeats 6400000 in
set_option maxRecDepth 100000 in
theorem format_big (u : Nat) (hu : 100 ≤ u) (hu64 : u < 18446744073709551616) (w : World) (htab : ∀ nm, Tryd.prog.globalNamed nm = some 0 → Lib.TabIs Tryd.prog w nm .u64 Lib.pow10Tab) :
    Calls Tryd.prog 89 #[.int .u64 u, .int .i64 10] w fun e w' => e = .returned (.string ⟨(Lib.decDigits u).toArray⟩) ∧ Below w.heap.size w w' := by
  have hu1 : 1 ≤ u := by omega
  have hnd20 : Lib.nDigits u ≤ 20 := by have := Lib.numDigits_eq u hu1 hu64; split at this <;> omega
  have hal : Tryd.prog.arrayLen 190 = 24 := by simp [Program.arrayLen, Tryd.underlying190]
  have hsl : ∀ W, (Instr.sliceAt 190 (.pointer (some ⟨w.heap.size, 0, none⟩)) none (some (.int .i64 (Lib.nDigits u : Int))) none).run Tryd.prog W = .ok (.slice (some ⟨w.heap.size, 0, none⟩) (Lib.nDigits u) 24) W := fun W => by
    rw [run_sliceAt_array_h W 190 ⟨w.heap.size, 0, none⟩ (by simp [Program.arrayLen, Program.elem, Tryd.underlying190]) .i64 (Lib.nDigits u : Int) (by omega) (by rw [hal]; omega)]
    go_simp
  have hH0 := Lib.holds_zero0 w 190 (Lib.nDigits u) (by omega)
  have hfmt := Go.Proofs.Any.internal_strconv_formatBase10 Tryd.lays285 w.heap.size 0 24 u (Array.replicate (Lib.nDigits u) 0) (w.alloc (.cells Lib.zeros24 190)) hH0 (by rw [Array.size_replicate]; exact Lib.lt_pow_nDigits u) hu64 (by rw [Array.size_replicate]; omega)
  rw [Array.size_replicate] at hfmt
  have HH0 := Lib.hid hH0
  have iu : (100 : Int) ≤ (u : Int) := by omega
  have htab0 := fun nm h => Lib.tabIs_alloc (htab nm h) (.cells Lib.zeros24 190)
  have hnum := Go.Proofs.Any.internal_strconv_numDigits Tryd.laysM284 u hu1 hu64 (w.alloc (.cells Lib.zeros24 190)) (htab0 _ (by kernel_rfl))
  clear hH0 hal htab0 htab
  go_enter Tryd.func89, Tryd.ntmps89
  go_wp2_with (go_at_call 116; refine hnum.mono ?_; rintro e w' ⟨rfl, rfl⟩)
  go_at_call 117
  refine hfmt.mono ?_
  rintro e w' ⟨rfl, k, v', dk, rfl, hF⟩
  have hcv : (convert 49 9 (.slice (some ⟨w.heap.size, 0, none⟩) (Lib.nDigits u) 24)).run Tryd.prog ((putRow (fun (b : UInt8) => Value.int .u8 (b.toNat : Int)) (w.alloc (.cells Lib.zeros24 190)) w.heap.size 0 dk).drewN k) = .ok (.string ⟨(Lib.decDigits u).toArray⟩) ((putRow (fun (b : UInt8) => Value.int .u8 (b.toNat : Int)) (w.alloc (.cells Lib.zeros24 190)) w.heap.size 0 dk).drewN k) := by
    have h := run_convert_bytes_back (P := Tryd.prog) ((putRow (fun (b : UInt8) => Value.int .u8 (b.toNat : Int)) (w.alloc (.cells Lib.zeros24 190)) w.heap.size 0 dk).drewN k) 49 9 5 ⟨w.heap.size, 0, none⟩ 24 (Lib.decDigits u) Tryd.underlying49 Tryd.underlying5 Tryd.underlying9 (fun j hj => by
      rw [Lib.row_is_numeral hF j hj, Lib.add_plain, World.cell?_drewN]
      exact cell?_putRow (fun (b : UInt8) => Value.int .u8 (b.toNat : Int)) _ w.heap.size 0 _ dk HH0.out (by rw [hF.size, Array.size_replicate]) j (by rw [hF.size]; rw [Lib.decDigits_length] at hj; exact hj))
    rw [Lib.decDigits_length] at h
    exact h
  go_wp2
  go_ret
  obtain ⟨os, eo⟩ := Lib.fin_at w (.cells Lib.zeros24 190) dk k 0
  refine ⟨rfl, ?_⟩
  have hb : Below w.heap.size w ((putRow (fun (b : UInt8) => Value.int .u8 (b.toNat : Int)) (w.alloc (.cells Lib.zeros24 190)) w.heap.size 0 dk).drewN k) := by rw [eo]; exact Lib.below_grow w.heap.size w (Nat.le_refl _) k os
  exact hb

def internal_strconv_FormatUint_s (n base : Int) : Option ByteArray :=
  if base = 10 ∧ 0 ≤ n ∧ n < 18446744073709551616 then some ⟨(digs 19 n.toNat).toArray⟩ else none

theorem pow_tab : Lib.pow10Tab = pow10T := by decide +kernel

theorem internal_strconv_FormatUint_ev {n base : Int} {r : ByteArray} (h : internal_strconv_FormatUint_s n base = some r) :
    PureEv Tryd.prog 89 [.int .u64 n, .int .i64 base] (.str r) := by
  unfold internal_strconv_FormatUint_s at h
  split at h
  · rename_i hl
    obtain ⟨h2, h0, h1⟩ := hl
    have h3 : ((n.toNat : Nat) : Int) = n := by omega
    have hr := Option.some.inj h
    rw [digs_eq 19 n.toNat (by omega)] at hr
    intro g w vals hw hv
    obtain ⟨u, v, rfl, hu, hw2⟩ := vals_two hv
    cases hu; cases hw2
    by_cases hs : n.toNat < 100
    · have F := format_small n.toNat hs w
      rw [hr, h3, ← h2] at F
      refine F.mono fun e w' ⟨he, hb⟩ => ?_
      subst hb
      exact ⟨_, g, he, Gh.le.refl _ _, hw, .str⟩
    · have F := format_big n.toNat (by omega) (by omega) w (fun nm hn => by rw [pow_tab]; exact hw.tabIs hn rfl)
      rw [hr, h3, ← h2] at F
      exact F.mono fun e w' ⟨he, hb⟩ => ⟨_, g, he, Gh.le.refl _ _, hw.below hb, .str⟩
  · exact absurd h (by simp)

theorem strings_Split_ev {s sep : ByteArray} {r : List ByteArray} (h : strings_Split_s s sep = some r) : PureEv Tryd.prog 47 [.str s, .str sep] (.sl false 1 (List.map avS r)) :=
  split_gen h (b := 1) rfl rfl { Tryd.laysM146 with } Tryd.laysM146.i9
theorem strings_CutPrefix_ev {s p : ByteArray} {r : ByteArray × Bool} (h : strings_CutPrefix_s s p = some r) : PureEv Tryd.prog 92 [.str s, .str p] (.tup [.str r.1, .bool r.2]) :=
  cutPrefix_gen h Tryd.lays103
theorem strconv_ParseUint_ev {s : ByteArray} {base bits : Int} {r : Int × Bool} (h : strconv_ParseUint_s s base bits = some r) : PureEv Tryd.prog 93 [.str s, .int .i64 base, .int .i64 bits] (.tup [.int .u64 r.1, avE 223 r.2]) :=
  parseUint_gen h (b0 := 2) (b1 := 3) rfl rfl rfl rfl rfl Tryd.laysPu14
end Go.Proofs.YtkfhljombjmdbaaDoor

/- The library's functions that the texts' laws reach besides: strings.IndexByte; strings.Split whose list is owned; slices.DeleteFunc of what is empty. -/
namespace Go.Ab
open Go.RowKit
/-- An object's cells are written anew, all at once. -/
theorem WRel.row {g σ} {w w' : World} (h : WRel g σ w) {o ver ver' : Nat} {cs cs' : List AV} (e : σ o = .arr ver cs) (hv : ver < ver') (hlen : cs'.length ≤ (g.L o).cap)
    (hb : Below g.B0 w w') (hsz : w.heap.size ≤ w'.heap.size)
    (hother : ∀ b x, (b ≠ (g.L o).b ∨ x < (g.L o).off ∨ (g.L o).off + (g.L o).cap ≤ x) → w'.cell? ⟨b, x, none⟩ = w.cell? ⟨b, x, none⟩)
    (hfr : ∀ a, w'.frozen? a = w.frozen? a)
    (hin : ∀ j, j < (g.L o).cap → ∃ v, w'.cell? ⟨(g.L o).b, (g.L o).off + j, none⟩ = some v ∧ ∀ hj : j < cs'.length, VR g.pm g.L σ (cs'[j]) v) :
    WRel g (upd σ o (.arr ver' cs')) w' ∧ g.le σ g (upd σ o (.arr ver' cs')) := by
  have k := h.ob o ver cs e
  have hext : Ext g.pm g.L σ g.pm g.L (upd σ o (.arr ver' cs')) := ⟨fun _ _ _ e => e, fun i => by
    by_cases hi : i = o
    · subst hi; simp [e, ObExt, hv]
    · simp [upd_ne _ _ hi]; exact ObExt.refl _ _⟩
  have out : ∀ b x, (∀ j, j < (g.L o).cap → ¬ (b = (g.L o).b ∧ x = (g.L o).off + j)) → w'.cell? ⟨b, x, none⟩ = w.cell? ⟨b, x, none⟩ := fun b x hn => by
    apply hother
    by_cases h1 : b = (g.L o).b
    · by_cases h2 : x < (g.L o).off
      · exact .inr (.inl h2)
      · by_cases h3 : (g.L o).off + (g.L o).cap ≤ x
        · exact .inr (.inr h3)
        · exact absurd ⟨h1, by omega⟩ (hn (x - (g.L o).off) (by omega))
    · exact .inl h1
  refine ⟨⟨fun b x v ev => ?_, fun b x v ev => ?_, fun b x v ev => by rw [hfr]; exact h.tmf _ _ _ ev, h.disj, h.low.trans hb, Nat.le_trans h.B0 hsz, h.tab, fun i v1 c1 e1 => ?_, fun i i' v1 v2 c1 c2 e1 e2 hne => ?_⟩, ⟨hext, rfl, rfl, rfl⟩⟩
  · rw [out b x (fun j hj hh => by obtain ⟨rfl, rfl⟩ := hh; rw [k.pm j hj] at ev; cases ev)]
    exact h.pm _ _ _ ev
  · rw [out b x (fun j hj hh => by obtain ⟨rfl, rfl⟩ := hh; rw [k.tm j hj] at ev; cases ev)]
    exact h.tm _ _ _ ev
  · by_cases hi : i = o
    · subst hi
      simp at e1
      obtain ⟨rfl, rfl⟩ := e1
      refine ⟨k.low, hlen, fun m hm => ?_, fun m hm => by rw [hfr]; exact k.free m hm, k.pm, k.tm⟩
      obtain ⟨v, hv1, hv2⟩ := hin m hm
      exact ⟨v, hv1, fun hj => (hv2 hj).mono hext⟩
    · rw [upd_ne _ _ hi] at e1
      have k' := h.ob i _ _ e1
      refine ⟨k'.low, k'.len, fun m hm => ?_, fun m hm => by rw [hfr]; exact k'.free m hm, k'.pm, k'.tm⟩
      obtain ⟨u, hu, hr⟩ := k'.there m hm
      refine ⟨u, ?_, fun hj => (hr hj).mono hext⟩
      rw [out _ _ (fun j hj hh => ?_)]
      · exact hu
      · exact h.sep i o _ _ _ _ e1 e hi hh.1 m j hm hj hh.2
  · have a1 : ∃ v c, σ i = .arr v c := by
      by_cases hi : i = o
      · exact ⟨_, _, hi ▸ e⟩
      · rw [upd_ne _ _ hi] at e1; exact ⟨_, _, e1⟩
    have a2 : ∃ v c, σ i' = .arr v c := by
      by_cases hi : i' = o
      · exact ⟨_, _, hi ▸ e⟩
      · rw [upd_ne _ _ hi] at e2; exact ⟨_, _, e2⟩
    obtain ⟨_, _, a1⟩ := a1
    obtain ⟨_, _, a2⟩ := a2
    exact h.sep i i' _ _ _ _ a1 a2 hne
end Go.Ab
namespace Go.Proofs
open Go.Shelf
def Tryd.lays137_ren : Go.Shelf.Ren := ⟨fun | 137 => 96 | 217 => 126 | 266 => 156 | n => n, fun | 9 => 9 | 5 => 5 | 3 => 3 | n => n, fun | n => n⟩
theorem Tryd.lays137 : Go.Proofs.Lays.n137 Tryd.prog Tryd.lays137_ren := {
  mixed := by kernel_rfl
  f137 := Tryd.func96.trans (congrArg some (by kernel_rfl))
  f217 := Tryd.func126.trans (congrArg some (by kernel_rfl))
  f266 := Tryd.func156.trans (congrArg some (by kernel_rfl))
  t3 := Tryd.underlying3
  a3 := Tryd.isAgg3
  z3 := Tryd.sizeOf3
  v3 := Tryd.zeroValue3
  t5 := Tryd.underlying5
  a5 := Tryd.isAgg5
  z5 := Tryd.sizeOf5
  v5 := Tryd.zeroValue5
  t9 := Tryd.underlying9
  a9 := Tryd.isAgg9
  z9 := Tryd.sizeOf9
  v9 := Tryd.zeroValue9 }

def Tryd.laysDf_ren : Go.Shelf.Ren := ⟨fun | 6 => 94 | 10 => 53 | n => n, fun | 0 => 0 | 3 => 3 | 4 => 4 | 22 => 29 | 23 => 9 | 25 => 45 | n => n, fun | n => n⟩
theorem Tryd.laysDf : SlLaysH.n10 Tryd.prog Tryd.laysDf_ren := {
  mixed := by kernel_rfl
  f6 := ⟨"slices.IndexFunc[[]string,string]", by kernel_rfl, Tryd.func94.trans (congrArg some (by kernel_rfl))⟩
  f10 := ⟨"slices.DeleteFunc[[]string,string]", by kernel_rfl, Tryd.func53.trans (congrArg some (by kernel_rfl))⟩
  t0 := Tryd.underlying0
  a0 := Tryd.isAgg0
  z0 := Tryd.sizeOf0
  v0 := Tryd.zeroValue0
  t3 := Tryd.underlying3
  a3 := Tryd.isAgg3
  z3 := Tryd.sizeOf3
  v3 := Tryd.zeroValue3
  t4 := Tryd.underlying4
  a4 := Tryd.isAgg4
  z4 := Tryd.sizeOf4
  v4 := Tryd.zeroValue4
  t22 := Tryd.underlying29
  a22 := Tryd.isAgg29
  z22 := Tryd.sizeOf29
  v22 := Tryd.zeroValue29
  a23 := Tryd.isAgg9
  z23 := Tryd.sizeOf9
  t25 := Tryd.underlying45
  a25 := Tryd.isAgg45
  z25 := Tryd.sizeOf45
  v25 := Tryd.zeroValue45 }
open Go.RowKit Go.Lib Go.Sort
def emptyS (s : ByteArray) : Bool := s.toList == (ByteArray.mk #[]).toList
theorem gives54 (s : ByteArray) (W : World) : FnGives Tryd.prog 54 #[] #[.string s] (.bool (emptyS s)) W := by
  show Calls Tryd.prog 54 #[.string s] W _
  go_enter Tryd.func54, Tryd.ntmps54
  go_wp2
  all_goals (go_ret; exact ⟨by simp_all [emptyS], 0, rfl⟩)
end Go.Proofs
namespace Go.Proofs.YtkfhljombjmdbaaDoor
open Go Go.Ab Go.RowKit Go.Shelf
set_option maxRecDepth 20000
set_option linter.unusedVariables false
set_option linter.unusedSimpArgs false
theorem encI (k : IntKind) : Go.Ab.Enc (Go.Ab.avI k) none := Go.Ab.encI k
theorem flat_str (xs : List ByteArray) : flat avS xs = xs.map AV.str := by
  induction xs with
  | nil => rfl
  | cons x r ih => rw [flat_cons, ih]; rfl
def delE (xs : List ByteArray) : List ByteArray := xs.filter fun s => !emptyS s
theorem enters54 : ∀ args w, (callFunc 54 args).run Tryd.prog w = .ok (.enter 54 args) w := enters_of Tryd.func54 (by kernel_rfl) rfl
theorem slices_DeleteFunc_0_ev {xs : List ByteArray} (hx : xs ≠ []) (hl : xs.length ≤ 9223372036854775807) {ver : Nat} : Ev Tryd.prog 53 [.ref 0 ver 0 xs.length none, .fn (.func 54) [] []] (hp [.arr ver (flat avS xs)]) (.ref 0 (ver + 1) 0 (delE xs).length none) (hp [.arr (ver + 1) (flat avS (delE xs))]) := by
  intro g w vals hw hv
  obtain ⟨u, v, rfl, hu, hv⟩ := vals_two hv
  have hlen : 0 < xs.length := List.length_pos_iff.2 hx
  obtain ⟨f, fs, cs0, rfl, hfs, hcs⟩ : ∃ f fs cs0, v = .func f fs cs0 ∧ fs.size = 0 ∧ cs0.size = 0 ∧ f = .func 54 := by
    cases hv with | fn a b c d => exact ⟨_, _, _, rfl, by simpa using a, by simpa using b, rfl⟩
  obtain ⟨hcs, rfl⟩ := hcs
  obtain rfl : fs = #[] := Array.eq_empty_of_size_eq_zero hfs
  obtain rfl : cs0 = #[] := Array.eq_empty_of_size_eq_zero hcs
  generalize hn : xs.length = n at hu
  cases hu with
  | refnil _ => omega
  | @ref _ _ _ _ _ a cap hn2 hs h =>
    have ho : hp [.arr ver (flat avS xs)] 0 = .arr ver (flat avS xs) := rfl
    simp only [RefOK, ho] at h
    obtain ⟨_, h⟩ := h
    obtain ⟨ha, hb1, hb2, hb3⟩ := h trivial
    have k := hw.ob 0 ver _ ho
    have hfl : (flat avS xs).length = xs.length := by rw [encS.length]; simp [szOf]
    have hlc : xs.length ≤ (g.L 0).cap := hfl ▸ k.len
    have hat : ∀ j (hj : j < xs.length), w.cell? ⟨(g.L 0).b, (g.L 0).off + j, none⟩ = some (.string xs[j]) := by
      intro j hj
      obtain ⟨v, h1, h2⟩ := k.there j (by omega)
      have h3 := h2 (by omega)
      have : (flat avS xs)[j]'(by omega) = .str xs[j] := by simp only [flat_str, List.getElem_map]
      rw [this] at h3
      cases h3
      exact h1
    have hH : Go.Sort.Holds Value.string w (g.L 0).b (g.L 0).off xs.toArray := fun j hj => by
      have hj' : j < xs.length := by simpa using hj
      refine ⟨?_, k.free j (by omega)⟩
      rw [hat j hj', getElem!_pos xs.toArray j hj]
      simp
    have main := Go.Proofs.AnyE.slices_DeleteFunc Tryd.laysDf Value.string (fun _ => rfl) emptyS 54 #[] enters54 ByteArray.empty Tryd.zeroValue9 (g.L 0).b (g.L 0).off cap xs.toArray w
      (fun W x _ => gives54 x W) (fun n os dk x _ => gives54 x _) hH (by simpa using hl) (by simp; omega)
    subst hn
    have e1 : (Value.slice (some a) xs.length cap) = .slice (some ⟨(g.L 0).b, (g.L 0).off, none⟩) xs.toArray.size cap := by rw [ha]; simp
    rw [e1]
    refine main.mono fun e w' ⟨he, q, hw'⟩ => ?_
    have hde : (xs.toArray.toList.filter fun x => !emptyS x) = delE xs := by simp [delE]
    rw [hde] at he hw'
    have hdl : (delE xs).length ≤ xs.length := List.length_filter_le _ _
    generalize hys : ((delE xs) ++ List.replicate (xs.toArray.size - (delE xs).length) ByteArray.empty).toArray = ys at hw'
    have hysz : ys.size = xs.length := by rw [← hys]; simp; omega
    have hH' : Go.Sort.Holds Value.string (Go.Sort.ahead w q) (g.L 0).b (g.L 0).off xs.toArray := hH
    have hB : (g.L 0).b < w.heap.size := k.lt (by omega)
    have hbel : Below g.B0 w w' := by
      subst hw'
      refine ⟨rfl, rfl, rfl, by simp [Go.Sort.ahead], fun i hi => ?_⟩
      have : (g.L 0).b ≠ i := by have := k.low; omega
      simp [Go.Sort.putRow, Go.Sort.mapBlock, Array.getElem?_modify, this, Go.Sort.ahead]
    obtain ⟨r1, r2⟩ := hw.row ho (ver' := ver + 1) (cs' := flat avS (delE xs)) (by omega) (by rw [encS.length]; simp [szOf]; omega) hbel (by subst hw'; simp [Go.Sort.ahead])
      (fun b x hne => by subst hw'; rw [Go.Sort.cell?_putRow_other]; · rfl
                         · simp only; rw [hysz]; omega)
      (fun a => by subst hw'; rw [Go.Sort.frozen?_putRow]; rfl)
      (fun j hj => by
        by_cases hjx : j < xs.length
        · refine ⟨_, by subst hw'; exact Go.Sort.cell?_putRow _ _ _ _ _ _ hH' (by simp [hysz]) j (by omega), fun hj2 => ?_⟩
          have hj3 : j < (delE xs).length := by rw [encS.length] at hj2; simpa [szOf] using hj2
          have e3 : (flat avS (delE xs))[j] = .str ((delE xs)[j]) := by simp only [flat_str, List.getElem_map]
          rw [e3]
          have e4 : ys[j]! = (delE xs)[j] := by rw [getElem!_pos ys j (by omega)]; subst hys; simp [List.getElem_append_left, hj3]
          rw [e4]
          exact .str
        · obtain ⟨v, h1, _⟩ := k.there j hj
          refine ⟨v, ?_, fun hj2 => by rw [encS.length] at hj2; simp [szOf] at hj2; omega⟩
          subst hw'
          rw [Go.Sort.cell?_putRow_other]
          · exact h1
          · simp only; rw [hysz]; omega)
    have hup : upd (hp [.arr ver (flat avS xs)]) 0 (.arr (ver + 1) (flat avS (delE xs))) = hp [.arr (ver + 1) (flat avS (delE xs))] := by
      funext i
      match i with
      | 0 => rfl
      | i + 1 => rfl
    rw [hup] at r1 r2
    refine ⟨_, g, he, r2, r1, ?_⟩
    refine .ref (by omega) rfl ?_
    show RefOK _ _ _ _ _ _ _ _ _
    have ho' : hp [.arr (ver + 1) (flat avS (delE xs))] 0 = .arr (ver + 1) (flat avS (delE xs)) := rfl
    simp only [RefOK, ho']
    refine ⟨Nat.le_refl _, fun _ => ⟨rfl, ?_, by omega, ?_⟩⟩
    · rw [encS.length]; simp [szOf]
    · simpa using hb3

theorem strings_Split_o_ev {s sep : ByteArray} {r : List ByteArray} (h : strings_Split_s s sep = some r) : Ev Tryd.prog 47 [.str s, .str sep] (hp []) (.ref 0 0 0 r.length none) (hp [.arr 0 (flat avS r)]) := by
  unfold strings_Split_s at h
  split at h
  case isFalse => cases h
  rename_i hl
  cases h
  intro g w vals hw hv
  obtain ⟨u, v, rfl, hu, hw2⟩ := vals_two hv
  cases hu; cases hw2
  obtain ⟨cs, ⟨m, hm⟩, hc⟩ := hw.tabCell (b := 1) rfl
  refine (Go.Proofs.Any.strings_Split { Tryd.laysM146 with } Tryd.laysM146.i9 s sep m w hl.1 (hc _ hm) hl.2).mono fun e w' ⟨he, hw'⟩ => ?_
  have hlen := Lib.splitB_all sep hl.2 0 _ s rfl
  generalize Lib.splitB sep 0 (Lib.countB s sep) s = xs at he hw' hlen ⊢
  have hno : hp [] 0 = .virgin := rfl
  obtain ⟨k1, k2⟩ := hw.alloc_ob (o := 0) (ver := 0) (xs.map Value.string).toArray 9 (flat avS xs) (by rw [hno]; exact True.intro) (by simp [flat_str]) (fun j hj hj' => by
    simp only [flat_str, List.getElem_map]
    simp
    exact .str)
  have hup : upd (hp []) 0 (.arr 0 (flat avS xs)) = hp [.arr 0 (flat avS xs)] := by
    funext i
    match i with
    | 0 => rfl
    | i + 1 => rfl
  rw [hup] at k1 k2
  subst hw'
  refine ⟨_, _, he, k2, k1, ?_⟩
  rw [← hlen]
  refine .ref (Nat.le_refl _) rfl ?_
  have ho' : hp [.arr 0 (flat avS xs)] 0 = .arr 0 (flat avS xs) := rfl
  simp only [RefOK, ho']
  refine ⟨Nat.le_refl _, fun _ => ⟨by simp [upd_same], by rw [encS.length]; simp [szOf], Nat.le_refl _, by simp [upd_same, szOf]⟩⟩
def strings_IndexByte_s (s : ByteArray) (c : Int) : Option Int := some (Lib.indexByte s.data.toList c.toNat.toUInt8)
theorem strings_IndexByte_ev {s : ByteArray} {c r : Int} (h : strings_IndexByte_s s c = some r) : PureEv Tryd.prog 96 [.str s, .int .u8 c] (.int .i64 r) := by
  cases h
  intro g w vals hw hv
  obtain ⟨u, v, rfl, hu, hw2⟩ := vals_two hv
  cases hu; cases hw2
  refine (Go.Proofs.Any.strings_IndexByte Tryd.lays137 s c w).mono fun e w' ⟨he, hw'⟩ => ?_
  subst hw'
  exact ⟨_, g, he, Gh.le.refl _ _, hw, .int⟩
end Go.Proofs.YtkfhljombjmdbaaDoor
/- strings.Builder, whoever's: WriteString, WriteByte, String: what they hold behind the call, and that all other blocks stand as they stood. -/
namespace Go.Proofs
open Go.Shelf Go.RowKit
variable {P : Program} {ρ : Ren}

/-- A builder in block b: what its second cell holds, and its bytes. -/
structure BS (T e : TypeId) (B b : Nat) (v : Value) (bs : List Value) (w : World) : Prop where
  hB : B ≤ b
  hbk : ∃ p, (p = .pointer none ∨ p = .pointer (some ⟨b, 0, none⟩)) ∧ w.heap[b]? = some (.cells #[p, v] T (0, 0))
  own : w.ownsRow B e 1 v bs.length bs
  ne : v.ownBlock ≠ some b
/-- Only the builder's blocks are written; its row is the old one or a new one. -/
structure BFr (b : Nat) (v v' : Value) (w w' : World) : Prop where
  os : w'.os = w.os
  tape : w'.tape = w.tape
  output : w'.output = w.output
  size : w.heap.size ≤ w'.heap.size
  block : ∀ k, k < w.heap.size → k ≠ b → v.ownBlock ≠ some k → w'.heap[k]? = w.heap[k]?
  own : ∀ k, v'.ownBlock = some k → v.ownBlock = some k ∨ w.heap.size ≤ k
theorem BFr.refl (b v w) : BFr b v v w w := ⟨rfl, rfl, rfl, Nat.le_refl _, fun _ _ _ _ => rfl, fun _ h => .inl h⟩
theorem BS.F {T e B b v bs w} (h : BS T e B b v bs w) : Lib.IsBuilderF T e B b bs w := by
  obtain ⟨p, hp, hb⟩ := h.hbk
  rcases hp with rfl | rfl
  · exact .inl ⟨h.hB, v, hb, World.ownsRowF_of h.own, h.ne⟩
  · exact .inr ⟨h.hB, v, hb, World.ownsRowF_of h.own, h.ne⟩
theorem BS.lt {T e B b v bs w} (h : BS T e B b v bs w) : b < w.heap.size := by
  obtain ⟨p, _, hb⟩ := h.hbk
  exact (Array.getElem?_eq_some_iff.1 hb).1
theorem BS.fresh (T e : TypeId) (w : World) : BS T e w.heap.size w.heap.size (.slice none 0 0) [] (w.alloc (.cells #[.pointer none, .slice none 0 0] T)) :=
  ⟨Nat.le_refl _, ⟨_, .inl rfl, heap_alloc_new w _⟩, ⟨by simp, .inl ⟨rfl, rfl⟩⟩, by simp [Value.ownBlock]⟩
theorem BS.keep {T e B b v bs} {w w' : World} (h : BS T e B b v bs w) (k : Below w.heap.size w w') : BS T e B b v bs w' := by
  obtain ⟨p, hp, hb⟩ := h.hbk
  refine ⟨h.hB, ⟨p, hp, by rw [k.block b h.lt]; exact hb⟩, ?_, h.ne⟩
  exact h.own.kept (row := none) ⟨k.os, k.tape, k.output, k.size, fun i hi _ => k.block i hi⟩ (by cases v.ownBlock <;> simp)

/-- A text put behind the row: the row is the old one or a new one. -/
theorem append_str_strong {w : World} (base : Nat) (t u ty e : TypeId) (i : TypeInfo) (ht : P.underlying t = some (.slice e)) (hu : P.underlying u = some .string) (hi : P.info? e = some i) (hz : i.zero = some (.int .u8 0))
    (hsize : i.size = 1) (hby : i.bytes = 1) (v : Value) (n : Nat) (xs : List Value) (hown0 : w.ownsRow base e 1 v n xs) (s : ByteArray)
    (h63 : n + s.size ≤ maxLen) (hbytes : n + s.size ≤ 140737488355328) (hbase : base ≤ w.heap.size) :
    ∃ v' w', (Builtin.append_ #[t, u] ty #[v, .string s]).run P w = .ok v' w' ∧ w'.ownsRow base e 1 v' (n + s.size) (xs ++ Lib.strCells s) ∧ w.grownBy w' v.ownBlock ∧
      (∀ k, v'.ownBlock = some k → v.ownBlock = some k ∨ w.heap.size ≤ k) := by
  have hown := World.ownsRowF_of hown0
  obtain ⟨v', w', hr, h2, h3, h4⟩ := Lib.run_append_own_string (P := P) w base t u ty e i ht hu hi hz hsize hby v n xs hown0 s h63 hbytes hbase
  refine ⟨v', w', hr, h2, h3, fun k hk => ?_⟩
  rcases hown.2 with ⟨rfl, rfl⟩ | ⟨g, cap, cur, fz, rfl, hbg, hg, hfz, hnc, hcm, hcs, htake⟩
  · obtain ⟨v2, w2, hr2, h5, _, _⟩ := Lib.run_append_own_stringF (P := P) w w.heap.size t u ty e i ht hu hi hz hsize hby (.slice none 0 0) 0 xs ⟨hown.1, .inl ⟨rfl, rfl⟩⟩ s h63 hbytes (Nat.le_refl _)
    rw [hr] at hr2
    cases hr2
    exact .inr (h5.lt k hk).1
  · by_cases hroom : n + s.size ≤ cap
    · have hr2 := Lib.run_append_room_stringF (P := P) w t u ty e i ht hu hi hsize g n cap cur fz hg (by simpa using hfz) s hroom (by rw [hcs]; omega)
      rw [hr] at hr2
      cases hr2
      exact .inl hk
    · have hsmall : n + s.size ≤ 9223372036854775807 := by simp only [maxLen] at h63; omega
      have hxl : xs.length = n := by simpa using hown.1
      have holds : ∀ j u, xs[j]? = some u → w.cell? ((⟨g, 0, none⟩ : Addr).add j) = some u := hown.cells (g := g) rfl
      have hr2 := Lib.run_append_grow_string (P := P) w t u ty e i (.int .u8 0) ht hu hi hz ⟨g, 0, none⟩ n cap xs (by rw [hsize]; simpa using hxl) holds s (by omega) (by omega) (by rw [hby]; exact growslice_fits (by omega) (by omega))
      rw [hr] at hr2
      cases hr2
      simp [Value.ownBlock] at hk
      exact .inr (by omega)
theorem append_sl_strong {w : World} (base : Nat) (t ty e : TypeId) (i : TypeInfo) (z : Value) (ht : P.underlying t = some (.slice e)) (hi : P.info? e = some i) (hz : i.zero = some z)
    (hsize : i.size = 1) (hby : i.bytes = 1) (hzs : z.cells.size = 1) (v : Value) (n : Nat) (xs : List Value) (hown0 : w.ownsRow base e 1 v n xs)
    (a : Addr) (m c : Nat) (news : List Value) (hl : news.length = m * 1) (hnews : ∀ j u, news[j]? = some u → w.cell? (a.add j) = some u) (h1 : ∀ u ∈ news, u.oneCell' = true)
    (h63 : n + m ≤ maxLen) (hbytes : (n + m) * 1 ≤ 140737488355328) (hbase : base ≤ w.heap.size) :
    ∃ v' w', (Builtin.append_ #[t, t] ty #[v, .slice (some a) m c]).run P w = .ok v' w' ∧ w'.ownsRow base e 1 v' (n + m) (xs ++ news) ∧ w.grownBy w' v.ownBlock ∧
      (∀ k, v'.ownBlock = some k → v.ownBlock = some k ∨ w.heap.size ≤ k) := by
  have hown := World.ownsRowF_of hown0
  obtain ⟨v', w', hr, h2, h3, h4⟩ := run_append_own (P := P) w base t ty e i z 1 1 ht hi hz hsize hby hzs (by decide) v n xs hown0 a m c news hl hnews h1 h63 hbytes hbase
  refine ⟨v', w', hr, h2, h3, fun k hk => ?_⟩
  rcases hown.2 with ⟨rfl, rfl⟩ | ⟨g, cap, cur, fz, rfl, hbg, hg, hfz, hnc, hcm, hcs, htake⟩
  · obtain ⟨v2, w2, hr2, h5, _, _⟩ := run_append_ownF (P := P) w w.heap.size t ty e i z 1 1 ht hi hz hsize hby hzs (by decide) (.slice none 0 0) 0 xs ⟨hown.1, .inl ⟨rfl, rfl⟩⟩ a m c news hl hnews h1 h63 hbytes (Nat.le_refl _)
    rw [hr] at hr2
    cases hr2
    exact .inr (h5.lt k hk).1
  · by_cases hroom : n + m ≤ cap
    · have hr2 := run_append_roomF (P := P) w t ty e i ht hi g n cap cur fz hg (by rw [hsize]; exact hfz) a m c news (by rw [hsize]; exact hl) hnews h1 hroom (by rw [hsize, hcs]; omega)
      rw [hr] at hr2
      cases hr2
      exact .inl hk
    · have hsmall : n + m ≤ 9223372036854775807 := by simp only [maxLen] at h63; omega
      have holds : ∀ j u, xs[j]? = some u → w.cell? ((⟨g, 0, none⟩ : Addr).add j) = some u := hown.cells (g := g) rfl
      have hr2 := run_append_grow (P := P) w t ty e i z ht hi hz ⟨g, 0, none⟩ n cap xs (by rw [hsize]; exact hown.1) holds a m c news (by rw [hsize]; exact hl) hnews (by omega) (by omega) (by rw [hby]; exact growslice_fits (by omega) hbytes)
      rw [hr] at hr2
      cases hr2
      simp [Value.ownBlock] at hk
      exact .inr (by omega)
theorem wpl_str {w : World} {ops : Array Oper} {rest : List Oper} {o : Oper} {a : Act} {Q : Exit → Act → World → Prop} (hgd : o.guard = none) (sl x : Operand) (t u : TypeId)
    (ho : o.op = .call { callee := .builtin .append, args := #[sl, x], argTypes := #[t, u] })
    (base : Nat) (e : TypeId) (i : TypeInfo) (ht : P.underlying t = some (.slice e)) (hu : P.underlying u = some .string) (hi : P.info? e = some i) (hz : i.zero = some (.int .u8 0))
    (hsize : i.size = 1) (hby : i.bytes = 1) (v : Value) (n : Nat) (xs : List Value) (hs : a.eval sl = v) (hown : w.ownsRow base e 1 v n xs) (s : ByteArray) (hx : a.eval x = .string s)
    (h63 : n + s.size ≤ maxLen) (hbytes : n + s.size ≤ 140737488355328) (hbase : base ≤ w.heap.size)
    (h : ∀ v' w', w'.ownsRow base e 1 v' (n + s.size) (xs ++ Lib.strCells s) → w.grownBy w' v.ownBlock → (∀ k, v'.ownBlock = some k → v.ownBlock = some k ∨ w.heap.size ≤ k) → wpList P ops Q rest (a.put o.dst v') w') : wpList P ops Q (o :: rest) a w := by
  refine wpList_plain hgd fun K hK => ?_
  obtain ⟨v', w', hr, h2, h3, h4⟩ := append_str_strong (P := P) base t u o.type e i ht hu hi hz hsize hby v n xs hown s h63 hbytes hbase
  unfold Oper.wp execOp
  simp only [ho, resolve, invoke, builtin, Sem.run_bind, Sem.run_pure, Result.andThen_ok, List.map_toArray, List.map_cons, List.map_nil, hs, hx, hr]
  exact hK _ _ (h v' w' h2 h3 h4)
theorem wpl_sl {w : World} {ops : Array Oper} {rest : List Oper} {o : Oper} {a : Act} {Q : Exit → Act → World → Prop} (hgd : o.guard = none) (s x : Operand) (t : TypeId)
    (ho : o.op = .call { callee := .builtin .append, args := #[s, x], argTypes := #[t, t] })
    (base : Nat) (e : TypeId) (i : TypeInfo) (z : Value) (ht : P.underlying t = some (.slice e)) (hi : P.info? e = some i) (hz : i.zero = some z)
    (hsize : i.size = 1) (hby : i.bytes = 1) (hzs : z.cells.size = 1) (v : Value) (n : Nat) (xs : List Value) (hs : a.eval s = v) (hown : w.ownsRow base e 1 v n xs)
    (ad : Addr) (m c : Nat) (news : List Value) (hx : a.eval x = .slice (some ad) m c) (hl : news.length = m * 1) (hnews : ∀ j u, news[j]? = some u → w.cell? (ad.add j) = some u) (h1 : ∀ u ∈ news, u.oneCell' = true)
    (h63 : n + m ≤ maxLen) (hbytes : (n + m) * 1 ≤ 140737488355328) (hbase : base ≤ w.heap.size)
    (h : ∀ v' w', w'.ownsRow base e 1 v' (n + m) (xs ++ news) → w.grownBy w' v.ownBlock → (∀ k, v'.ownBlock = some k → v.ownBlock = some k ∨ w.heap.size ≤ k) → wpList P ops Q rest (a.put o.dst v') w') : wpList P ops Q (o :: rest) a w := by
  refine wpList_plain hgd fun K hK => ?_
  obtain ⟨v', w', hr, h2, h3, h4⟩ := append_sl_strong (P := P) base t o.type e i z ht hi hz hsize hby hzs v n xs hown ad m c news hl hnews h1 h63 hbytes hbase
  unfold Oper.wp execOp
  simp only [ho, resolve, invoke, builtin, Sem.run_bind, Sem.run_pure, Result.andThen_ok, List.map_toArray, List.map_cons, List.map_nil, hs, hx, hr]
  exact hK _ _ (h v' w' h2 h3 h4)
/-- The builder's own check: behind it the first cell is its own address. -/
theorem bs_check (L : Lays.n240 P ρ) (X : Builder.X72 P ρ) (B b : Nat) (v : Value) (bs : List Value) (w : World) (h : BS (ρ.t 72) (ρ.t 5) B b v bs w) :
    Calls P (ρ.f 240) #[.pointer (some ⟨b, 0, none⟩)] w fun e w' => e = .returned (.tuple #[]) ∧ w'.heap[b]? = some (.cells #[.pointer (some ⟨b, 0, none⟩), v] (ρ.t 72) (0, 0)) ∧ w'.ownsRow B (ρ.t 5) 1 v bs.length bs ∧ BFr b v v w w' ∧ Below B w w' ∧ w'.heap.size = w.heap.size := by
  obtain ⟨p, hp, hb⟩ := h.hbk
  rcases hp with rfl | rfl
  · have hA : Lib.BuilderAtF (ρ.t 72) (ρ.t 5) B b (.pointer none) bs w := ⟨h.hB, v, hb, World.ownsRowF_of h.own, h.ne⟩
    refine (Any.Builder_copyCheck_fresh L X b w hA.cell0 hA.shape hA.frozen0).mono ?_
    rintro e w' ⟨rfl, rfl⟩
    have hlt := h.lt
    refine ⟨rfl, ?_, ?_, ⟨rfl, rfl, rfl, by simp [World.setCell], fun k _ hk _ => Below.heap_setCell _ _ _ _ (fun e => hk e), fun _ h => .inl h⟩, (Below.refl B w).setCell (p := ⟨b, 0, none⟩) h.hB _, by simp [World.setCell]⟩
    · simp [World.setCell, Array.getElem?_modify, hb]
    · exact h.own.kept (row := some b) ⟨rfl, rfl, rfl, by simp [World.setCell], fun k _ hk => Below.heap_setCell _ _ _ _ (fun e => hk (by simp [e]))⟩ (.inr h.ne)
  · refine (Any.Builder_copyCheck_used L X b w (by rw [Lib.cell_of_heap hb]; rfl)).mono ?_
    rintro e w' ⟨rfl, rfl⟩
    exact ⟨rfl, hb, h.own, .refl _ _ _, Below.refl _ _, rfl⟩
theorem BFr.write {b : Nat} {v v' : Value} {w w1 w2 : World} (h1 : BFr b v v w w1) (hsz : w1.heap.size = w.heap.size) (hg : w1.grownBy w2 v.ownBlock) (ho : ∀ k, v'.ownBlock = some k → v.ownBlock = some k ∨ w1.heap.size ≤ k) (u : Value) (j : Nat) :
    BFr b v v' w (w2.setCell ⟨b, j, none⟩ u) :=
  ⟨hg.os.trans h1.os, hg.tape.trans h1.tape, hg.output.trans h1.output, by simp [World.setCell]; have := hg.size; have := h1.size; omega,
    fun k hk hkb hkv => by
      rw [Below.heap_setCell _ _ _ _ (fun e => hkb e), hg.block k (by omega) (fun e => hkv e.symm), h1.block k hk hkb hkv],
    fun k hk => by rcases ho k hk with h | h; exact .inl h; exact .inr (by omega)⟩
theorem BS.put {T e : TypeId} {B b : Nat} {v v' : Value} {bs' : List Value} {w : World} (hB : B ≤ b) (hb : w.heap[b]? = some (.cells #[.pointer (some ⟨b, 0, none⟩), v] T (0, 0))) (hown : w.ownsRow B e 1 v' bs'.length bs') (hTe : T ≠ e) :
    BS T e B b v' bs' (w.setCell ⟨b, 1, none⟩ v') := by
  have hne := Lib.ownBlock_neF (World.ownsRowF_of hown) hb hTe
  refine ⟨hB, ⟨_, .inr rfl, ?_⟩, ?_, hne⟩
  · simp [World.setCell, Array.getElem?_modify, hb]
  · exact hown.kept (row := some b) ⟨rfl, rfl, rfl, by simp [World.setCell], fun k _ hk => Below.heap_setCell _ _ _ _ (fun e => hk (by simp [e]))⟩ (.inr hne)
set_option maxHeartbeats 2000000 in
set_option maxRecDepth 100000 in
theorem bs_str (L : Lays.n166 P ρ) (X : Builder.Extra P ρ) (B b : Nat) (v : Value) (bs : List Value) (s : ByteArray) (w : World) (h : BS (ρ.t 72) (ρ.t 5) B b v bs w) (hlen : bs.length + s.size ≤ 140737488355328) (hBw : B ≤ w.heap.size) :
    Calls P (ρ.f 166) #[.pointer (some ⟨b, 0, none⟩), .string s] w fun e w' => e = .returned (.tuple #[.int .i64 s.size, .nilIface]) ∧ ∃ v', BS (ρ.t 72) (ρ.t 5) B b v' (bs ++ Lib.strCells s) w' ∧ BFr b v v' w w' := by
  obtain ⟨i0, hi, hz0, hz1, hz2⟩ := info_parts X.infoByte
  have mixed := L.mixed
  have t72 := L.t72; have a72 := L.a72; have z72 := L.z72; have v72 := L.v72; have u72 := run_underlying L.t72
  have t70 := L.t70; have a70 := L.a70; have z70 := L.z70; have v70 := L.v70; have u70 := run_underlying L.t70
  have t37 := L.t37; have a37 := L.a37; have z37 := L.z37; have v37 := L.v37; have u37 := run_underlying L.t37
  have t3 := L.t3; have a3 := L.a3; have z3 := L.z3; have v3 := L.v3; have u3 := run_underlying L.t3
  have t9 := L.t9; have a9 := L.a9; have z9 := L.z9; have v9 := L.v9; have u9 := run_underlying L.t9
  have t4 := L.t4; have a4 := L.a4; have z4 := L.z4; have v4 := L.v4; have u4 := run_underlying L.t4
  have t164 := L.t164; have a164 := L.a164; have z164 := L.z164; have v164 := L.v164; have u164 := run_underlying L.t164
  have t5 := X.t5; have a5 := X.a5; have z5 := X.z5; have v5 := X.v5; have u5 := run_underlying X.t5
  have e240 : ∀ args w, (callFunc (ρ.f 240) args).run P w = .ok (.enter (ρ.f 240) args) w := enters_of L.f240 (by kernel_rfl) rfl
  have hB := h.hB
  go_enter L.f166, Body.n166_ntmps ρ
  go_wp2_with (go_at_fn (ρ.f 240); refine (bs_check { L with } X.toX72 B b v bs _ h).mono ?_)
  rintro e w1 ⟨rfl, hbk, hown, hf1, hb1, hsz⟩
  have Hsz := Any.hidU hsz
  clear hsz
  have c0 : w1.cell? ⟨b, 0, none⟩ = some (.pointer (some ⟨b, 0, none⟩)) := by rw [Lib.cell_of_heap hbk]; rfl
  have c1 : w1.cell? ⟨b, 1, none⟩ = some v := by rw [Lib.cell_of_heap hbk]; rfl
  go_wp2_with (at_builtin; refine wpl_str rfl _ _ (ρ.t 37) (ρ.t 9) rfl B (ρ.t 5) i0 L.t37 L.t9 hi hz0 hz1 hz2 _ _ _ rfl hown s rfl ?c3 ?c4 ?c5 ?_)
  case c3 => unfold maxLen; omega
  case c4 => omega
  case c5 => have := hb1.size; omega
  intro v' w2 hown' hgrow hnew
  have hlt : b < w1.heap.size := (Array.getElem?_eq_some_iff.1 hbk).1
  have hne : v.ownBlock ≠ some b := h.ne
  have hb2 : w2.heap[b]? = some (.cells #[.pointer (some ⟨b, 0, none⟩), v] (ρ.t 72) (0, 0)) := by
    rw [hgrow.block b hlt (fun e => hne e.symm)]
    exact hbk
  have d0 : w2.cell? ⟨b, 0, none⟩ = some (.pointer (some ⟨b, 0, none⟩)) := by rw [Lib.cell_of_heap hb2]; rfl
  have d1 : w2.cell? ⟨b, 1, none⟩ = some v := by rw [Lib.cell_of_heap hb2]; rfl
  have f1 : w2.frozen? ⟨b, 1, none⟩ = false := Lib.frozen_of_heap hb2 1
  obtain ⟨ao, n', cap, rfl⟩ : ∃ ao n' cap, v' = .slice ao n' cap := by
    rcases hown'.2 with ⟨hv, _⟩ | ⟨g, cap, cur, hv, _⟩
    · exact ⟨_, _, _, hv⟩
    · exact ⟨_, _, _, hv⟩
  go_wp2
  go_ret2
  refine ⟨rfl, _, BS.put hB hb2 (bs' := bs ++ Lib.strCells s) (by simpa [Lib.strCells_length] using hown') X.neB5, hf1.write Hsz.out hgrow hnew _ _⟩
set_option maxHeartbeats 2000000 in
set_option maxRecDepth 100000 in
theorem bs_byte (L : Lays.n167 P ρ) (X : Builder.Extra P ρ) (B b : Nat) (v : Value) (bs : List Value) (c : Int) (w : World) (h : BS (ρ.t 72) (ρ.t 5) B b v bs w) (hlen : bs.length + 1 ≤ 140737488355328) (hBw : B ≤ w.heap.size) :
    Calls P (ρ.f 167) #[.pointer (some ⟨b, 0, none⟩), .int .u8 c] w fun e w' => e = .returned .nilIface ∧ ∃ v', BS (ρ.t 72) (ρ.t 5) B b v' (bs ++ [.int .u8 c]) w' ∧ BFr b v v' w w' := by
  obtain ⟨i0, hi, hz0, hz1, hz2⟩ := info_parts X.infoByte
  have mixed := L.mixed
  have t72 := L.t72; have a72 := L.a72; have z72 := L.z72; have v72 := L.v72; have u72 := run_underlying L.t72
  have t70 := L.t70; have a70 := L.a70; have z70 := L.z70; have v70 := L.v70; have u70 := run_underlying L.t70
  have t5 := L.t5; have a5 := L.a5; have z5 := L.z5; have v5 := L.v5; have u5 := run_underlying L.t5
  have t37 := L.t37; have a37 := L.a37; have z37 := L.z37; have v37 := L.v37; have u37 := run_underlying L.t37
  have t9 := L.t9; have a9 := L.a9; have z9 := L.z9; have v9 := L.v9; have u9 := run_underlying L.t9
  have t4 := L.t4; have a4 := L.a4; have z4 := L.z4; have v4 := L.v4; have u4 := run_underlying L.t4
  have t164 := L.t164; have a164 := L.a164; have z164 := L.z164; have v164 := L.v164; have u164 := run_underlying L.t164
  have e240 : ∀ args w, (callFunc (ρ.f 240) args).run P w = .ok (.enter (ρ.f 240) args) w := enters_of L.f240 (by kernel_rfl) rfl
  have hB := h.hB
  go_enter L.f167, Body.n167_ntmps ρ
  go_wp2_with (go_at_fn (ρ.f 240); refine (bs_check { L with } X.toX72 B b v bs _ h).mono ?_)
  rintro e w1 ⟨rfl, hbk, hown, hf1, hb1, hsz⟩
  have Hsz := Any.hidU hsz
  clear hsz
  have c0 : w1.cell? ⟨b, 0, none⟩ = some (.pointer (some ⟨b, 0, none⟩)) := by rw [Lib.cell_of_heap hbk]; rfl
  have c1 : w1.cell? ⟨b, 1, none⟩ = some v := by rw [Lib.cell_of_heap hbk]; rfl
  go_wp2_with (at_builtin; refine wpl_sl rfl _ _ (ρ.t 37) rfl B (ρ.t 5) i0 (.int .u8 0) L.t37 hi hz0 hz1 hz2 rfl _ _ _ rfl (hown.kept (World.grownBy_alloc w1 _ none) (by cases v.ownBlock <;> simp)) ⟨w1.heap.size, 0, none⟩ 1 1 [.int .u8 c] rfl rfl ?c1 ?c2 ?c3 ?c4 ?c5 ?_)
  case c1 =>
    intro j u hj
    match j, hj with
    | 0, hj => simp at hj; subst hj; simp [Addr.add]
  case c2 => intro u hu; simp at hu; subst hu; rfl
  case c3 => unfold maxLen; omega
  case c4 => omega
  case c5 => have := hb1.size; simp; omega
  intro v' w2 hown' hgrow hnew
  have hlt : b < w1.heap.size := (Array.getElem?_eq_some_iff.1 hbk).1
  have hne : v.ownBlock ≠ some b := h.ne
  have hb2 : w2.heap[b]? = some (.cells #[.pointer (some ⟨b, 0, none⟩), v] (ρ.t 72) (0, 0)) := by
    rw [hgrow.block b (by simp; omega) (fun e => hne e.symm), Lib.alloc_old w1 _ b hlt]
    exact hbk
  have d0 : w2.cell? ⟨b, 0, none⟩ = some (.pointer (some ⟨b, 0, none⟩)) := by rw [Lib.cell_of_heap hb2]; rfl
  have d1 : w2.cell? ⟨b, 1, none⟩ = some v := by rw [Lib.cell_of_heap hb2]; rfl
  have f1 : w2.frozen? ⟨b, 1, none⟩ = false := Lib.frozen_of_heap hb2 1
  obtain ⟨g, cap, rfl⟩ : ∃ g cap, v' = .slice (some ⟨g, 0, none⟩) (bs.length + 1) cap := by
    rcases hown'.2 with ⟨_, h0⟩ | ⟨g, cap, cur, hv, _⟩
    · omega
    · exact ⟨g, cap, hv⟩
  have hf2 : w1.grownBy w2 v.ownBlock := ⟨hgrow.os, hgrow.tape, hgrow.output, by have := hgrow.size; simp at this; omega, fun k hk hr => by rw [hgrow.block k (by simp; omega) hr, Lib.alloc_old w1 _ k hk]⟩
  go_wp2
  go_ret
  refine ⟨rfl, _, BS.put hB hb2 (bs' := bs ++ [.int .u8 c]) (by simpa using hown') X.neB5, hf1.write Hsz.out hf2 (fun k hk => ?_) _ _⟩
  rcases hnew k hk with h | h
  · exact .inl h
  · exact .inr (by first | omega | (simp at h; omega) | (have : w1.heap.size ≤ (w1.alloc (.cells #[.int .u8 c] (ρ.t 5))).heap.size := by simp; omega))
end Go.Proofs
/- A builder beside the layer's objects: code between its calls is walked by the layer (its blocks stand as they are), its calls by their contracts. -/
namespace Go.Ab
open Go.RowKit Go.Proofs
set_option linter.unusedVariables false
set_option linter.unusedSimpArgs false

/-- The one object: of no cell; it tells where the builder stands. -/
abbrev OB : List Ob := [.arr 0 []]
theorem hpOB {o ver : Nat} {cs : List AV} (e : hp OB o = .arr ver cs) : o = 0 ∧ ver = 0 ∧ cs = [] := by
  match o, e with
  | 0, e => cases e; exact ⟨rfl, rfl, rfl⟩
  | n + 1, e => exact absurd e (by intro h; cases h)
/-- What lay there at the call's beginning lies below the builder. -/
structure Ent (g0 : Gh) (N0 : Nat) : Prop where
  pm : ∀ k o v, g0.pm k o = some v → k < N0
  tm : ∀ k o v, g0.tm k o = some v → k < N0
  B0 : g0.B0 ≤ N0
structure AtS (T e : TypeId) (g0 : Gh) (N0 n : Nat) (fr : Fr) (acc : List UInt8) (a : Act) (w : World) : Prop where
  df : a.defers = []
  ex : ∃ g v, g0.le noHp g (hp OB) ∧ WRel g (hp OB) w ∧ FRel g (hp OB) n (Fr.get fr) a ∧ g.L 0 = ⟨N0, 0, 0⟩ ∧ BS T e N0 N0 v (Lib.byteCells acc) w ∧ ∀ k o, (k = N0 ∨ v.ownBlock = some k) → g.pm k o = none
section
variable {P : Program} {T e : TypeId} {g0 : Gh} {N0 n : Nat} {fr : Fr} {acc : List UInt8} {a : Act} {w : World}
theorem cell_same {w w' : World} {k o : Nat} (h : w'.heap[k]? = w.heap[k]?) : w'.cell? ⟨k, o, none⟩ = w.cell? ⟨k, o, none⟩ := World.cell?_of_block h
theorem fz_same {w w' : World} {k o : Nat} (h : w'.heap[k]? = w.heap[k]?) : w'.frozen? ⟨k, o, none⟩ = w.frozen? ⟨k, o, none⟩ := World.frozen?_of_block h
theorem _root_.Go.Proofs.BS.ownlt {B b : Nat} {v : Value} {bs : List Value} (h : BS T e B b v bs w) {k : Nat} (hk : k = b ∨ v.ownBlock = some k) : B ≤ k ∧ k < w.heap.size := by
  rcases hk with rfl | hk
  · exact ⟨h.hB, h.lt⟩
  · exact h.own.lt k hk
theorem _root_.Go.Proofs.BS.fz {B b : Nat} {v : Value} {bs : List Value} (h : BS T e B b v bs w) {k : Nat} (hk : k = b ∨ v.ownBlock = some k) (o : Nat) : w.frozen? ⟨k, o, none⟩ = false := by
  rcases hk with rfl | hk
  · obtain ⟨p, _, hb⟩ := h.hbk
    exact Lib.frozen_of_heap hb o
  · rcases h.own.2 with ⟨rfl, _⟩ | ⟨g, cap, cur, rfl, _, hg, _⟩
    · simp [Value.ownBlock] at hk
    · simp [Value.ownBlock] at hk
      subst hk
      exact Lib.frozen_of_heap hg o
theorem AtS.in (he : Ent g0 N0) (h : AtS T e g0 N0 n fr acc a w) : ∃ g1, At g1 (hp OB) n (Fr.get fr) (hp OB) a w ∧ ∀ fr' a' w', At g1 (hp OB) n (Fr.get fr') (hp OB) a' w' → AtS T e g0 N0 n fr' acc a' w' := by
  classical
  obtain ⟨df, g, v, hle, hw, hf, hL, hB, hpm⟩ := h
  let g1 : Gh := { g with B0 := w.heap.size, w0 := w, tm := fun k o => if k = N0 ∨ v.ownBlock = some k then w.cell? ⟨k, o, none⟩ else g.tm k o }
  have hcap : (g.L 0).cap = 0 := by rw [hL]
  have hob : ∀ {g' : Gh} {w' : World} (o ver : Nat) (cs : List AV), hp OB o = .arr ver cs → (g'.L 0).cap = 0 → ObOK g' (hp OB) o cs w' := by
    intro g' w' o ver cs ho hc
    obtain ⟨rfl, rfl, rfl⟩ := hpOB ho
    exact ⟨fun h => absurd h (by omega), Nat.zero_le _, fun j hj => absurd hj (by omega), fun j hj => absurd hj (by omega), fun j hj => absurd hj (by omega), fun j hj => absurd hj (by omega)⟩
  have hsep : ∀ {g' : Gh} (o o' ver ver' : Nat) (cs cs' : List AV), hp OB o = .arr ver cs → hp OB o' = .arr ver' cs' → o ≠ o' → Apart (g'.L o) (g'.L o') := by
    intro g' o o' ver ver' cs cs' h1 h2 hne
    obtain ⟨rfl, _, _⟩ := hpOB h1
    obtain ⟨rfl, _, _⟩ := hpOB h2
    exact absurd rfl hne
  have hw1 : WRel g1 (hp OB) w := by
    refine ⟨hw.pm, fun k o x hx => ?_, fun k o x hx => ?_, fun k o x hx => ?_, Below.refl _ _, Nat.le_refl _, fun bk p hp => ?_, fun o ver cs ho => hob o ver cs ho hcap, fun o o' ver ver' cs cs' => hsep (g' := g1) o o' ver ver' cs cs'⟩
    · by_cases ho : k = N0 ∨ v.ownBlock = some k
      · simpa [g1, ho] using hx
      · exact hw.tm _ _ _ (by simpa [g1, ho] using hx)
    · by_cases ho : k = N0 ∨ v.ownBlock = some k
      · exact hB.fz ho o
      · exact hw.tmf _ _ _ (by simpa [g1, ho] using hx)
    · by_cases ho : k = N0 ∨ v.ownBlock = some k
      · have := hpm k o ho
        have hx' : g.pm k o = some x := hx
        rw [this] at hx'; cases hx'
      · have := hw.disj k o x hx
        simpa [g1, ho] using this
    · obtain ⟨h1, cs, t, fz, h2, h3⟩ := hw.tab bk p hp
      exact ⟨Nat.lt_of_lt_of_le h1 hw.B0, cs, t, fz, by show w.heap[bk]? = _; rw [hw.low.block bk h1]; exact h2, h3⟩
  refine ⟨g1, ⟨df, g1, Gh.le.refl _ _, hw1, ⟨hf.size, hf.get⟩⟩, fun fr' a' w' hat => ?_⟩
  obtain ⟨df', g2, hle2, hw2, hf2⟩ := hat
  have hbel : Below w.heap.size w w' := by
    have := hw2.low
    rw [hle2.B0, hle2.w0] at this
    exact this
  have hL2 : g2.L 0 = ⟨N0, 0, 0⟩ := by
    have := hle2.ext.ob 0
    simp only [hp, List.getD_cons_zero, ObExt] at this
    rcases this with h | ⟨_, h, _⟩
    · omega
    · rw [h]; exact hL
  let g3 : Gh := { g2 with B0 := g.B0, w0 := g.w0, tm := g.tm }
  have htm2 : g2.tm = g1.tm := hle2.tm
  have hw3 : WRel g3 (hp OB) w' := by
    refine ⟨hw2.pm, fun k o x hx => ?_, fun k o x hx => ?_, fun k o x hx => ?_, hw.low.trans (hbel.mono hw.B0), Nat.le_trans hw.B0 hbel.size, hw.tab, fun o ver cs ho => hob o ver cs ho (by show (g2.L 0).cap = 0; rw [hL2]), fun o o' ver ver' cs cs' => hsep (g' := g3) o o' ver ver' cs cs'⟩
    · have h1 := hw.tm k o x hx
      rw [cell_same (hbel.block k (lt_of_cell h1))]
      exact h1
    · have h1 := hw.tm k o x hx
      rw [fz_same (hbel.block k (lt_of_cell h1))]
      exact hw.tmf k o x hx
    · have h1 := hw2.disj k o x hx
      rw [htm2] at h1
      show g.tm k o = none
      by_cases ho : k = N0 ∨ v.ownBlock = some k
      · have h2 : w.cell? ⟨k, o, none⟩ = none := by simpa [g1, ho] using h1
        cases h3 : g.tm k o with
        | none => rfl
        | some y => rw [hw.tm k o y h3] at h2; cases h2
      · simpa [g1, ho] using h1
  refine ⟨df', g3, v, ⟨⟨fun k o x hx => hle2.ext.pm _ _ _ (hle.ext.pm _ _ _ hx), fun o => trivial⟩, hle.tm, hle.B0, hle.w0⟩, hw3, ⟨hf2.size, hf2.get⟩, hL2, hB.keep hbel, fun k o ho => ?_⟩
  cases hx : g2.pm k o with
  | none => rfl
  | some y =>
    have h1 := hw2.disj k o y hx
    rw [htm2] at h1
    have h2 : w.cell? ⟨k, o, none⟩ = none := by simpa [g1, ho] using h1
    have h3 := hw2.pm k o y hx
    rw [cell_same (hbel.block k (hB.ownlt ho).2), h2] at h3
    cases h3
/-- Behind a call on the builder. -/
theorem AtS.after (he : Ent g0 N0) {g : Gh} {v v' : Value} {acc' : List UInt8} {w' : World} (df : a.defers = []) (hle : g0.le noHp g (hp OB)) (hw : WRel g (hp OB) w) (hf : FRel g (hp OB) n (Fr.get fr) a) (hL : g.L 0 = ⟨N0, 0, 0⟩)
    (hB : BS T e N0 N0 v (Lib.byteCells acc) w) (hpm : ∀ k o, (k = N0 ∨ v.ownBlock = some k) → g.pm k o = none) (hB' : BS T e N0 N0 v' (Lib.byteCells acc') w') (hF : BFr N0 v v' w w')
    {d : Option Nat} (hd : ∀ d', d = some d' → d' < n) {x : AV} {u : Value} (hx : VR g.pm g.L (hp OB) x u) : AtS T e g0 N0 n (putF fr d x) acc' (a.put d u) w' := by
  have keep : ∀ k, k < w.heap.size → ¬ (k = N0 ∨ v.ownBlock = some k) → w'.heap[k]? = w.heap[k]? := fun k hk ho => hF.block k hk (fun e => ho (.inl e)) (fun e => ho (.inr e))
  have kpm : ∀ k o x, g.pm k o = some x → w'.heap[k]? = w.heap[k]? := fun k o x hx => keep k (hw.pm_lt hx) (fun ho => by rw [hpm k o ho] at hx; cases hx)
  have ktm : ∀ k o x, g.tm k o = some x → w'.heap[k]? = w.heap[k]? := fun k o x hx => keep k (hw.tm_lt hx) (fun ho => by
    have := (hB.ownlt ho).1
    rw [hle.tm] at hx
    have := he.tm _ _ _ hx
    omega)
  have hw' : WRel g (hp OB) w' := by
    refine ⟨fun k o x hx => ?_, fun k o x hx => ?_, fun k o x hx => ?_, hw.disj, hw.low.trans ⟨hF.os, hF.tape, hF.output, hF.size, fun k hk => ?_⟩, Nat.le_trans hw.B0 hF.size, hw.tab, fun o ver cs ho => ?_, hw.sep⟩
    · rw [cell_same (kpm k o x hx)]; exact hw.pm _ _ _ hx
    · rw [cell_same (ktm k o x hx)]; exact hw.tm _ _ _ hx
    · rw [fz_same (ktm k o x hx)]; exact hw.tmf _ _ _ hx
    · rw [hle.B0] at hk
      have h1 := he.B0
      refine keep k ?_ (fun ho => ?_)
      · have := hw.B0; rw [hle.B0] at this; omega
      · have := (hB.ownlt ho).1; omega
    · obtain ⟨rfl, rfl, rfl⟩ := hpOB ho
      have hc : (g.L 0).cap = 0 := by rw [hL]
      exact ⟨fun h => absurd h (by omega), Nat.zero_le _, fun j hj => absurd hj (by omega), fun j hj => absurd hj (by omega), fun j hj => absurd hj (by omega), fun j hj => absurd hj (by omega)⟩
  refine ⟨by cases d <;> exact df, g, v', hle, hw', by rw [get_putF]; exact hf.putM hd hx, hL, hB', fun k o ho => ?_⟩
  cases hx : g.pm k o with
  | none => rfl
  | some y =>
    rcases ho with rfl | ho
    · rw [hpm _ o (.inl rfl)] at hx; cases hx
    · rcases hF.own k ho with h | h
      · rw [hpm _ o (.inr h)] at hx; cases hx
      · have := hw.pm_lt hx; omega
end
end Go.Ab
/- Regions of which the last operation comes last in every order. -/
namespace Go.Ab
open Go.RowKit Go.Proofs
set_option linter.unusedVariables false
set_option linter.unusedSimpArgs false

/-- The last operation, and then on. -/
def thenOp (P : Program) (o : Oper) (Q : Exit → Act → World → Prop) : Exit → Act → World → Prop
  | .normal, a, w => o.wp P a w (Q .normal) Q
  | e, a, w => Q e a w
theorem wp_thenOp {P : Program} {o x : Oper} {Q : Exit → Act → World → Prop} {a : Act} {w : World} {K : Act → World → Prop} (h : x.wp P a w K (thenOp P o Q)) : x.wp P a w K Q := by
  unfold Oper.wp at *
  generalize (execOp a.eval x).run P w = r at *
  cases r with
  | ok nx w' =>
    cases nx <;> simp only [Oper.upon] at h ⊢ <;> first
      | exact h
      | exact Calls.mono h (fun e w'' he => by cases e <;> exact he)
  | halt y w' => cases y <;> simp only [Oper.upon] at h ⊢ <;> exact h
theorem lets_thenOp {P : Program} {o : Oper} {Q : Exit → Act → World → Prop} (h : LetsOut (thenOp P o Q)) : LetsOut Q := h
section
variable {P : Program} {ops : Array Oper} {Q : Exit → Act → World → Prop}
theorem mem_ready {listed : Array Bool} (hs : listed.size = ops.size) (i : Nat) :
    i ∈ Region.ready .any ops listed ↔ ∃ x, ops.toList[i]? = some x ∧ ¬ listedP listed i ∧ ∀ e ∈ x.after.toList, Region.binds .any e = true → listedP listed e.on := by
  unfold Region.ready listedP
  rw [List.mem_filter, List.mem_range]
  constructor
  · rintro ⟨h1, h2⟩
    have hx : ops[i]? = some ops[i] := Array.getElem?_eq_getElem h1
    rw [hx] at h2
    simp only [Option.map_some, Option.getD_some, Bool.and_eq_true, Bool.not_eq_true'] at h2
    refine ⟨ops[i], by rw [Array.getElem?_toList]; exact hx, ?_, fun e he hb => ?_⟩
    · have hlt : i < listed.size := by omega
      have := h2.1
      simp only [Array.getD_eq_getD_getElem?, Array.getElem?_eq_getElem hlt, Option.getD_some] at this ⊢
      rw [this]; simp
    · have h3 := h2.2
      rw [← Array.all_toList, List.all_eq_true] at h3
      have := h3 e he
      rw [hb] at this
      simpa using this
  · rintro ⟨x, h1, h2, h3⟩
    have hi : i < ops.size := by have := (List.getElem?_eq_some_iff.1 h1).1; simpa using this
    have hx : ops[i]? = some x := by rw [← Array.getElem?_toList]; exact h1
    refine ⟨hi, ?_⟩
    rw [hx]
    simp only [Option.map_some, Option.getD_some, Bool.and_eq_true, Bool.not_eq_true']
    constructor
    · have hlt : i < listed.size := by omega
      simp only [Array.getD_eq_getD_getElem?, Array.getElem?_eq_getElem hlt, Option.getD_some] at h2 ⊢
      simpa using h2
    · rw [← Array.all_toList, List.all_eq_true]
      intro e he
      cases hb : Region.binds .any e with
      | false => simp
      | true => simpa using h3 e he hb
theorem last_any {l : List Oper} {o : Oper} (hops : ops.toList = l ++ [o]) (hlt : ∀ (i : Nat) x, ops.toList[i]? = some x → ∀ e ∈ x.after.toList, Region.binds .any e = true → e.on < i)
    (hord : ∀ i, i < l.length → ordB (befAll [] ops.toList) i l.length = true) (hg : ∀ x ∈ ops.toList, x.guard = none) :
    ∀ (fuel : Nat) (A B : Array Bool) (a : Act) (w : World), A.size = l.length + 1 → B.size = l.length → (∀ i, i < l.length → (listedP A i ↔ listedP B i)) → ¬ listedP A l.length → closedP ops (listedP A) →
      wpAny P .any l.toArray (thenOp P o Q) fuel B a w → wpAny P .any ops Q (fuel + 1) A a w := by
  have hsz : ops.size = l.length + 1 := by have := congrArg List.length hops; simpa using this
  have hold : ops.toList[l.length]? = some o := by rw [hops]; simp
  have hpre : ∀ i, i < l.length → ops.toList[i]? = l[i]? := fun i hi => by rw [hops, List.getElem?_append_left hi]
  have hwant : ∀ x ∈ ops.toList, ∀ ys, Region.wanted x ys = true := fun x hx ys => by unfold Region.wanted; rw [hg x hx]
  -- the last is ready only when all others are listed
  have hlast : ∀ A : Array Bool, A.size = l.length + 1 → closedP ops (listedP A) → l.length ∈ Region.ready .any ops A → ∀ j, j < l.length → listedP A j := by
    intro A hA hcl hr j hj
    obtain ⟨x, h1, h2, h3⟩ := (mem_ready (by omega) _).1 hr
    have h4 := hord j hj
    exact (next_ordered hcl h1 h2 h3 (j := j) (by omega) (by rw [show min l.length j = j by omega, show max l.length j = l.length by omega]; exact h4)).2 hj
  have hin : ∀ (A B : Array Bool), A.size = l.length + 1 → B.size = l.length → (∀ i, i < l.length → (listedP A i ↔ listedP B i)) → ∀ i, i < l.length → (i ∈ Region.ready .any ops A ↔ i ∈ Region.ready .any l.toArray B) := by
    intro A B hA hB hAB i hi
    rw [mem_ready (by omega), mem_ready (by simpa using hB)]
    simp only [List.toList_toArray]
    rw [hpre i hi]
    constructor
    · rintro ⟨x, h1, h2, h3⟩
      refine ⟨x, h1, fun h => h2 ((hAB i hi).2 h), fun e he hb => (hAB _ ?_).1 (h3 e he hb)⟩
      have := hlt i x (by rw [hpre i hi]; exact h1) e he hb
      omega
    · rintro ⟨x, h1, h2, h3⟩
      refine ⟨x, h1, fun h => h2 ((hAB i hi).1 h), fun e he hb => (hAB _ ?_).2 (h3 e he hb)⟩
      have := hlt i x (by rw [hpre i hi]; exact h1) e he hb
      omega
  -- some is ready as long as one ahead of the last isn't listed
  have hsome : ∀ (B : Array Bool), B.size = l.length → Region.ready .any l.toArray B = [] → ∀ i, i < l.length → listedP B i := by
    intro B hB hrd i
    induction i using Nat.strongRecOn with
    | _ i ih =>
      intro hi
      apply Classical.byContradiction
      intro hni
      have : i ∈ Region.ready .any l.toArray B := by
        rw [mem_ready (by simpa using hB)]
        refine ⟨l[i], by simp [hi], hni, fun e he hb => ih _ ?_ ?_⟩
        · exact hlt i l[i] (by rw [hpre i hi]; simp [hi]) e he hb
        · have := hlt i l[i] (by rw [hpre i hi]; simp [hi]) e he hb; omega
      rw [hrd] at this
      simp at this
  -- all others listed: the last, and the end
  have hend : ∀ (A : Array Bool) a w fuel, A.size = l.length + 1 → (∀ i, i < l.length → listedP A i) → ¬ listedP A l.length → o.wp P a w (Q .normal) Q → wpAny P .any ops Q (fuel + 1) A a w := by
    intro A a w fuel hA hall hnl h
    have hmem : l.length ∈ Region.ready .any ops A := by
      rw [mem_ready (by omega)]
      exact ⟨o, hold, hnl, fun e he hb => hall _ (hlt _ _ hold e he hb)⟩
    refine ⟨fun hr => by rw [hr] at hmem; simp at hmem, fun i hi => ?_⟩
    obtain ⟨x, h1, h2, _⟩ := (mem_ready (by omega) _).1 hi
    have hil : i = l.length := by
      have := (List.getElem?_eq_some_iff.1 h1).1
      have hh : i < l.length + 1 := by simpa [hops] using this
      apply Classical.byContradiction
      intro hne
      exact h2 (hall i (by omega))
    subst hil
    have hog : ops[l.length]? = some o := by rw [← Array.getElem?_toList]; exact hold
    simp only [wpOp, hog]
    rw [if_pos (hwant o (by rw [hops]; simp) _)]
    refine .inl (Oper.wp_mono (fun a' w' hq => ?_) h)
    have hnr : Region.ready .any ops (A.setIfInBounds l.length true) = [] := by
      rw [List.eq_nil_iff_forall_not_mem]
      intro j hj
      obtain ⟨y, q1, q2, _⟩ := (mem_ready (by simp; omega) _).1 hj
      have hlt2 : j < l.length + 1 := by have := (List.getElem?_eq_some_iff.1 q1).1; simpa [hops] using this
      refine q2 ((listed_set (by omega) j).2 ?_)
      by_cases hjl : j = l.length
      · exact .inr hjl
      · exact .inl (hall j (by omega))
    cases fuel with
    | zero => exact ⟨hnr, hq⟩
    | succ f => exact ⟨fun _ => hq, fun i hi => by rw [hnr] at hi; simp at hi⟩
  intro fuel
  induction fuel with
  | zero =>
    intro A B a w hA hB hAB hnl hcl h
    obtain ⟨h1, h2⟩ := h
    exact hend A a w 0 hA (fun i hi => (hAB i hi).2 (hsome B hB h1 i hi)) hnl h2
  | succ f ih =>
    intro A B a w hA hB hAB hnl hcl h
    obtain ⟨h1, h2⟩ := h
    by_cases hall : Region.ready .any l.toArray B = []
    · exact hend A a w (f + 1) hA (fun i hi => (hAB i hi).2 (hsome B hB hall i hi)) hnl (h1 hall)
    · have hmem : ∀ i, i ∈ Region.ready .any ops A → i < l.length ∧ i ∈ Region.ready .any l.toArray B := by
        intro i hi
        obtain ⟨x, q1, q2, q3⟩ := (mem_ready (by omega) _).1 hi
        have hlt2 : i < l.length + 1 := by have := (List.getElem?_eq_some_iff.1 q1).1; simpa [hops] using this
        by_cases hil : i = l.length
        · subst hil
          exfalso
          have hl := hlast A hA hcl hi
          refine hall ?_
          rw [List.eq_nil_iff_forall_not_mem]
          intro j hj
          obtain ⟨y, r1, r2, _⟩ := (mem_ready (by simpa using hB) _).1 hj
          have hj2 : j < l.length := by have := (List.getElem?_eq_some_iff.1 r1).1; simpa using this
          exact r2 ((hAB j hj2).1 (hl j hj2))
        · have hi2 : i < l.length := by omega
          exact ⟨hi2, (hin A B hA hB hAB i hi2).1 hi⟩
      refine ⟨fun hr => ?_, fun i hi => ?_⟩
      · exfalso
        obtain ⟨j, hj⟩ := List.exists_mem_of_ne_nil _ hall
        obtain ⟨y, r1, _, _⟩ := (mem_ready (by simpa using hB) _).1 hj
        have hj2 : j < l.length := by have := (List.getElem?_eq_some_iff.1 r1).1; simpa using this
        have := (hin A B hA hB hAB j hj2).2 hj
        rw [hr] at this
        simp at this
      · obtain ⟨hi2, hi3⟩ := hmem i hi
        obtain ⟨x, q1, q2, q3⟩ := (mem_ready (by omega) _).1 hi
        have h3 := h2 i hi3
        have hog : ops[i]? = some x := by rw [← Array.getElem?_toList]; exact q1
        have hog2 : l.toArray[i]? = some x := by rw [← Array.getElem?_toList]; simpa [← hpre i hi2] using q1
        simp only [wpOp, hog, hog2] at h3 ⊢
        rw [if_pos (hwant x (List.mem_of_getElem? q1) _)] at h3 ⊢
        have hnext : ∀ a' w', wpAny P .any l.toArray (thenOp P o Q) f (B.setIfInBounds i true) a' w' → wpAny P .any ops Q (f + 1) (A.setIfInBounds i true) a' w' := by
          intro a' w' hh
          refine ih _ _ a' w' (by simpa using hA) (by simpa using hB) (fun j hj => ?_) ?_ ?_ hh
          · rw [listed_set (by omega), listed_set (by omega), hAB j hj]
          · rw [listed_set (by omega)]
            rintro (h | h)
            · exact hnl h
            · omega
          · intro k y hk hls e he hb
            rw [listed_set (by omega)] at hls ⊢
            rcases hls with h | rfl
            · exact .inl (hcl k y hk h e he hb)
            · rw [q1] at hk; cases hk; exact .inl (q3 e he hb)
        rcases h3 with h3 | ⟨h3, h4⟩
        · exact .inl (Oper.wp_mono hnext (wp_thenOp h3))
        · exact .inr ⟨h3, lets_thenOp h4⟩
end
end Go.Ab
