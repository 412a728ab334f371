/- strings.Builder, whoever's: WriteString, WriteByte, String: what they hold behind the call, and that all other blocks stand as they stood. -/
import Derived.Test.YtjhhedpgfpcaiaaGreatDoorWlL7
import Derived.Shelf.Strings.OnBuilder
import Derived.Shelf.Strings.BuilderK
import Derived.WalkKit
import Derived.Shelf.Strings.Split
import Derived.Shelf.Strings.Cut
import Derived.Shelf.Strings.Replace
import Derived.Shelf.Strings.Repeat
import Derived.Shelf.Strconv.Itoa1
import Derived.Lib.ItoaNum
import Derived.Lib.LaidTab
namespace Go.Proofs
set_option linter.constructorNameAsVariable false
set_option linter.unusedSimpArgs false
set_option linter.unusedVariables false
open Go.Shelf Go.RowKit
variable {P : Program} {ρ : Ren}

/-- A builder in block b: what its second cell holds, and its bytes. -/
structure BS (T e : TypeId) (B b : Nat) (v : Value) (bs : List Value) (w : World) : Prop where
  hB : B ≤ b
  hbk : ∃ p, (p = .pointer none ∨ p = .pointer (some ⟨b, 0, none⟩)) ∧ w.heap[b]? = some (.cells #[p, v] T (0, 0))
  own : w.ownsRow B e 1 v bs.length bs
  ne : v.ownBlock ≠ some b
/-- Only the builder's blocks are written; its row is the old one or a new one. -/
structure BFr (b : Nat) (v v' : Value) (w w' : World) : Prop where
  os : w'.os = w.os
  tape : w'.tape = w.tape
  output : w'.output = w.output
  size : w.heap.size ≤ w'.heap.size
  block : ∀ k, k < w.heap.size → k ≠ b → v.ownBlock ≠ some k → w'.heap[k]? = w.heap[k]?
  own : ∀ k, v'.ownBlock = some k → v.ownBlock = some k ∨ w.heap.size ≤ k
theorem BFr.refl (b v w) : BFr b v v w w := ⟨rfl, rfl, rfl, Nat.le_refl _, fun _ _ _ _ => rfl, fun _ h => .inl h⟩
theorem BS.F {T e B b v bs w} (h : BS T e B b v bs w) : Lib.IsBuilderF T e B b bs w := by
  obtain ⟨p, hp, hb⟩ := h.hbk
  rcases hp with rfl | rfl
  · exact .inl ⟨h.hB, v, hb, World.ownsRowF_of h.own, h.ne⟩
  · exact .inr ⟨h.hB, v, hb, World.ownsRowF_of h.own, h.ne⟩
theorem BS.lt {T e B b v bs w} (h : BS T e B b v bs w) : b < w.heap.size := by
  obtain ⟨p, _, hb⟩ := h.hbk
  exact (Array.getElem?_eq_some_iff.1 hb).1
theorem BS.fresh (T e : TypeId) (w : World) : BS T e w.heap.size w.heap.size (.slice none 0 0) [] (w.alloc (.cells #[.pointer none, .slice none 0 0] T)) :=
  ⟨Nat.le_refl _, ⟨_, .inl rfl, heap_alloc_new w _⟩, ⟨by simp, .inl ⟨rfl, rfl⟩⟩, by simp [Value.ownBlock]⟩
theorem BS.keep {T e B b v bs} {w w' : World} (h : BS T e B b v bs w) (k : Below w.heap.size w w') : BS T e B b v bs w' := by
  obtain ⟨p, hp, hb⟩ := h.hbk
  refine ⟨h.hB, ⟨p, hp, by rw [k.block b h.lt]; exact hb⟩, ?_, h.ne⟩
  exact h.own.kept (row := none) ⟨k.os, k.tape, k.output, k.size, fun i hi _ => k.block i hi⟩ (by cases v.ownBlock <;> simp)

/-- A text put behind the row: the row is the old one or a new one. -/
theorem append_str_strong {w : World} (base : Nat) (t u ty e : TypeId) (i : TypeInfo) (ht : P.underlying t = some (.slice e)) (hu : P.underlying u = some .string) (hi : P.info? e = some i) (hz : i.zero = some (.int .u8 0))
    (hsize : i.size = 1) (hby : i.bytes = 1) (v : Value) (n : Nat) (xs : List Value) (hown0 : w.ownsRow base e 1 v n xs) (s : ByteArray)
    (h63 : n + s.size ≤ maxLen) (hbytes : n + s.size ≤ 140737488355328) (hbase : base ≤ w.heap.size) :
    ∃ v' w', (Builtin.append_ #[t, u] ty #[v, .string s]).run P w = .ok v' w' ∧ w'.ownsRow base e 1 v' (n + s.size) (xs ++ Lib.strCells s) ∧ w.grownBy w' v.ownBlock ∧
      (∀ k, v'.ownBlock = some k → v.ownBlock = some k ∨ w.heap.size ≤ k) := by
  have hown := World.ownsRowF_of hown0
  obtain ⟨v', w', hr, h2, h3, h4⟩ := Lib.run_append_own_string (P := P) w base t u ty e i ht hu hi hz hsize hby v n xs hown0 s h63 hbytes hbase
  refine ⟨v', w', hr, h2, h3, fun k hk => ?_⟩
  rcases hown.2 with ⟨rfl, rfl⟩ | ⟨g, cap, cur, fz, rfl, hbg, hg, hfz, hnc, hcm, hcs, htake⟩
  · obtain ⟨v2, w2, hr2, h5, _, _⟩ := Lib.run_append_own_stringF (P := P) w w.heap.size t u ty e i ht hu hi hz hsize hby (.slice none 0 0) 0 xs ⟨hown.1, .inl ⟨rfl, rfl⟩⟩ s h63 hbytes (Nat.le_refl _)
    rw [hr] at hr2
    cases hr2
    exact .inr (h5.lt k hk).1
  · by_cases hroom : n + s.size ≤ cap
    · have hr2 := Lib.run_append_room_stringF (P := P) w t u ty e i ht hu hi hsize g n cap cur fz hg (by simpa using hfz) s hroom (by rw [hcs]; omega)
      rw [hr] at hr2
      cases hr2
      exact .inl hk
    · have hsmall : n + s.size ≤ 9223372036854775807 := by simp only [maxLen] at h63; omega
      have hxl : xs.length = n := by simpa using hown.1
      have holds : ∀ j u, xs[j]? = some u → w.cell? ((⟨g, 0, none⟩ : Addr).add j) = some u := hown.cells (g := g) rfl
      have hr2 := Lib.run_append_grow_string (P := P) w t u ty e i (.int .u8 0) ht hu hi hz ⟨g, 0, none⟩ n cap xs (by rw [hsize]; simpa using hxl) holds s (by omega) (by omega) (by rw [hby]; exact growslice_fits (by omega) (by omega))
      rw [hr] at hr2
      cases hr2
      simp [Value.ownBlock] at hk
      exact .inr (by omega)
theorem append_sl_strong {w : World} (base : Nat) (t ty e : TypeId) (i : TypeInfo) (z : Value) (ht : P.underlying t = some (.slice e)) (hi : P.info? e = some i) (hz : i.zero = some z)
    (hsize : i.size = 1) (hby : i.bytes = 1) (hzs : z.cells.size = 1) (v : Value) (n : Nat) (xs : List Value) (hown0 : w.ownsRow base e 1 v n xs)
    (a : Addr) (m c : Nat) (news : List Value) (hl : news.length = m * 1) (hnews : ∀ j u, news[j]? = some u → w.cell? (a.add j) = some u) (h1 : ∀ u ∈ news, u.oneCell' = true)
    (h63 : n + m ≤ maxLen) (hbytes : (n + m) * 1 ≤ 140737488355328) (hbase : base ≤ w.heap.size) :
    ∃ v' w', (Builtin.append_ #[t, t] ty #[v, .slice (some a) m c]).run P w = .ok v' w' ∧ w'.ownsRow base e 1 v' (n + m) (xs ++ news) ∧ w.grownBy w' v.ownBlock ∧
      (∀ k, v'.ownBlock = some k → v.ownBlock = some k ∨ w.heap.size ≤ k) := by
  have hown := World.ownsRowF_of hown0
  obtain ⟨v', w', hr, h2, h3, h4⟩ := run_append_own (P := P) w base t ty e i z 1 1 ht hi hz hsize hby hzs (by decide) v n xs hown0 a m c news hl hnews h1 h63 hbytes hbase
  refine ⟨v', w', hr, h2, h3, fun k hk => ?_⟩
  rcases hown.2 with ⟨rfl, rfl⟩ | ⟨g, cap, cur, fz, rfl, hbg, hg, hfz, hnc, hcm, hcs, htake⟩
  · obtain ⟨v2, w2, hr2, h5, _, _⟩ := run_append_ownF (P := P) w w.heap.size t ty e i z 1 1 ht hi hz hsize hby hzs (by decide) (.slice none 0 0) 0 xs ⟨hown.1, .inl ⟨rfl, rfl⟩⟩ a m c news hl hnews h1 h63 hbytes (Nat.le_refl _)
    rw [hr] at hr2
    cases hr2
    exact .inr (h5.lt k hk).1
  · by_cases hroom : n + m ≤ cap
    · have hr2 := run_append_roomF (P := P) w t ty e i ht hi g n cap cur fz hg (by rw [hsize]; exact hfz) a m c news (by rw [hsize]; exact hl) hnews h1 hroom (by rw [hsize, hcs]; omega)
      rw [hr] at hr2
      cases hr2
      exact .inl hk
    · have hsmall : n + m ≤ 9223372036854775807 := by simp only [maxLen] at h63; omega
      have holds : ∀ j u, xs[j]? = some u → w.cell? ((⟨g, 0, none⟩ : Addr).add j) = some u := hown.cells (g := g) rfl
      have hr2 := run_append_grow (P := P) w t ty e i z ht hi hz ⟨g, 0, none⟩ n cap xs (by rw [hsize]; exact hown.1) holds a m c news (by rw [hsize]; exact hl) hnews (by omega) (by omega) (by rw [hby]; exact growslice_fits (by omega) hbytes)
      rw [hr] at hr2
      cases hr2
      simp [Value.ownBlock] at hk
      exact .inr (by omega)
theorem wpl_str {w : World} {ops : Array Oper} {rest : List Oper} {o : Oper} {a : Act} {Q : Exit → Act → World → Prop} (hgd : o.guard = none) (sl x : Operand) (t u : TypeId)
    (ho : o.op = .call { callee := .builtin .append, args := #[sl, x], argTypes := #[t, u] })
    (base : Nat) (e : TypeId) (i : TypeInfo) (ht : P.underlying t = some (.slice e)) (hu : P.underlying u = some .string) (hi : P.info? e = some i) (hz : i.zero = some (.int .u8 0))
    (hsize : i.size = 1) (hby : i.bytes = 1) (v : Value) (n : Nat) (xs : List Value) (hs : a.eval sl = v) (hown : w.ownsRow base e 1 v n xs) (s : ByteArray) (hx : a.eval x = .string s)
    (h63 : n + s.size ≤ maxLen) (hbytes : n + s.size ≤ 140737488355328) (hbase : base ≤ w.heap.size)
    (h : ∀ v' w', w'.ownsRow base e 1 v' (n + s.size) (xs ++ Lib.strCells s) → w.grownBy w' v.ownBlock → (∀ k, v'.ownBlock = some k → v.ownBlock = some k ∨ w.heap.size ≤ k) → wpList P ops Q rest (a.put o.dst v') w') : wpList P ops Q (o :: rest) a w := by
  refine wpList_plain hgd fun K hK => ?_
  obtain ⟨v', w', hr, h2, h3, h4⟩ := append_str_strong (P := P) base t u o.type e i ht hu hi hz hsize hby v n xs hown s h63 hbytes hbase
  unfold Oper.wp execOp
  simp only [ho, resolve, invoke, builtin, Sem.run_bind, Sem.run_pure, Result.andThen_ok, List.map_toArray, List.map_cons, List.map_nil, hs, hx, hr]
  exact hK _ _ (h v' w' h2 h3 h4)
theorem wpl_sl {w : World} {ops : Array Oper} {rest : List Oper} {o : Oper} {a : Act} {Q : Exit → Act → World → Prop} (hgd : o.guard = none) (s x : Operand) (t : TypeId)
    (ho : o.op = .call { callee := .builtin .append, args := #[s, x], argTypes := #[t, t] })
    (base : Nat) (e : TypeId) (i : TypeInfo) (z : Value) (ht : P.underlying t = some (.slice e)) (hi : P.info? e = some i) (hz : i.zero = some z)
    (hsize : i.size = 1) (hby : i.bytes = 1) (hzs : z.cells.size = 1) (v : Value) (n : Nat) (xs : List Value) (hs : a.eval s = v) (hown : w.ownsRow base e 1 v n xs)
    (ad : Addr) (m c : Nat) (news : List Value) (hx : a.eval x = .slice (some ad) m c) (hl : news.length = m * 1) (hnews : ∀ j u, news[j]? = some u → w.cell? (ad.add j) = some u) (h1 : ∀ u ∈ news, u.oneCell' = true)
    (h63 : n + m ≤ maxLen) (hbytes : (n + m) * 1 ≤ 140737488355328) (hbase : base ≤ w.heap.size)
    (h : ∀ v' w', w'.ownsRow base e 1 v' (n + m) (xs ++ news) → w.grownBy w' v.ownBlock → (∀ k, v'.ownBlock = some k → v.ownBlock = some k ∨ w.heap.size ≤ k) → wpList P ops Q rest (a.put o.dst v') w') : wpList P ops Q (o :: rest) a w := by
  refine wpList_plain hgd fun K hK => ?_
  obtain ⟨v', w', hr, h2, h3, h4⟩ := append_sl_strong (P := P) base t o.type e i z ht hi hz hsize hby hzs v n xs hown ad m c news hl hnews h1 h63 hbytes hbase
  unfold Oper.wp execOp
  simp only [ho, resolve, invoke, builtin, Sem.run_bind, Sem.run_pure, Result.andThen_ok, List.map_toArray, List.map_cons, List.map_nil, hs, hx, hr]
  exact hK _ _ (h v' w' h2 h3 h4)
/-- The builder's own check: behind it the first cell is its own address. -/
theorem bs_check (L : Lays.n240 P ρ) (X : Builder.X72 P ρ) (B b : Nat) (v : Value) (bs : List Value) (w : World) (h : BS (ρ.t 72) (ρ.t 5) B b v bs w) :
    Calls P (ρ.f 240) #[.pointer (some ⟨b, 0, none⟩)] w fun e w' => e = .returned (.tuple #[]) ∧ w'.heap[b]? = some (.cells #[.pointer (some ⟨b, 0, none⟩), v] (ρ.t 72) (0, 0)) ∧ w'.ownsRow B (ρ.t 5) 1 v bs.length bs ∧ BFr b v v w w' ∧ Below B w w' ∧ w'.heap.size = w.heap.size := by
  obtain ⟨p, hp, hb⟩ := h.hbk
  rcases hp with rfl | rfl
  · have hA : Lib.BuilderAtF (ρ.t 72) (ρ.t 5) B b (.pointer none) bs w := ⟨h.hB, v, hb, World.ownsRowF_of h.own, h.ne⟩
    refine (Any.Builder_copyCheck_fresh L X b w hA.cell0 hA.shape hA.frozen0).mono ?_
    rintro e w' ⟨rfl, rfl⟩
    have hlt := h.lt
    refine ⟨rfl, ?_, ?_, ⟨rfl, rfl, rfl, by simp [World.setCell], fun k _ hk _ => Below.heap_setCell _ _ _ _ (fun e => hk e), fun _ h => .inl h⟩, (Below.refl B w).setCell (p := ⟨b, 0, none⟩) h.hB _, by simp [World.setCell]⟩
    · simp [World.setCell, Array.getElem?_modify, hb]
    · exact h.own.kept (row := some b) ⟨rfl, rfl, rfl, by simp [World.setCell], fun k _ hk => Below.heap_setCell _ _ _ _ (fun e => hk (by simp [e]))⟩ (.inr h.ne)
  · refine (Any.Builder_copyCheck_used L X b w (by rw [Lib.cell_of_heap hb]; rfl)).mono ?_
    rintro e w' ⟨rfl, rfl⟩
    exact ⟨rfl, hb, h.own, .refl _ _ _, Below.refl _ _, rfl⟩
theorem BFr.write {b : Nat} {v v' : Value} {w w1 w2 : World} (h1 : BFr b v v w w1) (hsz : w1.heap.size = w.heap.size) (hg : w1.grownBy w2 v.ownBlock) (ho : ∀ k, v'.ownBlock = some k → v.ownBlock = some k ∨ w1.heap.size ≤ k) (u : Value) (j : Nat) :
    BFr b v v' w (w2.setCell ⟨b, j, none⟩ u) :=
  ⟨hg.os.trans h1.os, hg.tape.trans h1.tape, hg.output.trans h1.output, by simp [World.setCell]; have := hg.size; have := h1.size; omega,
    fun k hk hkb hkv => by
      rw [Below.heap_setCell _ _ _ _ (fun e => hkb e), hg.block k (by omega) (fun e => hkv e.symm), h1.block k hk hkb hkv],
    fun k hk => by rcases ho k hk with h | h; exact .inl h; exact .inr (by omega)⟩
theorem BS.put {T e : TypeId} {B b : Nat} {v v' : Value} {bs' : List Value} {w : World} (hB : B ≤ b) (hb : w.heap[b]? = some (.cells #[.pointer (some ⟨b, 0, none⟩), v] T (0, 0))) (hown : w.ownsRow B e 1 v' bs'.length bs') (hTe : T ≠ e) :
    BS T e B b v' bs' (w.setCell ⟨b, 1, none⟩ v') := by
  have hne := Lib.ownBlock_neF (World.ownsRowF_of hown) hb hTe
  refine ⟨hB, ⟨_, .inr rfl, ?_⟩, ?_, hne⟩
  · simp [World.setCell, Array.getElem?_modify, hb]
  · exact hown.kept (row := some b) ⟨rfl, rfl, rfl, by simp [World.setCell], fun k _ hk => Below.heap_setCell _ _ _ _ (fun e => hk (by simp [e]))⟩ (.inr hne)
set_option maxHeartbeats 2000000 in
set_option maxRecDepth 100000 in
theorem bs_str (L : Lays.n166 P ρ) (X : Builder.Extra P ρ) (B b : Nat) (v : Value) (bs : List Value) (s : ByteArray) (w : World) (h : BS (ρ.t 72) (ρ.t 5) B b v bs w) (hlen : bs.length + s.size ≤ 140737488355328) (hBw : B ≤ w.heap.size) :
    Calls P (ρ.f 166) #[.pointer (some ⟨b, 0, none⟩), .string s] w fun e w' => e = .returned (.tuple #[.int .i64 s.size, .nilIface]) ∧ ∃ v', BS (ρ.t 72) (ρ.t 5) B b v' (bs ++ Lib.strCells s) w' ∧ BFr b v v' w w' := by
  obtain ⟨i0, hi, hz0, hz1, hz2⟩ := info_parts X.infoByte
  have mixed := L.mixed
  have t72 := L.t72; have a72 := L.a72; have z72 := L.z72; have v72 := L.v72; have u72 := run_underlying L.t72
  have t70 := L.t70; have a70 := L.a70; have z70 := L.z70; have v70 := L.v70; have u70 := run_underlying L.t70
  have t37 := L.t37; have a37 := L.a37; have z37 := L.z37; have v37 := L.v37; have u37 := run_underlying L.t37
  have t3 := L.t3; have a3 := L.a3; have z3 := L.z3; have v3 := L.v3; have u3 := run_underlying L.t3
  have t9 := L.t9; have a9 := L.a9; have z9 := L.z9; have v9 := L.v9; have u9 := run_underlying L.t9
  have t4 := L.t4; have a4 := L.a4; have z4 := L.z4; have v4 := L.v4; have u4 := run_underlying L.t4
  have t164 := L.t164; have a164 := L.a164; have z164 := L.z164; have v164 := L.v164; have u164 := run_underlying L.t164
  have t5 := X.t5; have a5 := X.a5; have z5 := X.z5; have v5 := X.v5; have u5 := run_underlying X.t5
  have e240 : ∀ args w, (callFunc (ρ.f 240) args).run P w = .ok (.enter (ρ.f 240) args) w := enters_of L.f240 (by kernel_rfl) rfl
  have hB := h.hB
  go_enter L.f166, Body.n166_ntmps ρ
  go_wp2_with (go_at_fn (ρ.f 240); refine (bs_check { L with } X.toX72 B b v bs _ h).mono ?_)
  rintro e w1 ⟨rfl, hbk, hown, hf1, hb1, hsz⟩
  have Hsz := Any.hidU hsz
  clear hsz
  have c0 : w1.cell? ⟨b, 0, none⟩ = some (.pointer (some ⟨b, 0, none⟩)) := by rw [Lib.cell_of_heap hbk]; rfl
  have c1 : w1.cell? ⟨b, 1, none⟩ = some v := by rw [Lib.cell_of_heap hbk]; rfl
  go_wp2_with (at_builtin; refine wpl_str rfl _ _ (ρ.t 37) (ρ.t 9) rfl B (ρ.t 5) i0 L.t37 L.t9 hi hz0 hz1 hz2 _ _ _ rfl hown s rfl ?c3 ?c4 ?c5 ?_)
  case c3 => unfold maxLen; omega
  case c4 => omega
  case c5 => have := hb1.size; omega
  intro v' w2 hown' hgrow hnew
  have hlt : b < w1.heap.size := (Array.getElem?_eq_some_iff.1 hbk).1
  have hne : v.ownBlock ≠ some b := h.ne
  have hb2 : w2.heap[b]? = some (.cells #[.pointer (some ⟨b, 0, none⟩), v] (ρ.t 72) (0, 0)) := by
    rw [hgrow.block b hlt (fun e => hne e.symm)]
    exact hbk
  have d0 : w2.cell? ⟨b, 0, none⟩ = some (.pointer (some ⟨b, 0, none⟩)) := by rw [Lib.cell_of_heap hb2]; rfl
  have d1 : w2.cell? ⟨b, 1, none⟩ = some v := by rw [Lib.cell_of_heap hb2]; rfl
  have f1 : w2.frozen? ⟨b, 1, none⟩ = false := Lib.frozen_of_heap hb2 1
  obtain ⟨ao, n', cap, rfl⟩ : ∃ ao n' cap, v' = .slice ao n' cap := by
    rcases hown'.2 with ⟨hv, _⟩ | ⟨g, cap, cur, hv, _⟩
    · exact ⟨_, _, _, hv⟩
    · exact ⟨_, _, _, hv⟩
  go_wp2
  go_ret2
  refine ⟨rfl, _, BS.put hB hb2 (bs' := bs ++ Lib.strCells s) (by simpa [Lib.strCells_length] using hown') X.neB5, hf1.write Hsz.out hgrow hnew _ _⟩
set_option maxHeartbeats 2000000 in
set_option maxRecDepth 100000 in
theorem bs_byte (L : Lays.n167 P ρ) (X : Builder.Extra P ρ) (B b : Nat) (v : Value) (bs : List Value) (c : Int) (w : World) (h : BS (ρ.t 72) (ρ.t 5) B b v bs w) (hlen : bs.length + 1 ≤ 140737488355328) (hBw : B ≤ w.heap.size) :
    Calls P (ρ.f 167) #[.pointer (some ⟨b, 0, none⟩), .int .u8 c] w fun e w' => e = .returned .nilIface ∧ ∃ v', BS (ρ.t 72) (ρ.t 5) B b v' (bs ++ [.int .u8 c]) w' ∧ BFr b v v' w w' := by
  obtain ⟨i0, hi, hz0, hz1, hz2⟩ := info_parts X.infoByte
  have mixed := L.mixed
  have t72 := L.t72; have a72 := L.a72; have z72 := L.z72; have v72 := L.v72; have u72 := run_underlying L.t72
  have t70 := L.t70; have a70 := L.a70; have z70 := L.z70; have v70 := L.v70; have u70 := run_underlying L.t70
  have t5 := L.t5; have a5 := L.a5; have z5 := L.z5; have v5 := L.v5; have u5 := run_underlying L.t5
  have t37 := L.t37; have a37 := L.a37; have z37 := L.z37; have v37 := L.v37; have u37 := run_underlying L.t37
  have t9 := L.t9; have a9 := L.a9; have z9 := L.z9; have v9 := L.v9; have u9 := run_underlying L.t9
  have t4 := L.t4; have a4 := L.a4; have z4 := L.z4; have v4 := L.v4; have u4 := run_underlying L.t4
  have t164 := L.t164; have a164 := L.a164; have z164 := L.z164; have v164 := L.v164; have u164 := run_underlying L.t164
  have e240 : ∀ args w, (callFunc (ρ.f 240) args).run P w = .ok (.enter (ρ.f 240) args) w := enters_of L.f240 (by kernel_rfl) rfl
  have hB := h.hB
  go_enter L.f167, Body.n167_ntmps ρ
  go_wp2_with (go_at_fn (ρ.f 240); refine (bs_check { L with } X.toX72 B b v bs _ h).mono ?_)
  rintro e w1 ⟨rfl, hbk, hown, hf1, hb1, hsz⟩
  have Hsz := Any.hidU hsz
  clear hsz
  have c0 : w1.cell? ⟨b, 0, none⟩ = some (.pointer (some ⟨b, 0, none⟩)) := by rw [Lib.cell_of_heap hbk]; rfl
  have c1 : w1.cell? ⟨b, 1, none⟩ = some v := by rw [Lib.cell_of_heap hbk]; rfl
  go_wp2_with (at_builtin; refine wpl_sl rfl _ _ (ρ.t 37) rfl B (ρ.t 5) i0 (.int .u8 0) L.t37 hi hz0 hz1 hz2 rfl _ _ _ rfl (hown.kept (World.grownBy_alloc w1 _ none) (by cases v.ownBlock <;> simp)) ⟨w1.heap.size, 0, none⟩ 1 1 [.int .u8 c] rfl rfl ?c1 ?c2 ?c3 ?c4 ?c5 ?_)
  case c1 =>
    intro j u hj
    match j, hj with
    | 0, hj => simp at hj; subst hj; simp [Addr.add]
  case c2 => intro u hu; simp at hu; subst hu; rfl
  case c3 => unfold maxLen; omega
  case c4 => omega
  case c5 => have := hb1.size; simp; omega
  intro v' w2 hown' hgrow hnew
  have hlt : b < w1.heap.size := (Array.getElem?_eq_some_iff.1 hbk).1
  have hne : v.ownBlock ≠ some b := h.ne
  have hb2 : w2.heap[b]? = some (.cells #[.pointer (some ⟨b, 0, none⟩), v] (ρ.t 72) (0, 0)) := by
    rw [hgrow.block b (by simp; omega) (fun e => hne e.symm), Lib.alloc_old w1 _ b hlt]
    exact hbk
  have d0 : w2.cell? ⟨b, 0, none⟩ = some (.pointer (some ⟨b, 0, none⟩)) := by rw [Lib.cell_of_heap hb2]; rfl
  have d1 : w2.cell? ⟨b, 1, none⟩ = some v := by rw [Lib.cell_of_heap hb2]; rfl
  have f1 : w2.frozen? ⟨b, 1, none⟩ = false := Lib.frozen_of_heap hb2 1
  obtain ⟨g, cap, rfl⟩ : ∃ g cap, v' = .slice (some ⟨g, 0, none⟩) (bs.length + 1) cap := by
    rcases hown'.2 with ⟨_, h0⟩ | ⟨g, cap, cur, hv, _⟩
    · omega
    · exact ⟨g, cap, hv⟩
  have hf2 : w1.grownBy w2 v.ownBlock := ⟨hgrow.os, hgrow.tape, hgrow.output, by have := hgrow.size; simp at this; omega, fun k hk hr => by rw [hgrow.block k (by simp; omega) hr, Lib.alloc_old w1 _ k hk]⟩
  go_wp2
  go_ret
  refine ⟨rfl, _, BS.put hB hb2 (bs' := bs ++ [.int .u8 c]) (by simpa using hown') X.neB5, hf1.write Hsz.out hf2 (fun k hk => ?_) _ _⟩
  rcases hnew k hk with h | h
  · exact .inl h
  · exact .inr (by first | omega | (simp at h; omega) | (have : w1.heap.size ≤ (w1.alloc (.cells #[.int .u8 c] (ρ.t 5))).heap.size := by simp; omega))
end Go.Proofs
/- A builder beside the layer's objects: code between its calls is walked by the layer (the builder's blocks stand as they are), its calls by their contracts. -/
namespace Go.Ab
set_option linter.constructorNameAsVariable false
set_option linter.unusedSimpArgs false
set_option linter.unusedVariables false
open Go.RowKit Go.Proofs
set_option linter.unusedVariables false
set_option linter.unusedSimpArgs false

/-- What lay there at the call's beginning lies below the builder. -/
structure Ent (g0 : Gh) (N0 : Nat) : Prop where
  pm : ∀ k o v, g0.pm k o = some v → k < N0
  tm : ∀ k o v, g0.tm k o = some v → k < N0
  B0 : g0.B0 ≤ N0
  w0 : g0.w0.heap.size ≤ N0
/-- The builder's blocks. -/
def Bl (N0 : Nat) (v : Value) (k : Nat) : Prop := k = N0 ∨ v.ownBlock = some k
/-- The object m is of no cell: it tells where the builder stands. -/
structure AtS (T e : TypeId) (g0 : Gh) (N0 n m : Nat) (S : List Ob) (fr : Fr) (acc : List UInt8) (a : Act) (w : World) : Prop where
  df : a.defers = []
  mm : hp S m = .arr 0 []
  ex : ∃ g v, g0.le noHp g (hp S) ∧ WRel g (hp S) w ∧ FRel g (hp S) n (Fr.get fr) a ∧ g.L m = ⟨N0, 0, 0⟩ ∧ BS T e N0 N0 v (Lib.byteCells acc) w ∧
    (∀ k o, Bl N0 v k → g.pm k o = none) ∧ ∀ o ver cs, hp S o = .arr ver cs → 0 < (g.L o).cap → ¬ Bl N0 v (g.L o).b
section
variable {P : Program} {T e : TypeId} {g0 : Gh} {N0 n m : Nat} {S : List Ob} {fr : Fr} {acc : List UInt8} {a : Act} {w : World}
theorem cell_same {w w' : World} {k o : Nat} (h : w'.heap[k]? = w.heap[k]?) : w'.cell? ⟨k, o, none⟩ = w.cell? ⟨k, o, none⟩ := World.cell?_of_block h
theorem fz_same {w w' : World} {k o : Nat} (h : w'.heap[k]? = w.heap[k]?) : w'.frozen? ⟨k, o, none⟩ = w.frozen? ⟨k, o, none⟩ := World.frozen?_of_block h
theorem _root_.Go.Proofs.BS.ownlt {B b : Nat} {v : Value} {bs : List Value} (h : BS T e B b v bs w) {k : Nat} (hk : Bl b v k) : B ≤ k ∧ k < w.heap.size := by
  rcases hk with rfl | hk
  · exact ⟨h.hB, h.lt⟩
  · exact h.own.lt k hk
theorem _root_.Go.Proofs.BS.fz {B b : Nat} {v : Value} {bs : List Value} (h : BS T e B b v bs w) {k : Nat} (hk : Bl b v k) (o : Nat) : w.frozen? ⟨k, o, none⟩ = false := by
  rcases hk with rfl | hk
  · obtain ⟨p, _, hb⟩ := h.hbk
    exact Lib.frozen_of_heap hb o
  · rcases h.own.2 with ⟨rfl, _⟩ | ⟨g, cap, cur, rfl, _, hg, _⟩
    · simp [Value.ownBlock] at hk
    · simp [Value.ownBlock] at hk
      subst hk
      exact Lib.frozen_of_heap hg o
theorem blk_same {w w' : World} {k : Nat} {c : Array Value} {t : TypeId} {fz : Nat × Nat} (hb : BkOK w w') (hc : ∀ o v, w.cell? ⟨k, o, none⟩ = some v → w'.cell? ⟨k, o, none⟩ = some v) (e : w.heap[k]? = some (.cells c t fz)) : w'.heap[k]? = some (.cells c t fz) := by
  obtain ⟨c', e', hs⟩ := hb k c t fz e
  rw [e']
  have : c' = c := by
    refine Array.ext hs (fun i h1 h2 => ?_)
    have h3 := hc i c[i] (by simp [World.cell?, e, h2])
    simp only [World.cell?, e'] at h3
    simpa [h1] using h3
  rw [this]
/-- The builder's blocks stand as they stood. -/
theorem _root_.Go.Proofs.BS.stay {B b : Nat} {v : Value} {bs : List Value} {w' : World} (h : BS T e B b v bs w) (hk : ∀ k c t fz, Bl b v k → w.heap[k]? = some (.cells c t fz) → w'.heap[k]? = some (.cells c t fz)) : BS T e B b v bs w' := by
  obtain ⟨h1, ⟨p, h2, h3⟩, h4, h5⟩ := h
  refine ⟨h1, ⟨p, h2, hk _ _ _ _ (.inl rfl) h3⟩, ⟨h4.1, ?_⟩, h5⟩
  rcases h4.2 with q | ⟨g, cap, cur, rfl, a1, a2, a3⟩
  · exact .inl q
  · exact .inr ⟨g, cap, cur, rfl, a1, hk _ _ _ _ (.inr rfl) a2, a3⟩
/-- A builder's block is a block of cells. -/
theorem _root_.Go.Proofs.BS.blk {B b : Nat} {v : Value} {bs : List Value} (h : BS T e B b v bs w) {k : Nat} (hk : Bl b v k) : ∃ c t fz, w.heap[k]? = some (.cells c t fz) := by
  rcases hk with rfl | hk
  · obtain ⟨p, _, hb⟩ := h.hbk
    exact ⟨_, _, _, hb⟩
  · rcases h.own.2 with ⟨rfl, _⟩ | ⟨g, cap, cur, rfl, _, hg, _⟩
    · simp [Value.ownBlock] at hk
    · simp [Value.ownBlock] at hk
      subst hk
      exact ⟨_, _, _, hg⟩
theorem AtS.in (he : Ent g0 N0) (h : AtS T e g0 N0 n m S fr acc a w) : ∃ g1, At g1 (hp S) n (Fr.get fr) (hp S) a w ∧ ∀ fr' S' a' w', hp S' m = .arr 0 [] → At g1 (hp S) n (Fr.get fr') (hp S') a' w' → AtS T e g0 N0 n m S' fr' acc a' w' := by
  classical
  obtain ⟨df, hmk, g, v, hle, hw, hf, hL, hB, hpm, hob⟩ := h
  let g1 : Gh := { g with w0 := w, tm := fun k o => if Bl N0 v k then w.cell? ⟨k, o, none⟩ else g.tm k o }
  have htn : ∀ k o, Bl N0 v k → g.tm k o = none := fun k o hk => by
    cases hx : g.tm k o with
    | none => rfl
    | some x =>
      rw [hle.tm] at hx
      have h1 := he.tm _ _ _ hx
      have h2 := (hB.ownlt hk).1
      omega
  have hw1 : WRel g1 (hp S) w := by
    refine ⟨hw.pm, fun k o x hx => ?_, fun k o x hx => ?_, fun k o x hx => ?_, Below.refl _ _, hw.B0, fun bk p hp => ?_, BkOK.refl _, fun o ver cs ho => ?_, hw.sep, fun o es it e => hw.mo o es it e, hw.ms⟩
    · by_cases ho : Bl N0 v k
      · simpa [g1, ho] using hx
      · exact hw.tm _ _ _ (by simpa [g1, ho] using hx)
    · by_cases ho : Bl N0 v k
      · exact hB.fz ho o
      · exact hw.tmf _ _ _ (by simpa [g1, ho] using hx)
    · by_cases ho : Bl N0 v k
      · have := hpm k o ho
        have hx' : g.pm k o = some x := hx
        rw [this] at hx'; cases hx'
      · have := hw.disj k o x hx
        simpa [g1, ho] using this
    · obtain ⟨h1, cs, t, fz, h2, h3⟩ := hw.tab bk p hp
      exact ⟨h1, cs, t, fz, by show w.heap[bk]? = _; rw [hw.low.block bk h1]; exact h2, h3⟩
    · have k := hw.ob o ver cs ho
      refine ⟨k.low, k.len, k.there, k.free, k.pm, fun j hj => ?_⟩
      show (if Bl N0 v (g.L o).b then _ else _) = none
      rw [if_neg (hob o ver cs ho (by have hj' : j < (g.L o).cap := hj; omega))]
      exact k.tm j hj
  refine ⟨g1, ⟨df, g1, Gh.le.refl _ _, hw1, ⟨hf.size, hf.get⟩⟩, fun fr' S' a' w' hmk' hat => ?_⟩
  obtain ⟨df', g2, hle2, hw2, hf2⟩ := hat
  have htm2 : g2.tm = g1.tm := hle2.tm
  have hbel : Below g.B0 w w' := by
    have := hw2.low
    rw [hle2.B0, hle2.w0] at this
    exact this
  have hbk : BkOK w w' := by
    have := hw2.bk
    rw [hle2.w0] at this
    exact this
  have hcs : ∀ k, Bl N0 v k → ∀ o x, w.cell? ⟨k, o, none⟩ = some x → w'.cell? ⟨k, o, none⟩ = some x := fun k hk o x hx => by
    refine hw2.tm k o x ?_
    rw [htm2]
    show (if Bl N0 v k then _ else _) = _
    rw [if_pos hk]
    exact hx
  have hstay : ∀ k c t fz, Bl N0 v k → w.heap[k]? = some (.cells c t fz) → w'.heap[k]? = some (.cells c t fz) := fun k c t fz hk e => blk_same hbk (hcs k hk) e
  have hsame : ∀ k, Bl N0 v k → w'.heap[k]? = w.heap[k]? := fun k hk => by
    obtain ⟨c, t, fz, e⟩ := hB.blk hk
    rw [e]; exact hstay k c t fz hk e
  have hL2 : g2.L m = ⟨N0, 0, 0⟩ := by
    have := hle2.ext.ob m
    rw [hmk, hmk'] at this
    simp only [ObExt] at this
    rcases this with h | ⟨_, h, _⟩
    · omega
    · rw [h]; exact hL
  let g3 : Gh := { g2 with w0 := g.w0, tm := g.tm }
  have htmle : ∀ k o, g1.tm k o = none → g.tm k o = none := fun k o hx => by
    by_cases ho : Bl N0 v k
    · exact htn k o ho
    · simpa [g1, ho] using hx
  have htmup : ∀ k o x, g.tm k o = some x → g2.tm k o = some x := fun k o x hx => by
    rw [htm2]
    by_cases ho : Bl N0 v k
    · rw [htn k o ho] at hx; cases hx
    · simpa [g1, ho] using hx
  have hB3 : g2.B0 = g.B0 := hle2.B0
  have hw3 : WRel g3 (hp S') w' := by
    refine ⟨hw2.pm, fun k o x hx => hw2.tm k o x (htmup k o x hx), fun k o x hx => hw2.tmf k o x (htmup k o x hx), fun k o x hx => htmle k o (by rw [← htm2]; exact hw2.disj k o x hx), ?_, ?_, ?_, hw.bk.trans hbk, fun o ver cs ho => ?_, hw2.sep, fun o es it e => hw2.mo o es it e, hw2.ms⟩
    · show Below g2.B0 g.w0 w'
      rw [hB3]; exact hw.low.trans hbel
    · exact hw2.B0
    · show TabOK g2.B0 g.w0
      rw [hB3]; exact hw.tab
    · have k := hw2.ob o ver cs ho
      exact ⟨k.low, k.len, k.there, k.free, k.pm, fun j hj => htmle _ _ (by rw [← htm2]; exact k.tm j hj)⟩
  have hno : ∀ k o x, Bl N0 v k → w'.cell? ⟨k, o, none⟩ = some x → g2.tm k o = some x := fun k o x hk hx => by
    rw [htm2]
    show (if Bl N0 v k then _ else _) = _
    rw [if_pos hk, ← cell_same (hsame k hk)]
    exact hx
  refine ⟨df', hmk', g3, v, ⟨⟨fun k o x hx => hle2.ext.pm _ _ _ (hle.ext.pm _ _ _ hx), fun o => trivial⟩, hle.tm, hB3.trans hle.B0, hle.w0⟩, hw3, ⟨hf2.size, hf2.get⟩, hL2, hB.stay hstay, fun k o ho => ?_, fun o ver cs ho hc hb => ?_⟩
  · cases hx : g2.pm k o with
    | none => rfl
    | some y =>
      have h1 := hw2.disj k o y hx
      have h3 := hno k o y ho (hw2.pm k o y hx)
      rw [h1] at h3; cases h3
  · have k := hw2.ob o ver cs ho
    have hc' : 0 < (g2.L o).cap := hc
    obtain ⟨x, hx, _⟩ := k.there 0 hc'
    have h1 := k.tm 0 hc'
    rw [hno _ _ _ hb hx] at h1
    cases h1
/-- Behind a call on the builder. -/
theorem AtS.after (he : Ent g0 N0) {g : Gh} {v v' : Value} {acc' : List UInt8} {w' : World} (df : a.defers = []) (hmk : hp S m = .arr 0 []) (hle : g0.le noHp g (hp S)) (hw : WRel g (hp S) w) (hf : FRel g (hp S) n (Fr.get fr) a) (hL : g.L m = ⟨N0, 0, 0⟩)
    (hB : BS T e N0 N0 v (Lib.byteCells acc) w) (hpm : ∀ k o, Bl N0 v k → g.pm k o = none) (hob : ∀ o ver cs, hp S o = .arr ver cs → 0 < (g.L o).cap → ¬ Bl N0 v (g.L o).b) (hB' : BS T e N0 N0 v' (Lib.byteCells acc') w') (hF : BFr N0 v v' w w')
    {d : Option Nat} (hd : ∀ d', d = some d' → d' < n) {x : AV} {u : Value} (hx : VR g.pm g.L (hp S) x u) : AtS T e g0 N0 n m S (putF fr d x) acc' (a.put d u) w' := by
  have keep : ∀ k, k < w.heap.size → ¬ Bl N0 v k → w'.heap[k]? = w.heap[k]? := fun k hk ho => hF.block k hk (fun e => ho (.inl e)) (fun e => ho (.inr e))
  have kpm : ∀ k o x, g.pm k o = some x → w'.heap[k]? = w.heap[k]? := fun k o x hx => keep k (hw.pm_lt hx) (fun ho => by rw [hpm k o ho] at hx; cases hx)
  have ktm : ∀ k o x, g.tm k o = some x → w'.heap[k]? = w.heap[k]? := fun k o x hx => keep k (hw.tm_lt hx) (fun ho => by
    have := (hB.ownlt ho).1
    rw [hle.tm] at hx
    have := he.tm _ _ _ hx
    omega)
  have kmap : ∀ (b : Nat) (x : Go.Obj), w.heap[b]? = some x → BkOb x → w'.heap[b]? = some x := fun b x e hx => by
    rw [keep b (get_lt e) (fun ho => ?_)]
    · exact e
    · obtain ⟨c, t, fz, e'⟩ := hB.blk ho
      rw [e] at e'; cases e'
      exact hx
  have hlowk : ∀ k, k < N0 → k < w.heap.size → w'.heap[k]? = w.heap[k]? := fun k hk hk2 => keep k hk2 (fun ho => by have := (hB.ownlt ho).1; omega)
  have hw' : WRel g (hp S) w' := by
    refine ⟨fun k o x hx => ?_, fun k o x hx => ?_, fun k o x hx => ?_, hw.disj, hw.low.trans ⟨hF.os, hF.tape, hF.output, hF.size, fun k hk => ?_⟩, Nat.le_trans hw.B0 hF.size, hw.tab, fun b c t fz e0 => ?_, fun o ver cs ho => ?_, hw.sep, fun o es it e => (hw.mo o es it e).keep (Ext.refl _ _ _) rfl rfl kmap, hw.ms⟩
    · rw [cell_same (kpm k o x hx)]; exact hw.pm _ _ _ hx
    · rw [cell_same (ktm k o x hx)]; exact hw.tm _ _ _ hx
    · rw [fz_same (ktm k o x hx)]; exact hw.tmf _ _ _ hx
    · have h1 := he.B0
      have h2 := hw.B0
      rw [hle.B0] at hk h2
      exact hlowk k (by omega) (by omega)
    · obtain ⟨c1, e1, s1⟩ := hw.bk b c t fz e0
      have h1 := get_lt e0
      rw [hle.w0] at h1
      have h2 := he.w0
      exact ⟨c1, by rw [hlowk b (by omega) (get_lt e1)]; exact e1, s1⟩
    · have k := hw.ob o ver cs ho
      have hcell : ∀ j, j < (g.L o).cap → w'.heap[(g.L o).b]? = w.heap[(g.L o).b]? := fun j hj => by
        obtain ⟨x, hx, _⟩ := k.there j hj
        exact keep _ (lt_of_cell hx) (hob o ver cs ho (by omega))
      refine ⟨k.low, k.len, fun j hj => ?_, fun j hj => ?_, k.pm, k.tm⟩
      · obtain ⟨x, hx, hr⟩ := k.there j hj
        exact ⟨x, by rw [cell_same (hcell j hj)]; exact hx, hr⟩
      · rw [fz_same (hcell j hj)]; exact k.free j hj
  have hown : ∀ k, Bl N0 v' k → Bl N0 v k ∨ w.heap.size ≤ k := fun k hk => by
    rcases hk with rfl | hk
    · exact .inl (.inl rfl)
    · rcases hF.own k hk with h | h
      · exact .inl (.inr h)
      · exact .inr h
  refine ⟨by cases d <;> exact df, hmk, g, v', hle, hw', by rw [get_putF]; exact hf.putM hd hx, hL, hB', fun k o ho => ?_, fun o ver cs ho hc hb => ?_⟩
  · cases hx : g.pm k o with
    | none => rfl
    | some y =>
      rcases hown k ho with h | h
      · rw [hpm _ o h] at hx; cases hx
      · have := hw.pm_lt hx; omega
  · rcases hown _ hb with h | h
    · exact hob o ver cs ho hc h
    · obtain ⟨x, hx, _⟩ := (hw.ob o ver cs ho).there 0 hc
      have := lt_of_cell hx
      simp only at this
      omega
end
end Go.Ab
/- Regions of which the last operation comes last in every order. -/
namespace Go.Ab
set_option linter.constructorNameAsVariable false
set_option linter.unusedSimpArgs false
set_option linter.unusedVariables false
open Go.RowKit Go.Proofs
set_option linter.unusedVariables false
set_option linter.unusedSimpArgs false

/-- The last operation, and then on. -/
def thenOp (P : Program) (o : Oper) (Q : Exit → Act → World → Prop) : Exit → Act → World → Prop
  | .normal, a, w => o.wp P a w (Q .normal) Q
  | e, a, w => Q e a w
theorem wp_thenOp {P : Program} {o x : Oper} {Q : Exit → Act → World → Prop} {a : Act} {w : World} {K : Act → World → Prop} (h : x.wp P a w K (thenOp P o Q)) : x.wp P a w K Q := by
  unfold Oper.wp at *
  generalize (execOp a.eval x).run P w = r at *
  cases r with
  | ok nx w' =>
    cases nx <;> simp only [Oper.upon] at h ⊢ <;> first
      | exact h
      | exact Calls.mono h (fun e w'' he => by cases e <;> exact he)
  | halt y w' => cases y <;> simp only [Oper.upon] at h ⊢ <;> exact h
theorem lets_thenOp {P : Program} {o : Oper} {Q : Exit → Act → World → Prop} (h : LetsOut (thenOp P o Q)) : LetsOut Q := h
section
variable {P : Program} {ops : Array Oper} {Q : Exit → Act → World → Prop}
theorem mem_ready {listed : Array Bool} (hs : listed.size = ops.size) (i : Nat) :
    i ∈ Region.ready .any ops listed ↔ ∃ x, ops.toList[i]? = some x ∧ ¬ listedP listed i ∧ ∀ e ∈ x.after.toList, Region.binds .any e = true → listedP listed e.on := by
  unfold Region.ready listedP
  rw [List.mem_filter, List.mem_range]
  constructor
  · rintro ⟨h1, h2⟩
    have hx : ops[i]? = some ops[i] := Array.getElem?_eq_getElem h1
    rw [hx] at h2
    simp only [Option.map_some, Option.getD_some, Bool.and_eq_true, Bool.not_eq_true'] at h2
    refine ⟨ops[i], by rw [Array.getElem?_toList]; exact hx, ?_, fun e he hb => ?_⟩
    · have hlt : i < listed.size := by omega
      have := h2.1
      simp only [Array.getD_eq_getD_getElem?, Array.getElem?_eq_getElem hlt, Option.getD_some] at this ⊢
      rw [this]; simp
    · have h3 := h2.2
      rw [← Array.all_toList, List.all_eq_true] at h3
      have := h3 e he
      rw [hb] at this
      simpa using this
  · rintro ⟨x, h1, h2, h3⟩
    have hi : i < ops.size := by have := (List.getElem?_eq_some_iff.1 h1).1; simpa using this
    have hx : ops[i]? = some x := by rw [← Array.getElem?_toList]; exact h1
    refine ⟨hi, ?_⟩
    rw [hx]
    simp only [Option.map_some, Option.getD_some, Bool.and_eq_true, Bool.not_eq_true']
    constructor
    · have hlt : i < listed.size := by omega
      simp only [Array.getD_eq_getD_getElem?, Array.getElem?_eq_getElem hlt, Option.getD_some] at h2 ⊢
      simpa using h2
    · rw [← Array.all_toList, List.all_eq_true]
      intro e he
      cases hb : Region.binds .any e with
      | false => simp
      | true => simpa using h3 e he hb
theorem last_any {l : List Oper} {o : Oper} (hops : ops.toList = l ++ [o]) (hlt : ∀ (i : Nat) x, ops.toList[i]? = some x → ∀ e ∈ x.after.toList, Region.binds .any e = true → e.on < i)
    (hord : ∀ i, i < l.length → ordB (befAll [] ops.toList) i l.length = true) (hg : ∀ x ∈ ops.toList, x.guard = none) :
    ∀ (fuel : Nat) (A B : Array Bool) (a : Act) (w : World), A.size = l.length + 1 → B.size = l.length → (∀ i, i < l.length → (listedP A i ↔ listedP B i)) → ¬ listedP A l.length → closedP ops (listedP A) →
      wpAny P .any l.toArray (thenOp P o Q) fuel B a w → wpAny P .any ops Q (fuel + 1) A a w := by
  have hsz : ops.size = l.length + 1 := by have := congrArg List.length hops; simpa using this
  have hold : ops.toList[l.length]? = some o := by rw [hops]; simp
  have hpre : ∀ i, i < l.length → ops.toList[i]? = l[i]? := fun i hi => by rw [hops, List.getElem?_append_left hi]
  have hwant : ∀ x ∈ ops.toList, ∀ ys, Region.wanted x ys = true := fun x hx ys => by unfold Region.wanted; rw [hg x hx]
  -- the last is ready only when all others are listed
  have hlast : ∀ A : Array Bool, A.size = l.length + 1 → closedP ops (listedP A) → l.length ∈ Region.ready .any ops A → ∀ j, j < l.length → listedP A j := by
    intro A hA hcl hr j hj
    obtain ⟨x, h1, h2, h3⟩ := (mem_ready (by omega) _).1 hr
    have h4 := hord j hj
    exact (next_ordered hcl h1 h2 h3 (j := j) (by omega) (by rw [show min l.length j = j by omega, show max l.length j = l.length by omega]; exact h4)).2 hj
  have hin : ∀ (A B : Array Bool), A.size = l.length + 1 → B.size = l.length → (∀ i, i < l.length → (listedP A i ↔ listedP B i)) → ∀ i, i < l.length → (i ∈ Region.ready .any ops A ↔ i ∈ Region.ready .any l.toArray B) := by
    intro A B hA hB hAB i hi
    rw [mem_ready (by omega), mem_ready (by simpa using hB)]
    simp only [List.toList_toArray]
    rw [hpre i hi]
    constructor
    · rintro ⟨x, h1, h2, h3⟩
      refine ⟨x, h1, fun h => h2 ((hAB i hi).2 h), fun e he hb => (hAB _ ?_).1 (h3 e he hb)⟩
      have := hlt i x (by rw [hpre i hi]; exact h1) e he hb
      omega
    · rintro ⟨x, h1, h2, h3⟩
      refine ⟨x, h1, fun h => h2 ((hAB i hi).1 h), fun e he hb => (hAB _ ?_).2 (h3 e he hb)⟩
      have := hlt i x (by rw [hpre i hi]; exact h1) e he hb
      omega
  -- some is ready as long as one ahead of the last isn't listed
  have hsome : ∀ (B : Array Bool), B.size = l.length → Region.ready .any l.toArray B = [] → ∀ i, i < l.length → listedP B i := by
    intro B hB hrd i
    induction i using Nat.strongRecOn with
    | _ i ih =>
      intro hi
      apply Classical.byContradiction
      intro hni
      have : i ∈ Region.ready .any l.toArray B := by
        rw [mem_ready (by simpa using hB)]
        refine ⟨l[i], by simp [hi], hni, fun e he hb => ih _ ?_ ?_⟩
        · exact hlt i l[i] (by rw [hpre i hi]; simp [hi]) e he hb
        · have := hlt i l[i] (by rw [hpre i hi]; simp [hi]) e he hb; omega
      rw [hrd] at this
      simp at this
  -- all others listed: the last, and the end
  have hend : ∀ (A : Array Bool) a w fuel, A.size = l.length + 1 → (∀ i, i < l.length → listedP A i) → ¬ listedP A l.length → o.wp P a w (Q .normal) Q → wpAny P .any ops Q (fuel + 1) A a w := by
    intro A a w fuel hA hall hnl h
    have hmem : l.length ∈ Region.ready .any ops A := by
      rw [mem_ready (by omega)]
      exact ⟨o, hold, hnl, fun e he hb => hall _ (hlt _ _ hold e he hb)⟩
    refine ⟨fun hr => by rw [hr] at hmem; simp at hmem, fun i hi => ?_⟩
    obtain ⟨x, h1, h2, _⟩ := (mem_ready (by omega) _).1 hi
    have hil : i = l.length := by
      have := (List.getElem?_eq_some_iff.1 h1).1
      have hh : i < l.length + 1 := by simpa [hops] using this
      apply Classical.byContradiction
      intro hne
      exact h2 (hall i (by omega))
    subst hil
    have hog : ops[l.length]? = some o := by rw [← Array.getElem?_toList]; exact hold
    simp only [wpOp, hog]
    rw [if_pos (hwant o (by rw [hops]; simp) _)]
    refine .inl (Oper.wp_mono (fun a' w' hq => ?_) h)
    have hnr : Region.ready .any ops (A.setIfInBounds l.length true) = [] := by
      rw [List.eq_nil_iff_forall_not_mem]
      intro j hj
      obtain ⟨y, q1, q2, _⟩ := (mem_ready (by simp; omega) _).1 hj
      have hlt2 : j < l.length + 1 := by have := (List.getElem?_eq_some_iff.1 q1).1; simpa [hops] using this
      refine q2 ((listed_set (by omega) j).2 ?_)
      by_cases hjl : j = l.length
      · exact .inr hjl
      · exact .inl (hall j (by omega))
    cases fuel with
    | zero => exact ⟨hnr, hq⟩
    | succ f => exact ⟨fun _ => hq, fun i hi => by rw [hnr] at hi; simp at hi⟩
  intro fuel
  induction fuel with
  | zero =>
    intro A B a w hA hB hAB hnl hcl h
    obtain ⟨h1, h2⟩ := h
    exact hend A a w 0 hA (fun i hi => (hAB i hi).2 (hsome B hB h1 i hi)) hnl h2
  | succ f ih =>
    intro A B a w hA hB hAB hnl hcl h
    obtain ⟨h1, h2⟩ := h
    by_cases hall : Region.ready .any l.toArray B = []
    · exact hend A a w (f + 1) hA (fun i hi => (hAB i hi).2 (hsome B hB hall i hi)) hnl (h1 hall)
    · have hmem : ∀ i, i ∈ Region.ready .any ops A → i < l.length ∧ i ∈ Region.ready .any l.toArray B := by
        intro i hi
        obtain ⟨x, q1, q2, q3⟩ := (mem_ready (by omega) _).1 hi
        have hlt2 : i < l.length + 1 := by have := (List.getElem?_eq_some_iff.1 q1).1; simpa [hops] using this
        by_cases hil : i = l.length
        · subst hil
          exfalso
          have hl := hlast A hA hcl hi
          refine hall ?_
          rw [List.eq_nil_iff_forall_not_mem]
          intro j hj
          obtain ⟨y, r1, r2, _⟩ := (mem_ready (by simpa using hB) _).1 hj
          have hj2 : j < l.length := by have := (List.getElem?_eq_some_iff.1 r1).1; simpa using this
          exact r2 ((hAB j hj2).1 (hl j hj2))
        · have hi2 : i < l.length := by omega
          exact ⟨hi2, (hin A B hA hB hAB i hi2).1 hi⟩
      refine ⟨fun hr => ?_, fun i hi => ?_⟩
      · exfalso
        obtain ⟨j, hj⟩ := List.exists_mem_of_ne_nil _ hall
        obtain ⟨y, r1, _, _⟩ := (mem_ready (by simpa using hB) _).1 hj
        have hj2 : j < l.length := by have := (List.getElem?_eq_some_iff.1 r1).1; simpa using this
        have := (hin A B hA hB hAB j hj2).2 hj
        rw [hr] at this
        simp at this
      · obtain ⟨hi2, hi3⟩ := hmem i hi
        obtain ⟨x, q1, q2, q3⟩ := (mem_ready (by omega) _).1 hi
        have h3 := h2 i hi3
        have hog : ops[i]? = some x := by rw [← Array.getElem?_toList]; exact q1
        have hog2 : l.toArray[i]? = some x := by rw [← Array.getElem?_toList]; simpa [← hpre i hi2] using q1
        simp only [wpOp, hog, hog2] at h3 ⊢
        rw [if_pos (hwant x (List.mem_of_getElem? q1) _)] at h3 ⊢
        have hnext : ∀ a' w', wpAny P .any l.toArray (thenOp P o Q) f (B.setIfInBounds i true) a' w' → wpAny P .any ops Q (f + 1) (A.setIfInBounds i true) a' w' := by
          intro a' w' hh
          refine ih _ _ a' w' (by simpa using hA) (by simpa using hB) (fun j hj => ?_) ?_ ?_ hh
          · rw [listed_set (by omega), listed_set (by omega), hAB j hj]
          · rw [listed_set (by omega)]
            rintro (h | h)
            · exact hnl h
            · omega
          · intro k y hk hls e he hb
            rw [listed_set (by omega)] at hls ⊢
            rcases hls with h | rfl
            · exact .inl (hcl k y hk h e he hb)
            · rw [q1] at hk; cases hk; exact .inl (q3 e he hb)
        rcases h3 with h3 | ⟨h3, h4⟩
        · exact .inl (Oper.wp_mono hnext (wp_thenOp h3))
        · exact .inr ⟨h3, lets_thenOp h4⟩
end
end Go.Ab
/- Rules for code that uses a builder of its own, beside any objects. -/
namespace Go.Ab
set_option linter.constructorNameAsVariable false
set_option linter.unusedSimpArgs false
set_option linter.unusedVariables false
open Go.RowKit Go.Proofs
set_option linter.unusedVariables false
set_option linter.unusedSimpArgs false

theorem VCops_wp2 {P : Program} {n : Nat} {ops : Array Oper} {g0 σ0} {Q : Exit → Act → World → Prop} {K : Fr → List Ob → List LE → Prop} {rest : List Nat} : ∀ (l : List Oper) (rs : List ROper) (i : Nat) (fr : Fr) (S : List Ob) (log : List LE) (a : Act) (w : World),
    (∀ j (o : Oper), l[j]? = some o → ops[i + j]? = some o) → resOpers P n ops l = some rs → VCops P rs fr S log K → At g0 σ0 n (Fr.get fr) (hp S) a w →
    (∀ fr' S' log' a' w', K fr' S' log' → At g0 σ0 n (Fr.get fr') (hp S') a' w' → wpOps P ops Q rest a' w') → wpOps P ops Q (List.range' i l.length ++ rest) a w
  | [], rs, i, fr, S, log, a, w, _, hr, h, hat, hQ => by
    simp [resOpers] at hr; subst hr
    exact hQ _ _ _ _ _ h hat
  | o :: l, rs, i, fr, S, log, a, w, hl, hr, h, hat, hQ => by
    simp only [resOpers] at hr
    split at hr
    · rename_i ro rs' h1 h2
      cases hr
      have hoi : ops[i]? = some o := by simpa using hl 0 o rfl
      have hl' : ∀ j (o' : Oper), l[j]? = some o' → ops[i + 1 + j]? = some o' := fun j o' hj => by
        have := hl (j + 1) o' (by simpa using hj)
        rwa [show i + (j + 1) = i + 1 + j by omega] at this
      have ih := fun fr S log a w => VCops_wp2 (Q := Q) (K := K) (g0 := g0) (σ0 := σ0) (rest := rest) l rs' (i + 1) fr S log a w hl' h2
      simp only [List.length_cons, List.range'_succ, List.cons_append, wpOps, hoi]
      obtain ⟨hc, hdst, hdn, _⟩ := resOper_eq h1
      have hstep : VC1 P ro.c (Fr.get fr) S (fun v S' le => VCops P rs' (putF fr ro.dst v) S' (le :: log) K) → o.wp P a w (wpOps P ops Q (List.range' (i + 1) l.length ++ rest)) Q := fun hv => by
        obtain ⟨v, S', le, k1, _, k3⟩ := VC1_step hv
        exact At.step h1 hat k1 (fun a' w' hat' => ih _ _ _ _ _ k3 (by rw [get_putF]; exact hat') hQ)
      have hat0 := hat
      obtain ⟨_, g, _, _, hf⟩ := hat
      obtain ⟨w1, w2, w3⟩ := wanted_of h1 hf
      simp only [VCops] at h
      cases hg : ro.guard with
      | none =>
        simp only [hg] at h
        rw [if_pos (w1 hg)]
        exact .inl (hstep h)
      | some p =>
        obtain ⟨t, want⟩ := p
        simp only [hg] at h
        generalize hq : Fr.get fr t = q at h
        split at h
        case h_3 => exact h.elim
        case h_2 =>
          rw [w3 t want hg hq, if_neg (by simp)]
          refine ih _ _ _ _ _ h ?_ hQ
          rw [get_putF, hdst]
          exact At.skip hat0 hdn
        rename_i b
        obtain ⟨ha, hb⟩ := h
        rw [w2 t want b hg hq]
        by_cases e : b = want
        · subst e
          rw [if_pos (by simp)]
          exact .inl (hstep (ha rfl))
        · have e' : b = !want := by cases b <;> cases want <;> simp_all
          rw [if_neg (by simp [e])]
          refine ih _ _ _ _ _ (hb e') ?_ hQ
          rw [get_putF, hdst]
          exact At.skip hat0 hdn
    · cases hr

theorem resOpers_app {P : Program} {n : Nat} {ops : Array Oper} : ∀ {l : List Oper} {xs ys : List ROper}, resOpers P n ops l = some (xs ++ ys) → ∃ l1 l2, l = l1 ++ l2 ∧ resOpers P n ops l1 = some xs ∧ resOpers P n ops l2 = some ys
  | l, [], ys, h => ⟨[], l, rfl, rfl, h⟩
  | [], x :: xs, ys, h => by simp [resOpers] at h
  | o :: l, x :: xs, ys, h => by
    simp only [resOpers, List.cons_append] at h
    split at h
    · rename_i q qs h1 h2
      cases h
      obtain ⟨l1, l2, rfl, e1, e2⟩ := resOpers_app h2
      exact ⟨o :: l1, l2, rfl, by simp only [resOpers, h1, e1], e2⟩
    · cases h

theorem vals_two {g σ x y vals} (h : VRs g σ [x, y] vals) : ∃ u v, vals = #[u, v] ∧ VR g.pm g.L σ x u ∧ VR g.pm g.L σ y v := by
  obtain ⟨hs, hv⟩ := h
  obtain ⟨l⟩ := vals
  match l, hs with
  | [u, v], _ => exact ⟨u, v, rfl, hv 0 (by simp) (by simp), hv 1 (by simp) (by simp)⟩
/-- Which calls are the builder's, and that they come last in their regions; the builder's allocation. -/
def lastF (P : Program) (bs : List Nat) (l : List Oper) : Bool :=
  match l.getLast? with
  | some o => match resRC P o.op with
    | some (.call f _) => bs.contains f
    | _ => false
  | none => false
def regOK (P : Program) (n : Nat) (ops : Array Oper) : Bool :=
  let l := ops.toList.dropLast
  (ops.toList.all fun o => o.guard.isNone) && ((List.range l.length).all fun i => ordB (befAll [] ops.toList) i l.length) &&
  (match resOpers P n ops ops.toList, resOpers P n l.toArray l with
   | some ra, some rs => drawOK l rs (pairsOf l rs) && (pairsOf ops.toList ra == pairsOf l rs)
   | _, _ => false)
def firstF (P : Program) (es : Nat) (l : List Oper) : Bool :=
  match l.head? with
  | some o => match resRC P o.op with
    | some (.call f _) => f == es
    | _ => false
  | none => false
def bchk (P : Program) (n : Nat) (bs : List Nat) (es nw : Nat) (T : TypeId) : Code → Bool
  | .region _ ops d => (!(d && lastF P bs ops.toList) || regOK P n ops) && !(d && firstF P es ops.toList) && (ops.toList.all fun o => o.dst != some nw || (match o.op with
      | .alloc t => t == T && !d
      | _ => false))
  | .seq a b => bchk P n bs es nw T a && bchk P n bs es nw T b
  | .cond _ a b => bchk P n bs es nw T a && bchk P n bs es nw T b
  | .block _ a => bchk P n bs es nw T a
  | .loop a => bchk P n bs es nw T a
  | _ => true

section
variable {P : Program} {n : Nat}
theorem reg_of {i : Nat} {o : Array Oper} {d : Bool} {fc : FC} (h : resCode P n (.region i o d) = some fc) : (∃ rs ps, fc = .reg rs ps) ∨ ∃ x y z, fc = .nxr x y z := by
  simp only [resCode] at h
  split at h
  · split at h
    · split at h
      · cases h; exact .inl ⟨_, _, rfl⟩
      · cases h
    · cases h; exact .inl ⟨_, _, rfl⟩
  · split at h
    · cases h
    · simp only [Option.map_eq_some_iff] at h
      obtain ⟨p, _, rfl⟩ := h
      exact .inr ⟨_, _, _, rfl⟩
theorem inv_seq {c : Code} {x y : FC} (h : resCode P n c = some (.seq x y)) : ∃ a b, c = .seq a b ∧ resCode P n a = some x ∧ resCode P n b = some y := by
  cases c with
  | seq a b =>
    simp only [resCode] at h
    split at h
    · rename_i h1 h2; cases h; exact ⟨a, b, rfl, h1, h2⟩
    · cases h
  | region i o d => rcases reg_of h with ⟨_, _, h⟩ | ⟨_, _, _, h⟩ <;> cases h
  | scope a => simp only [resCode] at h; split at h <;> cases h
  | cond q a b => simp only [resCode] at h; split at h <;> cases h
  | block i a => simp only [resCode] at h; split at h <;> cases h
  | loop a => simp only [resCode] at h; split at h <;> cases h
  | _ => simp [resCode] at h
theorem inv_cond {c : Code} {q : Opd} {x y : FC} (h : resCode P n c = some (.cond q x y)) : ∃ t a b, c = .cond t a b ∧ rOpd t = some q ∧ resCode P n a = some x ∧ resCode P n b = some y := by
  cases c with
  | cond t a b =>
    simp only [resCode] at h
    split at h
    · rename_i h1 h2 h3; cases h; exact ⟨t, a, b, rfl, h1, h2, h3⟩
    · cases h
  | region i o d => rcases reg_of h with ⟨_, _, h⟩ | ⟨_, _, _, h⟩ <;> cases h
  | scope a => simp only [resCode] at h; split at h <;> cases h
  | seq a b => simp only [resCode] at h; split at h <;> cases h
  | block i a => simp only [resCode] at h; split at h <;> cases h
  | loop a => simp only [resCode] at h; split at h <;> cases h
  | _ => simp [resCode] at h
theorem inv_block {c : Code} {i : Nat} {x : FC} (h : resCode P n c = some (.block i x)) : ∃ a, c = .block i a ∧ resCode P n a = some x := by
  cases c with
  | block j a =>
    simp only [resCode] at h
    split at h
    · rename_i h1; cases h; exact ⟨a, rfl, h1⟩
    · cases h
  | region i o d => rcases reg_of h with ⟨_, _, h⟩ | ⟨_, _, _, h⟩ <;> cases h
  | scope a => simp only [resCode] at h; split at h <;> cases h
  | seq a b => simp only [resCode] at h; split at h <;> cases h
  | cond q a b => simp only [resCode] at h; split at h <;> cases h
  | loop a => simp only [resCode] at h; split at h <;> cases h
  | _ => simp [resCode] at h
theorem inv_loop {c : Code} {x : FC} (h : resCode P n c = some (.loop x)) : ∃ a, c = .loop a ∧ resCode P n a = some x := by
  cases c with
  | loop a =>
    simp only [resCode] at h
    split at h
    · rename_i h1; cases h; exact ⟨a, rfl, h1⟩
    · cases h
  | region i o d => rcases reg_of h with ⟨_, _, h⟩ | ⟨_, _, _, h⟩ <;> cases h
  | scope a => simp only [resCode] at h; split at h <;> cases h
  | seq a b => simp only [resCode] at h; split at h <;> cases h
  | cond q a b => simp only [resCode] at h; split at h <;> cases h
  | block i a => simp only [resCode] at h; split at h <;> cases h
  | _ => simp [resCode] at h
theorem inv_reg {c : Code} {rs : List ROper} {ps} (h : resCode P n c = some (.reg rs ps)) : ∃ id ops d, c = .region id ops d ∧ resOpers P n ops ops.toList = some rs ∧ (d = false → ps = []) ∧ (d = true → ps = pairsOf ops.toList rs ∧ drawOK ops.toList rs ps = true) := by
  cases c with
  | region id ops d =>
    simp only [resCode] at h
    split at h
    · rename_i rs' h1
      split at h
      · rename_i hd
        split at h
        · rename_i hok; cases h; exact ⟨id, ops, d, rfl, h1, fun e => (by rw [hd] at e; cases e), fun _ => ⟨rfl, hok⟩⟩
        · cases h
      · rename_i hd
        cases h
        exact ⟨id, ops, d, rfl, h1, fun _ => rfl, fun e => absurd e (by simpa using hd)⟩
    · split at h
      · cases h
      · simp only [Option.map_eq_some_iff] at h; obtain ⟨p, _, h⟩ := h; cases h
  | scope a => simp only [resCode] at h; split at h <;> cases h
  | seq a b => simp only [resCode] at h; split at h <;> cases h
  | cond q a b => simp only [resCode] at h; split at h <;> cases h
  | block i a => simp only [resCode] at h; split at h <;> cases h
  | loop a => simp only [resCode] at h; split at h <;> cases h
  | _ => simp [resCode] at h
theorem inv_ret {c : Code} (h : resCode P n c = some .ret) : c = .ret := by
  cases c with
  | ret => rfl
  | region i o d => rcases reg_of h with ⟨_, _, h⟩ | ⟨_, _, _, h⟩ <;> cases h
  | scope a => simp only [resCode] at h; split at h <;> cases h
  | seq a b => simp only [resCode] at h; split at h <;> cases h
  | cond q a b => simp only [resCode] at h; split at h <;> cases h
  | block i a => simp only [resCode] at h; split at h <;> cases h
  | loop a => simp only [resCode] at h; split at h <;> cases h
  | _ => simp [resCode] at h
theorem draw_any0 {ops : Array Oper} {rs : List ROper} {pairs : List (Nat × Nat)} (hr : resOpers P n ops ops.toList = some rs) (hd : drawOK ops.toList rs pairs = true)
    {fr : Fr} {S : List Ob} {K : Fr → List Ob → Prop} (h : VCops P rs fr S [] (fun fr' S' log => okLog pairs log ∧ K fr' S')) {g0 σ0} {a : Act} {w : World} (hat : At g0 σ0 n (Fr.get fr) (hp S) a w)
    {Q : Exit → Act → World → Prop} (hQ : ∀ fr' S' a' w', K fr' S' → At g0 σ0 n (Fr.get fr') (hp S') a' w' → Q .normal a' w') : wpAny P .any ops Q ops.size (Array.replicate ops.size false) a { w with drawn := w.drawn + 1 } := by
  obtain ⟨hlen, _⟩ := resOpers_get hr
  obtain ⟨r, fr', e1, e2, e3, hlog, hk⟩ := VCops_rec rs fr S [] h
  simp only [List.append_nil] at hlog
  have hsz : ops.size = rs.length := by rw [hlen]; simp
  have hno : ∀ i, ¬ listedP (Array.replicate ops.size false) i := fun i => by
    unfold listedP
    simp only [Array.getD_eq_getD_getElem?, Array.getElem?_replicate]
    split <;> simp
  refine draw_any hr hd r hlog (g0 := g0) (σ0 := σ0) (fun a' w' hat' => hQ fr' _ a' w' hk (by rw [e3]; exact hat')) ops.size _ a _ (by simp [hsz]) (fun i o _ hi => absurd hi (hno i)) ?_ ?_
  · rw [hsz]
    exact Nat.le_trans (List.length_filter_le _ _) (by simp)
  · have f1 : r.Fl (listedP (Array.replicate ops.size false)) = Fr.get fr := by
      funext t
      rw [← e1]
      unfold Rec.Fl
      rw [pick_cut (i := 0) (by omega) (fun j _ _ h => hno j h.1)]
      rfl
    have f2 : r.σl (listedP (Array.replicate ops.size false)) = hp S := by
      funext o
      rw [← e2]
      unfold Rec.σl
      rw [pick_cut (i := 0) (by omega) (fun j _ _ h => hno j h.1)]
      rfl
    rw [f1, f2]
    obtain ⟨h0, g, h1, h2, h3⟩ := hat
    exact ⟨h0, g, h1, h2.drew, h3⟩
theorem resOper_free {ops ops2 : Array Oper} {o : Oper} {ro : ROper} (h : resOper P n ops o = some ro) (hg : o.guard = none) : resOper P n ops2 o = some ro := by
  unfold resOper at h ⊢
  rw [hg] at h ⊢
  exact h
theorem resOpers_free {ops ops2 : Array Oper} : ∀ {l : List Oper} {rs : List ROper}, resOpers P n ops l = some rs → (∀ o ∈ l, o.guard = none) → resOpers P n ops2 l = some rs
  | [], rs, h, _ => by simpa [resOpers] using h
  | o :: l, rs, h, hg => by
    simp only [resOpers] at h ⊢
    split at h
    · rename_i x xs h1 h2
      cases h
      rw [resOper_free h1 (hg o (by simp)), resOpers_free h2 (fun q hq => hg q (by simp [hq]))]
    · cases h
theorem call_wp {o : Oper} {f : FuncId} {qs : List Opd} (hr : resRC P o.op = some (.call f qs)) {g : Gh} {σ : Hp} {F : Fm} {a : Act} {w : World} (hf : FRel g σ n F a) {next : Act → World → Prop} {Q : Exit → Act → World → Prop}
    (hC : ∀ vals, VRs g σ (evL F qs) vals → Calls P f vals w (fun e w' => ∃ u, e = .returned u ∧ next (a.put o.dst u) w')) : o.wp P a w next Q := by
  unfold resRC at hr
  split at hr
  · cases hr
  · split at hr
    · rename_i cl hop
      obtain ⟨dst, op, ty, pos, after, guard⟩ := o
      simp only at hop
      subst hop
      obtain ⟨callee, args, argTypes⟩ := cl
      have enter : ∀ f vals, (execOp a.eval ⟨dst, .call ⟨callee, args, argTypes⟩, ty, pos, after, guard⟩).run P w = .ok (.enter f vals) w →
          Calls P f vals w (fun | .returned v, w'' => next (a.put dst v) w'' | .panicked chain, w'' => Q (.panic chain) a w'' | .outgrown, _ => LetsOut Q) → Oper.wp P ⟨dst, .call ⟨callee, args, argTypes⟩, ty, pos, after, guard⟩ a w next Q := fun f vals h1 h2 => by
        unfold Oper.wp; rw [h1]; exact h2
      split at hr
      · rename_i f' qs' hc hq
        simp only at hc; subst hc
        split at hr
        · rename_i hcal
          cases hr
          refine enter f (args.map a.eval) ?_ ?_
          · simp [execOp, resolve, Act.eval, Deferred.ofValue, invoke, callable_run hcal]
          · refine (hC _ (VRs_of hf hq)).mono ?_
            rintro e w' ⟨u, rfl, h⟩
            exact h
        · cases hr
      · simp only [Option.map_eq_some_iff] at hr; obtain ⟨_, _, hr⟩ := hr; cases hr
      · simp only [Option.map_eq_some_iff] at hr; obtain ⟨_, _, hr⟩ := hr; cases hr
      · cases hr
    · cases hr
end

/-- What a call on the builder does. -/
def BC (P : Program) (T e : TypeId) (f : FuncId) (x : Value) (l : List UInt8) (u : Value) : Prop := ∀ N0 v bs w, BS T e N0 N0 v bs w → bs.length + l.length ≤ 140737488355328 → N0 ≤ w.heap.size →
  Calls P f #[.pointer (some ⟨N0, 0, none⟩), x] w fun e' w' => e' = .returned u ∧ ∃ v', BS T e N0 N0 v' (bs ++ Lib.byteCells l) w' ∧ BFr N0 v v' w w'
abbrev SK := Exit → Fr → List Ob → List UInt8 → Prop
def SK.thn (N : Fr → List Ob → List UInt8 → Prop) (K : SK) : SK
  | .normal, fr, S, acc => N fr S acc
  | e, fr, S, acc => K e fr S acc
def SK.blk (id : Nat) (K : SK) : SK
  | .exit j, fr, S, acc => if j = id then K .normal fr S acc else K (.exit j) fr S acc
  | e, fr, S, acc => K e fr S acc
structure Cx where
  P : Program
  T : TypeId
  e : TypeId
  n : Nat
  m : Nat
  bs : List Nat
  es : Nat
  nw : Nat
  hm : P.follows .mixedOrders = true
def SC (X : Cx) (g0 : Gh) (N0 : Nat) (fc : FC) (fr : Fr) (S : List Ob) (acc : List UInt8) (K : SK) : Prop :=
  ∀ c, resCode X.P X.n c = some fc → bchk X.P X.n X.bs X.es X.nw X.T c = true → ∀ a w, AtS X.T X.e g0 N0 X.n X.m S fr acc a w →
    c.wp X.P (fun e' a' w' => ∃ fr' S' acc', AtS X.T X.e g0 N0 X.n X.m S' fr' acc' a' w' ∧ K e' fr' S' acc') a w
section
variable {X : Cx} {g0 : Gh} {N0 : Nat} (he : Ent g0 N0) {fr : Fr} {S : List Ob} {acc : List UInt8} {K : SK}
theorem S_mono {fc : FC} {K K' : SK} (h : SC X g0 N0 fc fr S acc K) (hk : ∀ e fr S acc, K e fr S acc → K' e fr S acc) : SC X g0 N0 fc fr S acc K' := fun c hr hb a w hat =>
  wp_mono (h c hr hb a w hat) (fun e a' w' ⟨fr', S', acc', h1, h2⟩ => ⟨fr', S', acc', h1, hk _ _ _ _ h2⟩)
include he
theorem S_pure {fc : FC} (h : VC X.P S fc fr S (fun e' fr' S' => hp S' X.m = .arr 0 [] ∧ K e' fr' S' acc)) : SC X g0 N0 fc fr S acc K := by
  intro c hr hb a w hat
  obtain ⟨g1, h1, h2⟩ := hat.in he
  refine wp_mono (VC_wp X.hm c fc hr fr S _ h a w h1) (fun e' a' w' hq => ?_)
  obtain ⟨fr', S', hat', hS, hk⟩ := hq
  exact ⟨fr', S', acc, h2 _ _ _ _ hS hat', hk⟩
theorem AtS.wk {T e n m} {fr fr' : Fr} {S S' : List Ob} {a w} (hw : Wk S fr S fr' S') (hm : hp S' m = .arr 0 []) (h : AtS T e g0 N0 n m S fr acc a w) : AtS T e g0 N0 n m S' fr' acc a w := by
  obtain ⟨g1, h1, h2⟩ := h.in he
  exact h2 _ _ _ _ hm (hw _ _ _ _ h1)
theorem S_wk {fc : FC} {fr' : Fr} {S' : List Ob} (hw : Wk S fr S fr' S') (hm : hp S' X.m = .arr 0 []) (h : SC X g0 N0 fc fr' S' acc K) : SC X g0 N0 fc fr S acc K := by
  intro c hr hb a w hat
  exact h c hr hb a w (AtS.wk he hw hm hat)
omit he in
theorem S_seq {x y : FC} (h : SC X g0 N0 x fr S acc (SK.thn (fun fr' S' acc' => SC X g0 N0 y fr' S' acc' K) K)) : SC X g0 N0 (.seq x y) fr S acc K := by
  intro c hr hb a w hat
  obtain ⟨c1, c2, rfl, h1, h2⟩ := inv_seq hr
  simp only [bchk, Bool.and_eq_true] at hb
  refine wp_seq (wp_mono (h c1 h1 hb.1 a w hat) (fun e' a' w' hq => ?_))
  obtain ⟨fr', S', acc', hat', hk⟩ := hq
  cases e' with
  | normal => exact hk c2 h2 hb.2 a' w' hat'
  | _ => exact ⟨fr', S', acc', hat', hk⟩
omit he in
theorem S_cond {q : Opd} {x y : FC} {t : Bool} (ht : ev (Fr.get fr) q = .bool t) (h1 : t = true → SC X g0 N0 x fr S acc K) (h2 : t = false → SC X g0 N0 y fr S acc K) : SC X g0 N0 (.cond q x y) fr S acc K := by
  intro c hr hb a w hat
  obtain ⟨u, c1, c2, rfl, hq, hr1, hr2⟩ := inv_cond hr
  simp only [bchk, Bool.and_eq_true] at hb
  obtain ⟨g, v, _, _, hf, _⟩ := hat.ex
  have hcv := rOpd_VR hf hq
  rw [ht] at hcv
  generalize hae : a.eval u = z at hcv
  cases hcv
  refine wp_cond_split hae (fun e => ?_) (fun e => ?_)
  · exact h1 e c1 hr1 hb.1 a w hat
  · exact h2 e c2 hr2 hb.2 a w hat
omit he in
theorem S_block {id : Nat} {x : FC} (h : SC X g0 N0 x fr S acc (SK.blk id K)) : SC X g0 N0 (.block id x) fr S acc K := by
  intro c hr hb a w hat
  obtain ⟨c1, rfl, h1⟩ := inv_block hr
  refine wp_block (wp_mono (h c1 h1 hb a w hat) (fun e' a' w' hq => ?_))
  obtain ⟨fr', S', acc', hat', hk⟩ := hq
  cases e' with
  | exit j =>
    simp only [Exit.inBlock, SK.blk] at hk ⊢
    split
    · rename_i e; rw [if_pos e] at hk; exact ⟨fr', S', acc', hat', hk⟩
    · rename_i e; rw [if_neg e] at hk; exact ⟨fr', S', acc', hat', hk⟩
  | _ => exact ⟨fr', S', acc', hat', hk⟩
theorem S_loop {x : FC} {ι : Type} (F : ι → Fr) (A : ι → List UInt8) (Z : ι → List Ob) (Pr : ι → Prop) (μ : ι → Nat) {i0 : ι} (hp0 : Pr i0) (hA : A i0 = acc) (hm0 : hp (Z i0) X.m = .arr 0 []) (hwk : Wk S fr S (F i0) (Z i0))
    (hrd : ∀ i, Pr i → SC X g0 N0 x (F i) (Z i) (A i) (SK.thn (fun fr' S' acc' => ∃ i', Pr i' ∧ μ i' < μ i ∧ acc' = A i' ∧ hp (Z i') X.m = .arr 0 [] ∧ Wk S' fr' S' (F i') (Z i')) K)) : SC X g0 N0 (.loop x) fr S acc K := by
  intro c hr hb a w hat
  obtain ⟨c1, rfl, h1⟩ := inv_loop hr
  refine wp_loop_ix (fun i a w => Pr i ∧ AtS X.T X.e g0 N0 X.n X.m (Z i) (F i) (A i) a w) μ (fun i a w hI => ?_) (i0 := i0) ⟨hp0, AtS.wk he hwk hm0 (by rw [hA]; exact hat)⟩
  refine wp_mono (hrd i hI.1 c1 h1 hb a w hI.2) (fun e' a' w' hq => ?_)
  obtain ⟨fr', S', acc', hat', hk⟩ := hq
  cases e' with
  | normal =>
    obtain ⟨i', k1, k2, rfl, k3, k4⟩ := hk
    exact ⟨i', ⟨k1, AtS.wk he k4 k3 hat'⟩, k2⟩
  | _ => exact ⟨fr', S', acc', hat', hk⟩
/-- A call on the builder, last in its region. -/
theorem S_call {rs : List ROper} {ps} {d : Option Nat} {f : FuncId} {qs : List Opd} (hfb : X.bs.contains f = true)
    (h : VC X.P S (.reg rs ps) fr S (fun e' fr' S' => hp S' X.m = .arr 0 [] ∧ ∃ (V : AV) (x : Value) (l : List UInt8) (u : Value) (U : AV), BC X.P X.T X.e f x l u ∧ (∀ (pm : Pm) (L : Nat → Loc) (σ : Hp) y, VR pm L σ V y → y = x) ∧ (∀ (pm : Pm) (L : Nat → Loc) (σ : Hp), VR pm L σ U u) ∧
      evL (Fr.get fr') qs = [.ptr X.m 0 0, V] ∧ acc.length + l.length ≤ 140737488355328 ∧ K .normal (putF fr' d U) S' (acc ++ l))) :
    SC X g0 N0 (.reg (rs ++ [⟨d, none, .call f qs⟩]) ps) fr S acc K := by
  intro c hr hb a w hat
  obtain ⟨id, ops, dr, rfl, hrs, hd0, hd1⟩ := inv_reg hr
  obtain ⟨l1, l2, hl, e1, e2⟩ := resOpers_app hrs
  obtain ⟨o, rfl, ho⟩ : ∃ o, l2 = [o] ∧ resOper X.P X.n ops o = some ⟨d, none, .call f qs⟩ := by
    match l2, e2 with
    | [], e2 => simp [resOpers] at e2
    | o :: r, e2 =>
      simp only [resOpers] at e2
      split at e2
      · rename_i x xs h1 h2
        simp only [Option.some.injEq, List.cons.injEq] at e2
        obtain ⟨rfl, rfl⟩ := e2
        match r, h2 with
        | [], _ => exact ⟨o, rfl, h1⟩
        | q :: r, h2 =>
          simp only [resOpers] at h2
          split at h2 <;> cases h2
      · cases e2
  obtain ⟨hc, hdst, hdn, hgd⟩ := resOper_eq ho
  simp only at hc hdst
  have hgn : o.guard = none := by
    cases hg : o.guard with
    | none => rfl
    | some p => obtain ⟨j, b⟩ := p; rw [hg] at hgd; obtain ⟨t, _, h2⟩ := hgd; cases h2
  obtain ⟨g1, hat1, hback⟩ := hat.in he
  have hv := h
  simp only [VC] at hv
  -- the call itself
  have fin : ∀ (Q : Exit → Act → World → Prop), (∀ fr' S2 acc' a' w', AtS X.T X.e g0 N0 X.n X.m S2 fr' acc' a' w' → K .normal fr' S2 acc' → Q .normal a' w') → ∀ fr' S' a' w', (hp S' X.m = .arr 0 [] ∧ ∃ (V : AV) (x : Value) (l : List UInt8) (u : Value) (U : AV), BC X.P X.T X.e f x l u ∧ (∀ (pm : Pm) (L : Nat → Loc) (σ : Hp) y, VR pm L σ V y → y = x) ∧ (∀ (pm : Pm) (L : Nat → Loc) (σ : Hp), VR pm L σ U u) ∧
      evL (Fr.get fr') qs = [.ptr X.m 0 0, V] ∧ acc.length + l.length ≤ 140737488355328 ∧ K .normal (putF fr' d U) S' (acc ++ l)) → At g1 (hp S) X.n (Fr.get fr') (hp S') a' w' → o.wp X.P a' w' (Q .normal) Q := by
    rintro Q hQ fr' S' a' w' ⟨hmm, V, x, l, u, U, hbc, hV, hU, hev, hlen, hk⟩ hat'
    obtain ⟨df, _, g, v, hle, hw, hf, hL, hB, hpm, hob⟩ := hback _ _ _ _ hmm hat'
    refine call_wp hc hf (fun vals hvals => ?_)
    rw [hev] at hvals
    obtain ⟨y1, y2, rfl, hy1, hy2⟩ := vals_two hvals
    obtain rfl := hV _ _ _ _ hy2
    cases hy1 with
    | ptr hptr =>
      rename_i ad
      have : ad = ⟨N0, 0, none⟩ := by
        unfold PtrOK at hptr
        rw [hmm] at hptr
        have := (hptr.2 rfl)
        rw [hL] at this
        simpa using this
      subst this
      refine (hbc N0 v _ w' hB (by rw [Lib.byteCells_length]; exact hlen) (by have := hB.lt; omega)).mono ?_
      rintro e' w2 ⟨rfl, v', hB', hF⟩
      rw [← Lib.byteCells_append] at hB'
      refine ⟨_, rfl, hQ (putF fr' d U) S' (acc ++ l) _ _ ?_ hk⟩
      rw [hdst]
      exact AtS.after he df hmm hle hw hf hL hB hpm hob hB' hF hdn (hU _ _ _)
  have hsz : ops.size = l1.length + 1 := by have := congrArg List.length hl; simpa using this
  have hlast : ops.toList.dropLast = l1 := by rw [hl]; simp
  cases dr with
  | false =>
    obtain rfl := hd0 rfl
    refine wp_region ?_
    rw [List.range_eq_range', hsz, show List.range' 0 (l1.length + 1) = List.range' 0 l1.length ++ [l1.length] by rw [List.range'_1_concat]; simp]
    refine VCops_wp2 (g0 := g1) (σ0 := hp S) (K := fun fr' S' _ => _) l1 rs 0 fr S [] a w (fun j q hj => ?_) e1 hv hat1 (fun fr' S' log a' w' hk hat' => ?_)
    · have : ops.toList[j]? = some q := by rw [hl, List.getElem?_append_left (List.getElem?_eq_some_iff.1 hj).1]; exact hj
      rw [Nat.zero_add, ← Array.getElem?_toList]; exact this
    · have hoi : ops[l1.length]? = some o := by rw [← Array.getElem?_toList, hl]; simp
      simp only [wpOps, hoi]
      rw [if_pos (by unfold Region.wanted; rw [hgn])]
      exact .inl (fin (fun e' a' w' => ∃ fr' S2 acc', AtS X.T X.e g0 N0 X.n X.m S2 fr' acc' a' w' ∧ K e' fr' S2 acc') (fun fr' S2 acc' a' w' h1 h2 => ⟨fr', S2, acc', h1, h2⟩) fr' S' a' w' hk.2 hat')
  | true =>
    obtain ⟨hps, hdok⟩ := hd1 rfl
    simp only [bchk, Bool.true_and, Bool.and_eq_true, Bool.or_eq_true, Bool.not_eq_true'] at hb
    have hlf : lastF X.P X.bs ops.toList = true := by
      unfold lastF
      rw [hl, List.getLast?_concat]
      simp only [hc]
      exact hfb
    have hreg : regOK X.P X.n ops = true := by
      rcases hb.1.1 with h | h
      · rw [hlf] at h; cases h
      · exact h
    unfold regOK at hreg
    rw [hlast] at hreg
    simp only [Bool.and_eq_true, List.all_eq_true, List.mem_range] at hreg
    obtain ⟨⟨hg, hord⟩, hrr⟩ := hreg
    have hg' : ∀ q ∈ ops.toList, q.guard = none := fun q hq => by simpa using hg q hq
    have hf1 : resOpers X.P X.n l1.toArray l1 = some rs := resOpers_free e1 (fun q hq => hg' q (by rw [hl]; simp [hq]))
    rw [hrs, hf1] at hrr
    simp only [Bool.and_eq_true, beq_iff_eq] at hrr
    obtain ⟨hdo, hpp⟩ := hrr
    rw [hps] at hv
    rw [hpp] at hv
    refine wp_region_any X.hm ?_
    have hlt := (drawOK_get hdok (by have := (resOpers_get hrs).1; omega)).1
    have hno : ∀ k i, ¬ listedP (Array.replicate k false) i := fun k i => by
      unfold listedP
      simp only [Array.getD_eq_getD_getElem?, Array.getElem?_replicate]
      split <;> simp
    rw [hsz]
    refine last_any hl hlt hord hg' l1.length (Array.replicate (l1.length + 1) false) (Array.replicate l1.length false) a _ (by simp) (by simp) (fun i hi => ⟨fun h => absurd h (hno _ _), fun h => absurd h (hno _ _)⟩) (hno _ _) (fun i q _ hi => absurd hi (hno _ _)) ?_
    have := draw_any0 (ops := l1.toArray) (Q := thenOp X.P o (fun e' a' w' => ∃ fr' S2 acc', AtS X.T X.e g0 N0 X.n X.m S2 fr' acc' a' w' ∧ K e' fr' S2 acc')) (by simpa using hf1) (by simpa using hdo) hv hat1 (fun fr' S' a' w' hk hat' => fin (fun e' a' w' => ∃ fr' S2 acc', AtS X.T X.e g0 N0 X.n X.m S2 fr' acc' a' w' ∧ K e' fr' S2 acc') (fun fr' S2 acc' a' w' h1 h2 => ⟨fr', S2, acc', h1, h2⟩) fr' S' a' w' hk hat')
    simpa using this
end
end Go.Ab
/- Rules for code that uses a builder of its own: the builder's making, its end, a function's result. -/
namespace Go.Ab
set_option linter.constructorNameAsVariable false
set_option linter.unusedSimpArgs false
set_option linter.unusedVariables false
open Go.RowKit Go.Proofs
set_option linter.unusedVariables false
set_option linter.unusedSimpArgs false
theorem hp_nil' : hp [] = noHp := by funext o; simp [hp, noHp]
/-- Code ahead of the builder's making. -/
theorem wp_pre {P : Program} (hm : P.follows .mixedOrders = true) {n : Nat} {g0 : Gh} {S0 : List Ob} {x y : FC} {fr : Fr} {S : List Ob} {K : Post} {c : Code} (hr : resCode P n c = some (.seq x y)) {B : Code → Bool} (hB : ∀ a b, B (.seq a b) = true → B b = true) (hb : B c = true)
    {N : Fr → List Ob → Prop} {a : Act} {w : World} (hat : At g0 (hp S0) n (Fr.get fr) (hp S) a w) (hv : VC P S0 x fr S (Post.thn N K))
    (hn : ∀ fr' S' c2 a' w', N fr' S' → resCode P n c2 = some y → B c2 = true → At g0 (hp S0) n (Fr.get fr') (hp S') a' w' → c2.wp P (QK g0 S0 n K) a' w') : c.wp P (QK g0 S0 n K) a w := by
  obtain ⟨c1, c2, rfl, h1, h2⟩ := inv_seq hr
  refine wp_seq (wp_mono (VC_wp hm c1 x h1 fr S _ hv a w hat) (fun e a' w' hq => ?_))
  obtain ⟨fr', S', hat', hk⟩ := hq
  cases e with
  | normal => exact hn fr' S' c2 a' w' hk h2 (hB _ _ hb) hat'
  | _ => exact ⟨fr', S', hat', hk⟩
/-- The builder is made. -/
theorem new_wp {X : Cx} {zc : List AV} (hz : ∀ w, (zeroValue X.T).run X.P w = .ok (.agg #[.pointer none, .slice none 0 0]) w) {c : Code} (hr : resCode X.P X.n c = some (.reg [⟨some X.nw, none, .op (.new zc)⟩] [])) (hb : bchk X.P X.n X.bs X.es X.nw X.T c = true)
    {g0 : Gh} {fr : Fr} {a : Act} {w : World} {S : List Ob} (hS : hp S X.m = .virgin) (hat0 : At g0 (hp []) X.n (Fr.get fr) (hp S) a w)
    {Q : Exit → Act → World → Prop} (hQ : ∀ N0 a' w', Ent g0 N0 → AtS X.T X.e g0 N0 X.n X.m (apS S (some (X.m, .arr 0 []))) ((X.nw, .ptr X.m 0 0) :: fr) [] a' w' → Q .normal a' w') : c.wp X.P Q a w := by
  have hat : At g0 noHp X.n (Fr.get fr) (hp S) a w := by rw [← hp_nil']; exact hat0
  obtain ⟨id, ops, d, rfl, hrs, _, _⟩ := inv_reg hr
  obtain ⟨o, hl, ho⟩ : ∃ o, ops.toList = [o] ∧ resOper X.P X.n ops o = some ⟨some X.nw, none, .op (.new zc)⟩ := by
    generalize ops.toList = l at hrs
    match l, hrs with
    | [], h => simp [resOpers] at h
    | o :: r, h =>
      simp only [resOpers] at h
      split at h
      · rename_i x xs h1 h2
        simp only [Option.some.injEq, List.cons.injEq] at h
        obtain ⟨rfl, rfl⟩ := h
        match r, h2 with
        | [], _ => exact ⟨o, rfl, h1⟩
        | q :: r, h2 =>
          simp only [resOpers] at h2
          split at h2 <;> cases h2
      · cases h
  obtain ⟨hc, hdst, hdn, hgd⟩ := resOper_eq ho
  simp only at hdst
  have hgn : o.guard = none := by
    cases hg : o.guard with
    | none => rfl
    | some p => obtain ⟨j, b⟩ := p; rw [hg] at hgd; obtain ⟨t, _, h2⟩ := hgd; cases h2
  simp only [bchk, Bool.and_eq_true, hl, List.all_cons, List.all_nil, Bool.and_true, ← hdst] at hb
  have hop : o.op = .alloc X.T ∧ d = false := by
    have h := hb.2
    simp only [bne_self_eq_false, Bool.false_or] at h
    split at h
    · rename_i t e
      simp only [Bool.and_eq_true, beq_iff_eq, Bool.not_eq_true'] at h
      exact ⟨by rw [e, h.1], h.2⟩
    · cases h
  obtain ⟨hop, rfl⟩ := hop
  refine wp_region ?_
  have hsz : ops.size = 1 := by have := congrArg List.length hl; simpa using this
  have hoi : ops[0]? = some o := by rw [← Array.getElem?_toList, hl]; rfl
  rw [hsz]
  show wpOps X.P ops Q [0] a w
  simp only [wpOps, hoi]
  rw [if_pos (by unfold Region.wanted; rw [hgn])]
  refine .inl ?_
  obtain ⟨df, g, hle, hw, hf⟩ := hat
  have hex : (execOp a.eval o).run X.P w = .ok (.value (.pointer (some ⟨w.heap.size, 0, none⟩))) (w.alloc (.cells #[.pointer none, .slice none 0 0] X.T)) := by
    unfold execOp
    simp [hop, Instr.alloc, hz, newVar, newRow, Value.cells]
  unfold Oper.wp
  rw [hex]
  have hw1 := hw.alloc_none (.cells #[.pointer none, .slice none 0 0] X.T)
  obtain ⟨hw2, hle2⟩ := hw1.own (o := X.m) (l := ⟨w.heap.size, 0, 0⟩) (ver := 0) (cs := []) (by rw [hS]; trivial) (fun h => absurd h (by simp)) (Nat.le_refl _) (fun j hj => absurd hj (by simp)) (fun j hj => absurd hj (by simp)) (fun j hj => absurd hj (by simp)) (fun j hj => absurd hj (by simp)) (fun o' ver' cs' _ e _ j j' _ hj' => absurd hj' (by simp))
  have hσ : upd (hp S) X.m (.arr 0 []) = hp (apS S (some (X.m, .arr 0 []))) := by rw [hp_apS]; rfl
  rw [hσ] at hw2 hle2
  have hent : Ent g0 w.heap.size := ⟨fun k o x hx => hw.pm_lt (hle.ext.pm _ _ _ hx), fun k o x hx => hw.tm_lt (by rw [hle.tm]; exact hx), by have := hw.B0; rw [hle.B0] at this; exact this, by have := hw.low.size; rw [hle.w0] at this; exact this⟩
  refine hQ w.heap.size _ _ hent ⟨by rw [← hdst]; exact df, by rw [← hσ]; simp [upd], _, .slice none 0 0, hle.trans hle2, hw2, ?_, by simp, BS.fresh X.T X.e w, fun k o hk => ?_, fun o ver cs ho hc hb => ?_⟩
  · rw [← hdst]
    have hf2 : FRel _ (hp (apS S (some (X.m, .arr 0 [])))) X.n (Fr.get fr) a := ⟨hf.size, fun t => (hf.get t).mono hle2.ext⟩
    have hmm : hp (apS S (some (X.m, .arr 0 []))) X.m = .arr 0 [] := by rw [← hσ]; simp [upd]
    have := hf2.put (hdn _ hdst.symm) (v := .ptr X.m 0 0) (u := .pointer (some ⟨w.heap.size, 0, none⟩)) (.ptr (by unfold PtrOK; rw [hmm]; exact ⟨Nat.le_refl _, fun _ => by simp⟩))
    have e1 : upd (Fr.get fr) X.nw (.ptr X.m 0 0) = Fr.get ((X.nw, .ptr X.m 0 0) :: fr) := by rw [Fr.get_cons]
    rw [← e1]
    exact this
  · rcases hk with rfl | hk
    · exact hw.pm_new _
    · simp [Value.ownBlock] at hk
  · by_cases ho' : o = X.m
    · subst ho'; simp at hc
    · rw [← hσ, upd_ne _ _ ho'] at ho
      simp only [upd_ne _ _ ho'] at hc hb
      obtain ⟨x, hx, _⟩ := (hw.ob o ver cs ho).there 0 hc
      have h1 := lt_of_cell hx
      simp only at h1
      rcases hb with h | h
      · omega
      · simp [Value.ownBlock] at h
/-- What a builder's String gives. -/
def SEb (P : Program) (T e : TypeId) (f : FuncId) : Prop := ∀ N0 v l w, BS T e N0 N0 v (Lib.byteCells l) w → Calls P f #[.pointer (some ⟨N0, 0, none⟩)] w fun e' w' => e' = .returned (.string ⟨l.toArray⟩) ∧ Below N0 w w'
theorem end_wp {X : Cx} {g0 : Gh} {N0 : Nat} (he : Ent g0 N0) (hse : SEb X.P X.T X.e X.es) {d : Nat} {q : Opd} {rs : List ROper} {b : FC} {c : Code} (hr : resCode X.P X.n c = some (.seq (.reg (⟨some d, none, .call X.es [q]⟩ :: rs) []) b)) (hb : bchk X.P X.n X.bs X.es X.nw X.T c = true)
    {fr : Fr} {acc : List UInt8} {a : Act} {w : World} {S : List Ob} (hat : AtS X.T X.e g0 N0 X.n X.m S fr acc a w) (hq : ev (Fr.get fr) q = .ptr X.m 0 0) {K : Post} (h : VC X.P [] (.seq (.reg rs []) b) [(d, .str ⟨acc.toArray⟩)] [] K) : c.wp X.P (QK g0 [] X.n K) a w := by
  obtain ⟨c1, c2, rfl, h1, h2⟩ := inv_seq hr
  simp only [bchk, Bool.and_eq_true] at hb
  have hv : VC X.P [] (.reg rs []) [(d, .str ⟨acc.toArray⟩)] [] (Post.thn (fun fr' S' => ∃ F T, Wk [] fr' S' F T ∧ VC X.P [] b F T K) K) := h
  refine wp_seq ?_
  obtain ⟨id, ops, dr, rfl, hrs, _, _⟩ := inv_reg h1
  obtain ⟨o, l, hl, ho, hrest⟩ : ∃ o l, ops.toList = o :: l ∧ resOper X.P X.n ops o = some ⟨some d, none, .call X.es [q]⟩ ∧ resOpers X.P X.n ops l = some rs := by
    generalize ops.toList = l at hrs
    match l, hrs with
    | [], h => simp [resOpers] at h
    | o :: r, h =>
      simp only [resOpers] at h
      split at h
      · rename_i x xs e1 e2
        simp only [Option.some.injEq, List.cons.injEq] at h
        obtain ⟨rfl, rfl⟩ := h
        exact ⟨o, r, rfl, e1, e2⟩
      · cases h
  obtain ⟨hc, hdst, hdn, hgd⟩ := resOper_eq ho
  simp only at hc hdst
  have hgn : o.guard = none := by
    cases hg : o.guard with
    | none => rfl
    | some p => obtain ⟨j, b⟩ := p; rw [hg] at hgd; obtain ⟨t, _, h2⟩ := hgd; cases h2
  have hd : dr = false := by
    have h3 := hb.1
    simp only [bchk, Bool.and_eq_true, Bool.not_eq_true', Bool.and_eq_false_iff] at h3
    rcases h3.1.2 with h3 | h3
    · exact h3
    · exfalso
      unfold firstF at h3
      rw [hl] at h3
      simp [hc] at h3
  subst hd
  refine wp_region ?_
  have hsz : ops.size = l.length + 1 := by have := congrArg List.length hl; simpa using this
  have hoi : ops[0]? = some o := by rw [← Array.getElem?_toList, hl]; rfl
  rw [List.range_eq_range', hsz, List.range'_succ]
  simp only [wpOps, hoi]
  rw [if_pos (by unfold Region.wanted; rw [hgn])]
  refine .inl ?_
  obtain ⟨df, hmm, g, v, hle, hw, hf, hL, hB, hpm, hob⟩ := hat
  refine call_wp hc hf (fun vals hvals => ?_)
  have hev : evL (Fr.get fr) [q] = [.ptr X.m 0 0] := by simp [evL, hq]
  rw [hev] at hvals
  obtain ⟨u, rfl, hu⟩ : ∃ u, vals = #[u] ∧ VR g.pm g.L (hp S) (.ptr X.m 0 0) u := by
    obtain ⟨hs, hvv⟩ := hvals
    obtain ⟨ll⟩ := vals
    match ll, hs with
    | [u], _ => exact ⟨u, rfl, hvv 0 (by simp) (by simp)⟩
  cases hu with
  | ptr hptr =>
    rename_i ad
    have : ad = ⟨N0, 0, none⟩ := by
      unfold PtrOK at hptr
      rw [hmm] at hptr
      have := hptr.2 rfl
      rw [hL] at this
      simpa using this
    subst this
    refine (hse N0 v acc w hB).mono ?_
    rintro e' w2 ⟨rfl, hbel⟩
    refine ⟨_, rfl, ?_⟩
    have kp : ∀ k, k < N0 → w2.heap[k]? = w.heap[k]? := fun k hk => hbel.block k hk
    have hw2 : WRel g0 noHp w2 := by
      refine ⟨fun k o x hx => ?_, fun k o x hx => ?_, fun k o x hx => ?_, fun k o x hx => ?_, ?_, ?_, ?_, ?_, fun o ver cs e => (by simp [noHp] at e), fun o o' v v' c c' e => (by simp [noHp] at e), fun o es it e => (by simp [noHp] at e), fun o o' es es' it it' e => (by simp [noHp] at e)⟩
      · rw [cell_same (kp k (he.pm k o x hx))]; exact hw.pm _ _ _ (hle.ext.pm _ _ _ hx)
      · rw [cell_same (kp k (he.tm k o x hx))]; exact hw.tm _ _ _ (by rw [hle.tm]; exact hx)
      · rw [fz_same (kp k (he.tm k o x hx))]; exact hw.tmf k o x (by rw [hle.tm]; exact hx)
      · have := hw.disj k o x (hle.ext.pm _ _ _ hx); rw [hle.tm] at this; exact this
      · have := hw.low; rw [hle.B0, hle.w0] at this; exact this.trans (hbel.mono he.B0)
      · have := hw.B0; rw [hle.B0] at this; exact Nat.le_trans this hbel.size
      · have := hw.tab; rw [hle.B0, hle.w0] at this; exact this
      · have hbk := hw.bk
        rw [hle.w0] at hbk
        intro b' c' t' fz' e0
        obtain ⟨c1, e1, s1⟩ := hbk b' c' t' fz' e0
        have h1 := get_lt e0
        have h2 := he.w0
        exact ⟨c1, by rw [kp b' (by omega)]; exact e1, s1⟩
    have hf0 : FRel g0 noHp X.n (Fr.get []) a := ⟨hf.size, fun t => .junk⟩
    have hat2 : At g0 (hp []) X.n (Fr.get [(d, .str ⟨acc.toArray⟩)]) (hp []) (a.put o.dst (.string ⟨acc.toArray⟩)) w2 := by
      refine ⟨by rw [← hdst]; exact df, g0, by rw [hp_nil']; exact Gh.le.refl _ _, by rw [hp_nil']; exact hw2, ?_⟩
      rw [← hdst]
      have := hf0.put (hdn d hdst.symm) (v := .str ⟨acc.toArray⟩) (u := .string ⟨acc.toArray⟩) .str
      have e1 : upd (Fr.get []) d (.str ⟨acc.toArray⟩) = Fr.get [(d, .str ⟨acc.toArray⟩)] := by rw [Fr.get_cons]
      rw [e1] at this
      exact this
    have hv2 := hv
    simp only [VC] at hv2
    refine VCops_wp (g0 := g0) (σ0 := hp []) (K := fun fr' S' _ => _) l rs 1 _ [] [] _ _ (fun j q hj => ?_) hrest hv2 hat2 (fun fr' S' log a' w' hk hat' => ?_)
    · have : ops.toList[1 + j]? = some q := by rw [hl, Nat.add_comm]; exact hj
      rw [← Array.getElem?_toList]; exact this
    · obtain ⟨_, F, Tn, hwk, hk⟩ := hk
      exact VC_wp X.hm c2 b h2 F Tn _ hk a' w' (hwk _ _ _ _ hat')
theorem PureEv_wp {X : Cx} {f : Nat} {ts : List RS} {fc : FC} (hfn : Fn3 X.P f X.n ts fc) {args : List AV} (hn : args.length ≤ X.n) {r : AV} (hck : ∀ fn c, X.P.funcs[f]? = some fn → fn.body = some c → bchk X.P X.n X.bs X.es X.nw X.T c = true)
    (h : ∀ c g0 a w, resCode X.P X.n c = some fc → bchk X.P X.n X.bs X.es X.nw X.T c = true → At g0 (hp []) X.n (Fr.get (initFr 0 args)) (hp []) a w →
      c.wp X.P (QK g0 [] X.n (fun e fr S => isRet e ∧ hp S = noHp ∧ retR noHp (Fr.get fr) ts r)) a w) : PureEv X.P f args r := by
  intro g w vals hw hvs
  obtain ⟨fn, c, hf, hb, hnt, hrs, hrc⟩ := hfn.ex
  refine calls_of_wp hf hb ?_
  rw [hnt]
  refine wp_mono (h c g _ w hrc (hck fn c hf hb) (by rw [hp_nil']; exact At_init hw hvs hn)) (fun e a' w' hq => ?_)
  obtain ⟨fr1, S1, ⟨hd, g1, hle1, hw1, hf1⟩, he, hS, hret⟩ := hq
  rw [hp_nil'] at hle1
  rw [hS] at hle1 hw1 hf1
  obtain ⟨u, hu, hvu⟩ := resultsX_ok hw1 hf1 hrs hret
  have hfin : a'.defers = [] ∧ ∃ v, (results fn a'.tmps).run X.P w' = .ok v w' ∧ ∃ u g', Ending.returned v = .returned u ∧ g.le noHp g' noHp ∧ WRel g' noHp w' ∧ VR g'.pm g'.L noHp r u :=
    ⟨hd, u, hu, u, g1, rfl, hle1, hw1, hvu⟩
  cases e with
  | normal => exact hfin
  | ret => exact hfin
  | _ => exact he.elim
end Go.Ab
/- Contracts of the kit's shelf as facts on abstract values: strings.Join, Split, Cut, ReplaceAll, Repeat, how many digits a number has. -/
namespace Go.Ab
set_option linter.constructorNameAsVariable false
set_option linter.unusedSimpArgs false
set_option linter.unusedVariables false
open Go.RowKit
set_option linter.unusedVariables false
set_option linter.unusedSimpArgs false
theorem WRel.tabIs {g σ} {w : World} (h : WRel g σ w) {P : Program} {nm : String} {k : IntKind} {zs : List Int} {b : Nat} (hg : P.globalNamed nm = some b) (ht : tabOf b = some fun cs => cs = (zs.map fun z => Value.int k z).toArray) : Lib.TabIs P w nm k zs := by
  obtain ⟨hb, cs, t, fz, e, q⟩ := h.tab b _ ht
  subst q
  unfold Lib.TabIs World.var?
  rw [hg, Option.bind_some, h.low.block b hb, e]
theorem WRel.tabCell {g σ} {w : World} (h : WRel g σ w) {p : Array Value → Prop} {b : Nat} (ht : tabOf b = some p) : ∃ cs, p cs ∧ ∀ v, cs[0]? = some v → w.cell? ⟨b, 0, none⟩ = some v := by
  obtain ⟨hb, cs, t, fz, e, q⟩ := h.tab b _ ht
  refine ⟨cs, q, fun v hv => ?_⟩
  have := h.low.block b hb
  simp only [World.cell?, this, e]
  exact hv
theorem vals_three {g σ x y z vals} (h : VRs g σ [x, y, z] vals) : ∃ u v t, vals = #[u, v, t] ∧ VR g.pm g.L σ x u ∧ VR g.pm g.L σ y v ∧ VR g.pm g.L σ z t := by
  obtain ⟨hs, hv⟩ := h
  obtain ⟨l⟩ := vals
  match l, hs with
  | [u, v, t], _ => exact ⟨u, v, t, rfl, hv 0 (by simp) (by simp), hv 1 (by simp) (by simp), hv 2 (by simp) (by simp)⟩

def strings_Join_s (xs : List ByteArray) (sep : ByteArray) : Option ByteArray :=
  if xs.length ≤ 140737488355328 ∧ (Lib.join (xs.map (·.data.toList)) sep.data.toList).length ≤ 140737488355328 then
    some ⟨(Lib.join (xs.map (·.data.toList)) sep.data.toList).toArray⟩ else none

theorem join_gen {P : Program} {ρ : Go.Shelf.Ren} (L : Go.Proofs.Lays.n156 P ρ) (X : Go.Proofs.Builder.Extra P ρ) {xs : List ByteArray} {sep r : ByteArray} (h : strings_Join_s xs sep = some r) :
    PureEv P (ρ.f 156) [.sl false 1 (List.map avS xs), .str sep] (.str r) := by
  unfold strings_Join_s at h
  split at h
  case isFalse => cases h
  rename_i hl
  cases h
  intro g w vals hw hv
  obtain ⟨u, v, rfl, hu, hv⟩ := vals_two hv
  cases hv
  have fin : ∀ {e : Ending} {w' : World}, (e = .returned (.string ⟨(Lib.join (xs.map (·.data.toList)) sep.data.toList).toArray⟩) ∧ Below w.heap.size w w') →
      ∃ u g', e = .returned u ∧ g.le noHp g' noHp ∧ WRel g' noHp w' ∧ VR g'.pm g'.L noHp (.str ⟨(Lib.join (xs.map (·.data.toList)) sep.data.toList).toArray⟩) u :=
    fun ⟨he, hb⟩ => ⟨_, g, he, Gh.le.refl _ _, hw.belowK hb, .str⟩
  by_cases hx : xs = []
  · subst hx
    have nn : ∀ a c, Calls P (ρ.f 156) #[.slice a 0 c, .string sep] w fun e w' => ∃ u g', e = .returned u ∧ g.le noHp g' noHp ∧ WRel g' noHp w' ∧ VR g'.pm g'.L noHp (.str ⟨(Lib.join (([] : List ByteArray).map (·.data.toList)) sep.data.toList).toArray⟩) u := fun a c =>
      (Go.Proofs.Any.strings_Join_none L X a c sep w).mono fun e w' ⟨he, hb⟩ => fin ⟨he, hb ▸ Below.refl _ _⟩
    cases hu with
    | slnil => exact nn _ _
    | slz => exact nn _ _
    | sl us hc he hz hp hv => exact nn _ _
  · have hm : List.map avS xs ≠ [] := by simpa using hx
    generalize hys : List.map avS xs = ys at hu hm
    cases hu with
    | slnil => exact (hm rfl).elim
    | slz => exact (hm rfl).elim
    | @sl _ _ _ b o cap us hc he hz hp hq =>
      subst hys
      simp only [List.length_map] at hc ⊢
      have hcell : ∀ (j : Nat) x, xs[j]? = some x → w.cell? ⟨b, o + j, none⟩ = some (.string x) := by
        intro j x hj
        obtain ⟨hlt, hj⟩ := List.getElem?_eq_some_iff.mp hj
        have h1 := hw.pm _ _ _ (hp j 0 (by simpa using hlt) (by omega))
        have h2 := hq j (by simpa using hlt) 0 (by simp [avS, AV.cells])
        simp only [List.getElem_map, avS, AV.cells, List.getElem_cons_zero, hj] at h2
        generalize us j 0 = q at h1 h2
        cases h2
        rw [show o + j = o + j * 1 + 0 by omega]
        exact h1
      have hbk : b < w.heap.size := by
        obtain ⟨x, t, rfl⟩ := List.exists_cons_of_ne_nil hx
        exact lt_of_cell (hcell 0 x rfl)
      exact (Go.Proofs.Any.strings_Join L X b o cap xs sep w hcell hbk hl.1 hc hl.2).mono fun e w' k => fin k
/-- Strings in a new block, as a list that is frozen. -/
theorem VR.strs {pm L σ} {b : Nat} {xs : List ByteArray} (h : ∀ j, (hj : j < xs.length) → pm b j = some (.string xs[j])) : VR pm L σ (.sl false 1 (xs.map avS)) (.slice (some ⟨b, 0, none⟩) xs.length xs.length) := by
  have := VR.sl (pm := pm) (L := L) (σ := σ) (ex := false) (sz := 1) (xs := xs.map avS) (b := b) (o := 0) (cap := xs.length) (fun i _ => .string (xs.getD i ByteArray.empty)) (by simp) (fun h => by cases h) (fun i hi => by simp [avS, AV.cells])
    (fun i j hi hj => by
      have hi' : i < xs.length := by simpa using hi
      have : j = 0 := by omega
      subst this
      rw [show 0 + i * 1 + 0 = i by omega, h i hi']
      simp [hi'])
    (fun i hi j hj => by
      have hi' : i < xs.length := by simpa using hi
      simp only [List.getElem_map, avS, AV.cells, List.length_singleton] at hj
      have : j = 0 := by omega
      subst this
      simp only [List.getElem_map, avS, AV.cells, List.getElem_cons_zero, List.getD_eq_getElem?_getD, List.getElem?_eq_getElem hi', Option.getD_some]
      exact .str)
  simpa using this

def strings_Split_s (s sep : ByteArray) : Option (List ByteArray) :=
  if s.size < 4294967281 ∧ 1 ≤ sep.size then some (Lib.splitB sep 0 (Lib.countB s sep) s) else none

theorem split_gen {P : Program} {ρ : Go.Shelf.Ren} {s sep : ByteArray} {r : List ByteArray} (h : strings_Split_s s sep = some r) {b : Nat} (ht : tabOf b = some fun cs => ∃ m, cs[0]? = some (.int .i64 m)) (hb : ρ.g 1 = b)
    (L : Go.Proofs.Lays.n146 P ρ) (hi9 : (P.info? (ρ.t 9)).map (fun i => (i.zero, i.size, i.bytes)) = some (some (.string ByteArray.empty), 1, 16)) :
    PureEv P (ρ.f 146) [.str s, .str sep] (.sl false 1 (List.map avS r)) := by
  unfold strings_Split_s at h
  split at h
  case isFalse => cases h
  rename_i hl
  cases h
  intro g w vals hw hv
  obtain ⟨u, v, rfl, hu, hw2⟩ := vals_two hv
  cases hu; cases hw2
  obtain ⟨cs, ⟨m, hm⟩, hc⟩ := hw.tabCell ht
  subst hb
  refine (Go.Proofs.Any.strings_Split L hi9 s sep m w hl.1 (hc _ hm) hl.2).mono fun e w' ⟨he, hw'⟩ => ?_
  have hlen := Lib.splitB_all sep hl.2 0 _ s rfl
  generalize Lib.splitB sep 0 (Lib.countB s sep) s = xs at he hw' hlen ⊢
  obtain ⟨g', k1, k2, k3⟩ := hw.alloc_tell (xs.map Value.string).toArray (ρ.t 9)
  subst hw'
  refine ⟨_, g', he, k2, k1, ?_⟩
  rw [← hlen]
  exact VR.strs (fun j hj => by
    have := k3 j (by simpa using hj)
    simpa using this)


theorem cut_gen {P : Program} {ρ : Go.Shelf.Ren} (s sep : ByteArray) (hs : s.size < 4294967281) {b : Nat} (ht : tabOf b = some fun cs => ∃ m, cs[0]? = some (.int .i64 m)) (hb : ρ.g 1 = b) (L : Go.Proofs.Lays.n145 P ρ) :
    PureEv P (ρ.f 145) [.str s, .str sep] (.tup [.str ⟨(Lib.cut s.data.toList sep.data.toList).1.toArray⟩, .str ⟨(Lib.cut s.data.toList sep.data.toList).2.1.toArray⟩, .bool (Lib.cut s.data.toList sep.data.toList).2.2]) := by
  intro g w vals hw hv
  obtain ⟨u, v, rfl, hu, hw2⟩ := vals_two hv
  cases hu; cases hw2
  obtain ⟨cs, ⟨m, hm⟩, hc⟩ := hw.tabCell ht
  subst hb
  refine (Go.Proofs.Any.strings_Cut L s sep m w hs (hc _ hm)).mono fun e w' ⟨he, n, hw'⟩ => ?_
  subst hw'
  refine ⟨_, g, he, Gh.le.refl _ _, hw.belowK ⟨rfl, rfl, rfl, Nat.le_refl _, fun _ _ => rfl⟩, .tup (by simp) (fun j h1 h2 => ?_)⟩
  match j, h1 with
  | 0, _ => exact .str
  | 1, _ => exact .str
  | 2, _ => exact .bool
theorem replaceAll_gen {P : Program} {ρ : Go.Shelf.Ren} (s old new : ByteArray) (hs : s.size < 4294967281) (h1 : 1 ≤ old.size) (hlen : s.size + Lib.countB s old * new.size ≤ 140737488355328) {b : Nat} (ht : tabOf b = some fun cs => ∃ m, cs[0]? = some (.int .i64 m)) (hb : ρ.g 1 = b)
    (L : Go.Proofs.Lays.n155 P ρ) (X : Go.Proofs.Builder.Extra P ρ) : PureEv P (ρ.f 155) [.str s, .str old, .str new] (.str ⟨(Lib.replaceAll s.data.toList old.data.toList new.data.toList).toArray⟩) := by
  intro g w vals hw hv
  obtain ⟨u, v, t, rfl, hu, hw2, hw3⟩ := vals_three hv
  cases hu; cases hw2; cases hw3
  obtain ⟨cs, ⟨m, hm⟩, hc⟩ := hw.tabCell ht
  subst hb
  exact (Go.Proofs.Any.strings_ReplaceAll L X s old new m w hs (hc _ hm) h1 hlen).mono fun e w' ⟨he, hb⟩ => ⟨_, g, he, Gh.le.refl _ _, hw.belowK hb, .str⟩
theorem repeat_gen {P : Program} {ρ : Go.Shelf.Ren} (s : ByteArray) (c : Nat) (hc : c ≤ 9223372036854775807) (hlen : s.size * c ≤ 140737488355328) (L : Go.Proofs.Lays.n105 P ρ) (X : Go.Proofs.Builder.Extra P ρ) :
    PureEv P (ρ.f 105) [.str s, .int .i64 c] (.str ⟨(Lib.repeatL s.data.toList c).toArray⟩) := by
  intro g w vals hw hv
  obtain ⟨u, v, rfl, hu, hw2⟩ := vals_two hv
  cases hu; cases hw2
  exact (Go.Proofs.Any.strings_Repeat L X s c w hc hlen).mono fun e w' ⟨he, hb⟩ => ⟨_, g, he, Gh.le.refl _ _, hw.belowK hb, .str⟩
theorem pow_tab : Lib.pow10Tab = pow10T := by decide +kernel
theorem digits_gen {P : Program} {ρ : Go.Shelf.Ren} (u : Nat) (h1 : 1 ≤ u) (h2 : u < 18446744073709551616) {b : Nat} (hg : P.globalNamed "internal/strconv.uint64pow10" = some b) (ht : tabOf b = some fun cs => cs = (pow10T.map fun z => Value.int .u64 z).toArray) (L : Go.Proofs.LaysM.n284 P ρ) :
    PureEv P (ρ.f 284) [.int .u64 u] (.int .i64 (Lib.nDigits u)) := by
  intro g w vals hw hv
  obtain ⟨x, rfl, hx⟩ : ∃ x, vals = #[x] ∧ VR g.pm g.L noHp (.int .u64 u) x := by
    obtain ⟨hs, hvv⟩ := hv
    obtain ⟨l⟩ := vals
    match l, hs with
    | [x], _ => exact ⟨x, rfl, hvv 0 (by simp) (by simp)⟩
  cases hx
  exact (Go.Proofs.Any.internal_strconv_numDigits L u h1 h2 w (by rw [pow_tab]; exact hw.tabIs hg ht)).mono fun e w' ⟨he, hb⟩ => ⟨_, g, he, Gh.le.refl _ _, hb ▸ hw, .int⟩
/-- A call known upon values, here upon objects that read as these; its answer is a text. -/
theorem PureEv.lookS {P : Program} {f : FuncId} {args args' : List AV} {b : ByteArray} {σ : Hp} (h : PureEv P f args' (.str b)) (hl : args.length = args'.length) (ha : ∀ j (h1 : j < args.length) (h2 : j < args'.length), RV σ noHp args[j] args'[j]) : Ev P f args σ (.str b) σ := by
  intro g w vals hw hv
  let gE : Gh := { pm := pmX g σ noHp w, tm := fun _ _ => none, L := g.L, B0 := w.heap.size, w0 := w }
  have hr := hw.rv (noHp_rh σ)
  have hwE : WRel gE noHp w := by
    refine ⟨hr.pm, (fun b o v e => by cases e), (fun b o v e => by cases e), (fun _ _ _ _ => rfl), Below.refl _ _, Nat.le_refl _, fun b p e => ?_, BkOK.refl _, (fun o ver cs e => by simp [noHp] at e), (fun o o' v v' c c' e => by simp [noHp] at e), (fun o es it e => by simp [noHp] at e), (fun o o' es es' it it' e => by simp [noHp] at e)⟩
    obtain ⟨h1, cs, t, fz, h2, h3⟩ := hw.tab b p e
    exact ⟨Nat.lt_of_lt_of_le h1 hw.B0, cs, t, fz, by rw [hw.low.block b h1]; exact h2, h3⟩
  refine (h gE w vals hwE ⟨by rw [hv.1, hl], fun j a b => ?_⟩).mono ?_
  · exact (hv.2 j (by omega) b).rv hw (ha j (by omega) a)
  · rintro e w' ⟨u, g', rfl, hle, hw', hu⟩
    have hlow := hw'.low
    rw [hle.B0, hle.w0] at hlow
    refine ⟨u, g, rfl, Gh.le.refl _ _, hw.belowK hlow, ?_⟩
    cases hu
    exact .str
end Go.Ab
