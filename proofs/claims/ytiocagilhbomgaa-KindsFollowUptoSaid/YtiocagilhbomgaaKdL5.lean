/- Plain laws of kinds: kinds.function's answer is the one solution, or something is bad. -/
import Derived.Test.YtiocagilhbomgaaKdL4
namespace Go.Proofs.Ytiocagilhbomgaa
open Go Go.Ab Go.RowKit
set_option maxRecDepth 20000
set_option linter.unusedVariables false
set_option linter.unusedSimpArgs false

/-- Which functions come to kinds.function. -/
structure FOk (p : Program) (f : Func) : Prop where
  ps : ∀ g ∈ p.Funcs, funcP g = true
  fp : funcP f = true
  bd : boundF f = true
  hd : headP p f = true
theorem FOk.n {p f} (h : FOk p f) : 1 ≤ f.Code.length ∧ f.Code.length ≤ 256 := by
  have h1 := h.bd
  have h2 := h.hd
  unfold boundF at h1
  unfold headP keepP at h2
  simp only [Bool.and_eq_true, decide_eq_true_eq] at h1 h2
  omega
theorem FOk.name {p f} (h : FOk p f) {a : Nat} {i : Instr} (hi : f.Code[a]? = some i) : nameP p f i = true := by
  have h2 := h.hd
  unfold headP codeP at h2
  simp only [Bool.and_eq_true, List.all_eq_true] at h2
  exact (h2.2 i (List.mem_of_getElem? hi)).1
theorem FOk.arg {p f} (h : FOk p f) {a : Nat} {i : Instr} (hi : f.Code[a]? = some i) : 0 ≤ i.Arg ∧ i.Arg ≤ 65535 := by
  have := instr_arg (funcP_code h.fp i (List.mem_of_getElem? hi))
  exact ⟨this.1, this.2.1⟩
theorem FOk.fol {p f} (h : FOk p f) {a : Nat} {i : Instr} (hi : f.Code[a]? = some i) : ∀ b ∈ folL i a, 0 ≤ b := by
  have := (h.arg hi).1
  intro b hb
  unfold folL at hb
  split at hb
  · simp at hb; omega
  · split at hb
    · simp at hb; omega
    · split at hb
      · simp at hb
      · simp at hb; omega
theorem eff_len1 {p f} (h : FOk p f) (i : Instr) (t : Int) : (eff p f i t).1.length ≤ 255 := by
  have aux : ∀ (g : Func) (x : List Int), g ∈ p.Funcs → (g.Locals.take g.Params.toNat, x).1.length ≤ 255 := fun g x hg => by
    have := funcP_head (h.ps g hg)
    simp; omega
  unfold eff locK
  by_cases h0 : i.Op = 1 ∨ i.Op = 28
  · rw [if_pos h0]; exact Nat.le_of_ble_eq_true rfl
  rw [if_neg h0]
  by_cases h1 : i.Op = 2
  · rw [if_pos h1]; exact Nat.le_of_ble_eq_true rfl
  rw [if_neg h1]
  by_cases h2 : i.Op = 3
  · rw [if_pos h2]; exact Nat.le_of_ble_eq_true rfl
  rw [if_neg h2]
  by_cases h3 : i.Op = 4
  · rw [if_pos h3]; exact Nat.le_of_ble_eq_true rfl
  rw [if_neg h3]
  by_cases h4 : i.Op = 5
  · rw [if_pos h4]; exact Nat.le_of_ble_eq_true rfl
  rw [if_neg h4]
  by_cases h5 : i.Op = 6
  · rw [if_pos h5]; exact Nat.le_of_ble_eq_true rfl
  rw [if_neg h5]
  by_cases h6 : i.Op = 21
  · rw [if_pos h6]; exact Nat.le_of_ble_eq_true rfl
  rw [if_neg h6]
  by_cases h7 : i.Op = 22 ∨ i.Op = 26 ∨ i.Op = 29 ∨ i.Op = 30
  · rw [if_pos h7]; exact Nat.le_of_ble_eq_true rfl
  rw [if_neg h7]
  by_cases h8 : i.Op = 23 ∨ i.Op = 25
  · rw [if_pos h8]
    cases e : p.Funcs[i.Arg.toNat]? with
    | none => exact Nat.le_of_ble_eq_true rfl
    | some g => exact aux g _ (List.mem_of_getElem? e)
  rw [if_neg h8]
  by_cases h9 : i.Op = 24
  · rw [if_pos h9]
    cases f.Result <;> exact Nat.le_of_ble_eq_true rfl
  rw [if_neg h9]
  by_cases h10 : i.Op = 27
  · rw [if_pos h10]; exact Nat.le_of_ble_eq_true rfl
  rw [if_neg h10]
  by_cases h11 : i.Op = 31
  · rw [if_pos h11]; exact Nat.le_of_ble_eq_true rfl
  rw [if_neg h11]
  by_cases h12 : i.Op = 32
  · rw [if_pos h12]; exact Nat.le_of_ble_eq_true rfl
  rw [if_neg h12]
  exact Nat.le_of_ble_eq_true rfl

def muK (s : Bool × List Bool × List (List Int) × List Int) : Nat := 2 * s.2.1.count false + s.2.2.2.length
structure KInv (p : Program) (f : Func) (s : Bool × List Bool × List (List Int) × List Int) : Prop where
  lr : s.2.1.length = f.Code.length
  ls : s.2.2.1.length = f.Code.length
  td : ∀ t ∈ s.2.2.2, ∃ a : Nat, t = a ∧ s.2.1[a]? = some true
  z : s.2.1[0]? = some true ∧ s.2.2.1[0]? = some []
  der : ∀ a : Nat, s.2.1[a]? = some true → ∃ x, s.2.2.1[a]? = some x ∧ Der p f a x
  un : ∀ a : Nat, s.2.1[a]? = some false → s.2.2.1[a]? = some []
  done : ∀ a : Nat, s.2.1[a]? = some true → (a : Int) ∉ s.2.2.2 → ∃ i x x', f.Code[a]? = some i ∧ s.2.2.1[a]? = some x ∧ stepK p f i x = some x' ∧ (16 < x'.length → s.1 = true) ∧
    ∀ b ∈ folL i a, ∃ m : Nat, b = m ∧ m < f.Code.length ∧ s.2.1[m]? = some true ∧ s.2.2.1[m]? = some x'
  dp : s.1 = true → Deep p f
  len : ∀ (a : Nat) x, s.2.2.1[a]? = some x → x.length + 4 * muK s ≤ 8 * f.Code.length + 8

/-- What kinds.function is to answer. -/
def FAns (p : Program) (f : Func) (o : List Bool × List (List Int) × Bool × Int) : Prop :=
  (Bad p f ∧ o = ([], [], false, 50)) ∨ ∃ R, Sol p f R ∧ o.2.2.2 = 0 ∧ o.1.length = f.Code.length ∧ o.2.1.length = f.Code.length ∧ (o.2.2.1 = true ↔ Deep p f) ∧
    ∀ a, a < f.Code.length → o.1[a]? = some (R a).isSome ∧ o.2.1[a]? = some ((R a).getD [])

theorem KInv.ans {p f s} (h : KInv p f s) (ht : s.2.2.2 = []) : FAns p f (s.2.1, s.2.2.1, s.1, 0) := by
  right
  have hget : ∀ a : Nat, a < f.Code.length → ∃ b x, s.2.1[a]? = some b ∧ s.2.2.1[a]? = some x := fun a ha =>
    ⟨_, _, List.getElem?_eq_getElem (by rw [h.lr]; exact ha), List.getElem?_eq_getElem (by rw [h.ls]; exact ha)⟩
  let R : Nat → Option (List Int) := fun a => if s.2.1[a]? = some true then s.2.2.1[a]? else none
  have hR : Sol p f R := by
    refine ⟨by simp only [R]; rw [if_pos h.z.1]; exact h.z.2, fun a x hx => ?_⟩
    simp only [R] at hx
    split at hx
    · rename_i hr
      obtain ⟨y, e1, e2⟩ := h.der a hr
      rw [hx] at e1; cases e1
      refine ⟨e2, ?_⟩
      obtain ⟨i, y, x', d1, d2, d3, _, d4⟩ := h.done a hr (by rw [ht]; simp)
      rw [hx] at d2; cases d2
      refine ⟨i, x', d1, d3, fun b hb => ?_⟩
      obtain ⟨m, m1, m2, m3, m4⟩ := d4 b hb
      exact ⟨m, m1, m2, by simp only [R]; rw [if_pos m3]; exact m4⟩
    · cases hx
  refine ⟨R, hR, rfl, h.lr, h.ls, ⟨h.dp, fun ⟨a, x, i, x', d, hi, hs, hl⟩ => ?_⟩, fun a ha => ?_⟩
  · have e := hR.all d
    simp only [R] at e
    split at e
    · rename_i hr
      obtain ⟨i2, y, x2, d1, d2, d3, d5, d4⟩ := h.done a hr (by rw [ht]; simp)
      rw [e] at d2; cases d2
      rw [hi] at d1; cases d1
      rw [hs] at d3; cases d3
      exact d5 hl
    · cases e
  · obtain ⟨b, x, e1, e2⟩ := hget a ha
    simp only [R, e1, e2]
    cases b with
    | true => simp
    | false =>
      have := h.un a e1
      rw [e2] at this; cases this
      simp

theorem last_mem {l : List Int} {m : Nat} (h : l.length = m + 1) : ∃ x, l[m]? = some x ∧ l = l.take m ++ [x] := by
  have hlt : m < l.length := by omega
  refine ⟨l[m], List.getElem?_eq_getElem hlt, ?_⟩
  have := List.take_succ_eq_append_getElem hlt
  rw [← h, List.take_length] at this
  exact this

theorem function_ok (p : Program) (f : Func) (h : FOk p f) : ∃ o, kinds_function_s 1048577 p f = some o ∧ FAns p f o := by
  obtain ⟨hn1, hn2⟩ := h.n
  unfold kinds_function_s
  have mk1 : mkL 1 (List.length f.Code : Int) (List.length f.Code : Int) false = some (List.replicate f.Code.length false) := by
    unfold mkL; rw [if_pos (by omega)]; simp
  have mk2 : mkL 24 (List.length f.Code : Int) (List.length f.Code : Int) ([] : List Int) = some (List.replicate f.Code.length []) := by
    unfold mkL; rw [if_pos (by omega)]; simp
  rw [mk1, mk2]
  simp only [Option.bind_some]
  rw [getI_lt (by omega) (by simp; omega)]
  simp only [Option.bind_some]
  refine bind_ex (whileN_ex (KInv p f) muK _ ?h 1048577 _ ?h0 ?hm)
  case h0 =>
    have hc : (List.set (List.replicate f.Code.length false) 0 true).count false + 1 = f.Code.length := by
      have := count_set (r := List.replicate f.Code.length false) (m := 0) (by rw [List.getElem?_replicate, if_pos (by omega)])
      simpa using this
    have g : ∀ a : Nat, (List.set (List.replicate f.Code.length false) 0 true)[a]? = some true → a = 0 := fun a ha => by
      by_cases e : a = 0
      · exact e
      · rw [List.getElem?_set_ne (Ne.symm e)] at ha
        rw [List.getElem?_replicate] at ha
        split at ha <;> cases ha
    refine ⟨by simp, by simp, fun t ht => ?_, ⟨?_, ?_⟩, fun a ha => ?_, fun a ha => ?_, fun a ha hn => ?_, (fun e => (Bool.false_ne_true e).elim), fun a x hx => ?_⟩
    · simp only [List.mem_singleton] at ht
      refine ⟨0, by simpa using ht, ?_⟩
      rw [show Int.toNat 0 = 0 from rfl, List.getElem?_set_self (by simp; omega)]
    · rw [show Int.toNat 0 = 0 from rfl, List.getElem?_set_self (by simp; omega)]
    · simp only [List.getElem?_replicate]; rw [if_pos (by omega)]
    · have := g a ha
      subst this
      exact ⟨[], by simp only [List.getElem?_replicate]; rw [if_pos (by omega)], .start⟩
    · simp only [List.getElem?_replicate]
      have : a < f.Code.length := by
        have := (List.getElem?_eq_some_iff.1 ha).1
        simpa using this
      rw [if_pos this]
    · have := g a ha
      subst this
      simp at hn
    · simp only [List.getElem?_replicate] at hx
      split at hx
      · cases hx
        simp only [muK, List.length_nil, List.length_singleton]
        rw [show Int.toNat 0 = 0 from rfl]
        omega
      · cases hx
  case hm =>
    have : (List.set (List.replicate f.Code.length false) 0 true).count false ≤ f.Code.length := by
      have := List.count_le_length (a := false) (l := List.set (List.replicate f.Code.length false) 0 true)
      simpa using this
    simp only [muK]
    rw [show Int.toNat 0 = 0 from rfl]
    simp only [List.length_singleton]
    omega
  intro s hs
  obtain ⟨dp, rd, st, td⟩ := s
  by_cases htd : td = []
  · -- the end
    right; left
    subst htd
    refine ⟨(dp, rd, st, []), by simp, ?_⟩
    simp only [oc]
    have L := rni_inv (σ := List (List Int)) (ρ := Option (List Bool × List (List Int) × Bool × Int)) (n := (List.length st : Int)) (s0 := st) (fun i s => s = st)
      (body := fun (i_37 : Nat) (s_36 : (List (List Int))) => (((getI s_36 (i_37 : Int)).bind fun y_38 => ((slices_Clone_z_s y_38).bind fun clo_39 => ((getI s_36 (i_37 : Int)).bind fun y_40 => (some (.nxt (List.set s_36 (Int.toNat (i_37 : Int)) clo_39)))))))) (by have := hs.ls; simp only at this; omega) rfl (fun i s hi e => by
        subst e
        have hlt : i < s.length := by omega
        rw [getI_nat, List.getElem?_eq_getElem hlt]
        simp only [Option.bind_some]
        rw [clonez_eq _ (by have := hs.len i _ (List.getElem?_eq_getElem hlt); omega)]
        exact ⟨_, rfl, by simp⟩)
    obtain ⟨s', e1, rfl⟩ := L
    rw [e1]
    exact ⟨_, rfl, hs.ans rfl⟩
  obtain ⟨k, hk⟩ : ∃ k, td.length = k + 1 := ⟨td.length - 1, by have := List.length_pos_iff.2 htd; omega⟩
  obtain ⟨t, ht1, ht2⟩ := last_mem hk
  have htl : td.length ≤ 2100 := by
    have h1 := hs.len 0 [] hs.z.2
    simp only [muK] at h1
    omega
  obtain ⟨a, rfl, hra⟩ := hs.td t (by simp only; rw [ht2]; simp)
  simp only at hra
  obtain ⟨x, hxa, hda⟩ := hs.der a hra
  simp only at hxa
  have halt : a < f.Code.length := by
    have := (List.getElem?_eq_some_iff.1 hra).1
    have h2 := hs.lr
    simp only at h2
    omega
  have hia : f.Code[a]? = some f.Code[a] := List.getElem?_eq_getElem halt
  generalize f.Code[a] = i at hia
  have hxl := hs.len a x hxa
  have hpos : decide ((List.length td : Int) > 0) = true := by simp; omega
  dsimp only
  rw [hpos]
  simp only [if_true]
  rw [show I64 ((List.length td : Int) - 1) = (k : Int) by rw [I64_of (by omega)]; omega, getI_nat, ht1]
  simp only [Option.bind_some]
  have hsub : subL td 0 (k : Int) = some (td.take k) := by
    unfold subL; rw [if_pos (by omega)]; simp
  rw [hsub]
  simp only [Option.bind_some]
  rw [getI_nat, hxa]
  simp only [Option.bind_some]
  rw [getI_nat, hia]
  simp only [Option.bind_some]
  rw [top_jp x (by omega)]
  rw [effect_eq p f i _ (h.arg hia) (h.name hia) h.ps]
  simp only [Option.bind_some]
  have hel := eff_len1 h i (topK x)
  have hel2 := eff_len p f i (topK x)
  have hst := stepK_eq p f i x
  generalize eff p f i (topK x) = e at hel hel2 hst ⊢
  rw [bad_jp x e.1 i.Op (by omega) (by omega)]
  cases hok : okS i.Op x e.1 with
  | false =>
    right; right
    rw [hok] at hst
    simp only [Bool.false_eq_true, if_false] at hst
    refine ⟨some ([], [], false, 50), by simp, ?_⟩
    exact ⟨_, rfl, .inl ⟨.inl ⟨a, x, i, hda, hia, .inl hst⟩, rfl⟩⟩
  | true =>
    rw [hok] at hst
    simp only [if_true] at hst
    have hle : e.1.length ≤ x.length := by
      unfold okS at hok
      simp only [decide_eq_true_eq] at hok
      exact hok.1
    simp only [Bool.not_true, Bool.false_eq_true, if_false]
    have hsub2 : subL x 0 (I64 ((List.length x : Int) - (List.length e.1 : Int))) = some (x.take (x.length - e.1.length)) := by
      rw [I64_of (by omega)]
      unfold subL
      rw [if_pos (by omega), show (((List.length x : Int) - (List.length e.1 : Int))).toNat = x.length - e.1.length by omega]
      simp
    rw [hsub2]
    simp only [Option.bind_some]
    rw [clone_eq _ (by simp; omega)]
    simp only [Option.bind_some]
    rw [appL1 (by simp; omega)]
    simp only [Option.bind_some]
    rw [deep_jp, follow_eq i a (by omega)]
    simp only [Option.bind_some]
    have hx'l := step_len hst
    generalize x.take (x.length - e.1.length) ++ e.2 = x' at hst hx'l ⊢
    have hmu : muK (dp, rd, st, td) = 2 * rd.count false + (k + 1) := by simp only [muK, hk]
    obtain ⟨o, ho, hq⟩ := inner (some (.ret (some (([] : List Bool), ([] : List (List Int)), false, (50 : Int)))) : Option (Stp (Bool × List Bool × List (List Int) × List Int) (Option (List Bool × List (List Int) × Bool × Int)))) p f (r0 := rd) (st0 := st) (td0 := td.take k) (x := x) (x' := x') (a := a) (i := i) (fol := folL i a)
      hn2 hda hia hst (by omega) rfl (h.fol hia) hs.lr hs.ls (fun m y hy => by have := hs.len m y hy; omega) hs.der hs.un (fun t ht => hs.td t (List.mem_of_mem_take ht)) (by simp; omega)
    rw [ho]
    simp only [Option.bind_some]
    rcases hq with ⟨q, rfl, hq⟩ | ⟨rfl, hb⟩
    · left
      refine ⟨_, rfl, ?_, ?_⟩
      · have hlk : (td.take k).length = k := by simp; omega
        have hme := hq.me
        rw [hlk] at hme
        have hz := hq.mono 0 hs.z.1
        refine ⟨hq.lr, hq.ls, hq.td, ⟨hz.1, hz.2.trans hs.z.2⟩, fun m hm => ?_, fun m hm => (hq.un m hm).2, fun m hm hmt => ?_, fun hd => ?_, fun m y hy => ?_⟩
        · rcases hq.new m hm with h1 | ⟨h1, _, h3⟩
          · obtain ⟨y, e1, e2⟩ := hs.der m h1
            exact ⟨y, (hq.mono m h1).2.trans e1, e2⟩
          · exact ⟨x', h1, h3⟩
        · simp only at hm hmt
          rcases hq.new m hm with h1 | ⟨_, h2, _⟩
          · by_cases hma : m = a
            · subst hma
              refine ⟨i, x, x', hia, (hq.mono m h1).2.trans hxa, hst, fun hl => by simp; right; omega, fun b hb => ?_⟩
              obtain ⟨j, hj⟩ := List.getElem?_of_mem hb
              exact hq.got j b (List.getElem?_eq_some_iff.1 hj).1 hj
            · have hnt : (m : Int) ∉ td := by
                intro hin
                rw [ht2] at hin
                simp only [List.mem_append, List.mem_singleton] at hin
                rcases hin with hin | hin
                · exact hmt (hq.sub _ hin)
                · exact hma (Int.ofNat.inj hin)
              obtain ⟨i2, y, y', d1, d2, d3, d4, d5⟩ := hs.done m h1 hnt
              refine ⟨i2, y, y', d1, (hq.mono m h1).2.trans d2, d3, fun hl => by have := d4 hl; simp only at this; simp [this], fun b hb => ?_⟩
              obtain ⟨c, c1, c2, c3, c4⟩ := d5 b hb
              exact ⟨c, c1, c2, (hq.mono c c3).1, (hq.mono c c3).2.trans c4⟩
          · exact (hmt h2).elim
        · simp only [Bool.or_eq_true, decide_eq_true_eq] at hd
          rcases hd with hd | hd
          · exact hs.dp hd
          · exact ⟨a, x, i, x', hda, hia, hst, by omega⟩
        · have hmu2 : muK (dp || decide ((List.length x' : Int) > 16), q.1, q.2.1, q.2.2) = 2 * q.1.count false + q.2.2.length := rfl
          rw [hmu2]
          simp only at hy
          rw [hmu] at hxl
          have hmlt : m < f.Code.length := by
            have := (List.getElem?_eq_some_iff.1 hy).1
            have h2 := hq.ls
            omega
          have hb : q.1[m]? = some (q.1[m]'(by rw [hq.lr]; exact hmlt)) := List.getElem?_eq_getElem _
          generalize q.1[m]'(by rw [hq.lr]; exact hmlt) = bb at hb
          cases bb with
          | false =>
            have := (hq.un m hb).2
            rw [hy] at this; cases this
            simp; omega
          | true =>
            rcases hq.new m hb with h1 | ⟨h1, _, _⟩
            · have e1 := (hq.mono m h1).2
              rw [hy] at e1
              have := hs.len m y e1.symm
              rw [hmu] at this
              omega
            · rw [hy] at h1; cases h1
              omega
      · have hme := hq.me
        have hlk : (td.take k).length = k := by simp; omega
        rw [hlk] at hme
        rw [hmu]
        simp only [muK]
        omega
    · right; right
      exact ⟨_, rfl, _, rfl, .inl ⟨hb, rfl⟩⟩
end Go.Proofs.Ytiocagilhbomgaa
