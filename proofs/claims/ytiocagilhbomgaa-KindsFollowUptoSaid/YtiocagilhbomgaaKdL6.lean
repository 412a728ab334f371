/- Plain laws of kinds: what kinds.Check answers; what is reached goes on to what is reached. -/
import Derived.Test.YtiocagilhbomgaaKdL5
namespace Go.Proofs.Ytiocagilhbomgaa
open Go Go.Ab Go.RowKit
set_option maxRecDepth 20000
set_option linter.unusedVariables false
set_option linter.unusedSimpArgs false

def mainP (p : Program) : Bool := match p.Funcs with | f :: _ => decide (f.Params = 0) && !f.Result | [] => false
def goodP (p : Program) : Bool := encP p && (boundP p && (mainP p && p.Funcs.all (headP p)))
theorem goodP_ok {p : Program} (h : goodP p = true) {f : Func} (hf : f ∈ p.Funcs) : FOk p f := by
  unfold goodP encP boundP at h
  simp only [Bool.and_eq_true, decide_eq_true_eq, List.all_eq_true] at h
  exact ⟨h.1.2, h.1.2 f hf, h.2.1.1 f hf, h.2.2.2 f hf⟩
/-- A function's types are the solution. -/
def FGood (p : Program) (f : Func) (rd : List Bool) (st : List (List Int)) : Prop :=
  ∃ R, Sol p f R ∧ rd.length = f.Code.length ∧ st.length = f.Code.length ∧ ∀ a, a < f.Code.length → rd[a]? = some (R a).isSome ∧ st[a]? = some ((R a).getD [])
def CAns (p : Program) (o : Option Types × Int) : Prop :=
  (encP p = false ∧ o = (none, 30)) ∨ (encP p = true ∧ boundP p = false ∧ o = (none, 31)) ∨ (encP p = true ∧ boundP p = true ∧ (mainP p && p.Funcs.all (headP p)) = false ∧ o = (none, 50)) ∨
  (goodP p = true ∧ (∃ f ∈ p.Funcs, Bad p f) ∧ o = (none, 50)) ∨
  (goodP p = true ∧ (∀ f ∈ p.Funcs, ∃ R, Sol p f R) ∧ (∃ f ∈ p.Funcs, Deep p f) ∧ o = (none, 31)) ∨
  (goodP p = true ∧ (∀ f ∈ p.Funcs, ¬ Deep p f) ∧ ∃ T : Types, o = (some T, 0) ∧ T.Reached.length = p.Funcs.length ∧ T.Stacks.length = p.Funcs.length ∧
    ∀ (k : Nat) f, p.Funcs[k]? = some f → ∃ rd st, T.Reached[k]? = some rd ∧ T.Stacks[k]? = some st ∧ FGood p f rd st)

structure LInv (p : Program) (j : Nat) (s : Bool × List (List Bool) × List (List (List Int))) : Prop where
  l1 : s.2.1.length = j
  l2 : s.2.2.length = j
  dp : s.1 = true ↔ ∃ (k : Nat) (f : Func), k < j ∧ p.Funcs[k]? = some f ∧ Deep p f
  ok : ∀ (k : Nat) f, k < j → p.Funcs[k]? = some f → ∃ rd st, s.2.1[k]? = some rd ∧ s.2.2[k]? = some st ∧ FGood p f rd st

theorem Check_ok (p : Program) (hl : p.Funcs.length ≤ 1048576) : ∃ o, kinds_Check_s 1048577 p = some o ∧ CAns p o := by
  unfold kinds_Check_s
  obtain ⟨l, he⟩ := Encode_eq p
  rw [he]
  simp only [Option.bind_some]
  cases henc : encP p with
  | false => exact ⟨(none, 30), rfl, .inl ⟨henc, rfl⟩⟩
  | true =>
    have e0 : ((if true = true then (0 : Int) else 30) != 0) = false := rfl
    simp only [e0, Bool.false_eq_true, if_false]
    rw [Bounded_eq p hl]
    simp only [Option.bind_some]
    cases hbd : boundP p with
    | false => exact ⟨(none, 31), rfl, .inr (.inl ⟨henc, hbd, rfl⟩)⟩
    | true =>
      simp only [Bool.not_true, Bool.false_eq_true, if_false]
      have henc2 := henc
      unfold encP at henc2
      simp only [Bool.and_eq_true, decide_eq_true_eq, List.all_eq_true] at henc2
      have hmain : ∀ {β : Type} (K : Bool → Option β), jp K (fun k_3 => ((getI p.Funcs 0).bind fun y_5 => (if (decide (y_5.Params > 0)) then (k_3 true) else (k_3 y_5.Result)))) = K (!mainP p) := by
        intro β K
        unfold jp mainP
        match hf : p.Funcs with
        | [] => rw [hf] at henc2; simp at henc2
        | f :: r =>
          have hfp := funcP_head (henc2.2 f (by rw [hf]; simp))
          show ((getI (f :: r) ((0 : Nat) : Int)).bind _) = _
          rw [getI_nat]
          simp only [List.getElem?_cons_zero, Option.bind_some]
          by_cases h0 : f.Params > 0
          · have : ¬ f.Params = 0 := by omega
            simp [h0, this]
          · have : f.Params = 0 := by omega
            simp [h0, this]
      rw [hmain]
      cases hm : mainP p with
      | false => exact ⟨(none, 50), rfl, .inr (.inr (.inl ⟨henc, hbd, by rw [hm]; rfl, rfl⟩))⟩
      | true =>
        simp only [Bool.not_true, Bool.false_eq_true, if_false]
        have L := rng_inv (σ := Unit) (ρ := Option (Option Types × Int)) (xs := p.Funcs) (s0 := ()) (headP p) (some (none, 50)) (fun _ _ => True)
          (body := fun (i_7 : Nat) (f_8 : Func) (s_6 : Unit) => (((kinds_head_s p f_8).bind fun hea_10 => (if (!hea_10) then (some (.ret (some (none, 50)))) else (some (.nxt ())))) : Option (Stp Unit (Option ((Option Types) × Int))))) (by omega) trivial (fun i x s hx _ => by
            rw [head_eq p x (henc2.2 x (List.mem_of_getElem? hx)) hl]
            cases headP p x with
            | false => rfl
            | true => exact ⟨(), rfl, trivial⟩)
        cases hh : p.Funcs.all (headP p) with
        | false =>
          rw [hh] at L
          simp only [Bool.false_eq_true, if_false] at L
          rw [L]
          exact ⟨(none, 50), rfl, .inr (.inr (.inl ⟨henc, hbd, by rw [hm, hh]; rfl, rfl⟩))⟩
        | true =>
          rw [hh] at L
          simp only [if_true] at L
          obtain ⟨_, e1, _⟩ := L
          rw [e1]
          simp only [Option.bind_some, oc]
          have hgood : goodP p = true := by unfold goodP; rw [henc, hbd, hm, hh]; rfl
          refine bind_ex (rng_ex (LInv p) _ (by omega) ?h0 ?h ?hQ)
          case h0 => exact ⟨rfl, rfl, ⟨fun e => (Bool.false_ne_true e).elim, fun ⟨k, f, hk, _⟩ => by omega⟩, fun k f hk => by omega⟩
          case hQ =>
            intro s hs
            cases hd : s.1 with
            | true =>
              refine ⟨(none, 31), by simp only [oc]; rw [hd]; rfl, .inr (.inr (.inr (.inr (.inl ⟨hgood, fun f hf => ?_, ?_, rfl⟩))))⟩
              · obtain ⟨k, hk⟩ := List.getElem?_of_mem hf
                obtain ⟨_, _, _, _, R, hR, _⟩ := hs.ok k f (List.getElem?_eq_some_iff.1 hk).1 hk
                exact ⟨R, hR⟩
              · obtain ⟨k, f, _, h2, h3⟩ := hs.dp.1 hd
                exact ⟨f, List.mem_of_getElem? h2, h3⟩
            | false =>
              refine ⟨(some ⟨s.2.1, s.2.2⟩, 0), by simp only [oc]; rw [hd]; rfl, .inr (.inr (.inr (.inr (.inr ⟨hgood, fun f hf hdp => ?_, ⟨s.2.1, s.2.2⟩, rfl, hs.l1, hs.l2, fun k f hk => hs.ok k f (List.getElem?_eq_some_iff.1 hk).1 hk⟩))))⟩
              obtain ⟨k, hk⟩ := List.getElem?_of_mem hf
              have := hs.dp.2 ⟨k, f, (List.getElem?_eq_some_iff.1 hk).1, hk, hdp⟩
              rw [hd] at this; cases this
          intro i f s hi hs
          have hmem := List.mem_of_getElem? hi
          have hilt := (List.getElem?_eq_some_iff.1 hi).1
          have hF := goodP_ok hgood hmem
          obtain ⟨o, ho, ha⟩ := function_ok p f hF
          rw [ho]
          simp only [Option.bind_some]
          rcases ha with ⟨hb, rfl⟩ | ⟨R, hR, h0, h1, h2, h3, h4⟩
          · right
            exact ⟨some (none, 50), rfl, _, rfl, .inr (.inr (.inr (.inl ⟨hgood, ⟨f, hmem, hb⟩, rfl⟩)))⟩
          · left
            have e2 : (o.2.2.2 != 0) = false := by rw [h0]; rfl
            simp only [e2, Bool.false_eq_true, if_false]
            have hjp : ∀ {β : Type} (K : Bool → Option β), jp K (fun k_16 => (if s.1 then (k_16 true) else (k_16 o.2.2.1))) = K (s.1 || o.2.2.1) := by
              intro β K; unfold jp; cases s.1 <;> rfl
            rw [hjp, appL_of (by have := hs.l1; simp; omega)]
            simp only [Option.bind_some]
            rw [appL_of (by have := hs.l2; simp; omega)]
            simp only [Option.bind_some]
            refine ⟨_, rfl, by simp [hs.l1], by simp [hs.l2], ?_, fun k g hk hg => ?_⟩
            · simp only [Bool.or_eq_true]
              constructor
              · rintro (e | e)
                · obtain ⟨k, g, a, b, c⟩ := hs.dp.1 e
                  exact ⟨k, g, by omega, b, c⟩
                · exact ⟨i, f, by omega, hi, h3.1 e⟩
              · rintro ⟨k, g, a, b, c⟩
                by_cases e : k = i
                · subst e
                  rw [hi] at b; cases b
                  exact .inr (h3.2 c)
                · exact .inl (hs.dp.2 ⟨k, g, by omega, b, c⟩)
            · by_cases e : k = i
              · subst e
                rw [hi] at hg; cases hg
                refine ⟨o.1, o.2.1, ?_, ?_, R, hR, h1, h2, h4⟩
                · show (s.2.1 ++ [o.1])[k]? = _
                  rw [List.getElem?_append_right (by rw [hs.l1]; exact Nat.le_refl _), hs.l1]; simp
                · show (s.2.2 ++ [o.2.1])[k]? = _
                  rw [List.getElem?_append_right (by rw [hs.l2]; exact Nat.le_refl _), hs.l2]; simp
              · obtain ⟨rd, st, a, b, c⟩ := hs.ok k g (by omega) hg
                refine ⟨rd, st, ?_, ?_, c⟩
                · show (s.2.1 ++ [o.1])[k]? = _
                  rw [List.getElem?_append_left (by rw [hs.l1]; omega)]; exact a
                · show (s.2.2 ++ [o.2.1])[k]? = _
                  rw [List.getElem?_append_left (by rw [hs.l2]; omega)]; exact b

/-- A stack that can come to be where none is too deep. -/
theorem Der.le {p f a x} (d : Der p f a x) (h : ¬ Deep p f) : x.length ≤ 16 := by
  cases d with
  | start => simp
  | go d hi hs hb =>
    rename_i a' s i
    rcases Nat.lt_or_ge 16 x.length with h1 | h1
    · exact (h ⟨a', s, i, x, d, hi, hs, h1⟩).elim
    · exact h1
theorem step_ret {p f i s s'} (h : stepK p f i s = some s') (h24 : i.Op = 24) : s.length = if f.Result = true then 1 else 0 := by
  rw [stepK_eq] at h
  split at h
  · rename_i hok
    unfold okS at hok
    simp only [decide_eq_true_eq] at hok
    obtain ⟨h1, _, h3⟩ := hok
    have e : (eff p f i (topK s)).1 = if f.Result = true then [0] else [] := by
      unfold eff; simp [h24]
    rw [e] at h1 h3
    have h4 : ¬ (if f.Result = true then [(0 : Int)] else []).length < s.length := fun hh => h3 ⟨h24, hh⟩
    cases hr : f.Result <;> rw [hr] at h1 h4 <;> simp at h1 h4 ⊢ <;> omega
  · cases h
end Go.Proofs.Ytiocagilhbomgaa
