/- console.Run upon three lines; upon many lines that are not known; upon nothing. -/
import Derived.Test.YtjhhedpgfpcaiaaGreatDoorCoR5
import Derived.Test.YtjhhedpgfpcaiaaGreatDoorCoE2
import Derived.Test.YtjhhedpgfpcaiaaGreatDoorCoE3
namespace Go.Proofs.YtjhhedpgfpcaiaaGreatDoor
set_option linter.constructorNameAsVariable false
set_option linter.unusedSimpArgs false
set_option linter.unusedVariables false
open Go Go.Ab Go.RowKit
set_option maxRecDepth 100000
set_option linter.unusedVariables false
set_option linter.unusedSimpArgs false
abbrev TXT1 : List Nat := [116, 101, 120, 116, 32, 102, 117, 110, 99, 32, 48, 32, 45, 32, 48, 32, 45, 59, 99, 111, 110, 115, 116, 32, 55, 59, 111, 117, 116, 59, 114, 101, 116]
abbrev TXT2 : List Nat := [109, 101, 97, 110, 32, 49, 48, 48]
abbrev TXT3 : List Nat := [114, 117, 110, 32, 49, 48, 48, 32, 53, 49, 50]
abbrev ANS2 : List Nat := [111, 107, 32, 111, 117, 116, 61, 55, 32, 101, 120, 105, 116, 61, 48, 32, 51, 32, 49, 32, 48, 32, 48]
abbrev ANS3 : List Nat := [111, 107, 32, 111, 117, 116, 61, 55, 32, 101, 120, 105, 116, 61, 48, 32, 48]
abbrev E251 : List Nat := [101, 114, 114, 111, 114, 32, 50, 53, 49]
abbrev SCR : List Nat := [116, 101, 120, 116, 32, 102, 117, 110, 99, 32, 48, 32, 45, 32, 48, 32, 45, 59, 99, 111, 110, 115, 116, 32, 55, 59, 111, 117, 116, 59, 114, 101, 116, 10, 109, 101, 97, 110, 32, 49, 48, 48, 10, 114, 117, 110, 32, 49, 48, 48, 32, 53, 49, 50]
abbrev OUT : List Nat := [111, 107, 32, 49, 10, 111, 107, 32, 111, 117, 116, 61, 55, 32, 101, 120, 105, 116, 61, 48, 32, 51, 32, 49, 32, 48, 32, 48, 10, 111, 107, 32, 111, 117, 116, 61, 55, 32, 101, 120, 105, 116, 61, 48, 32, 48, 10]
def Z0 : List Ob := apS Sn (some (1, .arr 0 []))
theorem inT : hpx env0 (tM.inH []) = hp Z0 := by
  funext o
  match o with
  | 0 => rfl
  | 1 => rfl
  | n + 2 =>
    have h1 : (mkT tM.os).get (n + 2) = none := by rw [mkT_get]; simp [tM]
    have h2 : (mkM tM.ms).get (n + 2) = none := by simp [tM, mkM]
    have h3 : hpx env0 (tM.inH []) (n + 2) = (match (mkT tM.os).get (n + 2) with | some ob => Ob.arr ob.ver (ob.cells env0) | none => match (mkM tM.ms).get (n + 2) with | none => (if n + 2 < 2 then .gone else hp env0.φ (n + 2)) | some es => .mpo (mAv env0 es.1) es.2) := rfl
    rw [h3, h1, h2]
    have h4 : ¬ n + 2 < 2 := by omega
    simp [h4, hp, Z0, Sn, env0, apS, setAt]
theorem Z0m : hp Z0 1 = .arr 0 [] := rfl
abbrev HT : XH := lst tM.nx1 tM.os1 tM.ms1 s0
theorem HT_ex : ∃ S, hp S = hpx env0 HT := by
  have hk : HT.ok env0 := lst_ok (ms := []) (fs := s0) tM_ok.2.1 rfl ⟨nofun, Nat.le_refl _⟩
  exact ap_list [] _ HT hk rfl
noncomputable def Z1 : List Ob := Classical.choose HT_ex
theorem Z1_eq : hp Z1 = hpx env0 HT := Classical.choose_spec HT_ex
theorem Z1m : hp Z1 1 = .arr 0 [] := by rw [Z1_eq]; rfl
theorem text_ev : Ev Tryz.prog 7 [.ptr 0 0 0, .str (bsl (bN TXT1))] (hp Z0) (.str (bsl (bN [111, 107, 32, 49]))) (hp Z1) := by
  have h := tM_ok.2.2.2 env0 nofun (Nat.le_refl _) s0
  rw [inT, ← Z1_eq] at h
  exact h
/-- A pointer to an object, as what it points to reads. -/
theorem ptr_rv {H : XH} {xs ys : List XV} (h0 : hpx env0 H 0 = .arr 0 (xs.map (XV.av env0))) (h : mapO (fzX 20 H) xs = some ys) : RV (hpx env0 H) noHp (.ptr 0 0 0) ((XV.cptr ys 0).av env0) := by
  obtain ⟨a, b⟩ := mapO_get h
  show RV _ _ _ (.cptr (XV.avs env0 ys) 0)
  rw [avs_eq]
  refine .pfz h0 (fun v c e => by simp [noHp] at e) (by simp; omega) (fun j h1 h2 => ?_)
  simp only [List.getElem_map]
  exact fzX_ok (ρ := env0) rfl 20 _ _ (b j (by simpa using h2) (by simpa using h1))
def c1x : List XV := match tM.os1 with
  | (_, _, l) :: _ => l
  | [] => []
def c1y : List XV := match c1f with
  | .cptr l _ => l
  | _ => []
def c0x : List XV := [.bool false, .nils, .nils, .nils, .nils, .nils]
theorem c1_rv : RV (hp Z1) noHp (.ptr 0 0 0) (c1f.av env0) := by
  rw [Z1_eq]
  exact ptr_rv (xs := c1x) (ys := c1y) rfl (by kernel_rfl)
theorem c0_rv : RV (hp Z0) noHp (.ptr 0 0 0) (c0f.av env0) := by
  rw [← inT]
  exact ptr_rv (xs := c0x) (ys := c0x) rfl (by kernel_rfl)
theorem str_rv {σ : Hp} (l : List Nat) (e : ∃ H, σ = hpx env0 H) : RV σ noHp (.str (bsl (bN l))) (.str (bsl (bN l))) := by
  obtain ⟨H, rfl⟩ := e
  exact fzX_ok (ρ := env0) rfl 20 (.str l) (.str l) rfl
/-- A call of Do upon the console as it reads. -/
theorem do_look {σ : Hp} {c : XV} {l : List Nat} {r : List UInt8} (h : PureEv Tryz.prog 7 [c.av env0, .str (bsl (bN l))] (.str (bsl r))) (hc : RV σ noHp (.ptr 0 0 0) (c.av env0)) (e : ∃ H, σ = hpx env0 H) : Ev Tryz.prog 7 [.ptr 0 0 0, .str (bsl (bN l))] σ (.str (bsl r)) σ :=
  h.lookS rfl (fun j h1 h2 => by
    match j, h1 with
    | 0, _ => exact hc
    | 1, _ => exact str_rv l e)
theorem mean_do : Ev Tryz.prog 7 [.ptr 0 0 0, .str (bsl (bN TXT2))] (hp Z1) (.str (bsl (bN ANS2))) (hp Z1) := do_look (c := c1f) mean_ev c1_rv ⟨_, Z1_eq⟩
theorem runl_do : Ev Tryz.prog 7 [.ptr 0 0 0, .str (bsl (bN TXT3))] (hp Z1) (.str (bsl (bN ANS3))) (hp Z1) := do_look (c := c1f) runl_ev c1_rv ⟨_, Z1_eq⟩
theorem ukn_do : Ev Tryz.prog 7 [.ptr 0 0 0, .str (bsl (bN [120]))] (hp Z0) (.str (bsl (bN E251))) (hp Z0) := do_look (c := c0f) ukn_ev c0_rv ⟨_, inT.symm⟩
/-- What stands behind so many answers. -/
def accA (ans : Nat → List UInt8) : Nat → List UInt8
  | 0 => []
  | i + 1 => (accA ans i ++ ans i) ++ [10]
noncomputable def ZT : Nat → List Ob
  | 0 => Z0
  | _ + 1 => Z1
def ansT : Nat → List UInt8
  | 0 => bN [111, 107, 32, 49]
  | 1 => bN ANS2
  | _ => bN ANS3
theorem first_run : PureEv Tryz.prog 6 [.str (bsl (bN SCR))] (.str (bsl (bN OUT))) := by
  have h := run_ev (s := bN SCR) (ls := [bN TXT1, bN TXT2, bN TXT3]) (by decide) (by decide) (.inr ⟨by decide +kernel, bN TXT3, [bN TXT1, bN TXT2], by decide +kernel, by decide⟩) (by decide) (Z := ZT) (A := accA ansT) (ans := ansT) rfl
    (fun i => by cases i with | zero => exact Z0m | succ i => exact Z1m)
    (fun i hi => by
      match i, hi with
      | 0, _ => exact text_ev
      | 1, _ => exact mean_do
      | 2, _ => exact runl_do) rfl (fun _ => rfl) (fun i hi => by
      match i, hi with
      | 0, _ => decide
      | 1, _ => decide
      | 2, _ => decide
      | 3, _ => decide)
  have e : accA ansT 3 = bN OUT := by decide +kernel
  rw [← e]
  exact h
/-- A line that is not known, many times. -/
theorem split_rep (n : Nat) : splitL 10 (Lib.repeatL [120, 10] n) = List.replicate n [120] ++ [[]] := by
  induction n with
  | zero => rfl
  | succ n ih =>
    show splitL 10 ([120] ++ 10 :: Lib.repeatL [120, 10] n) = _
    rw [splitL_app 10 [120] (by decide), ih]
    rfl
theorem acc_rep (n : Nat) : accA (fun _ => bN E251) n = Lib.repeatL (bN E251 ++ [10]) n := by
  induction n with
  | zero => rfl
  | succ n ih =>
    show (accA (fun _ => bN E251) n ++ bN E251) ++ [10] = (bN E251 ++ [10]) ++ Lib.repeatL (bN E251 ++ [10]) n
    rw [ih, List.append_assoc]
    have h1 : Lib.repeatL (bN E251 ++ [10]) (n + 1) = Lib.repeatL (bN E251 ++ [10]) n ++ Lib.repeatL (bN E251 ++ [10]) 1 := Lib.repeatL_add _ _ _
    have h2 : Lib.repeatL (bN E251 ++ [10]) 1 = bN E251 ++ [10] := Lib.repeatL_one _
    rw [h2] at h1
    rw [← h1]
    rfl
theorem rep_len (l : List UInt8) (n : Nat) : (Lib.repeatL l n).length = n * l.length := Lib.repeatL_length l n
def wantN (n : Nat) : List UInt8 := if n ≤ 512 then Lib.repeatL (bN E251 ++ [10]) n else bN [101, 114, 114, 111, 114, 32, 50, 53, 48, 10]
theorem many_run {n : Nat} (hn : n ≤ 520) : PureEv Tryz.prog 6 [.str (bsl (Lib.repeatL [120, 10] n))] (.str (bsl (wantN n))) := by
  have hl : (splitL 10 (Lib.repeatL [120, 10] n)).length < 9223372036854775808 := by rw [split_rep]; simp; omega
  have hs : (Lib.repeatL [120, 10] n).length ≤ 65536 := by rw [rep_len]; simp; omega
  have hL : LinesOf (Lib.repeatL [120, 10] n) (List.replicate n [120]) := .inl (split_rep n)
  unfold wantN
  by_cases h : n ≤ 512
  · rw [if_pos h]
    have := run_ev hs hl hL (by simpa using h) (Z := fun _ => Z0) (A := accA fun _ => bN E251) (ans := fun _ => bN E251) rfl (fun _ => Z0m)
      (fun i hi => by
        simp only [List.getElem_replicate]
        exact ukn_do) rfl (fun _ => rfl) (fun i hi => by
        rw [acc_rep, rep_len]
        have : (bN E251 ++ [10]).length = 10 := rfl
        rw [this]
        simp at hi
        omega)
    rw [List.length_replicate, acc_rep] at this
    exact this
  · rw [if_neg h]
    exact run_err (by omega) hl hL (.inr (by simpa using h))
theorem none_run : PureEv Tryz.prog 6 [.str (bsl [])] (.str (bsl [])) :=
  run_ev (s := []) (ls := []) (by decide) (by decide) (.inl rfl) (by decide) (Z := fun _ => Z0) (A := accA fun _ => []) (ans := fun _ => []) rfl (fun _ => Z0m) (fun i hi => by simp at hi) rfl (fun _ => rfl) (fun i hi => by simp at hi; subst hi; decide)
end Go.Proofs.YtjhhedpgfpcaiaaGreatDoor
