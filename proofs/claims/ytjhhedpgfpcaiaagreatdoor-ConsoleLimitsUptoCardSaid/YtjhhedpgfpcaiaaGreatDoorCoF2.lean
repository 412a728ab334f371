/- console.Run upon one long line. -/
import Derived.Test.YtjhhedpgfpcaiaaGreatDoorCoF1
namespace Go.Proofs.YtjhhedpgfpcaiaaGreatDoor
set_option linter.constructorNameAsVariable false
set_option linter.unusedSimpArgs false
set_option linter.unusedVariables false
open Go Go.Ab Go.RowKit
set_option maxRecDepth 100000
set_option linter.unusedVariables false
set_option linter.unusedSimpArgs false
def rep (n : Nat) : List Nat := Nat.rec [] (fun _ r => 120 :: r) n
theorem rep_succ (n : Nat) : rep (n + 1) = 120 :: rep n := rfl
theorem rep_bN (n : Nat) : bN (rep n) = Lib.repeatL [120] n := by
  induction n with
  | zero => rfl
  | succ n ih =>
    rw [rep_succ]
    show 120 :: bN (rep n) = [120] ++ Lib.repeatL [120] n
    rw [ih]; rfl
theorem rep_length (n : Nat) : (rep n).length = n := by
  induction n with
  | zero => rfl
  | succ n ih => rw [rep_succ, List.length_cons, ih]
theorem rep_mem (n : Nat) (x : UInt8) (h : x ∈ Lib.repeatL [120] n) : x = 120 := by
  induction n with
  | zero => cases h
  | succ n ih =>
    have h' : x ∈ [120] ++ Lib.repeatL [120] n := h
    rcases List.mem_append.1 h' with q | q
    · simpa using q
    · exact ih q
def kM (m : Nat) : List (FuncId × List XV × XV) := (18, [.str (rep m), .str [32]], .tup [.str (rep m), .str [], .bool false]) :: kL
theorem kM_ok {m : Nat} (hm : m ≤ 65536) (ρ : Env) : PvsK ρ Tryz.prog (kM m) :=
  ⟨⟨cut_k ρ (s := rep m) (sep := [32]) (a := rep m) (b := []) (t := false) (by rw [rep_length]; omega) (by
    rw [rep_bN]
    exact cut_none 32 _ (fun h => absurd (rep_mem _ _ h) (by decide))), rfl, rfl⟩, kL_ok ρ⟩
abbrev ovW (m : Nat) : OvT := ovA (ovPv (pvL (kM m)) (ovM 194 164 ov0)) []
theorem ovW_ok {m : Nat} (hm : m ≤ 65536) : OvH env0 Tryz.prog (ovW m) := ovA_ok (fs := []) nofun (ovPv_ok (pvK_ok (kM_ok hm env0)) (ovM_ok ov0_ok)) (ms := []) trivial
abbrev longE (m : Nat) : Prop := isV (.str E251) (runR Tryz.prog pv0 (codeT tabL) (ovW m) 200 7 [c0f, .str (rep m)] ⟨0, .e, ⟨[], .e, 1000000000, false, 0⟩⟩) = true
theorem long0 : longE 65530 := by
  show isV (.str E251) (runR Tryz.prog pv0 (codeT tabL) (ovW 65530) 200 7 [c0f, .str (rep 65530)] ⟨0, .e, ⟨[], .e, 1000000000, false, 0⟩⟩) = true
  kernel_rfl
theorem long1 : longE 65531 := by
  show isV (.str E251) (runR Tryz.prog pv0 (codeT tabL) (ovW 65531) 200 7 [c0f, .str (rep 65531)] ⟨0, .e, ⟨[], .e, 1000000000, false, 0⟩⟩) = true
  kernel_rfl
theorem long2 : longE 65532 := by
  show isV (.str E251) (runR Tryz.prog pv0 (codeT tabL) (ovW 65532) 200 7 [c0f, .str (rep 65532)] ⟨0, .e, ⟨[], .e, 1000000000, false, 0⟩⟩) = true
  kernel_rfl
theorem long3 : longE 65533 := by
  show isV (.str E251) (runR Tryz.prog pv0 (codeT tabL) (ovW 65533) 200 7 [c0f, .str (rep 65533)] ⟨0, .e, ⟨[], .e, 1000000000, false, 0⟩⟩) = true
  kernel_rfl
theorem long4 : longE 65534 := by
  show isV (.str E251) (runR Tryz.prog pv0 (codeT tabL) (ovW 65534) 200 7 [c0f, .str (rep 65534)] ⟨0, .e, ⟨[], .e, 1000000000, false, 0⟩⟩) = true
  kernel_rfl
theorem long5 : longE 65535 := by
  show isV (.str E251) (runR Tryz.prog pv0 (codeT tabL) (ovW 65535) 200 7 [c0f, .str (rep 65535)] ⟨0, .e, ⟨[], .e, 1000000000, false, 0⟩⟩) = true
  kernel_rfl
theorem long6 : longE 65536 := by
  show isV (.str E251) (runR Tryz.prog pv0 (codeT tabL) (ovW 65536) 200 7 [c0f, .str (rep 65536)] ⟨0, .e, ⟨[], .e, 1000000000, false, 0⟩⟩) = true
  kernel_rfl

theorem long_all {m : Nat} (h0 : 65530 ≤ m) (h1 : m ≤ 65536) : longE m := by
  rcases (by omega : m = 65530 ∨ m = 65531 ∨ m = 65532 ∨ m = 65533 ∨ m = 65534 ∨ m = 65535 ∨ m = 65536) with rfl | rfl | rfl | rfl | rfl | rfl | rfl
  · exact long0
  · exact long1
  · exact long2
  · exact long3
  · exact long4
  · exact long5
  · exact long6
theorem long_ev {m : Nat} (h0 : 65530 ≤ m) (h1 : m ≤ 65536) : PureEv Tryz.prog 7 [c0f.av env0, .str (bsl (bN (rep m)))] (.str (bsl (bN E251))) :=
  call_R env0 (fs := []) nofun pv0_ok mixed rfl (Nat.le_refl _) tabL_ok (ovW_ok h1) (f := 7) (args := [c0f, .str (rep m)]) (w := .str E251) rfl (long_all h0 h1)
theorem rep_split (m : Nat) : splitL 10 (Lib.repeatL [120] m) = [Lib.repeatL [120] m] := splitL_none 10 _ (fun h => absurd (rep_mem _ _ h) (by decide))
def wantM (m : Nat) : List UInt8 := if m ≤ 65536 then bN E251 ++ [10] else bN [101, 114, 114, 111, 114, 32, 50, 53, 48, 10]
theorem long_run {m : Nat} (h0 : 65530 ≤ m) (h2 : m ≤ 65541) : PureEv Tryz.prog 6 [.str (bsl (Lib.repeatL [120] m))] (.str (bsl (wantM m))) := by
  have hlen : (Lib.repeatL [120] m).length = m := by rw [rep_len]; simp
  have hl : (splitL 10 (Lib.repeatL [120] m)).length < 9223372036854775808 := by rw [rep_split]; simp
  have hne : Lib.repeatL [120] m ≠ [] := fun e => by rw [e] at hlen; simp at hlen; omega
  have hL : LinesOf (Lib.repeatL [120] m) [Lib.repeatL [120] m] := .inr ⟨rep_split m, _, [], by rw [rep_split]; rfl, hne⟩
  unfold wantM
  by_cases h : m ≤ 65536
  · rw [if_pos h]
    have := run_ev (by omega) hl hL (by simp) (Z := fun _ => Z0) (A := accA fun _ => bN E251) (ans := fun _ => bN E251) rfl (fun _ => Z0m)
      (fun i hi => by
        have hi' : i = 0 := by simpa using hi
        subst hi'
        have h := do_look (c := c0f) (long_ev h0 h) c0_rv ⟨_, inT.symm⟩
        rw [rep_bN] at h
        exact h) rfl (fun _ => rfl) (fun i hi => by
        rw [acc_rep, rep_len]
        have : (bN E251 ++ [10]).length = 10 := rfl
        rw [this]
        simp at hi
        omega)
    exact this
  · rw [if_neg h]
    exact run_err (by omega) hl hL (.inl (by omega))
end Go.Proofs.YtjhhedpgfpcaiaaGreatDoor
