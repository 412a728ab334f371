/- ConsoleLimits: what must be answered first; the law. -/
import Derived.Test.YtjhhedpgfpcaiaaGreatDoorCoF2
import Derived.Test.YtjhhedpgfpcaiaaGreatDoorWlL2
import Derived.Lib.LaidTab
import Derived.Stop.LaidErr
import Derived.Deep.DeepHandedRow
namespace Go.Proofs.YtjhhedpgfpcaiaaGreatDoor
set_option linter.constructorNameAsVariable false
set_option linter.unusedSimpArgs false
set_option linter.unusedVariables false
open Go Go.Ab Go.RowKit
set_option maxRecDepth 100000
set_option linter.unusedVariables false
set_option linter.unusedSimpArgs false
def kF : List (FuncId × List XV × XV) := [(6, [.str SCR], .str OUT)]
theorem kF_ok (ρ : Env) : PvsK ρ Tryz.prog kF := ⟨⟨first_run, rfl, rfl⟩, trivial⟩
abbrev ovF1 : OvT := ovA (ovPv (pvL kF) ov0) []
theorem ovF1_ok : OvH env0 Tryz.prog ovF1 := ovA_ok (fs := []) nofun (ovPv_ok (pvK_ok (kF_ok env0)) ov0_ok) (ms := []) trivial
theorem first_e : isV (.bool true) (runR Tryz.prog pv0 (codeT tabL) ovF1 200 4 [] ⟨0, .e, ⟨[], .e, 1000000000, false, 0⟩⟩) = true := by kernel_rfl
theorem first_ev : PureEv Tryz.prog 4 [] (.bool true) := call_R env0 (fs := []) nofun pv0_ok mixed rfl (Nat.le_refl _) tabL_ok ovF1_ok rfl first_e
theorem nil_e : isV (.str []) (runR Tryz.prog pv0 (codeT tabL) (ovA ovK []) 200 7 [.nilp, .str [108, 105, 115, 116]] ⟨0, .e, ⟨[], .e, 1000000000, false, 0⟩⟩) = true := by kernel_rfl
theorem nil_ev : PureEv Tryz.prog 7 [.nilp, .str (bsl (bN [108, 105, 115, 116]))] (.str (bsl [])) := call_R env0 (fs := []) nofun pv0_ok mixed rfl (Nat.le_refl _) tabL_ok (ovA_ok (fs := []) nofun ovK_ok (ms := []) trivial) (args := [.nilp, .str [108, 105, 115, 116]]) (w := .str []) rfl nil_e
theorem rep_ev (l : List UInt8) (n : Nat) (h : l.length ≤ 1000) (hn : n ≤ 100000) : PureEv Tryz.prog 5 [.str (bsl l), .int .i64 n] (.str (bsl (Lib.repeatL l n))) := by
  have := repeat_ev (bsl l) n (by omega) (by
    rw [bsl_size]
    have := Nat.mul_le_mul h hn
    omega)
  rw [bsl_data] at this
  exact this
section
variable {P : Program} {rs : List ROper} {fr : Fr} {S : List Ob} {log : List LE} {K : Fr → List Ob → List LE → Prop}
theorem v_gd {c : RC} {d : Option Nat} {t : Nat} {w : Bool} (hg : Fr.get fr t = .bool w) (h : VCops P (⟨d, none, c⟩ :: rs) fr S log K) : VCops P (⟨d, some (t, w), c⟩ :: rs) fr S log K := by
  simp only [VCops, hg] at h ⊢
  exact ⟨fun _ => h, fun e => by cases w <;> cases e⟩
end
def lA : FC := .seq (.reg [⟨(some 10), none, .call 4 []⟩, ⟨(some 11), none, .op (.un .not (.t 10))⟩] []) (.cond (.t 11) (.seq (.reg [⟨(some 4), none, .op (.mv (.v (.bool false)))⟩] []) .ret) .skip)
def lB : FC := .reg [⟨(some 12), none, .op (.mv (.t 0))⟩,
  ⟨(some 13), none, .op (.cint .u64 (.t 12))⟩,
  ⟨(some 14), none, .op (.bin .none .rem (.t 13) (.v (.int .u64 16)))⟩,
  ⟨(some 15), none, .op (.cint .i64 (.t 14))⟩,
  ⟨(some 16), none, .op (.bin .none .add (.v (.int .i64 505)) (.t 15))⟩,
  ⟨(some 5), none, .op (.mv (.t 16))⟩] []
def lC : FC := .reg [⟨(some 17), none, .op (.mv (.t 1))⟩,
  ⟨(some 18), none, .op (.cint .u64 (.t 17))⟩,
  ⟨(some 19), none, .op (.bin .none .rem (.t 18) (.v (.int .u64 12)))⟩,
  ⟨(some 20), none, .op (.cint .i64 (.t 19))⟩,
  ⟨(some 21), none, .op (.bin .none .add (.v (.int .i64 65530)) (.t 20))⟩,
  ⟨(some 6), none, .op (.mv (.t 21))⟩] []
def lD : FC := .reg [⟨(some 7), none, .op (.mv (.v (.str (ByteArray.mk #[101, 114, 114, 111, 114, 32, 50, 53, 48, 10]))))⟩] []
def lE : FC := .seq (.reg [⟨(some 22), none, .op (.mv (.t 5))⟩,
  ⟨(some 23), none, .op (.bin .none .leq (.t 22) (.v (.int .i64 512)))⟩] [])
  (.cond (.t 23)
  (.reg [⟨(some 24), none, .op (.mv (.t 5))⟩,
  ⟨(some 25), none, .call 5 [(.v (.str (ByteArray.mk #[101, 114, 114, 111, 114, 32, 50, 53, 49, 10]))), (.t 24)]⟩,
  ⟨(some 7), none, .op (.mv (.t 25))⟩] [])
  .skip)
def lF : FC := .reg [⟨(some 8), none, .op (.mv (.v (.str (ByteArray.mk #[101, 114, 114, 111, 114, 32, 50, 53, 48, 10]))))⟩] []
def lG : FC := .seq (.reg [⟨(some 26), none, .op (.mv (.t 6))⟩,
  ⟨(some 27), none, .op (.bin .none .leq (.t 26) (.v (.int .i64 65536)))⟩] [])
  (.cond (.t 27)
  (.reg [⟨(some 8), none, .op (.mv (.v (.str (ByteArray.mk #[101, 114, 114, 111, 114, 32, 50, 53, 49, 10]))))⟩] [])
  .skip)
def lH : FC := .reg [⟨(some 9), none, .op (.mv (.v .nilp))⟩] []
def lI : FC := .reg [⟨(some 28), none, .op (.mv (.t 5))⟩,
  ⟨(some 29), none, .call 5 [(.v (.str (ByteArray.mk #[120, 10]))), (.t 28)]⟩,
  ⟨(some 30), none, .call 6 [(.t 29)]⟩,
  ⟨(some 31), none, .op (.mv (.t 7))⟩,
  ⟨(some 32), none, .op (.bin .none .eql (.t 30) (.t 31))⟩,
  ⟨(some 33), none, .op (.mv (.t 32))⟩,
  ⟨(some 34), some (33, true), .op (.mv (.t 6))⟩,
  ⟨(some 35), some (33, true), .call 5 [(.v (.str (ByteArray.mk #[120]))), (.t 34)]⟩,
  ⟨(some 36), some (33, true), .call 6 [(.t 35)]⟩,
  ⟨(some 37), some (33, true), .op (.mv (.t 8))⟩,
  ⟨(some 38), some (33, true), .op (.bin .none .eql (.t 36) (.t 37))⟩,
  ⟨(some 39), none, .op (.pick (.t 33) (.t 38) (.v (.bool false)))⟩,
  ⟨(some 40), none, .op (.mv (.t 39))⟩,
  ⟨(some 41), some (40, true), .op (.mv (.t 9))⟩,
  ⟨(some 42), some (40, true), .call 7 [(.t 41), (.v (.str (ByteArray.mk #[108, 105, 115, 116])))]⟩,
  ⟨(some 43), some (40, true), .op (.bin .none .eql (.t 42) (.v (.str (ByteArray.mk #[]))))⟩,
  ⟨(some 44), none, .op (.pick (.t 40) (.t 43) (.v (.bool false)))⟩,
  ⟨(some 45), none, .op (.mv (.t 44))⟩,
  ⟨(some 46), some (45, true), .call 6 [(.v (.str (ByteArray.mk #[])))]⟩,
  ⟨(some 47), some (45, true), .op (.bin .none .eql (.t 46) (.v (.str (ByteArray.mk #[]))))⟩,
  ⟨(some 48), none, .op (.pick (.t 45) (.t 47) (.v (.bool false)))⟩,
  ⟨(some 4), none, .op (.mv (.t 48))⟩] []
def fcL : FC := .seq (.reg [⟨(some 4), none, .op (.mv (.v (.bool false)))⟩] []) (.seq lA (.seq lB (.seq lC (.seq lD (.seq lE (.seq lF (.seq lG (.seq lH (.seq lI .ret)))))))))
theorem law_code : codeOf Tryz.prog 3 = some (49, [(4, none)], fcL) := by kernel_rfl
theorem law_fn : Fn3 Tryz.prog 3 49 [(4, none)] fcL := codeOf_ok _ _ _ _ _ law_code
theorem u64_ex (a : Int) : ∃ X : Nat, IntKind.u64.wrap a = X := by
  have h : IntKind.u64.wrap a = a % 18446744073709551616 := rfl
  exact ⟨(a % 18446744073709551616).toNat, by rw [h]; omega⟩
theorem eq_st (c : EqC) (b : ByteArray) : StBin c .eql (.str b) (.str b) (.bool true) := ⟨(by intro e; cases e), by simp [strBin]⟩
/-- A number within bounds, out of any. -/
theorem num_vc {S0 : List Ob} {a : Int} {q B : Nat} (hq : 0 < q) (hq2 : q ≤ 16) (hB : B ≤ 65530) : ∃ r : Nat, r < q ∧ StBin .none .rem (.int .u64 (IntKind.u64.wrap a)) (.int .u64 q) (.int .u64 r) ∧ IntKind.i64.wrap (r : Int) = r ∧ StBin .none .add (.int .i64 B) (.int .i64 r) (.int .i64 (B + r : Nat)) := by
  obtain ⟨X, hX⟩ := u64_ex a
  refine ⟨X % q, Nat.mod_lt _ hq, ?_, ?_, ?_⟩
  · rw [hX]
    refine ⟨rfl, ?_⟩
    have h0 : ¬ ((q : Int) = 0) := by omega
    simp only [intBin, if_neg h0]
    rfl
  · have := Nat.mod_lt X hq
    exact i64_id (by omega) (by omega)
  · have := Nat.mod_lt X hq
    refine ⟨rfl, ?_⟩
    simp only [intBin]
    rw [i64_id (by omega) (by omega)]
    rfl
abbrev KL : Post := fun e fr1 S1 => isRet e ∧ hp S1 = hp [] ∧ retR (hp []) (Fr.get fr1) [(4, none)] (.bool true)
theorem law_end {N M : Nat} (hN : N ≤ 520) (hM0 : 65530 ≤ M) (hM : M ≤ 65541) {fr : Fr} (h5 : Fr.get fr 5 = .int .i64 N) (h6 : Fr.get fr 6 = .int .i64 M) (h7 : Fr.get fr 7 = .str (bsl (wantN N))) (h8 : Fr.get fr 8 = .str (bsl (wantM M))) : VC Tryz.prog [] (.seq lH (.seq lI .ret)) fr [] KL := by
  simp only [VC]
  unfold lH lI
  simp only [VC]
  refine v_mv .nilp rfl ?_
  refine ⟨trivial, _, _, wk_refl, ?_⟩
  refine v_mv (.int .i64 N) (by simp [ev, get_putF, putM, upd, h5]) ?_
  refine v_call (args := [.str (bsl [120, 10]), .int .i64 N]) (by simp [evL, ev, get_putF, putM, upd]; rfl) _ (rep_ev [120, 10] N (by decide) (by omega)) rfl rfl ?_
  refine v_call (args := [.str (bsl (Lib.repeatL [120, 10] N))]) (by simp [evL, ev, get_putF, putM, upd]) _ (many_run hN) rfl rfl ?_
  refine v_mv (.str (bsl (wantN N))) (by simp [ev, get_putF, putM, upd, h7]) ?_
  refine v_op (.bool true) ⟨by simpa [ev, get_putF, putM, upd] using eq_st .none _, rfl, rfl⟩ ?_
  refine v_mv (.bool true) (by simp [ev, get_putF, putM, upd]) ?_
  refine v_gd (by simp [get_putF, putM, upd]) (v_mv (.int .i64 M) (by simp [ev, get_putF, putM, upd, h6]) ?_)
  refine v_gd (by simp [get_putF, putM, upd]) (v_call (args := [.str (bsl [120]), .int .i64 M]) (by simp [evL, ev, get_putF, putM, upd]; rfl) _ (rep_ev [120] M (by decide) (by omega)) rfl rfl ?_)
  refine v_gd (by simp [get_putF, putM, upd]) (v_call (args := [.str (bsl (Lib.repeatL [120] M))]) (by simp [evL, ev, get_putF, putM, upd]) _ (long_run hM0 hM) rfl rfl ?_)
  refine v_gd (by simp [get_putF, putM, upd]) (v_mv (.str (bsl (wantM M))) (by simp [ev, get_putF, putM, upd, h8]) ?_)
  refine v_gd (by simp [get_putF, putM, upd]) (v_op (.bool true) ⟨by simpa [ev, get_putF, putM, upd] using eq_st .none _, rfl, rfl⟩ ?_)
  refine v_op (.bool true) ⟨by simp [ev, get_putF, putM, upd, StPick], rfl, rfl⟩ ?_
  refine v_mv (.bool true) (by simp [ev, get_putF, putM, upd]) ?_
  refine v_gd (by simp [get_putF, putM, upd]) (v_mv .nilp (by simp [ev, get_putF, putM, upd]) ?_)
  refine v_gd (by simp [get_putF, putM, upd]) (v_call (args := [.nilp, .str (bsl (bN [108, 105, 115, 116]))]) (by simp [evL, ev, get_putF, putM, upd]; rfl) _ nil_ev rfl rfl ?_)
  refine v_gd (by simp [get_putF, putM, upd]) (v_op (.bool true) ⟨by simpa [ev, get_putF, putM, upd, show bsl [] = ByteArray.mk #[] from rfl] using eq_st .none (bsl []), rfl, rfl⟩ ?_)
  refine v_op (.bool true) ⟨by simp [ev, get_putF, putM, upd, StPick], rfl, rfl⟩ ?_
  refine v_mv (.bool true) (by simp [ev, get_putF, putM, upd]) ?_
  refine v_gd (by simp [get_putF, putM, upd]) (v_call (args := [.str (bsl [])]) (by simp [evL, ev]; rfl) _ none_run rfl rfl ?_)
  refine v_gd (by simp [get_putF, putM, upd]) (v_op (.bool true) ⟨by simpa [ev, get_putF, putM, upd, show bsl [] = ByteArray.mk #[] from rfl] using eq_st .none (bsl []), rfl, rfl⟩ ?_)
  refine v_op (.bool true) ⟨by simp [ev, get_putF, putM, upd, StPick], rfl, rfl⟩ ?_
  refine v_mv (.bool true) (by simp [ev, get_putF, putM, upd]) ?_
  refine ⟨trivial, _, _, wk_refl, trivial, rfl, ?_⟩
  show _ = Fr.get _ 4
  simp [get_putF, putM, upd]
theorem law_g {N M : Nat} (hN : N ≤ 520) (hM0 : 65530 ≤ M) (hM : M ≤ 65541) {fr : Fr} (h5 : Fr.get fr 5 = .int .i64 N) (h6 : Fr.get fr 6 = .int .i64 M) (h7 : Fr.get fr 7 = .str (bsl (wantN N))) : VC Tryz.prog [] (.seq lF (.seq lG (.seq lH (.seq lI .ret)))) fr [] KL := by
  have key := fun fr a b c d => @law_end N M hN hM0 hM fr a b c d
  generalize hX : (FC.seq lH (.seq lI .ret)) = X at key ⊢
  simp only [VC]
  unfold lF lG
  simp only [VC]
  refine v_mv _ rfl ?_
  refine ⟨trivial, _, _, wk_refl, ?_⟩
  refine v_mv (.int .i64 M) (by simp [ev, get_putF, putM, upd, h6]) ?_
  refine v_op (.bool (decide (M ≤ 65536))) ⟨?_, rfl, rfl⟩ ?_
  · simp only [ev, get_putF, putM, upd, if_true]
    refine ⟨rfl, ?_⟩
    show some (AV.bool (decide ((M : Int) ≤ 65536))) = _
    by_cases h : M ≤ 65536
    · rw [decide_eq_true h, decide_eq_true (by omega)]
    · rw [decide_eq_false h, decide_eq_false (by omega)]
  refine ⟨trivial, _, _, wk_refl, ?_⟩
  simp only [ev, get_putF, putM, upd, if_true]
  refine ⟨fun e => ?_, fun e => ?_⟩
  · have h : M ≤ 65536 := by simpa using e
    refine v_mv (.str (bsl (bN E251 ++ [10]))) rfl ?_
    refine ⟨trivial, _, _, wk_refl, key _ (by simp [get_putF, putM, upd, h5]) (by simp [get_putF, putM, upd, h6]) (by simp [get_putF, putM, upd, h7]) ?_⟩
    unfold wantM
    rw [if_pos h]
    simp [get_putF, putM, upd]
  · have h : ¬ M ≤ 65536 := by simpa using e
    refine ⟨_, _, wk_refl, key _ (by simp [get_putF, putM, upd, h5]) (by simp [get_putF, putM, upd, h6]) (by simp [get_putF, putM, upd, h7]) ?_⟩
    unfold wantM
    rw [if_neg h]
    simp [get_putF, putM, upd, ev]
    rfl
theorem law_e {N M : Nat} (hN : N ≤ 520) (hM0 : 65530 ≤ M) (hM : M ≤ 65541) {fr : Fr} (h5 : Fr.get fr 5 = .int .i64 N) (h6 : Fr.get fr 6 = .int .i64 M) : VC Tryz.prog [] (.seq lD (.seq lE (.seq lF (.seq lG (.seq lH (.seq lI .ret)))))) fr [] KL := by
  have key := fun fr a b c => @law_g N M hN hM0 hM fr a b c
  generalize hX : (FC.seq lF (.seq lG (.seq lH (.seq lI .ret)))) = X at key ⊢
  simp only [VC]
  unfold lD lE
  simp only [VC]
  refine v_mv _ rfl ?_
  refine ⟨trivial, _, _, wk_refl, ?_⟩
  refine v_mv (.int .i64 N) (by simp [ev, get_putF, putM, upd, h5]) ?_
  refine v_op (.bool (decide (N ≤ 512))) ⟨?_, rfl, rfl⟩ ?_
  · simp only [ev, get_putF, putM, upd, if_true]
    refine ⟨rfl, ?_⟩
    show some (AV.bool (decide ((N : Int) ≤ 512))) = _
    by_cases h : N ≤ 512
    · rw [decide_eq_true h, decide_eq_true (by omega)]
    · rw [decide_eq_false h, decide_eq_false (by omega)]
  refine ⟨trivial, _, _, wk_refl, ?_⟩
  simp only [ev, get_putF, putM, upd, if_true]
  refine ⟨fun e => ?_, fun e => ?_⟩
  · have h : N ≤ 512 := by simpa using e
    refine v_mv (.int .i64 N) (by simp [ev, get_putF, putM, upd, h5]) ?_
    refine v_call (args := [.str (bsl (bN E251 ++ [10])), .int .i64 N]) (by simp [evL, ev, get_putF, putM, upd]; rfl) _ (rep_ev (bN E251 ++ [10]) N (by decide) (by omega)) rfl rfl ?_
    refine v_mv (.str (bsl (Lib.repeatL (bN E251 ++ [10]) N))) (by simp [ev, get_putF, putM, upd]) ?_
    refine ⟨trivial, _, _, wk_refl, key _ (by simp [get_putF, putM, upd, h5]) (by simp [get_putF, putM, upd, h6]) ?_⟩
    unfold wantN
    rw [if_pos h]
    simp [get_putF, putM, upd]
  · have h : ¬ N ≤ 512 := by simpa using e
    refine ⟨_, _, wk_refl, key _ (by simp [get_putF, putM, upd, h5]) (by simp [get_putF, putM, upd, h6]) ?_⟩
    unfold wantN
    rw [if_neg h]
    simp [get_putF, putM, upd, ev]
    rfl
theorem law_ev (a b : Int) : PureEv Tryz.prog 3 [.int .i64 a, .int .i64 b] (.bool true) := by
  rw [PureEv, ← hp_nil']
  refine EvX_end mixed law_fn (by simp) ?_
  obtain ⟨r, hr, n1, n2, n3⟩ := num_vc (S0 := []) (a := a) (q := 16) (B := 505) (by decide) (by decide) (by decide)
  obtain ⟨r', hr', m1, m2, m3⟩ := num_vc (S0 := []) (a := b) (q := 12) (B := 65530) (by decide) (by decide) (by decide)
  generalize hN : 505 + r = N at n3
  generalize hM : 65530 + r' = M at m3
  have key := fun fr a b => @law_e N M (by omega) (by omega) (by omega) fr a b
  unfold fcL
  generalize hX : (FC.seq lD (.seq lE (.seq lF (.seq lG (.seq lH (.seq lI .ret)))))) = X at key ⊢
  simp only [VC]
  refine v_mv (.bool false) rfl ?_
  refine ⟨trivial, _, _, wk_refl, ?_⟩
  unfold lA
  simp only [VC]
  refine v_call (args := []) rfl (.bool true) first_ev rfl rfl ?_
  refine v_op (.bool false) ⟨by simp [ev, get_putF, putM, upd, StUn], rfl, rfl⟩ ?_
  refine ⟨trivial, _, _, wk_refl, ?_⟩
  simp only [ev, get_putF, putM, upd, if_true]
  refine ⟨fun e => (by cases e), fun _ => ?_⟩
  refine ⟨_, _, wk_refl, ?_⟩
  unfold lB
  simp only [VC]
  refine v_mv (.int .i64 a) (by simp [ev, get_putF, putM, upd, initFr, Fr.get]) ?_
  refine v_op (.int .u64 (IntKind.u64.wrap a)) ⟨by simp [ev, get_putF, putM, upd, StCint], rfl, rfl⟩ ?_
  refine v_op (.int .u64 r) ⟨by simpa [ev, get_putF, putM, upd] using n1, rfl, rfl⟩ ?_
  refine v_op (.int .i64 r) ⟨by simp [ev, get_putF, putM, upd, StCint, n2], rfl, rfl⟩ ?_
  refine v_op (.int .i64 N) ⟨by simpa [ev, get_putF, putM, upd] using n3, rfl, rfl⟩ ?_
  refine v_mv (.int .i64 N) (by simp [ev, get_putF, putM, upd]) ?_
  refine ⟨trivial, _, _, wk_refl, ?_⟩
  unfold lC
  simp only [VC]
  refine v_mv (.int .i64 b) (by simp [ev, get_putF, putM, upd, initFr, Fr.get]) ?_
  refine v_op (.int .u64 (IntKind.u64.wrap b)) ⟨by simp [ev, get_putF, putM, upd, StCint], rfl, rfl⟩ ?_
  refine v_op (.int .u64 r') ⟨by simpa [ev, get_putF, putM, upd] using m1, rfl, rfl⟩ ?_
  refine v_op (.int .i64 r') ⟨by simp [ev, get_putF, putM, upd, StCint, m2], rfl, rfl⟩ ?_
  refine v_op (.int .i64 M) ⟨by simpa [ev, get_putF, putM, upd] using m3, rfl, rfl⟩ ?_
  refine v_mv (.int .i64 M) (by simp [ev, get_putF, putM, upd]) ?_
  refine ⟨trivial, _, _, wk_refl, ?_⟩
  exact key _ (by simp [get_putF, putM, upd]) (by simp [get_putF, putM, upd])
end Go.Proofs.YtjhhedpgfpcaiaaGreatDoor
/- From the row's list to the settings: MaxLen, the powers of ten, the table for the trailing zeros; the bulk of arguments. -/
namespace Go.Proofs.YtjhhedpgfpcaiaaGreatDoor
set_option linter.constructorNameAsVariable false
set_option linter.unusedSimpArgs false
set_option linter.unusedVariables false
open Go Go.Ab Go.RowKit
set_option maxRecDepth 20000
set_option linter.unusedVariables false
set_option linter.unusedSimpArgs false
theorem tz_laid : (Rows.laid_math_bits_deBruijn64tab : DataW Unit) = Lib.tabData .u8 tzT := by kernel_rfl
theorem pow10_laid : (Rows.laid_internal_strconv_uint64pow10 : DataW Unit) = Lib.tabData .u64 pow10T := by kernel_rfl
theorem glob_pow10 : Tryz.prog.globalNamed "internal/strconv.uint64pow10" = some 3 := by kernel_rfl
theorem glob_tz : Tryz.prog.globalNamed "math/bits.deBruijn64tab" = some 7 := by kernel_rfl
theorem tab_here {W : World} {b : Nat} {cs : Array Value} {t fz} (h : W.heap[b]? = some (.cells cs t fz)) {p : Array Value → Prop} (hp : p cs) : b < W.heap.size ∧ ∃ cs t fz, W.heap[b]? = some (.cells cs t fz) ∧ p cs :=
  ⟨(Array.getElem?_eq_some_iff.1 h).1, cs, t, fz, h, hp⟩
theorem tab_is {P : Program} {W : World} {nm : String} {k : IntKind} {zs : List Int} {b : Nat} (hg : P.globalNamed nm = some b) (h : Lib.TabIs P W nm k zs) : ∃ t fz, W.heap[b]? = some (.cells (zs.map fun z => Value.int k z).toArray t fz) := by
  unfold Lib.TabIs World.var? at h
  rw [hg, Option.bind_some] at h
  cases e2 : W.heap[b]? with
  | none => rw [e2] at h; cases h
  | some o =>
    rw [e2] at h
    cases o with
    | cells c t fz => cases h; exact ⟨t, fz, rfl⟩
    | _ => cases h
theorem tab_cell {W : World} {b : Nat} {v : Value} (h : W.cell? ⟨b, 0, none⟩ = some v) : ∃ cs t fz, W.heap[b]? = some (.cells cs t fz) ∧ cs[0]? = some v := by
  simp only [World.cell?] at h
  cases e2 : W.heap[b]? with
  | none => rw [e2] at h; simp at h
  | some o =>
    rw [e2] at h
    cases o with
    | cells c t fz => exact ⟨c, t, fz, rfl, by simpa using h⟩
    | _ => simp at h

theorem tab_of {W : World} (h : laidMet Tryz.prog Rows.consoleLimitsUptoRow.laid W) (hsh : W.ShapedOpen Tryz.prog) : TabOK W.heap.size W := by
  have h2 := h.tail
  have h3 := h.tail.tail
  obtain ⟨m, hm⟩ : ∃ m, W.cell? ⟨0, 0, none⟩ = some (.int .i64 m) := Tryz.laysM146.s1_3 W hsh
  have hz : Lib.TabIs Tryz.prog W "math/bits.deBruijn64tab" .u8 tzT := by
    have h2' : laidMet Tryz.prog (("math/bits.deBruijn64tab", Rows.laid_math_bits_deBruijn64tab) :: _) W := h2
    rw [tz_laid] at h2'
    exact Lib.tabIs_of_head glob_tz (t := 441) (e := 5) (n := 64) (by kernel_rfl) Tryz.underlying441 Tryz.underlying5 (by kernel_rfl) (by kernel_rfl) h2'
  have hp : Lib.TabIs Tryz.prog W "internal/strconv.uint64pow10" .u64 pow10T := by
    have h3' : laidMet Tryz.prog (("internal/strconv.uint64pow10", Rows.laid_internal_strconv_uint64pow10) :: _) W := h3
    rw [pow10_laid] at h3'
    exact Lib.tabIs_of_head glob_pow10 (t := 276) (e := 75) (n := 20) (by kernel_rfl) Tryz.underlying276 Tryz.underlying75 (by kernel_rfl) (by kernel_rfl) h3'
  intro b p e
  match b, e with
  | 0, e =>
    cases Option.some.inj e
    obtain ⟨cs, t, fz, q1, q2⟩ := tab_cell hm
    exact tab_here q1 ⟨m, q2⟩
  | 1, e => cases e
  | 2, e => cases e
  | 3, e =>
    cases Option.some.inj e
    obtain ⟨t, fz, q⟩ := tab_is glob_pow10 hp
    exact tab_here q rfl
  | 4, e => cases e
  | 5, e => cases e
  | 6, e => cases e
  | 7, e =>
    cases Option.some.inj e
    obtain ⟨t, fz, q⟩ := tab_is glob_tz hz
    exact tab_here q rfl
  | n + 8, e => cases e
theorem part_le {H : Type} {d : DataW H} {l : List (DataW H)} (h : d ∈ l) : Rows.uptoBulk d ≤ Rows.uptoBulkAll l := by
  induction l with
  | nil => cases h
  | cons x r ih =>
    simp only [Rows.uptoBulkAll]
    rcases List.mem_cons.1 h with e | e
    · subst e; omega
    · have := ih e; omega
theorem one_le {H : Type} (d : DataW H) : 1 ≤ Rows.uptoBulk d := by
  cases d with
  | lit l => cases l <;> simp [Rows.uptoBulk]
  | _ => simp [Rows.uptoBulk]
theorem length_le {H : Type} (l : List (DataW H)) : l.length ≤ Rows.uptoBulkAll l := by
  induction l with
  | nil => simp [Rows.uptoBulkAll]
  | cons x r ih => have := one_le x; simp only [Rows.uptoBulkAll, List.length_cons]; omega
theorem bulk {H : Type} : Bulk (H := H) Rows.uptoBulk :=
  ⟨fun bytes => by simp [Rows.uptoBulk], fun e s => by have := length_le e; simp only [Rows.uptoBulk]; omega, fun e s d h => by have := part_le h; simp only [Rows.uptoBulk]; omega, fun p d h => by have := part_le h; simp only [Rows.uptoBulk]; omega⟩
theorem con_law (a b : Int) (ha : (Lit.int .i64 a).wf = true) (hb : (Lit.int .i64 b).wf = true) : PureEv Tryz.prog 3 [avI .i64 a, avI .i64 b] (.bool true) := law_ev a b
theorem own : ownKnob Tryz.prog.godebug = none := by kernel_rfl
theorem laidOut : laidOutB Tryz.prog = true := by kernel_rfl
end Go.Proofs.YtjhhedpgfpcaiaaGreatDoor
