/- console.Run, walked: a script's lines, what is too long, a builder of the answers. -/
import Derived.Test.YtjhhedpgfpcaiaaGreatDoorCoE2
namespace Go.Ab
set_option linter.constructorNameAsVariable false
set_option linter.unusedSimpArgs false
set_option linter.unusedVariables false
open Go.RowKit Go.Proofs
set_option linter.unusedVariables false
set_option linter.unusedSimpArgs false
theorem toList_data (bs : ByteArray) : bs.toList = bs.data.toList := by
  have h : ∀ (n i : Nat) (r : List UInt8), bs.size - i = n → ByteArray.toList.loop bs i r = r.reverse ++ (bs.data.toList.drop i) := by
    intro n
    induction n with
    | zero =>
      intro i r hi
      unfold ByteArray.toList.loop
      have : ¬ i < bs.size := by omega
      rw [if_neg this, List.drop_eq_nil_of_le (by simp only [Array.length_toList]; have : bs.size = bs.data.size := rfl; omega), List.append_nil]
    | succ n ih =>
      intro i r hi
      unfold ByteArray.toList.loop
      have hlt : i < bs.size := by omega
      have hlt' : i < bs.data.toList.length := by simp only [Array.length_toList]; exact hlt
      rw [if_pos hlt, ih (i + 1) _ (by omega), List.drop_eq_getElem_cons hlt']
      have hg : bs.get! i = bs.data.toList[i] := by
        show bs.data[i]! = _
        simp only [Array.getElem_toList]
        exact getElem!_pos _ _ _
      simp [hg]
  have := h _ 0 [] rfl
  simpa [ByteArray.toList] using this
section
variable {P : Program} {rs : List ROper} {fr : Fr} {S : List Ob} {log : List LE} {K : Fr → List Ob → List LE → Prop}
theorem v_op {r : ROp} {d : Option Nat} (v : AV) (h : St r (Fr.get fr) (hp S) v [] none) (k : VCops P rs (putF fr d v) S (.acc [] none :: log) K) : VCops P (⟨d, none, .op r⟩ :: rs) fr S log K := by
  simp only [VCops, VC1]
  exact .inl ⟨v, [], none, ⟨v, h, .refl _⟩, k⟩
theorem v_opg {r : ROp} {d : Option Nat} {t : Nat} {w b : Bool} (hg : Fr.get fr t = .bool b) (v : AV) (h : b = w → St r (Fr.get fr) (hp S) v [] none) (k1 : b = w → VCops P rs (putF fr d v) S (.acc [] none :: log) K) (k2 : b = !w → VCops P rs (putF fr d (.tup [])) S (.acc [] none :: log) K) : VCops P (⟨d, some (t, w), .op r⟩ :: rs) fr S log K := by
  simp only [VCops, VC1, hg]
  exact ⟨fun e => .inl ⟨v, [], none, ⟨v, h e, .refl _⟩, k1 e⟩, k2⟩
theorem v_mv {x : Opd} {d : Option Nat} (v : AV) (h : ev (Fr.get fr) x = v) (k : VCops P rs (putF fr d v) S (.acc [] none :: log) K) : VCops P (⟨d, none, .op (.mv x)⟩ :: rs) fr S log K :=
  v_op v ⟨h.symm, rfl, rfl⟩ k
theorem v_call {f : FuncId} {qs : List Opd} {d : Option Nat} {args : List AV} (ha : evL (Fr.get fr) qs = args) (v : AV) (h : PureEv P f args v) (h1 : blwL 0 args = true) (h2 : v.blw 0 = true) (k : VCops P rs (putF fr d v) S (.acc [] none :: log) K) : VCops P (⟨d, none, .call f qs⟩ :: rs) fr S log K := by
  simp only [VCops, VC1, VCcall, ha]
  exact .inl ⟨v, h, h1, h2, k⟩
theorem v_callE {f : FuncId} {qs : List Opd} {d : Option Nat} {args : List AV} (ha : evL (Fr.get fr) qs = args) (v : AV) (S' : List Ob) (h : Ev P f args (hp S) v (hp S')) (k : VCops P rs (putF fr d v) S' (.eff S S' :: log) K) : VCops P (⟨d, none, .call f qs⟩ :: rs) fr S log K := by
  simp only [VCops, VC1, VCcall, ha]
  exact .inr (.inl ⟨v, S', h, k⟩)
end
end Go.Ab
namespace Go.Proofs.YtjhhedpgfpcaiaaGreatDoor
open Go Go.Ab Go.RowKit
set_option maxRecDepth 100000
set_option linter.unusedVariables false
set_option linter.unusedSimpArgs false
def q0 : FC := .reg [⟨(some 2), none, .op (.mv (.v (.str (ByteArray.mk #[]))))⟩] []
def q1 : FC := .reg [⟨(some 8), none, .op (.mv (.t 0))⟩, ⟨(some 9), none, .call 14 [(.t 8), (.v (.str (ByteArray.mk #[10])))]⟩, ⟨(some 3), none, .op (.mv (.t 9))⟩] []
def q2 : FC := .seq (.reg [⟨(some 10), none, .op (.mv (.t 3))⟩,
  ⟨(some 11), none, .op (.mv (.t 3))⟩,
  ⟨(some 12), none, .op (.len .sl (.t 11))⟩,
  ⟨(some 13), none, .op (.bin .none .sub (.t 12) (.v (.int .i64 1)))⟩,
  ⟨(some 14), none, .op (.iad none none (.t 10) (.t 13))⟩,
  ⟨(some 15), none, .op (.load none (.t 14))⟩,
  ⟨(some 16), none, .op (.bin .none .eql (.t 15) (.v (.str (ByteArray.mk #[]))))⟩] [])
  (.cond (.t 16)
  (.reg [⟨(some 17), none, .op (.mv (.t 3))⟩,
  ⟨(some 18), none, .op (.mv (.t 3))⟩,
  ⟨(some 19), none, .op (.len .sl (.t 18))⟩,
  ⟨(some 20), none, .op (.bin .none .sub (.t 19) (.v (.int .i64 1)))⟩,
  ⟨(some 21), none, .op (.slc none (.t 17) none (some (.t 20)) none)⟩,
  ⟨(some 3), none, .op (.mv (.t 21))⟩] [])
  .skip)
def q3 : FC := .seq (.reg [⟨(some 22), none, .op (.mv (.t 0))⟩,
  ⟨(some 23), none, .op (.len .str (.t 22))⟩,
  ⟨(some 24), none, .op (.bin .none .gtr (.t 23) (.v (.int .i64 65536)))⟩,
  ⟨(some 25), none, .op (.mv (.t 24))⟩,
  ⟨(some 26), some (25, false), .op (.mv (.t 3))⟩,
  ⟨(some 27), some (25, false), .op (.len .sl (.t 26))⟩,
  ⟨(some 28), some (25, false), .op (.bin .none .gtr (.t 27) (.v (.int .i64 512)))⟩,
  ⟨(some 29), none, .op (.pick (.t 25) (.v (.bool true)) (.t 28))⟩] [])
  (.cond (.t 29)
  (.seq (.reg [⟨(some 30), none, .call 15 [(.v (.int .i64 250))]⟩,
  ⟨(some 31), none, .op (.bin .none .add (.t 30) (.v (.str (ByteArray.mk #[10]))))⟩,
  ⟨(some 2), none, .op (.mv (.t 31))⟩] [])
  .ret)
  .skip)
def q4 : FC := .reg [⟨(some 32), none, .call 16 []⟩, ⟨(some 4), none, .op (.mv (.t 32))⟩] []
def q5 : FC := .reg [⟨(some 5), none, .op (.new [.nilp, .nils])⟩] []
def q6 : FC := .reg [⟨(some 33), none, .op (.mv (.t 3))⟩, ⟨(some 34), none, .op (.len .sl (.t 33))⟩, ⟨(some 35), none, .op (.mv (.v (.int .i64 0)))⟩] []
def qa : FC := .reg [⟨(some 37), none, .op (.iad none none (.t 33) (.t 35))⟩, ⟨(some 38), none, .op (.load none (.t 37))⟩, ⟨(some 7), none, .op (.mv (.t 38))⟩] []
def qb : FC := .reg ([⟨(some 39), none, .op (.mv (.t 4))⟩, ⟨(some 40), none, .op (.mv (.t 7))⟩, ⟨(some 41), none, .call 7 [(.t 39), (.t 40)]⟩] ++ [⟨(some 42), none, .call 11 [(.t 5), (.t 41)]⟩]) []
def qc : FC := .reg ([] ++ [⟨(some 43), none, .call 17 [(.t 5), (.v (.int .u8 10))]⟩]) []
def qd : FC := .reg [⟨(some 44), none, .op (.bin .none .add (.t 35) (.v (.int .i64 1)))⟩, ⟨(some 35), none, .op (.mv (.t 44))⟩] []
def qL : FC := .seq (.reg [⟨(some 36), none, .op (.bin .none .lss (.t 35) (.t 34))⟩] []) (.seq (.cond (.t 36) .skip (.exit 0)) (.seq (.block 1 (.seq qa (.seq qb qc))) qd))
def q7 : FC := .seq (.reg [⟨(some 45), none, .call 13 [(.t 5)]⟩, ⟨(some 2), none, .op (.mv (.t 45))⟩] []) .ret
def fcR : FC := .seq q0 (.seq q1 (.seq q2 (.seq q3 (.seq q4 (.seq q5 (.seq (.seq q6 (.block 0 (.loop qL))) q7))))))
theorem run_code : codeOf Tryz.prog 6 = some (46, [(2, none)], fcR) := by kernel_rfl
theorem run_fn : Fn3 Tryz.prog 6 46 [(2, none)] fcR := codeOf_ok _ _ _ _ _ run_code
end Go.Proofs.YtjhhedpgfpcaiaaGreatDoor
/- console.Run, walked: ahead of the builder. -/
namespace Go.Proofs.YtjhhedpgfpcaiaaGreatDoor
set_option linter.constructorNameAsVariable false
set_option linter.unusedSimpArgs false
set_option linter.unusedVariables false
open Go Go.Ab Go.RowKit
set_option maxRecDepth 100000
set_option linter.unusedVariables false
set_option linter.unusedSimpArgs false
/-- The program, the builder's type, the byte's, and the calls; the object that tells where the builder stands. -/
noncomputable abbrev cx : Cx := ⟨Tryz.prog, 34, 5, 46, 1, [11, 17], 13, 5, by kernel_rfl⟩
theorem run_bchk : ∀ fn c, Tryz.prog.funcs[6]? = some fn → fn.body = some c → bchk cx.P cx.n cx.bs cx.es cx.nw cx.T c = true := by
  have h : ((Tryz.prog.funcs[6]?).bind (·.body)).map (bchk cx.P cx.n cx.bs cx.es cx.nw cx.T) = some true := by kernel_rfl
  intro fn c h1 h2
  rw [h1] at h
  simp only [Option.bind_some, h2, Option.map_some, Option.some.injEq] at h
  exact h
theorem i64_id {n : Int} (h0 : 0 ≤ n) (h1 : n < 9223372036854775808) : IntKind.i64.wrap n = n := by
  obtain ⟨m, rfl⟩ : ∃ m : Nat, n = m := ⟨n.toNat, by omega⟩
  exact wrap_low .i64 m (by show m < 9223372036854775808; omega)
abbrev lnV (ls : List (List UInt8)) : AV := .sl false 1 ((ls.map bsl).map avS)
theorem lnV_len (ls : List (List UInt8)) : ((ls.map bsl).map avS).length = ls.length := by simp
theorem vc_skip' {S0 : List Ob} {P : Program} {fr : Fr} {S : List Ob} {K : Post} (h : K .normal fr S) : VC P S0 .skip fr S K := h
/-- The lines, without the last one if it is empty. -/
theorem vc_q2 {S0 : List Ob} {L ls : List (List UInt8)} {s : List UInt8} {fr : Fr} {S : List Ob} (h0 : Fr.get fr 0 = .str (bsl s)) (h3 : Fr.get fr 3 = lnV L) (hlen : L.length < 9223372036854775808)
    (hL : L = ls ++ [[]] ∨ (L = ls ∧ ∃ x r, L = r ++ [x] ∧ x ≠ [])) {K : Post} (hK : ∀ fr', Fr.get fr' 0 = .str (bsl s) → Fr.get fr' 3 = lnV ls → K .normal fr' S) : VC Tryz.prog S0 q2 fr S K := by
  obtain ⟨r, x, hrx⟩ : ∃ r x, L = r ++ [x] := by
    rcases hL with h | ⟨_, x, r, h, _⟩
    · exact ⟨_, _, h⟩
    · exact ⟨_, _, h⟩
  have hl : L.length = r.length + 1 := by rw [hrx]; simp
  have hw : IntKind.i64.wrap ((L.length : Int) - 1) = (r.length : Int) := by
    rw [i64_id (by omega) (by omega)]; omega
  have hget : ((L.map bsl).map avS).getD r.length .junk = avS (bsl x) := by
    rw [hrx]; simp
  unfold q2
  simp only [VC]
  refine v_mv (lnV L) (by simp [ev, h3]) ?_
  refine v_mv (lnV L) (by simp [ev, get_putF, putM, upd, h3]) ?_
  refine v_op (.int .i64 L.length) ⟨by simp [ev, get_putF, putM, upd, StLen], rfl, rfl⟩ ?_
  refine v_op (.int .i64 r.length) ⟨by simp [ev, get_putF, putM, upd, StBin, intBin, hw], rfl, rfl⟩ ?_
  refine v_op (.cptr [avS (bsl x)] 0) ⟨?_, rfl, rfl⟩ ?_
  · simp only [ev, get_putF, putM, upd, StIad]
    refine ⟨rfl, ?_, ?_, ?_⟩
    · simp
    · simp; omega
    · simp [hrx, AV.cells, avS]
  refine v_op (avS (bsl x)) ⟨⟨rfl, by simp [avS]⟩, rfl⟩ ?_
  refine v_op (.bool (x == [])) ⟨⟨(by intro e; cases e), ?_⟩, rfl, rfl⟩ ?_
  · show strBin .eql (bsl x) _ = _
    simp only [strBin, toList_data]
    rw [bsl_data]
  refine ⟨trivial, _, _, wk_refl, ?_⟩
  simp only [ev, get_putF, putM, upd, if_true]
  refine ⟨fun e => ?_, fun e => ?_⟩
  · have hx : x = [] := by simpa using e
    subst hx
    have hr : r = ls := by
      rcases hL with h | ⟨_, y, r', h, hy⟩
      · rw [hrx] at h; exact List.append_inj_left' h rfl
      · rw [hrx] at h
        have := List.append_inj_right' h rfl
        simp only [List.cons.injEq, and_true] at this
        exact absurd this.symm hy
    subst hr
    refine v_mv (lnV L) (by simp [ev, get_putF, putM, upd, h3]) ?_
    refine v_mv (lnV L) (by simp [ev, get_putF, putM, upd, h3]) ?_
    refine v_op (.int .i64 L.length) ⟨by simp [ev, get_putF, putM, upd, StLen], rfl, rfl⟩ ?_
    refine v_op (.int .i64 r.length) ⟨by simp [ev, get_putF, putM, upd, StBin, intBin, hw], rfl, rfl⟩ ?_
    refine v_op (lnV r) ⟨?_, rfl, rfl⟩ ?_
    · simp only [ev, evO, get_putF, putM, upd, StSlc]
      refine ⟨rfl, 0, r.length, rfl, by simp [hiN], Nat.zero_le _, by simp; omega, ?_⟩
      simp [lnV, hrx]
    refine v_mv (lnV r) (by simp [ev, get_putF, putM, upd]) ?_
    exact ⟨trivial, hK _ (by simp [get_putF, putM, upd, h0]) (by simp [get_putF, putM, upd])⟩
  · have hx : x ≠ [] := by simpa using e
    refine hK _ (by simp [get_putF, putM, upd, h0]) ?_
    have hLs : L = ls := by
      rcases hL with h | ⟨h, _⟩
      · rw [hrx] at h
        have := List.append_inj_right' h rfl
        simp only [List.cons.injEq, and_true] at this
        exact absurd this hx
      · exact h
    subst hLs
    simp [get_putF, putM, upd, h3]
end Go.Proofs.YtjhhedpgfpcaiaaGreatDoor
/- console.Run, walked: what is too long; the console; the loop over the lines. -/
namespace Go.Proofs.YtjhhedpgfpcaiaaGreatDoor
set_option linter.constructorNameAsVariable false
set_option linter.unusedSimpArgs false
set_option linter.unusedVariables false
open Go Go.Ab Go.RowKit
set_option maxRecDepth 100000
set_option linter.unusedVariables false
set_option linter.unusedSimpArgs false
theorem fail_e : isV (.str [101, 114, 114, 111, 114, 32, 50, 53, 48]) (runR Tryz.prog pv0 (codeT tabL) (ovA ovK []) 200 15 [.int .i64 250] ⟨0, .e, ⟨[], .e, 1000000000, false, 0⟩⟩) = true := by kernel_rfl
theorem fail_ev : PureEv Tryz.prog 15 [.int .i64 250] (.str (bsl (bN [101, 114, 114, 111, 114, 32, 50, 53, 48]))) := call_R env0 (fs := []) nofun pv0_ok mixed rfl (Nat.le_refl _) tabL_ok (ovA_ok (fs := []) nofun ovK_ok (ms := []) trivial) rfl fail_e
/-- Not too long: on. Too long: the error. -/
theorem vc_q3 {S0 : List Ob} {ls : List (List UInt8)} {s : List UInt8} {fr : Fr} {S : List Ob} (h0 : Fr.get fr 0 = .str (bsl s)) (h3 : Fr.get fr 3 = lnV ls) {K : Post}
    (hK : s.length ≤ 65536 → ls.length ≤ 512 → ∀ fr', Fr.get fr' 3 = lnV ls → K .normal fr' S)
    (hE : 65536 < s.length ∨ 512 < ls.length → ∀ fr', Fr.get fr' 2 = .str (bsl (bN [101, 114, 114, 111, 114, 32, 50, 53, 48, 10])) → K .ret fr' S) : VC Tryz.prog S0 q3 fr S K := by
  have hgt : ∀ (a : Nat) (b : Int), intBin .gtr .i64 (a : Int) b = some (.bool (decide ((a : Int) > b))) := fun a b => rfl
  unfold q3
  simp only [VC]
  have tail : ∀ (t : Bool) (fr1 : Fr) (log : List LE), (t = true ↔ 65536 < s.length ∨ 512 < ls.length) → Fr.get fr1 3 = lnV ls → ∀ t28 : AV, Fr.get fr1 25 = .bool (decide (65536 < s.length)) → (Fr.get fr1 28 = t28) → ((if 65536 < s.length then AV.bool true else t28) = .bool t) →
      VCops Tryz.prog [⟨some 29, none, .op (.pick (.t 25) (.v (.bool true)) (.t 28))⟩] fr1 S log (fun fr' S' log => okLog [] log ∧ Post.thn (fun fr' S' => ∃ F T, Wk S0 fr' S' F T ∧ (match ev (Fr.get F) (.t 29) with
        | .bool t => (t = true → (VCops Tryz.prog [⟨(some 30), none, .call 15 [(.v (.int .i64 250))]⟩, ⟨(some 31), none, .op (.bin .none .add (.t 30) (.v (.str (ByteArray.mk #[10]))))⟩, ⟨(some 2), none, .op (.mv (.t 31))⟩] F T [] fun fr' S' log => okLog [] log ∧ Post.thn (fun fr' S' => ∃ F T, Wk S0 fr' S' F T ∧ K .ret F T) K .normal fr' S')) ∧ (t = false → K .normal F T)
        | _ => False)) K .normal fr' S') := by
    intro t fr1 log ht hf3 t28 h25 h28 hp
    refine v_op (.bool t) ⟨?_, rfl, rfl⟩ ?_
    · simp only [ev, StPick, h25, h28]
      rw [← hp]
      by_cases hq : 65536 < s.length <;> simp [hq]
    refine ⟨trivial, _, _, wk_refl, ?_⟩
    simp only [ev, get_putF, putM, upd, if_true]
    refine ⟨fun e => ?_, fun e => ?_⟩
    · refine v_call (args := [.int .i64 250]) rfl _ fail_ev rfl rfl ?_
      refine v_op (.str (bsl (bN [101, 114, 114, 111, 114, 32, 50, 53, 48, 10]))) ⟨?_, rfl, rfl⟩ ?_
      · simp only [ev, get_putF, putM, upd, if_true, StBin]
        exact ⟨fun _ => by decide +kernel, by kernel_rfl⟩
      refine v_mv (.str (bsl (bN [101, 114, 114, 111, 114, 32, 50, 53, 48, 10]))) (by simp [ev, get_putF, putM, upd]) ?_
      exact ⟨trivial, _, _, wk_refl, hE (ht.1 e) _ (by simp [get_putF, putM, upd])⟩
    · have hn : ¬ (65536 < s.length ∨ 512 < ls.length) := fun h => by rw [ht.2 h] at e; cases e
      exact hK (by omega) (by omega) _ (by simp [get_putF, putM, upd, hf3])
  refine v_mv (.str (bsl s)) (by simp [ev, h0]) ?_
  refine v_op (.int .i64 s.length) ⟨by simp [ev, get_putF, putM, upd, StLen, bsl_size], rfl, rfl⟩ ?_
  refine v_op (.bool (decide (65536 < s.length))) ⟨?_, rfl, rfl⟩ ?_
  · simp only [ev, get_putF, putM, upd, if_true, StBin]
    refine ⟨trivial, ?_⟩
    rw [hgt]
    by_cases hq : 65536 < s.length
    · rw [decide_eq_true hq, decide_eq_true (by omega)]
    · rw [decide_eq_false hq, decide_eq_false (by omega)]
  refine v_mv (.bool (decide (65536 < s.length))) (by simp [ev, get_putF, putM, upd]) ?_
  by_cases hq : 65536 < s.length
  · refine v_opg (b := true) (by simp [get_putF, putM, upd, hq]) (.bool true) (fun e => by cases e) (fun e => by cases e) (fun _ => ?_)
    refine v_opg (b := true) (by simp [get_putF, putM, upd, hq]) (.bool true) (fun e => by cases e) (fun e => by cases e) (fun _ => ?_)
    refine v_opg (b := true) (by simp [get_putF, putM, upd, hq]) (.bool true) (fun e => by cases e) (fun e => by cases e) (fun _ => ?_)
    exact tail true _ _ (by simp [hq]) (by simp [get_putF, putM, upd, h3]) (.tup []) (by simp [get_putF, putM, upd]) (by simp [get_putF, putM, upd]) (by simp [hq])
  · refine v_opg (b := false) (by simp [get_putF, putM, upd, hq]) (lnV ls) (fun _ => ⟨by simp [ev, get_putF, putM, upd, h3], rfl, rfl⟩) (fun _ => ?_) (fun e => by cases e)
    refine v_opg (b := false) (by simp [get_putF, putM, upd, hq]) (.int .i64 ls.length) (fun _ => ⟨by simp [ev, get_putF, putM, upd, StLen], rfl, rfl⟩) (fun _ => ?_) (fun e => by cases e)
    refine v_opg (b := false) (by simp [get_putF, putM, upd, hq]) (.bool (decide (512 < ls.length))) (fun _ => ⟨?_, rfl, rfl⟩) (fun _ => ?_) (fun e => by cases e)
    · simp only [ev, get_putF, putM, upd, if_true, StBin]
      refine ⟨trivial, ?_⟩
      rw [hgt]
      by_cases hq2 : 512 < ls.length
      · rw [decide_eq_true hq2, decide_eq_true (by omega)]
      · rw [decide_eq_false hq2, decide_eq_false (by omega)]
    exact tail (decide (512 < ls.length)) _ _ (by simp [hq]) (by simp [get_putF, putM, upd, h3]) (.bool (decide (512 < ls.length))) (by simp [get_putF, putM, upd]) (by simp [get_putF, putM, upd]) (by simp [hq])
end Go.Proofs.YtjhhedpgfpcaiaaGreatDoor
/- console.Run, walked: the loop over the lines. -/
namespace Go.Proofs.YtjhhedpgfpcaiaaGreatDoor
set_option linter.constructorNameAsVariable false
set_option linter.unusedSimpArgs false
set_option linter.unusedVariables false
open Go Go.Ab Go.RowKit
set_option maxRecDepth 100000
set_option linter.unusedVariables false
set_option linter.unusedSimpArgs false
def frL (ls : List (List UInt8)) (i : Nat) : Fr := [(35, .int .i64 i), (33, lnV ls), (34, .int .i64 ls.length), (4, .ptr 0 0 0), (5, .ptr 1 0 0)]
theorem frL_wk {S0 : List Ob} {ls : List (List UInt8)} {i : Nat} {fr : Fr} {S S' : List Ob} (hS : hp S' = hp S) (h35 : Fr.get fr 35 = .int .i64 i) (h33 : Fr.get fr 33 = lnV ls) (h34 : Fr.get fr 34 = .int .i64 ls.length) (h4 : Fr.get fr 4 = .ptr 0 0 0) (h5 : Fr.get fr 5 = .ptr 1 0 0) :
    Wk S0 fr S (frL ls i) S' := by
  refine wk_frame hS (fun t => ?_)
  simp only [frL, Fr.get]
  by_cases e1 : t = 35
  · subst e1; exact .inr (by simp [h35])
  by_cases e2 : t = 33
  · subst e2; exact .inr (by simp [h33])
  by_cases e3 : t = 34
  · subst e3; exact .inr (by simp [h34])
  by_cases e4 : t = 4
  · subst e4; exact .inr (by simp [h4])
  by_cases e5 : t = 5
  · subst e5; exact .inr (by simp [h5])
  exact .inl (by simp [e1, e2, e3, e4, e5])
theorem loop_sc {g0 : Gh} {N0 : Nat} (he : Ent g0 N0) {ls : List (List UInt8)} {Z : Nat → List Ob} {A ans : Nat → List UInt8} (hlen : ls.length ≤ 512) (hm : ∀ i, hp (Z i) 1 = .arr 0 [])
    (hEv : ∀ i (h : i < ls.length), Ev Tryz.prog 7 [.ptr 0 0 0, .str (bsl ls[i])] (hp (Z i)) (.str (bsl (ans i))) (hp (Z (i + 1)))) (hA : ∀ i, A (i + 1) = (A i ++ ans i) ++ [10]) (hAl : ∀ i, i ≤ ls.length → (A i).length ≤ 100000)
    {K : SK} (hK : ∀ fr', Fr.get fr' 5 = .ptr 1 0 0 → K .normal fr' (Z ls.length) (A ls.length)) {fr : Fr} (h35 : Fr.get fr 35 = .int .i64 (0 : Nat)) (h33 : Fr.get fr 33 = lnV ls) (h34 : Fr.get fr 34 = .int .i64 ls.length) (h4 : Fr.get fr 4 = .ptr 0 0 0) (h5 : Fr.get fr 5 = .ptr 1 0 0) :
    SC cx g0 N0 (.block 0 (.loop qL)) fr (Z 0) (A 0) K := by
  refine S_block (S_loop (X := cx) he (ι := Nat) (frL ls) A Z (fun i => i ≤ ls.length) (fun i => ls.length - i) (i0 := 0) (Nat.zero_le _) rfl (hm 0) (frL_wk rfl h35 h33 h34 h4 h5) (fun i hi => ?_))
  have g35 : Fr.get (frL ls i) 35 = .int .i64 i := rfl
  have g33 : Fr.get (frL ls i) 33 = lnV ls := rfl
  have g34 : Fr.get (frL ls i) 34 = .int .i64 ls.length := rfl
  have g4 : Fr.get (frL ls i) 4 = .ptr 0 0 0 := rfl
  have g5 : Fr.get (frL ls i) 5 = .ptr 1 0 0 := rfl
  unfold qL
  refine S_seq (S_pure (X := cx) he ?_)
  simp only [VC]
  refine v_op (.bool (decide (i < ls.length))) ⟨?_, rfl, rfl⟩ ?_
  · simp only [ev, g35, g34, StBin, intBin]
    refine ⟨trivial, ?_⟩
    by_cases hq : i < ls.length
    · rw [decide_eq_true hq, decide_eq_true (by omega)]
    · rw [decide_eq_false hq, decide_eq_false (by omega)]
  refine ⟨trivial, hm i, ?_⟩
  show SC cx g0 N0 _ _ _ _ _
  refine S_seq (S_cond (t := decide (i < ls.length)) (by simp [ev, get_putF, putM, upd]) (fun ht => ?_) (fun ht => ?_))
  · have hlt : i < ls.length := by simpa using ht
    refine S_pure (X := cx) he ?_
    refine ⟨hm i, ?_⟩
    show SC cx g0 N0 _ _ _ _ _
    refine S_seq (S_block (S_seq ?_))
    refine S_pure (X := cx) he ?_
    unfold qa
    simp only [VC]
    have hget : ((ls.map bsl).map avS)[i]? = some (avS (bsl ls[i])) := by simp [hlt]
    refine v_op (.cptr [avS (bsl ls[i])] 0) ⟨?_, rfl, rfl⟩ ?_
    · simp only [ev, get_putF, putM, upd, if_true, StIad]
      simp only [g35, g33, if_neg (show ¬ (33 = 36) by decide), if_neg (show ¬ (35 = 36) by decide)]
      refine ⟨rfl, by omega, by simpa using hlt, ?_⟩
      simp [hlt, AV.cells, avS]
    refine v_op (avS (bsl ls[i])) ⟨⟨rfl, by simp [avS]⟩, rfl⟩ ?_
    refine v_mv (avS (bsl ls[i])) (by simp [ev, get_putF, putM, upd]) ?_
    refine ⟨trivial, hm i, ?_⟩
    show SC cx g0 N0 _ _ _ _ _
    refine S_seq ?_
    unfold qb
    refine S_call (X := cx) he rfl ?_
    simp only [VC]
    refine v_mv (.ptr 0 0 0) (by simp [ev, get_putF, putM, upd, g4]) ?_
    refine v_mv (avS (bsl ls[i])) (by simp [ev, get_putF, putM, upd]) ?_
    refine v_callE (args := [.ptr 0 0 0, .str (bsl ls[i])]) (by simp [evL, ev, get_putF, putM, upd, avS]) (.str (bsl (ans i))) (Z (i + 1)) (hEv i hlt) ?_
    have hl1 := hAl i (by omega)
    have hl2 := hAl (i + 1) (by omega)
    rw [hA i] at hl2
    simp only [List.length_append, List.length_singleton] at hl2
    refine ⟨trivial, hm (i + 1), .str (bsl (ans i)), .string (bsl (ans i)), (bsl (ans i)).data.toList, _, .tup [.int .i64 (bsl (ans i)).size, .nili], bc_str (bsl (ans i)), fun pm L σ y hy => (by cases hy; rfl), fun pm L σ => .tup (by simp) (fun j h1 h2 => ?_), by simp [evL, ev, get_putF, putM, upd, g5], by rw [bsl_data]; omega, ?_⟩
    · match j, h1 with
      | 0, _ => exact .int
      | 1, _ => exact .nili
    show SC cx g0 N0 _ _ _ _ _
    unfold qc
    refine S_call (X := cx) he rfl ?_
    simp only [VC, VCops]
    refine ⟨trivial, hm (i + 1), .int .u8 10, .int .u8 10, [10], _, .nili, bc_byte, fun pm L σ y hy => (by cases hy; rfl), fun pm L σ => .nili, by simp [evL, ev, get_putF, putM, upd, g5], by rw [bsl_data]; simp only [List.length_append, List.length_singleton]; omega, ?_⟩
    show SC cx g0 N0 _ _ _ _ _
    unfold qd
    refine S_pure (X := cx) he ?_
    simp only [VC]
    refine v_op (.int .i64 ((i + 1 : Nat) : Int)) ⟨?_, rfl, rfl⟩ ?_
    · simp only [ev, get_putF, putM, upd, StBin]
      simp [g35, intBin, i64_id (n := (i : Int) + 1) (by omega) (by omega)]
    refine v_mv (.int .i64 ((i + 1 : Nat) : Int)) (by simp [ev, get_putF, putM, upd]) ?_
    refine ⟨trivial, hm (i + 1), i + 1, hlt, by omega, ?_, hm (i + 1), frL_wk rfl (by simp [get_putF, putM, upd]) (by simp [get_putF, putM, upd, g33]) (by simp [get_putF, putM, upd, g34]) (by simp [get_putF, putM, upd, g4]) (by simp [get_putF, putM, upd, g5])⟩
    rw [hA, bsl_data]
  · have hge : i = ls.length := by
      have : ¬ i < ls.length := by simpa using ht
      omega
    subst hge
    refine S_pure (X := cx) he ?_
    refine ⟨hm _, ?_⟩
    simp only [SK.thn, SK.blk, if_true]
    exact hK _ (by simp [get_putF, putM, upd, g5])
end Go.Proofs.YtjhhedpgfpcaiaaGreatDoor
/- console.Run: what it answers to a script. -/
namespace Go.Proofs.YtjhhedpgfpcaiaaGreatDoor
set_option linter.constructorNameAsVariable false
set_option linter.unusedSimpArgs false
set_option linter.unusedVariables false
open Go Go.Ab Go.RowKit
set_option maxRecDepth 100000
set_option linter.unusedVariables false
set_option linter.unusedSimpArgs false
def nM : Memo := ⟨16, [], 0, [], [], .ptr 0 0 0, 1, [(0, 0, [.bool false, .nils, .nils, .nils, .nils, .nils])], []⟩
theorem nM_c : chkM [] (runR Tryz.prog pv0 (codeT tabL) (ovA ovK []) 200) nM = true := by kernel_rfl
theorem nM_ok : MemoOK Tryz.prog [] nM := chkM_ok runK_ok nM_c
/-- A console without a program, as it is made. -/
def Sn : List Ob := [.arr 0 [.bool false, .nils, .nils, .nils, .nils, .nils]]
def s0 : XSd := ⟨[], .e, 1000000000, false, 0⟩
theorem new_ev : Ev Tryz.prog 16 [] (hp []) (.ptr 0 0 0) (hp Sn) := by
  have h := nM_ok.2.2.2 env0 nofun (Nat.le_refl _) s0
  have e1 : hpx env0 (nM.inH []) = hp [] := by
    funext o
    simp [hpx, Memo.inH, nM, mkT, mkM, env0, hp]
  have e2 : hpx env0 (lst nM.nx1 nM.os1 nM.ms1 s0) = hp Sn := by
    funext o
    match o with
    | 0 => rfl
    | n + 1 =>
      have h1 : (mkT nM.os1).get (n + 1) = none := by rw [mkT_get]; simp [nM]
      have h2 : (mkM nM.ms1).get (n + 1) = none := by simp [nM, mkM]
      have h3 : hpx env0 (lst nM.nx1 nM.os1 nM.ms1 s0) (n + 1) = (match (mkT nM.os1).get (n + 1) with | some ob => Ob.arr ob.ver (ob.cells env0) | none => match (mkM nM.ms1).get (n + 1) with | none => (if n + 1 < 1 then .gone else hp env0.φ (n + 1)) | some es => .mpo (mAv env0 es.1) es.2) := rfl
      rw [h3, h1, h2]
      have h4 : ¬ n + 1 < 1 := by omega
      simp [h4, hp, Sn, env0]
  rw [e1, e2] at h
  exact h
theorem strs_blw (ls : List (List UInt8)) : (lnV ls).blw 0 = true := by
  show blwL 0 _ = true
  rw [blwL_iff]
  intro x hx
  obtain ⟨y, _, rfl⟩ := List.mem_map.1 hx
  rfl
theorem bchk_seq {a b : Code} (h : bchk cx.P cx.n cx.bs cx.es cx.nw cx.T (.seq a b) = true) : bchk cx.P cx.n cx.bs cx.es cx.nw cx.T b = true := by
  simp only [bchk, Bool.and_eq_true] at h
  exact h.2
def q45 : FC := .seq q4 (.seq q5 (.seq (.seq q6 (.block 0 (.loop qL))) q7))
/-- A script's lines are its pieces, without the last one if it is empty. -/
def LinesOf (s : List UInt8) (ls : List (List UInt8)) : Prop := splitL 10 s = ls ++ [[]] ∨ (splitL 10 s = ls ∧ ∃ x r, splitL 10 s = r ++ [x] ∧ x ≠ [])
abbrev Kf (r : List UInt8) : Post := fun e fr S => isRet e ∧ hp S = noHp ∧ retR noHp (Fr.get fr) [(2, none)] (.str (bsl r))
theorem run_pre {s r : List UInt8} {ls : List (List UInt8)} (hs : s.length ≤ 28400000) (hl : (splitL 10 s).length < 9223372036854775808) (hL : LinesOf s ls)
    (hgo : s.length ≤ 65536 → ls.length ≤ 512 → ∀ fr c g0 a w, Fr.get fr 3 = lnV ls → resCode cx.P cx.n c = some q45 → bchk cx.P cx.n cx.bs cx.es cx.nw cx.T c = true → At g0 (hp []) cx.n (Fr.get fr) (hp []) a w → c.wp cx.P (QK g0 [] cx.n (Kf r)) a w)
    (herr : 65536 < s.length ∨ 512 < ls.length → r = bN [101, 114, 114, 111, 114, 32, 50, 53, 48, 10]) : PureEv Tryz.prog 6 [.str (bsl s)] (.str (bsl r)) := by
  refine PureEv_wp (X := cx) run_fn (by show 1 ≤ 46; decide) run_bchk (fun c g0 a w hr hb hat => ?_)
  unfold fcR at hr
  refine wp_pre cx.hm hr (B := bchk cx.P cx.n cx.bs cx.es cx.nw cx.T) (fun a b => bchk_seq) hb hat (N := fun fr' S' => S' = [] ∧ Fr.get fr' 0 = .str (bsl s)) ?_ (fun fr1 S1 c1 a1 w1 h1 hr1 hb1 hat1 => ?_)
  · unfold q0
    simp only [VC]
    refine v_mv _ rfl ?_
    exact ⟨trivial, rfl, rfl⟩
  obtain ⟨rfl, g0'⟩ := h1
  refine wp_pre cx.hm hr1 (B := bchk cx.P cx.n cx.bs cx.es cx.nw cx.T) (fun a b => bchk_seq) hb1 hat1 (N := fun fr' S' => S' = [] ∧ Fr.get fr' 0 = .str (bsl s) ∧ Fr.get fr' 3 = lnV (splitL 10 s)) ?_ (fun fr2 S2 c2 a2 w2 h2 hr2 hb2 hat2 => ?_)
  · unfold q1
    simp only [VC]
    refine v_mv (.str (bsl s)) (by simp [ev, g0']) ?_
    refine v_call (args := [.str (bsl s), .str (bsl [10])]) (by simp [evL, ev, get_putF, putM, upd]; rfl) (lnV (splitL 10 s)) (split_ev (TSplit_eq 10 s hs)) rfl (strs_blw _) ?_
    refine v_mv (lnV (splitL 10 s)) (by simp [ev, get_putF, putM, upd]) ?_
    exact ⟨trivial, rfl, by simp [get_putF, putM, upd, g0'], by simp [get_putF, putM, upd]⟩
  obtain ⟨rfl, h20, h23⟩ := h2
  refine wp_pre cx.hm hr2 (B := bchk cx.P cx.n cx.bs cx.es cx.nw cx.T) (fun a b => bchk_seq) hb2 hat2 (N := fun fr' S' => S' = [] ∧ Fr.get fr' 0 = .str (bsl s) ∧ Fr.get fr' 3 = lnV ls) ?_ (fun fr3 S3 c3 a3 w3 h3 hr3 hb3 hat3 => ?_)
  · exact vc_q2 h20 h23 hl hL (fun fr' e0 e3 => ⟨rfl, e0, e3⟩)
  obtain ⟨rfl, h30, h33⟩ := h3
  refine wp_pre cx.hm hr3 (B := bchk cx.P cx.n cx.bs cx.es cx.nw cx.T) (fun a b => bchk_seq) hb3 hat3 (N := fun fr' S' => S' = [] ∧ Fr.get fr' 3 = lnV ls ∧ s.length ≤ 65536 ∧ ls.length ≤ 512) ?_ (fun fr4 S4 c4 a4 w4 h4 hr4 hb4 hat4 => ?_)
  · refine vc_q3 h30 h33 (fun e1 e2 fr' e3 => ⟨rfl, e3, e1, e2⟩) (fun e1 fr' e3 => ⟨trivial, hp_nil', ?_⟩)
    rw [herr e1]
    exact e3.symm
  obtain ⟨rfl, h43, e1, e2⟩ := h4
  exact hgo e1 e2 fr4 c4 g0 a4 w4 h43 hr4 hb4 hat4
theorem run_err {s : List UInt8} {ls : List (List UInt8)} (hs : s.length ≤ 28400000) (hl : (splitL 10 s).length < 9223372036854775808) (hL : LinesOf s ls) (h : 65536 < s.length ∨ 512 < ls.length) : PureEv Tryz.prog 6 [.str (bsl s)] (.str (bsl (bN [101, 114, 114, 111, 114, 32, 50, 53, 48, 10]))) :=
  run_pre hs hl hL (fun e1 e2 => by omega) (fun _ => rfl)
theorem se_cx : SEb cx.P cx.T cx.e cx.es := se_str
theorem run_ev {s : List UInt8} {ls : List (List UInt8)} (hs : s.length ≤ 65536) (hl : (splitL 10 s).length < 9223372036854775808) (hL : LinesOf s ls) (hlen : ls.length ≤ 512) {Z : Nat → List Ob} {A ans : Nat → List UInt8} (hZ : Z 0 = apS Sn (some (1, .arr 0 []))) (hm : ∀ i, hp (Z i) 1 = .arr 0 [])
    (hEv : ∀ i (h : i < ls.length), Ev Tryz.prog 7 [.ptr 0 0 0, .str (bsl ls[i])] (hp (Z i)) (.str (bsl (ans i))) (hp (Z (i + 1)))) (hA0 : A 0 = []) (hA : ∀ i, A (i + 1) = (A i ++ ans i) ++ [10]) (hAl : ∀ i, i ≤ ls.length → (A i).length ≤ 100000) :
    PureEv Tryz.prog 6 [.str (bsl s)] (.str (bsl (A ls.length))) := by
  refine run_pre (by omega) hl hL (fun _ _ fr c g0 a w h3 hr hb hat => ?_) (fun h => by omega)
  unfold q45 at hr
  refine wp_pre cx.hm hr (B := bchk cx.P cx.n cx.bs cx.es cx.nw cx.T) (fun a b => bchk_seq) hb hat (N := fun fr' S' => S' = Sn ∧ Fr.get fr' 3 = lnV ls ∧ Fr.get fr' 4 = .ptr 0 0 0) ?_ (fun fr1 S1 c1 a1 w1 h1 hr1 hb1 hat1 => ?_)
  · unfold q4
    simp only [VC]
    refine v_callE (args := []) rfl (.ptr 0 0 0) Sn new_ev ?_
    refine v_mv (.ptr 0 0 0) (by simp [ev, get_putF, putM, upd]) ?_
    exact ⟨trivial, rfl, by simp [get_putF, putM, upd, h3], by simp [get_putF, putM, upd]⟩
  obtain ⟨rfl, h13, h14⟩ := h1
  obtain ⟨d1, d2, rfl, hd1, hd2⟩ := inv_seq hr1
  simp only [bchk, Bool.and_eq_true] at hb1
  refine wp_seq (new_wp (X := cx) (fun w => Tryz.zeroValue34 w) hd1 hb1.1 (S := Sn) rfl hat1 (fun N0 a2 w2 he hats => ?_))
  obtain ⟨e1, e2, rfl, he1, he2⟩ := inv_seq hd2
  have hb2 := hb1.2
  simp only [bchk, Bool.and_eq_true] at hb2
  have hsc : SC cx g0 N0 (.seq q6 (.block 0 (.loop qL))) ((cx.nw, .ptr cx.m 0 0) :: fr1) (Z 0) (A 0) (fun e fr' S' acc' => e = .normal ∧ Fr.get fr' 5 = .ptr 1 0 0 ∧ acc' = A ls.length) := by
    refine S_seq (S_pure (X := cx) he ?_)
    unfold q6
    simp only [VC]
    refine v_mv (lnV ls) (by simp [ev, Fr.get, h13]) ?_
    refine v_op (.int .i64 ls.length) ⟨by simp [ev, get_putF, putM, upd, StLen], rfl, rfl⟩ ?_
    refine v_mv (.int .i64 (0 : Nat)) (by simp [ev]) ?_
    refine ⟨trivial, hm 0, ?_⟩
    refine loop_sc he hlen hm hEv hA hAl (fun fr' h5 => ⟨rfl, h5, rfl⟩) ?_ ?_ ?_ ?_ ?_
    · simp [get_putF, putM, upd]
    · simp [get_putF, putM, upd]
    · simp [get_putF, putM, upd]
    · simp [get_putF, putM, upd, Fr.get, h14]
    · simp [get_putF, putM, upd, Fr.get]
  rw [hZ, hA0] at hsc
  refine wp_seq (wp_mono (hsc e1 he1 hb2.1 a2 w2 hats) (fun e a3 w3 hq => ?_))
  obtain ⟨fr3, S3, acc3, hat3, rfl, h5, rfl⟩ := hq
  refine end_wp (X := cx) he se_cx (d := 45) (q := .t 5) he2 hb2.2 hat3 (by simp [ev, h5]) ?_
  simp only [VC]
  refine v_mv (.str (bsl (A ls.length))) (by simp [ev, Fr.get]; rfl) ?_
  refine ⟨trivial, _, _, wk_refl, trivial, hp_nil', ?_⟩
  show _ = Fr.get _ 2
  simp [get_putF, putM, upd]
end Go.Proofs.YtjhhedpgfpcaiaaGreatDoor
