/- What the functions compute, and that they do (printed by wip/gen/gen.py), part 1. -/
import Derived.Test.YtkfhljombjmdbaaDoorWlH1
import Derived.Test.YtkfhljombjmdbaaDoorRows
import Derived.Test.YtkfhljombjmdbaaDoorWlT4
namespace Go.Proofs.YtkfhljombjmdbaaDoor
open Go Go.Ab
set_option maxRecDepth 20000
set_option maxHeartbeats 2000000
set_option linter.unusedVariables false
set_option linter.unusedSimpArgs false
theorem mixed : Tryd.prog.follows .mixedOrders = true := Tryd.checked.mixed
structure Instr where
  Op : Int
  Arg : Int
  Imm : Int
def Instr.cells (x : Instr) : List AV := [(.int .u8 x.Op), (.int .i64 x.Arg), (.int .u64 x.Imm)]
def Instr.av (x : Instr) : AV := .agg (Instr.cells x)
theorem Instr.enc : Enc Instr.av (some 3) := ⟨fun _ => rfl, fun _ => rfl, fun _ => rfl, fun x n => blwL_of ⟨((encI .u8).blw x.Op n), ((encI .i64).blw x.Arg n), ((encI .u64).blw x.Imm n), trivial⟩⟩
structure Func where
  Params : Int
  Locals : (List Int)
  Result : Bool
  Keep : Int
  Code : (List Instr)
def Func.cells (x : Func) : List AV := [(.int .i64 x.Params), (.sl false 1 (List.map (avI .u8) x.Locals)), (.bool x.Result), (.int .i64 x.Keep), (.sl false 3 (List.map Instr.av x.Code))]
def Func.av (x : Func) : AV := .agg (Func.cells x)
theorem Func.enc : Enc Func.av (some 5) := ⟨fun _ => rfl, fun _ => rfl, fun _ => rfl, fun x n => blwL_of ⟨((encI .i64).blw x.Params n), ((encL (encI .u8) 1).blw x.Locals n), (encB.blw x.Result n), ((encI .i64).blw x.Keep n), ((encL Instr.enc 3).blw x.Code n), trivial⟩⟩
structure Program where
  Funcs : (List Func)
def Program.cells (x : Program) : List AV := [(.sl false 5 (List.map Func.av x.Funcs))]
def Program.av (x : Program) : AV := .agg (Program.cells x)
theorem Program.enc : Enc Program.av (some 1) := ⟨fun _ => rfl, fun _ => rfl, fun _ => rfl, fun x n => blwL_of ⟨((encL Func.enc 5).blw x.Funcs n), trivial⟩⟩
/- windlass/text.Parse$1 -/
def fc54 : FC := (.seq (.reg [⟨(some 2), none, .op (.mv (.v (.bool false)))⟩] [])
  (.seq (.reg [⟨(some 3), none, .op (.mv (.t 0))⟩,
  ⟨(some 4), none, .op (.bin .none .eql (.t 3) (.v (.str (ByteArray.mk #[]))))⟩,
  ⟨(some 2), none, .op (.mv (.t 4))⟩] [])
  .ret))
theorem fn54 : Fn3 Tryd.prog 54 5 [(2, none)] fc54 := ⟨_, _, Tryd.func54, rfl, rfl, rfl, by kernel_rfl⟩
def text_Parse_1_s (w_00 : ByteArray) : Option Bool :=
  (some (ByteArray.toList w_00 == ByteArray.toList (ByteArray.mk #[])))
theorem text_Parse_1_ev {w_00 : ByteArray} {r : Bool} (h : text_Parse_1_s w_00 = some r) : PureEv Tryd.prog 54 [(.str w_00)] (.bool r) := by
  unfold text_Parse_1_s at h
  refine PureEv_end mixed fn54 (by simp) [] 6 ?_
  unfold fc54
  refine E_sq ?_
  refine E_reg ?_
  refine E_mv (v' := (.bool false)) rfl ?_
  refine E_nil ?_
  refine E_nx ?_
  refine E_sq ?_
  refine E_reg ?_
  refine E_mv (v' := (.str w_00)) rfl ?_
  refine E_op0 (v' := (.bool (ByteArray.toList w_00 == ByteArray.toList (ByteArray.mk #[])))) rfl rfl ?_
  refine E_mv (v' := (.bool (ByteArray.toList w_00 == ByteArray.toList (ByteArray.mk #[])))) rfl ?_
  refine E_nil ?_
  refine E_nx ?_
  refine E_ret ?_
  cases h
  exact ⟨trivial, _, rfl, (fz_b rfl (.refl _))⟩
/- strconv.FormatUint -/
def fc42 : FC := (.seq (.reg [⟨(some 4), none, .op (.mv (.v (.str (ByteArray.mk #[]))))⟩] [])
  (.seq (.reg [⟨(some 5), none, .op (.mv (.t 0))⟩,
  ⟨(some 6), none, .op (.mv (.t 1))⟩,
  ⟨(some 7), none, .call 89 [(.t 5), (.t 6)]⟩,
  ⟨(some 4), none, .op (.mv (.t 7))⟩] [])
  .ret))
theorem fn42 : Fn3 Tryd.prog 42 8 [(4, none)] fc42 := ⟨_, _, Tryd.func42, rfl, rfl, rfl, by kernel_rfl⟩
def strconv_FormatUint_s (i_00 : Int) (base_01 : Int) : Option ByteArray :=
  ((internal_strconv_FormatUint_s i_00 base_01).bind fun vfor_1 => (some vfor_1))
theorem strconv_FormatUint_ev {i_00 : Int} {base_01 : Int} {r : ByteArray} (h : strconv_FormatUint_s i_00 base_01 = some r) : PureEv Tryd.prog 42 [(.int .u64 i_00), (.int .i64 base_01)] (.str r) := by
  unfold strconv_FormatUint_s at h
  refine PureEv_end mixed fn42 (by simp) [] 6 ?_
  unfold fc42
  refine E_sq ?_
  refine E_reg ?_
  refine E_mv (v' := (.str (ByteArray.mk #[]))) rfl ?_
  refine E_nil ?_
  refine E_nx ?_
  refine E_sq ?_
  refine E_reg ?_
  refine E_mv (v' := (.int .u64 i_00)) rfl ?_
  refine E_mv (v' := (.int .i64 base_01)) rfl ?_
  obtain ⟨vfor_1, hvfor_1, h⟩ := bd_some h
  refine E_callW (internal_strconv_FormatUint_ev  hvfor_1) rfl ⟨(.refl _), (.refl _), trivial⟩ (blwL_of ⟨rfl, rfl, trivial⟩) rfl ?_
  refine E_mv (v' := (.str vfor_1)) rfl ?_
  refine E_nil ?_
  refine E_nx ?_
  refine E_ret ?_
  cases h
  exact ⟨trivial, _, rfl, (fz_b rfl (.refl _))⟩
/- windlass/text.number -/
def fc95 : FC := (.seq (.reg [⟨(some 4), none, .op (.mv (.v (.int .u64 0)))⟩,
  ⟨(some 5), none, .op (.mv (.v (.bool false)))⟩] [])
  (.seq (.reg [⟨(some 9), none, .op (.mv (.t 0))⟩,
  ⟨(some 10), none, .call 93 [(.t 9), (.v (.int .i64 10)), (.v (.int .i64 64))]⟩,
  ⟨(some 8), none, .op (.mv (.t 10))⟩,
  ⟨(some 11), none, .op (.ext 0 (.t 8))⟩,
  ⟨(some 12), none, .op (.ext 1 (.t 8))⟩,
  ⟨(some 6), none, .op (.mv (.t 11))⟩,
  ⟨(some 7), none, .op (.mv (.t 12))⟩] [])
  (.seq (.reg [⟨(some 13), none, .op (.mv (.t 6))⟩,
  ⟨(some 14), none, .op (.mv (.t 7))⟩,
  ⟨(some 15), none, .op (.bin .ifn .eql (.t 14) (.v .nili))⟩,
  ⟨(some 16), none, .op (.mv (.t 15))⟩,
  ⟨(some 17), some (16, true), .op (.mv (.t 6))⟩,
  ⟨(some 18), some (16, true), .op (.mv (.t 1))⟩,
  ⟨(some 19), some (16, true), .op (.bin .none .leq (.t 17) (.t 18))⟩,
  ⟨(some 20), none, .op (.pick (.t 16) (.t 19) (.v (.bool false)))⟩,
  ⟨(some 21), none, .op (.mv (.t 20))⟩,
  ⟨(some 22), some (21, true), .op (.mv (.t 6))⟩,
  ⟨(some 23), some (21, true), .call 42 [(.t 22), (.v (.int .i64 10))]⟩,
  ⟨(some 24), some (21, true), .op (.mv (.t 0))⟩,
  ⟨(some 25), some (21, true), .op (.bin .none .eql (.t 23) (.t 24))⟩,
  ⟨(some 26), none, .op (.pick (.t 21) (.t 25) (.v (.bool false)))⟩,
  ⟨(some 4), none, .op (.mv (.t 13))⟩,
  ⟨(some 5), none, .op (.mv (.t 26))⟩] [])
  .ret)))
theorem fn95 : Fn3 Tryd.prog 95 27 [(4, none), (5, none)] fc95 := ⟨_, _, Tryd.func95, rfl, rfl, rfl, by kernel_rfl⟩
def text_number_s (w_00 : ByteArray) (most_01 : Int) : Option (Int × Bool) :=
  ((strconv_ParseUint_s w_00 10 64).bind fun par_1 => (jp (fun (s_3 : Bool) => (some (par_1.1, s_3))) (fun k_2 => (if (!par_1.2) then (if (decide (par_1.1 ≤ most_01)) then ((strconv_FormatUint_s par_1.1 10).bind fun vfor_4 => (k_2 (ByteArray.toList vfor_4 == ByteArray.toList w_00))) else (k_2 false)) else (k_2 false)))))
theorem text_number_ev {w_00 : ByteArray} {most_01 : Int} {r : (Int × Bool)} (h : text_number_s w_00 most_01 = some r) : PureEv Tryd.prog 95 [(.str w_00), (.int .u64 most_01)] (.tup [(.int .u64 r.1), (.bool r.2)]) := by
  unfold text_number_s at h
  refine PureEv_end mixed fn95 (by simp) [] 6 ?_
  unfold fc95
  refine E_sq ?_
  refine E_reg ?_
  refine E_mv (v' := (.int .u64 0)) rfl ?_
  refine E_mv (v' := (.bool false)) rfl ?_
  refine E_nil ?_
  refine E_nx ?_
  refine E_sq ?_
  refine E_reg ?_
  refine E_mv (v' := (.str w_00)) rfl ?_
  obtain ⟨par_1, hpar_1, h⟩ := bd_some h
  refine E_callW (strconv_ParseUint_ev  hpar_1) rfl ⟨(.refl _), (.refl _), (.refl _), trivial⟩ (blwL_of ⟨rfl, rfl, rfl, trivial⟩) (tup_blw ⟨rfl, (avE_blw 223 _ 0), trivial⟩) ?_
  refine E_mv (v' := (.tup [(.int .u64 par_1.1), (avE 223 par_1.2)])) rfl ?_
  refine E_op0 (v' := (.int .u64 par_1.1)) rfl rfl ?_
  refine E_op0 (v' := (avE 223 par_1.2)) rfl rfl ?_
  refine E_mv (v' := (.int .u64 par_1.1)) rfl ?_
  refine E_mv (v' := (avE 223 par_1.2)) rfl ?_
  refine E_nil ?_
  refine E_nx ?_
  refine E_jp h (fun s_3 => [(4, (.int .u64 par_1.1)), (5, (.bool s_3))]) (fun s_3 => []) (fun k_2 h => ?_) (fun s_3 h => ?_)
  · refine E_reg ?_
    refine E_mv (v' := (.int .u64 par_1.1)) rfl ?_
    refine E_mv (v' := (avE 223 par_1.2)) rfl ?_
    refine E_ine rfl rfl ?_
    refine E_mv (v' := (.bool (!par_1.2))) rfl ?_
    refine E_gsT (b := (!par_1.2)) rfl rfl rfl (fun hb => ?_) (fun hb => ?_)
    · rw [ite_t hb] at h
      refine E_mv (v' := (.int .u64 par_1.1)) rfl ?_
      refine E_gh rfl ?_
      refine E_mv (v' := (.int .u64 most_01)) rfl ?_
      refine E_gh rfl ?_
      refine E_op0 (v' := (.bool (decide (par_1.1 ≤ most_01)))) rfl rfl ?_
      refine E_pt rfl rfl ?_
      refine E_mv (v' := (.bool (decide (par_1.1 ≤ most_01)))) rfl ?_
      refine E_gsT (b := (decide (par_1.1 ≤ most_01))) rfl rfl rfl (fun hb => ?_) (fun hb => ?_)
      · rw [ite_t hb] at h
        refine E_mv (v' := (.int .u64 par_1.1)) rfl ?_
        refine E_gh rfl ?_
        obtain ⟨vfor_4, hvfor_4, h⟩ := bd_some h
        refine E_callW (strconv_FormatUint_ev  hvfor_4) rfl ⟨(.refl _), (.refl _), trivial⟩ (blwL_of ⟨rfl, rfl, trivial⟩) rfl ?_
        refine E_gh rfl ?_
        refine E_mv (v' := (.str w_00)) rfl ?_
        refine E_gh rfl ?_
        refine E_op0 (v' := (.bool (ByteArray.toList vfor_4 == ByteArray.toList w_00))) rfl rfl ?_
        refine E_pt rfl rfl ?_
        refine E_mv (v' := (.int .u64 par_1.1)) rfl ?_
        refine E_mv (v' := (.bool (ByteArray.toList vfor_4 == ByteArray.toList w_00))) rfl ?_
        refine E_nil ?_
        exact E_jx _ h (wk_aw ⟨(.refl _), (.refl _), trivial⟩)
      · rw [ite_f hb] at h
        refine E_gm rfl ?_
        refine E_gm rfl ?_
        refine E_gm rfl ?_
        refine E_pf rfl rfl ?_
        refine E_mv (v' := (.int .u64 par_1.1)) rfl ?_
        refine E_mv (v' := (.bool false)) rfl ?_
        refine E_nil ?_
        exact E_jx _ h (wk_aw ⟨(.refl _), (.refl _), trivial⟩)
    · rw [ite_f hb] at h
      refine E_gm rfl ?_
      refine E_gm rfl ?_
      refine E_pf rfl rfl ?_
      refine E_mv (v' := (.bool false)) rfl ?_
      refine E_gm rfl ?_
      refine E_gm rfl ?_
      refine E_gm rfl ?_
      refine E_gm rfl ?_
      refine E_pf rfl rfl ?_
      refine E_mv (v' := (.int .u64 par_1.1)) rfl ?_
      refine E_mv (v' := (.bool false)) rfl ?_
      refine E_nil ?_
      exact E_jx _ h (wk_aw ⟨(.refl _), (.refl _), trivial⟩)
  · refine E_ret ?_
    cases h
    exact ⟨trivial, _, rfl, (fz_tup ⟨(fz_b rfl (.refl _)), (fz_b rfl (.refl _)), trivial⟩)⟩
/- windlass/text.function -/
def fc55 : FC := (.seq (.reg [⟨(some 2), none, .op (.new [(.int .i64 0), .nils, (.bool false), (.int .i64 0), .nils])⟩,
  ⟨(some 3), none, .op (.mv (.v (.bool false)))⟩] [])
  (.seq (.seq (.reg [⟨(some 12), none, .op (.mv (.t 0))⟩,
  ⟨(some 13), none, .op (.len .sl (.t 12))⟩,
  ⟨(some 14), none, .op (.bin .none .neq (.t 13) (.v (.int .i64 5)))⟩] [])
  (.cond (.t 14)
  (.seq (.reg [⟨(some 15), none, .op (.build [(.int .i64 0), .nils, (.bool false), (.int .i64 0), .nils] [])⟩,
  ⟨none, none, .op (.store 5 (.t 2) (.t 15))⟩,
  ⟨(some 3), none, .op (.mv (.v (.bool false)))⟩] [])
  .ret)
  .skip))
  (.seq (.reg [⟨(some 17), none, .op (.mv (.t 0))⟩,
  ⟨(some 18), none, .op (.iad none none (.t 17) (.v (.int .i64 1)))⟩,
  ⟨(some 19), none, .op (.load none (.t 18))⟩,
  ⟨(some 20), none, .call 95 [(.t 19), (.v (.int .u64 255))]⟩,
  ⟨(some 16), none, .op (.mv (.t 20))⟩,
  ⟨(some 21), none, .op (.ext 0 (.t 16))⟩,
  ⟨(some 22), none, .op (.ext 1 (.t 16))⟩,
  ⟨(some 4), none, .op (.mv (.t 21))⟩,
  ⟨(some 5), none, .op (.mv (.t 22))⟩] [])
  (.seq (.reg [⟨(some 23), none, .op (.mv (.t 4))⟩,
  ⟨(some 24), none, .op (.cint .i64 (.t 23))⟩,
  ⟨(some 25), none, .op (.mv (.t 0))⟩,
  ⟨(some 26), none, .op (.iad none none (.t 25) (.v (.int .i64 3)))⟩,
  ⟨(some 27), none, .op (.load none (.t 26))⟩,
  ⟨(some 28), none, .op (.bin .none .eql (.t 27) (.v (.str (ByteArray.mk #[49]))))⟩,
  ⟨(some 29), none, .op (.build [(.int .i64 0), .nils, (.bool false), (.int .i64 0), .nils] [(0, 1, (.t 24)), (3, 1, (.v (.int .i64 (-1)))), (2, 1, (.t 28))])⟩,
  ⟨(some 6), none, .op (.new [(.int .i64 0), .nils, (.bool false), (.int .i64 0), .nils])⟩,
  ⟨none, none, .op (.store 5 (.t 6) (.t 29))⟩] [])
  (.seq (.seq (.reg [⟨(some 30), none, .op (.mv (.t 0))⟩,
  ⟨(some 31), none, .op (.iad none none (.t 30) (.v (.int .i64 2)))⟩,
  ⟨(some 32), none, .op (.load none (.t 31))⟩,
  ⟨(some 33), none, .op (.bin .none .neq (.t 32) (.v (.str (ByteArray.mk #[45]))))⟩] [])
  (.cond (.t 33)
  (.seq (.reg [⟨(some 34), none, .op (.mv (.t 0))⟩,
  ⟨(some 35), none, .op (.iad none none (.t 34) (.v (.int .i64 2)))⟩,
  ⟨(some 36), none, .op (.load none (.t 35))⟩,
  ⟨(some 37), none, .op (.s2b (.t 36))⟩,
  ⟨(some 38), none, .op (.len .sl (.t 37))⟩,
  ⟨(some 39), none, .op (.mv (.v (.int .i64 0)))⟩] [])
  (.block 0 (.loop (.seq (.reg [⟨(some 40), none, .op (.bin .none .lss (.t 39) (.t 38))⟩] [])
  (.seq (.cond (.t 40)
  .skip
  (.exit 0))
  (.seq (.block 1 (.seq (.reg [⟨(some 41), none, .op (.iad none none (.t 37) (.t 39))⟩,
  ⟨(some 42), none, .op (.load none (.t 41))⟩,
  ⟨(some 8), none, .op (.mv (.t 42))⟩] [])
  (.seq (.reg [⟨(some 43), none, .op (.mv (.t 8))⟩,
  ⟨(some 44), none, .call 96 [(.v (.str (ByteArray.mk #[110, 112]))), (.t 43)]⟩,
  ⟨(some 9), none, .op (.mv (.t 44))⟩] [])
  (.seq (.reg [⟨(some 45), none, .op (.mv (.t 5))⟩,
  ⟨(some 46), none, .op (.mv (.t 45))⟩,
  ⟨(some 47), some (46, true), .op (.mv (.t 9))⟩,
  ⟨(some 48), some (46, true), .op (.bin .none .geq (.t 47) (.v (.int .i64 0)))⟩,
  ⟨(some 49), none, .op (.pick (.t 46) (.t 48) (.v (.bool false)))⟩,
  ⟨(some 5), none, .op (.mv (.t 49))⟩] [])
  (.reg [⟨(some 50), none, .op (.fad 1 (.t 6))⟩,
  ⟨(some 51), none, .op (.load none (.t 50))⟩,
  ⟨(some 52), none, .op (.mv (.t 9))⟩,
  ⟨(some 53), none, .op (.mn true (.t 52) (.v (.int .i64 0)))⟩,
  ⟨(some 54), none, .op (.cint .u8 (.t 53))⟩,
  ⟨(some 55), none, .op (.bsl none [(.int .u8 0)] 1 [(0, 1, (.t 54))])⟩,
  ⟨(some 56), none, .op (.app none 1 (.t 51) (.t 55))⟩,
  ⟨(some 57), none, .op (.fad 1 (.t 6))⟩,
  ⟨none, none, .op (.store 1 (.t 57) (.t 56))⟩] [])))))
  (.reg [⟨(some 58), none, .op (.bin .none .add (.t 39) (.v (.int .i64 1)))⟩,
  ⟨(some 39), none, .op (.mv (.t 58))⟩] [])))))))
  .skip))
  (.seq (.seq (.reg [⟨(some 59), none, .op (.mv (.t 0))⟩,
  ⟨(some 60), none, .op (.iad none none (.t 59) (.v (.int .i64 4)))⟩,
  ⟨(some 61), none, .op (.load none (.t 60))⟩,
  ⟨(some 62), none, .op (.bin .none .neq (.t 61) (.v (.str (ByteArray.mk #[45]))))⟩] [])
  (.cond (.t 62)
  (.seq (.reg [⟨(some 64), none, .op (.mv (.t 0))⟩,
  ⟨(some 65), none, .op (.iad none none (.t 64) (.v (.int .i64 4)))⟩,
  ⟨(some 66), none, .op (.load none (.t 65))⟩,
  ⟨(some 67), none, .call 95 [(.t 66), (.v (.int .u64 254))]⟩,
  ⟨(some 63), none, .op (.mv (.t 67))⟩,
  ⟨(some 68), none, .op (.ext 0 (.t 63))⟩,
  ⟨(some 69), none, .op (.ext 1 (.t 63))⟩,
  ⟨(some 10), none, .op (.mv (.t 68))⟩,
  ⟨(some 11), none, .op (.mv (.t 69))⟩] [])
  (.seq (.reg [⟨(some 70), none, .op (.mv (.t 10))⟩,
  ⟨(some 71), none, .op (.cint .i64 (.t 70))⟩,
  ⟨(some 72), none, .op (.fad 3 (.t 6))⟩,
  ⟨none, none, .op (.store 1 (.t 72) (.t 71))⟩] [])
  (.reg [⟨(some 73), none, .op (.mv (.t 5))⟩,
  ⟨(some 74), none, .op (.mv (.t 73))⟩,
  ⟨(some 75), some (74, true), .op (.mv (.t 11))⟩,
  ⟨(some 76), none, .op (.pick (.t 74) (.t 75) (.v (.bool false)))⟩,
  ⟨(some 5), none, .op (.mv (.t 76))⟩] [])))
  .skip))
  (.seq (.reg [⟨(some 77), none, .op (.load (some 5) (.t 6))⟩,
  ⟨(some 78), none, .op (.mv (.t 5))⟩,
  ⟨(some 79), none, .op (.mv (.t 78))⟩,
  ⟨(some 80), some (79, true), .op (.mv (.t 0))⟩,
  ⟨(some 81), some (79, true), .op (.iad none none (.t 80) (.v (.int .i64 3)))⟩,
  ⟨(some 82), some (79, true), .op (.load none (.t 81))⟩,
  ⟨(some 83), some (79, true), .op (.bin .none .eql (.t 82) (.v (.str (ByteArray.mk #[48]))))⟩,
  ⟨(some 84), some (79, true), .op (.mv (.t 83))⟩,
  ⟨(some 85), some (84, false), .op (.mv (.t 0))⟩,
  ⟨(some 86), some (84, false), .op (.iad none none (.t 85) (.v (.int .i64 3)))⟩,
  ⟨(some 87), some (84, false), .op (.load none (.t 86))⟩,
  ⟨(some 88), some (84, false), .op (.bin .none .eql (.t 87) (.v (.str (ByteArray.mk #[49]))))⟩,
  ⟨(some 89), some (79, true), .op (.pick (.t 84) (.v (.bool true)) (.t 88))⟩,
  ⟨(some 90), none, .op (.pick (.t 79) (.t 89) (.v (.bool false)))⟩,
  ⟨none, none, .op (.store 5 (.t 2) (.t 77))⟩,
  ⟨(some 3), none, .op (.mv (.t 90))⟩] [(10, 14)])
  .ret)))))))
theorem fn55 : Fn3 Tryd.prog 55 91 [(2, (some (some 5))), (3, none)] fc55 := ⟨_, _, Tryd.func55, rfl, rfl, rfl, by kernel_rfl⟩
def text_function_s (w_00 : (List ByteArray)) : Option (Func × Bool) :=
  (if ((List.length w_00 : Int) != 5) then (some ((Func.mk 0 [] false 0 []), false)) else ((getI w_00 1).bind fun y_1 => ((text_number_s y_1 255).bind fun num_2 => ((getI w_00 3).bind fun y_3 => ((getI w_00 2).bind fun y_4 => (jp (fun (s_6 : (Bool × (List Int))) => ((getI w_00 4).bind fun y_15 => (jp (fun (s_17 : (Bool × Int)) => (jp (fun (s_20 : Bool) => (some ((Func.mk (I64 num_2.1) s_6.2 (ByteArray.toList y_3 == ByteArray.toList (ByteArray.mk #[49])) s_17.2 []), s_20))) (fun k_19 => (if s_17.1 then ((getI w_00 3).bind fun y_21 => (if (ByteArray.toList y_21 == ByteArray.toList (ByteArray.mk #[48])) then (k_19 true) else (k_19 (ByteArray.toList y_21 == ByteArray.toList (ByteArray.mk #[49]))))) else (k_19 false))))) (fun k_16 => (if (!(ByteArray.toList y_15 == ByteArray.toList (ByteArray.mk #[45]))) then ((text_number_s y_15 254).bind fun num_18 => (if s_6.1 then (k_16 (num_18.2, (I64 num_18.1))) else (k_16 (false, (I64 num_18.1))))) else (k_16 (s_6.1, (-1)))))))) (fun k_5 => (if (!(ByteArray.toList y_4 == ByteArray.toList (ByteArray.mk #[45]))) then ((rng (fun (i_8 : Nat) (c_9 : Int) (s_7 : (Bool × (List Int))) => (((strings_IndexByte_s (ByteArray.mk #[110, 112]) c_9).bind fun ind_11 => (jp (fun (s_13 : Bool) => ((appL 1 s_7.2 [(U8 (if 0 > ind_11 then 0 else ind_11))]).bind fun l_14 => (some (.nxt (s_13, l_14))))) (fun k_12 => (if s_7.1 then (k_12 (decide (ind_11 ≥ 0))) else (k_12 false))))) : Option (Stp (Bool × (List Int)) (Option (Func × Bool))))) (ofStr y_4) (num_2.2, [])).bind (oc (fun (s_7 : (Bool × (List Int))) => (k_5 (s_7.1, s_7.2))))) else (k_5 (num_2.2, []))))))))))
theorem text_function_ev {w_00 : (List ByteArray)} {r : (Func × Bool)} (h : text_function_s w_00 = some r) : PureEv Tryd.prog 55 [(.sl false 1 (List.map avS w_00))] (.tup [(Func.av r.1), (.bool r.2)]) := by
  unfold text_function_s at h
  refine PureEv_end mixed fn55 (by simp) [2, 6, 56] 6 ?_
  unfold fc55
  refine E_sq ?_
  refine E_reg ?_
  refine E_op (v' := .ptr 0 0 0) (S' := [.arr 0 [(.int .i64 0), .nils, (.bool false), (.int .i64 0), .nils]]) rfl rfl rfl ?_
  refine E_mv (v' := (.bool false)) rfl ?_
  refine E_nil ?_
  refine E_nx ?_
  refine E_as ?_
  refine E_sq ?_
  refine E_reg ?_
  refine E_mv (v' := (.sl false 1 (List.map avS w_00))) rfl ?_
  refine E_len rfl ?_
  refine E_op0 (v' := (.bool ((List.length w_00 : Int) != 5))) rfl rfl ?_
  refine E_nil ?_
  refine E_nx ?_
  refine E_sq ?_
  refine E_cs (t := ((List.length w_00 : Int) != 5)) rfl (fun hb => ?_) (fun hb => ?_)
  · rw [ite_t hb] at h
    refine E_sq ?_
    refine E_reg ?_
    refine E_op0 (v' := (.agg [(.int .i64 0), .nils, (.bool false), (.int .i64 0), .nils])) rfl rfl ?_
    refine E_do (S' := [.arr 0 [(.int .i64 0), .nils, (.bool false), (.int .i64 0), .nils]]) rfl rfl ?_
    refine E_mv (v' := (.bool false)) rfl ?_
    refine E_nil ?_
    refine E_nx ?_
    refine E_ret ?_
    refine E_thr ?_
    cases h
    exact ⟨trivial, _, rfl, (fz_tup ⟨(fz_agg ⟨(fz_b rfl (.refl _)), (fz_b rfl .nil), (fz_b rfl (.refl _)), (fz_b rfl (.refl _)), (fz_b rfl .nil), trivial⟩), (fz_b rfl (.refl _)), trivial⟩)⟩
  · rw [ite_f hb] at h
    refine E_skip ?_
    refine E_nx ?_
    refine E_sq ?_
    refine E_reg ?_
    refine E_mv (v' := (.sl false 1 (List.map avS w_00))) rfl ?_
    obtain ⟨y_1, hy_1, h⟩ := bd_some h
    refine E_iadF rfl rfl hy_1 ?_
    refine E_op0 (v' := (.str y_1)) rfl rfl ?_
    obtain ⟨num_2, hnum_2, h⟩ := bd_some h
    refine E_callW (text_number_ev  hnum_2) rfl ⟨(.refl _), (.refl _), trivial⟩ (blwL_of ⟨rfl, rfl, trivial⟩) (tup_blw ⟨rfl, rfl, trivial⟩) ?_
    refine E_mv (v' := (.tup [(.int .u64 num_2.1), (.bool num_2.2)])) rfl ?_
    refine E_op0 (v' := (.int .u64 num_2.1)) rfl rfl ?_
    refine E_op0 (v' := (.bool num_2.2)) rfl rfl ?_
    refine E_mv (v' := (.int .u64 num_2.1)) rfl ?_
    refine E_mv (v' := (.bool num_2.2)) rfl ?_
    refine E_nil ?_
    refine E_nx ?_
    refine E_sq ?_
    refine E_reg ?_
    refine E_mv (v' := (.int .u64 num_2.1)) rfl ?_
    refine E_op0 (v' := (.int .i64 (I64 num_2.1))) rfl rfl ?_
    refine E_mv (v' := (.sl false 1 (List.map avS w_00))) rfl ?_
    obtain ⟨y_3, hy_3, h⟩ := bd_some h
    refine E_iadF rfl rfl hy_3 ?_
    refine E_op0 (v' := (.str y_3)) rfl rfl ?_
    refine E_op0 (v' := (.bool (ByteArray.toList y_3 == ByteArray.toList (ByteArray.mk #[49])))) rfl rfl ?_
    refine E_op0 (v' := (.agg [(.int .i64 (I64 num_2.1)), .nils, (.bool (ByteArray.toList y_3 == ByteArray.toList (ByteArray.mk #[49]))), (.int .i64 (-1)), .nils])) rfl rfl ?_
    refine E_op (v' := .ptr 1 0 0) (S' := [.arr 0 [(.int .i64 0), .nils, (.bool false), (.int .i64 0), .nils], .arr 0 [(.int .i64 0), .nils, (.bool false), (.int .i64 0), .nils]]) rfl rfl rfl ?_
    refine E_do (S' := [.arr 0 [(.int .i64 0), .nils, (.bool false), (.int .i64 0), .nils], .arr 0 [(.int .i64 (I64 num_2.1)), .nils, (.bool (ByteArray.toList y_3 == ByteArray.toList (ByteArray.mk #[49]))), (.int .i64 (-1)), .nils]]) rfl rfl ?_
    refine E_nil ?_
    refine E_nx ?_
    refine E_as ?_
    refine E_sq ?_
    refine E_reg ?_
    refine E_mv (v' := (.sl false 1 (List.map avS w_00))) rfl ?_
    obtain ⟨y_4, hy_4, h⟩ := bd_some h
    refine E_iadF rfl rfl hy_4 ?_
    refine E_op0 (v' := (.str y_4)) rfl rfl ?_
    refine E_op0 (v' := (.bool (!(ByteArray.toList y_4 == ByteArray.toList (ByteArray.mk #[45]))))) rfl rfl ?_
    refine E_nil ?_
    refine E_nx ?_
    refine E_jp h (fun s_6 => [(0, (.sl false 1 (List.map avS w_00))), (2, (.ptr 0 0 0)), (5, (.bool s_6.1)), (6, (.ptr 1 0 0))]) (fun s_6 => [.arr 0 [(.int .i64 0), .nils, (.bool false), (.int .i64 0), .nils], .arr 0 [(.int .i64 (I64 num_2.1)), (.ref 2 1 0 (List.length s_6.2) none), (.bool (ByteArray.toList y_3 == ByteArray.toList (ByteArray.mk #[49]))), (.int .i64 (-1)), .nils], .arr 1 (flat (avI .u8) s_6.2)]) (fun k_5 h => ?_) (fun s_6 h => ?_)
    · refine E_cs (t := (!(ByteArray.toList y_4 == ByteArray.toList (ByteArray.mk #[45])))) rfl (fun hb => ?_) (fun hb => ?_)
      · rw [ite_t hb] at h
        refine E_sq ?_
        refine E_reg ?_
        refine E_mv (v' := (.sl false 1 (List.map avS w_00))) rfl ?_
        refine E_iadF rfl rfl hy_4 ?_
        refine E_op0 (v' := (.str y_4)) rfl rfl ?_
        refine E_s2b rfl ?_
        refine E_len rfl ?_
        refine E_mv (v' := (.int .i64 0)) rfl ?_
        refine E_nil ?_
        refine E_nx ?_
        refine E_rngO (fun s_7 => [(0, (.sl false 1 (List.map avS w_00))), (2, (.ptr 0 0 0)), (5, (.bool s_7.1)), (6, (.ptr 1 0 0)), (37, (.sl false 1 (List.map (avI .u8) (ofStr y_4))))]) (fun s_7 => [.arr 0 [(.int .i64 0), .nils, (.bool false), (.int .i64 0), .nils], .arr 0 [(.int .i64 (I64 num_2.1)), (.ref 2 1 0 (List.length s_7.2) none), (.bool (ByteArray.toList y_3 == ByteArray.toList (ByteArray.mk #[49]))), (.int .i64 (-1)), .nils], .arr 1 (flat (avI .u8) s_7.2)]) h (by decide) (by decide) (fun _ => ⟨rfl, rfl, rfl, rfl⟩) (wk_rn [some (0, 0), some (1, 0), none] rfl (Nat.le_of_ble_eq_true rfl) ⟨(rn_ob rfl rfl (.cons (rn_b rfl) (.cons (rn_b rfl) (.cons (rn_b rfl) (.cons (rn_b rfl) (.cons (rn_b rfl) (.nil (Nat.zero_le _))))))) rfl), (rn_ob rfl rfl (.cons (rn_b rfl) (.cons (rn_nil rfl) (.cons (rn_b rfl) (.cons (rn_b rfl) (.cons (rn_b rfl) (.nil (Nat.zero_le _))))))) rfl), (rn_obN rfl rfl rfl), trivial⟩ ⟨(rn_b rfl), (rn_b rfl), (rn_b (encS.blws 0)), (rn_ptr rfl rfl rfl rfl), (rn_b rfl), (rn_ptr rfl rfl rfl rfl), (rn_b ((encI .u8).blws 0)), trivial⟩) (fun i_8 c_9 s_7 c hx_10 hlt h => ?_) (fun s_7 fr' S' h hw => ?_)
        · refine E_sq ?_
          refine E_reg ?_
          refine E_iadF rfl rfl (getI_of hx_10) ?_
          refine E_op0 (v' := (.int .u8 c_9)) rfl rfl ?_
          refine E_mv (v' := (.int .u8 c_9)) rfl ?_
          refine E_nil ?_
          refine E_nx ?_
          refine E_sq ?_
          refine E_reg ?_
          refine E_mv (v' := (.int .u8 c_9)) rfl ?_
          obtain ⟨ind_11, hind_11, h⟩ := bd_some h
          refine E_callW (strings_IndexByte_ev  hind_11) rfl ⟨(.refl _), (.refl _), trivial⟩ (blwL_of ⟨rfl, rfl, trivial⟩) rfl ?_
          refine E_mv (v' := (.int .i64 ind_11)) rfl ?_
          refine E_nil ?_
          refine E_nx ?_
          refine E_jp h (fun s_13 => [(0, (.sl false 1 (List.map avS w_00))), (2, (.ptr 0 0 0)), (5, (.bool s_13)), (6, (.ptr 1 0 0)), (9, (.int .i64 ind_11)), (37, (.sl false 1 (List.map (avI .u8) (ofStr y_4)))), (38, (.int .i64 (List.length (ofStr y_4) : Int))), (39, (.int .i64 (i_8 : Int)))]) (fun s_13 => [.arr 0 [(.int .i64 0), .nils, (.bool false), (.int .i64 0), .nils], .arr 0 [(.int .i64 (I64 num_2.1)), (.ref 2 1 0 (List.length s_7.2) none), (.bool (ByteArray.toList y_3 == ByteArray.toList (ByteArray.mk #[49]))), (.int .i64 (-1)), .nils], .arr 1 (flat (avI .u8) s_7.2)]) (fun k_12 h => ?_) (fun s_13 h => ?_)
          · refine E_reg ?_
            refine E_mv (v' := (.bool s_7.1)) rfl ?_
            refine E_mv (v' := (.bool s_7.1)) rfl ?_
            refine E_gsT (b := s_7.1) rfl rfl rfl (fun hb => ?_) (fun hb => ?_)
            · rw [ite_t hb] at h
              refine E_mv (v' := (.int .i64 ind_11)) rfl ?_
              refine E_gh rfl ?_
              refine E_op0 (v' := (.bool (decide (ind_11 ≥ 0)))) rfl rfl ?_
              refine E_pt rfl rfl ?_
              refine E_mv (v' := (.bool (decide (ind_11 ≥ 0)))) rfl ?_
              refine E_nil ?_
              exact E_jx _ h (wk_rn [some (0, 0), some (1, 0), some (2, 0)] rfl (Nat.le_of_ble_eq_true rfl) ⟨(rn_ob rfl rfl (.cons (rn_b rfl) (.cons (rn_b rfl) (.cons (rn_b rfl) (.cons (rn_b rfl) (.cons (rn_b rfl) (.nil (Nat.zero_le _))))))) rfl), (rn_ob rfl rfl (.cons (rn_b rfl) (.cons (rn_refL (encI .u8) rfl rfl rfl) (.cons (rn_b rfl) (.cons (rn_b rfl) (.cons (rn_b rfl) (.nil (Nat.zero_le _))))))) rfl), (rn_ob rfl rfl (.refl ((encI .u8).blwf 0 _)) rfl), trivial⟩ ⟨(rn_b (encS.blws 0)), (rn_ptr rfl rfl rfl rfl), (rn_b rfl), (rn_ptr rfl rfl rfl rfl), (rn_b rfl), (rn_b ((encI .u8).blws 0)), (rn_b rfl), (rn_b rfl), trivial⟩)
            · rw [ite_f hb] at h
              refine E_gm rfl ?_
              refine E_pf rfl rfl ?_
              refine E_mv (v' := (.bool false)) rfl ?_
              refine E_nil ?_
              exact E_jx _ h (wk_rn [some (0, 0), some (1, 0), some (2, 0)] rfl (Nat.le_of_ble_eq_true rfl) ⟨(rn_ob rfl rfl (.cons (rn_b rfl) (.cons (rn_b rfl) (.cons (rn_b rfl) (.cons (rn_b rfl) (.cons (rn_b rfl) (.nil (Nat.zero_le _))))))) rfl), (rn_ob rfl rfl (.cons (rn_b rfl) (.cons (rn_refL (encI .u8) rfl rfl rfl) (.cons (rn_b rfl) (.cons (rn_b rfl) (.cons (rn_b rfl) (.nil (Nat.zero_le _))))))) rfl), (rn_ob rfl rfl (.refl ((encI .u8).blwf 0 _)) rfl), trivial⟩ ⟨(rn_b (encS.blws 0)), (rn_ptr rfl rfl rfl rfl), (rn_b rfl), (rn_ptr rfl rfl rfl rfl), (rn_b rfl), (rn_b ((encI .u8).blws 0)), (rn_b rfl), (rn_b rfl), trivial⟩)
          · refine E_reg ?_
            refine E_op0 (v' := (.ptr 1 0 1)) rfl rfl ?_
            refine E_op (v' := (.ref 2 1 0 (List.length s_7.2) none)) (S' := [.arr 0 [(.int .i64 0), .nils, (.bool false), (.int .i64 0), .nils], .arr 0 [(.int .i64 (I64 num_2.1)), (.ref 2 1 0 (List.length s_7.2) none), (.bool (ByteArray.toList y_3 == ByteArray.toList (ByteArray.mk #[49]))), (.int .i64 (-1)), .nils], .arr 1 (flat (avI .u8) s_7.2)]) rfl rfl rfl ?_
            refine E_mv (v' := (.int .i64 ind_11)) rfl ?_
            refine E_op0 (v' := (.int .i64 (if 0 > ind_11 then 0 else ind_11))) rfl rfl ?_
            refine E_op0 (v' := (.int .u8 (U8 (if 0 > ind_11 then 0 else ind_11)))) rfl rfl ?_
            refine E_opw (v' := (.sl true 1 (List.map (avI .u8) [(U8 (if 0 > ind_11 then 0 else ind_11))]))) rfl (.refl _) rfl ?_
            obtain ⟨l_14, hl_14, h⟩ := bd_some h
            refine E_apL (S' := [.arr 0 [(.int .i64 0), .nils, (.bool false), (.int .i64 0), .nils], .arr 0 [(.int .i64 (I64 num_2.1)), (.ref 2 1 0 (List.length s_7.2) none), (.bool (ByteArray.toList y_3 == ByteArray.toList (ByteArray.mk #[49]))), (.int .i64 (-1)), .nils], .arr 2 (flat (avI .u8) l_14)]) (encI .u8) rfl (src_sl [(U8 (if 0 > ind_11 then 0 else ind_11))]) rfl hl_14 rfl ?_
            refine E_op0 (v' := (.ptr 1 0 1)) rfl rfl ?_
            refine E_do (S' := [.arr 0 [(.int .i64 0), .nils, (.bool false), (.int .i64 0), .nils], .arr 0 [(.int .i64 (I64 num_2.1)), (.ref 2 2 0 (List.length l_14) none), (.bool (ByteArray.toList y_3 == ByteArray.toList (ByteArray.mk #[49]))), (.int .i64 (-1)), .nils], .arr 2 (flat (avI .u8) l_14)]) rfl rfl ?_
            refine E_nil ?_
            cases h
            exact L_nn rfl (wk_rn [some (0, 0), some (1, 0), some (2, 0)] rfl (Nat.le_of_ble_eq_true rfl) ⟨(rn_ob rfl rfl (.cons (rn_b rfl) (.cons (rn_b rfl) (.cons (rn_b rfl) (.cons (rn_b rfl) (.cons (rn_b rfl) (.nil (Nat.zero_le _))))))) rfl), (rn_ob rfl rfl (.cons (rn_b rfl) (.cons (rn_refL (encI .u8) rfl rfl rfl) (.cons (rn_b rfl) (.cons (rn_b rfl) (.cons (rn_b rfl) (.nil (Nat.zero_le _))))))) rfl), (rn_ob rfl rfl (.refl ((encI .u8).blwf 0 _)) rfl), trivial⟩ ⟨(rn_b rfl), (rn_b rfl), (rn_b (encS.blws 0)), (rn_ptr rfl rfl rfl rfl), (rn_b rfl), (rn_ptr rfl rfl rfl rfl), (rn_b ((encI .u8).blws 0)), trivial⟩)
        · exact X_jp _ h hw (wk_rn [some (0, 0), some (1, 0), some (2, 0)] rfl (Nat.le_of_ble_eq_true rfl) ⟨(rn_ob rfl rfl (.cons (rn_b rfl) (.cons (rn_b rfl) (.cons (rn_b rfl) (.cons (rn_b rfl) (.cons (rn_b rfl) (.nil (Nat.zero_le _))))))) rfl), (rn_ob rfl rfl (.cons (rn_b rfl) (.cons (rn_refL (encI .u8) rfl rfl rfl) (.cons (rn_b rfl) (.cons (rn_b rfl) (.cons (rn_b rfl) (.nil (Nat.zero_le _))))))) rfl), (rn_ob rfl rfl (.refl ((encI .u8).blwf 0 _)) rfl), trivial⟩ ⟨(rn_b (encS.blws 0)), (rn_ptr rfl rfl rfl rfl), (rn_b rfl), (rn_ptr rfl rfl rfl rfl), trivial⟩)
      · rw [ite_f hb] at h
        refine E_skip ?_
        exact E_jx _ h (wk_rn [some (0, 0), some (1, 0), none] rfl (Nat.le_of_ble_eq_true rfl) ⟨(rn_ob rfl rfl (.cons (rn_b rfl) (.cons (rn_b rfl) (.cons (rn_b rfl) (.cons (rn_b rfl) (.cons (rn_b rfl) (.nil (Nat.zero_le _))))))) rfl), (rn_ob rfl rfl (.cons (rn_b rfl) (.cons (rn_nil rfl) (.cons (rn_b rfl) (.cons (rn_b rfl) (.cons (rn_b rfl) (.nil (Nat.zero_le _))))))) rfl), (rn_obN rfl rfl rfl), trivial⟩ ⟨(rn_b (encS.blws 0)), (rn_ptr rfl rfl rfl rfl), (rn_b rfl), (rn_ptr rfl rfl rfl rfl), trivial⟩)
    · refine E_as ?_
      refine E_sq ?_
      refine E_reg ?_
      refine E_mv (v' := (.sl false 1 (List.map avS w_00))) rfl ?_
      obtain ⟨y_15, hy_15, h⟩ := bd_some h
      refine E_iadF rfl rfl hy_15 ?_
      refine E_op0 (v' := (.str y_15)) rfl rfl ?_
      refine E_op0 (v' := (.bool (!(ByteArray.toList y_15 == ByteArray.toList (ByteArray.mk #[45]))))) rfl rfl ?_
      refine E_nil ?_
      refine E_nx ?_
      refine E_jp h (fun s_17 => [(0, (.sl false 1 (List.map avS w_00))), (2, (.ptr 0 0 0)), (5, (.bool s_17.1)), (6, (.ptr 1 0 0))]) (fun s_17 => [.arr 0 [(.int .i64 0), .nils, (.bool false), (.int .i64 0), .nils], .arr 0 [(.int .i64 (I64 num_2.1)), (.ref 2 1 0 (List.length s_6.2) none), (.bool (ByteArray.toList y_3 == ByteArray.toList (ByteArray.mk #[49]))), (.int .i64 s_17.2), .nils], .arr 1 (flat (avI .u8) s_6.2)]) (fun k_16 h => ?_) (fun s_17 h => ?_)
      · refine E_cs (t := (!(ByteArray.toList y_15 == ByteArray.toList (ByteArray.mk #[45])))) rfl (fun hb => ?_) (fun hb => ?_)
        · rw [ite_t hb] at h
          refine E_sq ?_
          refine E_reg ?_
          refine E_mv (v' := (.sl false 1 (List.map avS w_00))) rfl ?_
          refine E_iadF rfl rfl hy_15 ?_
          refine E_op0 (v' := (.str y_15)) rfl rfl ?_
          obtain ⟨num_18, hnum_18, h⟩ := bd_some h
          refine E_callW (text_number_ev  hnum_18) rfl ⟨(.refl _), (.refl _), trivial⟩ (blwL_of ⟨rfl, rfl, trivial⟩) (tup_blw ⟨rfl, rfl, trivial⟩) ?_
          refine E_mv (v' := (.tup [(.int .u64 num_18.1), (.bool num_18.2)])) rfl ?_
          refine E_op0 (v' := (.int .u64 num_18.1)) rfl rfl ?_
          refine E_op0 (v' := (.bool num_18.2)) rfl rfl ?_
          refine E_mv (v' := (.int .u64 num_18.1)) rfl ?_
          refine E_mv (v' := (.bool num_18.2)) rfl ?_
          refine E_nil ?_
          refine E_nx ?_
          refine E_sq ?_
          refine E_reg ?_
          refine E_mv (v' := (.int .u64 num_18.1)) rfl ?_
          refine E_op0 (v' := (.int .i64 (I64 num_18.1))) rfl rfl ?_
          refine E_op0 (v' := (.ptr 1 0 3)) rfl rfl ?_
          refine E_do (S' := [.arr 0 [(.int .i64 0), .nils, (.bool false), (.int .i64 0), .nils], .arr 0 [(.int .i64 (I64 num_2.1)), (.ref 2 1 0 (List.length s_6.2) none), (.bool (ByteArray.toList y_3 == ByteArray.toList (ByteArray.mk #[49]))), (.int .i64 (I64 num_18.1)), .nils], .arr 1 (flat (avI .u8) s_6.2)]) rfl rfl ?_
          refine E_nil ?_
          refine E_nx ?_
          refine E_reg ?_
          refine E_mv (v' := (.bool s_6.1)) rfl ?_
          refine E_mv (v' := (.bool s_6.1)) rfl ?_
          refine E_gsT (b := s_6.1) rfl rfl rfl (fun hb => ?_) (fun hb => ?_)
          · rw [ite_t hb] at h
            refine E_mv (v' := (.bool num_18.2)) rfl ?_
            refine E_pt rfl rfl ?_
            refine E_mv (v' := (.bool num_18.2)) rfl ?_
            refine E_nil ?_
            exact E_jx _ h (wk_rn [some (0, 0), some (1, 0), some (2, 0)] rfl (Nat.le_of_ble_eq_true rfl) ⟨(rn_ob rfl rfl (.cons (rn_b rfl) (.cons (rn_b rfl) (.cons (rn_b rfl) (.cons (rn_b rfl) (.cons (rn_b rfl) (.nil (Nat.zero_le _))))))) rfl), (rn_ob rfl rfl (.cons (rn_b rfl) (.cons (rn_refL (encI .u8) rfl rfl rfl) (.cons (rn_b rfl) (.cons (rn_b rfl) (.cons (rn_b rfl) (.nil (Nat.zero_le _))))))) rfl), (rn_ob rfl rfl (.refl ((encI .u8).blwf 0 _)) rfl), trivial⟩ ⟨(rn_b (encS.blws 0)), (rn_ptr rfl rfl rfl rfl), (rn_b rfl), (rn_ptr rfl rfl rfl rfl), trivial⟩)
          · rw [ite_f hb] at h
            refine E_pf rfl rfl ?_
            refine E_mv (v' := (.bool false)) rfl ?_
            refine E_nil ?_
            exact E_jx _ h (wk_rn [some (0, 0), some (1, 0), some (2, 0)] rfl (Nat.le_of_ble_eq_true rfl) ⟨(rn_ob rfl rfl (.cons (rn_b rfl) (.cons (rn_b rfl) (.cons (rn_b rfl) (.cons (rn_b rfl) (.cons (rn_b rfl) (.nil (Nat.zero_le _))))))) rfl), (rn_ob rfl rfl (.cons (rn_b rfl) (.cons (rn_refL (encI .u8) rfl rfl rfl) (.cons (rn_b rfl) (.cons (rn_b rfl) (.cons (rn_b rfl) (.nil (Nat.zero_le _))))))) rfl), (rn_ob rfl rfl (.refl ((encI .u8).blwf 0 _)) rfl), trivial⟩ ⟨(rn_b (encS.blws 0)), (rn_ptr rfl rfl rfl rfl), (rn_b rfl), (rn_ptr rfl rfl rfl rfl), trivial⟩)
        · rw [ite_f hb] at h
          refine E_skip ?_
          exact E_jx _ h (wk_rn [some (0, 0), some (1, 0), some (2, 0)] rfl (Nat.le_of_ble_eq_true rfl) ⟨(rn_ob rfl rfl (.cons (rn_b rfl) (.cons (rn_b rfl) (.cons (rn_b rfl) (.cons (rn_b rfl) (.cons (rn_b rfl) (.nil (Nat.zero_le _))))))) rfl), (rn_ob rfl rfl (.cons (rn_b rfl) (.cons (rn_refL (encI .u8) rfl rfl rfl) (.cons (rn_b rfl) (.cons (rn_b rfl) (.cons (rn_b rfl) (.nil (Nat.zero_le _))))))) rfl), (rn_ob rfl rfl (.refl ((encI .u8).blwf 0 _)) rfl), trivial⟩ ⟨(rn_b (encS.blws 0)), (rn_ptr rfl rfl rfl rfl), (rn_b rfl), (rn_ptr rfl rfl rfl rfl), trivial⟩)
      · refine E_jp h (fun s_20 => [(2, (.ptr 0 0 0)), (3, (.bool s_20))]) (fun s_20 => [.arr 0 [(.int .i64 (I64 num_2.1)), (.ref 1 1 0 (List.length s_6.2) none), (.bool (ByteArray.toList y_3 == ByteArray.toList (ByteArray.mk #[49]))), (.int .i64 s_17.2), .nils], .arr 1 (flat (avI .u8) s_6.2)]) (fun k_19 h => ?_) (fun s_20 h => ?_)
        · refine E_regp ?_
          refine E_op (v' := (.agg [(.int .i64 (I64 num_2.1)), (.ref 2 1 0 (List.length s_6.2) none), (.bool (ByteArray.toList y_3 == ByteArray.toList (ByteArray.mk #[49]))), (.int .i64 s_17.2), .nils])) (S' := [.arr 0 [(.int .i64 0), .nils, (.bool false), (.int .i64 0), .nils], .arr 0 [(.int .i64 (I64 num_2.1)), (.ref 2 1 0 (List.length s_6.2) none), (.bool (ByteArray.toList y_3 == ByteArray.toList (ByteArray.mk #[49]))), (.int .i64 s_17.2), .nils], .arr 1 (flat (avI .u8) s_6.2)]) rfl rfl rfl ?_
          refine E_mv (v' := (.bool s_17.1)) rfl ?_
          refine E_mv (v' := (.bool s_17.1)) rfl ?_
          refine E_gsT (b := s_17.1) rfl rfl rfl (fun hb => ?_) (fun hb => ?_)
          · rw [ite_t hb] at h
            refine E_mv (v' := (.sl false 1 (List.map avS w_00))) rfl ?_
            refine E_gh rfl ?_
            obtain ⟨y_21, hy_21, h⟩ := bd_some h
            refine E_iadF rfl rfl hy_21 ?_
            refine E_gh rfl ?_
            refine E_op0 (v' := (.str y_21)) rfl rfl ?_
            refine E_gh rfl ?_
            refine E_op0 (v' := (.bool (ByteArray.toList y_21 == ByteArray.toList (ByteArray.mk #[48])))) rfl rfl ?_
            refine E_gh rfl ?_
            refine E_mv (v' := (.bool (ByteArray.toList y_21 == ByteArray.toList (ByteArray.mk #[48])))) rfl ?_
            refine E_gsT (b := (ByteArray.toList y_21 == ByteArray.toList (ByteArray.mk #[48]))) rfl rfl rfl (fun hb => ?_) (fun hb => ?_)
            · rw [ite_f hb] at h
              refine E_mv (v' := (.sl false 1 (List.map avS w_00))) rfl ?_
              refine E_gh rfl ?_
              refine E_iadF rfl rfl hy_21 ?_
              refine E_gh rfl ?_
              refine E_op0 (v' := (.str y_21)) rfl rfl ?_
              refine E_gh rfl ?_
              refine E_op0 (v' := (.bool (ByteArray.toList y_21 == ByteArray.toList (ByteArray.mk #[49])))) rfl rfl ?_
              refine E_gh rfl ?_
              refine E_pf rfl rfl ?_
              refine E_pt rfl rfl ?_
              refine E_do (S' := [.arr 0 [(.int .i64 (I64 num_2.1)), (.ref 2 1 0 (List.length s_6.2) none), (.bool (ByteArray.toList y_3 == ByteArray.toList (ByteArray.mk #[49]))), (.int .i64 s_17.2), .nils], .arr 0 [(.int .i64 (I64 num_2.1)), (.ref 2 1 0 (List.length s_6.2) none), (.bool (ByteArray.toList y_3 == ByteArray.toList (ByteArray.mk #[49]))), (.int .i64 s_17.2), .nils], .arr 1 (flat (avI .u8) s_6.2)]) rfl rfl ?_
              refine E_mv (v' := (.bool (ByteArray.toList y_21 == ByteArray.toList (ByteArray.mk #[49])))) rfl ?_
              refine E_nil ?_
              refine And.intro (by simp [okLog, nthL, okPair, hp, fpOf]) ?_
              exact E_jx _ h (wk_rn [some (0, 0), some (2, 0)] rfl (Nat.le_of_ble_eq_true rfl) ⟨(rn_ob rfl rfl (.cons (rn_b rfl) (.cons (rn_refL (encI .u8) rfl rfl rfl) (.cons (rn_b rfl) (.cons (rn_b rfl) (.cons (rn_b rfl) (.nil (Nat.zero_le _))))))) rfl), (rn_ob rfl rfl (.refl ((encI .u8).blwf 0 _)) rfl), trivial⟩ ⟨(rn_ptr rfl rfl rfl rfl), (rn_b rfl), trivial⟩)
            · rw [ite_t hb] at h
              refine E_gm rfl ?_
              refine E_gm rfl ?_
              refine E_gm rfl ?_
              refine E_gh rfl ?_
              refine E_pt rfl rfl ?_
              refine E_pt rfl rfl ?_
              refine E_do (S' := [.arr 0 [(.int .i64 (I64 num_2.1)), (.ref 2 1 0 (List.length s_6.2) none), (.bool (ByteArray.toList y_3 == ByteArray.toList (ByteArray.mk #[49]))), (.int .i64 s_17.2), .nils], .arr 0 [(.int .i64 (I64 num_2.1)), (.ref 2 1 0 (List.length s_6.2) none), (.bool (ByteArray.toList y_3 == ByteArray.toList (ByteArray.mk #[49]))), (.int .i64 s_17.2), .nils], .arr 1 (flat (avI .u8) s_6.2)]) rfl rfl ?_
              refine E_mv (v' := (.bool true)) rfl ?_
              refine E_nil ?_
              refine And.intro (by simp [okLog, nthL, okPair, hp, fpOf]) ?_
              exact E_jx _ h (wk_rn [some (0, 0), some (2, 0)] rfl (Nat.le_of_ble_eq_true rfl) ⟨(rn_ob rfl rfl (.cons (rn_b rfl) (.cons (rn_refL (encI .u8) rfl rfl rfl) (.cons (rn_b rfl) (.cons (rn_b rfl) (.cons (rn_b rfl) (.nil (Nat.zero_le _))))))) rfl), (rn_ob rfl rfl (.refl ((encI .u8).blwf 0 _)) rfl), trivial⟩ ⟨(rn_ptr rfl rfl rfl rfl), (rn_b rfl), trivial⟩)
          · rw [ite_f hb] at h
            refine E_gm rfl ?_
            refine E_gm rfl ?_
            refine E_gm rfl ?_
            refine E_gm rfl ?_
            refine E_gz rfl ?_
            refine E_gz rfl ?_
            refine E_gz rfl ?_
            refine E_gz rfl ?_
            refine E_gm rfl ?_
            refine E_pf rfl rfl ?_
            refine E_do (S' := [.arr 0 [(.int .i64 (I64 num_2.1)), (.ref 2 1 0 (List.length s_6.2) none), (.bool (ByteArray.toList y_3 == ByteArray.toList (ByteArray.mk #[49]))), (.int .i64 s_17.2), .nils], .arr 0 [(.int .i64 (I64 num_2.1)), (.ref 2 1 0 (List.length s_6.2) none), (.bool (ByteArray.toList y_3 == ByteArray.toList (ByteArray.mk #[49]))), (.int .i64 s_17.2), .nils], .arr 1 (flat (avI .u8) s_6.2)]) rfl rfl ?_
            refine E_mv (v' := (.bool false)) rfl ?_
            refine E_nil ?_
            refine And.intro (by simp [okLog, nthL, okPair, hp, fpOf]) ?_
            exact E_jx _ h (wk_rn [some (0, 0), some (2, 0)] rfl (Nat.le_of_ble_eq_true rfl) ⟨(rn_ob rfl rfl (.cons (rn_b rfl) (.cons (rn_refL (encI .u8) rfl rfl rfl) (.cons (rn_b rfl) (.cons (rn_b rfl) (.cons (rn_b rfl) (.nil (Nat.zero_le _))))))) rfl), (rn_ob rfl rfl (.refl ((encI .u8).blwf 0 _)) rfl), trivial⟩ ⟨(rn_ptr rfl rfl rfl rfl), (rn_b rfl), trivial⟩)
        · refine E_ret ?_
          cases h
          exact ⟨trivial, _, rfl, (fz_tup ⟨(fz_agg ⟨(fz_b rfl (.refl _)), (fz_ref (encI .u8) (Nat.zero_le _) rfl), (fz_b rfl (.refl _)), (fz_b rfl (.refl _)), (fz_b rfl .nil), trivial⟩), (fz_b rfl (.refl _)), trivial⟩)⟩
/- windlass/text.names -/
def fc63 : FC := (.seq (.reg [⟨(some 0), none, .op (.mv (.v .nils))⟩] [])
  (.seq (.reg [⟨(some 1), none, .call 47 [(.v (.str (ByteArray.mk #[99, 111, 110, 115, 116, 32, 103, 101, 116, 32, 115, 101, 116, 32, 97, 100, 100, 114, 32, 108, 111, 97, 100, 32, 115, 116, 111, 114, 101, 32, 97, 100, 100, 32, 115, 117, 98, 32, 109, 117, 108, 32, 100, 105, 118, 32, 114, 101, 109, 32, 97, 110, 100, 32, 111, 114, 32, 120, 111, 114, 32, 115, 104, 108, 32, 115, 104, 114, 32, 115, 97, 114, 32, 101, 113, 32, 108, 116, 32, 98, 101, 108, 111, 119, 32, 106, 117, 109, 112, 32, 122, 101, 114, 111, 32, 99, 97, 108, 108, 32, 114, 101, 116, 32, 100, 101, 102, 101, 114, 32, 112, 97, 110, 105, 99, 32, 114, 101, 99, 111, 118, 101, 114, 32, 105, 110, 32, 111, 117, 116, 32, 101, 120, 105, 116, 32, 100, 114, 111, 112, 32, 100, 117, 112]))), (.v (.str (ByteArray.mk #[32])))]⟩,
  ⟨(some 0), none, .op (.mv (.t 1))⟩] [])
  .ret))
theorem fn63 : Fn3 Tryd.prog 63 2 [(0, none)] fc63 := ⟨_, _, Tryd.func63, rfl, rfl, rfl, by kernel_rfl⟩
def text_names_s  : Option (List ByteArray) :=
  ((strings_Split_s (ByteArray.mk #[99, 111, 110, 115, 116, 32, 103, 101, 116, 32, 115, 101, 116, 32, 97, 100, 100, 114, 32, 108, 111, 97, 100, 32, 115, 116, 111, 114, 101, 32, 97, 100, 100, 32, 115, 117, 98, 32, 109, 117, 108, 32, 100, 105, 118, 32, 114, 101, 109, 32, 97, 110, 100, 32, 111, 114, 32, 120, 111, 114, 32, 115, 104, 108, 32, 115, 104, 114, 32, 115, 97, 114, 32, 101, 113, 32, 108, 116, 32, 98, 101, 108, 111, 119, 32, 106, 117, 109, 112, 32, 122, 101, 114, 111, 32, 99, 97, 108, 108, 32, 114, 101, 116, 32, 100, 101, 102, 101, 114, 32, 112, 97, 110, 105, 99, 32, 114, 101, 99, 111, 118, 101, 114, 32, 105, 110, 32, 111, 117, 116, 32, 101, 120, 105, 116, 32, 100, 114, 111, 112, 32, 100, 117, 112]) (ByteArray.mk #[32])).bind fun spl_1 => (some spl_1))
theorem text_names_ev  {r : (List ByteArray)} (h : text_names_s  = some r) : PureEv Tryd.prog 63 [] (.sl false 1 (List.map avS r)) := by
  unfold text_names_s at h
  refine PureEv_end mixed fn63 (by simp) [] 6 ?_
  unfold fc63
  refine E_sq ?_
  refine E_reg ?_
  refine E_mv (v' := .nils) rfl ?_
  refine E_nil ?_
  refine E_nx ?_
  refine E_sq ?_
  refine E_reg ?_
  obtain ⟨spl_1, hspl_1, h⟩ := bd_some h
  refine E_callW (strings_Split_ev  hspl_1) rfl ⟨(.refl _), (.refl _), trivial⟩ (blwL_of ⟨rfl, rfl, trivial⟩) (encS.blws 0) ?_
  refine E_mv (v' := (.sl false 1 (List.map avS spl_1))) rfl ?_
  refine E_nil ?_
  refine E_nx ?_
  refine E_ret ?_
  cases h
  exact ⟨trivial, _, rfl, (fz_b (encS.blws 0) (.refl _))⟩
/- slices.Index[[]string,string] -/
def fc97 : FC := (.seq (.reg [⟨(some 4), none, .op (.mv (.v (.int .i64 0)))⟩] [])
  (.seq (.seq (.reg [⟨(some 6), none, .op (.mv (.t 0))⟩,
  ⟨(some 7), none, .op (.len .sl (.t 6))⟩,
  ⟨(some 8), none, .op (.mv (.v (.int .i64 0)))⟩] [])
  (.block 0 (.loop (.seq (.reg [⟨(some 9), none, .op (.bin .none .lss (.t 8) (.t 7))⟩] [])
  (.seq (.cond (.t 9)
  .skip
  (.exit 0))
  (.seq (.block 1 (.seq (.reg [⟨(some 10), none, .op (.mv (.t 8))⟩,
  ⟨(some 5), none, .op (.mv (.t 10))⟩] [])
  (.seq (.reg [⟨(some 11), none, .op (.mv (.t 1))⟩,
  ⟨(some 12), none, .op (.mv (.t 0))⟩,
  ⟨(some 13), none, .op (.mv (.t 5))⟩,
  ⟨(some 14), none, .op (.iad none none (.t 12) (.t 13))⟩,
  ⟨(some 15), none, .op (.load none (.t 14))⟩,
  ⟨(some 16), none, .op (.bin .none .eql (.t 11) (.t 15))⟩] [])
  (.cond (.t 16)
  (.seq (.reg [⟨(some 17), none, .op (.mv (.t 5))⟩,
  ⟨(some 4), none, .op (.mv (.t 17))⟩] [])
  .ret)
  .skip))))
  (.reg [⟨(some 18), none, .op (.bin .none .add (.t 8) (.v (.int .i64 1)))⟩,
  ⟨(some 8), none, .op (.mv (.t 18))⟩] [])))))))
  (.seq (.reg [⟨(some 4), none, .op (.mv (.v (.int .i64 (-1))))⟩] [])
  .ret)))
theorem fn97 : Fn3 Tryd.prog 97 19 [(4, none)] fc97 := ⟨_, _, Tryd.func97, rfl, rfl, rfl, by kernel_rfl⟩
def slices_Index_0_s (s_00 : (List ByteArray)) (v_01 : ByteArray) : Option Int :=
  ((rni (fun (i_2 : Nat) (s_1 : ByteArray) => (((getI s_00 (i_2 : Int)).bind fun y_3 => (if (ByteArray.toList s_1 == ByteArray.toList y_3) then (some (.ret (some (i_2 : Int)))) else (some (.nxt s_1)))) : Option (Stp ByteArray (Option Int)))) (List.length s_00 : Int) v_01).bind (oc (fun (s_1 : ByteArray) => (some (-1)))))
theorem slices_Index_0_ev {s_00 : (List ByteArray)} {v_01 : ByteArray} {r : Int} (h : slices_Index_0_s s_00 v_01 = some r) : PureEv Tryd.prog 97 [(.sl false 1 (List.map avS s_00)), (.str v_01)] (.int .i64 r) := by
  unfold slices_Index_0_s at h
  refine PureEv_end mixed fn97 (by simp) [] 6 ?_
  unfold fc97
  refine E_sq ?_
  refine E_reg ?_
  refine E_mv (v' := (.int .i64 0)) rfl ?_
  refine E_nil ?_
  refine E_nx ?_
  refine E_as ?_
  refine E_sq ?_
  refine E_reg ?_
  refine E_mv (v' := (.sl false 1 (List.map avS s_00))) rfl ?_
  refine E_len rfl ?_
  refine E_mv (v' := (.int .i64 0)) rfl ?_
  refine E_nil ?_
  refine E_nx ?_
  refine E_sq ?_
  refine E_rniO (fun s_1 => [(0, (.sl false 1 (List.map avS s_00))), (1, (.str s_1))]) (fun s_1 => []) h (by decide) (by decide) (fun _ => ⟨rfl, rfl, rfl, rfl⟩) (wk_aw ⟨(.refl _), (.refl _), (.refl _), (.refl _), trivial⟩) (fun i_2 s_1 c hlt h => ?_) (fun s_1 fr' S' h hw => ?_)
  · refine E_sq ?_
    refine E_reg ?_
    refine E_mv (v' := (.int .i64 (i_2 : Int))) rfl ?_
    refine E_mv (v' := (.int .i64 (i_2 : Int))) rfl ?_
    refine E_nil ?_
    refine E_nx ?_
    refine E_sq ?_
    refine E_reg ?_
    refine E_mv (v' := (.str s_1)) rfl ?_
    refine E_mv (v' := (.sl false 1 (List.map avS s_00))) rfl ?_
    refine E_mv (v' := (.int .i64 (i_2 : Int))) rfl ?_
    obtain ⟨y_3, hy_3, h⟩ := bd_some h
    refine E_iadF rfl rfl hy_3 ?_
    refine E_op0 (v' := (.str y_3)) rfl rfl ?_
    refine E_op0 (v' := (.bool (ByteArray.toList s_1 == ByteArray.toList y_3))) rfl rfl ?_
    refine E_nil ?_
    refine E_nx ?_
    refine E_cs (t := (ByteArray.toList s_1 == ByteArray.toList y_3)) rfl (fun hb => ?_) (fun hb => ?_)
    · rw [ite_t hb] at h
      refine E_sq ?_
      refine E_reg ?_
      refine E_mv (v' := (.int .i64 (i_2 : Int))) rfl ?_
      refine E_mv (v' := (.int .i64 (i_2 : Int))) rfl ?_
      refine E_nil ?_
      refine E_nx ?_
      refine E_ret ?_
      cases h
      refine L_rrO rfl (fun h => ?_)
      refine E_thr ?_
      cases h
      exact ⟨trivial, _, rfl, (fz_b rfl (.refl _))⟩
    · rw [ite_f hb] at h
      refine E_skip ?_
      cases h
      exact L_nn rfl (wk_aw ⟨(.refl _), (.refl _), (.refl _), (.refl _), trivial⟩)
  · refine X_nx hw ?_
    refine E_sq ?_
    refine E_reg ?_
    refine E_mv (v' := (.int .i64 (-1))) rfl ?_
    refine E_nil ?_
    refine E_nx ?_
    refine E_ret ?_
    cases h
    exact ⟨trivial, _, rfl, (fz_b rfl (.refl _))⟩
/- windlass/text.most -/
def fc64 : FC := (.seq (.reg [⟨(some 2), none, .op (.mv (.v (.int .u64 0)))⟩] [])
  (.seq (.seq (.reg [⟨(some 3), none, .op (.mv (.t 0))⟩] [])
  (.block 0 (.seq (.reg [⟨(some 5), none, .op (.bin .none .eql (.t 3) (.v (.int .u8 1)))⟩,
  ⟨(some 4), none, .op (.mv (.t 5))⟩] [])
  (.cond (.t 4)
  (.seq (.reg [⟨(some 2), none, .op (.mv (.v (.int .u64 18446744073709551615)))⟩] [])
  .ret)
  (.seq (.seq (.reg [⟨(some 7), none, .op (.bin .none .eql (.t 3) (.v (.int .u8 2)))⟩,
  ⟨(some 6), none, .op (.mv (.t 7))⟩] [])
  (.cond (.t 6)
  .skip
  (.seq (.reg [⟨(some 8), none, .op (.bin .none .eql (.t 3) (.v (.int .u8 3)))⟩,
  ⟨(some 6), none, .op (.mv (.t 8))⟩] [])
  (.cond (.t 6)
  .skip
  (.seq (.reg [⟨(some 9), none, .op (.bin .none .eql (.t 3) (.v (.int .u8 4)))⟩,
  ⟨(some 6), none, .op (.mv (.t 9))⟩] [])
  (.cond (.t 6)
  .skip
  (.seq (.reg [⟨(some 10), none, .op (.bin .none .eql (.t 3) (.v (.int .u8 23)))⟩,
  ⟨(some 6), none, .op (.mv (.t 10))⟩] [])
  (.cond (.t 6)
  .skip
  (.reg [⟨(some 11), none, .op (.bin .none .eql (.t 3) (.v (.int .u8 25)))⟩,
  ⟨(some 6), none, .op (.mv (.t 11))⟩] [])))))))))
  (.cond (.t 6)
  (.seq (.reg [⟨(some 2), none, .op (.mv (.v (.int .u64 255)))⟩] [])
  .ret)
  (.seq (.seq (.reg [⟨(some 13), none, .op (.bin .none .eql (.t 3) (.v (.int .u8 21)))⟩,
  ⟨(some 12), none, .op (.mv (.t 13))⟩] [])
  (.cond (.t 12)
  .skip
  (.reg [⟨(some 14), none, .op (.bin .none .eql (.t 3) (.v (.int .u8 22)))⟩,
  ⟨(some 12), none, .op (.mv (.t 14))⟩] [])))
  (.cond (.t 12)
  (.seq (.reg [⟨(some 2), none, .op (.mv (.v (.int .u64 65535)))⟩] [])
  .ret)
  .skip))))))))
  (.seq (.reg [⟨(some 2), none, .op (.mv (.v (.int .u64 0)))⟩] [])
  .ret)))
theorem fn64 : Fn3 Tryd.prog 64 15 [(2, none)] fc64 := ⟨_, _, Tryd.func64, rfl, rfl, rfl, by kernel_rfl⟩
def text_most_s (op_00 : Int) : Option Int :=
  (if (op_00 == 1) then (some 18446744073709551615) else (jp (fun (s_2 : Bool) => (if s_2 then (some 255) else (jp (fun (s_4 : Bool) => (if s_4 then (some 65535) else (some 0))) (fun k_3 => (if (op_00 == 21) then (k_3 (op_00 == 21)) else (k_3 (op_00 == 22))))))) (fun k_1 => (if (op_00 == 2) then (k_1 (op_00 == 2)) else (if (op_00 == 3) then (k_1 (op_00 == 3)) else (if (op_00 == 4) then (k_1 (op_00 == 4)) else (if (op_00 == 23) then (k_1 (op_00 == 23)) else (k_1 (op_00 == 25)))))))))
theorem text_most_ev {op_00 : Int} {r : Int} (h : text_most_s op_00 = some r) : PureEv Tryd.prog 64 [(.int .u8 op_00)] (.int .u64 r) := by
  unfold text_most_s at h
  refine PureEv_end mixed fn64 (by simp) [] 6 ?_
  unfold fc64
  refine E_sq ?_
  refine E_reg ?_
  refine E_mv (v' := (.int .u64 0)) rfl ?_
  refine E_nil ?_
  refine E_nx ?_
  refine E_as ?_
  refine E_sq ?_
  refine E_reg ?_
  refine E_mv (v' := (.int .u8 op_00)) rfl ?_
  refine E_nil ?_
  refine E_nx ?_
  refine E_sq ?_
  refine E_block ?_
  refine E_sq ?_
  refine E_reg ?_
  refine E_op0 (v' := (.bool (op_00 == 1))) rfl rfl ?_
  refine E_mv (v' := (.bool (op_00 == 1))) rfl ?_
  refine E_nil ?_
  refine E_nx ?_
  refine E_cs (t := (op_00 == 1)) rfl (fun hb => ?_) (fun hb => ?_)
  · rw [ite_t hb] at h
    refine E_sq ?_
    refine E_reg ?_
    refine E_mv (v' := (.int .u64 18446744073709551615)) rfl ?_
    refine E_nil ?_
    refine E_nx ?_
    refine E_ret ?_
    refine E_blr ?_
    refine E_thr ?_
    cases h
    exact ⟨trivial, _, rfl, (fz_b rfl (.refl _))⟩
  · rw [ite_f hb] at h
    refine E_as ?_
    refine E_sq ?_
    refine E_reg ?_
    refine E_op0 (v' := (.bool (op_00 == 2))) rfl rfl ?_
    refine E_mv (v' := (.bool (op_00 == 2))) rfl ?_
    refine E_nil ?_
    refine E_nx ?_
    refine E_jp h (fun s_2 => [(3, (.int .u8 op_00)), (6, (.bool s_2))]) (fun s_2 => []) (fun k_1 h => ?_) (fun s_2 h => ?_)
    · refine E_cs (t := (op_00 == 2)) rfl (fun hb => ?_) (fun hb => ?_)
      · rw [ite_t hb] at h
        refine E_skip ?_
        exact E_jx _ h (wk_aw ⟨(.refl _), (.refl _), trivial⟩)
      · rw [ite_f hb] at h
        refine E_sq ?_
        refine E_reg ?_
        refine E_op0 (v' := (.bool (op_00 == 3))) rfl rfl ?_
        refine E_mv (v' := (.bool (op_00 == 3))) rfl ?_
        refine E_nil ?_
        refine E_nx ?_
        refine E_cs (t := (op_00 == 3)) rfl (fun hb => ?_) (fun hb => ?_)
        · rw [ite_t hb] at h
          refine E_skip ?_
          exact E_jx _ h (wk_aw ⟨(.refl _), (.refl _), trivial⟩)
        · rw [ite_f hb] at h
          refine E_sq ?_
          refine E_reg ?_
          refine E_op0 (v' := (.bool (op_00 == 4))) rfl rfl ?_
          refine E_mv (v' := (.bool (op_00 == 4))) rfl ?_
          refine E_nil ?_
          refine E_nx ?_
          refine E_cs (t := (op_00 == 4)) rfl (fun hb => ?_) (fun hb => ?_)
          · rw [ite_t hb] at h
            refine E_skip ?_
            exact E_jx _ h (wk_aw ⟨(.refl _), (.refl _), trivial⟩)
          · rw [ite_f hb] at h
            refine E_sq ?_
            refine E_reg ?_
            refine E_op0 (v' := (.bool (op_00 == 23))) rfl rfl ?_
            refine E_mv (v' := (.bool (op_00 == 23))) rfl ?_
            refine E_nil ?_
            refine E_nx ?_
            refine E_cs (t := (op_00 == 23)) rfl (fun hb => ?_) (fun hb => ?_)
            · rw [ite_t hb] at h
              refine E_skip ?_
              exact E_jx _ h (wk_aw ⟨(.refl _), (.refl _), trivial⟩)
            · rw [ite_f hb] at h
              refine E_reg ?_
              refine E_op0 (v' := (.bool (op_00 == 25))) rfl rfl ?_
              refine E_mv (v' := (.bool (op_00 == 25))) rfl ?_
              refine E_nil ?_
              exact E_jx _ h (wk_aw ⟨(.refl _), (.refl _), trivial⟩)
    · refine E_cs (t := s_2) rfl (fun hb => ?_) (fun hb => ?_)
      · rw [ite_t hb] at h
        refine E_sq ?_
        refine E_reg ?_
        refine E_mv (v' := (.int .u64 255)) rfl ?_
        refine E_nil ?_
        refine E_nx ?_
        refine E_ret ?_
        refine E_blr ?_
        refine E_thr ?_
        cases h
        exact ⟨trivial, _, rfl, (fz_b rfl (.refl _))⟩
      · rw [ite_f hb] at h
        refine E_as ?_
        refine E_sq ?_
        refine E_reg ?_
        refine E_op0 (v' := (.bool (op_00 == 21))) rfl rfl ?_
        refine E_mv (v' := (.bool (op_00 == 21))) rfl ?_
        refine E_nil ?_
        refine E_nx ?_
        refine E_jp h (fun s_4 => [(12, (.bool s_4))]) (fun s_4 => []) (fun k_3 h => ?_) (fun s_4 h => ?_)
        · refine E_cs (t := (op_00 == 21)) rfl (fun hb => ?_) (fun hb => ?_)
          · rw [ite_t hb] at h
            refine E_skip ?_
            exact E_jx _ h (wk_aw ⟨(.refl _), trivial⟩)
          · rw [ite_f hb] at h
            refine E_reg ?_
            refine E_op0 (v' := (.bool (op_00 == 22))) rfl rfl ?_
            refine E_mv (v' := (.bool (op_00 == 22))) rfl ?_
            refine E_nil ?_
            exact E_jx _ h (wk_aw ⟨(.refl _), trivial⟩)
        · refine E_cs (t := s_4) rfl (fun hb => ?_) (fun hb => ?_)
          · rw [ite_t hb] at h
            refine E_sq ?_
            refine E_reg ?_
            refine E_mv (v' := (.int .u64 65535)) rfl ?_
            refine E_nil ?_
            refine E_nx ?_
            refine E_ret ?_
            refine E_blr ?_
            refine E_thr ?_
            cases h
            exact ⟨trivial, _, rfl, (fz_b rfl (.refl _))⟩
          · rw [ite_f hb] at h
            refine E_skip ?_
            refine E_bln ?_
            refine E_nx ?_
            refine E_sq ?_
            refine E_reg ?_
            refine E_mv (v' := (.int .u64 0)) rfl ?_
            refine E_nil ?_
            refine E_nx ?_
            refine E_ret ?_
            cases h
            exact ⟨trivial, _, rfl, (fz_b rfl (.refl _))⟩
/- windlass/text.instruction -/
def fc56 : FC := (.seq (.reg [⟨(some 2), none, .op (.new [(.int .u8 0), (.int .i64 0), (.int .u64 0)])⟩,
  ⟨(some 3), none, .op (.mv (.v (.bool false)))⟩] [])
  (.seq (.reg [⟨(some 8), none, .call 63 []⟩,
  ⟨(some 9), none, .op (.mv (.t 0))⟩,
  ⟨(some 10), none, .op (.iad none none (.t 9) (.v (.int .i64 0)))⟩,
  ⟨(some 11), none, .op (.load none (.t 10))⟩,
  ⟨(some 12), none, .call 97 [(.t 8), (.t 11)]⟩,
  ⟨(some 13), none, .op (.bin .none .add (.t 12) (.v (.int .i64 1)))⟩,
  ⟨(some 14), none, .op (.cint .u8 (.t 13))⟩,
  ⟨(some 15), none, .op (.build [(.int .u8 0), (.int .i64 0), (.int .u64 0)] [(0, 1, (.t 14))])⟩,
  ⟨(some 4), none, .op (.new [(.int .u8 0), (.int .i64 0), (.int .u64 0)])⟩,
  ⟨none, none, .op (.store 3 (.t 4) (.t 15))⟩] [(0, 3), (0, 8), (3, 8), (4, 8)])
  (.seq (.seq (.reg [⟨(some 16), none, .op (.fad 0 (.t 4))⟩,
  ⟨(some 17), none, .op (.load none (.t 16))⟩,
  ⟨(some 18), none, .op (.bin .none .eql (.t 17) (.v (.int .u8 0)))⟩] [])
  (.cond (.t 18)
  (.seq (.reg [⟨(some 19), none, .op (.load (some 3) (.t 4))⟩,
  ⟨none, none, .op (.store 3 (.t 2) (.t 19))⟩,
  ⟨(some 3), none, .op (.mv (.v (.bool false)))⟩] [])
  .ret)
  .skip))
  (.seq (.reg [⟨(some 20), none, .op (.fad 0 (.t 4))⟩,
  ⟨(some 21), none, .op (.load none (.t 20))⟩,
  ⟨(some 22), none, .call 64 [(.t 21)]⟩,
  ⟨(some 5), none, .op (.mv (.t 22))⟩] [])
  (.seq (.seq (.reg [⟨(some 23), none, .op (.mv (.t 5))⟩,
  ⟨(some 24), none, .op (.bin .none .eql (.t 23) (.v (.int .u64 0)))⟩] [])
  (.cond (.t 24)
  (.seq (.reg [⟨(some 25), none, .op (.load (some 3) (.t 4))⟩,
  ⟨(some 26), none, .op (.mv (.t 0))⟩,
  ⟨(some 27), none, .op (.len .sl (.t 26))⟩,
  ⟨(some 28), none, .op (.bin .none .eql (.t 27) (.v (.int .i64 1)))⟩,
  ⟨none, none, .op (.store 3 (.t 2) (.t 25))⟩,
  ⟨(some 3), none, .op (.mv (.t 28))⟩] [])
  .ret)
  .skip))
  (.seq (.seq (.reg [⟨(some 29), none, .op (.mv (.t 0))⟩,
  ⟨(some 30), none, .op (.len .sl (.t 29))⟩,
  ⟨(some 31), none, .op (.bin .none .neq (.t 30) (.v (.int .i64 2)))⟩] [])
  (.cond (.t 31)
  (.seq (.reg [⟨(some 32), none, .op (.load (some 3) (.t 4))⟩,
  ⟨none, none, .op (.store 3 (.t 2) (.t 32))⟩,
  ⟨(some 3), none, .op (.mv (.v (.bool false)))⟩] [])
  .ret)
  .skip))
  (.seq (.reg [⟨(some 34), none, .op (.mv (.t 0))⟩,
  ⟨(some 35), none, .op (.iad none none (.t 34) (.v (.int .i64 1)))⟩,
  ⟨(some 36), none, .op (.load none (.t 35))⟩,
  ⟨(some 37), none, .op (.mv (.t 5))⟩,
  ⟨(some 38), none, .call 95 [(.t 36), (.t 37)]⟩,
  ⟨(some 33), none, .op (.mv (.t 38))⟩,
  ⟨(some 39), none, .op (.ext 0 (.t 33))⟩,
  ⟨(some 40), none, .op (.ext 1 (.t 33))⟩,
  ⟨(some 6), none, .op (.mv (.t 39))⟩,
  ⟨(some 7), none, .op (.mv (.t 40))⟩] [])
  (.seq (.seq (.reg [⟨(some 41), none, .op (.fad 0 (.t 4))⟩,
  ⟨(some 42), none, .op (.load none (.t 41))⟩,
  ⟨(some 43), none, .op (.bin .none .eql (.t 42) (.v (.int .u8 1)))⟩] [])
  (.cond (.t 43)
  (.reg [⟨(some 44), none, .op (.mv (.t 6))⟩,
  ⟨(some 45), none, .op (.fad 2 (.t 4))⟩,
  ⟨none, none, .op (.store 1 (.t 45) (.t 44))⟩] [])
  (.reg [⟨(some 46), none, .op (.mv (.t 6))⟩,
  ⟨(some 47), none, .op (.cint .i64 (.t 46))⟩,
  ⟨(some 48), none, .op (.fad 1 (.t 4))⟩,
  ⟨none, none, .op (.store 1 (.t 48) (.t 47))⟩] [])))
  (.seq (.reg [⟨(some 49), none, .op (.load (some 3) (.t 4))⟩,
  ⟨(some 50), none, .op (.mv (.t 7))⟩,
  ⟨none, none, .op (.store 3 (.t 2) (.t 49))⟩,
  ⟨(some 3), none, .op (.mv (.t 50))⟩] [])
  .ret)))))))))
theorem fn56 : Fn3 Tryd.prog 56 51 [(2, (some (some 3))), (3, none)] fc56 := ⟨_, _, Tryd.func56, rfl, rfl, rfl, by kernel_rfl⟩
def text_instruction_s (w_00 : (List ByteArray)) : Option (Instr × Bool) :=
  (text_names_s.bind fun nam_1 => ((getI w_00 0).bind fun y_2 => ((slices_Index_0_s nam_1 y_2).bind fun v0_3 => (if ((U8 (I64 (v0_3 + 1))) == 0) then (some ((Instr.mk (U8 (I64 (v0_3 + 1))) 0 0), false)) else ((text_most_s (U8 (I64 (v0_3 + 1)))).bind fun mos_4 => (if (mos_4 == 0) then (some ((Instr.mk (U8 (I64 (v0_3 + 1))) 0 0), ((List.length w_00 : Int) == 1))) else (if ((List.length w_00 : Int) != 2) then (some ((Instr.mk (U8 (I64 (v0_3 + 1))) 0 0), false)) else ((getI w_00 1).bind fun y_5 => ((text_number_s y_5 mos_4).bind fun num_6 => (jp (fun (s_8 : (Int × Int)) => (some ((Instr.mk (U8 (I64 (v0_3 + 1))) s_8.1 s_8.2), num_6.2))) (fun k_7 => (if ((U8 (I64 (v0_3 + 1))) == 1) then (k_7 (0, num_6.1)) else (k_7 ((I64 num_6.1), 0))))))))))))))
theorem text_instruction_ev {w_00 : (List ByteArray)} {r : (Instr × Bool)} (h : text_instruction_s w_00 = some r) : PureEv Tryd.prog 56 [(.sl false 1 (List.map avS w_00))] (.tup [(Instr.av r.1), (.bool r.2)]) := by
  unfold text_instruction_s at h
  refine PureEv_end mixed fn56 (by simp) [2, 4] 6 ?_
  unfold fc56
  refine E_sq ?_
  refine E_reg ?_
  refine E_op (v' := .ptr 0 0 0) (S' := [.arr 0 [(.int .u8 0), (.int .i64 0), (.int .u64 0)]]) rfl rfl rfl ?_
  refine E_mv (v' := (.bool false)) rfl ?_
  refine E_nil ?_
  refine E_nx ?_
  refine E_sq ?_
  refine E_regp ?_
  obtain ⟨nam_1, hnam_1, h⟩ := bd_some h
  refine E_callW (text_names_ev  hnam_1) rfl trivial (blwL_of trivial) (encS.blws 0) ?_
  refine E_mv (v' := (.sl false 1 (List.map avS w_00))) rfl ?_
  obtain ⟨y_2, hy_2, h⟩ := bd_some h
  refine E_iadF rfl rfl hy_2 ?_
  refine E_op0 (v' := (.str y_2)) rfl rfl ?_
  obtain ⟨v0_3, hv0_3, h⟩ := bd_some h
  refine E_callW (slices_Index_0_ev  hv0_3) rfl ⟨(.refl _), (.refl _), trivial⟩ (blwL_of ⟨(encS.blws 0), rfl, trivial⟩) rfl ?_
  refine E_op0 (v' := (.int .i64 (I64 (v0_3 + 1)))) rfl rfl ?_
  refine E_op0 (v' := (.int .u8 (U8 (I64 (v0_3 + 1))))) rfl rfl ?_
  refine E_opw (v' := (Instr.av (Instr.mk (U8 (I64 (v0_3 + 1))) 0 0))) rfl (.aggL ⟨(.refl _), (.refl _), (.refl _), trivial⟩) rfl ?_
  refine E_op (v' := .ptr 1 0 0) (S' := [.arr 0 [(.int .u8 0), (.int .i64 0), (.int .u64 0)], .arr 0 [(.int .u8 0), (.int .i64 0), (.int .u64 0)]]) rfl rfl rfl ?_
  refine E_do (S' := [.arr 0 [(.int .u8 0), (.int .i64 0), (.int .u64 0)], .arr 0 [(.int .u8 (U8 (I64 (v0_3 + 1)))), (.int .i64 0), (.int .u64 0)]]) rfl rfl ?_
  refine E_nil ?_
  refine And.intro (by simp [okLog, nthL, okPair, hp, fpOf]) ?_
  refine E_nx ?_
  refine E_as ?_
  refine E_sq ?_
  refine E_reg ?_
  refine E_op0 (v' := (.ptr 1 0 0)) rfl rfl ?_
  refine E_op (v' := (.int .u8 (U8 (I64 (v0_3 + 1))))) (S' := [.arr 0 [(.int .u8 0), (.int .i64 0), (.int .u64 0)], .arr 0 [(.int .u8 (U8 (I64 (v0_3 + 1)))), (.int .i64 0), (.int .u64 0)]]) rfl rfl rfl ?_
  refine E_op0 (v' := (.bool ((U8 (I64 (v0_3 + 1))) == 0))) rfl rfl ?_
  refine E_nil ?_
  refine E_nx ?_
  refine E_sq ?_
  refine E_cs (t := ((U8 (I64 (v0_3 + 1))) == 0)) rfl (fun hb => ?_) (fun hb => ?_)
  · rw [ite_t hb] at h
    refine E_sq ?_
    refine E_reg ?_
    refine E_opw (v' := (Instr.av (Instr.mk (U8 (I64 (v0_3 + 1))) 0 0))) rfl (.aggL ⟨(.refl _), (.refl _), (.refl _), trivial⟩) rfl ?_
    refine E_do (S' := [.arr 0 [(.int .u8 (U8 (I64 (v0_3 + 1)))), (.int .i64 0), (.int .u64 0)], .arr 0 [(.int .u8 (U8 (I64 (v0_3 + 1)))), (.int .i64 0), (.int .u64 0)]]) rfl rfl ?_
    refine E_mv (v' := (.bool false)) rfl ?_
    refine E_nil ?_
    refine E_nx ?_
    refine E_ret ?_
    refine E_thr ?_
    cases h
    exact ⟨trivial, _, rfl, (fz_tup ⟨(fz_agg ⟨(fz_b rfl (.refl _)), (fz_b rfl (.refl _)), (fz_b rfl (.refl _)), trivial⟩), (fz_b rfl (.refl _)), trivial⟩)⟩
  · rw [ite_f hb] at h
    refine E_skip ?_
    refine E_nx ?_
    refine E_sq ?_
    refine E_reg ?_
    refine E_op0 (v' := (.ptr 1 0 0)) rfl rfl ?_
    refine E_op (v' := (.int .u8 (U8 (I64 (v0_3 + 1))))) (S' := [.arr 0 [(.int .u8 0), (.int .i64 0), (.int .u64 0)], .arr 0 [(.int .u8 (U8 (I64 (v0_3 + 1)))), (.int .i64 0), (.int .u64 0)]]) rfl rfl rfl ?_
    obtain ⟨mos_4, hmos_4, h⟩ := bd_some h
    refine E_callW (text_most_ev  hmos_4) rfl ⟨(.refl _), trivial⟩ (blwL_of ⟨rfl, trivial⟩) rfl ?_
    refine E_mv (v' := (.int .u64 mos_4)) rfl ?_
    refine E_nil ?_
    refine E_nx ?_
    refine E_as ?_
    refine E_sq ?_
    refine E_reg ?_
    refine E_mv (v' := (.int .u64 mos_4)) rfl ?_
    refine E_op0 (v' := (.bool (mos_4 == 0))) rfl rfl ?_
    refine E_nil ?_
    refine E_nx ?_
    refine E_sq ?_
    refine E_cs (t := (mos_4 == 0)) rfl (fun hb => ?_) (fun hb => ?_)
    · rw [ite_t hb] at h
      refine E_sq ?_
      refine E_reg ?_
      refine E_opw (v' := (Instr.av (Instr.mk (U8 (I64 (v0_3 + 1))) 0 0))) rfl (.aggL ⟨(.refl _), (.refl _), (.refl _), trivial⟩) rfl ?_
      refine E_mv (v' := (.sl false 1 (List.map avS w_00))) rfl ?_
      refine E_len rfl ?_
      refine E_op0 (v' := (.bool ((List.length w_00 : Int) == 1))) rfl rfl ?_
      refine E_do (S' := [.arr 0 [(.int .u8 (U8 (I64 (v0_3 + 1)))), (.int .i64 0), (.int .u64 0)], .arr 0 [(.int .u8 (U8 (I64 (v0_3 + 1)))), (.int .i64 0), (.int .u64 0)]]) rfl rfl ?_
      refine E_mv (v' := (.bool ((List.length w_00 : Int) == 1))) rfl ?_
      refine E_nil ?_
      refine E_nx ?_
      refine E_ret ?_
      refine E_thr ?_
      cases h
      exact ⟨trivial, _, rfl, (fz_tup ⟨(fz_agg ⟨(fz_b rfl (.refl _)), (fz_b rfl (.refl _)), (fz_b rfl (.refl _)), trivial⟩), (fz_b rfl (.refl _)), trivial⟩)⟩
    · rw [ite_f hb] at h
      refine E_skip ?_
      refine E_nx ?_
      refine E_as ?_
      refine E_sq ?_
      refine E_reg ?_
      refine E_mv (v' := (.sl false 1 (List.map avS w_00))) rfl ?_
      refine E_len rfl ?_
      refine E_op0 (v' := (.bool ((List.length w_00 : Int) != 2))) rfl rfl ?_
      refine E_nil ?_
      refine E_nx ?_
      refine E_sq ?_
      refine E_cs (t := ((List.length w_00 : Int) != 2)) rfl (fun hb => ?_) (fun hb => ?_)
      · rw [ite_t hb] at h
        refine E_sq ?_
        refine E_reg ?_
        refine E_opw (v' := (Instr.av (Instr.mk (U8 (I64 (v0_3 + 1))) 0 0))) rfl (.aggL ⟨(.refl _), (.refl _), (.refl _), trivial⟩) rfl ?_
        refine E_do (S' := [.arr 0 [(.int .u8 (U8 (I64 (v0_3 + 1)))), (.int .i64 0), (.int .u64 0)], .arr 0 [(.int .u8 (U8 (I64 (v0_3 + 1)))), (.int .i64 0), (.int .u64 0)]]) rfl rfl ?_
        refine E_mv (v' := (.bool false)) rfl ?_
        refine E_nil ?_
        refine E_nx ?_
        refine E_ret ?_
        refine E_thr ?_
        cases h
        exact ⟨trivial, _, rfl, (fz_tup ⟨(fz_agg ⟨(fz_b rfl (.refl _)), (fz_b rfl (.refl _)), (fz_b rfl (.refl _)), trivial⟩), (fz_b rfl (.refl _)), trivial⟩)⟩
      · rw [ite_f hb] at h
        refine E_skip ?_
        refine E_nx ?_
        refine E_sq ?_
        refine E_reg ?_
        refine E_mv (v' := (.sl false 1 (List.map avS w_00))) rfl ?_
        obtain ⟨y_5, hy_5, h⟩ := bd_some h
        refine E_iadF rfl rfl hy_5 ?_
        refine E_op0 (v' := (.str y_5)) rfl rfl ?_
        refine E_mv (v' := (.int .u64 mos_4)) rfl ?_
        obtain ⟨num_6, hnum_6, h⟩ := bd_some h
        refine E_callW (text_number_ev  hnum_6) rfl ⟨(.refl _), (.refl _), trivial⟩ (blwL_of ⟨rfl, rfl, trivial⟩) (tup_blw ⟨rfl, rfl, trivial⟩) ?_
        refine E_mv (v' := (.tup [(.int .u64 num_6.1), (.bool num_6.2)])) rfl ?_
        refine E_op0 (v' := (.int .u64 num_6.1)) rfl rfl ?_
        refine E_op0 (v' := (.bool num_6.2)) rfl rfl ?_
        refine E_mv (v' := (.int .u64 num_6.1)) rfl ?_
        refine E_mv (v' := (.bool num_6.2)) rfl ?_
        refine E_nil ?_
        refine E_nx ?_
        refine E_as ?_
        refine E_sq ?_
        refine E_reg ?_
        refine E_op0 (v' := (.ptr 1 0 0)) rfl rfl ?_
        refine E_op (v' := (.int .u8 (U8 (I64 (v0_3 + 1))))) (S' := [.arr 0 [(.int .u8 0), (.int .i64 0), (.int .u64 0)], .arr 0 [(.int .u8 (U8 (I64 (v0_3 + 1)))), (.int .i64 0), (.int .u64 0)]]) rfl rfl rfl ?_
        refine E_op0 (v' := (.bool ((U8 (I64 (v0_3 + 1))) == 1))) rfl rfl ?_
        refine E_nil ?_
        refine E_nx ?_
        refine E_jp h (fun s_8 => [(2, (.ptr 0 0 0)), (4, (.ptr 1 0 0)), (7, (.bool num_6.2))]) (fun s_8 => [.arr 0 [(.int .u8 0), (.int .i64 0), (.int .u64 0)], .arr 0 [(.int .u8 (U8 (I64 (v0_3 + 1)))), (.int .i64 s_8.1), (.int .u64 s_8.2)]]) (fun k_7 h => ?_) (fun s_8 h => ?_)
        · refine E_cs (t := ((U8 (I64 (v0_3 + 1))) == 1)) rfl (fun hb => ?_) (fun hb => ?_)
          · rw [ite_t hb] at h
            refine E_reg ?_
            refine E_mv (v' := (.int .u64 num_6.1)) rfl ?_
            refine E_op0 (v' := (.ptr 1 0 2)) rfl rfl ?_
            refine E_do (S' := [.arr 0 [(.int .u8 0), (.int .i64 0), (.int .u64 0)], .arr 0 [(.int .u8 (U8 (I64 (v0_3 + 1)))), (.int .i64 0), (.int .u64 num_6.1)]]) rfl rfl ?_
            refine E_nil ?_
            exact E_jx _ h (wk_rn [some (0, 0), some (1, 0)] rfl (Nat.le_of_ble_eq_true rfl) ⟨(rn_ob rfl rfl (.cons (rn_b rfl) (.cons (rn_b rfl) (.cons (rn_b rfl) (.nil (Nat.zero_le _))))) rfl), (rn_ob rfl rfl (.cons (rn_b rfl) (.cons (rn_b rfl) (.cons (rn_b rfl) (.nil (Nat.zero_le _))))) rfl), trivial⟩ ⟨(rn_ptr rfl rfl rfl rfl), (rn_ptr rfl rfl rfl rfl), (rn_b rfl), trivial⟩)
          · rw [ite_f hb] at h
            refine E_reg ?_
            refine E_mv (v' := (.int .u64 num_6.1)) rfl ?_
            refine E_op0 (v' := (.int .i64 (I64 num_6.1))) rfl rfl ?_
            refine E_op0 (v' := (.ptr 1 0 1)) rfl rfl ?_
            refine E_do (S' := [.arr 0 [(.int .u8 0), (.int .i64 0), (.int .u64 0)], .arr 0 [(.int .u8 (U8 (I64 (v0_3 + 1)))), (.int .i64 (I64 num_6.1)), (.int .u64 0)]]) rfl rfl ?_
            refine E_nil ?_
            exact E_jx _ h (wk_rn [some (0, 0), some (1, 0)] rfl (Nat.le_of_ble_eq_true rfl) ⟨(rn_ob rfl rfl (.cons (rn_b rfl) (.cons (rn_b rfl) (.cons (rn_b rfl) (.nil (Nat.zero_le _))))) rfl), (rn_ob rfl rfl (.cons (rn_b rfl) (.cons (rn_b rfl) (.cons (rn_b rfl) (.nil (Nat.zero_le _))))) rfl), trivial⟩ ⟨(rn_ptr rfl rfl rfl rfl), (rn_ptr rfl rfl rfl rfl), (rn_b rfl), trivial⟩)
        · refine E_sq ?_
          refine E_reg ?_
          refine E_opw (v' := (Instr.av (Instr.mk (U8 (I64 (v0_3 + 1))) s_8.1 s_8.2))) rfl (.aggL ⟨(.refl _), (.refl _), (.refl _), trivial⟩) rfl ?_
          refine E_mv (v' := (.bool num_6.2)) rfl ?_
          refine E_do (S' := [.arr 0 [(.int .u8 (U8 (I64 (v0_3 + 1)))), (.int .i64 s_8.1), (.int .u64 s_8.2)], .arr 0 [(.int .u8 (U8 (I64 (v0_3 + 1)))), (.int .i64 s_8.1), (.int .u64 s_8.2)]]) rfl rfl ?_
          refine E_mv (v' := (.bool num_6.2)) rfl ?_
          refine E_nil ?_
          refine E_nx ?_
          refine E_ret ?_
          cases h
          exact ⟨trivial, _, rfl, (fz_tup ⟨(fz_agg ⟨(fz_b rfl (.refl _)), (fz_b rfl (.refl _)), (fz_b rfl (.refl _)), trivial⟩), (fz_b rfl (.refl _)), trivial⟩)⟩
/- windlass/windlassref02.Split -/
def fc49 : FC := (.seq (.reg [⟨(some 4), none, .op (.mv (.v .nils))⟩] [])
  (.seq (.reg [⟨(some 5), none, .op (.mv (.v .nils))⟩] [])
  (.seq (.reg [⟨(some 6), none, .op (.mv (.v (.int .i64 0)))⟩] [])
  (.seq (.seq (.reg [⟨(some 7), none, .op (.mv (.v (.int .i64 0)))⟩] [])
  (.block 0 (.loop (.seq (.seq (.reg [⟨(some 8), none, .op (.mv (.t 7))⟩,
  ⟨(some 9), none, .op (.mv (.t 0))⟩,
  ⟨(some 10), none, .op (.len .str (.t 9))⟩,
  ⟨(some 11), none, .op (.bin .none .leq (.t 8) (.t 10))⟩] [])
  (.cond (.t 11)
  .skip
  (.exit 0)))
  (.seq (.block 1 (.seq (.reg [⟨(some 14), none, .op (.mv (.t 7))⟩,
  ⟨(some 15), none, .op (.mv (.t 0))⟩,
  ⟨(some 16), none, .op (.len .str (.t 15))⟩,
  ⟨(some 17), none, .op (.bin .none .eql (.t 14) (.t 16))⟩,
  ⟨(some 18), none, .op (.mv (.t 17))⟩,
  ⟨(some 19), some (18, false), .op (.mv (.t 0))⟩,
  ⟨(some 20), some (18, false), .op (.mv (.t 7))⟩,
  ⟨(some 21), some (18, false), .op (.idxs (.t 19) (.t 20))⟩,
  ⟨(some 22), some (18, false), .op (.mv (.t 1))⟩,
  ⟨(some 23), some (18, false), .op (.bin .none .eql (.t 21) (.t 22))⟩,
  ⟨(some 24), none, .op (.pick (.t 18) (.v (.bool true)) (.t 23))⟩] [])
  (.cond (.t 24)
  (.seq (.reg [⟨(some 25), none, .op (.mv (.t 5))⟩,
  ⟨(some 26), none, .op (.mv (.t 0))⟩,
  ⟨(some 27), none, .op (.mv (.t 6))⟩,
  ⟨(some 28), none, .op (.mv (.t 7))⟩,
  ⟨(some 29), none, .op (.sls (.t 26) (some (.t 27)) (some (.t 28)))⟩,
  ⟨(some 30), none, .op (.bsl none [(.str (ByteArray.mk #[]))] 1 [(0, 1, (.t 29))])⟩,
  ⟨(some 31), none, .op (.app none 16 (.t 25) (.t 30))⟩,
  ⟨(some 5), none, .op (.mv (.t 31))⟩] [])
  (.reg [⟨(some 32), none, .op (.mv (.t 7))⟩,
  ⟨(some 33), none, .op (.bin .none .add (.t 32) (.v (.int .i64 1)))⟩,
  ⟨(some 6), none, .op (.mv (.t 33))⟩] []))
  .skip)))
  (.reg [⟨(some 12), none, .op (.mv (.t 7))⟩,
  ⟨(some 13), none, .op (.bin .none .add (.t 12) (.v (.int .i64 1)))⟩,
  ⟨(some 7), none, .op (.mv (.t 13))⟩] []))))))
  (.seq (.reg [⟨(some 34), none, .op (.mv (.t 5))⟩,
  ⟨(some 4), none, .op (.mv (.t 34))⟩] [])
  .ret)))))
theorem fn49 : Fn3 Tryd.prog 49 35 [(4, none)] fc49 := ⟨_, _, Tryd.func49, rfl, rfl, rfl, by kernel_rfl⟩
def windlassref02_Split_s (fuel : Nat) (s_00 : ByteArray) (vby_01 : Int) : Option (List ByteArray) :=
  ((whileN (fun (s_1 : (Int × Int × Int × (List ByteArray))) => ((if (decide (s_1.2.2.1 ≤ (ByteArray.size s_00 : Int))) then (jp (fun (s_3 : (Int × (List ByteArray))) => (some (.nxt (s_1.1, s_3.1, (I64 (s_1.2.2.1 + 1)), s_3.2)))) (fun k_2 => (jp (fun (s_5 : Bool) => (if s_5 then ((subS s_00 s_1.2.1 s_1.2.2.1).bind fun s_7 => ((appL 16 s_1.2.2.2 [s_7]).bind fun l_8 => (k_2 ((I64 (s_1.2.2.1 + 1)), l_8)))) else (k_2 (s_1.2.1, s_1.2.2.2)))) (fun k_4 => (if (s_1.2.2.1 == (ByteArray.size s_00 : Int)) then (k_4 true) else ((strI s_00 s_1.2.2.1).bind fun b_6 => (k_4 (b_6 == s_1.1)))))))) else (some (.brk (s_1.1, s_1.2.1, s_1.2.2.1, s_1.2.2.2)))) : Option (Stp (Int × Int × Int × (List ByteArray)) (Option (List ByteArray))))) fuel (vby_01, 0, 0, [])).bind (oc (fun (s_1 : (Int × Int × Int × (List ByteArray))) => (some s_1.2.2.2))))
theorem windlassref02_Split_ev {fuel : Nat} {s_00 : ByteArray} {vby_01 : Int} {r : (List ByteArray)} (h : windlassref02_Split_s fuel s_00 vby_01 = some r) : PureEv Tryd.prog 49 [(.str s_00), (.int .u8 vby_01)] (.sl false 1 (List.map avS r)) := by
  unfold windlassref02_Split_s at h
  refine PureEv_end mixed fn49 (by simp) [31] 6 ?_
  unfold fc49
  refine E_sq ?_
  refine E_reg ?_
  refine E_mv (v' := .nils) rfl ?_
  refine E_nil ?_
  refine E_nx ?_
  refine E_sq ?_
  refine E_reg ?_
  refine E_mv (v' := .nils) rfl ?_
  refine E_nil ?_
  refine E_nx ?_
  refine E_sq ?_
  refine E_reg ?_
  refine E_mv (v' := (.int .i64 0)) rfl ?_
  refine E_nil ?_
  refine E_nx ?_
  refine E_as ?_
  refine E_sq ?_
  refine E_reg ?_
  refine E_mv (v' := (.int .i64 0)) rfl ?_
  refine E_nil ?_
  refine E_nx ?_
  refine E_sq ?_
  refine E_whileO (fun s_1 => [(0, (.str s_00)), (1, (.int .u8 s_1.1)), (5, (.ref 0 1 0 (List.length s_1.2.2.2) none)), (6, (.int .i64 s_1.2.1)), (7, (.int .i64 s_1.2.2.1))]) (fun s_1 => [.arr 1 (flat avS s_1.2.2.2)]) h (wk_rn [none] rfl (Nat.le_of_ble_eq_true rfl) ⟨(rn_obN rfl rfl rfl), trivial⟩ ⟨(rn_b rfl), (rn_b rfl), (rn_nil rfl), (rn_b rfl), (rn_b rfl), trivial⟩) (fun s_1 c h => ?_) (fun s_1 fr' S' h hw => ?_)
  · refine E_as ?_
    refine E_sq ?_
    refine E_reg ?_
    refine E_mv (v' := (.int .i64 s_1.2.2.1)) rfl ?_
    refine E_mv (v' := (.str s_00)) rfl ?_
    refine E_op0 (v' := (.int .i64 (ByteArray.size s_00 : Int))) rfl rfl ?_
    refine E_op0 (v' := (.bool (decide (s_1.2.2.1 ≤ (ByteArray.size s_00 : Int))))) rfl rfl ?_
    refine E_nil ?_
    refine E_nx ?_
    refine E_sq ?_
    refine E_cs (t := (decide (s_1.2.2.1 ≤ (ByteArray.size s_00 : Int)))) rfl (fun hb => ?_) (fun hb => ?_)
    · rw [ite_t hb] at h
      refine E_skip ?_
      refine E_nx ?_
      refine E_jp h (fun s_3 => [(0, (.str s_00)), (1, (.int .u8 s_1.1)), (5, (.ref 0 1 0 (List.length s_3.2) none)), (6, (.int .i64 s_3.1)), (7, (.int .i64 s_1.2.2.1))]) (fun s_3 => [.arr 1 (flat avS s_3.2)]) (fun k_2 h => ?_) (fun s_3 h => ?_)
      · refine E_block ?_
        refine E_jp h (fun s_5 => [(0, (.str s_00)), (1, (.int .u8 s_1.1)), (5, (.ref 0 1 0 (List.length s_1.2.2.2) none)), (6, (.int .i64 s_1.2.1)), (7, (.int .i64 s_1.2.2.1)), (24, (.bool s_5))]) (fun s_5 => [.arr 1 (flat avS s_1.2.2.2)]) (fun k_4 h => ?_) (fun s_5 h => ?_)
        · refine E_reg ?_
          refine E_mv (v' := (.int .i64 s_1.2.2.1)) rfl ?_
          refine E_mv (v' := (.str s_00)) rfl ?_
          refine E_op0 (v' := (.int .i64 (ByteArray.size s_00 : Int))) rfl rfl ?_
          refine E_op0 (v' := (.bool (s_1.2.2.1 == (ByteArray.size s_00 : Int)))) rfl rfl ?_
          refine E_mv (v' := (.bool (s_1.2.2.1 == (ByteArray.size s_00 : Int)))) rfl ?_
          refine E_gsT (b := (s_1.2.2.1 == (ByteArray.size s_00 : Int))) rfl rfl rfl (fun hb => ?_) (fun hb => ?_)
          · rw [ite_f hb] at h
            refine E_mv (v' := (.str s_00)) rfl ?_
            refine E_gh rfl ?_
            refine E_mv (v' := (.int .i64 s_1.2.2.1)) rfl ?_
            refine E_gh rfl ?_
            obtain ⟨b_6, hb_6, h⟩ := bd_some h
            refine E_idxS rfl rfl hb_6 ?_
            refine E_gh rfl ?_
            refine E_mv (v' := (.int .u8 s_1.1)) rfl ?_
            refine E_gh rfl ?_
            refine E_op0 (v' := (.bool (b_6 == s_1.1))) rfl rfl ?_
            refine E_pf rfl rfl ?_
            refine E_nil ?_
            exact E_jx _ h (wk_rn [some (0, 0)] rfl (Nat.le_of_ble_eq_true rfl) ⟨(rn_ob rfl rfl (.refl (encS.blwf 0 _)) rfl), trivial⟩ ⟨(rn_b rfl), (rn_b rfl), (rn_refL encS rfl rfl rfl), (rn_b rfl), (rn_b rfl), (rn_b rfl), trivial⟩)
          · rw [ite_t hb] at h
            refine E_gm rfl ?_
            refine E_gm rfl ?_
            refine E_gm rfl ?_
            refine E_gm rfl ?_
            refine E_pt rfl rfl ?_
            refine E_nil ?_
            exact E_jx _ h (wk_rn [some (0, 0)] rfl (Nat.le_of_ble_eq_true rfl) ⟨(rn_ob rfl rfl (.refl (encS.blwf 0 _)) rfl), trivial⟩ ⟨(rn_b rfl), (rn_b rfl), (rn_refL encS rfl rfl rfl), (rn_b rfl), (rn_b rfl), (rn_b rfl), trivial⟩)
        · refine E_cs (t := s_5) rfl (fun hb => ?_) (fun hb => ?_)
          · rw [ite_t hb] at h
            refine E_sq ?_
            refine E_reg ?_
            refine E_mv (v' := (.ref 0 1 0 (List.length s_1.2.2.2) none)) rfl ?_
            refine E_mv (v' := (.str s_00)) rfl ?_
            refine E_mv (v' := (.int .i64 s_1.2.1)) rfl ?_
            refine E_mv (v' := (.int .i64 s_1.2.2.1)) rfl ?_
            obtain ⟨s_7, hs_7, h⟩ := bd_some h
            refine E_sls rfl (fun h0 => loN_int h0) (fun h0 => hiN_int h0) hs_7 ?_
            refine E_opw (v' := (.sl true 1 (List.map avS [s_7]))) rfl (.refl _) rfl ?_
            obtain ⟨l_8, hl_8, h⟩ := bd_some h
            refine E_apL (S' := [.arr 2 (flat avS l_8)]) encS rfl (src_sl [s_7]) rfl hl_8 rfl ?_
            refine E_mv (v' := (.ref 0 2 0 (List.length l_8) none)) rfl ?_
            refine E_nil ?_
            refine E_nx ?_
            refine E_reg ?_
            refine E_mv (v' := (.int .i64 s_1.2.2.1)) rfl ?_
            refine E_op0 (v' := (.int .i64 (I64 (s_1.2.2.1 + 1)))) rfl rfl ?_
            refine E_mv (v' := (.int .i64 (I64 (s_1.2.2.1 + 1)))) rfl ?_
            refine E_nil ?_
            refine E_bln ?_
            exact E_jx _ h (wk_rn [some (0, 0)] rfl (Nat.le_of_ble_eq_true rfl) ⟨(rn_ob rfl rfl (.refl (encS.blwf 0 _)) rfl), trivial⟩ ⟨(rn_b rfl), (rn_b rfl), (rn_refL encS rfl rfl rfl), (rn_b rfl), (rn_b rfl), trivial⟩)
          · rw [ite_f hb] at h
            refine E_skip ?_
            refine E_bln ?_
            exact E_jx _ h (wk_rn [some (0, 0)] rfl (Nat.le_of_ble_eq_true rfl) ⟨(rn_ob rfl rfl (.refl (encS.blwf 0 _)) rfl), trivial⟩ ⟨(rn_b rfl), (rn_b rfl), (rn_refL encS rfl rfl rfl), (rn_b rfl), (rn_b rfl), trivial⟩)
      · refine E_reg ?_
        refine E_mv (v' := (.int .i64 s_1.2.2.1)) rfl ?_
        refine E_op0 (v' := (.int .i64 (I64 (s_1.2.2.1 + 1)))) rfl rfl ?_
        refine E_mv (v' := (.int .i64 (I64 (s_1.2.2.1 + 1)))) rfl ?_
        refine E_nil ?_
        cases h
        exact L_nn rfl (wk_rn [some (0, 0)] rfl (Nat.le_of_ble_eq_true rfl) ⟨(rn_ob rfl rfl (.refl (encS.blwf 0 _)) rfl), trivial⟩ ⟨(rn_b rfl), (rn_b rfl), (rn_refL encS rfl rfl rfl), (rn_b rfl), (rn_b rfl), trivial⟩)
    · rw [ite_f hb] at h
      refine E_exit ?_
      refine E_the ?_
      cases h
      exact L_bk rfl rfl rfl (wk_rn [some (0, 0)] rfl (Nat.le_of_ble_eq_true rfl) ⟨(rn_ob rfl rfl (.refl (encS.blwf 0 _)) rfl), trivial⟩ ⟨(rn_b rfl), (rn_b rfl), (rn_refL encS rfl rfl rfl), (rn_b rfl), (rn_b rfl), trivial⟩)
  · refine X_nx hw ?_
    refine E_sq ?_
    refine E_reg ?_
    refine E_mv (v' := (.ref 0 1 0 (List.length s_1.2.2.2) none)) rfl ?_
    refine E_mv (v' := (.ref 0 1 0 (List.length s_1.2.2.2) none)) rfl ?_
    refine E_nil ?_
    refine E_nx ?_
    refine E_ret ?_
    cases h
    exact ⟨trivial, _, rfl, (fz_ref encS (Nat.zero_le _) rfl)⟩
/- windlass/windlassref04.Words -/
def fc57 : FC := (.seq (.reg [⟨(some 2), none, .op (.mv (.v .nils))⟩] [])
  (.seq (.reg [⟨(some 3), none, .op (.mv (.v .nils))⟩] [])
  (.seq (.seq (.reg [⟨(some 6), none, .op (.mv (.t 0))⟩,
  ⟨(some 7), none, .call 49 [(.t 6), (.v (.int .u8 32))]⟩,
  ⟨(some 8), none, .op (.len .sl (.t 7))⟩,
  ⟨(some 9), none, .op (.mv (.v (.int .i64 0)))⟩] [])
  (.block 0 (.loop (.seq (.reg [⟨(some 10), none, .op (.bin .none .lss (.t 9) (.t 8))⟩] [])
  (.seq (.cond (.t 10)
  .skip
  (.exit 0))
  (.seq (.block 1 (.seq (.reg [⟨(some 11), none, .op (.iad none none (.t 7) (.t 9))⟩,
  ⟨(some 12), none, .op (.load none (.t 11))⟩,
  ⟨(some 5), none, .op (.mv (.t 12))⟩] [])
  (.seq (.reg [⟨(some 13), none, .op (.mv (.t 5))⟩,
  ⟨(some 14), none, .op (.bin .none .neq (.t 13) (.v (.str (ByteArray.mk #[]))))⟩] [])
  (.cond (.t 14)
  (.reg [⟨(some 15), none, .op (.mv (.t 3))⟩,
  ⟨(some 16), none, .op (.mv (.t 5))⟩,
  ⟨(some 17), none, .op (.bsl none [(.str (ByteArray.mk #[]))] 1 [(0, 1, (.t 16))])⟩,
  ⟨(some 18), none, .op (.app none 16 (.t 15) (.t 17))⟩,
  ⟨(some 3), none, .op (.mv (.t 18))⟩] [])
  .skip))))
  (.reg [⟨(some 19), none, .op (.bin .none .add (.t 9) (.v (.int .i64 1)))⟩,
  ⟨(some 9), none, .op (.mv (.t 19))⟩] [])))))))
  (.seq (.reg [⟨(some 20), none, .op (.mv (.t 3))⟩,
  ⟨(some 2), none, .op (.mv (.t 20))⟩] [])
  .ret))))
theorem fn57 : Fn3 Tryd.prog 57 21 [(2, none)] fc57 := ⟨_, _, Tryd.func57, rfl, rfl, rfl, by kernel_rfl⟩
def windlassref04_Words_s (fuel : Nat) (s_00 : ByteArray) : Option (List ByteArray) :=
  ((windlassref02_Split_s fuel s_00 32).bind fun spl_1 => ((rng (fun (i_3 : Nat) (w_4 : ByteArray) (s_2 : (List ByteArray)) => ((if (!(ByteArray.toList w_4 == ByteArray.toList (ByteArray.mk #[]))) then ((appL 16 s_2 [w_4]).bind fun l_6 => (some (.nxt l_6))) else (some (.nxt s_2))) : Option (Stp (List ByteArray) (Option (List ByteArray))))) spl_1 []).bind (oc (fun (s_2 : (List ByteArray)) => (some s_2)))))
theorem windlassref04_Words_ev {fuel : Nat} {s_00 : ByteArray} {r : (List ByteArray)} (h : windlassref04_Words_s fuel s_00 = some r) : PureEv Tryd.prog 57 [(.str s_00)] (.sl false 1 (List.map avS r)) := by
  unfold windlassref04_Words_s at h
  refine PureEv_end mixed fn57 (by simp) [18] 6 ?_
  unfold fc57
  refine E_sq ?_
  refine E_reg ?_
  refine E_mv (v' := .nils) rfl ?_
  refine E_nil ?_
  refine E_nx ?_
  refine E_sq ?_
  refine E_reg ?_
  refine E_mv (v' := .nils) rfl ?_
  refine E_nil ?_
  refine E_nx ?_
  refine E_as ?_
  refine E_sq ?_
  refine E_reg ?_
  refine E_mv (v' := (.str s_00)) rfl ?_
  obtain ⟨spl_1, hspl_1, h⟩ := bd_some h
  refine E_callW (windlassref02_Split_ev (fuel := fuel)  hspl_1) rfl ⟨(.refl _), (.refl _), trivial⟩ (blwL_of ⟨rfl, rfl, trivial⟩) (encS.blws 0) ?_
  refine E_len rfl ?_
  refine E_mv (v' := (.int .i64 0)) rfl ?_
  refine E_nil ?_
  refine E_nx ?_
  refine E_sq ?_
  refine E_rngO (fun s_2 => [(3, (.ref 0 1 0 (List.length s_2) none)), (7, (.sl false 1 (List.map avS spl_1)))]) (fun s_2 => [.arr 1 (flat avS s_2)]) h (by decide) (by decide) (fun _ => ⟨rfl, rfl, rfl, rfl⟩) (wk_rn [none] rfl (Nat.le_of_ble_eq_true rfl) ⟨(rn_obN rfl rfl rfl), trivial⟩ ⟨(rn_b rfl), (rn_b rfl), (rn_nil rfl), (rn_b (encS.blws 0)), trivial⟩) (fun i_3 w_4 s_2 c hx_5 hlt h => ?_) (fun s_2 fr' S' h hw => ?_)
  · refine E_sq ?_
    refine E_reg ?_
    refine E_iadF rfl rfl (getI_of hx_5) ?_
    refine E_op0 (v' := (.str w_4)) rfl rfl ?_
    refine E_mv (v' := (.str w_4)) rfl ?_
    refine E_nil ?_
    refine E_nx ?_
    refine E_sq ?_
    refine E_reg ?_
    refine E_mv (v' := (.str w_4)) rfl ?_
    refine E_op0 (v' := (.bool (!(ByteArray.toList w_4 == ByteArray.toList (ByteArray.mk #[]))))) rfl rfl ?_
    refine E_nil ?_
    refine E_nx ?_
    refine E_cs (t := (!(ByteArray.toList w_4 == ByteArray.toList (ByteArray.mk #[])))) rfl (fun hb => ?_) (fun hb => ?_)
    · rw [ite_t hb] at h
      refine E_reg ?_
      refine E_mv (v' := (.ref 0 1 0 (List.length s_2) none)) rfl ?_
      refine E_mv (v' := (.str w_4)) rfl ?_
      refine E_opw (v' := (.sl true 1 (List.map avS [w_4]))) rfl (.refl _) rfl ?_
      obtain ⟨l_6, hl_6, h⟩ := bd_some h
      refine E_apL (S' := [.arr 2 (flat avS l_6)]) encS rfl (src_sl [w_4]) rfl hl_6 rfl ?_
      refine E_mv (v' := (.ref 0 2 0 (List.length l_6) none)) rfl ?_
      refine E_nil ?_
      cases h
      exact L_nn rfl (wk_rn [some (0, 0)] rfl (Nat.le_of_ble_eq_true rfl) ⟨(rn_ob rfl rfl (.refl (encS.blwf 0 _)) rfl), trivial⟩ ⟨(rn_b rfl), (rn_b rfl), (rn_refL encS rfl rfl rfl), (rn_b (encS.blws 0)), trivial⟩)
    · rw [ite_f hb] at h
      refine E_skip ?_
      cases h
      exact L_nn rfl (wk_rn [some (0, 0)] rfl (Nat.le_of_ble_eq_true rfl) ⟨(rn_ob rfl rfl (.refl (encS.blwf 0 _)) rfl), trivial⟩ ⟨(rn_b rfl), (rn_b rfl), (rn_refL encS rfl rfl rfl), (rn_b (encS.blws 0)), trivial⟩)
  · refine X_nx hw ?_
    refine E_sq ?_
    refine E_reg ?_
    refine E_mv (v' := (.ref 0 1 0 (List.length s_2) none)) rfl ?_
    refine E_mv (v' := (.ref 0 1 0 (List.length s_2) none)) rfl ?_
    refine E_nil ?_
    refine E_nx ?_
    refine E_ret ?_
    cases h
    exact ⟨trivial, _, rfl, (fz_ref encS (Nat.zero_le _) rfl)⟩
/- windlass/windlassref02.value -/
def fc51 : FC := (.seq (.reg [⟨(some 2), none, .op (.mv (.v (.int .u64 0)))⟩,
  ⟨(some 3), none, .op (.mv (.v (.bool false)))⟩] [])
  (.seq (.seq (.reg [⟨(some 7), none, .op (.mv (.t 0))⟩,
  ⟨(some 8), none, .op (.len .str (.t 7))⟩,
  ⟨(some 9), none, .op (.bin .none .eql (.t 8) (.v (.int .i64 0)))⟩,
  ⟨(some 10), none, .op (.mv (.t 9))⟩,
  ⟨(some 11), some (10, false), .op (.mv (.t 0))⟩,
  ⟨(some 12), some (10, false), .op (.len .str (.t 11))⟩,
  ⟨(some 13), some (10, false), .op (.bin .none .gtr (.t 12) (.v (.int .i64 1)))⟩,
  ⟨(some 14), some (10, false), .op (.mv (.t 13))⟩,
  ⟨(some 15), some (14, true), .op (.mv (.t 0))⟩,
  ⟨(some 16), some (14, true), .op (.idxs (.t 15) (.v (.int .i64 0)))⟩,
  ⟨(some 17), some (14, true), .op (.bin .none .eql (.t 16) (.v (.int .u8 48)))⟩,
  ⟨(some 18), some (10, false), .op (.pick (.t 14) (.t 17) (.v (.bool false)))⟩,
  ⟨(some 19), none, .op (.pick (.t 10) (.v (.bool true)) (.t 18))⟩] [])
  (.cond (.t 19)
  (.seq (.reg [⟨(some 2), none, .op (.mv (.v (.int .u64 0)))⟩,
  ⟨(some 3), none, .op (.mv (.v (.bool false)))⟩] [])
  .ret)
  .skip))
  (.seq (.reg [⟨(some 4), none, .op (.mv (.v (.int .u64 0)))⟩] [])
  (.seq (.seq (.reg [⟨(some 5), none, .op (.mv (.v (.int .i64 0)))⟩] [])
  (.block 0 (.loop (.seq (.seq (.reg [⟨(some 20), none, .op (.mv (.t 5))⟩,
  ⟨(some 21), none, .op (.mv (.t 0))⟩,
  ⟨(some 22), none, .op (.len .str (.t 21))⟩,
  ⟨(some 23), none, .op (.bin .none .lss (.t 20) (.t 22))⟩] [])
  (.cond (.t 23)
  .skip
  (.exit 0)))
  (.seq (.block 1 (.seq (.seq (.reg [⟨(some 26), none, .op (.mv (.t 0))⟩,
  ⟨(some 27), none, .op (.mv (.t 5))⟩,
  ⟨(some 28), none, .op (.idxs (.t 26) (.t 27))⟩,
  ⟨(some 29), none, .op (.bin .none .lss (.t 28) (.v (.int .u8 48)))⟩,
  ⟨(some 30), none, .op (.mv (.t 29))⟩,
  ⟨(some 31), some (30, false), .op (.mv (.t 0))⟩,
  ⟨(some 32), some (30, false), .op (.mv (.t 5))⟩,
  ⟨(some 33), some (30, false), .op (.idxs (.t 31) (.t 32))⟩,
  ⟨(some 34), some (30, false), .op (.bin .none .gtr (.t 33) (.v (.int .u8 57)))⟩,
  ⟨(some 35), none, .op (.pick (.t 30) (.v (.bool true)) (.t 34))⟩] [])
  (.cond (.t 35)
  (.seq (.reg [⟨(some 2), none, .op (.mv (.v (.int .u64 0)))⟩,
  ⟨(some 3), none, .op (.mv (.v (.bool false)))⟩] [])
  .ret)
  .skip))
  (.seq (.reg [⟨(some 36), none, .op (.mv (.t 0))⟩,
  ⟨(some 37), none, .op (.mv (.t 5))⟩,
  ⟨(some 38), none, .op (.idxs (.t 36) (.t 37))⟩,
  ⟨(some 39), none, .op (.bin .none .sub (.t 38) (.v (.int .u8 48)))⟩,
  ⟨(some 40), none, .op (.cint .u64 (.t 39))⟩,
  ⟨(some 6), none, .op (.mv (.t 40))⟩] [])
  (.seq (.seq (.reg [⟨(some 41), none, .op (.mv (.t 4))⟩,
  ⟨(some 42), none, .op (.bin .none .gtr (.t 41) (.v (.int .u64 1844674407370955161)))⟩,
  ⟨(some 43), none, .op (.mv (.t 42))⟩,
  ⟨(some 44), some (43, false), .op (.mv (.t 4))⟩,
  ⟨(some 45), some (43, false), .op (.bin .none .eql (.t 44) (.v (.int .u64 1844674407370955161)))⟩,
  ⟨(some 46), some (43, false), .op (.mv (.t 45))⟩,
  ⟨(some 47), some (46, true), .op (.mv (.t 6))⟩,
  ⟨(some 48), some (46, true), .op (.bin .none .gtr (.t 47) (.v (.int .u64 5)))⟩,
  ⟨(some 49), some (43, false), .op (.pick (.t 46) (.t 48) (.v (.bool false)))⟩,
  ⟨(some 50), none, .op (.pick (.t 43) (.v (.bool true)) (.t 49))⟩] [])
  (.cond (.t 50)
  (.seq (.reg [⟨(some 2), none, .op (.mv (.v (.int .u64 0)))⟩,
  ⟨(some 3), none, .op (.mv (.v (.bool false)))⟩] [])
  .ret)
  .skip))
  (.reg [⟨(some 51), none, .op (.mv (.t 4))⟩,
  ⟨(some 52), none, .op (.bin .none .mul (.v (.int .u64 10)) (.t 51))⟩,
  ⟨(some 53), none, .op (.mv (.t 6))⟩,
  ⟨(some 54), none, .op (.bin .none .add (.t 52) (.t 53))⟩,
  ⟨(some 4), none, .op (.mv (.t 54))⟩] [])))))
  (.reg [⟨(some 24), none, .op (.mv (.t 5))⟩,
  ⟨(some 25), none, .op (.bin .none .add (.t 24) (.v (.int .i64 1)))⟩,
  ⟨(some 5), none, .op (.mv (.t 25))⟩] []))))))
  (.seq (.reg [⟨(some 55), none, .op (.mv (.t 4))⟩,
  ⟨(some 2), none, .op (.mv (.t 55))⟩,
  ⟨(some 3), none, .op (.mv (.v (.bool true)))⟩] [])
  .ret)))))
theorem fn51 : Fn3 Tryd.prog 51 56 [(2, none), (3, none)] fc51 := ⟨_, _, Tryd.func51, rfl, rfl, rfl, by kernel_rfl⟩
def windlassref02_value_s (fuel : Nat) (s_00 : ByteArray) : Option (Int × Bool) :=
  (jp (fun (s_2 : Bool) => (if s_2 then (some (0, false)) else ((whileN (fun (s_4 : (Int × Int)) => ((if (decide (s_4.2 < (ByteArray.size s_00 : Int))) then (jp (fun (s_6 : Bool) => (if s_6 then (some (.ret (some (0, false)))) else ((strI s_00 s_4.2).bind fun b_9 => (jp (fun (s_11 : Bool) => (if s_11 then (some (.ret (some (0, false)))) else (some (.nxt ((U64 ((U64 (10 * s_4.1)) + (U64 (U8 (b_9 - 48))))), (I64 (s_4.2 + 1))))))) (fun k_10 => (if (decide (s_4.1 > 1844674407370955161)) then (k_10 true) else (if (s_4.1 == 1844674407370955161) then (k_10 (decide ((U64 (U8 (b_9 - 48))) > 5))) else (k_10 false)))))))) (fun k_5 => ((strI s_00 s_4.2).bind fun b_7 => (if (decide (b_7 < 48)) then (k_5 true) else ((strI s_00 s_4.2).bind fun b_8 => (k_5 (decide (b_8 > 57)))))))) else (some (.brk (s_4.1, s_4.2)))) : Option (Stp (Int × Int) (Option (Int × Bool))))) fuel (0, 0)).bind (oc (fun (s_4 : (Int × Int)) => (some (s_4.1, true))))))) (fun k_1 => (if ((ByteArray.size s_00 : Int) == 0) then (k_1 true) else (if (decide ((ByteArray.size s_00 : Int) > 1)) then ((strI s_00 0).bind fun b_3 => (k_1 (b_3 == 48))) else (k_1 false)))))
theorem windlassref02_value_ev {fuel : Nat} {s_00 : ByteArray} {r : (Int × Bool)} (h : windlassref02_value_s fuel s_00 = some r) : PureEv Tryd.prog 51 [(.str s_00)] (.tup [(.int .u64 r.1), (.bool r.2)]) := by
  unfold windlassref02_value_s at h
  refine PureEv_end mixed fn51 (by simp) [] 6 ?_
  unfold fc51
  refine E_sq ?_
  refine E_reg ?_
  refine E_mv (v' := (.int .u64 0)) rfl ?_
  refine E_mv (v' := (.bool false)) rfl ?_
  refine E_nil ?_
  refine E_nx ?_
  refine E_as ?_
  refine E_jp h (fun s_2 => [(0, (.str s_00)), (19, (.bool s_2))]) (fun s_2 => []) (fun k_1 h => ?_) (fun s_2 h => ?_)
  · refine E_reg ?_
    refine E_mv (v' := (.str s_00)) rfl ?_
    refine E_op0 (v' := (.int .i64 (ByteArray.size s_00 : Int))) rfl rfl ?_
    refine E_op0 (v' := (.bool ((ByteArray.size s_00 : Int) == 0))) rfl rfl ?_
    refine E_mv (v' := (.bool ((ByteArray.size s_00 : Int) == 0))) rfl ?_
    refine E_gsT (b := ((ByteArray.size s_00 : Int) == 0)) rfl rfl rfl (fun hb => ?_) (fun hb => ?_)
    · rw [ite_f hb] at h
      refine E_mv (v' := (.str s_00)) rfl ?_
      refine E_gh rfl ?_
      refine E_op0 (v' := (.int .i64 (ByteArray.size s_00 : Int))) rfl rfl ?_
      refine E_gh rfl ?_
      refine E_op0 (v' := (.bool (decide ((ByteArray.size s_00 : Int) > 1)))) rfl rfl ?_
      refine E_gh rfl ?_
      refine E_mv (v' := (.bool (decide ((ByteArray.size s_00 : Int) > 1)))) rfl ?_
      refine E_gsT (b := (decide ((ByteArray.size s_00 : Int) > 1))) rfl rfl rfl (fun hb => ?_) (fun hb => ?_)
      · rw [ite_t hb] at h
        refine E_mv (v' := (.str s_00)) rfl ?_
        refine E_gh rfl ?_
        obtain ⟨b_3, hb_3, h⟩ := bd_some h
        refine E_idxS rfl rfl hb_3 ?_
        refine E_gh rfl ?_
        refine E_op0 (v' := (.bool (b_3 == 48))) rfl rfl ?_
        refine E_gh rfl ?_
        refine E_pt rfl rfl ?_
        refine E_pf rfl rfl ?_
        refine E_nil ?_
        exact E_jx _ h (wk_aw ⟨(.refl _), (.refl _), trivial⟩)
      · rw [ite_f hb] at h
        refine E_gm rfl ?_
        refine E_gm rfl ?_
        refine E_gh rfl ?_
        refine E_pf rfl rfl ?_
        refine E_pf rfl rfl ?_
        refine E_nil ?_
        exact E_jx _ h (wk_aw ⟨(.refl _), (.refl _), trivial⟩)
    · rw [ite_t hb] at h
      refine E_gm rfl ?_
      refine E_gm rfl ?_
      refine E_gm rfl ?_
      refine E_gz rfl ?_
      refine E_gz rfl ?_
      refine E_gz rfl ?_
      refine E_gm rfl ?_
      refine E_pt rfl rfl ?_
      refine E_nil ?_
      exact E_jx _ h (wk_aw ⟨(.refl _), (.refl _), trivial⟩)
  · refine E_sq ?_
    refine E_cs (t := s_2) rfl (fun hb => ?_) (fun hb => ?_)
    · rw [ite_t hb] at h
      refine E_sq ?_
      refine E_reg ?_
      refine E_mv (v' := (.int .u64 0)) rfl ?_
      refine E_mv (v' := (.bool false)) rfl ?_
      refine E_nil ?_
      refine E_nx ?_
      refine E_ret ?_
      refine E_thr ?_
      cases h
      exact ⟨trivial, _, rfl, (fz_tup ⟨(fz_b rfl (.refl _)), (fz_b rfl (.refl _)), trivial⟩)⟩
    · rw [ite_f hb] at h
      refine E_skip ?_
      refine E_nx ?_
      refine E_sq ?_
      refine E_reg ?_
      refine E_mv (v' := (.int .u64 0)) rfl ?_
      refine E_nil ?_
      refine E_nx ?_
      refine E_as ?_
      refine E_sq ?_
      refine E_reg ?_
      refine E_mv (v' := (.int .i64 0)) rfl ?_
      refine E_nil ?_
      refine E_nx ?_
      refine E_sq ?_
      refine E_whileO (fun s_4 => [(0, (.str s_00)), (4, (.int .u64 s_4.1)), (5, (.int .i64 s_4.2))]) (fun s_4 => []) h (wk_aw ⟨(.refl _), (.refl _), (.refl _), trivial⟩) (fun s_4 c h => ?_) (fun s_4 fr' S' h hw => ?_)
      · refine E_as ?_
        refine E_sq ?_
        refine E_reg ?_
        refine E_mv (v' := (.int .i64 s_4.2)) rfl ?_
        refine E_mv (v' := (.str s_00)) rfl ?_
        refine E_op0 (v' := (.int .i64 (ByteArray.size s_00 : Int))) rfl rfl ?_
        refine E_op0 (v' := (.bool (decide (s_4.2 < (ByteArray.size s_00 : Int))))) rfl rfl ?_
        refine E_nil ?_
        refine E_nx ?_
        refine E_sq ?_
        refine E_cs (t := (decide (s_4.2 < (ByteArray.size s_00 : Int)))) rfl (fun hb => ?_) (fun hb => ?_)
        · rw [ite_t hb] at h
          refine E_skip ?_
          refine E_nx ?_
          refine E_sq ?_
          refine E_block ?_
          refine E_as ?_
          refine E_jp h (fun s_6 => [(0, (.str s_00)), (4, (.int .u64 s_4.1)), (5, (.int .i64 s_4.2)), (35, (.bool s_6))]) (fun s_6 => []) (fun k_5 h => ?_) (fun s_6 h => ?_)
          · refine E_reg ?_
            refine E_mv (v' := (.str s_00)) rfl ?_
            refine E_mv (v' := (.int .i64 s_4.2)) rfl ?_
            obtain ⟨b_7, hb_7, h⟩ := bd_some h
            refine E_idxS rfl rfl hb_7 ?_
            refine E_op0 (v' := (.bool (decide (b_7 < 48)))) rfl rfl ?_
            refine E_mv (v' := (.bool (decide (b_7 < 48)))) rfl ?_
            refine E_gsT (b := (decide (b_7 < 48))) rfl rfl rfl (fun hb => ?_) (fun hb => ?_)
            · rw [ite_f hb] at h
              refine E_mv (v' := (.str s_00)) rfl ?_
              refine E_gh rfl ?_
              refine E_mv (v' := (.int .i64 s_4.2)) rfl ?_
              refine E_gh rfl ?_
              obtain ⟨b_8, hb_8, h⟩ := bd_some h
              refine E_idxS rfl rfl hb_8 ?_
              refine E_gh rfl ?_
              refine E_op0 (v' := (.bool (decide (b_8 > 57)))) rfl rfl ?_
              refine E_pf rfl rfl ?_
              refine E_nil ?_
              exact E_jx _ h (wk_aw ⟨(.refl _), (.refl _), (.refl _), (.refl _), trivial⟩)
            · rw [ite_t hb] at h
              refine E_gm rfl ?_
              refine E_gm rfl ?_
              refine E_gm rfl ?_
              refine E_pt rfl rfl ?_
              refine E_nil ?_
              exact E_jx _ h (wk_aw ⟨(.refl _), (.refl _), (.refl _), (.refl _), trivial⟩)
          · refine E_sq ?_
            refine E_cs (t := s_6) rfl (fun hb => ?_) (fun hb => ?_)
            · rw [ite_t hb] at h
              refine E_sq ?_
              refine E_reg ?_
              refine E_mv (v' := (.int .u64 0)) rfl ?_
              refine E_mv (v' := (.bool false)) rfl ?_
              refine E_nil ?_
              refine E_nx ?_
              refine E_ret ?_
              refine E_thr ?_
              refine E_blr ?_
              refine E_thr ?_
              cases h
              refine L_rrO rfl (fun h => ?_)
              refine E_thr ?_
              cases h
              exact ⟨trivial, _, rfl, (fz_tup ⟨(fz_b rfl (.refl _)), (fz_b rfl (.refl _)), trivial⟩)⟩
            · rw [ite_f hb] at h
              refine E_skip ?_
              refine E_nx ?_
              refine E_sq ?_
              refine E_reg ?_
              refine E_mv (v' := (.str s_00)) rfl ?_
              refine E_mv (v' := (.int .i64 s_4.2)) rfl ?_
              obtain ⟨b_9, hb_9, h⟩ := bd_some h
              refine E_idxS rfl rfl hb_9 ?_
              refine E_op0 (v' := (.int .u8 (U8 (b_9 - 48)))) rfl rfl ?_
              refine E_op0 (v' := (.int .u64 (U64 (U8 (b_9 - 48))))) rfl rfl ?_
              refine E_mv (v' := (.int .u64 (U64 (U8 (b_9 - 48))))) rfl ?_
              refine E_nil ?_
              refine E_nx ?_
              refine E_as ?_
              refine E_jp h (fun s_11 => [(0, (.str s_00)), (4, (.int .u64 s_4.1)), (5, (.int .i64 s_4.2)), (6, (.int .u64 (U64 (U8 (b_9 - 48))))), (50, (.bool s_11))]) (fun s_11 => []) (fun k_10 h => ?_) (fun s_11 h => ?_)
              · refine E_reg ?_
                refine E_mv (v' := (.int .u64 s_4.1)) rfl ?_
                refine E_op0 (v' := (.bool (decide (s_4.1 > 1844674407370955161)))) rfl rfl ?_
                refine E_mv (v' := (.bool (decide (s_4.1 > 1844674407370955161)))) rfl ?_
                refine E_gsT (b := (decide (s_4.1 > 1844674407370955161))) rfl rfl rfl (fun hb => ?_) (fun hb => ?_)
                · rw [ite_f hb] at h
                  refine E_mv (v' := (.int .u64 s_4.1)) rfl ?_
                  refine E_gh rfl ?_
                  refine E_op0 (v' := (.bool (s_4.1 == 1844674407370955161))) rfl rfl ?_
                  refine E_gh rfl ?_
                  refine E_mv (v' := (.bool (s_4.1 == 1844674407370955161))) rfl ?_
                  refine E_gsT (b := (s_4.1 == 1844674407370955161)) rfl rfl rfl (fun hb => ?_) (fun hb => ?_)
                  · rw [ite_t hb] at h
                    refine E_mv (v' := (.int .u64 (U64 (U8 (b_9 - 48))))) rfl ?_
                    refine E_gh rfl ?_
                    refine E_op0 (v' := (.bool (decide ((U64 (U8 (b_9 - 48))) > 5)))) rfl rfl ?_
                    refine E_gh rfl ?_
                    refine E_pt rfl rfl ?_
                    refine E_pf rfl rfl ?_
                    refine E_nil ?_
                    exact E_jx _ h (wk_aw ⟨(.refl _), (.refl _), (.refl _), (.refl _), (.refl _), trivial⟩)
                  · rw [ite_f hb] at h
                    refine E_gm rfl ?_
                    refine E_gh rfl ?_
                    refine E_pf rfl rfl ?_
                    refine E_pf rfl rfl ?_
                    refine E_nil ?_
                    exact E_jx _ h (wk_aw ⟨(.refl _), (.refl _), (.refl _), (.refl _), (.refl _), trivial⟩)
                · rw [ite_t hb] at h
                  refine E_gm rfl ?_
                  refine E_gm rfl ?_
                  refine E_gz rfl ?_
                  refine E_gz rfl ?_
                  refine E_gm rfl ?_
                  refine E_pt rfl rfl ?_
                  refine E_nil ?_
                  exact E_jx _ h (wk_aw ⟨(.refl _), (.refl _), (.refl _), (.refl _), (.refl _), trivial⟩)
              · refine E_sq ?_
                refine E_cs (t := s_11) rfl (fun hb => ?_) (fun hb => ?_)
                · rw [ite_t hb] at h
                  refine E_sq ?_
                  refine E_reg ?_
                  refine E_mv (v' := (.int .u64 0)) rfl ?_
                  refine E_mv (v' := (.bool false)) rfl ?_
                  refine E_nil ?_
                  refine E_nx ?_
                  refine E_ret ?_
                  refine E_thr ?_
                  refine E_blr ?_
                  refine E_thr ?_
                  cases h
                  refine L_rrO rfl (fun h => ?_)
                  refine E_thr ?_
                  cases h
                  exact ⟨trivial, _, rfl, (fz_tup ⟨(fz_b rfl (.refl _)), (fz_b rfl (.refl _)), trivial⟩)⟩
                · rw [ite_f hb] at h
                  refine E_skip ?_
                  refine E_nx ?_
                  refine E_reg ?_
                  refine E_mv (v' := (.int .u64 s_4.1)) rfl ?_
                  refine E_op0 (v' := (.int .u64 (U64 (10 * s_4.1)))) rfl rfl ?_
                  refine E_mv (v' := (.int .u64 (U64 (U8 (b_9 - 48))))) rfl ?_
                  refine E_op0 (v' := (.int .u64 (U64 ((U64 (10 * s_4.1)) + (U64 (U8 (b_9 - 48))))))) rfl rfl ?_
                  refine E_mv (v' := (.int .u64 (U64 ((U64 (10 * s_4.1)) + (U64 (U8 (b_9 - 48))))))) rfl ?_
                  refine E_nil ?_
                  refine E_bln ?_
                  refine E_nx ?_
                  refine E_reg ?_
                  refine E_mv (v' := (.int .i64 s_4.2)) rfl ?_
                  refine E_op0 (v' := (.int .i64 (I64 (s_4.2 + 1)))) rfl rfl ?_
                  refine E_mv (v' := (.int .i64 (I64 (s_4.2 + 1)))) rfl ?_
                  refine E_nil ?_
                  cases h
                  exact L_nn rfl (wk_aw ⟨(.refl _), (.refl _), (.refl _), trivial⟩)
        · rw [ite_f hb] at h
          refine E_exit ?_
          refine E_the ?_
          cases h
          exact L_bk rfl rfl rfl (wk_aw ⟨(.refl _), (.refl _), (.refl _), trivial⟩)
      · refine X_nx hw ?_
        refine E_sq ?_
        refine E_reg ?_
        refine E_mv (v' := (.int .u64 s_4.1)) rfl ?_
        refine E_mv (v' := (.int .u64 s_4.1)) rfl ?_
        refine E_mv (v' := (.bool true)) rfl ?_
        refine E_nil ?_
        refine E_nx ?_
        refine E_ret ?_
        cases h
        exact ⟨trivial, _, rfl, (fz_tup ⟨(fz_b rfl (.refl _)), (fz_b rfl (.refl _)), trivial⟩)⟩
/- windlass/windlassref02.Value -/
def fc98 : FC := (.seq (.reg [⟨(some 2), none, .op (.mv (.v (.int .u64 0)))⟩,
  ⟨(some 3), none, .op (.mv (.v (.bool false)))⟩] [])
  (.seq (.reg [⟨(some 4), none, .op (.mv (.t 0))⟩,
  ⟨(some 5), none, .call 51 [(.t 4)]⟩,
  ⟨(some 6), none, .op (.ext 0 (.t 5))⟩,
  ⟨(some 7), none, .op (.ext 1 (.t 5))⟩,
  ⟨(some 2), none, .op (.mv (.t 6))⟩,
  ⟨(some 3), none, .op (.mv (.t 7))⟩] [])
  .ret))
theorem fn98 : Fn3 Tryd.prog 98 8 [(2, none), (3, none)] fc98 := ⟨_, _, Tryd.func98, rfl, rfl, rfl, by kernel_rfl⟩
def windlassref02_Value_s (fuel : Nat) (s_00 : ByteArray) : Option (Int × Bool) :=
  ((windlassref02_value_s fuel s_00).bind fun val_1 => (some (val_1.1, val_1.2)))
theorem windlassref02_Value_ev {fuel : Nat} {s_00 : ByteArray} {r : (Int × Bool)} (h : windlassref02_Value_s fuel s_00 = some r) : PureEv Tryd.prog 98 [(.str s_00)] (.tup [(.int .u64 r.1), (.bool r.2)]) := by
  unfold windlassref02_Value_s at h
  refine PureEv_end mixed fn98 (by simp) [] 6 ?_
  unfold fc98
  refine E_sq ?_
  refine E_reg ?_
  refine E_mv (v' := (.int .u64 0)) rfl ?_
  refine E_mv (v' := (.bool false)) rfl ?_
  refine E_nil ?_
  refine E_nx ?_
  refine E_sq ?_
  refine E_reg ?_
  refine E_mv (v' := (.str s_00)) rfl ?_
  obtain ⟨val_1, hval_1, h⟩ := bd_some h
  refine E_callW (windlassref02_value_ev (fuel := fuel)  hval_1) rfl ⟨(.refl _), trivial⟩ (blwL_of ⟨rfl, trivial⟩) (tup_blw ⟨rfl, rfl, trivial⟩) ?_
  refine E_op0 (v' := (.int .u64 val_1.1)) rfl rfl ?_
  refine E_op0 (v' := (.bool val_1.2)) rfl rfl ?_
  refine E_mv (v' := (.int .u64 val_1.1)) rfl ?_
  refine E_mv (v' := (.bool val_1.2)) rfl ?_
  refine E_nil ?_
  refine E_nx ?_
  refine E_ret ?_
  cases h
  exact ⟨trivial, _, rfl, (fz_tup ⟨(fz_b rfl (.refl _)), (fz_b rfl (.refl _)), trivial⟩)⟩
/- windlass/windlassref02.Number -/
def fc46 : FC := (.seq (.reg [⟨(some 2), none, .op (.mv (.v (.str (ByteArray.mk #[]))))⟩] [])
  (.seq (.reg [⟨(some 3), none, .op (.mv (.v (.str (ByteArray.mk #[]))))⟩] [])
  (.block 0 (.loop (.block 1 (.seq (.reg [⟨(some 4), none, .op (.mv (.t 0))⟩,
  ⟨(some 5), none, .op (.bin .none .rem (.t 4) (.v (.int .u64 10)))⟩,
  ⟨(some 6), none, .op (.bin .none .add (.v (.int .u64 48)) (.t 5))⟩,
  ⟨(some 7), none, .op (.cint .u8 (.t 6))⟩,
  ⟨(some 8), none, .op (.bsl none [(.int .u8 0)] 1 [(0, 1, (.t 7))])⟩,
  ⟨(some 9), none, .op (.b2s (.t 8))⟩,
  ⟨(some 10), none, .op (.mv (.t 3))⟩,
  ⟨(some 11), none, .op (.bin .none .add (.t 9) (.t 10))⟩,
  ⟨(some 3), none, .op (.mv (.t 11))⟩] [])
  (.seq (.reg [⟨(some 12), none, .op (.mv (.t 0))⟩,
  ⟨(some 13), none, .op (.bin .none .quo (.t 12) (.v (.int .u64 10)))⟩,
  ⟨(some 0), none, .op (.mv (.t 13))⟩] [])
  (.seq (.reg [⟨(some 14), none, .op (.mv (.t 0))⟩,
  ⟨(some 15), none, .op (.bin .none .eql (.t 14) (.v (.int .u64 0)))⟩] [])
  (.cond (.t 15)
  (.seq (.reg [⟨(some 16), none, .op (.mv (.t 3))⟩,
  ⟨(some 2), none, .op (.mv (.t 16))⟩] [])
  .ret)
  .skip)))))))))
theorem fn46 : Fn3 Tryd.prog 46 17 [(2, none)] fc46 := ⟨_, _, Tryd.func46, rfl, rfl, rfl, by kernel_rfl⟩
def windlassref02_Number_s (fuel : Nat) (n_00 : Int) : Option ByteArray :=
  ((whileN (fun (s_1 : (Int × ByteArray)) => (((toStr ([(U8 (U64 (48 + (Int.tmod s_1.1 10))))])).bind fun s_2 => ((catS s_2 s_1.2).bind fun s_3 => (if ((U64 (Int.tdiv s_1.1 10)) == 0) then (some (.ret (some s_3))) else (some (.nxt ((U64 (Int.tdiv s_1.1 10)), s_3)))))) : Option (Stp (Int × ByteArray) (Option ByteArray)))) fuel (n_00, (ByteArray.mk #[]))).bind (oc (fun (s_1 : (Int × ByteArray)) => none)))
theorem windlassref02_Number_ev {fuel : Nat} {n_00 : Int} {r : ByteArray} (h : windlassref02_Number_s fuel n_00 = some r) : PureEv Tryd.prog 46 [(.int .u64 n_00)] (.str r) := by
  unfold windlassref02_Number_s at h
  refine PureEv_end mixed fn46 (by simp) [] 6 ?_
  unfold fc46
  refine E_sq ?_
  refine E_reg ?_
  refine E_mv (v' := (.str (ByteArray.mk #[]))) rfl ?_
  refine E_nil ?_
  refine E_nx ?_
  refine E_sq ?_
  refine E_reg ?_
  refine E_mv (v' := (.str (ByteArray.mk #[]))) rfl ?_
  refine E_nil ?_
  refine E_nx ?_
  refine E_whileO (fun s_1 => [(0, (.int .u64 s_1.1)), (3, (.str s_1.2))]) (fun s_1 => []) h (wk_aw ⟨(.refl _), (.refl _), trivial⟩) (fun s_1 c h => ?_) (fun s_1 fr' S' h hw => ?_)
  · refine E_block ?_
    refine E_sq ?_
    refine E_reg ?_
    refine E_mv (v' := (.int .u64 s_1.1)) rfl ?_
    refine E_op0 (v' := (.int .u64 (Int.tmod s_1.1 10))) rfl rfl ?_
    refine E_op0 (v' := (.int .u64 (U64 (48 + (Int.tmod s_1.1 10))))) rfl rfl ?_
    refine E_op0 (v' := (.int .u8 (U8 (U64 (48 + (Int.tmod s_1.1 10)))))) rfl rfl ?_
    refine E_opw (v' := (.sl true 1 (List.map (avI .u8) [(U8 (U64 (48 + (Int.tmod s_1.1 10))))]))) rfl (.refl _) rfl ?_
    obtain ⟨s_2, hs_2, h⟩ := bd_some h
    refine E_b2s rfl hs_2 ?_
    refine E_mv (v' := (.str s_1.2)) rfl ?_
    obtain ⟨s_3, hs_3, h⟩ := bd_some h
    refine E_cat rfl rfl hs_3 ?_
    refine E_mv (v' := (.str s_3)) rfl ?_
    refine E_nil ?_
    refine E_nx ?_
    refine E_sq ?_
    refine E_reg ?_
    refine E_mv (v' := (.int .u64 s_1.1)) rfl ?_
    refine E_op0 (v' := (.int .u64 (U64 (Int.tdiv s_1.1 10)))) rfl rfl ?_
    refine E_mv (v' := (.int .u64 (U64 (Int.tdiv s_1.1 10)))) rfl ?_
    refine E_nil ?_
    refine E_nx ?_
    refine E_sq ?_
    refine E_reg ?_
    refine E_mv (v' := (.int .u64 (U64 (Int.tdiv s_1.1 10)))) rfl ?_
    refine E_op0 (v' := (.bool ((U64 (Int.tdiv s_1.1 10)) == 0))) rfl rfl ?_
    refine E_nil ?_
    refine E_nx ?_
    refine E_cs (t := ((U64 (Int.tdiv s_1.1 10)) == 0)) rfl (fun hb => ?_) (fun hb => ?_)
    · rw [ite_t hb] at h
      refine E_sq ?_
      refine E_reg ?_
      refine E_mv (v' := (.str s_3)) rfl ?_
      refine E_mv (v' := (.str s_3)) rfl ?_
      refine E_nil ?_
      refine E_nx ?_
      refine E_ret ?_
      refine E_blr ?_
      cases h
      refine L_rrO rfl (fun h => ?_)
      cases h
      exact ⟨trivial, _, rfl, (fz_b rfl (.refl _))⟩
    · rw [ite_f hb] at h
      refine E_skip ?_
      refine E_bln ?_
      cases h
      exact L_nn rfl (wk_aw ⟨(.refl _), (.refl _), trivial⟩)
  · cases h
/- windlass/windlassref04.Head -/
def fc70 : FC := (.seq (.reg [⟨(some 1), none, .op (.box (.t 0))⟩,
  ⟨(some 2), none, .op (.mv (.v (.str (ByteArray.mk #[]))))⟩] [])
  (.seq (.reg [⟨(some 6), none, .op (.fad 0 (.t 1))⟩,
  ⟨(some 7), none, .op (.load none (.t 6))⟩,
  ⟨(some 8), none, .op (.cint .u64 (.t 7))⟩,
  ⟨(some 9), none, .call 46 [(.t 8)]⟩,
  ⟨(some 10), none, .op (.bin .none .add (.v (.str (ByteArray.mk #[102, 117, 110, 99, 32]))) (.t 9))⟩,
  ⟨(some 11), none, .op (.bin .none .add (.t 10) (.v (.str (ByteArray.mk #[32]))))⟩,
  ⟨(some 3), none, .op (.mv (.t 11))⟩] [])
  (.seq (.seq (.reg [⟨(some 12), none, .op (.fad 1 (.t 1))⟩,
  ⟨(some 13), none, .op (.load none (.t 12))⟩,
  ⟨(some 14), none, .op (.len .sl (.t 13))⟩,
  ⟨(some 15), none, .op (.mv (.v (.int .i64 0)))⟩] [])
  (.block 0 (.loop (.seq (.reg [⟨(some 16), none, .op (.bin .none .lss (.t 15) (.t 14))⟩] [])
  (.seq (.cond (.t 16)
  .skip
  (.exit 0))
  (.seq (.block 1 (.seq (.reg [⟨(some 17), none, .op (.iad none none (.t 13) (.t 15))⟩,
  ⟨(some 18), none, .op (.load none (.t 17))⟩,
  ⟨(some 5), none, .op (.mv (.t 18))⟩] [])
  (.seq (.reg [⟨(some 19), none, .op (.mv (.t 5))⟩,
  ⟨(some 20), none, .op (.bin .none .eql (.t 19) (.v (.int .u8 0)))⟩] [])
  (.cond (.t 20)
  (.reg [⟨(some 21), none, .op (.mv (.t 3))⟩,
  ⟨(some 22), none, .op (.bin .none .add (.t 21) (.v (.str (ByteArray.mk #[110]))))⟩,
  ⟨(some 3), none, .op (.mv (.t 22))⟩] [])
  (.reg [⟨(some 23), none, .op (.mv (.t 3))⟩,
  ⟨(some 24), none, .op (.bin .none .add (.t 23) (.v (.str (ByteArray.mk #[112]))))⟩,
  ⟨(some 3), none, .op (.mv (.t 24))⟩] [])))))
  (.reg [⟨(some 25), none, .op (.bin .none .add (.t 15) (.v (.int .i64 1)))⟩,
  ⟨(some 15), none, .op (.mv (.t 25))⟩] [])))))))
  (.seq (.seq (.reg [⟨(some 26), none, .op (.fad 1 (.t 1))⟩,
  ⟨(some 27), none, .op (.load none (.t 26))⟩,
  ⟨(some 28), none, .op (.len .sl (.t 27))⟩,
  ⟨(some 29), none, .op (.bin .none .eql (.t 28) (.v (.int .i64 0)))⟩] [])
  (.cond (.t 29)
  (.reg [⟨(some 30), none, .op (.mv (.t 3))⟩,
  ⟨(some 31), none, .op (.bin .none .add (.t 30) (.v (.str (ByteArray.mk #[45]))))⟩,
  ⟨(some 3), none, .op (.mv (.t 31))⟩] [])
  .skip))
  (.seq (.seq (.reg [⟨(some 32), none, .op (.fad 2 (.t 1))⟩,
  ⟨(some 33), none, .op (.load none (.t 32))⟩] [])
  (.cond (.t 33)
  (.reg [⟨(some 34), none, .op (.mv (.t 3))⟩,
  ⟨(some 35), none, .op (.bin .none .add (.t 34) (.v (.str (ByteArray.mk #[32, 49, 32]))))⟩,
  ⟨(some 3), none, .op (.mv (.t 35))⟩] [])
  (.reg [⟨(some 36), none, .op (.mv (.t 3))⟩,
  ⟨(some 37), none, .op (.bin .none .add (.t 36) (.v (.str (ByteArray.mk #[32, 48, 32]))))⟩,
  ⟨(some 3), none, .op (.mv (.t 37))⟩] [])))
  (.seq (.seq (.reg [⟨(some 38), none, .op (.fad 3 (.t 1))⟩,
  ⟨(some 39), none, .op (.load none (.t 38))⟩,
  ⟨(some 40), none, .op (.bin .none .lss (.t 39) (.v (.int .i64 0)))⟩] [])
  (.cond (.t 40)
  (.seq (.reg [⟨(some 41), none, .op (.mv (.t 3))⟩,
  ⟨(some 42), none, .op (.bin .none .add (.t 41) (.v (.str (ByteArray.mk #[45]))))⟩,
  ⟨(some 2), none, .op (.mv (.t 42))⟩] [])
  .ret)
  .skip))
  (.seq (.reg [⟨(some 43), none, .op (.mv (.t 3))⟩,
  ⟨(some 44), none, .op (.fad 3 (.t 1))⟩,
  ⟨(some 45), none, .op (.load none (.t 44))⟩,
  ⟨(some 46), none, .op (.cint .u64 (.t 45))⟩,
  ⟨(some 47), none, .call 46 [(.t 46)]⟩,
  ⟨(some 48), none, .op (.bin .none .add (.t 43) (.t 47))⟩,
  ⟨(some 2), none, .op (.mv (.t 48))⟩] [])
  .ret)))))))
theorem fn70 : Fn3 Tryd.prog 70 49 [(2, none)] fc70 := ⟨_, _, Tryd.func70, rfl, rfl, rfl, by kernel_rfl⟩
def windlassref04_Head_s (fuel : Nat) (f_00 : Func) : Option ByteArray :=
  ((windlassref02_Number_s fuel (U64 f_00.Params)).bind fun num_1 => ((catS (ByteArray.mk #[102, 117, 110, 99, 32]) num_1).bind fun s_2 => ((catS s_2 (ByteArray.mk #[32])).bind fun s_3 => ((rng (fun (i_5 : Nat) (k_6 : Int) (s_4 : ByteArray) => ((if (k_6 == 0) then ((catS s_4 (ByteArray.mk #[110])).bind fun s_8 => (some (.nxt s_8))) else ((catS s_4 (ByteArray.mk #[112])).bind fun s_9 => (some (.nxt s_9)))) : Option (Stp ByteArray (Option ByteArray)))) f_00.Locals s_3).bind (oc (fun (s_4 : ByteArray) => (jp (fun (s_11 : ByteArray) => (jp (fun (s_14 : ByteArray) => (if (decide (f_00.Keep < 0)) then ((catS s_14 (ByteArray.mk #[45])).bind fun s_17 => (some s_17)) else ((windlassref02_Number_s fuel (U64 f_00.Keep)).bind fun num_18 => ((catS s_14 num_18).bind fun s_19 => (some s_19))))) (fun k_13 => (if f_00.Result then ((catS s_11 (ByteArray.mk #[32, 49, 32])).bind fun s_15 => (k_13 s_15)) else ((catS s_11 (ByteArray.mk #[32, 48, 32])).bind fun s_16 => (k_13 s_16)))))) (fun k_10 => (if ((List.length f_00.Locals : Int) == 0) then ((catS s_4 (ByteArray.mk #[45])).bind fun s_12 => (k_10 s_12)) else (k_10 s_4))))))))))
theorem windlassref04_Head_ev {fuel : Nat} {f_00 : Func} {r : ByteArray} (h : windlassref04_Head_s fuel f_00 = some r) : PureEv Tryd.prog 70 [(Func.av f_00)] (.str r) := by
  unfold windlassref04_Head_s at h
  refine PureEv_end mixed fn70 (by simp) [] 6 ?_
  unfold fc70
  refine E_sq ?_
  refine E_reg ?_
  refine E_op0 (v' := (.cptr (Func.av f_00).cells 0)) rfl rfl ?_
  refine E_mv (v' := (.str (ByteArray.mk #[]))) rfl ?_
  refine E_nil ?_
  refine E_nx ?_
  refine E_sq ?_
  refine E_reg ?_
  refine E_op0 (v' := (.cptr (Func.av f_00).cells 0)) rfl rfl ?_
  refine E_op0 (v' := (.int .i64 f_00.Params)) rfl rfl ?_
  refine E_op0 (v' := (.int .u64 (U64 f_00.Params))) rfl rfl ?_
  obtain ⟨num_1, hnum_1, h⟩ := bd_some h
  refine E_callW (windlassref02_Number_ev (fuel := fuel)  hnum_1) rfl ⟨(.refl _), trivial⟩ (blwL_of ⟨rfl, trivial⟩) rfl ?_
  obtain ⟨s_2, hs_2, h⟩ := bd_some h
  refine E_cat rfl rfl hs_2 ?_
  obtain ⟨s_3, hs_3, h⟩ := bd_some h
  refine E_cat rfl rfl hs_3 ?_
  refine E_mv (v' := (.str s_3)) rfl ?_
  refine E_nil ?_
  refine E_nx ?_
  refine E_as ?_
  refine E_sq ?_
  refine E_reg ?_
  refine E_op0 (v' := (.cptr (Func.av f_00).cells 1)) rfl rfl ?_
  refine E_op0 (v' := (.sl false 1 (List.map (avI .u8) f_00.Locals))) rfl rfl ?_
  refine E_len rfl ?_
  refine E_mv (v' := (.int .i64 0)) rfl ?_
  refine E_nil ?_
  refine E_nx ?_
  refine E_sq ?_
  refine E_rngO (fun s_4 => [(1, (.cptr (Func.av f_00).cells 0)), (3, (.str s_4)), (13, (.sl false 1 (List.map (avI .u8) f_00.Locals)))]) (fun s_4 => []) h (by decide) (by decide) (fun _ => ⟨rfl, rfl, rfl, rfl⟩) (wk_aw ⟨(.refl _), (.refl _), (.refl _), (.refl _), (.refl _), trivial⟩) (fun i_5 k_6 s_4 c hx_7 hlt h => ?_) (fun s_4 fr' S' h hw => ?_)
  · refine E_sq ?_
    refine E_reg ?_
    refine E_iadF rfl rfl (getI_of hx_7) ?_
    refine E_op0 (v' := (.int .u8 k_6)) rfl rfl ?_
    refine E_mv (v' := (.int .u8 k_6)) rfl ?_
    refine E_nil ?_
    refine E_nx ?_
    refine E_sq ?_
    refine E_reg ?_
    refine E_mv (v' := (.int .u8 k_6)) rfl ?_
    refine E_op0 (v' := (.bool (k_6 == 0))) rfl rfl ?_
    refine E_nil ?_
    refine E_nx ?_
    refine E_cs (t := (k_6 == 0)) rfl (fun hb => ?_) (fun hb => ?_)
    · rw [ite_t hb] at h
      refine E_reg ?_
      refine E_mv (v' := (.str s_4)) rfl ?_
      obtain ⟨s_8, hs_8, h⟩ := bd_some h
      refine E_cat rfl rfl hs_8 ?_
      refine E_mv (v' := (.str s_8)) rfl ?_
      refine E_nil ?_
      cases h
      exact L_nn rfl (wk_aw ⟨(.refl _), (.refl _), (.refl _), (.refl _), (.refl _), trivial⟩)
    · rw [ite_f hb] at h
      refine E_reg ?_
      refine E_mv (v' := (.str s_4)) rfl ?_
      obtain ⟨s_9, hs_9, h⟩ := bd_some h
      refine E_cat rfl rfl hs_9 ?_
      refine E_mv (v' := (.str s_9)) rfl ?_
      refine E_nil ?_
      cases h
      exact L_nn rfl (wk_aw ⟨(.refl _), (.refl _), (.refl _), (.refl _), (.refl _), trivial⟩)
  · refine X_nx hw ?_
    refine E_as ?_
    refine E_sq ?_
    refine E_reg ?_
    refine E_op0 (v' := (.cptr (Func.av f_00).cells 1)) rfl rfl ?_
    refine E_op0 (v' := (.sl false 1 (List.map (avI .u8) f_00.Locals))) rfl rfl ?_
    refine E_len rfl ?_
    refine E_op0 (v' := (.bool ((List.length f_00.Locals : Int) == 0))) rfl rfl ?_
    refine E_nil ?_
    refine E_nx ?_
    refine E_jp h (fun s_11 => [(1, (.cptr (Func.av f_00).cells 0)), (3, (.str s_11))]) (fun s_11 => []) (fun k_10 h => ?_) (fun s_11 h => ?_)
    · refine E_cs (t := ((List.length f_00.Locals : Int) == 0)) rfl (fun hb => ?_) (fun hb => ?_)
      · rw [ite_t hb] at h
        refine E_reg ?_
        refine E_mv (v' := (.str s_4)) rfl ?_
        obtain ⟨s_12, hs_12, h⟩ := bd_some h
        refine E_cat rfl rfl hs_12 ?_
        refine E_mv (v' := (.str s_12)) rfl ?_
        refine E_nil ?_
        exact E_jx _ h (wk_aw ⟨(.refl _), (.refl _), trivial⟩)
      · rw [ite_f hb] at h
        refine E_skip ?_
        exact E_jx _ h (wk_aw ⟨(.refl _), (.refl _), trivial⟩)
    · refine E_as ?_
      refine E_sq ?_
      refine E_reg ?_
      refine E_op0 (v' := (.cptr (Func.av f_00).cells 2)) rfl rfl ?_
      refine E_op0 (v' := (.bool f_00.Result)) rfl rfl ?_
      refine E_nil ?_
      refine E_nx ?_
      refine E_jp h (fun s_14 => [(1, (.cptr (Func.av f_00).cells 0)), (3, (.str s_14))]) (fun s_14 => []) (fun k_13 h => ?_) (fun s_14 h => ?_)
      · refine E_cs (t := f_00.Result) rfl (fun hb => ?_) (fun hb => ?_)
        · rw [ite_t hb] at h
          refine E_reg ?_
          refine E_mv (v' := (.str s_11)) rfl ?_
          obtain ⟨s_15, hs_15, h⟩ := bd_some h
          refine E_cat rfl rfl hs_15 ?_
          refine E_mv (v' := (.str s_15)) rfl ?_
          refine E_nil ?_
          exact E_jx _ h (wk_aw ⟨(.refl _), (.refl _), trivial⟩)
        · rw [ite_f hb] at h
          refine E_reg ?_
          refine E_mv (v' := (.str s_11)) rfl ?_
          obtain ⟨s_16, hs_16, h⟩ := bd_some h
          refine E_cat rfl rfl hs_16 ?_
          refine E_mv (v' := (.str s_16)) rfl ?_
          refine E_nil ?_
          exact E_jx _ h (wk_aw ⟨(.refl _), (.refl _), trivial⟩)
      · refine E_as ?_
        refine E_sq ?_
        refine E_reg ?_
        refine E_op0 (v' := (.cptr (Func.av f_00).cells 3)) rfl rfl ?_
        refine E_op0 (v' := (.int .i64 f_00.Keep)) rfl rfl ?_
        refine E_op0 (v' := (.bool (decide (f_00.Keep < 0)))) rfl rfl ?_
        refine E_nil ?_
        refine E_nx ?_
        refine E_sq ?_
        refine E_cs (t := (decide (f_00.Keep < 0))) rfl (fun hb => ?_) (fun hb => ?_)
        · rw [ite_t hb] at h
          refine E_sq ?_
          refine E_reg ?_
          refine E_mv (v' := (.str s_14)) rfl ?_
          obtain ⟨s_17, hs_17, h⟩ := bd_some h
          refine E_cat rfl rfl hs_17 ?_
          refine E_mv (v' := (.str s_17)) rfl ?_
          refine E_nil ?_
          refine E_nx ?_
          refine E_ret ?_
          refine E_thr ?_
          cases h
          exact ⟨trivial, _, rfl, (fz_b rfl (.refl _))⟩
        · rw [ite_f hb] at h
          refine E_skip ?_
          refine E_nx ?_
          refine E_sq ?_
          refine E_reg ?_
          refine E_mv (v' := (.str s_14)) rfl ?_
          refine E_op0 (v' := (.cptr (Func.av f_00).cells 3)) rfl rfl ?_
          refine E_op0 (v' := (.int .i64 f_00.Keep)) rfl rfl ?_
          refine E_op0 (v' := (.int .u64 (U64 f_00.Keep))) rfl rfl ?_
          obtain ⟨num_18, hnum_18, h⟩ := bd_some h
          refine E_callW (windlassref02_Number_ev (fuel := fuel)  hnum_18) rfl ⟨(.refl _), trivial⟩ (blwL_of ⟨rfl, trivial⟩) rfl ?_
          obtain ⟨s_19, hs_19, h⟩ := bd_some h
          refine E_cat rfl rfl hs_19 ?_
          refine E_mv (v' := (.str s_19)) rfl ?_
          refine E_nil ?_
          refine E_nx ?_
          refine E_ret ?_
          cases h
          exact ⟨trivial, _, rfl, (fz_b rfl (.refl _))⟩
/- windlass/windlassref04.joined -/
def fc99 : FC := (.seq (.reg [⟨(some 2), none, .op (.mv (.v (.str (ByteArray.mk #[]))))⟩] [])
  (.seq (.reg [⟨(some 3), none, .op (.mv (.v (.str (ByteArray.mk #[]))))⟩] [])
  (.seq (.seq (.reg [⟨(some 6), none, .op (.mv (.t 0))⟩,
  ⟨(some 7), none, .op (.len .sl (.t 6))⟩,
  ⟨(some 8), none, .op (.mv (.v (.int .i64 0)))⟩] [])
  (.block 0 (.loop (.seq (.reg [⟨(some 9), none, .op (.bin .none .lss (.t 8) (.t 7))⟩] [])
  (.seq (.cond (.t 9)
  .skip
  (.exit 0))
  (.seq (.block 1 (.seq (.reg [⟨(some 10), none, .op (.mv (.t 8))⟩,
  ⟨(some 11), none, .op (.iad none none (.t 6) (.t 8))⟩,
  ⟨(some 12), none, .op (.load none (.t 11))⟩,
  ⟨(some 4), none, .op (.mv (.t 10))⟩,
  ⟨(some 5), none, .op (.mv (.t 12))⟩] [])
  (.seq (.seq (.reg [⟨(some 13), none, .op (.mv (.t 4))⟩,
  ⟨(some 14), none, .op (.bin .none .gtr (.t 13) (.v (.int .i64 0)))⟩] [])
  (.cond (.t 14)
  (.reg [⟨(some 15), none, .op (.mv (.t 3))⟩,
  ⟨(some 16), none, .op (.bin .none .add (.t 15) (.v (.str (ByteArray.mk #[32]))))⟩,
  ⟨(some 3), none, .op (.mv (.t 16))⟩] [])
  .skip))
  (.reg [⟨(some 17), none, .op (.mv (.t 3))⟩,
  ⟨(some 18), none, .op (.mv (.t 5))⟩,
  ⟨(some 19), none, .op (.bin .none .add (.t 17) (.t 18))⟩,
  ⟨(some 3), none, .op (.mv (.t 19))⟩] []))))
  (.reg [⟨(some 20), none, .op (.bin .none .add (.t 8) (.v (.int .i64 1)))⟩,
  ⟨(some 8), none, .op (.mv (.t 20))⟩] [])))))))
  (.seq (.reg [⟨(some 21), none, .op (.mv (.t 3))⟩,
  ⟨(some 2), none, .op (.mv (.t 21))⟩] [])
  .ret))))
theorem fn99 : Fn3 Tryd.prog 99 22 [(2, none)] fc99 := ⟨_, _, Tryd.func99, rfl, rfl, rfl, by kernel_rfl⟩
def windlassref04_joined_s (w_00 : (List ByteArray)) : Option ByteArray :=
  ((rng (fun (i_2 : Nat) (x_3 : ByteArray) (s_1 : ByteArray) => ((jp (fun (s_6 : ByteArray) => ((catS s_6 x_3).bind fun s_8 => (some (.nxt s_8)))) (fun k_5 => (if (decide ((i_2 : Int) > 0)) then ((catS s_1 (ByteArray.mk #[32])).bind fun s_7 => (k_5 s_7)) else (k_5 s_1)))) : Option (Stp ByteArray (Option ByteArray)))) w_00 (ByteArray.mk #[])).bind (oc (fun (s_1 : ByteArray) => (some s_1))))
theorem windlassref04_joined_ev {w_00 : (List ByteArray)} {r : ByteArray} (h : windlassref04_joined_s w_00 = some r) : PureEv Tryd.prog 99 [(.sl false 1 (List.map avS w_00))] (.str r) := by
  unfold windlassref04_joined_s at h
  refine PureEv_end mixed fn99 (by simp) [] 6 ?_
  unfold fc99
  refine E_sq ?_
  refine E_reg ?_
  refine E_mv (v' := (.str (ByteArray.mk #[]))) rfl ?_
  refine E_nil ?_
  refine E_nx ?_
  refine E_sq ?_
  refine E_reg ?_
  refine E_mv (v' := (.str (ByteArray.mk #[]))) rfl ?_
  refine E_nil ?_
  refine E_nx ?_
  refine E_as ?_
  refine E_sq ?_
  refine E_reg ?_
  refine E_mv (v' := (.sl false 1 (List.map avS w_00))) rfl ?_
  refine E_len rfl ?_
  refine E_mv (v' := (.int .i64 0)) rfl ?_
  refine E_nil ?_
  refine E_nx ?_
  refine E_sq ?_
  refine E_rngO (fun s_1 => [(3, (.str s_1)), (6, (.sl false 1 (List.map avS w_00)))]) (fun s_1 => []) h (by decide) (by decide) (fun _ => ⟨rfl, rfl, rfl, rfl⟩) (wk_aw ⟨(.refl _), (.refl _), (.refl _), (.refl _), trivial⟩) (fun i_2 x_3 s_1 c hx_4 hlt h => ?_) (fun s_1 fr' S' h hw => ?_)
  · refine E_sq ?_
    refine E_reg ?_
    refine E_mv (v' := (.int .i64 (i_2 : Int))) rfl ?_
    refine E_iadF rfl rfl (getI_of hx_4) ?_
    refine E_op0 (v' := (.str x_3)) rfl rfl ?_
    refine E_mv (v' := (.int .i64 (i_2 : Int))) rfl ?_
    refine E_mv (v' := (.str x_3)) rfl ?_
    refine E_nil ?_
    refine E_nx ?_
    refine E_as ?_
    refine E_sq ?_
    refine E_reg ?_
    refine E_mv (v' := (.int .i64 (i_2 : Int))) rfl ?_
    refine E_op0 (v' := (.bool (decide ((i_2 : Int) > 0)))) rfl rfl ?_
    refine E_nil ?_
    refine E_nx ?_
    refine E_jp h (fun s_6 => [(3, (.str s_6)), (5, (.str x_3)), (6, (.sl false 1 (List.map avS w_00))), (7, (.int .i64 (List.length w_00 : Int))), (8, (.int .i64 (i_2 : Int)))]) (fun s_6 => []) (fun k_5 h => ?_) (fun s_6 h => ?_)
    · refine E_cs (t := (decide ((i_2 : Int) > 0))) rfl (fun hb => ?_) (fun hb => ?_)
      · rw [ite_t hb] at h
        refine E_reg ?_
        refine E_mv (v' := (.str s_1)) rfl ?_
        obtain ⟨s_7, hs_7, h⟩ := bd_some h
        refine E_cat rfl rfl hs_7 ?_
        refine E_mv (v' := (.str s_7)) rfl ?_
        refine E_nil ?_
        exact E_jx _ h (wk_aw ⟨(.refl _), (.refl _), (.refl _), (.refl _), (.refl _), trivial⟩)
      · rw [ite_f hb] at h
        refine E_skip ?_
        exact E_jx _ h (wk_aw ⟨(.refl _), (.refl _), (.refl _), (.refl _), (.refl _), trivial⟩)
    · refine E_reg ?_
      refine E_mv (v' := (.str s_6)) rfl ?_
      refine E_mv (v' := (.str x_3)) rfl ?_
      obtain ⟨s_8, hs_8, h⟩ := bd_some h
      refine E_cat rfl rfl hs_8 ?_
      refine E_mv (v' := (.str s_8)) rfl ?_
      refine E_nil ?_
      cases h
      exact L_nn rfl (wk_aw ⟨(.refl _), (.refl _), (.refl _), (.refl _), trivial⟩)
  · refine X_nx hw ?_
    refine E_sq ?_
    refine E_reg ?_
    refine E_mv (v' := (.str s_1)) rfl ?_
    refine E_mv (v' := (.str s_1)) rfl ?_
    refine E_nil ?_
    refine E_nx ?_
    refine E_ret ?_
    cases h
    exact ⟨trivial, _, rfl, (fz_b rfl (.refl _))⟩
/- windlass/windlassref04.begin -/
def fc58 : FC := (.seq (.reg [⟨(some 2), none, .op (.new [(.int .i64 0), .nils, (.bool false), (.int .i64 0), .nils])⟩,
  ⟨(some 3), none, .op (.mv (.v (.bool false)))⟩] [])
  (.seq (.reg [⟨(some 10), none, .op (.build [(.int .i64 0), .nils, (.bool false), (.int .i64 0), .nils] [(3, 1, (.v (.int .i64 (-1))))])⟩,
  ⟨(some 4), none, .op (.new [(.int .i64 0), .nils, (.bool false), (.int .i64 0), .nils])⟩,
  ⟨none, none, .op (.store 5 (.t 4) (.t 10))⟩] [])
  (.seq (.seq (.reg [⟨(some 11), none, .op (.mv (.t 0))⟩,
  ⟨(some 12), none, .op (.len .sl (.t 11))⟩,
  ⟨(some 13), none, .op (.bin .none .neq (.t 12) (.v (.int .i64 5)))⟩] [])
  (.cond (.t 13)
  (.seq (.reg [⟨(some 14), none, .op (.load (some 5) (.t 4))⟩,
  ⟨none, none, .op (.store 5 (.t 2) (.t 14))⟩,
  ⟨(some 3), none, .op (.mv (.v (.bool false)))⟩] [])
  .ret)
  .skip))
  (.seq (.reg [⟨(some 16), none, .op (.mv (.t 0))⟩,
  ⟨(some 17), none, .op (.iad none none (.t 16) (.v (.int .i64 1)))⟩,
  ⟨(some 18), none, .op (.load none (.t 17))⟩,
  ⟨(some 19), none, .call 98 [(.t 18)]⟩,
  ⟨(some 15), none, .op (.mv (.t 19))⟩,
  ⟨(some 20), none, .op (.ext 0 (.t 15))⟩,
  ⟨(some 21), none, .op (.ext 1 (.t 15))⟩,
  ⟨(some 5), none, .op (.mv (.t 20))⟩,
  ⟨(some 6), none, .op (.mv (.t 21))⟩] [])
  (.seq (.seq (.reg [⟨(some 22), none, .op (.mv (.t 6))⟩,
  ⟨(some 23), none, .op (.un .not (.t 22))⟩,
  ⟨(some 24), none, .op (.mv (.t 23))⟩,
  ⟨(some 25), some (24, false), .op (.mv (.t 5))⟩,
  ⟨(some 26), some (24, false), .op (.bin .none .gtr (.t 25) (.v (.int .u64 255)))⟩,
  ⟨(some 27), none, .op (.pick (.t 24) (.v (.bool true)) (.t 26))⟩] [])
  (.cond (.t 27)
  (.seq (.reg [⟨(some 28), none, .op (.load (some 5) (.t 4))⟩,
  ⟨none, none, .op (.store 5 (.t 2) (.t 28))⟩,
  ⟨(some 3), none, .op (.mv (.v (.bool false)))⟩] [])
  .ret)
  .skip))
  (.seq (.reg [⟨(some 29), none, .op (.mv (.t 5))⟩,
  ⟨(some 30), none, .op (.cint .i64 (.t 29))⟩,
  ⟨(some 31), none, .op (.fad 0 (.t 4))⟩,
  ⟨none, none, .op (.store 1 (.t 31) (.t 30))⟩] [])
  (.seq (.seq (.reg [⟨(some 7), none, .op (.mv (.v (.int .i64 0)))⟩] [])
  (.block 0 (.loop (.seq (.seq (.reg [⟨(some 32), none, .op (.mv (.t 7))⟩,
  ⟨(some 33), none, .op (.mv (.t 0))⟩,
  ⟨(some 34), none, .op (.iad none none (.t 33) (.v (.int .i64 2)))⟩,
  ⟨(some 35), none, .op (.load none (.t 34))⟩,
  ⟨(some 36), none, .op (.len .str (.t 35))⟩,
  ⟨(some 37), none, .op (.bin .none .lss (.t 32) (.t 36))⟩,
  ⟨(some 38), none, .op (.mv (.t 37))⟩,
  ⟨(some 39), some (38, true), .op (.mv (.t 0))⟩,
  ⟨(some 40), some (38, true), .op (.iad none none (.t 39) (.v (.int .i64 2)))⟩,
  ⟨(some 41), some (38, true), .op (.load none (.t 40))⟩,
  ⟨(some 42), some (38, true), .op (.bin .none .neq (.t 41) (.v (.str (ByteArray.mk #[45]))))⟩,
  ⟨(some 43), none, .op (.pick (.t 38) (.t 42) (.v (.bool false)))⟩] [])
  (.cond (.t 43)
  .skip
  (.exit 0)))
  (.seq (.block 1 (.seq (.reg [⟨(some 46), none, .op (.mv (.t 0))⟩,
  ⟨(some 47), none, .op (.iad none none (.t 46) (.v (.int .i64 2)))⟩,
  ⟨(some 48), none, .op (.load none (.t 47))⟩,
  ⟨(some 49), none, .op (.mv (.t 7))⟩,
  ⟨(some 50), none, .op (.idxs (.t 48) (.t 49))⟩,
  ⟨(some 51), none, .op (.bin .none .eql (.t 50) (.v (.int .u8 112)))⟩] [])
  (.cond (.t 51)
  (.reg [⟨(some 52), none, .op (.fad 1 (.t 4))⟩,
  ⟨(some 53), none, .op (.load none (.t 52))⟩,
  ⟨(some 54), none, .op (.bsl none [(.int .u8 0)] 1 [(0, 1, (.v (.int .u8 1)))])⟩,
  ⟨(some 55), none, .op (.app none 1 (.t 53) (.t 54))⟩,
  ⟨(some 56), none, .op (.fad 1 (.t 4))⟩,
  ⟨none, none, .op (.store 1 (.t 56) (.t 55))⟩] [])
  (.reg [⟨(some 57), none, .op (.fad 1 (.t 4))⟩,
  ⟨(some 58), none, .op (.load none (.t 57))⟩,
  ⟨(some 59), none, .op (.bsl none [(.int .u8 0)] 1 [(0, 1, (.v (.int .u8 0)))])⟩,
  ⟨(some 60), none, .op (.app none 1 (.t 58) (.t 59))⟩,
  ⟨(some 61), none, .op (.fad 1 (.t 4))⟩,
  ⟨none, none, .op (.store 1 (.t 61) (.t 60))⟩] []))))
  (.reg [⟨(some 44), none, .op (.mv (.t 7))⟩,
  ⟨(some 45), none, .op (.bin .none .add (.t 44) (.v (.int .i64 1)))⟩,
  ⟨(some 7), none, .op (.mv (.t 45))⟩] []))))))
  (.seq (.reg [⟨(some 62), none, .op (.mv (.t 0))⟩,
  ⟨(some 63), none, .op (.iad none none (.t 62) (.v (.int .i64 3)))⟩,
  ⟨(some 64), none, .op (.load none (.t 63))⟩,
  ⟨(some 65), none, .op (.bin .none .eql (.t 64) (.v (.str (ByteArray.mk #[49]))))⟩,
  ⟨(some 66), none, .op (.fad 2 (.t 4))⟩,
  ⟨none, none, .op (.store 1 (.t 66) (.t 65))⟩] [])
  (.seq (.seq (.reg [⟨(some 67), none, .op (.mv (.t 0))⟩,
  ⟨(some 68), none, .op (.iad none none (.t 67) (.v (.int .i64 4)))⟩,
  ⟨(some 69), none, .op (.load none (.t 68))⟩,
  ⟨(some 70), none, .op (.bin .none .neq (.t 69) (.v (.str (ByteArray.mk #[45]))))⟩] [])
  (.cond (.t 70)
  (.seq (.reg [⟨(some 72), none, .op (.mv (.t 0))⟩,
  ⟨(some 73), none, .op (.iad none none (.t 72) (.v (.int .i64 4)))⟩,
  ⟨(some 74), none, .op (.load none (.t 73))⟩,
  ⟨(some 75), none, .call 98 [(.t 74)]⟩,
  ⟨(some 71), none, .op (.mv (.t 75))⟩,
  ⟨(some 76), none, .op (.ext 0 (.t 71))⟩,
  ⟨(some 77), none, .op (.ext 1 (.t 71))⟩,
  ⟨(some 8), none, .op (.mv (.t 76))⟩,
  ⟨(some 9), none, .op (.mv (.t 77))⟩] [])
  (.seq (.seq (.reg [⟨(some 78), none, .op (.mv (.t 9))⟩,
  ⟨(some 79), none, .op (.un .not (.t 78))⟩,
  ⟨(some 80), none, .op (.mv (.t 79))⟩,
  ⟨(some 81), some (80, false), .op (.mv (.t 8))⟩,
  ⟨(some 82), some (80, false), .op (.bin .none .gtr (.t 81) (.v (.int .u64 254)))⟩,
  ⟨(some 83), none, .op (.pick (.t 80) (.v (.bool true)) (.t 82))⟩] [])
  (.cond (.t 83)
  (.seq (.reg [⟨(some 84), none, .op (.load (some 5) (.t 4))⟩,
  ⟨none, none, .op (.store 5 (.t 2) (.t 84))⟩,
  ⟨(some 3), none, .op (.mv (.v (.bool false)))⟩] [])
  .ret)
  .skip))
  (.reg [⟨(some 85), none, .op (.mv (.t 8))⟩,
  ⟨(some 86), none, .op (.cint .i64 (.t 85))⟩,
  ⟨(some 87), none, .op (.fad 3 (.t 4))⟩,
  ⟨none, none, .op (.store 1 (.t 87) (.t 86))⟩] [])))
  .skip))
  (.seq (.reg [⟨(some 88), none, .op (.load (some 5) (.t 4))⟩,
  ⟨(some 89), none, .op (.load (some 5) (.t 4))⟩,
  ⟨(some 90), none, .call 70 [(.t 89)]⟩,
  ⟨(some 91), none, .op (.mv (.t 0))⟩,
  ⟨(some 92), none, .call 99 [(.t 91)]⟩,
  ⟨(some 93), none, .op (.bin .none .eql (.t 90) (.t 92))⟩,
  ⟨none, none, .op (.store 5 (.t 2) (.t 88))⟩,
  ⟨(some 3), none, .op (.mv (.t 93))⟩] [(0, 2), (0, 4)])
  .ret))))))))))
theorem fn58 : Fn3 Tryd.prog 58 94 [(2, (some (some 5))), (3, none)] fc58 := ⟨_, _, Tryd.func58, rfl, rfl, rfl, by kernel_rfl⟩
def windlassref04_begin_s (fuel : Nat) (w_00 : (List ByteArray)) : Option (Func × Bool) :=
  (if ((List.length w_00 : Int) != 5) then (some ((Func.mk 0 [] false (-1) []), false)) else ((getI w_00 1).bind fun y_1 => ((windlassref02_Value_s fuel y_1).bind fun val_2 => (jp (fun (s_4 : Bool) => (if s_4 then (some ((Func.mk 0 [] false (-1) []), false)) else ((whileN (fun (s_5 : (Int × (List Int))) => ((jp (fun (s_7 : Bool) => (if s_7 then (jp (fun (s_10 : (List Int)) => (some (.nxt ((I64 (s_5.1 + 1)), s_10)))) (fun k_9 => ((getI w_00 2).bind fun y_11 => ((strI y_11 s_5.1).bind fun b_12 => (if (b_12 == 112) then ((appL 1 s_5.2 [1]).bind fun l_13 => (k_9 l_13)) else ((appL 1 s_5.2 [0]).bind fun l_14 => (k_9 l_14))))))) else (some (.brk (s_5.1, s_5.2))))) (fun k_6 => ((getI w_00 2).bind fun y_8 => (if (decide (s_5.1 < (ByteArray.size y_8 : Int))) then (k_6 (!(ByteArray.toList y_8 == ByteArray.toList (ByteArray.mk #[45])))) else (k_6 false))))) : Option (Stp (Int × (List Int)) (Option (Func × Bool))))) fuel (0, [])).bind (oc (fun (s_5 : (Int × (List Int))) => ((getI w_00 3).bind fun y_15 => ((getI w_00 4).bind fun y_16 => (jp (fun (s_18 : Int) => ((windlassref04_Head_s fuel (Func.mk (I64 val_2.1) s_5.2 (ByteArray.toList y_15 == ByteArray.toList (ByteArray.mk #[49])) s_18 [])).bind fun hea_22 => ((windlassref04_joined_s w_00).bind fun joi_23 => (some ((Func.mk (I64 val_2.1) s_5.2 (ByteArray.toList y_15 == ByteArray.toList (ByteArray.mk #[49])) s_18 []), (ByteArray.toList hea_22 == ByteArray.toList joi_23)))))) (fun k_17 => (if (!(ByteArray.toList y_16 == ByteArray.toList (ByteArray.mk #[45]))) then ((windlassref02_Value_s fuel y_16).bind fun val_19 => (jp (fun (s_21 : Bool) => (if s_21 then (some ((Func.mk (I64 val_2.1) s_5.2 (ByteArray.toList y_15 == ByteArray.toList (ByteArray.mk #[49])) (-1) []), false)) else (k_17 (I64 val_19.1)))) (fun k_20 => (if (!val_19.2) then (k_20 true) else (k_20 (decide (val_19.1 > 254))))))) else (k_17 (-1)))))))))))) (fun k_3 => (if (!val_2.2) then (k_3 true) else (k_3 (decide (val_2.1 > 255)))))))))
theorem windlassref04_begin_ev {fuel : Nat} {w_00 : (List ByteArray)} {r : (Func × Bool)} (h : windlassref04_begin_s fuel w_00 = some r) : PureEv Tryd.prog 58 [(.sl false 1 (List.map avS w_00))] (.tup [(Func.av r.1), (.bool r.2)]) := by
  unfold windlassref04_begin_s at h
  refine PureEv_end mixed fn58 (by simp) [2, 4, 55, 60] 6 ?_
  unfold fc58
  refine E_sq ?_
  refine E_reg ?_
  refine E_op (v' := .ptr 0 0 0) (S' := [.arr 0 [(.int .i64 0), .nils, (.bool false), (.int .i64 0), .nils]]) rfl rfl rfl ?_
  refine E_mv (v' := (.bool false)) rfl ?_
  refine E_nil ?_
  refine E_nx ?_
  refine E_sq ?_
  refine E_reg ?_
  refine E_op0 (v' := (.agg [(.int .i64 0), .nils, (.bool false), (.int .i64 (-1)), .nils])) rfl rfl ?_
  refine E_op (v' := .ptr 1 0 0) (S' := [.arr 0 [(.int .i64 0), .nils, (.bool false), (.int .i64 0), .nils], .arr 0 [(.int .i64 0), .nils, (.bool false), (.int .i64 0), .nils]]) rfl rfl rfl ?_
  refine E_do (S' := [.arr 0 [(.int .i64 0), .nils, (.bool false), (.int .i64 0), .nils], .arr 0 [(.int .i64 0), .nils, (.bool false), (.int .i64 (-1)), .nils]]) rfl rfl ?_
  refine E_nil ?_
  refine E_nx ?_
  refine E_as ?_
  refine E_sq ?_
  refine E_reg ?_
  refine E_mv (v' := (.sl false 1 (List.map avS w_00))) rfl ?_
  refine E_len rfl ?_
  refine E_op0 (v' := (.bool ((List.length w_00 : Int) != 5))) rfl rfl ?_
  refine E_nil ?_
  refine E_nx ?_
  refine E_sq ?_
  refine E_cs (t := ((List.length w_00 : Int) != 5)) rfl (fun hb => ?_) (fun hb => ?_)
  · rw [ite_t hb] at h
    refine E_sq ?_
    refine E_reg ?_
    refine E_opw (v' := (Func.av (Func.mk 0 [] false (-1) []))) rfl (.aggL ⟨(.refl _), .nil, (.refl _), (.refl _), .nil, trivial⟩) rfl ?_
    refine E_do (S' := [.arr 0 [(.int .i64 0), (.sl false 1 (List.map (avI .u8) [])), (.bool false), (.int .i64 (-1)), (.sl false 3 (List.map Instr.av []))], .arr 0 [(.int .i64 0), .nils, (.bool false), (.int .i64 (-1)), .nils]]) rfl rfl ?_
    refine E_mv (v' := (.bool false)) rfl ?_
    refine E_nil ?_
    refine E_nx ?_
    refine E_ret ?_
    refine E_thr ?_
    cases h
    exact ⟨trivial, _, rfl, (fz_tup ⟨(fz_agg ⟨(fz_b rfl (.refl _)), (fz_b ((encI .u8).blws 0) (.refl _)), (fz_b rfl (.refl _)), (fz_b rfl (.refl _)), (fz_b (Instr.enc.blws 0) (.refl _)), trivial⟩), (fz_b rfl (.refl _)), trivial⟩)⟩
  · rw [ite_f hb] at h
    refine E_skip ?_
    refine E_nx ?_
    refine E_sq ?_
    refine E_reg ?_
    refine E_mv (v' := (.sl false 1 (List.map avS w_00))) rfl ?_
    obtain ⟨y_1, hy_1, h⟩ := bd_some h
    refine E_iadF rfl rfl hy_1 ?_
    refine E_op0 (v' := (.str y_1)) rfl rfl ?_
    obtain ⟨val_2, hval_2, h⟩ := bd_some h
    refine E_callW (windlassref02_Value_ev (fuel := fuel)  hval_2) rfl ⟨(.refl _), trivial⟩ (blwL_of ⟨rfl, trivial⟩) (tup_blw ⟨rfl, rfl, trivial⟩) ?_
    refine E_mv (v' := (.tup [(.int .u64 val_2.1), (.bool val_2.2)])) rfl ?_
    refine E_op0 (v' := (.int .u64 val_2.1)) rfl rfl ?_
    refine E_op0 (v' := (.bool val_2.2)) rfl rfl ?_
    refine E_mv (v' := (.int .u64 val_2.1)) rfl ?_
    refine E_mv (v' := (.bool val_2.2)) rfl ?_
    refine E_nil ?_
    refine E_nx ?_
    refine E_as ?_
    refine E_jp h (fun s_4 => [(0, (.sl false 1 (List.map avS w_00))), (2, (.ptr 0 0 0)), (4, (.ptr 1 0 0)), (5, (.int .u64 val_2.1)), (27, (.bool s_4))]) (fun s_4 => [.arr 0 [(.int .i64 0), .nils, (.bool false), (.int .i64 0), .nils], .arr 0 [(.int .i64 0), .nils, (.bool false), (.int .i64 (-1)), .nils]]) (fun k_3 h => ?_) (fun s_4 h => ?_)
    · refine E_reg ?_
      refine E_mv (v' := (.bool val_2.2)) rfl ?_
      refine E_op0 (v' := (.bool (!val_2.2))) rfl rfl ?_
      refine E_mv (v' := (.bool (!val_2.2))) rfl ?_
      refine E_gsT (b := (!val_2.2)) rfl rfl rfl (fun hb => ?_) (fun hb => ?_)
      · rw [ite_f hb] at h
        refine E_mv (v' := (.int .u64 val_2.1)) rfl ?_
        refine E_gh rfl ?_
        refine E_op0 (v' := (.bool (decide (val_2.1 > 255)))) rfl rfl ?_
        refine E_pf rfl rfl ?_
        refine E_nil ?_
        exact E_jx _ h (wk_rn [some (0, 0), some (1, 0)] rfl (Nat.le_of_ble_eq_true rfl) ⟨(rn_ob rfl rfl (.cons (rn_b rfl) (.cons (rn_b rfl) (.cons (rn_b rfl) (.cons (rn_b rfl) (.cons (rn_b rfl) (.nil (Nat.zero_le _))))))) rfl), (rn_ob rfl rfl (.cons (rn_b rfl) (.cons (rn_b rfl) (.cons (rn_b rfl) (.cons (rn_b rfl) (.cons (rn_b rfl) (.nil (Nat.zero_le _))))))) rfl), trivial⟩ ⟨(rn_b (encS.blws 0)), (rn_ptr rfl rfl rfl rfl), (rn_ptr rfl rfl rfl rfl), (rn_b rfl), (rn_b rfl), trivial⟩)
      · rw [ite_t hb] at h
        refine E_gm rfl ?_
        refine E_pt rfl rfl ?_
        refine E_nil ?_
        exact E_jx _ h (wk_rn [some (0, 0), some (1, 0)] rfl (Nat.le_of_ble_eq_true rfl) ⟨(rn_ob rfl rfl (.cons (rn_b rfl) (.cons (rn_b rfl) (.cons (rn_b rfl) (.cons (rn_b rfl) (.cons (rn_b rfl) (.nil (Nat.zero_le _))))))) rfl), (rn_ob rfl rfl (.cons (rn_b rfl) (.cons (rn_b rfl) (.cons (rn_b rfl) (.cons (rn_b rfl) (.cons (rn_b rfl) (.nil (Nat.zero_le _))))))) rfl), trivial⟩ ⟨(rn_b (encS.blws 0)), (rn_ptr rfl rfl rfl rfl), (rn_ptr rfl rfl rfl rfl), (rn_b rfl), (rn_b rfl), trivial⟩)
    · refine E_sq ?_
      refine E_cs (t := s_4) rfl (fun hb => ?_) (fun hb => ?_)
      · rw [ite_t hb] at h
        refine E_sq ?_
        refine E_reg ?_
        refine E_opw (v' := (Func.av (Func.mk 0 [] false (-1) []))) rfl (.aggL ⟨(.refl _), .nil, (.refl _), (.refl _), .nil, trivial⟩) rfl ?_
        refine E_do (S' := [.arr 0 [(.int .i64 0), (.sl false 1 (List.map (avI .u8) [])), (.bool false), (.int .i64 (-1)), (.sl false 3 (List.map Instr.av []))], .arr 0 [(.int .i64 0), .nils, (.bool false), (.int .i64 (-1)), .nils]]) rfl rfl ?_
        refine E_mv (v' := (.bool false)) rfl ?_
        refine E_nil ?_
        refine E_nx ?_
        refine E_ret ?_
        refine E_thr ?_
        cases h
        exact ⟨trivial, _, rfl, (fz_tup ⟨(fz_agg ⟨(fz_b rfl (.refl _)), (fz_b ((encI .u8).blws 0) (.refl _)), (fz_b rfl (.refl _)), (fz_b rfl (.refl _)), (fz_b (Instr.enc.blws 0) (.refl _)), trivial⟩), (fz_b rfl (.refl _)), trivial⟩)⟩
      · rw [ite_f hb] at h
        refine E_skip ?_
        refine E_nx ?_
        refine E_sq ?_
        refine E_reg ?_
        refine E_mv (v' := (.int .u64 val_2.1)) rfl ?_
        refine E_op0 (v' := (.int .i64 (I64 val_2.1))) rfl rfl ?_
        refine E_op0 (v' := (.ptr 1 0 0)) rfl rfl ?_
        refine E_do (S' := [.arr 0 [(.int .i64 0), .nils, (.bool false), (.int .i64 0), .nils], .arr 0 [(.int .i64 (I64 val_2.1)), .nils, (.bool false), (.int .i64 (-1)), .nils]]) rfl rfl ?_
        refine E_nil ?_
        refine E_nx ?_
        refine E_as ?_
        refine E_sq ?_
        refine E_reg ?_
        refine E_mv (v' := (.int .i64 0)) rfl ?_
        refine E_nil ?_
        refine E_nx ?_
        refine E_sq ?_
        refine E_whileO (fun s_5 => [(0, (.sl false 1 (List.map avS w_00))), (2, (.ptr 0 0 0)), (4, (.ptr 1 0 0)), (7, (.int .i64 s_5.1))]) (fun s_5 => [.arr 0 [(.int .i64 0), .nils, (.bool false), (.int .i64 0), .nils], .arr 0 [(.int .i64 (I64 val_2.1)), (.ref 2 1 0 (List.length s_5.2) none), (.bool false), (.int .i64 (-1)), .nils], .arr 1 (flat (avI .u8) s_5.2)]) h (wk_rn [some (0, 0), some (1, 0), none] rfl (Nat.le_of_ble_eq_true rfl) ⟨(rn_ob rfl rfl (.cons (rn_b rfl) (.cons (rn_b rfl) (.cons (rn_b rfl) (.cons (rn_b rfl) (.cons (rn_b rfl) (.nil (Nat.zero_le _))))))) rfl), (rn_ob rfl rfl (.cons (rn_b rfl) (.cons (rn_nil rfl) (.cons (rn_b rfl) (.cons (rn_b rfl) (.cons (rn_b rfl) (.nil (Nat.zero_le _))))))) rfl), (rn_obN rfl rfl rfl), trivial⟩ ⟨(rn_b (encS.blws 0)), (rn_ptr rfl rfl rfl rfl), (rn_ptr rfl rfl rfl rfl), (rn_b rfl), trivial⟩) (fun s_5 c h => ?_) (fun s_5 fr' S' h hw => ?_)
        · refine E_as ?_
          refine E_jp h (fun s_7 => [(0, (.sl false 1 (List.map avS w_00))), (2, (.ptr 0 0 0)), (4, (.ptr 1 0 0)), (7, (.int .i64 s_5.1)), (43, (.bool s_7))]) (fun s_7 => [.arr 0 [(.int .i64 0), .nils, (.bool false), (.int .i64 0), .nils], .arr 0 [(.int .i64 (I64 val_2.1)), (.ref 2 1 0 (List.length s_5.2) none), (.bool false), (.int .i64 (-1)), .nils], .arr 1 (flat (avI .u8) s_5.2)]) (fun k_6 h => ?_) (fun s_7 h => ?_)
          · refine E_reg ?_
            refine E_mv (v' := (.int .i64 s_5.1)) rfl ?_
            refine E_mv (v' := (.sl false 1 (List.map avS w_00))) rfl ?_
            obtain ⟨y_8, hy_8, h⟩ := bd_some h
            refine E_iadF rfl rfl hy_8 ?_
            refine E_op0 (v' := (.str y_8)) rfl rfl ?_
            refine E_op0 (v' := (.int .i64 (ByteArray.size y_8 : Int))) rfl rfl ?_
            refine E_op0 (v' := (.bool (decide (s_5.1 < (ByteArray.size y_8 : Int))))) rfl rfl ?_
            refine E_mv (v' := (.bool (decide (s_5.1 < (ByteArray.size y_8 : Int))))) rfl ?_
            refine E_gsT (b := (decide (s_5.1 < (ByteArray.size y_8 : Int)))) rfl rfl rfl (fun hb => ?_) (fun hb => ?_)
            · rw [ite_t hb] at h
              refine E_mv (v' := (.sl false 1 (List.map avS w_00))) rfl ?_
              refine E_gh rfl ?_
              refine E_iadF rfl rfl hy_8 ?_
              refine E_gh rfl ?_
              refine E_op0 (v' := (.str y_8)) rfl rfl ?_
              refine E_gh rfl ?_
              refine E_op0 (v' := (.bool (!(ByteArray.toList y_8 == ByteArray.toList (ByteArray.mk #[45]))))) rfl rfl ?_
              refine E_pt rfl rfl ?_
              refine E_nil ?_
              exact E_jx _ h (wk_rn [some (0, 0), some (1, 0), some (2, 0)] rfl (Nat.le_of_ble_eq_true rfl) ⟨(rn_ob rfl rfl (.cons (rn_b rfl) (.cons (rn_b rfl) (.cons (rn_b rfl) (.cons (rn_b rfl) (.cons (rn_b rfl) (.nil (Nat.zero_le _))))))) rfl), (rn_ob rfl rfl (.cons (rn_b rfl) (.cons (rn_refL (encI .u8) rfl rfl rfl) (.cons (rn_b rfl) (.cons (rn_b rfl) (.cons (rn_b rfl) (.nil (Nat.zero_le _))))))) rfl), (rn_ob rfl rfl (.refl ((encI .u8).blwf 0 _)) rfl), trivial⟩ ⟨(rn_b (encS.blws 0)), (rn_ptr rfl rfl rfl rfl), (rn_ptr rfl rfl rfl rfl), (rn_b rfl), (rn_b rfl), trivial⟩)
            · rw [ite_f hb] at h
              refine E_gm rfl ?_
              refine E_gm rfl ?_
              refine E_gm rfl ?_
              refine E_pf rfl rfl ?_
              refine E_nil ?_
              exact E_jx _ h (wk_rn [some (0, 0), some (1, 0), some (2, 0)] rfl (Nat.le_of_ble_eq_true rfl) ⟨(rn_ob rfl rfl (.cons (rn_b rfl) (.cons (rn_b rfl) (.cons (rn_b rfl) (.cons (rn_b rfl) (.cons (rn_b rfl) (.nil (Nat.zero_le _))))))) rfl), (rn_ob rfl rfl (.cons (rn_b rfl) (.cons (rn_refL (encI .u8) rfl rfl rfl) (.cons (rn_b rfl) (.cons (rn_b rfl) (.cons (rn_b rfl) (.nil (Nat.zero_le _))))))) rfl), (rn_ob rfl rfl (.refl ((encI .u8).blwf 0 _)) rfl), trivial⟩ ⟨(rn_b (encS.blws 0)), (rn_ptr rfl rfl rfl rfl), (rn_ptr rfl rfl rfl rfl), (rn_b rfl), (rn_b rfl), trivial⟩)
          · refine E_sq ?_
            refine E_cs (t := s_7) rfl (fun hb => ?_) (fun hb => ?_)
            · rw [ite_t hb] at h
              refine E_skip ?_
              refine E_nx ?_
              refine E_jp h (fun s_10 => [(0, (.sl false 1 (List.map avS w_00))), (2, (.ptr 0 0 0)), (4, (.ptr 1 0 0)), (7, (.int .i64 s_5.1))]) (fun s_10 => [.arr 0 [(.int .i64 0), .nils, (.bool false), (.int .i64 0), .nils], .arr 0 [(.int .i64 (I64 val_2.1)), (.ref 2 1 0 (List.length s_10) none), (.bool false), (.int .i64 (-1)), .nils], .arr 1 (flat (avI .u8) s_10)]) (fun k_9 h => ?_) (fun s_10 h => ?_)
              · refine E_block ?_
                refine E_sq ?_
                refine E_reg ?_
                refine E_mv (v' := (.sl false 1 (List.map avS w_00))) rfl ?_
                obtain ⟨y_11, hy_11, h⟩ := bd_some h
                refine E_iadF rfl rfl hy_11 ?_
                refine E_op0 (v' := (.str y_11)) rfl rfl ?_
                refine E_mv (v' := (.int .i64 s_5.1)) rfl ?_
                obtain ⟨b_12, hb_12, h⟩ := bd_some h
                refine E_idxS rfl rfl hb_12 ?_
                refine E_op0 (v' := (.bool (b_12 == 112))) rfl rfl ?_
                refine E_nil ?_
                refine E_nx ?_
                refine E_cs (t := (b_12 == 112)) rfl (fun hb => ?_) (fun hb => ?_)
                · rw [ite_t hb] at h
                  refine E_reg ?_
                  refine E_op0 (v' := (.ptr 1 0 1)) rfl rfl ?_
                  refine E_op (v' := (.ref 2 1 0 (List.length s_5.2) none)) (S' := [.arr 0 [(.int .i64 0), .nils, (.bool false), (.int .i64 0), .nils], .arr 0 [(.int .i64 (I64 val_2.1)), (.ref 2 1 0 (List.length s_5.2) none), (.bool false), (.int .i64 (-1)), .nils], .arr 1 (flat (avI .u8) s_5.2)]) rfl rfl rfl ?_
                  refine E_opw (v' := (.sl true 1 (List.map (avI .u8) [1]))) rfl (.refl _) rfl ?_
                  obtain ⟨l_13, hl_13, h⟩ := bd_some h
                  refine E_apL (S' := [.arr 0 [(.int .i64 0), .nils, (.bool false), (.int .i64 0), .nils], .arr 0 [(.int .i64 (I64 val_2.1)), (.ref 2 1 0 (List.length s_5.2) none), (.bool false), (.int .i64 (-1)), .nils], .arr 2 (flat (avI .u8) l_13)]) (encI .u8) rfl (src_sl [1]) rfl hl_13 rfl ?_
                  refine E_op0 (v' := (.ptr 1 0 1)) rfl rfl ?_
                  refine E_do (S' := [.arr 0 [(.int .i64 0), .nils, (.bool false), (.int .i64 0), .nils], .arr 0 [(.int .i64 (I64 val_2.1)), (.ref 2 2 0 (List.length l_13) none), (.bool false), (.int .i64 (-1)), .nils], .arr 2 (flat (avI .u8) l_13)]) rfl rfl ?_
                  refine E_nil ?_
                  refine E_bln ?_
                  exact E_jx _ h (wk_rn [some (0, 0), some (1, 0), some (2, 0)] rfl (Nat.le_of_ble_eq_true rfl) ⟨(rn_ob rfl rfl (.cons (rn_b rfl) (.cons (rn_b rfl) (.cons (rn_b rfl) (.cons (rn_b rfl) (.cons (rn_b rfl) (.nil (Nat.zero_le _))))))) rfl), (rn_ob rfl rfl (.cons (rn_b rfl) (.cons (rn_refL (encI .u8) rfl rfl rfl) (.cons (rn_b rfl) (.cons (rn_b rfl) (.cons (rn_b rfl) (.nil (Nat.zero_le _))))))) rfl), (rn_ob rfl rfl (.refl ((encI .u8).blwf 0 _)) rfl), trivial⟩ ⟨(rn_b (encS.blws 0)), (rn_ptr rfl rfl rfl rfl), (rn_ptr rfl rfl rfl rfl), (rn_b rfl), trivial⟩)
                · rw [ite_f hb] at h
                  refine E_reg ?_
                  refine E_op0 (v' := (.ptr 1 0 1)) rfl rfl ?_
                  refine E_op (v' := (.ref 2 1 0 (List.length s_5.2) none)) (S' := [.arr 0 [(.int .i64 0), .nils, (.bool false), (.int .i64 0), .nils], .arr 0 [(.int .i64 (I64 val_2.1)), (.ref 2 1 0 (List.length s_5.2) none), (.bool false), (.int .i64 (-1)), .nils], .arr 1 (flat (avI .u8) s_5.2)]) rfl rfl rfl ?_
                  refine E_opw (v' := (.sl true 1 (List.map (avI .u8) [0]))) rfl (.refl _) rfl ?_
                  obtain ⟨l_14, hl_14, h⟩ := bd_some h
                  refine E_apL (S' := [.arr 0 [(.int .i64 0), .nils, (.bool false), (.int .i64 0), .nils], .arr 0 [(.int .i64 (I64 val_2.1)), (.ref 2 1 0 (List.length s_5.2) none), (.bool false), (.int .i64 (-1)), .nils], .arr 2 (flat (avI .u8) l_14)]) (encI .u8) rfl (src_sl [0]) rfl hl_14 rfl ?_
                  refine E_op0 (v' := (.ptr 1 0 1)) rfl rfl ?_
                  refine E_do (S' := [.arr 0 [(.int .i64 0), .nils, (.bool false), (.int .i64 0), .nils], .arr 0 [(.int .i64 (I64 val_2.1)), (.ref 2 2 0 (List.length l_14) none), (.bool false), (.int .i64 (-1)), .nils], .arr 2 (flat (avI .u8) l_14)]) rfl rfl ?_
                  refine E_nil ?_
                  refine E_bln ?_
                  exact E_jx _ h (wk_rn [some (0, 0), some (1, 0), some (2, 0)] rfl (Nat.le_of_ble_eq_true rfl) ⟨(rn_ob rfl rfl (.cons (rn_b rfl) (.cons (rn_b rfl) (.cons (rn_b rfl) (.cons (rn_b rfl) (.cons (rn_b rfl) (.nil (Nat.zero_le _))))))) rfl), (rn_ob rfl rfl (.cons (rn_b rfl) (.cons (rn_refL (encI .u8) rfl rfl rfl) (.cons (rn_b rfl) (.cons (rn_b rfl) (.cons (rn_b rfl) (.nil (Nat.zero_le _))))))) rfl), (rn_ob rfl rfl (.refl ((encI .u8).blwf 0 _)) rfl), trivial⟩ ⟨(rn_b (encS.blws 0)), (rn_ptr rfl rfl rfl rfl), (rn_ptr rfl rfl rfl rfl), (rn_b rfl), trivial⟩)
              · refine E_reg ?_
                refine E_mv (v' := (.int .i64 s_5.1)) rfl ?_
                refine E_op0 (v' := (.int .i64 (I64 (s_5.1 + 1)))) rfl rfl ?_
                refine E_mv (v' := (.int .i64 (I64 (s_5.1 + 1)))) rfl ?_
                refine E_nil ?_
                cases h
                exact L_nn rfl (wk_rn [some (0, 0), some (1, 0), some (2, 0)] rfl (Nat.le_of_ble_eq_true rfl) ⟨(rn_ob rfl rfl (.cons (rn_b rfl) (.cons (rn_b rfl) (.cons (rn_b rfl) (.cons (rn_b rfl) (.cons (rn_b rfl) (.nil (Nat.zero_le _))))))) rfl), (rn_ob rfl rfl (.cons (rn_b rfl) (.cons (rn_refL (encI .u8) rfl rfl rfl) (.cons (rn_b rfl) (.cons (rn_b rfl) (.cons (rn_b rfl) (.nil (Nat.zero_le _))))))) rfl), (rn_ob rfl rfl (.refl ((encI .u8).blwf 0 _)) rfl), trivial⟩ ⟨(rn_b (encS.blws 0)), (rn_ptr rfl rfl rfl rfl), (rn_ptr rfl rfl rfl rfl), (rn_b rfl), trivial⟩)
            · rw [ite_f hb] at h
              refine E_exit ?_
              refine E_the ?_
              cases h
              exact L_bk rfl rfl rfl (wk_rn [some (0, 0), some (1, 0), some (2, 0)] rfl (Nat.le_of_ble_eq_true rfl) ⟨(rn_ob rfl rfl (.cons (rn_b rfl) (.cons (rn_b rfl) (.cons (rn_b rfl) (.cons (rn_b rfl) (.cons (rn_b rfl) (.nil (Nat.zero_le _))))))) rfl), (rn_ob rfl rfl (.cons (rn_b rfl) (.cons (rn_refL (encI .u8) rfl rfl rfl) (.cons (rn_b rfl) (.cons (rn_b rfl) (.cons (rn_b rfl) (.nil (Nat.zero_le _))))))) rfl), (rn_ob rfl rfl (.refl ((encI .u8).blwf 0 _)) rfl), trivial⟩ ⟨(rn_b (encS.blws 0)), (rn_ptr rfl rfl rfl rfl), (rn_ptr rfl rfl rfl rfl), (rn_b rfl), trivial⟩)
        · refine X_nx hw ?_
          refine E_sq ?_
          refine E_reg ?_
          refine E_mv (v' := (.sl false 1 (List.map avS w_00))) rfl ?_
          obtain ⟨y_15, hy_15, h⟩ := bd_some h
          refine E_iadF rfl rfl hy_15 ?_
          refine E_op0 (v' := (.str y_15)) rfl rfl ?_
          refine E_op0 (v' := (.bool (ByteArray.toList y_15 == ByteArray.toList (ByteArray.mk #[49])))) rfl rfl ?_
          refine E_op0 (v' := (.ptr 1 0 2)) rfl rfl ?_
          refine E_do (S' := [.arr 0 [(.int .i64 0), .nils, (.bool false), (.int .i64 0), .nils], .arr 0 [(.int .i64 (I64 val_2.1)), (.ref 2 1 0 (List.length s_5.2) none), (.bool (ByteArray.toList y_15 == ByteArray.toList (ByteArray.mk #[49]))), (.int .i64 (-1)), .nils], .arr 1 (flat (avI .u8) s_5.2)]) rfl rfl ?_
          refine E_nil ?_
          refine E_nx ?_
          refine E_as ?_
          refine E_sq ?_
          refine E_reg ?_
          refine E_mv (v' := (.sl false 1 (List.map avS w_00))) rfl ?_
          obtain ⟨y_16, hy_16, h⟩ := bd_some h
          refine E_iadF rfl rfl hy_16 ?_
          refine E_op0 (v' := (.str y_16)) rfl rfl ?_
          refine E_op0 (v' := (.bool (!(ByteArray.toList y_16 == ByteArray.toList (ByteArray.mk #[45]))))) rfl rfl ?_
          refine E_nil ?_
          refine E_nx ?_
          refine E_jpw h (fun s_18 => [(0, (.sl false 1 (List.map avS w_00))), (2, (.ptr 0 0 0)), (4, (.ptr 1 0 0))]) (fun s_18 => [.arr 0 [(.int .i64 0), .nils, (.bool false), (.int .i64 0), .nils], .arr 0 [(.int .i64 (I64 val_2.1)), (.ref 2 1 0 (List.length s_5.2) none), (.bool (ByteArray.toList y_15 == ByteArray.toList (ByteArray.mk #[49]))), (.int .i64 s_18), .nils], .arr 1 (flat (avI .u8) s_5.2)]) (fun s_18 => [(0, (.sl false 1 (List.map avS w_00))), (2, (.ptr 0 0 0)), (4, (.ptr 1 0 0))]) (fun s_18 => [.arr 0 [(.int .i64 0), .nils, (.bool false), (.int .i64 0), .nils], .arr 0 [(.int .i64 (I64 val_2.1)), (.sl false 1 (List.map (avI .u8) s_5.2)), (.bool (ByteArray.toList y_15 == ByteArray.toList (ByteArray.mk #[49]))), (.int .i64 s_18), .nils]]) (fun s_18 => (wk_trans (fr'' := [(0, (.sl false 1 (List.map avS w_00))), (2, (.ptr 0 0 0)), (4, (.ptr 1 0 0))]) (S'' := [.arr 0 [(.int .i64 0), .nils, (.bool false), (.int .i64 0), .nils], .arr 0 [(.int .i64 (I64 val_2.1)), (.sl false 1 (List.map (avI .u8) s_5.2)), (.bool (ByteArray.toList y_15 == ByteArray.toList (ByteArray.mk #[49]))), (.int .i64 s_18), .nils]]) (wk_rn (fr' := [(0, (.sl false 1 (List.map avS w_00))), (2, (.ptr 0 0 0)), (4, (.ptr 1 0 0))]) (S' := [.arr 0 [(.int .i64 0), .nils, (.bool false), (.int .i64 0), .nils], .arr 0 [(.int .i64 (I64 val_2.1)), (.ref 2 1 0 (List.length s_5.2) none), (.bool (ByteArray.toList y_15 == ByteArray.toList (ByteArray.mk #[49]))), (.int .i64 s_18), .nils], .arr 1 (flat (avI .u8) s_5.2)]) [some (0, 0), some (1, 0), some (2, 0)] rfl (Nat.le_of_ble_eq_true rfl) ⟨(rn_ob rfl rfl (.cons (rn_b rfl) (.cons (rn_b rfl) (.cons (rn_b rfl) (.cons (rn_b rfl) (.cons (rn_b rfl) (.nil (Nat.zero_le _))))))) rfl), (rn_ob rfl rfl (.cons (rn_b rfl) (.cons (rn_refL (encI .u8) rfl rfl rfl) (.cons (rn_b rfl) (.cons (rn_b rfl) (.cons (rn_b rfl) (.nil (Nat.zero_le _))))))) rfl), (rn_ob rfl rfl (.refl ((encI .u8).blwf 0 _)) rfl), trivial⟩ ⟨(rn_b (encS.blws 0)), (rn_ptr rfl rfl rfl rfl), (rn_ptr rfl rfl rfl rfl), trivial⟩) (wk_fz 2 6 rfl ⟨⟨rfl, ⟨(fz_b rfl (.refl _)), (fz_b rfl (.refl _)), (fz_b rfl (.refl _)), (fz_b rfl (.refl _)), (fz_b rfl (.refl _)), trivial⟩⟩, ⟨rfl, ⟨(fz_b rfl (.refl _)), (fz_ref (encI .u8) (Nat.le_of_ble_eq_true rfl) rfl), (fz_b rfl (.refl _)), (fz_b rfl (.refl _)), (fz_b rfl (.refl _)), trivial⟩⟩, trivial⟩ ⟨(fz_b (encS.blws 2) (.refl _)), (fz_b rfl (.refl _)), (fz_b rfl (.refl _)), trivial⟩))) (fun k_17 h => ?_) (fun s_18 h => ?_)
          · refine E_cs (t := (!(ByteArray.toList y_16 == ByteArray.toList (ByteArray.mk #[45])))) rfl (fun hb => ?_) (fun hb => ?_)
            · rw [ite_t hb] at h
              refine E_sq ?_
              refine E_reg ?_
              refine E_mv (v' := (.sl false 1 (List.map avS w_00))) rfl ?_
              refine E_iadF rfl rfl hy_16 ?_
              refine E_op0 (v' := (.str y_16)) rfl rfl ?_
              obtain ⟨val_19, hval_19, h⟩ := bd_some h
              refine E_callW (windlassref02_Value_ev (fuel := fuel)  hval_19) rfl ⟨(.refl _), trivial⟩ (blwL_of ⟨rfl, trivial⟩) (tup_blw ⟨rfl, rfl, trivial⟩) ?_
              refine E_mv (v' := (.tup [(.int .u64 val_19.1), (.bool val_19.2)])) rfl ?_
              refine E_op0 (v' := (.int .u64 val_19.1)) rfl rfl ?_
              refine E_op0 (v' := (.bool val_19.2)) rfl rfl ?_
              refine E_mv (v' := (.int .u64 val_19.1)) rfl ?_
              refine E_mv (v' := (.bool val_19.2)) rfl ?_
              refine E_nil ?_
              refine E_nx ?_
              refine E_as ?_
              refine E_jp h (fun s_21 => [(0, (.sl false 1 (List.map avS w_00))), (2, (.ptr 0 0 0)), (4, (.ptr 1 0 0)), (8, (.int .u64 val_19.1)), (83, (.bool s_21))]) (fun s_21 => [.arr 0 [(.int .i64 0), .nils, (.bool false), (.int .i64 0), .nils], .arr 0 [(.int .i64 (I64 val_2.1)), (.ref 2 1 0 (List.length s_5.2) none), (.bool (ByteArray.toList y_15 == ByteArray.toList (ByteArray.mk #[49]))), (.int .i64 (-1)), .nils], .arr 1 (flat (avI .u8) s_5.2)]) (fun k_20 h => ?_) (fun s_21 h => ?_)
              · refine E_reg ?_
                refine E_mv (v' := (.bool val_19.2)) rfl ?_
                refine E_op0 (v' := (.bool (!val_19.2))) rfl rfl ?_
                refine E_mv (v' := (.bool (!val_19.2))) rfl ?_
                refine E_gsT (b := (!val_19.2)) rfl rfl rfl (fun hb => ?_) (fun hb => ?_)
                · rw [ite_f hb] at h
                  refine E_mv (v' := (.int .u64 val_19.1)) rfl ?_
                  refine E_gh rfl ?_
                  refine E_op0 (v' := (.bool (decide (val_19.1 > 254)))) rfl rfl ?_
                  refine E_pf rfl rfl ?_
                  refine E_nil ?_
                  exact E_jx _ h (wk_rn [some (0, 0), some (1, 0), some (2, 0)] rfl (Nat.le_of_ble_eq_true rfl) ⟨(rn_ob rfl rfl (.cons (rn_b rfl) (.cons (rn_b rfl) (.cons (rn_b rfl) (.cons (rn_b rfl) (.cons (rn_b rfl) (.nil (Nat.zero_le _))))))) rfl), (rn_ob rfl rfl (.cons (rn_b rfl) (.cons (rn_refL (encI .u8) rfl rfl rfl) (.cons (rn_b rfl) (.cons (rn_b rfl) (.cons (rn_b rfl) (.nil (Nat.zero_le _))))))) rfl), (rn_ob rfl rfl (.refl ((encI .u8).blwf 0 _)) rfl), trivial⟩ ⟨(rn_b (encS.blws 0)), (rn_ptr rfl rfl rfl rfl), (rn_ptr rfl rfl rfl rfl), (rn_b rfl), (rn_b rfl), trivial⟩)
                · rw [ite_t hb] at h
                  refine E_gm rfl ?_
                  refine E_pt rfl rfl ?_
                  refine E_nil ?_
                  exact E_jx _ h (wk_rn [some (0, 0), some (1, 0), some (2, 0)] rfl (Nat.le_of_ble_eq_true rfl) ⟨(rn_ob rfl rfl (.cons (rn_b rfl) (.cons (rn_b rfl) (.cons (rn_b rfl) (.cons (rn_b rfl) (.cons (rn_b rfl) (.nil (Nat.zero_le _))))))) rfl), (rn_ob rfl rfl (.cons (rn_b rfl) (.cons (rn_refL (encI .u8) rfl rfl rfl) (.cons (rn_b rfl) (.cons (rn_b rfl) (.cons (rn_b rfl) (.nil (Nat.zero_le _))))))) rfl), (rn_ob rfl rfl (.refl ((encI .u8).blwf 0 _)) rfl), trivial⟩ ⟨(rn_b (encS.blws 0)), (rn_ptr rfl rfl rfl rfl), (rn_ptr rfl rfl rfl rfl), (rn_b rfl), (rn_b rfl), trivial⟩)
              · refine E_sq ?_
                refine E_cs (t := s_21) rfl (fun hb => ?_) (fun hb => ?_)
                · rw [ite_t hb] at h
                  refine E_sq ?_
                  refine E_reg ?_
                  refine E_op (v' := (.agg [(.int .i64 (I64 val_2.1)), (.ref 2 1 0 (List.length s_5.2) none), (.bool (ByteArray.toList y_15 == ByteArray.toList (ByteArray.mk #[49]))), (.int .i64 (-1)), .nils])) (S' := [.arr 0 [(.int .i64 0), .nils, (.bool false), (.int .i64 0), .nils], .arr 0 [(.int .i64 (I64 val_2.1)), (.ref 2 1 0 (List.length s_5.2) none), (.bool (ByteArray.toList y_15 == ByteArray.toList (ByteArray.mk #[49]))), (.int .i64 (-1)), .nils], .arr 1 (flat (avI .u8) s_5.2)]) rfl rfl rfl ?_
                  refine E_do (S' := [.arr 0 [(.int .i64 (I64 val_2.1)), (.ref 2 1 0 (List.length s_5.2) none), (.bool (ByteArray.toList y_15 == ByteArray.toList (ByteArray.mk #[49]))), (.int .i64 (-1)), .nils], .arr 0 [(.int .i64 (I64 val_2.1)), (.ref 2 1 0 (List.length s_5.2) none), (.bool (ByteArray.toList y_15 == ByteArray.toList (ByteArray.mk #[49]))), (.int .i64 (-1)), .nils], .arr 1 (flat (avI .u8) s_5.2)]) rfl rfl ?_
                  refine E_mv (v' := (.bool false)) rfl ?_
                  refine E_nil ?_
                  refine E_nx ?_
                  refine E_ret ?_
                  refine E_thr ?_
                  refine E_thr ?_
                  cases h
                  exact ⟨trivial, _, rfl, (fz_tup ⟨(fz_agg ⟨(fz_b rfl (.refl _)), (fz_ref (encI .u8) (Nat.zero_le _) rfl), (fz_b rfl (.refl _)), (fz_b rfl (.refl _)), (fz_b rfl .nil), trivial⟩), (fz_b rfl (.refl _)), trivial⟩)⟩
                · rw [ite_f hb] at h
                  refine E_skip ?_
                  refine E_nx ?_
                  refine E_reg ?_
                  refine E_mv (v' := (.int .u64 val_19.1)) rfl ?_
                  refine E_op0 (v' := (.int .i64 (I64 val_19.1))) rfl rfl ?_
                  refine E_op0 (v' := (.ptr 1 0 3)) rfl rfl ?_
                  refine E_do (S' := [.arr 0 [(.int .i64 0), .nils, (.bool false), (.int .i64 0), .nils], .arr 0 [(.int .i64 (I64 val_2.1)), (.ref 2 1 0 (List.length s_5.2) none), (.bool (ByteArray.toList y_15 == ByteArray.toList (ByteArray.mk #[49]))), (.int .i64 (I64 val_19.1)), .nils], .arr 1 (flat (avI .u8) s_5.2)]) rfl rfl ?_
                  refine E_nil ?_
                  exact E_jx _ h (wk_rn [some (0, 0), some (1, 0), some (2, 0)] rfl (Nat.le_of_ble_eq_true rfl) ⟨(rn_ob rfl rfl (.cons (rn_b rfl) (.cons (rn_b rfl) (.cons (rn_b rfl) (.cons (rn_b rfl) (.cons (rn_b rfl) (.nil (Nat.zero_le _))))))) rfl), (rn_ob rfl rfl (.cons (rn_b rfl) (.cons (rn_refL (encI .u8) rfl rfl rfl) (.cons (rn_b rfl) (.cons (rn_b rfl) (.cons (rn_b rfl) (.nil (Nat.zero_le _))))))) rfl), (rn_ob rfl rfl (.refl ((encI .u8).blwf 0 _)) rfl), trivial⟩ ⟨(rn_b (encS.blws 0)), (rn_ptr rfl rfl rfl rfl), (rn_ptr rfl rfl rfl rfl), trivial⟩)
            · rw [ite_f hb] at h
              refine E_skip ?_
              exact E_jx _ h (wk_rn [some (0, 0), some (1, 0), some (2, 0)] rfl (Nat.le_of_ble_eq_true rfl) ⟨(rn_ob rfl rfl (.cons (rn_b rfl) (.cons (rn_b rfl) (.cons (rn_b rfl) (.cons (rn_b rfl) (.cons (rn_b rfl) (.nil (Nat.zero_le _))))))) rfl), (rn_ob rfl rfl (.cons (rn_b rfl) (.cons (rn_refL (encI .u8) rfl rfl rfl) (.cons (rn_b rfl) (.cons (rn_b rfl) (.cons (rn_b rfl) (.nil (Nat.zero_le _))))))) rfl), (rn_ob rfl rfl (.refl ((encI .u8).blwf 0 _)) rfl), trivial⟩ ⟨(rn_b (encS.blws 0)), (rn_ptr rfl rfl rfl rfl), (rn_ptr rfl rfl rfl rfl), trivial⟩)
          · refine E_sq ?_
            refine E_regp ?_
            refine E_opw (v' := (Func.av (Func.mk (I64 val_2.1) s_5.2 (ByteArray.toList y_15 == ByteArray.toList (ByteArray.mk #[49])) s_18 []))) rfl (.aggL ⟨(.refl _), (.refl _), (.refl _), (.refl _), .nil, trivial⟩) rfl ?_
            refine E_opw (v' := (Func.av (Func.mk (I64 val_2.1) s_5.2 (ByteArray.toList y_15 == ByteArray.toList (ByteArray.mk #[49])) s_18 []))) rfl (.aggL ⟨(.refl _), (.refl _), (.refl _), (.refl _), .nil, trivial⟩) rfl ?_
            obtain ⟨hea_22, hhea_22, h⟩ := bd_some h
            refine E_callW (windlassref04_Head_ev (fuel := fuel)  hhea_22) rfl ⟨(.refl _), trivial⟩ (blwL_of ⟨(Func.enc.blw _ 0), trivial⟩) rfl ?_
            refine E_mv (v' := (.sl false 1 (List.map avS w_00))) rfl ?_
            obtain ⟨joi_23, hjoi_23, h⟩ := bd_some h
            refine E_callW (windlassref04_joined_ev  hjoi_23) rfl ⟨(.refl _), trivial⟩ (blwL_of ⟨(encS.blws 0), trivial⟩) rfl ?_
            refine E_op0 (v' := (.bool (ByteArray.toList hea_22 == ByteArray.toList joi_23))) rfl rfl ?_
            refine E_do (S' := [.arr 0 [(.int .i64 (I64 val_2.1)), (.sl false 1 (List.map (avI .u8) s_5.2)), (.bool (ByteArray.toList y_15 == ByteArray.toList (ByteArray.mk #[49]))), (.int .i64 s_18), (.sl false 3 (List.map Instr.av []))], .arr 0 [(.int .i64 (I64 val_2.1)), (.sl false 1 (List.map (avI .u8) s_5.2)), (.bool (ByteArray.toList y_15 == ByteArray.toList (ByteArray.mk #[49]))), (.int .i64 s_18), .nils]]) rfl rfl ?_
            refine E_mv (v' := (.bool (ByteArray.toList hea_22 == ByteArray.toList joi_23))) rfl ?_
            refine E_nil ?_
            refine And.intro (by simp [okLog, nthL, okPair, hp, fpOf]) ?_
            refine E_nx ?_
            refine E_ret ?_
            cases h
            exact ⟨trivial, _, rfl, (fz_tup ⟨(fz_agg ⟨(fz_b rfl (.refl _)), (fz_b ((encI .u8).blws 0) (.refl _)), (fz_b rfl (.refl _)), (fz_b rfl (.refl _)), (fz_b (Instr.enc.blws 0) (.refl _)), trivial⟩), (fz_b rfl (.refl _)), trivial⟩)⟩
/- windlass/windlassref03.Width -/
def fc69 : FC := (.seq (.reg [⟨(some 2), none, .op (.mv (.v (.int .i64 0)))⟩] [])
  (.seq (.seq (.reg [⟨(some 3), none, .op (.mv (.t 0))⟩,
  ⟨(some 4), none, .op (.bin .none .lss (.t 3) (.v (.int .u8 1)))⟩,
  ⟨(some 5), none, .op (.mv (.t 4))⟩,
  ⟨(some 6), some (5, false), .op (.mv (.t 0))⟩,
  ⟨(some 7), some (5, false), .op (.bin .none .gtr (.t 6) (.v (.int .u8 32)))⟩,
  ⟨(some 8), none, .op (.pick (.t 5) (.v (.bool true)) (.t 7))⟩] [])
  (.cond (.t 8)
  (.seq (.reg [⟨(some 2), none, .op (.mv (.v (.int .i64 (-1))))⟩] [])
  .ret)
  .skip))
  (.seq (.seq (.reg [⟨(some 9), none, .op (.mv (.t 0))⟩,
  ⟨(some 10), none, .op (.bin .none .eql (.t 9) (.v (.int .u8 1)))⟩] [])
  (.cond (.t 10)
  (.seq (.reg [⟨(some 2), none, .op (.mv (.v (.int .i64 8)))⟩] [])
  .ret)
  .skip))
  (.seq (.seq (.reg [⟨(some 11), none, .op (.mv (.t 0))⟩,
  ⟨(some 12), none, .op (.bin .none .eql (.t 11) (.v (.int .u8 2)))⟩,
  ⟨(some 13), none, .op (.mv (.t 12))⟩,
  ⟨(some 14), some (13, false), .op (.mv (.t 0))⟩,
  ⟨(some 15), some (13, false), .op (.bin .none .eql (.t 14) (.v (.int .u8 3)))⟩,
  ⟨(some 16), none, .op (.pick (.t 13) (.v (.bool true)) (.t 15))⟩,
  ⟨(some 17), none, .op (.mv (.t 16))⟩,
  ⟨(some 18), some (17, false), .op (.mv (.t 0))⟩,
  ⟨(some 19), some (17, false), .op (.bin .none .eql (.t 18) (.v (.int .u8 4)))⟩,
  ⟨(some 20), none, .op (.pick (.t 17) (.v (.bool true)) (.t 19))⟩,
  ⟨(some 21), none, .op (.mv (.t 20))⟩,
  ⟨(some 22), some (21, false), .op (.mv (.t 0))⟩,
  ⟨(some 23), some (21, false), .op (.bin .none .eql (.t 22) (.v (.int .u8 23)))⟩,
  ⟨(some 24), none, .op (.pick (.t 21) (.v (.bool true)) (.t 23))⟩,
  ⟨(some 25), none, .op (.mv (.t 24))⟩,
  ⟨(some 26), some (25, false), .op (.mv (.t 0))⟩,
  ⟨(some 27), some (25, false), .op (.bin .none .eql (.t 26) (.v (.int .u8 25)))⟩,
  ⟨(some 28), none, .op (.pick (.t 25) (.v (.bool true)) (.t 27))⟩] [])
  (.cond (.t 28)
  (.seq (.reg [⟨(some 2), none, .op (.mv (.v (.int .i64 1)))⟩] [])
  .ret)
  .skip))
  (.seq (.seq (.reg [⟨(some 29), none, .op (.mv (.t 0))⟩,
  ⟨(some 30), none, .op (.bin .none .eql (.t 29) (.v (.int .u8 21)))⟩,
  ⟨(some 31), none, .op (.mv (.t 30))⟩,
  ⟨(some 32), some (31, false), .op (.mv (.t 0))⟩,
  ⟨(some 33), some (31, false), .op (.bin .none .eql (.t 32) (.v (.int .u8 22)))⟩,
  ⟨(some 34), none, .op (.pick (.t 31) (.v (.bool true)) (.t 33))⟩] [])
  (.cond (.t 34)
  (.seq (.reg [⟨(some 2), none, .op (.mv (.v (.int .i64 2)))⟩] [])
  .ret)
  .skip))
  (.seq (.reg [⟨(some 2), none, .op (.mv (.v (.int .i64 0)))⟩] [])
  .ret))))))
theorem fn69 : Fn3 Tryd.prog 69 35 [(2, none)] fc69 := ⟨_, _, Tryd.func69, rfl, rfl, rfl, by kernel_rfl⟩
def windlassref03_Width_s (op_00 : Int) : Option Int :=
  (jp (fun (s_2 : Bool) => (if s_2 then (some (-1)) else (if (op_00 == 1) then (some 8) else (jp (fun (s_4 : Bool) => (if s_4 then (some 1) else (jp (fun (s_6 : Bool) => (if s_6 then (some 2) else (some 0))) (fun k_5 => (if (op_00 == 21) then (k_5 true) else (k_5 (op_00 == 22))))))) (fun k_3 => (if (op_00 == 2) then (k_3 true) else (if (op_00 == 3) then (k_3 true) else (if (op_00 == 4) then (k_3 true) else (if (op_00 == 23) then (k_3 true) else (k_3 (op_00 == 25))))))))))) (fun k_1 => (if (decide (op_00 < 1)) then (k_1 true) else (k_1 (decide (op_00 > 32))))))
theorem windlassref03_Width_ev {op_00 : Int} {r : Int} (h : windlassref03_Width_s op_00 = some r) : PureEv Tryd.prog 69 [(.int .u8 op_00)] (.int .i64 r) := by
  unfold windlassref03_Width_s at h
  refine PureEv_end mixed fn69 (by simp) [] 6 ?_
  unfold fc69
  refine E_sq ?_
  refine E_reg ?_
  refine E_mv (v' := (.int .i64 0)) rfl ?_
  refine E_nil ?_
  refine E_nx ?_
  refine E_as ?_
  refine E_jp h (fun s_2 => [(0, (.int .u8 op_00)), (8, (.bool s_2))]) (fun s_2 => []) (fun k_1 h => ?_) (fun s_2 h => ?_)
  · refine E_reg ?_
    refine E_mv (v' := (.int .u8 op_00)) rfl ?_
    refine E_op0 (v' := (.bool (decide (op_00 < 1)))) rfl rfl ?_
    refine E_mv (v' := (.bool (decide (op_00 < 1)))) rfl ?_
    refine E_gsT (b := (decide (op_00 < 1))) rfl rfl rfl (fun hb => ?_) (fun hb => ?_)
    · rw [ite_f hb] at h
      refine E_mv (v' := (.int .u8 op_00)) rfl ?_
      refine E_gh rfl ?_
      refine E_op0 (v' := (.bool (decide (op_00 > 32)))) rfl rfl ?_
      refine E_pf rfl rfl ?_
      refine E_nil ?_
      exact E_jx _ h (wk_aw ⟨(.refl _), (.refl _), trivial⟩)
    · rw [ite_t hb] at h
      refine E_gm rfl ?_
      refine E_pt rfl rfl ?_
      refine E_nil ?_
      exact E_jx _ h (wk_aw ⟨(.refl _), (.refl _), trivial⟩)
  · refine E_sq ?_
    refine E_cs (t := s_2) rfl (fun hb => ?_) (fun hb => ?_)
    · rw [ite_t hb] at h
      refine E_sq ?_
      refine E_reg ?_
      refine E_mv (v' := (.int .i64 (-1))) rfl ?_
      refine E_nil ?_
      refine E_nx ?_
      refine E_ret ?_
      refine E_thr ?_
      cases h
      exact ⟨trivial, _, rfl, (fz_b rfl (.refl _))⟩
    · rw [ite_f hb] at h
      refine E_skip ?_
      refine E_nx ?_
      refine E_as ?_
      refine E_sq ?_
      refine E_reg ?_
      refine E_mv (v' := (.int .u8 op_00)) rfl ?_
      refine E_op0 (v' := (.bool (op_00 == 1))) rfl rfl ?_
      refine E_nil ?_
      refine E_nx ?_
      refine E_sq ?_
      refine E_cs (t := (op_00 == 1)) rfl (fun hb => ?_) (fun hb => ?_)
      · rw [ite_t hb] at h
        refine E_sq ?_
        refine E_reg ?_
        refine E_mv (v' := (.int .i64 8)) rfl ?_
        refine E_nil ?_
        refine E_nx ?_
        refine E_ret ?_
        refine E_thr ?_
        cases h
        exact ⟨trivial, _, rfl, (fz_b rfl (.refl _))⟩
      · rw [ite_f hb] at h
        refine E_skip ?_
        refine E_nx ?_
        refine E_as ?_
        refine E_jp h (fun s_4 => [(0, (.int .u8 op_00)), (28, (.bool s_4))]) (fun s_4 => []) (fun k_3 h => ?_) (fun s_4 h => ?_)
        · refine E_reg ?_
          refine E_mv (v' := (.int .u8 op_00)) rfl ?_
          refine E_op0 (v' := (.bool (op_00 == 2))) rfl rfl ?_
          refine E_mv (v' := (.bool (op_00 == 2))) rfl ?_
          refine E_gsT (b := (op_00 == 2)) rfl rfl rfl (fun hb => ?_) (fun hb => ?_)
          · rw [ite_f hb] at h
            refine E_mv (v' := (.int .u8 op_00)) rfl ?_
            refine E_gh rfl ?_
            refine E_op0 (v' := (.bool (op_00 == 3))) rfl rfl ?_
            refine E_pf rfl rfl ?_
            refine E_mv (v' := (.bool (op_00 == 3))) rfl ?_
            refine E_gsT (b := (op_00 == 3)) rfl rfl rfl (fun hb => ?_) (fun hb => ?_)
            · rw [ite_f hb] at h
              refine E_mv (v' := (.int .u8 op_00)) rfl ?_
              refine E_gh rfl ?_
              refine E_op0 (v' := (.bool (op_00 == 4))) rfl rfl ?_
              refine E_pf rfl rfl ?_
              refine E_mv (v' := (.bool (op_00 == 4))) rfl ?_
              refine E_gsT (b := (op_00 == 4)) rfl rfl rfl (fun hb => ?_) (fun hb => ?_)
              · rw [ite_f hb] at h
                refine E_mv (v' := (.int .u8 op_00)) rfl ?_
                refine E_gh rfl ?_
                refine E_op0 (v' := (.bool (op_00 == 23))) rfl rfl ?_
                refine E_pf rfl rfl ?_
                refine E_mv (v' := (.bool (op_00 == 23))) rfl ?_
                refine E_gsT (b := (op_00 == 23)) rfl rfl rfl (fun hb => ?_) (fun hb => ?_)
                · rw [ite_f hb] at h
                  refine E_mv (v' := (.int .u8 op_00)) rfl ?_
                  refine E_gh rfl ?_
                  refine E_op0 (v' := (.bool (op_00 == 25))) rfl rfl ?_
                  refine E_pf rfl rfl ?_
                  refine E_nil ?_
                  exact E_jx _ h (wk_aw ⟨(.refl _), (.refl _), trivial⟩)
                · rw [ite_t hb] at h
                  refine E_gm rfl ?_
                  refine E_pt rfl rfl ?_
                  refine E_nil ?_
                  exact E_jx _ h (wk_aw ⟨(.refl _), (.refl _), trivial⟩)
              · rw [ite_t hb] at h
                refine E_gm rfl ?_
                refine E_pt rfl rfl ?_
                refine E_mv (v' := (.bool true)) rfl ?_
                refine E_gm rfl ?_
                refine E_gm rfl ?_
                refine E_pt rfl rfl ?_
                refine E_nil ?_
                exact E_jx _ h (wk_aw ⟨(.refl _), (.refl _), trivial⟩)
            · rw [ite_t hb] at h
              refine E_gm rfl ?_
              refine E_pt rfl rfl ?_
              refine E_mv (v' := (.bool true)) rfl ?_
              refine E_gm rfl ?_
              refine E_gm rfl ?_
              refine E_pt rfl rfl ?_
              refine E_mv (v' := (.bool true)) rfl ?_
              refine E_gm rfl ?_
              refine E_gm rfl ?_
              refine E_pt rfl rfl ?_
              refine E_nil ?_
              exact E_jx _ h (wk_aw ⟨(.refl _), (.refl _), trivial⟩)
          · rw [ite_t hb] at h
            refine E_gm rfl ?_
            refine E_pt rfl rfl ?_
            refine E_mv (v' := (.bool true)) rfl ?_
            refine E_gm rfl ?_
            refine E_gm rfl ?_
            refine E_pt rfl rfl ?_
            refine E_mv (v' := (.bool true)) rfl ?_
            refine E_gm rfl ?_
            refine E_gm rfl ?_
            refine E_pt rfl rfl ?_
            refine E_mv (v' := (.bool true)) rfl ?_
            refine E_gm rfl ?_
            refine E_gm rfl ?_
            refine E_pt rfl rfl ?_
            refine E_nil ?_
            exact E_jx _ h (wk_aw ⟨(.refl _), (.refl _), trivial⟩)
        · refine E_sq ?_
          refine E_cs (t := s_4) rfl (fun hb => ?_) (fun hb => ?_)
          · rw [ite_t hb] at h
            refine E_sq ?_
            refine E_reg ?_
            refine E_mv (v' := (.int .i64 1)) rfl ?_
            refine E_nil ?_
            refine E_nx ?_
            refine E_ret ?_
            refine E_thr ?_
            cases h
            exact ⟨trivial, _, rfl, (fz_b rfl (.refl _))⟩
          · rw [ite_f hb] at h
            refine E_skip ?_
            refine E_nx ?_
            refine E_as ?_
            refine E_jp h (fun s_6 => [(34, (.bool s_6))]) (fun s_6 => []) (fun k_5 h => ?_) (fun s_6 h => ?_)
            · refine E_reg ?_
              refine E_mv (v' := (.int .u8 op_00)) rfl ?_
              refine E_op0 (v' := (.bool (op_00 == 21))) rfl rfl ?_
              refine E_mv (v' := (.bool (op_00 == 21))) rfl ?_
              refine E_gsT (b := (op_00 == 21)) rfl rfl rfl (fun hb => ?_) (fun hb => ?_)
              · rw [ite_f hb] at h
                refine E_mv (v' := (.int .u8 op_00)) rfl ?_
                refine E_gh rfl ?_
                refine E_op0 (v' := (.bool (op_00 == 22))) rfl rfl ?_
                refine E_pf rfl rfl ?_
                refine E_nil ?_
                exact E_jx _ h (wk_aw ⟨(.refl _), trivial⟩)
              · rw [ite_t hb] at h
                refine E_gm rfl ?_
                refine E_pt rfl rfl ?_
                refine E_nil ?_
                exact E_jx _ h (wk_aw ⟨(.refl _), trivial⟩)
            · refine E_sq ?_
              refine E_cs (t := s_6) rfl (fun hb => ?_) (fun hb => ?_)
              · rw [ite_t hb] at h
                refine E_sq ?_
                refine E_reg ?_
                refine E_mv (v' := (.int .i64 2)) rfl ?_
                refine E_nil ?_
                refine E_nx ?_
                refine E_ret ?_
                refine E_thr ?_
                cases h
                exact ⟨trivial, _, rfl, (fz_b rfl (.refl _))⟩
              · rw [ite_f hb] at h
                refine E_skip ?_
                refine E_nx ?_
                refine E_sq ?_
                refine E_reg ?_
                refine E_mv (v' := (.int .i64 0)) rfl ?_
                refine E_nil ?_
                refine E_nx ?_
                refine E_ret ?_
                cases h
                exact ⟨trivial, _, rfl, (fz_b rfl (.refl _))⟩
/- windlass/windlassref03.Says -/
def fc68 : FC := (.seq (.reg [⟨(some 1), none, .op (.box (.t 0))⟩,
  ⟨(some 2), none, .op (.mv (.v (.bool false)))⟩] [])
  (.seq (.seq (.reg [⟨(some 3), none, .op (.fad 0 (.t 1))⟩,
  ⟨(some 4), none, .op (.load none (.t 3))⟩,
  ⟨(some 5), none, .call 69 [(.t 4)]⟩] [])
  (.block 0 (.seq (.reg [⟨(some 7), none, .op (.bin .none .eql (.t 5) (.v (.int .i64 8)))⟩,
  ⟨(some 6), none, .op (.mv (.t 7))⟩] [])
  (.cond (.t 6)
  (.seq (.reg [⟨(some 8), none, .op (.fad 1 (.t 1))⟩,
  ⟨(some 9), none, .op (.load none (.t 8))⟩,
  ⟨(some 10), none, .op (.bin .none .eql (.t 9) (.v (.int .i64 0)))⟩,
  ⟨(some 2), none, .op (.mv (.t 10))⟩] [])
  .ret)
  (.seq (.reg [⟨(some 12), none, .op (.bin .none .eql (.t 5) (.v (.int .i64 1)))⟩,
  ⟨(some 11), none, .op (.mv (.t 12))⟩] [])
  (.cond (.t 11)
  (.seq (.reg [⟨(some 13), none, .op (.fad 2 (.t 1))⟩,
  ⟨(some 14), none, .op (.load none (.t 13))⟩,
  ⟨(some 15), none, .op (.bin .none .eql (.t 14) (.v (.int .u64 0)))⟩,
  ⟨(some 16), none, .op (.mv (.t 15))⟩,
  ⟨(some 17), some (16, true), .op (.fad 1 (.t 1))⟩,
  ⟨(some 18), some (16, true), .op (.load none (.t 17))⟩,
  ⟨(some 19), some (16, true), .op (.bin .none .geq (.t 18) (.v (.int .i64 0)))⟩,
  ⟨(some 20), none, .op (.pick (.t 16) (.t 19) (.v (.bool false)))⟩,
  ⟨(some 21), none, .op (.mv (.t 20))⟩,
  ⟨(some 22), some (21, true), .op (.fad 1 (.t 1))⟩,
  ⟨(some 23), some (21, true), .op (.load none (.t 22))⟩,
  ⟨(some 24), some (21, true), .op (.bin .none .leq (.t 23) (.v (.int .i64 255)))⟩,
  ⟨(some 25), none, .op (.pick (.t 21) (.t 24) (.v (.bool false)))⟩,
  ⟨(some 2), none, .op (.mv (.t 25))⟩] [])
  .ret)
  (.seq (.reg [⟨(some 27), none, .op (.bin .none .eql (.t 5) (.v (.int .i64 2)))⟩,
  ⟨(some 26), none, .op (.mv (.t 27))⟩] [])
  (.cond (.t 26)
  (.seq (.reg [⟨(some 28), none, .op (.fad 2 (.t 1))⟩,
  ⟨(some 29), none, .op (.load none (.t 28))⟩,
  ⟨(some 30), none, .op (.bin .none .eql (.t 29) (.v (.int .u64 0)))⟩,
  ⟨(some 31), none, .op (.mv (.t 30))⟩,
  ⟨(some 32), some (31, true), .op (.fad 1 (.t 1))⟩,
  ⟨(some 33), some (31, true), .op (.load none (.t 32))⟩,
  ⟨(some 34), some (31, true), .op (.bin .none .geq (.t 33) (.v (.int .i64 0)))⟩,
  ⟨(some 35), none, .op (.pick (.t 31) (.t 34) (.v (.bool false)))⟩,
  ⟨(some 36), none, .op (.mv (.t 35))⟩,
  ⟨(some 37), some (36, true), .op (.fad 1 (.t 1))⟩,
  ⟨(some 38), some (36, true), .op (.load none (.t 37))⟩,
  ⟨(some 39), some (36, true), .op (.bin .none .leq (.t 38) (.v (.int .i64 65535)))⟩,
  ⟨(some 40), none, .op (.pick (.t 36) (.t 39) (.v (.bool false)))⟩,
  ⟨(some 2), none, .op (.mv (.t 40))⟩] [])
  .ret)
  (.seq (.reg [⟨(some 42), none, .op (.bin .none .eql (.t 5) (.v (.int .i64 0)))⟩,
  ⟨(some 41), none, .op (.mv (.t 42))⟩] [])
  (.cond (.t 41)
  (.seq (.reg [⟨(some 43), none, .op (.fad 2 (.t 1))⟩,
  ⟨(some 44), none, .op (.load none (.t 43))⟩,
  ⟨(some 45), none, .op (.bin .none .eql (.t 44) (.v (.int .u64 0)))⟩,
  ⟨(some 46), none, .op (.mv (.t 45))⟩,
  ⟨(some 47), some (46, true), .op (.fad 1 (.t 1))⟩,
  ⟨(some 48), some (46, true), .op (.load none (.t 47))⟩,
  ⟨(some 49), some (46, true), .op (.bin .none .eql (.t 48) (.v (.int .i64 0)))⟩,
  ⟨(some 50), none, .op (.pick (.t 46) (.t 49) (.v (.bool false)))⟩,
  ⟨(some 2), none, .op (.mv (.t 50))⟩] [])
  .ret)
  .skip))))))))))
  (.seq (.reg [⟨(some 2), none, .op (.mv (.v (.bool false)))⟩] [])
  .ret)))
theorem fn68 : Fn3 Tryd.prog 68 51 [(2, none)] fc68 := ⟨_, _, Tryd.func68, rfl, rfl, rfl, by kernel_rfl⟩
def windlassref03_Says_s (i_00 : Instr) : Option Bool :=
  ((windlassref03_Width_s i_00.Op).bind fun wid_1 => (if (wid_1 == 8) then (some (i_00.Arg == 0)) else (if (wid_1 == 1) then (jp (fun (s_3 : Bool) => (some s_3)) (fun k_2 => (if (i_00.Imm == 0) then (if (decide (i_00.Arg ≥ 0)) then (k_2 (decide (i_00.Arg ≤ 255))) else (k_2 false)) else (k_2 false)))) else (if (wid_1 == 2) then (jp (fun (s_5 : Bool) => (some s_5)) (fun k_4 => (if (i_00.Imm == 0) then (if (decide (i_00.Arg ≥ 0)) then (k_4 (decide (i_00.Arg ≤ 65535))) else (k_4 false)) else (k_4 false)))) else (if (wid_1 == 0) then (jp (fun (s_7 : Bool) => (some s_7)) (fun k_6 => (if (i_00.Imm == 0) then (k_6 (i_00.Arg == 0)) else (k_6 false)))) else (some false))))))
theorem windlassref03_Says_ev {i_00 : Instr} {r : Bool} (h : windlassref03_Says_s i_00 = some r) : PureEv Tryd.prog 68 [(Instr.av i_00)] (.bool r) := by
  unfold windlassref03_Says_s at h
  refine PureEv_end mixed fn68 (by simp) [] 6 ?_
  unfold fc68
  refine E_sq ?_
  refine E_reg ?_
  refine E_op0 (v' := (.cptr (Instr.av i_00).cells 0)) rfl rfl ?_
  refine E_mv (v' := (.bool false)) rfl ?_
  refine E_nil ?_
  refine E_nx ?_
  refine E_as ?_
  refine E_sq ?_
  refine E_reg ?_
  refine E_op0 (v' := (.cptr (Instr.av i_00).cells 0)) rfl rfl ?_
  refine E_op0 (v' := (.int .u8 i_00.Op)) rfl rfl ?_
  obtain ⟨wid_1, hwid_1, h⟩ := bd_some h
  refine E_callW (windlassref03_Width_ev  hwid_1) rfl ⟨(.refl _), trivial⟩ (blwL_of ⟨rfl, trivial⟩) rfl ?_
  refine E_nil ?_
  refine E_nx ?_
  refine E_sq ?_
  refine E_block ?_
  refine E_sq ?_
  refine E_reg ?_
  refine E_op0 (v' := (.bool (wid_1 == 8))) rfl rfl ?_
  refine E_mv (v' := (.bool (wid_1 == 8))) rfl ?_
  refine E_nil ?_
  refine E_nx ?_
  refine E_cs (t := (wid_1 == 8)) rfl (fun hb => ?_) (fun hb => ?_)
  · rw [ite_t hb] at h
    refine E_sq ?_
    refine E_reg ?_
    refine E_op0 (v' := (.cptr (Instr.av i_00).cells 1)) rfl rfl ?_
    refine E_op0 (v' := (.int .i64 i_00.Arg)) rfl rfl ?_
    refine E_op0 (v' := (.bool (i_00.Arg == 0))) rfl rfl ?_
    refine E_mv (v' := (.bool (i_00.Arg == 0))) rfl ?_
    refine E_nil ?_
    refine E_nx ?_
    refine E_ret ?_
    refine E_blr ?_
    refine E_thr ?_
    cases h
    exact ⟨trivial, _, rfl, (fz_b rfl (.refl _))⟩
  · rw [ite_f hb] at h
    refine E_sq ?_
    refine E_reg ?_
    refine E_op0 (v' := (.bool (wid_1 == 1))) rfl rfl ?_
    refine E_mv (v' := (.bool (wid_1 == 1))) rfl ?_
    refine E_nil ?_
    refine E_nx ?_
    refine E_cs (t := (wid_1 == 1)) rfl (fun hb => ?_) (fun hb => ?_)
    · rw [ite_t hb] at h
      refine E_jp h (fun s_3 => [(2, (.bool s_3))]) (fun s_3 => []) (fun k_2 h => ?_) (fun s_3 h => ?_)
      · refine E_reg ?_
        refine E_op0 (v' := (.cptr (Instr.av i_00).cells 2)) rfl rfl ?_
        refine E_op0 (v' := (.int .u64 i_00.Imm)) rfl rfl ?_
        refine E_op0 (v' := (.bool (i_00.Imm == 0))) rfl rfl ?_
        refine E_mv (v' := (.bool (i_00.Imm == 0))) rfl ?_
        refine E_gsT (b := (i_00.Imm == 0)) rfl rfl rfl (fun hb => ?_) (fun hb => ?_)
        · rw [ite_t hb] at h
          refine E_op0 (v' := (.cptr (Instr.av i_00).cells 1)) rfl rfl ?_
          refine E_gh rfl ?_
          refine E_op0 (v' := (.int .i64 i_00.Arg)) rfl rfl ?_
          refine E_gh rfl ?_
          refine E_op0 (v' := (.bool (decide (i_00.Arg ≥ 0)))) rfl rfl ?_
          refine E_pt rfl rfl ?_
          refine E_mv (v' := (.bool (decide (i_00.Arg ≥ 0)))) rfl ?_
          refine E_gsT (b := (decide (i_00.Arg ≥ 0))) rfl rfl rfl (fun hb => ?_) (fun hb => ?_)
          · rw [ite_t hb] at h
            refine E_op0 (v' := (.cptr (Instr.av i_00).cells 1)) rfl rfl ?_
            refine E_gh rfl ?_
            refine E_op0 (v' := (.int .i64 i_00.Arg)) rfl rfl ?_
            refine E_gh rfl ?_
            refine E_op0 (v' := (.bool (decide (i_00.Arg ≤ 255)))) rfl rfl ?_
            refine E_pt rfl rfl ?_
            refine E_mv (v' := (.bool (decide (i_00.Arg ≤ 255)))) rfl ?_
            refine E_nil ?_
            exact E_jx _ h (wk_aw ⟨(.refl _), trivial⟩)
          · rw [ite_f hb] at h
            refine E_gm rfl ?_
            refine E_gm rfl ?_
            refine E_pf rfl rfl ?_
            refine E_mv (v' := (.bool false)) rfl ?_
            refine E_nil ?_
            exact E_jx _ h (wk_aw ⟨(.refl _), trivial⟩)
        · rw [ite_f hb] at h
          refine E_gm rfl ?_
          refine E_gm rfl ?_
          refine E_pf rfl rfl ?_
          refine E_mv (v' := (.bool false)) rfl ?_
          refine E_gm rfl ?_
          refine E_gm rfl ?_
          refine E_gm rfl ?_
          refine E_pf rfl rfl ?_
          refine E_mv (v' := (.bool false)) rfl ?_
          refine E_nil ?_
          exact E_jx _ h (wk_aw ⟨(.refl _), trivial⟩)
      · refine E_ret ?_
        refine E_blr ?_
        refine E_thr ?_
        cases h
        exact ⟨trivial, _, rfl, (fz_b rfl (.refl _))⟩
    · rw [ite_f hb] at h
      refine E_sq ?_
      refine E_reg ?_
      refine E_op0 (v' := (.bool (wid_1 == 2))) rfl rfl ?_
      refine E_mv (v' := (.bool (wid_1 == 2))) rfl ?_
      refine E_nil ?_
      refine E_nx ?_
      refine E_cs (t := (wid_1 == 2)) rfl (fun hb => ?_) (fun hb => ?_)
      · rw [ite_t hb] at h
        refine E_jp h (fun s_5 => [(2, (.bool s_5))]) (fun s_5 => []) (fun k_4 h => ?_) (fun s_5 h => ?_)
        · refine E_reg ?_
          refine E_op0 (v' := (.cptr (Instr.av i_00).cells 2)) rfl rfl ?_
          refine E_op0 (v' := (.int .u64 i_00.Imm)) rfl rfl ?_
          refine E_op0 (v' := (.bool (i_00.Imm == 0))) rfl rfl ?_
          refine E_mv (v' := (.bool (i_00.Imm == 0))) rfl ?_
          refine E_gsT (b := (i_00.Imm == 0)) rfl rfl rfl (fun hb => ?_) (fun hb => ?_)
          · rw [ite_t hb] at h
            refine E_op0 (v' := (.cptr (Instr.av i_00).cells 1)) rfl rfl ?_
            refine E_gh rfl ?_
            refine E_op0 (v' := (.int .i64 i_00.Arg)) rfl rfl ?_
            refine E_gh rfl ?_
            refine E_op0 (v' := (.bool (decide (i_00.Arg ≥ 0)))) rfl rfl ?_
            refine E_pt rfl rfl ?_
            refine E_mv (v' := (.bool (decide (i_00.Arg ≥ 0)))) rfl ?_
            refine E_gsT (b := (decide (i_00.Arg ≥ 0))) rfl rfl rfl (fun hb => ?_) (fun hb => ?_)
            · rw [ite_t hb] at h
              refine E_op0 (v' := (.cptr (Instr.av i_00).cells 1)) rfl rfl ?_
              refine E_gh rfl ?_
              refine E_op0 (v' := (.int .i64 i_00.Arg)) rfl rfl ?_
              refine E_gh rfl ?_
              refine E_op0 (v' := (.bool (decide (i_00.Arg ≤ 65535)))) rfl rfl ?_
              refine E_pt rfl rfl ?_
              refine E_mv (v' := (.bool (decide (i_00.Arg ≤ 65535)))) rfl ?_
              refine E_nil ?_
              exact E_jx _ h (wk_aw ⟨(.refl _), trivial⟩)
            · rw [ite_f hb] at h
              refine E_gm rfl ?_
              refine E_gm rfl ?_
              refine E_pf rfl rfl ?_
              refine E_mv (v' := (.bool false)) rfl ?_
              refine E_nil ?_
              exact E_jx _ h (wk_aw ⟨(.refl _), trivial⟩)
          · rw [ite_f hb] at h
            refine E_gm rfl ?_
            refine E_gm rfl ?_
            refine E_pf rfl rfl ?_
            refine E_mv (v' := (.bool false)) rfl ?_
            refine E_gm rfl ?_
            refine E_gm rfl ?_
            refine E_gm rfl ?_
            refine E_pf rfl rfl ?_
            refine E_mv (v' := (.bool false)) rfl ?_
            refine E_nil ?_
            exact E_jx _ h (wk_aw ⟨(.refl _), trivial⟩)
        · refine E_ret ?_
          refine E_blr ?_
          refine E_thr ?_
          cases h
          exact ⟨trivial, _, rfl, (fz_b rfl (.refl _))⟩
      · rw [ite_f hb] at h
        refine E_sq ?_
        refine E_reg ?_
        refine E_op0 (v' := (.bool (wid_1 == 0))) rfl rfl ?_
        refine E_mv (v' := (.bool (wid_1 == 0))) rfl ?_
        refine E_nil ?_
        refine E_nx ?_
        refine E_cs (t := (wid_1 == 0)) rfl (fun hb => ?_) (fun hb => ?_)
        · rw [ite_t hb] at h
          refine E_jp h (fun s_7 => [(2, (.bool s_7))]) (fun s_7 => []) (fun k_6 h => ?_) (fun s_7 h => ?_)
          · refine E_reg ?_
            refine E_op0 (v' := (.cptr (Instr.av i_00).cells 2)) rfl rfl ?_
            refine E_op0 (v' := (.int .u64 i_00.Imm)) rfl rfl ?_
            refine E_op0 (v' := (.bool (i_00.Imm == 0))) rfl rfl ?_
            refine E_mv (v' := (.bool (i_00.Imm == 0))) rfl ?_
            refine E_gsT (b := (i_00.Imm == 0)) rfl rfl rfl (fun hb => ?_) (fun hb => ?_)
            · rw [ite_t hb] at h
              refine E_op0 (v' := (.cptr (Instr.av i_00).cells 1)) rfl rfl ?_
              refine E_gh rfl ?_
              refine E_op0 (v' := (.int .i64 i_00.Arg)) rfl rfl ?_
              refine E_gh rfl ?_
              refine E_op0 (v' := (.bool (i_00.Arg == 0))) rfl rfl ?_
              refine E_pt rfl rfl ?_
              refine E_mv (v' := (.bool (i_00.Arg == 0))) rfl ?_
              refine E_nil ?_
              exact E_jx _ h (wk_aw ⟨(.refl _), trivial⟩)
            · rw [ite_f hb] at h
              refine E_gm rfl ?_
              refine E_gm rfl ?_
              refine E_pf rfl rfl ?_
              refine E_mv (v' := (.bool false)) rfl ?_
              refine E_nil ?_
              exact E_jx _ h (wk_aw ⟨(.refl _), trivial⟩)
          · refine E_ret ?_
            refine E_blr ?_
            refine E_thr ?_
            cases h
            exact ⟨trivial, _, rfl, (fz_b rfl (.refl _))⟩
        · rw [ite_f hb] at h
          refine E_skip ?_
          refine E_bln ?_
          refine E_nx ?_
          refine E_sq ?_
          refine E_reg ?_
          refine E_mv (v' := (.bool false)) rfl ?_
          refine E_nil ?_
          refine E_nx ?_
          refine E_ret ?_
          cases h
          exact ⟨trivial, _, rfl, (fz_b rfl (.refl _))⟩
/- windlass/windlassref04.Name -/
def fc103 : FC := (.seq (.reg [⟨(some 2), none, .op (.mv (.v (.str (ByteArray.mk #[]))))⟩] [])
  (.seq (.reg [⟨(some 3), none, .op (.bsl none [(.str (ByteArray.mk #[]))] 32 [(0, 1, (.v (.str (ByteArray.mk #[99, 111, 110, 115, 116])))), (1, 1, (.v (.str (ByteArray.mk #[103, 101, 116])))), (2, 1, (.v (.str (ByteArray.mk #[115, 101, 116])))), (3, 1, (.v (.str (ByteArray.mk #[97, 100, 100, 114])))), (4, 1, (.v (.str (ByteArray.mk #[108, 111, 97, 100])))), (5, 1, (.v (.str (ByteArray.mk #[115, 116, 111, 114, 101])))), (6, 1, (.v (.str (ByteArray.mk #[97, 100, 100])))), (7, 1, (.v (.str (ByteArray.mk #[115, 117, 98])))), (8, 1, (.v (.str (ByteArray.mk #[109, 117, 108])))), (9, 1, (.v (.str (ByteArray.mk #[100, 105, 118])))), (10, 1, (.v (.str (ByteArray.mk #[114, 101, 109])))), (11, 1, (.v (.str (ByteArray.mk #[97, 110, 100])))), (12, 1, (.v (.str (ByteArray.mk #[111, 114])))), (13, 1, (.v (.str (ByteArray.mk #[120, 111, 114])))), (14, 1, (.v (.str (ByteArray.mk #[115, 104, 108])))), (15, 1, (.v (.str (ByteArray.mk #[115, 104, 114])))), (16, 1, (.v (.str (ByteArray.mk #[115, 97, 114])))), (17, 1, (.v (.str (ByteArray.mk #[101, 113])))), (18, 1, (.v (.str (ByteArray.mk #[108, 116])))), (19, 1, (.v (.str (ByteArray.mk #[98, 101, 108, 111, 119])))), (20, 1, (.v (.str (ByteArray.mk #[106, 117, 109, 112])))), (21, 1, (.v (.str (ByteArray.mk #[122, 101, 114, 111])))), (22, 1, (.v (.str (ByteArray.mk #[99, 97, 108, 108])))), (23, 1, (.v (.str (ByteArray.mk #[114, 101, 116])))), (24, 1, (.v (.str (ByteArray.mk #[100, 101, 102, 101, 114])))), (25, 1, (.v (.str (ByteArray.mk #[112, 97, 110, 105, 99])))), (26, 1, (.v (.str (ByteArray.mk #[114, 101, 99, 111, 118, 101, 114])))), (27, 1, (.v (.str (ByteArray.mk #[105, 110])))), (28, 1, (.v (.str (ByteArray.mk #[111, 117, 116])))), (29, 1, (.v (.str (ByteArray.mk #[101, 120, 105, 116])))), (30, 1, (.v (.str (ByteArray.mk #[100, 114, 111, 112])))), (31, 1, (.v (.str (ByteArray.mk #[100, 117, 112]))))])⟩,
  ⟨(some 4), none, .op (.mv (.t 0))⟩,
  ⟨(some 5), none, .op (.bin .none .sub (.t 4) (.v (.int .u8 1)))⟩,
  ⟨(some 6), none, .op (.iad none none (.t 3) (.t 5))⟩,
  ⟨(some 7), none, .op (.load none (.t 6))⟩,
  ⟨(some 2), none, .op (.mv (.t 7))⟩] [])
  .ret))
theorem fn103 : Fn3 Tryd.prog 103 8 [(2, none)] fc103 := ⟨_, _, Tryd.func103, rfl, rfl, rfl, by kernel_rfl⟩
def windlassref04_Name_s (op_00 : Int) : Option ByteArray :=
  ((getI [(ByteArray.mk #[99, 111, 110, 115, 116]), (ByteArray.mk #[103, 101, 116]), (ByteArray.mk #[115, 101, 116]), (ByteArray.mk #[97, 100, 100, 114]), (ByteArray.mk #[108, 111, 97, 100]), (ByteArray.mk #[115, 116, 111, 114, 101]), (ByteArray.mk #[97, 100, 100]), (ByteArray.mk #[115, 117, 98]), (ByteArray.mk #[109, 117, 108]), (ByteArray.mk #[100, 105, 118]), (ByteArray.mk #[114, 101, 109]), (ByteArray.mk #[97, 110, 100]), (ByteArray.mk #[111, 114]), (ByteArray.mk #[120, 111, 114]), (ByteArray.mk #[115, 104, 108]), (ByteArray.mk #[115, 104, 114]), (ByteArray.mk #[115, 97, 114]), (ByteArray.mk #[101, 113]), (ByteArray.mk #[108, 116]), (ByteArray.mk #[98, 101, 108, 111, 119]), (ByteArray.mk #[106, 117, 109, 112]), (ByteArray.mk #[122, 101, 114, 111]), (ByteArray.mk #[99, 97, 108, 108]), (ByteArray.mk #[114, 101, 116]), (ByteArray.mk #[100, 101, 102, 101, 114]), (ByteArray.mk #[112, 97, 110, 105, 99]), (ByteArray.mk #[114, 101, 99, 111, 118, 101, 114]), (ByteArray.mk #[105, 110]), (ByteArray.mk #[111, 117, 116]), (ByteArray.mk #[101, 120, 105, 116]), (ByteArray.mk #[100, 114, 111, 112]), (ByteArray.mk #[100, 117, 112])] (U8 (op_00 - 1))).bind fun y_1 => (some y_1))
theorem windlassref04_Name_ev {op_00 : Int} {r : ByteArray} (h : windlassref04_Name_s op_00 = some r) : PureEv Tryd.prog 103 [(.int .u8 op_00)] (.str r) := by
  unfold windlassref04_Name_s at h
  refine PureEv_end mixed fn103 (by simp) [] 6 ?_
  unfold fc103
  refine E_sq ?_
  refine E_reg ?_
  refine E_mv (v' := (.str (ByteArray.mk #[]))) rfl ?_
  refine E_nil ?_
  refine E_nx ?_
  refine E_sq ?_
  refine E_reg ?_
  refine E_opw (v := (.sl true 1 (List.map avS [(ByteArray.mk #[99, 111, 110, 115, 116]), (ByteArray.mk #[103, 101, 116]), (ByteArray.mk #[115, 101, 116]), (ByteArray.mk #[97, 100, 100, 114]), (ByteArray.mk #[108, 111, 97, 100]), (ByteArray.mk #[115, 116, 111, 114, 101]), (ByteArray.mk #[97, 100, 100]), (ByteArray.mk #[115, 117, 98]), (ByteArray.mk #[109, 117, 108]), (ByteArray.mk #[100, 105, 118]), (ByteArray.mk #[114, 101, 109]), (ByteArray.mk #[97, 110, 100]), (ByteArray.mk #[111, 114]), (ByteArray.mk #[120, 111, 114]), (ByteArray.mk #[115, 104, 108]), (ByteArray.mk #[115, 104, 114]), (ByteArray.mk #[115, 97, 114]), (ByteArray.mk #[101, 113]), (ByteArray.mk #[108, 116]), (ByteArray.mk #[98, 101, 108, 111, 119]), (ByteArray.mk #[106, 117, 109, 112]), (ByteArray.mk #[122, 101, 114, 111]), (ByteArray.mk #[99, 97, 108, 108]), (ByteArray.mk #[114, 101, 116]), (ByteArray.mk #[100, 101, 102, 101, 114]), (ByteArray.mk #[112, 97, 110, 105, 99]), (ByteArray.mk #[114, 101, 99, 111, 118, 101, 114]), (ByteArray.mk #[105, 110]), (ByteArray.mk #[111, 117, 116]), (ByteArray.mk #[101, 120, 105, 116]), (ByteArray.mk #[100, 114, 111, 112]), (ByteArray.mk #[100, 117, 112])]))) (v' := (.sl true 1 (List.map avS [(ByteArray.mk #[99, 111, 110, 115, 116]), (ByteArray.mk #[103, 101, 116]), (ByteArray.mk #[115, 101, 116]), (ByteArray.mk #[97, 100, 100, 114]), (ByteArray.mk #[108, 111, 97, 100]), (ByteArray.mk #[115, 116, 111, 114, 101]), (ByteArray.mk #[97, 100, 100]), (ByteArray.mk #[115, 117, 98]), (ByteArray.mk #[109, 117, 108]), (ByteArray.mk #[100, 105, 118]), (ByteArray.mk #[114, 101, 109]), (ByteArray.mk #[97, 110, 100]), (ByteArray.mk #[111, 114]), (ByteArray.mk #[120, 111, 114]), (ByteArray.mk #[115, 104, 108]), (ByteArray.mk #[115, 104, 114]), (ByteArray.mk #[115, 97, 114]), (ByteArray.mk #[101, 113]), (ByteArray.mk #[108, 116]), (ByteArray.mk #[98, 101, 108, 111, 119]), (ByteArray.mk #[106, 117, 109, 112]), (ByteArray.mk #[122, 101, 114, 111]), (ByteArray.mk #[99, 97, 108, 108]), (ByteArray.mk #[114, 101, 116]), (ByteArray.mk #[100, 101, 102, 101, 114]), (ByteArray.mk #[112, 97, 110, 105, 99]), (ByteArray.mk #[114, 101, 99, 111, 118, 101, 114]), (ByteArray.mk #[105, 110]), (ByteArray.mk #[111, 117, 116]), (ByteArray.mk #[101, 120, 105, 116]), (ByteArray.mk #[100, 114, 111, 112]), (ByteArray.mk #[100, 117, 112])]))) (rd := []) (δ := none) (by kernel_rfl) (.refl _) rfl ?_
  refine E_mv (v' := (.int .u8 op_00)) rfl ?_
  refine E_op0 (v' := (.int .u8 (U8 (op_00 - 1)))) rfl rfl ?_
  obtain ⟨y_1, hy_1, h⟩ := bd_some h
  refine E_iadF rfl rfl hy_1 ?_
  refine E_op0 (v' := (.str y_1)) rfl rfl ?_
  refine E_mv (v' := (.str y_1)) rfl ?_
  refine E_nil ?_
  refine E_nx ?_
  refine E_ret ?_
  cases h
  exact ⟨trivial, _, rfl, (fz_b rfl (.refl _))⟩
/- windlass/windlassref04.Line -/
def fc71 : FC := (.seq (.reg [⟨(some 1), none, .op (.box (.t 0))⟩,
  ⟨(some 2), none, .op (.mv (.v (.str (ByteArray.mk #[]))))⟩] [])
  (.seq (.seq (.reg [⟨(some 3), none, .op (.fad 0 (.t 1))⟩,
  ⟨(some 4), none, .op (.load none (.t 3))⟩,
  ⟨(some 5), none, .call 69 [(.t 4)]⟩] [])
  (.block 0 (.seq (.reg [⟨(some 7), none, .op (.bin .none .eql (.t 5) (.v (.int .i64 8)))⟩,
  ⟨(some 6), none, .op (.mv (.t 7))⟩] [])
  (.cond (.t 6)
  (.seq (.reg [⟨(some 8), none, .op (.fad 0 (.t 1))⟩,
  ⟨(some 9), none, .op (.load none (.t 8))⟩,
  ⟨(some 10), none, .call 103 [(.t 9)]⟩,
  ⟨(some 11), none, .op (.bin .none .add (.t 10) (.v (.str (ByteArray.mk #[32]))))⟩,
  ⟨(some 12), none, .op (.fad 2 (.t 1))⟩,
  ⟨(some 13), none, .op (.load none (.t 12))⟩,
  ⟨(some 14), none, .call 46 [(.t 13)]⟩,
  ⟨(some 15), none, .op (.bin .none .add (.t 11) (.t 14))⟩,
  ⟨(some 2), none, .op (.mv (.t 15))⟩] [(2, 5)])
  .ret)
  (.seq (.reg [⟨(some 17), none, .op (.bin .none .eql (.t 5) (.v (.int .i64 0)))⟩,
  ⟨(some 16), none, .op (.mv (.t 17))⟩] [])
  (.cond (.t 16)
  (.seq (.reg [⟨(some 18), none, .op (.fad 0 (.t 1))⟩,
  ⟨(some 19), none, .op (.load none (.t 18))⟩,
  ⟨(some 20), none, .call 103 [(.t 19)]⟩,
  ⟨(some 2), none, .op (.mv (.t 20))⟩] [])
  .ret)
  .skip))))))
  (.seq (.reg [⟨(some 21), none, .op (.fad 0 (.t 1))⟩,
  ⟨(some 22), none, .op (.load none (.t 21))⟩,
  ⟨(some 23), none, .call 103 [(.t 22)]⟩,
  ⟨(some 24), none, .op (.bin .none .add (.t 23) (.v (.str (ByteArray.mk #[32]))))⟩,
  ⟨(some 25), none, .op (.fad 1 (.t 1))⟩,
  ⟨(some 26), none, .op (.load none (.t 25))⟩,
  ⟨(some 27), none, .op (.cint .u64 (.t 26))⟩,
  ⟨(some 28), none, .call 46 [(.t 27)]⟩,
  ⟨(some 29), none, .op (.bin .none .add (.t 24) (.t 28))⟩,
  ⟨(some 2), none, .op (.mv (.t 29))⟩] [(2, 5)])
  .ret)))
theorem fn71 : Fn3 Tryd.prog 71 30 [(2, none)] fc71 := ⟨_, _, Tryd.func71, rfl, rfl, rfl, by kernel_rfl⟩
def windlassref04_Line_s (fuel : Nat) (i_00 : Instr) : Option ByteArray :=
  ((windlassref03_Width_s i_00.Op).bind fun wid_1 => (if (wid_1 == 8) then ((windlassref04_Name_s i_00.Op).bind fun nam_2 => ((catS nam_2 (ByteArray.mk #[32])).bind fun s_3 => ((windlassref02_Number_s fuel i_00.Imm).bind fun num_4 => ((catS s_3 num_4).bind fun s_5 => (some s_5))))) else (if (wid_1 == 0) then ((windlassref04_Name_s i_00.Op).bind fun nam_6 => (some nam_6)) else ((windlassref04_Name_s i_00.Op).bind fun nam_7 => ((catS nam_7 (ByteArray.mk #[32])).bind fun s_8 => ((windlassref02_Number_s fuel (U64 i_00.Arg)).bind fun num_9 => ((catS s_8 num_9).bind fun s_10 => (some s_10))))))))
theorem windlassref04_Line_ev {fuel : Nat} {i_00 : Instr} {r : ByteArray} (h : windlassref04_Line_s fuel i_00 = some r) : PureEv Tryd.prog 71 [(Instr.av i_00)] (.str r) := by
  unfold windlassref04_Line_s at h
  refine PureEv_end mixed fn71 (by simp) [] 6 ?_
  unfold fc71
  refine E_sq ?_
  refine E_reg ?_
  refine E_op0 (v' := (.cptr (Instr.av i_00).cells 0)) rfl rfl ?_
  refine E_mv (v' := (.str (ByteArray.mk #[]))) rfl ?_
  refine E_nil ?_
  refine E_nx ?_
  refine E_as ?_
  refine E_sq ?_
  refine E_reg ?_
  refine E_op0 (v' := (.cptr (Instr.av i_00).cells 0)) rfl rfl ?_
  refine E_op0 (v' := (.int .u8 i_00.Op)) rfl rfl ?_
  obtain ⟨wid_1, hwid_1, h⟩ := bd_some h
  refine E_callW (windlassref03_Width_ev  hwid_1) rfl ⟨(.refl _), trivial⟩ (blwL_of ⟨rfl, trivial⟩) rfl ?_
  refine E_nil ?_
  refine E_nx ?_
  refine E_sq ?_
  refine E_block ?_
  refine E_sq ?_
  refine E_reg ?_
  refine E_op0 (v' := (.bool (wid_1 == 8))) rfl rfl ?_
  refine E_mv (v' := (.bool (wid_1 == 8))) rfl ?_
  refine E_nil ?_
  refine E_nx ?_
  refine E_cs (t := (wid_1 == 8)) rfl (fun hb => ?_) (fun hb => ?_)
  · rw [ite_t hb] at h
    refine E_sq ?_
    refine E_regp ?_
    refine E_op0 (v' := (.cptr (Instr.av i_00).cells 0)) rfl rfl ?_
    refine E_op0 (v' := (.int .u8 i_00.Op)) rfl rfl ?_
    obtain ⟨nam_2, hnam_2, h⟩ := bd_some h
    refine E_callW (windlassref04_Name_ev  hnam_2) rfl ⟨(.refl _), trivial⟩ (blwL_of ⟨rfl, trivial⟩) rfl ?_
    obtain ⟨s_3, hs_3, h⟩ := bd_some h
    refine E_cat rfl rfl hs_3 ?_
    refine E_op0 (v' := (.cptr (Instr.av i_00).cells 2)) rfl rfl ?_
    refine E_op0 (v' := (.int .u64 i_00.Imm)) rfl rfl ?_
    obtain ⟨num_4, hnum_4, h⟩ := bd_some h
    refine E_callW (windlassref02_Number_ev (fuel := fuel)  hnum_4) rfl ⟨(.refl _), trivial⟩ (blwL_of ⟨rfl, trivial⟩) rfl ?_
    obtain ⟨s_5, hs_5, h⟩ := bd_some h
    refine E_cat rfl rfl hs_5 ?_
    refine E_mv (v' := (.str s_5)) rfl ?_
    refine E_nil ?_
    refine And.intro (by simp [okLog, nthL, okPair, hp, fpOf]) ?_
    refine E_nx ?_
    refine E_ret ?_
    refine E_blr ?_
    refine E_thr ?_
    cases h
    exact ⟨trivial, _, rfl, (fz_b rfl (.refl _))⟩
  · rw [ite_f hb] at h
    refine E_sq ?_
    refine E_reg ?_
    refine E_op0 (v' := (.bool (wid_1 == 0))) rfl rfl ?_
    refine E_mv (v' := (.bool (wid_1 == 0))) rfl ?_
    refine E_nil ?_
    refine E_nx ?_
    refine E_cs (t := (wid_1 == 0)) rfl (fun hb => ?_) (fun hb => ?_)
    · rw [ite_t hb] at h
      refine E_sq ?_
      refine E_reg ?_
      refine E_op0 (v' := (.cptr (Instr.av i_00).cells 0)) rfl rfl ?_
      refine E_op0 (v' := (.int .u8 i_00.Op)) rfl rfl ?_
      obtain ⟨nam_6, hnam_6, h⟩ := bd_some h
      refine E_callW (windlassref04_Name_ev  hnam_6) rfl ⟨(.refl _), trivial⟩ (blwL_of ⟨rfl, trivial⟩) rfl ?_
      refine E_mv (v' := (.str nam_6)) rfl ?_
      refine E_nil ?_
      refine E_nx ?_
      refine E_ret ?_
      refine E_blr ?_
      refine E_thr ?_
      cases h
      exact ⟨trivial, _, rfl, (fz_b rfl (.refl _))⟩
    · rw [ite_f hb] at h
      refine E_skip ?_
      refine E_bln ?_
      refine E_nx ?_
      refine E_sq ?_
      refine E_regp ?_
      refine E_op0 (v' := (.cptr (Instr.av i_00).cells 0)) rfl rfl ?_
      refine E_op0 (v' := (.int .u8 i_00.Op)) rfl rfl ?_
      obtain ⟨nam_7, hnam_7, h⟩ := bd_some h
      refine E_callW (windlassref04_Name_ev  hnam_7) rfl ⟨(.refl _), trivial⟩ (blwL_of ⟨rfl, trivial⟩) rfl ?_
      obtain ⟨s_8, hs_8, h⟩ := bd_some h
      refine E_cat rfl rfl hs_8 ?_
      refine E_op0 (v' := (.cptr (Instr.av i_00).cells 1)) rfl rfl ?_
      refine E_op0 (v' := (.int .i64 i_00.Arg)) rfl rfl ?_
      refine E_op0 (v' := (.int .u64 (U64 i_00.Arg))) rfl rfl ?_
      obtain ⟨num_9, hnum_9, h⟩ := bd_some h
      refine E_callW (windlassref02_Number_ev (fuel := fuel)  hnum_9) rfl ⟨(.refl _), trivial⟩ (blwL_of ⟨rfl, trivial⟩) rfl ?_
      obtain ⟨s_10, hs_10, h⟩ := bd_some h
      refine E_cat rfl rfl hs_10 ?_
      refine E_mv (v' := (.str s_10)) rfl ?_
      refine E_nil ?_
      refine And.intro (by simp [okLog, nthL, okPair, hp, fpOf]) ?_
      refine E_nx ?_
      refine E_ret ?_
      cases h
      exact ⟨trivial, _, rfl, (fz_b rfl (.refl _))⟩
/- windlass/windlassref04.one -/
def fc59 : FC := (.seq (.reg [⟨(some 2), none, .op (.new [(.int .u8 0), (.int .i64 0), (.int .u64 0)])⟩,
  ⟨(some 3), none, .op (.mv (.v (.bool false)))⟩] [])
  (.seq (.seq (.reg [⟨(some 4), none, .op (.mv (.v (.int .u8 1)))⟩] [])
  (.block 0 (.loop (.seq (.seq (.reg [⟨(some 8), none, .op (.mv (.t 4))⟩,
  ⟨(some 9), none, .op (.bin .none .leq (.t 8) (.v (.int .u8 32)))⟩] [])
  (.cond (.t 9)
  .skip
  (.exit 0)))
  (.seq (.block 1 (.seq (.reg [⟨(some 12), none, .op (.mv (.t 4))⟩,
  ⟨(some 13), none, .op (.build [(.int .u8 0), (.int .i64 0), (.int .u64 0)] [(0, 1, (.t 12))])⟩,
  ⟨(some 5), none, .op (.new [(.int .u8 0), (.int .i64 0), (.int .u64 0)])⟩,
  ⟨none, none, .op (.store 3 (.t 5) (.t 13))⟩] [])
  (.seq (.seq (.reg [⟨(some 14), none, .op (.mv (.t 0))⟩,
  ⟨(some 15), none, .op (.len .sl (.t 14))⟩,
  ⟨(some 16), none, .op (.bin .none .eql (.t 15) (.v (.int .i64 2)))⟩] [])
  (.cond (.t 16)
  (.seq (.reg [⟨(some 18), none, .op (.mv (.t 0))⟩,
  ⟨(some 19), none, .op (.iad none none (.t 18) (.v (.int .i64 1)))⟩,
  ⟨(some 20), none, .op (.load none (.t 19))⟩,
  ⟨(some 21), none, .call 98 [(.t 20)]⟩,
  ⟨(some 17), none, .op (.mv (.t 21))⟩,
  ⟨(some 22), none, .op (.ext 0 (.t 17))⟩,
  ⟨(some 23), none, .op (.ext 1 (.t 17))⟩,
  ⟨(some 6), none, .op (.mv (.t 22))⟩,
  ⟨(some 7), none, .op (.mv (.t 23))⟩] [])
  (.seq (.seq (.reg [⟨(some 24), none, .op (.mv (.t 7))⟩,
  ⟨(some 25), none, .op (.un .not (.t 24))⟩,
  ⟨(some 26), none, .op (.mv (.t 25))⟩,
  ⟨(some 27), some (26, false), .op (.mv (.t 4))⟩,
  ⟨(some 28), some (26, false), .op (.bin .none .neq (.t 27) (.v (.int .u8 1)))⟩,
  ⟨(some 29), some (26, false), .op (.mv (.t 28))⟩,
  ⟨(some 30), some (29, true), .op (.mv (.t 6))⟩,
  ⟨(some 31), some (29, true), .op (.bin .none .gtr (.t 30) (.v (.int .u64 65535)))⟩,
  ⟨(some 32), some (26, false), .op (.pick (.t 29) (.t 31) (.v (.bool false)))⟩,
  ⟨(some 33), none, .op (.pick (.t 26) (.v (.bool true)) (.t 32))⟩] [])
  (.cond (.t 33)
  (.exit 1)
  .skip))
  (.seq (.reg [⟨(some 34), none, .op (.mv (.t 4))⟩,
  ⟨(some 35), none, .op (.bin .none .eql (.t 34) (.v (.int .u8 1)))⟩] [])
  (.cond (.t 35)
  (.reg [⟨(some 36), none, .op (.mv (.t 6))⟩,
  ⟨(some 37), none, .op (.fad 2 (.t 5))⟩,
  ⟨none, none, .op (.store 1 (.t 37) (.t 36))⟩] [])
  (.reg [⟨(some 38), none, .op (.mv (.t 6))⟩,
  ⟨(some 39), none, .op (.cint .i64 (.t 38))⟩,
  ⟨(some 40), none, .op (.fad 1 (.t 5))⟩,
  ⟨none, none, .op (.store 1 (.t 40) (.t 39))⟩] [])))))
  .skip))
  (.seq (.reg [⟨(some 41), none, .op (.load (some 3) (.t 5))⟩,
  ⟨(some 42), none, .call 68 [(.t 41)]⟩,
  ⟨(some 43), none, .op (.mv (.t 42))⟩,
  ⟨(some 44), some (43, true), .op (.load (some 3) (.t 5))⟩,
  ⟨(some 45), some (43, true), .call 71 [(.t 44)]⟩,
  ⟨(some 46), some (43, true), .op (.mv (.t 0))⟩,
  ⟨(some 47), some (43, true), .call 99 [(.t 46)]⟩,
  ⟨(some 48), some (43, true), .op (.bin .none .eql (.t 45) (.t 47))⟩,
  ⟨(some 49), none, .op (.pick (.t 43) (.t 48) (.v (.bool false)))⟩] [])
  (.cond (.t 49)
  (.seq (.reg [⟨(some 50), none, .op (.load (some 3) (.t 5))⟩,
  ⟨none, none, .op (.store 3 (.t 2) (.t 50))⟩,
  ⟨(some 3), none, .op (.mv (.v (.bool true)))⟩] [])
  .ret)
  .skip)))))
  (.reg [⟨(some 10), none, .op (.mv (.t 4))⟩,
  ⟨(some 11), none, .op (.bin .none .add (.t 10) (.v (.int .u8 1)))⟩,
  ⟨(some 4), none, .op (.mv (.t 11))⟩] []))))))
  (.seq (.reg [⟨(some 51), none, .op (.build [(.int .u8 0), (.int .i64 0), (.int .u64 0)] [])⟩,
  ⟨none, none, .op (.store 3 (.t 2) (.t 51))⟩,
  ⟨(some 3), none, .op (.mv (.v (.bool false)))⟩] [])
  .ret)))
theorem fn59 : Fn3 Tryd.prog 59 52 [(2, (some (some 3))), (3, none)] fc59 := ⟨_, _, Tryd.func59, rfl, rfl, rfl, by kernel_rfl⟩
def windlassref04_one_s (fuel : Nat) (w_00 : (List ByteArray)) : Option (Instr × Bool) :=
  ((whileN (fun (s_1 : Int) => ((if (decide (s_1 ≤ 32)) then (jp (fun (s_3 : Unit) => (some (.nxt (U8 (s_1 + 1))))) (fun k_2 => (jp (fun (s_5 : (Int × Int)) => (jp (fun (s_11 : Bool) => (if s_11 then (some (.ret (some ((Instr.mk s_1 s_5.1 s_5.2), true)))) else (k_2 ()))) (fun k_10 => ((windlassref03_Says_s (Instr.mk s_1 s_5.1 s_5.2)).bind fun say_12 => (if say_12 then ((windlassref04_Line_s fuel (Instr.mk s_1 s_5.1 s_5.2)).bind fun lin_13 => ((windlassref04_joined_s w_00).bind fun joi_14 => (k_10 (ByteArray.toList lin_13 == ByteArray.toList joi_14)))) else (k_10 false)))))) (fun k_4 => (if ((List.length w_00 : Int) == 2) then ((getI w_00 1).bind fun y_6 => ((windlassref02_Value_s fuel y_6).bind fun val_7 => (jp (fun (s_9 : Bool) => (if s_9 then (k_2 ()) else (if (s_1 == 1) then (k_4 (0, val_7.1)) else (k_4 ((I64 val_7.1), 0))))) (fun k_8 => (if (!val_7.2) then (k_8 true) else (if (s_1 != 1) then (k_8 (decide (val_7.1 > 65535))) else (k_8 false))))))) else (k_4 (0, 0))))))) else (some (.brk s_1))) : Option (Stp Int (Option (Instr × Bool))))) fuel 1).bind (oc (fun (s_1 : Int) => (some ((Instr.mk 0 0 0), false)))))
theorem windlassref04_one_ev {fuel : Nat} {w_00 : (List ByteArray)} {r : (Instr × Bool)} (h : windlassref04_one_s fuel w_00 = some r) : PureEv Tryd.prog 59 [(.sl false 1 (List.map avS w_00))] (.tup [(Instr.av r.1), (.bool r.2)]) := by
  unfold windlassref04_one_s at h
  refine PureEv_end mixed fn59 (by simp) [2, 5] 6 ?_
  unfold fc59
  refine E_sq ?_
  refine E_reg ?_
  refine E_op (v' := .ptr 0 0 0) (S' := [.arr 0 [(.int .u8 0), (.int .i64 0), (.int .u64 0)]]) rfl rfl rfl ?_
  refine E_mv (v' := (.bool false)) rfl ?_
  refine E_nil ?_
  refine E_nx ?_
  refine E_as ?_
  refine E_sq ?_
  refine E_reg ?_
  refine E_mv (v' := (.int .u8 1)) rfl ?_
  refine E_nil ?_
  refine E_nx ?_
  refine E_sq ?_
  refine E_whileO (fun s_1 => [(0, (.sl false 1 (List.map avS w_00))), (2, (.ptr 0 0 0)), (4, (.int .u8 s_1))]) (fun s_1 => [.arr 0 [(.int .u8 0), (.int .i64 0), (.int .u64 0)]]) h (wk_rn [some (0, 0)] rfl (Nat.le_of_ble_eq_true rfl) ⟨(rn_ob rfl rfl (.cons (rn_b rfl) (.cons (rn_b rfl) (.cons (rn_b rfl) (.nil (Nat.zero_le _))))) rfl), trivial⟩ ⟨(rn_b (encS.blws 0)), (rn_ptr rfl rfl rfl rfl), (rn_b rfl), trivial⟩) (fun s_1 c h => ?_) (fun s_1 fr' S' h hw => ?_)
  · refine E_as ?_
    refine E_sq ?_
    refine E_reg ?_
    refine E_mv (v' := (.int .u8 s_1)) rfl ?_
    refine E_op0 (v' := (.bool (decide (s_1 ≤ 32)))) rfl rfl ?_
    refine E_nil ?_
    refine E_nx ?_
    refine E_sq ?_
    refine E_cs (t := (decide (s_1 ≤ 32))) rfl (fun hb => ?_) (fun hb => ?_)
    · rw [ite_t hb] at h
      refine E_skip ?_
      refine E_nx ?_
      refine E_jp h (fun s_3 => [(0, (.sl false 1 (List.map avS w_00))), (2, (.ptr 0 0 0)), (4, (.int .u8 s_1))]) (fun s_3 => [.arr 0 [(.int .u8 0), (.int .i64 0), (.int .u64 0)]]) (fun k_2 h => ?_) (fun s_3 h => ?_)
      · refine E_block ?_
        refine E_sq ?_
        refine E_reg ?_
        refine E_mv (v' := (.int .u8 s_1)) rfl ?_
        refine E_opw (v' := (Instr.av (Instr.mk s_1 0 0))) rfl (.aggL ⟨(.refl _), (.refl _), (.refl _), trivial⟩) rfl ?_
        refine E_op (v' := .ptr 1 0 0) (S' := [.arr 0 [(.int .u8 0), (.int .i64 0), (.int .u64 0)], .arr 0 [(.int .u8 0), (.int .i64 0), (.int .u64 0)]]) rfl rfl rfl ?_
        refine E_do (S' := [.arr 0 [(.int .u8 0), (.int .i64 0), (.int .u64 0)], .arr 0 [(.int .u8 s_1), (.int .i64 0), (.int .u64 0)]]) rfl rfl ?_
        refine E_nil ?_
        refine E_nx ?_
        refine E_as ?_
        refine E_sq ?_
        refine E_reg ?_
        refine E_mv (v' := (.sl false 1 (List.map avS w_00))) rfl ?_
        refine E_len rfl ?_
        refine E_op0 (v' := (.bool ((List.length w_00 : Int) == 2))) rfl rfl ?_
        refine E_nil ?_
        refine E_nx ?_
        refine E_jp h (fun s_5 => [(0, (.sl false 1 (List.map avS w_00))), (2, (.ptr 0 0 0)), (4, (.int .u8 s_1)), (5, (.ptr 1 0 0))]) (fun s_5 => [.arr 0 [(.int .u8 0), (.int .i64 0), (.int .u64 0)], .arr 0 [(.int .u8 s_1), (.int .i64 s_5.1), (.int .u64 s_5.2)]]) (fun k_4 h => ?_) (fun s_5 h => ?_)
        · refine E_cs (t := ((List.length w_00 : Int) == 2)) rfl (fun hb => ?_) (fun hb => ?_)
          · rw [ite_t hb] at h
            refine E_sq ?_
            refine E_reg ?_
            refine E_mv (v' := (.sl false 1 (List.map avS w_00))) rfl ?_
            obtain ⟨y_6, hy_6, h⟩ := bd_some h
            refine E_iadF rfl rfl hy_6 ?_
            refine E_op0 (v' := (.str y_6)) rfl rfl ?_
            obtain ⟨val_7, hval_7, h⟩ := bd_some h
            refine E_callW (windlassref02_Value_ev (fuel := fuel)  hval_7) rfl ⟨(.refl _), trivial⟩ (blwL_of ⟨rfl, trivial⟩) (tup_blw ⟨rfl, rfl, trivial⟩) ?_
            refine E_mv (v' := (.tup [(.int .u64 val_7.1), (.bool val_7.2)])) rfl ?_
            refine E_op0 (v' := (.int .u64 val_7.1)) rfl rfl ?_
            refine E_op0 (v' := (.bool val_7.2)) rfl rfl ?_
            refine E_mv (v' := (.int .u64 val_7.1)) rfl ?_
            refine E_mv (v' := (.bool val_7.2)) rfl ?_
            refine E_nil ?_
            refine E_nx ?_
            refine E_as ?_
            refine E_jp h (fun s_9 => [(0, (.sl false 1 (List.map avS w_00))), (2, (.ptr 0 0 0)), (4, (.int .u8 s_1)), (5, (.ptr 1 0 0)), (6, (.int .u64 val_7.1)), (33, (.bool s_9))]) (fun s_9 => [.arr 0 [(.int .u8 0), (.int .i64 0), (.int .u64 0)], .arr 0 [(.int .u8 s_1), (.int .i64 0), (.int .u64 0)]]) (fun k_8 h => ?_) (fun s_9 h => ?_)
            · refine E_reg ?_
              refine E_mv (v' := (.bool val_7.2)) rfl ?_
              refine E_op0 (v' := (.bool (!val_7.2))) rfl rfl ?_
              refine E_mv (v' := (.bool (!val_7.2))) rfl ?_
              refine E_gsT (b := (!val_7.2)) rfl rfl rfl (fun hb => ?_) (fun hb => ?_)
              · rw [ite_f hb] at h
                refine E_mv (v' := (.int .u8 s_1)) rfl ?_
                refine E_gh rfl ?_
                refine E_op0 (v' := (.bool (s_1 != 1))) rfl rfl ?_
                refine E_gh rfl ?_
                refine E_mv (v' := (.bool (s_1 != 1))) rfl ?_
                refine E_gsT (b := (s_1 != 1)) rfl rfl rfl (fun hb => ?_) (fun hb => ?_)
                · rw [ite_t hb] at h
                  refine E_mv (v' := (.int .u64 val_7.1)) rfl ?_
                  refine E_gh rfl ?_
                  refine E_op0 (v' := (.bool (decide (val_7.1 > 65535)))) rfl rfl ?_
                  refine E_gh rfl ?_
                  refine E_pt rfl rfl ?_
                  refine E_pf rfl rfl ?_
                  refine E_nil ?_
                  exact E_jx _ h (wk_rn [some (0, 0), some (1, 0)] rfl (Nat.le_of_ble_eq_true rfl) ⟨(rn_ob rfl rfl (.cons (rn_b rfl) (.cons (rn_b rfl) (.cons (rn_b rfl) (.nil (Nat.zero_le _))))) rfl), (rn_ob rfl rfl (.cons (rn_b rfl) (.cons (rn_b rfl) (.cons (rn_b rfl) (.nil (Nat.zero_le _))))) rfl), trivial⟩ ⟨(rn_b (encS.blws 0)), (rn_ptr rfl rfl rfl rfl), (rn_b rfl), (rn_ptr rfl rfl rfl rfl), (rn_b rfl), (rn_b rfl), trivial⟩)
                · rw [ite_f hb] at h
                  refine E_gm rfl ?_
                  refine E_gh rfl ?_
                  refine E_pf rfl rfl ?_
                  refine E_pf rfl rfl ?_
                  refine E_nil ?_
                  exact E_jx _ h (wk_rn [some (0, 0), some (1, 0)] rfl (Nat.le_of_ble_eq_true rfl) ⟨(rn_ob rfl rfl (.cons (rn_b rfl) (.cons (rn_b rfl) (.cons (rn_b rfl) (.nil (Nat.zero_le _))))) rfl), (rn_ob rfl rfl (.cons (rn_b rfl) (.cons (rn_b rfl) (.cons (rn_b rfl) (.nil (Nat.zero_le _))))) rfl), trivial⟩ ⟨(rn_b (encS.blws 0)), (rn_ptr rfl rfl rfl rfl), (rn_b rfl), (rn_ptr rfl rfl rfl rfl), (rn_b rfl), (rn_b rfl), trivial⟩)
              · rw [ite_t hb] at h
                refine E_gm rfl ?_
                refine E_gm rfl ?_
                refine E_gz rfl ?_
                refine E_gz rfl ?_
                refine E_gm rfl ?_
                refine E_pt rfl rfl ?_
                refine E_nil ?_
                exact E_jx _ h (wk_rn [some (0, 0), some (1, 0)] rfl (Nat.le_of_ble_eq_true rfl) ⟨(rn_ob rfl rfl (.cons (rn_b rfl) (.cons (rn_b rfl) (.cons (rn_b rfl) (.nil (Nat.zero_le _))))) rfl), (rn_ob rfl rfl (.cons (rn_b rfl) (.cons (rn_b rfl) (.cons (rn_b rfl) (.nil (Nat.zero_le _))))) rfl), trivial⟩ ⟨(rn_b (encS.blws 0)), (rn_ptr rfl rfl rfl rfl), (rn_b rfl), (rn_ptr rfl rfl rfl rfl), (rn_b rfl), (rn_b rfl), trivial⟩)
            · refine E_sq ?_
              refine E_cs (t := s_9) rfl (fun hb => ?_) (fun hb => ?_)
              · rw [ite_t hb] at h
                refine E_exit ?_
                refine E_the ?_
                refine E_the ?_
                refine E_ble ?_
                exact E_jx _ h (wk_rn [some (0, 0)] rfl (Nat.le_of_ble_eq_true rfl) ⟨(rn_ob rfl rfl (.cons (rn_b rfl) (.cons (rn_b rfl) (.cons (rn_b rfl) (.nil (Nat.zero_le _))))) rfl), trivial⟩ ⟨(rn_b (encS.blws 0)), (rn_ptr rfl rfl rfl rfl), (rn_b rfl), trivial⟩)
              · rw [ite_f hb] at h
                refine E_skip ?_
                refine E_nx ?_
                refine E_sq ?_
                refine E_reg ?_
                refine E_mv (v' := (.int .u8 s_1)) rfl ?_
                refine E_op0 (v' := (.bool (s_1 == 1))) rfl rfl ?_
                refine E_nil ?_
                refine E_nx ?_
                refine E_cs (t := (s_1 == 1)) rfl (fun hb => ?_) (fun hb => ?_)
                · rw [ite_t hb] at h
                  refine E_reg ?_
                  refine E_mv (v' := (.int .u64 val_7.1)) rfl ?_
                  refine E_op0 (v' := (.ptr 1 0 2)) rfl rfl ?_
                  refine E_do (S' := [.arr 0 [(.int .u8 0), (.int .i64 0), (.int .u64 0)], .arr 0 [(.int .u8 s_1), (.int .i64 0), (.int .u64 val_7.1)]]) rfl rfl ?_
                  refine E_nil ?_
                  exact E_jx _ h (wk_rn [some (0, 0), some (1, 0)] rfl (Nat.le_of_ble_eq_true rfl) ⟨(rn_ob rfl rfl (.cons (rn_b rfl) (.cons (rn_b rfl) (.cons (rn_b rfl) (.nil (Nat.zero_le _))))) rfl), (rn_ob rfl rfl (.cons (rn_b rfl) (.cons (rn_b rfl) (.cons (rn_b rfl) (.nil (Nat.zero_le _))))) rfl), trivial⟩ ⟨(rn_b (encS.blws 0)), (rn_ptr rfl rfl rfl rfl), (rn_b rfl), (rn_ptr rfl rfl rfl rfl), trivial⟩)
                · rw [ite_f hb] at h
                  refine E_reg ?_
                  refine E_mv (v' := (.int .u64 val_7.1)) rfl ?_
                  refine E_op0 (v' := (.int .i64 (I64 val_7.1))) rfl rfl ?_
                  refine E_op0 (v' := (.ptr 1 0 1)) rfl rfl ?_
                  refine E_do (S' := [.arr 0 [(.int .u8 0), (.int .i64 0), (.int .u64 0)], .arr 0 [(.int .u8 s_1), (.int .i64 (I64 val_7.1)), (.int .u64 0)]]) rfl rfl ?_
                  refine E_nil ?_
                  exact E_jx _ h (wk_rn [some (0, 0), some (1, 0)] rfl (Nat.le_of_ble_eq_true rfl) ⟨(rn_ob rfl rfl (.cons (rn_b rfl) (.cons (rn_b rfl) (.cons (rn_b rfl) (.nil (Nat.zero_le _))))) rfl), (rn_ob rfl rfl (.cons (rn_b rfl) (.cons (rn_b rfl) (.cons (rn_b rfl) (.nil (Nat.zero_le _))))) rfl), trivial⟩ ⟨(rn_b (encS.blws 0)), (rn_ptr rfl rfl rfl rfl), (rn_b rfl), (rn_ptr rfl rfl rfl rfl), trivial⟩)
          · rw [ite_f hb] at h
            refine E_skip ?_
            exact E_jx _ h (wk_rn [some (0, 0), some (1, 0)] rfl (Nat.le_of_ble_eq_true rfl) ⟨(rn_ob rfl rfl (.cons (rn_b rfl) (.cons (rn_b rfl) (.cons (rn_b rfl) (.nil (Nat.zero_le _))))) rfl), (rn_ob rfl rfl (.cons (rn_b rfl) (.cons (rn_b rfl) (.cons (rn_b rfl) (.nil (Nat.zero_le _))))) rfl), trivial⟩ ⟨(rn_b (encS.blws 0)), (rn_ptr rfl rfl rfl rfl), (rn_b rfl), (rn_ptr rfl rfl rfl rfl), trivial⟩)
        · refine E_jp h (fun s_11 => [(0, (.sl false 1 (List.map avS w_00))), (2, (.ptr 0 0 0)), (4, (.int .u8 s_1)), (5, (.ptr 1 0 0)), (49, (.bool s_11))]) (fun s_11 => [.arr 0 [(.int .u8 0), (.int .i64 0), (.int .u64 0)], .arr 0 [(.int .u8 s_1), (.int .i64 s_5.1), (.int .u64 s_5.2)]]) (fun k_10 h => ?_) (fun s_11 h => ?_)
          · refine E_reg ?_
            refine E_opw (v' := (Instr.av (Instr.mk s_1 s_5.1 s_5.2))) rfl (.aggL ⟨(.refl _), (.refl _), (.refl _), trivial⟩) rfl ?_
            obtain ⟨say_12, hsay_12, h⟩ := bd_some h
            refine E_callW (windlassref03_Says_ev  hsay_12) rfl ⟨(.refl _), trivial⟩ (blwL_of ⟨(Instr.enc.blw _ 0), trivial⟩) rfl ?_
            refine E_mv (v' := (.bool say_12)) rfl ?_
            refine E_gsT (b := say_12) rfl rfl rfl (fun hb => ?_) (fun hb => ?_)
            · rw [ite_t hb] at h
              refine E_opw (v' := (Instr.av (Instr.mk s_1 s_5.1 s_5.2))) rfl (.aggL ⟨(.refl _), (.refl _), (.refl _), trivial⟩) rfl ?_
              refine E_gh rfl ?_
              obtain ⟨lin_13, hlin_13, h⟩ := bd_some h
              refine E_callW (windlassref04_Line_ev (fuel := fuel)  hlin_13) rfl ⟨(.refl _), trivial⟩ (blwL_of ⟨(Instr.enc.blw _ 0), trivial⟩) rfl ?_
              refine E_gh rfl ?_
              refine E_mv (v' := (.sl false 1 (List.map avS w_00))) rfl ?_
              refine E_gh rfl ?_
              obtain ⟨joi_14, hjoi_14, h⟩ := bd_some h
              refine E_callW (windlassref04_joined_ev  hjoi_14) rfl ⟨(.refl _), trivial⟩ (blwL_of ⟨(encS.blws 0), trivial⟩) rfl ?_
              refine E_gh rfl ?_
              refine E_op0 (v' := (.bool (ByteArray.toList lin_13 == ByteArray.toList joi_14))) rfl rfl ?_
              refine E_pt rfl rfl ?_
              refine E_nil ?_
              exact E_jx _ h (wk_rn [some (0, 0), some (1, 0)] rfl (Nat.le_of_ble_eq_true rfl) ⟨(rn_ob rfl rfl (.cons (rn_b rfl) (.cons (rn_b rfl) (.cons (rn_b rfl) (.nil (Nat.zero_le _))))) rfl), (rn_ob rfl rfl (.cons (rn_b rfl) (.cons (rn_b rfl) (.cons (rn_b rfl) (.nil (Nat.zero_le _))))) rfl), trivial⟩ ⟨(rn_b (encS.blws 0)), (rn_ptr rfl rfl rfl rfl), (rn_b rfl), (rn_ptr rfl rfl rfl rfl), (rn_b rfl), trivial⟩)
            · rw [ite_f hb] at h
              refine E_gm rfl ?_
              refine E_gm rfl ?_
              refine E_gm rfl ?_
              refine E_gm rfl ?_
              refine E_pf rfl rfl ?_
              refine E_nil ?_
              exact E_jx _ h (wk_rn [some (0, 0), some (1, 0)] rfl (Nat.le_of_ble_eq_true rfl) ⟨(rn_ob rfl rfl (.cons (rn_b rfl) (.cons (rn_b rfl) (.cons (rn_b rfl) (.nil (Nat.zero_le _))))) rfl), (rn_ob rfl rfl (.cons (rn_b rfl) (.cons (rn_b rfl) (.cons (rn_b rfl) (.nil (Nat.zero_le _))))) rfl), trivial⟩ ⟨(rn_b (encS.blws 0)), (rn_ptr rfl rfl rfl rfl), (rn_b rfl), (rn_ptr rfl rfl rfl rfl), (rn_b rfl), trivial⟩)
          · refine E_cs (t := s_11) rfl (fun hb => ?_) (fun hb => ?_)
            · rw [ite_t hb] at h
              refine E_sq ?_
              refine E_reg ?_
              refine E_opw (v' := (Instr.av (Instr.mk s_1 s_5.1 s_5.2))) rfl (.aggL ⟨(.refl _), (.refl _), (.refl _), trivial⟩) rfl ?_
              refine E_do (S' := [.arr 0 [(.int .u8 s_1), (.int .i64 s_5.1), (.int .u64 s_5.2)], .arr 0 [(.int .u8 s_1), (.int .i64 s_5.1), (.int .u64 s_5.2)]]) rfl rfl ?_
              refine E_mv (v' := (.bool true)) rfl ?_
              refine E_nil ?_
              refine E_nx ?_
              refine E_ret ?_
              refine E_blr ?_
              refine E_thr ?_
              cases h
              refine L_rrO rfl (fun h => ?_)
              refine E_thr ?_
              cases h
              exact ⟨trivial, _, rfl, (fz_tup ⟨(fz_agg ⟨(fz_b rfl (.refl _)), (fz_b rfl (.refl _)), (fz_b rfl (.refl _)), trivial⟩), (fz_b rfl (.refl _)), trivial⟩)⟩
            · rw [ite_f hb] at h
              refine E_skip ?_
              refine E_bln ?_
              exact E_jx _ h (wk_rn [some (0, 0)] rfl (Nat.le_of_ble_eq_true rfl) ⟨(rn_ob rfl rfl (.cons (rn_b rfl) (.cons (rn_b rfl) (.cons (rn_b rfl) (.nil (Nat.zero_le _))))) rfl), trivial⟩ ⟨(rn_b (encS.blws 0)), (rn_ptr rfl rfl rfl rfl), (rn_b rfl), trivial⟩)
      · refine E_reg ?_
        refine E_mv (v' := (.int .u8 s_1)) rfl ?_
        refine E_op0 (v' := (.int .u8 (U8 (s_1 + 1)))) rfl rfl ?_
        refine E_mv (v' := (.int .u8 (U8 (s_1 + 1)))) rfl ?_
        refine E_nil ?_
        cases h
        exact L_nn rfl (wk_rn [some (0, 0)] rfl (Nat.le_of_ble_eq_true rfl) ⟨(rn_ob rfl rfl (.cons (rn_b rfl) (.cons (rn_b rfl) (.cons (rn_b rfl) (.nil (Nat.zero_le _))))) rfl), trivial⟩ ⟨(rn_b (encS.blws 0)), (rn_ptr rfl rfl rfl rfl), (rn_b rfl), trivial⟩)
    · rw [ite_f hb] at h
      refine E_exit ?_
      refine E_the ?_
      cases h
      exact L_bk rfl rfl rfl (wk_rn [some (0, 0)] rfl (Nat.le_of_ble_eq_true rfl) ⟨(rn_ob rfl rfl (.cons (rn_b rfl) (.cons (rn_b rfl) (.cons (rn_b rfl) (.nil (Nat.zero_le _))))) rfl), trivial⟩ ⟨(rn_b (encS.blws 0)), (rn_ptr rfl rfl rfl rfl), (rn_b rfl), trivial⟩)
  · refine X_nx hw ?_
    refine E_sq ?_
    refine E_reg ?_
    refine E_opw (v' := (Instr.av (Instr.mk 0 0 0))) rfl (.aggL ⟨(.refl _), (.refl _), (.refl _), trivial⟩) rfl ?_
    refine E_do (S' := [.arr 0 [(.int .u8 0), (.int .i64 0), (.int .u64 0)]]) rfl rfl ?_
    refine E_mv (v' := (.bool false)) rfl ?_
    refine E_nil ?_
    refine E_nx ?_
    refine E_ret ?_
    cases h
    exact ⟨trivial, _, rfl, (fz_tup ⟨(fz_agg ⟨(fz_b rfl (.refl _)), (fz_b rfl (.refl _)), (fz_b rfl (.refl _)), trivial⟩), (fz_b rfl (.refl _)), trivial⟩)⟩
/- windlass/windlassref03.Same -/
def fc22 : FC := (.seq (.reg [⟨(some 2), none, .op (.box (.t 0))⟩,
  ⟨(some 3), none, .op (.box (.t 1))⟩,
  ⟨(some 4), none, .op (.mv (.v (.bool false)))⟩] [])
  (.seq (.seq (.reg [⟨(some 10), none, .op (.fad 0 (.t 2))⟩,
  ⟨(some 11), none, .op (.load none (.t 10))⟩,
  ⟨(some 12), none, .op (.len .sl (.t 11))⟩,
  ⟨(some 13), none, .op (.fad 0 (.t 3))⟩,
  ⟨(some 14), none, .op (.load none (.t 13))⟩,
  ⟨(some 15), none, .op (.len .sl (.t 14))⟩,
  ⟨(some 16), none, .op (.bin .none .neq (.t 12) (.t 15))⟩] [])
  (.cond (.t 16)
  (.seq (.reg [⟨(some 4), none, .op (.mv (.v (.bool false)))⟩] [])
  .ret)
  .skip))
  (.seq (.seq (.reg [⟨(some 17), none, .op (.fad 0 (.t 2))⟩,
  ⟨(some 18), none, .op (.load none (.t 17))⟩,
  ⟨(some 19), none, .op (.len .sl (.t 18))⟩,
  ⟨(some 20), none, .op (.mv (.v (.int .i64 0)))⟩] [])
  (.block 0 (.loop (.seq (.reg [⟨(some 21), none, .op (.bin .none .lss (.t 20) (.t 19))⟩] [])
  (.seq (.cond (.t 21)
  .skip
  (.exit 0))
  (.seq (.block 1 (.seq (.reg [⟨(some 22), none, .op (.mv (.t 20))⟩,
  ⟨(some 5), none, .op (.mv (.t 22))⟩] [])
  (.seq (.reg [⟨(some 23), none, .op (.fad 0 (.t 2))⟩,
  ⟨(some 24), none, .op (.load none (.t 23))⟩,
  ⟨(some 25), none, .op (.mv (.t 5))⟩,
  ⟨(some 26), none, .op (.iad none (some 5) (.t 24) (.t 25))⟩,
  ⟨(some 27), none, .op (.load (some 5) (.t 26))⟩,
  ⟨(some 28), none, .op (.fad 0 (.t 3))⟩,
  ⟨(some 29), none, .op (.load none (.t 28))⟩,
  ⟨(some 30), none, .op (.mv (.t 5))⟩,
  ⟨(some 31), none, .op (.iad none (some 5) (.t 29) (.t 30))⟩,
  ⟨(some 32), none, .op (.load (some 5) (.t 31))⟩,
  ⟨(some 6), none, .op (.new [(.int .i64 0), .nils, (.bool false), (.int .i64 0), .nils])⟩,
  ⟨(some 7), none, .op (.new [(.int .i64 0), .nils, (.bool false), (.int .i64 0), .nils])⟩,
  ⟨none, none, .op (.store 5 (.t 6) (.t 27))⟩,
  ⟨none, none, .op (.store 5 (.t 7) (.t 32))⟩] [(1, 10), (4, 10), (6, 10), (9, 10), (1, 11), (4, 11), (6, 11), (9, 11), (10, 11), (6, 12), (9, 12)])
  (.seq (.seq (.reg [⟨(some 33), none, .op (.fad 0 (.t 6))⟩,
  ⟨(some 34), none, .op (.load none (.t 33))⟩,
  ⟨(some 35), none, .op (.fad 0 (.t 7))⟩,
  ⟨(some 36), none, .op (.load none (.t 35))⟩,
  ⟨(some 37), none, .op (.bin .none .neq (.t 34) (.t 36))⟩,
  ⟨(some 38), none, .op (.mv (.t 37))⟩,
  ⟨(some 39), some (38, false), .op (.fad 2 (.t 6))⟩,
  ⟨(some 40), some (38, false), .op (.load none (.t 39))⟩,
  ⟨(some 41), some (38, false), .op (.fad 2 (.t 7))⟩,
  ⟨(some 42), some (38, false), .op (.load none (.t 41))⟩,
  ⟨(some 43), some (38, false), .op (.bin .bool .neq (.t 40) (.t 42))⟩,
  ⟨(some 44), none, .op (.pick (.t 38) (.v (.bool true)) (.t 43))⟩,
  ⟨(some 45), none, .op (.mv (.t 44))⟩,
  ⟨(some 46), some (45, false), .op (.fad 3 (.t 6))⟩,
  ⟨(some 47), some (45, false), .op (.load none (.t 46))⟩,
  ⟨(some 48), some (45, false), .op (.fad 3 (.t 7))⟩,
  ⟨(some 49), some (45, false), .op (.load none (.t 48))⟩,
  ⟨(some 50), some (45, false), .op (.bin .none .neq (.t 47) (.t 49))⟩,
  ⟨(some 51), none, .op (.pick (.t 45) (.v (.bool true)) (.t 50))⟩,
  ⟨(some 52), none, .op (.mv (.t 51))⟩,
  ⟨(some 53), some (52, false), .op (.fad 1 (.t 6))⟩,
  ⟨(some 54), some (52, false), .op (.load none (.t 53))⟩,
  ⟨(some 55), some (52, false), .op (.len .sl (.t 54))⟩,
  ⟨(some 56), some (52, false), .op (.fad 1 (.t 7))⟩,
  ⟨(some 57), some (52, false), .op (.load none (.t 56))⟩,
  ⟨(some 58), some (52, false), .op (.len .sl (.t 57))⟩,
  ⟨(some 59), some (52, false), .op (.bin .none .neq (.t 55) (.t 58))⟩,
  ⟨(some 60), none, .op (.pick (.t 52) (.v (.bool true)) (.t 59))⟩,
  ⟨(some 61), none, .op (.mv (.t 60))⟩,
  ⟨(some 62), some (61, false), .op (.fad 4 (.t 6))⟩,
  ⟨(some 63), some (61, false), .op (.load none (.t 62))⟩,
  ⟨(some 64), some (61, false), .op (.len .sl (.t 63))⟩,
  ⟨(some 65), some (61, false), .op (.fad 4 (.t 7))⟩,
  ⟨(some 66), some (61, false), .op (.load none (.t 65))⟩,
  ⟨(some 67), some (61, false), .op (.len .sl (.t 66))⟩,
  ⟨(some 68), some (61, false), .op (.bin .none .neq (.t 64) (.t 67))⟩,
  ⟨(some 69), none, .op (.pick (.t 61) (.v (.bool true)) (.t 68))⟩] [])
  (.cond (.t 69)
  (.seq (.reg [⟨(some 4), none, .op (.mv (.v (.bool false)))⟩] [])
  .ret)
  .skip))
  (.seq (.seq (.reg [⟨(some 70), none, .op (.fad 1 (.t 6))⟩,
  ⟨(some 71), none, .op (.load none (.t 70))⟩,
  ⟨(some 72), none, .op (.len .sl (.t 71))⟩,
  ⟨(some 73), none, .op (.mv (.v (.int .i64 0)))⟩] [])
  (.block 2 (.loop (.seq (.reg [⟨(some 74), none, .op (.bin .none .lss (.t 73) (.t 72))⟩] [])
  (.seq (.cond (.t 74)
  .skip
  (.exit 2))
  (.seq (.block 3 (.seq (.reg [⟨(some 75), none, .op (.mv (.t 73))⟩,
  ⟨(some 8), none, .op (.mv (.t 75))⟩] [])
  (.seq (.reg [⟨(some 76), none, .op (.fad 1 (.t 6))⟩,
  ⟨(some 77), none, .op (.load none (.t 76))⟩,
  ⟨(some 78), none, .op (.mv (.t 8))⟩,
  ⟨(some 79), none, .op (.iad none none (.t 77) (.t 78))⟩,
  ⟨(some 80), none, .op (.load none (.t 79))⟩,
  ⟨(some 81), none, .op (.fad 1 (.t 7))⟩,
  ⟨(some 82), none, .op (.load none (.t 81))⟩,
  ⟨(some 83), none, .op (.mv (.t 8))⟩,
  ⟨(some 84), none, .op (.iad none none (.t 82) (.t 83))⟩,
  ⟨(some 85), none, .op (.load none (.t 84))⟩,
  ⟨(some 86), none, .op (.bin .none .neq (.t 80) (.t 85))⟩] [])
  (.cond (.t 86)
  (.seq (.reg [⟨(some 4), none, .op (.mv (.v (.bool false)))⟩] [])
  .ret)
  .skip))))
  (.reg [⟨(some 87), none, .op (.bin .none .add (.t 73) (.v (.int .i64 1)))⟩,
  ⟨(some 73), none, .op (.mv (.t 87))⟩] [])))))))
  (.seq (.reg [⟨(some 88), none, .op (.fad 4 (.t 6))⟩,
  ⟨(some 89), none, .op (.load none (.t 88))⟩,
  ⟨(some 90), none, .op (.len .sl (.t 89))⟩,
  ⟨(some 91), none, .op (.mv (.v (.int .i64 0)))⟩] [])
  (.block 4 (.loop (.seq (.reg [⟨(some 92), none, .op (.bin .none .lss (.t 91) (.t 90))⟩] [])
  (.seq (.cond (.t 92)
  .skip
  (.exit 4))
  (.seq (.block 5 (.seq (.reg [⟨(some 93), none, .op (.mv (.t 91))⟩,
  ⟨(some 9), none, .op (.mv (.t 93))⟩] [])
  (.seq (.reg [⟨(some 94), none, .op (.fad 4 (.t 6))⟩,
  ⟨(some 95), none, .op (.load none (.t 94))⟩,
  ⟨(some 96), none, .op (.mv (.t 9))⟩,
  ⟨(some 97), none, .op (.iad none (some 3) (.t 95) (.t 96))⟩,
  ⟨(some 98), none, .op (.load (some 3) (.t 97))⟩,
  ⟨(some 99), none, .op (.fad 4 (.t 7))⟩,
  ⟨(some 100), none, .op (.load none (.t 99))⟩,
  ⟨(some 101), none, .op (.mv (.t 9))⟩,
  ⟨(some 102), none, .op (.iad none (some 3) (.t 100) (.t 101))⟩,
  ⟨(some 103), none, .op (.load (some 3) (.t 102))⟩,
  ⟨(some 104), none, .op (.eqs [.int, .int, .int] .neq (.t 98) (.t 103))⟩] [])
  (.cond (.t 104)
  (.seq (.reg [⟨(some 4), none, .op (.mv (.v (.bool false)))⟩] [])
  .ret)
  .skip))))
  (.reg [⟨(some 105), none, .op (.bin .none .add (.t 91) (.v (.int .i64 1)))⟩,
  ⟨(some 91), none, .op (.mv (.t 105))⟩] []))))))))))))
  (.reg [⟨(some 106), none, .op (.bin .none .add (.t 20) (.v (.int .i64 1)))⟩,
  ⟨(some 20), none, .op (.mv (.t 106))⟩] [])))))))
  (.seq (.reg [⟨(some 4), none, .op (.mv (.v (.bool true)))⟩] [])
  .ret))))
theorem fn22 : Fn3 Tryd.prog 22 107 [(4, none)] fc22 := ⟨_, _, Tryd.func22, rfl, rfl, rfl, by kernel_rfl⟩
end Go.Proofs.YtkfhljombjmdbaaDoor
