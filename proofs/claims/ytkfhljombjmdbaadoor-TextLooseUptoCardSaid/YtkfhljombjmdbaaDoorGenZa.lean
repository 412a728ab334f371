/- What the functions compute, and that they do (printed by wip/gen/gen.py), part 1. -/
import Derived.Test.YtkfhljombjmdbaaDoorWlH1
import Derived.Test.YtkfhljombjmdbaaDoorRows
import Derived.Test.YtkfhljombjmdbaaDoorWlI2
namespace Go.Proofs.YtkfhljombjmdbaaDoor
open Go Go.Ab
set_option maxRecDepth 20000
set_option maxHeartbeats 2000000
set_option linter.unusedVariables false
set_option linter.unusedSimpArgs false
theorem mixed : Tryd.prog.follows .mixedOrders = true := Tryd.checked.mixed
structure Instr where
  Op : Int
  Arg : Int
  Imm : Int
def Instr.cells (x : Instr) : List AV := [(.int .u8 x.Op), (.int .i64 x.Arg), (.int .u64 x.Imm)]
def Instr.av (x : Instr) : AV := .agg (Instr.cells x)
theorem Instr.enc : Enc Instr.av (some 3) := ⟨fun _ => rfl, fun _ => rfl, fun _ => rfl, fun x n => blwL_of ⟨((encI .u8).blw x.Op n), ((encI .i64).blw x.Arg n), ((encI .u64).blw x.Imm n), trivial⟩⟩
structure Func where
  Params : Int
  Locals : (List Int)
  Result : Bool
  Keep : Int
  Code : (List Instr)
def Func.cells (x : Func) : List AV := [(.int .i64 x.Params), (.sl false 1 (List.map (avI .u8) x.Locals)), (.bool x.Result), (.int .i64 x.Keep), (.sl false 3 (List.map Instr.av x.Code))]
def Func.av (x : Func) : AV := .agg (Func.cells x)
theorem Func.enc : Enc Func.av (some 5) := ⟨fun _ => rfl, fun _ => rfl, fun _ => rfl, fun x n => blwL_of ⟨((encI .i64).blw x.Params n), ((encL (encI .u8) 1).blw x.Locals n), (encB.blw x.Result n), ((encI .i64).blw x.Keep n), ((encL Instr.enc 3).blw x.Code n), trivial⟩⟩
structure Program where
  Funcs : (List Func)
def Program.cells (x : Program) : List AV := [(.sl false 5 (List.map Func.av x.Funcs))]
def Program.av (x : Program) : AV := .agg (Program.cells x)
theorem Program.enc : Enc Program.av (some 1) := ⟨fun _ => rfl, fun _ => rfl, fun _ => rfl, fun x n => blwL_of ⟨((encL Func.enc 5).blw x.Funcs n), trivial⟩⟩
/- windlass/text.Parse$1 -/
def fc54 : FC := (.seq (.reg [⟨(some 2), none, .op (.mv (.v (.bool false)))⟩] [])
  (.seq (.reg [⟨(some 3), none, .op (.mv (.t 0))⟩,
  ⟨(some 4), none, .op (.bin .none .eql (.t 3) (.v (.str (ByteArray.mk #[]))))⟩,
  ⟨(some 2), none, .op (.mv (.t 4))⟩] [])
  .ret))
theorem fn54 : Fn3 Tryd.prog 54 5 [(2, none)] fc54 := ⟨_, _, Tryd.func54, rfl, rfl, rfl, by kernel_rfl⟩
def text_Parse_1_s (w_00 : ByteArray) : Option Bool :=
  (some (ByteArray.toList w_00 == ByteArray.toList (ByteArray.mk #[])))
theorem text_Parse_1_ev {w_00 : ByteArray} {r : Bool} (h : text_Parse_1_s w_00 = some r) : PureEv Tryd.prog 54 [(.str w_00)] (.bool r) := by
  unfold text_Parse_1_s at h
  refine PureEv_end mixed fn54 (by simp) [] 6 ?_
  unfold fc54
  refine E_sq ?_
  refine E_reg ?_
  refine E_mv (v' := (.bool false)) rfl ?_
  refine E_nil ?_
  refine E_nx ?_
  refine E_sq ?_
  refine E_reg ?_
  refine E_mv (v' := (.str w_00)) rfl ?_
  refine E_op0 (v' := (.bool (ByteArray.toList w_00 == ByteArray.toList (ByteArray.mk #[])))) rfl rfl ?_
  refine E_mv (v' := (.bool (ByteArray.toList w_00 == ByteArray.toList (ByteArray.mk #[])))) rfl ?_
  refine E_nil ?_
  refine E_nx ?_
  refine E_ret ?_
  cases h
  exact ⟨trivial, _, rfl, (fz_b rfl (.refl _))⟩
/- strconv.FormatUint -/
def fc42 : FC := (.seq (.reg [⟨(some 4), none, .op (.mv (.v (.str (ByteArray.mk #[]))))⟩] [])
  (.seq (.reg [⟨(some 5), none, .op (.mv (.t 0))⟩,
  ⟨(some 6), none, .op (.mv (.t 1))⟩,
  ⟨(some 7), none, .call 89 [(.t 5), (.t 6)]⟩,
  ⟨(some 4), none, .op (.mv (.t 7))⟩] [])
  .ret))
theorem fn42 : Fn3 Tryd.prog 42 8 [(4, none)] fc42 := ⟨_, _, Tryd.func42, rfl, rfl, rfl, by kernel_rfl⟩
def strconv_FormatUint_s (i_00 : Int) (base_01 : Int) : Option ByteArray :=
  ((internal_strconv_FormatUint_s i_00 base_01).bind fun vfor_1 => (some vfor_1))
theorem strconv_FormatUint_ev {i_00 : Int} {base_01 : Int} {r : ByteArray} (h : strconv_FormatUint_s i_00 base_01 = some r) : PureEv Tryd.prog 42 [(.int .u64 i_00), (.int .i64 base_01)] (.str r) := by
  unfold strconv_FormatUint_s at h
  refine PureEv_end mixed fn42 (by simp) [] 6 ?_
  unfold fc42
  refine E_sq ?_
  refine E_reg ?_
  refine E_mv (v' := (.str (ByteArray.mk #[]))) rfl ?_
  refine E_nil ?_
  refine E_nx ?_
  refine E_sq ?_
  refine E_reg ?_
  refine E_mv (v' := (.int .u64 i_00)) rfl ?_
  refine E_mv (v' := (.int .i64 base_01)) rfl ?_
  obtain ⟨vfor_1, hvfor_1, h⟩ := bd_some h
  refine E_callW (internal_strconv_FormatUint_ev  hvfor_1) rfl ⟨(.refl _), (.refl _), trivial⟩ (blwL_of ⟨rfl, rfl, trivial⟩) rfl ?_
  refine E_mv (v' := (.str vfor_1)) rfl ?_
  refine E_nil ?_
  refine E_nx ?_
  refine E_ret ?_
  cases h
  exact ⟨trivial, _, rfl, (fz_b rfl (.refl _))⟩
/- windlass/text.number -/
def fc95 : FC := (.seq (.reg [⟨(some 4), none, .op (.mv (.v (.int .u64 0)))⟩,
  ⟨(some 5), none, .op (.mv (.v (.bool false)))⟩] [])
  (.seq (.reg [⟨(some 9), none, .op (.mv (.t 0))⟩,
  ⟨(some 10), none, .call 93 [(.t 9), (.v (.int .i64 10)), (.v (.int .i64 64))]⟩,
  ⟨(some 8), none, .op (.mv (.t 10))⟩,
  ⟨(some 11), none, .op (.ext 0 (.t 8))⟩,
  ⟨(some 12), none, .op (.ext 1 (.t 8))⟩,
  ⟨(some 6), none, .op (.mv (.t 11))⟩,
  ⟨(some 7), none, .op (.mv (.t 12))⟩] [])
  (.seq (.reg [⟨(some 13), none, .op (.mv (.t 6))⟩,
  ⟨(some 14), none, .op (.mv (.t 7))⟩,
  ⟨(some 15), none, .op (.bin .ifn .eql (.t 14) (.v .nili))⟩,
  ⟨(some 16), none, .op (.mv (.t 15))⟩,
  ⟨(some 17), some (16, true), .op (.mv (.t 6))⟩,
  ⟨(some 18), some (16, true), .op (.mv (.t 1))⟩,
  ⟨(some 19), some (16, true), .op (.bin .none .leq (.t 17) (.t 18))⟩,
  ⟨(some 20), none, .op (.pick (.t 16) (.t 19) (.v (.bool false)))⟩,
  ⟨(some 21), none, .op (.mv (.t 20))⟩,
  ⟨(some 22), some (21, true), .op (.mv (.t 6))⟩,
  ⟨(some 23), some (21, true), .call 42 [(.t 22), (.v (.int .i64 10))]⟩,
  ⟨(some 24), some (21, true), .op (.mv (.t 0))⟩,
  ⟨(some 25), some (21, true), .op (.bin .none .eql (.t 23) (.t 24))⟩,
  ⟨(some 26), none, .op (.pick (.t 21) (.t 25) (.v (.bool false)))⟩,
  ⟨(some 4), none, .op (.mv (.t 13))⟩,
  ⟨(some 5), none, .op (.mv (.t 26))⟩] [])
  .ret)))
theorem fn95 : Fn3 Tryd.prog 95 27 [(4, none), (5, none)] fc95 := ⟨_, _, Tryd.func95, rfl, rfl, rfl, by kernel_rfl⟩
def text_number_s (w_00 : ByteArray) (most_01 : Int) : Option (Int × Bool) :=
  ((strconv_ParseUint_s w_00 10 64).bind fun par_1 => (jp (fun (s_3 : Bool) => (some (par_1.1, s_3))) (fun k_2 => (if (!par_1.2) then (if (decide (par_1.1 ≤ most_01)) then ((strconv_FormatUint_s par_1.1 10).bind fun vfor_4 => (k_2 (ByteArray.toList vfor_4 == ByteArray.toList w_00))) else (k_2 false)) else (k_2 false)))))
theorem text_number_ev {w_00 : ByteArray} {most_01 : Int} {r : (Int × Bool)} (h : text_number_s w_00 most_01 = some r) : PureEv Tryd.prog 95 [(.str w_00), (.int .u64 most_01)] (.tup [(.int .u64 r.1), (.bool r.2)]) := by
  unfold text_number_s at h
  refine PureEv_end mixed fn95 (by simp) [] 6 ?_
  unfold fc95
  refine E_sq ?_
  refine E_reg ?_
  refine E_mv (v' := (.int .u64 0)) rfl ?_
  refine E_mv (v' := (.bool false)) rfl ?_
  refine E_nil ?_
  refine E_nx ?_
  refine E_sq ?_
  refine E_reg ?_
  refine E_mv (v' := (.str w_00)) rfl ?_
  obtain ⟨par_1, hpar_1, h⟩ := bd_some h
  refine E_callW (strconv_ParseUint_ev  hpar_1) rfl ⟨(.refl _), (.refl _), (.refl _), trivial⟩ (blwL_of ⟨rfl, rfl, rfl, trivial⟩) (tup_blw ⟨rfl, (avE_blw 223 _ 0), trivial⟩) ?_
  refine E_mv (v' := (.tup [(.int .u64 par_1.1), (avE 223 par_1.2)])) rfl ?_
  refine E_op0 (v' := (.int .u64 par_1.1)) rfl rfl ?_
  refine E_op0 (v' := (avE 223 par_1.2)) rfl rfl ?_
  refine E_mv (v' := (.int .u64 par_1.1)) rfl ?_
  refine E_mv (v' := (avE 223 par_1.2)) rfl ?_
  refine E_nil ?_
  refine E_nx ?_
  refine E_jp h (fun s_3 => [(4, (.int .u64 par_1.1)), (5, (.bool s_3))]) (fun s_3 => []) (fun k_2 h => ?_) (fun s_3 h => ?_)
  · refine E_reg ?_
    refine E_mv (v' := (.int .u64 par_1.1)) rfl ?_
    refine E_mv (v' := (avE 223 par_1.2)) rfl ?_
    refine E_ine rfl rfl ?_
    refine E_mv (v' := (.bool (!par_1.2))) rfl ?_
    refine E_gsT (b := (!par_1.2)) rfl rfl rfl (fun hb => ?_) (fun hb => ?_)
    · rw [ite_t hb] at h
      refine E_mv (v' := (.int .u64 par_1.1)) rfl ?_
      refine E_gh rfl ?_
      refine E_mv (v' := (.int .u64 most_01)) rfl ?_
      refine E_gh rfl ?_
      refine E_op0 (v' := (.bool (decide (par_1.1 ≤ most_01)))) rfl rfl ?_
      refine E_pt rfl rfl ?_
      refine E_mv (v' := (.bool (decide (par_1.1 ≤ most_01)))) rfl ?_
      refine E_gsT (b := (decide (par_1.1 ≤ most_01))) rfl rfl rfl (fun hb => ?_) (fun hb => ?_)
      · rw [ite_t hb] at h
        refine E_mv (v' := (.int .u64 par_1.1)) rfl ?_
        refine E_gh rfl ?_
        obtain ⟨vfor_4, hvfor_4, h⟩ := bd_some h
        refine E_callW (strconv_FormatUint_ev  hvfor_4) rfl ⟨(.refl _), (.refl _), trivial⟩ (blwL_of ⟨rfl, rfl, trivial⟩) rfl ?_
        refine E_gh rfl ?_
        refine E_mv (v' := (.str w_00)) rfl ?_
        refine E_gh rfl ?_
        refine E_op0 (v' := (.bool (ByteArray.toList vfor_4 == ByteArray.toList w_00))) rfl rfl ?_
        refine E_pt rfl rfl ?_
        refine E_mv (v' := (.int .u64 par_1.1)) rfl ?_
        refine E_mv (v' := (.bool (ByteArray.toList vfor_4 == ByteArray.toList w_00))) rfl ?_
        refine E_nil ?_
        exact E_jx _ h (wk_aw ⟨(.refl _), (.refl _), trivial⟩)
      · rw [ite_f hb] at h
        refine E_gm rfl ?_
        refine E_gm rfl ?_
        refine E_gm rfl ?_
        refine E_pf rfl rfl ?_
        refine E_mv (v' := (.int .u64 par_1.1)) rfl ?_
        refine E_mv (v' := (.bool false)) rfl ?_
        refine E_nil ?_
        exact E_jx _ h (wk_aw ⟨(.refl _), (.refl _), trivial⟩)
    · rw [ite_f hb] at h
      refine E_gm rfl ?_
      refine E_gm rfl ?_
      refine E_pf rfl rfl ?_
      refine E_mv (v' := (.bool false)) rfl ?_
      refine E_gm rfl ?_
      refine E_gm rfl ?_
      refine E_gm rfl ?_
      refine E_gm rfl ?_
      refine E_pf rfl rfl ?_
      refine E_mv (v' := (.int .u64 par_1.1)) rfl ?_
      refine E_mv (v' := (.bool false)) rfl ?_
      refine E_nil ?_
      exact E_jx _ h (wk_aw ⟨(.refl _), (.refl _), trivial⟩)
  · refine E_ret ?_
    cases h
    exact ⟨trivial, _, rfl, (fz_tup ⟨(fz_b rfl (.refl _)), (fz_b rfl (.refl _)), trivial⟩)⟩
/- windlass/text.function -/
def fc55 : FC := (.seq (.reg [⟨(some 2), none, .op (.new [(.int .i64 0), .nils, (.bool false), (.int .i64 0), .nils])⟩,
  ⟨(some 3), none, .op (.mv (.v (.bool false)))⟩] [])
  (.seq (.seq (.reg [⟨(some 12), none, .op (.mv (.t 0))⟩,
  ⟨(some 13), none, .op (.len .sl (.t 12))⟩,
  ⟨(some 14), none, .op (.bin .none .neq (.t 13) (.v (.int .i64 5)))⟩] [])
  (.cond (.t 14)
  (.seq (.reg [⟨(some 15), none, .op (.build [(.int .i64 0), .nils, (.bool false), (.int .i64 0), .nils] [])⟩,
  ⟨none, none, .op (.store 5 (.t 2) (.t 15))⟩,
  ⟨(some 3), none, .op (.mv (.v (.bool false)))⟩] [])
  .ret)
  .skip))
  (.seq (.reg [⟨(some 17), none, .op (.mv (.t 0))⟩,
  ⟨(some 18), none, .op (.iad none none (.t 17) (.v (.int .i64 1)))⟩,
  ⟨(some 19), none, .op (.load none (.t 18))⟩,
  ⟨(some 20), none, .call 95 [(.t 19), (.v (.int .u64 255))]⟩,
  ⟨(some 16), none, .op (.mv (.t 20))⟩,
  ⟨(some 21), none, .op (.ext 0 (.t 16))⟩,
  ⟨(some 22), none, .op (.ext 1 (.t 16))⟩,
  ⟨(some 4), none, .op (.mv (.t 21))⟩,
  ⟨(some 5), none, .op (.mv (.t 22))⟩] [])
  (.seq (.reg [⟨(some 23), none, .op (.mv (.t 4))⟩,
  ⟨(some 24), none, .op (.cint .i64 (.t 23))⟩,
  ⟨(some 25), none, .op (.mv (.t 0))⟩,
  ⟨(some 26), none, .op (.iad none none (.t 25) (.v (.int .i64 3)))⟩,
  ⟨(some 27), none, .op (.load none (.t 26))⟩,
  ⟨(some 28), none, .op (.bin .none .eql (.t 27) (.v (.str (ByteArray.mk #[49]))))⟩,
  ⟨(some 29), none, .op (.build [(.int .i64 0), .nils, (.bool false), (.int .i64 0), .nils] [(0, 1, (.t 24)), (3, 1, (.v (.int .i64 (-1)))), (2, 1, (.t 28))])⟩,
  ⟨(some 6), none, .op (.new [(.int .i64 0), .nils, (.bool false), (.int .i64 0), .nils])⟩,
  ⟨none, none, .op (.store 5 (.t 6) (.t 29))⟩] [])
  (.seq (.seq (.reg [⟨(some 30), none, .op (.mv (.t 0))⟩,
  ⟨(some 31), none, .op (.iad none none (.t 30) (.v (.int .i64 2)))⟩,
  ⟨(some 32), none, .op (.load none (.t 31))⟩,
  ⟨(some 33), none, .op (.bin .none .neq (.t 32) (.v (.str (ByteArray.mk #[45]))))⟩] [])
  (.cond (.t 33)
  (.seq (.reg [⟨(some 34), none, .op (.mv (.t 0))⟩,
  ⟨(some 35), none, .op (.iad none none (.t 34) (.v (.int .i64 2)))⟩,
  ⟨(some 36), none, .op (.load none (.t 35))⟩,
  ⟨(some 37), none, .op (.s2b (.t 36))⟩,
  ⟨(some 38), none, .op (.len .sl (.t 37))⟩,
  ⟨(some 39), none, .op (.mv (.v (.int .i64 0)))⟩] [])
  (.block 0 (.loop (.seq (.reg [⟨(some 40), none, .op (.bin .none .lss (.t 39) (.t 38))⟩] [])
  (.seq (.cond (.t 40)
  .skip
  (.exit 0))
  (.seq (.block 1 (.seq (.reg [⟨(some 41), none, .op (.iad none none (.t 37) (.t 39))⟩,
  ⟨(some 42), none, .op (.load none (.t 41))⟩,
  ⟨(some 8), none, .op (.mv (.t 42))⟩] [])
  (.seq (.reg [⟨(some 43), none, .op (.mv (.t 8))⟩,
  ⟨(some 44), none, .call 96 [(.v (.str (ByteArray.mk #[110, 112]))), (.t 43)]⟩,
  ⟨(some 9), none, .op (.mv (.t 44))⟩] [])
  (.seq (.reg [⟨(some 45), none, .op (.mv (.t 5))⟩,
  ⟨(some 46), none, .op (.mv (.t 45))⟩,
  ⟨(some 47), some (46, true), .op (.mv (.t 9))⟩,
  ⟨(some 48), some (46, true), .op (.bin .none .geq (.t 47) (.v (.int .i64 0)))⟩,
  ⟨(some 49), none, .op (.pick (.t 46) (.t 48) (.v (.bool false)))⟩,
  ⟨(some 5), none, .op (.mv (.t 49))⟩] [])
  (.reg [⟨(some 50), none, .op (.fad 1 (.t 6))⟩,
  ⟨(some 51), none, .op (.load none (.t 50))⟩,
  ⟨(some 52), none, .op (.mv (.t 9))⟩,
  ⟨(some 53), none, .op (.mn true (.t 52) (.v (.int .i64 0)))⟩,
  ⟨(some 54), none, .op (.cint .u8 (.t 53))⟩,
  ⟨(some 55), none, .op (.bsl none [(.int .u8 0)] 1 [(0, 1, (.t 54))])⟩,
  ⟨(some 56), none, .op (.app none 1 (.t 51) (.t 55))⟩,
  ⟨(some 57), none, .op (.fad 1 (.t 6))⟩,
  ⟨none, none, .op (.store 1 (.t 57) (.t 56))⟩] [])))))
  (.reg [⟨(some 58), none, .op (.bin .none .add (.t 39) (.v (.int .i64 1)))⟩,
  ⟨(some 39), none, .op (.mv (.t 58))⟩] [])))))))
  .skip))
  (.seq (.seq (.reg [⟨(some 59), none, .op (.mv (.t 0))⟩,
  ⟨(some 60), none, .op (.iad none none (.t 59) (.v (.int .i64 4)))⟩,
  ⟨(some 61), none, .op (.load none (.t 60))⟩,
  ⟨(some 62), none, .op (.bin .none .neq (.t 61) (.v (.str (ByteArray.mk #[45]))))⟩] [])
  (.cond (.t 62)
  (.seq (.reg [⟨(some 64), none, .op (.mv (.t 0))⟩,
  ⟨(some 65), none, .op (.iad none none (.t 64) (.v (.int .i64 4)))⟩,
  ⟨(some 66), none, .op (.load none (.t 65))⟩,
  ⟨(some 67), none, .call 95 [(.t 66), (.v (.int .u64 254))]⟩,
  ⟨(some 63), none, .op (.mv (.t 67))⟩,
  ⟨(some 68), none, .op (.ext 0 (.t 63))⟩,
  ⟨(some 69), none, .op (.ext 1 (.t 63))⟩,
  ⟨(some 10), none, .op (.mv (.t 68))⟩,
  ⟨(some 11), none, .op (.mv (.t 69))⟩] [])
  (.seq (.reg [⟨(some 70), none, .op (.mv (.t 10))⟩,
  ⟨(some 71), none, .op (.cint .i64 (.t 70))⟩,
  ⟨(some 72), none, .op (.fad 3 (.t 6))⟩,
  ⟨none, none, .op (.store 1 (.t 72) (.t 71))⟩] [])
  (.reg [⟨(some 73), none, .op (.mv (.t 5))⟩,
  ⟨(some 74), none, .op (.mv (.t 73))⟩,
  ⟨(some 75), some (74, true), .op (.mv (.t 11))⟩,
  ⟨(some 76), none, .op (.pick (.t 74) (.t 75) (.v (.bool false)))⟩,
  ⟨(some 5), none, .op (.mv (.t 76))⟩] [])))
  .skip))
  (.seq (.reg [⟨(some 77), none, .op (.load (some 5) (.t 6))⟩,
  ⟨(some 78), none, .op (.mv (.t 5))⟩,
  ⟨(some 79), none, .op (.mv (.t 78))⟩,
  ⟨(some 80), some (79, true), .op (.mv (.t 0))⟩,
  ⟨(some 81), some (79, true), .op (.iad none none (.t 80) (.v (.int .i64 3)))⟩,
  ⟨(some 82), some (79, true), .op (.load none (.t 81))⟩,
  ⟨(some 83), some (79, true), .op (.bin .none .eql (.t 82) (.v (.str (ByteArray.mk #[48]))))⟩,
  ⟨(some 84), some (79, true), .op (.mv (.t 83))⟩,
  ⟨(some 85), some (84, false), .op (.mv (.t 0))⟩,
  ⟨(some 86), some (84, false), .op (.iad none none (.t 85) (.v (.int .i64 3)))⟩,
  ⟨(some 87), some (84, false), .op (.load none (.t 86))⟩,
  ⟨(some 88), some (84, false), .op (.bin .none .eql (.t 87) (.v (.str (ByteArray.mk #[49]))))⟩,
  ⟨(some 89), some (79, true), .op (.pick (.t 84) (.v (.bool true)) (.t 88))⟩,
  ⟨(some 90), none, .op (.pick (.t 79) (.t 89) (.v (.bool false)))⟩,
  ⟨none, none, .op (.store 5 (.t 2) (.t 77))⟩,
  ⟨(some 3), none, .op (.mv (.t 90))⟩] [(10, 14)])
  .ret)))))))
theorem fn55 : Fn3 Tryd.prog 55 91 [(2, (some (some 5))), (3, none)] fc55 := ⟨_, _, Tryd.func55, rfl, rfl, rfl, by kernel_rfl⟩
def text_function_s (w_00 : (List ByteArray)) : Option (Func × Bool) :=
  (if ((List.length w_00 : Int) != 5) then (some ((Func.mk 0 [] false 0 []), false)) else ((getI w_00 1).bind fun y_1 => ((text_number_s y_1 255).bind fun num_2 => ((getI w_00 3).bind fun y_3 => ((getI w_00 2).bind fun y_4 => (jp (fun (s_6 : (Bool × (List Int))) => ((getI w_00 4).bind fun y_15 => (jp (fun (s_17 : (Bool × Int)) => (jp (fun (s_20 : Bool) => (some ((Func.mk (I64 num_2.1) s_6.2 (ByteArray.toList y_3 == ByteArray.toList (ByteArray.mk #[49])) s_17.2 []), s_20))) (fun k_19 => (if s_17.1 then ((getI w_00 3).bind fun y_21 => (if (ByteArray.toList y_21 == ByteArray.toList (ByteArray.mk #[48])) then (k_19 true) else (k_19 (ByteArray.toList y_21 == ByteArray.toList (ByteArray.mk #[49]))))) else (k_19 false))))) (fun k_16 => (if (!(ByteArray.toList y_15 == ByteArray.toList (ByteArray.mk #[45]))) then ((text_number_s y_15 254).bind fun num_18 => (if s_6.1 then (k_16 (num_18.2, (I64 num_18.1))) else (k_16 (false, (I64 num_18.1))))) else (k_16 (s_6.1, (-1)))))))) (fun k_5 => (if (!(ByteArray.toList y_4 == ByteArray.toList (ByteArray.mk #[45]))) then ((rng (fun (i_8 : Nat) (c_9 : Int) (s_7 : (Bool × (List Int))) => (((strings_IndexByte_s (ByteArray.mk #[110, 112]) c_9).bind fun ind_11 => (jp (fun (s_13 : Bool) => ((appL 1 s_7.2 [(U8 (if 0 > ind_11 then 0 else ind_11))]).bind fun l_14 => (some (.nxt (s_13, l_14))))) (fun k_12 => (if s_7.1 then (k_12 (decide (ind_11 ≥ 0))) else (k_12 false))))) : Option (Stp (Bool × (List Int)) (Option (Func × Bool))))) (ofStr y_4) (num_2.2, [])).bind (oc (fun (s_7 : (Bool × (List Int))) => (k_5 (s_7.1, s_7.2))))) else (k_5 (num_2.2, []))))))))))
theorem text_function_ev {w_00 : (List ByteArray)} {r : (Func × Bool)} (h : text_function_s w_00 = some r) : PureEv Tryd.prog 55 [(.sl false 1 (List.map avS w_00))] (.tup [(Func.av r.1), (.bool r.2)]) := by
  unfold text_function_s at h
  refine PureEv_end mixed fn55 (by simp) [2, 6, 56] 6 ?_
  unfold fc55
  refine E_sq ?_
  refine E_reg ?_
  refine E_op (v' := .ptr 0 0 0) (S' := [.arr 0 [(.int .i64 0), .nils, (.bool false), (.int .i64 0), .nils]]) rfl rfl rfl ?_
  refine E_mv (v' := (.bool false)) rfl ?_
  refine E_nil ?_
  refine E_nx ?_
  refine E_as ?_
  refine E_sq ?_
  refine E_reg ?_
  refine E_mv (v' := (.sl false 1 (List.map avS w_00))) rfl ?_
  refine E_len rfl ?_
  refine E_op0 (v' := (.bool ((List.length w_00 : Int) != 5))) rfl rfl ?_
  refine E_nil ?_
  refine E_nx ?_
  refine E_sq ?_
  refine E_cs (t := ((List.length w_00 : Int) != 5)) rfl (fun hb => ?_) (fun hb => ?_)
  · rw [ite_t hb] at h
    refine E_sq ?_
    refine E_reg ?_
    refine E_op0 (v' := (.agg [(.int .i64 0), .nils, (.bool false), (.int .i64 0), .nils])) rfl rfl ?_
    refine E_do (S' := [.arr 0 [(.int .i64 0), .nils, (.bool false), (.int .i64 0), .nils]]) rfl rfl ?_
    refine E_mv (v' := (.bool false)) rfl ?_
    refine E_nil ?_
    refine E_nx ?_
    refine E_ret ?_
    refine E_thr ?_
    cases h
    exact ⟨trivial, _, rfl, (fz_tup ⟨(fz_agg ⟨(fz_b rfl (.refl _)), (fz_b rfl .nil), (fz_b rfl (.refl _)), (fz_b rfl (.refl _)), (fz_b rfl .nil), trivial⟩), (fz_b rfl (.refl _)), trivial⟩)⟩
  · rw [ite_f hb] at h
    refine E_skip ?_
    refine E_nx ?_
    refine E_sq ?_
    refine E_reg ?_
    refine E_mv (v' := (.sl false 1 (List.map avS w_00))) rfl ?_
    obtain ⟨y_1, hy_1, h⟩ := bd_some h
    refine E_iadF rfl rfl hy_1 ?_
    refine E_op0 (v' := (.str y_1)) rfl rfl ?_
    obtain ⟨num_2, hnum_2, h⟩ := bd_some h
    refine E_callW (text_number_ev  hnum_2) rfl ⟨(.refl _), (.refl _), trivial⟩ (blwL_of ⟨rfl, rfl, trivial⟩) (tup_blw ⟨rfl, rfl, trivial⟩) ?_
    refine E_mv (v' := (.tup [(.int .u64 num_2.1), (.bool num_2.2)])) rfl ?_
    refine E_op0 (v' := (.int .u64 num_2.1)) rfl rfl ?_
    refine E_op0 (v' := (.bool num_2.2)) rfl rfl ?_
    refine E_mv (v' := (.int .u64 num_2.1)) rfl ?_
    refine E_mv (v' := (.bool num_2.2)) rfl ?_
    refine E_nil ?_
    refine E_nx ?_
    refine E_sq ?_
    refine E_reg ?_
    refine E_mv (v' := (.int .u64 num_2.1)) rfl ?_
    refine E_op0 (v' := (.int .i64 (I64 num_2.1))) rfl rfl ?_
    refine E_mv (v' := (.sl false 1 (List.map avS w_00))) rfl ?_
    obtain ⟨y_3, hy_3, h⟩ := bd_some h
    refine E_iadF rfl rfl hy_3 ?_
    refine E_op0 (v' := (.str y_3)) rfl rfl ?_
    refine E_op0 (v' := (.bool (ByteArray.toList y_3 == ByteArray.toList (ByteArray.mk #[49])))) rfl rfl ?_
    refine E_op0 (v' := (.agg [(.int .i64 (I64 num_2.1)), .nils, (.bool (ByteArray.toList y_3 == ByteArray.toList (ByteArray.mk #[49]))), (.int .i64 (-1)), .nils])) rfl rfl ?_
    refine E_op (v' := .ptr 1 0 0) (S' := [.arr 0 [(.int .i64 0), .nils, (.bool false), (.int .i64 0), .nils], .arr 0 [(.int .i64 0), .nils, (.bool false), (.int .i64 0), .nils]]) rfl rfl rfl ?_
    refine E_do (S' := [.arr 0 [(.int .i64 0), .nils, (.bool false), (.int .i64 0), .nils], .arr 0 [(.int .i64 (I64 num_2.1)), .nils, (.bool (ByteArray.toList y_3 == ByteArray.toList (ByteArray.mk #[49]))), (.int .i64 (-1)), .nils]]) rfl rfl ?_
    refine E_nil ?_
    refine E_nx ?_
    refine E_as ?_
    refine E_sq ?_
    refine E_reg ?_
    refine E_mv (v' := (.sl false 1 (List.map avS w_00))) rfl ?_
    obtain ⟨y_4, hy_4, h⟩ := bd_some h
    refine E_iadF rfl rfl hy_4 ?_
    refine E_op0 (v' := (.str y_4)) rfl rfl ?_
    refine E_op0 (v' := (.bool (!(ByteArray.toList y_4 == ByteArray.toList (ByteArray.mk #[45]))))) rfl rfl ?_
    refine E_nil ?_
    refine E_nx ?_
    refine E_jp h (fun s_6 => [(0, (.sl false 1 (List.map avS w_00))), (2, (.ptr 0 0 0)), (5, (.bool s_6.1)), (6, (.ptr 1 0 0))]) (fun s_6 => [.arr 0 [(.int .i64 0), .nils, (.bool false), (.int .i64 0), .nils], .arr 0 [(.int .i64 (I64 num_2.1)), (.ref 2 1 0 (List.length s_6.2) none), (.bool (ByteArray.toList y_3 == ByteArray.toList (ByteArray.mk #[49]))), (.int .i64 (-1)), .nils], .arr 1 (flat (avI .u8) s_6.2)]) (fun k_5 h => ?_) (fun s_6 h => ?_)
    · refine E_cs (t := (!(ByteArray.toList y_4 == ByteArray.toList (ByteArray.mk #[45])))) rfl (fun hb => ?_) (fun hb => ?_)
      · rw [ite_t hb] at h
        refine E_sq ?_
        refine E_reg ?_
        refine E_mv (v' := (.sl false 1 (List.map avS w_00))) rfl ?_
        refine E_iadF rfl rfl hy_4 ?_
        refine E_op0 (v' := (.str y_4)) rfl rfl ?_
        refine E_s2b rfl ?_
        refine E_len rfl ?_
        refine E_mv (v' := (.int .i64 0)) rfl ?_
        refine E_nil ?_
        refine E_nx ?_
        refine E_rngO (fun s_7 => [(0, (.sl false 1 (List.map avS w_00))), (2, (.ptr 0 0 0)), (5, (.bool s_7.1)), (6, (.ptr 1 0 0)), (37, (.sl false 1 (List.map (avI .u8) (ofStr y_4))))]) (fun s_7 => [.arr 0 [(.int .i64 0), .nils, (.bool false), (.int .i64 0), .nils], .arr 0 [(.int .i64 (I64 num_2.1)), (.ref 2 1 0 (List.length s_7.2) none), (.bool (ByteArray.toList y_3 == ByteArray.toList (ByteArray.mk #[49]))), (.int .i64 (-1)), .nils], .arr 1 (flat (avI .u8) s_7.2)]) h (by decide) (by decide) (fun _ => ⟨rfl, rfl, rfl, rfl⟩) (wk_rn [some (0, 0), some (1, 0), none] rfl (Nat.le_of_ble_eq_true rfl) ⟨(rn_ob rfl rfl (.cons (rn_b rfl) (.cons (rn_b rfl) (.cons (rn_b rfl) (.cons (rn_b rfl) (.cons (rn_b rfl) (.nil (Nat.zero_le _))))))) rfl), (rn_ob rfl rfl (.cons (rn_b rfl) (.cons (rn_nil rfl) (.cons (rn_b rfl) (.cons (rn_b rfl) (.cons (rn_b rfl) (.nil (Nat.zero_le _))))))) rfl), (rn_obN rfl rfl rfl), trivial⟩ ⟨(rn_b rfl), (rn_b rfl), (rn_b (encS.blws 0)), (rn_ptr rfl rfl rfl rfl), (rn_b rfl), (rn_ptr rfl rfl rfl rfl), (rn_b ((encI .u8).blws 0)), trivial⟩) (fun i_8 c_9 s_7 c hx_10 hlt h => ?_) (fun s_7 fr' S' h hw => ?_)
        · refine E_sq ?_
          refine E_reg ?_
          refine E_iadF rfl rfl (getI_of hx_10) ?_
          refine E_op0 (v' := (.int .u8 c_9)) rfl rfl ?_
          refine E_mv (v' := (.int .u8 c_9)) rfl ?_
          refine E_nil ?_
          refine E_nx ?_
          refine E_sq ?_
          refine E_reg ?_
          refine E_mv (v' := (.int .u8 c_9)) rfl ?_
          obtain ⟨ind_11, hind_11, h⟩ := bd_some h
          refine E_callW (strings_IndexByte_ev  hind_11) rfl ⟨(.refl _), (.refl _), trivial⟩ (blwL_of ⟨rfl, rfl, trivial⟩) rfl ?_
          refine E_mv (v' := (.int .i64 ind_11)) rfl ?_
          refine E_nil ?_
          refine E_nx ?_
          refine E_jp h (fun s_13 => [(0, (.sl false 1 (List.map avS w_00))), (2, (.ptr 0 0 0)), (5, (.bool s_13)), (6, (.ptr 1 0 0)), (9, (.int .i64 ind_11)), (37, (.sl false 1 (List.map (avI .u8) (ofStr y_4)))), (38, (.int .i64 (List.length (ofStr y_4) : Int))), (39, (.int .i64 (i_8 : Int)))]) (fun s_13 => [.arr 0 [(.int .i64 0), .nils, (.bool false), (.int .i64 0), .nils], .arr 0 [(.int .i64 (I64 num_2.1)), (.ref 2 1 0 (List.length s_7.2) none), (.bool (ByteArray.toList y_3 == ByteArray.toList (ByteArray.mk #[49]))), (.int .i64 (-1)), .nils], .arr 1 (flat (avI .u8) s_7.2)]) (fun k_12 h => ?_) (fun s_13 h => ?_)
          · refine E_reg ?_
            refine E_mv (v' := (.bool s_7.1)) rfl ?_
            refine E_mv (v' := (.bool s_7.1)) rfl ?_
            refine E_gsT (b := s_7.1) rfl rfl rfl (fun hb => ?_) (fun hb => ?_)
            · rw [ite_t hb] at h
              refine E_mv (v' := (.int .i64 ind_11)) rfl ?_
              refine E_gh rfl ?_
              refine E_op0 (v' := (.bool (decide (ind_11 ≥ 0)))) rfl rfl ?_
              refine E_pt rfl rfl ?_
              refine E_mv (v' := (.bool (decide (ind_11 ≥ 0)))) rfl ?_
              refine E_nil ?_
              exact E_jx _ h (wk_rn [some (0, 0), some (1, 0), some (2, 0)] rfl (Nat.le_of_ble_eq_true rfl) ⟨(rn_ob rfl rfl (.cons (rn_b rfl) (.cons (rn_b rfl) (.cons (rn_b rfl) (.cons (rn_b rfl) (.cons (rn_b rfl) (.nil (Nat.zero_le _))))))) rfl), (rn_ob rfl rfl (.cons (rn_b rfl) (.cons (rn_refL (encI .u8) rfl rfl rfl) (.cons (rn_b rfl) (.cons (rn_b rfl) (.cons (rn_b rfl) (.nil (Nat.zero_le _))))))) rfl), (rn_ob rfl rfl (.refl ((encI .u8).blwf 0 _)) rfl), trivial⟩ ⟨(rn_b (encS.blws 0)), (rn_ptr rfl rfl rfl rfl), (rn_b rfl), (rn_ptr rfl rfl rfl rfl), (rn_b rfl), (rn_b ((encI .u8).blws 0)), (rn_b rfl), (rn_b rfl), trivial⟩)
            · rw [ite_f hb] at h
              refine E_gm rfl ?_
              refine E_pf rfl rfl ?_
              refine E_mv (v' := (.bool false)) rfl ?_
              refine E_nil ?_
              exact E_jx _ h (wk_rn [some (0, 0), some (1, 0), some (2, 0)] rfl (Nat.le_of_ble_eq_true rfl) ⟨(rn_ob rfl rfl (.cons (rn_b rfl) (.cons (rn_b rfl) (.cons (rn_b rfl) (.cons (rn_b rfl) (.cons (rn_b rfl) (.nil (Nat.zero_le _))))))) rfl), (rn_ob rfl rfl (.cons (rn_b rfl) (.cons (rn_refL (encI .u8) rfl rfl rfl) (.cons (rn_b rfl) (.cons (rn_b rfl) (.cons (rn_b rfl) (.nil (Nat.zero_le _))))))) rfl), (rn_ob rfl rfl (.refl ((encI .u8).blwf 0 _)) rfl), trivial⟩ ⟨(rn_b (encS.blws 0)), (rn_ptr rfl rfl rfl rfl), (rn_b rfl), (rn_ptr rfl rfl rfl rfl), (rn_b rfl), (rn_b ((encI .u8).blws 0)), (rn_b rfl), (rn_b rfl), trivial⟩)
          · refine E_reg ?_
            refine E_op0 (v' := (.ptr 1 0 1)) rfl rfl ?_
            refine E_op (v' := (.ref 2 1 0 (List.length s_7.2) none)) (S' := [.arr 0 [(.int .i64 0), .nils, (.bool false), (.int .i64 0), .nils], .arr 0 [(.int .i64 (I64 num_2.1)), (.ref 2 1 0 (List.length s_7.2) none), (.bool (ByteArray.toList y_3 == ByteArray.toList (ByteArray.mk #[49]))), (.int .i64 (-1)), .nils], .arr 1 (flat (avI .u8) s_7.2)]) rfl rfl rfl ?_
            refine E_mv (v' := (.int .i64 ind_11)) rfl ?_
            refine E_op0 (v' := (.int .i64 (if 0 > ind_11 then 0 else ind_11))) rfl rfl ?_
            refine E_op0 (v' := (.int .u8 (U8 (if 0 > ind_11 then 0 else ind_11)))) rfl rfl ?_
            refine E_opw (v' := (.sl true 1 (List.map (avI .u8) [(U8 (if 0 > ind_11 then 0 else ind_11))]))) rfl (.refl _) rfl ?_
            obtain ⟨l_14, hl_14, h⟩ := bd_some h
            refine E_apL (S' := [.arr 0 [(.int .i64 0), .nils, (.bool false), (.int .i64 0), .nils], .arr 0 [(.int .i64 (I64 num_2.1)), (.ref 2 1 0 (List.length s_7.2) none), (.bool (ByteArray.toList y_3 == ByteArray.toList (ByteArray.mk #[49]))), (.int .i64 (-1)), .nils], .arr 2 (flat (avI .u8) l_14)]) (encI .u8) rfl (src_sl [(U8 (if 0 > ind_11 then 0 else ind_11))]) rfl hl_14 rfl ?_
            refine E_op0 (v' := (.ptr 1 0 1)) rfl rfl ?_
            refine E_do (S' := [.arr 0 [(.int .i64 0), .nils, (.bool false), (.int .i64 0), .nils], .arr 0 [(.int .i64 (I64 num_2.1)), (.ref 2 2 0 (List.length l_14) none), (.bool (ByteArray.toList y_3 == ByteArray.toList (ByteArray.mk #[49]))), (.int .i64 (-1)), .nils], .arr 2 (flat (avI .u8) l_14)]) rfl rfl ?_
            refine E_nil ?_
            cases h
            exact L_nn rfl (wk_rn [some (0, 0), some (1, 0), some (2, 0)] rfl (Nat.le_of_ble_eq_true rfl) ⟨(rn_ob rfl rfl (.cons (rn_b rfl) (.cons (rn_b rfl) (.cons (rn_b rfl) (.cons (rn_b rfl) (.cons (rn_b rfl) (.nil (Nat.zero_le _))))))) rfl), (rn_ob rfl rfl (.cons (rn_b rfl) (.cons (rn_refL (encI .u8) rfl rfl rfl) (.cons (rn_b rfl) (.cons (rn_b rfl) (.cons (rn_b rfl) (.nil (Nat.zero_le _))))))) rfl), (rn_ob rfl rfl (.refl ((encI .u8).blwf 0 _)) rfl), trivial⟩ ⟨(rn_b rfl), (rn_b rfl), (rn_b (encS.blws 0)), (rn_ptr rfl rfl rfl rfl), (rn_b rfl), (rn_ptr rfl rfl rfl rfl), (rn_b ((encI .u8).blws 0)), trivial⟩)
        · exact X_jp _ h hw (wk_rn [some (0, 0), some (1, 0), some (2, 0)] rfl (Nat.le_of_ble_eq_true rfl) ⟨(rn_ob rfl rfl (.cons (rn_b rfl) (.cons (rn_b rfl) (.cons (rn_b rfl) (.cons (rn_b rfl) (.cons (rn_b rfl) (.nil (Nat.zero_le _))))))) rfl), (rn_ob rfl rfl (.cons (rn_b rfl) (.cons (rn_refL (encI .u8) rfl rfl rfl) (.cons (rn_b rfl) (.cons (rn_b rfl) (.cons (rn_b rfl) (.nil (Nat.zero_le _))))))) rfl), (rn_ob rfl rfl (.refl ((encI .u8).blwf 0 _)) rfl), trivial⟩ ⟨(rn_b (encS.blws 0)), (rn_ptr rfl rfl rfl rfl), (rn_b rfl), (rn_ptr rfl rfl rfl rfl), trivial⟩)
      · rw [ite_f hb] at h
        refine E_skip ?_
        exact E_jx _ h (wk_rn [some (0, 0), some (1, 0), none] rfl (Nat.le_of_ble_eq_true rfl) ⟨(rn_ob rfl rfl (.cons (rn_b rfl) (.cons (rn_b rfl) (.cons (rn_b rfl) (.cons (rn_b rfl) (.cons (rn_b rfl) (.nil (Nat.zero_le _))))))) rfl), (rn_ob rfl rfl (.cons (rn_b rfl) (.cons (rn_nil rfl) (.cons (rn_b rfl) (.cons (rn_b rfl) (.cons (rn_b rfl) (.nil (Nat.zero_le _))))))) rfl), (rn_obN rfl rfl rfl), trivial⟩ ⟨(rn_b (encS.blws 0)), (rn_ptr rfl rfl rfl rfl), (rn_b rfl), (rn_ptr rfl rfl rfl rfl), trivial⟩)
    · refine E_as ?_
      refine E_sq ?_
      refine E_reg ?_
      refine E_mv (v' := (.sl false 1 (List.map avS w_00))) rfl ?_
      obtain ⟨y_15, hy_15, h⟩ := bd_some h
      refine E_iadF rfl rfl hy_15 ?_
      refine E_op0 (v' := (.str y_15)) rfl rfl ?_
      refine E_op0 (v' := (.bool (!(ByteArray.toList y_15 == ByteArray.toList (ByteArray.mk #[45]))))) rfl rfl ?_
      refine E_nil ?_
      refine E_nx ?_
      refine E_jp h (fun s_17 => [(0, (.sl false 1 (List.map avS w_00))), (2, (.ptr 0 0 0)), (5, (.bool s_17.1)), (6, (.ptr 1 0 0))]) (fun s_17 => [.arr 0 [(.int .i64 0), .nils, (.bool false), (.int .i64 0), .nils], .arr 0 [(.int .i64 (I64 num_2.1)), (.ref 2 1 0 (List.length s_6.2) none), (.bool (ByteArray.toList y_3 == ByteArray.toList (ByteArray.mk #[49]))), (.int .i64 s_17.2), .nils], .arr 1 (flat (avI .u8) s_6.2)]) (fun k_16 h => ?_) (fun s_17 h => ?_)
      · refine E_cs (t := (!(ByteArray.toList y_15 == ByteArray.toList (ByteArray.mk #[45])))) rfl (fun hb => ?_) (fun hb => ?_)
        · rw [ite_t hb] at h
          refine E_sq ?_
          refine E_reg ?_
          refine E_mv (v' := (.sl false 1 (List.map avS w_00))) rfl ?_
          refine E_iadF rfl rfl hy_15 ?_
          refine E_op0 (v' := (.str y_15)) rfl rfl ?_
          obtain ⟨num_18, hnum_18, h⟩ := bd_some h
          refine E_callW (text_number_ev  hnum_18) rfl ⟨(.refl _), (.refl _), trivial⟩ (blwL_of ⟨rfl, rfl, trivial⟩) (tup_blw ⟨rfl, rfl, trivial⟩) ?_
          refine E_mv (v' := (.tup [(.int .u64 num_18.1), (.bool num_18.2)])) rfl ?_
          refine E_op0 (v' := (.int .u64 num_18.1)) rfl rfl ?_
          refine E_op0 (v' := (.bool num_18.2)) rfl rfl ?_
          refine E_mv (v' := (.int .u64 num_18.1)) rfl ?_
          refine E_mv (v' := (.bool num_18.2)) rfl ?_
          refine E_nil ?_
          refine E_nx ?_
          refine E_sq ?_
          refine E_reg ?_
          refine E_mv (v' := (.int .u64 num_18.1)) rfl ?_
          refine E_op0 (v' := (.int .i64 (I64 num_18.1))) rfl rfl ?_
          refine E_op0 (v' := (.ptr 1 0 3)) rfl rfl ?_
          refine E_do (S' := [.arr 0 [(.int .i64 0), .nils, (.bool false), (.int .i64 0), .nils], .arr 0 [(.int .i64 (I64 num_2.1)), (.ref 2 1 0 (List.length s_6.2) none), (.bool (ByteArray.toList y_3 == ByteArray.toList (ByteArray.mk #[49]))), (.int .i64 (I64 num_18.1)), .nils], .arr 1 (flat (avI .u8) s_6.2)]) rfl rfl ?_
          refine E_nil ?_
          refine E_nx ?_
          refine E_reg ?_
          refine E_mv (v' := (.bool s_6.1)) rfl ?_
          refine E_mv (v' := (.bool s_6.1)) rfl ?_
          refine E_gsT (b := s_6.1) rfl rfl rfl (fun hb => ?_) (fun hb => ?_)
          · rw [ite_t hb] at h
            refine E_mv (v' := (.bool num_18.2)) rfl ?_
            refine E_pt rfl rfl ?_
            refine E_mv (v' := (.bool num_18.2)) rfl ?_
            refine E_nil ?_
            exact E_jx _ h (wk_rn [some (0, 0), some (1, 0), some (2, 0)] rfl (Nat.le_of_ble_eq_true rfl) ⟨(rn_ob rfl rfl (.cons (rn_b rfl) (.cons (rn_b rfl) (.cons (rn_b rfl) (.cons (rn_b rfl) (.cons (rn_b rfl) (.nil (Nat.zero_le _))))))) rfl), (rn_ob rfl rfl (.cons (rn_b rfl) (.cons (rn_refL (encI .u8) rfl rfl rfl) (.cons (rn_b rfl) (.cons (rn_b rfl) (.cons (rn_b rfl) (.nil (Nat.zero_le _))))))) rfl), (rn_ob rfl rfl (.refl ((encI .u8).blwf 0 _)) rfl), trivial⟩ ⟨(rn_b (encS.blws 0)), (rn_ptr rfl rfl rfl rfl), (rn_b rfl), (rn_ptr rfl rfl rfl rfl), trivial⟩)
          · rw [ite_f hb] at h
            refine E_pf rfl rfl ?_
            refine E_mv (v' := (.bool false)) rfl ?_
            refine E_nil ?_
            exact E_jx _ h (wk_rn [some (0, 0), some (1, 0), some (2, 0)] rfl (Nat.le_of_ble_eq_true rfl) ⟨(rn_ob rfl rfl (.cons (rn_b rfl) (.cons (rn_b rfl) (.cons (rn_b rfl) (.cons (rn_b rfl) (.cons (rn_b rfl) (.nil (Nat.zero_le _))))))) rfl), (rn_ob rfl rfl (.cons (rn_b rfl) (.cons (rn_refL (encI .u8) rfl rfl rfl) (.cons (rn_b rfl) (.cons (rn_b rfl) (.cons (rn_b rfl) (.nil (Nat.zero_le _))))))) rfl), (rn_ob rfl rfl (.refl ((encI .u8).blwf 0 _)) rfl), trivial⟩ ⟨(rn_b (encS.blws 0)), (rn_ptr rfl rfl rfl rfl), (rn_b rfl), (rn_ptr rfl rfl rfl rfl), trivial⟩)
        · rw [ite_f hb] at h
          refine E_skip ?_
          exact E_jx _ h (wk_rn [some (0, 0), some (1, 0), some (2, 0)] rfl (Nat.le_of_ble_eq_true rfl) ⟨(rn_ob rfl rfl (.cons (rn_b rfl) (.cons (rn_b rfl) (.cons (rn_b rfl) (.cons (rn_b rfl) (.cons (rn_b rfl) (.nil (Nat.zero_le _))))))) rfl), (rn_ob rfl rfl (.cons (rn_b rfl) (.cons (rn_refL (encI .u8) rfl rfl rfl) (.cons (rn_b rfl) (.cons (rn_b rfl) (.cons (rn_b rfl) (.nil (Nat.zero_le _))))))) rfl), (rn_ob rfl rfl (.refl ((encI .u8).blwf 0 _)) rfl), trivial⟩ ⟨(rn_b (encS.blws 0)), (rn_ptr rfl rfl rfl rfl), (rn_b rfl), (rn_ptr rfl rfl rfl rfl), trivial⟩)
      · refine E_jp h (fun s_20 => [(2, (.ptr 0 0 0)), (3, (.bool s_20))]) (fun s_20 => [.arr 0 [(.int .i64 (I64 num_2.1)), (.ref 1 1 0 (List.length s_6.2) none), (.bool (ByteArray.toList y_3 == ByteArray.toList (ByteArray.mk #[49]))), (.int .i64 s_17.2), .nils], .arr 1 (flat (avI .u8) s_6.2)]) (fun k_19 h => ?_) (fun s_20 h => ?_)
        · refine E_regp ?_
          refine E_op (v' := (.agg [(.int .i64 (I64 num_2.1)), (.ref 2 1 0 (List.length s_6.2) none), (.bool (ByteArray.toList y_3 == ByteArray.toList (ByteArray.mk #[49]))), (.int .i64 s_17.2), .nils])) (S' := [.arr 0 [(.int .i64 0), .nils, (.bool false), (.int .i64 0), .nils], .arr 0 [(.int .i64 (I64 num_2.1)), (.ref 2 1 0 (List.length s_6.2) none), (.bool (ByteArray.toList y_3 == ByteArray.toList (ByteArray.mk #[49]))), (.int .i64 s_17.2), .nils], .arr 1 (flat (avI .u8) s_6.2)]) rfl rfl rfl ?_
          refine E_mv (v' := (.bool s_17.1)) rfl ?_
          refine E_mv (v' := (.bool s_17.1)) rfl ?_
          refine E_gsT (b := s_17.1) rfl rfl rfl (fun hb => ?_) (fun hb => ?_)
          · rw [ite_t hb] at h
            refine E_mv (v' := (.sl false 1 (List.map avS w_00))) rfl ?_
            refine E_gh rfl ?_
            obtain ⟨y_21, hy_21, h⟩ := bd_some h
            refine E_iadF rfl rfl hy_21 ?_
            refine E_gh rfl ?_
            refine E_op0 (v' := (.str y_21)) rfl rfl ?_
            refine E_gh rfl ?_
            refine E_op0 (v' := (.bool (ByteArray.toList y_21 == ByteArray.toList (ByteArray.mk #[48])))) rfl rfl ?_
            refine E_gh rfl ?_
            refine E_mv (v' := (.bool (ByteArray.toList y_21 == ByteArray.toList (ByteArray.mk #[48])))) rfl ?_
            refine E_gsT (b := (ByteArray.toList y_21 == ByteArray.toList (ByteArray.mk #[48]))) rfl rfl rfl (fun hb => ?_) (fun hb => ?_)
            · rw [ite_f hb] at h
              refine E_mv (v' := (.sl false 1 (List.map avS w_00))) rfl ?_
              refine E_gh rfl ?_
              refine E_iadF rfl rfl hy_21 ?_
              refine E_gh rfl ?_
              refine E_op0 (v' := (.str y_21)) rfl rfl ?_
              refine E_gh rfl ?_
              refine E_op0 (v' := (.bool (ByteArray.toList y_21 == ByteArray.toList (ByteArray.mk #[49])))) rfl rfl ?_
              refine E_gh rfl ?_
              refine E_pf rfl rfl ?_
              refine E_pt rfl rfl ?_
              refine E_do (S' := [.arr 0 [(.int .i64 (I64 num_2.1)), (.ref 2 1 0 (List.length s_6.2) none), (.bool (ByteArray.toList y_3 == ByteArray.toList (ByteArray.mk #[49]))), (.int .i64 s_17.2), .nils], .arr 0 [(.int .i64 (I64 num_2.1)), (.ref 2 1 0 (List.length s_6.2) none), (.bool (ByteArray.toList y_3 == ByteArray.toList (ByteArray.mk #[49]))), (.int .i64 s_17.2), .nils], .arr 1 (flat (avI .u8) s_6.2)]) rfl rfl ?_
              refine E_mv (v' := (.bool (ByteArray.toList y_21 == ByteArray.toList (ByteArray.mk #[49])))) rfl ?_
              refine E_nil ?_
              refine And.intro (by simp [okLog, nthL, okPair, hp, fpOf]) ?_
              exact E_jx _ h (wk_rn [some (0, 0), some (2, 0)] rfl (Nat.le_of_ble_eq_true rfl) ⟨(rn_ob rfl rfl (.cons (rn_b rfl) (.cons (rn_refL (encI .u8) rfl rfl rfl) (.cons (rn_b rfl) (.cons (rn_b rfl) (.cons (rn_b rfl) (.nil (Nat.zero_le _))))))) rfl), (rn_ob rfl rfl (.refl ((encI .u8).blwf 0 _)) rfl), trivial⟩ ⟨(rn_ptr rfl rfl rfl rfl), (rn_b rfl), trivial⟩)
            · rw [ite_t hb] at h
              refine E_gm rfl ?_
              refine E_gm rfl ?_
              refine E_gm rfl ?_
              refine E_gh rfl ?_
              refine E_pt rfl rfl ?_
              refine E_pt rfl rfl ?_
              refine E_do (S' := [.arr 0 [(.int .i64 (I64 num_2.1)), (.ref 2 1 0 (List.length s_6.2) none), (.bool (ByteArray.toList y_3 == ByteArray.toList (ByteArray.mk #[49]))), (.int .i64 s_17.2), .nils], .arr 0 [(.int .i64 (I64 num_2.1)), (.ref 2 1 0 (List.length s_6.2) none), (.bool (ByteArray.toList y_3 == ByteArray.toList (ByteArray.mk #[49]))), (.int .i64 s_17.2), .nils], .arr 1 (flat (avI .u8) s_6.2)]) rfl rfl ?_
              refine E_mv (v' := (.bool true)) rfl ?_
              refine E_nil ?_
              refine And.intro (by simp [okLog, nthL, okPair, hp, fpOf]) ?_
              exact E_jx _ h (wk_rn [some (0, 0), some (2, 0)] rfl (Nat.le_of_ble_eq_true rfl) ⟨(rn_ob rfl rfl (.cons (rn_b rfl) (.cons (rn_refL (encI .u8) rfl rfl rfl) (.cons (rn_b rfl) (.cons (rn_b rfl) (.cons (rn_b rfl) (.nil (Nat.zero_le _))))))) rfl), (rn_ob rfl rfl (.refl ((encI .u8).blwf 0 _)) rfl), trivial⟩ ⟨(rn_ptr rfl rfl rfl rfl), (rn_b rfl), trivial⟩)
          · rw [ite_f hb] at h
            refine E_gm rfl ?_
            refine E_gm rfl ?_
            refine E_gm rfl ?_
            refine E_gm rfl ?_
            refine E_gz rfl ?_
            refine E_gz rfl ?_
            refine E_gz rfl ?_
            refine E_gz rfl ?_
            refine E_gm rfl ?_
            refine E_pf rfl rfl ?_
            refine E_do (S' := [.arr 0 [(.int .i64 (I64 num_2.1)), (.ref 2 1 0 (List.length s_6.2) none), (.bool (ByteArray.toList y_3 == ByteArray.toList (ByteArray.mk #[49]))), (.int .i64 s_17.2), .nils], .arr 0 [(.int .i64 (I64 num_2.1)), (.ref 2 1 0 (List.length s_6.2) none), (.bool (ByteArray.toList y_3 == ByteArray.toList (ByteArray.mk #[49]))), (.int .i64 s_17.2), .nils], .arr 1 (flat (avI .u8) s_6.2)]) rfl rfl ?_
            refine E_mv (v' := (.bool false)) rfl ?_
            refine E_nil ?_
            refine And.intro (by simp [okLog, nthL, okPair, hp, fpOf]) ?_
            exact E_jx _ h (wk_rn [some (0, 0), some (2, 0)] rfl (Nat.le_of_ble_eq_true rfl) ⟨(rn_ob rfl rfl (.cons (rn_b rfl) (.cons (rn_refL (encI .u8) rfl rfl rfl) (.cons (rn_b rfl) (.cons (rn_b rfl) (.cons (rn_b rfl) (.nil (Nat.zero_le _))))))) rfl), (rn_ob rfl rfl (.refl ((encI .u8).blwf 0 _)) rfl), trivial⟩ ⟨(rn_ptr rfl rfl rfl rfl), (rn_b rfl), trivial⟩)
        · refine E_ret ?_
          cases h
          exact ⟨trivial, _, rfl, (fz_tup ⟨(fz_agg ⟨(fz_b rfl (.refl _)), (fz_ref (encI .u8) (Nat.zero_le _) rfl), (fz_b rfl (.refl _)), (fz_b rfl (.refl _)), (fz_b rfl .nil), trivial⟩), (fz_b rfl (.refl _)), trivial⟩)⟩
/- windlass/text.names -/
def fc63 : FC := (.seq (.reg [⟨(some 0), none, .op (.mv (.v .nils))⟩] [])
  (.seq (.reg [⟨(some 1), none, .call 47 [(.v (.str (ByteArray.mk #[99, 111, 110, 115, 116, 32, 103, 101, 116, 32, 115, 101, 116, 32, 97, 100, 100, 114, 32, 108, 111, 97, 100, 32, 115, 116, 111, 114, 101, 32, 97, 100, 100, 32, 115, 117, 98, 32, 109, 117, 108, 32, 100, 105, 118, 32, 114, 101, 109, 32, 97, 110, 100, 32, 111, 114, 32, 120, 111, 114, 32, 115, 104, 108, 32, 115, 104, 114, 32, 115, 97, 114, 32, 101, 113, 32, 108, 116, 32, 98, 101, 108, 111, 119, 32, 106, 117, 109, 112, 32, 122, 101, 114, 111, 32, 99, 97, 108, 108, 32, 114, 101, 116, 32, 100, 101, 102, 101, 114, 32, 112, 97, 110, 105, 99, 32, 114, 101, 99, 111, 118, 101, 114, 32, 105, 110, 32, 111, 117, 116, 32, 101, 120, 105, 116, 32, 100, 114, 111, 112, 32, 100, 117, 112]))), (.v (.str (ByteArray.mk #[32])))]⟩,
  ⟨(some 0), none, .op (.mv (.t 1))⟩] [])
  .ret))
theorem fn63 : Fn3 Tryd.prog 63 2 [(0, none)] fc63 := ⟨_, _, Tryd.func63, rfl, rfl, rfl, by kernel_rfl⟩
def text_names_s  : Option (List ByteArray) :=
  ((strings_Split_s (ByteArray.mk #[99, 111, 110, 115, 116, 32, 103, 101, 116, 32, 115, 101, 116, 32, 97, 100, 100, 114, 32, 108, 111, 97, 100, 32, 115, 116, 111, 114, 101, 32, 97, 100, 100, 32, 115, 117, 98, 32, 109, 117, 108, 32, 100, 105, 118, 32, 114, 101, 109, 32, 97, 110, 100, 32, 111, 114, 32, 120, 111, 114, 32, 115, 104, 108, 32, 115, 104, 114, 32, 115, 97, 114, 32, 101, 113, 32, 108, 116, 32, 98, 101, 108, 111, 119, 32, 106, 117, 109, 112, 32, 122, 101, 114, 111, 32, 99, 97, 108, 108, 32, 114, 101, 116, 32, 100, 101, 102, 101, 114, 32, 112, 97, 110, 105, 99, 32, 114, 101, 99, 111, 118, 101, 114, 32, 105, 110, 32, 111, 117, 116, 32, 101, 120, 105, 116, 32, 100, 114, 111, 112, 32, 100, 117, 112]) (ByteArray.mk #[32])).bind fun spl_1 => (some spl_1))
theorem text_names_ev  {r : (List ByteArray)} (h : text_names_s  = some r) : PureEv Tryd.prog 63 [] (.sl false 1 (List.map avS r)) := by
  unfold text_names_s at h
  refine PureEv_end mixed fn63 (by simp) [] 6 ?_
  unfold fc63
  refine E_sq ?_
  refine E_reg ?_
  refine E_mv (v' := .nils) rfl ?_
  refine E_nil ?_
  refine E_nx ?_
  refine E_sq ?_
  refine E_reg ?_
  obtain ⟨spl_1, hspl_1, h⟩ := bd_some h
  refine E_callW (strings_Split_ev  hspl_1) rfl ⟨(.refl _), (.refl _), trivial⟩ (blwL_of ⟨rfl, rfl, trivial⟩) (encS.blws 0) ?_
  refine E_mv (v' := (.sl false 1 (List.map avS spl_1))) rfl ?_
  refine E_nil ?_
  refine E_nx ?_
  refine E_ret ?_
  cases h
  exact ⟨trivial, _, rfl, (fz_b (encS.blws 0) (.refl _))⟩
/- slices.Index[[]string,string] -/
def fc97 : FC := (.seq (.reg [⟨(some 4), none, .op (.mv (.v (.int .i64 0)))⟩] [])
  (.seq (.seq (.reg [⟨(some 6), none, .op (.mv (.t 0))⟩,
  ⟨(some 7), none, .op (.len .sl (.t 6))⟩,
  ⟨(some 8), none, .op (.mv (.v (.int .i64 0)))⟩] [])
  (.block 0 (.loop (.seq (.reg [⟨(some 9), none, .op (.bin .none .lss (.t 8) (.t 7))⟩] [])
  (.seq (.cond (.t 9)
  .skip
  (.exit 0))
  (.seq (.block 1 (.seq (.reg [⟨(some 10), none, .op (.mv (.t 8))⟩,
  ⟨(some 5), none, .op (.mv (.t 10))⟩] [])
  (.seq (.reg [⟨(some 11), none, .op (.mv (.t 1))⟩,
  ⟨(some 12), none, .op (.mv (.t 0))⟩,
  ⟨(some 13), none, .op (.mv (.t 5))⟩,
  ⟨(some 14), none, .op (.iad none none (.t 12) (.t 13))⟩,
  ⟨(some 15), none, .op (.load none (.t 14))⟩,
  ⟨(some 16), none, .op (.bin .none .eql (.t 11) (.t 15))⟩] [])
  (.cond (.t 16)
  (.seq (.reg [⟨(some 17), none, .op (.mv (.t 5))⟩,
  ⟨(some 4), none, .op (.mv (.t 17))⟩] [])
  .ret)
  .skip))))
  (.reg [⟨(some 18), none, .op (.bin .none .add (.t 8) (.v (.int .i64 1)))⟩,
  ⟨(some 8), none, .op (.mv (.t 18))⟩] [])))))))
  (.seq (.reg [⟨(some 4), none, .op (.mv (.v (.int .i64 (-1))))⟩] [])
  .ret)))
theorem fn97 : Fn3 Tryd.prog 97 19 [(4, none)] fc97 := ⟨_, _, Tryd.func97, rfl, rfl, rfl, by kernel_rfl⟩
def slices_Index_0_s (s_00 : (List ByteArray)) (v_01 : ByteArray) : Option Int :=
  ((rni (fun (i_2 : Nat) (s_1 : ByteArray) => (((getI s_00 (i_2 : Int)).bind fun y_3 => (if (ByteArray.toList s_1 == ByteArray.toList y_3) then (some (.ret (some (i_2 : Int)))) else (some (.nxt s_1)))) : Option (Stp ByteArray (Option Int)))) (List.length s_00 : Int) v_01).bind (oc (fun (s_1 : ByteArray) => (some (-1)))))
theorem slices_Index_0_ev {s_00 : (List ByteArray)} {v_01 : ByteArray} {r : Int} (h : slices_Index_0_s s_00 v_01 = some r) : PureEv Tryd.prog 97 [(.sl false 1 (List.map avS s_00)), (.str v_01)] (.int .i64 r) := by
  unfold slices_Index_0_s at h
  refine PureEv_end mixed fn97 (by simp) [] 6 ?_
  unfold fc97
  refine E_sq ?_
  refine E_reg ?_
  refine E_mv (v' := (.int .i64 0)) rfl ?_
  refine E_nil ?_
  refine E_nx ?_
  refine E_as ?_
  refine E_sq ?_
  refine E_reg ?_
  refine E_mv (v' := (.sl false 1 (List.map avS s_00))) rfl ?_
  refine E_len rfl ?_
  refine E_mv (v' := (.int .i64 0)) rfl ?_
  refine E_nil ?_
  refine E_nx ?_
  refine E_sq ?_
  refine E_rniO (fun s_1 => [(0, (.sl false 1 (List.map avS s_00))), (1, (.str s_1))]) (fun s_1 => []) h (by decide) (by decide) (fun _ => ⟨rfl, rfl, rfl, rfl⟩) (wk_aw ⟨(.refl _), (.refl _), (.refl _), (.refl _), trivial⟩) (fun i_2 s_1 c hlt h => ?_) (fun s_1 fr' S' h hw => ?_)
  · refine E_sq ?_
    refine E_reg ?_
    refine E_mv (v' := (.int .i64 (i_2 : Int))) rfl ?_
    refine E_mv (v' := (.int .i64 (i_2 : Int))) rfl ?_
    refine E_nil ?_
    refine E_nx ?_
    refine E_sq ?_
    refine E_reg ?_
    refine E_mv (v' := (.str s_1)) rfl ?_
    refine E_mv (v' := (.sl false 1 (List.map avS s_00))) rfl ?_
    refine E_mv (v' := (.int .i64 (i_2 : Int))) rfl ?_
    obtain ⟨y_3, hy_3, h⟩ := bd_some h
    refine E_iadF rfl rfl hy_3 ?_
    refine E_op0 (v' := (.str y_3)) rfl rfl ?_
    refine E_op0 (v' := (.bool (ByteArray.toList s_1 == ByteArray.toList y_3))) rfl rfl ?_
    refine E_nil ?_
    refine E_nx ?_
    refine E_cs (t := (ByteArray.toList s_1 == ByteArray.toList y_3)) rfl (fun hb => ?_) (fun hb => ?_)
    · rw [ite_t hb] at h
      refine E_sq ?_
      refine E_reg ?_
      refine E_mv (v' := (.int .i64 (i_2 : Int))) rfl ?_
      refine E_mv (v' := (.int .i64 (i_2 : Int))) rfl ?_
      refine E_nil ?_
      refine E_nx ?_
      refine E_ret ?_
      cases h
      refine L_rrO rfl (fun h => ?_)
      refine E_thr ?_
      cases h
      exact ⟨trivial, _, rfl, (fz_b rfl (.refl _))⟩
    · rw [ite_f hb] at h
      refine E_skip ?_
      cases h
      exact L_nn rfl (wk_aw ⟨(.refl _), (.refl _), (.refl _), (.refl _), trivial⟩)
  · refine X_nx hw ?_
    refine E_sq ?_
    refine E_reg ?_
    refine E_mv (v' := (.int .i64 (-1))) rfl ?_
    refine E_nil ?_
    refine E_nx ?_
    refine E_ret ?_
    cases h
    exact ⟨trivial, _, rfl, (fz_b rfl (.refl _))⟩
/- windlass/text.most -/
def fc64 : FC := (.seq (.reg [⟨(some 2), none, .op (.mv (.v (.int .u64 0)))⟩] [])
  (.seq (.seq (.reg [⟨(some 3), none, .op (.mv (.t 0))⟩] [])
  (.block 0 (.seq (.reg [⟨(some 5), none, .op (.bin .none .eql (.t 3) (.v (.int .u8 1)))⟩,
  ⟨(some 4), none, .op (.mv (.t 5))⟩] [])
  (.cond (.t 4)
  (.seq (.reg [⟨(some 2), none, .op (.mv (.v (.int .u64 18446744073709551615)))⟩] [])
  .ret)
  (.seq (.seq (.reg [⟨(some 7), none, .op (.bin .none .eql (.t 3) (.v (.int .u8 2)))⟩,
  ⟨(some 6), none, .op (.mv (.t 7))⟩] [])
  (.cond (.t 6)
  .skip
  (.seq (.reg [⟨(some 8), none, .op (.bin .none .eql (.t 3) (.v (.int .u8 3)))⟩,
  ⟨(some 6), none, .op (.mv (.t 8))⟩] [])
  (.cond (.t 6)
  .skip
  (.seq (.reg [⟨(some 9), none, .op (.bin .none .eql (.t 3) (.v (.int .u8 4)))⟩,
  ⟨(some 6), none, .op (.mv (.t 9))⟩] [])
  (.cond (.t 6)
  .skip
  (.seq (.reg [⟨(some 10), none, .op (.bin .none .eql (.t 3) (.v (.int .u8 23)))⟩,
  ⟨(some 6), none, .op (.mv (.t 10))⟩] [])
  (.cond (.t 6)
  .skip
  (.reg [⟨(some 11), none, .op (.bin .none .eql (.t 3) (.v (.int .u8 25)))⟩,
  ⟨(some 6), none, .op (.mv (.t 11))⟩] [])))))))))
  (.cond (.t 6)
  (.seq (.reg [⟨(some 2), none, .op (.mv (.v (.int .u64 255)))⟩] [])
  .ret)
  (.seq (.seq (.reg [⟨(some 13), none, .op (.bin .none .eql (.t 3) (.v (.int .u8 21)))⟩,
  ⟨(some 12), none, .op (.mv (.t 13))⟩] [])
  (.cond (.t 12)
  .skip
  (.reg [⟨(some 14), none, .op (.bin .none .eql (.t 3) (.v (.int .u8 22)))⟩,
  ⟨(some 12), none, .op (.mv (.t 14))⟩] [])))
  (.cond (.t 12)
  (.seq (.reg [⟨(some 2), none, .op (.mv (.v (.int .u64 65535)))⟩] [])
  .ret)
  .skip))))))))
  (.seq (.reg [⟨(some 2), none, .op (.mv (.v (.int .u64 0)))⟩] [])
  .ret)))
theorem fn64 : Fn3 Tryd.prog 64 15 [(2, none)] fc64 := ⟨_, _, Tryd.func64, rfl, rfl, rfl, by kernel_rfl⟩
def text_most_s (op_00 : Int) : Option Int :=
  (if (op_00 == 1) then (some 18446744073709551615) else (jp (fun (s_2 : Bool) => (if s_2 then (some 255) else (jp (fun (s_4 : Bool) => (if s_4 then (some 65535) else (some 0))) (fun k_3 => (if (op_00 == 21) then (k_3 (op_00 == 21)) else (k_3 (op_00 == 22))))))) (fun k_1 => (if (op_00 == 2) then (k_1 (op_00 == 2)) else (if (op_00 == 3) then (k_1 (op_00 == 3)) else (if (op_00 == 4) then (k_1 (op_00 == 4)) else (if (op_00 == 23) then (k_1 (op_00 == 23)) else (k_1 (op_00 == 25)))))))))
theorem text_most_ev {op_00 : Int} {r : Int} (h : text_most_s op_00 = some r) : PureEv Tryd.prog 64 [(.int .u8 op_00)] (.int .u64 r) := by
  unfold text_most_s at h
  refine PureEv_end mixed fn64 (by simp) [] 6 ?_
  unfold fc64
  refine E_sq ?_
  refine E_reg ?_
  refine E_mv (v' := (.int .u64 0)) rfl ?_
  refine E_nil ?_
  refine E_nx ?_
  refine E_as ?_
  refine E_sq ?_
  refine E_reg ?_
  refine E_mv (v' := (.int .u8 op_00)) rfl ?_
  refine E_nil ?_
  refine E_nx ?_
  refine E_sq ?_
  refine E_block ?_
  refine E_sq ?_
  refine E_reg ?_
  refine E_op0 (v' := (.bool (op_00 == 1))) rfl rfl ?_
  refine E_mv (v' := (.bool (op_00 == 1))) rfl ?_
  refine E_nil ?_
  refine E_nx ?_
  refine E_cs (t := (op_00 == 1)) rfl (fun hb => ?_) (fun hb => ?_)
  · rw [ite_t hb] at h
    refine E_sq ?_
    refine E_reg ?_
    refine E_mv (v' := (.int .u64 18446744073709551615)) rfl ?_
    refine E_nil ?_
    refine E_nx ?_
    refine E_ret ?_
    refine E_blr ?_
    refine E_thr ?_
    cases h
    exact ⟨trivial, _, rfl, (fz_b rfl (.refl _))⟩
  · rw [ite_f hb] at h
    refine E_as ?_
    refine E_sq ?_
    refine E_reg ?_
    refine E_op0 (v' := (.bool (op_00 == 2))) rfl rfl ?_
    refine E_mv (v' := (.bool (op_00 == 2))) rfl ?_
    refine E_nil ?_
    refine E_nx ?_
    refine E_jp h (fun s_2 => [(3, (.int .u8 op_00)), (6, (.bool s_2))]) (fun s_2 => []) (fun k_1 h => ?_) (fun s_2 h => ?_)
    · refine E_cs (t := (op_00 == 2)) rfl (fun hb => ?_) (fun hb => ?_)
      · rw [ite_t hb] at h
        refine E_skip ?_
        exact E_jx _ h (wk_aw ⟨(.refl _), (.refl _), trivial⟩)
      · rw [ite_f hb] at h
        refine E_sq ?_
        refine E_reg ?_
        refine E_op0 (v' := (.bool (op_00 == 3))) rfl rfl ?_
        refine E_mv (v' := (.bool (op_00 == 3))) rfl ?_
        refine E_nil ?_
        refine E_nx ?_
        refine E_cs (t := (op_00 == 3)) rfl (fun hb => ?_) (fun hb => ?_)
        · rw [ite_t hb] at h
          refine E_skip ?_
          exact E_jx _ h (wk_aw ⟨(.refl _), (.refl _), trivial⟩)
        · rw [ite_f hb] at h
          refine E_sq ?_
          refine E_reg ?_
          refine E_op0 (v' := (.bool (op_00 == 4))) rfl rfl ?_
          refine E_mv (v' := (.bool (op_00 == 4))) rfl ?_
          refine E_nil ?_
          refine E_nx ?_
          refine E_cs (t := (op_00 == 4)) rfl (fun hb => ?_) (fun hb => ?_)
          · rw [ite_t hb] at h
            refine E_skip ?_
            exact E_jx _ h (wk_aw ⟨(.refl _), (.refl _), trivial⟩)
          · rw [ite_f hb] at h
            refine E_sq ?_
            refine E_reg ?_
            refine E_op0 (v' := (.bool (op_00 == 23))) rfl rfl ?_
            refine E_mv (v' := (.bool (op_00 == 23))) rfl ?_
            refine E_nil ?_
            refine E_nx ?_
            refine E_cs (t := (op_00 == 23)) rfl (fun hb => ?_) (fun hb => ?_)
            · rw [ite_t hb] at h
              refine E_skip ?_
              exact E_jx _ h (wk_aw ⟨(.refl _), (.refl _), trivial⟩)
            · rw [ite_f hb] at h
              refine E_reg ?_
              refine E_op0 (v' := (.bool (op_00 == 25))) rfl rfl ?_
              refine E_mv (v' := (.bool (op_00 == 25))) rfl ?_
              refine E_nil ?_
              exact E_jx _ h (wk_aw ⟨(.refl _), (.refl _), trivial⟩)
    · refine E_cs (t := s_2) rfl (fun hb => ?_) (fun hb => ?_)
      · rw [ite_t hb] at h
        refine E_sq ?_
        refine E_reg ?_
        refine E_mv (v' := (.int .u64 255)) rfl ?_
        refine E_nil ?_
        refine E_nx ?_
        refine E_ret ?_
        refine E_blr ?_
        refine E_thr ?_
        cases h
        exact ⟨trivial, _, rfl, (fz_b rfl (.refl _))⟩
      · rw [ite_f hb] at h
        refine E_as ?_
        refine E_sq ?_
        refine E_reg ?_
        refine E_op0 (v' := (.bool (op_00 == 21))) rfl rfl ?_
        refine E_mv (v' := (.bool (op_00 == 21))) rfl ?_
        refine E_nil ?_
        refine E_nx ?_
        refine E_jp h (fun s_4 => [(12, (.bool s_4))]) (fun s_4 => []) (fun k_3 h => ?_) (fun s_4 h => ?_)
        · refine E_cs (t := (op_00 == 21)) rfl (fun hb => ?_) (fun hb => ?_)
          · rw [ite_t hb] at h
            refine E_skip ?_
            exact E_jx _ h (wk_aw ⟨(.refl _), trivial⟩)
          · rw [ite_f hb] at h
            refine E_reg ?_
            refine E_op0 (v' := (.bool (op_00 == 22))) rfl rfl ?_
            refine E_mv (v' := (.bool (op_00 == 22))) rfl ?_
            refine E_nil ?_
            exact E_jx _ h (wk_aw ⟨(.refl _), trivial⟩)
        · refine E_cs (t := s_4) rfl (fun hb => ?_) (fun hb => ?_)
          · rw [ite_t hb] at h
            refine E_sq ?_
            refine E_reg ?_
            refine E_mv (v' := (.int .u64 65535)) rfl ?_
            refine E_nil ?_
            refine E_nx ?_
            refine E_ret ?_
            refine E_blr ?_
            refine E_thr ?_
            cases h
            exact ⟨trivial, _, rfl, (fz_b rfl (.refl _))⟩
          · rw [ite_f hb] at h
            refine E_skip ?_
            refine E_bln ?_
            refine E_nx ?_
            refine E_sq ?_
            refine E_reg ?_
            refine E_mv (v' := (.int .u64 0)) rfl ?_
            refine E_nil ?_
            refine E_nx ?_
            refine E_ret ?_
            cases h
            exact ⟨trivial, _, rfl, (fz_b rfl (.refl _))⟩
/- windlass/text.instruction -/
def fc56 : FC := (.seq (.reg [⟨(some 2), none, .op (.new [(.int .u8 0), (.int .i64 0), (.int .u64 0)])⟩,
  ⟨(some 3), none, .op (.mv (.v (.bool false)))⟩] [])
  (.seq (.reg [⟨(some 8), none, .call 63 []⟩,
  ⟨(some 9), none, .op (.mv (.t 0))⟩,
  ⟨(some 10), none, .op (.iad none none (.t 9) (.v (.int .i64 0)))⟩,
  ⟨(some 11), none, .op (.load none (.t 10))⟩,
  ⟨(some 12), none, .call 97 [(.t 8), (.t 11)]⟩,
  ⟨(some 13), none, .op (.bin .none .add (.t 12) (.v (.int .i64 1)))⟩,
  ⟨(some 14), none, .op (.cint .u8 (.t 13))⟩,
  ⟨(some 15), none, .op (.build [(.int .u8 0), (.int .i64 0), (.int .u64 0)] [(0, 1, (.t 14))])⟩,
  ⟨(some 4), none, .op (.new [(.int .u8 0), (.int .i64 0), (.int .u64 0)])⟩,
  ⟨none, none, .op (.store 3 (.t 4) (.t 15))⟩] [(0, 3), (0, 8), (3, 8), (4, 8)])
  (.seq (.seq (.reg [⟨(some 16), none, .op (.fad 0 (.t 4))⟩,
  ⟨(some 17), none, .op (.load none (.t 16))⟩,
  ⟨(some 18), none, .op (.bin .none .eql (.t 17) (.v (.int .u8 0)))⟩] [])
  (.cond (.t 18)
  (.seq (.reg [⟨(some 19), none, .op (.load (some 3) (.t 4))⟩,
  ⟨none, none, .op (.store 3 (.t 2) (.t 19))⟩,
  ⟨(some 3), none, .op (.mv (.v (.bool false)))⟩] [])
  .ret)
  .skip))
  (.seq (.reg [⟨(some 20), none, .op (.fad 0 (.t 4))⟩,
  ⟨(some 21), none, .op (.load none (.t 20))⟩,
  ⟨(some 22), none, .call 64 [(.t 21)]⟩,
  ⟨(some 5), none, .op (.mv (.t 22))⟩] [])
  (.seq (.seq (.reg [⟨(some 23), none, .op (.mv (.t 5))⟩,
  ⟨(some 24), none, .op (.bin .none .eql (.t 23) (.v (.int .u64 0)))⟩] [])
  (.cond (.t 24)
  (.seq (.reg [⟨(some 25), none, .op (.load (some 3) (.t 4))⟩,
  ⟨(some 26), none, .op (.mv (.t 0))⟩,
  ⟨(some 27), none, .op (.len .sl (.t 26))⟩,
  ⟨(some 28), none, .op (.bin .none .eql (.t 27) (.v (.int .i64 1)))⟩,
  ⟨none, none, .op (.store 3 (.t 2) (.t 25))⟩,
  ⟨(some 3), none, .op (.mv (.t 28))⟩] [])
  .ret)
  .skip))
  (.seq (.seq (.reg [⟨(some 29), none, .op (.mv (.t 0))⟩,
  ⟨(some 30), none, .op (.len .sl (.t 29))⟩,
  ⟨(some 31), none, .op (.bin .none .neq (.t 30) (.v (.int .i64 2)))⟩] [])
  (.cond (.t 31)
  (.seq (.reg [⟨(some 32), none, .op (.load (some 3) (.t 4))⟩,
  ⟨none, none, .op (.store 3 (.t 2) (.t 32))⟩,
  ⟨(some 3), none, .op (.mv (.v (.bool false)))⟩] [])
  .ret)
  .skip))
  (.seq (.reg [⟨(some 34), none, .op (.mv (.t 0))⟩,
  ⟨(some 35), none, .op (.iad none none (.t 34) (.v (.int .i64 1)))⟩,
  ⟨(some 36), none, .op (.load none (.t 35))⟩,
  ⟨(some 37), none, .op (.mv (.t 5))⟩,
  ⟨(some 38), none, .call 95 [(.t 36), (.t 37)]⟩,
  ⟨(some 33), none, .op (.mv (.t 38))⟩,
  ⟨(some 39), none, .op (.ext 0 (.t 33))⟩,
  ⟨(some 40), none, .op (.ext 1 (.t 33))⟩,
  ⟨(some 6), none, .op (.mv (.t 39))⟩,
  ⟨(some 7), none, .op (.mv (.t 40))⟩] [])
  (.seq (.seq (.reg [⟨(some 41), none, .op (.fad 0 (.t 4))⟩,
  ⟨(some 42), none, .op (.load none (.t 41))⟩,
  ⟨(some 43), none, .op (.bin .none .eql (.t 42) (.v (.int .u8 1)))⟩] [])
  (.cond (.t 43)
  (.reg [⟨(some 44), none, .op (.mv (.t 6))⟩,
  ⟨(some 45), none, .op (.fad 2 (.t 4))⟩,
  ⟨none, none, .op (.store 1 (.t 45) (.t 44))⟩] [])
  (.reg [⟨(some 46), none, .op (.mv (.t 6))⟩,
  ⟨(some 47), none, .op (.cint .i64 (.t 46))⟩,
  ⟨(some 48), none, .op (.fad 1 (.t 4))⟩,
  ⟨none, none, .op (.store 1 (.t 48) (.t 47))⟩] [])))
  (.seq (.reg [⟨(some 49), none, .op (.load (some 3) (.t 4))⟩,
  ⟨(some 50), none, .op (.mv (.t 7))⟩,
  ⟨none, none, .op (.store 3 (.t 2) (.t 49))⟩,
  ⟨(some 3), none, .op (.mv (.t 50))⟩] [])
  .ret)))))))))
theorem fn56 : Fn3 Tryd.prog 56 51 [(2, (some (some 3))), (3, none)] fc56 := ⟨_, _, Tryd.func56, rfl, rfl, rfl, by kernel_rfl⟩
def text_instruction_s (w_00 : (List ByteArray)) : Option (Instr × Bool) :=
  (text_names_s.bind fun nam_1 => ((getI w_00 0).bind fun y_2 => ((slices_Index_0_s nam_1 y_2).bind fun v0_3 => (if ((U8 (I64 (v0_3 + 1))) == 0) then (some ((Instr.mk (U8 (I64 (v0_3 + 1))) 0 0), false)) else ((text_most_s (U8 (I64 (v0_3 + 1)))).bind fun mos_4 => (if (mos_4 == 0) then (some ((Instr.mk (U8 (I64 (v0_3 + 1))) 0 0), ((List.length w_00 : Int) == 1))) else (if ((List.length w_00 : Int) != 2) then (some ((Instr.mk (U8 (I64 (v0_3 + 1))) 0 0), false)) else ((getI w_00 1).bind fun y_5 => ((text_number_s y_5 mos_4).bind fun num_6 => (jp (fun (s_8 : (Int × Int)) => (some ((Instr.mk (U8 (I64 (v0_3 + 1))) s_8.1 s_8.2), num_6.2))) (fun k_7 => (if ((U8 (I64 (v0_3 + 1))) == 1) then (k_7 (0, num_6.1)) else (k_7 ((I64 num_6.1), 0))))))))))))))
theorem text_instruction_ev {w_00 : (List ByteArray)} {r : (Instr × Bool)} (h : text_instruction_s w_00 = some r) : PureEv Tryd.prog 56 [(.sl false 1 (List.map avS w_00))] (.tup [(Instr.av r.1), (.bool r.2)]) := by
  unfold text_instruction_s at h
  refine PureEv_end mixed fn56 (by simp) [2, 4] 6 ?_
  unfold fc56
  refine E_sq ?_
  refine E_reg ?_
  refine E_op (v' := .ptr 0 0 0) (S' := [.arr 0 [(.int .u8 0), (.int .i64 0), (.int .u64 0)]]) rfl rfl rfl ?_
  refine E_mv (v' := (.bool false)) rfl ?_
  refine E_nil ?_
  refine E_nx ?_
  refine E_sq ?_
  refine E_regp ?_
  obtain ⟨nam_1, hnam_1, h⟩ := bd_some h
  refine E_callW (text_names_ev  hnam_1) rfl trivial (blwL_of trivial) (encS.blws 0) ?_
  refine E_mv (v' := (.sl false 1 (List.map avS w_00))) rfl ?_
  obtain ⟨y_2, hy_2, h⟩ := bd_some h
  refine E_iadF rfl rfl hy_2 ?_
  refine E_op0 (v' := (.str y_2)) rfl rfl ?_
  obtain ⟨v0_3, hv0_3, h⟩ := bd_some h
  refine E_callW (slices_Index_0_ev  hv0_3) rfl ⟨(.refl _), (.refl _), trivial⟩ (blwL_of ⟨(encS.blws 0), rfl, trivial⟩) rfl ?_
  refine E_op0 (v' := (.int .i64 (I64 (v0_3 + 1)))) rfl rfl ?_
  refine E_op0 (v' := (.int .u8 (U8 (I64 (v0_3 + 1))))) rfl rfl ?_
  refine E_opw (v' := (Instr.av (Instr.mk (U8 (I64 (v0_3 + 1))) 0 0))) rfl (.aggL ⟨(.refl _), (.refl _), (.refl _), trivial⟩) rfl ?_
  refine E_op (v' := .ptr 1 0 0) (S' := [.arr 0 [(.int .u8 0), (.int .i64 0), (.int .u64 0)], .arr 0 [(.int .u8 0), (.int .i64 0), (.int .u64 0)]]) rfl rfl rfl ?_
  refine E_do (S' := [.arr 0 [(.int .u8 0), (.int .i64 0), (.int .u64 0)], .arr 0 [(.int .u8 (U8 (I64 (v0_3 + 1)))), (.int .i64 0), (.int .u64 0)]]) rfl rfl ?_
  refine E_nil ?_
  refine And.intro (by simp [okLog, nthL, okPair, hp, fpOf]) ?_
  refine E_nx ?_
  refine E_as ?_
  refine E_sq ?_
  refine E_reg ?_
  refine E_op0 (v' := (.ptr 1 0 0)) rfl rfl ?_
  refine E_op (v' := (.int .u8 (U8 (I64 (v0_3 + 1))))) (S' := [.arr 0 [(.int .u8 0), (.int .i64 0), (.int .u64 0)], .arr 0 [(.int .u8 (U8 (I64 (v0_3 + 1)))), (.int .i64 0), (.int .u64 0)]]) rfl rfl rfl ?_
  refine E_op0 (v' := (.bool ((U8 (I64 (v0_3 + 1))) == 0))) rfl rfl ?_
  refine E_nil ?_
  refine E_nx ?_
  refine E_sq ?_
  refine E_cs (t := ((U8 (I64 (v0_3 + 1))) == 0)) rfl (fun hb => ?_) (fun hb => ?_)
  · rw [ite_t hb] at h
    refine E_sq ?_
    refine E_reg ?_
    refine E_opw (v' := (Instr.av (Instr.mk (U8 (I64 (v0_3 + 1))) 0 0))) rfl (.aggL ⟨(.refl _), (.refl _), (.refl _), trivial⟩) rfl ?_
    refine E_do (S' := [.arr 0 [(.int .u8 (U8 (I64 (v0_3 + 1)))), (.int .i64 0), (.int .u64 0)], .arr 0 [(.int .u8 (U8 (I64 (v0_3 + 1)))), (.int .i64 0), (.int .u64 0)]]) rfl rfl ?_
    refine E_mv (v' := (.bool false)) rfl ?_
    refine E_nil ?_
    refine E_nx ?_
    refine E_ret ?_
    refine E_thr ?_
    cases h
    exact ⟨trivial, _, rfl, (fz_tup ⟨(fz_agg ⟨(fz_b rfl (.refl _)), (fz_b rfl (.refl _)), (fz_b rfl (.refl _)), trivial⟩), (fz_b rfl (.refl _)), trivial⟩)⟩
  · rw [ite_f hb] at h
    refine E_skip ?_
    refine E_nx ?_
    refine E_sq ?_
    refine E_reg ?_
    refine E_op0 (v' := (.ptr 1 0 0)) rfl rfl ?_
    refine E_op (v' := (.int .u8 (U8 (I64 (v0_3 + 1))))) (S' := [.arr 0 [(.int .u8 0), (.int .i64 0), (.int .u64 0)], .arr 0 [(.int .u8 (U8 (I64 (v0_3 + 1)))), (.int .i64 0), (.int .u64 0)]]) rfl rfl rfl ?_
    obtain ⟨mos_4, hmos_4, h⟩ := bd_some h
    refine E_callW (text_most_ev  hmos_4) rfl ⟨(.refl _), trivial⟩ (blwL_of ⟨rfl, trivial⟩) rfl ?_
    refine E_mv (v' := (.int .u64 mos_4)) rfl ?_
    refine E_nil ?_
    refine E_nx ?_
    refine E_as ?_
    refine E_sq ?_
    refine E_reg ?_
    refine E_mv (v' := (.int .u64 mos_4)) rfl ?_
    refine E_op0 (v' := (.bool (mos_4 == 0))) rfl rfl ?_
    refine E_nil ?_
    refine E_nx ?_
    refine E_sq ?_
    refine E_cs (t := (mos_4 == 0)) rfl (fun hb => ?_) (fun hb => ?_)
    · rw [ite_t hb] at h
      refine E_sq ?_
      refine E_reg ?_
      refine E_opw (v' := (Instr.av (Instr.mk (U8 (I64 (v0_3 + 1))) 0 0))) rfl (.aggL ⟨(.refl _), (.refl _), (.refl _), trivial⟩) rfl ?_
      refine E_mv (v' := (.sl false 1 (List.map avS w_00))) rfl ?_
      refine E_len rfl ?_
      refine E_op0 (v' := (.bool ((List.length w_00 : Int) == 1))) rfl rfl ?_
      refine E_do (S' := [.arr 0 [(.int .u8 (U8 (I64 (v0_3 + 1)))), (.int .i64 0), (.int .u64 0)], .arr 0 [(.int .u8 (U8 (I64 (v0_3 + 1)))), (.int .i64 0), (.int .u64 0)]]) rfl rfl ?_
      refine E_mv (v' := (.bool ((List.length w_00 : Int) == 1))) rfl ?_
      refine E_nil ?_
      refine E_nx ?_
      refine E_ret ?_
      refine E_thr ?_
      cases h
      exact ⟨trivial, _, rfl, (fz_tup ⟨(fz_agg ⟨(fz_b rfl (.refl _)), (fz_b rfl (.refl _)), (fz_b rfl (.refl _)), trivial⟩), (fz_b rfl (.refl _)), trivial⟩)⟩
    · rw [ite_f hb] at h
      refine E_skip ?_
      refine E_nx ?_
      refine E_as ?_
      refine E_sq ?_
      refine E_reg ?_
      refine E_mv (v' := (.sl false 1 (List.map avS w_00))) rfl ?_
      refine E_len rfl ?_
      refine E_op0 (v' := (.bool ((List.length w_00 : Int) != 2))) rfl rfl ?_
      refine E_nil ?_
      refine E_nx ?_
      refine E_sq ?_
      refine E_cs (t := ((List.length w_00 : Int) != 2)) rfl (fun hb => ?_) (fun hb => ?_)
      · rw [ite_t hb] at h
        refine E_sq ?_
        refine E_reg ?_
        refine E_opw (v' := (Instr.av (Instr.mk (U8 (I64 (v0_3 + 1))) 0 0))) rfl (.aggL ⟨(.refl _), (.refl _), (.refl _), trivial⟩) rfl ?_
        refine E_do (S' := [.arr 0 [(.int .u8 (U8 (I64 (v0_3 + 1)))), (.int .i64 0), (.int .u64 0)], .arr 0 [(.int .u8 (U8 (I64 (v0_3 + 1)))), (.int .i64 0), (.int .u64 0)]]) rfl rfl ?_
        refine E_mv (v' := (.bool false)) rfl ?_
        refine E_nil ?_
        refine E_nx ?_
        refine E_ret ?_
        refine E_thr ?_
        cases h
        exact ⟨trivial, _, rfl, (fz_tup ⟨(fz_agg ⟨(fz_b rfl (.refl _)), (fz_b rfl (.refl _)), (fz_b rfl (.refl _)), trivial⟩), (fz_b rfl (.refl _)), trivial⟩)⟩
      · rw [ite_f hb] at h
        refine E_skip ?_
        refine E_nx ?_
        refine E_sq ?_
        refine E_reg ?_
        refine E_mv (v' := (.sl false 1 (List.map avS w_00))) rfl ?_
        obtain ⟨y_5, hy_5, h⟩ := bd_some h
        refine E_iadF rfl rfl hy_5 ?_
        refine E_op0 (v' := (.str y_5)) rfl rfl ?_
        refine E_mv (v' := (.int .u64 mos_4)) rfl ?_
        obtain ⟨num_6, hnum_6, h⟩ := bd_some h
        refine E_callW (text_number_ev  hnum_6) rfl ⟨(.refl _), (.refl _), trivial⟩ (blwL_of ⟨rfl, rfl, trivial⟩) (tup_blw ⟨rfl, rfl, trivial⟩) ?_
        refine E_mv (v' := (.tup [(.int .u64 num_6.1), (.bool num_6.2)])) rfl ?_
        refine E_op0 (v' := (.int .u64 num_6.1)) rfl rfl ?_
        refine E_op0 (v' := (.bool num_6.2)) rfl rfl ?_
        refine E_mv (v' := (.int .u64 num_6.1)) rfl ?_
        refine E_mv (v' := (.bool num_6.2)) rfl ?_
        refine E_nil ?_
        refine E_nx ?_
        refine E_as ?_
        refine E_sq ?_
        refine E_reg ?_
        refine E_op0 (v' := (.ptr 1 0 0)) rfl rfl ?_
        refine E_op (v' := (.int .u8 (U8 (I64 (v0_3 + 1))))) (S' := [.arr 0 [(.int .u8 0), (.int .i64 0), (.int .u64 0)], .arr 0 [(.int .u8 (U8 (I64 (v0_3 + 1)))), (.int .i64 0), (.int .u64 0)]]) rfl rfl rfl ?_
        refine E_op0 (v' := (.bool ((U8 (I64 (v0_3 + 1))) == 1))) rfl rfl ?_
        refine E_nil ?_
        refine E_nx ?_
        refine E_jp h (fun s_8 => [(2, (.ptr 0 0 0)), (4, (.ptr 1 0 0)), (7, (.bool num_6.2))]) (fun s_8 => [.arr 0 [(.int .u8 0), (.int .i64 0), (.int .u64 0)], .arr 0 [(.int .u8 (U8 (I64 (v0_3 + 1)))), (.int .i64 s_8.1), (.int .u64 s_8.2)]]) (fun k_7 h => ?_) (fun s_8 h => ?_)
        · refine E_cs (t := ((U8 (I64 (v0_3 + 1))) == 1)) rfl (fun hb => ?_) (fun hb => ?_)
          · rw [ite_t hb] at h
            refine E_reg ?_
            refine E_mv (v' := (.int .u64 num_6.1)) rfl ?_
            refine E_op0 (v' := (.ptr 1 0 2)) rfl rfl ?_
            refine E_do (S' := [.arr 0 [(.int .u8 0), (.int .i64 0), (.int .u64 0)], .arr 0 [(.int .u8 (U8 (I64 (v0_3 + 1)))), (.int .i64 0), (.int .u64 num_6.1)]]) rfl rfl ?_
            refine E_nil ?_
            exact E_jx _ h (wk_rn [some (0, 0), some (1, 0)] rfl (Nat.le_of_ble_eq_true rfl) ⟨(rn_ob rfl rfl (.cons (rn_b rfl) (.cons (rn_b rfl) (.cons (rn_b rfl) (.nil (Nat.zero_le _))))) rfl), (rn_ob rfl rfl (.cons (rn_b rfl) (.cons (rn_b rfl) (.cons (rn_b rfl) (.nil (Nat.zero_le _))))) rfl), trivial⟩ ⟨(rn_ptr rfl rfl rfl rfl), (rn_ptr rfl rfl rfl rfl), (rn_b rfl), trivial⟩)
          · rw [ite_f hb] at h
            refine E_reg ?_
            refine E_mv (v' := (.int .u64 num_6.1)) rfl ?_
            refine E_op0 (v' := (.int .i64 (I64 num_6.1))) rfl rfl ?_
            refine E_op0 (v' := (.ptr 1 0 1)) rfl rfl ?_
            refine E_do (S' := [.arr 0 [(.int .u8 0), (.int .i64 0), (.int .u64 0)], .arr 0 [(.int .u8 (U8 (I64 (v0_3 + 1)))), (.int .i64 (I64 num_6.1)), (.int .u64 0)]]) rfl rfl ?_
            refine E_nil ?_
            exact E_jx _ h (wk_rn [some (0, 0), some (1, 0)] rfl (Nat.le_of_ble_eq_true rfl) ⟨(rn_ob rfl rfl (.cons (rn_b rfl) (.cons (rn_b rfl) (.cons (rn_b rfl) (.nil (Nat.zero_le _))))) rfl), (rn_ob rfl rfl (.cons (rn_b rfl) (.cons (rn_b rfl) (.cons (rn_b rfl) (.nil (Nat.zero_le _))))) rfl), trivial⟩ ⟨(rn_ptr rfl rfl rfl rfl), (rn_ptr rfl rfl rfl rfl), (rn_b rfl), trivial⟩)
        · refine E_sq ?_
          refine E_reg ?_
          refine E_opw (v' := (Instr.av (Instr.mk (U8 (I64 (v0_3 + 1))) s_8.1 s_8.2))) rfl (.aggL ⟨(.refl _), (.refl _), (.refl _), trivial⟩) rfl ?_
          refine E_mv (v' := (.bool num_6.2)) rfl ?_
          refine E_do (S' := [.arr 0 [(.int .u8 (U8 (I64 (v0_3 + 1)))), (.int .i64 s_8.1), (.int .u64 s_8.2)], .arr 0 [(.int .u8 (U8 (I64 (v0_3 + 1)))), (.int .i64 s_8.1), (.int .u64 s_8.2)]]) rfl rfl ?_
          refine E_mv (v' := (.bool num_6.2)) rfl ?_
          refine E_nil ?_
          refine E_nx ?_
          refine E_ret ?_
          cases h
          exact ⟨trivial, _, rfl, (fz_tup ⟨(fz_agg ⟨(fz_b rfl (.refl _)), (fz_b rfl (.refl _)), (fz_b rfl (.refl _)), trivial⟩), (fz_b rfl (.refl _)), trivial⟩)⟩
/- windlass/windlassref03.Same -/
def fc22 : FC := (.seq (.reg [⟨(some 2), none, .op (.box (.t 0))⟩,
  ⟨(some 3), none, .op (.box (.t 1))⟩,
  ⟨(some 4), none, .op (.mv (.v (.bool false)))⟩] [])
  (.seq (.seq (.reg [⟨(some 10), none, .op (.fad 0 (.t 2))⟩,
  ⟨(some 11), none, .op (.load none (.t 10))⟩,
  ⟨(some 12), none, .op (.len .sl (.t 11))⟩,
  ⟨(some 13), none, .op (.fad 0 (.t 3))⟩,
  ⟨(some 14), none, .op (.load none (.t 13))⟩,
  ⟨(some 15), none, .op (.len .sl (.t 14))⟩,
  ⟨(some 16), none, .op (.bin .none .neq (.t 12) (.t 15))⟩] [])
  (.cond (.t 16)
  (.seq (.reg [⟨(some 4), none, .op (.mv (.v (.bool false)))⟩] [])
  .ret)
  .skip))
  (.seq (.seq (.reg [⟨(some 17), none, .op (.fad 0 (.t 2))⟩,
  ⟨(some 18), none, .op (.load none (.t 17))⟩,
  ⟨(some 19), none, .op (.len .sl (.t 18))⟩,
  ⟨(some 20), none, .op (.mv (.v (.int .i64 0)))⟩] [])
  (.block 0 (.loop (.seq (.reg [⟨(some 21), none, .op (.bin .none .lss (.t 20) (.t 19))⟩] [])
  (.seq (.cond (.t 21)
  .skip
  (.exit 0))
  (.seq (.block 1 (.seq (.reg [⟨(some 22), none, .op (.mv (.t 20))⟩,
  ⟨(some 5), none, .op (.mv (.t 22))⟩] [])
  (.seq (.reg [⟨(some 23), none, .op (.fad 0 (.t 2))⟩,
  ⟨(some 24), none, .op (.load none (.t 23))⟩,
  ⟨(some 25), none, .op (.mv (.t 5))⟩,
  ⟨(some 26), none, .op (.iad none (some 5) (.t 24) (.t 25))⟩,
  ⟨(some 27), none, .op (.load (some 5) (.t 26))⟩,
  ⟨(some 28), none, .op (.fad 0 (.t 3))⟩,
  ⟨(some 29), none, .op (.load none (.t 28))⟩,
  ⟨(some 30), none, .op (.mv (.t 5))⟩,
  ⟨(some 31), none, .op (.iad none (some 5) (.t 29) (.t 30))⟩,
  ⟨(some 32), none, .op (.load (some 5) (.t 31))⟩,
  ⟨(some 6), none, .op (.new [(.int .i64 0), .nils, (.bool false), (.int .i64 0), .nils])⟩,
  ⟨(some 7), none, .op (.new [(.int .i64 0), .nils, (.bool false), (.int .i64 0), .nils])⟩,
  ⟨none, none, .op (.store 5 (.t 6) (.t 27))⟩,
  ⟨none, none, .op (.store 5 (.t 7) (.t 32))⟩] [(1, 10), (4, 10), (6, 10), (9, 10), (1, 11), (4, 11), (6, 11), (9, 11), (10, 11), (6, 12), (9, 12)])
  (.seq (.seq (.reg [⟨(some 33), none, .op (.fad 0 (.t 6))⟩,
  ⟨(some 34), none, .op (.load none (.t 33))⟩,
  ⟨(some 35), none, .op (.fad 0 (.t 7))⟩,
  ⟨(some 36), none, .op (.load none (.t 35))⟩,
  ⟨(some 37), none, .op (.bin .none .neq (.t 34) (.t 36))⟩,
  ⟨(some 38), none, .op (.mv (.t 37))⟩,
  ⟨(some 39), some (38, false), .op (.fad 2 (.t 6))⟩,
  ⟨(some 40), some (38, false), .op (.load none (.t 39))⟩,
  ⟨(some 41), some (38, false), .op (.fad 2 (.t 7))⟩,
  ⟨(some 42), some (38, false), .op (.load none (.t 41))⟩,
  ⟨(some 43), some (38, false), .op (.bin .bool .neq (.t 40) (.t 42))⟩,
  ⟨(some 44), none, .op (.pick (.t 38) (.v (.bool true)) (.t 43))⟩,
  ⟨(some 45), none, .op (.mv (.t 44))⟩,
  ⟨(some 46), some (45, false), .op (.fad 3 (.t 6))⟩,
  ⟨(some 47), some (45, false), .op (.load none (.t 46))⟩,
  ⟨(some 48), some (45, false), .op (.fad 3 (.t 7))⟩,
  ⟨(some 49), some (45, false), .op (.load none (.t 48))⟩,
  ⟨(some 50), some (45, false), .op (.bin .none .neq (.t 47) (.t 49))⟩,
  ⟨(some 51), none, .op (.pick (.t 45) (.v (.bool true)) (.t 50))⟩,
  ⟨(some 52), none, .op (.mv (.t 51))⟩,
  ⟨(some 53), some (52, false), .op (.fad 1 (.t 6))⟩,
  ⟨(some 54), some (52, false), .op (.load none (.t 53))⟩,
  ⟨(some 55), some (52, false), .op (.len .sl (.t 54))⟩,
  ⟨(some 56), some (52, false), .op (.fad 1 (.t 7))⟩,
  ⟨(some 57), some (52, false), .op (.load none (.t 56))⟩,
  ⟨(some 58), some (52, false), .op (.len .sl (.t 57))⟩,
  ⟨(some 59), some (52, false), .op (.bin .none .neq (.t 55) (.t 58))⟩,
  ⟨(some 60), none, .op (.pick (.t 52) (.v (.bool true)) (.t 59))⟩,
  ⟨(some 61), none, .op (.mv (.t 60))⟩,
  ⟨(some 62), some (61, false), .op (.fad 4 (.t 6))⟩,
  ⟨(some 63), some (61, false), .op (.load none (.t 62))⟩,
  ⟨(some 64), some (61, false), .op (.len .sl (.t 63))⟩,
  ⟨(some 65), some (61, false), .op (.fad 4 (.t 7))⟩,
  ⟨(some 66), some (61, false), .op (.load none (.t 65))⟩,
  ⟨(some 67), some (61, false), .op (.len .sl (.t 66))⟩,
  ⟨(some 68), some (61, false), .op (.bin .none .neq (.t 64) (.t 67))⟩,
  ⟨(some 69), none, .op (.pick (.t 61) (.v (.bool true)) (.t 68))⟩] [])
  (.cond (.t 69)
  (.seq (.reg [⟨(some 4), none, .op (.mv (.v (.bool false)))⟩] [])
  .ret)
  .skip))
  (.seq (.seq (.reg [⟨(some 70), none, .op (.fad 1 (.t 6))⟩,
  ⟨(some 71), none, .op (.load none (.t 70))⟩,
  ⟨(some 72), none, .op (.len .sl (.t 71))⟩,
  ⟨(some 73), none, .op (.mv (.v (.int .i64 0)))⟩] [])
  (.block 2 (.loop (.seq (.reg [⟨(some 74), none, .op (.bin .none .lss (.t 73) (.t 72))⟩] [])
  (.seq (.cond (.t 74)
  .skip
  (.exit 2))
  (.seq (.block 3 (.seq (.reg [⟨(some 75), none, .op (.mv (.t 73))⟩,
  ⟨(some 8), none, .op (.mv (.t 75))⟩] [])
  (.seq (.reg [⟨(some 76), none, .op (.fad 1 (.t 6))⟩,
  ⟨(some 77), none, .op (.load none (.t 76))⟩,
  ⟨(some 78), none, .op (.mv (.t 8))⟩,
  ⟨(some 79), none, .op (.iad none none (.t 77) (.t 78))⟩,
  ⟨(some 80), none, .op (.load none (.t 79))⟩,
  ⟨(some 81), none, .op (.fad 1 (.t 7))⟩,
  ⟨(some 82), none, .op (.load none (.t 81))⟩,
  ⟨(some 83), none, .op (.mv (.t 8))⟩,
  ⟨(some 84), none, .op (.iad none none (.t 82) (.t 83))⟩,
  ⟨(some 85), none, .op (.load none (.t 84))⟩,
  ⟨(some 86), none, .op (.bin .none .neq (.t 80) (.t 85))⟩] [])
  (.cond (.t 86)
  (.seq (.reg [⟨(some 4), none, .op (.mv (.v (.bool false)))⟩] [])
  .ret)
  .skip))))
  (.reg [⟨(some 87), none, .op (.bin .none .add (.t 73) (.v (.int .i64 1)))⟩,
  ⟨(some 73), none, .op (.mv (.t 87))⟩] [])))))))
  (.seq (.reg [⟨(some 88), none, .op (.fad 4 (.t 6))⟩,
  ⟨(some 89), none, .op (.load none (.t 88))⟩,
  ⟨(some 90), none, .op (.len .sl (.t 89))⟩,
  ⟨(some 91), none, .op (.mv (.v (.int .i64 0)))⟩] [])
  (.block 4 (.loop (.seq (.reg [⟨(some 92), none, .op (.bin .none .lss (.t 91) (.t 90))⟩] [])
  (.seq (.cond (.t 92)
  .skip
  (.exit 4))
  (.seq (.block 5 (.seq (.reg [⟨(some 93), none, .op (.mv (.t 91))⟩,
  ⟨(some 9), none, .op (.mv (.t 93))⟩] [])
  (.seq (.reg [⟨(some 94), none, .op (.fad 4 (.t 6))⟩,
  ⟨(some 95), none, .op (.load none (.t 94))⟩,
  ⟨(some 96), none, .op (.mv (.t 9))⟩,
  ⟨(some 97), none, .op (.iad none (some 3) (.t 95) (.t 96))⟩,
  ⟨(some 98), none, .op (.load (some 3) (.t 97))⟩,
  ⟨(some 99), none, .op (.fad 4 (.t 7))⟩,
  ⟨(some 100), none, .op (.load none (.t 99))⟩,
  ⟨(some 101), none, .op (.mv (.t 9))⟩,
  ⟨(some 102), none, .op (.iad none (some 3) (.t 100) (.t 101))⟩,
  ⟨(some 103), none, .op (.load (some 3) (.t 102))⟩,
  ⟨(some 104), none, .op (.eqs [.int, .int, .int] .neq (.t 98) (.t 103))⟩] [])
  (.cond (.t 104)
  (.seq (.reg [⟨(some 4), none, .op (.mv (.v (.bool false)))⟩] [])
  .ret)
  .skip))))
  (.reg [⟨(some 105), none, .op (.bin .none .add (.t 91) (.v (.int .i64 1)))⟩,
  ⟨(some 91), none, .op (.mv (.t 105))⟩] []))))))))))))
  (.reg [⟨(some 106), none, .op (.bin .none .add (.t 20) (.v (.int .i64 1)))⟩,
  ⟨(some 20), none, .op (.mv (.t 106))⟩] [])))))))
  (.seq (.reg [⟨(some 4), none, .op (.mv (.v (.bool true)))⟩] [])
  .ret))))
theorem fn22 : Fn3 Tryd.prog 22 107 [(4, none)] fc22 := ⟨_, _, Tryd.func22, rfl, rfl, rfl, by kernel_rfl⟩
def windlassref03_Same_s (a_00 : Program) (b_01 : Program) : Option Bool :=
  (if ((List.length a_00.Funcs : Int) != (List.length b_01.Funcs : Int)) then (some false) else ((rni (fun (i_2 : Nat) (s_1 : Program) => (((getI a_00.Funcs (i_2 : Int)).bind fun y_3 => ((getI s_1.Funcs (i_2 : Int)).bind fun y_4 => (jp (fun (s_6 : Bool) => (if s_6 then (some (.ret (some false))) else ((rni (fun (i_8 : Nat) (s_7 : Unit) => (((getI y_3.Locals (i_8 : Int)).bind fun y_9 => ((getI y_4.Locals (i_8 : Int)).bind fun y_10 => (if (y_9 != y_10) then (some (.ret (some (.ret (some false))))) else (some (.nxt ()))))) : Option (Stp Unit (Option (Stp Program (Option Bool)))))) (List.length y_3.Locals : Int) ()).bind (oc (fun (s_7 : Unit) => ((rni (fun (i_12 : Nat) (s_11 : Unit) => (((getI y_3.Code (i_12 : Int)).bind fun y_13 => ((getI y_4.Code (i_12 : Int)).bind fun y_14 => (if (!((y_13.Op == y_14.Op) && ((y_13.Arg == y_14.Arg) && ((y_13.Imm == y_14.Imm) && true)))) then (some (.ret (some (.ret (some false))))) else (some (.nxt ()))))) : Option (Stp Unit (Option (Stp Program (Option Bool)))))) (List.length y_3.Code : Int) ()).bind (oc (fun (s_11 : Unit) => (some (.nxt s_1)))))))))) (fun k_5 => (if (y_3.Params != y_4.Params) then (k_5 true) else (if (!(y_3.Result == y_4.Result)) then (k_5 true) else (if (y_3.Keep != y_4.Keep) then (k_5 true) else (if ((List.length y_3.Locals : Int) != (List.length y_4.Locals : Int)) then (k_5 true) else (k_5 ((List.length y_3.Code : Int) != (List.length y_4.Code : Int))))))))))) : Option (Stp Program (Option Bool)))) (List.length a_00.Funcs : Int) b_01).bind (oc (fun (s_1 : Program) => (some true)))))
theorem windlassref03_Same_ev {a_00 : Program} {b_01 : Program} {r : Bool} (h : windlassref03_Same_s a_00 b_01 = some r) : PureEv Tryd.prog 22 [(Program.av a_00), (Program.av b_01)] (.bool r) := by
  unfold windlassref03_Same_s at h
  refine PureEv_end mixed fn22 (by simp) [6, 7] 6 ?_
  unfold fc22
  refine E_sq ?_
  refine E_reg ?_
  refine E_op0 (v' := (.cptr (Program.av a_00).cells 0)) rfl rfl ?_
  refine E_op0 (v' := (.cptr (Program.av b_01).cells 0)) rfl rfl ?_
  refine E_mv (v' := (.bool false)) rfl ?_
  refine E_nil ?_
  refine E_nx ?_
  refine E_as ?_
  refine E_sq ?_
  refine E_reg ?_
  refine E_op0 (v' := (.cptr (Program.av a_00).cells 0)) rfl rfl ?_
  refine E_op0 (v' := (.sl false 5 (List.map Func.av a_00.Funcs))) rfl rfl ?_
  refine E_len rfl ?_
  refine E_op0 (v' := (.cptr (Program.av b_01).cells 0)) rfl rfl ?_
  refine E_op0 (v' := (.sl false 5 (List.map Func.av b_01.Funcs))) rfl rfl ?_
  refine E_len rfl ?_
  refine E_op0 (v' := (.bool ((List.length a_00.Funcs : Int) != (List.length b_01.Funcs : Int)))) rfl rfl ?_
  refine E_nil ?_
  refine E_nx ?_
  refine E_sq ?_
  refine E_cs (t := ((List.length a_00.Funcs : Int) != (List.length b_01.Funcs : Int))) rfl (fun hb => ?_) (fun hb => ?_)
  · rw [ite_t hb] at h
    refine E_sq ?_
    refine E_reg ?_
    refine E_mv (v' := (.bool false)) rfl ?_
    refine E_nil ?_
    refine E_nx ?_
    refine E_ret ?_
    refine E_thr ?_
    cases h
    exact ⟨trivial, _, rfl, (fz_b rfl (.refl _))⟩
  · rw [ite_f hb] at h
    refine E_skip ?_
    refine E_nx ?_
    refine E_as ?_
    refine E_sq ?_
    refine E_reg ?_
    refine E_op0 (v' := (.cptr (Program.av a_00).cells 0)) rfl rfl ?_
    refine E_op0 (v' := (.sl false 5 (List.map Func.av a_00.Funcs))) rfl rfl ?_
    refine E_len rfl ?_
    refine E_mv (v' := (.int .i64 0)) rfl ?_
    refine E_nil ?_
    refine E_nx ?_
    refine E_sq ?_
    refine E_rniO (fun s_1 => [(2, (.cptr (Program.av a_00).cells 0)), (3, (.cptr (Program.av s_1).cells 0))]) (fun s_1 => []) h (by decide) (by decide) (fun _ => ⟨rfl, rfl, rfl, rfl⟩) (wk_aw ⟨(.refl _), (.refl _), (.refl _), (.refl _), trivial⟩) (fun i_2 s_1 c hlt h => ?_) (fun s_1 fr' S' h hw => ?_)
    · refine E_sq ?_
      refine E_reg ?_
      refine E_mv (v' := (.int .i64 (i_2 : Int))) rfl ?_
      refine E_mv (v' := (.int .i64 (i_2 : Int))) rfl ?_
      refine E_nil ?_
      refine E_nx ?_
      refine E_sq ?_
      refine E_regp ?_
      refine E_op0 (v' := (.cptr (Program.av a_00).cells 0)) rfl rfl ?_
      refine E_op0 (v' := (.sl false 5 (List.map Func.av a_00.Funcs))) rfl rfl ?_
      refine E_mv (v' := (.int .i64 (i_2 : Int))) rfl ?_
      obtain ⟨y_3, hy_3, h⟩ := bd_some h
      refine E_iadF rfl rfl hy_3 ?_
      refine E_op0 (v' := (Func.av y_3)) rfl rfl ?_
      refine E_op0 (v' := (.cptr (Program.av s_1).cells 0)) rfl rfl ?_
      refine E_op0 (v' := (.sl false 5 (List.map Func.av s_1.Funcs))) rfl rfl ?_
      refine E_mv (v' := (.int .i64 (i_2 : Int))) rfl ?_
      obtain ⟨y_4, hy_4, h⟩ := bd_some h
      refine E_iadF rfl rfl hy_4 ?_
      refine E_op0 (v' := (Func.av y_4)) rfl rfl ?_
      refine E_op (v' := .ptr 0 0 0) (S' := [.arr 0 [(.int .i64 0), .nils, (.bool false), (.int .i64 0), .nils]]) rfl rfl rfl ?_
      refine E_op (v' := .ptr 1 0 0) (S' := [.arr 0 [(.int .i64 0), .nils, (.bool false), (.int .i64 0), .nils], .arr 0 [(.int .i64 0), .nils, (.bool false), (.int .i64 0), .nils]]) rfl rfl rfl ?_
      refine E_do (S' := [.arr 0 [(.int .i64 y_3.Params), (.sl false 1 (List.map (avI .u8) y_3.Locals)), (.bool y_3.Result), (.int .i64 y_3.Keep), (.sl false 3 (List.map Instr.av y_3.Code))], .arr 0 [(.int .i64 0), .nils, (.bool false), (.int .i64 0), .nils]]) rfl rfl ?_
      refine E_do (S' := [.arr 0 [(.int .i64 y_3.Params), (.sl false 1 (List.map (avI .u8) y_3.Locals)), (.bool y_3.Result), (.int .i64 y_3.Keep), (.sl false 3 (List.map Instr.av y_3.Code))], .arr 0 [(.int .i64 y_4.Params), (.sl false 1 (List.map (avI .u8) y_4.Locals)), (.bool y_4.Result), (.int .i64 y_4.Keep), (.sl false 3 (List.map Instr.av y_4.Code))]]) rfl rfl ?_
      refine E_nil ?_
      refine And.intro (by simp [okLog, nthL, okPair, hp, fpOf]) ?_
      refine E_nx ?_
      refine E_as ?_
      refine E_jp h (fun s_6 => [(2, (.cptr (Program.av a_00).cells 0)), (3, (.cptr (Program.av s_1).cells 0)), (6, (.ptr 0 0 0)), (7, (.ptr 1 0 0)), (19, (.int .i64 (List.length a_00.Funcs : Int))), (20, (.int .i64 (i_2 : Int))), (69, (.bool s_6))]) (fun s_6 => [.arr 0 [(.int .i64 y_3.Params), (.sl false 1 (List.map (avI .u8) y_3.Locals)), (.bool y_3.Result), (.int .i64 y_3.Keep), (.sl false 3 (List.map Instr.av y_3.Code))], .arr 0 [(.int .i64 y_4.Params), (.sl false 1 (List.map (avI .u8) y_4.Locals)), (.bool y_4.Result), (.int .i64 y_4.Keep), (.sl false 3 (List.map Instr.av y_4.Code))]]) (fun k_5 h => ?_) (fun s_6 h => ?_)
      · refine E_reg ?_
        refine E_op0 (v' := (.ptr 0 0 0)) rfl rfl ?_
        refine E_op (v' := (.int .i64 y_3.Params)) (S' := [.arr 0 [(.int .i64 y_3.Params), (.sl false 1 (List.map (avI .u8) y_3.Locals)), (.bool y_3.Result), (.int .i64 y_3.Keep), (.sl false 3 (List.map Instr.av y_3.Code))], .arr 0 [(.int .i64 y_4.Params), (.sl false 1 (List.map (avI .u8) y_4.Locals)), (.bool y_4.Result), (.int .i64 y_4.Keep), (.sl false 3 (List.map Instr.av y_4.Code))]]) rfl rfl rfl ?_
        refine E_op0 (v' := (.ptr 1 0 0)) rfl rfl ?_
        refine E_op (v' := (.int .i64 y_4.Params)) (S' := [.arr 0 [(.int .i64 y_3.Params), (.sl false 1 (List.map (avI .u8) y_3.Locals)), (.bool y_3.Result), (.int .i64 y_3.Keep), (.sl false 3 (List.map Instr.av y_3.Code))], .arr 0 [(.int .i64 y_4.Params), (.sl false 1 (List.map (avI .u8) y_4.Locals)), (.bool y_4.Result), (.int .i64 y_4.Keep), (.sl false 3 (List.map Instr.av y_4.Code))]]) rfl rfl rfl ?_
        refine E_op0 (v' := (.bool (y_3.Params != y_4.Params))) rfl rfl ?_
        refine E_mv (v' := (.bool (y_3.Params != y_4.Params))) rfl ?_
        refine E_gsT (b := (y_3.Params != y_4.Params)) rfl rfl rfl (fun hb => ?_) (fun hb => ?_)
        · rw [ite_f hb] at h
          refine E_op0 (v' := (.ptr 0 0 2)) rfl rfl ?_
          refine E_gh rfl ?_
          refine E_op (v' := (.bool y_3.Result)) (S' := [.arr 0 [(.int .i64 y_3.Params), (.sl false 1 (List.map (avI .u8) y_3.Locals)), (.bool y_3.Result), (.int .i64 y_3.Keep), (.sl false 3 (List.map Instr.av y_3.Code))], .arr 0 [(.int .i64 y_4.Params), (.sl false 1 (List.map (avI .u8) y_4.Locals)), (.bool y_4.Result), (.int .i64 y_4.Keep), (.sl false 3 (List.map Instr.av y_4.Code))]]) rfl rfl rfl ?_
          refine E_gh rfl ?_
          refine E_op0 (v' := (.ptr 1 0 2)) rfl rfl ?_
          refine E_gh rfl ?_
          refine E_op (v' := (.bool y_4.Result)) (S' := [.arr 0 [(.int .i64 y_3.Params), (.sl false 1 (List.map (avI .u8) y_3.Locals)), (.bool y_3.Result), (.int .i64 y_3.Keep), (.sl false 3 (List.map Instr.av y_3.Code))], .arr 0 [(.int .i64 y_4.Params), (.sl false 1 (List.map (avI .u8) y_4.Locals)), (.bool y_4.Result), (.int .i64 y_4.Keep), (.sl false 3 (List.map Instr.av y_4.Code))]]) rfl rfl rfl ?_
          refine E_gh rfl ?_
          refine E_op0 (v' := (.bool (!(y_3.Result == y_4.Result)))) rfl rfl ?_
          refine E_pf rfl rfl ?_
          refine E_mv (v' := (.bool (!(y_3.Result == y_4.Result)))) rfl ?_
          refine E_gsT (b := (!(y_3.Result == y_4.Result))) rfl rfl rfl (fun hb => ?_) (fun hb => ?_)
          · rw [ite_f hb] at h
            refine E_op0 (v' := (.ptr 0 0 3)) rfl rfl ?_
            refine E_gh rfl ?_
            refine E_op (v' := (.int .i64 y_3.Keep)) (S' := [.arr 0 [(.int .i64 y_3.Params), (.sl false 1 (List.map (avI .u8) y_3.Locals)), (.bool y_3.Result), (.int .i64 y_3.Keep), (.sl false 3 (List.map Instr.av y_3.Code))], .arr 0 [(.int .i64 y_4.Params), (.sl false 1 (List.map (avI .u8) y_4.Locals)), (.bool y_4.Result), (.int .i64 y_4.Keep), (.sl false 3 (List.map Instr.av y_4.Code))]]) rfl rfl rfl ?_
            refine E_gh rfl ?_
            refine E_op0 (v' := (.ptr 1 0 3)) rfl rfl ?_
            refine E_gh rfl ?_
            refine E_op (v' := (.int .i64 y_4.Keep)) (S' := [.arr 0 [(.int .i64 y_3.Params), (.sl false 1 (List.map (avI .u8) y_3.Locals)), (.bool y_3.Result), (.int .i64 y_3.Keep), (.sl false 3 (List.map Instr.av y_3.Code))], .arr 0 [(.int .i64 y_4.Params), (.sl false 1 (List.map (avI .u8) y_4.Locals)), (.bool y_4.Result), (.int .i64 y_4.Keep), (.sl false 3 (List.map Instr.av y_4.Code))]]) rfl rfl rfl ?_
            refine E_gh rfl ?_
            refine E_op0 (v' := (.bool (y_3.Keep != y_4.Keep))) rfl rfl ?_
            refine E_pf rfl rfl ?_
            refine E_mv (v' := (.bool (y_3.Keep != y_4.Keep))) rfl ?_
            refine E_gsT (b := (y_3.Keep != y_4.Keep)) rfl rfl rfl (fun hb => ?_) (fun hb => ?_)
            · rw [ite_f hb] at h
              refine E_op0 (v' := (.ptr 0 0 1)) rfl rfl ?_
              refine E_gh rfl ?_
              refine E_op (v' := (.sl false 1 (List.map (avI .u8) y_3.Locals))) (S' := [.arr 0 [(.int .i64 y_3.Params), (.sl false 1 (List.map (avI .u8) y_3.Locals)), (.bool y_3.Result), (.int .i64 y_3.Keep), (.sl false 3 (List.map Instr.av y_3.Code))], .arr 0 [(.int .i64 y_4.Params), (.sl false 1 (List.map (avI .u8) y_4.Locals)), (.bool y_4.Result), (.int .i64 y_4.Keep), (.sl false 3 (List.map Instr.av y_4.Code))]]) rfl rfl rfl ?_
              refine E_gh rfl ?_
              refine E_len rfl ?_
              refine E_gh rfl ?_
              refine E_op0 (v' := (.ptr 1 0 1)) rfl rfl ?_
              refine E_gh rfl ?_
              refine E_op (v' := (.sl false 1 (List.map (avI .u8) y_4.Locals))) (S' := [.arr 0 [(.int .i64 y_3.Params), (.sl false 1 (List.map (avI .u8) y_3.Locals)), (.bool y_3.Result), (.int .i64 y_3.Keep), (.sl false 3 (List.map Instr.av y_3.Code))], .arr 0 [(.int .i64 y_4.Params), (.sl false 1 (List.map (avI .u8) y_4.Locals)), (.bool y_4.Result), (.int .i64 y_4.Keep), (.sl false 3 (List.map Instr.av y_4.Code))]]) rfl rfl rfl ?_
              refine E_gh rfl ?_
              refine E_len rfl ?_
              refine E_gh rfl ?_
              refine E_op0 (v' := (.bool ((List.length y_3.Locals : Int) != (List.length y_4.Locals : Int)))) rfl rfl ?_
              refine E_pf rfl rfl ?_
              refine E_mv (v' := (.bool ((List.length y_3.Locals : Int) != (List.length y_4.Locals : Int)))) rfl ?_
              refine E_gsT (b := ((List.length y_3.Locals : Int) != (List.length y_4.Locals : Int))) rfl rfl rfl (fun hb => ?_) (fun hb => ?_)
              · rw [ite_f hb] at h
                refine E_op0 (v' := (.ptr 0 0 4)) rfl rfl ?_
                refine E_gh rfl ?_
                refine E_op (v' := (.sl false 3 (List.map Instr.av y_3.Code))) (S' := [.arr 0 [(.int .i64 y_3.Params), (.sl false 1 (List.map (avI .u8) y_3.Locals)), (.bool y_3.Result), (.int .i64 y_3.Keep), (.sl false 3 (List.map Instr.av y_3.Code))], .arr 0 [(.int .i64 y_4.Params), (.sl false 1 (List.map (avI .u8) y_4.Locals)), (.bool y_4.Result), (.int .i64 y_4.Keep), (.sl false 3 (List.map Instr.av y_4.Code))]]) rfl rfl rfl ?_
                refine E_gh rfl ?_
                refine E_len rfl ?_
                refine E_gh rfl ?_
                refine E_op0 (v' := (.ptr 1 0 4)) rfl rfl ?_
                refine E_gh rfl ?_
                refine E_op (v' := (.sl false 3 (List.map Instr.av y_4.Code))) (S' := [.arr 0 [(.int .i64 y_3.Params), (.sl false 1 (List.map (avI .u8) y_3.Locals)), (.bool y_3.Result), (.int .i64 y_3.Keep), (.sl false 3 (List.map Instr.av y_3.Code))], .arr 0 [(.int .i64 y_4.Params), (.sl false 1 (List.map (avI .u8) y_4.Locals)), (.bool y_4.Result), (.int .i64 y_4.Keep), (.sl false 3 (List.map Instr.av y_4.Code))]]) rfl rfl rfl ?_
                refine E_gh rfl ?_
                refine E_len rfl ?_
                refine E_gh rfl ?_
                refine E_op0 (v' := (.bool ((List.length y_3.Code : Int) != (List.length y_4.Code : Int)))) rfl rfl ?_
                refine E_pf rfl rfl ?_
                refine E_nil ?_
                exact E_jx _ h (wk_rn [some (0, 0), some (1, 0)] rfl (Nat.le_of_ble_eq_true rfl) ⟨(rn_ob rfl rfl (.cons (rn_b rfl) (.cons (rn_b ((encI .u8).blws 0)) (.cons (rn_b rfl) (.cons (rn_b rfl) (.cons (rn_b (Instr.enc.blws 0)) (.nil (Nat.zero_le _))))))) rfl), (rn_ob rfl rfl (.cons (rn_b rfl) (.cons (rn_b ((encI .u8).blws 0)) (.cons (rn_b rfl) (.cons (rn_b rfl) (.cons (rn_b (Instr.enc.blws 0)) (.nil (Nat.zero_le _))))))) rfl), trivial⟩ ⟨(rn_b (cp_blw (Program.enc.blw _ 0))), (rn_b (cp_blw (Program.enc.blw _ 0))), (rn_ptr rfl rfl rfl rfl), (rn_ptr rfl rfl rfl rfl), (rn_b rfl), (rn_b rfl), (rn_b rfl), trivial⟩)
              · rw [ite_t hb] at h
                refine E_gm rfl ?_
                refine E_gm rfl ?_
                refine E_gm rfl ?_
                refine E_gm rfl ?_
                refine E_gm rfl ?_
                refine E_gm rfl ?_
                refine E_pt rfl rfl ?_
                refine E_nil ?_
                exact E_jx _ h (wk_rn [some (0, 0), some (1, 0)] rfl (Nat.le_of_ble_eq_true rfl) ⟨(rn_ob rfl rfl (.cons (rn_b rfl) (.cons (rn_b ((encI .u8).blws 0)) (.cons (rn_b rfl) (.cons (rn_b rfl) (.cons (rn_b (Instr.enc.blws 0)) (.nil (Nat.zero_le _))))))) rfl), (rn_ob rfl rfl (.cons (rn_b rfl) (.cons (rn_b ((encI .u8).blws 0)) (.cons (rn_b rfl) (.cons (rn_b rfl) (.cons (rn_b (Instr.enc.blws 0)) (.nil (Nat.zero_le _))))))) rfl), trivial⟩ ⟨(rn_b (cp_blw (Program.enc.blw _ 0))), (rn_b (cp_blw (Program.enc.blw _ 0))), (rn_ptr rfl rfl rfl rfl), (rn_ptr rfl rfl rfl rfl), (rn_b rfl), (rn_b rfl), (rn_b rfl), trivial⟩)
            · rw [ite_t hb] at h
              refine E_gm rfl ?_
              refine E_gm rfl ?_
              refine E_gm rfl ?_
              refine E_gm rfl ?_
              refine E_gm rfl ?_
              refine E_gm rfl ?_
              refine E_pt rfl rfl ?_
              refine E_mv (v' := (.bool true)) rfl ?_
              refine E_gm rfl ?_
              refine E_gm rfl ?_
              refine E_gm rfl ?_
              refine E_gm rfl ?_
              refine E_gm rfl ?_
              refine E_gm rfl ?_
              refine E_gm rfl ?_
              refine E_pt rfl rfl ?_
              refine E_nil ?_
              exact E_jx _ h (wk_rn [some (0, 0), some (1, 0)] rfl (Nat.le_of_ble_eq_true rfl) ⟨(rn_ob rfl rfl (.cons (rn_b rfl) (.cons (rn_b ((encI .u8).blws 0)) (.cons (rn_b rfl) (.cons (rn_b rfl) (.cons (rn_b (Instr.enc.blws 0)) (.nil (Nat.zero_le _))))))) rfl), (rn_ob rfl rfl (.cons (rn_b rfl) (.cons (rn_b ((encI .u8).blws 0)) (.cons (rn_b rfl) (.cons (rn_b rfl) (.cons (rn_b (Instr.enc.blws 0)) (.nil (Nat.zero_le _))))))) rfl), trivial⟩ ⟨(rn_b (cp_blw (Program.enc.blw _ 0))), (rn_b (cp_blw (Program.enc.blw _ 0))), (rn_ptr rfl rfl rfl rfl), (rn_ptr rfl rfl rfl rfl), (rn_b rfl), (rn_b rfl), (rn_b rfl), trivial⟩)
          · rw [ite_t hb] at h
            refine E_gm rfl ?_
            refine E_gm rfl ?_
            refine E_gm rfl ?_
            refine E_gm rfl ?_
            refine E_pt rfl rfl ?_
            refine E_mv (v' := (.bool true)) rfl ?_
            refine E_gm rfl ?_
            refine E_gm rfl ?_
            refine E_gm rfl ?_
            refine E_gm rfl ?_
            refine E_gm rfl ?_
            refine E_gm rfl ?_
            refine E_gm rfl ?_
            refine E_pt rfl rfl ?_
            refine E_mv (v' := (.bool true)) rfl ?_
            refine E_gm rfl ?_
            refine E_gm rfl ?_
            refine E_gm rfl ?_
            refine E_gm rfl ?_
            refine E_gm rfl ?_
            refine E_gm rfl ?_
            refine E_gm rfl ?_
            refine E_pt rfl rfl ?_
            refine E_nil ?_
            exact E_jx _ h (wk_rn [some (0, 0), some (1, 0)] rfl (Nat.le_of_ble_eq_true rfl) ⟨(rn_ob rfl rfl (.cons (rn_b rfl) (.cons (rn_b ((encI .u8).blws 0)) (.cons (rn_b rfl) (.cons (rn_b rfl) (.cons (rn_b (Instr.enc.blws 0)) (.nil (Nat.zero_le _))))))) rfl), (rn_ob rfl rfl (.cons (rn_b rfl) (.cons (rn_b ((encI .u8).blws 0)) (.cons (rn_b rfl) (.cons (rn_b rfl) (.cons (rn_b (Instr.enc.blws 0)) (.nil (Nat.zero_le _))))))) rfl), trivial⟩ ⟨(rn_b (cp_blw (Program.enc.blw _ 0))), (rn_b (cp_blw (Program.enc.blw _ 0))), (rn_ptr rfl rfl rfl rfl), (rn_ptr rfl rfl rfl rfl), (rn_b rfl), (rn_b rfl), (rn_b rfl), trivial⟩)
        · rw [ite_t hb] at h
          refine E_gm rfl ?_
          refine E_gm rfl ?_
          refine E_gm rfl ?_
          refine E_gm rfl ?_
          refine E_pt rfl rfl ?_
          refine E_mv (v' := (.bool true)) rfl ?_
          refine E_gm rfl ?_
          refine E_gm rfl ?_
          refine E_gm rfl ?_
          refine E_gm rfl ?_
          refine E_gm rfl ?_
          refine E_pt rfl rfl ?_
          refine E_mv (v' := (.bool true)) rfl ?_
          refine E_gm rfl ?_
          refine E_gm rfl ?_
          refine E_gm rfl ?_
          refine E_gm rfl ?_
          refine E_gm rfl ?_
          refine E_gm rfl ?_
          refine E_gm rfl ?_
          refine E_pt rfl rfl ?_
          refine E_mv (v' := (.bool true)) rfl ?_
          refine E_gm rfl ?_
          refine E_gm rfl ?_
          refine E_gm rfl ?_
          refine E_gm rfl ?_
          refine E_gm rfl ?_
          refine E_gm rfl ?_
          refine E_gm rfl ?_
          refine E_pt rfl rfl ?_
          refine E_nil ?_
          exact E_jx _ h (wk_rn [some (0, 0), some (1, 0)] rfl (Nat.le_of_ble_eq_true rfl) ⟨(rn_ob rfl rfl (.cons (rn_b rfl) (.cons (rn_b ((encI .u8).blws 0)) (.cons (rn_b rfl) (.cons (rn_b rfl) (.cons (rn_b (Instr.enc.blws 0)) (.nil (Nat.zero_le _))))))) rfl), (rn_ob rfl rfl (.cons (rn_b rfl) (.cons (rn_b ((encI .u8).blws 0)) (.cons (rn_b rfl) (.cons (rn_b rfl) (.cons (rn_b (Instr.enc.blws 0)) (.nil (Nat.zero_le _))))))) rfl), trivial⟩ ⟨(rn_b (cp_blw (Program.enc.blw _ 0))), (rn_b (cp_blw (Program.enc.blw _ 0))), (rn_ptr rfl rfl rfl rfl), (rn_ptr rfl rfl rfl rfl), (rn_b rfl), (rn_b rfl), (rn_b rfl), trivial⟩)
      · refine E_sq ?_
        refine E_cs (t := s_6) rfl (fun hb => ?_) (fun hb => ?_)
        · rw [ite_t hb] at h
          refine E_sq ?_
          refine E_reg ?_
          refine E_mv (v' := (.bool false)) rfl ?_
          refine E_nil ?_
          refine E_nx ?_
          refine E_ret ?_
          refine E_thr ?_
          cases h
          refine L_rrO rfl (fun h => ?_)
          refine E_thr ?_
          cases h
          exact ⟨trivial, _, rfl, (fz_b rfl (.refl _))⟩
        · rw [ite_f hb] at h
          refine E_skip ?_
          refine E_nx ?_
          refine E_as ?_
          refine E_sq ?_
          refine E_reg ?_
          refine E_op0 (v' := (.ptr 0 0 1)) rfl rfl ?_
          refine E_op (v' := (.sl false 1 (List.map (avI .u8) y_3.Locals))) (S' := [.arr 0 [(.int .i64 y_3.Params), (.sl false 1 (List.map (avI .u8) y_3.Locals)), (.bool y_3.Result), (.int .i64 y_3.Keep), (.sl false 3 (List.map Instr.av y_3.Code))], .arr 0 [(.int .i64 y_4.Params), (.sl false 1 (List.map (avI .u8) y_4.Locals)), (.bool y_4.Result), (.int .i64 y_4.Keep), (.sl false 3 (List.map Instr.av y_4.Code))]]) rfl rfl rfl ?_
          refine E_len rfl ?_
          refine E_mv (v' := (.int .i64 0)) rfl ?_
          refine E_nil ?_
          refine E_nx ?_
          refine E_sq ?_
          refine E_rniO (fun s_7 => [(2, (.cptr (Program.av a_00).cells 0)), (3, (.cptr (Program.av s_1).cells 0)), (6, (.ptr 0 0 0)), (7, (.ptr 1 0 0)), (19, (.int .i64 (List.length a_00.Funcs : Int))), (20, (.int .i64 (i_2 : Int)))]) (fun s_7 => [.arr 0 [(.int .i64 y_3.Params), (.sl false 1 (List.map (avI .u8) y_3.Locals)), (.bool y_3.Result), (.int .i64 y_3.Keep), (.sl false 3 (List.map Instr.av y_3.Code))], .arr 0 [(.int .i64 y_4.Params), (.sl false 1 (List.map (avI .u8) y_4.Locals)), (.bool y_4.Result), (.int .i64 y_4.Keep), (.sl false 3 (List.map Instr.av y_4.Code))]]) h (by decide) (by decide) (fun _ => ⟨rfl, rfl, rfl, rfl⟩) (wk_rn [some (0, 0), some (1, 0)] rfl (Nat.le_of_ble_eq_true rfl) ⟨(rn_ob rfl rfl (.cons (rn_b rfl) (.cons (rn_b ((encI .u8).blws 0)) (.cons (rn_b rfl) (.cons (rn_b rfl) (.cons (rn_b (Instr.enc.blws 0)) (.nil (Nat.zero_le _))))))) rfl), (rn_ob rfl rfl (.cons (rn_b rfl) (.cons (rn_b ((encI .u8).blws 0)) (.cons (rn_b rfl) (.cons (rn_b rfl) (.cons (rn_b (Instr.enc.blws 0)) (.nil (Nat.zero_le _))))))) rfl), trivial⟩ ⟨(rn_b rfl), (rn_b rfl), (rn_b (cp_blw (Program.enc.blw _ 0))), (rn_b (cp_blw (Program.enc.blw _ 0))), (rn_ptr rfl rfl rfl rfl), (rn_ptr rfl rfl rfl rfl), (rn_b rfl), (rn_b rfl), trivial⟩) (fun i_8 s_7 c hlt h => ?_) (fun s_7 fr' S' h hw => ?_)
          · refine E_sq ?_
            refine E_reg ?_
            refine E_mv (v' := (.int .i64 (i_8 : Int))) rfl ?_
            refine E_mv (v' := (.int .i64 (i_8 : Int))) rfl ?_
            refine E_nil ?_
            refine E_nx ?_
            refine E_sq ?_
            refine E_reg ?_
            refine E_op0 (v' := (.ptr 0 0 1)) rfl rfl ?_
            refine E_op (v' := (.sl false 1 (List.map (avI .u8) y_3.Locals))) (S' := [.arr 0 [(.int .i64 y_3.Params), (.sl false 1 (List.map (avI .u8) y_3.Locals)), (.bool y_3.Result), (.int .i64 y_3.Keep), (.sl false 3 (List.map Instr.av y_3.Code))], .arr 0 [(.int .i64 y_4.Params), (.sl false 1 (List.map (avI .u8) y_4.Locals)), (.bool y_4.Result), (.int .i64 y_4.Keep), (.sl false 3 (List.map Instr.av y_4.Code))]]) rfl rfl rfl ?_
            refine E_mv (v' := (.int .i64 (i_8 : Int))) rfl ?_
            obtain ⟨y_9, hy_9, h⟩ := bd_some h
            refine E_iadF rfl rfl hy_9 ?_
            refine E_op0 (v' := (.int .u8 y_9)) rfl rfl ?_
            refine E_op0 (v' := (.ptr 1 0 1)) rfl rfl ?_
            refine E_op (v' := (.sl false 1 (List.map (avI .u8) y_4.Locals))) (S' := [.arr 0 [(.int .i64 y_3.Params), (.sl false 1 (List.map (avI .u8) y_3.Locals)), (.bool y_3.Result), (.int .i64 y_3.Keep), (.sl false 3 (List.map Instr.av y_3.Code))], .arr 0 [(.int .i64 y_4.Params), (.sl false 1 (List.map (avI .u8) y_4.Locals)), (.bool y_4.Result), (.int .i64 y_4.Keep), (.sl false 3 (List.map Instr.av y_4.Code))]]) rfl rfl rfl ?_
            refine E_mv (v' := (.int .i64 (i_8 : Int))) rfl ?_
            obtain ⟨y_10, hy_10, h⟩ := bd_some h
            refine E_iadF rfl rfl hy_10 ?_
            refine E_op0 (v' := (.int .u8 y_10)) rfl rfl ?_
            refine E_op0 (v' := (.bool (y_9 != y_10))) rfl rfl ?_
            refine E_nil ?_
            refine E_nx ?_
            refine E_cs (t := (y_9 != y_10)) rfl (fun hb => ?_) (fun hb => ?_)
            · rw [ite_t hb] at h
              refine E_sq ?_
              refine E_reg ?_
              refine E_mv (v' := (.bool false)) rfl ?_
              refine E_nil ?_
              refine E_nx ?_
              refine E_ret ?_
              cases h
              refine L_rrO rfl (fun h => ?_)
              refine E_thr ?_
              cases h
              refine L_rrO rfl (fun h => ?_)
              refine E_thr ?_
              cases h
              exact ⟨trivial, _, rfl, (fz_b rfl (.refl _))⟩
            · rw [ite_f hb] at h
              refine E_skip ?_
              cases h
              exact L_nn rfl (wk_rn [some (0, 0), some (1, 0)] rfl (Nat.le_of_ble_eq_true rfl) ⟨(rn_ob rfl rfl (.cons (rn_b rfl) (.cons (rn_b ((encI .u8).blws 0)) (.cons (rn_b rfl) (.cons (rn_b rfl) (.cons (rn_b (Instr.enc.blws 0)) (.nil (Nat.zero_le _))))))) rfl), (rn_ob rfl rfl (.cons (rn_b rfl) (.cons (rn_b ((encI .u8).blws 0)) (.cons (rn_b rfl) (.cons (rn_b rfl) (.cons (rn_b (Instr.enc.blws 0)) (.nil (Nat.zero_le _))))))) rfl), trivial⟩ ⟨(rn_b rfl), (rn_b rfl), (rn_b (cp_blw (Program.enc.blw _ 0))), (rn_b (cp_blw (Program.enc.blw _ 0))), (rn_ptr rfl rfl rfl rfl), (rn_ptr rfl rfl rfl rfl), (rn_b rfl), (rn_b rfl), trivial⟩)
          · refine X_nx hw ?_
            refine E_sq ?_
            refine E_reg ?_
            refine E_op0 (v' := (.ptr 0 0 4)) rfl rfl ?_
            refine E_op (v' := (.sl false 3 (List.map Instr.av y_3.Code))) (S' := [.arr 0 [(.int .i64 y_3.Params), (.sl false 1 (List.map (avI .u8) y_3.Locals)), (.bool y_3.Result), (.int .i64 y_3.Keep), (.sl false 3 (List.map Instr.av y_3.Code))], .arr 0 [(.int .i64 y_4.Params), (.sl false 1 (List.map (avI .u8) y_4.Locals)), (.bool y_4.Result), (.int .i64 y_4.Keep), (.sl false 3 (List.map Instr.av y_4.Code))]]) rfl rfl rfl ?_
            refine E_len rfl ?_
            refine E_mv (v' := (.int .i64 0)) rfl ?_
            refine E_nil ?_
            refine E_nx ?_
            refine E_rniO (fun s_11 => [(2, (.cptr (Program.av a_00).cells 0)), (3, (.cptr (Program.av s_1).cells 0)), (6, (.ptr 0 0 0)), (7, (.ptr 1 0 0)), (19, (.int .i64 (List.length a_00.Funcs : Int))), (20, (.int .i64 (i_2 : Int)))]) (fun s_11 => [.arr 0 [(.int .i64 y_3.Params), (.sl false 1 (List.map (avI .u8) y_3.Locals)), (.bool y_3.Result), (.int .i64 y_3.Keep), (.sl false 3 (List.map Instr.av y_3.Code))], .arr 0 [(.int .i64 y_4.Params), (.sl false 1 (List.map (avI .u8) y_4.Locals)), (.bool y_4.Result), (.int .i64 y_4.Keep), (.sl false 3 (List.map Instr.av y_4.Code))]]) h (by decide) (by decide) (fun _ => ⟨rfl, rfl, rfl, rfl⟩) (wk_rn [some (0, 0), some (1, 0)] rfl (Nat.le_of_ble_eq_true rfl) ⟨(rn_ob rfl rfl (.cons (rn_b rfl) (.cons (rn_b ((encI .u8).blws 0)) (.cons (rn_b rfl) (.cons (rn_b rfl) (.cons (rn_b (Instr.enc.blws 0)) (.nil (Nat.zero_le _))))))) rfl), (rn_ob rfl rfl (.cons (rn_b rfl) (.cons (rn_b ((encI .u8).blws 0)) (.cons (rn_b rfl) (.cons (rn_b rfl) (.cons (rn_b (Instr.enc.blws 0)) (.nil (Nat.zero_le _))))))) rfl), trivial⟩ ⟨(rn_b rfl), (rn_b rfl), (rn_b (cp_blw (Program.enc.blw _ 0))), (rn_b (cp_blw (Program.enc.blw _ 0))), (rn_ptr rfl rfl rfl rfl), (rn_ptr rfl rfl rfl rfl), (rn_b rfl), (rn_b rfl), trivial⟩) (fun i_12 s_11 c hlt h => ?_) (fun s_11 fr' S' h hw => ?_)
            · refine E_sq ?_
              refine E_reg ?_
              refine E_mv (v' := (.int .i64 (i_12 : Int))) rfl ?_
              refine E_mv (v' := (.int .i64 (i_12 : Int))) rfl ?_
              refine E_nil ?_
              refine E_nx ?_
              refine E_sq ?_
              refine E_reg ?_
              refine E_op0 (v' := (.ptr 0 0 4)) rfl rfl ?_
              refine E_op (v' := (.sl false 3 (List.map Instr.av y_3.Code))) (S' := [.arr 0 [(.int .i64 y_3.Params), (.sl false 1 (List.map (avI .u8) y_3.Locals)), (.bool y_3.Result), (.int .i64 y_3.Keep), (.sl false 3 (List.map Instr.av y_3.Code))], .arr 0 [(.int .i64 y_4.Params), (.sl false 1 (List.map (avI .u8) y_4.Locals)), (.bool y_4.Result), (.int .i64 y_4.Keep), (.sl false 3 (List.map Instr.av y_4.Code))]]) rfl rfl rfl ?_
              refine E_mv (v' := (.int .i64 (i_12 : Int))) rfl ?_
              obtain ⟨y_13, hy_13, h⟩ := bd_some h
              refine E_iadF rfl rfl hy_13 ?_
              refine E_op0 (v' := (Instr.av y_13)) rfl rfl ?_
              refine E_op0 (v' := (.ptr 1 0 4)) rfl rfl ?_
              refine E_op (v' := (.sl false 3 (List.map Instr.av y_4.Code))) (S' := [.arr 0 [(.int .i64 y_3.Params), (.sl false 1 (List.map (avI .u8) y_3.Locals)), (.bool y_3.Result), (.int .i64 y_3.Keep), (.sl false 3 (List.map Instr.av y_3.Code))], .arr 0 [(.int .i64 y_4.Params), (.sl false 1 (List.map (avI .u8) y_4.Locals)), (.bool y_4.Result), (.int .i64 y_4.Keep), (.sl false 3 (List.map Instr.av y_4.Code))]]) rfl rfl rfl ?_
              refine E_mv (v' := (.int .i64 (i_12 : Int))) rfl ?_
              obtain ⟨y_14, hy_14, h⟩ := bd_some h
              refine E_iadF rfl rfl hy_14 ?_
              refine E_op0 (v' := (Instr.av y_14)) rfl rfl ?_
              refine E_op0 (v' := (.bool (!((y_13.Op == y_14.Op) && ((y_13.Arg == y_14.Arg) && ((y_13.Imm == y_14.Imm) && true)))))) rfl rfl ?_
              refine E_nil ?_
              refine E_nx ?_
              refine E_cs (t := (!((y_13.Op == y_14.Op) && ((y_13.Arg == y_14.Arg) && ((y_13.Imm == y_14.Imm) && true))))) rfl (fun hb => ?_) (fun hb => ?_)
              · rw [ite_t hb] at h
                refine E_sq ?_
                refine E_reg ?_
                refine E_mv (v' := (.bool false)) rfl ?_
                refine E_nil ?_
                refine E_nx ?_
                refine E_ret ?_
                cases h
                refine L_rrO rfl (fun h => ?_)
                cases h
                refine L_rrO rfl (fun h => ?_)
                refine E_thr ?_
                cases h
                exact ⟨trivial, _, rfl, (fz_b rfl (.refl _))⟩
              · rw [ite_f hb] at h
                refine E_skip ?_
                cases h
                exact L_nn rfl (wk_rn [some (0, 0), some (1, 0)] rfl (Nat.le_of_ble_eq_true rfl) ⟨(rn_ob rfl rfl (.cons (rn_b rfl) (.cons (rn_b ((encI .u8).blws 0)) (.cons (rn_b rfl) (.cons (rn_b rfl) (.cons (rn_b (Instr.enc.blws 0)) (.nil (Nat.zero_le _))))))) rfl), (rn_ob rfl rfl (.cons (rn_b rfl) (.cons (rn_b ((encI .u8).blws 0)) (.cons (rn_b rfl) (.cons (rn_b rfl) (.cons (rn_b (Instr.enc.blws 0)) (.nil (Nat.zero_le _))))))) rfl), trivial⟩ ⟨(rn_b rfl), (rn_b rfl), (rn_b (cp_blw (Program.enc.blw _ 0))), (rn_b (cp_blw (Program.enc.blw _ 0))), (rn_ptr rfl rfl rfl rfl), (rn_ptr rfl rfl rfl rfl), (rn_b rfl), (rn_b rfl), trivial⟩)
            · cases h
              exact X_nn rfl hw (wk_rn [] rfl (Nat.le_of_ble_eq_true rfl) trivial ⟨(rn_b rfl), (rn_b rfl), (rn_b (cp_blw (Program.enc.blw _ 0))), (rn_b (cp_blw (Program.enc.blw _ 0))), trivial⟩)
    · refine X_nx hw ?_
      refine E_sq ?_
      refine E_reg ?_
      refine E_mv (v' := (.bool true)) rfl ?_
      refine E_nil ?_
      refine E_nx ?_
      refine E_ret ?_
      cases h
      exact ⟨trivial, _, rfl, (fz_b rfl (.refl _))⟩
def gc_windlassref03_Copy : FC := (.seq (.reg [⟨(some 1), none, .op (.box (.t 0))⟩,
  ⟨(some 2), none, .op (.new [.nils])⟩] [])
  (.seq (.reg [⟨(some 3), none, .op (.new [.nils])⟩] [])
  (.seq (.seq (.reg [⟨(some 6), none, .op (.fad 0 (.t 1))⟩,
  ⟨(some 7), none, .op (.load none (.t 6))⟩,
  ⟨(some 8), none, .op (.len .sl (.t 7))⟩,
  ⟨(some 9), none, .op (.mv (.v (.int .i64 0)))⟩] [])
  (.block 0 (.loop (.seq (.reg [⟨(some 10), none, .op (.bin .none .lss (.t 9) (.t 8))⟩] [])
  (.seq (.cond (.t 10)
  .skip
  (.exit 0))
  (.seq (.block 1 (.seq (.reg [⟨(some 11), none, .op (.iad none (some 5) (.t 7) (.t 9))⟩,
  ⟨(some 12), none, .op (.load (some 5) (.t 11))⟩,
  ⟨(some 5), none, .op (.new [(.int .i64 0), .nils, (.bool false), (.int .i64 0), .nils])⟩,
  ⟨none, none, .op (.store 5 (.t 5) (.t 12))⟩] [])
  (.seq (.reg [⟨(some 13), none, .op (.bsl none [(.int .u8 0)] 0 [])⟩,
  ⟨(some 14), none, .op (.fad 1 (.t 5))⟩,
  ⟨(some 15), none, .op (.load none (.t 14))⟩,
  ⟨(some 16), none, .op (.app none 1 (.t 13) (.t 15))⟩,
  ⟨(some 17), none, .op (.fad 1 (.t 5))⟩,
  ⟨none, none, .op (.store 1 (.t 17) (.t 16))⟩] [])
  (.seq (.reg [⟨(some 18), none, .op (.bsl (some 3) [(.int .u8 0), (.int .i64 0), (.int .u64 0)] 0 [])⟩,
  ⟨(some 19), none, .op (.fad 4 (.t 5))⟩,
  ⟨(some 20), none, .op (.load none (.t 19))⟩,
  ⟨(some 21), none, .op (.app (some 3) 24 (.t 18) (.t 20))⟩,
  ⟨(some 22), none, .op (.fad 4 (.t 5))⟩,
  ⟨none, none, .op (.store 1 (.t 22) (.t 21))⟩] [])
  (.block 1000003 (.seq (.reg [⟨(some 23), none, .op (.fad 0 (.t 3))⟩,
  ⟨(some 24), none, .op (.load none (.t 23))⟩,
  ⟨(some 25), none, .op (.load (some 5) (.t 5))⟩] []) (.reg [⟨(some 26), none, .op (.bsl (some 5) [(.int .i64 0), .nils, (.bool false), (.int .i64 0), .nils] 1 [(0, 5, (.t 25))])⟩,
  ⟨(some 27), none, .op (.app (some 5) 72 (.t 24) (.t 26))⟩,
  ⟨(some 28), none, .op (.fad 0 (.t 3))⟩,
  ⟨none, none, .op (.store 1 (.t 28) (.t 27))⟩] [])))))))
  (.reg [⟨(some 29), none, .op (.bin .none .add (.t 9) (.v (.int .i64 1)))⟩,
  ⟨(some 9), none, .op (.mv (.t 29))⟩] [])))))))
  (.seq (.reg [⟨(some 30), none, .op (.load (some 1) (.t 3))⟩,
  ⟨none, none, .op (.store 1 (.t 2) (.t 30))⟩] [])
  .ret))))
theorem gn_windlassref03_Copy : Fn3S Tryd.prog 23 31 [(2, (some (some 1)))] gc_windlassref03_Copy := ⟨_, _, Tryd.func23, rfl, rfl, rfl, by kernel_rfl, by kernel_rfl⟩
def windlassref03_Copy_s (p_00 : Program) : Option Program :=
  ((rng (fun (i_2 : Nat) (f_3 : Func) (s_1 : (List Func)) => (((appL 1 ([] : List Int) f_3.Locals).bind fun l_5 => ((appL 24 ([] : List Instr) f_3.Code).bind fun l_6 => ((appL 72 s_1 [(Func.mk f_3.Params l_5 f_3.Result f_3.Keep l_6)]).bind fun l_7 => (some (.nxt l_7))))) : Option (Stp (List Func) (Option Program)))) p_00.Funcs []).bind (oc (fun (s_1 : (List Func)) => (some (Program.mk s_1)))))
theorem windlassref03_Copy_ev {p_00 : Program} {r : Program} (h : windlassref03_Copy_s p_00 = some r) : PureEv Tryd.prog 23 [(Program.av p_00)] (Program.av r) := by
  unfold windlassref03_Copy_s at h
  refine PureEv_endS mixed gn_windlassref03_Copy (by simp) [2, 3, 5, 13, 18, 27] 6 ?_
  unfold gc_windlassref03_Copy
  refine E_sq ?_
  refine E_reg ?_
  refine E_op0 (v' := (.cptr (Program.av p_00).cells 0)) rfl rfl ?_
  refine E_op (v' := .ptr 0 0 0) (S' := [.arr 0 [.nils]]) rfl rfl rfl ?_
  refine E_nil ?_
  refine E_nx ?_
  refine E_sq ?_
  refine E_reg ?_
  refine E_op (v' := .ptr 1 0 0) (S' := [.arr 0 [.nils], .arr 0 [.nils]]) rfl rfl rfl ?_
  refine E_nil ?_
  refine E_nx ?_
  refine E_as ?_
  refine E_sq ?_
  refine E_reg ?_
  refine E_op0 (v' := (.cptr (Program.av p_00).cells 0)) rfl rfl ?_
  refine E_op0 (v' := (.sl false 5 (List.map Func.av p_00.Funcs))) rfl rfl ?_
  refine E_len rfl ?_
  refine E_mv (v' := (.int .i64 0)) rfl ?_
  refine E_nil ?_
  refine E_nx ?_
  refine E_sq ?_
  refine E_rngO (fun s_1 => [(2, (.ptr 0 0 0)), (3, (.ptr 1 0 0)), (7, (.sl false 5 (List.map Func.av p_00.Funcs)))]) (fun s_1 => [.arr 0 [.nils], .arr 0 [(.ref 2 1 0 (List.length s_1) (some 5))], .arr 1 (flat Func.av s_1)]) h (by decide) (by decide) (fun _ => ⟨rfl, rfl, rfl, rfl⟩) (wk_rn [some (0, 0), some (1, 0), none] rfl (Nat.le_of_ble_eq_true rfl) ⟨(rn_ob rfl rfl (.cons (rn_b rfl) (.nil (Nat.zero_le _))) rfl), (rn_ob rfl rfl (.cons (rn_nil rfl) (.nil (Nat.zero_le _))) rfl), (rn_obN rfl rfl rfl), trivial⟩ ⟨(rn_b rfl), (rn_b rfl), (rn_ptr rfl rfl rfl rfl), (rn_ptr rfl rfl rfl rfl), (rn_b (Func.enc.blws 0)), trivial⟩) (fun i_2 f_3 s_1 c hx_4 hlt h => ?_) (fun s_1 fr' S' h hw => ?_)
  · refine E_sq ?_
    refine E_reg ?_
    refine E_iadF rfl rfl (getI_of hx_4) ?_
    refine E_op0 (v' := (Func.av f_3)) rfl rfl ?_
    refine E_op (v' := .ptr 3 0 0) (S' := [.arr 0 [.nils], .arr 0 [(.ref 2 1 0 (List.length s_1) (some 5))], .arr 1 (flat Func.av s_1), .arr 0 [(.int .i64 0), .nils, (.bool false), (.int .i64 0), .nils]]) rfl rfl rfl ?_
    refine E_do (S' := [.arr 0 [.nils], .arr 0 [(.ref 2 1 0 (List.length s_1) (some 5))], .arr 1 (flat Func.av s_1), .arr 0 [(.int .i64 f_3.Params), (.sl false 1 (List.map (avI .u8) f_3.Locals)), (.bool f_3.Result), (.int .i64 f_3.Keep), (.sl false 3 (List.map Instr.av f_3.Code))]]) rfl rfl ?_
    refine E_nil ?_
    refine E_nx ?_
    refine E_sq ?_
    refine E_reg ?_
    refine E_op (v' := (.ref 4 0 0 (List.length ([] : List Int)) none)) (S' := [.arr 0 [.nils], .arr 0 [(.ref 2 1 0 (List.length s_1) (some 5))], .arr 1 (flat Func.av s_1), .arr 0 [(.int .i64 f_3.Params), (.sl false 1 (List.map (avI .u8) f_3.Locals)), (.bool f_3.Result), (.int .i64 f_3.Keep), (.sl false 3 (List.map Instr.av f_3.Code))], .arr 0 (flat (avI .u8) ([] : List Int))]) rfl rfl rfl ?_
    refine E_op0 (v' := (.ptr 3 0 1)) rfl rfl ?_
    refine E_op (v' := (.sl false 1 (List.map (avI .u8) f_3.Locals))) (S' := [.arr 0 [.nils], .arr 0 [(.ref 2 1 0 (List.length s_1) (some 5))], .arr 1 (flat Func.av s_1), .arr 0 [(.int .i64 f_3.Params), (.sl false 1 (List.map (avI .u8) f_3.Locals)), (.bool f_3.Result), (.int .i64 f_3.Keep), (.sl false 3 (List.map Instr.av f_3.Code))], .arr 0 (flat (avI .u8) ([] : List Int))]) rfl rfl rfl ?_
    obtain ⟨l_5, hl_5, h⟩ := bd_some h
    refine E_apL (S' := [.arr 0 [.nils], .arr 0 [(.ref 2 1 0 (List.length s_1) (some 5))], .arr 1 (flat Func.av s_1), .arr 0 [(.int .i64 f_3.Params), (.sl false 1 (List.map (avI .u8) f_3.Locals)), (.bool f_3.Result), (.int .i64 f_3.Keep), (.sl false 3 (List.map Instr.av f_3.Code))], .arr 1 (flat (avI .u8) l_5)]) (encI .u8) rfl (src_sl f_3.Locals) rfl hl_5 rfl ?_
    refine E_op0 (v' := (.ptr 3 0 1)) rfl rfl ?_
    refine E_do (S' := [.arr 0 [.nils], .arr 0 [(.ref 2 1 0 (List.length s_1) (some 5))], .arr 1 (flat Func.av s_1), .arr 0 [(.int .i64 f_3.Params), (.ref 4 1 0 (List.length l_5) none), (.bool f_3.Result), (.int .i64 f_3.Keep), (.sl false 3 (List.map Instr.av f_3.Code))], .arr 1 (flat (avI .u8) l_5)]) rfl rfl ?_
    refine E_nil ?_
    refine E_nx ?_
    refine E_sq ?_
    refine E_reg ?_
    refine E_op (v' := (.ref 5 0 0 (List.length ([] : List Instr)) (some 3))) (S' := [.arr 0 [.nils], .arr 0 [(.ref 2 1 0 (List.length s_1) (some 5))], .arr 1 (flat Func.av s_1), .arr 0 [(.int .i64 f_3.Params), (.ref 4 1 0 (List.length l_5) none), (.bool f_3.Result), (.int .i64 f_3.Keep), (.sl false 3 (List.map Instr.av f_3.Code))], .arr 1 (flat (avI .u8) l_5), .arr 0 (flat Instr.av ([] : List Instr))]) rfl rfl rfl ?_
    refine E_op0 (v' := (.ptr 3 0 4)) rfl rfl ?_
    refine E_op (v' := (.sl false 3 (List.map Instr.av f_3.Code))) (S' := [.arr 0 [.nils], .arr 0 [(.ref 2 1 0 (List.length s_1) (some 5))], .arr 1 (flat Func.av s_1), .arr 0 [(.int .i64 f_3.Params), (.ref 4 1 0 (List.length l_5) none), (.bool f_3.Result), (.int .i64 f_3.Keep), (.sl false 3 (List.map Instr.av f_3.Code))], .arr 1 (flat (avI .u8) l_5), .arr 0 (flat Instr.av ([] : List Instr))]) rfl rfl rfl ?_
    obtain ⟨l_6, hl_6, h⟩ := bd_some h
    refine E_apL (S' := [.arr 0 [.nils], .arr 0 [(.ref 2 1 0 (List.length s_1) (some 5))], .arr 1 (flat Func.av s_1), .arr 0 [(.int .i64 f_3.Params), (.ref 4 1 0 (List.length l_5) none), (.bool f_3.Result), (.int .i64 f_3.Keep), (.sl false 3 (List.map Instr.av f_3.Code))], .arr 1 (flat (avI .u8) l_5), .arr 1 (flat Instr.av l_6)]) Instr.enc rfl (src_sl f_3.Code) rfl hl_6 rfl ?_
    refine E_op0 (v' := (.ptr 3 0 4)) rfl rfl ?_
    refine E_do (S' := [.arr 0 [.nils], .arr 0 [(.ref 2 1 0 (List.length s_1) (some 5))], .arr 1 (flat Func.av s_1), .arr 0 [(.int .i64 f_3.Params), (.ref 4 1 0 (List.length l_5) none), (.bool f_3.Result), (.int .i64 f_3.Keep), (.ref 5 1 0 (List.length l_6) (some 3))], .arr 1 (flat (avI .u8) l_5), .arr 1 (flat Instr.av l_6)]) rfl rfl ?_
    refine E_nil ?_
    refine E_nx ?_
    refine E_block ?_
    refine E_sq ?_
    refine E_reg ?_
    refine E_op0 (v' := (.ptr 1 0 0)) rfl rfl ?_
    refine E_op (v' := (.ref 2 1 0 (List.length s_1) (some 5))) (S' := [.arr 0 [.nils], .arr 0 [(.ref 2 1 0 (List.length s_1) (some 5))], .arr 1 (flat Func.av s_1), .arr 0 [(.int .i64 f_3.Params), (.ref 4 1 0 (List.length l_5) none), (.bool f_3.Result), (.int .i64 f_3.Keep), (.ref 5 1 0 (List.length l_6) (some 3))], .arr 1 (flat (avI .u8) l_5), .arr 1 (flat Instr.av l_6)]) rfl rfl rfl ?_
    refine E_op (v' := (.agg [(.int .i64 f_3.Params), (.ref 4 1 0 (List.length l_5) none), (.bool f_3.Result), (.int .i64 f_3.Keep), (.ref 5 1 0 (List.length l_6) (some 3))])) (S' := [.arr 0 [.nils], .arr 0 [(.ref 2 1 0 (List.length s_1) (some 5))], .arr 1 (flat Func.av s_1), .arr 0 [(.int .i64 f_3.Params), (.ref 4 1 0 (List.length l_5) none), (.bool f_3.Result), (.int .i64 f_3.Keep), (.ref 5 1 0 (List.length l_6) (some 3))], .arr 1 (flat (avI .u8) l_5), .arr 1 (flat Instr.av l_6)]) rfl rfl rfl ?_
    refine E_nil ?_
    refine E_nxw (F := [(2, (.ptr 0 0 0)), (3, (.ptr 1 0 0)), (7, (.sl false 5 (List.map Func.av p_00.Funcs))), (8, (.int .i64 (List.length p_00.Funcs : Int))), (9, (.int .i64 (i_2 : Int))), (24, (.ref 2 1 0 (List.length s_1) (some 5))), (25, (.agg [(.int .i64 f_3.Params), (.sl false 1 (List.map (avI .u8) l_5)), (.bool f_3.Result), (.int .i64 f_3.Keep), (.sl false 3 (List.map Instr.av l_6))]))]) (T := [.arr 0 [.nils], .arr 0 [(.ref 2 1 0 (List.length s_1) (some 5))], .arr 1 (flat Func.av s_1)]) (wk_trans (wk_trans (fr'' := [(2, (.ptr 0 0 0)), (3, (.ptr 1 0 0)), (7, (.sl false 5 (List.map Func.av p_00.Funcs))), (8, (.int .i64 (List.length p_00.Funcs : Int))), (9, (.int .i64 (i_2 : Int))), (24, (.ref 2 1 0 (List.length s_1) (some 5))), (25, (.agg [(.int .i64 f_3.Params), (.sl false 1 (List.map (avI .u8) l_5)), (.bool f_3.Result), (.int .i64 f_3.Keep), (.ref 3 1 0 (List.length l_6) (some 3))]))]) (S'' := [.arr 0 [.nils], .arr 0 [(.ref 2 1 0 (List.length s_1) (some 5))], .arr 1 (flat Func.av s_1), .arr 1 (flat Instr.av l_6)]) (wk_rn (fr' := [(2, (.ptr 0 0 0)), (3, (.ptr 1 0 0)), (7, (.sl false 5 (List.map Func.av p_00.Funcs))), (8, (.int .i64 (List.length p_00.Funcs : Int))), (9, (.int .i64 (i_2 : Int))), (24, (.ref 2 1 0 (List.length s_1) (some 5))), (25, (.agg [(.int .i64 f_3.Params), (.ref 4 1 0 (List.length l_5) none), (.bool f_3.Result), (.int .i64 f_3.Keep), (.ref 3 1 0 (List.length l_6) (some 3))]))]) (S' := [.arr 0 [.nils], .arr 0 [(.ref 2 1 0 (List.length s_1) (some 5))], .arr 1 (flat Func.av s_1), .arr 1 (flat Instr.av l_6), .arr 1 (flat (avI .u8) l_5)]) [some (0, 0), some (1, 0), some (2, 0), some (5, 0), some (4, 0)] rfl (Nat.le_of_ble_eq_true rfl) ⟨(rn_ob rfl rfl (.cons (rn_b rfl) (.nil (Nat.zero_le _))) rfl), (rn_ob rfl rfl (.cons (rn_refL Func.enc rfl rfl rfl) (.nil (Nat.zero_le _))) rfl), (rn_ob rfl rfl (.refl (Func.enc.blwf 0 _)) rfl), (rn_ob rfl rfl (.refl (Instr.enc.blwf 0 _)) rfl), (rn_ob rfl rfl (.refl ((encI .u8).blwf 0 _)) rfl), trivial⟩ ⟨(rn_ptr rfl rfl rfl rfl), (rn_ptr rfl rfl rfl rfl), (rn_b (Func.enc.blws 0)), (rn_b rfl), (rn_b rfl), (rn_refL Func.enc rfl rfl rfl), (rn_agg ⟨(rn_b rfl), (rn_refL (encI .u8) rfl rfl rfl), (rn_b rfl), (rn_b rfl), (rn_refL Instr.enc rfl rfl rfl), trivial⟩), trivial⟩) (wk_fz 4 6 rfl ⟨⟨rfl, ⟨(fz_b rfl (.refl _)), trivial⟩⟩, ⟨rfl, ⟨(fz_b rfl (.refl _)), trivial⟩⟩, ⟨rfl, fzL_id (Func.enc.blwf 4 _)⟩, ⟨rfl, fzL_id (Instr.enc.blwf 4 _)⟩, trivial⟩ ⟨(fz_b rfl (.refl _)), (fz_b rfl (.refl _)), (fz_b (Func.enc.blws 4) (.refl _)), (fz_b rfl (.refl _)), (fz_b rfl (.refl _)), (fz_b rfl (.refl _)), (fz_agg ⟨(fz_b rfl (.refl _)), (fz_ref (encI .u8) (Nat.le_of_ble_eq_true rfl) rfl), (fz_b rfl (.refl _)), (fz_b rfl (.refl _)), (fz_b rfl (.refl _)), trivial⟩), trivial⟩)) (wk_trans (fr'' := [(2, (.ptr 0 0 0)), (3, (.ptr 1 0 0)), (7, (.sl false 5 (List.map Func.av p_00.Funcs))), (8, (.int .i64 (List.length p_00.Funcs : Int))), (9, (.int .i64 (i_2 : Int))), (24, (.ref 2 1 0 (List.length s_1) (some 5))), (25, (.agg [(.int .i64 f_3.Params), (.sl false 1 (List.map (avI .u8) l_5)), (.bool f_3.Result), (.int .i64 f_3.Keep), (.sl false 3 (List.map Instr.av l_6))]))]) (S'' := [.arr 0 [.nils], .arr 0 [(.ref 2 1 0 (List.length s_1) (some 5))], .arr 1 (flat Func.av s_1)]) (wk_rn (fr' := [(2, (.ptr 0 0 0)), (3, (.ptr 1 0 0)), (7, (.sl false 5 (List.map Func.av p_00.Funcs))), (8, (.int .i64 (List.length p_00.Funcs : Int))), (9, (.int .i64 (i_2 : Int))), (24, (.ref 2 1 0 (List.length s_1) (some 5))), (25, (.agg [(.int .i64 f_3.Params), (.sl false 1 (List.map (avI .u8) l_5)), (.bool f_3.Result), (.int .i64 f_3.Keep), (.ref 3 1 0 (List.length l_6) (some 3))]))]) (S' := [.arr 0 [.nils], .arr 0 [(.ref 2 1 0 (List.length s_1) (some 5))], .arr 1 (flat Func.av s_1), .arr 1 (flat Instr.av l_6)]) [some (0, 0), some (1, 0), some (2, 0), some (3, 0)] rfl (Nat.le_of_ble_eq_true rfl) ⟨(rn_ob rfl rfl (.cons (rn_b rfl) (.nil (Nat.zero_le _))) rfl), (rn_ob rfl rfl (.cons (rn_refL Func.enc rfl rfl rfl) (.nil (Nat.zero_le _))) rfl), (rn_ob rfl rfl (.refl (Func.enc.blwf 0 _)) rfl), (rn_ob rfl rfl (.refl (Instr.enc.blwf 0 _)) rfl), trivial⟩ ⟨(rn_ptr rfl rfl rfl rfl), (rn_ptr rfl rfl rfl rfl), (rn_b (Func.enc.blws 0)), (rn_b rfl), (rn_b rfl), (rn_refL Func.enc rfl rfl rfl), (rn_agg ⟨(rn_b rfl), (rn_b ((encI .u8).blws 0)), (rn_b rfl), (rn_b rfl), (rn_refL Instr.enc rfl rfl rfl), trivial⟩), trivial⟩) (wk_fz 3 6 rfl ⟨⟨rfl, ⟨(fz_b rfl (.refl _)), trivial⟩⟩, ⟨rfl, ⟨(fz_b rfl (.refl _)), trivial⟩⟩, ⟨rfl, fzL_id (Func.enc.blwf 3 _)⟩, trivial⟩ ⟨(fz_b rfl (.refl _)), (fz_b rfl (.refl _)), (fz_b (Func.enc.blws 3) (.refl _)), (fz_b rfl (.refl _)), (fz_b rfl (.refl _)), (fz_b rfl (.refl _)), (fz_agg ⟨(fz_b rfl (.refl _)), (fz_b ((encI .u8).blws 3) (.refl _)), (fz_b rfl (.refl _)), (fz_b rfl (.refl _)), (fz_ref Instr.enc (Nat.le_of_ble_eq_true rfl) rfl), trivial⟩), trivial⟩))) ?_
    refine E_reg ?_
    refine E_opw (v' := (.sl true 5 (List.map Func.av [(Func.mk f_3.Params l_5 f_3.Result f_3.Keep l_6)]))) rfl (.refl _) rfl ?_
    obtain ⟨l_7, hl_7, h⟩ := bd_some h
    refine E_apL (S' := [.arr 0 [.nils], .arr 0 [(.ref 2 1 0 (List.length s_1) (some 5))], .arr 2 (flat Func.av l_7)]) Func.enc rfl (src_sl [(Func.mk f_3.Params l_5 f_3.Result f_3.Keep l_6)]) rfl hl_7 rfl ?_
    refine E_op0 (v' := (.ptr 1 0 0)) rfl rfl ?_
    refine E_do (S' := [.arr 0 [.nils], .arr 0 [(.ref 2 2 0 (List.length l_7) (some 5))], .arr 2 (flat Func.av l_7)]) rfl rfl ?_
    refine E_nil ?_
    refine E_bln ?_
    cases h
    exact L_nn rfl (wk_rn [some (0, 0), some (1, 0), some (2, 0)] rfl (Nat.le_of_ble_eq_true rfl) ⟨(rn_ob rfl rfl (.cons (rn_b rfl) (.nil (Nat.zero_le _))) rfl), (rn_ob rfl rfl (.cons (rn_refL Func.enc rfl rfl rfl) (.nil (Nat.zero_le _))) rfl), (rn_ob rfl rfl (.refl (Func.enc.blwf 0 _)) rfl), trivial⟩ ⟨(rn_b rfl), (rn_b rfl), (rn_ptr rfl rfl rfl rfl), (rn_ptr rfl rfl rfl rfl), (rn_b (Func.enc.blws 0)), trivial⟩)
  · refine X_nx hw ?_
    refine E_sq ?_
    refine E_reg ?_
    refine E_op (v' := (.agg [(.ref 2 1 0 (List.length s_1) (some 5))])) (S' := [.arr 0 [.nils], .arr 0 [(.ref 2 1 0 (List.length s_1) (some 5))], .arr 1 (flat Func.av s_1)]) rfl rfl rfl ?_
    refine E_do (S' := [.arr 0 [(.ref 2 1 0 (List.length s_1) (some 5))], .arr 0 [(.ref 2 1 0 (List.length s_1) (some 5))], .arr 1 (flat Func.av s_1)]) rfl rfl ?_
    refine E_nil ?_
    refine E_nx ?_
    refine E_ret ?_
    cases h
    exact ⟨trivial, _, rfl, (fz_agg ⟨(fz_ref Func.enc (Nat.zero_le _) rfl), trivial⟩)⟩
/- windlass/code.put -/
def fc127 : FC := (.seq (.reg [⟨(some 6), none, .op (.mv (.v .nils))⟩] [])
  (.seq (.seq (.reg [⟨(some 8), none, .op (.mv (.t 2))⟩,
  ⟨(some 9), none, .op (.mv (.v (.int .i64 0)))⟩] [])
  (.block 0 (.loop (.seq (.reg [⟨(some 10), none, .op (.bin .none .lss (.t 9) (.t 8))⟩] [])
  (.seq (.cond (.t 10)
  .skip
  (.exit 0))
  (.seq (.block 1 (.seq (.reg [⟨(some 11), none, .op (.mv (.t 9))⟩,
  ⟨(some 7), none, .op (.mv (.t 11))⟩] [])
  (.reg [⟨(some 12), none, .op (.mv (.t 0))⟩,
  ⟨(some 13), none, .op (.mv (.t 1))⟩,
  ⟨(some 14), none, .op (.mv (.t 7))⟩,
  ⟨(some 15), none, .op (.bin .none .mul (.v (.int .i64 8)) (.t 14))⟩,
  ⟨(some 16), none, .op (.cint .u64 (.t 15))⟩,
  ⟨(some 17), none, .op (.bin .none .shr (.t 13) (.t 16))⟩,
  ⟨(some 18), none, .op (.cint .u8 (.t 17))⟩,
  ⟨(some 19), none, .op (.bsl none [(.int .u8 0)] 1 [(0, 1, (.t 18))])⟩,
  ⟨(some 20), none, .op (.app none 1 (.t 12) (.t 19))⟩,
  ⟨(some 0), none, .op (.mv (.t 20))⟩] [])))
  (.reg [⟨(some 21), none, .op (.bin .none .add (.t 9) (.v (.int .i64 1)))⟩,
  ⟨(some 9), none, .op (.mv (.t 21))⟩] [])))))))
  (.seq (.reg [⟨(some 22), none, .op (.mv (.t 0))⟩,
  ⟨(some 6), none, .op (.mv (.t 22))⟩] [])
  .ret)))
theorem fn127 : Fn3 Tryd.prog 127 23 [(6, none)] fc127 := ⟨_, _, Tryd.func127, rfl, rfl, rfl, by kernel_rfl⟩
def code_put_r_o_s (b_00 : (List Int)) (v_01 : Int) (n_02 : Int) : Option (List Int) :=
  ((rni (fun (i_2 : Nat) (s_1 : (Int × (List Int))) => ((gd (0 ≤ (U64 (I64 (8 * (i_2 : Int))))) ((appL 1 s_1.2 [(U8 (shR .u64 s_1.1 (U64 (I64 (8 * (i_2 : Int))))))]).bind fun l_4 => (some (.nxt (s_1.1, l_4))))) : Option (Stp (Int × (List Int)) (Option (List Int))))) n_02 (v_01, b_00)).bind (oc (fun (s_1 : (Int × (List Int))) => (some s_1.2))))
theorem code_put_r_o_ev {b_00 : (List Int)} {v_01 : Int} {n_02 : Int} {r : (List Int)} (h : code_put_r_o_s b_00 v_01 n_02 = some r) : Ev Tryd.prog 127 [(.ref 0 0 0 (List.length b_00) none), (.int .u64 v_01), (.int .i64 n_02)] (hp [.arr 0 (flat (avI .u8) b_00)]) (.ref 0 1 0 (List.length r) none) (hp [.arr 1 (flat (avI .u8) r)]) := by
  unfold code_put_r_o_s at h
  refine Ev_end mixed fn127 (by simp) [] ?_
  unfold fc127
  refine E_sq ?_
  refine E_reg ?_
  refine E_mv (v' := .nils) rfl ?_
  refine E_nil ?_
  refine E_nx ?_
  refine E_as ?_
  refine E_sq ?_
  refine E_reg ?_
  refine E_mv (v' := (.int .i64 n_02)) rfl ?_
  refine E_mv (v' := (.int .i64 0)) rfl ?_
  refine E_nil ?_
  refine E_nx ?_
  refine E_sq ?_
  refine E_rniO (fun s_1 => [(0, (.ref 0 1 0 (List.length s_1.2) none)), (1, (.int .u64 s_1.1))]) (fun s_1 => [.arr 1 (flat (avI .u8) s_1.2)]) h (by decide) (by decide) (fun _ => ⟨rfl, rfl, rfl, rfl⟩) (wk_rn [some (0, 0)] rfl (Nat.le_of_ble_eq_true rfl) ⟨(rn_obV rfl rfl (.refl ((encI .u8).blwf 0 _)) rfl rfl), trivial⟩ ⟨(rn_b rfl), (rn_b rfl), (rn_refL (encI .u8) rfl rfl rfl), (rn_b rfl), trivial⟩) (fun i_2 s_1 c hlt h => ?_) (fun s_1 fr' S' h hw => ?_)
  · refine E_sq ?_
    refine E_reg ?_
    refine E_mv (v' := (.int .i64 (i_2 : Int))) rfl ?_
    refine E_mv (v' := (.int .i64 (i_2 : Int))) rfl ?_
    refine E_nil ?_
    refine E_nx ?_
    refine E_reg ?_
    refine E_mv (v' := (.ref 0 1 0 (List.length s_1.2) none)) rfl ?_
    refine E_mv (v' := (.int .u64 s_1.1)) rfl ?_
    refine E_mv (v' := (.int .i64 (i_2 : Int))) rfl ?_
    refine E_op0 (v' := (.int .i64 (I64 (8 * (i_2 : Int))))) rfl rfl ?_
    refine E_op0 (v' := (.int .u64 (U64 (I64 (8 * (i_2 : Int)))))) rfl rfl ?_
    obtain ⟨hg_3, h⟩ := gd_some h
    refine E_shr rfl rfl hg_3 ?_
    refine E_op0 (v' := (.int .u8 (U8 (shR .u64 s_1.1 (U64 (I64 (8 * (i_2 : Int)))))))) rfl rfl ?_
    refine E_opw (v' := (.sl true 1 (List.map (avI .u8) [(U8 (shR .u64 s_1.1 (U64 (I64 (8 * (i_2 : Int))))))]))) rfl (.refl _) rfl ?_
    obtain ⟨l_4, hl_4, h⟩ := bd_some h
    refine E_apL (S' := [.arr 2 (flat (avI .u8) l_4)]) (encI .u8) rfl (src_sl [(U8 (shR .u64 s_1.1 (U64 (I64 (8 * (i_2 : Int))))))]) rfl hl_4 rfl ?_
    refine E_mv (v' := (.ref 0 2 0 (List.length l_4) none)) rfl ?_
    refine E_nil ?_
    cases h
    exact L_nn rfl (wk_rn [some (0, 0)] rfl (Nat.le_of_ble_eq_true rfl) ⟨(rn_obV rfl rfl (.refl ((encI .u8).blwf 0 _)) rfl rfl), trivial⟩ ⟨(rn_b rfl), (rn_b rfl), (rn_refL (encI .u8) rfl rfl rfl), (rn_b rfl), trivial⟩)
  · refine X_nx hw ?_
    refine E_sq ?_
    refine E_reg ?_
    refine E_mv (v' := (.ref 0 1 0 (List.length s_1.2) none)) rfl ?_
    refine E_mv (v' := (.ref 0 1 0 (List.length s_1.2) none)) rfl ?_
    refine E_nil ?_
    refine E_nx ?_
    refine E_ret ?_
    cases h
    exact ⟨trivial, _, _, rfl, gwk_rn [some (0, 0)] rfl (Nat.le_of_ble_eq_true rfl) ⟨(rn_obV rfl rfl (.refl ((encI .u8).blwf 0 _)) rfl rfl), trivial⟩, (rn_refL (encI .u8) rfl rfl rfl)⟩
/- windlass/code.width -/
def fc157 : FC := (.seq (.reg [⟨(some 2), none, .op (.mv (.v (.int .i64 0)))⟩] [])
  (.seq (.seq (.reg [⟨(some 3), none, .op (.mv (.t 0))⟩] [])
  (.block 0 (.seq (.reg [⟨(some 5), none, .op (.bin .none .eql (.t 3) (.v (.int .u8 1)))⟩,
  ⟨(some 4), none, .op (.mv (.t 5))⟩] [])
  (.cond (.t 4)
  (.seq (.reg [⟨(some 2), none, .op (.mv (.v (.int .i64 8)))⟩] [])
  .ret)
  (.seq (.seq (.reg [⟨(some 7), none, .op (.bin .none .eql (.t 3) (.v (.int .u8 2)))⟩,
  ⟨(some 6), none, .op (.mv (.t 7))⟩] [])
  (.cond (.t 6)
  .skip
  (.seq (.reg [⟨(some 8), none, .op (.bin .none .eql (.t 3) (.v (.int .u8 3)))⟩,
  ⟨(some 6), none, .op (.mv (.t 8))⟩] [])
  (.cond (.t 6)
  .skip
  (.seq (.reg [⟨(some 9), none, .op (.bin .none .eql (.t 3) (.v (.int .u8 4)))⟩,
  ⟨(some 6), none, .op (.mv (.t 9))⟩] [])
  (.cond (.t 6)
  .skip
  (.seq (.reg [⟨(some 10), none, .op (.bin .none .eql (.t 3) (.v (.int .u8 23)))⟩,
  ⟨(some 6), none, .op (.mv (.t 10))⟩] [])
  (.cond (.t 6)
  .skip
  (.reg [⟨(some 11), none, .op (.bin .none .eql (.t 3) (.v (.int .u8 25)))⟩,
  ⟨(some 6), none, .op (.mv (.t 11))⟩] [])))))))))
  (.cond (.t 6)
  (.seq (.reg [⟨(some 2), none, .op (.mv (.v (.int .i64 1)))⟩] [])
  .ret)
  (.seq (.seq (.reg [⟨(some 13), none, .op (.bin .none .eql (.t 3) (.v (.int .u8 21)))⟩,
  ⟨(some 12), none, .op (.mv (.t 13))⟩] [])
  (.cond (.t 12)
  .skip
  (.reg [⟨(some 14), none, .op (.bin .none .eql (.t 3) (.v (.int .u8 22)))⟩,
  ⟨(some 12), none, .op (.mv (.t 14))⟩] [])))
  (.cond (.t 12)
  (.seq (.reg [⟨(some 2), none, .op (.mv (.v (.int .i64 2)))⟩] [])
  .ret)
  .skip))))))))
  (.seq (.seq (.reg [⟨(some 15), none, .op (.mv (.t 0))⟩,
  ⟨(some 16), none, .op (.bin .none .lss (.t 15) (.v (.int .u8 1)))⟩,
  ⟨(some 17), none, .op (.mv (.t 16))⟩,
  ⟨(some 18), some (17, false), .op (.mv (.t 0))⟩,
  ⟨(some 19), some (17, false), .op (.bin .none .gtr (.t 18) (.v (.int .u8 32)))⟩,
  ⟨(some 20), none, .op (.pick (.t 17) (.v (.bool true)) (.t 19))⟩] [])
  (.cond (.t 20)
  (.seq (.reg [⟨(some 2), none, .op (.mv (.v (.int .i64 (-1))))⟩] [])
  .ret)
  .skip))
  (.seq (.reg [⟨(some 2), none, .op (.mv (.v (.int .i64 0)))⟩] [])
  .ret))))
theorem fn157 : Fn3 Tryd.prog 157 21 [(2, none)] fc157 := ⟨_, _, Tryd.func157, rfl, rfl, rfl, by kernel_rfl⟩
def code_width_s (op_00 : Int) : Option Int :=
  (if (op_00 == 1) then (some 8) else (jp (fun (s_2 : Bool) => (if s_2 then (some 1) else (jp (fun (s_4 : Bool) => (if s_4 then (some 2) else (jp (fun (s_6 : Bool) => (if s_6 then (some (-1)) else (some 0))) (fun k_5 => (if (decide (op_00 < 1)) then (k_5 true) else (k_5 (decide (op_00 > 32)))))))) (fun k_3 => (if (op_00 == 21) then (k_3 (op_00 == 21)) else (k_3 (op_00 == 22))))))) (fun k_1 => (if (op_00 == 2) then (k_1 (op_00 == 2)) else (if (op_00 == 3) then (k_1 (op_00 == 3)) else (if (op_00 == 4) then (k_1 (op_00 == 4)) else (if (op_00 == 23) then (k_1 (op_00 == 23)) else (k_1 (op_00 == 25)))))))))
theorem code_width_ev {op_00 : Int} {r : Int} (h : code_width_s op_00 = some r) : PureEv Tryd.prog 157 [(.int .u8 op_00)] (.int .i64 r) := by
  unfold code_width_s at h
  refine PureEv_end mixed fn157 (by simp) [] 6 ?_
  unfold fc157
  refine E_sq ?_
  refine E_reg ?_
  refine E_mv (v' := (.int .i64 0)) rfl ?_
  refine E_nil ?_
  refine E_nx ?_
  refine E_as ?_
  refine E_sq ?_
  refine E_reg ?_
  refine E_mv (v' := (.int .u8 op_00)) rfl ?_
  refine E_nil ?_
  refine E_nx ?_
  refine E_sq ?_
  refine E_block ?_
  refine E_sq ?_
  refine E_reg ?_
  refine E_op0 (v' := (.bool (op_00 == 1))) rfl rfl ?_
  refine E_mv (v' := (.bool (op_00 == 1))) rfl ?_
  refine E_nil ?_
  refine E_nx ?_
  refine E_cs (t := (op_00 == 1)) rfl (fun hb => ?_) (fun hb => ?_)
  · rw [ite_t hb] at h
    refine E_sq ?_
    refine E_reg ?_
    refine E_mv (v' := (.int .i64 8)) rfl ?_
    refine E_nil ?_
    refine E_nx ?_
    refine E_ret ?_
    refine E_blr ?_
    refine E_thr ?_
    cases h
    exact ⟨trivial, _, rfl, (fz_b rfl (.refl _))⟩
  · rw [ite_f hb] at h
    refine E_as ?_
    refine E_sq ?_
    refine E_reg ?_
    refine E_op0 (v' := (.bool (op_00 == 2))) rfl rfl ?_
    refine E_mv (v' := (.bool (op_00 == 2))) rfl ?_
    refine E_nil ?_
    refine E_nx ?_
    refine E_jp h (fun s_2 => [(0, (.int .u8 op_00)), (3, (.int .u8 op_00)), (6, (.bool s_2))]) (fun s_2 => []) (fun k_1 h => ?_) (fun s_2 h => ?_)
    · refine E_cs (t := (op_00 == 2)) rfl (fun hb => ?_) (fun hb => ?_)
      · rw [ite_t hb] at h
        refine E_skip ?_
        exact E_jx _ h (wk_aw ⟨(.refl _), (.refl _), (.refl _), trivial⟩)
      · rw [ite_f hb] at h
        refine E_sq ?_
        refine E_reg ?_
        refine E_op0 (v' := (.bool (op_00 == 3))) rfl rfl ?_
        refine E_mv (v' := (.bool (op_00 == 3))) rfl ?_
        refine E_nil ?_
        refine E_nx ?_
        refine E_cs (t := (op_00 == 3)) rfl (fun hb => ?_) (fun hb => ?_)
        · rw [ite_t hb] at h
          refine E_skip ?_
          exact E_jx _ h (wk_aw ⟨(.refl _), (.refl _), (.refl _), trivial⟩)
        · rw [ite_f hb] at h
          refine E_sq ?_
          refine E_reg ?_
          refine E_op0 (v' := (.bool (op_00 == 4))) rfl rfl ?_
          refine E_mv (v' := (.bool (op_00 == 4))) rfl ?_
          refine E_nil ?_
          refine E_nx ?_
          refine E_cs (t := (op_00 == 4)) rfl (fun hb => ?_) (fun hb => ?_)
          · rw [ite_t hb] at h
            refine E_skip ?_
            exact E_jx _ h (wk_aw ⟨(.refl _), (.refl _), (.refl _), trivial⟩)
          · rw [ite_f hb] at h
            refine E_sq ?_
            refine E_reg ?_
            refine E_op0 (v' := (.bool (op_00 == 23))) rfl rfl ?_
            refine E_mv (v' := (.bool (op_00 == 23))) rfl ?_
            refine E_nil ?_
            refine E_nx ?_
            refine E_cs (t := (op_00 == 23)) rfl (fun hb => ?_) (fun hb => ?_)
            · rw [ite_t hb] at h
              refine E_skip ?_
              exact E_jx _ h (wk_aw ⟨(.refl _), (.refl _), (.refl _), trivial⟩)
            · rw [ite_f hb] at h
              refine E_reg ?_
              refine E_op0 (v' := (.bool (op_00 == 25))) rfl rfl ?_
              refine E_mv (v' := (.bool (op_00 == 25))) rfl ?_
              refine E_nil ?_
              exact E_jx _ h (wk_aw ⟨(.refl _), (.refl _), (.refl _), trivial⟩)
    · refine E_cs (t := s_2) rfl (fun hb => ?_) (fun hb => ?_)
      · rw [ite_t hb] at h
        refine E_sq ?_
        refine E_reg ?_
        refine E_mv (v' := (.int .i64 1)) rfl ?_
        refine E_nil ?_
        refine E_nx ?_
        refine E_ret ?_
        refine E_blr ?_
        refine E_thr ?_
        cases h
        exact ⟨trivial, _, rfl, (fz_b rfl (.refl _))⟩
      · rw [ite_f hb] at h
        refine E_as ?_
        refine E_sq ?_
        refine E_reg ?_
        refine E_op0 (v' := (.bool (op_00 == 21))) rfl rfl ?_
        refine E_mv (v' := (.bool (op_00 == 21))) rfl ?_
        refine E_nil ?_
        refine E_nx ?_
        refine E_jp h (fun s_4 => [(0, (.int .u8 op_00)), (12, (.bool s_4))]) (fun s_4 => []) (fun k_3 h => ?_) (fun s_4 h => ?_)
        · refine E_cs (t := (op_00 == 21)) rfl (fun hb => ?_) (fun hb => ?_)
          · rw [ite_t hb] at h
            refine E_skip ?_
            exact E_jx _ h (wk_aw ⟨(.refl _), (.refl _), trivial⟩)
          · rw [ite_f hb] at h
            refine E_reg ?_
            refine E_op0 (v' := (.bool (op_00 == 22))) rfl rfl ?_
            refine E_mv (v' := (.bool (op_00 == 22))) rfl ?_
            refine E_nil ?_
            exact E_jx _ h (wk_aw ⟨(.refl _), (.refl _), trivial⟩)
        · refine E_cs (t := s_4) rfl (fun hb => ?_) (fun hb => ?_)
          · rw [ite_t hb] at h
            refine E_sq ?_
            refine E_reg ?_
            refine E_mv (v' := (.int .i64 2)) rfl ?_
            refine E_nil ?_
            refine E_nx ?_
            refine E_ret ?_
            refine E_blr ?_
            refine E_thr ?_
            cases h
            exact ⟨trivial, _, rfl, (fz_b rfl (.refl _))⟩
          · rw [ite_f hb] at h
            refine E_skip ?_
            refine E_bln ?_
            refine E_nx ?_
            refine E_as ?_
            refine E_jp h (fun s_6 => [(20, (.bool s_6))]) (fun s_6 => []) (fun k_5 h => ?_) (fun s_6 h => ?_)
            · refine E_reg ?_
              refine E_mv (v' := (.int .u8 op_00)) rfl ?_
              refine E_op0 (v' := (.bool (decide (op_00 < 1)))) rfl rfl ?_
              refine E_mv (v' := (.bool (decide (op_00 < 1)))) rfl ?_
              refine E_gsT (b := (decide (op_00 < 1))) rfl rfl rfl (fun hb => ?_) (fun hb => ?_)
              · rw [ite_f hb] at h
                refine E_mv (v' := (.int .u8 op_00)) rfl ?_
                refine E_gh rfl ?_
                refine E_op0 (v' := (.bool (decide (op_00 > 32)))) rfl rfl ?_
                refine E_pf rfl rfl ?_
                refine E_nil ?_
                exact E_jx _ h (wk_aw ⟨(.refl _), trivial⟩)
              · rw [ite_t hb] at h
                refine E_gm rfl ?_
                refine E_pt rfl rfl ?_
                refine E_nil ?_
                exact E_jx _ h (wk_aw ⟨(.refl _), trivial⟩)
            · refine E_sq ?_
              refine E_cs (t := s_6) rfl (fun hb => ?_) (fun hb => ?_)
              · rw [ite_t hb] at h
                refine E_sq ?_
                refine E_reg ?_
                refine E_mv (v' := (.int .i64 (-1))) rfl ?_
                refine E_nil ?_
                refine E_nx ?_
                refine E_ret ?_
                refine E_thr ?_
                cases h
                exact ⟨trivial, _, rfl, (fz_b rfl (.refl _))⟩
              · rw [ite_f hb] at h
                refine E_skip ?_
                refine E_nx ?_
                refine E_sq ?_
                refine E_reg ?_
                refine E_mv (v' := (.int .i64 0)) rfl ?_
                refine E_nil ?_
                refine E_nx ?_
                refine E_ret ?_
                cases h
                exact ⟨trivial, _, rfl, (fz_b rfl (.refl _))⟩
def code_put_r_s (b_00 : (List Int)) (v_01 : Int) (n_02 : Int) : Option (List Int) :=
  ((rni (fun (i_2 : Nat) (s_1 : (Int × (List Int))) => ((gd (0 ≤ (U64 (I64 (8 * (i_2 : Int))))) ((appL 1 s_1.2 [(U8 (shR .u64 s_1.1 (U64 (I64 (8 * (i_2 : Int))))))]).bind fun l_4 => (some (.nxt (s_1.1, l_4))))) : Option (Stp (Int × (List Int)) (Option (List Int))))) n_02 (v_01, b_00)).bind (oc (fun (s_1 : (Int × (List Int))) => (some s_1.2))))
theorem code_put_r_ev {b_00 : (List Int)} {v_01 : Int} {n_02 : Int} {r : (List Int)} (h : code_put_r_s b_00 v_01 n_02 = some r) : Ev Tryd.prog 127 [(.ref 0 0 0 (List.length b_00) none), (.int .u64 v_01), (.int .i64 n_02)] (hp [.arr 0 (flat (avI .u8) b_00)]) (.ref 0 1 0 (List.length r) none) (hp [.arr 1 (flat (avI .u8) r)]) := by
  unfold code_put_r_s at h
  refine Ev_end mixed fn127 (by simp) [] ?_
  unfold fc127
  refine E_sq ?_
  refine E_reg ?_
  refine E_mv (v' := .nils) rfl ?_
  refine E_nil ?_
  refine E_nx ?_
  refine E_as ?_
  refine E_sq ?_
  refine E_reg ?_
  refine E_mv (v' := (.int .i64 n_02)) rfl ?_
  refine E_mv (v' := (.int .i64 0)) rfl ?_
  refine E_nil ?_
  refine E_nx ?_
  refine E_sq ?_
  refine E_rniO (fun s_1 => [(0, (.ref 0 1 0 (List.length s_1.2) none)), (1, (.int .u64 s_1.1))]) (fun s_1 => [.arr 1 (flat (avI .u8) s_1.2)]) h (by decide) (by decide) (fun _ => ⟨rfl, rfl, rfl, rfl⟩) (wk_rn [some (0, 0)] rfl (Nat.le_of_ble_eq_true rfl) ⟨(rn_obV rfl rfl (.refl ((encI .u8).blwf 0 _)) rfl rfl), trivial⟩ ⟨(rn_b rfl), (rn_b rfl), (rn_refL (encI .u8) rfl rfl rfl), (rn_b rfl), trivial⟩) (fun i_2 s_1 c hlt h => ?_) (fun s_1 fr' S' h hw => ?_)
  · refine E_sq ?_
    refine E_reg ?_
    refine E_mv (v' := (.int .i64 (i_2 : Int))) rfl ?_
    refine E_mv (v' := (.int .i64 (i_2 : Int))) rfl ?_
    refine E_nil ?_
    refine E_nx ?_
    refine E_reg ?_
    refine E_mv (v' := (.ref 0 1 0 (List.length s_1.2) none)) rfl ?_
    refine E_mv (v' := (.int .u64 s_1.1)) rfl ?_
    refine E_mv (v' := (.int .i64 (i_2 : Int))) rfl ?_
    refine E_op0 (v' := (.int .i64 (I64 (8 * (i_2 : Int))))) rfl rfl ?_
    refine E_op0 (v' := (.int .u64 (U64 (I64 (8 * (i_2 : Int)))))) rfl rfl ?_
    obtain ⟨hg_3, h⟩ := gd_some h
    refine E_shr rfl rfl hg_3 ?_
    refine E_op0 (v' := (.int .u8 (U8 (shR .u64 s_1.1 (U64 (I64 (8 * (i_2 : Int)))))))) rfl rfl ?_
    refine E_opw (v' := (.sl true 1 (List.map (avI .u8) [(U8 (shR .u64 s_1.1 (U64 (I64 (8 * (i_2 : Int))))))]))) rfl (.refl _) rfl ?_
    obtain ⟨l_4, hl_4, h⟩ := bd_some h
    refine E_apL (S' := [.arr 2 (flat (avI .u8) l_4)]) (encI .u8) rfl (src_sl [(U8 (shR .u64 s_1.1 (U64 (I64 (8 * (i_2 : Int))))))]) rfl hl_4 rfl ?_
    refine E_mv (v' := (.ref 0 2 0 (List.length l_4) none)) rfl ?_
    refine E_nil ?_
    cases h
    exact L_nn rfl (wk_rn [some (0, 0)] rfl (Nat.le_of_ble_eq_true rfl) ⟨(rn_obV rfl rfl (.refl ((encI .u8).blwf 0 _)) rfl rfl), trivial⟩ ⟨(rn_b rfl), (rn_b rfl), (rn_refL (encI .u8) rfl rfl rfl), (rn_b rfl), trivial⟩)
  · refine X_nx hw ?_
    refine E_sq ?_
    refine E_reg ?_
    refine E_mv (v' := (.ref 0 1 0 (List.length s_1.2) none)) rfl ?_
    refine E_mv (v' := (.ref 0 1 0 (List.length s_1.2) none)) rfl ?_
    refine E_nil ?_
    refine E_nx ?_
    refine E_ret ?_
    cases h
    exact ⟨trivial, _, _, rfl, gwk_rn [some (0, 0)] rfl (Nat.le_of_ble_eq_true rfl) ⟨(rn_obV rfl rfl (.refl ((encI .u8).blwf 0 _)) rfl rfl), trivial⟩, (rn_refL (encI .u8) rfl rfl rfl)⟩
/- windlass/code.instruction -/
def fc128 : FC := (.seq (.reg [⟨(some 3), none, .op (.box (.t 1))⟩,
  ⟨(some 4), none, .op (.mv (.v .nils))⟩,
  ⟨(some 5), none, .op (.mv (.v (.bool false)))⟩] [])
  (.seq (.reg [⟨(some 7), none, .op (.fad 0 (.t 3))⟩,
  ⟨(some 8), none, .op (.load none (.t 7))⟩,
  ⟨(some 9), none, .call 157 [(.t 8)]⟩,
  ⟨(some 6), none, .op (.mv (.t 9))⟩] [])
  (.seq (.seq (.reg [⟨(some 10), none, .op (.mv (.t 6))⟩,
  ⟨(some 11), none, .op (.bin .none .lss (.t 10) (.v (.int .i64 0)))⟩,
  ⟨(some 12), none, .op (.mv (.t 11))⟩,
  ⟨(some 13), some (12, false), .op (.mv (.t 6))⟩,
  ⟨(some 14), some (12, false), .op (.bin .none .neq (.t 13) (.v (.int .i64 8)))⟩,
  ⟨(some 15), some (12, false), .op (.mv (.t 14))⟩,
  ⟨(some 16), some (15, true), .op (.fad 2 (.t 3))⟩,
  ⟨(some 17), some (15, true), .op (.load none (.t 16))⟩,
  ⟨(some 18), some (15, true), .op (.bin .none .neq (.t 17) (.v (.int .u64 0)))⟩,
  ⟨(some 19), some (12, false), .op (.pick (.t 15) (.t 18) (.v (.bool false)))⟩,
  ⟨(some 20), none, .op (.pick (.t 12) (.v (.bool true)) (.t 19))⟩] [])
  (.cond (.t 20)
  (.seq (.reg [⟨(some 4), none, .op (.mv (.v .nils))⟩,
  ⟨(some 5), none, .op (.mv (.v (.bool false)))⟩] [])
  .ret)
  .skip))
  (.seq (.reg [⟨(some 21), none, .op (.mv (.t 0))⟩,
  ⟨(some 22), none, .op (.fad 0 (.t 3))⟩,
  ⟨(some 23), none, .op (.load none (.t 22))⟩,
  ⟨(some 24), none, .op (.bsl none [(.int .u8 0)] 1 [(0, 1, (.t 23))])⟩,
  ⟨(some 25), none, .op (.app none 1 (.t 21) (.t 24))⟩,
  ⟨(some 0), none, .op (.mv (.t 25))⟩] [])
  (.seq (.seq (.reg [⟨(some 26), none, .op (.mv (.t 6))⟩,
  ⟨(some 27), none, .op (.bin .none .eql (.t 26) (.v (.int .i64 8)))⟩] [])
  (.cond (.t 27)
  (.seq (.reg [⟨(some 28), none, .op (.mv (.t 0))⟩,
  ⟨(some 29), none, .op (.fad 2 (.t 3))⟩,
  ⟨(some 30), none, .op (.load none (.t 29))⟩,
  ⟨(some 31), none, .call 127 [(.t 28), (.t 30), (.v (.int .i64 8))]⟩,
  ⟨(some 32), none, .op (.fad 1 (.t 3))⟩,
  ⟨(some 33), none, .op (.load none (.t 32))⟩,
  ⟨(some 34), none, .op (.bin .none .eql (.t 33) (.v (.int .i64 0)))⟩,
  ⟨(some 4), none, .op (.mv (.t 31))⟩,
  ⟨(some 5), none, .op (.mv (.t 34))⟩] [(3, 5)])
  .ret)
  .skip))
  (.seq (.reg [⟨(some 35), none, .op (.mv (.t 0))⟩,
  ⟨(some 36), none, .op (.fad 1 (.t 3))⟩,
  ⟨(some 37), none, .op (.load none (.t 36))⟩,
  ⟨(some 38), none, .op (.cint .u64 (.t 37))⟩,
  ⟨(some 39), none, .op (.mv (.t 6))⟩,
  ⟨(some 40), none, .call 127 [(.t 35), (.t 38), (.t 39)]⟩,
  ⟨(some 41), none, .op (.fad 1 (.t 3))⟩,
  ⟨(some 42), none, .op (.load none (.t 41))⟩,
  ⟨(some 43), none, .op (.bin .none .geq (.t 42) (.v (.int .i64 0)))⟩,
  ⟨(some 44), none, .op (.mv (.t 43))⟩,
  ⟨(some 45), some (44, true), .op (.fad 1 (.t 3))⟩,
  ⟨(some 46), some (44, true), .op (.load none (.t 45))⟩,
  ⟨(some 47), some (44, true), .op (.mv (.t 6))⟩,
  ⟨(some 48), some (44, true), .op (.bin .none .mul (.v (.int .i64 8)) (.t 47))⟩,
  ⟨(some 49), some (44, true), .op (.cint .u64 (.t 48))⟩,
  ⟨(some 50), some (44, true), .op (.bin .none .shl (.v (.int .i64 1)) (.t 49))⟩,
  ⟨(some 51), some (44, true), .op (.bin .none .lss (.t 46) (.t 50))⟩,
  ⟨(some 52), none, .op (.pick (.t 44) (.t 51) (.v (.bool false)))⟩,
  ⟨(some 4), none, .op (.mv (.t 40))⟩,
  ⟨(some 5), none, .op (.mv (.t 52))⟩] [(5, 7)])
  .ret))))))
theorem fn128 : Fn3 Tryd.prog 128 53 [(4, none), (5, none)] fc128 := ⟨_, _, Tryd.func128, rfl, rfl, rfl, by kernel_rfl⟩
def code_instruction_r_s (b_00 : (List Int)) (i_01 : Instr) : Option (Bool × (List Int)) :=
  ((code_width_s i_01.Op).bind fun wid_1 => (jp (fun (s_3 : Bool) => (if s_3 then (some (false, [])) else ((appL 1 b_00 [i_01.Op]).bind fun l_4 => (if (wid_1 == 8) then ((code_put_r_s l_4 i_01.Imm 8).bind fun (put_5 : (List Int)) => (some ((i_01.Arg == 0), put_5))) else (jp (fun (s_7 : (Bool × (List Int))) => (some (s_7.1, s_7.2))) (fun k_6 => ((code_put_r_s l_4 (U64 i_01.Arg) wid_1).bind fun (put_8 : (List Int)) => (if (decide (i_01.Arg ≥ 0)) then (gd (0 ≤ (U64 (I64 (8 * wid_1)))) (k_6 ((decide (i_01.Arg < (shL .i64 1 (U64 (I64 (8 * wid_1)))))), put_8))) else (k_6 (false, put_8)))))))))) (fun k_2 => (if (decide (wid_1 < 0)) then (k_2 true) else (if (wid_1 != 8) then (k_2 (i_01.Imm != 0)) else (k_2 false))))))
theorem code_instruction_r_ev {b_00 : (List Int)} {i_01 : Instr} {r : (Bool × (List Int))} (h : code_instruction_r_s b_00 i_01 = some r) : Ev Tryd.prog 128 [(.ref 0 0 0 (List.length b_00) none), (Instr.av i_01)] (hp [.arr 0 (flat (avI .u8) b_00)]) (.tup [(.ref 1 1 0 (List.length r.2) none), (.bool r.1)]) (hp [.dead 1000000, .arr 1 (flat (avI .u8) r.2)]) := by
  unfold code_instruction_r_s at h
  refine Ev_end mixed fn128 (by simp) [] ?_
  unfold fc128
  refine E_sq ?_
  refine E_reg ?_
  refine E_op0 (v' := (.cptr (Instr.av i_01).cells 0)) rfl rfl ?_
  refine E_mv (v' := .nils) rfl ?_
  refine E_mv (v' := (.bool false)) rfl ?_
  refine E_nil ?_
  refine E_nx ?_
  refine E_sq ?_
  refine E_reg ?_
  refine E_op0 (v' := (.cptr (Instr.av i_01).cells 0)) rfl rfl ?_
  refine E_op0 (v' := (.int .u8 i_01.Op)) rfl rfl ?_
  obtain ⟨wid_1, hwid_1, h⟩ := bd_some h
  refine E_callW (code_width_ev  hwid_1) rfl ⟨(.refl _), trivial⟩ (blwL_of ⟨rfl, trivial⟩) rfl ?_
  refine E_mv (v' := (.int .i64 wid_1)) rfl ?_
  refine E_nil ?_
  refine E_nx ?_
  refine E_as ?_
  refine E_jp h (fun s_3 => [(0, (.ref 0 0 0 (List.length b_00) none)), (3, (.cptr (Instr.av i_01).cells 0)), (6, (.int .i64 wid_1)), (20, (.bool s_3))]) (fun s_3 => [.arr 0 (flat (avI .u8) b_00)]) (fun k_2 h => ?_) (fun s_3 h => ?_)
  · refine E_reg ?_
    refine E_mv (v' := (.int .i64 wid_1)) rfl ?_
    refine E_op0 (v' := (.bool (decide (wid_1 < 0)))) rfl rfl ?_
    refine E_mv (v' := (.bool (decide (wid_1 < 0)))) rfl ?_
    refine E_gsT (b := (decide (wid_1 < 0))) rfl rfl rfl (fun hb => ?_) (fun hb => ?_)
    · rw [ite_f hb] at h
      refine E_mv (v' := (.int .i64 wid_1)) rfl ?_
      refine E_gh rfl ?_
      refine E_op0 (v' := (.bool (wid_1 != 8))) rfl rfl ?_
      refine E_gh rfl ?_
      refine E_mv (v' := (.bool (wid_1 != 8))) rfl ?_
      refine E_gsT (b := (wid_1 != 8)) rfl rfl rfl (fun hb => ?_) (fun hb => ?_)
      · rw [ite_t hb] at h
        refine E_op0 (v' := (.cptr (Instr.av i_01).cells 2)) rfl rfl ?_
        refine E_gh rfl ?_
        refine E_op0 (v' := (.int .u64 i_01.Imm)) rfl rfl ?_
        refine E_gh rfl ?_
        refine E_op0 (v' := (.bool (i_01.Imm != 0))) rfl rfl ?_
        refine E_gh rfl ?_
        refine E_pt rfl rfl ?_
        refine E_pf rfl rfl ?_
        refine E_nil ?_
        exact E_jx _ h (wk_rn [some (0, 0)] rfl (Nat.le_of_ble_eq_true rfl) ⟨(rn_obS rfl rfl (.refl ((encI .u8).blwf 0 _)) rfl), trivial⟩ ⟨(rn_refL (encI .u8) rfl rfl rfl), (rn_b (cp_blw (Instr.enc.blw _ 0))), (rn_b rfl), (rn_b rfl), trivial⟩)
      · rw [ite_f hb] at h
        refine E_gm rfl ?_
        refine E_gm rfl ?_
        refine E_gh rfl ?_
        refine E_pf rfl rfl ?_
        refine E_pf rfl rfl ?_
        refine E_nil ?_
        exact E_jx _ h (wk_rn [some (0, 0)] rfl (Nat.le_of_ble_eq_true rfl) ⟨(rn_obS rfl rfl (.refl ((encI .u8).blwf 0 _)) rfl), trivial⟩ ⟨(rn_refL (encI .u8) rfl rfl rfl), (rn_b (cp_blw (Instr.enc.blw _ 0))), (rn_b rfl), (rn_b rfl), trivial⟩)
    · rw [ite_t hb] at h
      refine E_gm rfl ?_
      refine E_gm rfl ?_
      refine E_gz rfl ?_
      refine E_gz rfl ?_
      refine E_gz rfl ?_
      refine E_gm rfl ?_
      refine E_pt rfl rfl ?_
      refine E_nil ?_
      exact E_jx _ h (wk_rn [some (0, 0)] rfl (Nat.le_of_ble_eq_true rfl) ⟨(rn_obS rfl rfl (.refl ((encI .u8).blwf 0 _)) rfl), trivial⟩ ⟨(rn_refL (encI .u8) rfl rfl rfl), (rn_b (cp_blw (Instr.enc.blw _ 0))), (rn_b rfl), (rn_b rfl), trivial⟩)
  · refine E_sq ?_
    refine E_cs (t := s_3) rfl (fun hb => ?_) (fun hb => ?_)
    · rw [ite_t hb] at h
      refine E_sq ?_
      refine E_reg ?_
      refine E_mv (v' := .nils) rfl ?_
      refine E_mv (v' := (.bool false)) rfl ?_
      refine E_nil ?_
      refine E_nx ?_
      refine E_ret ?_
      refine E_thr ?_
      cases h
      exact ⟨trivial, _, _, rfl, gwk_rn [none, none] rfl (Nat.le_of_ble_eq_true rfl) ⟨(rn_obDead rfl rfl), (rn_obN rfl rfl rfl), trivial⟩, (rn_tup ⟨(rn_nil rfl), (rn_b rfl), trivial⟩)⟩
    · rw [ite_f hb] at h
      refine E_skip ?_
      refine E_nx ?_
      refine E_sq ?_
      refine E_reg ?_
      refine E_mv (v' := (.ref 0 0 0 (List.length b_00) none)) rfl ?_
      refine E_op0 (v' := (.cptr (Instr.av i_01).cells 0)) rfl rfl ?_
      refine E_op0 (v' := (.int .u8 i_01.Op)) rfl rfl ?_
      refine E_opw (v' := (.sl true 1 (List.map (avI .u8) [i_01.Op]))) rfl (.refl _) rfl ?_
      obtain ⟨l_4, hl_4, h⟩ := bd_some h
      refine E_apL (S' := [.arr 1 (flat (avI .u8) l_4)]) (encI .u8) rfl (src_sl [i_01.Op]) rfl hl_4 rfl ?_
      refine E_mv (v' := (.ref 0 1 0 (List.length l_4) none)) rfl ?_
      refine E_nil ?_
      refine E_nx ?_
      refine E_as ?_
      refine E_sq ?_
      refine E_reg ?_
      refine E_mv (v' := (.int .i64 wid_1)) rfl ?_
      refine E_op0 (v' := (.bool (wid_1 == 8))) rfl rfl ?_
      refine E_nil ?_
      refine E_nx ?_
      refine E_sq ?_
      refine E_cs (t := (wid_1 == 8)) rfl (fun hb => ?_) (fun hb => ?_)
      · rw [ite_t hb] at h
        refine E_sq ?_
        refine E_regp ?_
        refine E_mv (v' := (.ref 0 1 0 (List.length l_4) none)) rfl ?_
        refine E_op0 (v' := (.cptr (Instr.av i_01).cells 2)) rfl rfl ?_
        refine E_op0 (v' := (.int .u64 i_01.Imm)) rfl rfl ?_
        obtain ⟨put_5, hput_5, h⟩ := bd_some h
        refine E_callF (S' := [.arr 2 (flat (avI .u8) put_5)]) (r' := (.ref 0 2 0 (List.length put_5) none)) (code_put_r_ev hput_5) [0] rfl rfl (by decide) rfl rfl ⟨(fr_in rfl rfl (.refl ((encI .u8).blwf 0 _))), trivial⟩ ⟨(fr_out rfl rfl (.refl ((encI .u8).blwf 0 _)) rfl rfl), trivial⟩ ⟨.inl rfl, trivial⟩ rfl (.cons (fi_ref rfl rfl rfl rfl) (.cons (.base rfl (.refl _)) (.cons (.base rfl (.refl _)) (.nil (Nat.zero_le _))))) (fo_ref rfl rfl rfl rfl) ?_
        refine E_op0 (v' := (.cptr (Instr.av i_01).cells 1)) rfl rfl ?_
        refine E_op0 (v' := (.int .i64 i_01.Arg)) rfl rfl ?_
        refine E_op0 (v' := (.bool (i_01.Arg == 0))) rfl rfl ?_
        refine E_mv (v' := (.ref 0 2 0 (List.length put_5) none)) rfl ?_
        refine E_mv (v' := (.bool (i_01.Arg == 0))) rfl ?_
        refine E_nil ?_
        refine And.intro (by simp [okLog, nthL, okPair, hp, fpOf]) ?_
        refine E_nx ?_
        refine E_ret ?_
        refine E_thr ?_
        cases h
        exact ⟨trivial, _, _, rfl, gwk_rn [none, some (0, 0)] rfl (Nat.le_of_ble_eq_true rfl) ⟨(rn_obDead rfl rfl), (rn_ob rfl rfl (.refl ((encI .u8).blwf 0 _)) rfl), trivial⟩, (rn_tup ⟨(rn_refL (encI .u8) rfl rfl rfl), (rn_b rfl), trivial⟩)⟩
      · rw [ite_f hb] at h
        refine E_skip ?_
        refine E_nx ?_
        refine E_jp h (fun s_7 => [(4, (.ref 0 1 0 (List.length s_7.2) none)), (5, (.bool s_7.1))]) (fun s_7 => [.arr 1 (flat (avI .u8) s_7.2)]) (fun k_6 h => ?_) (fun s_7 h => ?_)
        · refine E_regp ?_
          refine E_mv (v' := (.ref 0 1 0 (List.length l_4) none)) rfl ?_
          refine E_op0 (v' := (.cptr (Instr.av i_01).cells 1)) rfl rfl ?_
          refine E_op0 (v' := (.int .i64 i_01.Arg)) rfl rfl ?_
          refine E_op0 (v' := (.int .u64 (U64 i_01.Arg))) rfl rfl ?_
          refine E_mv (v' := (.int .i64 wid_1)) rfl ?_
          obtain ⟨put_8, hput_8, h⟩ := bd_some h
          refine E_callF (S' := [.arr 2 (flat (avI .u8) put_8)]) (r' := (.ref 0 2 0 (List.length put_8) none)) (code_put_r_ev hput_8) [0] rfl rfl (by decide) rfl rfl ⟨(fr_in rfl rfl (.refl ((encI .u8).blwf 0 _))), trivial⟩ ⟨(fr_out rfl rfl (.refl ((encI .u8).blwf 0 _)) rfl rfl), trivial⟩ ⟨.inl rfl, trivial⟩ rfl (.cons (fi_ref rfl rfl rfl rfl) (.cons (.base rfl (.refl _)) (.cons (.base rfl (.refl _)) (.nil (Nat.zero_le _))))) (fo_ref rfl rfl rfl rfl) ?_
          refine E_op0 (v' := (.cptr (Instr.av i_01).cells 1)) rfl rfl ?_
          refine E_op0 (v' := (.int .i64 i_01.Arg)) rfl rfl ?_
          refine E_op0 (v' := (.bool (decide (i_01.Arg ≥ 0)))) rfl rfl ?_
          refine E_mv (v' := (.bool (decide (i_01.Arg ≥ 0)))) rfl ?_
          refine E_gsT (b := (decide (i_01.Arg ≥ 0))) rfl rfl rfl (fun hb => ?_) (fun hb => ?_)
          · rw [ite_t hb] at h
            refine E_op0 (v' := (.cptr (Instr.av i_01).cells 1)) rfl rfl ?_
            refine E_gh rfl ?_
            refine E_op0 (v' := (.int .i64 i_01.Arg)) rfl rfl ?_
            refine E_gh rfl ?_
            refine E_mv (v' := (.int .i64 wid_1)) rfl ?_
            refine E_gh rfl ?_
            refine E_op0 (v' := (.int .i64 (I64 (8 * wid_1)))) rfl rfl ?_
            refine E_gh rfl ?_
            refine E_op0 (v' := (.int .u64 (U64 (I64 (8 * wid_1))))) rfl rfl ?_
            refine E_gh rfl ?_
            obtain ⟨hg_9, h⟩ := gd_some h
            refine E_shl rfl rfl hg_9 ?_
            refine E_gh rfl ?_
            refine E_op0 (v' := (.bool (decide (i_01.Arg < (shL .i64 1 (U64 (I64 (8 * wid_1)))))))) rfl rfl ?_
            refine E_pt rfl rfl ?_
            refine E_mv (v' := (.ref 0 2 0 (List.length put_8) none)) rfl ?_
            refine E_mv (v' := (.bool (decide (i_01.Arg < (shL .i64 1 (U64 (I64 (8 * wid_1)))))))) rfl ?_
            refine E_nil ?_
            refine And.intro (by simp [okLog, nthL, okPair, hp, fpOf]) ?_
            exact E_jx _ h (wk_rn [some (0, 0)] rfl (Nat.le_of_ble_eq_true rfl) ⟨(rn_obV rfl rfl (.refl ((encI .u8).blwf 0 _)) rfl rfl), trivial⟩ ⟨(rn_refL (encI .u8) rfl rfl rfl), (rn_b rfl), trivial⟩)
          · rw [ite_f hb] at h
            refine E_gm rfl ?_
            refine E_gm rfl ?_
            refine E_gm rfl ?_
            refine E_gm rfl ?_
            refine E_gm rfl ?_
            refine E_gm rfl ?_
            refine E_pf rfl rfl ?_
            refine E_mv (v' := (.ref 0 2 0 (List.length put_8) none)) rfl ?_
            refine E_mv (v' := (.bool false)) rfl ?_
            refine E_nil ?_
            refine And.intro (by simp [okLog, nthL, okPair, hp, fpOf]) ?_
            exact E_jx _ h (wk_rn [some (0, 0)] rfl (Nat.le_of_ble_eq_true rfl) ⟨(rn_obV rfl rfl (.refl ((encI .u8).blwf 0 _)) rfl rfl), trivial⟩ ⟨(rn_refL (encI .u8) rfl rfl rfl), (rn_b rfl), trivial⟩)
        · refine E_ret ?_
          cases h
          exact ⟨trivial, _, _, rfl, gwk_rn [none, some (0, 0)] rfl (Nat.le_of_ble_eq_true rfl) ⟨(rn_obDead rfl rfl), (rn_ob rfl rfl (.refl ((encI .u8).blwf 0 _)) rfl), trivial⟩, (rn_tup ⟨(rn_refL (encI .u8) rfl rfl rfl), (rn_b rfl), trivial⟩)⟩
/- windlass/code.function -/
def fc100 : FC := (.seq (.reg [⟨(some 3), none, .op (.box (.t 1))⟩,
  ⟨(some 4), none, .op (.mv (.v .nils))⟩,
  ⟨(some 5), none, .op (.mv (.v (.bool false)))⟩] [])
  (.seq (.seq (.reg [⟨(some 12), none, .op (.fad 0 (.t 3))⟩,
  ⟨(some 13), none, .op (.load none (.t 12))⟩,
  ⟨(some 14), none, .op (.bin .none .lss (.t 13) (.v (.int .i64 0)))⟩,
  ⟨(some 15), none, .op (.mv (.t 14))⟩,
  ⟨(some 16), some (15, false), .op (.fad 0 (.t 3))⟩,
  ⟨(some 17), some (15, false), .op (.load none (.t 16))⟩,
  ⟨(some 18), some (15, false), .op (.fad 1 (.t 3))⟩,
  ⟨(some 19), some (15, false), .op (.load none (.t 18))⟩,
  ⟨(some 20), some (15, false), .op (.len .sl (.t 19))⟩,
  ⟨(some 21), some (15, false), .op (.bin .none .gtr (.t 17) (.t 20))⟩,
  ⟨(some 22), none, .op (.pick (.t 15) (.v (.bool true)) (.t 21))⟩,
  ⟨(some 23), none, .op (.mv (.t 22))⟩,
  ⟨(some 24), some (23, false), .op (.fad 1 (.t 3))⟩,
  ⟨(some 25), some (23, false), .op (.load none (.t 24))⟩,
  ⟨(some 26), some (23, false), .op (.len .sl (.t 25))⟩,
  ⟨(some 27), some (23, false), .op (.bin .none .gtr (.t 26) (.v (.int .i64 255)))⟩,
  ⟨(some 28), none, .op (.pick (.t 23) (.v (.bool true)) (.t 27))⟩,
  ⟨(some 29), none, .op (.mv (.t 28))⟩,
  ⟨(some 30), some (29, false), .op (.fad 3 (.t 3))⟩,
  ⟨(some 31), some (29, false), .op (.load none (.t 30))⟩,
  ⟨(some 32), some (29, false), .op (.bin .none .lss (.t 31) (.v (.int .i64 (-1))))⟩,
  ⟨(some 33), none, .op (.pick (.t 29) (.v (.bool true)) (.t 32))⟩,
  ⟨(some 34), none, .op (.mv (.t 33))⟩,
  ⟨(some 35), some (34, false), .op (.fad 3 (.t 3))⟩,
  ⟨(some 36), some (34, false), .op (.load none (.t 35))⟩,
  ⟨(some 37), some (34, false), .op (.bin .none .gtr (.t 36) (.v (.int .i64 254)))⟩,
  ⟨(some 38), none, .op (.pick (.t 34) (.v (.bool true)) (.t 37))⟩,
  ⟨(some 39), none, .op (.mv (.t 38))⟩,
  ⟨(some 40), some (39, false), .op (.fad 4 (.t 3))⟩,
  ⟨(some 41), some (39, false), .op (.load none (.t 40))⟩,
  ⟨(some 42), some (39, false), .op (.len .sl (.t 41))⟩,
  ⟨(some 43), some (39, false), .op (.bin .none .gtr (.t 42) (.v (.int .i64 65535)))⟩,
  ⟨(some 44), none, .op (.pick (.t 39) (.v (.bool true)) (.t 43))⟩] [])
  (.cond (.t 44)
  (.seq (.reg [⟨(some 4), none, .op (.mv (.v .nils))⟩,
  ⟨(some 5), none, .op (.mv (.v (.bool false)))⟩] [])
  .ret)
  .skip))
  (.seq (.reg [⟨(some 45), none, .op (.mv (.t 0))⟩,
  ⟨(some 46), none, .op (.fad 0 (.t 3))⟩,
  ⟨(some 47), none, .op (.load none (.t 46))⟩,
  ⟨(some 48), none, .op (.cint .u8 (.t 47))⟩,
  ⟨(some 49), none, .op (.fad 1 (.t 3))⟩,
  ⟨(some 50), none, .op (.load none (.t 49))⟩,
  ⟨(some 51), none, .op (.len .sl (.t 50))⟩,
  ⟨(some 52), none, .op (.cint .u8 (.t 51))⟩,
  ⟨(some 53), none, .op (.bsl none [(.int .u8 0)] 2 [(0, 1, (.t 48)), (1, 1, (.t 52))])⟩,
  ⟨(some 54), none, .op (.app none 1 (.t 45) (.t 53))⟩,
  ⟨(some 0), none, .op (.mv (.t 54))⟩] [])
  (.seq (.seq (.reg [⟨(some 55), none, .op (.fad 1 (.t 3))⟩,
  ⟨(some 56), none, .op (.load none (.t 55))⟩,
  ⟨(some 57), none, .op (.len .sl (.t 56))⟩,
  ⟨(some 58), none, .op (.mv (.v (.int .i64 0)))⟩] [])
  (.block 0 (.loop (.seq (.reg [⟨(some 59), none, .op (.bin .none .lss (.t 58) (.t 57))⟩] [])
  (.seq (.cond (.t 59)
  .skip
  (.exit 0))
  (.seq (.block 1 (.seq (.reg [⟨(some 60), none, .op (.iad none none (.t 56) (.t 58))⟩,
  ⟨(some 61), none, .op (.load none (.t 60))⟩,
  ⟨(some 7), none, .op (.mv (.t 61))⟩] [])
  (.seq (.seq (.reg [⟨(some 62), none, .op (.mv (.t 7))⟩,
  ⟨(some 63), none, .op (.bin .none .gtr (.t 62) (.v (.int .u8 1)))⟩] [])
  (.cond (.t 63)
  (.seq (.reg [⟨(some 4), none, .op (.mv (.v .nils))⟩,
  ⟨(some 5), none, .op (.mv (.v (.bool false)))⟩] [])
  .ret)
  .skip))
  (.reg [⟨(some 64), none, .op (.mv (.t 0))⟩,
  ⟨(some 65), none, .op (.mv (.t 7))⟩,
  ⟨(some 66), none, .op (.bsl none [(.int .u8 0)] 1 [(0, 1, (.t 65))])⟩,
  ⟨(some 67), none, .op (.app none 1 (.t 64) (.t 66))⟩,
  ⟨(some 0), none, .op (.mv (.t 67))⟩] []))))
  (.reg [⟨(some 68), none, .op (.bin .none .add (.t 58) (.v (.int .i64 1)))⟩,
  ⟨(some 58), none, .op (.mv (.t 68))⟩] [])))))))
  (.seq (.reg [⟨(some 8), none, .op (.mv (.v (.int .u8 0)))⟩] [])
  (.seq (.seq (.reg [⟨(some 69), none, .op (.fad 2 (.t 3))⟩,
  ⟨(some 70), none, .op (.load none (.t 69))⟩] [])
  (.cond (.t 70)
  (.reg [⟨(some 8), none, .op (.mv (.v (.int .u8 1)))⟩] [])
  .skip))
  (.seq (.reg [⟨(some 71), none, .op (.mv (.t 0))⟩,
  ⟨(some 72), none, .op (.mv (.t 8))⟩,
  ⟨(some 73), none, .op (.fad 3 (.t 3))⟩,
  ⟨(some 74), none, .op (.load none (.t 73))⟩,
  ⟨(some 75), none, .op (.cint .u8 (.t 74))⟩,
  ⟨(some 76), none, .op (.bsl none [(.int .u8 0)] 2 [(0, 1, (.t 72)), (1, 1, (.t 75))])⟩,
  ⟨(some 77), none, .op (.app none 1 (.t 71) (.t 76))⟩,
  ⟨(some 78), none, .op (.fad 4 (.t 3))⟩,
  ⟨(some 79), none, .op (.load none (.t 78))⟩,
  ⟨(some 80), none, .op (.len .sl (.t 79))⟩,
  ⟨(some 81), none, .op (.cint .u64 (.t 80))⟩,
  ⟨(some 82), none, .call 127 [(.t 77), (.t 81), (.v (.int .i64 2))]⟩,
  ⟨(some 0), none, .op (.mv (.t 82))⟩] [(5, 8), (6, 8)])
  (.seq (.seq (.reg [⟨(some 83), none, .op (.fad 4 (.t 3))⟩,
  ⟨(some 84), none, .op (.load none (.t 83))⟩,
  ⟨(some 85), none, .op (.len .sl (.t 84))⟩,
  ⟨(some 86), none, .op (.mv (.v (.int .i64 0)))⟩] [])
  (.block 2 (.loop (.seq (.reg [⟨(some 87), none, .op (.bin .none .lss (.t 86) (.t 85))⟩] [])
  (.seq (.cond (.t 87)
  .skip
  (.exit 2))
  (.seq (.block 3 (.seq (.reg [⟨(some 88), none, .op (.iad none (some 3) (.t 84) (.t 86))⟩,
  ⟨(some 89), none, .op (.load (some 3) (.t 88))⟩,
  ⟨(some 10), none, .op (.new [(.int .u8 0), (.int .i64 0), (.int .u64 0)])⟩,
  ⟨none, none, .op (.store 3 (.t 10) (.t 89))⟩] [])
  (.seq (.reg [⟨(some 11), none, .op (.mv (.v (.bool false)))⟩] [])
  (.seq (.reg [⟨(some 91), none, .op (.mv (.t 0))⟩,
  ⟨(some 92), none, .op (.load (some 3) (.t 10))⟩,
  ⟨(some 93), none, .call 128 [(.t 91), (.t 92)]⟩,
  ⟨(some 90), none, .op (.mv (.t 93))⟩,
  ⟨(some 94), none, .op (.ext 0 (.t 90))⟩,
  ⟨(some 95), none, .op (.ext 1 (.t 90))⟩,
  ⟨(some 0), none, .op (.mv (.t 94))⟩,
  ⟨(some 11), none, .op (.mv (.t 95))⟩] [])
  (.seq (.reg [⟨(some 96), none, .op (.mv (.t 11))⟩,
  ⟨(some 97), none, .op (.un .not (.t 96))⟩] [])
  (.cond (.t 97)
  (.seq (.reg [⟨(some 4), none, .op (.mv (.v .nils))⟩,
  ⟨(some 5), none, .op (.mv (.v (.bool false)))⟩] [])
  .ret)
  .skip))))))
  (.reg [⟨(some 98), none, .op (.bin .none .add (.t 86) (.v (.int .i64 1)))⟩,
  ⟨(some 86), none, .op (.mv (.t 98))⟩] [])))))))
  (.seq (.reg [⟨(some 99), none, .op (.mv (.t 0))⟩,
  ⟨(some 4), none, .op (.mv (.t 99))⟩,
  ⟨(some 5), none, .op (.mv (.v (.bool true)))⟩] [])
  .ret)))))))))
theorem fn100 : Fn3 Tryd.prog 100 100 [(4, none), (5, none)] fc100 := ⟨_, _, Tryd.func100, rfl, rfl, rfl, by kernel_rfl⟩
def code_function_r_s (b_00 : (List Int)) (f_01 : Func) : Option (Bool × (List Int)) :=
  (jp (fun (s_2 : (Func × Bool)) => (if s_2.2 then (some (false, [])) else ((appL 1 b_00 [(U8 s_2.1.Params), (U8 (List.length s_2.1.Locals : Int))]).bind fun l_3 => ((rng (fun (i_5 : Nat) (k_6 : Int) (s_4 : (List Int)) => ((if (decide (k_6 > 1)) then (some (.ret (some (false, [])))) else ((appL 1 s_4 [k_6]).bind fun l_8 => (some (.nxt l_8)))) : Option (Stp (List Int) (Option (Bool × (List Int)))))) s_2.1.Locals l_3).bind (oc (fun (s_4 : (List Int)) => (jp (fun (s_10 : Int) => ((appL 1 s_4 [s_10, (U8 s_2.1.Keep)]).bind fun l_11 => ((code_put_r_o_s l_11 (U64 (List.length s_2.1.Code : Int)) 2).bind fun (put_12 : (List Int)) => ((rng (fun (i_14 : Nat) (i_15 : Instr) (s_13 : (List Int)) => (((code_instruction_r_s s_13 i_15).bind fun (ins_17 : (Bool × (List Int))) => (if (!ins_17.1) then (some (.ret (some (false, [])))) else (some (.nxt ins_17.2)))) : Option (Stp (List Int) (Option (Bool × (List Int)))))) s_2.1.Code put_12).bind (oc (fun (s_13 : (List Int)) => (some (true, s_13)))))))) (fun k_9 => (if s_2.1.Result then (k_9 1) else (k_9 0)))))))))) (fun k_1 => (if (decide (f_01.Params < 0)) then (k_1 (f_01, true)) else (if (decide (f_01.Params > (List.length f_01.Locals : Int))) then (k_1 (f_01, true)) else (if (decide ((List.length f_01.Locals : Int) > 255)) then (k_1 (f_01, true)) else (if (decide (f_01.Keep < (-1))) then (k_1 (f_01, true)) else (if (decide (f_01.Keep > 254)) then (k_1 (f_01, true)) else (k_1 (f_01, (decide ((List.length f_01.Code : Int) > 65535)))))))))))
theorem code_function_r_ev {b_00 : (List Int)} {f_01 : Func} {r : (Bool × (List Int))} (h : code_function_r_s b_00 f_01 = some r) : Ev Tryd.prog 100 [(.ref 0 0 0 (List.length b_00) none), (Func.av f_01)] (hp [.arr 0 (flat (avI .u8) b_00)]) (.tup [(.ref 1 1 0 (List.length r.2) none), (.bool r.1)]) (hp [.dead 1000000, .arr 1 (flat (avI .u8) r.2)]) := by
  unfold code_function_r_s at h
  refine Ev_end mixed fn100 (by simp) [10] ?_
  unfold fc100
  refine E_sq ?_
  refine E_reg ?_
  refine E_op0 (v' := (.cptr (Func.av f_01).cells 0)) rfl rfl ?_
  refine E_mv (v' := .nils) rfl ?_
  refine E_mv (v' := (.bool false)) rfl ?_
  refine E_nil ?_
  refine E_nx ?_
  refine E_as ?_
  refine E_jp h (fun s_2 => [(0, (.ref 0 0 0 (List.length b_00) none)), (3, (.cptr (Func.av s_2.1).cells 0)), (44, (.bool s_2.2))]) (fun s_2 => [.arr 0 (flat (avI .u8) b_00)]) (fun k_1 h => ?_) (fun s_2 h => ?_)
  · refine E_reg ?_
    refine E_op0 (v' := (.cptr (Func.av f_01).cells 0)) rfl rfl ?_
    refine E_op0 (v' := (.int .i64 f_01.Params)) rfl rfl ?_
    refine E_op0 (v' := (.bool (decide (f_01.Params < 0)))) rfl rfl ?_
    refine E_mv (v' := (.bool (decide (f_01.Params < 0)))) rfl ?_
    refine E_gsT (b := (decide (f_01.Params < 0))) rfl rfl rfl (fun hb => ?_) (fun hb => ?_)
    · rw [ite_f hb] at h
      refine E_op0 (v' := (.cptr (Func.av f_01).cells 0)) rfl rfl ?_
      refine E_gh rfl ?_
      refine E_op0 (v' := (.int .i64 f_01.Params)) rfl rfl ?_
      refine E_gh rfl ?_
      refine E_op0 (v' := (.cptr (Func.av f_01).cells 1)) rfl rfl ?_
      refine E_gh rfl ?_
      refine E_op0 (v' := (.sl false 1 (List.map (avI .u8) f_01.Locals))) rfl rfl ?_
      refine E_gh rfl ?_
      refine E_len rfl ?_
      refine E_gh rfl ?_
      refine E_op0 (v' := (.bool (decide (f_01.Params > (List.length f_01.Locals : Int))))) rfl rfl ?_
      refine E_pf rfl rfl ?_
      refine E_mv (v' := (.bool (decide (f_01.Params > (List.length f_01.Locals : Int))))) rfl ?_
      refine E_gsT (b := (decide (f_01.Params > (List.length f_01.Locals : Int)))) rfl rfl rfl (fun hb => ?_) (fun hb => ?_)
      · rw [ite_f hb] at h
        refine E_op0 (v' := (.cptr (Func.av f_01).cells 1)) rfl rfl ?_
        refine E_gh rfl ?_
        refine E_op0 (v' := (.sl false 1 (List.map (avI .u8) f_01.Locals))) rfl rfl ?_
        refine E_gh rfl ?_
        refine E_len rfl ?_
        refine E_gh rfl ?_
        refine E_op0 (v' := (.bool (decide ((List.length f_01.Locals : Int) > 255)))) rfl rfl ?_
        refine E_pf rfl rfl ?_
        refine E_mv (v' := (.bool (decide ((List.length f_01.Locals : Int) > 255)))) rfl ?_
        refine E_gsT (b := (decide ((List.length f_01.Locals : Int) > 255))) rfl rfl rfl (fun hb => ?_) (fun hb => ?_)
        · rw [ite_f hb] at h
          refine E_op0 (v' := (.cptr (Func.av f_01).cells 3)) rfl rfl ?_
          refine E_gh rfl ?_
          refine E_op0 (v' := (.int .i64 f_01.Keep)) rfl rfl ?_
          refine E_gh rfl ?_
          refine E_op0 (v' := (.bool (decide (f_01.Keep < (-1))))) rfl rfl ?_
          refine E_pf rfl rfl ?_
          refine E_mv (v' := (.bool (decide (f_01.Keep < (-1))))) rfl ?_
          refine E_gsT (b := (decide (f_01.Keep < (-1)))) rfl rfl rfl (fun hb => ?_) (fun hb => ?_)
          · rw [ite_f hb] at h
            refine E_op0 (v' := (.cptr (Func.av f_01).cells 3)) rfl rfl ?_
            refine E_gh rfl ?_
            refine E_op0 (v' := (.int .i64 f_01.Keep)) rfl rfl ?_
            refine E_gh rfl ?_
            refine E_op0 (v' := (.bool (decide (f_01.Keep > 254)))) rfl rfl ?_
            refine E_pf rfl rfl ?_
            refine E_mv (v' := (.bool (decide (f_01.Keep > 254)))) rfl ?_
            refine E_gsT (b := (decide (f_01.Keep > 254))) rfl rfl rfl (fun hb => ?_) (fun hb => ?_)
            · rw [ite_f hb] at h
              refine E_op0 (v' := (.cptr (Func.av f_01).cells 4)) rfl rfl ?_
              refine E_gh rfl ?_
              refine E_op0 (v' := (.sl false 3 (List.map Instr.av f_01.Code))) rfl rfl ?_
              refine E_gh rfl ?_
              refine E_len rfl ?_
              refine E_gh rfl ?_
              refine E_op0 (v' := (.bool (decide ((List.length f_01.Code : Int) > 65535)))) rfl rfl ?_
              refine E_pf rfl rfl ?_
              refine E_nil ?_
              exact E_jx _ h (wk_rn [some (0, 0)] rfl (Nat.le_of_ble_eq_true rfl) ⟨(rn_obS rfl rfl (.refl ((encI .u8).blwf 0 _)) rfl), trivial⟩ ⟨(rn_refL (encI .u8) rfl rfl rfl), (rn_b (cp_blw (Func.enc.blw _ 0))), (rn_b rfl), trivial⟩)
            · rw [ite_t hb] at h
              refine E_gm rfl ?_
              refine E_gm rfl ?_
              refine E_gm rfl ?_
              refine E_pt rfl rfl ?_
              refine E_nil ?_
              exact E_jx _ h (wk_rn [some (0, 0)] rfl (Nat.le_of_ble_eq_true rfl) ⟨(rn_obS rfl rfl (.refl ((encI .u8).blwf 0 _)) rfl), trivial⟩ ⟨(rn_refL (encI .u8) rfl rfl rfl), (rn_b (cp_blw (Func.enc.blw _ 0))), (rn_b rfl), trivial⟩)
          · rw [ite_t hb] at h
            refine E_gm rfl ?_
            refine E_gm rfl ?_
            refine E_pt rfl rfl ?_
            refine E_mv (v' := (.bool true)) rfl ?_
            refine E_gm rfl ?_
            refine E_gm rfl ?_
            refine E_gm rfl ?_
            refine E_gm rfl ?_
            refine E_pt rfl rfl ?_
            refine E_nil ?_
            exact E_jx _ h (wk_rn [some (0, 0)] rfl (Nat.le_of_ble_eq_true rfl) ⟨(rn_obS rfl rfl (.refl ((encI .u8).blwf 0 _)) rfl), trivial⟩ ⟨(rn_refL (encI .u8) rfl rfl rfl), (rn_b (cp_blw (Func.enc.blw _ 0))), (rn_b rfl), trivial⟩)
        · rw [ite_t hb] at h
          refine E_gm rfl ?_
          refine E_gm rfl ?_
          refine E_pt rfl rfl ?_
          refine E_mv (v' := (.bool true)) rfl ?_
          refine E_gm rfl ?_
          refine E_gm rfl ?_
          refine E_gm rfl ?_
          refine E_pt rfl rfl ?_
          refine E_mv (v' := (.bool true)) rfl ?_
          refine E_gm rfl ?_
          refine E_gm rfl ?_
          refine E_gm rfl ?_
          refine E_gm rfl ?_
          refine E_pt rfl rfl ?_
          refine E_nil ?_
          exact E_jx _ h (wk_rn [some (0, 0)] rfl (Nat.le_of_ble_eq_true rfl) ⟨(rn_obS rfl rfl (.refl ((encI .u8).blwf 0 _)) rfl), trivial⟩ ⟨(rn_refL (encI .u8) rfl rfl rfl), (rn_b (cp_blw (Func.enc.blw _ 0))), (rn_b rfl), trivial⟩)
      · rw [ite_t hb] at h
        refine E_gm rfl ?_
        refine E_gm rfl ?_
        refine E_gm rfl ?_
        refine E_pt rfl rfl ?_
        refine E_mv (v' := (.bool true)) rfl ?_
        refine E_gm rfl ?_
        refine E_gm rfl ?_
        refine E_gm rfl ?_
        refine E_pt rfl rfl ?_
        refine E_mv (v' := (.bool true)) rfl ?_
        refine E_gm rfl ?_
        refine E_gm rfl ?_
        refine E_gm rfl ?_
        refine E_pt rfl rfl ?_
        refine E_mv (v' := (.bool true)) rfl ?_
        refine E_gm rfl ?_
        refine E_gm rfl ?_
        refine E_gm rfl ?_
        refine E_gm rfl ?_
        refine E_pt rfl rfl ?_
        refine E_nil ?_
        exact E_jx _ h (wk_rn [some (0, 0)] rfl (Nat.le_of_ble_eq_true rfl) ⟨(rn_obS rfl rfl (.refl ((encI .u8).blwf 0 _)) rfl), trivial⟩ ⟨(rn_refL (encI .u8) rfl rfl rfl), (rn_b (cp_blw (Func.enc.blw _ 0))), (rn_b rfl), trivial⟩)
    · rw [ite_t hb] at h
      refine E_gm rfl ?_
      refine E_gm rfl ?_
      refine E_gm rfl ?_
      refine E_gm rfl ?_
      refine E_gm rfl ?_
      refine E_pt rfl rfl ?_
      refine E_mv (v' := (.bool true)) rfl ?_
      refine E_gm rfl ?_
      refine E_gm rfl ?_
      refine E_gm rfl ?_
      refine E_gm rfl ?_
      refine E_pt rfl rfl ?_
      refine E_mv (v' := (.bool true)) rfl ?_
      refine E_gm rfl ?_
      refine E_gm rfl ?_
      refine E_gm rfl ?_
      refine E_pt rfl rfl ?_
      refine E_mv (v' := (.bool true)) rfl ?_
      refine E_gm rfl ?_
      refine E_gm rfl ?_
      refine E_gm rfl ?_
      refine E_pt rfl rfl ?_
      refine E_mv (v' := (.bool true)) rfl ?_
      refine E_gm rfl ?_
      refine E_gm rfl ?_
      refine E_gm rfl ?_
      refine E_gm rfl ?_
      refine E_pt rfl rfl ?_
      refine E_nil ?_
      exact E_jx _ h (wk_rn [some (0, 0)] rfl (Nat.le_of_ble_eq_true rfl) ⟨(rn_obS rfl rfl (.refl ((encI .u8).blwf 0 _)) rfl), trivial⟩ ⟨(rn_refL (encI .u8) rfl rfl rfl), (rn_b (cp_blw (Func.enc.blw _ 0))), (rn_b rfl), trivial⟩)
  · refine E_sq ?_
    refine E_cs (t := s_2.2) rfl (fun hb => ?_) (fun hb => ?_)
    · rw [ite_t hb] at h
      refine E_sq ?_
      refine E_reg ?_
      refine E_mv (v' := .nils) rfl ?_
      refine E_mv (v' := (.bool false)) rfl ?_
      refine E_nil ?_
      refine E_nx ?_
      refine E_ret ?_
      refine E_thr ?_
      cases h
      exact ⟨trivial, _, _, rfl, gwk_rn [none, none] rfl (Nat.le_of_ble_eq_true rfl) ⟨(rn_obDead rfl rfl), (rn_obN rfl rfl rfl), trivial⟩, (rn_tup ⟨(rn_nil rfl), (rn_b rfl), trivial⟩)⟩
    · rw [ite_f hb] at h
      refine E_skip ?_
      refine E_nx ?_
      refine E_sq ?_
      refine E_reg ?_
      refine E_mv (v' := (.ref 0 0 0 (List.length b_00) none)) rfl ?_
      refine E_op0 (v' := (.cptr (Func.av s_2.1).cells 0)) rfl rfl ?_
      refine E_op0 (v' := (.int .i64 s_2.1.Params)) rfl rfl ?_
      refine E_op0 (v' := (.int .u8 (U8 s_2.1.Params))) rfl rfl ?_
      refine E_op0 (v' := (.cptr (Func.av s_2.1).cells 1)) rfl rfl ?_
      refine E_op0 (v' := (.sl false 1 (List.map (avI .u8) s_2.1.Locals))) rfl rfl ?_
      refine E_len rfl ?_
      refine E_op0 (v' := (.int .u8 (U8 (List.length s_2.1.Locals : Int)))) rfl rfl ?_
      refine E_opw (v' := (.sl true 1 (List.map (avI .u8) [(U8 s_2.1.Params), (U8 (List.length s_2.1.Locals : Int))]))) rfl (.refl _) rfl ?_
      obtain ⟨l_3, hl_3, h⟩ := bd_some h
      refine E_apL (S' := [.arr 1 (flat (avI .u8) l_3)]) (encI .u8) rfl (src_sl [(U8 s_2.1.Params), (U8 (List.length s_2.1.Locals : Int))]) rfl hl_3 rfl ?_
      refine E_mv (v' := (.ref 0 1 0 (List.length l_3) none)) rfl ?_
      refine E_nil ?_
      refine E_nx ?_
      refine E_as ?_
      refine E_sq ?_
      refine E_reg ?_
      refine E_op0 (v' := (.cptr (Func.av s_2.1).cells 1)) rfl rfl ?_
      refine E_op0 (v' := (.sl false 1 (List.map (avI .u8) s_2.1.Locals))) rfl rfl ?_
      refine E_len rfl ?_
      refine E_mv (v' := (.int .i64 0)) rfl ?_
      refine E_nil ?_
      refine E_nx ?_
      refine E_sq ?_
      refine E_rngO (fun s_4 => [(0, (.ref 0 1 0 (List.length s_4) none)), (3, (.cptr (Func.av s_2.1).cells 0)), (56, (.sl false 1 (List.map (avI .u8) s_2.1.Locals)))]) (fun s_4 => [.arr 1 (flat (avI .u8) s_4)]) h (by decide) (by decide) (fun _ => ⟨rfl, rfl, rfl, rfl⟩) (wk_rn [some (0, 0)] rfl (Nat.le_of_ble_eq_true rfl) ⟨(rn_obV rfl rfl (.refl ((encI .u8).blwf 0 _)) rfl rfl), trivial⟩ ⟨(rn_b rfl), (rn_b rfl), (rn_refL (encI .u8) rfl rfl rfl), (rn_b (cp_blw (Func.enc.blw _ 0))), (rn_b ((encI .u8).blws 0)), trivial⟩) (fun i_5 k_6 s_4 c hx_7 hlt h => ?_) (fun s_4 fr' S' h hw => ?_)
      · refine E_sq ?_
        refine E_reg ?_
        refine E_iadF rfl rfl (getI_of hx_7) ?_
        refine E_op0 (v' := (.int .u8 k_6)) rfl rfl ?_
        refine E_mv (v' := (.int .u8 k_6)) rfl ?_
        refine E_nil ?_
        refine E_nx ?_
        refine E_as ?_
        refine E_sq ?_
        refine E_reg ?_
        refine E_mv (v' := (.int .u8 k_6)) rfl ?_
        refine E_op0 (v' := (.bool (decide (k_6 > 1)))) rfl rfl ?_
        refine E_nil ?_
        refine E_nx ?_
        refine E_sq ?_
        refine E_cs (t := (decide (k_6 > 1))) rfl (fun hb => ?_) (fun hb => ?_)
        · rw [ite_t hb] at h
          refine E_sq ?_
          refine E_reg ?_
          refine E_mv (v' := .nils) rfl ?_
          refine E_mv (v' := (.bool false)) rfl ?_
          refine E_nil ?_
          refine E_nx ?_
          refine E_ret ?_
          refine E_thr ?_
          cases h
          refine L_rrO rfl (fun h => ?_)
          refine E_thr ?_
          cases h
          exact ⟨trivial, _, _, rfl, gwk_rn [none, none] rfl (Nat.le_of_ble_eq_true rfl) ⟨(rn_obDead rfl rfl), (rn_obN rfl rfl rfl), trivial⟩, (rn_tup ⟨(rn_nil rfl), (rn_b rfl), trivial⟩)⟩
        · rw [ite_f hb] at h
          refine E_skip ?_
          refine E_nx ?_
          refine E_reg ?_
          refine E_mv (v' := (.ref 0 1 0 (List.length s_4) none)) rfl ?_
          refine E_mv (v' := (.int .u8 k_6)) rfl ?_
          refine E_opw (v' := (.sl true 1 (List.map (avI .u8) [k_6]))) rfl (.refl _) rfl ?_
          obtain ⟨l_8, hl_8, h⟩ := bd_some h
          refine E_apL (S' := [.arr 2 (flat (avI .u8) l_8)]) (encI .u8) rfl (src_sl [k_6]) rfl hl_8 rfl ?_
          refine E_mv (v' := (.ref 0 2 0 (List.length l_8) none)) rfl ?_
          refine E_nil ?_
          cases h
          exact L_nn rfl (wk_rn [some (0, 0)] rfl (Nat.le_of_ble_eq_true rfl) ⟨(rn_obV rfl rfl (.refl ((encI .u8).blwf 0 _)) rfl rfl), trivial⟩ ⟨(rn_b rfl), (rn_b rfl), (rn_refL (encI .u8) rfl rfl rfl), (rn_b (cp_blw (Func.enc.blw _ 0))), (rn_b ((encI .u8).blws 0)), trivial⟩)
      · refine X_nx hw ?_
        refine E_sq ?_
        refine E_reg ?_
        refine E_mv (v' := (.int .u8 0)) rfl ?_
        refine E_nil ?_
        refine E_nx ?_
        refine E_as ?_
        refine E_sq ?_
        refine E_reg ?_
        refine E_op0 (v' := (.cptr (Func.av s_2.1).cells 2)) rfl rfl ?_
        refine E_op0 (v' := (.bool s_2.1.Result)) rfl rfl ?_
        refine E_nil ?_
        refine E_nx ?_
        refine E_jp h (fun s_10 => [(0, (.ref 0 1 0 (List.length s_4) none)), (3, (.cptr (Func.av s_2.1).cells 0)), (8, (.int .u8 s_10))]) (fun s_10 => [.arr 1 (flat (avI .u8) s_4)]) (fun k_9 h => ?_) (fun s_10 h => ?_)
        · refine E_cs (t := s_2.1.Result) rfl (fun hb => ?_) (fun hb => ?_)
          · rw [ite_t hb] at h
            refine E_reg ?_
            refine E_mv (v' := (.int .u8 1)) rfl ?_
            refine E_nil ?_
            exact E_jx _ h (wk_rn [some (0, 0)] rfl (Nat.le_of_ble_eq_true rfl) ⟨(rn_obV rfl rfl (.refl ((encI .u8).blwf 0 _)) rfl rfl), trivial⟩ ⟨(rn_refL (encI .u8) rfl rfl rfl), (rn_b (cp_blw (Func.enc.blw _ 0))), (rn_b rfl), trivial⟩)
          · rw [ite_f hb] at h
            refine E_skip ?_
            exact E_jx _ h (wk_rn [some (0, 0)] rfl (Nat.le_of_ble_eq_true rfl) ⟨(rn_obV rfl rfl (.refl ((encI .u8).blwf 0 _)) rfl rfl), trivial⟩ ⟨(rn_refL (encI .u8) rfl rfl rfl), (rn_b (cp_blw (Func.enc.blw _ 0))), (rn_b rfl), trivial⟩)
        · refine E_sq ?_
          refine E_regp ?_
          refine E_mv (v' := (.ref 0 1 0 (List.length s_4) none)) rfl ?_
          refine E_mv (v' := (.int .u8 s_10)) rfl ?_
          refine E_op0 (v' := (.cptr (Func.av s_2.1).cells 3)) rfl rfl ?_
          refine E_op0 (v' := (.int .i64 s_2.1.Keep)) rfl rfl ?_
          refine E_op0 (v' := (.int .u8 (U8 s_2.1.Keep))) rfl rfl ?_
          refine E_opw (v' := (.sl true 1 (List.map (avI .u8) [s_10, (U8 s_2.1.Keep)]))) rfl (.refl _) rfl ?_
          obtain ⟨l_11, hl_11, h⟩ := bd_some h
          refine E_apL (S' := [.arr 2 (flat (avI .u8) l_11)]) (encI .u8) rfl (src_sl [s_10, (U8 s_2.1.Keep)]) rfl hl_11 rfl ?_
          refine E_op0 (v' := (.cptr (Func.av s_2.1).cells 4)) rfl rfl ?_
          refine E_op0 (v' := (.sl false 3 (List.map Instr.av s_2.1.Code))) rfl rfl ?_
          refine E_len rfl ?_
          refine E_op0 (v' := (.int .u64 (U64 (List.length s_2.1.Code : Int)))) rfl rfl ?_
          obtain ⟨put_12, hput_12, h⟩ := bd_some h
          refine E_callF (S' := [.arr 3 (flat (avI .u8) put_12)]) (r' := (.ref 0 3 0 (List.length put_12) none)) (code_put_r_o_ev hput_12) [0] rfl rfl (by decide) rfl rfl ⟨(fr_in rfl rfl (.refl ((encI .u8).blwf 0 _))), trivial⟩ ⟨(fr_out rfl rfl (.refl ((encI .u8).blwf 0 _)) rfl rfl), trivial⟩ ⟨.inl rfl, trivial⟩ rfl (.cons (fi_ref rfl rfl rfl rfl) (.cons (.base rfl (.refl _)) (.cons (.base rfl (.refl _)) (.nil (Nat.zero_le _))))) (fo_ref rfl rfl rfl rfl) ?_
          refine E_mv (v' := (.ref 0 3 0 (List.length put_12) none)) rfl ?_
          refine E_nil ?_
          refine And.intro (by simp [okLog, nthL, okPair, hp, fpOf]) ?_
          refine E_nx ?_
          refine E_as ?_
          refine E_sq ?_
          refine E_reg ?_
          refine E_op0 (v' := (.cptr (Func.av s_2.1).cells 4)) rfl rfl ?_
          refine E_op0 (v' := (.sl false 3 (List.map Instr.av s_2.1.Code))) rfl rfl ?_
          refine E_len rfl ?_
          refine E_mv (v' := (.int .i64 0)) rfl ?_
          refine E_nil ?_
          refine E_nx ?_
          refine E_sq ?_
          refine E_rngO (fun s_13 => [(0, (.ref 1 1 0 (List.length s_13) none)), (84, (.sl false 3 (List.map Instr.av s_2.1.Code)))]) (fun s_13 => [.dead 1000000, .arr 1 (flat (avI .u8) s_13)]) h (by decide) (by decide) (fun _ => ⟨rfl, rfl, rfl, rfl⟩) (wk_rn [none, some (0, 0)] rfl (Nat.le_of_ble_eq_true rfl) ⟨(rn_obDead rfl rfl), (rn_ob rfl rfl (.refl ((encI .u8).blwf 0 _)) rfl), trivial⟩ ⟨(rn_b rfl), (rn_b rfl), (rn_refL (encI .u8) rfl rfl rfl), (rn_b (Instr.enc.blws 0)), trivial⟩) (fun i_14 i_15 s_13 c hx_16 hlt h => ?_) (fun s_13 fr' S' h hw => ?_)
          · refine E_sq ?_
            refine E_reg ?_
            refine E_iadF rfl rfl (getI_of hx_16) ?_
            refine E_op0 (v' := (Instr.av i_15)) rfl rfl ?_
            refine E_op (v' := .ptr 2 0 0) (S' := [.dead 1000000, .arr 1 (flat (avI .u8) s_13), .arr 0 [(.int .u8 0), (.int .i64 0), (.int .u64 0)]]) rfl rfl rfl ?_
            refine E_do (S' := [.dead 1000000, .arr 1 (flat (avI .u8) s_13), .arr 0 [(.int .u8 i_15.Op), (.int .i64 i_15.Arg), (.int .u64 i_15.Imm)]]) rfl rfl ?_
            refine E_nil ?_
            refine E_nx ?_
            refine E_sq ?_
            refine E_reg ?_
            refine E_mv (v' := (.bool false)) rfl ?_
            refine E_nil ?_
            refine E_nx ?_
            refine E_sq ?_
            refine E_reg ?_
            refine E_mv (v' := (.ref 1 1 0 (List.length s_13) none)) rfl ?_
            refine E_opw (v' := (Instr.av i_15)) rfl (.aggL ⟨(.refl _), (.refl _), (.refl _), trivial⟩) rfl ?_
            obtain ⟨ins_17, hins_17, h⟩ := bd_some h
            refine E_callF (S' := [.dead 1000000, .dead 1, .arr 0 [(.int .u8 i_15.Op), (.int .i64 i_15.Arg), (.int .u64 i_15.Imm)], .arr 1 (flat (avI .u8) ins_17.2)]) (r' := (.tup [(.ref 3 1 0 (List.length ins_17.2) none), (.bool ins_17.1)])) (code_instruction_r_ev hins_17) [1] rfl rfl (by decide) rfl rfl ⟨(fr_in rfl rfl (.refl ((encI .u8).blwf 0 _))), trivial⟩ ⟨(fr_outD rfl rfl rfl), (fr_outN rfl rfl (.refl ((encI .u8).blwf 0 _)) rfl), trivial⟩ ⟨.inr rfl, .inl rfl, .inr rfl, trivial⟩ rfl (.cons (fi_ref rfl rfl rfl rfl) (.cons (.base (Instr.enc.blw _ 0) (.refl _)) (.nil (Nat.zero_le _)))) (rn_tup ⟨(fo_ref rfl rfl rfl rfl), (rn_b rfl), trivial⟩) ?_
            refine E_mv (v' := (.tup [(.ref 3 1 0 (List.length ins_17.2) none), (.bool ins_17.1)])) rfl ?_
            refine E_op0 (v' := (.ref 3 1 0 (List.length ins_17.2) none)) rfl rfl ?_
            refine E_op0 (v' := (.bool ins_17.1)) rfl rfl ?_
            refine E_mv (v' := (.ref 3 1 0 (List.length ins_17.2) none)) rfl ?_
            refine E_mv (v' := (.bool ins_17.1)) rfl ?_
            refine E_nil ?_
            refine E_nx ?_
            refine E_sq ?_
            refine E_reg ?_
            refine E_mv (v' := (.bool ins_17.1)) rfl ?_
            refine E_op0 (v' := (.bool (!ins_17.1))) rfl rfl ?_
            refine E_nil ?_
            refine E_nx ?_
            refine E_cs (t := (!ins_17.1)) rfl (fun hb => ?_) (fun hb => ?_)
            · rw [ite_t hb] at h
              refine E_sq ?_
              refine E_reg ?_
              refine E_mv (v' := .nils) rfl ?_
              refine E_mv (v' := (.bool false)) rfl ?_
              refine E_nil ?_
              refine E_nx ?_
              refine E_ret ?_
              cases h
              refine L_rrO rfl (fun h => ?_)
              refine E_thr ?_
              cases h
              exact ⟨trivial, _, _, rfl, gwk_rn [none, none] rfl (Nat.le_of_ble_eq_true rfl) ⟨(rn_obDD rfl rfl), (rn_obN rfl rfl rfl), trivial⟩, (rn_tup ⟨(rn_nil rfl), (rn_b rfl), trivial⟩)⟩
            · rw [ite_f hb] at h
              refine E_skip ?_
              cases h
              exact L_nn rfl (wk_rn [none, some (3, 0)] rfl (Nat.le_of_ble_eq_true rfl) ⟨(rn_obDD rfl rfl), (rn_ob rfl rfl (.refl ((encI .u8).blwf 0 _)) rfl), trivial⟩ ⟨(rn_b rfl), (rn_b rfl), (rn_refL (encI .u8) rfl rfl rfl), (rn_b (Instr.enc.blws 0)), trivial⟩)
          · refine X_nx hw ?_
            refine E_sq ?_
            refine E_reg ?_
            refine E_mv (v' := (.ref 1 1 0 (List.length s_13) none)) rfl ?_
            refine E_mv (v' := (.ref 1 1 0 (List.length s_13) none)) rfl ?_
            refine E_mv (v' := (.bool true)) rfl ?_
            refine E_nil ?_
            refine E_nx ?_
            refine E_ret ?_
            cases h
            exact ⟨trivial, _, _, rfl, gwk_rn [none, some (1, 0)] rfl (Nat.le_of_ble_eq_true rfl) ⟨(rn_obDD rfl rfl), (rn_ob rfl rfl (.refl ((encI .u8).blwf 0 _)) rfl), trivial⟩, (rn_tup ⟨(rn_refL (encI .u8) rfl rfl rfl), (rn_b rfl), trivial⟩)⟩
/- windlass/code.Encode -/
def fc60 : FC := (.seq (.reg [⟨(some 1), none, .op (.box (.t 0))⟩,
  ⟨(some 2), none, .op (.mv (.v .nils))⟩,
  ⟨(some 3), none, .op (.mv (.v (.int .i64 0)))⟩] [])
  (.seq (.seq (.reg [⟨(some 8), none, .op (.fad 0 (.t 1))⟩,
  ⟨(some 9), none, .op (.load none (.t 8))⟩,
  ⟨(some 10), none, .op (.len .sl (.t 9))⟩,
  ⟨(some 11), none, .op (.bin .none .eql (.t 10) (.v (.int .i64 0)))⟩,
  ⟨(some 12), none, .op (.mv (.t 11))⟩,
  ⟨(some 13), some (12, false), .op (.fad 0 (.t 1))⟩,
  ⟨(some 14), some (12, false), .op (.load none (.t 13))⟩,
  ⟨(some 15), some (12, false), .op (.len .sl (.t 14))⟩,
  ⟨(some 16), some (12, false), .op (.bin .none .gtr (.t 15) (.v (.int .i64 255)))⟩,
  ⟨(some 17), none, .op (.pick (.t 12) (.v (.bool true)) (.t 16))⟩] [])
  (.cond (.t 17)
  (.seq (.reg [⟨(some 2), none, .op (.mv (.v .nils))⟩,
  ⟨(some 3), none, .op (.mv (.v (.int .i64 30)))⟩] [])
  .ret)
  .skip))
  (.seq (.reg [⟨(some 18), none, .op (.fad 0 (.t 1))⟩,
  ⟨(some 19), none, .op (.load none (.t 18))⟩,
  ⟨(some 20), none, .op (.len .sl (.t 19))⟩,
  ⟨(some 21), none, .op (.cint .u8 (.t 20))⟩,
  ⟨(some 22), none, .op (.bsl none [(.int .u8 0)] 3 [(0, 1, (.v (.int .u8 87))), (1, 1, (.v (.int .u8 76))), (2, 1, (.t 21))])⟩,
  ⟨(some 4), none, .op (.mv (.t 22))⟩] [])
  (.seq (.seq (.reg [⟨(some 23), none, .op (.fad 0 (.t 1))⟩,
  ⟨(some 24), none, .op (.load none (.t 23))⟩,
  ⟨(some 25), none, .op (.len .sl (.t 24))⟩,
  ⟨(some 26), none, .op (.mv (.v (.int .i64 0)))⟩] [])
  (.block 0 (.loop (.seq (.reg [⟨(some 27), none, .op (.bin .none .lss (.t 26) (.t 25))⟩] [])
  (.seq (.cond (.t 27)
  .skip
  (.exit 0))
  (.seq (.block 1 (.seq (.reg [⟨(some 28), none, .op (.iad none (some 5) (.t 24) (.t 26))⟩,
  ⟨(some 29), none, .op (.load (some 5) (.t 28))⟩,
  ⟨(some 6), none, .op (.new [(.int .i64 0), .nils, (.bool false), (.int .i64 0), .nils])⟩,
  ⟨none, none, .op (.store 5 (.t 6) (.t 29))⟩] [])
  (.seq (.reg [⟨(some 7), none, .op (.mv (.v (.bool false)))⟩] [])
  (.seq (.reg [⟨(some 31), none, .op (.mv (.t 4))⟩,
  ⟨(some 32), none, .op (.load (some 5) (.t 6))⟩,
  ⟨(some 33), none, .call 100 [(.t 31), (.t 32)]⟩,
  ⟨(some 30), none, .op (.mv (.t 33))⟩,
  ⟨(some 34), none, .op (.ext 0 (.t 30))⟩,
  ⟨(some 35), none, .op (.ext 1 (.t 30))⟩,
  ⟨(some 4), none, .op (.mv (.t 34))⟩,
  ⟨(some 7), none, .op (.mv (.t 35))⟩] [])
  (.seq (.reg [⟨(some 36), none, .op (.mv (.t 7))⟩,
  ⟨(some 37), none, .op (.un .not (.t 36))⟩] [])
  (.cond (.t 37)
  (.seq (.reg [⟨(some 2), none, .op (.mv (.v .nils))⟩,
  ⟨(some 3), none, .op (.mv (.v (.int .i64 30)))⟩] [])
  .ret)
  .skip))))))
  (.reg [⟨(some 38), none, .op (.bin .none .add (.t 26) (.v (.int .i64 1)))⟩,
  ⟨(some 26), none, .op (.mv (.t 38))⟩] [])))))))
  (.seq (.reg [⟨(some 39), none, .op (.mv (.t 4))⟩,
  ⟨(some 2), none, .op (.mv (.t 39))⟩,
  ⟨(some 3), none, .op (.mv (.v (.int .i64 0)))⟩] [])
  .ret)))))
theorem fn60 : Fn3 Tryd.prog 60 40 [(2, none), (3, none)] fc60 := ⟨_, _, Tryd.func60, rfl, rfl, rfl, by kernel_rfl⟩
def code_Encode_s (p_00 : Program) : Option ((List Int) × Int) :=
  (jp (fun (s_2 : Bool) => (if s_2 then (some ([], 30)) else ((rng (fun (i_4 : Nat) (f_5 : Func) (s_3 : (List Int)) => (((code_function_r_s s_3 f_5).bind fun (vfun_7 : (Bool × (List Int))) => (if (!vfun_7.1) then (some (.ret (some ([], 30)))) else (some (.nxt vfun_7.2)))) : Option (Stp (List Int) (Option ((List Int) × Int))))) p_00.Funcs ([87, 76, (U8 (List.length p_00.Funcs : Int))] : List Int)).bind (oc (fun (s_3 : (List Int)) => (some (s_3, 0))))))) (fun k_1 => (if ((List.length p_00.Funcs : Int) == 0) then (k_1 true) else (k_1 (decide ((List.length p_00.Funcs : Int) > 255))))))
theorem code_Encode_ev {p_00 : Program} {r : ((List Int) × Int)} (h : code_Encode_s p_00 = some r) : PureEv Tryd.prog 60 [(Program.av p_00)] (.tup [(.sl false 1 (List.map (avI .u8) r.1)), (.int .i64 r.2)]) := by
  unfold code_Encode_s at h
  refine PureEv_end mixed fn60 (by simp) [6, 22] 6 ?_
  unfold fc60
  refine E_sq ?_
  refine E_reg ?_
  refine E_op0 (v' := (.cptr (Program.av p_00).cells 0)) rfl rfl ?_
  refine E_mv (v' := .nils) rfl ?_
  refine E_mv (v' := (.int .i64 0)) rfl ?_
  refine E_nil ?_
  refine E_nx ?_
  refine E_as ?_
  refine E_jp h (fun s_2 => [(1, (.cptr (Program.av p_00).cells 0)), (17, (.bool s_2))]) (fun s_2 => []) (fun k_1 h => ?_) (fun s_2 h => ?_)
  · refine E_reg ?_
    refine E_op0 (v' := (.cptr (Program.av p_00).cells 0)) rfl rfl ?_
    refine E_op0 (v' := (.sl false 5 (List.map Func.av p_00.Funcs))) rfl rfl ?_
    refine E_len rfl ?_
    refine E_op0 (v' := (.bool ((List.length p_00.Funcs : Int) == 0))) rfl rfl ?_
    refine E_mv (v' := (.bool ((List.length p_00.Funcs : Int) == 0))) rfl ?_
    refine E_gsT (b := ((List.length p_00.Funcs : Int) == 0)) rfl rfl rfl (fun hb => ?_) (fun hb => ?_)
    · rw [ite_f hb] at h
      refine E_op0 (v' := (.cptr (Program.av p_00).cells 0)) rfl rfl ?_
      refine E_gh rfl ?_
      refine E_op0 (v' := (.sl false 5 (List.map Func.av p_00.Funcs))) rfl rfl ?_
      refine E_gh rfl ?_
      refine E_len rfl ?_
      refine E_gh rfl ?_
      refine E_op0 (v' := (.bool (decide ((List.length p_00.Funcs : Int) > 255)))) rfl rfl ?_
      refine E_pf rfl rfl ?_
      refine E_nil ?_
      exact E_jx _ h (wk_aw ⟨(.refl _), (.refl _), trivial⟩)
    · rw [ite_t hb] at h
      refine E_gm rfl ?_
      refine E_gm rfl ?_
      refine E_gm rfl ?_
      refine E_pt rfl rfl ?_
      refine E_nil ?_
      exact E_jx _ h (wk_aw ⟨(.refl _), (.refl _), trivial⟩)
  · refine E_sq ?_
    refine E_cs (t := s_2) rfl (fun hb => ?_) (fun hb => ?_)
    · rw [ite_t hb] at h
      refine E_sq ?_
      refine E_reg ?_
      refine E_mv (v' := .nils) rfl ?_
      refine E_mv (v' := (.int .i64 30)) rfl ?_
      refine E_nil ?_
      refine E_nx ?_
      refine E_ret ?_
      refine E_thr ?_
      cases h
      exact ⟨trivial, _, rfl, (fz_tup ⟨(fz_b rfl .nil), (fz_b rfl (.refl _)), trivial⟩)⟩
    · rw [ite_f hb] at h
      refine E_skip ?_
      refine E_nx ?_
      refine E_sq ?_
      refine E_reg ?_
      refine E_op0 (v' := (.cptr (Program.av p_00).cells 0)) rfl rfl ?_
      refine E_op0 (v' := (.sl false 5 (List.map Func.av p_00.Funcs))) rfl rfl ?_
      refine E_len rfl ?_
      refine E_op0 (v' := (.int .u8 (U8 (List.length p_00.Funcs : Int)))) rfl rfl ?_
      refine E_op (v' := (.ref 0 0 0 (List.length ([87, 76, (U8 (List.length p_00.Funcs : Int))] : List Int)) none)) (S' := [.arr 0 (flat (avI .u8) ([87, 76, (U8 (List.length p_00.Funcs : Int))] : List Int))]) rfl rfl rfl ?_
      refine E_mv (v' := (.ref 0 0 0 (List.length ([87, 76, (U8 (List.length p_00.Funcs : Int))] : List Int)) none)) rfl ?_
      refine E_nil ?_
      refine E_nx ?_
      refine E_as ?_
      refine E_sq ?_
      refine E_reg ?_
      refine E_op0 (v' := (.cptr (Program.av p_00).cells 0)) rfl rfl ?_
      refine E_op0 (v' := (.sl false 5 (List.map Func.av p_00.Funcs))) rfl rfl ?_
      refine E_len rfl ?_
      refine E_mv (v' := (.int .i64 0)) rfl ?_
      refine E_nil ?_
      refine E_nx ?_
      refine E_sq ?_
      refine E_rngO (fun s_3 => [(4, (.ref 0 1 0 (List.length s_3) none)), (24, (.sl false 5 (List.map Func.av p_00.Funcs)))]) (fun s_3 => [.arr 1 (flat (avI .u8) s_3)]) h (by decide) (by decide) (fun _ => ⟨rfl, rfl, rfl, rfl⟩) (wk_rn [some (0, 0)] rfl (Nat.le_of_ble_eq_true rfl) ⟨(rn_ob rfl rfl (.refl ((encI .u8).blwf 0 _)) rfl), trivial⟩ ⟨(rn_b rfl), (rn_b rfl), (rn_refL (encI .u8) rfl rfl rfl), (rn_b (Func.enc.blws 0)), trivial⟩) (fun i_4 f_5 s_3 c hx_6 hlt h => ?_) (fun s_3 fr' S' h hw => ?_)
      · refine E_sq ?_
        refine E_reg ?_
        refine E_iadF rfl rfl (getI_of hx_6) ?_
        refine E_op0 (v' := (Func.av f_5)) rfl rfl ?_
        refine E_op (v' := .ptr 1 0 0) (S' := [.arr 1 (flat (avI .u8) s_3), .arr 0 [(.int .i64 0), .nils, (.bool false), (.int .i64 0), .nils]]) rfl rfl rfl ?_
        refine E_do (S' := [.arr 1 (flat (avI .u8) s_3), .arr 0 [(.int .i64 f_5.Params), (.sl false 1 (List.map (avI .u8) f_5.Locals)), (.bool f_5.Result), (.int .i64 f_5.Keep), (.sl false 3 (List.map Instr.av f_5.Code))]]) rfl rfl ?_
        refine E_nil ?_
        refine E_nx ?_
        refine E_sq ?_
        refine E_reg ?_
        refine E_mv (v' := (.bool false)) rfl ?_
        refine E_nil ?_
        refine E_nx ?_
        refine E_sq ?_
        refine E_reg ?_
        refine E_mv (v' := (.ref 0 1 0 (List.length s_3) none)) rfl ?_
        refine E_opw (v' := (Func.av f_5)) rfl (.aggL ⟨(.refl _), (.refl _), (.refl _), (.refl _), (.refl _), trivial⟩) rfl ?_
        obtain ⟨vfun_7, hvfun_7, h⟩ := bd_some h
        refine E_callF (S' := [.dead 1, .arr 0 [(.int .i64 f_5.Params), (.sl false 1 (List.map (avI .u8) f_5.Locals)), (.bool f_5.Result), (.int .i64 f_5.Keep), (.sl false 3 (List.map Instr.av f_5.Code))], .arr 1 (flat (avI .u8) vfun_7.2)]) (r' := (.tup [(.ref 2 1 0 (List.length vfun_7.2) none), (.bool vfun_7.1)])) (code_function_r_ev hvfun_7) [0] rfl rfl (by decide) rfl rfl ⟨(fr_in rfl rfl (.refl ((encI .u8).blwf 0 _))), trivial⟩ ⟨(fr_outD rfl rfl rfl), (fr_outN rfl rfl (.refl ((encI .u8).blwf 0 _)) rfl), trivial⟩ ⟨.inl rfl, .inr rfl, trivial⟩ rfl (.cons (fi_ref rfl rfl rfl rfl) (.cons (.base (Func.enc.blw _ 0) (.refl _)) (.nil (Nat.zero_le _)))) (rn_tup ⟨(fo_ref rfl rfl rfl rfl), (rn_b rfl), trivial⟩) ?_
        refine E_mv (v' := (.tup [(.ref 2 1 0 (List.length vfun_7.2) none), (.bool vfun_7.1)])) rfl ?_
        refine E_op0 (v' := (.ref 2 1 0 (List.length vfun_7.2) none)) rfl rfl ?_
        refine E_op0 (v' := (.bool vfun_7.1)) rfl rfl ?_
        refine E_mv (v' := (.ref 2 1 0 (List.length vfun_7.2) none)) rfl ?_
        refine E_mv (v' := (.bool vfun_7.1)) rfl ?_
        refine E_nil ?_
        refine E_nx ?_
        refine E_sq ?_
        refine E_reg ?_
        refine E_mv (v' := (.bool vfun_7.1)) rfl ?_
        refine E_op0 (v' := (.bool (!vfun_7.1))) rfl rfl ?_
        refine E_nil ?_
        refine E_nx ?_
        refine E_cs (t := (!vfun_7.1)) rfl (fun hb => ?_) (fun hb => ?_)
        · rw [ite_t hb] at h
          refine E_sq ?_
          refine E_reg ?_
          refine E_mv (v' := .nils) rfl ?_
          refine E_mv (v' := (.int .i64 30)) rfl ?_
          refine E_nil ?_
          refine E_nx ?_
          refine E_ret ?_
          cases h
          refine L_rrO rfl (fun h => ?_)
          refine E_thr ?_
          cases h
          exact ⟨trivial, _, rfl, (fz_tup ⟨(fz_b rfl .nil), (fz_b rfl (.refl _)), trivial⟩)⟩
        · rw [ite_f hb] at h
          refine E_skip ?_
          cases h
          exact L_nn rfl (wk_rn [some (2, 0)] rfl (Nat.le_of_ble_eq_true rfl) ⟨(rn_ob rfl rfl (.refl ((encI .u8).blwf 0 _)) rfl), trivial⟩ ⟨(rn_b rfl), (rn_b rfl), (rn_refL (encI .u8) rfl rfl rfl), (rn_b (Func.enc.blws 0)), trivial⟩)
      · refine X_nx hw ?_
        refine E_sq ?_
        refine E_reg ?_
        refine E_mv (v' := (.ref 0 1 0 (List.length s_3) none)) rfl ?_
        refine E_mv (v' := (.ref 0 1 0 (List.length s_3) none)) rfl ?_
        refine E_mv (v' := (.int .i64 0)) rfl ?_
        refine E_nil ?_
        refine E_nx ?_
        refine E_ret ?_
        cases h
        exact ⟨trivial, _, rfl, (fz_tup ⟨(fz_ref (encI .u8) (Nat.zero_le _) rfl), (fz_b rfl (.refl _)), trivial⟩)⟩
/- windlass/windlassref03.low -/
def fc67 : FC := (.seq (.reg [⟨(some 4), none, .op (.mv (.v .nils))⟩] [])
  (.seq (.reg [⟨(some 5), none, .op (.mv (.v .nils))⟩] [])
  (.seq (.seq (.reg [⟨(some 6), none, .op (.mv (.v (.int .i64 0)))⟩] [])
  (.block 0 (.loop (.seq (.seq (.reg [⟨(some 7), none, .op (.mv (.t 6))⟩,
  ⟨(some 8), none, .op (.mv (.t 1))⟩,
  ⟨(some 9), none, .op (.bin .none .lss (.t 7) (.t 8))⟩] [])
  (.cond (.t 9)
  .skip
  (.exit 0)))
  (.seq (.block 1 (.seq (.reg [⟨(some 12), none, .op (.mv (.t 5))⟩,
  ⟨(some 13), none, .op (.mv (.t 0))⟩,
  ⟨(some 14), none, .op (.bin .none .rem (.t 13) (.v (.int .u64 256)))⟩,
  ⟨(some 15), none, .op (.cint .u8 (.t 14))⟩,
  ⟨(some 16), none, .op (.bsl none [(.int .u8 0)] 1 [(0, 1, (.t 15))])⟩,
  ⟨(some 17), none, .op (.app none 1 (.t 12) (.t 16))⟩,
  ⟨(some 5), none, .op (.mv (.t 17))⟩] [])
  (.reg [⟨(some 18), none, .op (.mv (.t 0))⟩,
  ⟨(some 19), none, .op (.bin .none .quo (.t 18) (.v (.int .u64 256)))⟩,
  ⟨(some 0), none, .op (.mv (.t 19))⟩] [])))
  (.reg [⟨(some 10), none, .op (.mv (.t 6))⟩,
  ⟨(some 11), none, .op (.bin .none .add (.t 10) (.v (.int .i64 1)))⟩,
  ⟨(some 6), none, .op (.mv (.t 11))⟩] []))))))
  (.seq (.reg [⟨(some 20), none, .op (.mv (.t 5))⟩,
  ⟨(some 4), none, .op (.mv (.t 20))⟩] [])
  .ret))))
theorem fn67 : Fn3 Tryd.prog 67 21 [(4, none)] fc67 := ⟨_, _, Tryd.func67, rfl, rfl, rfl, by kernel_rfl⟩
def windlassref03_low_s (fuel : Nat) (v_00 : Int) (n_01 : Int) : Option (List Int) :=
  ((whileN (fun (s_1 : (Int × Int × Int × (List Int))) => ((if (decide (s_1.2.2.1 < s_1.2.1)) then ((appL 1 s_1.2.2.2 [(U8 (Int.tmod s_1.1 256))]).bind fun l_2 => (some (.nxt ((U64 (Int.tdiv s_1.1 256)), s_1.2.1, (I64 (s_1.2.2.1 + 1)), l_2)))) else (some (.brk (s_1.1, s_1.2.1, s_1.2.2.1, s_1.2.2.2)))) : Option (Stp (Int × Int × Int × (List Int)) (Option (List Int))))) fuel (v_00, n_01, 0, [])).bind (oc (fun (s_1 : (Int × Int × Int × (List Int))) => (some s_1.2.2.2))))
theorem windlassref03_low_ev {fuel : Nat} {v_00 : Int} {n_01 : Int} {r : (List Int)} (h : windlassref03_low_s fuel v_00 n_01 = some r) : PureEv Tryd.prog 67 [(.int .u64 v_00), (.int .i64 n_01)] (.sl false 1 (List.map (avI .u8) r)) := by
  unfold windlassref03_low_s at h
  refine PureEv_end mixed fn67 (by simp) [17] 6 ?_
  unfold fc67
  refine E_sq ?_
  refine E_reg ?_
  refine E_mv (v' := .nils) rfl ?_
  refine E_nil ?_
  refine E_nx ?_
  refine E_sq ?_
  refine E_reg ?_
  refine E_mv (v' := .nils) rfl ?_
  refine E_nil ?_
  refine E_nx ?_
  refine E_as ?_
  refine E_sq ?_
  refine E_reg ?_
  refine E_mv (v' := (.int .i64 0)) rfl ?_
  refine E_nil ?_
  refine E_nx ?_
  refine E_sq ?_
  refine E_whileO (fun s_1 => [(0, (.int .u64 s_1.1)), (1, (.int .i64 s_1.2.1)), (5, (.ref 0 1 0 (List.length s_1.2.2.2) none)), (6, (.int .i64 s_1.2.2.1))]) (fun s_1 => [.arr 1 (flat (avI .u8) s_1.2.2.2)]) h (wk_rn [none] rfl (Nat.le_of_ble_eq_true rfl) ⟨(rn_obN rfl rfl rfl), trivial⟩ ⟨(rn_b rfl), (rn_b rfl), (rn_nil rfl), (rn_b rfl), trivial⟩) (fun s_1 c h => ?_) (fun s_1 fr' S' h hw => ?_)
  · refine E_as ?_
    refine E_sq ?_
    refine E_reg ?_
    refine E_mv (v' := (.int .i64 s_1.2.2.1)) rfl ?_
    refine E_mv (v' := (.int .i64 s_1.2.1)) rfl ?_
    refine E_op0 (v' := (.bool (decide (s_1.2.2.1 < s_1.2.1)))) rfl rfl ?_
    refine E_nil ?_
    refine E_nx ?_
    refine E_sq ?_
    refine E_cs (t := (decide (s_1.2.2.1 < s_1.2.1))) rfl (fun hb => ?_) (fun hb => ?_)
    · rw [ite_t hb] at h
      refine E_skip ?_
      refine E_nx ?_
      refine E_sq ?_
      refine E_block ?_
      refine E_sq ?_
      refine E_reg ?_
      refine E_mv (v' := (.ref 0 1 0 (List.length s_1.2.2.2) none)) rfl ?_
      refine E_mv (v' := (.int .u64 s_1.1)) rfl ?_
      refine E_op0 (v' := (.int .u64 (Int.tmod s_1.1 256))) rfl rfl ?_
      refine E_op0 (v' := (.int .u8 (U8 (Int.tmod s_1.1 256)))) rfl rfl ?_
      refine E_opw (v' := (.sl true 1 (List.map (avI .u8) [(U8 (Int.tmod s_1.1 256))]))) rfl (.refl _) rfl ?_
      obtain ⟨l_2, hl_2, h⟩ := bd_some h
      refine E_apL (S' := [.arr 2 (flat (avI .u8) l_2)]) (encI .u8) rfl (src_sl [(U8 (Int.tmod s_1.1 256))]) rfl hl_2 rfl ?_
      refine E_mv (v' := (.ref 0 2 0 (List.length l_2) none)) rfl ?_
      refine E_nil ?_
      refine E_nx ?_
      refine E_reg ?_
      refine E_mv (v' := (.int .u64 s_1.1)) rfl ?_
      refine E_op0 (v' := (.int .u64 (U64 (Int.tdiv s_1.1 256)))) rfl rfl ?_
      refine E_mv (v' := (.int .u64 (U64 (Int.tdiv s_1.1 256)))) rfl ?_
      refine E_nil ?_
      refine E_bln ?_
      refine E_nx ?_
      refine E_reg ?_
      refine E_mv (v' := (.int .i64 s_1.2.2.1)) rfl ?_
      refine E_op0 (v' := (.int .i64 (I64 (s_1.2.2.1 + 1)))) rfl rfl ?_
      refine E_mv (v' := (.int .i64 (I64 (s_1.2.2.1 + 1)))) rfl ?_
      refine E_nil ?_
      cases h
      exact L_nn rfl (wk_rn [some (0, 0)] rfl (Nat.le_of_ble_eq_true rfl) ⟨(rn_ob rfl rfl (.refl ((encI .u8).blwf 0 _)) rfl), trivial⟩ ⟨(rn_b rfl), (rn_b rfl), (rn_refL (encI .u8) rfl rfl rfl), (rn_b rfl), trivial⟩)
    · rw [ite_f hb] at h
      refine E_exit ?_
      refine E_the ?_
      cases h
      exact L_bk rfl rfl rfl (wk_rn [some (0, 0)] rfl (Nat.le_of_ble_eq_true rfl) ⟨(rn_ob rfl rfl (.refl ((encI .u8).blwf 0 _)) rfl), trivial⟩ ⟨(rn_b rfl), (rn_b rfl), (rn_refL (encI .u8) rfl rfl rfl), (rn_b rfl), trivial⟩)
  · refine X_nx hw ?_
    refine E_sq ?_
    refine E_reg ?_
    refine E_mv (v' := (.ref 0 1 0 (List.length s_1.2.2.2) none)) rfl ?_
    refine E_mv (v' := (.ref 0 1 0 (List.length s_1.2.2.2) none)) rfl ?_
    refine E_nil ?_
    refine E_nx ?_
    refine E_ret ?_
    cases h
    exact ⟨trivial, _, rfl, (fz_ref (encI .u8) (Nat.zero_le _) rfl)⟩
/- windlass/windlassref03.Width -/
def fc69 : FC := (.seq (.reg [⟨(some 2), none, .op (.mv (.v (.int .i64 0)))⟩] [])
  (.seq (.seq (.reg [⟨(some 3), none, .op (.mv (.t 0))⟩,
  ⟨(some 4), none, .op (.bin .none .lss (.t 3) (.v (.int .u8 1)))⟩,
  ⟨(some 5), none, .op (.mv (.t 4))⟩,
  ⟨(some 6), some (5, false), .op (.mv (.t 0))⟩,
  ⟨(some 7), some (5, false), .op (.bin .none .gtr (.t 6) (.v (.int .u8 32)))⟩,
  ⟨(some 8), none, .op (.pick (.t 5) (.v (.bool true)) (.t 7))⟩] [])
  (.cond (.t 8)
  (.seq (.reg [⟨(some 2), none, .op (.mv (.v (.int .i64 (-1))))⟩] [])
  .ret)
  .skip))
  (.seq (.seq (.reg [⟨(some 9), none, .op (.mv (.t 0))⟩,
  ⟨(some 10), none, .op (.bin .none .eql (.t 9) (.v (.int .u8 1)))⟩] [])
  (.cond (.t 10)
  (.seq (.reg [⟨(some 2), none, .op (.mv (.v (.int .i64 8)))⟩] [])
  .ret)
  .skip))
  (.seq (.seq (.reg [⟨(some 11), none, .op (.mv (.t 0))⟩,
  ⟨(some 12), none, .op (.bin .none .eql (.t 11) (.v (.int .u8 2)))⟩,
  ⟨(some 13), none, .op (.mv (.t 12))⟩,
  ⟨(some 14), some (13, false), .op (.mv (.t 0))⟩,
  ⟨(some 15), some (13, false), .op (.bin .none .eql (.t 14) (.v (.int .u8 3)))⟩,
  ⟨(some 16), none, .op (.pick (.t 13) (.v (.bool true)) (.t 15))⟩,
  ⟨(some 17), none, .op (.mv (.t 16))⟩,
  ⟨(some 18), some (17, false), .op (.mv (.t 0))⟩,
  ⟨(some 19), some (17, false), .op (.bin .none .eql (.t 18) (.v (.int .u8 4)))⟩,
  ⟨(some 20), none, .op (.pick (.t 17) (.v (.bool true)) (.t 19))⟩,
  ⟨(some 21), none, .op (.mv (.t 20))⟩,
  ⟨(some 22), some (21, false), .op (.mv (.t 0))⟩,
  ⟨(some 23), some (21, false), .op (.bin .none .eql (.t 22) (.v (.int .u8 23)))⟩,
  ⟨(some 24), none, .op (.pick (.t 21) (.v (.bool true)) (.t 23))⟩,
  ⟨(some 25), none, .op (.mv (.t 24))⟩,
  ⟨(some 26), some (25, false), .op (.mv (.t 0))⟩,
  ⟨(some 27), some (25, false), .op (.bin .none .eql (.t 26) (.v (.int .u8 25)))⟩,
  ⟨(some 28), none, .op (.pick (.t 25) (.v (.bool true)) (.t 27))⟩] [])
  (.cond (.t 28)
  (.seq (.reg [⟨(some 2), none, .op (.mv (.v (.int .i64 1)))⟩] [])
  .ret)
  .skip))
  (.seq (.seq (.reg [⟨(some 29), none, .op (.mv (.t 0))⟩,
  ⟨(some 30), none, .op (.bin .none .eql (.t 29) (.v (.int .u8 21)))⟩,
  ⟨(some 31), none, .op (.mv (.t 30))⟩,
  ⟨(some 32), some (31, false), .op (.mv (.t 0))⟩,
  ⟨(some 33), some (31, false), .op (.bin .none .eql (.t 32) (.v (.int .u8 22)))⟩,
  ⟨(some 34), none, .op (.pick (.t 31) (.v (.bool true)) (.t 33))⟩] [])
  (.cond (.t 34)
  (.seq (.reg [⟨(some 2), none, .op (.mv (.v (.int .i64 2)))⟩] [])
  .ret)
  .skip))
  (.seq (.reg [⟨(some 2), none, .op (.mv (.v (.int .i64 0)))⟩] [])
  .ret))))))
theorem fn69 : Fn3 Tryd.prog 69 35 [(2, none)] fc69 := ⟨_, _, Tryd.func69, rfl, rfl, rfl, by kernel_rfl⟩
def windlassref03_Width_s (op_00 : Int) : Option Int :=
  (jp (fun (s_2 : Bool) => (if s_2 then (some (-1)) else (if (op_00 == 1) then (some 8) else (jp (fun (s_4 : Bool) => (if s_4 then (some 1) else (jp (fun (s_6 : Bool) => (if s_6 then (some 2) else (some 0))) (fun k_5 => (if (op_00 == 21) then (k_5 true) else (k_5 (op_00 == 22))))))) (fun k_3 => (if (op_00 == 2) then (k_3 true) else (if (op_00 == 3) then (k_3 true) else (if (op_00 == 4) then (k_3 true) else (if (op_00 == 23) then (k_3 true) else (k_3 (op_00 == 25))))))))))) (fun k_1 => (if (decide (op_00 < 1)) then (k_1 true) else (k_1 (decide (op_00 > 32))))))
theorem windlassref03_Width_ev {op_00 : Int} {r : Int} (h : windlassref03_Width_s op_00 = some r) : PureEv Tryd.prog 69 [(.int .u8 op_00)] (.int .i64 r) := by
  unfold windlassref03_Width_s at h
  refine PureEv_end mixed fn69 (by simp) [] 6 ?_
  unfold fc69
  refine E_sq ?_
  refine E_reg ?_
  refine E_mv (v' := (.int .i64 0)) rfl ?_
  refine E_nil ?_
  refine E_nx ?_
  refine E_as ?_
  refine E_jp h (fun s_2 => [(0, (.int .u8 op_00)), (8, (.bool s_2))]) (fun s_2 => []) (fun k_1 h => ?_) (fun s_2 h => ?_)
  · refine E_reg ?_
    refine E_mv (v' := (.int .u8 op_00)) rfl ?_
    refine E_op0 (v' := (.bool (decide (op_00 < 1)))) rfl rfl ?_
    refine E_mv (v' := (.bool (decide (op_00 < 1)))) rfl ?_
    refine E_gsT (b := (decide (op_00 < 1))) rfl rfl rfl (fun hb => ?_) (fun hb => ?_)
    · rw [ite_f hb] at h
      refine E_mv (v' := (.int .u8 op_00)) rfl ?_
      refine E_gh rfl ?_
      refine E_op0 (v' := (.bool (decide (op_00 > 32)))) rfl rfl ?_
      refine E_pf rfl rfl ?_
      refine E_nil ?_
      exact E_jx _ h (wk_aw ⟨(.refl _), (.refl _), trivial⟩)
    · rw [ite_t hb] at h
      refine E_gm rfl ?_
      refine E_pt rfl rfl ?_
      refine E_nil ?_
      exact E_jx _ h (wk_aw ⟨(.refl _), (.refl _), trivial⟩)
  · refine E_sq ?_
    refine E_cs (t := s_2) rfl (fun hb => ?_) (fun hb => ?_)
    · rw [ite_t hb] at h
      refine E_sq ?_
      refine E_reg ?_
      refine E_mv (v' := (.int .i64 (-1))) rfl ?_
      refine E_nil ?_
      refine E_nx ?_
      refine E_ret ?_
      refine E_thr ?_
      cases h
      exact ⟨trivial, _, rfl, (fz_b rfl (.refl _))⟩
    · rw [ite_f hb] at h
      refine E_skip ?_
      refine E_nx ?_
      refine E_as ?_
      refine E_sq ?_
      refine E_reg ?_
      refine E_mv (v' := (.int .u8 op_00)) rfl ?_
      refine E_op0 (v' := (.bool (op_00 == 1))) rfl rfl ?_
      refine E_nil ?_
      refine E_nx ?_
      refine E_sq ?_
      refine E_cs (t := (op_00 == 1)) rfl (fun hb => ?_) (fun hb => ?_)
      · rw [ite_t hb] at h
        refine E_sq ?_
        refine E_reg ?_
        refine E_mv (v' := (.int .i64 8)) rfl ?_
        refine E_nil ?_
        refine E_nx ?_
        refine E_ret ?_
        refine E_thr ?_
        cases h
        exact ⟨trivial, _, rfl, (fz_b rfl (.refl _))⟩
      · rw [ite_f hb] at h
        refine E_skip ?_
        refine E_nx ?_
        refine E_as ?_
        refine E_jp h (fun s_4 => [(0, (.int .u8 op_00)), (28, (.bool s_4))]) (fun s_4 => []) (fun k_3 h => ?_) (fun s_4 h => ?_)
        · refine E_reg ?_
          refine E_mv (v' := (.int .u8 op_00)) rfl ?_
          refine E_op0 (v' := (.bool (op_00 == 2))) rfl rfl ?_
          refine E_mv (v' := (.bool (op_00 == 2))) rfl ?_
          refine E_gsT (b := (op_00 == 2)) rfl rfl rfl (fun hb => ?_) (fun hb => ?_)
          · rw [ite_f hb] at h
            refine E_mv (v' := (.int .u8 op_00)) rfl ?_
            refine E_gh rfl ?_
            refine E_op0 (v' := (.bool (op_00 == 3))) rfl rfl ?_
            refine E_pf rfl rfl ?_
            refine E_mv (v' := (.bool (op_00 == 3))) rfl ?_
            refine E_gsT (b := (op_00 == 3)) rfl rfl rfl (fun hb => ?_) (fun hb => ?_)
            · rw [ite_f hb] at h
              refine E_mv (v' := (.int .u8 op_00)) rfl ?_
              refine E_gh rfl ?_
              refine E_op0 (v' := (.bool (op_00 == 4))) rfl rfl ?_
              refine E_pf rfl rfl ?_
              refine E_mv (v' := (.bool (op_00 == 4))) rfl ?_
              refine E_gsT (b := (op_00 == 4)) rfl rfl rfl (fun hb => ?_) (fun hb => ?_)
              · rw [ite_f hb] at h
                refine E_mv (v' := (.int .u8 op_00)) rfl ?_
                refine E_gh rfl ?_
                refine E_op0 (v' := (.bool (op_00 == 23))) rfl rfl ?_
                refine E_pf rfl rfl ?_
                refine E_mv (v' := (.bool (op_00 == 23))) rfl ?_
                refine E_gsT (b := (op_00 == 23)) rfl rfl rfl (fun hb => ?_) (fun hb => ?_)
                · rw [ite_f hb] at h
                  refine E_mv (v' := (.int .u8 op_00)) rfl ?_
                  refine E_gh rfl ?_
                  refine E_op0 (v' := (.bool (op_00 == 25))) rfl rfl ?_
                  refine E_pf rfl rfl ?_
                  refine E_nil ?_
                  exact E_jx _ h (wk_aw ⟨(.refl _), (.refl _), trivial⟩)
                · rw [ite_t hb] at h
                  refine E_gm rfl ?_
                  refine E_pt rfl rfl ?_
                  refine E_nil ?_
                  exact E_jx _ h (wk_aw ⟨(.refl _), (.refl _), trivial⟩)
              · rw [ite_t hb] at h
                refine E_gm rfl ?_
                refine E_pt rfl rfl ?_
                refine E_mv (v' := (.bool true)) rfl ?_
                refine E_gm rfl ?_
                refine E_gm rfl ?_
                refine E_pt rfl rfl ?_
                refine E_nil ?_
                exact E_jx _ h (wk_aw ⟨(.refl _), (.refl _), trivial⟩)
            · rw [ite_t hb] at h
              refine E_gm rfl ?_
              refine E_pt rfl rfl ?_
              refine E_mv (v' := (.bool true)) rfl ?_
              refine E_gm rfl ?_
              refine E_gm rfl ?_
              refine E_pt rfl rfl ?_
              refine E_mv (v' := (.bool true)) rfl ?_
              refine E_gm rfl ?_
              refine E_gm rfl ?_
              refine E_pt rfl rfl ?_
              refine E_nil ?_
              exact E_jx _ h (wk_aw ⟨(.refl _), (.refl _), trivial⟩)
          · rw [ite_t hb] at h
            refine E_gm rfl ?_
            refine E_pt rfl rfl ?_
            refine E_mv (v' := (.bool true)) rfl ?_
            refine E_gm rfl ?_
            refine E_gm rfl ?_
            refine E_pt rfl rfl ?_
            refine E_mv (v' := (.bool true)) rfl ?_
            refine E_gm rfl ?_
            refine E_gm rfl ?_
            refine E_pt rfl rfl ?_
            refine E_mv (v' := (.bool true)) rfl ?_
            refine E_gm rfl ?_
            refine E_gm rfl ?_
            refine E_pt rfl rfl ?_
            refine E_nil ?_
            exact E_jx _ h (wk_aw ⟨(.refl _), (.refl _), trivial⟩)
        · refine E_sq ?_
          refine E_cs (t := s_4) rfl (fun hb => ?_) (fun hb => ?_)
          · rw [ite_t hb] at h
            refine E_sq ?_
            refine E_reg ?_
            refine E_mv (v' := (.int .i64 1)) rfl ?_
            refine E_nil ?_
            refine E_nx ?_
            refine E_ret ?_
            refine E_thr ?_
            cases h
            exact ⟨trivial, _, rfl, (fz_b rfl (.refl _))⟩
          · rw [ite_f hb] at h
            refine E_skip ?_
            refine E_nx ?_
            refine E_as ?_
            refine E_jp h (fun s_6 => [(34, (.bool s_6))]) (fun s_6 => []) (fun k_5 h => ?_) (fun s_6 h => ?_)
            · refine E_reg ?_
              refine E_mv (v' := (.int .u8 op_00)) rfl ?_
              refine E_op0 (v' := (.bool (op_00 == 21))) rfl rfl ?_
              refine E_mv (v' := (.bool (op_00 == 21))) rfl ?_
              refine E_gsT (b := (op_00 == 21)) rfl rfl rfl (fun hb => ?_) (fun hb => ?_)
              · rw [ite_f hb] at h
                refine E_mv (v' := (.int .u8 op_00)) rfl ?_
                refine E_gh rfl ?_
                refine E_op0 (v' := (.bool (op_00 == 22))) rfl rfl ?_
                refine E_pf rfl rfl ?_
                refine E_nil ?_
                exact E_jx _ h (wk_aw ⟨(.refl _), trivial⟩)
              · rw [ite_t hb] at h
                refine E_gm rfl ?_
                refine E_pt rfl rfl ?_
                refine E_nil ?_
                exact E_jx _ h (wk_aw ⟨(.refl _), trivial⟩)
            · refine E_sq ?_
              refine E_cs (t := s_6) rfl (fun hb => ?_) (fun hb => ?_)
              · rw [ite_t hb] at h
                refine E_sq ?_
                refine E_reg ?_
                refine E_mv (v' := (.int .i64 2)) rfl ?_
                refine E_nil ?_
                refine E_nx ?_
                refine E_ret ?_
                refine E_thr ?_
                cases h
                exact ⟨trivial, _, rfl, (fz_b rfl (.refl _))⟩
              · rw [ite_f hb] at h
                refine E_skip ?_
                refine E_nx ?_
                refine E_sq ?_
                refine E_reg ?_
                refine E_mv (v' := (.int .i64 0)) rfl ?_
                refine E_nil ?_
                refine E_nx ?_
                refine E_ret ?_
                cases h
                exact ⟨trivial, _, rfl, (fz_b rfl (.refl _))⟩
/- windlass/windlassref03.Says -/
def fc68 : FC := (.seq (.reg [⟨(some 1), none, .op (.box (.t 0))⟩,
  ⟨(some 2), none, .op (.mv (.v (.bool false)))⟩] [])
  (.seq (.seq (.reg [⟨(some 3), none, .op (.fad 0 (.t 1))⟩,
  ⟨(some 4), none, .op (.load none (.t 3))⟩,
  ⟨(some 5), none, .call 69 [(.t 4)]⟩] [])
  (.block 0 (.seq (.reg [⟨(some 7), none, .op (.bin .none .eql (.t 5) (.v (.int .i64 8)))⟩,
  ⟨(some 6), none, .op (.mv (.t 7))⟩] [])
  (.cond (.t 6)
  (.seq (.reg [⟨(some 8), none, .op (.fad 1 (.t 1))⟩,
  ⟨(some 9), none, .op (.load none (.t 8))⟩,
  ⟨(some 10), none, .op (.bin .none .eql (.t 9) (.v (.int .i64 0)))⟩,
  ⟨(some 2), none, .op (.mv (.t 10))⟩] [])
  .ret)
  (.seq (.reg [⟨(some 12), none, .op (.bin .none .eql (.t 5) (.v (.int .i64 1)))⟩,
  ⟨(some 11), none, .op (.mv (.t 12))⟩] [])
  (.cond (.t 11)
  (.seq (.reg [⟨(some 13), none, .op (.fad 2 (.t 1))⟩,
  ⟨(some 14), none, .op (.load none (.t 13))⟩,
  ⟨(some 15), none, .op (.bin .none .eql (.t 14) (.v (.int .u64 0)))⟩,
  ⟨(some 16), none, .op (.mv (.t 15))⟩,
  ⟨(some 17), some (16, true), .op (.fad 1 (.t 1))⟩,
  ⟨(some 18), some (16, true), .op (.load none (.t 17))⟩,
  ⟨(some 19), some (16, true), .op (.bin .none .geq (.t 18) (.v (.int .i64 0)))⟩,
  ⟨(some 20), none, .op (.pick (.t 16) (.t 19) (.v (.bool false)))⟩,
  ⟨(some 21), none, .op (.mv (.t 20))⟩,
  ⟨(some 22), some (21, true), .op (.fad 1 (.t 1))⟩,
  ⟨(some 23), some (21, true), .op (.load none (.t 22))⟩,
  ⟨(some 24), some (21, true), .op (.bin .none .leq (.t 23) (.v (.int .i64 255)))⟩,
  ⟨(some 25), none, .op (.pick (.t 21) (.t 24) (.v (.bool false)))⟩,
  ⟨(some 2), none, .op (.mv (.t 25))⟩] [])
  .ret)
  (.seq (.reg [⟨(some 27), none, .op (.bin .none .eql (.t 5) (.v (.int .i64 2)))⟩,
  ⟨(some 26), none, .op (.mv (.t 27))⟩] [])
  (.cond (.t 26)
  (.seq (.reg [⟨(some 28), none, .op (.fad 2 (.t 1))⟩,
  ⟨(some 29), none, .op (.load none (.t 28))⟩,
  ⟨(some 30), none, .op (.bin .none .eql (.t 29) (.v (.int .u64 0)))⟩,
  ⟨(some 31), none, .op (.mv (.t 30))⟩,
  ⟨(some 32), some (31, true), .op (.fad 1 (.t 1))⟩,
  ⟨(some 33), some (31, true), .op (.load none (.t 32))⟩,
  ⟨(some 34), some (31, true), .op (.bin .none .geq (.t 33) (.v (.int .i64 0)))⟩,
  ⟨(some 35), none, .op (.pick (.t 31) (.t 34) (.v (.bool false)))⟩,
  ⟨(some 36), none, .op (.mv (.t 35))⟩,
  ⟨(some 37), some (36, true), .op (.fad 1 (.t 1))⟩,
  ⟨(some 38), some (36, true), .op (.load none (.t 37))⟩,
  ⟨(some 39), some (36, true), .op (.bin .none .leq (.t 38) (.v (.int .i64 65535)))⟩,
  ⟨(some 40), none, .op (.pick (.t 36) (.t 39) (.v (.bool false)))⟩,
  ⟨(some 2), none, .op (.mv (.t 40))⟩] [])
  .ret)
  (.seq (.reg [⟨(some 42), none, .op (.bin .none .eql (.t 5) (.v (.int .i64 0)))⟩,
  ⟨(some 41), none, .op (.mv (.t 42))⟩] [])
  (.cond (.t 41)
  (.seq (.reg [⟨(some 43), none, .op (.fad 2 (.t 1))⟩,
  ⟨(some 44), none, .op (.load none (.t 43))⟩,
  ⟨(some 45), none, .op (.bin .none .eql (.t 44) (.v (.int .u64 0)))⟩,
  ⟨(some 46), none, .op (.mv (.t 45))⟩,
  ⟨(some 47), some (46, true), .op (.fad 1 (.t 1))⟩,
  ⟨(some 48), some (46, true), .op (.load none (.t 47))⟩,
  ⟨(some 49), some (46, true), .op (.bin .none .eql (.t 48) (.v (.int .i64 0)))⟩,
  ⟨(some 50), none, .op (.pick (.t 46) (.t 49) (.v (.bool false)))⟩,
  ⟨(some 2), none, .op (.mv (.t 50))⟩] [])
  .ret)
  .skip))))))))))
  (.seq (.reg [⟨(some 2), none, .op (.mv (.v (.bool false)))⟩] [])
  .ret)))
theorem fn68 : Fn3 Tryd.prog 68 51 [(2, none)] fc68 := ⟨_, _, Tryd.func68, rfl, rfl, rfl, by kernel_rfl⟩
def windlassref03_Says_s (i_00 : Instr) : Option Bool :=
  ((windlassref03_Width_s i_00.Op).bind fun wid_1 => (if (wid_1 == 8) then (some (i_00.Arg == 0)) else (if (wid_1 == 1) then (jp (fun (s_3 : Bool) => (some s_3)) (fun k_2 => (if (i_00.Imm == 0) then (if (decide (i_00.Arg ≥ 0)) then (k_2 (decide (i_00.Arg ≤ 255))) else (k_2 false)) else (k_2 false)))) else (if (wid_1 == 2) then (jp (fun (s_5 : Bool) => (some s_5)) (fun k_4 => (if (i_00.Imm == 0) then (if (decide (i_00.Arg ≥ 0)) then (k_4 (decide (i_00.Arg ≤ 65535))) else (k_4 false)) else (k_4 false)))) else (if (wid_1 == 0) then (jp (fun (s_7 : Bool) => (some s_7)) (fun k_6 => (if (i_00.Imm == 0) then (k_6 (i_00.Arg == 0)) else (k_6 false)))) else (some false))))))
theorem windlassref03_Says_ev {i_00 : Instr} {r : Bool} (h : windlassref03_Says_s i_00 = some r) : PureEv Tryd.prog 68 [(Instr.av i_00)] (.bool r) := by
  unfold windlassref03_Says_s at h
  refine PureEv_end mixed fn68 (by simp) [] 6 ?_
  unfold fc68
  refine E_sq ?_
  refine E_reg ?_
  refine E_op0 (v' := (.cptr (Instr.av i_00).cells 0)) rfl rfl ?_
  refine E_mv (v' := (.bool false)) rfl ?_
  refine E_nil ?_
  refine E_nx ?_
  refine E_as ?_
  refine E_sq ?_
  refine E_reg ?_
  refine E_op0 (v' := (.cptr (Instr.av i_00).cells 0)) rfl rfl ?_
  refine E_op0 (v' := (.int .u8 i_00.Op)) rfl rfl ?_
  obtain ⟨wid_1, hwid_1, h⟩ := bd_some h
  refine E_callW (windlassref03_Width_ev  hwid_1) rfl ⟨(.refl _), trivial⟩ (blwL_of ⟨rfl, trivial⟩) rfl ?_
  refine E_nil ?_
  refine E_nx ?_
  refine E_sq ?_
  refine E_block ?_
  refine E_sq ?_
  refine E_reg ?_
  refine E_op0 (v' := (.bool (wid_1 == 8))) rfl rfl ?_
  refine E_mv (v' := (.bool (wid_1 == 8))) rfl ?_
  refine E_nil ?_
  refine E_nx ?_
  refine E_cs (t := (wid_1 == 8)) rfl (fun hb => ?_) (fun hb => ?_)
  · rw [ite_t hb] at h
    refine E_sq ?_
    refine E_reg ?_
    refine E_op0 (v' := (.cptr (Instr.av i_00).cells 1)) rfl rfl ?_
    refine E_op0 (v' := (.int .i64 i_00.Arg)) rfl rfl ?_
    refine E_op0 (v' := (.bool (i_00.Arg == 0))) rfl rfl ?_
    refine E_mv (v' := (.bool (i_00.Arg == 0))) rfl ?_
    refine E_nil ?_
    refine E_nx ?_
    refine E_ret ?_
    refine E_blr ?_
    refine E_thr ?_
    cases h
    exact ⟨trivial, _, rfl, (fz_b rfl (.refl _))⟩
  · rw [ite_f hb] at h
    refine E_sq ?_
    refine E_reg ?_
    refine E_op0 (v' := (.bool (wid_1 == 1))) rfl rfl ?_
    refine E_mv (v' := (.bool (wid_1 == 1))) rfl ?_
    refine E_nil ?_
    refine E_nx ?_
    refine E_cs (t := (wid_1 == 1)) rfl (fun hb => ?_) (fun hb => ?_)
    · rw [ite_t hb] at h
      refine E_jp h (fun s_3 => [(2, (.bool s_3))]) (fun s_3 => []) (fun k_2 h => ?_) (fun s_3 h => ?_)
      · refine E_reg ?_
        refine E_op0 (v' := (.cptr (Instr.av i_00).cells 2)) rfl rfl ?_
        refine E_op0 (v' := (.int .u64 i_00.Imm)) rfl rfl ?_
        refine E_op0 (v' := (.bool (i_00.Imm == 0))) rfl rfl ?_
        refine E_mv (v' := (.bool (i_00.Imm == 0))) rfl ?_
        refine E_gsT (b := (i_00.Imm == 0)) rfl rfl rfl (fun hb => ?_) (fun hb => ?_)
        · rw [ite_t hb] at h
          refine E_op0 (v' := (.cptr (Instr.av i_00).cells 1)) rfl rfl ?_
          refine E_gh rfl ?_
          refine E_op0 (v' := (.int .i64 i_00.Arg)) rfl rfl ?_
          refine E_gh rfl ?_
          refine E_op0 (v' := (.bool (decide (i_00.Arg ≥ 0)))) rfl rfl ?_
          refine E_pt rfl rfl ?_
          refine E_mv (v' := (.bool (decide (i_00.Arg ≥ 0)))) rfl ?_
          refine E_gsT (b := (decide (i_00.Arg ≥ 0))) rfl rfl rfl (fun hb => ?_) (fun hb => ?_)
          · rw [ite_t hb] at h
            refine E_op0 (v' := (.cptr (Instr.av i_00).cells 1)) rfl rfl ?_
            refine E_gh rfl ?_
            refine E_op0 (v' := (.int .i64 i_00.Arg)) rfl rfl ?_
            refine E_gh rfl ?_
            refine E_op0 (v' := (.bool (decide (i_00.Arg ≤ 255)))) rfl rfl ?_
            refine E_pt rfl rfl ?_
            refine E_mv (v' := (.bool (decide (i_00.Arg ≤ 255)))) rfl ?_
            refine E_nil ?_
            exact E_jx _ h (wk_aw ⟨(.refl _), trivial⟩)
          · rw [ite_f hb] at h
            refine E_gm rfl ?_
            refine E_gm rfl ?_
            refine E_pf rfl rfl ?_
            refine E_mv (v' := (.bool false)) rfl ?_
            refine E_nil ?_
            exact E_jx _ h (wk_aw ⟨(.refl _), trivial⟩)
        · rw [ite_f hb] at h
          refine E_gm rfl ?_
          refine E_gm rfl ?_
          refine E_pf rfl rfl ?_
          refine E_mv (v' := (.bool false)) rfl ?_
          refine E_gm rfl ?_
          refine E_gm rfl ?_
          refine E_gm rfl ?_
          refine E_pf rfl rfl ?_
          refine E_mv (v' := (.bool false)) rfl ?_
          refine E_nil ?_
          exact E_jx _ h (wk_aw ⟨(.refl _), trivial⟩)
      · refine E_ret ?_
        refine E_blr ?_
        refine E_thr ?_
        cases h
        exact ⟨trivial, _, rfl, (fz_b rfl (.refl _))⟩
    · rw [ite_f hb] at h
      refine E_sq ?_
      refine E_reg ?_
      refine E_op0 (v' := (.bool (wid_1 == 2))) rfl rfl ?_
      refine E_mv (v' := (.bool (wid_1 == 2))) rfl ?_
      refine E_nil ?_
      refine E_nx ?_
      refine E_cs (t := (wid_1 == 2)) rfl (fun hb => ?_) (fun hb => ?_)
      · rw [ite_t hb] at h
        refine E_jp h (fun s_5 => [(2, (.bool s_5))]) (fun s_5 => []) (fun k_4 h => ?_) (fun s_5 h => ?_)
        · refine E_reg ?_
          refine E_op0 (v' := (.cptr (Instr.av i_00).cells 2)) rfl rfl ?_
          refine E_op0 (v' := (.int .u64 i_00.Imm)) rfl rfl ?_
          refine E_op0 (v' := (.bool (i_00.Imm == 0))) rfl rfl ?_
          refine E_mv (v' := (.bool (i_00.Imm == 0))) rfl ?_
          refine E_gsT (b := (i_00.Imm == 0)) rfl rfl rfl (fun hb => ?_) (fun hb => ?_)
          · rw [ite_t hb] at h
            refine E_op0 (v' := (.cptr (Instr.av i_00).cells 1)) rfl rfl ?_
            refine E_gh rfl ?_
            refine E_op0 (v' := (.int .i64 i_00.Arg)) rfl rfl ?_
            refine E_gh rfl ?_
            refine E_op0 (v' := (.bool (decide (i_00.Arg ≥ 0)))) rfl rfl ?_
            refine E_pt rfl rfl ?_
            refine E_mv (v' := (.bool (decide (i_00.Arg ≥ 0)))) rfl ?_
            refine E_gsT (b := (decide (i_00.Arg ≥ 0))) rfl rfl rfl (fun hb => ?_) (fun hb => ?_)
            · rw [ite_t hb] at h
              refine E_op0 (v' := (.cptr (Instr.av i_00).cells 1)) rfl rfl ?_
              refine E_gh rfl ?_
              refine E_op0 (v' := (.int .i64 i_00.Arg)) rfl rfl ?_
              refine E_gh rfl ?_
              refine E_op0 (v' := (.bool (decide (i_00.Arg ≤ 65535)))) rfl rfl ?_
              refine E_pt rfl rfl ?_
              refine E_mv (v' := (.bool (decide (i_00.Arg ≤ 65535)))) rfl ?_
              refine E_nil ?_
              exact E_jx _ h (wk_aw ⟨(.refl _), trivial⟩)
            · rw [ite_f hb] at h
              refine E_gm rfl ?_
              refine E_gm rfl ?_
              refine E_pf rfl rfl ?_
              refine E_mv (v' := (.bool false)) rfl ?_
              refine E_nil ?_
              exact E_jx _ h (wk_aw ⟨(.refl _), trivial⟩)
          · rw [ite_f hb] at h
            refine E_gm rfl ?_
            refine E_gm rfl ?_
            refine E_pf rfl rfl ?_
            refine E_mv (v' := (.bool false)) rfl ?_
            refine E_gm rfl ?_
            refine E_gm rfl ?_
            refine E_gm rfl ?_
            refine E_pf rfl rfl ?_
            refine E_mv (v' := (.bool false)) rfl ?_
            refine E_nil ?_
            exact E_jx _ h (wk_aw ⟨(.refl _), trivial⟩)
        · refine E_ret ?_
          refine E_blr ?_
          refine E_thr ?_
          cases h
          exact ⟨trivial, _, rfl, (fz_b rfl (.refl _))⟩
      · rw [ite_f hb] at h
        refine E_sq ?_
        refine E_reg ?_
        refine E_op0 (v' := (.bool (wid_1 == 0))) rfl rfl ?_
        refine E_mv (v' := (.bool (wid_1 == 0))) rfl ?_
        refine E_nil ?_
        refine E_nx ?_
        refine E_cs (t := (wid_1 == 0)) rfl (fun hb => ?_) (fun hb => ?_)
        · rw [ite_t hb] at h
          refine E_jp h (fun s_7 => [(2, (.bool s_7))]) (fun s_7 => []) (fun k_6 h => ?_) (fun s_7 h => ?_)
          · refine E_reg ?_
            refine E_op0 (v' := (.cptr (Instr.av i_00).cells 2)) rfl rfl ?_
            refine E_op0 (v' := (.int .u64 i_00.Imm)) rfl rfl ?_
            refine E_op0 (v' := (.bool (i_00.Imm == 0))) rfl rfl ?_
            refine E_mv (v' := (.bool (i_00.Imm == 0))) rfl ?_
            refine E_gsT (b := (i_00.Imm == 0)) rfl rfl rfl (fun hb => ?_) (fun hb => ?_)
            · rw [ite_t hb] at h
              refine E_op0 (v' := (.cptr (Instr.av i_00).cells 1)) rfl rfl ?_
              refine E_gh rfl ?_
              refine E_op0 (v' := (.int .i64 i_00.Arg)) rfl rfl ?_
              refine E_gh rfl ?_
              refine E_op0 (v' := (.bool (i_00.Arg == 0))) rfl rfl ?_
              refine E_pt rfl rfl ?_
              refine E_mv (v' := (.bool (i_00.Arg == 0))) rfl ?_
              refine E_nil ?_
              exact E_jx _ h (wk_aw ⟨(.refl _), trivial⟩)
            · rw [ite_f hb] at h
              refine E_gm rfl ?_
              refine E_gm rfl ?_
              refine E_pf rfl rfl ?_
              refine E_mv (v' := (.bool false)) rfl ?_
              refine E_nil ?_
              exact E_jx _ h (wk_aw ⟨(.refl _), trivial⟩)
          · refine E_ret ?_
            refine E_blr ?_
            refine E_thr ?_
            cases h
            exact ⟨trivial, _, rfl, (fz_b rfl (.refl _))⟩
        · rw [ite_f hb] at h
          refine E_skip ?_
          refine E_bln ?_
          refine E_nx ?_
          refine E_sq ?_
          refine E_reg ?_
          refine E_mv (v' := (.bool false)) rfl ?_
          refine E_nil ?_
          refine E_nx ?_
          refine E_ret ?_
          cases h
          exact ⟨trivial, _, rfl, (fz_b rfl (.refl _))⟩
end Go.Proofs.YtkfhljombjmdbaaDoor
