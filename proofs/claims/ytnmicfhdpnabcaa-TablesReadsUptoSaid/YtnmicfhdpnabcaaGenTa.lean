/- What the functions compute, and that they do (printed by wip/gen/gen.py), part 1. -/
import Derived.Test.YtnmicfhdpnabcaaWlF7
import Derived.Test.YtnmicfhdpnabcaaRows
namespace Go.Proofs.Ytnmicfhdpnabcaa
open Go Go.Ab
set_option maxRecDepth 20000
set_option linter.unusedVariables false
set_option linter.unusedSimpArgs false
theorem mixed : Try.prog.follows .mixedOrders = true := Try.checked.mixed
structure Save where
  Reg : Int
  Off : Int
def Save.cells (x : Save) : List AV := [(.int .i64 x.Reg), (.int .i64 x.Off)]
def Save.av (x : Save) : AV := .agg (Save.cells x)
theorem Save.enc : Enc Save.av (some 2) := ⟨fun _ => rfl, fun _ => rfl, fun _ => rfl, fun x n => blwL_of ⟨((encI .i64).blw x.Reg n), ((encI .i64).blw x.Off n), trivial⟩⟩
structure FuncRow where
  Start : Int
  Stop : Int
  Size : Int
  Params : (List Int)
  Saves : (List Save)
  Resume : Int
def FuncRow.cells (x : FuncRow) : List AV := [(.int .i64 x.Start), (.int .i64 x.Stop), (.int .i64 x.Size), (.sl false 1 (List.map (avI .u8) x.Params)), (.sl false 2 (List.map Save.av x.Saves)), (.int .i64 x.Resume)]
def FuncRow.av (x : FuncRow) : AV := .agg (FuncRow.cells x)
theorem FuncRow.enc : Enc FuncRow.av (some 6) := ⟨fun _ => rfl, fun _ => rfl, fun _ => rfl, fun x n => blwL_of ⟨((encI .i64).blw x.Start n), ((encI .i64).blw x.Stop n), ((encI .i64).blw x.Size n), ((encL (encI .u8) 1).blw x.Params n), ((encL Save.enc 2).blw x.Saves n), ((encI .i64).blw x.Resume n), trivial⟩⟩
structure Site where
  At : Int
  Live : (List Int)
def Site.cells (x : Site) : List AV := [(.int .i64 x.At), (.sl false 1 (List.map (avI .i64) x.Live))]
def Site.av (x : Site) : AV := .agg (Site.cells x)
theorem Site.enc : Enc Site.av (some 2) := ⟨fun _ => rfl, fun _ => rfl, fun _ => rfl, fun x n => blwL_of ⟨((encI .i64).blw x.At n), ((encL (encI .i64) 1).blw x.Live n), trivial⟩⟩
structure Tables where
  Funcs : (List FuncRow)
  Sites : (List Site)
def Tables.cells (x : Tables) : List AV := [(.sl false 6 (List.map FuncRow.av x.Funcs)), (.sl false 2 (List.map Site.av x.Sites))]
def Tables.av (x : Tables) : AV := .agg (Tables.cells x)
theorem Tables.enc : Enc Tables.av (some 2) := ⟨fun _ => rfl, fun _ => rfl, fun _ => rfl, fun x n => blwL_of ⟨((encL FuncRow.enc 6).blw x.Funcs n), ((encL Site.enc 2).blw x.Sites n), trivial⟩⟩
structure Tables_reader where
  b : (List Int)
  bad : Bool
def Tables_reader.cells (x : Tables_reader) : List AV := [(.sl false 1 (List.map (avI .u8) x.b)), (.bool x.bad)]
def Tables_reader.av (x : Tables_reader) : AV := .agg (Tables_reader.cells x)
theorem Tables_reader.enc : Enc Tables_reader.av (some 2) := ⟨fun _ => rfl, fun _ => rfl, fun _ => rfl, fun x n => blwL_of ⟨((encL (encI .u8) 1).blw x.b n), (encB.blw x.bad n), trivial⟩⟩
structure Windlassref19_Tape where
  B : (List Int)
  At : Int
  Bad : Bool
def Windlassref19_Tape.cells (x : Windlassref19_Tape) : List AV := [(.sl false 1 (List.map (avI .u8) x.B)), (.int .i64 x.At), (.bool x.Bad)]
def Windlassref19_Tape.av (x : Windlassref19_Tape) : AV := .agg (Windlassref19_Tape.cells x)
theorem Windlassref19_Tape.enc : Enc Windlassref19_Tape.av (some 3) := ⟨fun _ => rfl, fun _ => rfl, fun _ => rfl, fun x n => blwL_of ⟨((encL (encI .u8) 1).blw x.B n), ((encI .i64).blw x.At n), (encB.blw x.Bad n), trivial⟩⟩
/- windlass/tables.offset -/
def fc21 : FC := (.seq (.reg [⟨(some 4), none, .op (.mv (.v (.bool false)))⟩] [])
  (.seq (.reg [⟨(some 5), none, .op (.mv (.t 0))⟩,
  ⟨(some 6), none, .op (.bin .none .geq (.t 5) (.v (.int .i64 0)))⟩,
  ⟨(some 7), none, .op (.mv (.t 6))⟩,
  ⟨(some 8), some (7, true), .op (.mv (.t 0))⟩,
  ⟨(some 9), some (7, true), .op (.mv (.t 1))⟩,
  ⟨(some 10), some (7, true), .op (.bin .none .lss (.t 8) (.t 9))⟩,
  ⟨(some 11), none, .op (.pick (.t 7) (.t 10) (.v (.bool false)))⟩,
  ⟨(some 12), none, .op (.mv (.t 11))⟩,
  ⟨(some 13), some (12, true), .op (.mv (.t 0))⟩,
  ⟨(some 14), some (12, true), .op (.bin .none .rem (.t 13) (.v (.int .i64 8)))⟩,
  ⟨(some 15), some (12, true), .op (.bin .none .eql (.t 14) (.v (.int .i64 0)))⟩,
  ⟨(some 16), none, .op (.pick (.t 12) (.t 15) (.v (.bool false)))⟩,
  ⟨(some 4), none, .op (.mv (.t 16))⟩] [])
  .ret))
theorem fn21 : Fn3 Try.prog 21 17 [(4, none)] fc21 := ⟨_, _, Try.func21, rfl, rfl, rfl, by kernel_rfl⟩
def tables_offset_s (o_00 : Int) (size_01 : Int) : Option Bool :=
  (jp (fun (s_2 : Bool) => (some s_2)) (fun k_1 => (if (decide (o_00 ≥ 0)) then (if (decide (o_00 < size_01)) then (k_1 ((Int.tmod o_00 8) == 0)) else (k_1 false)) else (k_1 false))))
theorem tables_offset_ev {o_00 : Int} {size_01 : Int} {r : Bool} (h : tables_offset_s o_00 size_01 = some r) : PureEv Try.prog 21 [(.int .i64 o_00), (.int .i64 size_01)] (.bool r) := by
  unfold tables_offset_s at h
  refine PureEv_end mixed fn21 (by simp) [] 6 ?_
  unfold fc21
  refine E_sq ?_
  refine E_reg ?_
  refine E_mv (v' := (.bool false)) rfl ?_
  refine E_nil ?_
  refine E_nx ?_
  refine E_jp h (fun s_2 => [(4, (.bool s_2))]) (fun s_2 => []) (fun k_1 h => ?_) (fun s_2 h => ?_)
  · refine E_reg ?_
    refine E_mv (v' := (.int .i64 o_00)) rfl ?_
    refine E_op0 (v' := (.bool (decide (o_00 ≥ 0)))) rfl rfl ?_
    refine E_mv (v' := (.bool (decide (o_00 ≥ 0)))) rfl ?_
    refine E_gsT (b := (decide (o_00 ≥ 0))) rfl rfl rfl (fun hb => ?_) (fun hb => ?_)
    · rw [ite_t hb] at h
      refine E_mv (v' := (.int .i64 o_00)) rfl ?_
      refine E_gh rfl ?_
      refine E_mv (v' := (.int .i64 size_01)) rfl ?_
      refine E_gh rfl ?_
      refine E_op0 (v' := (.bool (decide (o_00 < size_01)))) rfl rfl ?_
      refine E_pt rfl rfl ?_
      refine E_mv (v' := (.bool (decide (o_00 < size_01)))) rfl ?_
      refine E_gsT (b := (decide (o_00 < size_01))) rfl rfl rfl (fun hb => ?_) (fun hb => ?_)
      · rw [ite_t hb] at h
        refine E_mv (v' := (.int .i64 o_00)) rfl ?_
        refine E_gh rfl ?_
        refine E_op0 (v' := (.int .i64 (Int.tmod o_00 8))) rfl rfl ?_
        refine E_gh rfl ?_
        refine E_op0 (v' := (.bool ((Int.tmod o_00 8) == 0))) rfl rfl ?_
        refine E_pt rfl rfl ?_
        refine E_mv (v' := (.bool ((Int.tmod o_00 8) == 0))) rfl ?_
        refine E_nil ?_
        exact E_jx _ h (wk_aw ⟨(.refl _), trivial⟩)
      · rw [ite_f hb] at h
        refine E_gm rfl ?_
        refine E_gm rfl ?_
        refine E_pf rfl rfl ?_
        refine E_mv (v' := (.bool false)) rfl ?_
        refine E_nil ?_
        exact E_jx _ h (wk_aw ⟨(.refl _), trivial⟩)
    · rw [ite_f hb] at h
      refine E_gm rfl ?_
      refine E_gm rfl ?_
      refine E_pf rfl rfl ?_
      refine E_mv (v' := (.bool false)) rfl ?_
      refine E_gm rfl ?_
      refine E_gm rfl ?_
      refine E_gm rfl ?_
      refine E_pf rfl rfl ?_
      refine E_mv (v' := (.bool false)) rfl ?_
      refine E_nil ?_
      exact E_jx _ h (wk_aw ⟨(.refl _), trivial⟩)
  · refine E_ret ?_
    cases h
    exact ⟨trivial, _, rfl, (fz_b rfl (.refl _))⟩
/- windlass/tables.row -/
def fc19 : FC := (.seq (.reg [⟨(some 2), none, .op (.box (.t 0))⟩,
  ⟨(some 4), none, .op (.mv (.v (.bool false)))⟩] [])
  (.seq (.seq (.reg [⟨(some 10), none, .op (.fad 0 (.t 2))⟩,
  ⟨(some 11), none, .op (.load none (.t 10))⟩,
  ⟨(some 12), none, .op (.mv (.t 1))⟩,
  ⟨(some 13), none, .op (.bin .none .lss (.t 11) (.t 12))⟩,
  ⟨(some 14), none, .op (.mv (.t 13))⟩,
  ⟨(some 15), some (14, false), .op (.fad 1 (.t 2))⟩,
  ⟨(some 16), some (14, false), .op (.load none (.t 15))⟩,
  ⟨(some 17), some (14, false), .op (.fad 0 (.t 2))⟩,
  ⟨(some 18), some (14, false), .op (.load none (.t 17))⟩,
  ⟨(some 19), some (14, false), .op (.bin .none .leq (.t 16) (.t 18))⟩,
  ⟨(some 20), none, .op (.pick (.t 14) (.v (.bool true)) (.t 19))⟩,
  ⟨(some 21), none, .op (.mv (.t 20))⟩,
  ⟨(some 22), some (21, false), .op (.fad 1 (.t 2))⟩,
  ⟨(some 23), some (21, false), .op (.load none (.t 22))⟩,
  ⟨(some 24), some (21, false), .op (.bin .none .gtr (.t 23) (.v (.int .i64 1048576)))⟩,
  ⟨(some 25), none, .op (.pick (.t 21) (.v (.bool true)) (.t 24))⟩,
  ⟨(some 26), none, .op (.mv (.t 25))⟩,
  ⟨(some 27), some (26, false), .op (.fad 2 (.t 2))⟩,
  ⟨(some 28), some (26, false), .op (.load none (.t 27))⟩,
  ⟨(some 29), some (26, false), .op (.bin .none .lss (.t 28) (.v (.int .i64 0)))⟩,
  ⟨(some 30), none, .op (.pick (.t 26) (.v (.bool true)) (.t 29))⟩,
  ⟨(some 31), none, .op (.mv (.t 30))⟩,
  ⟨(some 32), some (31, false), .op (.fad 2 (.t 2))⟩,
  ⟨(some 33), some (31, false), .op (.load none (.t 32))⟩,
  ⟨(some 34), some (31, false), .op (.bin .none .gtr (.t 33) (.v (.int .i64 65536)))⟩,
  ⟨(some 35), none, .op (.pick (.t 31) (.v (.bool true)) (.t 34))⟩,
  ⟨(some 36), none, .op (.mv (.t 35))⟩,
  ⟨(some 37), some (36, false), .op (.fad 2 (.t 2))⟩,
  ⟨(some 38), some (36, false), .op (.load none (.t 37))⟩,
  ⟨(some 39), some (36, false), .op (.bin .none .rem (.t 38) (.v (.int .i64 8)))⟩,
  ⟨(some 40), some (36, false), .op (.bin .none .neq (.t 39) (.v (.int .i64 0)))⟩,
  ⟨(some 41), none, .op (.pick (.t 36) (.v (.bool true)) (.t 40))⟩,
  ⟨(some 42), none, .op (.mv (.t 41))⟩,
  ⟨(some 43), some (42, false), .op (.fad 3 (.t 2))⟩,
  ⟨(some 44), some (42, false), .op (.load none (.t 43))⟩,
  ⟨(some 45), some (42, false), .op (.len .sl (.t 44))⟩,
  ⟨(some 46), some (42, false), .op (.bin .none .gtr (.t 45) (.v (.int .i64 4)))⟩,
  ⟨(some 47), none, .op (.pick (.t 42) (.v (.bool true)) (.t 46))⟩] [])
  (.cond (.t 47)
  (.seq (.reg [⟨(some 4), none, .op (.mv (.v (.bool false)))⟩] [])
  .ret)
  .skip))
  (.seq (.seq (.reg [⟨(some 48), none, .op (.fad 5 (.t 2))⟩,
  ⟨(some 49), none, .op (.load none (.t 48))⟩,
  ⟨(some 50), none, .op (.bin .none .neq (.t 49) (.v (.int .i64 (-1))))⟩,
  ⟨(some 51), none, .op (.mv (.t 50))⟩,
  ⟨(some 52), some (51, true), .op (.fad 5 (.t 2))⟩,
  ⟨(some 53), some (51, true), .op (.load none (.t 52))⟩,
  ⟨(some 54), some (51, true), .op (.fad 0 (.t 2))⟩,
  ⟨(some 55), some (51, true), .op (.load none (.t 54))⟩,
  ⟨(some 56), some (51, true), .op (.bin .none .lss (.t 53) (.t 55))⟩,
  ⟨(some 57), some (51, true), .op (.mv (.t 56))⟩,
  ⟨(some 58), some (57, false), .op (.fad 5 (.t 2))⟩,
  ⟨(some 59), some (57, false), .op (.load none (.t 58))⟩,
  ⟨(some 60), some (57, false), .op (.fad 1 (.t 2))⟩,
  ⟨(some 61), some (57, false), .op (.load none (.t 60))⟩,
  ⟨(some 62), some (57, false), .op (.bin .none .geq (.t 59) (.t 61))⟩,
  ⟨(some 63), some (51, true), .op (.pick (.t 57) (.v (.bool true)) (.t 62))⟩,
  ⟨(some 64), none, .op (.pick (.t 51) (.t 63) (.v (.bool false)))⟩] [])
  (.cond (.t 64)
  (.seq (.reg [⟨(some 4), none, .op (.mv (.v (.bool false)))⟩] [])
  .ret)
  .skip))
  (.seq (.seq (.reg [⟨(some 65), none, .op (.fad 3 (.t 2))⟩,
  ⟨(some 66), none, .op (.load none (.t 65))⟩,
  ⟨(some 67), none, .op (.len .sl (.t 66))⟩,
  ⟨(some 68), none, .op (.mv (.v (.int .i64 0)))⟩] [])
  (.block 0 (.loop (.seq (.reg [⟨(some 69), none, .op (.bin .none .lss (.t 68) (.t 67))⟩] [])
  (.seq (.cond (.t 69)
  .skip
  (.exit 0))
  (.seq (.block 1 (.seq (.reg [⟨(some 70), none, .op (.iad none none (.t 66) (.t 68))⟩,
  ⟨(some 71), none, .op (.load none (.t 70))⟩,
  ⟨(some 6), none, .op (.mv (.t 71))⟩] [])
  (.seq (.reg [⟨(some 72), none, .op (.mv (.t 6))⟩,
  ⟨(some 73), none, .op (.bin .none .gtr (.t 72) (.v (.int .u8 1)))⟩] [])
  (.cond (.t 73)
  (.seq (.reg [⟨(some 4), none, .op (.mv (.v (.bool false)))⟩] [])
  .ret)
  .skip))))
  (.reg [⟨(some 74), none, .op (.bin .none .add (.t 68) (.v (.int .i64 1)))⟩,
  ⟨(some 68), none, .op (.mv (.t 74))⟩] [])))))))
  (.seq (.reg [⟨(some 7), none, .op (.mv (.v (.int .i64 5)))⟩] [])
  (.seq (.seq (.reg [⟨(some 75), none, .op (.fad 4 (.t 2))⟩,
  ⟨(some 76), none, .op (.load none (.t 75))⟩,
  ⟨(some 77), none, .op (.len .sl (.t 76))⟩,
  ⟨(some 78), none, .op (.mv (.v (.int .i64 0)))⟩] [])
  (.block 2 (.loop (.seq (.reg [⟨(some 79), none, .op (.bin .none .lss (.t 78) (.t 77))⟩] [])
  (.seq (.cond (.t 79)
  .skip
  (.exit 2))
  (.seq (.block 3 (.seq (.reg [⟨(some 80), none, .op (.iad none (some 2) (.t 76) (.t 78))⟩,
  ⟨(some 81), none, .op (.load (some 2) (.t 80))⟩,
  ⟨(some 9), none, .op (.new [(.int .i64 0), (.int .i64 0)])⟩,
  ⟨none, none, .op (.store 2 (.t 9) (.t 81))⟩] [])
  (.seq (.seq (.reg [⟨(some 82), none, .op (.fad 0 (.t 9))⟩,
  ⟨(some 83), none, .op (.load none (.t 82))⟩,
  ⟨(some 84), none, .op (.mv (.t 7))⟩,
  ⟨(some 85), none, .op (.bin .none .leq (.t 83) (.t 84))⟩,
  ⟨(some 86), none, .op (.mv (.t 85))⟩,
  ⟨(some 87), some (86, false), .op (.fad 0 (.t 9))⟩,
  ⟨(some 88), some (86, false), .op (.load none (.t 87))⟩,
  ⟨(some 89), some (86, false), .op (.bin .none .geq (.t 88) (.v (.int .i64 12)))⟩,
  ⟨(some 90), none, .op (.pick (.t 86) (.v (.bool true)) (.t 89))⟩,
  ⟨(some 91), none, .op (.mv (.t 90))⟩,
  ⟨(some 92), some (91, false), .op (.fad 1 (.t 9))⟩,
  ⟨(some 93), some (91, false), .op (.load none (.t 92))⟩,
  ⟨(some 94), some (91, false), .op (.fad 2 (.t 2))⟩,
  ⟨(some 95), some (91, false), .op (.load none (.t 94))⟩,
  ⟨(some 96), some (91, false), .call 21 [(.t 93), (.t 95)]⟩,
  ⟨(some 97), some (91, false), .op (.un .not (.t 96))⟩,
  ⟨(some 98), none, .op (.pick (.t 91) (.v (.bool true)) (.t 97))⟩] [])
  (.cond (.t 98)
  (.seq (.reg [⟨(some 4), none, .op (.mv (.v (.bool false)))⟩] [])
  .ret)
  .skip))
  (.reg [⟨(some 99), none, .op (.fad 0 (.t 9))⟩,
  ⟨(some 100), none, .op (.load none (.t 99))⟩,
  ⟨(some 7), none, .op (.mv (.t 100))⟩] []))))
  (.reg [⟨(some 101), none, .op (.bin .none .add (.t 78) (.v (.int .i64 1)))⟩,
  ⟨(some 78), none, .op (.mv (.t 101))⟩] [])))))))
  (.seq (.reg [⟨(some 4), none, .op (.mv (.v (.bool true)))⟩] [])
  .ret)))))))
theorem fn19 : Fn3 Try.prog 19 102 [(4, none)] fc19 := ⟨_, _, Try.func19, rfl, rfl, rfl, by kernel_rfl⟩
def tables_row_s (r_00 : FuncRow) (least_01 : Int) : Option Bool :=
  (jp (fun (s_2 : Bool) => (if s_2 then (some false) else (jp (fun (s_4 : Bool) => (if s_4 then (some false) else ((rng (fun (i_6 : Nat) (k_7 : Int) (s_5 : Unit) => ((if (decide (k_7 > 1)) then (some (.ret (some false))) else (some (.nxt ()))) : Option (Stp Unit (Option Bool)))) r_00.Params ()).bind (oc (fun (s_5 : Unit) => ((rng (fun (i_10 : Nat) (s_11 : Save) (s_9 : Int) => ((jp (fun (s_14 : Bool) => (if s_14 then (some (.ret (some false))) else (some (.nxt s_11.Reg)))) (fun k_13 => (if (decide (s_11.Reg ≤ s_9)) then (k_13 true) else (if (decide (s_11.Reg ≥ 12)) then (k_13 true) else ((tables_offset_s s_11.Off r_00.Size).bind fun off_15 => (k_13 (!off_15))))))) : Option (Stp Int (Option Bool)))) r_00.Saves 5).bind (oc (fun (s_9 : Int) => (some true))))))))) (fun k_3 => (if (r_00.Resume != (-1)) then (if (decide (r_00.Resume < r_00.Start)) then (k_3 true) else (k_3 (decide (r_00.Resume ≥ r_00.Stop)))) else (k_3 false)))))) (fun k_1 => (if (decide (r_00.Start < least_01)) then (k_1 true) else (if (decide (r_00.Stop ≤ r_00.Start)) then (k_1 true) else (if (decide (r_00.Stop > 1048576)) then (k_1 true) else (if (decide (r_00.Size < 0)) then (k_1 true) else (if (decide (r_00.Size > 65536)) then (k_1 true) else (if ((Int.tmod r_00.Size 8) != 0) then (k_1 true) else (k_1 (decide ((List.length r_00.Params : Int) > 4)))))))))))
theorem tables_row_ev {r_00 : FuncRow} {least_01 : Int} {r : Bool} (h : tables_row_s r_00 least_01 = some r) : PureEv Try.prog 19 [(FuncRow.av r_00), (.int .i64 least_01)] (.bool r) := by
  unfold tables_row_s at h
  refine PureEv_end mixed fn19 (by simp) [9] 6 ?_
  unfold fc19
  refine E_sq ?_
  refine E_reg ?_
  refine E_op0 (v' := (.cptr (FuncRow.av r_00).cells 0)) rfl rfl ?_
  refine E_mv (v' := (.bool false)) rfl ?_
  refine E_nil ?_
  refine E_nx ?_
  refine E_as ?_
  refine E_jp h (fun s_2 => [(2, (.cptr (FuncRow.av r_00).cells 0)), (47, (.bool s_2))]) (fun s_2 => []) (fun k_1 h => ?_) (fun s_2 h => ?_)
  · refine E_reg ?_
    refine E_op0 (v' := (.cptr (FuncRow.av r_00).cells 0)) rfl rfl ?_
    refine E_op0 (v' := (.int .i64 r_00.Start)) rfl rfl ?_
    refine E_mv (v' := (.int .i64 least_01)) rfl ?_
    refine E_op0 (v' := (.bool (decide (r_00.Start < least_01)))) rfl rfl ?_
    refine E_mv (v' := (.bool (decide (r_00.Start < least_01)))) rfl ?_
    refine E_gsT (b := (decide (r_00.Start < least_01))) rfl rfl rfl (fun hb => ?_) (fun hb => ?_)
    · rw [ite_f hb] at h
      refine E_op0 (v' := (.cptr (FuncRow.av r_00).cells 1)) rfl rfl ?_
      refine E_gh rfl ?_
      refine E_op0 (v' := (.int .i64 r_00.Stop)) rfl rfl ?_
      refine E_gh rfl ?_
      refine E_op0 (v' := (.cptr (FuncRow.av r_00).cells 0)) rfl rfl ?_
      refine E_gh rfl ?_
      refine E_op0 (v' := (.int .i64 r_00.Start)) rfl rfl ?_
      refine E_gh rfl ?_
      refine E_op0 (v' := (.bool (decide (r_00.Stop ≤ r_00.Start)))) rfl rfl ?_
      refine E_pf rfl rfl ?_
      refine E_mv (v' := (.bool (decide (r_00.Stop ≤ r_00.Start)))) rfl ?_
      refine E_gsT (b := (decide (r_00.Stop ≤ r_00.Start))) rfl rfl rfl (fun hb => ?_) (fun hb => ?_)
      · rw [ite_f hb] at h
        refine E_op0 (v' := (.cptr (FuncRow.av r_00).cells 1)) rfl rfl ?_
        refine E_gh rfl ?_
        refine E_op0 (v' := (.int .i64 r_00.Stop)) rfl rfl ?_
        refine E_gh rfl ?_
        refine E_op0 (v' := (.bool (decide (r_00.Stop > 1048576)))) rfl rfl ?_
        refine E_pf rfl rfl ?_
        refine E_mv (v' := (.bool (decide (r_00.Stop > 1048576)))) rfl ?_
        refine E_gsT (b := (decide (r_00.Stop > 1048576))) rfl rfl rfl (fun hb => ?_) (fun hb => ?_)
        · rw [ite_f hb] at h
          refine E_op0 (v' := (.cptr (FuncRow.av r_00).cells 2)) rfl rfl ?_
          refine E_gh rfl ?_
          refine E_op0 (v' := (.int .i64 r_00.Size)) rfl rfl ?_
          refine E_gh rfl ?_
          refine E_op0 (v' := (.bool (decide (r_00.Size < 0)))) rfl rfl ?_
          refine E_pf rfl rfl ?_
          refine E_mv (v' := (.bool (decide (r_00.Size < 0)))) rfl ?_
          refine E_gsT (b := (decide (r_00.Size < 0))) rfl rfl rfl (fun hb => ?_) (fun hb => ?_)
          · rw [ite_f hb] at h
            refine E_op0 (v' := (.cptr (FuncRow.av r_00).cells 2)) rfl rfl ?_
            refine E_gh rfl ?_
            refine E_op0 (v' := (.int .i64 r_00.Size)) rfl rfl ?_
            refine E_gh rfl ?_
            refine E_op0 (v' := (.bool (decide (r_00.Size > 65536)))) rfl rfl ?_
            refine E_pf rfl rfl ?_
            refine E_mv (v' := (.bool (decide (r_00.Size > 65536)))) rfl ?_
            refine E_gsT (b := (decide (r_00.Size > 65536))) rfl rfl rfl (fun hb => ?_) (fun hb => ?_)
            · rw [ite_f hb] at h
              refine E_op0 (v' := (.cptr (FuncRow.av r_00).cells 2)) rfl rfl ?_
              refine E_gh rfl ?_
              refine E_op0 (v' := (.int .i64 r_00.Size)) rfl rfl ?_
              refine E_gh rfl ?_
              refine E_op0 (v' := (.int .i64 (Int.tmod r_00.Size 8))) rfl rfl ?_
              refine E_gh rfl ?_
              refine E_op0 (v' := (.bool ((Int.tmod r_00.Size 8) != 0))) rfl rfl ?_
              refine E_pf rfl rfl ?_
              refine E_mv (v' := (.bool ((Int.tmod r_00.Size 8) != 0))) rfl ?_
              refine E_gsT (b := ((Int.tmod r_00.Size 8) != 0)) rfl rfl rfl (fun hb => ?_) (fun hb => ?_)
              · rw [ite_f hb] at h
                refine E_op0 (v' := (.cptr (FuncRow.av r_00).cells 3)) rfl rfl ?_
                refine E_gh rfl ?_
                refine E_op0 (v' := (.sl false 1 (List.map (avI .u8) r_00.Params))) rfl rfl ?_
                refine E_gh rfl ?_
                refine E_len rfl ?_
                refine E_gh rfl ?_
                refine E_op0 (v' := (.bool (decide ((List.length r_00.Params : Int) > 4)))) rfl rfl ?_
                refine E_pf rfl rfl ?_
                refine E_nil ?_
                exact E_jx _ h (wk_aw ⟨(.refl _), (.refl _), trivial⟩)
              · rw [ite_t hb] at h
                refine E_gm rfl ?_
                refine E_gm rfl ?_
                refine E_gm rfl ?_
                refine E_pt rfl rfl ?_
                refine E_nil ?_
                exact E_jx _ h (wk_aw ⟨(.refl _), (.refl _), trivial⟩)
            · rw [ite_t hb] at h
              refine E_gm rfl ?_
              refine E_gm rfl ?_
              refine E_gm rfl ?_
              refine E_pt rfl rfl ?_
              refine E_mv (v' := (.bool true)) rfl ?_
              refine E_gm rfl ?_
              refine E_gm rfl ?_
              refine E_gm rfl ?_
              refine E_gm rfl ?_
              refine E_pt rfl rfl ?_
              refine E_nil ?_
              exact E_jx _ h (wk_aw ⟨(.refl _), (.refl _), trivial⟩)
          · rw [ite_t hb] at h
            refine E_gm rfl ?_
            refine E_gm rfl ?_
            refine E_pt rfl rfl ?_
            refine E_mv (v' := (.bool true)) rfl ?_
            refine E_gm rfl ?_
            refine E_gm rfl ?_
            refine E_gm rfl ?_
            refine E_gm rfl ?_
            refine E_pt rfl rfl ?_
            refine E_mv (v' := (.bool true)) rfl ?_
            refine E_gm rfl ?_
            refine E_gm rfl ?_
            refine E_gm rfl ?_
            refine E_gm rfl ?_
            refine E_pt rfl rfl ?_
            refine E_nil ?_
            exact E_jx _ h (wk_aw ⟨(.refl _), (.refl _), trivial⟩)
        · rw [ite_t hb] at h
          refine E_gm rfl ?_
          refine E_gm rfl ?_
          refine E_pt rfl rfl ?_
          refine E_mv (v' := (.bool true)) rfl ?_
          refine E_gm rfl ?_
          refine E_gm rfl ?_
          refine E_gm rfl ?_
          refine E_pt rfl rfl ?_
          refine E_mv (v' := (.bool true)) rfl ?_
          refine E_gm rfl ?_
          refine E_gm rfl ?_
          refine E_gm rfl ?_
          refine E_gm rfl ?_
          refine E_pt rfl rfl ?_
          refine E_mv (v' := (.bool true)) rfl ?_
          refine E_gm rfl ?_
          refine E_gm rfl ?_
          refine E_gm rfl ?_
          refine E_gm rfl ?_
          refine E_pt rfl rfl ?_
          refine E_nil ?_
          exact E_jx _ h (wk_aw ⟨(.refl _), (.refl _), trivial⟩)
      · rw [ite_t hb] at h
        refine E_gm rfl ?_
        refine E_gm rfl ?_
        refine E_pt rfl rfl ?_
        refine E_mv (v' := (.bool true)) rfl ?_
        refine E_gm rfl ?_
        refine E_gm rfl ?_
        refine E_gm rfl ?_
        refine E_pt rfl rfl ?_
        refine E_mv (v' := (.bool true)) rfl ?_
        refine E_gm rfl ?_
        refine E_gm rfl ?_
        refine E_gm rfl ?_
        refine E_pt rfl rfl ?_
        refine E_mv (v' := (.bool true)) rfl ?_
        refine E_gm rfl ?_
        refine E_gm rfl ?_
        refine E_gm rfl ?_
        refine E_gm rfl ?_
        refine E_pt rfl rfl ?_
        refine E_mv (v' := (.bool true)) rfl ?_
        refine E_gm rfl ?_
        refine E_gm rfl ?_
        refine E_gm rfl ?_
        refine E_gm rfl ?_
        refine E_pt rfl rfl ?_
        refine E_nil ?_
        exact E_jx _ h (wk_aw ⟨(.refl _), (.refl _), trivial⟩)
    · rw [ite_t hb] at h
      refine E_gm rfl ?_
      refine E_gm rfl ?_
      refine E_gm rfl ?_
      refine E_gm rfl ?_
      refine E_pt rfl rfl ?_
      refine E_mv (v' := (.bool true)) rfl ?_
      refine E_gm rfl ?_
      refine E_gm rfl ?_
      refine E_gm rfl ?_
      refine E_pt rfl rfl ?_
      refine E_mv (v' := (.bool true)) rfl ?_
      refine E_gm rfl ?_
      refine E_gm rfl ?_
      refine E_gm rfl ?_
      refine E_pt rfl rfl ?_
      refine E_mv (v' := (.bool true)) rfl ?_
      refine E_gm rfl ?_
      refine E_gm rfl ?_
      refine E_gm rfl ?_
      refine E_pt rfl rfl ?_
      refine E_mv (v' := (.bool true)) rfl ?_
      refine E_gm rfl ?_
      refine E_gm rfl ?_
      refine E_gm rfl ?_
      refine E_gm rfl ?_
      refine E_pt rfl rfl ?_
      refine E_mv (v' := (.bool true)) rfl ?_
      refine E_gm rfl ?_
      refine E_gm rfl ?_
      refine E_gm rfl ?_
      refine E_gm rfl ?_
      refine E_pt rfl rfl ?_
      refine E_nil ?_
      exact E_jx _ h (wk_aw ⟨(.refl _), (.refl _), trivial⟩)
  · refine E_sq ?_
    refine E_cs (t := s_2) rfl (fun hb => ?_) (fun hb => ?_)
    · rw [ite_t hb] at h
      refine E_sq ?_
      refine E_reg ?_
      refine E_mv (v' := (.bool false)) rfl ?_
      refine E_nil ?_
      refine E_nx ?_
      refine E_ret ?_
      refine E_thr ?_
      cases h
      exact ⟨trivial, _, rfl, (fz_b rfl (.refl _))⟩
    · rw [ite_f hb] at h
      refine E_skip ?_
      refine E_nx ?_
      refine E_as ?_
      refine E_jp h (fun s_4 => [(2, (.cptr (FuncRow.av r_00).cells 0)), (64, (.bool s_4))]) (fun s_4 => []) (fun k_3 h => ?_) (fun s_4 h => ?_)
      · refine E_reg ?_
        refine E_op0 (v' := (.cptr (FuncRow.av r_00).cells 5)) rfl rfl ?_
        refine E_op0 (v' := (.int .i64 r_00.Resume)) rfl rfl ?_
        refine E_op0 (v' := (.bool (r_00.Resume != (-1)))) rfl rfl ?_
        refine E_mv (v' := (.bool (r_00.Resume != (-1)))) rfl ?_
        refine E_gsT (b := (r_00.Resume != (-1))) rfl rfl rfl (fun hb => ?_) (fun hb => ?_)
        · rw [ite_t hb] at h
          refine E_op0 (v' := (.cptr (FuncRow.av r_00).cells 5)) rfl rfl ?_
          refine E_gh rfl ?_
          refine E_op0 (v' := (.int .i64 r_00.Resume)) rfl rfl ?_
          refine E_gh rfl ?_
          refine E_op0 (v' := (.cptr (FuncRow.av r_00).cells 0)) rfl rfl ?_
          refine E_gh rfl ?_
          refine E_op0 (v' := (.int .i64 r_00.Start)) rfl rfl ?_
          refine E_gh rfl ?_
          refine E_op0 (v' := (.bool (decide (r_00.Resume < r_00.Start)))) rfl rfl ?_
          refine E_gh rfl ?_
          refine E_mv (v' := (.bool (decide (r_00.Resume < r_00.Start)))) rfl ?_
          refine E_gsT (b := (decide (r_00.Resume < r_00.Start))) rfl rfl rfl (fun hb => ?_) (fun hb => ?_)
          · rw [ite_f hb] at h
            refine E_op0 (v' := (.cptr (FuncRow.av r_00).cells 5)) rfl rfl ?_
            refine E_gh rfl ?_
            refine E_op0 (v' := (.int .i64 r_00.Resume)) rfl rfl ?_
            refine E_gh rfl ?_
            refine E_op0 (v' := (.cptr (FuncRow.av r_00).cells 1)) rfl rfl ?_
            refine E_gh rfl ?_
            refine E_op0 (v' := (.int .i64 r_00.Stop)) rfl rfl ?_
            refine E_gh rfl ?_
            refine E_op0 (v' := (.bool (decide (r_00.Resume ≥ r_00.Stop)))) rfl rfl ?_
            refine E_gh rfl ?_
            refine E_pf rfl rfl ?_
            refine E_pt rfl rfl ?_
            refine E_nil ?_
            exact E_jx _ h (wk_aw ⟨(.refl _), (.refl _), trivial⟩)
          · rw [ite_t hb] at h
            refine E_gm rfl ?_
            refine E_gm rfl ?_
            refine E_gm rfl ?_
            refine E_gm rfl ?_
            refine E_gh rfl ?_
            refine E_pt rfl rfl ?_
            refine E_pt rfl rfl ?_
            refine E_nil ?_
            exact E_jx _ h (wk_aw ⟨(.refl _), (.refl _), trivial⟩)
        · rw [ite_f hb] at h
          refine E_gm rfl ?_
          refine E_gm rfl ?_
          refine E_gm rfl ?_
          refine E_gm rfl ?_
          refine E_gm rfl ?_
          refine E_gz rfl ?_
          refine E_gz rfl ?_
          refine E_gz rfl ?_
          refine E_gz rfl ?_
          refine E_gz rfl ?_
          refine E_gm rfl ?_
          refine E_pf rfl rfl ?_
          refine E_nil ?_
          exact E_jx _ h (wk_aw ⟨(.refl _), (.refl _), trivial⟩)
      · refine E_sq ?_
        refine E_cs (t := s_4) rfl (fun hb => ?_) (fun hb => ?_)
        · rw [ite_t hb] at h
          refine E_sq ?_
          refine E_reg ?_
          refine E_mv (v' := (.bool false)) rfl ?_
          refine E_nil ?_
          refine E_nx ?_
          refine E_ret ?_
          refine E_thr ?_
          cases h
          exact ⟨trivial, _, rfl, (fz_b rfl (.refl _))⟩
        · rw [ite_f hb] at h
          refine E_skip ?_
          refine E_nx ?_
          refine E_as ?_
          refine E_sq ?_
          refine E_reg ?_
          refine E_op0 (v' := (.cptr (FuncRow.av r_00).cells 3)) rfl rfl ?_
          refine E_op0 (v' := (.sl false 1 (List.map (avI .u8) r_00.Params))) rfl rfl ?_
          refine E_len rfl ?_
          refine E_mv (v' := (.int .i64 0)) rfl ?_
          refine E_nil ?_
          refine E_nx ?_
          refine E_sq ?_
          refine E_rngO (fun s_5 => [(2, (.cptr (FuncRow.av r_00).cells 0)), (66, (.sl false 1 (List.map (avI .u8) r_00.Params)))]) (fun s_5 => []) h (by decide) (by decide) (fun _ => ⟨rfl, rfl, rfl, rfl⟩) (wk_aw ⟨(.refl _), (.refl _), (.refl _), (.refl _), trivial⟩) (fun i_6 k_7 s_5 c hx_8 hlt h => ?_) (fun s_5 fr' S' h hw => ?_)
          · refine E_sq ?_
            refine E_reg ?_
            refine E_iadF rfl rfl (getI_of hx_8) ?_
            refine E_op0 (v' := (.int .u8 k_7)) rfl rfl ?_
            refine E_mv (v' := (.int .u8 k_7)) rfl ?_
            refine E_nil ?_
            refine E_nx ?_
            refine E_sq ?_
            refine E_reg ?_
            refine E_mv (v' := (.int .u8 k_7)) rfl ?_
            refine E_op0 (v' := (.bool (decide (k_7 > 1)))) rfl rfl ?_
            refine E_nil ?_
            refine E_nx ?_
            refine E_cs (t := (decide (k_7 > 1))) rfl (fun hb => ?_) (fun hb => ?_)
            · rw [ite_t hb] at h
              refine E_sq ?_
              refine E_reg ?_
              refine E_mv (v' := (.bool false)) rfl ?_
              refine E_nil ?_
              refine E_nx ?_
              refine E_ret ?_
              cases h
              refine L_rrO rfl (fun h => ?_)
              refine E_thr ?_
              cases h
              exact ⟨trivial, _, rfl, (fz_b rfl (.refl _))⟩
            · rw [ite_f hb] at h
              refine E_skip ?_
              cases h
              exact L_nn rfl (wk_aw ⟨(.refl _), (.refl _), (.refl _), (.refl _), trivial⟩)
          · refine X_nx hw ?_
            refine E_sq ?_
            refine E_reg ?_
            refine E_mv (v' := (.int .i64 5)) rfl ?_
            refine E_nil ?_
            refine E_nx ?_
            refine E_as ?_
            refine E_sq ?_
            refine E_reg ?_
            refine E_op0 (v' := (.cptr (FuncRow.av r_00).cells 4)) rfl rfl ?_
            refine E_op0 (v' := (.sl false 2 (List.map Save.av r_00.Saves))) rfl rfl ?_
            refine E_len rfl ?_
            refine E_mv (v' := (.int .i64 0)) rfl ?_
            refine E_nil ?_
            refine E_nx ?_
            refine E_sq ?_
            refine E_rngO (fun s_9 => [(2, (.cptr (FuncRow.av r_00).cells 0)), (7, (.int .i64 s_9)), (76, (.sl false 2 (List.map Save.av r_00.Saves)))]) (fun s_9 => []) h (by decide) (by decide) (fun _ => ⟨rfl, rfl, rfl, rfl⟩) (wk_aw ⟨(.refl _), (.refl _), (.refl _), (.refl _), (.refl _), trivial⟩) (fun i_10 s_11 s_9 c hx_12 hlt h => ?_) (fun s_9 fr' S' h hw => ?_)
            · refine E_sq ?_
              refine E_reg ?_
              refine E_iadF rfl rfl (getI_of hx_12) ?_
              refine E_op0 (v' := (Save.av s_11)) rfl rfl ?_
              refine E_op (v' := .ptr 0 0 0) (S' := [.arr 0 [(.int .i64 0), (.int .i64 0)]]) rfl rfl rfl ?_
              refine E_do (S' := [.arr 0 [(.int .i64 s_11.Reg), (.int .i64 s_11.Off)]]) rfl rfl ?_
              refine E_nil ?_
              refine E_nx ?_
              refine E_as ?_
              refine E_jp h (fun s_14 => [(2, (.cptr (FuncRow.av r_00).cells 0)), (9, (.ptr 0 0 0)), (76, (.sl false 2 (List.map Save.av r_00.Saves))), (77, (.int .i64 (List.length r_00.Saves : Int))), (78, (.int .i64 (i_10 : Int))), (98, (.bool s_14))]) (fun s_14 => [.arr 0 [(.int .i64 s_11.Reg), (.int .i64 s_11.Off)]]) (fun k_13 h => ?_) (fun s_14 h => ?_)
              · refine E_reg ?_
                refine E_op0 (v' := (.ptr 0 0 0)) rfl rfl ?_
                refine E_op (v' := (.int .i64 s_11.Reg)) (S' := [.arr 0 [(.int .i64 s_11.Reg), (.int .i64 s_11.Off)]]) rfl rfl rfl ?_
                refine E_mv (v' := (.int .i64 s_9)) rfl ?_
                refine E_op0 (v' := (.bool (decide (s_11.Reg ≤ s_9)))) rfl rfl ?_
                refine E_mv (v' := (.bool (decide (s_11.Reg ≤ s_9)))) rfl ?_
                refine E_gsT (b := (decide (s_11.Reg ≤ s_9))) rfl rfl rfl (fun hb => ?_) (fun hb => ?_)
                · rw [ite_f hb] at h
                  refine E_op0 (v' := (.ptr 0 0 0)) rfl rfl ?_
                  refine E_gh rfl ?_
                  refine E_op (v' := (.int .i64 s_11.Reg)) (S' := [.arr 0 [(.int .i64 s_11.Reg), (.int .i64 s_11.Off)]]) rfl rfl rfl ?_
                  refine E_gh rfl ?_
                  refine E_op0 (v' := (.bool (decide (s_11.Reg ≥ 12)))) rfl rfl ?_
                  refine E_pf rfl rfl ?_
                  refine E_mv (v' := (.bool (decide (s_11.Reg ≥ 12)))) rfl ?_
                  refine E_gsT (b := (decide (s_11.Reg ≥ 12))) rfl rfl rfl (fun hb => ?_) (fun hb => ?_)
                  · rw [ite_f hb] at h
                    refine E_op0 (v' := (.ptr 0 0 1)) rfl rfl ?_
                    refine E_gh rfl ?_
                    refine E_op (v' := (.int .i64 s_11.Off)) (S' := [.arr 0 [(.int .i64 s_11.Reg), (.int .i64 s_11.Off)]]) rfl rfl rfl ?_
                    refine E_gh rfl ?_
                    refine E_op0 (v' := (.cptr (FuncRow.av r_00).cells 2)) rfl rfl ?_
                    refine E_gh rfl ?_
                    refine E_op0 (v' := (.int .i64 r_00.Size)) rfl rfl ?_
                    refine E_gh rfl ?_
                    obtain ⟨off_15, hoff_15, h⟩ := bd_some h
                    refine E_callW (tables_offset_ev  hoff_15) rfl ⟨(.refl _), (.refl _), trivial⟩ (blwL_of ⟨rfl, rfl, trivial⟩) rfl ?_
                    refine E_gh rfl ?_
                    refine E_op0 (v' := (.bool (!off_15))) rfl rfl ?_
                    refine E_pf rfl rfl ?_
                    refine E_nil ?_
                    exact E_jx _ h (wk_rn [some (0, 0)] rfl (Nat.le_of_ble_eq_true rfl) ⟨(rn_ob rfl rfl (.cons (rn_b rfl) (.cons (rn_b rfl) (.nil (Nat.zero_le _)))) rfl), trivial⟩ ⟨(rn_b (cp_blw (FuncRow.enc.blw _ 0))), (rn_ptr rfl rfl rfl rfl), (rn_b (Save.enc.blws 0)), (rn_b rfl), (rn_b rfl), (rn_b rfl), trivial⟩)
                  · rw [ite_t hb] at h
                    refine E_gm rfl ?_
                    refine E_gm rfl ?_
                    refine E_gm rfl ?_
                    refine E_gm rfl ?_
                    refine E_gm rfl ?_
                    refine E_pt rfl rfl ?_
                    refine E_nil ?_
                    exact E_jx _ h (wk_rn [some (0, 0)] rfl (Nat.le_of_ble_eq_true rfl) ⟨(rn_ob rfl rfl (.cons (rn_b rfl) (.cons (rn_b rfl) (.nil (Nat.zero_le _)))) rfl), trivial⟩ ⟨(rn_b (cp_blw (FuncRow.enc.blw _ 0))), (rn_ptr rfl rfl rfl rfl), (rn_b (Save.enc.blws 0)), (rn_b rfl), (rn_b rfl), (rn_b rfl), trivial⟩)
                · rw [ite_t hb] at h
                  refine E_gm rfl ?_
                  refine E_gm rfl ?_
                  refine E_pt rfl rfl ?_
                  refine E_mv (v' := (.bool true)) rfl ?_
                  refine E_gm rfl ?_
                  refine E_gm rfl ?_
                  refine E_gm rfl ?_
                  refine E_gm rfl ?_
                  refine E_gm rfl ?_
                  refine E_gm rfl ?_
                  refine E_pt rfl rfl ?_
                  refine E_nil ?_
                  exact E_jx _ h (wk_rn [some (0, 0)] rfl (Nat.le_of_ble_eq_true rfl) ⟨(rn_ob rfl rfl (.cons (rn_b rfl) (.cons (rn_b rfl) (.nil (Nat.zero_le _)))) rfl), trivial⟩ ⟨(rn_b (cp_blw (FuncRow.enc.blw _ 0))), (rn_ptr rfl rfl rfl rfl), (rn_b (Save.enc.blws 0)), (rn_b rfl), (rn_b rfl), (rn_b rfl), trivial⟩)
              · refine E_sq ?_
                refine E_cs (t := s_14) rfl (fun hb => ?_) (fun hb => ?_)
                · rw [ite_t hb] at h
                  refine E_sq ?_
                  refine E_reg ?_
                  refine E_mv (v' := (.bool false)) rfl ?_
                  refine E_nil ?_
                  refine E_nx ?_
                  refine E_ret ?_
                  refine E_thr ?_
                  cases h
                  refine L_rrO rfl (fun h => ?_)
                  refine E_thr ?_
                  cases h
                  exact ⟨trivial, _, rfl, (fz_b rfl (.refl _))⟩
                · rw [ite_f hb] at h
                  refine E_skip ?_
                  refine E_nx ?_
                  refine E_reg ?_
                  refine E_op0 (v' := (.ptr 0 0 0)) rfl rfl ?_
                  refine E_op (v' := (.int .i64 s_11.Reg)) (S' := [.arr 0 [(.int .i64 s_11.Reg), (.int .i64 s_11.Off)]]) rfl rfl rfl ?_
                  refine E_mv (v' := (.int .i64 s_11.Reg)) rfl ?_
                  refine E_nil ?_
                  cases h
                  exact L_nn rfl (wk_rn [] rfl (Nat.le_of_ble_eq_true rfl) trivial ⟨(rn_b rfl), (rn_b rfl), (rn_b (cp_blw (FuncRow.enc.blw _ 0))), (rn_b rfl), (rn_b (Save.enc.blws 0)), trivial⟩)
            · refine X_nx hw ?_
              refine E_sq ?_
              refine E_reg ?_
              refine E_mv (v' := (.bool true)) rfl ?_
              refine E_nil ?_
              refine E_nx ?_
              refine E_ret ?_
              cases h
              exact ⟨trivial, _, rfl, (fz_b rfl (.refl _))⟩
/- windlass/tables.owner -/
def fc20 : FC := (.seq (.reg [⟨(some 2), none, .op (.box (.t 0))⟩,
  ⟨(some 4), none, .op (.mv (.v (.int .i64 0)))⟩] [])
  (.seq (.seq (.reg [⟨(some 7), none, .op (.fad 0 (.t 2))⟩,
  ⟨(some 8), none, .op (.load none (.t 7))⟩,
  ⟨(some 9), none, .op (.len .sl (.t 8))⟩,
  ⟨(some 10), none, .op (.mv (.v (.int .i64 0)))⟩] [])
  (.block 0 (.loop (.seq (.reg [⟨(some 11), none, .op (.bin .none .lss (.t 10) (.t 9))⟩] [])
  (.seq (.cond (.t 11)
  .skip
  (.exit 0))
  (.seq (.block 1 (.seq (.reg [⟨(some 12), none, .op (.mv (.t 10))⟩,
  ⟨(some 13), none, .op (.iad none (some 6) (.t 8) (.t 10))⟩,
  ⟨(some 14), none, .op (.load (some 6) (.t 13))⟩,
  ⟨(some 6), none, .op (.new [(.int .i64 0), (.int .i64 0), (.int .i64 0), .nils, .nils, (.int .i64 0)])⟩,
  ⟨(some 5), none, .op (.mv (.t 12))⟩,
  ⟨none, none, .op (.store 6 (.t 6) (.t 14))⟩] [])
  (.seq (.reg [⟨(some 15), none, .op (.mv (.t 1))⟩,
  ⟨(some 16), none, .op (.fad 0 (.t 6))⟩,
  ⟨(some 17), none, .op (.load none (.t 16))⟩,
  ⟨(some 18), none, .op (.bin .none .gtr (.t 15) (.t 17))⟩,
  ⟨(some 19), none, .op (.mv (.t 18))⟩,
  ⟨(some 20), some (19, true), .op (.mv (.t 1))⟩,
  ⟨(some 21), some (19, true), .op (.fad 1 (.t 6))⟩,
  ⟨(some 22), some (19, true), .op (.load none (.t 21))⟩,
  ⟨(some 23), some (19, true), .op (.bin .none .leq (.t 20) (.t 22))⟩,
  ⟨(some 24), none, .op (.pick (.t 19) (.t 23) (.v (.bool false)))⟩] [])
  (.cond (.t 24)
  (.seq (.reg [⟨(some 25), none, .op (.mv (.t 5))⟩,
  ⟨(some 4), none, .op (.mv (.t 25))⟩] [])
  .ret)
  .skip))))
  (.reg [⟨(some 26), none, .op (.bin .none .add (.t 10) (.v (.int .i64 1)))⟩,
  ⟨(some 10), none, .op (.mv (.t 26))⟩] [])))))))
  (.seq (.reg [⟨(some 4), none, .op (.mv (.v (.int .i64 (-1))))⟩] [])
  .ret)))
theorem fn20 : Fn3 Try.prog 20 27 [(4, none)] fc20 := ⟨_, _, Try.func20, rfl, rfl, rfl, by kernel_rfl⟩
def tables_owner_s (t_00 : Tables) (vat_01 : Int) : Option Int :=
  ((rng (fun (i_2 : Nat) (r_3 : FuncRow) (s_1 : Int) => ((jp (fun (s_6 : Bool) => (if s_6 then (some (.ret (some (i_2 : Int)))) else (some (.nxt s_1)))) (fun k_5 => (if (decide (s_1 > r_3.Start)) then (k_5 (decide (s_1 ≤ r_3.Stop))) else (k_5 false)))) : Option (Stp Int (Option Int)))) t_00.Funcs vat_01).bind (oc (fun (s_1 : Int) => (some (-1)))))
theorem tables_owner_ev {t_00 : Tables} {vat_01 : Int} {r : Int} (h : tables_owner_s t_00 vat_01 = some r) : PureEv Try.prog 20 [(Tables.av t_00), (.int .i64 vat_01)] (.int .i64 r) := by
  unfold tables_owner_s at h
  refine PureEv_end mixed fn20 (by simp) [6] 6 ?_
  unfold fc20
  refine E_sq ?_
  refine E_reg ?_
  refine E_op0 (v' := (.cptr (Tables.av t_00).cells 0)) rfl rfl ?_
  refine E_mv (v' := (.int .i64 0)) rfl ?_
  refine E_nil ?_
  refine E_nx ?_
  refine E_as ?_
  refine E_sq ?_
  refine E_reg ?_
  refine E_op0 (v' := (.cptr (Tables.av t_00).cells 0)) rfl rfl ?_
  refine E_op0 (v' := (.sl false 6 (List.map FuncRow.av t_00.Funcs))) rfl rfl ?_
  refine E_len rfl ?_
  refine E_mv (v' := (.int .i64 0)) rfl ?_
  refine E_nil ?_
  refine E_nx ?_
  refine E_sq ?_
  refine E_rngO (fun s_1 => [(1, (.int .i64 s_1)), (8, (.sl false 6 (List.map FuncRow.av t_00.Funcs)))]) (fun s_1 => []) h (by decide) (by decide) (fun _ => ⟨rfl, rfl, rfl, rfl⟩) (wk_aw ⟨(.refl _), (.refl _), (.refl _), (.refl _), trivial⟩) (fun i_2 r_3 s_1 c hx_4 hlt h => ?_) (fun s_1 fr' S' h hw => ?_)
  · refine E_sq ?_
    refine E_reg ?_
    refine E_mv (v' := (.int .i64 (i_2 : Int))) rfl ?_
    refine E_iadF rfl rfl (getI_of hx_4) ?_
    refine E_op0 (v' := (FuncRow.av r_3)) rfl rfl ?_
    refine E_op (v' := .ptr 0 0 0) (S' := [.arr 0 [(.int .i64 0), (.int .i64 0), (.int .i64 0), .nils, .nils, (.int .i64 0)]]) rfl rfl rfl ?_
    refine E_mv (v' := (.int .i64 (i_2 : Int))) rfl ?_
    refine E_do (S' := [.arr 0 [(.int .i64 r_3.Start), (.int .i64 r_3.Stop), (.int .i64 r_3.Size), (.sl false 1 (List.map (avI .u8) r_3.Params)), (.sl false 2 (List.map Save.av r_3.Saves)), (.int .i64 r_3.Resume)]]) rfl rfl ?_
    refine E_nil ?_
    refine E_nx ?_
    refine E_jp h (fun s_6 => [(1, (.int .i64 s_1)), (5, (.int .i64 (i_2 : Int))), (8, (.sl false 6 (List.map FuncRow.av t_00.Funcs))), (9, (.int .i64 (List.length t_00.Funcs : Int))), (10, (.int .i64 (i_2 : Int))), (24, (.bool s_6))]) (fun s_6 => []) (fun k_5 h => ?_) (fun s_6 h => ?_)
    · refine E_reg ?_
      refine E_mv (v' := (.int .i64 s_1)) rfl ?_
      refine E_op0 (v' := (.ptr 0 0 0)) rfl rfl ?_
      refine E_op (v' := (.int .i64 r_3.Start)) (S' := [.arr 0 [(.int .i64 r_3.Start), (.int .i64 r_3.Stop), (.int .i64 r_3.Size), (.sl false 1 (List.map (avI .u8) r_3.Params)), (.sl false 2 (List.map Save.av r_3.Saves)), (.int .i64 r_3.Resume)]]) rfl rfl rfl ?_
      refine E_op0 (v' := (.bool (decide (s_1 > r_3.Start)))) rfl rfl ?_
      refine E_mv (v' := (.bool (decide (s_1 > r_3.Start)))) rfl ?_
      refine E_gsT (b := (decide (s_1 > r_3.Start))) rfl rfl rfl (fun hb => ?_) (fun hb => ?_)
      · rw [ite_t hb] at h
        refine E_mv (v' := (.int .i64 s_1)) rfl ?_
        refine E_gh rfl ?_
        refine E_op0 (v' := (.ptr 0 0 1)) rfl rfl ?_
        refine E_gh rfl ?_
        refine E_op (v' := (.int .i64 r_3.Stop)) (S' := [.arr 0 [(.int .i64 r_3.Start), (.int .i64 r_3.Stop), (.int .i64 r_3.Size), (.sl false 1 (List.map (avI .u8) r_3.Params)), (.sl false 2 (List.map Save.av r_3.Saves)), (.int .i64 r_3.Resume)]]) rfl rfl rfl ?_
        refine E_gh rfl ?_
        refine E_op0 (v' := (.bool (decide (s_1 ≤ r_3.Stop)))) rfl rfl ?_
        refine E_pt rfl rfl ?_
        refine E_nil ?_
        exact E_jx _ h (wk_rn [] rfl (Nat.le_of_ble_eq_true rfl) trivial ⟨(rn_b rfl), (rn_b rfl), (rn_b (FuncRow.enc.blws 0)), (rn_b rfl), (rn_b rfl), (rn_b rfl), trivial⟩)
      · rw [ite_f hb] at h
        refine E_gm rfl ?_
        refine E_gm rfl ?_
        refine E_gm rfl ?_
        refine E_pf rfl rfl ?_
        refine E_nil ?_
        exact E_jx _ h (wk_rn [] rfl (Nat.le_of_ble_eq_true rfl) trivial ⟨(rn_b rfl), (rn_b rfl), (rn_b (FuncRow.enc.blws 0)), (rn_b rfl), (rn_b rfl), (rn_b rfl), trivial⟩)
    · refine E_cs (t := s_6) rfl (fun hb => ?_) (fun hb => ?_)
      · rw [ite_t hb] at h
        refine E_sq ?_
        refine E_reg ?_
        refine E_mv (v' := (.int .i64 (i_2 : Int))) rfl ?_
        refine E_mv (v' := (.int .i64 (i_2 : Int))) rfl ?_
        refine E_nil ?_
        refine E_nx ?_
        refine E_ret ?_
        cases h
        refine L_rrO rfl (fun h => ?_)
        refine E_thr ?_
        cases h
        exact ⟨trivial, _, rfl, (fz_b rfl (.refl _))⟩
      · rw [ite_f hb] at h
        refine E_skip ?_
        cases h
        exact L_nn rfl (wk_aw ⟨(.refl _), (.refl _), (.refl _), (.refl _), trivial⟩)
  · refine X_nx hw ?_
    refine E_sq ?_
    refine E_reg ?_
    refine E_mv (v' := (.int .i64 (-1))) rfl ?_
    refine E_nil ?_
    refine E_nx ?_
    refine E_ret ?_
    cases h
    exact ⟨trivial, _, rfl, (fz_b rfl (.refl _))⟩
/- windlass/tables.Check -/
def fc9 : FC := (.seq (.reg [⟨(some 1), none, .op (.box (.t 0))⟩,
  ⟨(some 2), none, .op (.mv (.v (.int .i64 0)))⟩] [])
  (.seq (.seq (.reg [⟨(some 11), none, .op (.fad 0 (.t 1))⟩,
  ⟨(some 12), none, .op (.load none (.t 11))⟩,
  ⟨(some 13), none, .op (.len .sl (.t 12))⟩,
  ⟨(some 14), none, .op (.bin .none .gtr (.t 13) (.v (.int .i64 16)))⟩,
  ⟨(some 15), none, .op (.mv (.t 14))⟩,
  ⟨(some 16), some (15, false), .op (.fad 1 (.t 1))⟩,
  ⟨(some 17), some (15, false), .op (.load none (.t 16))⟩,
  ⟨(some 18), some (15, false), .op (.len .sl (.t 17))⟩,
  ⟨(some 19), some (15, false), .op (.bin .none .gtr (.t 18) (.v (.int .i64 65536)))⟩,
  ⟨(some 20), none, .op (.pick (.t 15) (.v (.bool true)) (.t 19))⟩] [])
  (.cond (.t 20)
  (.seq (.reg [⟨(some 2), none, .op (.mv (.v (.int .i64 190)))⟩] [])
  .ret)
  .skip))
  (.seq (.reg [⟨(some 3), none, .op (.mv (.v (.int .i64 0)))⟩] [])
  (.seq (.seq (.reg [⟨(some 21), none, .op (.fad 0 (.t 1))⟩,
  ⟨(some 22), none, .op (.load none (.t 21))⟩,
  ⟨(some 23), none, .op (.len .sl (.t 22))⟩,
  ⟨(some 24), none, .op (.mv (.v (.int .i64 0)))⟩] [])
  (.block 0 (.loop (.seq (.reg [⟨(some 25), none, .op (.bin .none .lss (.t 24) (.t 23))⟩] [])
  (.seq (.cond (.t 25)
  .skip
  (.exit 0))
  (.seq (.block 1 (.seq (.reg [⟨(some 26), none, .op (.iad none (some 6) (.t 22) (.t 24))⟩,
  ⟨(some 27), none, .op (.load (some 6) (.t 26))⟩,
  ⟨(some 5), none, .op (.new [(.int .i64 0), (.int .i64 0), (.int .i64 0), .nils, .nils, (.int .i64 0)])⟩,
  ⟨none, none, .op (.store 6 (.t 5) (.t 27))⟩] [])
  (.seq (.seq (.reg [⟨(some 28), none, .op (.load (some 6) (.t 5))⟩,
  ⟨(some 29), none, .op (.mv (.t 3))⟩,
  ⟨(some 30), none, .call 19 [(.t 28), (.t 29)]⟩,
  ⟨(some 31), none, .op (.un .not (.t 30))⟩] [])
  (.cond (.t 31)
  (.seq (.reg [⟨(some 2), none, .op (.mv (.v (.int .i64 190)))⟩] [])
  .ret)
  .skip))
  (.reg [⟨(some 32), none, .op (.fad 1 (.t 5))⟩,
  ⟨(some 33), none, .op (.load none (.t 32))⟩,
  ⟨(some 3), none, .op (.mv (.t 33))⟩] []))))
  (.reg [⟨(some 34), none, .op (.bin .none .add (.t 24) (.v (.int .i64 1)))⟩,
  ⟨(some 24), none, .op (.mv (.t 34))⟩] [])))))))
  (.seq (.seq (.reg [⟨(some 35), none, .op (.fad 1 (.t 1))⟩,
  ⟨(some 36), none, .op (.load none (.t 35))⟩,
  ⟨(some 37), none, .op (.len .sl (.t 36))⟩,
  ⟨(some 38), none, .op (.mv (.v (.int .i64 0)))⟩] [])
  (.block 2 (.loop (.seq (.reg [⟨(some 39), none, .op (.bin .none .lss (.t 38) (.t 37))⟩] [])
  (.seq (.cond (.t 39)
  .skip
  (.exit 2))
  (.seq (.block 3 (.seq (.reg [⟨(some 40), none, .op (.mv (.t 38))⟩,
  ⟨(some 41), none, .op (.iad none (some 2) (.t 36) (.t 38))⟩,
  ⟨(some 42), none, .op (.load (some 2) (.t 41))⟩,
  ⟨(some 7), none, .op (.new [(.int .i64 0), .nils])⟩,
  ⟨(some 6), none, .op (.mv (.t 40))⟩,
  ⟨none, none, .op (.store 2 (.t 7) (.t 42))⟩] [])
  (.seq (.reg [⟨(some 43), none, .op (.load (some 2) (.t 1))⟩,
  ⟨(some 44), none, .op (.fad 0 (.t 7))⟩,
  ⟨(some 45), none, .op (.load none (.t 44))⟩,
  ⟨(some 46), none, .call 20 [(.t 43), (.t 45)]⟩,
  ⟨(some 8), none, .op (.mv (.t 46))⟩] [])
  (.seq (.seq (.reg [⟨(some 47), none, .op (.mv (.t 8))⟩,
  ⟨(some 48), none, .op (.bin .none .lss (.t 47) (.v (.int .i64 0)))⟩,
  ⟨(some 49), none, .op (.mv (.t 48))⟩,
  ⟨(some 50), some (49, false), .op (.mv (.t 6))⟩,
  ⟨(some 51), some (49, false), .op (.bin .none .gtr (.t 50) (.v (.int .i64 0)))⟩,
  ⟨(some 52), some (49, false), .op (.mv (.t 51))⟩,
  ⟨(some 53), some (52, true), .op (.fad 1 (.t 1))⟩,
  ⟨(some 54), some (52, true), .op (.load none (.t 53))⟩,
  ⟨(some 55), some (52, true), .op (.mv (.t 6))⟩,
  ⟨(some 56), some (52, true), .op (.bin .none .sub (.t 55) (.v (.int .i64 1)))⟩,
  ⟨(some 57), some (52, true), .op (.iad none (some 2) (.t 54) (.t 56))⟩,
  ⟨(some 58), some (52, true), .op (.fad 0 (.t 57))⟩,
  ⟨(some 59), some (52, true), .op (.load none (.t 58))⟩,
  ⟨(some 60), some (52, true), .op (.fad 0 (.t 7))⟩,
  ⟨(some 61), some (52, true), .op (.load none (.t 60))⟩,
  ⟨(some 62), some (52, true), .op (.bin .none .geq (.t 59) (.t 61))⟩,
  ⟨(some 63), some (49, false), .op (.pick (.t 52) (.t 62) (.v (.bool false)))⟩,
  ⟨(some 64), none, .op (.pick (.t 49) (.v (.bool true)) (.t 63))⟩] [])
  (.cond (.t 64)
  (.seq (.reg [⟨(some 2), none, .op (.mv (.v (.int .i64 190)))⟩] [])
  .ret)
  .skip))
  (.seq (.reg [⟨(some 65), none, .op (.fad 1 (.t 7))⟩,
  ⟨(some 66), none, .op (.load none (.t 65))⟩,
  ⟨(some 67), none, .op (.len .sl (.t 66))⟩,
  ⟨(some 68), none, .op (.mv (.v (.int .i64 0)))⟩] [])
  (.block 4 (.loop (.seq (.reg [⟨(some 69), none, .op (.bin .none .lss (.t 68) (.t 67))⟩] [])
  (.seq (.cond (.t 69)
  .skip
  (.exit 4))
  (.seq (.block 5 (.seq (.reg [⟨(some 70), none, .op (.mv (.t 68))⟩,
  ⟨(some 71), none, .op (.iad none none (.t 66) (.t 68))⟩,
  ⟨(some 72), none, .op (.load none (.t 71))⟩,
  ⟨(some 9), none, .op (.mv (.t 70))⟩,
  ⟨(some 10), none, .op (.mv (.t 72))⟩] [])
  (.seq (.reg [⟨(some 73), none, .op (.mv (.t 10))⟩,
  ⟨(some 74), none, .op (.fad 0 (.t 1))⟩,
  ⟨(some 75), none, .op (.load none (.t 74))⟩,
  ⟨(some 76), none, .op (.mv (.t 8))⟩,
  ⟨(some 77), none, .op (.iad none (some 6) (.t 75) (.t 76))⟩,
  ⟨(some 78), none, .op (.fad 2 (.t 77))⟩,
  ⟨(some 79), none, .op (.load none (.t 78))⟩,
  ⟨(some 80), none, .call 21 [(.t 73), (.t 79)]⟩,
  ⟨(some 81), none, .op (.un .not (.t 80))⟩,
  ⟨(some 82), none, .op (.mv (.t 81))⟩,
  ⟨(some 83), some (82, false), .op (.mv (.t 9))⟩,
  ⟨(some 84), some (82, false), .op (.bin .none .gtr (.t 83) (.v (.int .i64 0)))⟩,
  ⟨(some 85), some (82, false), .op (.mv (.t 84))⟩,
  ⟨(some 86), some (85, true), .op (.fad 1 (.t 7))⟩,
  ⟨(some 87), some (85, true), .op (.load none (.t 86))⟩,
  ⟨(some 88), some (85, true), .op (.mv (.t 9))⟩,
  ⟨(some 89), some (85, true), .op (.bin .none .sub (.t 88) (.v (.int .i64 1)))⟩,
  ⟨(some 90), some (85, true), .op (.iad none none (.t 87) (.t 89))⟩,
  ⟨(some 91), some (85, true), .op (.load none (.t 90))⟩,
  ⟨(some 92), some (85, true), .op (.mv (.t 10))⟩,
  ⟨(some 93), some (85, true), .op (.bin .none .geq (.t 91) (.t 92))⟩,
  ⟨(some 94), some (82, false), .op (.pick (.t 85) (.t 93) (.v (.bool false)))⟩,
  ⟨(some 95), none, .op (.pick (.t 82) (.v (.bool true)) (.t 94))⟩] [])
  (.cond (.t 95)
  (.seq (.reg [⟨(some 2), none, .op (.mv (.v (.int .i64 190)))⟩] [])
  .ret)
  .skip))))
  (.reg [⟨(some 96), none, .op (.bin .none .add (.t 68) (.v (.int .i64 1)))⟩,
  ⟨(some 68), none, .op (.mv (.t 96))⟩] [])))))))))))
  (.reg [⟨(some 97), none, .op (.bin .none .add (.t 38) (.v (.int .i64 1)))⟩,
  ⟨(some 38), none, .op (.mv (.t 97))⟩] [])))))))
  (.seq (.reg [⟨(some 2), none, .op (.mv (.v (.int .i64 0)))⟩] [])
  .ret))))))
theorem fn9 : Fn3 Try.prog 9 98 [(2, none)] fc9 := ⟨_, _, Try.func9, rfl, rfl, rfl, by kernel_rfl⟩
def tables_Check_s (t_00 : Tables) : Option Int :=
  (jp (fun (s_2 : Bool) => (if s_2 then (some 190) else ((rng (fun (i_4 : Nat) (r_5 : FuncRow) (s_3 : Int) => (((tables_row_s r_5 s_3).bind fun row_7 => (if (!row_7) then (some (.ret (some 190))) else (some (.nxt r_5.Stop)))) : Option (Stp Int (Option Int)))) t_00.Funcs 0).bind (oc (fun (s_3 : Int) => ((rng (fun (i_9 : Nat) (s_10 : Site) (s_8 : Unit) => (((tables_owner_s t_00 s_10.At).bind fun own_12 => (jp (fun (s_14 : Bool) => (if s_14 then (some (.ret (some 190))) else ((rng (fun (i_17 : Nat) (o_18 : Int) (s_16 : Unit) => ((jp (fun (s_21 : Bool) => (if s_21 then (some (.ret (some (.ret (some 190))))) else (some (.nxt ())))) (fun k_20 => ((getI t_00.Funcs own_12).bind fun y_22 => ((tables_offset_s o_18 y_22.Size).bind fun off_23 => (if (!off_23) then (k_20 true) else (if (decide ((i_17 : Int) > 0)) then ((getI s_10.Live (I64 ((i_17 : Int) - 1))).bind fun y_24 => (k_20 (decide (y_24 ≥ o_18)))) else (k_20 false))))))) : Option (Stp Unit (Option (Stp Unit (Option Int)))))) s_10.Live ()).bind (oc (fun (s_16 : Unit) => (some (.nxt ()))))))) (fun k_13 => (if (decide (own_12 < 0)) then (k_13 true) else (if (decide ((i_9 : Int) > 0)) then ((getI t_00.Sites (I64 ((i_9 : Int) - 1))).bind fun y_15 => (k_13 (decide (y_15.At ≥ s_10.At)))) else (k_13 false)))))) : Option (Stp Unit (Option Int)))) t_00.Sites ()).bind (oc (fun (s_8 : Unit) => (some 0))))))))) (fun k_1 => (if (decide ((List.length t_00.Funcs : Int) > 16)) then (k_1 true) else (k_1 (decide ((List.length t_00.Sites : Int) > 65536))))))
theorem tables_Check_ev {t_00 : Tables} {r : Int} (h : tables_Check_s t_00 = some r) : PureEv Try.prog 9 [(Tables.av t_00)] (.int .i64 r) := by
  unfold tables_Check_s at h
  refine PureEv_end mixed fn9 (by simp) [5, 7] 6 ?_
  unfold fc9
  refine E_sq ?_
  refine E_reg ?_
  refine E_op0 (v' := (.cptr (Tables.av t_00).cells 0)) rfl rfl ?_
  refine E_mv (v' := (.int .i64 0)) rfl ?_
  refine E_nil ?_
  refine E_nx ?_
  refine E_as ?_
  refine E_jp h (fun s_2 => [(1, (.cptr (Tables.av t_00).cells 0)), (20, (.bool s_2))]) (fun s_2 => []) (fun k_1 h => ?_) (fun s_2 h => ?_)
  · refine E_reg ?_
    refine E_op0 (v' := (.cptr (Tables.av t_00).cells 0)) rfl rfl ?_
    refine E_op0 (v' := (.sl false 6 (List.map FuncRow.av t_00.Funcs))) rfl rfl ?_
    refine E_len rfl ?_
    refine E_op0 (v' := (.bool (decide ((List.length t_00.Funcs : Int) > 16)))) rfl rfl ?_
    refine E_mv (v' := (.bool (decide ((List.length t_00.Funcs : Int) > 16)))) rfl ?_
    refine E_gsT (b := (decide ((List.length t_00.Funcs : Int) > 16))) rfl rfl rfl (fun hb => ?_) (fun hb => ?_)
    · rw [ite_f hb] at h
      refine E_op0 (v' := (.cptr (Tables.av t_00).cells 1)) rfl rfl ?_
      refine E_gh rfl ?_
      refine E_op0 (v' := (.sl false 2 (List.map Site.av t_00.Sites))) rfl rfl ?_
      refine E_gh rfl ?_
      refine E_len rfl ?_
      refine E_gh rfl ?_
      refine E_op0 (v' := (.bool (decide ((List.length t_00.Sites : Int) > 65536)))) rfl rfl ?_
      refine E_pf rfl rfl ?_
      refine E_nil ?_
      exact E_jx _ h (wk_aw ⟨(.refl _), (.refl _), trivial⟩)
    · rw [ite_t hb] at h
      refine E_gm rfl ?_
      refine E_gm rfl ?_
      refine E_gm rfl ?_
      refine E_pt rfl rfl ?_
      refine E_nil ?_
      exact E_jx _ h (wk_aw ⟨(.refl _), (.refl _), trivial⟩)
  · refine E_sq ?_
    refine E_cs (t := s_2) rfl (fun hb => ?_) (fun hb => ?_)
    · rw [ite_t hb] at h
      refine E_sq ?_
      refine E_reg ?_
      refine E_mv (v' := (.int .i64 190)) rfl ?_
      refine E_nil ?_
      refine E_nx ?_
      refine E_ret ?_
      refine E_thr ?_
      cases h
      exact ⟨trivial, _, rfl, (fz_b rfl (.refl _))⟩
    · rw [ite_f hb] at h
      refine E_skip ?_
      refine E_nx ?_
      refine E_sq ?_
      refine E_reg ?_
      refine E_mv (v' := (.int .i64 0)) rfl ?_
      refine E_nil ?_
      refine E_nx ?_
      refine E_as ?_
      refine E_sq ?_
      refine E_reg ?_
      refine E_op0 (v' := (.cptr (Tables.av t_00).cells 0)) rfl rfl ?_
      refine E_op0 (v' := (.sl false 6 (List.map FuncRow.av t_00.Funcs))) rfl rfl ?_
      refine E_len rfl ?_
      refine E_mv (v' := (.int .i64 0)) rfl ?_
      refine E_nil ?_
      refine E_nx ?_
      refine E_sq ?_
      refine E_rngO (fun s_3 => [(1, (.cptr (Tables.av t_00).cells 0)), (3, (.int .i64 s_3)), (22, (.sl false 6 (List.map FuncRow.av t_00.Funcs)))]) (fun s_3 => []) h (by decide) (by decide) (fun _ => ⟨rfl, rfl, rfl, rfl⟩) (wk_aw ⟨(.refl _), (.refl _), (.refl _), (.refl _), (.refl _), trivial⟩) (fun i_4 r_5 s_3 c hx_6 hlt h => ?_) (fun s_3 fr' S' h hw => ?_)
      · refine E_sq ?_
        refine E_reg ?_
        refine E_iadF rfl rfl (getI_of hx_6) ?_
        refine E_op0 (v' := (FuncRow.av r_5)) rfl rfl ?_
        refine E_op (v' := .ptr 0 0 0) (S' := [.arr 0 [(.int .i64 0), (.int .i64 0), (.int .i64 0), .nils, .nils, (.int .i64 0)]]) rfl rfl rfl ?_
        refine E_do (S' := [.arr 0 [(.int .i64 r_5.Start), (.int .i64 r_5.Stop), (.int .i64 r_5.Size), (.sl false 1 (List.map (avI .u8) r_5.Params)), (.sl false 2 (List.map Save.av r_5.Saves)), (.int .i64 r_5.Resume)]]) rfl rfl ?_
        refine E_nil ?_
        refine E_nx ?_
        refine E_as ?_
        refine E_sq ?_
        refine E_reg ?_
        refine E_opw (v' := (FuncRow.av r_5)) rfl (.aggL ⟨(.refl _), (.refl _), (.refl _), (.refl _), (.refl _), (.refl _), trivial⟩) rfl ?_
        refine E_mv (v' := (.int .i64 s_3)) rfl ?_
        obtain ⟨row_7, hrow_7, h⟩ := bd_some h
        refine E_callW (tables_row_ev  hrow_7) rfl ⟨(.refl _), (.refl _), trivial⟩ (blwL_of ⟨(FuncRow.enc.blw _ 0), rfl, trivial⟩) rfl ?_
        refine E_op0 (v' := (.bool (!row_7))) rfl rfl ?_
        refine E_nil ?_
        refine E_nx ?_
        refine E_sq ?_
        refine E_cs (t := (!row_7)) rfl (fun hb => ?_) (fun hb => ?_)
        · rw [ite_t hb] at h
          refine E_sq ?_
          refine E_reg ?_
          refine E_mv (v' := (.int .i64 190)) rfl ?_
          refine E_nil ?_
          refine E_nx ?_
          refine E_ret ?_
          refine E_thr ?_
          cases h
          refine L_rrO rfl (fun h => ?_)
          refine E_thr ?_
          cases h
          exact ⟨trivial, _, rfl, (fz_b rfl (.refl _))⟩
        · rw [ite_f hb] at h
          refine E_skip ?_
          refine E_nx ?_
          refine E_reg ?_
          refine E_op0 (v' := (.ptr 0 0 1)) rfl rfl ?_
          refine E_op (v' := (.int .i64 r_5.Stop)) (S' := [.arr 0 [(.int .i64 r_5.Start), (.int .i64 r_5.Stop), (.int .i64 r_5.Size), (.sl false 1 (List.map (avI .u8) r_5.Params)), (.sl false 2 (List.map Save.av r_5.Saves)), (.int .i64 r_5.Resume)]]) rfl rfl rfl ?_
          refine E_mv (v' := (.int .i64 r_5.Stop)) rfl ?_
          refine E_nil ?_
          cases h
          exact L_nn rfl (wk_rn [] rfl (Nat.le_of_ble_eq_true rfl) trivial ⟨(rn_b rfl), (rn_b rfl), (rn_b (cp_blw (Tables.enc.blw _ 0))), (rn_b rfl), (rn_b (FuncRow.enc.blws 0)), trivial⟩)
      · refine X_nx hw ?_
        refine E_as ?_
        refine E_sq ?_
        refine E_reg ?_
        refine E_op0 (v' := (.cptr (Tables.av t_00).cells 1)) rfl rfl ?_
        refine E_op0 (v' := (.sl false 2 (List.map Site.av t_00.Sites))) rfl rfl ?_
        refine E_len rfl ?_
        refine E_mv (v' := (.int .i64 0)) rfl ?_
        refine E_nil ?_
        refine E_nx ?_
        refine E_sq ?_
        refine E_rngO (fun s_8 => [(1, (.cptr (Tables.av t_00).cells 0)), (36, (.sl false 2 (List.map Site.av t_00.Sites)))]) (fun s_8 => []) h (by decide) (by decide) (fun _ => ⟨rfl, rfl, rfl, rfl⟩) (wk_aw ⟨(.refl _), (.refl _), (.refl _), (.refl _), trivial⟩) (fun i_9 s_10 s_8 c hx_11 hlt h => ?_) (fun s_8 fr' S' h hw => ?_)
        · refine E_sq ?_
          refine E_reg ?_
          refine E_mv (v' := (.int .i64 (i_9 : Int))) rfl ?_
          refine E_iadF rfl rfl (getI_of hx_11) ?_
          refine E_op0 (v' := (Site.av s_10)) rfl rfl ?_
          refine E_op (v' := .ptr 0 0 0) (S' := [.arr 0 [(.int .i64 0), .nils]]) rfl rfl rfl ?_
          refine E_mv (v' := (.int .i64 (i_9 : Int))) rfl ?_
          refine E_do (S' := [.arr 0 [(.int .i64 s_10.At), (.sl false 1 (List.map (avI .i64) s_10.Live))]]) rfl rfl ?_
          refine E_nil ?_
          refine E_nx ?_
          refine E_sq ?_
          refine E_reg ?_
          refine E_op0 (v' := (Tables.av t_00)) rfl rfl ?_
          refine E_op0 (v' := (.ptr 0 0 0)) rfl rfl ?_
          refine E_op (v' := (.int .i64 s_10.At)) (S' := [.arr 0 [(.int .i64 s_10.At), (.sl false 1 (List.map (avI .i64) s_10.Live))]]) rfl rfl rfl ?_
          obtain ⟨own_12, hown_12, h⟩ := bd_some h
          refine E_callW (tables_owner_ev  hown_12) rfl ⟨(.refl _), (.refl _), trivial⟩ (blwL_of ⟨(Tables.enc.blw _ 0), rfl, trivial⟩) rfl ?_
          refine E_mv (v' := (.int .i64 own_12)) rfl ?_
          refine E_nil ?_
          refine E_nx ?_
          refine E_as ?_
          refine E_jp h (fun s_14 => [(1, (.cptr (Tables.av t_00).cells 0)), (7, (.ptr 0 0 0)), (8, (.int .i64 own_12)), (36, (.sl false 2 (List.map Site.av t_00.Sites))), (37, (.int .i64 (List.length t_00.Sites : Int))), (38, (.int .i64 (i_9 : Int))), (64, (.bool s_14))]) (fun s_14 => [.arr 0 [(.int .i64 s_10.At), (.sl false 1 (List.map (avI .i64) s_10.Live))]]) (fun k_13 h => ?_) (fun s_14 h => ?_)
          · refine E_reg ?_
            refine E_mv (v' := (.int .i64 own_12)) rfl ?_
            refine E_op0 (v' := (.bool (decide (own_12 < 0)))) rfl rfl ?_
            refine E_mv (v' := (.bool (decide (own_12 < 0)))) rfl ?_
            refine E_gsT (b := (decide (own_12 < 0))) rfl rfl rfl (fun hb => ?_) (fun hb => ?_)
            · rw [ite_f hb] at h
              refine E_mv (v' := (.int .i64 (i_9 : Int))) rfl ?_
              refine E_gh rfl ?_
              refine E_op0 (v' := (.bool (decide ((i_9 : Int) > 0)))) rfl rfl ?_
              refine E_gh rfl ?_
              refine E_mv (v' := (.bool (decide ((i_9 : Int) > 0)))) rfl ?_
              refine E_gsT (b := (decide ((i_9 : Int) > 0))) rfl rfl rfl (fun hb => ?_) (fun hb => ?_)
              · rw [ite_t hb] at h
                refine E_op0 (v' := (.cptr (Tables.av t_00).cells 1)) rfl rfl ?_
                refine E_gh rfl ?_
                refine E_op0 (v' := (.sl false 2 (List.map Site.av t_00.Sites))) rfl rfl ?_
                refine E_gh rfl ?_
                refine E_mv (v' := (.int .i64 (i_9 : Int))) rfl ?_
                refine E_gh rfl ?_
                refine E_op0 (v' := (.int .i64 (I64 ((i_9 : Int) - 1)))) rfl rfl ?_
                refine E_gh rfl ?_
                obtain ⟨y_15, hy_15, h⟩ := bd_some h
                refine E_iadF rfl rfl hy_15 ?_
                refine E_gh rfl ?_
                refine E_op0 (v' := (.cptr (Site.av y_15).cells 0)) rfl rfl ?_
                refine E_gh rfl ?_
                refine E_op0 (v' := (.int .i64 y_15.At)) rfl rfl ?_
                refine E_gh rfl ?_
                refine E_op0 (v' := (.ptr 0 0 0)) rfl rfl ?_
                refine E_gh rfl ?_
                refine E_op (v' := (.int .i64 s_10.At)) (S' := [.arr 0 [(.int .i64 s_10.At), (.sl false 1 (List.map (avI .i64) s_10.Live))]]) rfl rfl rfl ?_
                refine E_gh rfl ?_
                refine E_op0 (v' := (.bool (decide (y_15.At ≥ s_10.At)))) rfl rfl ?_
                refine E_gh rfl ?_
                refine E_pt rfl rfl ?_
                refine E_pf rfl rfl ?_
                refine E_nil ?_
                exact E_jx _ h (wk_rn [some (0, 0)] rfl (Nat.le_of_ble_eq_true rfl) ⟨(rn_ob rfl rfl (.cons (rn_b rfl) (.cons (rn_b ((encI .i64).blws 0)) (.nil (Nat.zero_le _)))) rfl), trivial⟩ ⟨(rn_b (cp_blw (Tables.enc.blw _ 0))), (rn_ptr rfl rfl rfl rfl), (rn_b rfl), (rn_b (Site.enc.blws 0)), (rn_b rfl), (rn_b rfl), (rn_b rfl), trivial⟩)
              · rw [ite_f hb] at h
                refine E_gm rfl ?_
                refine E_gm rfl ?_
                refine E_gm rfl ?_
                refine E_gm rfl ?_
                refine E_gm rfl ?_
                refine E_gm rfl ?_
                refine E_gm rfl ?_
                refine E_gm rfl ?_
                refine E_gm rfl ?_
                refine E_gh rfl ?_
                refine E_pf rfl rfl ?_
                refine E_pf rfl rfl ?_
                refine E_nil ?_
                exact E_jx _ h (wk_rn [some (0, 0)] rfl (Nat.le_of_ble_eq_true rfl) ⟨(rn_ob rfl rfl (.cons (rn_b rfl) (.cons (rn_b ((encI .i64).blws 0)) (.nil (Nat.zero_le _)))) rfl), trivial⟩ ⟨(rn_b (cp_blw (Tables.enc.blw _ 0))), (rn_ptr rfl rfl rfl rfl), (rn_b rfl), (rn_b (Site.enc.blws 0)), (rn_b rfl), (rn_b rfl), (rn_b rfl), trivial⟩)
            · rw [ite_t hb] at h
              refine E_gm rfl ?_
              refine E_gm rfl ?_
              refine E_gz rfl ?_
              refine E_gz rfl ?_
              refine E_gz rfl ?_
              refine E_gz rfl ?_
              refine E_gz rfl ?_
              refine E_gz rfl ?_
              refine E_gz rfl ?_
              refine E_gz rfl ?_
              refine E_gz rfl ?_
              refine E_gz rfl ?_
              refine E_gm rfl ?_
              refine E_pt rfl rfl ?_
              refine E_nil ?_
              exact E_jx _ h (wk_rn [some (0, 0)] rfl (Nat.le_of_ble_eq_true rfl) ⟨(rn_ob rfl rfl (.cons (rn_b rfl) (.cons (rn_b ((encI .i64).blws 0)) (.nil (Nat.zero_le _)))) rfl), trivial⟩ ⟨(rn_b (cp_blw (Tables.enc.blw _ 0))), (rn_ptr rfl rfl rfl rfl), (rn_b rfl), (rn_b (Site.enc.blws 0)), (rn_b rfl), (rn_b rfl), (rn_b rfl), trivial⟩)
          · refine E_sq ?_
            refine E_cs (t := s_14) rfl (fun hb => ?_) (fun hb => ?_)
            · rw [ite_t hb] at h
              refine E_sq ?_
              refine E_reg ?_
              refine E_mv (v' := (.int .i64 190)) rfl ?_
              refine E_nil ?_
              refine E_nx ?_
              refine E_ret ?_
              refine E_thr ?_
              cases h
              refine L_rrO rfl (fun h => ?_)
              refine E_thr ?_
              cases h
              exact ⟨trivial, _, rfl, (fz_b rfl (.refl _))⟩
            · rw [ite_f hb] at h
              refine E_skip ?_
              refine E_nx ?_
              refine E_sq ?_
              refine E_reg ?_
              refine E_op0 (v' := (.ptr 0 0 1)) rfl rfl ?_
              refine E_op (v' := (.sl false 1 (List.map (avI .i64) s_10.Live))) (S' := [.arr 0 [(.int .i64 s_10.At), (.sl false 1 (List.map (avI .i64) s_10.Live))]]) rfl rfl rfl ?_
              refine E_len rfl ?_
              refine E_mv (v' := (.int .i64 0)) rfl ?_
              refine E_nil ?_
              refine E_nx ?_
              refine E_rngO (fun s_16 => [(1, (.cptr (Tables.av t_00).cells 0)), (7, (.ptr 0 0 0)), (8, (.int .i64 own_12)), (36, (.sl false 2 (List.map Site.av t_00.Sites))), (37, (.int .i64 (List.length t_00.Sites : Int))), (38, (.int .i64 (i_9 : Int))), (66, (.sl false 1 (List.map (avI .i64) s_10.Live)))]) (fun s_16 => [.arr 0 [(.int .i64 s_10.At), (.sl false 1 (List.map (avI .i64) s_10.Live))]]) h (by decide) (by decide) (fun _ => ⟨rfl, rfl, rfl, rfl⟩) (wk_rn [some (0, 0)] rfl (Nat.le_of_ble_eq_true rfl) ⟨(rn_ob rfl rfl (.cons (rn_b rfl) (.cons (rn_b ((encI .i64).blws 0)) (.nil (Nat.zero_le _)))) rfl), trivial⟩ ⟨(rn_b rfl), (rn_b rfl), (rn_b (cp_blw (Tables.enc.blw _ 0))), (rn_ptr rfl rfl rfl rfl), (rn_b rfl), (rn_b (Site.enc.blws 0)), (rn_b rfl), (rn_b rfl), (rn_b ((encI .i64).blws 0)), trivial⟩) (fun i_17 o_18 s_16 c hx_19 hlt h => ?_) (fun s_16 fr' S' h hw => ?_)
              · refine E_sq ?_
                refine E_reg ?_
                refine E_mv (v' := (.int .i64 (i_17 : Int))) rfl ?_
                refine E_iadF rfl rfl (getI_of hx_19) ?_
                refine E_op0 (v' := (.int .i64 o_18)) rfl rfl ?_
                refine E_mv (v' := (.int .i64 (i_17 : Int))) rfl ?_
                refine E_mv (v' := (.int .i64 o_18)) rfl ?_
                refine E_nil ?_
                refine E_nx ?_
                refine E_jp h (fun s_21 => [(1, (.cptr (Tables.av t_00).cells 0)), (7, (.ptr 0 0 0)), (8, (.int .i64 own_12)), (36, (.sl false 2 (List.map Site.av t_00.Sites))), (37, (.int .i64 (List.length t_00.Sites : Int))), (38, (.int .i64 (i_9 : Int))), (66, (.sl false 1 (List.map (avI .i64) s_10.Live))), (67, (.int .i64 (List.length s_10.Live : Int))), (68, (.int .i64 (i_17 : Int))), (95, (.bool s_21))]) (fun s_21 => [.arr 0 [(.int .i64 s_10.At), (.sl false 1 (List.map (avI .i64) s_10.Live))]]) (fun k_20 h => ?_) (fun s_21 h => ?_)
                · refine E_reg ?_
                  refine E_mv (v' := (.int .i64 o_18)) rfl ?_
                  refine E_op0 (v' := (.cptr (Tables.av t_00).cells 0)) rfl rfl ?_
                  refine E_op0 (v' := (.sl false 6 (List.map FuncRow.av t_00.Funcs))) rfl rfl ?_
                  refine E_mv (v' := (.int .i64 own_12)) rfl ?_
                  obtain ⟨y_22, hy_22, h⟩ := bd_some h
                  refine E_iadF rfl rfl hy_22 ?_
                  refine E_op0 (v' := (.cptr (FuncRow.av y_22).cells 2)) rfl rfl ?_
                  refine E_op0 (v' := (.int .i64 y_22.Size)) rfl rfl ?_
                  obtain ⟨off_23, hoff_23, h⟩ := bd_some h
                  refine E_callW (tables_offset_ev  hoff_23) rfl ⟨(.refl _), (.refl _), trivial⟩ (blwL_of ⟨rfl, rfl, trivial⟩) rfl ?_
                  refine E_op0 (v' := (.bool (!off_23))) rfl rfl ?_
                  refine E_mv (v' := (.bool (!off_23))) rfl ?_
                  refine E_gsT (b := (!off_23)) rfl rfl rfl (fun hb => ?_) (fun hb => ?_)
                  · rw [ite_f hb] at h
                    refine E_mv (v' := (.int .i64 (i_17 : Int))) rfl ?_
                    refine E_gh rfl ?_
                    refine E_op0 (v' := (.bool (decide ((i_17 : Int) > 0)))) rfl rfl ?_
                    refine E_gh rfl ?_
                    refine E_mv (v' := (.bool (decide ((i_17 : Int) > 0)))) rfl ?_
                    refine E_gsT (b := (decide ((i_17 : Int) > 0))) rfl rfl rfl (fun hb => ?_) (fun hb => ?_)
                    · rw [ite_t hb] at h
                      refine E_op0 (v' := (.ptr 0 0 1)) rfl rfl ?_
                      refine E_gh rfl ?_
                      refine E_op (v' := (.sl false 1 (List.map (avI .i64) s_10.Live))) (S' := [.arr 0 [(.int .i64 s_10.At), (.sl false 1 (List.map (avI .i64) s_10.Live))]]) rfl rfl rfl ?_
                      refine E_gh rfl ?_
                      refine E_mv (v' := (.int .i64 (i_17 : Int))) rfl ?_
                      refine E_gh rfl ?_
                      refine E_op0 (v' := (.int .i64 (I64 ((i_17 : Int) - 1)))) rfl rfl ?_
                      refine E_gh rfl ?_
                      obtain ⟨y_24, hy_24, h⟩ := bd_some h
                      refine E_iadF rfl rfl hy_24 ?_
                      refine E_gh rfl ?_
                      refine E_op0 (v' := (.int .i64 y_24)) rfl rfl ?_
                      refine E_gh rfl ?_
                      refine E_mv (v' := (.int .i64 o_18)) rfl ?_
                      refine E_gh rfl ?_
                      refine E_op0 (v' := (.bool (decide (y_24 ≥ o_18)))) rfl rfl ?_
                      refine E_gh rfl ?_
                      refine E_pt rfl rfl ?_
                      refine E_pf rfl rfl ?_
                      refine E_nil ?_
                      exact E_jx _ h (wk_rn [some (0, 0)] rfl (Nat.le_of_ble_eq_true rfl) ⟨(rn_ob rfl rfl (.cons (rn_b rfl) (.cons (rn_b ((encI .i64).blws 0)) (.nil (Nat.zero_le _)))) rfl), trivial⟩ ⟨(rn_b (cp_blw (Tables.enc.blw _ 0))), (rn_ptr rfl rfl rfl rfl), (rn_b rfl), (rn_b (Site.enc.blws 0)), (rn_b rfl), (rn_b rfl), (rn_b ((encI .i64).blws 0)), (rn_b rfl), (rn_b rfl), (rn_b rfl), trivial⟩)
                    · rw [ite_f hb] at h
                      refine E_gm rfl ?_
                      refine E_gm rfl ?_
                      refine E_gm rfl ?_
                      refine E_gm rfl ?_
                      refine E_gm rfl ?_
                      refine E_gm rfl ?_
                      refine E_gm rfl ?_
                      refine E_gh rfl ?_
                      refine E_pf rfl rfl ?_
                      refine E_pf rfl rfl ?_
                      refine E_nil ?_
                      exact E_jx _ h (wk_rn [some (0, 0)] rfl (Nat.le_of_ble_eq_true rfl) ⟨(rn_ob rfl rfl (.cons (rn_b rfl) (.cons (rn_b ((encI .i64).blws 0)) (.nil (Nat.zero_le _)))) rfl), trivial⟩ ⟨(rn_b (cp_blw (Tables.enc.blw _ 0))), (rn_ptr rfl rfl rfl rfl), (rn_b rfl), (rn_b (Site.enc.blws 0)), (rn_b rfl), (rn_b rfl), (rn_b ((encI .i64).blws 0)), (rn_b rfl), (rn_b rfl), (rn_b rfl), trivial⟩)
                  · rw [ite_t hb] at h
                    refine E_gm rfl ?_
                    refine E_gm rfl ?_
                    refine E_gz rfl ?_
                    refine E_gz rfl ?_
                    refine E_gz rfl ?_
                    refine E_gz rfl ?_
                    refine E_gz rfl ?_
                    refine E_gz rfl ?_
                    refine E_gz rfl ?_
                    refine E_gz rfl ?_
                    refine E_gm rfl ?_
                    refine E_pt rfl rfl ?_
                    refine E_nil ?_
                    exact E_jx _ h (wk_rn [some (0, 0)] rfl (Nat.le_of_ble_eq_true rfl) ⟨(rn_ob rfl rfl (.cons (rn_b rfl) (.cons (rn_b ((encI .i64).blws 0)) (.nil (Nat.zero_le _)))) rfl), trivial⟩ ⟨(rn_b (cp_blw (Tables.enc.blw _ 0))), (rn_ptr rfl rfl rfl rfl), (rn_b rfl), (rn_b (Site.enc.blws 0)), (rn_b rfl), (rn_b rfl), (rn_b ((encI .i64).blws 0)), (rn_b rfl), (rn_b rfl), (rn_b rfl), trivial⟩)
                · refine E_cs (t := s_21) rfl (fun hb => ?_) (fun hb => ?_)
                  · rw [ite_t hb] at h
                    refine E_sq ?_
                    refine E_reg ?_
                    refine E_mv (v' := (.int .i64 190)) rfl ?_
                    refine E_nil ?_
                    refine E_nx ?_
                    refine E_ret ?_
                    cases h
                    refine L_rrO rfl (fun h => ?_)
                    cases h
                    refine L_rrO rfl (fun h => ?_)
                    refine E_thr ?_
                    cases h
                    exact ⟨trivial, _, rfl, (fz_b rfl (.refl _))⟩
                  · rw [ite_f hb] at h
                    refine E_skip ?_
                    cases h
                    exact L_nn rfl (wk_rn [some (0, 0)] rfl (Nat.le_of_ble_eq_true rfl) ⟨(rn_ob rfl rfl (.cons (rn_b rfl) (.cons (rn_b ((encI .i64).blws 0)) (.nil (Nat.zero_le _)))) rfl), trivial⟩ ⟨(rn_b rfl), (rn_b rfl), (rn_b (cp_blw (Tables.enc.blw _ 0))), (rn_ptr rfl rfl rfl rfl), (rn_b rfl), (rn_b (Site.enc.blws 0)), (rn_b rfl), (rn_b rfl), (rn_b ((encI .i64).blws 0)), trivial⟩)
              · cases h
                exact X_nn rfl hw (wk_rn [] rfl (Nat.le_of_ble_eq_true rfl) trivial ⟨(rn_b rfl), (rn_b rfl), (rn_b (cp_blw (Tables.enc.blw _ 0))), (rn_b (Site.enc.blws 0)), trivial⟩)
        · refine X_nx hw ?_
          refine E_sq ?_
          refine E_reg ?_
          refine E_mv (v' := (.int .i64 0)) rfl ?_
          refine E_nil ?_
          refine E_nx ?_
          refine E_ret ?_
          cases h
          exact ⟨trivial, _, rfl, (fz_b rfl (.refl _))⟩
/- windlass/tables.number -/
def fc29 : FC := (.seq (.reg [⟨(some 4), none, .op (.mv (.v .nils))⟩] [])
  (.seq (.reg [⟨(some 5), none, .op (.mv (.t 0))⟩,
  ⟨(some 6), none, .op (.mv (.t 1))⟩,
  ⟨(some 7), none, .op (.cint .u8 (.t 6))⟩,
  ⟨(some 8), none, .op (.mv (.t 1))⟩,
  ⟨(some 9), none, .op (.bin .none .shr (.t 8) (.v (.int .u64 8)))⟩,
  ⟨(some 10), none, .op (.cint .u8 (.t 9))⟩,
  ⟨(some 11), none, .op (.mv (.t 1))⟩,
  ⟨(some 12), none, .op (.bin .none .shr (.t 11) (.v (.int .u64 16)))⟩,
  ⟨(some 13), none, .op (.cint .u8 (.t 12))⟩,
  ⟨(some 14), none, .op (.mv (.t 1))⟩,
  ⟨(some 15), none, .op (.bin .none .shr (.t 14) (.v (.int .u64 24)))⟩,
  ⟨(some 16), none, .op (.cint .u8 (.t 15))⟩,
  ⟨(some 17), none, .op (.bsl none [(.int .u8 0)] 4 [(0, 1, (.t 7)), (1, 1, (.t 10)), (2, 1, (.t 13)), (3, 1, (.t 16))])⟩,
  ⟨(some 18), none, .op (.app none 1 (.t 5) (.t 17))⟩,
  ⟨(some 4), none, .op (.mv (.t 18))⟩] [])
  .ret))
theorem fn29 : Fn3 Try.prog 29 19 [(4, none)] fc29 := ⟨_, _, Try.func29, rfl, rfl, rfl, by kernel_rfl⟩
def tables_number_n_s (v_01 : Int) : Option (List Int) :=
  ((appL 1 [] [(U8 v_01), (U8 (shR .i64 v_01 8)), (U8 (shR .i64 v_01 16)), (U8 (shR .i64 v_01 24))]).bind fun l_1 => (some l_1))
theorem tables_number_n_ev {v_01 : Int} {r : (List Int)} (h : tables_number_n_s v_01 = some r) : Ev Try.prog 29 [.nils, (.int .i64 v_01)] (hp []) (.ref 0 1 0 (List.length r) none) (hp [.arr 1 (flat (avI .u8) r)]) := by
  unfold tables_number_n_s at h
  refine Ev_end mixed fn29 (by simp) [18] ?_
  unfold fc29
  refine E_sq ?_
  refine E_reg ?_
  refine E_mv (v' := .nils) rfl ?_
  refine E_nil ?_
  refine E_nx ?_
  refine E_sq ?_
  refine E_reg ?_
  refine E_mv (v' := .nils) rfl ?_
  refine E_mv (v' := (.int .i64 v_01)) rfl ?_
  refine E_op0 (v' := (.int .u8 (U8 v_01))) rfl rfl ?_
  refine E_mv (v' := (.int .i64 v_01)) rfl ?_
  refine E_op0 (v' := (.int .i64 (shR .i64 v_01 8))) rfl rfl ?_
  refine E_op0 (v' := (.int .u8 (U8 (shR .i64 v_01 8)))) rfl rfl ?_
  refine E_mv (v' := (.int .i64 v_01)) rfl ?_
  refine E_op0 (v' := (.int .i64 (shR .i64 v_01 16))) rfl rfl ?_
  refine E_op0 (v' := (.int .u8 (U8 (shR .i64 v_01 16)))) rfl rfl ?_
  refine E_mv (v' := (.int .i64 v_01)) rfl ?_
  refine E_op0 (v' := (.int .i64 (shR .i64 v_01 24))) rfl rfl ?_
  refine E_op0 (v' := (.int .u8 (U8 (shR .i64 v_01 24)))) rfl rfl ?_
  refine E_opw (v' := (.sl true 1 (List.map (avI .u8) [(U8 v_01), (U8 (shR .i64 v_01 8)), (U8 (shR .i64 v_01 16)), (U8 (shR .i64 v_01 24))]))) rfl (.refl _) rfl ?_
  obtain ⟨l_1, hl_1, h⟩ := bd_some h
  refine E_apN (S' := [.arr 0 (flat (avI .u8) l_1)]) (encI .u8) rfl (.inl rfl) (src_sl [(U8 v_01), (U8 (shR .i64 v_01 8)), (U8 (shR .i64 v_01 16)), (U8 (shR .i64 v_01 24))]) hl_1 rfl ?_
  refine E_mv (v' := (.ref 0 0 0 (List.length l_1) none)) rfl ?_
  refine E_nil ?_
  refine E_nx ?_
  refine E_ret ?_
  cases h
  exact ⟨trivial, _, _, rfl, gwk_rn [some (0, 0)] rfl (Nat.le_of_ble_eq_true rfl) ⟨(rn_ob rfl rfl (.refl ((encI .u8).blwf 0 _)) rfl), trivial⟩, (rn_refL (encI .u8) rfl rfl rfl)⟩
def tables_number_r_s (b_00 : (List Int)) (v_01 : Int) : Option (List Int) :=
  ((appL 1 b_00 [(U8 v_01), (U8 (shR .i64 v_01 8)), (U8 (shR .i64 v_01 16)), (U8 (shR .i64 v_01 24))]).bind fun l_1 => (some l_1))
theorem tables_number_r_ev {b_00 : (List Int)} {v_01 : Int} {r : (List Int)} (h : tables_number_r_s b_00 v_01 = some r) : Ev Try.prog 29 [(.ref 0 0 0 (List.length b_00) none), (.int .i64 v_01)] (hp [.arr 0 (flat (avI .u8) b_00)]) (.ref 0 1 0 (List.length r) none) (hp [.arr 1 (flat (avI .u8) r)]) := by
  unfold tables_number_r_s at h
  refine Ev_end mixed fn29 (by simp) [] ?_
  unfold fc29
  refine E_sq ?_
  refine E_reg ?_
  refine E_mv (v' := .nils) rfl ?_
  refine E_nil ?_
  refine E_nx ?_
  refine E_sq ?_
  refine E_reg ?_
  refine E_mv (v' := (.ref 0 0 0 (List.length b_00) none)) rfl ?_
  refine E_mv (v' := (.int .i64 v_01)) rfl ?_
  refine E_op0 (v' := (.int .u8 (U8 v_01))) rfl rfl ?_
  refine E_mv (v' := (.int .i64 v_01)) rfl ?_
  refine E_op0 (v' := (.int .i64 (shR .i64 v_01 8))) rfl rfl ?_
  refine E_op0 (v' := (.int .u8 (U8 (shR .i64 v_01 8)))) rfl rfl ?_
  refine E_mv (v' := (.int .i64 v_01)) rfl ?_
  refine E_op0 (v' := (.int .i64 (shR .i64 v_01 16))) rfl rfl ?_
  refine E_op0 (v' := (.int .u8 (U8 (shR .i64 v_01 16)))) rfl rfl ?_
  refine E_mv (v' := (.int .i64 v_01)) rfl ?_
  refine E_op0 (v' := (.int .i64 (shR .i64 v_01 24))) rfl rfl ?_
  refine E_op0 (v' := (.int .u8 (U8 (shR .i64 v_01 24)))) rfl rfl ?_
  refine E_opw (v' := (.sl true 1 (List.map (avI .u8) [(U8 v_01), (U8 (shR .i64 v_01 8)), (U8 (shR .i64 v_01 16)), (U8 (shR .i64 v_01 24))]))) rfl (.refl _) rfl ?_
  obtain ⟨l_1, hl_1, h⟩ := bd_some h
  refine E_apL (S' := [.arr 1 (flat (avI .u8) l_1)]) (encI .u8) rfl (src_sl [(U8 v_01), (U8 (shR .i64 v_01 8)), (U8 (shR .i64 v_01 16)), (U8 (shR .i64 v_01 24))]) rfl hl_1 rfl ?_
  refine E_mv (v' := (.ref 0 1 0 (List.length l_1) none)) rfl ?_
  refine E_nil ?_
  refine E_nx ?_
  refine E_ret ?_
  cases h
  exact ⟨trivial, _, _, rfl, gwk_rn [some (0, 0)] rfl (Nat.le_of_ble_eq_true rfl) ⟨(rn_obV rfl rfl (.refl ((encI .u8).blwf 0 _)) rfl rfl), trivial⟩, (rn_refL (encI .u8) rfl rfl rfl)⟩
/- windlass/tables.Encode -/
def fc15 : FC := (.seq (.reg [⟨(some 1), none, .op (.box (.t 0))⟩,
  ⟨(some 2), none, .op (.mv (.v .nils))⟩,
  ⟨(some 3), none, .op (.mv (.v (.int .i64 0)))⟩] [])
  (.seq (.seq (.reg [⟨(some 17), none, .op (.load (some 2) (.t 1))⟩,
  ⟨(some 18), none, .call 9 [(.t 17)]⟩,
  ⟨(some 19), none, .op (.bin .none .neq (.t 18) (.v (.int .i64 0)))⟩] [])
  (.cond (.t 19)
  (.seq (.reg [⟨(some 2), none, .op (.mv (.v .nils))⟩,
  ⟨(some 3), none, .op (.mv (.v (.int .i64 190)))⟩] [])
  .ret)
  .skip))
  (.seq (.reg [⟨(some 20), none, .op (.fad 0 (.t 1))⟩,
  ⟨(some 21), none, .op (.load none (.t 20))⟩,
  ⟨(some 22), none, .op (.len .sl (.t 21))⟩,
  ⟨(some 23), none, .call 29 [(.v .nils), (.t 22)]⟩,
  ⟨(some 4), none, .op (.mv (.t 23))⟩] [])
  (.seq (.seq (.reg [⟨(some 24), none, .op (.fad 0 (.t 1))⟩,
  ⟨(some 25), none, .op (.load none (.t 24))⟩,
  ⟨(some 26), none, .op (.len .sl (.t 25))⟩,
  ⟨(some 27), none, .op (.mv (.v (.int .i64 0)))⟩] [])
  (.block 0 (.loop (.seq (.reg [⟨(some 28), none, .op (.bin .none .lss (.t 27) (.t 26))⟩] [])
  (.seq (.cond (.t 28)
  .skip
  (.exit 0))
  (.seq (.block 1 (.seq (.reg [⟨(some 29), none, .op (.iad none (some 6) (.t 25) (.t 27))⟩,
  ⟨(some 30), none, .op (.load (some 6) (.t 29))⟩,
  ⟨(some 6), none, .op (.new [(.int .i64 0), (.int .i64 0), (.int .i64 0), .nils, .nils, (.int .i64 0)])⟩,
  ⟨none, none, .op (.store 6 (.t 6) (.t 30))⟩] [])
  (.seq (.seq (.reg [⟨(some 31), none, .op (.fad 0 (.t 6))⟩,
  ⟨(some 32), none, .op (.load none (.t 31))⟩,
  ⟨(some 33), none, .op (.fad 1 (.t 6))⟩,
  ⟨(some 34), none, .op (.load none (.t 33))⟩,
  ⟨(some 35), none, .op (.fad 2 (.t 6))⟩,
  ⟨(some 36), none, .op (.load none (.t 35))⟩,
  ⟨(some 37), none, .op (.fad 5 (.t 6))⟩,
  ⟨(some 38), none, .op (.load none (.t 37))⟩,
  ⟨(some 39), none, .op (.bin .none .add (.t 38) (.v (.int .i64 1)))⟩,
  ⟨(some 40), none, .op (.fad 3 (.t 6))⟩,
  ⟨(some 41), none, .op (.load none (.t 40))⟩,
  ⟨(some 42), none, .op (.len .sl (.t 41))⟩,
  ⟨(some 43), none, .op (.bsl none [(.int .i64 0)] 5 [(0, 1, (.t 32)), (1, 1, (.t 34)), (2, 1, (.t 36)), (3, 1, (.t 39)), (4, 1, (.t 42))])⟩,
  ⟨(some 44), none, .op (.len .sl (.t 43))⟩,
  ⟨(some 45), none, .op (.mv (.v (.int .i64 0)))⟩] [])
  (.block 2 (.loop (.seq (.reg [⟨(some 46), none, .op (.bin .none .lss (.t 45) (.t 44))⟩] [])
  (.seq (.cond (.t 46)
  .skip
  (.exit 2))
  (.seq (.block 3 (.seq (.reg [⟨(some 47), none, .op (.iad none none (.t 43) (.t 45))⟩,
  ⟨(some 48), none, .op (.load none (.t 47))⟩,
  ⟨(some 8), none, .op (.mv (.t 48))⟩] [])
  (.reg [⟨(some 49), none, .op (.mv (.t 4))⟩,
  ⟨(some 50), none, .op (.mv (.t 8))⟩,
  ⟨(some 51), none, .call 29 [(.t 49), (.t 50)]⟩,
  ⟨(some 4), none, .op (.mv (.t 51))⟩] [])))
  (.reg [⟨(some 52), none, .op (.bin .none .add (.t 45) (.v (.int .i64 1)))⟩,
  ⟨(some 45), none, .op (.mv (.t 52))⟩] [])))))))
  (.seq (.seq (.reg [⟨(some 53), none, .op (.fad 3 (.t 6))⟩,
  ⟨(some 54), none, .op (.load none (.t 53))⟩,
  ⟨(some 55), none, .op (.len .sl (.t 54))⟩,
  ⟨(some 56), none, .op (.mv (.v (.int .i64 0)))⟩] [])
  (.block 4 (.loop (.seq (.reg [⟨(some 57), none, .op (.bin .none .lss (.t 56) (.t 55))⟩] [])
  (.seq (.cond (.t 57)
  .skip
  (.exit 4))
  (.seq (.block 5 (.seq (.reg [⟨(some 58), none, .op (.iad none none (.t 54) (.t 56))⟩,
  ⟨(some 59), none, .op (.load none (.t 58))⟩,
  ⟨(some 10), none, .op (.mv (.t 59))⟩] [])
  (.reg [⟨(some 60), none, .op (.mv (.t 4))⟩,
  ⟨(some 61), none, .op (.mv (.t 10))⟩,
  ⟨(some 62), none, .op (.cint .i64 (.t 61))⟩,
  ⟨(some 63), none, .call 29 [(.t 60), (.t 62)]⟩,
  ⟨(some 4), none, .op (.mv (.t 63))⟩] [])))
  (.reg [⟨(some 64), none, .op (.bin .none .add (.t 56) (.v (.int .i64 1)))⟩,
  ⟨(some 56), none, .op (.mv (.t 64))⟩] [])))))))
  (.seq (.reg [⟨(some 65), none, .op (.mv (.t 4))⟩,
  ⟨(some 66), none, .op (.fad 4 (.t 6))⟩,
  ⟨(some 67), none, .op (.load none (.t 66))⟩,
  ⟨(some 68), none, .op (.len .sl (.t 67))⟩,
  ⟨(some 69), none, .call 29 [(.t 65), (.t 68)]⟩,
  ⟨(some 4), none, .op (.mv (.t 69))⟩] [])
  (.seq (.reg [⟨(some 70), none, .op (.fad 4 (.t 6))⟩,
  ⟨(some 71), none, .op (.load none (.t 70))⟩,
  ⟨(some 72), none, .op (.len .sl (.t 71))⟩,
  ⟨(some 73), none, .op (.mv (.v (.int .i64 0)))⟩] [])
  (.block 6 (.loop (.seq (.reg [⟨(some 74), none, .op (.bin .none .lss (.t 73) (.t 72))⟩] [])
  (.seq (.cond (.t 74)
  .skip
  (.exit 6))
  (.seq (.block 7 (.seq (.reg [⟨(some 75), none, .op (.iad none (some 2) (.t 71) (.t 73))⟩,
  ⟨(some 76), none, .op (.load (some 2) (.t 75))⟩,
  ⟨(some 12), none, .op (.new [(.int .i64 0), (.int .i64 0)])⟩,
  ⟨none, none, .op (.store 2 (.t 12) (.t 76))⟩] [])
  (.reg [⟨(some 77), none, .op (.mv (.t 4))⟩,
  ⟨(some 78), none, .op (.fad 0 (.t 12))⟩,
  ⟨(some 79), none, .op (.load none (.t 78))⟩,
  ⟨(some 80), none, .call 29 [(.t 77), (.t 79)]⟩,
  ⟨(some 81), none, .op (.fad 1 (.t 12))⟩,
  ⟨(some 82), none, .op (.load none (.t 81))⟩,
  ⟨(some 83), none, .call 29 [(.t 80), (.t 82)]⟩,
  ⟨(some 4), none, .op (.mv (.t 83))⟩] [(3, 5)])))
  (.reg [⟨(some 84), none, .op (.bin .none .add (.t 73) (.v (.int .i64 1)))⟩,
  ⟨(some 73), none, .op (.mv (.t 84))⟩] []))))))))))))
  (.reg [⟨(some 85), none, .op (.bin .none .add (.t 27) (.v (.int .i64 1)))⟩,
  ⟨(some 27), none, .op (.mv (.t 85))⟩] [])))))))
  (.seq (.reg [⟨(some 86), none, .op (.mv (.t 4))⟩,
  ⟨(some 87), none, .op (.fad 1 (.t 1))⟩,
  ⟨(some 88), none, .op (.load none (.t 87))⟩,
  ⟨(some 89), none, .op (.len .sl (.t 88))⟩,
  ⟨(some 90), none, .call 29 [(.t 86), (.t 89)]⟩,
  ⟨(some 4), none, .op (.mv (.t 90))⟩] [])
  (.seq (.seq (.reg [⟨(some 91), none, .op (.fad 1 (.t 1))⟩,
  ⟨(some 92), none, .op (.load none (.t 91))⟩,
  ⟨(some 93), none, .op (.len .sl (.t 92))⟩,
  ⟨(some 94), none, .op (.mv (.v (.int .i64 0)))⟩] [])
  (.block 8 (.loop (.seq (.reg [⟨(some 95), none, .op (.bin .none .lss (.t 94) (.t 93))⟩] [])
  (.seq (.cond (.t 95)
  .skip
  (.exit 8))
  (.seq (.block 9 (.seq (.reg [⟨(some 96), none, .op (.iad none (some 2) (.t 92) (.t 94))⟩,
  ⟨(some 97), none, .op (.load (some 2) (.t 96))⟩,
  ⟨(some 14), none, .op (.new [(.int .i64 0), .nils])⟩,
  ⟨none, none, .op (.store 2 (.t 14) (.t 97))⟩] [])
  (.seq (.reg [⟨(some 98), none, .op (.mv (.t 4))⟩,
  ⟨(some 99), none, .op (.fad 0 (.t 14))⟩,
  ⟨(some 100), none, .op (.load none (.t 99))⟩,
  ⟨(some 101), none, .call 29 [(.t 98), (.t 100)]⟩,
  ⟨(some 102), none, .op (.fad 1 (.t 14))⟩,
  ⟨(some 103), none, .op (.load none (.t 102))⟩,
  ⟨(some 104), none, .op (.len .sl (.t 103))⟩,
  ⟨(some 105), none, .call 29 [(.t 101), (.t 104)]⟩,
  ⟨(some 4), none, .op (.mv (.t 105))⟩] [(3, 5)])
  (.seq (.reg [⟨(some 106), none, .op (.fad 1 (.t 14))⟩,
  ⟨(some 107), none, .op (.load none (.t 106))⟩,
  ⟨(some 108), none, .op (.len .sl (.t 107))⟩,
  ⟨(some 109), none, .op (.mv (.v (.int .i64 0)))⟩] [])
  (.block 10 (.loop (.seq (.reg [⟨(some 110), none, .op (.bin .none .lss (.t 109) (.t 108))⟩] [])
  (.seq (.cond (.t 110)
  .skip
  (.exit 10))
  (.seq (.block 11 (.seq (.reg [⟨(some 111), none, .op (.iad none none (.t 107) (.t 109))⟩,
  ⟨(some 112), none, .op (.load none (.t 111))⟩,
  ⟨(some 16), none, .op (.mv (.t 112))⟩] [])
  (.reg [⟨(some 113), none, .op (.mv (.t 4))⟩,
  ⟨(some 114), none, .op (.mv (.t 16))⟩,
  ⟨(some 115), none, .call 29 [(.t 113), (.t 114)]⟩,
  ⟨(some 4), none, .op (.mv (.t 115))⟩] [])))
  (.reg [⟨(some 116), none, .op (.bin .none .add (.t 109) (.v (.int .i64 1)))⟩,
  ⟨(some 109), none, .op (.mv (.t 116))⟩] []))))))))))
  (.reg [⟨(some 117), none, .op (.bin .none .add (.t 94) (.v (.int .i64 1)))⟩,
  ⟨(some 94), none, .op (.mv (.t 117))⟩] [])))))))
  (.seq (.reg [⟨(some 118), none, .op (.mv (.t 4))⟩,
  ⟨(some 2), none, .op (.mv (.t 118))⟩,
  ⟨(some 3), none, .op (.mv (.v (.int .i64 0)))⟩] [])
  .ret)))))))
theorem fn15 : Fn3 Try.prog 15 119 [(2, none), (3, none)] fc15 := ⟨_, _, Try.func15, rfl, rfl, rfl, by kernel_rfl⟩
def tables_Encode_s (t_00 : Tables) : Option ((List Int) × Int) :=
  ((tables_Check_s t_00).bind fun che_1 => (if (che_1 != 0) then (some ([], 190)) else ((tables_number_n_s (List.length t_00.Funcs : Int)).bind fun (num_2 : (List Int)) => ((rng (fun (i_4 : Nat) (r_5 : FuncRow) (s_3 : (List Int)) => (((rng (fun (i_8 : Nat) (v_9 : Int) (s_7 : (List Int)) => (((tables_number_r_s s_7 v_9).bind fun (num_11 : (List Int)) => (some (.nxt num_11))) : Option (Stp (List Int) (Option (Stp (List Int) (Option ((List Int) × Int))))))) [r_5.Start, r_5.Stop, r_5.Size, (I64 (r_5.Resume + 1)), (List.length r_5.Params : Int)] s_3).bind (oc (fun (s_7 : (List Int)) => ((rng (fun (i_13 : Nat) (k_14 : Int) (s_12 : (List Int)) => (((tables_number_r_s s_12 (I64 k_14)).bind fun (num_16 : (List Int)) => (some (.nxt num_16))) : Option (Stp (List Int) (Option (Stp (List Int) (Option ((List Int) × Int))))))) r_5.Params s_7).bind (oc (fun (s_12 : (List Int)) => ((tables_number_r_s s_12 (List.length r_5.Saves : Int)).bind fun (num_17 : (List Int)) => ((rng (fun (i_19 : Nat) (s_20 : Save) (s_18 : (List Int)) => (((tables_number_r_s s_18 s_20.Reg).bind fun (num_22 : (List Int)) => ((tables_number_r_s num_22 s_20.Off).bind fun (num_23 : (List Int)) => (some (.nxt num_23)))) : Option (Stp (List Int) (Option (Stp (List Int) (Option ((List Int) × Int))))))) r_5.Saves num_17).bind (oc (fun (s_18 : (List Int)) => (some (.nxt s_18)))))))))))) : Option (Stp (List Int) (Option ((List Int) × Int))))) t_00.Funcs num_2).bind (oc (fun (s_3 : (List Int)) => ((tables_number_r_s s_3 (List.length t_00.Sites : Int)).bind fun (num_24 : (List Int)) => ((rng (fun (i_26 : Nat) (s_27 : Site) (s_25 : (List Int)) => (((tables_number_r_s s_25 s_27.At).bind fun (num_29 : (List Int)) => ((tables_number_r_s num_29 (List.length s_27.Live : Int)).bind fun (num_30 : (List Int)) => ((rng (fun (i_32 : Nat) (o_33 : Int) (s_31 : (List Int)) => (((tables_number_r_s s_31 o_33).bind fun (num_35 : (List Int)) => (some (.nxt num_35))) : Option (Stp (List Int) (Option (Stp (List Int) (Option ((List Int) × Int))))))) s_27.Live num_30).bind (oc (fun (s_31 : (List Int)) => (some (.nxt s_31))))))) : Option (Stp (List Int) (Option ((List Int) × Int))))) t_00.Sites num_24).bind (oc (fun (s_25 : (List Int)) => (some (s_25, 0))))))))))))
theorem tables_Encode_ev {t_00 : Tables} {r : ((List Int) × Int)} (h : tables_Encode_s t_00 = some r) : PureEv Try.prog 15 [(Tables.av t_00)] (.tup [(.sl false 1 (List.map (avI .u8) r.1)), (.int .i64 r.2)]) := by
  unfold tables_Encode_s at h
  refine PureEv_end mixed fn15 (by simp) [6, 12, 14] 6 ?_
  unfold fc15
  refine E_sq ?_
  refine E_reg ?_
  refine E_op0 (v' := (.cptr (Tables.av t_00).cells 0)) rfl rfl ?_
  refine E_mv (v' := .nils) rfl ?_
  refine E_mv (v' := (.int .i64 0)) rfl ?_
  refine E_nil ?_
  refine E_nx ?_
  refine E_as ?_
  refine E_sq ?_
  refine E_reg ?_
  refine E_op0 (v' := (Tables.av t_00)) rfl rfl ?_
  obtain ⟨che_1, hche_1, h⟩ := bd_some h
  refine E_callW (tables_Check_ev  hche_1) rfl ⟨(.refl _), trivial⟩ (blwL_of ⟨(Tables.enc.blw _ 0), trivial⟩) rfl ?_
  refine E_op0 (v' := (.bool (che_1 != 0))) rfl rfl ?_
  refine E_nil ?_
  refine E_nx ?_
  refine E_sq ?_
  refine E_cs (t := (che_1 != 0)) rfl (fun hb => ?_) (fun hb => ?_)
  · rw [ite_t hb] at h
    refine E_sq ?_
    refine E_reg ?_
    refine E_mv (v' := .nils) rfl ?_
    refine E_mv (v' := (.int .i64 190)) rfl ?_
    refine E_nil ?_
    refine E_nx ?_
    refine E_ret ?_
    refine E_thr ?_
    cases h
    exact ⟨trivial, _, rfl, (fz_tup ⟨(fz_b rfl .nil), (fz_b rfl (.refl _)), trivial⟩)⟩
  · rw [ite_f hb] at h
    refine E_skip ?_
    refine E_nx ?_
    refine E_sq ?_
    refine E_reg ?_
    refine E_op0 (v' := (.cptr (Tables.av t_00).cells 0)) rfl rfl ?_
    refine E_op0 (v' := (.sl false 6 (List.map FuncRow.av t_00.Funcs))) rfl rfl ?_
    refine E_len rfl ?_
    obtain ⟨num_2, hnum_2, h⟩ := bd_some h
    refine E_callF (S' := [.arr 1 (flat (avI .u8) num_2)]) (r' := (.ref 0 1 0 (List.length num_2) none)) (tables_number_n_ev hnum_2) [] rfl rfl (by decide) rfl rfl trivial ⟨(fr_outN rfl rfl (.refl ((encI .u8).blwf 0 _)) rfl), trivial⟩ trivial rfl (.cons (rn_b rfl) (.cons (.base rfl (.refl _)) (.nil (Nat.zero_le _)))) (fo_ref rfl rfl rfl rfl) ?_
    refine E_mv (v' := (.ref 0 1 0 (List.length num_2) none)) rfl ?_
    refine E_nil ?_
    refine E_nx ?_
    refine E_as ?_
    refine E_sq ?_
    refine E_reg ?_
    refine E_op0 (v' := (.cptr (Tables.av t_00).cells 0)) rfl rfl ?_
    refine E_op0 (v' := (.sl false 6 (List.map FuncRow.av t_00.Funcs))) rfl rfl ?_
    refine E_len rfl ?_
    refine E_mv (v' := (.int .i64 0)) rfl ?_
    refine E_nil ?_
    refine E_nx ?_
    refine E_sq ?_
    refine E_rngO (fun s_3 => [(1, (.cptr (Tables.av t_00).cells 0)), (4, (.ref 0 1 0 (List.length s_3) none)), (25, (.sl false 6 (List.map FuncRow.av t_00.Funcs)))]) (fun s_3 => [.arr 1 (flat (avI .u8) s_3)]) h (by decide) (by decide) (fun _ => ⟨rfl, rfl, rfl, rfl⟩) (wk_rn [some (0, 0)] rfl (Nat.le_of_ble_eq_true rfl) ⟨(rn_ob rfl rfl (.refl ((encI .u8).blwf 0 _)) rfl), trivial⟩ ⟨(rn_b rfl), (rn_b rfl), (rn_b (cp_blw (Tables.enc.blw _ 0))), (rn_refL (encI .u8) rfl rfl rfl), (rn_b (FuncRow.enc.blws 0)), trivial⟩) (fun i_4 r_5 s_3 c hx_6 hlt h => ?_) (fun s_3 fr' S' h hw => ?_)
    · refine E_sq ?_
      refine E_reg ?_
      refine E_iadF rfl rfl (getI_of hx_6) ?_
      refine E_op0 (v' := (FuncRow.av r_5)) rfl rfl ?_
      refine E_op (v' := .ptr 1 0 0) (S' := [.arr 1 (flat (avI .u8) s_3), .arr 0 [(.int .i64 0), (.int .i64 0), (.int .i64 0), .nils, .nils, (.int .i64 0)]]) rfl rfl rfl ?_
      refine E_do (S' := [.arr 1 (flat (avI .u8) s_3), .arr 0 [(.int .i64 r_5.Start), (.int .i64 r_5.Stop), (.int .i64 r_5.Size), (.sl false 1 (List.map (avI .u8) r_5.Params)), (.sl false 2 (List.map Save.av r_5.Saves)), (.int .i64 r_5.Resume)]]) rfl rfl ?_
      refine E_nil ?_
      refine E_nx ?_
      refine E_as ?_
      refine E_sq ?_
      refine E_reg ?_
      refine E_op0 (v' := (.ptr 1 0 0)) rfl rfl ?_
      refine E_op (v' := (.int .i64 r_5.Start)) (S' := [.arr 1 (flat (avI .u8) s_3), .arr 0 [(.int .i64 r_5.Start), (.int .i64 r_5.Stop), (.int .i64 r_5.Size), (.sl false 1 (List.map (avI .u8) r_5.Params)), (.sl false 2 (List.map Save.av r_5.Saves)), (.int .i64 r_5.Resume)]]) rfl rfl rfl ?_
      refine E_op0 (v' := (.ptr 1 0 1)) rfl rfl ?_
      refine E_op (v' := (.int .i64 r_5.Stop)) (S' := [.arr 1 (flat (avI .u8) s_3), .arr 0 [(.int .i64 r_5.Start), (.int .i64 r_5.Stop), (.int .i64 r_5.Size), (.sl false 1 (List.map (avI .u8) r_5.Params)), (.sl false 2 (List.map Save.av r_5.Saves)), (.int .i64 r_5.Resume)]]) rfl rfl rfl ?_
      refine E_op0 (v' := (.ptr 1 0 2)) rfl rfl ?_
      refine E_op (v' := (.int .i64 r_5.Size)) (S' := [.arr 1 (flat (avI .u8) s_3), .arr 0 [(.int .i64 r_5.Start), (.int .i64 r_5.Stop), (.int .i64 r_5.Size), (.sl false 1 (List.map (avI .u8) r_5.Params)), (.sl false 2 (List.map Save.av r_5.Saves)), (.int .i64 r_5.Resume)]]) rfl rfl rfl ?_
      refine E_op0 (v' := (.ptr 1 0 5)) rfl rfl ?_
      refine E_op (v' := (.int .i64 r_5.Resume)) (S' := [.arr 1 (flat (avI .u8) s_3), .arr 0 [(.int .i64 r_5.Start), (.int .i64 r_5.Stop), (.int .i64 r_5.Size), (.sl false 1 (List.map (avI .u8) r_5.Params)), (.sl false 2 (List.map Save.av r_5.Saves)), (.int .i64 r_5.Resume)]]) rfl rfl rfl ?_
      refine E_op0 (v' := (.int .i64 (I64 (r_5.Resume + 1)))) rfl rfl ?_
      refine E_op0 (v' := (.ptr 1 0 3)) rfl rfl ?_
      refine E_op (v' := (.sl false 1 (List.map (avI .u8) r_5.Params))) (S' := [.arr 1 (flat (avI .u8) s_3), .arr 0 [(.int .i64 r_5.Start), (.int .i64 r_5.Stop), (.int .i64 r_5.Size), (.sl false 1 (List.map (avI .u8) r_5.Params)), (.sl false 2 (List.map Save.av r_5.Saves)), (.int .i64 r_5.Resume)]]) rfl rfl rfl ?_
      refine E_len rfl ?_
      refine E_opw (v' := (.sl true 1 (List.map (avI .i64) [r_5.Start, r_5.Stop, r_5.Size, (I64 (r_5.Resume + 1)), (List.length r_5.Params : Int)]))) rfl (.refl _) rfl ?_
      refine E_len rfl ?_
      refine E_mv (v' := (.int .i64 0)) rfl ?_
      refine E_nil ?_
      refine E_nx ?_
      refine E_sq ?_
      refine E_rngO (fun s_7 => [(1, (.cptr (Tables.av t_00).cells 0)), (4, (.ref 0 1 0 (List.length s_7) none)), (6, (.ptr 1 0 0)), (25, (.sl false 6 (List.map FuncRow.av t_00.Funcs))), (26, (.int .i64 (List.length t_00.Funcs : Int))), (27, (.int .i64 (i_4 : Int))), (43, (.sl true 1 (List.map (avI .i64) [r_5.Start, r_5.Stop, r_5.Size, (I64 (r_5.Resume + 1)), (List.length r_5.Params : Int)])))]) (fun s_7 => [.arr 1 (flat (avI .u8) s_7), .arr 0 [(.int .i64 r_5.Start), (.int .i64 r_5.Stop), (.int .i64 r_5.Size), (.sl false 1 (List.map (avI .u8) r_5.Params)), (.sl false 2 (List.map Save.av r_5.Saves)), (.int .i64 r_5.Resume)]]) h (by decide) (by decide) (fun _ => ⟨rfl, rfl, rfl, rfl⟩) (wk_rn [some (0, 0), some (1, 0)] rfl (Nat.le_of_ble_eq_true rfl) ⟨(rn_ob rfl rfl (.refl ((encI .u8).blwf 0 _)) rfl), (rn_ob rfl rfl (.cons (rn_b rfl) (.cons (rn_b rfl) (.cons (rn_b rfl) (.cons (rn_b ((encI .u8).blws 0)) (.cons (rn_b (Save.enc.blws 0)) (.cons (rn_b rfl) (.nil (Nat.zero_le _)))))))) rfl), trivial⟩ ⟨(rn_b rfl), (rn_b rfl), (rn_b (cp_blw (Tables.enc.blw _ 0))), (rn_refL (encI .u8) rfl rfl rfl), (rn_ptr rfl rfl rfl rfl), (rn_b (FuncRow.enc.blws 0)), (rn_b rfl), (rn_b rfl), (rn_b ((encI .i64).blws 0)), trivial⟩) (fun i_8 v_9 s_7 c hx_10 hlt h => ?_) (fun s_7 fr' S' h hw => ?_)
      · refine E_sq ?_
        refine E_reg ?_
        refine E_iadF rfl rfl (getI_of hx_10) ?_
        refine E_op0 (v' := (.int .i64 v_9)) rfl rfl ?_
        refine E_mv (v' := (.int .i64 v_9)) rfl ?_
        refine E_nil ?_
        refine E_nx ?_
        refine E_reg ?_
        refine E_mv (v' := (.ref 0 1 0 (List.length s_7) none)) rfl ?_
        refine E_mv (v' := (.int .i64 v_9)) rfl ?_
        obtain ⟨num_11, hnum_11, h⟩ := bd_some h
        refine E_callF (S' := [.arr 2 (flat (avI .u8) num_11), .arr 0 [(.int .i64 r_5.Start), (.int .i64 r_5.Stop), (.int .i64 r_5.Size), (.sl false 1 (List.map (avI .u8) r_5.Params)), (.sl false 2 (List.map Save.av r_5.Saves)), (.int .i64 r_5.Resume)]]) (r' := (.ref 0 2 0 (List.length num_11) none)) (tables_number_r_ev hnum_11) [0] rfl rfl (by decide) rfl rfl ⟨(fr_in rfl rfl (.refl ((encI .u8).blwf 0 _))), trivial⟩ ⟨(fr_out rfl rfl (.refl ((encI .u8).blwf 0 _)) rfl rfl), trivial⟩ ⟨.inl rfl, .inr rfl, trivial⟩ rfl (.cons (fi_ref rfl rfl rfl rfl) (.cons (.base rfl (.refl _)) (.nil (Nat.zero_le _)))) (fo_ref rfl rfl rfl rfl) ?_
        refine E_mv (v' := (.ref 0 2 0 (List.length num_11) none)) rfl ?_
        refine E_nil ?_
        cases h
        exact L_nn rfl (wk_rn [some (0, 0), some (1, 0)] rfl (Nat.le_of_ble_eq_true rfl) ⟨(rn_ob rfl rfl (.refl ((encI .u8).blwf 0 _)) rfl), (rn_ob rfl rfl (.cons (rn_b rfl) (.cons (rn_b rfl) (.cons (rn_b rfl) (.cons (rn_b ((encI .u8).blws 0)) (.cons (rn_b (Save.enc.blws 0)) (.cons (rn_b rfl) (.nil (Nat.zero_le _)))))))) rfl), trivial⟩ ⟨(rn_b rfl), (rn_b rfl), (rn_b (cp_blw (Tables.enc.blw _ 0))), (rn_refL (encI .u8) rfl rfl rfl), (rn_ptr rfl rfl rfl rfl), (rn_b (FuncRow.enc.blws 0)), (rn_b rfl), (rn_b rfl), (rn_b ((encI .i64).blws 0)), trivial⟩)
      · refine X_nx hw ?_
        refine E_as ?_
        refine E_sq ?_
        refine E_reg ?_
        refine E_op0 (v' := (.ptr 1 0 3)) rfl rfl ?_
        refine E_op (v' := (.sl false 1 (List.map (avI .u8) r_5.Params))) (S' := [.arr 1 (flat (avI .u8) s_7), .arr 0 [(.int .i64 r_5.Start), (.int .i64 r_5.Stop), (.int .i64 r_5.Size), (.sl false 1 (List.map (avI .u8) r_5.Params)), (.sl false 2 (List.map Save.av r_5.Saves)), (.int .i64 r_5.Resume)]]) rfl rfl rfl ?_
        refine E_len rfl ?_
        refine E_mv (v' := (.int .i64 0)) rfl ?_
        refine E_nil ?_
        refine E_nx ?_
        refine E_sq ?_
        refine E_rngO (fun s_12 => [(1, (.cptr (Tables.av t_00).cells 0)), (4, (.ref 0 1 0 (List.length s_12) none)), (6, (.ptr 1 0 0)), (25, (.sl false 6 (List.map FuncRow.av t_00.Funcs))), (26, (.int .i64 (List.length t_00.Funcs : Int))), (27, (.int .i64 (i_4 : Int))), (54, (.sl false 1 (List.map (avI .u8) r_5.Params)))]) (fun s_12 => [.arr 1 (flat (avI .u8) s_12), .arr 0 [(.int .i64 r_5.Start), (.int .i64 r_5.Stop), (.int .i64 r_5.Size), (.sl false 1 (List.map (avI .u8) r_5.Params)), (.sl false 2 (List.map Save.av r_5.Saves)), (.int .i64 r_5.Resume)]]) h (by decide) (by decide) (fun _ => ⟨rfl, rfl, rfl, rfl⟩) (wk_rn [some (0, 0), some (1, 0)] rfl (Nat.le_of_ble_eq_true rfl) ⟨(rn_ob rfl rfl (.refl ((encI .u8).blwf 0 _)) rfl), (rn_ob rfl rfl (.cons (rn_b rfl) (.cons (rn_b rfl) (.cons (rn_b rfl) (.cons (rn_b ((encI .u8).blws 0)) (.cons (rn_b (Save.enc.blws 0)) (.cons (rn_b rfl) (.nil (Nat.zero_le _)))))))) rfl), trivial⟩ ⟨(rn_b rfl), (rn_b rfl), (rn_b (cp_blw (Tables.enc.blw _ 0))), (rn_refL (encI .u8) rfl rfl rfl), (rn_ptr rfl rfl rfl rfl), (rn_b (FuncRow.enc.blws 0)), (rn_b rfl), (rn_b rfl), (rn_b ((encI .u8).blws 0)), trivial⟩) (fun i_13 k_14 s_12 c hx_15 hlt h => ?_) (fun s_12 fr' S' h hw => ?_)
        · refine E_sq ?_
          refine E_reg ?_
          refine E_iadF rfl rfl (getI_of hx_15) ?_
          refine E_op0 (v' := (.int .u8 k_14)) rfl rfl ?_
          refine E_mv (v' := (.int .u8 k_14)) rfl ?_
          refine E_nil ?_
          refine E_nx ?_
          refine E_reg ?_
          refine E_mv (v' := (.ref 0 1 0 (List.length s_12) none)) rfl ?_
          refine E_mv (v' := (.int .u8 k_14)) rfl ?_
          refine E_op0 (v' := (.int .i64 (I64 k_14))) rfl rfl ?_
          obtain ⟨num_16, hnum_16, h⟩ := bd_some h
          refine E_callF (S' := [.arr 2 (flat (avI .u8) num_16), .arr 0 [(.int .i64 r_5.Start), (.int .i64 r_5.Stop), (.int .i64 r_5.Size), (.sl false 1 (List.map (avI .u8) r_5.Params)), (.sl false 2 (List.map Save.av r_5.Saves)), (.int .i64 r_5.Resume)]]) (r' := (.ref 0 2 0 (List.length num_16) none)) (tables_number_r_ev hnum_16) [0] rfl rfl (by decide) rfl rfl ⟨(fr_in rfl rfl (.refl ((encI .u8).blwf 0 _))), trivial⟩ ⟨(fr_out rfl rfl (.refl ((encI .u8).blwf 0 _)) rfl rfl), trivial⟩ ⟨.inl rfl, .inr rfl, trivial⟩ rfl (.cons (fi_ref rfl rfl rfl rfl) (.cons (.base rfl (.refl _)) (.nil (Nat.zero_le _)))) (fo_ref rfl rfl rfl rfl) ?_
          refine E_mv (v' := (.ref 0 2 0 (List.length num_16) none)) rfl ?_
          refine E_nil ?_
          cases h
          exact L_nn rfl (wk_rn [some (0, 0), some (1, 0)] rfl (Nat.le_of_ble_eq_true rfl) ⟨(rn_ob rfl rfl (.refl ((encI .u8).blwf 0 _)) rfl), (rn_ob rfl rfl (.cons (rn_b rfl) (.cons (rn_b rfl) (.cons (rn_b rfl) (.cons (rn_b ((encI .u8).blws 0)) (.cons (rn_b (Save.enc.blws 0)) (.cons (rn_b rfl) (.nil (Nat.zero_le _)))))))) rfl), trivial⟩ ⟨(rn_b rfl), (rn_b rfl), (rn_b (cp_blw (Tables.enc.blw _ 0))), (rn_refL (encI .u8) rfl rfl rfl), (rn_ptr rfl rfl rfl rfl), (rn_b (FuncRow.enc.blws 0)), (rn_b rfl), (rn_b rfl), (rn_b ((encI .u8).blws 0)), trivial⟩)
        · refine X_nx hw ?_
          refine E_sq ?_
          refine E_reg ?_
          refine E_mv (v' := (.ref 0 1 0 (List.length s_12) none)) rfl ?_
          refine E_op0 (v' := (.ptr 1 0 4)) rfl rfl ?_
          refine E_op (v' := (.sl false 2 (List.map Save.av r_5.Saves))) (S' := [.arr 1 (flat (avI .u8) s_12), .arr 0 [(.int .i64 r_5.Start), (.int .i64 r_5.Stop), (.int .i64 r_5.Size), (.sl false 1 (List.map (avI .u8) r_5.Params)), (.sl false 2 (List.map Save.av r_5.Saves)), (.int .i64 r_5.Resume)]]) rfl rfl rfl ?_
          refine E_len rfl ?_
          obtain ⟨num_17, hnum_17, h⟩ := bd_some h
          refine E_callF (S' := [.arr 2 (flat (avI .u8) num_17), .arr 0 [(.int .i64 r_5.Start), (.int .i64 r_5.Stop), (.int .i64 r_5.Size), (.sl false 1 (List.map (avI .u8) r_5.Params)), (.sl false 2 (List.map Save.av r_5.Saves)), (.int .i64 r_5.Resume)]]) (r' := (.ref 0 2 0 (List.length num_17) none)) (tables_number_r_ev hnum_17) [0] rfl rfl (by decide) rfl rfl ⟨(fr_in rfl rfl (.refl ((encI .u8).blwf 0 _))), trivial⟩ ⟨(fr_out rfl rfl (.refl ((encI .u8).blwf 0 _)) rfl rfl), trivial⟩ ⟨.inl rfl, .inr rfl, trivial⟩ rfl (.cons (fi_ref rfl rfl rfl rfl) (.cons (.base rfl (.refl _)) (.nil (Nat.zero_le _)))) (fo_ref rfl rfl rfl rfl) ?_
          refine E_mv (v' := (.ref 0 2 0 (List.length num_17) none)) rfl ?_
          refine E_nil ?_
          refine E_nx ?_
          refine E_sq ?_
          refine E_reg ?_
          refine E_op0 (v' := (.ptr 1 0 4)) rfl rfl ?_
          refine E_op (v' := (.sl false 2 (List.map Save.av r_5.Saves))) (S' := [.arr 2 (flat (avI .u8) num_17), .arr 0 [(.int .i64 r_5.Start), (.int .i64 r_5.Stop), (.int .i64 r_5.Size), (.sl false 1 (List.map (avI .u8) r_5.Params)), (.sl false 2 (List.map Save.av r_5.Saves)), (.int .i64 r_5.Resume)]]) rfl rfl rfl ?_
          refine E_len rfl ?_
          refine E_mv (v' := (.int .i64 0)) rfl ?_
          refine E_nil ?_
          refine E_nx ?_
          refine E_rngO (fun s_18 => [(1, (.cptr (Tables.av t_00).cells 0)), (4, (.ref 0 1 0 (List.length s_18) none)), (25, (.sl false 6 (List.map FuncRow.av t_00.Funcs))), (26, (.int .i64 (List.length t_00.Funcs : Int))), (27, (.int .i64 (i_4 : Int))), (71, (.sl false 2 (List.map Save.av r_5.Saves)))]) (fun s_18 => [.arr 1 (flat (avI .u8) s_18)]) h (by decide) (by decide) (fun _ => ⟨rfl, rfl, rfl, rfl⟩) (wk_rn [some (0, 0)] rfl (Nat.le_of_ble_eq_true rfl) ⟨(rn_ob rfl rfl (.refl ((encI .u8).blwf 0 _)) rfl), trivial⟩ ⟨(rn_b rfl), (rn_b rfl), (rn_b (cp_blw (Tables.enc.blw _ 0))), (rn_refL (encI .u8) rfl rfl rfl), (rn_b (FuncRow.enc.blws 0)), (rn_b rfl), (rn_b rfl), (rn_b (Save.enc.blws 0)), trivial⟩) (fun i_19 s_20 s_18 c hx_21 hlt h => ?_) (fun s_18 fr' S' h hw => ?_)
          · refine E_sq ?_
            refine E_reg ?_
            refine E_iadF rfl rfl (getI_of hx_21) ?_
            refine E_op0 (v' := (Save.av s_20)) rfl rfl ?_
            refine E_op (v' := .ptr 1 0 0) (S' := [.arr 1 (flat (avI .u8) s_18), .arr 0 [(.int .i64 0), (.int .i64 0)]]) rfl rfl rfl ?_
            refine E_do (S' := [.arr 1 (flat (avI .u8) s_18), .arr 0 [(.int .i64 s_20.Reg), (.int .i64 s_20.Off)]]) rfl rfl ?_
            refine E_nil ?_
            refine E_nx ?_
            refine E_regp ?_
            refine E_mv (v' := (.ref 0 1 0 (List.length s_18) none)) rfl ?_
            refine E_op0 (v' := (.ptr 1 0 0)) rfl rfl ?_
            refine E_op (v' := (.int .i64 s_20.Reg)) (S' := [.arr 1 (flat (avI .u8) s_18), .arr 0 [(.int .i64 s_20.Reg), (.int .i64 s_20.Off)]]) rfl rfl rfl ?_
            obtain ⟨num_22, hnum_22, h⟩ := bd_some h
            refine E_callF (S' := [.arr 2 (flat (avI .u8) num_22), .arr 0 [(.int .i64 s_20.Reg), (.int .i64 s_20.Off)]]) (r' := (.ref 0 2 0 (List.length num_22) none)) (tables_number_r_ev hnum_22) [0] rfl rfl (by decide) rfl rfl ⟨(fr_in rfl rfl (.refl ((encI .u8).blwf 0 _))), trivial⟩ ⟨(fr_out rfl rfl (.refl ((encI .u8).blwf 0 _)) rfl rfl), trivial⟩ ⟨.inl rfl, .inr rfl, trivial⟩ rfl (.cons (fi_ref rfl rfl rfl rfl) (.cons (.base rfl (.refl _)) (.nil (Nat.zero_le _)))) (fo_ref rfl rfl rfl rfl) ?_
            refine E_op0 (v' := (.ptr 1 0 1)) rfl rfl ?_
            refine E_op (v' := (.int .i64 s_20.Off)) (S' := [.arr 2 (flat (avI .u8) num_22), .arr 0 [(.int .i64 s_20.Reg), (.int .i64 s_20.Off)]]) rfl rfl rfl ?_
            obtain ⟨num_23, hnum_23, h⟩ := bd_some h
            refine E_callF (S' := [.arr 3 (flat (avI .u8) num_23), .arr 0 [(.int .i64 s_20.Reg), (.int .i64 s_20.Off)]]) (r' := (.ref 0 3 0 (List.length num_23) none)) (tables_number_r_ev hnum_23) [0] rfl rfl (by decide) rfl rfl ⟨(fr_in rfl rfl (.refl ((encI .u8).blwf 0 _))), trivial⟩ ⟨(fr_out rfl rfl (.refl ((encI .u8).blwf 0 _)) rfl rfl), trivial⟩ ⟨.inl rfl, .inr rfl, trivial⟩ rfl (.cons (fi_ref rfl rfl rfl rfl) (.cons (.base rfl (.refl _)) (.nil (Nat.zero_le _)))) (fo_ref rfl rfl rfl rfl) ?_
            refine E_mv (v' := (.ref 0 3 0 (List.length num_23) none)) rfl ?_
            refine E_nil ?_
            refine And.intro (by simp [okLog, nthL, okPair, hp, fpOf]) ?_
            cases h
            exact L_nn rfl (wk_rn [some (0, 0)] rfl (Nat.le_of_ble_eq_true rfl) ⟨(rn_ob rfl rfl (.refl ((encI .u8).blwf 0 _)) rfl), trivial⟩ ⟨(rn_b rfl), (rn_b rfl), (rn_b (cp_blw (Tables.enc.blw _ 0))), (rn_refL (encI .u8) rfl rfl rfl), (rn_b (FuncRow.enc.blws 0)), (rn_b rfl), (rn_b rfl), (rn_b (Save.enc.blws 0)), trivial⟩)
          · cases h
            exact X_nn rfl hw (wk_rn [some (0, 0)] rfl (Nat.le_of_ble_eq_true rfl) ⟨(rn_ob rfl rfl (.refl ((encI .u8).blwf 0 _)) rfl), trivial⟩ ⟨(rn_b rfl), (rn_b rfl), (rn_b (cp_blw (Tables.enc.blw _ 0))), (rn_refL (encI .u8) rfl rfl rfl), (rn_b (FuncRow.enc.blws 0)), trivial⟩)
    · refine X_nx hw ?_
      refine E_sq ?_
      refine E_reg ?_
      refine E_mv (v' := (.ref 0 1 0 (List.length s_3) none)) rfl ?_
      refine E_op0 (v' := (.cptr (Tables.av t_00).cells 1)) rfl rfl ?_
      refine E_op0 (v' := (.sl false 2 (List.map Site.av t_00.Sites))) rfl rfl ?_
      refine E_len rfl ?_
      obtain ⟨num_24, hnum_24, h⟩ := bd_some h
      refine E_callF (S' := [.arr 2 (flat (avI .u8) num_24)]) (r' := (.ref 0 2 0 (List.length num_24) none)) (tables_number_r_ev hnum_24) [0] rfl rfl (by decide) rfl rfl ⟨(fr_in rfl rfl (.refl ((encI .u8).blwf 0 _))), trivial⟩ ⟨(fr_out rfl rfl (.refl ((encI .u8).blwf 0 _)) rfl rfl), trivial⟩ ⟨.inl rfl, trivial⟩ rfl (.cons (fi_ref rfl rfl rfl rfl) (.cons (.base rfl (.refl _)) (.nil (Nat.zero_le _)))) (fo_ref rfl rfl rfl rfl) ?_
      refine E_mv (v' := (.ref 0 2 0 (List.length num_24) none)) rfl ?_
      refine E_nil ?_
      refine E_nx ?_
      refine E_as ?_
      refine E_sq ?_
      refine E_reg ?_
      refine E_op0 (v' := (.cptr (Tables.av t_00).cells 1)) rfl rfl ?_
      refine E_op0 (v' := (.sl false 2 (List.map Site.av t_00.Sites))) rfl rfl ?_
      refine E_len rfl ?_
      refine E_mv (v' := (.int .i64 0)) rfl ?_
      refine E_nil ?_
      refine E_nx ?_
      refine E_sq ?_
      refine E_rngO (fun s_25 => [(4, (.ref 0 1 0 (List.length s_25) none)), (92, (.sl false 2 (List.map Site.av t_00.Sites)))]) (fun s_25 => [.arr 1 (flat (avI .u8) s_25)]) h (by decide) (by decide) (fun _ => ⟨rfl, rfl, rfl, rfl⟩) (wk_rn [some (0, 0)] rfl (Nat.le_of_ble_eq_true rfl) ⟨(rn_ob rfl rfl (.refl ((encI .u8).blwf 0 _)) rfl), trivial⟩ ⟨(rn_b rfl), (rn_b rfl), (rn_refL (encI .u8) rfl rfl rfl), (rn_b (Site.enc.blws 0)), trivial⟩) (fun i_26 s_27 s_25 c hx_28 hlt h => ?_) (fun s_25 fr' S' h hw => ?_)
      · refine E_sq ?_
        refine E_reg ?_
        refine E_iadF rfl rfl (getI_of hx_28) ?_
        refine E_op0 (v' := (Site.av s_27)) rfl rfl ?_
        refine E_op (v' := .ptr 1 0 0) (S' := [.arr 1 (flat (avI .u8) s_25), .arr 0 [(.int .i64 0), .nils]]) rfl rfl rfl ?_
        refine E_do (S' := [.arr 1 (flat (avI .u8) s_25), .arr 0 [(.int .i64 s_27.At), (.sl false 1 (List.map (avI .i64) s_27.Live))]]) rfl rfl ?_
        refine E_nil ?_
        refine E_nx ?_
        refine E_sq ?_
        refine E_regp ?_
        refine E_mv (v' := (.ref 0 1 0 (List.length s_25) none)) rfl ?_
        refine E_op0 (v' := (.ptr 1 0 0)) rfl rfl ?_
        refine E_op (v' := (.int .i64 s_27.At)) (S' := [.arr 1 (flat (avI .u8) s_25), .arr 0 [(.int .i64 s_27.At), (.sl false 1 (List.map (avI .i64) s_27.Live))]]) rfl rfl rfl ?_
        obtain ⟨num_29, hnum_29, h⟩ := bd_some h
        refine E_callF (S' := [.arr 2 (flat (avI .u8) num_29), .arr 0 [(.int .i64 s_27.At), (.sl false 1 (List.map (avI .i64) s_27.Live))]]) (r' := (.ref 0 2 0 (List.length num_29) none)) (tables_number_r_ev hnum_29) [0] rfl rfl (by decide) rfl rfl ⟨(fr_in rfl rfl (.refl ((encI .u8).blwf 0 _))), trivial⟩ ⟨(fr_out rfl rfl (.refl ((encI .u8).blwf 0 _)) rfl rfl), trivial⟩ ⟨.inl rfl, .inr rfl, trivial⟩ rfl (.cons (fi_ref rfl rfl rfl rfl) (.cons (.base rfl (.refl _)) (.nil (Nat.zero_le _)))) (fo_ref rfl rfl rfl rfl) ?_
        refine E_op0 (v' := (.ptr 1 0 1)) rfl rfl ?_
        refine E_op (v' := (.sl false 1 (List.map (avI .i64) s_27.Live))) (S' := [.arr 2 (flat (avI .u8) num_29), .arr 0 [(.int .i64 s_27.At), (.sl false 1 (List.map (avI .i64) s_27.Live))]]) rfl rfl rfl ?_
        refine E_len rfl ?_
        obtain ⟨num_30, hnum_30, h⟩ := bd_some h
        refine E_callF (S' := [.arr 3 (flat (avI .u8) num_30), .arr 0 [(.int .i64 s_27.At), (.sl false 1 (List.map (avI .i64) s_27.Live))]]) (r' := (.ref 0 3 0 (List.length num_30) none)) (tables_number_r_ev hnum_30) [0] rfl rfl (by decide) rfl rfl ⟨(fr_in rfl rfl (.refl ((encI .u8).blwf 0 _))), trivial⟩ ⟨(fr_out rfl rfl (.refl ((encI .u8).blwf 0 _)) rfl rfl), trivial⟩ ⟨.inl rfl, .inr rfl, trivial⟩ rfl (.cons (fi_ref rfl rfl rfl rfl) (.cons (.base rfl (.refl _)) (.nil (Nat.zero_le _)))) (fo_ref rfl rfl rfl rfl) ?_
        refine E_mv (v' := (.ref 0 3 0 (List.length num_30) none)) rfl ?_
        refine E_nil ?_
        refine And.intro (by simp [okLog, nthL, okPair, hp, fpOf]) ?_
        refine E_nx ?_
        refine E_sq ?_
        refine E_reg ?_
        refine E_op0 (v' := (.ptr 1 0 1)) rfl rfl ?_
        refine E_op (v' := (.sl false 1 (List.map (avI .i64) s_27.Live))) (S' := [.arr 3 (flat (avI .u8) num_30), .arr 0 [(.int .i64 s_27.At), (.sl false 1 (List.map (avI .i64) s_27.Live))]]) rfl rfl rfl ?_
        refine E_len rfl ?_
        refine E_mv (v' := (.int .i64 0)) rfl ?_
        refine E_nil ?_
        refine E_nx ?_
        refine E_rngO (fun s_31 => [(4, (.ref 0 1 0 (List.length s_31) none)), (92, (.sl false 2 (List.map Site.av t_00.Sites))), (93, (.int .i64 (List.length t_00.Sites : Int))), (94, (.int .i64 (i_26 : Int))), (107, (.sl false 1 (List.map (avI .i64) s_27.Live)))]) (fun s_31 => [.arr 1 (flat (avI .u8) s_31)]) h (by decide) (by decide) (fun _ => ⟨rfl, rfl, rfl, rfl⟩) (wk_rn [some (0, 0)] rfl (Nat.le_of_ble_eq_true rfl) ⟨(rn_ob rfl rfl (.refl ((encI .u8).blwf 0 _)) rfl), trivial⟩ ⟨(rn_b rfl), (rn_b rfl), (rn_refL (encI .u8) rfl rfl rfl), (rn_b (Site.enc.blws 0)), (rn_b rfl), (rn_b rfl), (rn_b ((encI .i64).blws 0)), trivial⟩) (fun i_32 o_33 s_31 c hx_34 hlt h => ?_) (fun s_31 fr' S' h hw => ?_)
        · refine E_sq ?_
          refine E_reg ?_
          refine E_iadF rfl rfl (getI_of hx_34) ?_
          refine E_op0 (v' := (.int .i64 o_33)) rfl rfl ?_
          refine E_mv (v' := (.int .i64 o_33)) rfl ?_
          refine E_nil ?_
          refine E_nx ?_
          refine E_reg ?_
          refine E_mv (v' := (.ref 0 1 0 (List.length s_31) none)) rfl ?_
          refine E_mv (v' := (.int .i64 o_33)) rfl ?_
          obtain ⟨num_35, hnum_35, h⟩ := bd_some h
          refine E_callF (S' := [.arr 2 (flat (avI .u8) num_35)]) (r' := (.ref 0 2 0 (List.length num_35) none)) (tables_number_r_ev hnum_35) [0] rfl rfl (by decide) rfl rfl ⟨(fr_in rfl rfl (.refl ((encI .u8).blwf 0 _))), trivial⟩ ⟨(fr_out rfl rfl (.refl ((encI .u8).blwf 0 _)) rfl rfl), trivial⟩ ⟨.inl rfl, trivial⟩ rfl (.cons (fi_ref rfl rfl rfl rfl) (.cons (.base rfl (.refl _)) (.nil (Nat.zero_le _)))) (fo_ref rfl rfl rfl rfl) ?_
          refine E_mv (v' := (.ref 0 2 0 (List.length num_35) none)) rfl ?_
          refine E_nil ?_
          cases h
          exact L_nn rfl (wk_rn [some (0, 0)] rfl (Nat.le_of_ble_eq_true rfl) ⟨(rn_ob rfl rfl (.refl ((encI .u8).blwf 0 _)) rfl), trivial⟩ ⟨(rn_b rfl), (rn_b rfl), (rn_refL (encI .u8) rfl rfl rfl), (rn_b (Site.enc.blws 0)), (rn_b rfl), (rn_b rfl), (rn_b ((encI .i64).blws 0)), trivial⟩)
        · cases h
          exact X_nn rfl hw (wk_rn [some (0, 0)] rfl (Nat.le_of_ble_eq_true rfl) ⟨(rn_ob rfl rfl (.refl ((encI .u8).blwf 0 _)) rfl), trivial⟩ ⟨(rn_b rfl), (rn_b rfl), (rn_refL (encI .u8) rfl rfl rfl), (rn_b (Site.enc.blws 0)), trivial⟩)
      · refine X_nx hw ?_
        refine E_sq ?_
        refine E_reg ?_
        refine E_mv (v' := (.ref 0 1 0 (List.length s_25) none)) rfl ?_
        refine E_mv (v' := (.ref 0 1 0 (List.length s_25) none)) rfl ?_
        refine E_mv (v' := (.int .i64 0)) rfl ?_
        refine E_nil ?_
        refine E_nx ?_
        refine E_ret ?_
        cases h
        exact ⟨trivial, _, rfl, (fz_tup ⟨(fz_ref (encI .u8) (Nat.zero_le _) rfl), (fz_b rfl (.refl _)), trivial⟩)⟩
/- cmp.isNaN[int] -/
def fc34 : FC := (.seq (.reg [⟨(some 2), none, .op (.mv (.v (.bool false)))⟩] [])
  (.seq (.reg [⟨(some 3), none, .op (.mv (.t 0))⟩,
  ⟨(some 4), none, .op (.mv (.t 0))⟩,
  ⟨(some 5), none, .op (.bin .none .neq (.t 3) (.t 4))⟩,
  ⟨(some 2), none, .op (.mv (.t 5))⟩] [])
  .ret))
theorem fn34 : Fn3 Try.prog 34 6 [(2, none)] fc34 := ⟨_, _, Try.func34, rfl, rfl, rfl, by kernel_rfl⟩
def cmp_isNaN_s (x_00 : Int) : Option Bool :=
  (some (x_00 != x_00))
theorem cmp_isNaN_ev {x_00 : Int} {r : Bool} (h : cmp_isNaN_s x_00 = some r) : PureEv Try.prog 34 [(.int .i64 x_00)] (.bool r) := by
  unfold cmp_isNaN_s at h
  refine PureEv_end mixed fn34 (by simp) [] 6 ?_
  unfold fc34
  refine E_sq ?_
  refine E_reg ?_
  refine E_mv (v' := (.bool false)) rfl ?_
  refine E_nil ?_
  refine E_nx ?_
  refine E_sq ?_
  refine E_reg ?_
  refine E_mv (v' := (.int .i64 x_00)) rfl ?_
  refine E_mv (v' := (.int .i64 x_00)) rfl ?_
  refine E_op0 (v' := (.bool (x_00 != x_00))) rfl rfl ?_
  refine E_mv (v' := (.bool (x_00 != x_00))) rfl ?_
  refine E_nil ?_
  refine E_nx ?_
  refine E_ret ?_
  cases h
  exact ⟨trivial, _, rfl, (fz_b rfl (.refl _))⟩
/- cmp.Compare[int] -/
def fc24 : FC := (.seq (.reg [⟨(some 4), none, .op (.mv (.v (.int .i64 0)))⟩] [])
  (.seq (.reg [⟨(some 7), none, .op (.mv (.t 0))⟩,
  ⟨(some 8), none, .call 34 [(.t 7)]⟩,
  ⟨(some 5), none, .op (.mv (.t 8))⟩] [])
  (.seq (.reg [⟨(some 9), none, .op (.mv (.t 1))⟩,
  ⟨(some 10), none, .call 34 [(.t 9)]⟩,
  ⟨(some 6), none, .op (.mv (.t 10))⟩] [])
  (.seq (.seq (.reg [⟨(some 11), none, .op (.mv (.t 5))⟩] [])
  (.cond (.t 11)
  (.seq (.seq (.reg [⟨(some 12), none, .op (.mv (.t 6))⟩] [])
  (.cond (.t 12)
  (.seq (.reg [⟨(some 4), none, .op (.mv (.v (.int .i64 0)))⟩] [])
  .ret)
  .skip))
  (.seq (.reg [⟨(some 4), none, .op (.mv (.v (.int .i64 (-1))))⟩] [])
  .ret))
  .skip))
  (.seq (.seq (.reg [⟨(some 13), none, .op (.mv (.t 6))⟩] [])
  (.cond (.t 13)
  (.seq (.reg [⟨(some 4), none, .op (.mv (.v (.int .i64 1)))⟩] [])
  .ret)
  .skip))
  (.seq (.seq (.reg [⟨(some 14), none, .op (.mv (.t 0))⟩,
  ⟨(some 15), none, .op (.mv (.t 1))⟩,
  ⟨(some 16), none, .op (.bin .none .lss (.t 14) (.t 15))⟩] [])
  (.cond (.t 16)
  (.seq (.reg [⟨(some 4), none, .op (.mv (.v (.int .i64 (-1))))⟩] [])
  .ret)
  .skip))
  (.seq (.seq (.reg [⟨(some 17), none, .op (.mv (.t 0))⟩,
  ⟨(some 18), none, .op (.mv (.t 1))⟩,
  ⟨(some 19), none, .op (.bin .none .gtr (.t 17) (.t 18))⟩] [])
  (.cond (.t 19)
  (.seq (.reg [⟨(some 4), none, .op (.mv (.v (.int .i64 1)))⟩] [])
  .ret)
  .skip))
  (.seq (.reg [⟨(some 4), none, .op (.mv (.v (.int .i64 0)))⟩] [])
  .ret))))))))
theorem fn24 : Fn3 Try.prog 24 20 [(4, none)] fc24 := ⟨_, _, Try.func24, rfl, rfl, rfl, by kernel_rfl⟩
def cmp_Compare_s (x_00 : Int) (y_01 : Int) : Option Int :=
  ((cmp_isNaN_s x_00).bind fun isn_1 => ((cmp_isNaN_s y_01).bind fun isn_2 => (if isn_1 then (if isn_2 then (some 0) else (some (-1))) else (if isn_2 then (some 1) else (if (decide (x_00 < y_01)) then (some (-1)) else (if (decide (x_00 > y_01)) then (some 1) else (some 0)))))))
theorem cmp_Compare_ev {x_00 : Int} {y_01 : Int} {r : Int} (h : cmp_Compare_s x_00 y_01 = some r) : PureEv Try.prog 24 [(.int .i64 x_00), (.int .i64 y_01)] (.int .i64 r) := by
  unfold cmp_Compare_s at h
  refine PureEv_end mixed fn24 (by simp) [] 6 ?_
  unfold fc24
  refine E_sq ?_
  refine E_reg ?_
  refine E_mv (v' := (.int .i64 0)) rfl ?_
  refine E_nil ?_
  refine E_nx ?_
  refine E_sq ?_
  refine E_reg ?_
  refine E_mv (v' := (.int .i64 x_00)) rfl ?_
  obtain ⟨isn_1, hisn_1, h⟩ := bd_some h
  refine E_callW (cmp_isNaN_ev  hisn_1) rfl ⟨(.refl _), trivial⟩ (blwL_of ⟨rfl, trivial⟩) rfl ?_
  refine E_mv (v' := (.bool isn_1)) rfl ?_
  refine E_nil ?_
  refine E_nx ?_
  refine E_sq ?_
  refine E_reg ?_
  refine E_mv (v' := (.int .i64 y_01)) rfl ?_
  obtain ⟨isn_2, hisn_2, h⟩ := bd_some h
  refine E_callW (cmp_isNaN_ev  hisn_2) rfl ⟨(.refl _), trivial⟩ (blwL_of ⟨rfl, trivial⟩) rfl ?_
  refine E_mv (v' := (.bool isn_2)) rfl ?_
  refine E_nil ?_
  refine E_nx ?_
  refine E_as ?_
  refine E_sq ?_
  refine E_reg ?_
  refine E_mv (v' := (.bool isn_1)) rfl ?_
  refine E_nil ?_
  refine E_nx ?_
  refine E_sq ?_
  refine E_cs (t := isn_1) rfl (fun hb => ?_) (fun hb => ?_)
  · rw [ite_t hb] at h
    refine E_as ?_
    refine E_sq ?_
    refine E_reg ?_
    refine E_mv (v' := (.bool isn_2)) rfl ?_
    refine E_nil ?_
    refine E_nx ?_
    refine E_sq ?_
    refine E_cs (t := isn_2) rfl (fun hb => ?_) (fun hb => ?_)
    · rw [ite_t hb] at h
      refine E_sq ?_
      refine E_reg ?_
      refine E_mv (v' := (.int .i64 0)) rfl ?_
      refine E_nil ?_
      refine E_nx ?_
      refine E_ret ?_
      refine E_thr ?_
      refine E_thr ?_
      cases h
      exact ⟨trivial, _, rfl, (fz_b rfl (.refl _))⟩
    · rw [ite_f hb] at h
      refine E_skip ?_
      refine E_nx ?_
      refine E_sq ?_
      refine E_reg ?_
      refine E_mv (v' := (.int .i64 (-1))) rfl ?_
      refine E_nil ?_
      refine E_nx ?_
      refine E_ret ?_
      refine E_thr ?_
      cases h
      exact ⟨trivial, _, rfl, (fz_b rfl (.refl _))⟩
  · rw [ite_f hb] at h
    refine E_skip ?_
    refine E_nx ?_
    refine E_as ?_
    refine E_sq ?_
    refine E_reg ?_
    refine E_mv (v' := (.bool isn_2)) rfl ?_
    refine E_nil ?_
    refine E_nx ?_
    refine E_sq ?_
    refine E_cs (t := isn_2) rfl (fun hb => ?_) (fun hb => ?_)
    · rw [ite_t hb] at h
      refine E_sq ?_
      refine E_reg ?_
      refine E_mv (v' := (.int .i64 1)) rfl ?_
      refine E_nil ?_
      refine E_nx ?_
      refine E_ret ?_
      refine E_thr ?_
      cases h
      exact ⟨trivial, _, rfl, (fz_b rfl (.refl _))⟩
    · rw [ite_f hb] at h
      refine E_skip ?_
      refine E_nx ?_
      refine E_as ?_
      refine E_sq ?_
      refine E_reg ?_
      refine E_mv (v' := (.int .i64 x_00)) rfl ?_
      refine E_mv (v' := (.int .i64 y_01)) rfl ?_
      refine E_op0 (v' := (.bool (decide (x_00 < y_01)))) rfl rfl ?_
      refine E_nil ?_
      refine E_nx ?_
      refine E_sq ?_
      refine E_cs (t := (decide (x_00 < y_01))) rfl (fun hb => ?_) (fun hb => ?_)
      · rw [ite_t hb] at h
        refine E_sq ?_
        refine E_reg ?_
        refine E_mv (v' := (.int .i64 (-1))) rfl ?_
        refine E_nil ?_
        refine E_nx ?_
        refine E_ret ?_
        refine E_thr ?_
        cases h
        exact ⟨trivial, _, rfl, (fz_b rfl (.refl _))⟩
      · rw [ite_f hb] at h
        refine E_skip ?_
        refine E_nx ?_
        refine E_as ?_
        refine E_sq ?_
        refine E_reg ?_
        refine E_mv (v' := (.int .i64 x_00)) rfl ?_
        refine E_mv (v' := (.int .i64 y_01)) rfl ?_
        refine E_op0 (v' := (.bool (decide (x_00 > y_01)))) rfl rfl ?_
        refine E_nil ?_
        refine E_nx ?_
        refine E_sq ?_
        refine E_cs (t := (decide (x_00 > y_01))) rfl (fun hb => ?_) (fun hb => ?_)
        · rw [ite_t hb] at h
          refine E_sq ?_
          refine E_reg ?_
          refine E_mv (v' := (.int .i64 1)) rfl ?_
          refine E_nil ?_
          refine E_nx ?_
          refine E_ret ?_
          refine E_thr ?_
          cases h
          exact ⟨trivial, _, rfl, (fz_b rfl (.refl _))⟩
        · rw [ite_f hb] at h
          refine E_skip ?_
          refine E_nx ?_
          refine E_sq ?_
          refine E_reg ?_
          refine E_mv (v' := (.int .i64 0)) rfl ?_
          refine E_nil ?_
          refine E_nx ?_
          refine E_ret ?_
          cases h
          exact ⟨trivial, _, rfl, (fz_b rfl (.refl _))⟩
/- windlass/tables.Func$1 -/
def fc23 : FC := (.seq (.reg [⟨(some 2), none, .op (.box (.t 0))⟩,
  ⟨(some 4), none, .op (.mv (.v (.int .i64 0)))⟩] [])
  (.seq (.reg [⟨(some 5), none, .op (.fad 0 (.t 2))⟩,
  ⟨(some 6), none, .op (.load none (.t 5))⟩,
  ⟨(some 7), none, .op (.mv (.t 1))⟩,
  ⟨(some 8), none, .call 24 [(.t 6), (.t 7)]⟩,
  ⟨(some 4), none, .op (.mv (.t 8))⟩] [])
  .ret))
theorem fn23 : Fn3 Try.prog 23 9 [(4, none)] fc23 := ⟨_, _, Try.func23, rfl, rfl, rfl, by kernel_rfl⟩
def tables_Func_1_s (r_00 : FuncRow) (vat_01 : Int) : Option Int :=
  ((cmp_Compare_s r_00.Start vat_01).bind fun com_1 => (some com_1))
theorem tables_Func_1_ev {r_00 : FuncRow} {vat_01 : Int} {r : Int} (h : tables_Func_1_s r_00 vat_01 = some r) : PureEv Try.prog 23 [(FuncRow.av r_00), (.int .i64 vat_01)] (.int .i64 r) := by
  unfold tables_Func_1_s at h
  refine PureEv_end mixed fn23 (by simp) [] 6 ?_
  unfold fc23
  refine E_sq ?_
  refine E_reg ?_
  refine E_op0 (v' := (.cptr (FuncRow.av r_00).cells 0)) rfl rfl ?_
  refine E_mv (v' := (.int .i64 0)) rfl ?_
  refine E_nil ?_
  refine E_nx ?_
  refine E_sq ?_
  refine E_reg ?_
  refine E_op0 (v' := (.cptr (FuncRow.av r_00).cells 0)) rfl rfl ?_
  refine E_op0 (v' := (.int .i64 r_00.Start)) rfl rfl ?_
  refine E_mv (v' := (.int .i64 vat_01)) rfl ?_
  obtain ⟨com_1, hcom_1, h⟩ := bd_some h
  refine E_callW (cmp_Compare_ev  hcom_1) rfl ⟨(.refl _), (.refl _), trivial⟩ (blwL_of ⟨rfl, rfl, trivial⟩) rfl ?_
  refine E_mv (v' := (.int .i64 com_1)) rfl ?_
  refine E_nil ?_
  refine E_nx ?_
  refine E_ret ?_
  cases h
  exact ⟨trivial, _, rfl, (fz_b rfl (.refl _))⟩
/- slices.BinarySearchFunc[[]windlass/api.FuncRow,windlass/api.FuncRow,int] -/
def fc22 : FC := (.seq (.reg [⟨(some 6), none, .op (.mv (.v (.int .i64 0)))⟩,
  ⟨(some 7), none, .op (.mv (.v (.bool false)))⟩] [])
  (.seq (.reg [⟨(some 12), none, .op (.mv (.t 0))⟩,
  ⟨(some 13), none, .op (.len .sl (.t 12))⟩,
  ⟨(some 8), none, .op (.mv (.t 13))⟩] [])
  (.seq (.reg [⟨(some 14), none, .op (.mv (.t 8))⟩,
  ⟨(some 9), none, .op (.mv (.v (.int .i64 0)))⟩,
  ⟨(some 10), none, .op (.mv (.t 14))⟩] [])
  (.seq (.block 0 (.loop (.seq (.seq (.reg [⟨(some 15), none, .op (.mv (.t 9))⟩,
  ⟨(some 16), none, .op (.mv (.t 10))⟩,
  ⟨(some 17), none, .op (.bin .none .lss (.t 15) (.t 16))⟩] [])
  (.cond (.t 17)
  .skip
  (.exit 0)))
  (.block 1 (.seq (.reg [⟨(some 18), none, .op (.mv (.t 9))⟩,
  ⟨(some 19), none, .op (.mv (.t 10))⟩,
  ⟨(some 20), none, .op (.bin .none .add (.t 18) (.t 19))⟩,
  ⟨(some 21), none, .op (.cint .u64 (.t 20))⟩,
  ⟨(some 22), none, .op (.bin .none .shr (.t 21) (.v (.int .u64 1)))⟩,
  ⟨(some 23), none, .op (.cint .i64 (.t 22))⟩,
  ⟨(some 11), none, .op (.mv (.t 23))⟩] [])
  (.seq (.reg [⟨(some 24), none, .op (.mv (.t 2))⟩,
  ⟨(some 25), none, .op (.mv (.t 0))⟩,
  ⟨(some 26), none, .op (.mv (.t 11))⟩,
  ⟨(some 27), none, .op (.iad none (some 6) (.t 25) (.t 26))⟩,
  ⟨(some 28), none, .op (.load (some 6) (.t 27))⟩,
  ⟨(some 29), none, .op (.mv (.t 1))⟩,
  ⟨(some 30), none, .callv (.t 24) [(.t 28), (.t 29)]⟩,
  ⟨(some 31), none, .op (.bin .none .lss (.t 30) (.v (.int .i64 0)))⟩] [])
  (.cond (.t 31)
  (.reg [⟨(some 32), none, .op (.mv (.t 11))⟩,
  ⟨(some 33), none, .op (.bin .none .add (.t 32) (.v (.int .i64 1)))⟩,
  ⟨(some 9), none, .op (.mv (.t 33))⟩] [])
  (.reg [⟨(some 34), none, .op (.mv (.t 11))⟩,
  ⟨(some 10), none, .op (.mv (.t 34))⟩] []))))))))
  (.seq (.reg [⟨(some 35), none, .op (.mv (.t 9))⟩,
  ⟨(some 36), none, .op (.mv (.t 9))⟩,
  ⟨(some 37), none, .op (.mv (.t 8))⟩,
  ⟨(some 38), none, .op (.bin .none .lss (.t 36) (.t 37))⟩,
  ⟨(some 39), none, .op (.mv (.t 38))⟩,
  ⟨(some 40), some (39, true), .op (.mv (.t 2))⟩,
  ⟨(some 41), some (39, true), .op (.mv (.t 0))⟩,
  ⟨(some 42), some (39, true), .op (.mv (.t 9))⟩,
  ⟨(some 43), some (39, true), .op (.iad none (some 6) (.t 41) (.t 42))⟩,
  ⟨(some 44), some (39, true), .op (.load (some 6) (.t 43))⟩,
  ⟨(some 45), some (39, true), .op (.mv (.t 1))⟩,
  ⟨(some 46), some (39, true), .callv (.t 40) [(.t 44), (.t 45)]⟩,
  ⟨(some 47), some (39, true), .op (.bin .none .eql (.t 46) (.v (.int .i64 0)))⟩,
  ⟨(some 48), none, .op (.pick (.t 39) (.t 47) (.v (.bool false)))⟩,
  ⟨(some 6), none, .op (.mv (.t 35))⟩,
  ⟨(some 7), none, .op (.mv (.t 48))⟩] [])
  .ret)))))
theorem fn22 : Fn3 Try.prog 22 49 [(6, none), (7, none)] fc22 := ⟨_, _, Try.func22, rfl, rfl, rfl, by kernel_rfl⟩
def slices_BinarySearchFunc_0_f23_s (fuel : Nat) (x_00 : (List FuncRow)) (target_01 : Int) : Option (Int × Bool) :=
  ((whileN (fun (s_1 : (Int × Int × Int)) => ((if (decide (s_1.2.1 < s_1.2.2)) then ((getI x_00 (I64 (shR .u64 (U64 (I64 (s_1.2.1 + s_1.2.2))) 1))).bind fun y_2 => ((tables_Func_1_s y_2 s_1.1).bind fun v1_3 => (if (decide (v1_3 < 0)) then (some (.nxt (s_1.1, (I64 ((I64 (shR .u64 (U64 (I64 (s_1.2.1 + s_1.2.2))) 1)) + 1)), s_1.2.2))) else (some (.nxt (s_1.1, s_1.2.1, (I64 (shR .u64 (U64 (I64 (s_1.2.1 + s_1.2.2))) 1)))))))) else (some (.brk (s_1.1, s_1.2.1, s_1.2.2)))) : Option (Stp (Int × Int × Int) (Option (Int × Bool))))) fuel (target_01, 0, (List.length x_00 : Int))).bind (oc (fun (s_1 : (Int × Int × Int)) => (jp (fun (s_5 : Bool) => (some (s_1.2.1, s_5))) (fun k_4 => (if (decide (s_1.2.1 < (List.length x_00 : Int))) then ((getI x_00 s_1.2.1).bind fun y_6 => ((tables_Func_1_s y_6 s_1.1).bind fun v1_7 => (k_4 (v1_7 == 0)))) else (k_4 false)))))))
theorem slices_BinarySearchFunc_0_f23_ev {fuel : Nat} {x_00 : (List FuncRow)} {target_01 : Int} {r : (Int × Bool)} (h : slices_BinarySearchFunc_0_f23_s fuel x_00 target_01 = some r) : PureEv Try.prog 22 [(.sl false 6 (List.map FuncRow.av x_00)), (.int .i64 target_01), (.fn (.func 23) [] [])] (.tup [(.int .i64 r.1), (.bool r.2)]) := by
  unfold slices_BinarySearchFunc_0_f23_s at h
  refine PureEv_end mixed fn22 (by simp) [] 6 ?_
  unfold fc22
  refine E_sq ?_
  refine E_reg ?_
  refine E_mv (v' := (.int .i64 0)) rfl ?_
  refine E_mv (v' := (.bool false)) rfl ?_
  refine E_nil ?_
  refine E_nx ?_
  refine E_sq ?_
  refine E_reg ?_
  refine E_mv (v' := (.sl false 6 (List.map FuncRow.av x_00))) rfl ?_
  refine E_len rfl ?_
  refine E_mv (v' := (.int .i64 (List.length x_00 : Int))) rfl ?_
  refine E_nil ?_
  refine E_nx ?_
  refine E_sq ?_
  refine E_reg ?_
  refine E_mv (v' := (.int .i64 (List.length x_00 : Int))) rfl ?_
  refine E_mv (v' := (.int .i64 0)) rfl ?_
  refine E_mv (v' := (.int .i64 (List.length x_00 : Int))) rfl ?_
  refine E_nil ?_
  refine E_nx ?_
  refine E_sq ?_
  refine E_whileO (fun s_1 => [(0, (.sl false 6 (List.map FuncRow.av x_00))), (1, (.int .i64 s_1.1)), (2, (.fn (.func 23) [] [])), (8, (.int .i64 (List.length x_00 : Int))), (9, (.int .i64 s_1.2.1)), (10, (.int .i64 s_1.2.2))]) (fun s_1 => []) h (wk_aw ⟨(.refl _), (.refl _), (.refl _), (.refl _), (.refl _), (.refl _), trivial⟩) (fun s_1 c h => ?_) (fun s_1 fr' S' h hw => ?_)
  · refine E_as ?_
    refine E_sq ?_
    refine E_reg ?_
    refine E_mv (v' := (.int .i64 s_1.2.1)) rfl ?_
    refine E_mv (v' := (.int .i64 s_1.2.2)) rfl ?_
    refine E_op0 (v' := (.bool (decide (s_1.2.1 < s_1.2.2)))) rfl rfl ?_
    refine E_nil ?_
    refine E_nx ?_
    refine E_sq ?_
    refine E_cs (t := (decide (s_1.2.1 < s_1.2.2))) rfl (fun hb => ?_) (fun hb => ?_)
    · rw [ite_t hb] at h
      refine E_skip ?_
      refine E_nx ?_
      refine E_block ?_
      refine E_sq ?_
      refine E_reg ?_
      refine E_mv (v' := (.int .i64 s_1.2.1)) rfl ?_
      refine E_mv (v' := (.int .i64 s_1.2.2)) rfl ?_
      refine E_op0 (v' := (.int .i64 (I64 (s_1.2.1 + s_1.2.2)))) rfl rfl ?_
      refine E_op0 (v' := (.int .u64 (U64 (I64 (s_1.2.1 + s_1.2.2))))) rfl rfl ?_
      refine E_op0 (v' := (.int .u64 (shR .u64 (U64 (I64 (s_1.2.1 + s_1.2.2))) 1))) rfl rfl ?_
      refine E_op0 (v' := (.int .i64 (I64 (shR .u64 (U64 (I64 (s_1.2.1 + s_1.2.2))) 1)))) rfl rfl ?_
      refine E_mv (v' := (.int .i64 (I64 (shR .u64 (U64 (I64 (s_1.2.1 + s_1.2.2))) 1)))) rfl ?_
      refine E_nil ?_
      refine E_nx ?_
      refine E_sq ?_
      refine E_reg ?_
      refine E_mv (v' := (.fn (.func 23) [] [])) rfl ?_
      refine E_mv (v' := (.sl false 6 (List.map FuncRow.av x_00))) rfl ?_
      refine E_mv (v' := (.int .i64 (I64 (shR .u64 (U64 (I64 (s_1.2.1 + s_1.2.2))) 1)))) rfl ?_
      obtain ⟨y_2, hy_2, h⟩ := bd_some h
      refine E_iadF rfl rfl hy_2 ?_
      refine E_op0 (v' := (FuncRow.av y_2)) rfl rfl ?_
      refine E_mv (v' := (.int .i64 s_1.1)) rfl ?_
      obtain ⟨v1_3, hv1_3, h⟩ := bd_some h
      refine E_callvW (as' := [(FuncRow.av y_2), (.int .i64 s_1.1)]) rfl rfl (tables_Func_1_ev  hv1_3) rfl ⟨(.refl _), (.refl _), trivial⟩ (blwL_of ⟨(FuncRow.enc.blw _ 0), rfl, trivial⟩) rfl ?_
      refine E_op0 (v' := (.bool (decide (v1_3 < 0)))) rfl rfl ?_
      refine E_nil ?_
      refine E_nx ?_
      refine E_cs (t := (decide (v1_3 < 0))) rfl (fun hb => ?_) (fun hb => ?_)
      · rw [ite_t hb] at h
        refine E_reg ?_
        refine E_mv (v' := (.int .i64 (I64 (shR .u64 (U64 (I64 (s_1.2.1 + s_1.2.2))) 1)))) rfl ?_
        refine E_op0 (v' := (.int .i64 (I64 ((I64 (shR .u64 (U64 (I64 (s_1.2.1 + s_1.2.2))) 1)) + 1)))) rfl rfl ?_
        refine E_mv (v' := (.int .i64 (I64 ((I64 (shR .u64 (U64 (I64 (s_1.2.1 + s_1.2.2))) 1)) + 1)))) rfl ?_
        refine E_nil ?_
        refine E_bln ?_
        cases h
        exact L_nn rfl (wk_aw ⟨(.refl _), (.refl _), (.refl _), (.refl _), (.refl _), (.refl _), trivial⟩)
      · rw [ite_f hb] at h
        refine E_reg ?_
        refine E_mv (v' := (.int .i64 (I64 (shR .u64 (U64 (I64 (s_1.2.1 + s_1.2.2))) 1)))) rfl ?_
        refine E_mv (v' := (.int .i64 (I64 (shR .u64 (U64 (I64 (s_1.2.1 + s_1.2.2))) 1)))) rfl ?_
        refine E_nil ?_
        refine E_bln ?_
        cases h
        exact L_nn rfl (wk_aw ⟨(.refl _), (.refl _), (.refl _), (.refl _), (.refl _), (.refl _), trivial⟩)
    · rw [ite_f hb] at h
      refine E_exit ?_
      refine E_the ?_
      cases h
      exact L_bk rfl rfl rfl (wk_aw ⟨(.refl _), (.refl _), (.refl _), (.refl _), (.refl _), (.refl _), trivial⟩)
  · refine X_nx hw ?_
    refine E_jp h (fun s_5 => [(6, (.int .i64 s_1.2.1)), (7, (.bool s_5))]) (fun s_5 => []) (fun k_4 h => ?_) (fun s_5 h => ?_)
    · refine E_reg ?_
      refine E_mv (v' := (.int .i64 s_1.2.1)) rfl ?_
      refine E_mv (v' := (.int .i64 s_1.2.1)) rfl ?_
      refine E_mv (v' := (.int .i64 (List.length x_00 : Int))) rfl ?_
      refine E_op0 (v' := (.bool (decide (s_1.2.1 < (List.length x_00 : Int))))) rfl rfl ?_
      refine E_mv (v' := (.bool (decide (s_1.2.1 < (List.length x_00 : Int))))) rfl ?_
      refine E_gsT (b := (decide (s_1.2.1 < (List.length x_00 : Int)))) rfl rfl rfl (fun hb => ?_) (fun hb => ?_)
      · rw [ite_t hb] at h
        refine E_mv (v' := (.fn (.func 23) [] [])) rfl ?_
        refine E_gh rfl ?_
        refine E_mv (v' := (.sl false 6 (List.map FuncRow.av x_00))) rfl ?_
        refine E_gh rfl ?_
        refine E_mv (v' := (.int .i64 s_1.2.1)) rfl ?_
        refine E_gh rfl ?_
        obtain ⟨y_6, hy_6, h⟩ := bd_some h
        refine E_iadF rfl rfl hy_6 ?_
        refine E_gh rfl ?_
        refine E_op0 (v' := (FuncRow.av y_6)) rfl rfl ?_
        refine E_gh rfl ?_
        refine E_mv (v' := (.int .i64 s_1.1)) rfl ?_
        refine E_gh rfl ?_
        obtain ⟨v1_7, hv1_7, h⟩ := bd_some h
        refine E_callvW (as' := [(FuncRow.av y_6), (.int .i64 s_1.1)]) rfl rfl (tables_Func_1_ev  hv1_7) rfl ⟨(.refl _), (.refl _), trivial⟩ (blwL_of ⟨(FuncRow.enc.blw _ 0), rfl, trivial⟩) rfl ?_
        refine E_gh rfl ?_
        refine E_op0 (v' := (.bool (v1_7 == 0))) rfl rfl ?_
        refine E_pt rfl rfl ?_
        refine E_mv (v' := (.int .i64 s_1.2.1)) rfl ?_
        refine E_mv (v' := (.bool (v1_7 == 0))) rfl ?_
        refine E_nil ?_
        exact E_jx _ h (wk_aw ⟨(.refl _), (.refl _), trivial⟩)
      · rw [ite_f hb] at h
        refine E_gm rfl ?_
        refine E_gm rfl ?_
        refine E_gm rfl ?_
        refine E_gm rfl ?_
        refine E_gm rfl ?_
        refine E_gm rfl ?_
        refine E_gm rfl ?_
        refine E_pf rfl rfl ?_
        refine E_mv (v' := (.int .i64 s_1.2.1)) rfl ?_
        refine E_mv (v' := (.bool false)) rfl ?_
        refine E_nil ?_
        exact E_jx _ h (wk_aw ⟨(.refl _), (.refl _), trivial⟩)
    · refine E_ret ?_
      cases h
      exact ⟨trivial, _, rfl, (fz_tup ⟨(fz_b rfl (.refl _)), (fz_b rfl (.refl _)), trivial⟩)⟩
/- windlass/tables.Func -/
def fc10 : FC := (.seq (.reg [⟨(some 2), none, .op (.box (.t 0))⟩,
  ⟨(some 4), none, .op (.mv (.v (.int .i64 0)))⟩,
  ⟨(some 5), none, .op (.mv (.v (.bool false)))⟩] [])
  (.seq (.reg [⟨(some 9), none, .op (.fad 0 (.t 2))⟩,
  ⟨(some 10), none, .op (.load none (.t 9))⟩,
  ⟨(some 11), none, .op (.mv (.t 1))⟩,
  ⟨(some 12), none, .call 22 [(.t 10), (.t 11), (.v (.fn (.func 23) [] []))]⟩,
  ⟨(some 8), none, .op (.mv (.t 12))⟩,
  ⟨(some 13), none, .op (.ext 0 (.t 8))⟩,
  ⟨(some 14), none, .op (.ext 1 (.t 8))⟩,
  ⟨(some 6), none, .op (.mv (.t 13))⟩,
  ⟨(some 7), none, .op (.mv (.t 14))⟩] [])
  (.seq (.seq (.reg [⟨(some 15), none, .op (.mv (.t 7))⟩,
  ⟨(some 16), none, .op (.un .not (.t 15))⟩] [])
  (.cond (.t 16)
  (.reg [⟨(some 17), none, .op (.mv (.t 6))⟩,
  ⟨(some 18), none, .op (.bin .none .sub (.t 17) (.v (.int .i64 1)))⟩,
  ⟨(some 6), none, .op (.mv (.t 18))⟩] [])
  .skip))
  (.seq (.seq (.reg [⟨(some 19), none, .op (.mv (.t 6))⟩,
  ⟨(some 20), none, .op (.bin .none .lss (.t 19) (.v (.int .i64 0)))⟩,
  ⟨(some 21), none, .op (.mv (.t 20))⟩,
  ⟨(some 22), some (21, false), .op (.mv (.t 1))⟩,
  ⟨(some 23), some (21, false), .op (.fad 0 (.t 2))⟩,
  ⟨(some 24), some (21, false), .op (.load none (.t 23))⟩,
  ⟨(some 25), some (21, false), .op (.mv (.t 6))⟩,
  ⟨(some 26), some (21, false), .op (.iad none (some 6) (.t 24) (.t 25))⟩,
  ⟨(some 27), some (21, false), .op (.fad 1 (.t 26))⟩,
  ⟨(some 28), some (21, false), .op (.load none (.t 27))⟩,
  ⟨(some 29), some (21, false), .op (.bin .none .geq (.t 22) (.t 28))⟩,
  ⟨(some 30), none, .op (.pick (.t 21) (.v (.bool true)) (.t 29))⟩] [])
  (.cond (.t 30)
  (.seq (.reg [⟨(some 4), none, .op (.mv (.v (.int .i64 0)))⟩,
  ⟨(some 5), none, .op (.mv (.v (.bool false)))⟩] [])
  .ret)
  .skip))
  (.seq (.reg [⟨(some 31), none, .op (.mv (.t 6))⟩,
  ⟨(some 4), none, .op (.mv (.t 31))⟩,
  ⟨(some 5), none, .op (.mv (.v (.bool true)))⟩] [])
  .ret)))))
theorem fn10 : Fn3 Try.prog 10 32 [(4, none), (5, none)] fc10 := ⟨_, _, Try.func10, rfl, rfl, rfl, by kernel_rfl⟩
def tables_Func_s (fuel : Nat) (t_00 : Tables) (vat_01 : Int) : Option (Int × Bool) :=
  ((slices_BinarySearchFunc_0_f23_s fuel t_00.Funcs vat_01).bind fun v0_1 => (jp (fun (s_3 : Int) => (jp (fun (s_5 : Bool) => (if s_5 then (some (0, false)) else (some (s_3, true)))) (fun k_4 => (if (decide (s_3 < 0)) then (k_4 true) else ((getI t_00.Funcs s_3).bind fun y_6 => (k_4 (decide (vat_01 ≥ y_6.Stop)))))))) (fun k_2 => (if (!v0_1.2) then (k_2 (I64 (v0_1.1 - 1))) else (k_2 v0_1.1)))))
theorem tables_Func_ev {fuel : Nat} {t_00 : Tables} {vat_01 : Int} {r : (Int × Bool)} (h : tables_Func_s fuel t_00 vat_01 = some r) : PureEv Try.prog 10 [(Tables.av t_00), (.int .i64 vat_01)] (.tup [(.int .i64 r.1), (.bool r.2)]) := by
  unfold tables_Func_s at h
  refine PureEv_end mixed fn10 (by simp) [] 6 ?_
  unfold fc10
  refine E_sq ?_
  refine E_reg ?_
  refine E_op0 (v' := (.cptr (Tables.av t_00).cells 0)) rfl rfl ?_
  refine E_mv (v' := (.int .i64 0)) rfl ?_
  refine E_mv (v' := (.bool false)) rfl ?_
  refine E_nil ?_
  refine E_nx ?_
  refine E_sq ?_
  refine E_reg ?_
  refine E_op0 (v' := (.cptr (Tables.av t_00).cells 0)) rfl rfl ?_
  refine E_op0 (v' := (.sl false 6 (List.map FuncRow.av t_00.Funcs))) rfl rfl ?_
  refine E_mv (v' := (.int .i64 vat_01)) rfl ?_
  obtain ⟨v0_1, hv0_1, h⟩ := bd_some h
  refine E_callW (slices_BinarySearchFunc_0_f23_ev (fuel := fuel)  hv0_1) rfl ⟨(.refl _), (.refl _), (.refl _), trivial⟩ (blwL_of ⟨(FuncRow.enc.blws 0), rfl, rfl, trivial⟩) (tup_blw ⟨rfl, rfl, trivial⟩) ?_
  refine E_mv (v' := (.tup [(.int .i64 v0_1.1), (.bool v0_1.2)])) rfl ?_
  refine E_op0 (v' := (.int .i64 v0_1.1)) rfl rfl ?_
  refine E_op0 (v' := (.bool v0_1.2)) rfl rfl ?_
  refine E_mv (v' := (.int .i64 v0_1.1)) rfl ?_
  refine E_mv (v' := (.bool v0_1.2)) rfl ?_
  refine E_nil ?_
  refine E_nx ?_
  refine E_as ?_
  refine E_sq ?_
  refine E_reg ?_
  refine E_mv (v' := (.bool v0_1.2)) rfl ?_
  refine E_op0 (v' := (.bool (!v0_1.2))) rfl rfl ?_
  refine E_nil ?_
  refine E_nx ?_
  refine E_jp h (fun s_3 => [(1, (.int .i64 vat_01)), (2, (.cptr (Tables.av t_00).cells 0)), (6, (.int .i64 s_3))]) (fun s_3 => []) (fun k_2 h => ?_) (fun s_3 h => ?_)
  · refine E_cs (t := (!v0_1.2)) rfl (fun hb => ?_) (fun hb => ?_)
    · rw [ite_t hb] at h
      refine E_reg ?_
      refine E_mv (v' := (.int .i64 v0_1.1)) rfl ?_
      refine E_op0 (v' := (.int .i64 (I64 (v0_1.1 - 1)))) rfl rfl ?_
      refine E_mv (v' := (.int .i64 (I64 (v0_1.1 - 1)))) rfl ?_
      refine E_nil ?_
      exact E_jx _ h (wk_aw ⟨(.refl _), (.refl _), (.refl _), trivial⟩)
    · rw [ite_f hb] at h
      refine E_skip ?_
      exact E_jx _ h (wk_aw ⟨(.refl _), (.refl _), (.refl _), trivial⟩)
  · refine E_as ?_
    refine E_jp h (fun s_5 => [(6, (.int .i64 s_3)), (30, (.bool s_5))]) (fun s_5 => []) (fun k_4 h => ?_) (fun s_5 h => ?_)
    · refine E_reg ?_
      refine E_mv (v' := (.int .i64 s_3)) rfl ?_
      refine E_op0 (v' := (.bool (decide (s_3 < 0)))) rfl rfl ?_
      refine E_mv (v' := (.bool (decide (s_3 < 0)))) rfl ?_
      refine E_gsT (b := (decide (s_3 < 0))) rfl rfl rfl (fun hb => ?_) (fun hb => ?_)
      · rw [ite_f hb] at h
        refine E_mv (v' := (.int .i64 vat_01)) rfl ?_
        refine E_gh rfl ?_
        refine E_op0 (v' := (.cptr (Tables.av t_00).cells 0)) rfl rfl ?_
        refine E_gh rfl ?_
        refine E_op0 (v' := (.sl false 6 (List.map FuncRow.av t_00.Funcs))) rfl rfl ?_
        refine E_gh rfl ?_
        refine E_mv (v' := (.int .i64 s_3)) rfl ?_
        refine E_gh rfl ?_
        obtain ⟨y_6, hy_6, h⟩ := bd_some h
        refine E_iadF rfl rfl hy_6 ?_
        refine E_gh rfl ?_
        refine E_op0 (v' := (.cptr (FuncRow.av y_6).cells 1)) rfl rfl ?_
        refine E_gh rfl ?_
        refine E_op0 (v' := (.int .i64 y_6.Stop)) rfl rfl ?_
        refine E_gh rfl ?_
        refine E_op0 (v' := (.bool (decide (vat_01 ≥ y_6.Stop)))) rfl rfl ?_
        refine E_pf rfl rfl ?_
        refine E_nil ?_
        exact E_jx _ h (wk_aw ⟨(.refl _), (.refl _), trivial⟩)
      · rw [ite_t hb] at h
        refine E_gm rfl ?_
        refine E_gm rfl ?_
        refine E_gm rfl ?_
        refine E_gm rfl ?_
        refine E_gm rfl ?_
        refine E_gm rfl ?_
        refine E_gm rfl ?_
        refine E_pt rfl rfl ?_
        refine E_nil ?_
        exact E_jx _ h (wk_aw ⟨(.refl _), (.refl _), trivial⟩)
    · refine E_sq ?_
      refine E_cs (t := s_5) rfl (fun hb => ?_) (fun hb => ?_)
      · rw [ite_t hb] at h
        refine E_sq ?_
        refine E_reg ?_
        refine E_mv (v' := (.int .i64 0)) rfl ?_
        refine E_mv (v' := (.bool false)) rfl ?_
        refine E_nil ?_
        refine E_nx ?_
        refine E_ret ?_
        refine E_thr ?_
        cases h
        exact ⟨trivial, _, rfl, (fz_tup ⟨(fz_b rfl (.refl _)), (fz_b rfl (.refl _)), trivial⟩)⟩
      · rw [ite_f hb] at h
        refine E_skip ?_
        refine E_nx ?_
        refine E_sq ?_
        refine E_reg ?_
        refine E_mv (v' := (.int .i64 s_3)) rfl ?_
        refine E_mv (v' := (.int .i64 s_3)) rfl ?_
        refine E_mv (v' := (.bool true)) rfl ?_
        refine E_nil ?_
        refine E_nx ?_
        refine E_ret ?_
        cases h
        exact ⟨trivial, _, rfl, (fz_tup ⟨(fz_b rfl (.refl _)), (fz_b rfl (.refl _)), trivial⟩)⟩
/- windlass/windlasslaw19.first -/
def fc8 : FC := (.seq (.reg [⟨(some 0), none, .op (.mv (.v (.bool false)))⟩] [])
  (.seq (.reg [⟨(some 6), none, .op (.build [(.int .i64 0), (.int .i64 0), (.int .i64 0), .nils, .nils, (.int .i64 0)] [(0, 1, (.v (.int .i64 2))), (1, 1, (.v (.int .i64 9))), (5, 1, (.v (.int .i64 (-1))))])⟩,
  ⟨(some 7), none, .op (.bsl (some 6) [(.int .i64 0), (.int .i64 0), (.int .i64 0), .nils, .nils, (.int .i64 0)] 1 [(0, 6, (.t 6))])⟩,
  ⟨(some 8), none, .op (.build [.nils, .nils] [(0, 1, (.t 7))])⟩,
  ⟨(some 1), none, .op (.new [.nils, .nils])⟩,
  ⟨none, none, .op (.store 2 (.t 1) (.t 8))⟩] [])
  (.seq (.reg [⟨(some 10), none, .op (.load (some 2) (.t 1))⟩,
  ⟨(some 11), none, .call 15 [(.t 10)]⟩,
  ⟨(some 9), none, .op (.mv (.t 11))⟩,
  ⟨(some 12), none, .op (.ext 0 (.t 9))⟩,
  ⟨(some 13), none, .op (.ext 1 (.t 9))⟩,
  ⟨(some 2), none, .op (.mv (.t 12))⟩,
  ⟨(some 3), none, .op (.mv (.t 13))⟩] [])
  (.seq (.reg [⟨(some 15), none, .op (.load (some 2) (.t 1))⟩,
  ⟨(some 16), none, .call 10 [(.t 15), (.v (.int .i64 8))]⟩,
  ⟨(some 14), none, .op (.mv (.t 16))⟩,
  ⟨(some 17), none, .op (.ext 0 (.t 14))⟩,
  ⟨(some 18), none, .op (.ext 1 (.t 14))⟩,
  ⟨(some 4), none, .op (.mv (.t 17))⟩,
  ⟨(some 5), none, .op (.mv (.t 18))⟩] [])
  (.seq (.reg [⟨(some 19), none, .op (.mv (.t 3))⟩,
  ⟨(some 20), none, .op (.bin .none .eql (.t 19) (.v (.int .i64 0)))⟩,
  ⟨(some 21), none, .op (.mv (.t 20))⟩,
  ⟨(some 22), some (21, true), .op (.mv (.t 2))⟩,
  ⟨(some 23), some (21, true), .op (.len .sl (.t 22))⟩,
  ⟨(some 24), some (21, true), .op (.bin .none .eql (.t 23) (.v (.int .i64 32)))⟩,
  ⟨(some 25), none, .op (.pick (.t 21) (.t 24) (.v (.bool false)))⟩,
  ⟨(some 26), none, .op (.mv (.t 25))⟩,
  ⟨(some 27), some (26, true), .op (.mv (.t 4))⟩,
  ⟨(some 28), some (26, true), .op (.bin .none .eql (.t 27) (.v (.int .i64 0)))⟩,
  ⟨(some 29), none, .op (.pick (.t 26) (.t 28) (.v (.bool false)))⟩,
  ⟨(some 30), none, .op (.mv (.t 29))⟩,
  ⟨(some 31), some (30, true), .op (.mv (.t 5))⟩,
  ⟨(some 32), none, .op (.pick (.t 30) (.t 31) (.v (.bool false)))⟩,
  ⟨(some 33), none, .op (.mv (.t 32))⟩,
  ⟨(some 34), some (33, true), .op (.load (some 2) (.t 1))⟩,
  ⟨(some 35), some (33, true), .call 9 [(.t 34)]⟩,
  ⟨(some 36), some (33, true), .op (.bin .none .eql (.t 35) (.v (.int .i64 0)))⟩,
  ⟨(some 37), none, .op (.pick (.t 33) (.t 36) (.v (.bool false)))⟩,
  ⟨(some 0), none, .op (.mv (.t 37))⟩] [])
  .ret)))))
theorem fn8 : Fn3 Try.prog 8 38 [(0, none)] fc8 := ⟨_, _, Try.func8, rfl, rfl, rfl, by kernel_rfl⟩
def windlasslaw19_first_s (fuel : Nat)  : Option Bool :=
  ((tables_Encode_s (Tables.mk ([(FuncRow.mk 2 9 0 [] [] (-1))]) [])).bind fun enc_1 => ((tables_Func_s fuel (Tables.mk ([(FuncRow.mk 2 9 0 [] [] (-1))]) []) 8).bind fun vfun_2 => (jp (fun (s_4 : Bool) => (some s_4)) (fun k_3 => (if (enc_1.2 == 0) then (if ((List.length enc_1.1 : Int) == 32) then (if (vfun_2.1 == 0) then (if vfun_2.2 then ((tables_Check_s (Tables.mk ([(FuncRow.mk 2 9 0 [] [] (-1))]) [])).bind fun che_5 => (k_3 (che_5 == 0))) else (k_3 false)) else (k_3 false)) else (k_3 false)) else (k_3 false))))))
theorem windlasslaw19_first_ev {fuel : Nat}  {r : Bool} (h : windlasslaw19_first_s fuel  = some r) : PureEv Try.prog 8 [] (.bool r) := by
  unfold windlasslaw19_first_s at h
  refine PureEv_end mixed fn8 (by simp) [1] 6 ?_
  unfold fc8
  refine E_sq ?_
  refine E_reg ?_
  refine E_mv (v' := (.bool false)) rfl ?_
  refine E_nil ?_
  refine E_nx ?_
  refine E_sq ?_
  refine E_reg ?_
  refine E_op0 (v' := (.agg [(.int .i64 2), (.int .i64 9), (.int .i64 0), .nils, .nils, (.int .i64 (-1))])) rfl rfl ?_
  refine E_opw (v' := (.sl true 6 (List.map FuncRow.av [(FuncRow.mk 2 9 0 [] [] (-1))]))) rfl (.slL ⟨⟨rfl, ⟨(.refl _), (.refl _), (.refl _), .nil, .nil, (.refl _), trivial⟩⟩, trivial⟩) rfl ?_
  refine E_op0 (v' := (.agg [(.sl true 6 (List.map FuncRow.av [(FuncRow.mk 2 9 0 [] [] (-1))])), .nils])) rfl rfl ?_
  refine E_op (v' := .ptr 0 0 0) (S' := [.arr 0 [.nils, .nils]]) rfl rfl rfl ?_
  refine E_do (S' := [.arr 0 [(.sl true 6 (List.map FuncRow.av [(FuncRow.mk 2 9 0 [] [] (-1))])), .nils]]) rfl rfl ?_
  refine E_nil ?_
  refine E_nx ?_
  refine E_sq ?_
  refine E_reg ?_
  refine E_opw (v' := (Tables.av (Tables.mk ([(FuncRow.mk 2 9 0 [] [] (-1))]) []))) rfl (.aggL ⟨.ex, .nil, trivial⟩) rfl ?_
  obtain ⟨enc_1, henc_1, h⟩ := bd_some h
  refine E_callW (tables_Encode_ev  henc_1) rfl ⟨(.refl _), trivial⟩ (blwL_of ⟨(Tables.enc.blw _ 0), trivial⟩) (tup_blw ⟨((encI .u8).blws 0), rfl, trivial⟩) ?_
  refine E_mv (v' := (.tup [(.sl false 1 (List.map (avI .u8) enc_1.1)), (.int .i64 enc_1.2)])) rfl ?_
  refine E_op0 (v' := (.sl false 1 (List.map (avI .u8) enc_1.1))) rfl rfl ?_
  refine E_op0 (v' := (.int .i64 enc_1.2)) rfl rfl ?_
  refine E_mv (v' := (.sl false 1 (List.map (avI .u8) enc_1.1))) rfl ?_
  refine E_mv (v' := (.int .i64 enc_1.2)) rfl ?_
  refine E_nil ?_
  refine E_nx ?_
  refine E_sq ?_
  refine E_reg ?_
  refine E_opw (v' := (Tables.av (Tables.mk ([(FuncRow.mk 2 9 0 [] [] (-1))]) []))) rfl (.aggL ⟨.ex, .nil, trivial⟩) rfl ?_
  obtain ⟨vfun_2, hvfun_2, h⟩ := bd_some h
  refine E_callW (tables_Func_ev (fuel := fuel)  hvfun_2) rfl ⟨(.refl _), (.refl _), trivial⟩ (blwL_of ⟨(Tables.enc.blw _ 0), rfl, trivial⟩) (tup_blw ⟨rfl, rfl, trivial⟩) ?_
  refine E_mv (v' := (.tup [(.int .i64 vfun_2.1), (.bool vfun_2.2)])) rfl ?_
  refine E_op0 (v' := (.int .i64 vfun_2.1)) rfl rfl ?_
  refine E_op0 (v' := (.bool vfun_2.2)) rfl rfl ?_
  refine E_mv (v' := (.int .i64 vfun_2.1)) rfl ?_
  refine E_mv (v' := (.bool vfun_2.2)) rfl ?_
  refine E_nil ?_
  refine E_nx ?_
  refine E_jp h (fun s_4 => [(0, (.bool s_4))]) (fun s_4 => []) (fun k_3 h => ?_) (fun s_4 h => ?_)
  · refine E_reg ?_
    refine E_mv (v' := (.int .i64 enc_1.2)) rfl ?_
    refine E_op0 (v' := (.bool (enc_1.2 == 0))) rfl rfl ?_
    refine E_mv (v' := (.bool (enc_1.2 == 0))) rfl ?_
    refine E_gsT (b := (enc_1.2 == 0)) rfl rfl rfl (fun hb => ?_) (fun hb => ?_)
    · rw [ite_t hb] at h
      refine E_mv (v' := (.sl false 1 (List.map (avI .u8) enc_1.1))) rfl ?_
      refine E_gh rfl ?_
      refine E_len rfl ?_
      refine E_gh rfl ?_
      refine E_op0 (v' := (.bool ((List.length enc_1.1 : Int) == 32))) rfl rfl ?_
      refine E_pt rfl rfl ?_
      refine E_mv (v' := (.bool ((List.length enc_1.1 : Int) == 32))) rfl ?_
      refine E_gsT (b := ((List.length enc_1.1 : Int) == 32)) rfl rfl rfl (fun hb => ?_) (fun hb => ?_)
      · rw [ite_t hb] at h
        refine E_mv (v' := (.int .i64 vfun_2.1)) rfl ?_
        refine E_gh rfl ?_
        refine E_op0 (v' := (.bool (vfun_2.1 == 0))) rfl rfl ?_
        refine E_pt rfl rfl ?_
        refine E_mv (v' := (.bool (vfun_2.1 == 0))) rfl ?_
        refine E_gsT (b := (vfun_2.1 == 0)) rfl rfl rfl (fun hb => ?_) (fun hb => ?_)
        · rw [ite_t hb] at h
          refine E_mv (v' := (.bool vfun_2.2)) rfl ?_
          refine E_pt rfl rfl ?_
          refine E_mv (v' := (.bool vfun_2.2)) rfl ?_
          refine E_gsT (b := vfun_2.2) rfl rfl rfl (fun hb => ?_) (fun hb => ?_)
          · rw [ite_t hb] at h
            refine E_opw (v' := (Tables.av (Tables.mk ([(FuncRow.mk 2 9 0 [] [] (-1))]) []))) rfl (.aggL ⟨.ex, .nil, trivial⟩) rfl ?_
            refine E_gh rfl ?_
            obtain ⟨che_5, hche_5, h⟩ := bd_some h
            refine E_callW (tables_Check_ev  hche_5) rfl ⟨(.refl _), trivial⟩ (blwL_of ⟨(Tables.enc.blw _ 0), trivial⟩) rfl ?_
            refine E_gh rfl ?_
            refine E_op0 (v' := (.bool (che_5 == 0))) rfl rfl ?_
            refine E_pt rfl rfl ?_
            refine E_mv (v' := (.bool (che_5 == 0))) rfl ?_
            refine E_nil ?_
            exact E_jx _ h (wk_rn [] rfl (Nat.le_of_ble_eq_true rfl) trivial ⟨(rn_b rfl), trivial⟩)
          · rw [ite_f hb] at h
            refine E_gm rfl ?_
            refine E_gm rfl ?_
            refine E_pf rfl rfl ?_
            refine E_mv (v' := (.bool false)) rfl ?_
            refine E_nil ?_
            exact E_jx _ h (wk_rn [] rfl (Nat.le_of_ble_eq_true rfl) trivial ⟨(rn_b rfl), trivial⟩)
        · rw [ite_f hb] at h
          refine E_pf rfl rfl ?_
          refine E_mv (v' := (.bool false)) rfl ?_
          refine E_gm rfl ?_
          refine E_gm rfl ?_
          refine E_gm rfl ?_
          refine E_pf rfl rfl ?_
          refine E_mv (v' := (.bool false)) rfl ?_
          refine E_nil ?_
          exact E_jx _ h (wk_rn [] rfl (Nat.le_of_ble_eq_true rfl) trivial ⟨(rn_b rfl), trivial⟩)
      · rw [ite_f hb] at h
        refine E_gm rfl ?_
        refine E_pf rfl rfl ?_
        refine E_mv (v' := (.bool false)) rfl ?_
        refine E_gm rfl ?_
        refine E_pf rfl rfl ?_
        refine E_mv (v' := (.bool false)) rfl ?_
        refine E_gm rfl ?_
        refine E_gm rfl ?_
        refine E_gm rfl ?_
        refine E_pf rfl rfl ?_
        refine E_mv (v' := (.bool false)) rfl ?_
        refine E_nil ?_
        exact E_jx _ h (wk_rn [] rfl (Nat.le_of_ble_eq_true rfl) trivial ⟨(rn_b rfl), trivial⟩)
    · rw [ite_f hb] at h
      refine E_gm rfl ?_
      refine E_gm rfl ?_
      refine E_pf rfl rfl ?_
      refine E_mv (v' := (.bool false)) rfl ?_
      refine E_gm rfl ?_
      refine E_gm rfl ?_
      refine E_pf rfl rfl ?_
      refine E_mv (v' := (.bool false)) rfl ?_
      refine E_gm rfl ?_
      refine E_pf rfl rfl ?_
      refine E_mv (v' := (.bool false)) rfl ?_
      refine E_gm rfl ?_
      refine E_gm rfl ?_
      refine E_gm rfl ?_
      refine E_pf rfl rfl ?_
      refine E_mv (v' := (.bool false)) rfl ?_
      refine E_nil ?_
      exact E_jx _ h (wk_rn [] rfl (Nat.le_of_ble_eq_true rfl) trivial ⟨(rn_b rfl), trivial⟩)
  · refine E_ret ?_
    cases h
    exact ⟨trivial, _, rfl, (fz_b rfl (.refl _))⟩
/- windlass/windlassref19.word -/
def fc25 : FC := (.seq (.reg [⟨(some 4), none, .op (.mv (.v (.bool false)))⟩] [])
  (.seq (.reg [⟨(some 5), none, .op (.mv (.t 0))⟩,
  ⟨(some 6), none, .op (.bin .none .geq (.t 5) (.v (.int .i64 0)))⟩,
  ⟨(some 7), none, .op (.mv (.t 6))⟩,
  ⟨(some 8), some (7, true), .op (.mv (.t 0))⟩,
  ⟨(some 9), some (7, true), .op (.mv (.t 1))⟩,
  ⟨(some 10), some (7, true), .op (.bin .none .lss (.t 8) (.t 9))⟩,
  ⟨(some 11), none, .op (.pick (.t 7) (.t 10) (.v (.bool false)))⟩,
  ⟨(some 12), none, .op (.mv (.t 11))⟩,
  ⟨(some 13), some (12, true), .op (.mv (.t 0))⟩,
  ⟨(some 14), some (12, true), .op (.bin .none .rem (.t 13) (.v (.int .i64 8)))⟩,
  ⟨(some 15), some (12, true), .op (.bin .none .eql (.t 14) (.v (.int .i64 0)))⟩,
  ⟨(some 16), none, .op (.pick (.t 12) (.t 15) (.v (.bool false)))⟩,
  ⟨(some 4), none, .op (.mv (.t 16))⟩] [])
  .ret))
theorem fn25 : Fn3 Try.prog 25 17 [(4, none)] fc25 := ⟨_, _, Try.func25, rfl, rfl, rfl, by kernel_rfl⟩
def windlassref19_word_s (o_00 : Int) (size_01 : Int) : Option Bool :=
  (jp (fun (s_2 : Bool) => (some s_2)) (fun k_1 => (if (decide (o_00 ≥ 0)) then (if (decide (o_00 < size_01)) then (k_1 ((Int.tmod o_00 8) == 0)) else (k_1 false)) else (k_1 false))))
theorem windlassref19_word_ev {o_00 : Int} {size_01 : Int} {r : Bool} (h : windlassref19_word_s o_00 size_01 = some r) : PureEv Try.prog 25 [(.int .i64 o_00), (.int .i64 size_01)] (.bool r) := by
  unfold windlassref19_word_s at h
  refine PureEv_end mixed fn25 (by simp) [] 6 ?_
  unfold fc25
  refine E_sq ?_
  refine E_reg ?_
  refine E_mv (v' := (.bool false)) rfl ?_
  refine E_nil ?_
  refine E_nx ?_
  refine E_jp h (fun s_2 => [(4, (.bool s_2))]) (fun s_2 => []) (fun k_1 h => ?_) (fun s_2 h => ?_)
  · refine E_reg ?_
    refine E_mv (v' := (.int .i64 o_00)) rfl ?_
    refine E_op0 (v' := (.bool (decide (o_00 ≥ 0)))) rfl rfl ?_
    refine E_mv (v' := (.bool (decide (o_00 ≥ 0)))) rfl ?_
    refine E_gsT (b := (decide (o_00 ≥ 0))) rfl rfl rfl (fun hb => ?_) (fun hb => ?_)
    · rw [ite_t hb] at h
      refine E_mv (v' := (.int .i64 o_00)) rfl ?_
      refine E_gh rfl ?_
      refine E_mv (v' := (.int .i64 size_01)) rfl ?_
      refine E_gh rfl ?_
      refine E_op0 (v' := (.bool (decide (o_00 < size_01)))) rfl rfl ?_
      refine E_pt rfl rfl ?_
      refine E_mv (v' := (.bool (decide (o_00 < size_01)))) rfl ?_
      refine E_gsT (b := (decide (o_00 < size_01))) rfl rfl rfl (fun hb => ?_) (fun hb => ?_)
      · rw [ite_t hb] at h
        refine E_mv (v' := (.int .i64 o_00)) rfl ?_
        refine E_gh rfl ?_
        refine E_op0 (v' := (.int .i64 (Int.tmod o_00 8))) rfl rfl ?_
        refine E_gh rfl ?_
        refine E_op0 (v' := (.bool ((Int.tmod o_00 8) == 0))) rfl rfl ?_
        refine E_pt rfl rfl ?_
        refine E_mv (v' := (.bool ((Int.tmod o_00 8) == 0))) rfl ?_
        refine E_nil ?_
        exact E_jx _ h (wk_aw ⟨(.refl _), trivial⟩)
      · rw [ite_f hb] at h
        refine E_gm rfl ?_
        refine E_gm rfl ?_
        refine E_pf rfl rfl ?_
        refine E_mv (v' := (.bool false)) rfl ?_
        refine E_nil ?_
        exact E_jx _ h (wk_aw ⟨(.refl _), trivial⟩)
    · rw [ite_f hb] at h
      refine E_gm rfl ?_
      refine E_gm rfl ?_
      refine E_pf rfl rfl ?_
      refine E_mv (v' := (.bool false)) rfl ?_
      refine E_gm rfl ?_
      refine E_gm rfl ?_
      refine E_gm rfl ?_
      refine E_pf rfl rfl ?_
      refine E_mv (v' := (.bool false)) rfl ?_
      refine E_nil ?_
      exact E_jx _ h (wk_aw ⟨(.refl _), trivial⟩)
  · refine E_ret ?_
    cases h
    exact ⟨trivial, _, rfl, (fz_b rfl (.refl _))⟩
/- windlass/windlassref19.Owner -/
def fc26 : FC := (.seq (.reg [⟨(some 2), none, .op (.box (.t 0))⟩,
  ⟨(some 4), none, .op (.mv (.v (.int .i64 0)))⟩] [])
  (.seq (.seq (.reg [⟨(some 6), none, .op (.fad 0 (.t 2))⟩,
  ⟨(some 7), none, .op (.load none (.t 6))⟩,
  ⟨(some 8), none, .op (.len .sl (.t 7))⟩,
  ⟨(some 9), none, .op (.mv (.v (.int .i64 0)))⟩] [])
  (.block 0 (.loop (.seq (.reg [⟨(some 10), none, .op (.bin .none .lss (.t 9) (.t 8))⟩] [])
  (.seq (.cond (.t 10)
  .skip
  (.exit 0))
  (.seq (.block 1 (.seq (.reg [⟨(some 11), none, .op (.mv (.t 9))⟩,
  ⟨(some 5), none, .op (.mv (.t 11))⟩] [])
  (.seq (.reg [⟨(some 12), none, .op (.fad 0 (.t 2))⟩,
  ⟨(some 13), none, .op (.load none (.t 12))⟩,
  ⟨(some 14), none, .op (.mv (.t 5))⟩,
  ⟨(some 15), none, .op (.iad none (some 6) (.t 13) (.t 14))⟩,
  ⟨(some 16), none, .op (.fad 0 (.t 15))⟩,
  ⟨(some 17), none, .op (.load none (.t 16))⟩,
  ⟨(some 18), none, .op (.mv (.t 1))⟩,
  ⟨(some 19), none, .op (.bin .none .lss (.t 17) (.t 18))⟩,
  ⟨(some 20), none, .op (.mv (.t 19))⟩,
  ⟨(some 21), some (20, true), .op (.mv (.t 1))⟩,
  ⟨(some 22), some (20, true), .op (.fad 0 (.t 2))⟩,
  ⟨(some 23), some (20, true), .op (.load none (.t 22))⟩,
  ⟨(some 24), some (20, true), .op (.mv (.t 5))⟩,
  ⟨(some 25), some (20, true), .op (.iad none (some 6) (.t 23) (.t 24))⟩,
  ⟨(some 26), some (20, true), .op (.fad 1 (.t 25))⟩,
  ⟨(some 27), some (20, true), .op (.load none (.t 26))⟩,
  ⟨(some 28), some (20, true), .op (.bin .none .leq (.t 21) (.t 27))⟩,
  ⟨(some 29), none, .op (.pick (.t 20) (.t 28) (.v (.bool false)))⟩] [])
  (.cond (.t 29)
  (.seq (.reg [⟨(some 30), none, .op (.mv (.t 5))⟩,
  ⟨(some 4), none, .op (.mv (.t 30))⟩] [])
  .ret)
  .skip))))
  (.reg [⟨(some 31), none, .op (.bin .none .add (.t 9) (.v (.int .i64 1)))⟩,
  ⟨(some 9), none, .op (.mv (.t 31))⟩] [])))))))
  (.seq (.reg [⟨(some 4), none, .op (.mv (.v (.int .i64 (-1))))⟩] [])
  .ret)))
theorem fn26 : Fn3 Try.prog 26 32 [(4, none)] fc26 := ⟨_, _, Try.func26, rfl, rfl, rfl, by kernel_rfl⟩
def windlassref19_Owner_s (t_00 : Tables) (vat_01 : Int) : Option Int :=
  ((rni (fun (i_2 : Nat) (s_1 : Int) => ((jp (fun (s_4 : Bool) => (if s_4 then (some (.ret (some (i_2 : Int)))) else (some (.nxt s_1)))) (fun k_3 => ((getI t_00.Funcs (i_2 : Int)).bind fun y_5 => (if (decide (y_5.Start < s_1)) then (k_3 (decide (s_1 ≤ y_5.Stop))) else (k_3 false))))) : Option (Stp Int (Option Int)))) (List.length t_00.Funcs : Int) vat_01).bind (oc (fun (s_1 : Int) => (some (-1)))))
theorem windlassref19_Owner_ev {t_00 : Tables} {vat_01 : Int} {r : Int} (h : windlassref19_Owner_s t_00 vat_01 = some r) : PureEv Try.prog 26 [(Tables.av t_00), (.int .i64 vat_01)] (.int .i64 r) := by
  unfold windlassref19_Owner_s at h
  refine PureEv_end mixed fn26 (by simp) [] 6 ?_
  unfold fc26
  refine E_sq ?_
  refine E_reg ?_
  refine E_op0 (v' := (.cptr (Tables.av t_00).cells 0)) rfl rfl ?_
  refine E_mv (v' := (.int .i64 0)) rfl ?_
  refine E_nil ?_
  refine E_nx ?_
  refine E_as ?_
  refine E_sq ?_
  refine E_reg ?_
  refine E_op0 (v' := (.cptr (Tables.av t_00).cells 0)) rfl rfl ?_
  refine E_op0 (v' := (.sl false 6 (List.map FuncRow.av t_00.Funcs))) rfl rfl ?_
  refine E_len rfl ?_
  refine E_mv (v' := (.int .i64 0)) rfl ?_
  refine E_nil ?_
  refine E_nx ?_
  refine E_sq ?_
  refine E_rniO (fun s_1 => [(1, (.int .i64 s_1)), (2, (.cptr (Tables.av t_00).cells 0))]) (fun s_1 => []) h (by decide) (by decide) (fun _ => ⟨rfl, rfl, rfl, rfl⟩) (wk_aw ⟨(.refl _), (.refl _), (.refl _), (.refl _), trivial⟩) (fun i_2 s_1 c hlt h => ?_) (fun s_1 fr' S' h hw => ?_)
  · refine E_sq ?_
    refine E_reg ?_
    refine E_mv (v' := (.int .i64 (i_2 : Int))) rfl ?_
    refine E_mv (v' := (.int .i64 (i_2 : Int))) rfl ?_
    refine E_nil ?_
    refine E_nx ?_
    refine E_jp h (fun s_4 => [(1, (.int .i64 s_1)), (2, (.cptr (Tables.av t_00).cells 0)), (5, (.int .i64 (i_2 : Int))), (8, (.int .i64 (List.length t_00.Funcs : Int))), (9, (.int .i64 (i_2 : Int))), (29, (.bool s_4))]) (fun s_4 => []) (fun k_3 h => ?_) (fun s_4 h => ?_)
    · refine E_reg ?_
      refine E_op0 (v' := (.cptr (Tables.av t_00).cells 0)) rfl rfl ?_
      refine E_op0 (v' := (.sl false 6 (List.map FuncRow.av t_00.Funcs))) rfl rfl ?_
      refine E_mv (v' := (.int .i64 (i_2 : Int))) rfl ?_
      obtain ⟨y_5, hy_5, h⟩ := bd_some h
      refine E_iadF rfl rfl hy_5 ?_
      refine E_op0 (v' := (.cptr (FuncRow.av y_5).cells 0)) rfl rfl ?_
      refine E_op0 (v' := (.int .i64 y_5.Start)) rfl rfl ?_
      refine E_mv (v' := (.int .i64 s_1)) rfl ?_
      refine E_op0 (v' := (.bool (decide (y_5.Start < s_1)))) rfl rfl ?_
      refine E_mv (v' := (.bool (decide (y_5.Start < s_1)))) rfl ?_
      refine E_gsT (b := (decide (y_5.Start < s_1))) rfl rfl rfl (fun hb => ?_) (fun hb => ?_)
      · rw [ite_t hb] at h
        refine E_mv (v' := (.int .i64 s_1)) rfl ?_
        refine E_gh rfl ?_
        refine E_op0 (v' := (.cptr (Tables.av t_00).cells 0)) rfl rfl ?_
        refine E_gh rfl ?_
        refine E_op0 (v' := (.sl false 6 (List.map FuncRow.av t_00.Funcs))) rfl rfl ?_
        refine E_gh rfl ?_
        refine E_mv (v' := (.int .i64 (i_2 : Int))) rfl ?_
        refine E_gh rfl ?_
        refine E_iadF rfl rfl hy_5 ?_
        refine E_gh rfl ?_
        refine E_op0 (v' := (.cptr (FuncRow.av y_5).cells 1)) rfl rfl ?_
        refine E_gh rfl ?_
        refine E_op0 (v' := (.int .i64 y_5.Stop)) rfl rfl ?_
        refine E_gh rfl ?_
        refine E_op0 (v' := (.bool (decide (s_1 ≤ y_5.Stop)))) rfl rfl ?_
        refine E_pt rfl rfl ?_
        refine E_nil ?_
        exact E_jx _ h (wk_aw ⟨(.refl _), (.refl _), (.refl _), (.refl _), (.refl _), (.refl _), trivial⟩)
      · rw [ite_f hb] at h
        refine E_gm rfl ?_
        refine E_gm rfl ?_
        refine E_gm rfl ?_
        refine E_gm rfl ?_
        refine E_gm rfl ?_
        refine E_gm rfl ?_
        refine E_gm rfl ?_
        refine E_pf rfl rfl ?_
        refine E_nil ?_
        exact E_jx _ h (wk_aw ⟨(.refl _), (.refl _), (.refl _), (.refl _), (.refl _), (.refl _), trivial⟩)
    · refine E_cs (t := s_4) rfl (fun hb => ?_) (fun hb => ?_)
      · rw [ite_t hb] at h
        refine E_sq ?_
        refine E_reg ?_
        refine E_mv (v' := (.int .i64 (i_2 : Int))) rfl ?_
        refine E_mv (v' := (.int .i64 (i_2 : Int))) rfl ?_
        refine E_nil ?_
        refine E_nx ?_
        refine E_ret ?_
        cases h
        refine L_rrO rfl (fun h => ?_)
        refine E_thr ?_
        cases h
        exact ⟨trivial, _, rfl, (fz_b rfl (.refl _))⟩
      · rw [ite_f hb] at h
        refine E_skip ?_
        cases h
        exact L_nn rfl (wk_aw ⟨(.refl _), (.refl _), (.refl _), (.refl _), trivial⟩)
  · refine X_nx hw ?_
    refine E_sq ?_
    refine E_reg ?_
    refine E_mv (v' := (.int .i64 (-1))) rfl ?_
    refine E_nil ?_
    refine E_nx ?_
    refine E_ret ?_
    cases h
    exact ⟨trivial, _, rfl, (fz_b rfl (.refl _))⟩
/- windlass/windlassref19.Right -/
def fc11 : FC := (.seq (.reg [⟨(some 1), none, .op (.box (.t 0))⟩,
  ⟨(some 2), none, .op (.mv (.v (.bool false)))⟩] [])
  (.seq (.seq (.reg [⟨(some 14), none, .op (.fad 0 (.t 1))⟩,
  ⟨(some 15), none, .op (.load none (.t 14))⟩,
  ⟨(some 16), none, .op (.len .sl (.t 15))⟩,
  ⟨(some 17), none, .op (.bin .none .gtr (.t 16) (.v (.int .i64 16)))⟩,
  ⟨(some 18), none, .op (.mv (.t 17))⟩,
  ⟨(some 19), some (18, false), .op (.fad 1 (.t 1))⟩,
  ⟨(some 20), some (18, false), .op (.load none (.t 19))⟩,
  ⟨(some 21), some (18, false), .op (.len .sl (.t 20))⟩,
  ⟨(some 22), some (18, false), .op (.bin .none .gtr (.t 21) (.v (.int .i64 65536)))⟩,
  ⟨(some 23), none, .op (.pick (.t 18) (.v (.bool true)) (.t 22))⟩] [])
  (.cond (.t 23)
  (.seq (.reg [⟨(some 2), none, .op (.mv (.v (.bool false)))⟩] [])
  .ret)
  .skip))
  (.seq (.seq (.reg [⟨(some 24), none, .op (.fad 0 (.t 1))⟩,
  ⟨(some 25), none, .op (.load none (.t 24))⟩,
  ⟨(some 26), none, .op (.len .sl (.t 25))⟩,
  ⟨(some 27), none, .op (.mv (.v (.int .i64 0)))⟩] [])
  (.block 0 (.loop (.seq (.reg [⟨(some 28), none, .op (.bin .none .lss (.t 27) (.t 26))⟩] [])
  (.seq (.cond (.t 28)
  .skip
  (.exit 0))
  (.seq (.block 1 (.seq (.reg [⟨(some 29), none, .op (.mv (.t 27))⟩,
  ⟨(some 30), none, .op (.iad none (some 6) (.t 25) (.t 27))⟩,
  ⟨(some 31), none, .op (.load (some 6) (.t 30))⟩,
  ⟨(some 4), none, .op (.new [(.int .i64 0), (.int .i64 0), (.int .i64 0), .nils, .nils, (.int .i64 0)])⟩,
  ⟨(some 3), none, .op (.mv (.t 29))⟩,
  ⟨none, none, .op (.store 6 (.t 4) (.t 31))⟩] [])
  (.seq (.seq (.reg [⟨(some 32), none, .op (.fad 0 (.t 4))⟩,
  ⟨(some 33), none, .op (.load none (.t 32))⟩,
  ⟨(some 34), none, .op (.bin .none .lss (.t 33) (.v (.int .i64 0)))⟩,
  ⟨(some 35), none, .op (.mv (.t 34))⟩,
  ⟨(some 36), some (35, false), .op (.fad 1 (.t 4))⟩,
  ⟨(some 37), some (35, false), .op (.load none (.t 36))⟩,
  ⟨(some 38), some (35, false), .op (.fad 0 (.t 4))⟩,
  ⟨(some 39), some (35, false), .op (.load none (.t 38))⟩,
  ⟨(some 40), some (35, false), .op (.bin .none .leq (.t 37) (.t 39))⟩,
  ⟨(some 41), none, .op (.pick (.t 35) (.v (.bool true)) (.t 40))⟩,
  ⟨(some 42), none, .op (.mv (.t 41))⟩,
  ⟨(some 43), some (42, false), .op (.fad 1 (.t 4))⟩,
  ⟨(some 44), some (42, false), .op (.load none (.t 43))⟩,
  ⟨(some 45), some (42, false), .op (.bin .none .gtr (.t 44) (.v (.int .i64 1048576)))⟩,
  ⟨(some 46), none, .op (.pick (.t 42) (.v (.bool true)) (.t 45))⟩,
  ⟨(some 47), none, .op (.mv (.t 46))⟩,
  ⟨(some 48), some (47, false), .op (.mv (.t 3))⟩,
  ⟨(some 49), some (47, false), .op (.bin .none .gtr (.t 48) (.v (.int .i64 0)))⟩,
  ⟨(some 50), some (47, false), .op (.mv (.t 49))⟩,
  ⟨(some 51), some (50, true), .op (.fad 0 (.t 4))⟩,
  ⟨(some 52), some (50, true), .op (.load none (.t 51))⟩,
  ⟨(some 53), some (50, true), .op (.fad 0 (.t 1))⟩,
  ⟨(some 54), some (50, true), .op (.load none (.t 53))⟩,
  ⟨(some 55), some (50, true), .op (.mv (.t 3))⟩,
  ⟨(some 56), some (50, true), .op (.bin .none .sub (.t 55) (.v (.int .i64 1)))⟩,
  ⟨(some 57), some (50, true), .op (.iad none (some 6) (.t 54) (.t 56))⟩,
  ⟨(some 58), some (50, true), .op (.fad 1 (.t 57))⟩,
  ⟨(some 59), some (50, true), .op (.load none (.t 58))⟩,
  ⟨(some 60), some (50, true), .op (.bin .none .lss (.t 52) (.t 59))⟩,
  ⟨(some 61), some (47, false), .op (.pick (.t 50) (.t 60) (.v (.bool false)))⟩,
  ⟨(some 62), none, .op (.pick (.t 47) (.v (.bool true)) (.t 61))⟩] [])
  (.cond (.t 62)
  (.seq (.reg [⟨(some 2), none, .op (.mv (.v (.bool false)))⟩] [])
  .ret)
  .skip))
  (.seq (.seq (.reg [⟨(some 63), none, .op (.fad 2 (.t 4))⟩,
  ⟨(some 64), none, .op (.load none (.t 63))⟩,
  ⟨(some 65), none, .op (.bin .none .lss (.t 64) (.v (.int .i64 0)))⟩,
  ⟨(some 66), none, .op (.mv (.t 65))⟩,
  ⟨(some 67), some (66, false), .op (.fad 2 (.t 4))⟩,
  ⟨(some 68), some (66, false), .op (.load none (.t 67))⟩,
  ⟨(some 69), some (66, false), .op (.bin .none .gtr (.t 68) (.v (.int .i64 65536)))⟩,
  ⟨(some 70), none, .op (.pick (.t 66) (.v (.bool true)) (.t 69))⟩,
  ⟨(some 71), none, .op (.mv (.t 70))⟩,
  ⟨(some 72), some (71, false), .op (.fad 2 (.t 4))⟩,
  ⟨(some 73), some (71, false), .op (.load none (.t 72))⟩,
  ⟨(some 74), some (71, false), .op (.bin .none .rem (.t 73) (.v (.int .i64 8)))⟩,
  ⟨(some 75), some (71, false), .op (.bin .none .neq (.t 74) (.v (.int .i64 0)))⟩,
  ⟨(some 76), none, .op (.pick (.t 71) (.v (.bool true)) (.t 75))⟩,
  ⟨(some 77), none, .op (.mv (.t 76))⟩,
  ⟨(some 78), some (77, false), .op (.fad 3 (.t 4))⟩,
  ⟨(some 79), some (77, false), .op (.load none (.t 78))⟩,
  ⟨(some 80), some (77, false), .op (.len .sl (.t 79))⟩,
  ⟨(some 81), some (77, false), .op (.bin .none .gtr (.t 80) (.v (.int .i64 4)))⟩,
  ⟨(some 82), none, .op (.pick (.t 77) (.v (.bool true)) (.t 81))⟩] [])
  (.cond (.t 82)
  (.seq (.reg [⟨(some 2), none, .op (.mv (.v (.bool false)))⟩] [])
  .ret)
  .skip))
  (.seq (.seq (.reg [⟨(some 83), none, .op (.fad 3 (.t 4))⟩,
  ⟨(some 84), none, .op (.load none (.t 83))⟩,
  ⟨(some 85), none, .op (.len .sl (.t 84))⟩,
  ⟨(some 86), none, .op (.mv (.v (.int .i64 0)))⟩] [])
  (.block 2 (.loop (.seq (.reg [⟨(some 87), none, .op (.bin .none .lss (.t 86) (.t 85))⟩] [])
  (.seq (.cond (.t 87)
  .skip
  (.exit 2))
  (.seq (.block 3 (.seq (.reg [⟨(some 88), none, .op (.iad none none (.t 84) (.t 86))⟩,
  ⟨(some 89), none, .op (.load none (.t 88))⟩,
  ⟨(some 6), none, .op (.mv (.t 89))⟩] [])
  (.seq (.reg [⟨(some 90), none, .op (.mv (.t 6))⟩,
  ⟨(some 91), none, .op (.bin .none .gtr (.t 90) (.v (.int .u8 1)))⟩] [])
  (.cond (.t 91)
  (.seq (.reg [⟨(some 2), none, .op (.mv (.v (.bool false)))⟩] [])
  .ret)
  .skip))))
  (.reg [⟨(some 92), none, .op (.bin .none .add (.t 86) (.v (.int .i64 1)))⟩,
  ⟨(some 86), none, .op (.mv (.t 92))⟩] [])))))))
  (.seq (.seq (.reg [⟨(some 93), none, .op (.fad 4 (.t 4))⟩,
  ⟨(some 94), none, .op (.load none (.t 93))⟩,
  ⟨(some 95), none, .op (.len .sl (.t 94))⟩,
  ⟨(some 96), none, .op (.mv (.v (.int .i64 0)))⟩] [])
  (.block 4 (.loop (.seq (.reg [⟨(some 97), none, .op (.bin .none .lss (.t 96) (.t 95))⟩] [])
  (.seq (.cond (.t 97)
  .skip
  (.exit 4))
  (.seq (.block 5 (.seq (.reg [⟨(some 98), none, .op (.mv (.t 96))⟩,
  ⟨(some 99), none, .op (.iad none (some 2) (.t 94) (.t 96))⟩,
  ⟨(some 100), none, .op (.load (some 2) (.t 99))⟩,
  ⟨(some 8), none, .op (.new [(.int .i64 0), (.int .i64 0)])⟩,
  ⟨(some 7), none, .op (.mv (.t 98))⟩,
  ⟨none, none, .op (.store 2 (.t 8) (.t 100))⟩] [])
  (.seq (.reg [⟨(some 101), none, .op (.fad 0 (.t 8))⟩,
  ⟨(some 102), none, .op (.load none (.t 101))⟩,
  ⟨(some 103), none, .op (.bin .none .lss (.t 102) (.v (.int .i64 6)))⟩,
  ⟨(some 104), none, .op (.mv (.t 103))⟩,
  ⟨(some 105), some (104, false), .op (.fad 0 (.t 8))⟩,
  ⟨(some 106), some (104, false), .op (.load none (.t 105))⟩,
  ⟨(some 107), some (104, false), .op (.bin .none .gtr (.t 106) (.v (.int .i64 11)))⟩,
  ⟨(some 108), none, .op (.pick (.t 104) (.v (.bool true)) (.t 107))⟩,
  ⟨(some 109), none, .op (.mv (.t 108))⟩,
  ⟨(some 110), some (109, false), .op (.mv (.t 7))⟩,
  ⟨(some 111), some (109, false), .op (.bin .none .gtr (.t 110) (.v (.int .i64 0)))⟩,
  ⟨(some 112), some (109, false), .op (.mv (.t 111))⟩,
  ⟨(some 113), some (112, true), .op (.fad 0 (.t 8))⟩,
  ⟨(some 114), some (112, true), .op (.load none (.t 113))⟩,
  ⟨(some 115), some (112, true), .op (.fad 4 (.t 4))⟩,
  ⟨(some 116), some (112, true), .op (.load none (.t 115))⟩,
  ⟨(some 117), some (112, true), .op (.mv (.t 7))⟩,
  ⟨(some 118), some (112, true), .op (.bin .none .sub (.t 117) (.v (.int .i64 1)))⟩,
  ⟨(some 119), some (112, true), .op (.iad none (some 2) (.t 116) (.t 118))⟩,
  ⟨(some 120), some (112, true), .op (.fad 0 (.t 119))⟩,
  ⟨(some 121), some (112, true), .op (.load none (.t 120))⟩,
  ⟨(some 122), some (112, true), .op (.bin .none .leq (.t 114) (.t 121))⟩,
  ⟨(some 123), some (109, false), .op (.pick (.t 112) (.t 122) (.v (.bool false)))⟩,
  ⟨(some 124), none, .op (.pick (.t 109) (.v (.bool true)) (.t 123))⟩,
  ⟨(some 125), none, .op (.mv (.t 124))⟩,
  ⟨(some 126), some (125, false), .op (.fad 1 (.t 8))⟩,
  ⟨(some 127), some (125, false), .op (.load none (.t 126))⟩,
  ⟨(some 128), some (125, false), .op (.fad 2 (.t 4))⟩,
  ⟨(some 129), some (125, false), .op (.load none (.t 128))⟩,
  ⟨(some 130), some (125, false), .call 25 [(.t 127), (.t 129)]⟩,
  ⟨(some 131), some (125, false), .op (.un .not (.t 130))⟩,
  ⟨(some 132), none, .op (.pick (.t 125) (.v (.bool true)) (.t 131))⟩] [])
  (.cond (.t 132)
  (.seq (.reg [⟨(some 2), none, .op (.mv (.v (.bool false)))⟩] [])
  .ret)
  .skip))))
  (.reg [⟨(some 133), none, .op (.bin .none .add (.t 96) (.v (.int .i64 1)))⟩,
  ⟨(some 96), none, .op (.mv (.t 133))⟩] [])))))))
  (.seq (.reg [⟨(some 134), none, .op (.fad 5 (.t 4))⟩,
  ⟨(some 135), none, .op (.load none (.t 134))⟩,
  ⟨(some 136), none, .op (.bin .none .neq (.t 135) (.v (.int .i64 (-1))))⟩,
  ⟨(some 137), none, .op (.mv (.t 136))⟩,
  ⟨(some 138), some (137, true), .op (.fad 5 (.t 4))⟩,
  ⟨(some 139), some (137, true), .op (.load none (.t 138))⟩,
  ⟨(some 140), some (137, true), .op (.fad 0 (.t 4))⟩,
  ⟨(some 141), some (137, true), .op (.load none (.t 140))⟩,
  ⟨(some 142), some (137, true), .op (.bin .none .lss (.t 139) (.t 141))⟩,
  ⟨(some 143), some (137, true), .op (.mv (.t 142))⟩,
  ⟨(some 144), some (143, false), .op (.fad 5 (.t 4))⟩,
  ⟨(some 145), some (143, false), .op (.load none (.t 144))⟩,
  ⟨(some 146), some (143, false), .op (.fad 1 (.t 4))⟩,
  ⟨(some 147), some (143, false), .op (.load none (.t 146))⟩,
  ⟨(some 148), some (143, false), .op (.bin .none .sub (.t 147) (.v (.int .i64 1)))⟩,
  ⟨(some 149), some (143, false), .op (.bin .none .gtr (.t 145) (.t 148))⟩,
  ⟨(some 150), some (137, true), .op (.pick (.t 143) (.v (.bool true)) (.t 149))⟩,
  ⟨(some 151), none, .op (.pick (.t 137) (.t 150) (.v (.bool false)))⟩] [])
  (.cond (.t 151)
  (.seq (.reg [⟨(some 2), none, .op (.mv (.v (.bool false)))⟩] [])
  .ret)
  .skip))))))))
  (.reg [⟨(some 152), none, .op (.bin .none .add (.t 27) (.v (.int .i64 1)))⟩,
  ⟨(some 27), none, .op (.mv (.t 152))⟩] [])))))))
  (.seq (.seq (.reg [⟨(some 153), none, .op (.fad 1 (.t 1))⟩,
  ⟨(some 154), none, .op (.load none (.t 153))⟩,
  ⟨(some 155), none, .op (.len .sl (.t 154))⟩,
  ⟨(some 156), none, .op (.mv (.v (.int .i64 0)))⟩] [])
  (.block 6 (.loop (.seq (.reg [⟨(some 157), none, .op (.bin .none .lss (.t 156) (.t 155))⟩] [])
  (.seq (.cond (.t 157)
  .skip
  (.exit 6))
  (.seq (.block 7 (.seq (.reg [⟨(some 158), none, .op (.mv (.t 156))⟩,
  ⟨(some 159), none, .op (.iad none (some 2) (.t 154) (.t 156))⟩,
  ⟨(some 160), none, .op (.load (some 2) (.t 159))⟩,
  ⟨(some 10), none, .op (.new [(.int .i64 0), .nils])⟩,
  ⟨(some 9), none, .op (.mv (.t 158))⟩,
  ⟨none, none, .op (.store 2 (.t 10) (.t 160))⟩] [])
  (.seq (.reg [⟨(some 161), none, .op (.load (some 2) (.t 1))⟩,
  ⟨(some 162), none, .op (.fad 0 (.t 10))⟩,
  ⟨(some 163), none, .op (.load none (.t 162))⟩,
  ⟨(some 164), none, .call 26 [(.t 161), (.t 163)]⟩,
  ⟨(some 11), none, .op (.mv (.t 164))⟩] [])
  (.seq (.seq (.reg [⟨(some 165), none, .op (.mv (.t 11))⟩,
  ⟨(some 166), none, .op (.bin .none .lss (.t 165) (.v (.int .i64 0)))⟩,
  ⟨(some 167), none, .op (.mv (.t 166))⟩,
  ⟨(some 168), some (167, false), .op (.mv (.t 9))⟩,
  ⟨(some 169), some (167, false), .op (.bin .none .gtr (.t 168) (.v (.int .i64 0)))⟩,
  ⟨(some 170), some (167, false), .op (.mv (.t 169))⟩,
  ⟨(some 171), some (170, true), .op (.fad 0 (.t 10))⟩,
  ⟨(some 172), some (170, true), .op (.load none (.t 171))⟩,
  ⟨(some 173), some (170, true), .op (.fad 1 (.t 1))⟩,
  ⟨(some 174), some (170, true), .op (.load none (.t 173))⟩,
  ⟨(some 175), some (170, true), .op (.mv (.t 9))⟩,
  ⟨(some 176), some (170, true), .op (.bin .none .sub (.t 175) (.v (.int .i64 1)))⟩,
  ⟨(some 177), some (170, true), .op (.iad none (some 2) (.t 174) (.t 176))⟩,
  ⟨(some 178), some (170, true), .op (.fad 0 (.t 177))⟩,
  ⟨(some 179), some (170, true), .op (.load none (.t 178))⟩,
  ⟨(some 180), some (170, true), .op (.bin .none .leq (.t 172) (.t 179))⟩,
  ⟨(some 181), some (167, false), .op (.pick (.t 170) (.t 180) (.v (.bool false)))⟩,
  ⟨(some 182), none, .op (.pick (.t 167) (.v (.bool true)) (.t 181))⟩] [])
  (.cond (.t 182)
  (.seq (.reg [⟨(some 2), none, .op (.mv (.v (.bool false)))⟩] [])
  .ret)
  .skip))
  (.seq (.reg [⟨(some 183), none, .op (.fad 1 (.t 10))⟩,
  ⟨(some 184), none, .op (.load none (.t 183))⟩,
  ⟨(some 185), none, .op (.len .sl (.t 184))⟩,
  ⟨(some 186), none, .op (.mv (.v (.int .i64 0)))⟩] [])
  (.block 8 (.loop (.seq (.reg [⟨(some 187), none, .op (.bin .none .lss (.t 186) (.t 185))⟩] [])
  (.seq (.cond (.t 187)
  .skip
  (.exit 8))
  (.seq (.block 9 (.seq (.reg [⟨(some 188), none, .op (.mv (.t 186))⟩,
  ⟨(some 189), none, .op (.iad none none (.t 184) (.t 186))⟩,
  ⟨(some 190), none, .op (.load none (.t 189))⟩,
  ⟨(some 12), none, .op (.mv (.t 188))⟩,
  ⟨(some 13), none, .op (.mv (.t 190))⟩] [])
  (.seq (.reg [⟨(some 191), none, .op (.mv (.t 13))⟩,
  ⟨(some 192), none, .op (.fad 0 (.t 1))⟩,
  ⟨(some 193), none, .op (.load none (.t 192))⟩,
  ⟨(some 194), none, .op (.mv (.t 11))⟩,
  ⟨(some 195), none, .op (.iad none (some 6) (.t 193) (.t 194))⟩,
  ⟨(some 196), none, .op (.fad 2 (.t 195))⟩,
  ⟨(some 197), none, .op (.load none (.t 196))⟩,
  ⟨(some 198), none, .call 25 [(.t 191), (.t 197)]⟩,
  ⟨(some 199), none, .op (.un .not (.t 198))⟩,
  ⟨(some 200), none, .op (.mv (.t 199))⟩,
  ⟨(some 201), some (200, false), .op (.mv (.t 12))⟩,
  ⟨(some 202), some (200, false), .op (.bin .none .gtr (.t 201) (.v (.int .i64 0)))⟩,
  ⟨(some 203), some (200, false), .op (.mv (.t 202))⟩,
  ⟨(some 204), some (203, true), .op (.mv (.t 13))⟩,
  ⟨(some 205), some (203, true), .op (.fad 1 (.t 10))⟩,
  ⟨(some 206), some (203, true), .op (.load none (.t 205))⟩,
  ⟨(some 207), some (203, true), .op (.mv (.t 12))⟩,
  ⟨(some 208), some (203, true), .op (.bin .none .sub (.t 207) (.v (.int .i64 1)))⟩,
  ⟨(some 209), some (203, true), .op (.iad none none (.t 206) (.t 208))⟩,
  ⟨(some 210), some (203, true), .op (.load none (.t 209))⟩,
  ⟨(some 211), some (203, true), .op (.bin .none .leq (.t 204) (.t 210))⟩,
  ⟨(some 212), some (200, false), .op (.pick (.t 203) (.t 211) (.v (.bool false)))⟩,
  ⟨(some 213), none, .op (.pick (.t 200) (.v (.bool true)) (.t 212))⟩] [])
  (.cond (.t 213)
  (.seq (.reg [⟨(some 2), none, .op (.mv (.v (.bool false)))⟩] [])
  .ret)
  .skip))))
  (.reg [⟨(some 214), none, .op (.bin .none .add (.t 186) (.v (.int .i64 1)))⟩,
  ⟨(some 186), none, .op (.mv (.t 214))⟩] [])))))))))))
  (.reg [⟨(some 215), none, .op (.bin .none .add (.t 156) (.v (.int .i64 1)))⟩,
  ⟨(some 156), none, .op (.mv (.t 215))⟩] [])))))))
  (.seq (.reg [⟨(some 2), none, .op (.mv (.v (.bool true)))⟩] [])
  .ret)))))
theorem fn11 : Fn3 Try.prog 11 216 [(2, none)] fc11 := ⟨_, _, Try.func11, rfl, rfl, rfl, by kernel_rfl⟩
end Go.Proofs.Ytnmicfhdpnabcaa
