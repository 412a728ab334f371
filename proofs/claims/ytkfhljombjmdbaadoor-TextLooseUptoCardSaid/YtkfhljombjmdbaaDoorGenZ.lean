/- What the functions compute, and that they do (printed by wip/gen/gen.py), part 2. -/
import Derived.Test.YtkfhljombjmdbaaDoorGenZa
namespace Go.Proofs.YtkfhljombjmdbaaDoor
open Go Go.Ab
set_option maxRecDepth 20000
set_option maxHeartbeats 2000000
set_option linter.unusedVariables false
set_option linter.unusedSimpArgs false
/- windlass/windlassref03.Bytes -/
def fc25 : FC := (.seq (.reg [⟨(some 1), none, .op (.box (.t 0))⟩,
  ⟨(some 2), none, .op (.mv (.v .nils))⟩,
  ⟨(some 3), none, .op (.mv (.v (.bool false)))⟩] [])
  (.seq (.seq (.reg [⟨(some 14), none, .op (.fad 0 (.t 1))⟩,
  ⟨(some 15), none, .op (.load none (.t 14))⟩,
  ⟨(some 16), none, .op (.len .sl (.t 15))⟩,
  ⟨(some 17), none, .op (.bin .none .lss (.t 16) (.v (.int .i64 1)))⟩,
  ⟨(some 18), none, .op (.mv (.t 17))⟩,
  ⟨(some 19), some (18, false), .op (.fad 0 (.t 1))⟩,
  ⟨(some 20), some (18, false), .op (.load none (.t 19))⟩,
  ⟨(some 21), some (18, false), .op (.len .sl (.t 20))⟩,
  ⟨(some 22), some (18, false), .op (.bin .none .gtr (.t 21) (.v (.int .i64 255)))⟩,
  ⟨(some 23), none, .op (.pick (.t 18) (.v (.bool true)) (.t 22))⟩] [])
  (.cond (.t 23)
  (.seq (.reg [⟨(some 2), none, .op (.mv (.v .nils))⟩,
  ⟨(some 3), none, .op (.mv (.v (.bool false)))⟩] [])
  .ret)
  .skip))
  (.seq (.reg [⟨(some 24), none, .op (.fad 0 (.t 1))⟩,
  ⟨(some 25), none, .op (.load none (.t 24))⟩,
  ⟨(some 26), none, .op (.len .sl (.t 25))⟩,
  ⟨(some 27), none, .op (.cint .u8 (.t 26))⟩,
  ⟨(some 28), none, .op (.bsl none [(.int .u8 0)] 3 [(0, 1, (.v (.int .u8 87))), (1, 1, (.v (.int .u8 76))), (2, 1, (.t 27))])⟩,
  ⟨(some 4), none, .op (.mv (.t 28))⟩] [])
  (.seq (.seq (.reg [⟨(some 29), none, .op (.fad 0 (.t 1))⟩,
  ⟨(some 30), none, .op (.load none (.t 29))⟩,
  ⟨(some 31), none, .op (.len .sl (.t 30))⟩,
  ⟨(some 32), none, .op (.mv (.v (.int .i64 0)))⟩] [])
  (.block 0 (.loop (.seq (.reg [⟨(some 33), none, .op (.bin .none .lss (.t 32) (.t 31))⟩] [])
  (.seq (.cond (.t 33)
  .skip
  (.exit 0))
  (.seq (.block 1 (.seq (.reg [⟨(some 34), none, .op (.iad none (some 5) (.t 30) (.t 32))⟩,
  ⟨(some 35), none, .op (.load (some 5) (.t 34))⟩,
  ⟨(some 6), none, .op (.new [(.int .i64 0), .nils, (.bool false), (.int .i64 0), .nils])⟩,
  ⟨none, none, .op (.store 5 (.t 6) (.t 35))⟩] [])
  (.seq (.seq (.reg [⟨(some 36), none, .op (.fad 0 (.t 6))⟩,
  ⟨(some 37), none, .op (.load none (.t 36))⟩,
  ⟨(some 38), none, .op (.bin .none .lss (.t 37) (.v (.int .i64 0)))⟩,
  ⟨(some 39), none, .op (.mv (.t 38))⟩,
  ⟨(some 40), some (39, false), .op (.fad 0 (.t 6))⟩,
  ⟨(some 41), some (39, false), .op (.load none (.t 40))⟩,
  ⟨(some 42), some (39, false), .op (.fad 1 (.t 6))⟩,
  ⟨(some 43), some (39, false), .op (.load none (.t 42))⟩,
  ⟨(some 44), some (39, false), .op (.len .sl (.t 43))⟩,
  ⟨(some 45), some (39, false), .op (.bin .none .gtr (.t 41) (.t 44))⟩,
  ⟨(some 46), none, .op (.pick (.t 39) (.v (.bool true)) (.t 45))⟩,
  ⟨(some 47), none, .op (.mv (.t 46))⟩,
  ⟨(some 48), some (47, false), .op (.fad 1 (.t 6))⟩,
  ⟨(some 49), some (47, false), .op (.load none (.t 48))⟩,
  ⟨(some 50), some (47, false), .op (.len .sl (.t 49))⟩,
  ⟨(some 51), some (47, false), .op (.bin .none .gtr (.t 50) (.v (.int .i64 255)))⟩,
  ⟨(some 52), none, .op (.pick (.t 47) (.v (.bool true)) (.t 51))⟩,
  ⟨(some 53), none, .op (.mv (.t 52))⟩,
  ⟨(some 54), some (53, false), .op (.fad 3 (.t 6))⟩,
  ⟨(some 55), some (53, false), .op (.load none (.t 54))⟩,
  ⟨(some 56), some (53, false), .op (.bin .none .lss (.t 55) (.v (.int .i64 (-1))))⟩,
  ⟨(some 57), none, .op (.pick (.t 53) (.v (.bool true)) (.t 56))⟩,
  ⟨(some 58), none, .op (.mv (.t 57))⟩,
  ⟨(some 59), some (58, false), .op (.fad 3 (.t 6))⟩,
  ⟨(some 60), some (58, false), .op (.load none (.t 59))⟩,
  ⟨(some 61), some (58, false), .op (.bin .none .gtr (.t 60) (.v (.int .i64 254)))⟩,
  ⟨(some 62), none, .op (.pick (.t 58) (.v (.bool true)) (.t 61))⟩,
  ⟨(some 63), none, .op (.mv (.t 62))⟩,
  ⟨(some 64), some (63, false), .op (.fad 4 (.t 6))⟩,
  ⟨(some 65), some (63, false), .op (.load none (.t 64))⟩,
  ⟨(some 66), some (63, false), .op (.len .sl (.t 65))⟩,
  ⟨(some 67), some (63, false), .op (.bin .none .gtr (.t 66) (.v (.int .i64 65535)))⟩,
  ⟨(some 68), none, .op (.pick (.t 63) (.v (.bool true)) (.t 67))⟩] [])
  (.cond (.t 68)
  (.seq (.reg [⟨(some 2), none, .op (.mv (.v .nils))⟩,
  ⟨(some 3), none, .op (.mv (.v (.bool false)))⟩] [])
  .ret)
  .skip))
  (.seq (.reg [⟨(some 69), none, .op (.mv (.t 4))⟩,
  ⟨(some 70), none, .op (.fad 0 (.t 6))⟩,
  ⟨(some 71), none, .op (.load none (.t 70))⟩,
  ⟨(some 72), none, .op (.cint .u8 (.t 71))⟩,
  ⟨(some 73), none, .op (.fad 1 (.t 6))⟩,
  ⟨(some 74), none, .op (.load none (.t 73))⟩,
  ⟨(some 75), none, .op (.len .sl (.t 74))⟩,
  ⟨(some 76), none, .op (.cint .u8 (.t 75))⟩,
  ⟨(some 77), none, .op (.bsl none [(.int .u8 0)] 2 [(0, 1, (.t 72)), (1, 1, (.t 76))])⟩,
  ⟨(some 78), none, .op (.app none 1 (.t 69) (.t 77))⟩,
  ⟨(some 4), none, .op (.mv (.t 78))⟩] [])
  (.seq (.seq (.reg [⟨(some 79), none, .op (.fad 1 (.t 6))⟩,
  ⟨(some 80), none, .op (.load none (.t 79))⟩,
  ⟨(some 81), none, .op (.len .sl (.t 80))⟩,
  ⟨(some 82), none, .op (.mv (.v (.int .i64 0)))⟩] [])
  (.block 2 (.loop (.seq (.reg [⟨(some 83), none, .op (.bin .none .lss (.t 82) (.t 81))⟩] [])
  (.seq (.cond (.t 83)
  .skip
  (.exit 2))
  (.seq (.block 3 (.seq (.reg [⟨(some 84), none, .op (.iad none none (.t 80) (.t 82))⟩,
  ⟨(some 85), none, .op (.load none (.t 84))⟩,
  ⟨(some 8), none, .op (.mv (.t 85))⟩] [])
  (.seq (.seq (.reg [⟨(some 86), none, .op (.mv (.t 8))⟩,
  ⟨(some 87), none, .op (.bin .none .neq (.t 86) (.v (.int .u8 0)))⟩,
  ⟨(some 88), none, .op (.mv (.t 87))⟩,
  ⟨(some 89), some (88, true), .op (.mv (.t 8))⟩,
  ⟨(some 90), some (88, true), .op (.bin .none .neq (.t 89) (.v (.int .u8 1)))⟩,
  ⟨(some 91), none, .op (.pick (.t 88) (.t 90) (.v (.bool false)))⟩] [])
  (.cond (.t 91)
  (.seq (.reg [⟨(some 2), none, .op (.mv (.v .nils))⟩,
  ⟨(some 3), none, .op (.mv (.v (.bool false)))⟩] [])
  .ret)
  .skip))
  (.reg [⟨(some 92), none, .op (.mv (.t 4))⟩,
  ⟨(some 93), none, .op (.mv (.t 8))⟩,
  ⟨(some 94), none, .op (.bsl none [(.int .u8 0)] 1 [(0, 1, (.t 93))])⟩,
  ⟨(some 95), none, .op (.app none 1 (.t 92) (.t 94))⟩,
  ⟨(some 4), none, .op (.mv (.t 95))⟩] []))))
  (.reg [⟨(some 96), none, .op (.bin .none .add (.t 82) (.v (.int .i64 1)))⟩,
  ⟨(some 82), none, .op (.mv (.t 96))⟩] [])))))))
  (.seq (.reg [⟨(some 9), none, .op (.mv (.v (.int .u8 0)))⟩] [])
  (.seq (.seq (.reg [⟨(some 97), none, .op (.fad 2 (.t 6))⟩,
  ⟨(some 98), none, .op (.load none (.t 97))⟩] [])
  (.cond (.t 98)
  (.reg [⟨(some 9), none, .op (.mv (.v (.int .u8 1)))⟩] [])
  .skip))
  (.seq (.reg [⟨(some 10), none, .op (.mv (.v (.int .u8 255)))⟩] [])
  (.seq (.seq (.reg [⟨(some 99), none, .op (.fad 3 (.t 6))⟩,
  ⟨(some 100), none, .op (.load none (.t 99))⟩,
  ⟨(some 101), none, .op (.bin .none .geq (.t 100) (.v (.int .i64 0)))⟩] [])
  (.cond (.t 101)
  (.reg [⟨(some 102), none, .op (.fad 3 (.t 6))⟩,
  ⟨(some 103), none, .op (.load none (.t 102))⟩,
  ⟨(some 104), none, .op (.cint .u8 (.t 103))⟩,
  ⟨(some 10), none, .op (.mv (.t 104))⟩] [])
  .skip))
  (.seq (.reg [⟨(some 105), none, .op (.mv (.t 4))⟩,
  ⟨(some 106), none, .op (.mv (.t 9))⟩,
  ⟨(some 107), none, .op (.mv (.t 10))⟩,
  ⟨(some 108), none, .op (.bsl none [(.int .u8 0)] 2 [(0, 1, (.t 106)), (1, 1, (.t 107))])⟩,
  ⟨(some 109), none, .op (.app none 1 (.t 105) (.t 108))⟩,
  ⟨(some 4), none, .op (.mv (.t 109))⟩] [])
  (.seq (.reg [⟨(some 110), none, .op (.mv (.t 4))⟩,
  ⟨(some 111), none, .op (.fad 4 (.t 6))⟩,
  ⟨(some 112), none, .op (.load none (.t 111))⟩,
  ⟨(some 113), none, .op (.len .sl (.t 112))⟩,
  ⟨(some 114), none, .op (.cint .u64 (.t 113))⟩,
  ⟨(some 115), none, .call 67 [(.t 114), (.v (.int .i64 2))]⟩,
  ⟨(some 116), none, .op (.app none 1 (.t 110) (.t 115))⟩,
  ⟨(some 4), none, .op (.mv (.t 116))⟩] [])
  (.seq (.reg [⟨(some 117), none, .op (.fad 4 (.t 6))⟩,
  ⟨(some 118), none, .op (.load none (.t 117))⟩,
  ⟨(some 119), none, .op (.len .sl (.t 118))⟩,
  ⟨(some 120), none, .op (.mv (.v (.int .i64 0)))⟩] [])
  (.block 4 (.loop (.seq (.reg [⟨(some 121), none, .op (.bin .none .lss (.t 120) (.t 119))⟩] [])
  (.seq (.cond (.t 121)
  .skip
  (.exit 4))
  (.seq (.block 5 (.seq (.reg [⟨(some 122), none, .op (.iad none (some 3) (.t 118) (.t 120))⟩,
  ⟨(some 123), none, .op (.load (some 3) (.t 122))⟩,
  ⟨(some 12), none, .op (.new [(.int .u8 0), (.int .i64 0), (.int .u64 0)])⟩,
  ⟨none, none, .op (.store 3 (.t 12) (.t 123))⟩] [])
  (.seq (.seq (.reg [⟨(some 124), none, .op (.load (some 3) (.t 12))⟩,
  ⟨(some 125), none, .call 68 [(.t 124)]⟩,
  ⟨(some 126), none, .op (.un .not (.t 125))⟩] [])
  (.cond (.t 126)
  (.seq (.reg [⟨(some 2), none, .op (.mv (.v .nils))⟩,
  ⟨(some 3), none, .op (.mv (.v (.bool false)))⟩] [])
  .ret)
  .skip))
  (.seq (.reg [⟨(some 127), none, .op (.mv (.t 4))⟩,
  ⟨(some 128), none, .op (.fad 0 (.t 12))⟩,
  ⟨(some 129), none, .op (.load none (.t 128))⟩,
  ⟨(some 130), none, .op (.bsl none [(.int .u8 0)] 1 [(0, 1, (.t 129))])⟩,
  ⟨(some 131), none, .op (.app none 1 (.t 127) (.t 130))⟩,
  ⟨(some 4), none, .op (.mv (.t 131))⟩] [])
  (.seq (.reg [⟨(some 132), none, .op (.fad 0 (.t 12))⟩,
  ⟨(some 133), none, .op (.load none (.t 132))⟩,
  ⟨(some 134), none, .call 69 [(.t 133)]⟩,
  ⟨(some 13), none, .op (.mv (.t 134))⟩] [])
  (.seq (.reg [⟨(some 135), none, .op (.mv (.t 13))⟩,
  ⟨(some 136), none, .op (.bin .none .eql (.t 135) (.v (.int .i64 8)))⟩] [])
  (.cond (.t 136)
  (.reg [⟨(some 137), none, .op (.mv (.t 4))⟩,
  ⟨(some 138), none, .op (.fad 2 (.t 12))⟩,
  ⟨(some 139), none, .op (.load none (.t 138))⟩,
  ⟨(some 140), none, .call 67 [(.t 139), (.v (.int .i64 8))]⟩,
  ⟨(some 141), none, .op (.app none 1 (.t 137) (.t 140))⟩,
  ⟨(some 4), none, .op (.mv (.t 141))⟩] [])
  (.reg [⟨(some 142), none, .op (.mv (.t 4))⟩,
  ⟨(some 143), none, .op (.fad 1 (.t 12))⟩,
  ⟨(some 144), none, .op (.load none (.t 143))⟩,
  ⟨(some 145), none, .op (.cint .u64 (.t 144))⟩,
  ⟨(some 146), none, .op (.mv (.t 13))⟩,
  ⟨(some 147), none, .call 67 [(.t 145), (.t 146)]⟩,
  ⟨(some 148), none, .op (.app none 1 (.t 142) (.t 147))⟩,
  ⟨(some 4), none, .op (.mv (.t 148))⟩] []))))))))
  (.reg [⟨(some 149), none, .op (.bin .none .add (.t 120) (.v (.int .i64 1)))⟩,
  ⟨(some 120), none, .op (.mv (.t 149))⟩] []))))))))))))))))))
  (.reg [⟨(some 150), none, .op (.bin .none .add (.t 32) (.v (.int .i64 1)))⟩,
  ⟨(some 32), none, .op (.mv (.t 150))⟩] [])))))))
  (.seq (.reg [⟨(some 151), none, .op (.mv (.t 4))⟩,
  ⟨(some 2), none, .op (.mv (.t 151))⟩,
  ⟨(some 3), none, .op (.mv (.v (.bool true)))⟩] [])
  .ret)))))
theorem fn25 : Fn3 Tryd.prog 25 152 [(2, none), (3, none)] fc25 := ⟨_, _, Tryd.func25, rfl, rfl, rfl, by kernel_rfl⟩
def windlassref03_Bytes_s (fuel : Nat) (p_00 : Program) : Option ((List Int) × Bool) :=
  (jp (fun (s_2 : Bool) => (if s_2 then (some ([], false)) else ((rng (fun (i_4 : Nat) (f_5 : Func) (s_3 : (List Int)) => ((jp (fun (s_8 : Bool) => (if s_8 then (some (.ret (some ([], false)))) else ((appL 1 s_3 [(U8 f_5.Params), (U8 (List.length f_5.Locals : Int))]).bind fun l_9 => ((rng (fun (i_11 : Nat) (k_12 : Int) (s_10 : (List Int)) => ((jp (fun (s_15 : Bool) => (if s_15 then (some (.ret (some (.ret (some ([], false)))))) else ((appL 1 s_10 [k_12]).bind fun l_16 => (some (.nxt l_16))))) (fun k_14 => (if (k_12 != 0) then (k_14 (k_12 != 1)) else (k_14 false)))) : Option (Stp (List Int) (Option (Stp (List Int) (Option ((List Int) × Bool))))))) f_5.Locals l_9).bind (oc (fun (s_10 : (List Int)) => (jp (fun (s_18 : Int) => (jp (fun (s_20 : Int) => ((appL 1 s_10 [s_18, s_20]).bind fun l_21 => ((windlassref03_low_s fuel (U64 (List.length f_5.Code : Int)) 2).bind fun low_22 => ((appL 1 l_21 low_22).bind fun l_23 => ((rng (fun (i_25 : Nat) (i_26 : Instr) (s_24 : (List Int)) => (((windlassref03_Says_s i_26).bind fun say_28 => (if (!say_28) then (some (.ret (some (.ret (some ([], false)))))) else ((appL 1 s_24 [i_26.Op]).bind fun l_29 => ((windlassref03_Width_s i_26.Op).bind fun wid_30 => (if (wid_30 == 8) then ((windlassref03_low_s fuel i_26.Imm 8).bind fun low_31 => ((appL 1 l_29 low_31).bind fun l_32 => (some (.nxt l_32)))) else ((windlassref03_low_s fuel (U64 i_26.Arg) wid_30).bind fun low_33 => ((appL 1 l_29 low_33).bind fun l_34 => (some (.nxt l_34))))))))) : Option (Stp (List Int) (Option (Stp (List Int) (Option ((List Int) × Bool))))))) f_5.Code l_23).bind (oc (fun (s_24 : (List Int)) => (some (.nxt s_24))))))))) (fun k_19 => (if (decide (f_5.Keep ≥ 0)) then (k_19 (U8 f_5.Keep)) else (k_19 255))))) (fun k_17 => (if f_5.Result then (k_17 1) else (k_17 0)))))))))) (fun k_7 => (if (decide (f_5.Params < 0)) then (k_7 true) else (if (decide (f_5.Params > (List.length f_5.Locals : Int))) then (k_7 true) else (if (decide ((List.length f_5.Locals : Int) > 255)) then (k_7 true) else (if (decide (f_5.Keep < (-1))) then (k_7 true) else (if (decide (f_5.Keep > 254)) then (k_7 true) else (k_7 (decide ((List.length f_5.Code : Int) > 65535)))))))))) : Option (Stp (List Int) (Option ((List Int) × Bool))))) p_00.Funcs ([87, 76, (U8 (List.length p_00.Funcs : Int))] : List Int)).bind (oc (fun (s_3 : (List Int)) => (some (s_3, true))))))) (fun k_1 => (if (decide ((List.length p_00.Funcs : Int) < 1)) then (k_1 true) else (k_1 (decide ((List.length p_00.Funcs : Int) > 255))))))
theorem windlassref03_Bytes_ev {fuel : Nat} {p_00 : Program} {r : ((List Int) × Bool)} (h : windlassref03_Bytes_s fuel p_00 = some r) : PureEv Tryd.prog 25 [(Program.av p_00)] (.tup [(.sl false 1 (List.map (avI .u8) r.1)), (.bool r.2)]) := by
  unfold windlassref03_Bytes_s at h
  refine PureEv_end mixed fn25 (by simp) [6, 12, 28] 6 ?_
  unfold fc25
  refine E_sq ?_
  refine E_reg ?_
  refine E_op0 (v' := (.cptr (Program.av p_00).cells 0)) rfl rfl ?_
  refine E_mv (v' := .nils) rfl ?_
  refine E_mv (v' := (.bool false)) rfl ?_
  refine E_nil ?_
  refine E_nx ?_
  refine E_as ?_
  refine E_jp h (fun s_2 => [(1, (.cptr (Program.av p_00).cells 0)), (23, (.bool s_2))]) (fun s_2 => []) (fun k_1 h => ?_) (fun s_2 h => ?_)
  · refine E_reg ?_
    refine E_op0 (v' := (.cptr (Program.av p_00).cells 0)) rfl rfl ?_
    refine E_op0 (v' := (.sl false 5 (List.map Func.av p_00.Funcs))) rfl rfl ?_
    refine E_len rfl ?_
    refine E_op0 (v' := (.bool (decide ((List.length p_00.Funcs : Int) < 1)))) rfl rfl ?_
    refine E_mv (v' := (.bool (decide ((List.length p_00.Funcs : Int) < 1)))) rfl ?_
    refine E_gsT (b := (decide ((List.length p_00.Funcs : Int) < 1))) rfl rfl rfl (fun hb => ?_) (fun hb => ?_)
    · rw [ite_f hb] at h
      refine E_op0 (v' := (.cptr (Program.av p_00).cells 0)) rfl rfl ?_
      refine E_gh rfl ?_
      refine E_op0 (v' := (.sl false 5 (List.map Func.av p_00.Funcs))) rfl rfl ?_
      refine E_gh rfl ?_
      refine E_len rfl ?_
      refine E_gh rfl ?_
      refine E_op0 (v' := (.bool (decide ((List.length p_00.Funcs : Int) > 255)))) rfl rfl ?_
      refine E_pf rfl rfl ?_
      refine E_nil ?_
      exact E_jx _ h (wk_aw ⟨(.refl _), (.refl _), trivial⟩)
    · rw [ite_t hb] at h
      refine E_gm rfl ?_
      refine E_gm rfl ?_
      refine E_gm rfl ?_
      refine E_pt rfl rfl ?_
      refine E_nil ?_
      exact E_jx _ h (wk_aw ⟨(.refl _), (.refl _), trivial⟩)
  · refine E_sq ?_
    refine E_cs (t := s_2) rfl (fun hb => ?_) (fun hb => ?_)
    · rw [ite_t hb] at h
      refine E_sq ?_
      refine E_reg ?_
      refine E_mv (v' := .nils) rfl ?_
      refine E_mv (v' := (.bool false)) rfl ?_
      refine E_nil ?_
      refine E_nx ?_
      refine E_ret ?_
      refine E_thr ?_
      cases h
      exact ⟨trivial, _, rfl, (fz_tup ⟨(fz_b rfl .nil), (fz_b rfl (.refl _)), trivial⟩)⟩
    · rw [ite_f hb] at h
      refine E_skip ?_
      refine E_nx ?_
      refine E_sq ?_
      refine E_reg ?_
      refine E_op0 (v' := (.cptr (Program.av p_00).cells 0)) rfl rfl ?_
      refine E_op0 (v' := (.sl false 5 (List.map Func.av p_00.Funcs))) rfl rfl ?_
      refine E_len rfl ?_
      refine E_op0 (v' := (.int .u8 (U8 (List.length p_00.Funcs : Int)))) rfl rfl ?_
      refine E_op (v' := (.ref 0 0 0 (List.length ([87, 76, (U8 (List.length p_00.Funcs : Int))] : List Int)) none)) (S' := [.arr 0 (flat (avI .u8) ([87, 76, (U8 (List.length p_00.Funcs : Int))] : List Int))]) rfl rfl rfl ?_
      refine E_mv (v' := (.ref 0 0 0 (List.length ([87, 76, (U8 (List.length p_00.Funcs : Int))] : List Int)) none)) rfl ?_
      refine E_nil ?_
      refine E_nx ?_
      refine E_as ?_
      refine E_sq ?_
      refine E_reg ?_
      refine E_op0 (v' := (.cptr (Program.av p_00).cells 0)) rfl rfl ?_
      refine E_op0 (v' := (.sl false 5 (List.map Func.av p_00.Funcs))) rfl rfl ?_
      refine E_len rfl ?_
      refine E_mv (v' := (.int .i64 0)) rfl ?_
      refine E_nil ?_
      refine E_nx ?_
      refine E_sq ?_
      refine E_rngO (fun s_3 => [(4, (.ref 0 1 0 (List.length s_3) none)), (30, (.sl false 5 (List.map Func.av p_00.Funcs)))]) (fun s_3 => [.arr 1 (flat (avI .u8) s_3)]) h (by decide) (by decide) (fun _ => ⟨rfl, rfl, rfl, rfl⟩) (wk_rn [some (0, 0)] rfl (Nat.le_of_ble_eq_true rfl) ⟨(rn_ob rfl rfl (.refl ((encI .u8).blwf 0 _)) rfl), trivial⟩ ⟨(rn_b rfl), (rn_b rfl), (rn_refL (encI .u8) rfl rfl rfl), (rn_b (Func.enc.blws 0)), trivial⟩) (fun i_4 f_5 s_3 c hx_6 hlt h => ?_) (fun s_3 fr' S' h hw => ?_)
      · refine E_sq ?_
        refine E_reg ?_
        refine E_iadF rfl rfl (getI_of hx_6) ?_
        refine E_op0 (v' := (Func.av f_5)) rfl rfl ?_
        refine E_op (v' := .ptr 1 0 0) (S' := [.arr 1 (flat (avI .u8) s_3), .arr 0 [(.int .i64 0), .nils, (.bool false), (.int .i64 0), .nils]]) rfl rfl rfl ?_
        refine E_do (S' := [.arr 1 (flat (avI .u8) s_3), .arr 0 [(.int .i64 f_5.Params), (.sl false 1 (List.map (avI .u8) f_5.Locals)), (.bool f_5.Result), (.int .i64 f_5.Keep), (.sl false 3 (List.map Instr.av f_5.Code))]]) rfl rfl ?_
        refine E_nil ?_
        refine E_nx ?_
        refine E_as ?_
        refine E_jp h (fun s_8 => [(4, (.ref 0 1 0 (List.length s_3) none)), (6, (.ptr 1 0 0)), (30, (.sl false 5 (List.map Func.av p_00.Funcs))), (31, (.int .i64 (List.length p_00.Funcs : Int))), (32, (.int .i64 (i_4 : Int))), (68, (.bool s_8))]) (fun s_8 => [.arr 1 (flat (avI .u8) s_3), .arr 0 [(.int .i64 f_5.Params), (.sl false 1 (List.map (avI .u8) f_5.Locals)), (.bool f_5.Result), (.int .i64 f_5.Keep), (.sl false 3 (List.map Instr.av f_5.Code))]]) (fun k_7 h => ?_) (fun s_8 h => ?_)
        · refine E_reg ?_
          refine E_op0 (v' := (.ptr 1 0 0)) rfl rfl ?_
          refine E_op (v' := (.int .i64 f_5.Params)) (S' := [.arr 1 (flat (avI .u8) s_3), .arr 0 [(.int .i64 f_5.Params), (.sl false 1 (List.map (avI .u8) f_5.Locals)), (.bool f_5.Result), (.int .i64 f_5.Keep), (.sl false 3 (List.map Instr.av f_5.Code))]]) rfl rfl rfl ?_
          refine E_op0 (v' := (.bool (decide (f_5.Params < 0)))) rfl rfl ?_
          refine E_mv (v' := (.bool (decide (f_5.Params < 0)))) rfl ?_
          refine E_gsT (b := (decide (f_5.Params < 0))) rfl rfl rfl (fun hb => ?_) (fun hb => ?_)
          · rw [ite_f hb] at h
            refine E_op0 (v' := (.ptr 1 0 0)) rfl rfl ?_
            refine E_gh rfl ?_
            refine E_op (v' := (.int .i64 f_5.Params)) (S' := [.arr 1 (flat (avI .u8) s_3), .arr 0 [(.int .i64 f_5.Params), (.sl false 1 (List.map (avI .u8) f_5.Locals)), (.bool f_5.Result), (.int .i64 f_5.Keep), (.sl false 3 (List.map Instr.av f_5.Code))]]) rfl rfl rfl ?_
            refine E_gh rfl ?_
            refine E_op0 (v' := (.ptr 1 0 1)) rfl rfl ?_
            refine E_gh rfl ?_
            refine E_op (v' := (.sl false 1 (List.map (avI .u8) f_5.Locals))) (S' := [.arr 1 (flat (avI .u8) s_3), .arr 0 [(.int .i64 f_5.Params), (.sl false 1 (List.map (avI .u8) f_5.Locals)), (.bool f_5.Result), (.int .i64 f_5.Keep), (.sl false 3 (List.map Instr.av f_5.Code))]]) rfl rfl rfl ?_
            refine E_gh rfl ?_
            refine E_len rfl ?_
            refine E_gh rfl ?_
            refine E_op0 (v' := (.bool (decide (f_5.Params > (List.length f_5.Locals : Int))))) rfl rfl ?_
            refine E_pf rfl rfl ?_
            refine E_mv (v' := (.bool (decide (f_5.Params > (List.length f_5.Locals : Int))))) rfl ?_
            refine E_gsT (b := (decide (f_5.Params > (List.length f_5.Locals : Int)))) rfl rfl rfl (fun hb => ?_) (fun hb => ?_)
            · rw [ite_f hb] at h
              refine E_op0 (v' := (.ptr 1 0 1)) rfl rfl ?_
              refine E_gh rfl ?_
              refine E_op (v' := (.sl false 1 (List.map (avI .u8) f_5.Locals))) (S' := [.arr 1 (flat (avI .u8) s_3), .arr 0 [(.int .i64 f_5.Params), (.sl false 1 (List.map (avI .u8) f_5.Locals)), (.bool f_5.Result), (.int .i64 f_5.Keep), (.sl false 3 (List.map Instr.av f_5.Code))]]) rfl rfl rfl ?_
              refine E_gh rfl ?_
              refine E_len rfl ?_
              refine E_gh rfl ?_
              refine E_op0 (v' := (.bool (decide ((List.length f_5.Locals : Int) > 255)))) rfl rfl ?_
              refine E_pf rfl rfl ?_
              refine E_mv (v' := (.bool (decide ((List.length f_5.Locals : Int) > 255)))) rfl ?_
              refine E_gsT (b := (decide ((List.length f_5.Locals : Int) > 255))) rfl rfl rfl (fun hb => ?_) (fun hb => ?_)
              · rw [ite_f hb] at h
                refine E_op0 (v' := (.ptr 1 0 3)) rfl rfl ?_
                refine E_gh rfl ?_
                refine E_op (v' := (.int .i64 f_5.Keep)) (S' := [.arr 1 (flat (avI .u8) s_3), .arr 0 [(.int .i64 f_5.Params), (.sl false 1 (List.map (avI .u8) f_5.Locals)), (.bool f_5.Result), (.int .i64 f_5.Keep), (.sl false 3 (List.map Instr.av f_5.Code))]]) rfl rfl rfl ?_
                refine E_gh rfl ?_
                refine E_op0 (v' := (.bool (decide (f_5.Keep < (-1))))) rfl rfl ?_
                refine E_pf rfl rfl ?_
                refine E_mv (v' := (.bool (decide (f_5.Keep < (-1))))) rfl ?_
                refine E_gsT (b := (decide (f_5.Keep < (-1)))) rfl rfl rfl (fun hb => ?_) (fun hb => ?_)
                · rw [ite_f hb] at h
                  refine E_op0 (v' := (.ptr 1 0 3)) rfl rfl ?_
                  refine E_gh rfl ?_
                  refine E_op (v' := (.int .i64 f_5.Keep)) (S' := [.arr 1 (flat (avI .u8) s_3), .arr 0 [(.int .i64 f_5.Params), (.sl false 1 (List.map (avI .u8) f_5.Locals)), (.bool f_5.Result), (.int .i64 f_5.Keep), (.sl false 3 (List.map Instr.av f_5.Code))]]) rfl rfl rfl ?_
                  refine E_gh rfl ?_
                  refine E_op0 (v' := (.bool (decide (f_5.Keep > 254)))) rfl rfl ?_
                  refine E_pf rfl rfl ?_
                  refine E_mv (v' := (.bool (decide (f_5.Keep > 254)))) rfl ?_
                  refine E_gsT (b := (decide (f_5.Keep > 254))) rfl rfl rfl (fun hb => ?_) (fun hb => ?_)
                  · rw [ite_f hb] at h
                    refine E_op0 (v' := (.ptr 1 0 4)) rfl rfl ?_
                    refine E_gh rfl ?_
                    refine E_op (v' := (.sl false 3 (List.map Instr.av f_5.Code))) (S' := [.arr 1 (flat (avI .u8) s_3), .arr 0 [(.int .i64 f_5.Params), (.sl false 1 (List.map (avI .u8) f_5.Locals)), (.bool f_5.Result), (.int .i64 f_5.Keep), (.sl false 3 (List.map Instr.av f_5.Code))]]) rfl rfl rfl ?_
                    refine E_gh rfl ?_
                    refine E_len rfl ?_
                    refine E_gh rfl ?_
                    refine E_op0 (v' := (.bool (decide ((List.length f_5.Code : Int) > 65535)))) rfl rfl ?_
                    refine E_pf rfl rfl ?_
                    refine E_nil ?_
                    exact E_jx _ h (wk_rn [some (0, 0), some (1, 0)] rfl (Nat.le_of_ble_eq_true rfl) ⟨(rn_ob rfl rfl (.refl ((encI .u8).blwf 0 _)) rfl), (rn_ob rfl rfl (.cons (rn_b rfl) (.cons (rn_b ((encI .u8).blws 0)) (.cons (rn_b rfl) (.cons (rn_b rfl) (.cons (rn_b (Instr.enc.blws 0)) (.nil (Nat.zero_le _))))))) rfl), trivial⟩ ⟨(rn_refL (encI .u8) rfl rfl rfl), (rn_ptr rfl rfl rfl rfl), (rn_b (Func.enc.blws 0)), (rn_b rfl), (rn_b rfl), (rn_b rfl), trivial⟩)
                  · rw [ite_t hb] at h
                    refine E_gm rfl ?_
                    refine E_gm rfl ?_
                    refine E_gm rfl ?_
                    refine E_pt rfl rfl ?_
                    refine E_nil ?_
                    exact E_jx _ h (wk_rn [some (0, 0), some (1, 0)] rfl (Nat.le_of_ble_eq_true rfl) ⟨(rn_ob rfl rfl (.refl ((encI .u8).blwf 0 _)) rfl), (rn_ob rfl rfl (.cons (rn_b rfl) (.cons (rn_b ((encI .u8).blws 0)) (.cons (rn_b rfl) (.cons (rn_b rfl) (.cons (rn_b (Instr.enc.blws 0)) (.nil (Nat.zero_le _))))))) rfl), trivial⟩ ⟨(rn_refL (encI .u8) rfl rfl rfl), (rn_ptr rfl rfl rfl rfl), (rn_b (Func.enc.blws 0)), (rn_b rfl), (rn_b rfl), (rn_b rfl), trivial⟩)
                · rw [ite_t hb] at h
                  refine E_gm rfl ?_
                  refine E_gm rfl ?_
                  refine E_pt rfl rfl ?_
                  refine E_mv (v' := (.bool true)) rfl ?_
                  refine E_gm rfl ?_
                  refine E_gm rfl ?_
                  refine E_gm rfl ?_
                  refine E_gm rfl ?_
                  refine E_pt rfl rfl ?_
                  refine E_nil ?_
                  exact E_jx _ h (wk_rn [some (0, 0), some (1, 0)] rfl (Nat.le_of_ble_eq_true rfl) ⟨(rn_ob rfl rfl (.refl ((encI .u8).blwf 0 _)) rfl), (rn_ob rfl rfl (.cons (rn_b rfl) (.cons (rn_b ((encI .u8).blws 0)) (.cons (rn_b rfl) (.cons (rn_b rfl) (.cons (rn_b (Instr.enc.blws 0)) (.nil (Nat.zero_le _))))))) rfl), trivial⟩ ⟨(rn_refL (encI .u8) rfl rfl rfl), (rn_ptr rfl rfl rfl rfl), (rn_b (Func.enc.blws 0)), (rn_b rfl), (rn_b rfl), (rn_b rfl), trivial⟩)
              · rw [ite_t hb] at h
                refine E_gm rfl ?_
                refine E_gm rfl ?_
                refine E_pt rfl rfl ?_
                refine E_mv (v' := (.bool true)) rfl ?_
                refine E_gm rfl ?_
                refine E_gm rfl ?_
                refine E_gm rfl ?_
                refine E_pt rfl rfl ?_
                refine E_mv (v' := (.bool true)) rfl ?_
                refine E_gm rfl ?_
                refine E_gm rfl ?_
                refine E_gm rfl ?_
                refine E_gm rfl ?_
                refine E_pt rfl rfl ?_
                refine E_nil ?_
                exact E_jx _ h (wk_rn [some (0, 0), some (1, 0)] rfl (Nat.le_of_ble_eq_true rfl) ⟨(rn_ob rfl rfl (.refl ((encI .u8).blwf 0 _)) rfl), (rn_ob rfl rfl (.cons (rn_b rfl) (.cons (rn_b ((encI .u8).blws 0)) (.cons (rn_b rfl) (.cons (rn_b rfl) (.cons (rn_b (Instr.enc.blws 0)) (.nil (Nat.zero_le _))))))) rfl), trivial⟩ ⟨(rn_refL (encI .u8) rfl rfl rfl), (rn_ptr rfl rfl rfl rfl), (rn_b (Func.enc.blws 0)), (rn_b rfl), (rn_b rfl), (rn_b rfl), trivial⟩)
            · rw [ite_t hb] at h
              refine E_gm rfl ?_
              refine E_gm rfl ?_
              refine E_gm rfl ?_
              refine E_pt rfl rfl ?_
              refine E_mv (v' := (.bool true)) rfl ?_
              refine E_gm rfl ?_
              refine E_gm rfl ?_
              refine E_gm rfl ?_
              refine E_pt rfl rfl ?_
              refine E_mv (v' := (.bool true)) rfl ?_
              refine E_gm rfl ?_
              refine E_gm rfl ?_
              refine E_gm rfl ?_
              refine E_pt rfl rfl ?_
              refine E_mv (v' := (.bool true)) rfl ?_
              refine E_gm rfl ?_
              refine E_gm rfl ?_
              refine E_gm rfl ?_
              refine E_gm rfl ?_
              refine E_pt rfl rfl ?_
              refine E_nil ?_
              exact E_jx _ h (wk_rn [some (0, 0), some (1, 0)] rfl (Nat.le_of_ble_eq_true rfl) ⟨(rn_ob rfl rfl (.refl ((encI .u8).blwf 0 _)) rfl), (rn_ob rfl rfl (.cons (rn_b rfl) (.cons (rn_b ((encI .u8).blws 0)) (.cons (rn_b rfl) (.cons (rn_b rfl) (.cons (rn_b (Instr.enc.blws 0)) (.nil (Nat.zero_le _))))))) rfl), trivial⟩ ⟨(rn_refL (encI .u8) rfl rfl rfl), (rn_ptr rfl rfl rfl rfl), (rn_b (Func.enc.blws 0)), (rn_b rfl), (rn_b rfl), (rn_b rfl), trivial⟩)
          · rw [ite_t hb] at h
            refine E_gm rfl ?_
            refine E_gm rfl ?_
            refine E_gm rfl ?_
            refine E_gm rfl ?_
            refine E_gm rfl ?_
            refine E_pt rfl rfl ?_
            refine E_mv (v' := (.bool true)) rfl ?_
            refine E_gm rfl ?_
            refine E_gm rfl ?_
            refine E_gm rfl ?_
            refine E_gm rfl ?_
            refine E_pt rfl rfl ?_
            refine E_mv (v' := (.bool true)) rfl ?_
            refine E_gm rfl ?_
            refine E_gm rfl ?_
            refine E_gm rfl ?_
            refine E_pt rfl rfl ?_
            refine E_mv (v' := (.bool true)) rfl ?_
            refine E_gm rfl ?_
            refine E_gm rfl ?_
            refine E_gm rfl ?_
            refine E_pt rfl rfl ?_
            refine E_mv (v' := (.bool true)) rfl ?_
            refine E_gm rfl ?_
            refine E_gm rfl ?_
            refine E_gm rfl ?_
            refine E_gm rfl ?_
            refine E_pt rfl rfl ?_
            refine E_nil ?_
            exact E_jx _ h (wk_rn [some (0, 0), some (1, 0)] rfl (Nat.le_of_ble_eq_true rfl) ⟨(rn_ob rfl rfl (.refl ((encI .u8).blwf 0 _)) rfl), (rn_ob rfl rfl (.cons (rn_b rfl) (.cons (rn_b ((encI .u8).blws 0)) (.cons (rn_b rfl) (.cons (rn_b rfl) (.cons (rn_b (Instr.enc.blws 0)) (.nil (Nat.zero_le _))))))) rfl), trivial⟩ ⟨(rn_refL (encI .u8) rfl rfl rfl), (rn_ptr rfl rfl rfl rfl), (rn_b (Func.enc.blws 0)), (rn_b rfl), (rn_b rfl), (rn_b rfl), trivial⟩)
        · refine E_sq ?_
          refine E_cs (t := s_8) rfl (fun hb => ?_) (fun hb => ?_)
          · rw [ite_t hb] at h
            refine E_sq ?_
            refine E_reg ?_
            refine E_mv (v' := .nils) rfl ?_
            refine E_mv (v' := (.bool false)) rfl ?_
            refine E_nil ?_
            refine E_nx ?_
            refine E_ret ?_
            refine E_thr ?_
            cases h
            refine L_rrO rfl (fun h => ?_)
            refine E_thr ?_
            cases h
            exact ⟨trivial, _, rfl, (fz_tup ⟨(fz_b rfl .nil), (fz_b rfl (.refl _)), trivial⟩)⟩
          · rw [ite_f hb] at h
            refine E_skip ?_
            refine E_nx ?_
            refine E_sq ?_
            refine E_reg ?_
            refine E_mv (v' := (.ref 0 1 0 (List.length s_3) none)) rfl ?_
            refine E_op0 (v' := (.ptr 1 0 0)) rfl rfl ?_
            refine E_op (v' := (.int .i64 f_5.Params)) (S' := [.arr 1 (flat (avI .u8) s_3), .arr 0 [(.int .i64 f_5.Params), (.sl false 1 (List.map (avI .u8) f_5.Locals)), (.bool f_5.Result), (.int .i64 f_5.Keep), (.sl false 3 (List.map Instr.av f_5.Code))]]) rfl rfl rfl ?_
            refine E_op0 (v' := (.int .u8 (U8 f_5.Params))) rfl rfl ?_
            refine E_op0 (v' := (.ptr 1 0 1)) rfl rfl ?_
            refine E_op (v' := (.sl false 1 (List.map (avI .u8) f_5.Locals))) (S' := [.arr 1 (flat (avI .u8) s_3), .arr 0 [(.int .i64 f_5.Params), (.sl false 1 (List.map (avI .u8) f_5.Locals)), (.bool f_5.Result), (.int .i64 f_5.Keep), (.sl false 3 (List.map Instr.av f_5.Code))]]) rfl rfl rfl ?_
            refine E_len rfl ?_
            refine E_op0 (v' := (.int .u8 (U8 (List.length f_5.Locals : Int)))) rfl rfl ?_
            refine E_opw (v' := (.sl true 1 (List.map (avI .u8) [(U8 f_5.Params), (U8 (List.length f_5.Locals : Int))]))) rfl (.refl _) rfl ?_
            obtain ⟨l_9, hl_9, h⟩ := bd_some h
            refine E_apL (S' := [.arr 2 (flat (avI .u8) l_9), .arr 0 [(.int .i64 f_5.Params), (.sl false 1 (List.map (avI .u8) f_5.Locals)), (.bool f_5.Result), (.int .i64 f_5.Keep), (.sl false 3 (List.map Instr.av f_5.Code))]]) (encI .u8) rfl (src_sl [(U8 f_5.Params), (U8 (List.length f_5.Locals : Int))]) rfl hl_9 rfl ?_
            refine E_mv (v' := (.ref 0 2 0 (List.length l_9) none)) rfl ?_
            refine E_nil ?_
            refine E_nx ?_
            refine E_as ?_
            refine E_sq ?_
            refine E_reg ?_
            refine E_op0 (v' := (.ptr 1 0 1)) rfl rfl ?_
            refine E_op (v' := (.sl false 1 (List.map (avI .u8) f_5.Locals))) (S' := [.arr 2 (flat (avI .u8) l_9), .arr 0 [(.int .i64 f_5.Params), (.sl false 1 (List.map (avI .u8) f_5.Locals)), (.bool f_5.Result), (.int .i64 f_5.Keep), (.sl false 3 (List.map Instr.av f_5.Code))]]) rfl rfl rfl ?_
            refine E_len rfl ?_
            refine E_mv (v' := (.int .i64 0)) rfl ?_
            refine E_nil ?_
            refine E_nx ?_
            refine E_sq ?_
            refine E_rngO (fun s_10 => [(4, (.ref 0 1 0 (List.length s_10) none)), (6, (.ptr 1 0 0)), (30, (.sl false 5 (List.map Func.av p_00.Funcs))), (31, (.int .i64 (List.length p_00.Funcs : Int))), (32, (.int .i64 (i_4 : Int))), (80, (.sl false 1 (List.map (avI .u8) f_5.Locals)))]) (fun s_10 => [.arr 1 (flat (avI .u8) s_10), .arr 0 [(.int .i64 f_5.Params), (.sl false 1 (List.map (avI .u8) f_5.Locals)), (.bool f_5.Result), (.int .i64 f_5.Keep), (.sl false 3 (List.map Instr.av f_5.Code))]]) h (by decide) (by decide) (fun _ => ⟨rfl, rfl, rfl, rfl⟩) (wk_rn [some (0, 0), some (1, 0)] rfl (Nat.le_of_ble_eq_true rfl) ⟨(rn_ob rfl rfl (.refl ((encI .u8).blwf 0 _)) rfl), (rn_ob rfl rfl (.cons (rn_b rfl) (.cons (rn_b ((encI .u8).blws 0)) (.cons (rn_b rfl) (.cons (rn_b rfl) (.cons (rn_b (Instr.enc.blws 0)) (.nil (Nat.zero_le _))))))) rfl), trivial⟩ ⟨(rn_b rfl), (rn_b rfl), (rn_refL (encI .u8) rfl rfl rfl), (rn_ptr rfl rfl rfl rfl), (rn_b (Func.enc.blws 0)), (rn_b rfl), (rn_b rfl), (rn_b ((encI .u8).blws 0)), trivial⟩) (fun i_11 k_12 s_10 c hx_13 hlt h => ?_) (fun s_10 fr' S' h hw => ?_)
            · refine E_sq ?_
              refine E_reg ?_
              refine E_iadF rfl rfl (getI_of hx_13) ?_
              refine E_op0 (v' := (.int .u8 k_12)) rfl rfl ?_
              refine E_mv (v' := (.int .u8 k_12)) rfl ?_
              refine E_nil ?_
              refine E_nx ?_
              refine E_as ?_
              refine E_jp h (fun s_15 => [(4, (.ref 0 1 0 (List.length s_10) none)), (6, (.ptr 1 0 0)), (8, (.int .u8 k_12)), (30, (.sl false 5 (List.map Func.av p_00.Funcs))), (31, (.int .i64 (List.length p_00.Funcs : Int))), (32, (.int .i64 (i_4 : Int))), (80, (.sl false 1 (List.map (avI .u8) f_5.Locals))), (81, (.int .i64 (List.length f_5.Locals : Int))), (82, (.int .i64 (i_11 : Int))), (91, (.bool s_15))]) (fun s_15 => [.arr 1 (flat (avI .u8) s_10), .arr 0 [(.int .i64 f_5.Params), (.sl false 1 (List.map (avI .u8) f_5.Locals)), (.bool f_5.Result), (.int .i64 f_5.Keep), (.sl false 3 (List.map Instr.av f_5.Code))]]) (fun k_14 h => ?_) (fun s_15 h => ?_)
              · refine E_reg ?_
                refine E_mv (v' := (.int .u8 k_12)) rfl ?_
                refine E_op0 (v' := (.bool (k_12 != 0))) rfl rfl ?_
                refine E_mv (v' := (.bool (k_12 != 0))) rfl ?_
                refine E_gsT (b := (k_12 != 0)) rfl rfl rfl (fun hb => ?_) (fun hb => ?_)
                · rw [ite_t hb] at h
                  refine E_mv (v' := (.int .u8 k_12)) rfl ?_
                  refine E_gh rfl ?_
                  refine E_op0 (v' := (.bool (k_12 != 1))) rfl rfl ?_
                  refine E_pt rfl rfl ?_
                  refine E_nil ?_
                  exact E_jx _ h (wk_rn [some (0, 0), some (1, 0)] rfl (Nat.le_of_ble_eq_true rfl) ⟨(rn_ob rfl rfl (.refl ((encI .u8).blwf 0 _)) rfl), (rn_ob rfl rfl (.cons (rn_b rfl) (.cons (rn_b ((encI .u8).blws 0)) (.cons (rn_b rfl) (.cons (rn_b rfl) (.cons (rn_b (Instr.enc.blws 0)) (.nil (Nat.zero_le _))))))) rfl), trivial⟩ ⟨(rn_refL (encI .u8) rfl rfl rfl), (rn_ptr rfl rfl rfl rfl), (rn_b rfl), (rn_b (Func.enc.blws 0)), (rn_b rfl), (rn_b rfl), (rn_b ((encI .u8).blws 0)), (rn_b rfl), (rn_b rfl), (rn_b rfl), trivial⟩)
                · rw [ite_f hb] at h
                  refine E_gm rfl ?_
                  refine E_pf rfl rfl ?_
                  refine E_nil ?_
                  exact E_jx _ h (wk_rn [some (0, 0), some (1, 0)] rfl (Nat.le_of_ble_eq_true rfl) ⟨(rn_ob rfl rfl (.refl ((encI .u8).blwf 0 _)) rfl), (rn_ob rfl rfl (.cons (rn_b rfl) (.cons (rn_b ((encI .u8).blws 0)) (.cons (rn_b rfl) (.cons (rn_b rfl) (.cons (rn_b (Instr.enc.blws 0)) (.nil (Nat.zero_le _))))))) rfl), trivial⟩ ⟨(rn_refL (encI .u8) rfl rfl rfl), (rn_ptr rfl rfl rfl rfl), (rn_b rfl), (rn_b (Func.enc.blws 0)), (rn_b rfl), (rn_b rfl), (rn_b ((encI .u8).blws 0)), (rn_b rfl), (rn_b rfl), (rn_b rfl), trivial⟩)
              · refine E_sq ?_
                refine E_cs (t := s_15) rfl (fun hb => ?_) (fun hb => ?_)
                · rw [ite_t hb] at h
                  refine E_sq ?_
                  refine E_reg ?_
                  refine E_mv (v' := .nils) rfl ?_
                  refine E_mv (v' := (.bool false)) rfl ?_
                  refine E_nil ?_
                  refine E_nx ?_
                  refine E_ret ?_
                  refine E_thr ?_
                  cases h
                  refine L_rrO rfl (fun h => ?_)
                  refine E_thr ?_
                  cases h
                  refine L_rrO rfl (fun h => ?_)
                  refine E_thr ?_
                  cases h
                  exact ⟨trivial, _, rfl, (fz_tup ⟨(fz_b rfl .nil), (fz_b rfl (.refl _)), trivial⟩)⟩
                · rw [ite_f hb] at h
                  refine E_skip ?_
                  refine E_nx ?_
                  refine E_reg ?_
                  refine E_mv (v' := (.ref 0 1 0 (List.length s_10) none)) rfl ?_
                  refine E_mv (v' := (.int .u8 k_12)) rfl ?_
                  refine E_opw (v' := (.sl true 1 (List.map (avI .u8) [k_12]))) rfl (.refl _) rfl ?_
                  obtain ⟨l_16, hl_16, h⟩ := bd_some h
                  refine E_apL (S' := [.arr 2 (flat (avI .u8) l_16), .arr 0 [(.int .i64 f_5.Params), (.sl false 1 (List.map (avI .u8) f_5.Locals)), (.bool f_5.Result), (.int .i64 f_5.Keep), (.sl false 3 (List.map Instr.av f_5.Code))]]) (encI .u8) rfl (src_sl [k_12]) rfl hl_16 rfl ?_
                  refine E_mv (v' := (.ref 0 2 0 (List.length l_16) none)) rfl ?_
                  refine E_nil ?_
                  cases h
                  exact L_nn rfl (wk_rn [some (0, 0), some (1, 0)] rfl (Nat.le_of_ble_eq_true rfl) ⟨(rn_ob rfl rfl (.refl ((encI .u8).blwf 0 _)) rfl), (rn_ob rfl rfl (.cons (rn_b rfl) (.cons (rn_b ((encI .u8).blws 0)) (.cons (rn_b rfl) (.cons (rn_b rfl) (.cons (rn_b (Instr.enc.blws 0)) (.nil (Nat.zero_le _))))))) rfl), trivial⟩ ⟨(rn_b rfl), (rn_b rfl), (rn_refL (encI .u8) rfl rfl rfl), (rn_ptr rfl rfl rfl rfl), (rn_b (Func.enc.blws 0)), (rn_b rfl), (rn_b rfl), (rn_b ((encI .u8).blws 0)), trivial⟩)
            · refine X_nx hw ?_
              refine E_sq ?_
              refine E_reg ?_
              refine E_mv (v' := (.int .u8 0)) rfl ?_
              refine E_nil ?_
              refine E_nx ?_
              refine E_as ?_
              refine E_sq ?_
              refine E_reg ?_
              refine E_op0 (v' := (.ptr 1 0 2)) rfl rfl ?_
              refine E_op (v' := (.bool f_5.Result)) (S' := [.arr 1 (flat (avI .u8) s_10), .arr 0 [(.int .i64 f_5.Params), (.sl false 1 (List.map (avI .u8) f_5.Locals)), (.bool f_5.Result), (.int .i64 f_5.Keep), (.sl false 3 (List.map Instr.av f_5.Code))]]) rfl rfl rfl ?_
              refine E_nil ?_
              refine E_nx ?_
              refine E_jp h (fun s_18 => [(4, (.ref 0 1 0 (List.length s_10) none)), (6, (.ptr 1 0 0)), (9, (.int .u8 s_18)), (30, (.sl false 5 (List.map Func.av p_00.Funcs))), (31, (.int .i64 (List.length p_00.Funcs : Int))), (32, (.int .i64 (i_4 : Int)))]) (fun s_18 => [.arr 1 (flat (avI .u8) s_10), .arr 0 [(.int .i64 f_5.Params), (.sl false 1 (List.map (avI .u8) f_5.Locals)), (.bool f_5.Result), (.int .i64 f_5.Keep), (.sl false 3 (List.map Instr.av f_5.Code))]]) (fun k_17 h => ?_) (fun s_18 h => ?_)
              · refine E_cs (t := f_5.Result) rfl (fun hb => ?_) (fun hb => ?_)
                · rw [ite_t hb] at h
                  refine E_reg ?_
                  refine E_mv (v' := (.int .u8 1)) rfl ?_
                  refine E_nil ?_
                  exact E_jx _ h (wk_rn [some (0, 0), some (1, 0)] rfl (Nat.le_of_ble_eq_true rfl) ⟨(rn_ob rfl rfl (.refl ((encI .u8).blwf 0 _)) rfl), (rn_ob rfl rfl (.cons (rn_b rfl) (.cons (rn_b ((encI .u8).blws 0)) (.cons (rn_b rfl) (.cons (rn_b rfl) (.cons (rn_b (Instr.enc.blws 0)) (.nil (Nat.zero_le _))))))) rfl), trivial⟩ ⟨(rn_refL (encI .u8) rfl rfl rfl), (rn_ptr rfl rfl rfl rfl), (rn_b rfl), (rn_b (Func.enc.blws 0)), (rn_b rfl), (rn_b rfl), trivial⟩)
                · rw [ite_f hb] at h
                  refine E_skip ?_
                  exact E_jx _ h (wk_rn [some (0, 0), some (1, 0)] rfl (Nat.le_of_ble_eq_true rfl) ⟨(rn_ob rfl rfl (.refl ((encI .u8).blwf 0 _)) rfl), (rn_ob rfl rfl (.cons (rn_b rfl) (.cons (rn_b ((encI .u8).blws 0)) (.cons (rn_b rfl) (.cons (rn_b rfl) (.cons (rn_b (Instr.enc.blws 0)) (.nil (Nat.zero_le _))))))) rfl), trivial⟩ ⟨(rn_refL (encI .u8) rfl rfl rfl), (rn_ptr rfl rfl rfl rfl), (rn_b rfl), (rn_b (Func.enc.blws 0)), (rn_b rfl), (rn_b rfl), trivial⟩)
              · refine E_sq ?_
                refine E_reg ?_
                refine E_mv (v' := (.int .u8 255)) rfl ?_
                refine E_nil ?_
                refine E_nx ?_
                refine E_as ?_
                refine E_sq ?_
                refine E_reg ?_
                refine E_op0 (v' := (.ptr 1 0 3)) rfl rfl ?_
                refine E_op (v' := (.int .i64 f_5.Keep)) (S' := [.arr 1 (flat (avI .u8) s_10), .arr 0 [(.int .i64 f_5.Params), (.sl false 1 (List.map (avI .u8) f_5.Locals)), (.bool f_5.Result), (.int .i64 f_5.Keep), (.sl false 3 (List.map Instr.av f_5.Code))]]) rfl rfl rfl ?_
                refine E_op0 (v' := (.bool (decide (f_5.Keep ≥ 0)))) rfl rfl ?_
                refine E_nil ?_
                refine E_nx ?_
                refine E_jp h (fun s_20 => [(4, (.ref 0 1 0 (List.length s_10) none)), (6, (.ptr 1 0 0)), (9, (.int .u8 s_18)), (10, (.int .u8 s_20)), (30, (.sl false 5 (List.map Func.av p_00.Funcs))), (31, (.int .i64 (List.length p_00.Funcs : Int))), (32, (.int .i64 (i_4 : Int)))]) (fun s_20 => [.arr 1 (flat (avI .u8) s_10), .arr 0 [(.int .i64 f_5.Params), (.sl false 1 (List.map (avI .u8) f_5.Locals)), (.bool f_5.Result), (.int .i64 f_5.Keep), (.sl false 3 (List.map Instr.av f_5.Code))]]) (fun k_19 h => ?_) (fun s_20 h => ?_)
                · refine E_cs (t := (decide (f_5.Keep ≥ 0))) rfl (fun hb => ?_) (fun hb => ?_)
                  · rw [ite_t hb] at h
                    refine E_reg ?_
                    refine E_op0 (v' := (.ptr 1 0 3)) rfl rfl ?_
                    refine E_op (v' := (.int .i64 f_5.Keep)) (S' := [.arr 1 (flat (avI .u8) s_10), .arr 0 [(.int .i64 f_5.Params), (.sl false 1 (List.map (avI .u8) f_5.Locals)), (.bool f_5.Result), (.int .i64 f_5.Keep), (.sl false 3 (List.map Instr.av f_5.Code))]]) rfl rfl rfl ?_
                    refine E_op0 (v' := (.int .u8 (U8 f_5.Keep))) rfl rfl ?_
                    refine E_mv (v' := (.int .u8 (U8 f_5.Keep))) rfl ?_
                    refine E_nil ?_
                    exact E_jx _ h (wk_rn [some (0, 0), some (1, 0)] rfl (Nat.le_of_ble_eq_true rfl) ⟨(rn_ob rfl rfl (.refl ((encI .u8).blwf 0 _)) rfl), (rn_ob rfl rfl (.cons (rn_b rfl) (.cons (rn_b ((encI .u8).blws 0)) (.cons (rn_b rfl) (.cons (rn_b rfl) (.cons (rn_b (Instr.enc.blws 0)) (.nil (Nat.zero_le _))))))) rfl), trivial⟩ ⟨(rn_refL (encI .u8) rfl rfl rfl), (rn_ptr rfl rfl rfl rfl), (rn_b rfl), (rn_b rfl), (rn_b (Func.enc.blws 0)), (rn_b rfl), (rn_b rfl), trivial⟩)
                  · rw [ite_f hb] at h
                    refine E_skip ?_
                    exact E_jx _ h (wk_rn [some (0, 0), some (1, 0)] rfl (Nat.le_of_ble_eq_true rfl) ⟨(rn_ob rfl rfl (.refl ((encI .u8).blwf 0 _)) rfl), (rn_ob rfl rfl (.cons (rn_b rfl) (.cons (rn_b ((encI .u8).blws 0)) (.cons (rn_b rfl) (.cons (rn_b rfl) (.cons (rn_b (Instr.enc.blws 0)) (.nil (Nat.zero_le _))))))) rfl), trivial⟩ ⟨(rn_refL (encI .u8) rfl rfl rfl), (rn_ptr rfl rfl rfl rfl), (rn_b rfl), (rn_b rfl), (rn_b (Func.enc.blws 0)), (rn_b rfl), (rn_b rfl), trivial⟩)
                · refine E_sq ?_
                  refine E_reg ?_
                  refine E_mv (v' := (.ref 0 1 0 (List.length s_10) none)) rfl ?_
                  refine E_mv (v' := (.int .u8 s_18)) rfl ?_
                  refine E_mv (v' := (.int .u8 s_20)) rfl ?_
                  refine E_opw (v' := (.sl true 1 (List.map (avI .u8) [s_18, s_20]))) rfl (.refl _) rfl ?_
                  obtain ⟨l_21, hl_21, h⟩ := bd_some h
                  refine E_apL (S' := [.arr 2 (flat (avI .u8) l_21), .arr 0 [(.int .i64 f_5.Params), (.sl false 1 (List.map (avI .u8) f_5.Locals)), (.bool f_5.Result), (.int .i64 f_5.Keep), (.sl false 3 (List.map Instr.av f_5.Code))]]) (encI .u8) rfl (src_sl [s_18, s_20]) rfl hl_21 rfl ?_
                  refine E_mv (v' := (.ref 0 2 0 (List.length l_21) none)) rfl ?_
                  refine E_nil ?_
                  refine E_nx ?_
                  refine E_sq ?_
                  refine E_reg ?_
                  refine E_mv (v' := (.ref 0 2 0 (List.length l_21) none)) rfl ?_
                  refine E_op0 (v' := (.ptr 1 0 4)) rfl rfl ?_
                  refine E_op (v' := (.sl false 3 (List.map Instr.av f_5.Code))) (S' := [.arr 2 (flat (avI .u8) l_21), .arr 0 [(.int .i64 f_5.Params), (.sl false 1 (List.map (avI .u8) f_5.Locals)), (.bool f_5.Result), (.int .i64 f_5.Keep), (.sl false 3 (List.map Instr.av f_5.Code))]]) rfl rfl rfl ?_
                  refine E_len rfl ?_
                  refine E_op0 (v' := (.int .u64 (U64 (List.length f_5.Code : Int)))) rfl rfl ?_
                  obtain ⟨low_22, hlow_22, h⟩ := bd_some h
                  refine E_callW (windlassref03_low_ev (fuel := fuel)  hlow_22) rfl ⟨(.refl _), (.refl _), trivial⟩ (blwL_of ⟨rfl, rfl, trivial⟩) ((encI .u8).blws 0) ?_
                  obtain ⟨l_23, hl_23, h⟩ := bd_some h
                  refine E_apL (S' := [.arr 3 (flat (avI .u8) l_23), .arr 0 [(.int .i64 f_5.Params), (.sl false 1 (List.map (avI .u8) f_5.Locals)), (.bool f_5.Result), (.int .i64 f_5.Keep), (.sl false 3 (List.map Instr.av f_5.Code))]]) (encI .u8) rfl (src_sl low_22) rfl hl_23 rfl ?_
                  refine E_mv (v' := (.ref 0 3 0 (List.length l_23) none)) rfl ?_
                  refine E_nil ?_
                  refine E_nx ?_
                  refine E_sq ?_
                  refine E_reg ?_
                  refine E_op0 (v' := (.ptr 1 0 4)) rfl rfl ?_
                  refine E_op (v' := (.sl false 3 (List.map Instr.av f_5.Code))) (S' := [.arr 3 (flat (avI .u8) l_23), .arr 0 [(.int .i64 f_5.Params), (.sl false 1 (List.map (avI .u8) f_5.Locals)), (.bool f_5.Result), (.int .i64 f_5.Keep), (.sl false 3 (List.map Instr.av f_5.Code))]]) rfl rfl rfl ?_
                  refine E_len rfl ?_
                  refine E_mv (v' := (.int .i64 0)) rfl ?_
                  refine E_nil ?_
                  refine E_nx ?_
                  refine E_rngO (fun s_24 => [(4, (.ref 0 1 0 (List.length s_24) none)), (30, (.sl false 5 (List.map Func.av p_00.Funcs))), (31, (.int .i64 (List.length p_00.Funcs : Int))), (32, (.int .i64 (i_4 : Int))), (118, (.sl false 3 (List.map Instr.av f_5.Code)))]) (fun s_24 => [.arr 1 (flat (avI .u8) s_24)]) h (by decide) (by decide) (fun _ => ⟨rfl, rfl, rfl, rfl⟩) (wk_rn [some (0, 0)] rfl (Nat.le_of_ble_eq_true rfl) ⟨(rn_ob rfl rfl (.refl ((encI .u8).blwf 0 _)) rfl), trivial⟩ ⟨(rn_b rfl), (rn_b rfl), (rn_refL (encI .u8) rfl rfl rfl), (rn_b (Func.enc.blws 0)), (rn_b rfl), (rn_b rfl), (rn_b (Instr.enc.blws 0)), trivial⟩) (fun i_25 i_26 s_24 c hx_27 hlt h => ?_) (fun s_24 fr' S' h hw => ?_)
                  · refine E_sq ?_
                    refine E_reg ?_
                    refine E_iadF rfl rfl (getI_of hx_27) ?_
                    refine E_op0 (v' := (Instr.av i_26)) rfl rfl ?_
                    refine E_op (v' := .ptr 1 0 0) (S' := [.arr 1 (flat (avI .u8) s_24), .arr 0 [(.int .u8 0), (.int .i64 0), (.int .u64 0)]]) rfl rfl rfl ?_
                    refine E_do (S' := [.arr 1 (flat (avI .u8) s_24), .arr 0 [(.int .u8 i_26.Op), (.int .i64 i_26.Arg), (.int .u64 i_26.Imm)]]) rfl rfl ?_
                    refine E_nil ?_
                    refine E_nx ?_
                    refine E_as ?_
                    refine E_sq ?_
                    refine E_reg ?_
                    refine E_opw (v' := (Instr.av i_26)) rfl (.aggL ⟨(.refl _), (.refl _), (.refl _), trivial⟩) rfl ?_
                    obtain ⟨say_28, hsay_28, h⟩ := bd_some h
                    refine E_callW (windlassref03_Says_ev  hsay_28) rfl ⟨(.refl _), trivial⟩ (blwL_of ⟨(Instr.enc.blw _ 0), trivial⟩) rfl ?_
                    refine E_op0 (v' := (.bool (!say_28))) rfl rfl ?_
                    refine E_nil ?_
                    refine E_nx ?_
                    refine E_sq ?_
                    refine E_cs (t := (!say_28)) rfl (fun hb => ?_) (fun hb => ?_)
                    · rw [ite_t hb] at h
                      refine E_sq ?_
                      refine E_reg ?_
                      refine E_mv (v' := .nils) rfl ?_
                      refine E_mv (v' := (.bool false)) rfl ?_
                      refine E_nil ?_
                      refine E_nx ?_
                      refine E_ret ?_
                      refine E_thr ?_
                      cases h
                      refine L_rrO rfl (fun h => ?_)
                      cases h
                      refine L_rrO rfl (fun h => ?_)
                      refine E_thr ?_
                      cases h
                      exact ⟨trivial, _, rfl, (fz_tup ⟨(fz_b rfl .nil), (fz_b rfl (.refl _)), trivial⟩)⟩
                    · rw [ite_f hb] at h
                      refine E_skip ?_
                      refine E_nx ?_
                      refine E_sq ?_
                      refine E_reg ?_
                      refine E_mv (v' := (.ref 0 1 0 (List.length s_24) none)) rfl ?_
                      refine E_op0 (v' := (.ptr 1 0 0)) rfl rfl ?_
                      refine E_op (v' := (.int .u8 i_26.Op)) (S' := [.arr 1 (flat (avI .u8) s_24), .arr 0 [(.int .u8 i_26.Op), (.int .i64 i_26.Arg), (.int .u64 i_26.Imm)]]) rfl rfl rfl ?_
                      refine E_opw (v' := (.sl true 1 (List.map (avI .u8) [i_26.Op]))) rfl (.refl _) rfl ?_
                      obtain ⟨l_29, hl_29, h⟩ := bd_some h
                      refine E_apL (S' := [.arr 2 (flat (avI .u8) l_29), .arr 0 [(.int .u8 i_26.Op), (.int .i64 i_26.Arg), (.int .u64 i_26.Imm)]]) (encI .u8) rfl (src_sl [i_26.Op]) rfl hl_29 rfl ?_
                      refine E_mv (v' := (.ref 0 2 0 (List.length l_29) none)) rfl ?_
                      refine E_nil ?_
                      refine E_nx ?_
                      refine E_sq ?_
                      refine E_reg ?_
                      refine E_op0 (v' := (.ptr 1 0 0)) rfl rfl ?_
                      refine E_op (v' := (.int .u8 i_26.Op)) (S' := [.arr 2 (flat (avI .u8) l_29), .arr 0 [(.int .u8 i_26.Op), (.int .i64 i_26.Arg), (.int .u64 i_26.Imm)]]) rfl rfl rfl ?_
                      obtain ⟨wid_30, hwid_30, h⟩ := bd_some h
                      refine E_callW (windlassref03_Width_ev  hwid_30) rfl ⟨(.refl _), trivial⟩ (blwL_of ⟨rfl, trivial⟩) rfl ?_
                      refine E_mv (v' := (.int .i64 wid_30)) rfl ?_
                      refine E_nil ?_
                      refine E_nx ?_
                      refine E_sq ?_
                      refine E_reg ?_
                      refine E_mv (v' := (.int .i64 wid_30)) rfl ?_
                      refine E_op0 (v' := (.bool (wid_30 == 8))) rfl rfl ?_
                      refine E_nil ?_
                      refine E_nx ?_
                      refine E_cs (t := (wid_30 == 8)) rfl (fun hb => ?_) (fun hb => ?_)
                      · rw [ite_t hb] at h
                        refine E_reg ?_
                        refine E_mv (v' := (.ref 0 2 0 (List.length l_29) none)) rfl ?_
                        refine E_op0 (v' := (.ptr 1 0 2)) rfl rfl ?_
                        refine E_op (v' := (.int .u64 i_26.Imm)) (S' := [.arr 2 (flat (avI .u8) l_29), .arr 0 [(.int .u8 i_26.Op), (.int .i64 i_26.Arg), (.int .u64 i_26.Imm)]]) rfl rfl rfl ?_
                        obtain ⟨low_31, hlow_31, h⟩ := bd_some h
                        refine E_callW (windlassref03_low_ev (fuel := fuel)  hlow_31) rfl ⟨(.refl _), (.refl _), trivial⟩ (blwL_of ⟨rfl, rfl, trivial⟩) ((encI .u8).blws 0) ?_
                        obtain ⟨l_32, hl_32, h⟩ := bd_some h
                        refine E_apL (S' := [.arr 3 (flat (avI .u8) l_32), .arr 0 [(.int .u8 i_26.Op), (.int .i64 i_26.Arg), (.int .u64 i_26.Imm)]]) (encI .u8) rfl (src_sl low_31) rfl hl_32 rfl ?_
                        refine E_mv (v' := (.ref 0 3 0 (List.length l_32) none)) rfl ?_
                        refine E_nil ?_
                        cases h
                        exact L_nn rfl (wk_rn [some (0, 0)] rfl (Nat.le_of_ble_eq_true rfl) ⟨(rn_ob rfl rfl (.refl ((encI .u8).blwf 0 _)) rfl), trivial⟩ ⟨(rn_b rfl), (rn_b rfl), (rn_refL (encI .u8) rfl rfl rfl), (rn_b (Func.enc.blws 0)), (rn_b rfl), (rn_b rfl), (rn_b (Instr.enc.blws 0)), trivial⟩)
                      · rw [ite_f hb] at h
                        refine E_reg ?_
                        refine E_mv (v' := (.ref 0 2 0 (List.length l_29) none)) rfl ?_
                        refine E_op0 (v' := (.ptr 1 0 1)) rfl rfl ?_
                        refine E_op (v' := (.int .i64 i_26.Arg)) (S' := [.arr 2 (flat (avI .u8) l_29), .arr 0 [(.int .u8 i_26.Op), (.int .i64 i_26.Arg), (.int .u64 i_26.Imm)]]) rfl rfl rfl ?_
                        refine E_op0 (v' := (.int .u64 (U64 i_26.Arg))) rfl rfl ?_
                        refine E_mv (v' := (.int .i64 wid_30)) rfl ?_
                        obtain ⟨low_33, hlow_33, h⟩ := bd_some h
                        refine E_callW (windlassref03_low_ev (fuel := fuel)  hlow_33) rfl ⟨(.refl _), (.refl _), trivial⟩ (blwL_of ⟨rfl, rfl, trivial⟩) ((encI .u8).blws 0) ?_
                        obtain ⟨l_34, hl_34, h⟩ := bd_some h
                        refine E_apL (S' := [.arr 3 (flat (avI .u8) l_34), .arr 0 [(.int .u8 i_26.Op), (.int .i64 i_26.Arg), (.int .u64 i_26.Imm)]]) (encI .u8) rfl (src_sl low_33) rfl hl_34 rfl ?_
                        refine E_mv (v' := (.ref 0 3 0 (List.length l_34) none)) rfl ?_
                        refine E_nil ?_
                        cases h
                        exact L_nn rfl (wk_rn [some (0, 0)] rfl (Nat.le_of_ble_eq_true rfl) ⟨(rn_ob rfl rfl (.refl ((encI .u8).blwf 0 _)) rfl), trivial⟩ ⟨(rn_b rfl), (rn_b rfl), (rn_refL (encI .u8) rfl rfl rfl), (rn_b (Func.enc.blws 0)), (rn_b rfl), (rn_b rfl), (rn_b (Instr.enc.blws 0)), trivial⟩)
                  · cases h
                    exact X_nn rfl hw (wk_rn [some (0, 0)] rfl (Nat.le_of_ble_eq_true rfl) ⟨(rn_ob rfl rfl (.refl ((encI .u8).blwf 0 _)) rfl), trivial⟩ ⟨(rn_b rfl), (rn_b rfl), (rn_refL (encI .u8) rfl rfl rfl), (rn_b (Func.enc.blws 0)), trivial⟩)
      · refine X_nx hw ?_
        refine E_sq ?_
        refine E_reg ?_
        refine E_mv (v' := (.ref 0 1 0 (List.length s_3) none)) rfl ?_
        refine E_mv (v' := (.ref 0 1 0 (List.length s_3) none)) rfl ?_
        refine E_mv (v' := (.bool true)) rfl ?_
        refine E_nil ?_
        refine E_nx ?_
        refine E_ret ?_
        cases h
        exact ⟨trivial, _, rfl, (fz_tup ⟨(fz_ref (encI .u8) (Nat.zero_le _) rfl), (fz_b rfl (.refl _)), trivial⟩)⟩
/- windlass/windlassref02.Number -/
def fc46 : FC := (.seq (.reg [⟨(some 2), none, .op (.mv (.v (.str (ByteArray.mk #[]))))⟩] [])
  (.seq (.reg [⟨(some 3), none, .op (.mv (.v (.str (ByteArray.mk #[]))))⟩] [])
  (.block 0 (.loop (.block 1 (.seq (.reg [⟨(some 4), none, .op (.mv (.t 0))⟩,
  ⟨(some 5), none, .op (.bin .none .rem (.t 4) (.v (.int .u64 10)))⟩,
  ⟨(some 6), none, .op (.bin .none .add (.v (.int .u64 48)) (.t 5))⟩,
  ⟨(some 7), none, .op (.cint .u8 (.t 6))⟩,
  ⟨(some 8), none, .op (.bsl none [(.int .u8 0)] 1 [(0, 1, (.t 7))])⟩,
  ⟨(some 9), none, .op (.b2s (.t 8))⟩,
  ⟨(some 10), none, .op (.mv (.t 3))⟩,
  ⟨(some 11), none, .op (.bin .none .add (.t 9) (.t 10))⟩,
  ⟨(some 3), none, .op (.mv (.t 11))⟩] [])
  (.seq (.reg [⟨(some 12), none, .op (.mv (.t 0))⟩,
  ⟨(some 13), none, .op (.bin .none .quo (.t 12) (.v (.int .u64 10)))⟩,
  ⟨(some 0), none, .op (.mv (.t 13))⟩] [])
  (.seq (.reg [⟨(some 14), none, .op (.mv (.t 0))⟩,
  ⟨(some 15), none, .op (.bin .none .eql (.t 14) (.v (.int .u64 0)))⟩] [])
  (.cond (.t 15)
  (.seq (.reg [⟨(some 16), none, .op (.mv (.t 3))⟩,
  ⟨(some 2), none, .op (.mv (.t 16))⟩] [])
  .ret)
  .skip)))))))))
theorem fn46 : Fn3 Tryd.prog 46 17 [(2, none)] fc46 := ⟨_, _, Tryd.func46, rfl, rfl, rfl, by kernel_rfl⟩
def windlassref02_Number_s (fuel : Nat) (n_00 : Int) : Option ByteArray :=
  ((whileN (fun (s_1 : (Int × ByteArray)) => (((toStr ([(U8 (U64 (48 + (Int.tmod s_1.1 10))))])).bind fun s_2 => ((catS s_2 s_1.2).bind fun s_3 => (if ((U64 (Int.tdiv s_1.1 10)) == 0) then (some (.ret (some s_3))) else (some (.nxt ((U64 (Int.tdiv s_1.1 10)), s_3)))))) : Option (Stp (Int × ByteArray) (Option ByteArray)))) fuel (n_00, (ByteArray.mk #[]))).bind (oc (fun (s_1 : (Int × ByteArray)) => none)))
theorem windlassref02_Number_ev {fuel : Nat} {n_00 : Int} {r : ByteArray} (h : windlassref02_Number_s fuel n_00 = some r) : PureEv Tryd.prog 46 [(.int .u64 n_00)] (.str r) := by
  unfold windlassref02_Number_s at h
  refine PureEv_end mixed fn46 (by simp) [] 6 ?_
  unfold fc46
  refine E_sq ?_
  refine E_reg ?_
  refine E_mv (v' := (.str (ByteArray.mk #[]))) rfl ?_
  refine E_nil ?_
  refine E_nx ?_
  refine E_sq ?_
  refine E_reg ?_
  refine E_mv (v' := (.str (ByteArray.mk #[]))) rfl ?_
  refine E_nil ?_
  refine E_nx ?_
  refine E_whileO (fun s_1 => [(0, (.int .u64 s_1.1)), (3, (.str s_1.2))]) (fun s_1 => []) h (wk_aw ⟨(.refl _), (.refl _), trivial⟩) (fun s_1 c h => ?_) (fun s_1 fr' S' h hw => ?_)
  · refine E_block ?_
    refine E_sq ?_
    refine E_reg ?_
    refine E_mv (v' := (.int .u64 s_1.1)) rfl ?_
    refine E_op0 (v' := (.int .u64 (Int.tmod s_1.1 10))) rfl rfl ?_
    refine E_op0 (v' := (.int .u64 (U64 (48 + (Int.tmod s_1.1 10))))) rfl rfl ?_
    refine E_op0 (v' := (.int .u8 (U8 (U64 (48 + (Int.tmod s_1.1 10)))))) rfl rfl ?_
    refine E_opw (v' := (.sl true 1 (List.map (avI .u8) [(U8 (U64 (48 + (Int.tmod s_1.1 10))))]))) rfl (.refl _) rfl ?_
    obtain ⟨s_2, hs_2, h⟩ := bd_some h
    refine E_b2s rfl hs_2 ?_
    refine E_mv (v' := (.str s_1.2)) rfl ?_
    obtain ⟨s_3, hs_3, h⟩ := bd_some h
    refine E_cat rfl rfl hs_3 ?_
    refine E_mv (v' := (.str s_3)) rfl ?_
    refine E_nil ?_
    refine E_nx ?_
    refine E_sq ?_
    refine E_reg ?_
    refine E_mv (v' := (.int .u64 s_1.1)) rfl ?_
    refine E_op0 (v' := (.int .u64 (U64 (Int.tdiv s_1.1 10)))) rfl rfl ?_
    refine E_mv (v' := (.int .u64 (U64 (Int.tdiv s_1.1 10)))) rfl ?_
    refine E_nil ?_
    refine E_nx ?_
    refine E_sq ?_
    refine E_reg ?_
    refine E_mv (v' := (.int .u64 (U64 (Int.tdiv s_1.1 10)))) rfl ?_
    refine E_op0 (v' := (.bool ((U64 (Int.tdiv s_1.1 10)) == 0))) rfl rfl ?_
    refine E_nil ?_
    refine E_nx ?_
    refine E_cs (t := ((U64 (Int.tdiv s_1.1 10)) == 0)) rfl (fun hb => ?_) (fun hb => ?_)
    · rw [ite_t hb] at h
      refine E_sq ?_
      refine E_reg ?_
      refine E_mv (v' := (.str s_3)) rfl ?_
      refine E_mv (v' := (.str s_3)) rfl ?_
      refine E_nil ?_
      refine E_nx ?_
      refine E_ret ?_
      refine E_blr ?_
      cases h
      refine L_rrO rfl (fun h => ?_)
      cases h
      exact ⟨trivial, _, rfl, (fz_b rfl (.refl _))⟩
    · rw [ite_f hb] at h
      refine E_skip ?_
      refine E_bln ?_
      cases h
      exact L_nn rfl (wk_aw ⟨(.refl _), (.refl _), trivial⟩)
  · cases h
/- windlass/windlassref04.Head -/
def fc70 : FC := (.seq (.reg [⟨(some 1), none, .op (.box (.t 0))⟩,
  ⟨(some 2), none, .op (.mv (.v (.str (ByteArray.mk #[]))))⟩] [])
  (.seq (.reg [⟨(some 6), none, .op (.fad 0 (.t 1))⟩,
  ⟨(some 7), none, .op (.load none (.t 6))⟩,
  ⟨(some 8), none, .op (.cint .u64 (.t 7))⟩,
  ⟨(some 9), none, .call 46 [(.t 8)]⟩,
  ⟨(some 10), none, .op (.bin .none .add (.v (.str (ByteArray.mk #[102, 117, 110, 99, 32]))) (.t 9))⟩,
  ⟨(some 11), none, .op (.bin .none .add (.t 10) (.v (.str (ByteArray.mk #[32]))))⟩,
  ⟨(some 3), none, .op (.mv (.t 11))⟩] [])
  (.seq (.seq (.reg [⟨(some 12), none, .op (.fad 1 (.t 1))⟩,
  ⟨(some 13), none, .op (.load none (.t 12))⟩,
  ⟨(some 14), none, .op (.len .sl (.t 13))⟩,
  ⟨(some 15), none, .op (.mv (.v (.int .i64 0)))⟩] [])
  (.block 0 (.loop (.seq (.reg [⟨(some 16), none, .op (.bin .none .lss (.t 15) (.t 14))⟩] [])
  (.seq (.cond (.t 16)
  .skip
  (.exit 0))
  (.seq (.block 1 (.seq (.reg [⟨(some 17), none, .op (.iad none none (.t 13) (.t 15))⟩,
  ⟨(some 18), none, .op (.load none (.t 17))⟩,
  ⟨(some 5), none, .op (.mv (.t 18))⟩] [])
  (.seq (.reg [⟨(some 19), none, .op (.mv (.t 5))⟩,
  ⟨(some 20), none, .op (.bin .none .eql (.t 19) (.v (.int .u8 0)))⟩] [])
  (.cond (.t 20)
  (.reg [⟨(some 21), none, .op (.mv (.t 3))⟩,
  ⟨(some 22), none, .op (.bin .none .add (.t 21) (.v (.str (ByteArray.mk #[110]))))⟩,
  ⟨(some 3), none, .op (.mv (.t 22))⟩] [])
  (.reg [⟨(some 23), none, .op (.mv (.t 3))⟩,
  ⟨(some 24), none, .op (.bin .none .add (.t 23) (.v (.str (ByteArray.mk #[112]))))⟩,
  ⟨(some 3), none, .op (.mv (.t 24))⟩] [])))))
  (.reg [⟨(some 25), none, .op (.bin .none .add (.t 15) (.v (.int .i64 1)))⟩,
  ⟨(some 15), none, .op (.mv (.t 25))⟩] [])))))))
  (.seq (.seq (.reg [⟨(some 26), none, .op (.fad 1 (.t 1))⟩,
  ⟨(some 27), none, .op (.load none (.t 26))⟩,
  ⟨(some 28), none, .op (.len .sl (.t 27))⟩,
  ⟨(some 29), none, .op (.bin .none .eql (.t 28) (.v (.int .i64 0)))⟩] [])
  (.cond (.t 29)
  (.reg [⟨(some 30), none, .op (.mv (.t 3))⟩,
  ⟨(some 31), none, .op (.bin .none .add (.t 30) (.v (.str (ByteArray.mk #[45]))))⟩,
  ⟨(some 3), none, .op (.mv (.t 31))⟩] [])
  .skip))
  (.seq (.seq (.reg [⟨(some 32), none, .op (.fad 2 (.t 1))⟩,
  ⟨(some 33), none, .op (.load none (.t 32))⟩] [])
  (.cond (.t 33)
  (.reg [⟨(some 34), none, .op (.mv (.t 3))⟩,
  ⟨(some 35), none, .op (.bin .none .add (.t 34) (.v (.str (ByteArray.mk #[32, 49, 32]))))⟩,
  ⟨(some 3), none, .op (.mv (.t 35))⟩] [])
  (.reg [⟨(some 36), none, .op (.mv (.t 3))⟩,
  ⟨(some 37), none, .op (.bin .none .add (.t 36) (.v (.str (ByteArray.mk #[32, 48, 32]))))⟩,
  ⟨(some 3), none, .op (.mv (.t 37))⟩] [])))
  (.seq (.seq (.reg [⟨(some 38), none, .op (.fad 3 (.t 1))⟩,
  ⟨(some 39), none, .op (.load none (.t 38))⟩,
  ⟨(some 40), none, .op (.bin .none .lss (.t 39) (.v (.int .i64 0)))⟩] [])
  (.cond (.t 40)
  (.seq (.reg [⟨(some 41), none, .op (.mv (.t 3))⟩,
  ⟨(some 42), none, .op (.bin .none .add (.t 41) (.v (.str (ByteArray.mk #[45]))))⟩,
  ⟨(some 2), none, .op (.mv (.t 42))⟩] [])
  .ret)
  .skip))
  (.seq (.reg [⟨(some 43), none, .op (.mv (.t 3))⟩,
  ⟨(some 44), none, .op (.fad 3 (.t 1))⟩,
  ⟨(some 45), none, .op (.load none (.t 44))⟩,
  ⟨(some 46), none, .op (.cint .u64 (.t 45))⟩,
  ⟨(some 47), none, .call 46 [(.t 46)]⟩,
  ⟨(some 48), none, .op (.bin .none .add (.t 43) (.t 47))⟩,
  ⟨(some 2), none, .op (.mv (.t 48))⟩] [])
  .ret)))))))
theorem fn70 : Fn3 Tryd.prog 70 49 [(2, none)] fc70 := ⟨_, _, Tryd.func70, rfl, rfl, rfl, by kernel_rfl⟩
def windlassref04_Head_s (fuel : Nat) (f_00 : Func) : Option ByteArray :=
  ((windlassref02_Number_s fuel (U64 f_00.Params)).bind fun num_1 => ((catS (ByteArray.mk #[102, 117, 110, 99, 32]) num_1).bind fun s_2 => ((catS s_2 (ByteArray.mk #[32])).bind fun s_3 => ((rng (fun (i_5 : Nat) (k_6 : Int) (s_4 : ByteArray) => ((if (k_6 == 0) then ((catS s_4 (ByteArray.mk #[110])).bind fun s_8 => (some (.nxt s_8))) else ((catS s_4 (ByteArray.mk #[112])).bind fun s_9 => (some (.nxt s_9)))) : Option (Stp ByteArray (Option ByteArray)))) f_00.Locals s_3).bind (oc (fun (s_4 : ByteArray) => (jp (fun (s_11 : ByteArray) => (jp (fun (s_14 : ByteArray) => (if (decide (f_00.Keep < 0)) then ((catS s_14 (ByteArray.mk #[45])).bind fun s_17 => (some s_17)) else ((windlassref02_Number_s fuel (U64 f_00.Keep)).bind fun num_18 => ((catS s_14 num_18).bind fun s_19 => (some s_19))))) (fun k_13 => (if f_00.Result then ((catS s_11 (ByteArray.mk #[32, 49, 32])).bind fun s_15 => (k_13 s_15)) else ((catS s_11 (ByteArray.mk #[32, 48, 32])).bind fun s_16 => (k_13 s_16)))))) (fun k_10 => (if ((List.length f_00.Locals : Int) == 0) then ((catS s_4 (ByteArray.mk #[45])).bind fun s_12 => (k_10 s_12)) else (k_10 s_4))))))))))
theorem windlassref04_Head_ev {fuel : Nat} {f_00 : Func} {r : ByteArray} (h : windlassref04_Head_s fuel f_00 = some r) : PureEv Tryd.prog 70 [(Func.av f_00)] (.str r) := by
  unfold windlassref04_Head_s at h
  refine PureEv_end mixed fn70 (by simp) [] 6 ?_
  unfold fc70
  refine E_sq ?_
  refine E_reg ?_
  refine E_op0 (v' := (.cptr (Func.av f_00).cells 0)) rfl rfl ?_
  refine E_mv (v' := (.str (ByteArray.mk #[]))) rfl ?_
  refine E_nil ?_
  refine E_nx ?_
  refine E_sq ?_
  refine E_reg ?_
  refine E_op0 (v' := (.cptr (Func.av f_00).cells 0)) rfl rfl ?_
  refine E_op0 (v' := (.int .i64 f_00.Params)) rfl rfl ?_
  refine E_op0 (v' := (.int .u64 (U64 f_00.Params))) rfl rfl ?_
  obtain ⟨num_1, hnum_1, h⟩ := bd_some h
  refine E_callW (windlassref02_Number_ev (fuel := fuel)  hnum_1) rfl ⟨(.refl _), trivial⟩ (blwL_of ⟨rfl, trivial⟩) rfl ?_
  obtain ⟨s_2, hs_2, h⟩ := bd_some h
  refine E_cat rfl rfl hs_2 ?_
  obtain ⟨s_3, hs_3, h⟩ := bd_some h
  refine E_cat rfl rfl hs_3 ?_
  refine E_mv (v' := (.str s_3)) rfl ?_
  refine E_nil ?_
  refine E_nx ?_
  refine E_as ?_
  refine E_sq ?_
  refine E_reg ?_
  refine E_op0 (v' := (.cptr (Func.av f_00).cells 1)) rfl rfl ?_
  refine E_op0 (v' := (.sl false 1 (List.map (avI .u8) f_00.Locals))) rfl rfl ?_
  refine E_len rfl ?_
  refine E_mv (v' := (.int .i64 0)) rfl ?_
  refine E_nil ?_
  refine E_nx ?_
  refine E_sq ?_
  refine E_rngO (fun s_4 => [(1, (.cptr (Func.av f_00).cells 0)), (3, (.str s_4)), (13, (.sl false 1 (List.map (avI .u8) f_00.Locals)))]) (fun s_4 => []) h (by decide) (by decide) (fun _ => ⟨rfl, rfl, rfl, rfl⟩) (wk_aw ⟨(.refl _), (.refl _), (.refl _), (.refl _), (.refl _), trivial⟩) (fun i_5 k_6 s_4 c hx_7 hlt h => ?_) (fun s_4 fr' S' h hw => ?_)
  · refine E_sq ?_
    refine E_reg ?_
    refine E_iadF rfl rfl (getI_of hx_7) ?_
    refine E_op0 (v' := (.int .u8 k_6)) rfl rfl ?_
    refine E_mv (v' := (.int .u8 k_6)) rfl ?_
    refine E_nil ?_
    refine E_nx ?_
    refine E_sq ?_
    refine E_reg ?_
    refine E_mv (v' := (.int .u8 k_6)) rfl ?_
    refine E_op0 (v' := (.bool (k_6 == 0))) rfl rfl ?_
    refine E_nil ?_
    refine E_nx ?_
    refine E_cs (t := (k_6 == 0)) rfl (fun hb => ?_) (fun hb => ?_)
    · rw [ite_t hb] at h
      refine E_reg ?_
      refine E_mv (v' := (.str s_4)) rfl ?_
      obtain ⟨s_8, hs_8, h⟩ := bd_some h
      refine E_cat rfl rfl hs_8 ?_
      refine E_mv (v' := (.str s_8)) rfl ?_
      refine E_nil ?_
      cases h
      exact L_nn rfl (wk_aw ⟨(.refl _), (.refl _), (.refl _), (.refl _), (.refl _), trivial⟩)
    · rw [ite_f hb] at h
      refine E_reg ?_
      refine E_mv (v' := (.str s_4)) rfl ?_
      obtain ⟨s_9, hs_9, h⟩ := bd_some h
      refine E_cat rfl rfl hs_9 ?_
      refine E_mv (v' := (.str s_9)) rfl ?_
      refine E_nil ?_
      cases h
      exact L_nn rfl (wk_aw ⟨(.refl _), (.refl _), (.refl _), (.refl _), (.refl _), trivial⟩)
  · refine X_nx hw ?_
    refine E_as ?_
    refine E_sq ?_
    refine E_reg ?_
    refine E_op0 (v' := (.cptr (Func.av f_00).cells 1)) rfl rfl ?_
    refine E_op0 (v' := (.sl false 1 (List.map (avI .u8) f_00.Locals))) rfl rfl ?_
    refine E_len rfl ?_
    refine E_op0 (v' := (.bool ((List.length f_00.Locals : Int) == 0))) rfl rfl ?_
    refine E_nil ?_
    refine E_nx ?_
    refine E_jp h (fun s_11 => [(1, (.cptr (Func.av f_00).cells 0)), (3, (.str s_11))]) (fun s_11 => []) (fun k_10 h => ?_) (fun s_11 h => ?_)
    · refine E_cs (t := ((List.length f_00.Locals : Int) == 0)) rfl (fun hb => ?_) (fun hb => ?_)
      · rw [ite_t hb] at h
        refine E_reg ?_
        refine E_mv (v' := (.str s_4)) rfl ?_
        obtain ⟨s_12, hs_12, h⟩ := bd_some h
        refine E_cat rfl rfl hs_12 ?_
        refine E_mv (v' := (.str s_12)) rfl ?_
        refine E_nil ?_
        exact E_jx _ h (wk_aw ⟨(.refl _), (.refl _), trivial⟩)
      · rw [ite_f hb] at h
        refine E_skip ?_
        exact E_jx _ h (wk_aw ⟨(.refl _), (.refl _), trivial⟩)
    · refine E_as ?_
      refine E_sq ?_
      refine E_reg ?_
      refine E_op0 (v' := (.cptr (Func.av f_00).cells 2)) rfl rfl ?_
      refine E_op0 (v' := (.bool f_00.Result)) rfl rfl ?_
      refine E_nil ?_
      refine E_nx ?_
      refine E_jp h (fun s_14 => [(1, (.cptr (Func.av f_00).cells 0)), (3, (.str s_14))]) (fun s_14 => []) (fun k_13 h => ?_) (fun s_14 h => ?_)
      · refine E_cs (t := f_00.Result) rfl (fun hb => ?_) (fun hb => ?_)
        · rw [ite_t hb] at h
          refine E_reg ?_
          refine E_mv (v' := (.str s_11)) rfl ?_
          obtain ⟨s_15, hs_15, h⟩ := bd_some h
          refine E_cat rfl rfl hs_15 ?_
          refine E_mv (v' := (.str s_15)) rfl ?_
          refine E_nil ?_
          exact E_jx _ h (wk_aw ⟨(.refl _), (.refl _), trivial⟩)
        · rw [ite_f hb] at h
          refine E_reg ?_
          refine E_mv (v' := (.str s_11)) rfl ?_
          obtain ⟨s_16, hs_16, h⟩ := bd_some h
          refine E_cat rfl rfl hs_16 ?_
          refine E_mv (v' := (.str s_16)) rfl ?_
          refine E_nil ?_
          exact E_jx _ h (wk_aw ⟨(.refl _), (.refl _), trivial⟩)
      · refine E_as ?_
        refine E_sq ?_
        refine E_reg ?_
        refine E_op0 (v' := (.cptr (Func.av f_00).cells 3)) rfl rfl ?_
        refine E_op0 (v' := (.int .i64 f_00.Keep)) rfl rfl ?_
        refine E_op0 (v' := (.bool (decide (f_00.Keep < 0)))) rfl rfl ?_
        refine E_nil ?_
        refine E_nx ?_
        refine E_sq ?_
        refine E_cs (t := (decide (f_00.Keep < 0))) rfl (fun hb => ?_) (fun hb => ?_)
        · rw [ite_t hb] at h
          refine E_sq ?_
          refine E_reg ?_
          refine E_mv (v' := (.str s_14)) rfl ?_
          obtain ⟨s_17, hs_17, h⟩ := bd_some h
          refine E_cat rfl rfl hs_17 ?_
          refine E_mv (v' := (.str s_17)) rfl ?_
          refine E_nil ?_
          refine E_nx ?_
          refine E_ret ?_
          refine E_thr ?_
          cases h
          exact ⟨trivial, _, rfl, (fz_b rfl (.refl _))⟩
        · rw [ite_f hb] at h
          refine E_skip ?_
          refine E_nx ?_
          refine E_sq ?_
          refine E_reg ?_
          refine E_mv (v' := (.str s_14)) rfl ?_
          refine E_op0 (v' := (.cptr (Func.av f_00).cells 3)) rfl rfl ?_
          refine E_op0 (v' := (.int .i64 f_00.Keep)) rfl rfl ?_
          refine E_op0 (v' := (.int .u64 (U64 f_00.Keep))) rfl rfl ?_
          obtain ⟨num_18, hnum_18, h⟩ := bd_some h
          refine E_callW (windlassref02_Number_ev (fuel := fuel)  hnum_18) rfl ⟨(.refl _), trivial⟩ (blwL_of ⟨rfl, trivial⟩) rfl ?_
          obtain ⟨s_19, hs_19, h⟩ := bd_some h
          refine E_cat rfl rfl hs_19 ?_
          refine E_mv (v' := (.str s_19)) rfl ?_
          refine E_nil ?_
          refine E_nx ?_
          refine E_ret ?_
          cases h
          exact ⟨trivial, _, rfl, (fz_b rfl (.refl _))⟩
/- windlass/windlassref04.Name -/
def fc103 : FC := (.seq (.reg [⟨(some 2), none, .op (.mv (.v (.str (ByteArray.mk #[]))))⟩] [])
  (.seq (.reg [⟨(some 3), none, .op (.bsl none [(.str (ByteArray.mk #[]))] 32 [(0, 1, (.v (.str (ByteArray.mk #[99, 111, 110, 115, 116])))), (1, 1, (.v (.str (ByteArray.mk #[103, 101, 116])))), (2, 1, (.v (.str (ByteArray.mk #[115, 101, 116])))), (3, 1, (.v (.str (ByteArray.mk #[97, 100, 100, 114])))), (4, 1, (.v (.str (ByteArray.mk #[108, 111, 97, 100])))), (5, 1, (.v (.str (ByteArray.mk #[115, 116, 111, 114, 101])))), (6, 1, (.v (.str (ByteArray.mk #[97, 100, 100])))), (7, 1, (.v (.str (ByteArray.mk #[115, 117, 98])))), (8, 1, (.v (.str (ByteArray.mk #[109, 117, 108])))), (9, 1, (.v (.str (ByteArray.mk #[100, 105, 118])))), (10, 1, (.v (.str (ByteArray.mk #[114, 101, 109])))), (11, 1, (.v (.str (ByteArray.mk #[97, 110, 100])))), (12, 1, (.v (.str (ByteArray.mk #[111, 114])))), (13, 1, (.v (.str (ByteArray.mk #[120, 111, 114])))), (14, 1, (.v (.str (ByteArray.mk #[115, 104, 108])))), (15, 1, (.v (.str (ByteArray.mk #[115, 104, 114])))), (16, 1, (.v (.str (ByteArray.mk #[115, 97, 114])))), (17, 1, (.v (.str (ByteArray.mk #[101, 113])))), (18, 1, (.v (.str (ByteArray.mk #[108, 116])))), (19, 1, (.v (.str (ByteArray.mk #[98, 101, 108, 111, 119])))), (20, 1, (.v (.str (ByteArray.mk #[106, 117, 109, 112])))), (21, 1, (.v (.str (ByteArray.mk #[122, 101, 114, 111])))), (22, 1, (.v (.str (ByteArray.mk #[99, 97, 108, 108])))), (23, 1, (.v (.str (ByteArray.mk #[114, 101, 116])))), (24, 1, (.v (.str (ByteArray.mk #[100, 101, 102, 101, 114])))), (25, 1, (.v (.str (ByteArray.mk #[112, 97, 110, 105, 99])))), (26, 1, (.v (.str (ByteArray.mk #[114, 101, 99, 111, 118, 101, 114])))), (27, 1, (.v (.str (ByteArray.mk #[105, 110])))), (28, 1, (.v (.str (ByteArray.mk #[111, 117, 116])))), (29, 1, (.v (.str (ByteArray.mk #[101, 120, 105, 116])))), (30, 1, (.v (.str (ByteArray.mk #[100, 114, 111, 112])))), (31, 1, (.v (.str (ByteArray.mk #[100, 117, 112]))))])⟩,
  ⟨(some 4), none, .op (.mv (.t 0))⟩,
  ⟨(some 5), none, .op (.bin .none .sub (.t 4) (.v (.int .u8 1)))⟩,
  ⟨(some 6), none, .op (.iad none none (.t 3) (.t 5))⟩,
  ⟨(some 7), none, .op (.load none (.t 6))⟩,
  ⟨(some 2), none, .op (.mv (.t 7))⟩] [])
  .ret))
theorem fn103 : Fn3 Tryd.prog 103 8 [(2, none)] fc103 := ⟨_, _, Tryd.func103, rfl, rfl, rfl, by kernel_rfl⟩
def windlassref04_Name_s (op_00 : Int) : Option ByteArray :=
  ((getI [(ByteArray.mk #[99, 111, 110, 115, 116]), (ByteArray.mk #[103, 101, 116]), (ByteArray.mk #[115, 101, 116]), (ByteArray.mk #[97, 100, 100, 114]), (ByteArray.mk #[108, 111, 97, 100]), (ByteArray.mk #[115, 116, 111, 114, 101]), (ByteArray.mk #[97, 100, 100]), (ByteArray.mk #[115, 117, 98]), (ByteArray.mk #[109, 117, 108]), (ByteArray.mk #[100, 105, 118]), (ByteArray.mk #[114, 101, 109]), (ByteArray.mk #[97, 110, 100]), (ByteArray.mk #[111, 114]), (ByteArray.mk #[120, 111, 114]), (ByteArray.mk #[115, 104, 108]), (ByteArray.mk #[115, 104, 114]), (ByteArray.mk #[115, 97, 114]), (ByteArray.mk #[101, 113]), (ByteArray.mk #[108, 116]), (ByteArray.mk #[98, 101, 108, 111, 119]), (ByteArray.mk #[106, 117, 109, 112]), (ByteArray.mk #[122, 101, 114, 111]), (ByteArray.mk #[99, 97, 108, 108]), (ByteArray.mk #[114, 101, 116]), (ByteArray.mk #[100, 101, 102, 101, 114]), (ByteArray.mk #[112, 97, 110, 105, 99]), (ByteArray.mk #[114, 101, 99, 111, 118, 101, 114]), (ByteArray.mk #[105, 110]), (ByteArray.mk #[111, 117, 116]), (ByteArray.mk #[101, 120, 105, 116]), (ByteArray.mk #[100, 114, 111, 112]), (ByteArray.mk #[100, 117, 112])] (U8 (op_00 - 1))).bind fun y_1 => (some y_1))
theorem windlassref04_Name_ev {op_00 : Int} {r : ByteArray} (h : windlassref04_Name_s op_00 = some r) : PureEv Tryd.prog 103 [(.int .u8 op_00)] (.str r) := by
  unfold windlassref04_Name_s at h
  refine PureEv_end mixed fn103 (by simp) [] 6 ?_
  unfold fc103
  refine E_sq ?_
  refine E_reg ?_
  refine E_mv (v' := (.str (ByteArray.mk #[]))) rfl ?_
  refine E_nil ?_
  refine E_nx ?_
  refine E_sq ?_
  refine E_reg ?_
  refine E_opw (v := (.sl true 1 (List.map avS [(ByteArray.mk #[99, 111, 110, 115, 116]), (ByteArray.mk #[103, 101, 116]), (ByteArray.mk #[115, 101, 116]), (ByteArray.mk #[97, 100, 100, 114]), (ByteArray.mk #[108, 111, 97, 100]), (ByteArray.mk #[115, 116, 111, 114, 101]), (ByteArray.mk #[97, 100, 100]), (ByteArray.mk #[115, 117, 98]), (ByteArray.mk #[109, 117, 108]), (ByteArray.mk #[100, 105, 118]), (ByteArray.mk #[114, 101, 109]), (ByteArray.mk #[97, 110, 100]), (ByteArray.mk #[111, 114]), (ByteArray.mk #[120, 111, 114]), (ByteArray.mk #[115, 104, 108]), (ByteArray.mk #[115, 104, 114]), (ByteArray.mk #[115, 97, 114]), (ByteArray.mk #[101, 113]), (ByteArray.mk #[108, 116]), (ByteArray.mk #[98, 101, 108, 111, 119]), (ByteArray.mk #[106, 117, 109, 112]), (ByteArray.mk #[122, 101, 114, 111]), (ByteArray.mk #[99, 97, 108, 108]), (ByteArray.mk #[114, 101, 116]), (ByteArray.mk #[100, 101, 102, 101, 114]), (ByteArray.mk #[112, 97, 110, 105, 99]), (ByteArray.mk #[114, 101, 99, 111, 118, 101, 114]), (ByteArray.mk #[105, 110]), (ByteArray.mk #[111, 117, 116]), (ByteArray.mk #[101, 120, 105, 116]), (ByteArray.mk #[100, 114, 111, 112]), (ByteArray.mk #[100, 117, 112])]))) (v' := (.sl true 1 (List.map avS [(ByteArray.mk #[99, 111, 110, 115, 116]), (ByteArray.mk #[103, 101, 116]), (ByteArray.mk #[115, 101, 116]), (ByteArray.mk #[97, 100, 100, 114]), (ByteArray.mk #[108, 111, 97, 100]), (ByteArray.mk #[115, 116, 111, 114, 101]), (ByteArray.mk #[97, 100, 100]), (ByteArray.mk #[115, 117, 98]), (ByteArray.mk #[109, 117, 108]), (ByteArray.mk #[100, 105, 118]), (ByteArray.mk #[114, 101, 109]), (ByteArray.mk #[97, 110, 100]), (ByteArray.mk #[111, 114]), (ByteArray.mk #[120, 111, 114]), (ByteArray.mk #[115, 104, 108]), (ByteArray.mk #[115, 104, 114]), (ByteArray.mk #[115, 97, 114]), (ByteArray.mk #[101, 113]), (ByteArray.mk #[108, 116]), (ByteArray.mk #[98, 101, 108, 111, 119]), (ByteArray.mk #[106, 117, 109, 112]), (ByteArray.mk #[122, 101, 114, 111]), (ByteArray.mk #[99, 97, 108, 108]), (ByteArray.mk #[114, 101, 116]), (ByteArray.mk #[100, 101, 102, 101, 114]), (ByteArray.mk #[112, 97, 110, 105, 99]), (ByteArray.mk #[114, 101, 99, 111, 118, 101, 114]), (ByteArray.mk #[105, 110]), (ByteArray.mk #[111, 117, 116]), (ByteArray.mk #[101, 120, 105, 116]), (ByteArray.mk #[100, 114, 111, 112]), (ByteArray.mk #[100, 117, 112])]))) (rd := []) (δ := none) (by kernel_rfl) (.refl _) rfl ?_
  refine E_mv (v' := (.int .u8 op_00)) rfl ?_
  refine E_op0 (v' := (.int .u8 (U8 (op_00 - 1)))) rfl rfl ?_
  obtain ⟨y_1, hy_1, h⟩ := bd_some h
  refine E_iadF rfl rfl hy_1 ?_
  refine E_op0 (v' := (.str y_1)) rfl rfl ?_
  refine E_mv (v' := (.str y_1)) rfl ?_
  refine E_nil ?_
  refine E_nx ?_
  refine E_ret ?_
  cases h
  exact ⟨trivial, _, rfl, (fz_b rfl (.refl _))⟩
/- windlass/windlassref04.Line -/
def fc71 : FC := (.seq (.reg [⟨(some 1), none, .op (.box (.t 0))⟩,
  ⟨(some 2), none, .op (.mv (.v (.str (ByteArray.mk #[]))))⟩] [])
  (.seq (.seq (.reg [⟨(some 3), none, .op (.fad 0 (.t 1))⟩,
  ⟨(some 4), none, .op (.load none (.t 3))⟩,
  ⟨(some 5), none, .call 69 [(.t 4)]⟩] [])
  (.block 0 (.seq (.reg [⟨(some 7), none, .op (.bin .none .eql (.t 5) (.v (.int .i64 8)))⟩,
  ⟨(some 6), none, .op (.mv (.t 7))⟩] [])
  (.cond (.t 6)
  (.seq (.reg [⟨(some 8), none, .op (.fad 0 (.t 1))⟩,
  ⟨(some 9), none, .op (.load none (.t 8))⟩,
  ⟨(some 10), none, .call 103 [(.t 9)]⟩,
  ⟨(some 11), none, .op (.bin .none .add (.t 10) (.v (.str (ByteArray.mk #[32]))))⟩,
  ⟨(some 12), none, .op (.fad 2 (.t 1))⟩,
  ⟨(some 13), none, .op (.load none (.t 12))⟩,
  ⟨(some 14), none, .call 46 [(.t 13)]⟩,
  ⟨(some 15), none, .op (.bin .none .add (.t 11) (.t 14))⟩,
  ⟨(some 2), none, .op (.mv (.t 15))⟩] [(2, 5)])
  .ret)
  (.seq (.reg [⟨(some 17), none, .op (.bin .none .eql (.t 5) (.v (.int .i64 0)))⟩,
  ⟨(some 16), none, .op (.mv (.t 17))⟩] [])
  (.cond (.t 16)
  (.seq (.reg [⟨(some 18), none, .op (.fad 0 (.t 1))⟩,
  ⟨(some 19), none, .op (.load none (.t 18))⟩,
  ⟨(some 20), none, .call 103 [(.t 19)]⟩,
  ⟨(some 2), none, .op (.mv (.t 20))⟩] [])
  .ret)
  .skip))))))
  (.seq (.reg [⟨(some 21), none, .op (.fad 0 (.t 1))⟩,
  ⟨(some 22), none, .op (.load none (.t 21))⟩,
  ⟨(some 23), none, .call 103 [(.t 22)]⟩,
  ⟨(some 24), none, .op (.bin .none .add (.t 23) (.v (.str (ByteArray.mk #[32]))))⟩,
  ⟨(some 25), none, .op (.fad 1 (.t 1))⟩,
  ⟨(some 26), none, .op (.load none (.t 25))⟩,
  ⟨(some 27), none, .op (.cint .u64 (.t 26))⟩,
  ⟨(some 28), none, .call 46 [(.t 27)]⟩,
  ⟨(some 29), none, .op (.bin .none .add (.t 24) (.t 28))⟩,
  ⟨(some 2), none, .op (.mv (.t 29))⟩] [(2, 5)])
  .ret)))
theorem fn71 : Fn3 Tryd.prog 71 30 [(2, none)] fc71 := ⟨_, _, Tryd.func71, rfl, rfl, rfl, by kernel_rfl⟩
def windlassref04_Line_s (fuel : Nat) (i_00 : Instr) : Option ByteArray :=
  ((windlassref03_Width_s i_00.Op).bind fun wid_1 => (if (wid_1 == 8) then ((windlassref04_Name_s i_00.Op).bind fun nam_2 => ((catS nam_2 (ByteArray.mk #[32])).bind fun s_3 => ((windlassref02_Number_s fuel i_00.Imm).bind fun num_4 => ((catS s_3 num_4).bind fun s_5 => (some s_5))))) else (if (wid_1 == 0) then ((windlassref04_Name_s i_00.Op).bind fun nam_6 => (some nam_6)) else ((windlassref04_Name_s i_00.Op).bind fun nam_7 => ((catS nam_7 (ByteArray.mk #[32])).bind fun s_8 => ((windlassref02_Number_s fuel (U64 i_00.Arg)).bind fun num_9 => ((catS s_8 num_9).bind fun s_10 => (some s_10))))))))
theorem windlassref04_Line_ev {fuel : Nat} {i_00 : Instr} {r : ByteArray} (h : windlassref04_Line_s fuel i_00 = some r) : PureEv Tryd.prog 71 [(Instr.av i_00)] (.str r) := by
  unfold windlassref04_Line_s at h
  refine PureEv_end mixed fn71 (by simp) [] 6 ?_
  unfold fc71
  refine E_sq ?_
  refine E_reg ?_
  refine E_op0 (v' := (.cptr (Instr.av i_00).cells 0)) rfl rfl ?_
  refine E_mv (v' := (.str (ByteArray.mk #[]))) rfl ?_
  refine E_nil ?_
  refine E_nx ?_
  refine E_as ?_
  refine E_sq ?_
  refine E_reg ?_
  refine E_op0 (v' := (.cptr (Instr.av i_00).cells 0)) rfl rfl ?_
  refine E_op0 (v' := (.int .u8 i_00.Op)) rfl rfl ?_
  obtain ⟨wid_1, hwid_1, h⟩ := bd_some h
  refine E_callW (windlassref03_Width_ev  hwid_1) rfl ⟨(.refl _), trivial⟩ (blwL_of ⟨rfl, trivial⟩) rfl ?_
  refine E_nil ?_
  refine E_nx ?_
  refine E_sq ?_
  refine E_block ?_
  refine E_sq ?_
  refine E_reg ?_
  refine E_op0 (v' := (.bool (wid_1 == 8))) rfl rfl ?_
  refine E_mv (v' := (.bool (wid_1 == 8))) rfl ?_
  refine E_nil ?_
  refine E_nx ?_
  refine E_cs (t := (wid_1 == 8)) rfl (fun hb => ?_) (fun hb => ?_)
  · rw [ite_t hb] at h
    refine E_sq ?_
    refine E_regp ?_
    refine E_op0 (v' := (.cptr (Instr.av i_00).cells 0)) rfl rfl ?_
    refine E_op0 (v' := (.int .u8 i_00.Op)) rfl rfl ?_
    obtain ⟨nam_2, hnam_2, h⟩ := bd_some h
    refine E_callW (windlassref04_Name_ev  hnam_2) rfl ⟨(.refl _), trivial⟩ (blwL_of ⟨rfl, trivial⟩) rfl ?_
    obtain ⟨s_3, hs_3, h⟩ := bd_some h
    refine E_cat rfl rfl hs_3 ?_
    refine E_op0 (v' := (.cptr (Instr.av i_00).cells 2)) rfl rfl ?_
    refine E_op0 (v' := (.int .u64 i_00.Imm)) rfl rfl ?_
    obtain ⟨num_4, hnum_4, h⟩ := bd_some h
    refine E_callW (windlassref02_Number_ev (fuel := fuel)  hnum_4) rfl ⟨(.refl _), trivial⟩ (blwL_of ⟨rfl, trivial⟩) rfl ?_
    obtain ⟨s_5, hs_5, h⟩ := bd_some h
    refine E_cat rfl rfl hs_5 ?_
    refine E_mv (v' := (.str s_5)) rfl ?_
    refine E_nil ?_
    refine And.intro (by simp [okLog, nthL, okPair, hp, fpOf]) ?_
    refine E_nx ?_
    refine E_ret ?_
    refine E_blr ?_
    refine E_thr ?_
    cases h
    exact ⟨trivial, _, rfl, (fz_b rfl (.refl _))⟩
  · rw [ite_f hb] at h
    refine E_sq ?_
    refine E_reg ?_
    refine E_op0 (v' := (.bool (wid_1 == 0))) rfl rfl ?_
    refine E_mv (v' := (.bool (wid_1 == 0))) rfl ?_
    refine E_nil ?_
    refine E_nx ?_
    refine E_cs (t := (wid_1 == 0)) rfl (fun hb => ?_) (fun hb => ?_)
    · rw [ite_t hb] at h
      refine E_sq ?_
      refine E_reg ?_
      refine E_op0 (v' := (.cptr (Instr.av i_00).cells 0)) rfl rfl ?_
      refine E_op0 (v' := (.int .u8 i_00.Op)) rfl rfl ?_
      obtain ⟨nam_6, hnam_6, h⟩ := bd_some h
      refine E_callW (windlassref04_Name_ev  hnam_6) rfl ⟨(.refl _), trivial⟩ (blwL_of ⟨rfl, trivial⟩) rfl ?_
      refine E_mv (v' := (.str nam_6)) rfl ?_
      refine E_nil ?_
      refine E_nx ?_
      refine E_ret ?_
      refine E_blr ?_
      refine E_thr ?_
      cases h
      exact ⟨trivial, _, rfl, (fz_b rfl (.refl _))⟩
    · rw [ite_f hb] at h
      refine E_skip ?_
      refine E_bln ?_
      refine E_nx ?_
      refine E_sq ?_
      refine E_regp ?_
      refine E_op0 (v' := (.cptr (Instr.av i_00).cells 0)) rfl rfl ?_
      refine E_op0 (v' := (.int .u8 i_00.Op)) rfl rfl ?_
      obtain ⟨nam_7, hnam_7, h⟩ := bd_some h
      refine E_callW (windlassref04_Name_ev  hnam_7) rfl ⟨(.refl _), trivial⟩ (blwL_of ⟨rfl, trivial⟩) rfl ?_
      obtain ⟨s_8, hs_8, h⟩ := bd_some h
      refine E_cat rfl rfl hs_8 ?_
      refine E_op0 (v' := (.cptr (Instr.av i_00).cells 1)) rfl rfl ?_
      refine E_op0 (v' := (.int .i64 i_00.Arg)) rfl rfl ?_
      refine E_op0 (v' := (.int .u64 (U64 i_00.Arg))) rfl rfl ?_
      obtain ⟨num_9, hnum_9, h⟩ := bd_some h
      refine E_callW (windlassref02_Number_ev (fuel := fuel)  hnum_9) rfl ⟨(.refl _), trivial⟩ (blwL_of ⟨rfl, trivial⟩) rfl ?_
      obtain ⟨s_10, hs_10, h⟩ := bd_some h
      refine E_cat rfl rfl hs_10 ?_
      refine E_mv (v' := (.str s_10)) rfl ?_
      refine E_nil ?_
      refine And.intro (by simp [okLog, nthL, okPair, hp, fpOf]) ?_
      refine E_nx ?_
      refine E_ret ?_
      cases h
      exact ⟨trivial, _, rfl, (fz_b rfl (.refl _))⟩
/- windlass/windlassref04.Text -/
def fc26 : FC := (.seq (.reg [⟨(some 1), none, .op (.box (.t 0))⟩,
  ⟨(some 2), none, .op (.mv (.v (.str (ByteArray.mk #[]))))⟩] [])
  (.seq (.reg [⟨(some 3), none, .op (.mv (.v (.str (ByteArray.mk #[]))))⟩] [])
  (.seq (.seq (.reg [⟨(some 8), none, .op (.fad 0 (.t 1))⟩,
  ⟨(some 9), none, .op (.load none (.t 8))⟩,
  ⟨(some 10), none, .op (.len .sl (.t 9))⟩,
  ⟨(some 11), none, .op (.mv (.v (.int .i64 0)))⟩] [])
  (.block 0 (.loop (.seq (.reg [⟨(some 12), none, .op (.bin .none .lss (.t 11) (.t 10))⟩] [])
  (.seq (.cond (.t 12)
  .skip
  (.exit 0))
  (.seq (.block 1 (.seq (.reg [⟨(some 13), none, .op (.iad none (some 5) (.t 9) (.t 11))⟩,
  ⟨(some 14), none, .op (.load (some 5) (.t 13))⟩,
  ⟨(some 5), none, .op (.new [(.int .i64 0), .nils, (.bool false), (.int .i64 0), .nils])⟩,
  ⟨none, none, .op (.store 5 (.t 5) (.t 14))⟩] [])
  (.seq (.reg [⟨(some 15), none, .op (.mv (.t 3))⟩,
  ⟨(some 16), none, .op (.load (some 5) (.t 5))⟩,
  ⟨(some 17), none, .call 70 [(.t 16)]⟩,
  ⟨(some 18), none, .op (.bin .none .add (.t 17) (.v (.str (ByteArray.mk #[10]))))⟩,
  ⟨(some 19), none, .op (.bin .none .add (.t 15) (.t 18))⟩,
  ⟨(some 3), none, .op (.mv (.t 19))⟩] [])
  (.seq (.reg [⟨(some 20), none, .op (.fad 4 (.t 5))⟩,
  ⟨(some 21), none, .op (.load none (.t 20))⟩,
  ⟨(some 22), none, .op (.len .sl (.t 21))⟩,
  ⟨(some 23), none, .op (.mv (.v (.int .i64 0)))⟩] [])
  (.block 2 (.loop (.seq (.reg [⟨(some 24), none, .op (.bin .none .lss (.t 23) (.t 22))⟩] [])
  (.seq (.cond (.t 24)
  .skip
  (.exit 2))
  (.seq (.block 3 (.seq (.reg [⟨(some 25), none, .op (.iad none (some 3) (.t 21) (.t 23))⟩,
  ⟨(some 26), none, .op (.load (some 3) (.t 25))⟩,
  ⟨(some 7), none, .op (.new [(.int .u8 0), (.int .i64 0), (.int .u64 0)])⟩,
  ⟨none, none, .op (.store 3 (.t 7) (.t 26))⟩] [])
  (.reg [⟨(some 27), none, .op (.mv (.t 3))⟩,
  ⟨(some 28), none, .op (.load (some 3) (.t 7))⟩,
  ⟨(some 29), none, .call 71 [(.t 28)]⟩,
  ⟨(some 30), none, .op (.bin .none .add (.t 29) (.v (.str (ByteArray.mk #[10]))))⟩,
  ⟨(some 31), none, .op (.bin .none .add (.t 27) (.t 30))⟩,
  ⟨(some 3), none, .op (.mv (.t 31))⟩] [])))
  (.reg [⟨(some 32), none, .op (.bin .none .add (.t 23) (.v (.int .i64 1)))⟩,
  ⟨(some 23), none, .op (.mv (.t 32))⟩] []))))))))))
  (.reg [⟨(some 33), none, .op (.bin .none .add (.t 11) (.v (.int .i64 1)))⟩,
  ⟨(some 11), none, .op (.mv (.t 33))⟩] [])))))))
  (.seq (.reg [⟨(some 34), none, .op (.mv (.t 3))⟩,
  ⟨(some 2), none, .op (.mv (.t 34))⟩] [])
  .ret))))
theorem fn26 : Fn3 Tryd.prog 26 35 [(2, none)] fc26 := ⟨_, _, Tryd.func26, rfl, rfl, rfl, by kernel_rfl⟩
def windlassref04_Text_s (fuel : Nat) (p_00 : Program) : Option ByteArray :=
  ((rng (fun (i_2 : Nat) (f_3 : Func) (s_1 : ByteArray) => (((windlassref04_Head_s fuel f_3).bind fun hea_5 => ((catS hea_5 (ByteArray.mk #[10])).bind fun s_6 => ((catS s_1 s_6).bind fun s_7 => ((rng (fun (i_9 : Nat) (i_10 : Instr) (s_8 : ByteArray) => (((windlassref04_Line_s fuel i_10).bind fun lin_12 => ((catS lin_12 (ByteArray.mk #[10])).bind fun s_13 => ((catS s_8 s_13).bind fun s_14 => (some (.nxt s_14))))) : Option (Stp ByteArray (Option (Stp ByteArray (Option ByteArray)))))) f_3.Code s_7).bind (oc (fun (s_8 : ByteArray) => (some (.nxt s_8)))))))) : Option (Stp ByteArray (Option ByteArray)))) p_00.Funcs (ByteArray.mk #[])).bind (oc (fun (s_1 : ByteArray) => (some s_1))))
theorem windlassref04_Text_ev {fuel : Nat} {p_00 : Program} {r : ByteArray} (h : windlassref04_Text_s fuel p_00 = some r) : PureEv Tryd.prog 26 [(Program.av p_00)] (.str r) := by
  unfold windlassref04_Text_s at h
  refine PureEv_end mixed fn26 (by simp) [5, 7] 6 ?_
  unfold fc26
  refine E_sq ?_
  refine E_reg ?_
  refine E_op0 (v' := (.cptr (Program.av p_00).cells 0)) rfl rfl ?_
  refine E_mv (v' := (.str (ByteArray.mk #[]))) rfl ?_
  refine E_nil ?_
  refine E_nx ?_
  refine E_sq ?_
  refine E_reg ?_
  refine E_mv (v' := (.str (ByteArray.mk #[]))) rfl ?_
  refine E_nil ?_
  refine E_nx ?_
  refine E_as ?_
  refine E_sq ?_
  refine E_reg ?_
  refine E_op0 (v' := (.cptr (Program.av p_00).cells 0)) rfl rfl ?_
  refine E_op0 (v' := (.sl false 5 (List.map Func.av p_00.Funcs))) rfl rfl ?_
  refine E_len rfl ?_
  refine E_mv (v' := (.int .i64 0)) rfl ?_
  refine E_nil ?_
  refine E_nx ?_
  refine E_sq ?_
  refine E_rngO (fun s_1 => [(3, (.str s_1)), (9, (.sl false 5 (List.map Func.av p_00.Funcs)))]) (fun s_1 => []) h (by decide) (by decide) (fun _ => ⟨rfl, rfl, rfl, rfl⟩) (wk_aw ⟨(.refl _), (.refl _), (.refl _), (.refl _), trivial⟩) (fun i_2 f_3 s_1 c hx_4 hlt h => ?_) (fun s_1 fr' S' h hw => ?_)
  · refine E_sq ?_
    refine E_reg ?_
    refine E_iadF rfl rfl (getI_of hx_4) ?_
    refine E_op0 (v' := (Func.av f_3)) rfl rfl ?_
    refine E_op (v' := .ptr 0 0 0) (S' := [.arr 0 [(.int .i64 0), .nils, (.bool false), (.int .i64 0), .nils]]) rfl rfl rfl ?_
    refine E_do (S' := [.arr 0 [(.int .i64 f_3.Params), (.sl false 1 (List.map (avI .u8) f_3.Locals)), (.bool f_3.Result), (.int .i64 f_3.Keep), (.sl false 3 (List.map Instr.av f_3.Code))]]) rfl rfl ?_
    refine E_nil ?_
    refine E_nx ?_
    refine E_sq ?_
    refine E_reg ?_
    refine E_mv (v' := (.str s_1)) rfl ?_
    refine E_opw (v' := (Func.av f_3)) rfl (.aggL ⟨(.refl _), (.refl _), (.refl _), (.refl _), (.refl _), trivial⟩) rfl ?_
    obtain ⟨hea_5, hhea_5, h⟩ := bd_some h
    refine E_callW (windlassref04_Head_ev (fuel := fuel)  hhea_5) rfl ⟨(.refl _), trivial⟩ (blwL_of ⟨(Func.enc.blw _ 0), trivial⟩) rfl ?_
    obtain ⟨s_6, hs_6, h⟩ := bd_some h
    refine E_cat rfl rfl hs_6 ?_
    obtain ⟨s_7, hs_7, h⟩ := bd_some h
    refine E_cat rfl rfl hs_7 ?_
    refine E_mv (v' := (.str s_7)) rfl ?_
    refine E_nil ?_
    refine E_nx ?_
    refine E_sq ?_
    refine E_reg ?_
    refine E_op0 (v' := (.ptr 0 0 4)) rfl rfl ?_
    refine E_op (v' := (.sl false 3 (List.map Instr.av f_3.Code))) (S' := [.arr 0 [(.int .i64 f_3.Params), (.sl false 1 (List.map (avI .u8) f_3.Locals)), (.bool f_3.Result), (.int .i64 f_3.Keep), (.sl false 3 (List.map Instr.av f_3.Code))]]) rfl rfl rfl ?_
    refine E_len rfl ?_
    refine E_mv (v' := (.int .i64 0)) rfl ?_
    refine E_nil ?_
    refine E_nx ?_
    refine E_rngO (fun s_8 => [(3, (.str s_8)), (9, (.sl false 5 (List.map Func.av p_00.Funcs))), (10, (.int .i64 (List.length p_00.Funcs : Int))), (11, (.int .i64 (i_2 : Int))), (21, (.sl false 3 (List.map Instr.av f_3.Code)))]) (fun s_8 => []) h (by decide) (by decide) (fun _ => ⟨rfl, rfl, rfl, rfl⟩) (wk_rn [] rfl (Nat.le_of_ble_eq_true rfl) trivial ⟨(rn_b rfl), (rn_b rfl), (rn_b rfl), (rn_b (Func.enc.blws 0)), (rn_b rfl), (rn_b rfl), (rn_b (Instr.enc.blws 0)), trivial⟩) (fun i_9 i_10 s_8 c hx_11 hlt h => ?_) (fun s_8 fr' S' h hw => ?_)
    · refine E_sq ?_
      refine E_reg ?_
      refine E_iadF rfl rfl (getI_of hx_11) ?_
      refine E_op0 (v' := (Instr.av i_10)) rfl rfl ?_
      refine E_op (v' := .ptr 0 0 0) (S' := [.arr 0 [(.int .u8 0), (.int .i64 0), (.int .u64 0)]]) rfl rfl rfl ?_
      refine E_do (S' := [.arr 0 [(.int .u8 i_10.Op), (.int .i64 i_10.Arg), (.int .u64 i_10.Imm)]]) rfl rfl ?_
      refine E_nil ?_
      refine E_nx ?_
      refine E_reg ?_
      refine E_mv (v' := (.str s_8)) rfl ?_
      refine E_opw (v' := (Instr.av i_10)) rfl (.aggL ⟨(.refl _), (.refl _), (.refl _), trivial⟩) rfl ?_
      obtain ⟨lin_12, hlin_12, h⟩ := bd_some h
      refine E_callW (windlassref04_Line_ev (fuel := fuel)  hlin_12) rfl ⟨(.refl _), trivial⟩ (blwL_of ⟨(Instr.enc.blw _ 0), trivial⟩) rfl ?_
      obtain ⟨s_13, hs_13, h⟩ := bd_some h
      refine E_cat rfl rfl hs_13 ?_
      obtain ⟨s_14, hs_14, h⟩ := bd_some h
      refine E_cat rfl rfl hs_14 ?_
      refine E_mv (v' := (.str s_14)) rfl ?_
      refine E_nil ?_
      cases h
      exact L_nn rfl (wk_rn [] rfl (Nat.le_of_ble_eq_true rfl) trivial ⟨(rn_b rfl), (rn_b rfl), (rn_b rfl), (rn_b (Func.enc.blws 0)), (rn_b rfl), (rn_b rfl), (rn_b (Instr.enc.blws 0)), trivial⟩)
    · cases h
      exact X_nn rfl hw (wk_aw ⟨(.refl _), (.refl _), (.refl _), (.refl _), trivial⟩)
  · refine X_nx hw ?_
    refine E_sq ?_
    refine E_reg ?_
    refine E_mv (v' := (.str s_1)) rfl ?_
    refine E_mv (v' := (.str s_1)) rfl ?_
    refine E_nil ?_
    refine E_nx ?_
    refine E_ret ?_
    cases h
    exact ⟨trivial, _, rfl, (fz_b rfl (.refl _))⟩
end Go.Proofs.YtkfhljombjmdbaaDoor
