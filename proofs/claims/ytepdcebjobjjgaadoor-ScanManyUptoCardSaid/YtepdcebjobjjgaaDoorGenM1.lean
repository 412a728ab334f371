/- What the functions compute, and that they do (printed by wip/gen/gen.py), part 1. -/
import Derived.Test.YtepdcebjobjjgaaDoorWlH2
import Derived.Test.YtepdcebjobjjgaaDoorRows
import Derived.Test.YtepdcebjobjjgaaDoorScP5
set_option linter.unusedVariables false
set_option linter.unusedSimpArgs false
namespace Go.Proofs.YtepdcebjobjjgaaDoor
open Go Go.Ab
noncomputable section
set_option maxRecDepth 20000
set_option maxHeartbeats 2000000
def a0D : FC := (.seq (.reg [⟨(some 4), none, .op (.mv (.v (.bool false)))⟩] [])
  (.seq (.seq (.reg [⟨(some 17), none, .call 7 []⟩,
  ⟨(some 18), none, .op (.un .not (.t 17))⟩] [])
  (.cond (.t 18)
  (.seq (.reg [⟨(some 4), none, .op (.mv (.v (.bool false)))⟩] [])
  .ret)
  .skip))
  (.seq (.reg [⟨(some 19), none, .op (.mv (.t 0))⟩,
  ⟨(some 20), none, .op (.cint .u64 (.t 19))⟩,
  ⟨(some 21), none, .op (.bin .none .rem (.t 20) (.v (.int .u64 40)))⟩,
  ⟨(some 22), none, .op (.cint .i64 (.t 21))⟩,
  ⟨(some 23), none, .op (.bin .none .add (.v (.int .i64 1)) (.t 22))⟩,
  ⟨(some 5), none, .op (.mv (.t 23))⟩] [])
  (.seq (.reg [⟨(some 24), none, .op (.mv (.t 5))⟩,
  ⟨(some 25), none, .op (.mksl none 1 [(.int .u8 0)] (.t 24) (.t 24))⟩,
  ⟨(some 26), none, .op (.build [.nils, .nils, (.int .i64 0), .nils, (.bool false), (.int .i64 0), .nils, (.int .i64 0)] [(1, 1, (.t 25)), (5, 1, (.v (.int .i64 (-1))))])⟩,
  ⟨(some 6), none, .op (.new [.nils, .nils, (.int .i64 0), .nils, (.bool false), (.int .i64 0), .nils, (.int .i64 0)])⟩,
  ⟨none, none, .op (.store 8 (.t 6) (.t 26))⟩] [])
  (.seq (.seq (.reg [⟨(some 27), none, .op (.mv (.t 5))⟩,
  ⟨(some 28), none, .op (.mv (.v (.int .i64 0)))⟩] [])
  (.block 0 (.loop (.seq (.reg [⟨(some 29), none, .op (.bin .none .lss (.t 28) (.t 27))⟩] [])
  (.seq (.cond (.t 29)
  .skip
  (.exit 0))
  (.seq (.block 1 (.seq (.reg [⟨(some 30), none, .op (.mv (.t 28))⟩,
  ⟨(some 7), none, .op (.mv (.t 30))⟩] [])
  (.reg [⟨(some 31), none, .op (.fad 6 (.t 6))⟩,
  ⟨(some 32), none, .op (.load none (.t 31))⟩,
  ⟨(some 33), none, .op (.mv (.t 7))⟩,
  ⟨(some 34), none, .op (.build [(.int .u8 0), (.int .u8 0), (.int .i64 0), (.int .i64 0), (.int .i64 0), (.int .i64 0), (.int .i64 0), (.int .i64 0), (.int .u64 0), .nils, (.int .i64 0), (.int .i64 0)] [(0, 1, (.v (.int .u8 16))), (2, 1, (.t 33))])⟩,
  ⟨(some 35), none, .op (.bsl (some 12) [(.int .u8 0), (.int .u8 0), (.int .i64 0), (.int .i64 0), (.int .i64 0), (.int .i64 0), (.int .i64 0), (.int .i64 0), (.int .u64 0), .nils, (.int .i64 0), (.int .i64 0)] 1 [(0, 12, (.t 34))])⟩,
  ⟨(some 36), none, .op (.app (some 12) 104 (.t 32) (.t 35))⟩,
  ⟨(some 37), none, .op (.fad 6 (.t 6))⟩,
  ⟨none, none, .op (.store 1 (.t 37) (.t 36))⟩] [])))
  (.reg [⟨(some 38), none, .op (.bin .none .add (.t 28) (.v (.int .i64 1)))⟩,
  ⟨(some 28), none, .op (.mv (.t 38))⟩] [])))))))
  (.seq (.seq (.reg [⟨(some 39), none, .op (.mv (.t 1))⟩] [])
  (.cond (.t 39)
  (.reg [⟨(some 40), none, .op (.fad 6 (.t 6))⟩,
  ⟨(some 41), none, .op (.load none (.t 40))⟩,
  ⟨(some 42), none, .op (.build [(.int .u8 0), (.int .u8 0), (.int .i64 0), (.int .i64 0), (.int .i64 0), (.int .i64 0), (.int .i64 0), (.int .i64 0), (.int .u64 0), .nils, (.int .i64 0), (.int .i64 0)] [(0, 1, (.v (.int .u8 11))), (6, 1, (.v (.int .i64 1))), (2, 1, (.v (.int .i64 (-1))))])⟩,
  ⟨(some 43), none, .op (.bsl (some 12) [(.int .u8 0), (.int .u8 0), (.int .i64 0), (.int .i64 0), (.int .i64 0), (.int .i64 0), (.int .i64 0), (.int .i64 0), (.int .u64 0), .nils, (.int .i64 0), (.int .i64 0)] 1 [(0, 12, (.t 42))])⟩,
  ⟨(some 44), none, .op (.app (some 12) 104 (.t 41) (.t 43))⟩,
  ⟨(some 45), none, .op (.fad 6 (.t 6))⟩,
  ⟨none, none, .op (.store 1 (.t 45) (.t 44))⟩] [])
  .skip))
  (.seq (.seq (.reg [⟨(some 46), none, .op (.mv (.t 5))⟩,
  ⟨(some 47), none, .op (.mv (.v (.int .i64 0)))⟩] [])
  (.block 2 (.loop (.seq (.reg [⟨(some 48), none, .op (.bin .none .lss (.t 47) (.t 46))⟩] [])
  (.seq (.cond (.t 48)
  .skip
  (.exit 2))
  (.seq (.block 3 (.seq (.reg [⟨(some 49), none, .op (.mv (.t 47))⟩,
  ⟨(some 8), none, .op (.mv (.t 49))⟩] [])
  (.reg [⟨(some 50), none, .op (.fad 6 (.t 6))⟩,
  ⟨(some 51), none, .op (.load none (.t 50))⟩,
  ⟨(some 52), none, .op (.mv (.t 8))⟩,
  ⟨(some 53), none, .op (.build [(.int .u8 0), (.int .u8 0), (.int .i64 0), (.int .i64 0), (.int .i64 0), (.int .i64 0), (.int .i64 0), (.int .i64 0), (.int .u64 0), .nils, (.int .i64 0), (.int .i64 0)] [(0, 1, (.v (.int .u8 17))), (4, 1, (.t 52))])⟩,
  ⟨(some 54), none, .op (.bsl (some 12) [(.int .u8 0), (.int .u8 0), (.int .i64 0), (.int .i64 0), (.int .i64 0), (.int .i64 0), (.int .i64 0), (.int .i64 0), (.int .u64 0), .nils, (.int .i64 0), (.int .i64 0)] 1 [(0, 12, (.t 53))])⟩,
  ⟨(some 55), none, .op (.app (some 12) 104 (.t 51) (.t 54))⟩,
  ⟨(some 56), none, .op (.fad 6 (.t 6))⟩,
  ⟨none, none, .op (.store 1 (.t 56) (.t 55))⟩] [])))
  (.reg [⟨(some 57), none, .op (.bin .none .add (.t 47) (.v (.int .i64 1)))⟩,
  ⟨(some 47), none, .op (.mv (.t 57))⟩] [])))))))
  (.seq (.seq (.reg [⟨(some 58), none, .op (.fad 6 (.t 6))⟩,
  ⟨(some 59), none, .op (.load none (.t 58))⟩,
  ⟨(some 60), none, .op (.len .sl (.t 59))⟩,
  ⟨(some 61), none, .op (.mv (.v (.int .i64 0)))⟩] [])
  (.block 4 (.loop (.seq (.reg [⟨(some 62), none, .op (.bin .none .lss (.t 61) (.t 60))⟩] [])
  (.seq (.cond (.t 62)
  .skip
  (.exit 4))
  (.seq (.block 5 (.seq (.reg [⟨(some 63), none, .op (.mv (.t 61))⟩,
  ⟨(some 9), none, .op (.mv (.t 63))⟩] [])
  (.reg [⟨(some 64), none, .op (.fad 6 (.t 6))⟩,
  ⟨(some 65), none, .op (.load none (.t 64))⟩,
  ⟨(some 66), none, .op (.mv (.t 9))⟩,
  ⟨(some 67), none, .op (.mv (.t 9))⟩,
  ⟨(some 68), none, .op (.bin .none .add (.t 67) (.v (.int .i64 1)))⟩,
  ⟨(some 69), none, .op (.iad none (some 12) (.t 65) (.t 66))⟩,
  ⟨(some 70), none, .op (.fad 10 (.t 69))⟩,
  ⟨none, none, .op (.store 1 (.t 70) (.t 68))⟩] [])))
  (.reg [⟨(some 71), none, .op (.bin .none .add (.t 61) (.v (.int .i64 1)))⟩,
  ⟨(some 61), none, .op (.mv (.t 71))⟩] [])))))))
  (.seq (.reg [⟨(some 72), none, .op (.fad 6 (.t 6))⟩,
  ⟨(some 73), none, .op (.load none (.t 72))⟩,
  ⟨(some 74), none, .op (.build [(.int .u8 0), (.int .u8 0), (.int .i64 0), (.int .i64 0), (.int .i64 0), (.int .i64 0), (.int .i64 0), (.int .i64 0), (.int .u64 0), .nils, (.int .i64 0), (.int .i64 0)] [(0, 1, (.v (.int .u8 12))), (4, 1, (.v (.int .i64 (-1))))])⟩,
  ⟨(some 75), none, .op (.bsl (some 12) [(.int .u8 0), (.int .u8 0), (.int .i64 0), (.int .i64 0), (.int .i64 0), (.int .i64 0), (.int .i64 0), (.int .i64 0), (.int .u64 0), .nils, (.int .i64 0), (.int .i64 0)] 1 [(0, 12, (.t 74))])⟩,
  ⟨(some 76), none, .op (.app (some 12) 104 (.t 73) (.t 75))⟩,
  ⟨(some 77), none, .op (.fad 6 (.t 6))⟩,
  ⟨none, none, .op (.store 1 (.t 77) (.t 76))⟩] [])
  (.seq (.block 1000003 (.seq (.reg [⟨(some 79), none, .op (.load (some 8) (.t 6))⟩,
  ⟨(some 80), none, .op (.build [(.int .u8 0), (.int .u8 0), (.int .i64 0), (.int .i64 0), (.int .i64 0), (.int .i64 0), (.int .i64 0), (.int .i64 0), (.int .u64 0), .nils, (.int .i64 0), (.int .i64 0)] [(0, 1, (.v (.int .u8 12))), (4, 1, (.v (.int .i64 (-1))))])⟩,
  ⟨(some 81), none, .op (.bsl (some 12) [(.int .u8 0), (.int .u8 0), (.int .i64 0), (.int .i64 0), (.int .i64 0), (.int .i64 0), (.int .i64 0), (.int .i64 0), (.int .u64 0), .nils, (.int .i64 0), (.int .i64 0)] 1 [(0, 12, (.t 80))])⟩,
  ⟨(some 82), none, .op (.build [.nils, .nils, (.int .i64 0), .nils, (.bool false), (.int .i64 0), .nils, (.int .i64 0)] [(5, 1, (.v (.int .i64 (-1)))), (6, 1, (.t 81))])⟩] []) (.reg [⟨(some 83), none, .op (.bsl (some 8) [.nils, .nils, (.int .i64 0), .nils, (.bool false), (.int .i64 0), .nils, (.int .i64 0)] 2 [(0, 8, (.t 79)), (8, 8, (.t 82))])⟩,
  ⟨(some 84), none, .op (.build [.nils] [(0, 1, (.t 83))])⟩,
  ⟨(some 85), none, .call 8 [(.t 84), (.v (.int .i64 0))]⟩,
  ⟨(some 78), none, .op (.mv (.t 85))⟩,
  ⟨(some 86), none, .op (.ext 0 (.t 78))⟩,
  ⟨(some 87), none, .op (.ext 1 (.t 78))⟩,
  ⟨(some 10), none, .op (.mv (.t 86))⟩,
  ⟨(some 11), none, .op (.mv (.t 87))⟩] [])))
  (.seq (.seq (.reg [⟨(some 88), none, .op (.mv (.t 11))⟩,
  ⟨(some 89), none, .op (.bin .none .neq (.t 88) (.v (.int .i64 0)))⟩,
  ⟨(some 90), none, .op (.mv (.t 89))⟩,
  ⟨(some 91), some (90, false), .op (.mv (.t 10))⟩,
  ⟨(some 92), some (90, false), .op (.len .sl (.t 91))⟩,
  ⟨(some 93), some (90, false), .op (.mv (.t 5))⟩,
  ⟨(some 94), some (90, false), .op (.bin .none .neq (.t 92) (.t 93))⟩,
  ⟨(some 95), none, .op (.pick (.t 90) (.v (.bool true)) (.t 94))⟩] [])
  (.cond (.t 95)
  (.seq (.reg [⟨(some 4), none, .op (.mv (.v (.bool false)))⟩] [])
  .ret)
  .skip))
  (.seq (.reg [⟨(some 12), none, .op (.mv (.v (.int .i64 0)))⟩] [])
  (.seq (.seq (.reg [⟨(some 96), none, .op (.mv (.t 10))⟩,
  ⟨(some 97), none, .op (.len .sl (.t 96))⟩,
  ⟨(some 98), none, .op (.mv (.v (.int .i64 0)))⟩] [])
  (.block 6 (.loop (.seq (.reg [⟨(some 99), none, .op (.bin .none .lss (.t 98) (.t 97))⟩] [])
  (.seq (.cond (.t 99)
  .skip
  (.exit 6))
  (.seq (.block 7 (.seq (.reg [⟨(some 100), none, .op (.mv (.t 98))⟩,
  ⟨(some 101), none, .op (.iad none none (.t 96) (.t 98))⟩,
  ⟨(some 102), none, .op (.load none (.t 101))⟩,
  ⟨(some 13), none, .op (.mv (.t 100))⟩,
  ⟨(some 14), none, .op (.mv (.t 102))⟩] [])
  (.seq (.seq (.reg [⟨(some 103), none, .op (.mv (.t 14))⟩,
  ⟨(some 104), none, .op (.bin .none .lss (.t 103) (.v (.int .i64 0)))⟩,
  ⟨(some 105), none, .op (.mv (.t 104))⟩,
  ⟨(some 106), some (105, false), .op (.mv (.t 14))⟩,
  ⟨(some 107), some (105, false), .op (.bin .none .gtr (.t 106) (.v (.int .i64 11)))⟩,
  ⟨(some 108), some (105, false), .op (.mv (.t 107))⟩,
  ⟨(some 109), some (108, true), .op (.mv (.t 14))⟩,
  ⟨(some 110), some (108, true), .op (.bin .none .lss (.t 109) (.v (.int .i64 16)))⟩,
  ⟨(some 111), some (105, false), .op (.pick (.t 108) (.t 110) (.v (.bool false)))⟩,
  ⟨(some 112), none, .op (.pick (.t 105) (.v (.bool true)) (.t 111))⟩,
  ⟨(some 113), none, .op (.mv (.t 112))⟩,
  ⟨(some 114), some (113, false), .op (.mv (.t 1))⟩,
  ⟨(some 115), some (113, false), .op (.mv (.t 114))⟩,
  ⟨(some 116), some (115, true), .op (.mv (.t 14))⟩,
  ⟨(some 117), some (115, true), .op (.bin .none .lss (.t 116) (.v (.int .i64 6)))⟩,
  ⟨(some 118), some (113, false), .op (.pick (.t 115) (.t 117) (.v (.bool false)))⟩,
  ⟨(some 119), none, .op (.pick (.t 113) (.v (.bool true)) (.t 118))⟩] [])
  (.cond (.t 119)
  (.seq (.reg [⟨(some 4), none, .op (.mv (.v (.bool false)))⟩] [])
  .ret)
  .skip))
  (.seq (.seq (.reg [⟨(some 120), none, .op (.mv (.t 14))⟩,
  ⟨(some 121), none, .op (.bin .none .geq (.t 120) (.v (.int .i64 16)))⟩] [])
  (.cond (.t 121)
  (.reg [⟨(some 122), none, .op (.mv (.t 12))⟩,
  ⟨(some 123), none, .op (.bin .none .add (.t 122) (.v (.int .i64 1)))⟩,
  ⟨(some 12), none, .op (.mv (.t 123))⟩] [])
  .skip))
  (.seq (.reg [⟨(some 124), none, .op (.mv (.t 10))⟩,
  ⟨(some 125), none, .op (.mv (.t 13))⟩,
  ⟨(some 126), none, .op (.slc none (.t 124) none (some (.t 125)) none)⟩,
  ⟨(some 127), none, .op (.len .sl (.t 126))⟩,
  ⟨(some 128), none, .op (.mv (.v (.int .i64 0)))⟩] [])
  (.block 8 (.loop (.seq (.reg [⟨(some 129), none, .op (.bin .none .lss (.t 128) (.t 127))⟩] [])
  (.seq (.cond (.t 129)
  .skip
  (.exit 8))
  (.seq (.block 9 (.seq (.reg [⟨(some 130), none, .op (.iad none none (.t 126) (.t 128))⟩,
  ⟨(some 131), none, .op (.load none (.t 130))⟩,
  ⟨(some 16), none, .op (.mv (.t 131))⟩] [])
  (.seq (.reg [⟨(some 132), none, .op (.mv (.t 14))⟩,
  ⟨(some 133), none, .op (.mv (.t 16))⟩,
  ⟨(some 134), none, .op (.bin .none .eql (.t 132) (.t 133))⟩] [])
  (.cond (.t 134)
  (.seq (.reg [⟨(some 4), none, .op (.mv (.v (.bool false)))⟩] [])
  .ret)
  .skip))))
  (.reg [⟨(some 135), none, .op (.bin .none .add (.t 128) (.v (.int .i64 1)))⟩,
  ⟨(some 128), none, .op (.mv (.t 135))⟩] [])))))))))))
  (.reg [⟨(some 136), none, .op (.bin .none .add (.t 98) (.v (.int .i64 1)))⟩,
  ⟨(some 98), none, .op (.mv (.t 136))⟩] [])))))))
  (.seq (.reg [⟨(some 137), none, .op (.mv (.t 5))⟩,
  ⟨(some 138), none, .op (.bin .none .gtr (.t 137) (.v (.int .i64 6)))⟩,
  ⟨(some 139), none, .op (.mv (.t 138))⟩,
  ⟨(some 140), some (139, false), .op (.mv (.t 12))⟩,
  ⟨(some 141), some (139, false), .op (.bin .none .eql (.t 140) (.v (.int .i64 0)))⟩,
  ⟨(some 142), none, .op (.pick (.t 139) (.v (.bool true)) (.t 141))⟩,
  ⟨(some 4), none, .op (.mv (.t 142))⟩] [])
  .ret))))))))))))))
theorem a2c : c7r Tryd.prog 5 143 [(4, none)] a0D := ⟨_, _, Tryd.func5, rfl, rfl, rfl, by kernel_rfl, by kernel_rfl⟩
def s7 (n00 : Int) (c01 : Bool) : Option Bool :=
  (s6.bind fun f1 => (if (!f1) then (some false) else ((mkL 1 (I64 (1 + (I64 (Int.tmod (U64 n00) 40)))) (I64 (1 + (I64 (Int.tmod (U64 n00) 40)))) 0).bind fun m2 => ((rni (fun (i_4 : Nat) (s_3 : (List f7)) => (((a5y 104 s_3 [(f7.mk 16 0 (i_4 : Int) 0 0 0 0 0 0 [] 0 0)]).bind fun l5 => (some (.nxt l5))) : Option (Stp (List f7) (Option Bool)))) (I64 (1 + (I64 (Int.tmod (U64 n00) 40)))) []).bind (oc (fun (s_3 : (List f7)) => (jp (fun (s_7 : (List f7)) => ((rni (fun (i10 : Nat) (s_9 : (List f7)) => (((a5y 104 s_9 [(f7.mk 17 0 0 0 (i10 : Int) 0 0 0 0 [] 0 0)]).bind fun l11 => (some (.nxt l11))) : Option (Stp (List f7) (Option Bool)))) (I64 (1 + (I64 (Int.tmod (U64 n00) 40)))) s_7).bind (oc (fun (s_9 : (List f7)) => ((rni (fun (i13 : Nat) (s12 : (List f7)) => (((y5 s12 (i13 : Int)).bind fun y14 => (some (.nxt (List.set s12 (Int.toNat (i13 : Int)) (f7.mk y14.Op y14.By y14.D y14.E y14.A y14.B y14.F y14.Cell y14.Imm y14.Args (I64 ((i13 : Int) + 1)) y14.Else))))) : Option (Stp (List f7) (Option Bool)))) (List.length s_9 : Int) s_9).bind (oc (fun (s12 : (List f7)) => ((a5y 104 s12 [(f7.mk 12 0 0 0 (-1) 0 0 0 0 [] 0 0)]).bind fun l16 => ((z8 (f6.mk ([(b5.mk [] m2 0 [] false (-1) l16 0), (b5.mk [] [] 0 [] false (-1) ([(f7.mk 12 0 0 0 (-1) 0 0 0 0 [] 0 0)]) 0)])) 0).bind fun a17 => (jp (fun (s19 : Bool) => (if s19 then (some false) else ((rng (fun (i21 : Nat) (p22 : Int) (s20 : Int) => ((jp (fun (s25 : Bool) => (if s25 then (some (.ret (some false))) else (jp (fun (s27 : Int) => ((b0u a17.1 0 (i21 : Int)).bind fun l_28 => ((rng (fun (i_30 : Nat) (q_31 : Int) (s_29 : Unit) => ((if (p22 == q_31) then (some (.ret (some (.ret (some false))))) else (some (.nxt ()))) : Option (Stp Unit (Option (Stp Int (Option Bool)))))) l_28 ()).bind (oc (fun (s_29 : Unit) => (some (.nxt s27))))))) (fun k26 => (if (decide (p22 ≥ 16)) then (k26 (I64 (s20 + 1))) else (k26 s20)))))) (fun k24 => (if (decide (p22 < 0)) then (k24 true) else (if (decide (p22 > 11)) then (if (decide (p22 < 16)) then (k24 true) else (if c01 then (k24 (decide (p22 < 6))) else (k24 false))) else (if c01 then (k24 (decide (p22 < 6))) else (k24 false)))))) : Option (Stp Int (Option Bool)))) a17.1 0).bind (oc (fun (s20 : Int) => (jp (fun (s34 : Bool) => (some s34)) (fun k33 => (if (decide ((I64 (1 + (I64 (Int.tmod (U64 n00) 40)))) > 6)) then (k33 true) else (k33 (s20 == 0)))))))))) (fun k18 => (if (a17.2 != 0) then (k18 true) else (k18 ((List.length a17.1 : Int) != (I64 (1 + (I64 (Int.tmod (U64 n00) 40)))))))))))))))))) (fun k_6 => (if c01 then ((a5y 104 s_3 [(f7.mk 11 0 (-1) 0 0 0 1 0 0 [] 0 0)]).bind fun l_8 => (k_6 l_8)) else (k_6 s_3))))))))))
theorem a2d {n00 : Int} {c01 : Bool} {r : Bool} (h : s7 n00 c01 = some r) : n5 Tryd.prog 5 [(.int .i64 n00), (.bool c01)] (.bool r) := by
 unfold s7 at h;refine a9J mixed a2c zS [6, 36] 6 ?_;unfold a0D;refine f8 (b9 (oM (.bool false) (b6 (g7 (a0o (f8 (b9 ?_)))))));obtain ⟨f1, hf1, h⟩ := c9 h;refine l7 (a2Q  hf1) rfl trivial (j5 trivial) rfl (oP (.bool (!f1)) (b6 (g7 (f8 ?_))));refine n6 (t := (!f1)) rfl (fun hb => ?_) (fun hb => ?_);{rw [g8 hb] at h;refine f8 (b9 (oM (.bool false) (b6 (g7 (i9 (j4 ?_))))));cases h;exact ⟨trivial, _, rfl, (a0F rfl (.refl _))⟩};{rw [g9 hb] at h;refine i7 (g7 (f8 (b9 (oM (.int .i64 n00) (oP (.int .u64 (U64 n00)) (oP (.int .u64 (Int.tmod (U64 n00) 40)) (oP (.int .i64 (I64 (Int.tmod (U64 n00) 40))) (oP (.int .i64 (I64 (1 + (I64 (Int.tmod (U64 n00) 40))))) (oM (.int .i64 (I64 (1 + (I64 (Int.tmod (U64 n00) 40))))) (b6 (g7 (f8 (b9 (oM (.int .i64 (I64 (1 + (I64 (Int.tmod (U64 n00) 40))))) ?_))))))))))))));obtain ⟨m2, hm2, h⟩ := c9 h;refine b8J (x := 0) (g6 .u8) rfl rfl rfl rfl hm2 (oP (.agg [.nils, (.sl false 1 (List.map (avI .u8) m2)), (.int .i64 0), .nils, (.bool false), (.int .i64 (-1)), .nils, (.int .i64 0)]) (a1o (v' := .ptr 0 0 0) (S' := [.arr 0 [.nils, .nils, (.int .i64 0), .nils, (.bool false), (.int .i64 0), .nils, (.int .i64 0)]]) rfl rfl rfl (b3W (S' := [.arr 0 [.nils, (.sl false 1 (List.map (avI .u8) m2)), (.int .i64 0), .nils, (.bool false), (.int .i64 (-1)), .nils, (.int .i64 0)]]) rfl rfl (b6 (g7 (a0o (f8 (b9 (oM (.int .i64 (I64 (1 + (I64 (Int.tmod (U64 n00) 40))))) (oM (.int .i64 0) (b6 (g7 (f8 ?_)))))))))))));refine a3y (fun s_3 => [(1, (.bool c01)), (5, (.int .i64 (I64 (1 + (I64 (Int.tmod (U64 n00) 40)))))), (6, (.ptr 0 0 0))]) (fun s_3 => [.arr 0 [.nils, (.sl false 1 (List.map (avI .u8) m2)), (.int .i64 0), .nils, (.bool false), (.int .i64 (-1)), (.ref 1 1 0 (List.length s_3) (some 12)), (.int .i64 0)], .arr 1 (flat f7.av s_3)]) h zD zD (fun _ => ⟨rfl, rfl, rfl, rfl⟩) (i8 [some (0, 0), none] rfl nB ⟨(a0m rfl rfl (cB rfl (cB ((g6 .u8).blws 0) (cB rfl (cB rfl (cB rfl (cB rfl (.cons (a6X rfl) (cB rfl nL)))))))) rfl), (a5Y rfl rfl rfl), trivial⟩ ⟨(d7 rfl), (d7 rfl), (d7 rfl), (d7 rfl), (k7 rfl rfl rfl rfl), trivial⟩) (fun i_4 s_3 c hlt h => ?_) (fun s_3 fr' S' h hw => ?_);{refine f8 (b9 (oM (.int .i64 (i_4 : Int)) (oM (.int .i64 (i_4 : Int)) (b6 (g7 (b9 (oP (.ptr 0 0 6) (a1o (v' := (.ref 1 1 0 (List.length s_3) (some 12))) (S' := [.arr 0 [.nils, (.sl false 1 (List.map (avI .u8) m2)), (.int .i64 0), .nils, (.bool false), (.int .i64 (-1)), (.ref 1 1 0 (List.length s_3) (some 12)), (.int .i64 0)], .arr 1 (flat f7.av s_3)]) rfl rfl rfl (oM (.int .i64 (i_4 : Int)) (u6 (v' := (f7.av (f7.mk 16 0 (i_4 : Int) 0 0 0 0 0 0 [] 0 0))) rfl (.aggL ⟨(.refl _), (.refl _), (.refl _), (.refl _), (.refl _), (.refl _), (.refl _), (.refl _), (.refl _), .nil, (.refl _), (.refl _), trivial⟩) rfl (u6 (v' := (.sl true 12 (List.map f7.av [(f7.mk 16 0 (i_4 : Int) 0 0 0 0 0 0 [] 0 0)]))) rfl (.refl _) rfl ?_)))))))))));obtain ⟨l5, hl5, h⟩ := c9 h;refine a4E (S' := [.arr 0 [.nils, (.sl false 1 (List.map (avI .u8) m2)), (.int .i64 0), .nils, (.bool false), (.int .i64 (-1)), (.ref 1 1 0 (List.length s_3) (some 12)), (.int .i64 0)], .arr 2 (flat f7.av l5)]) f7.enc rfl (a3a [(f7.mk 16 0 (i_4 : Int) 0 0 0 0 0 0 [] 0 0)]) rfl hl5 rfl (oP (.ptr 0 0 6) (b3W (S' := [.arr 0 [.nils, (.sl false 1 (List.map (avI .u8) m2)), (.int .i64 0), .nils, (.bool false), (.int .i64 (-1)), (.ref 1 2 0 (List.length l5) (some 12)), (.int .i64 0)], .arr 2 (flat f7.av l5)]) rfl rfl (b6 ?_)));cases h;exact a3O rfl (i8 [some (0, 0), some (1, 0)] rfl nB ⟨(a0m rfl rfl (cB rfl (cB ((g6 .u8).blws 0) (cB rfl (cB rfl (cB rfl (cB rfl (.cons (j3 f7.enc rfl rfl rfl) (cB rfl nL)))))))) rfl), (a0m rfl rfl (.refl (f7.enc.blwf 0 _)) rfl), trivial⟩ ⟨(d7 rfl), (d7 rfl), (d7 rfl), (d7 rfl), (k7 rfl rfl rfl rfl), trivial⟩)};{refine a5j hw (a0o (f8 (b9 (oM (.bool c01) (b6 (g7 ?_))))));refine a2m h (fun s_7 => [(1, (.bool c01)), (5, (.int .i64 (I64 (1 + (I64 (Int.tmod (U64 n00) 40)))))), (6, (.ptr 0 0 0))]) (fun s_7 => [.arr 0 [.nils, (.sl false 1 (List.map (avI .u8) m2)), (.int .i64 0), .nils, (.bool false), (.int .i64 (-1)), (.ref 1 1 0 (List.length s_7) (some 12)), (.int .i64 0)], .arr 1 (flat f7.av s_7)]) (fun k_6 h => ?_) (fun s_7 h => ?_);{refine n6 (t := c01) rfl (fun hb => ?_) (fun hb => ?_);{rw [g8 hb] at h;refine b9 (oP (.ptr 0 0 6) (a1o (v' := (.ref 1 1 0 (List.length s_3) (some 12))) (S' := [.arr 0 [.nils, (.sl false 1 (List.map (avI .u8) m2)), (.int .i64 0), .nils, (.bool false), (.int .i64 (-1)), (.ref 1 1 0 (List.length s_3) (some 12)), (.int .i64 0)], .arr 1 (flat f7.av s_3)]) rfl rfl rfl (u6 (v' := (f7.av (f7.mk 11 0 (-1) 0 0 0 1 0 0 [] 0 0))) rfl (.aggL ⟨(.refl _), (.refl _), (.refl _), (.refl _), (.refl _), (.refl _), (.refl _), (.refl _), (.refl _), .nil, (.refl _), (.refl _), trivial⟩) rfl (u6 (v' := (.sl true 12 (List.map f7.av [(f7.mk 11 0 (-1) 0 0 0 1 0 0 [] 0 0)]))) rfl (.refl _) rfl ?_))));obtain ⟨l_8, hl8, h⟩ := c9 h;refine a4E (S' := [.arr 0 [.nils, (.sl false 1 (List.map (avI .u8) m2)), (.int .i64 0), .nils, (.bool false), (.int .i64 (-1)), (.ref 1 1 0 (List.length s_3) (some 12)), (.int .i64 0)], .arr 2 (flat f7.av l_8)]) f7.enc rfl (a3a [(f7.mk 11 0 (-1) 0 0 0 1 0 0 [] 0 0)]) rfl hl8 rfl (oP (.ptr 0 0 6) (b3W (S' := [.arr 0 [.nils, (.sl false 1 (List.map (avI .u8) m2)), (.int .i64 0), .nils, (.bool false), (.int .i64 (-1)), (.ref 1 2 0 (List.length l_8) (some 12)), (.int .i64 0)], .arr 2 (flat f7.av l_8)]) rfl rfl (b6 ?_)));exact o8 _ h (i8 [some (0, 0), some (1, 0)] rfl nB ⟨(a0m rfl rfl (cB rfl (cB ((g6 .u8).blws 0) (cB rfl (cB rfl (cB rfl (cB rfl (.cons (j3 f7.enc rfl rfl rfl) (cB rfl nL)))))))) rfl), (a0m rfl rfl (.refl (f7.enc.blwf 0 _)) rfl), trivial⟩ ⟨(d7 rfl), (d7 rfl), (k7 rfl rfl rfl rfl), trivial⟩)};{rw [g9 hb] at h;refine i7 ?_;exact o8 _ h (i8 [some (0, 0), some (1, 0)] rfl nB ⟨(a0m rfl rfl (cB rfl (cB ((g6 .u8).blws 0) (cB rfl (cB rfl (cB rfl (cB rfl (.cons (j3 f7.enc rfl rfl rfl) (cB rfl nL)))))))) rfl), (a0m rfl rfl (.refl (f7.enc.blwf 0 _)) rfl), trivial⟩ ⟨(d7 rfl), (d7 rfl), (k7 rfl rfl rfl rfl), trivial⟩)}};{refine a0o (f8 (b9 (oM (.int .i64 (I64 (1 + (I64 (Int.tmod (U64 n00) 40))))) (oM (.int .i64 0) (b6 (g7 (f8 ?_)))))));refine a3y (fun s_9 => [(1, (.bool c01)), (5, (.int .i64 (I64 (1 + (I64 (Int.tmod (U64 n00) 40)))))), (6, (.ptr 0 0 0))]) (fun s_9 => [.arr 0 [.nils, (.sl false 1 (List.map (avI .u8) m2)), (.int .i64 0), .nils, (.bool false), (.int .i64 (-1)), (.ref 1 1 0 (List.length s_9) (some 12)), (.int .i64 0)], .arr 1 (flat f7.av s_9)]) h zD zD (fun _ => ⟨rfl, rfl, rfl, rfl⟩) (i8 [some (0, 0), some (1, 0)] rfl nB ⟨(a0m rfl rfl (cB rfl (cB ((g6 .u8).blws 0) (cB rfl (cB rfl (cB rfl (cB rfl (.cons (j3 f7.enc rfl rfl rfl) (cB rfl nL)))))))) rfl), (a0m rfl rfl (.refl (f7.enc.blwf 0 _)) rfl), trivial⟩ ⟨(d7 rfl), (d7 rfl), (d7 rfl), (d7 rfl), (k7 rfl rfl rfl rfl), trivial⟩) (fun i10 s_9 c hlt h => ?_) (fun s_9 fr' S' h hw => ?_);{refine f8 (b9 (oM (.int .i64 (i10 : Int)) (oM (.int .i64 (i10 : Int)) (b6 (g7 (b9 (oP (.ptr 0 0 6) (a1o (v' := (.ref 1 1 0 (List.length s_9) (some 12))) (S' := [.arr 0 [.nils, (.sl false 1 (List.map (avI .u8) m2)), (.int .i64 0), .nils, (.bool false), (.int .i64 (-1)), (.ref 1 1 0 (List.length s_9) (some 12)), (.int .i64 0)], .arr 1 (flat f7.av s_9)]) rfl rfl rfl (oM (.int .i64 (i10 : Int)) (u6 (v' := (f7.av (f7.mk 17 0 0 0 (i10 : Int) 0 0 0 0 [] 0 0))) rfl (.aggL ⟨(.refl _), (.refl _), (.refl _), (.refl _), (.refl _), (.refl _), (.refl _), (.refl _), (.refl _), .nil, (.refl _), (.refl _), trivial⟩) rfl (u6 (v' := (.sl true 12 (List.map f7.av [(f7.mk 17 0 0 0 (i10 : Int) 0 0 0 0 [] 0 0)]))) rfl (.refl _) rfl ?_)))))))))));obtain ⟨l11, hl11, h⟩ := c9 h;refine a4E (S' := [.arr 0 [.nils, (.sl false 1 (List.map (avI .u8) m2)), (.int .i64 0), .nils, (.bool false), (.int .i64 (-1)), (.ref 1 1 0 (List.length s_9) (some 12)), (.int .i64 0)], .arr 2 (flat f7.av l11)]) f7.enc rfl (a3a [(f7.mk 17 0 0 0 (i10 : Int) 0 0 0 0 [] 0 0)]) rfl hl11 rfl (oP (.ptr 0 0 6) (b3W (S' := [.arr 0 [.nils, (.sl false 1 (List.map (avI .u8) m2)), (.int .i64 0), .nils, (.bool false), (.int .i64 (-1)), (.ref 1 2 0 (List.length l11) (some 12)), (.int .i64 0)], .arr 2 (flat f7.av l11)]) rfl rfl (b6 ?_)));cases h;exact a3O rfl (i8 [some (0, 0), some (1, 0)] rfl nB ⟨(a0m rfl rfl (cB rfl (cB ((g6 .u8).blws 0) (cB rfl (cB rfl (cB rfl (cB rfl (.cons (j3 f7.enc rfl rfl rfl) (cB rfl nL)))))))) rfl), (a0m rfl rfl (.refl (f7.enc.blwf 0 _)) rfl), trivial⟩ ⟨(d7 rfl), (d7 rfl), (d7 rfl), (d7 rfl), (k7 rfl rfl rfl rfl), trivial⟩)};{refine a5j hw (a0o (f8 (b9 (oP (.ptr 0 0 6) (a1o (v' := (.ref 1 1 0 (List.length s_9) (some 12))) (S' := [.arr 0 [.nils, (.sl false 1 (List.map (avI .u8) m2)), (.int .i64 0), .nils, (.bool false), (.int .i64 (-1)), (.ref 1 1 0 (List.length s_9) (some 12)), (.int .i64 0)], .arr 1 (flat f7.av s_9)]) rfl rfl rfl (a4c rfl (oM (.int .i64 0) (b6 (g7 (f8 ?_))))))))));refine a3y (fun s12 => [(1, (.bool c01)), (5, (.int .i64 (I64 (1 + (I64 (Int.tmod (U64 n00) 40)))))), (6, (.ptr 0 0 0))]) (fun s12 => [.arr 0 [.nils, (.sl false 1 (List.map (avI .u8) m2)), (.int .i64 0), .nils, (.bool false), (.int .i64 (-1)), (.ref 1 1 0 (List.length s12) (some 12)), (.int .i64 0)], .arr 1 (flat f7.av s12)]) h zD zD (fun _ => ⟨rfl, rfl, rfl, rfl⟩) (i8 [some (0, 0), some (1, 0)] rfl nB ⟨(a0m rfl rfl (cB rfl (cB ((g6 .u8).blws 0) (cB rfl (cB rfl (cB rfl (cB rfl (.cons (j3 f7.enc rfl rfl rfl) (cB rfl nL)))))))) rfl), (a0m rfl rfl (.refl (f7.enc.blwf 0 _)) rfl), trivial⟩ ⟨(d7 rfl), (d7 rfl), (d7 rfl), (d7 rfl), (k7 rfl rfl rfl rfl), trivial⟩) (fun i13 s12 c hlt h => ?_) (fun s12 fr' S' h hw => ?_);{refine f8 (b9 (oM (.int .i64 (i13 : Int)) (oM (.int .i64 (i13 : Int)) (b6 (g7 (b9 (oP (.ptr 0 0 6) (a1o (v' := (.ref 1 1 0 (List.length s12) (some 12))) (S' := [.arr 0 [.nils, (.sl false 1 (List.map (avI .u8) m2)), (.int .i64 0), .nils, (.bool false), (.int .i64 (-1)), (.ref 1 1 0 (List.length s12) (some 12)), (.int .i64 0)], .arr 1 (flat f7.av s12)]) rfl rfl rfl (oM (.int .i64 (i13 : Int)) (oM (.int .i64 (i13 : Int)) (oP (.int .i64 (I64 ((i13 : Int) + 1))) ?_)))))))))));obtain ⟨y14, hy14, h⟩ := c9 h;refine p8 rfl rfl ⟨(i6 hy14).1, (i6 hy14).2.1⟩ (a0f rfl rfl ?_);refine b1j (y := y14) (y' := (f7.mk y14.Op y14.By y14.D y14.E y14.A y14.B y14.F y14.Cell y14.Imm y14.Args (I64 ((i13 : Int) + 1)) y14.Else)) (S' := [.arr 0 [.nils, (.sl false 1 (List.map (avI .u8) m2)), (.int .i64 0), .nils, (.bool false), (.int .i64 (-1)), (.ref 1 1 0 (List.length s12) (some 12)), (.int .i64 0)], .arr 1 (flat f7.av (List.set s12 (Int.toNat (i13 : Int)) (f7.mk y14.Op y14.By y14.D y14.E y14.A y14.B y14.F y14.Cell y14.Imm y14.Args (I64 ((i13 : Int) + 1)) y14.Else)))]) f7.enc rfl rfl rfl zA (i6 hy14).2.2 rfl rfl nB rfl rfl ?_;(try rw [show List.length s12 = List.length (List.set s12 (Int.toNat (i13 : Int)) (f7.mk y14.Op y14.By y14.D y14.E y14.A y14.B y14.F y14.Cell y14.Imm y14.Args (I64 ((i13 : Int) + 1)) y14.Else)) by simp only [List.length_set]]);refine b6 ?_;cases h;exact a3O rfl (i8 [some (0, 0), some (1, 0)] rfl nB ⟨(a0m rfl rfl (cB rfl (cB ((g6 .u8).blws 0) (cB rfl (cB rfl (cB rfl (cB rfl (.cons (j3 f7.enc rfl rfl rfl) (cB rfl nL)))))))) rfl), (a0m rfl rfl (.refl (f7.enc.blwf 0 _)) rfl), trivial⟩ ⟨(d7 rfl), (d7 rfl), (d7 rfl), (d7 rfl), (k7 rfl rfl rfl rfl), trivial⟩)};{refine a5j hw (f8 (b9 (oP (.ptr 0 0 6) (a1o (v' := (.ref 1 1 0 (List.length s12) (some 12))) (S' := [.arr 0 [.nils, (.sl false 1 (List.map (avI .u8) m2)), (.int .i64 0), .nils, (.bool false), (.int .i64 (-1)), (.ref 1 1 0 (List.length s12) (some 12)), (.int .i64 0)], .arr 1 (flat f7.av s12)]) rfl rfl rfl (u6 (v' := (f7.av (f7.mk 12 0 0 0 (-1) 0 0 0 0 [] 0 0))) rfl (.aggL ⟨(.refl _), (.refl _), (.refl _), (.refl _), (.refl _), (.refl _), (.refl _), (.refl _), (.refl _), .nil, (.refl _), (.refl _), trivial⟩) rfl (u6 (v' := (.sl true 12 (List.map f7.av [(f7.mk 12 0 0 0 (-1) 0 0 0 0 [] 0 0)]))) rfl (.refl _) rfl ?_))))));obtain ⟨l16, hl16, h⟩ := c9 h;refine a4E (S' := [.arr 0 [.nils, (.sl false 1 (List.map (avI .u8) m2)), (.int .i64 0), .nils, (.bool false), (.int .i64 (-1)), (.ref 1 1 0 (List.length s12) (some 12)), (.int .i64 0)], .arr 2 (flat f7.av l16)]) f7.enc rfl (a3a [(f7.mk 12 0 0 0 (-1) 0 0 0 0 [] 0 0)]) rfl hl16 rfl (oP (.ptr 0 0 6) (b3W (S' := [.arr 0 [.nils, (.sl false 1 (List.map (avI .u8) m2)), (.int .i64 0), .nils, (.bool false), (.int .i64 (-1)), (.ref 1 2 0 (List.length l16) (some 12)), (.int .i64 0)], .arr 2 (flat f7.av l16)]) rfl rfl (b6 (g7 (f8 (j7 (f8 (b9 (a1o (v' := (.agg [.nils, (.sl false 1 (List.map (avI .u8) m2)), (.int .i64 0), .nils, (.bool false), (.int .i64 (-1)), (.ref 1 2 0 (List.length l16) (some 12)), (.int .i64 0)])) (S' := [.arr 0 [.nils, (.sl false 1 (List.map (avI .u8) m2)), (.int .i64 0), .nils, (.bool false), (.int .i64 (-1)), (.ref 1 2 0 (List.length l16) (some 12)), (.int .i64 0)], .arr 2 (flat f7.av l16)]) rfl rfl rfl (u6 (v' := (f7.av (f7.mk 12 0 0 0 (-1) 0 0 0 0 [] 0 0))) rfl (.aggL ⟨(.refl _), (.refl _), (.refl _), (.refl _), (.refl _), (.refl _), (.refl _), (.refl _), (.refl _), .nil, (.refl _), (.refl _), trivial⟩) rfl (u6 (v' := (.sl true 12 (List.map f7.av [(f7.mk 12 0 0 0 (-1) 0 0 0 0 [] 0 0)]))) rfl (.refl _) rfl (u6 (v' := (b5.av (b5.mk [] [] 0 [] false (-1) ([(f7.mk 12 0 0 0 (-1) 0 0 0 0 [] 0 0)]) 0))) rfl (.aggL ⟨.nil, .nil, (.refl _), .nil, (.refl _), (.refl _), .ex, (.refl _), trivial⟩) rfl (b6 (a5i (F := [(1, (.bool c01)), (5, (.int .i64 (I64 (1 + (I64 (Int.tmod (U64 n00) 40)))))), (79, (.agg [.nils, (.sl false 1 (List.map (avI .u8) m2)), (.int .i64 0), .nils, (.bool false), (.int .i64 (-1)), (.sl false 12 (List.map f7.av l16)), (.int .i64 0)])), (82, (b5.av (b5.mk [] [] 0 [] false (-1) ([(f7.mk 12 0 0 0 (-1) 0 0 0 0 [] 0 0)]) 0)))]) (T := []) (a5x (fr'' := [(1, (.bool c01)), (5, (.int .i64 (I64 (1 + (I64 (Int.tmod (U64 n00) 40)))))), (79, (.agg [.nils, (.sl false 1 (List.map (avI .u8) m2)), (.int .i64 0), .nils, (.bool false), (.int .i64 (-1)), (.sl false 12 (List.map f7.av l16)), (.int .i64 0)])), (82, (b5.av (b5.mk [] [] 0 [] false (-1) ([(f7.mk 12 0 0 0 (-1) 0 0 0 0 [] 0 0)]) 0)))]) (S'' := []) (i8 (fr' := [(1, (.bool c01)), (5, (.int .i64 (I64 (1 + (I64 (Int.tmod (U64 n00) 40)))))), (79, (.agg [.nils, (.sl false 1 (List.map (avI .u8) m2)), (.int .i64 0), .nils, (.bool false), (.int .i64 (-1)), (.ref 0 1 0 (List.length l16) (some 12)), (.int .i64 0)])), (82, (b5.av (b5.mk [] [] 0 [] false (-1) ([(f7.mk 12 0 0 0 (-1) 0 0 0 0 [] 0 0)]) 0)))]) (S' := [.arr 1 (flat f7.av l16)]) [some (1, 0)] rfl nB ⟨(a0m rfl rfl (.refl (f7.enc.blwf 0 _)) rfl), trivial⟩ ⟨(d7 rfl), (d7 rfl), (b8H ⟨(d7 rfl), (d7 ((g6 .u8).blws 0)), (d7 rfl), (d7 rfl), (d7 rfl), (d7 rfl), (j3 f7.enc rfl rfl rfl), (d7 rfl), trivial⟩), (d7 (b5.enc.blw _ 0)), trivial⟩) (c7q 0 6 rfl trivial ⟨(a0F rfl (.refl _)), (a0F rfl (.refl _)), (b8F ⟨(a0F rfl (.refl _)), (a0F ((g6 .u8).blws 0) (.refl _)), (a0F rfl (.refl _)), (a0F rfl (.refl _)), (a0F rfl (.refl _)), (a0F rfl (.refl _)), (a8H f7.enc nB rfl), (a0F rfl (.refl _)), trivial⟩), (a0F (b5.enc.blw _ 0) (.refl _)), trivial⟩)) (b9 ?_)))))))))))))));refine u6 (v' := (.sl true 8 (List.map b5.av [(b5.mk [] m2 0 [] false (-1) l16 0), (b5.mk [] [] 0 [] false (-1) ([(f7.mk 12 0 0 0 (-1) 0 0 0 0 [] 0 0)]) 0)]))) rfl (.slL ⟨⟨rfl, ⟨.nil, (.refl _), (.refl _), .nil, (.refl _), (.refl _), (.refl _), (.refl _), trivial⟩⟩, ⟨rfl, ⟨(.refl _), (.refl _), (.refl _), (.refl _), (.refl _), (.refl _), (.refl _), (.refl _), trivial⟩⟩, trivial⟩) rfl (u6 (v' := (f6.av (f6.mk ([(b5.mk [] m2 0 [] false (-1) l16 0), (b5.mk [] [] 0 [] false (-1) ([(f7.mk 12 0 0 0 (-1) 0 0 0 0 [] 0 0)]) 0)])))) rfl (.aggL ⟨.ex, trivial⟩) rfl ?_);obtain ⟨a17, ha17, h⟩ := c9 h;refine l7 (a3B  ha17) rfl ⟨(.refl _), (.refl _), trivial⟩ (j5 ⟨(f6.enc.blw _ 0), rfl, trivial⟩) (a3b ⟨((g6 .i64).blws 0), rfl, trivial⟩) (oM (.tup [(.sl false 1 (List.map (avI .i64) a17.1)), (.int .i64 a17.2)]) (oP (.sl false 1 (List.map (avI .i64) a17.1)) (oP (.int .i64 a17.2) (oM (.sl false 1 (List.map (avI .i64) a17.1)) (oM (.int .i64 a17.2) (b6 (k8 (g7 (a0o ?_)))))))));refine a2m h (fun s19 => [(1, (.bool c01)), (5, (.int .i64 (I64 (1 + (I64 (Int.tmod (U64 n00) 40)))))), (10, (.sl false 1 (List.map (avI .i64) a17.1))), (95, (.bool s19))]) (fun s19 => []) (fun k18 h => ?_) (fun s19 h => ?_);{refine b9 (oM (.int .i64 a17.2) (oP (.bool (a17.2 != 0)) (oM (.bool (a17.2 != 0)) ?_)));refine m9 (b := (a17.2 != 0)) rfl rfl rfl (fun hb => ?_) (fun hb => ?_);{rw [g9 hb] at h;refine oM (.sl false 1 (List.map (avI .i64) a17.1)) (oH (x2 rfl (oH (oM (.int .i64 (I64 (1 + (I64 (Int.tmod (U64 n00) 40))))) (oH (oP (.bool ((List.length a17.1 : Int) != (I64 (1 + (I64 (Int.tmod (U64 n00) 40)))))) (x4 rfl rfl (b6 ?_))))))));exact o8 _ h wW};{rw [g8 hb] at h;refine oN (oN (oN (z9 rfl rfl (b6 ?_))));exact o8 _ h wW}};{refine f8 ?_;refine n6 (t := s19) rfl (fun hb => ?_) (fun hb => ?_);{rw [g8 hb] at h;refine f8 (b9 (oM (.bool false) (b6 (g7 (i9 (j4 ?_))))));cases h;exact ⟨trivial, _, rfl, (a0F rfl (.refl _))⟩};{rw [g9 hb] at h;refine i7 (g7 (f8 (b9 (oM (.int .i64 0) (b6 (g7 (a0o (f8 (b9 (oM (.sl false 1 (List.map (avI .i64) a17.1)) (x2 rfl (oM (.int .i64 0) (b6 (g7 (f8 ?_)))))))))))))));refine a1h (fun s20 => [(1, (.bool c01)), (5, (.int .i64 (I64 (1 + (I64 (Int.tmod (U64 n00) 40)))))), (10, (.sl false 1 (List.map (avI .i64) a17.1))), (12, (.int .i64 s20)), (96, (.sl false 1 (List.map (avI .i64) a17.1)))]) (fun s20 => []) h zD zD (fun _ => ⟨rfl, rfl, rfl, rfl⟩) wW (fun i21 p22 s20 c hx23 hlt h => ?_) (fun s20 fr' S' h hw => ?_);{refine f8 (b9 (oM (.int .i64 (i21 : Int)) (m7 rfl rfl (a0I hx23) (oP (.int .i64 p22) (oM (.int .i64 (i21 : Int)) (oM (.int .i64 p22) (b6 (g7 (a0o ?_)))))))));refine a2m h (fun s25 => [(1, (.bool c01)), (5, (.int .i64 (I64 (1 + (I64 (Int.tmod (U64 n00) 40)))))), (10, (.sl false 1 (List.map (avI .i64) a17.1))), (12, (.int .i64 s20)), (13, (.int .i64 (i21 : Int))), (14, (.int .i64 p22)), (96, (.sl false 1 (List.map (avI .i64) a17.1))), (97, (.int .i64 (List.length a17.1 : Int))), (98, (.int .i64 (i21 : Int))), (119, (.bool s25))]) (fun s25 => []) (fun k24 h => ?_) (fun s25 h => ?_);{refine b9 (oM (.int .i64 p22) (oP (.bool (decide (p22 < 0))) (oM (.bool (decide (p22 < 0))) ?_)));refine m9 (b := (decide (p22 < 0))) rfl rfl rfl (fun hb => ?_) (fun hb => ?_);{rw [g9 hb] at h;refine oM (.int .i64 p22) (oH (oP (.bool (decide (p22 > 11))) (oH (oM (.bool (decide (p22 > 11))) ?_))));refine m9 (b := (decide (p22 > 11))) rfl rfl rfl (fun hb => ?_) (fun hb => ?_);{rw [g8 hb] at h;refine oM (.int .i64 p22) (oH (oP (.bool (decide (p22 < 16))) (oH (z9 rfl rfl (x4 rfl rfl (oM (.bool (decide (p22 < 16))) ?_))))));refine m9 (b := (decide (p22 < 16))) rfl rfl rfl (fun hb => ?_) (fun hb => ?_);{rw [g9 hb] at h;refine oM (.bool c01) (oH (oM (.bool c01) ?_));refine m9 (b := c01) rfl rfl rfl (fun hb => ?_) (fun hb => ?_);{rw [g8 hb] at h;refine oM (.int .i64 p22) (oH (oP (.bool (decide (p22 < 6))) (oH (z9 rfl rfl (x4 rfl rfl (b6 ?_))))));exact o8 _ h wW};{rw [g9 hb] at h;refine oN (oH (x4 rfl rfl (x4 rfl rfl (b6 ?_))));exact o8 _ h wW}};{rw [g8 hb] at h;refine oN (oZ (oZ (oN (z9 rfl rfl (b6 ?_)))));exact o8 _ h wW}};{rw [g9 hb] at h;refine oN (oH (x4 rfl rfl (x4 rfl rfl (oM (.bool false) (oH (oM (.bool c01) (oH (oM (.bool c01) ?_))))))));refine m9 (b := c01) rfl rfl rfl (fun hb => ?_) (fun hb => ?_);{rw [g8 hb] at h;refine oM (.int .i64 p22) (oH (oP (.bool (decide (p22 < 6))) (oH (z9 rfl rfl (x4 rfl rfl (b6 ?_))))));exact o8 _ h wW};{rw [g9 hb] at h;refine oN (oH (x4 rfl rfl (x4 rfl rfl (b6 ?_))));exact o8 _ h wW}}};{rw [g8 hb] at h;refine oN (oN (oZ (oZ (oN (z9 rfl rfl (oM (.bool true) (oN (oN (oZ (oZ (oN (z9 rfl rfl (b6 ?_)))))))))))));exact o8 _ h wW}};{refine f8 ?_;refine n6 (t := s25) rfl (fun hb => ?_) (fun hb => ?_);{rw [g8 hb] at h;refine f8 (b9 (oM (.bool false) (b6 (g7 (i9 (j4 ?_))))));cases h;refine a4d rfl (fun h => ?_);refine j4 ?_;cases h;exact ⟨trivial, _, rfl, (a0F rfl (.refl _))⟩};{rw [g9 hb] at h;refine i7 (g7 (a0o (f8 (b9 (oM (.int .i64 p22) (oP (.bool (decide (p22 ≥ 16))) (b6 (g7 ?_))))))));refine a2m h (fun s27 => [(1, (.bool c01)), (5, (.int .i64 (I64 (1 + (I64 (Int.tmod (U64 n00) 40)))))), (10, (.sl false 1 (List.map (avI .i64) a17.1))), (12, (.int .i64 s27)), (13, (.int .i64 (i21 : Int))), (14, (.int .i64 p22)), (96, (.sl false 1 (List.map (avI .i64) a17.1))), (97, (.int .i64 (List.length a17.1 : Int))), (98, (.int .i64 (i21 : Int)))]) (fun s27 => []) (fun k26 h => ?_) (fun s27 h => ?_);{refine n6 (t := (decide (p22 ≥ 16))) rfl (fun hb => ?_) (fun hb => ?_);{rw [g8 hb] at h;refine b9 (oM (.int .i64 s20) (oP (.int .i64 (I64 (s20 + 1))) (oM (.int .i64 (I64 (s20 + 1))) (b6 ?_))));exact o8 _ h wW};{rw [g9 hb] at h;refine i7 ?_;exact o8 _ h wW}};{refine f8 (b9 (oM (.sl false 1 (List.map (avI .i64) a17.1)) (oM (.int .i64 (i21 : Int)) ?_)));obtain ⟨l_28, hl28, h⟩ := c9 h;refine b5P rfl (fun _ => rfl) (fun h0 => a5X h0) hl28 (x2 rfl (oM (.int .i64 0) (b6 (g7 ?_))));refine a1h (fun s_29 => [(1, (.bool c01)), (5, (.int .i64 (I64 (1 + (I64 (Int.tmod (U64 n00) 40)))))), (10, (.sl false 1 (List.map (avI .i64) a17.1))), (12, (.int .i64 s27)), (14, (.int .i64 p22)), (96, (.sl false 1 (List.map (avI .i64) a17.1))), (97, (.int .i64 (List.length a17.1 : Int))), (98, (.int .i64 (i21 : Int))), (126, (.sl false 1 (List.map (avI .i64) l_28)))]) (fun s_29 => []) h zD zD (fun _ => ⟨rfl, rfl, rfl, rfl⟩) wW (fun i_30 q_31 s_29 c hx32 hlt h => ?_) (fun s_29 fr' S' h hw => ?_);{refine f8 (b9 (m7 rfl rfl (a0I hx32) (oP (.int .i64 q_31) (oM (.int .i64 q_31) (b6 (g7 (f8 (b9 (oM (.int .i64 p22) (oM (.int .i64 q_31) (oP (.bool (p22 == q_31)) (b6 (g7 ?_)))))))))))));refine n6 (t := (p22 == q_31)) rfl (fun hb => ?_) (fun hb => ?_);{rw [g8 hb] at h;refine f8 (b9 (oM (.bool false) (b6 (g7 (i9 ?_)))));cases h;refine a4d rfl (fun h => ?_);cases h;refine a4d rfl (fun h => ?_);refine j4 ?_;cases h;exact ⟨trivial, _, rfl, (a0F rfl (.refl _))⟩};{rw [g9 hb] at h;refine i7 ?_;cases h;exact a3O rfl wW}};{cases h;exact b8G rfl hw wW}}}}};{refine a5j hw ?_;refine a2m h (fun s34 => [(4, (.bool s34))]) (fun s34 => []) (fun k33 h => ?_) (fun s34 h => ?_);{refine b9 (oM (.int .i64 (I64 (1 + (I64 (Int.tmod (U64 n00) 40))))) (oP (.bool (decide ((I64 (1 + (I64 (Int.tmod (U64 n00) 40)))) > 6))) (oM (.bool (decide ((I64 (1 + (I64 (Int.tmod (U64 n00) 40)))) > 6))) ?_)));refine m9 (b := (decide ((I64 (1 + (I64 (Int.tmod (U64 n00) 40)))) > 6))) rfl rfl rfl (fun hb => ?_) (fun hb => ?_);{rw [g9 hb] at h;refine oM (.int .i64 s20) (oH (oP (.bool (s20 == 0)) (x4 rfl rfl (oM (.bool (s20 == 0)) (b6 ?_)))));exact o8 _ h wW};{rw [g8 hb] at h;refine oN (z9 rfl rfl (oM (.bool true) (b6 ?_)));exact o8 _ h wW}};{refine i9 ?_;cases h;exact ⟨trivial, _, rfl, (a0F rfl (.refl _))⟩}}}}}}}}}
end
end Go.Proofs.YtepdcebjobjjgaaDoor

