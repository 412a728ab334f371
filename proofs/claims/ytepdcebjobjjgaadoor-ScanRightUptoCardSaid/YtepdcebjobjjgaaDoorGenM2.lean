/- What the functions compute, and that they do (printed by wip/gen/gen.py), part 1. -/
import Derived.Test.YtepdcebjobjjgaaDoorWlH2
import Derived.Test.YtepdcebjobjjgaaDoorRows
import Derived.Test.YtepdcebjobjjgaaDoorLvW
set_option linter.unusedVariables false
set_option linter.unusedSimpArgs false
namespace Go.Proofs.YtepdcebjobjjgaaDoor
open Go Go.Ab
set_option maxRecDepth 20000
set_option maxHeartbeats 2000000
def a2b : FC := (.seq (.reg [⟨(some 1), none, .op (.box (.t 0))⟩,
  ⟨(some 2), none, .op (.mv (.v .nils))⟩] [])
  (.seq (.reg [⟨(some 12), none, .op (.load (some 8) (.t 1))⟩,
  ⟨(some 13), none, .call 47 [(.t 12)]⟩,
  ⟨(some 3), none, .op (.mv (.t 13))⟩] [])
  (.seq (.reg [⟨(some 4), none, .op (.mv (.v .nils))⟩] [])
  (.seq (.seq (.reg [⟨(some 14), none, .op (.fad 6 (.t 1))⟩,
  ⟨(some 15), none, .op (.load none (.t 14))⟩,
  ⟨(some 16), none, .op (.len .sl (.t 15))⟩,
  ⟨(some 17), none, .op (.mv (.v (iZ 0)))⟩] [])
  (.block 0 (.loop (.seq (.reg [⟨(some 18), none, .op (.bin .none .lss (.t 17) (.t 16))⟩] [])
  (.seq (.cond (.t 18)
  .skip
  (.exit 0))
  (.seq (.block 1 (.seq (.reg [⟨(some 19), none, .op (.iad none (some 12) (.t 15) (.t 17))⟩,
  ⟨(some 20), none, .op (.load (some 12) (.t 19))⟩,
  ⟨(some 6), none, .op (.new [(.int .u8 0), (.int .u8 0), (iZ 0), (iZ 0), (iZ 0), (iZ 0), (iZ 0), (iZ 0), (.int .u64 0), .nils, (iZ 0), (iZ 0)])⟩,
  ⟨none, none, .op (.store 12 (.t 6) (.t 20))⟩] [])
  (.seq (.reg [⟨(some 7), none, .op (.mv (.v .nils))⟩] [])
  (.seq (.seq (.reg [⟨(some 21), none, .op (.fad 1 (.t 1))⟩,
  ⟨(some 22), none, .op (.load none (.t 21))⟩,
  ⟨(some 23), none, .op (.len .sl (.t 22))⟩,
  ⟨(some 24), none, .op (.mv (.v (iZ 0)))⟩] [])
  (.block 2 (.loop (.seq (.reg [⟨(some 25), none, .op (.bin .none .lss (.t 24) (.t 23))⟩] [])
  (.seq (.cond (.t 25)
  .skip
  (.exit 2))
  (.seq (.block 3 (.seq (.reg [⟨(some 26), none, .op (.mv (.t 24))⟩,
  ⟨(some 8), none, .op (.mv (.t 26))⟩] [])
  (.seq (.reg [⟨(some 9), none, .op (.mv (.v (.bool false)))⟩] [])
  (.seq (.seq (.reg [⟨(some 27), none, .op (.load (some 12) (.t 6))⟩,
  ⟨(some 28), none, .call 44 [(.t 27)]⟩,
  ⟨(some 29), none, .op (.len .sl (.t 28))⟩,
  ⟨(some 30), none, .op (.mv (.v (iZ 0)))⟩] [])
  (.block 4 (.loop (.seq (.reg [⟨(some 31), none, .op (.bin .none .lss (.t 30) (.t 29))⟩] [])
  (.seq (.cond (.t 31)
  .skip
  (.exit 4))
  (.seq (.block 5 (.seq (.reg [⟨(some 32), none, .op (.iad none none (.t 28) (.t 30))⟩,
  ⟨(some 33), none, .op (.load none (.t 32))⟩,
  ⟨(some 11), none, .op (.mv (.t 33))⟩] [])
  (.reg [⟨(some 34), none, .op (.mv (.t 9))⟩,
  ⟨(some 35), none, .op (.mv (.t 34))⟩,
  ⟨(some 36), some (35, false), .op (.mv (.t 3))⟩,
  ⟨(some 37), some (35, false), .op (.mv (.t 11))⟩,
  ⟨(some 38), some (35, false), .op (.iad none none (.t 36) (.t 37))⟩,
  ⟨(some 39), some (35, false), .op (.load none (.t 38))⟩,
  ⟨(some 40), some (35, false), .op (.mv (.t 8))⟩,
  ⟨(some 41), some (35, false), .call 42 [(.t 39), (.t 40)]⟩,
  ⟨(some 42), none, .op (.pick (.t 35) (.v (.bool true)) (.t 41))⟩,
  ⟨(some 9), none, .op (.mv (.t 42))⟩] [])))
  (.reg [⟨(some 43), none, .op (.bin .none .add (.t 30) (.v (iZ 1)))⟩,
  ⟨(some 30), none, .op (.mv (.t 43))⟩] [])))))))
  (.seq (.reg [⟨(some 44), none, .op (.mv (.t 9))⟩] [])
  (.cond (.t 44)
  (.reg [⟨(some 45), none, .op (.mv (.t 7))⟩,
  ⟨(some 46), none, .op (.mv (.t 8))⟩,
  ⟨(some 47), none, .op (.bsl none [(iZ 0)] 1 [(0, 1, (.t 46))])⟩,
  ⟨(some 48), none, .op (.app none 8 (.t 45) (.t 47))⟩,
  ⟨(some 7), none, .op (.mv (.t 48))⟩] [])
  .skip))))))
  (.reg [⟨(some 49), none, .op (.bin .none .add (.t 24) (.v (iZ 1)))⟩,
  ⟨(some 24), none, .op (.mv (.t 49))⟩] [])))))))
  (.block 1000003 (.seq (.reg [⟨(some 50), none, .op (.mv (.t 4))⟩,
  ⟨(some 51), none, .op (.mv (.t 7))⟩] []) (.reg [⟨(some 52), none, .op (.bsl none [.nils] 1 [(0, 1, (.t 51))])⟩,
  ⟨(some 53), none, .op (.app none 24 (.t 50) (.t 52))⟩,
  ⟨(some 4), none, .op (.mv (.t 53))⟩] [])))))))
  (.reg [⟨(some 54), none, .op (.bin .none .add (.t 17) (.v (iZ 1)))⟩,
  ⟨(some 17), none, .op (.mv (.t 54))⟩] [])))))))
  (.seq (.reg [⟨(some 55), none, .op (.mv (.t 4))⟩,
  ⟨(some 2), none, .op (.mv (.t 55))⟩] [])
  .ret)))))
theorem a4E : c2r Tryd.prog 48 56 [(2, none)] a2b := ⟨_, _, Tryd.func48, rfl, rfl, rfl, by kernel_rfl, by kernel_rfl⟩
def a0q (fuel : Nat) (g_00 : b5) : Option (List (List Int)) :=
  ((a0c fuel g_00).bind fun v1 => ((rng (fun (i_3 : Nat) (n_4 : g6) (s_2 : (List (List Int))) => (((rni (fun (i_7 : Nat) (s_6 : (List Int)) => (((o9 n_4).bind fun nex_8 => ((rng (fun (i_10 : Nat) (vto_11 : Int) (s_9 : Bool) => ((if s_9 then (some (.nxt true)) else ((o6 v1 vto_11).bind fun y_13 => ((j8 y_13 (i_7 : Int)).bind fun vin_14 => (some (.nxt vin_14))))) : Option (Stp Bool (Option (Stp (List Int) (Option (Stp (List (List Int)) (Option (List (List Int)))))))))) nex_8 false).bind (oc (fun (s_9 : Bool) => (if s_9 then ((a4R 8 s_6 [(i_7 : Int)]).bind fun l_15 => (some (.nxt l_15))) else (some (.nxt s_6))))))) : Option (Stp (List Int) (Option (Stp (List (List Int)) (Option (List (List Int)))))))) (g_00.Kinds.length : Int) []).bind (oc (fun (s_6 : (List Int)) => ((a4R 24 s_2 [s_6]).bind fun l_16 => (some (.nxt l_16)))))) : Option (Stp (List (List Int)) (Option (List (List Int)))))) g_00.Nodes []).bind (oc (fun (s_2 : (List (List Int))) => (some s_2)))))
theorem a4F {fuel : Nat} {g_00 : b5} {r : (List (List Int))} (h : a0q fuel g_00 = some r) : m5 Tryd.prog 48 [(b5.av g_00)] (.sl false 1 (List.map (avL 1 (avI .i64)) r)) := by
 unfold a0q at h;refine b1c mixed a4E zS [6, 48, 53] 6 ?_;unfold a2b;refine d9 (b8 (oP (pC (b5.av g_00) 0) (oM .nils (b7 (f5 (d9 (b8 (oP (b5.av g_00) ?_))))))));obtain ⟨v1, hv1, h⟩ := b9 h;refine j4 (a2w (fuel := fuel)  hv1) rfl ⟨(.refl _), trivial⟩ (i6 ⟨(b5.enc.blw _ 0), trivial⟩) ((a0K (g5 .i64) 1).blws 0) (oM (.sl false 1 (List.map (avL 1 (avI .i64)) v1)) (b7 (f5 (d9 (b8 (oM .nils (b7 (f5 (x9 (d9 (b8 (oP (pC (b5.av g_00) 6) (oP (sV 12 g6.av g_00.Nodes) (n5 rfl (oM (iZ 0) ?_)))))))))))))));refine b7 (f5 (d9 ?_));refine a0j (fun s_2 => [(1, (pC (b5.av g_00) 0)), (3, (.sl false 1 (List.map (avL 1 (avI .i64)) v1))), (4, (.ref 0 1 0 (List.length s_2) none)), (15, (sV 12 g6.av g_00.Nodes))]) (fun s_2 => [.arr 1 (flat (avL 1 (avI .i64)) s_2)]) h zD zD (fun _ => ⟨rfl, rfl, rfl, rfl⟩) (g9 [none] rfl nB ⟨(a3F rfl rfl rfl), trivial⟩ ⟨rB, rB, (g7 (i9 (b5.enc.blw _ 0))), (g7 ((a0K (g5 .i64) 1).blws 0)), (a4c rfl), (g7 (g6.enc.blws 0)), trivial⟩) (fun i_3 n_4 s_2 c hx5 hlt h => ?_) (fun s_2 fr' S' h hw => ?_);{refine d9 (b8 (j7 rfl rfl (v6 hx5) (oP (g6.av n_4) (a1d (v' := .ptr 1 0 0) (S' := [.arr 1 (flat (avL 1 (avI .i64)) s_2), .arr 0 [(.int .u8 0), (.int .u8 0), (iZ 0), (iZ 0), (iZ 0), (iZ 0), (iZ 0), (iZ 0), (.int .u64 0), .nils, (iZ 0), (iZ 0)]]) rfl rfl rfl (a9y (S' := [.arr 1 (flat (avL 1 (avI .i64)) s_2), .arr 0 [(.int .u8 n_4.Op), (.int .u8 n_4.By), (iZ n_4.D), (iZ n_4.E), (iZ n_4.A), (iZ n_4.B), (iZ n_4.F), (iZ n_4.Cell), (.int .u64 n_4.Imm), (sV 1 (avI .i64) n_4.Args), (iZ n_4.Next), (iZ n_4.Else)]]) rfl rfl (b7 (f5 (d9 (b8 (oM .nils (b7 (f5 (x9 (d9 (b8 ?_)))))))))))))));refine oP (pC (b5.av g_00) 1) (oP (sV 1 (avI .u8) g_00.Kinds) (n5 rfl (oM (iZ 0) (b7 (f5 (d9 ?_))))));refine a4d (fun s_6 => [(1, (pC (b5.av g_00) 0)), (3, (.sl false 1 (List.map (avL 1 (avI .i64)) v1))), (4, (.ref 0 1 0 (List.length s_2) none)), (6, (.ptr 1 0 0)), (7, (.ref 2 1 0 (List.length s_6) none)), (15, (sV 12 g6.av g_00.Nodes)), (16, (iZ (g_00.Nodes.length : Int))), (17, (iZ (i_3 : Int)))]) (fun s_6 => [.arr 1 (flat (avL 1 (avI .i64)) s_2), .arr 0 [(.int .u8 n_4.Op), (.int .u8 n_4.By), (iZ n_4.D), (iZ n_4.E), (iZ n_4.A), (iZ n_4.B), (iZ n_4.F), (iZ n_4.Cell), (.int .u64 n_4.Imm), (sV 1 (avI .i64) n_4.Args), (iZ n_4.Next), (iZ n_4.Else)], .arr 1 (flat (avI .i64) s_6)]) h zD zD (fun _ => ⟨rfl, rfl, rfl, rfl⟩) (g9 [some (0, 0), some (1, 0), none] rfl nB ⟨(j9 rfl rfl (.refl ((a0K (g5 .i64) 1).blwf 0 _)) rfl), (j9 rfl rfl (cB rfl (cB rfl (cB rfl (cB rfl (cB rfl (cB rfl (cB rfl (cB rfl (cB rfl (.cons (g7 eBi) (cB rfl (cB rfl nL)))))))))))) rfl), (a3F rfl rfl rfl), trivial⟩ ⟨rB, rB, (g7 (i9 (b5.enc.blw _ 0))), (g7 ((a0K (g5 .i64) 1).blws 0)), (f6 (a0K (g5 .i64) 1) rfl rfl rfl), (j6 rfl rfl rfl rfl), (a4c rfl), (g7 (g6.enc.blws 0)), rB, rB, trivial⟩) (fun i_7 s_6 c hlt h => ?_) (fun s_6 fr' S' h hw => ?_);{refine d9 (b8 (oM (iZ (i_7 : Int)) (oM (iZ (i_7 : Int)) (b7 (f5 (d9 (b8 (oM (.bool false) (b7 (f5 (x9 (d9 (b8 (t8 (v' := (g6.av n_4)) rfl (.aggL ⟨(.refl _), (.refl _), (.refl _), (.refl _), (.refl _), (.refl _), (.refl _), (.refl _), (.refl _), (.refl _), (.refl _), (.refl _), trivial⟩) rfl ?_))))))))))))));obtain ⟨nex_8, hn8, h⟩ := b9 h;refine j4 (a0z  hn8) rfl ⟨(.refl _), trivial⟩ (i6 ⟨(g6.enc.blw _ 0), trivial⟩) eBi (n5 rfl (oM (iZ 0) (b7 (f5 (d9 ?_)))));refine a0j (fun s_9 => [(1, (pC (b5.av g_00) 0)), (3, (.sl false 1 (List.map (avL 1 (avI .i64)) v1))), (4, (.ref 0 1 0 (List.length s_2) none)), (6, (.ptr 1 0 0)), (7, (.ref 2 1 0 (List.length s_6) none)), (8, (iZ (i_7 : Int))), (9, (.bool s_9)), (15, (sV 12 g6.av g_00.Nodes)), (16, (iZ (g_00.Nodes.length : Int))), (17, (iZ (i_3 : Int))), (23, (iZ (g_00.Kinds.length : Int))), (24, (iZ (i_7 : Int))), (28, (sV 1 (avI .i64) nex_8))]) (fun s_9 => [.arr 1 (flat (avL 1 (avI .i64)) s_2), .arr 0 [(.int .u8 n_4.Op), (.int .u8 n_4.By), (iZ n_4.D), (iZ n_4.E), (iZ n_4.A), (iZ n_4.B), (iZ n_4.F), (iZ n_4.Cell), (.int .u64 n_4.Imm), (sV 1 (avI .i64) n_4.Args), (iZ n_4.Next), (iZ n_4.Else)], .arr 1 (flat (avI .i64) s_6)]) h zD zD (fun _ => ⟨rfl, rfl, rfl, rfl⟩) (g9 [some (0, 0), some (1, 0), some (2, 0)] rfl nB ⟨(j9 rfl rfl (.refl ((a0K (g5 .i64) 1).blwf 0 _)) rfl), (j9 rfl rfl (cB rfl (cB rfl (cB rfl (cB rfl (cB rfl (cB rfl (cB rfl (cB rfl (cB rfl (.cons (g7 eBi) (cB rfl (cB rfl nL)))))))))))) rfl), (j9 rfl rfl (.refl ((g5 .i64).blwf 0 _)) rfl), trivial⟩ ⟨rB, rB, (g7 (i9 (b5.enc.blw _ 0))), (g7 ((a0K (g5 .i64) 1).blws 0)), (f6 (a0K (g5 .i64) 1) rfl rfl rfl), (j6 rfl rfl rfl rfl), (f6 (g5 .i64) rfl rfl rfl), rB, rB, (g7 (g6.enc.blws 0)), rB, rB, rB, rB, (g7 eBi), trivial⟩) (fun i_10 vto_11 s_9 c hx12 hlt h => ?_) (fun s_9 fr' S' h hw => ?_);{refine d9 (b8 (j7 rfl rfl (v6 hx12) (oQ (iZ vto_11) (b7 (f5 (b8 (oM (.bool s_9) (oM (.bool s_9) ?_))))))));refine xF h ?_ ?_;{intro h;refine oM (.sl false 1 (List.map (avL 1 (avI .i64)) v1)) (oH (oM (iZ vto_11) (oH ?_)));obtain ⟨y_13, hy13, h⟩ := b9 h;refine j7 rfl rfl hy13 (oH (oP (sV 1 (avI .i64) y_13) (oH (oM (iZ (i_7 : Int)) (oH ?_)))));obtain ⟨vin_14, hv14, h⟩ := b9 h;refine j4 (m6  hv14) rfl ⟨(.refl _), (.refl _), trivial⟩ (i6 ⟨eBi, rfl, trivial⟩) rfl (m9 rfl rfl (oM (.bool vin_14) (b7 ?_)));cases h;exact a1O rfl (g9 [some (0, 0), some (1, 0), some (2, 0)] rfl nB ⟨(j9 rfl rfl (.refl ((a0K (g5 .i64) 1).blwf 0 _)) rfl), (j9 rfl rfl (cB rfl (cB rfl (cB rfl (cB rfl (cB rfl (cB rfl (cB rfl (cB rfl (cB rfl (.cons (g7 eBi) (cB rfl (cB rfl nL)))))))))))) rfl), (j9 rfl rfl (.refl ((g5 .i64).blwf 0 _)) rfl), trivial⟩ ⟨rB, rB, (g7 (i9 (b5.enc.blw _ 0))), (g7 ((a0K (g5 .i64) 1).blws 0)), (f6 (a0K (g5 .i64) 1) rfl rfl rfl), (j6 rfl rfl rfl rfl), (f6 (g5 .i64) rfl rfl rfl), rB, rB, (g7 (g6.enc.blws 0)), rB, rB, rB, rB, (g7 eBi), trivial⟩)};{intro h;refine oN (oN (oN (oN (oN (l8 rfl rfl (oM (.bool true) (b7 ?_)))))));cases h;exact a1O rfl (g9 [some (0, 0), some (1, 0), some (2, 0)] rfl nB ⟨(j9 rfl rfl (.refl ((a0K (g5 .i64) 1).blwf 0 _)) rfl), (j9 rfl rfl (cB rfl (cB rfl (cB rfl (cB rfl (cB rfl (cB rfl (cB rfl (cB rfl (cB rfl (.cons (g7 eBi) (cB rfl (cB rfl nL)))))))))))) rfl), (j9 rfl rfl (.refl ((g5 .i64).blwf 0 _)) rfl), trivial⟩ ⟨rB, rB, (g7 (i9 (b5.enc.blw _ 0))), (g7 ((a0K (g5 .i64) 1).blws 0)), (f6 (a0K (g5 .i64) 1) rfl rfl rfl), (j6 rfl rfl rfl rfl), (f6 (g5 .i64) rfl rfl rfl), rB, rB, (g7 (g6.enc.blws 0)), rB, rB, rB, rB, (g7 eBi), trivial⟩)}};{refine a2Z hw (d9 (b8 (oM (.bool s_9) (b7 (f5 ?_)))));refine xC h ?_ ?_;{intro h;refine b8 (oM (.ref 2 1 0 (List.length s_6) none) (oM (iZ (i_7 : Int)) (t8 (v' := (.sl true 1 (List.map (avI .i64) [(i_7 : Int)]))) rfl (.refl _) rfl ?_)));obtain ⟨l_15, hl15, h⟩ := b9 h;refine a5D (S' := [.arr 1 (flat (avL 1 (avI .i64)) s_2), .arr 0 [(.int .u8 n_4.Op), (.int .u8 n_4.By), (iZ n_4.D), (iZ n_4.E), (iZ n_4.A), (iZ n_4.B), (iZ n_4.F), (iZ n_4.Cell), (.int .u64 n_4.Imm), (sV 1 (avI .i64) n_4.Args), (iZ n_4.Next), (iZ n_4.Else)], .arr 2 (flat (avI .i64) l_15)]) (g5 .i64) rfl (a4b [(i_7 : Int)]) rfl hl15 rfl (oM (.ref 2 2 0 (List.length l_15) none) (b7 ?_));cases h;exact a1O rfl (g9 [some (0, 0), some (1, 0), some (2, 0)] rfl nB ⟨(j9 rfl rfl (.refl ((a0K (g5 .i64) 1).blwf 0 _)) rfl), (j9 rfl rfl (cB rfl (cB rfl (cB rfl (cB rfl (cB rfl (cB rfl (cB rfl (cB rfl (cB rfl (.cons (g7 eBi) (cB rfl (cB rfl nL)))))))))))) rfl), (j9 rfl rfl (.refl ((g5 .i64).blwf 0 _)) rfl), trivial⟩ ⟨rB, rB, (g7 (i9 (b5.enc.blw _ 0))), (g7 ((a0K (g5 .i64) 1).blws 0)), (f6 (a0K (g5 .i64) 1) rfl rfl rfl), (j6 rfl rfl rfl rfl), (f6 (g5 .i64) rfl rfl rfl), (g7 (g6.enc.blws 0)), rB, rB, trivial⟩)};{intro h;refine i7 ?_;cases h;exact a1O rfl (g9 [some (0, 0), some (1, 0), some (2, 0)] rfl nB ⟨(j9 rfl rfl (.refl ((a0K (g5 .i64) 1).blwf 0 _)) rfl), (j9 rfl rfl (cB rfl (cB rfl (cB rfl (cB rfl (cB rfl (cB rfl (cB rfl (cB rfl (cB rfl (.cons (g7 eBi) (cB rfl (cB rfl nL)))))))))))) rfl), (j9 rfl rfl (.refl ((g5 .i64).blwf 0 _)) rfl), trivial⟩ ⟨rB, rB, (g7 (i9 (b5.enc.blw _ 0))), (g7 ((a0K (g5 .i64) 1).blws 0)), (f6 (a0K (g5 .i64) 1) rfl rfl rfl), (j6 rfl rfl rfl rfl), (f6 (g5 .i64) rfl rfl rfl), (g7 (g6.enc.blws 0)), rB, rB, trivial⟩)}}};{refine a2Z hw (k7 (d9 (b8 (oM (.ref 0 1 0 (List.length s_2) none) (oM (.ref 2 1 0 (List.length s_6) none) (b7 (a3I (F := [(1, (pC (b5.av g_00) 0)), (3, (.sl false 1 (List.map (avL 1 (avI .i64)) v1))), (15, (sV 12 g6.av g_00.Nodes)), (16, (iZ (g_00.Nodes.length : Int))), (17, (iZ (i_3 : Int))), (50, (.ref 0 1 0 (List.length s_2) none)), (51, (sV 1 (avI .i64) s_6))]) (T := [.arr 1 (flat (avL 1 (avI .i64)) s_2)]) (a6x (fr'' := [(1, (pC (b5.av g_00) 0)), (3, (.sl false 1 (List.map (avL 1 (avI .i64)) v1))), (15, (sV 12 g6.av g_00.Nodes)), (16, (iZ (g_00.Nodes.length : Int))), (17, (iZ (i_3 : Int))), (50, (.ref 0 1 0 (List.length s_2) none)), (51, (sV 1 (avI .i64) s_6))]) (S'' := [.arr 1 (flat (avL 1 (avI .i64)) s_2)]) (g9 (fr' := [(1, (pC (b5.av g_00) 0)), (3, (.sl false 1 (List.map (avL 1 (avI .i64)) v1))), (15, (sV 12 g6.av g_00.Nodes)), (16, (iZ (g_00.Nodes.length : Int))), (17, (iZ (i_3 : Int))), (50, (.ref 0 1 0 (List.length s_2) none)), (51, (.ref 1 1 0 (List.length s_6) none))]) (S' := [.arr 1 (flat (avL 1 (avI .i64)) s_2), .arr 1 (flat (avI .i64) s_6)]) [some (0, 0), some (2, 0)] rfl nB ⟨(j9 rfl rfl (.refl ((a0K (g5 .i64) 1).blwf 0 _)) rfl), (j9 rfl rfl (.refl ((g5 .i64).blwf 0 _)) rfl), trivial⟩ ⟨(g7 (i9 (b5.enc.blw _ 0))), (g7 ((a0K (g5 .i64) 1).blws 0)), (g7 (g6.enc.blws 0)), rB, rB, (f6 (a0K (g5 .i64) 1) rfl rfl rfl), (f6 (g5 .i64) rfl rfl rfl), trivial⟩) (c2q 1 6 rfl ⟨⟨rfl, b3Z ((a0K (g5 .i64) 1).blwf 1 _)⟩, trivial⟩ ⟨(a0k (i9 (b5.enc.blw _ 1)) (.refl _)), (a0k ((a0K (g5 .i64) 1).blws 1) (.refl _)), (a0k (g6.enc.blws 1) (.refl _)), (a0k rfl (.refl _)), (a0k rfl (.refl _)), (a0k rfl (.refl _)), (a5i (g5 .i64) nB rfl), trivial⟩)) (b8 (t8 (v' := (.sl true 1 (List.map (avL 1 (avI .i64)) [s_6]))) rfl (.refl _) rfl ?_)))))))));obtain ⟨l_16, hl16, h⟩ := b9 h;refine a5D (S' := [.arr 2 (flat (avL 1 (avI .i64)) l_16)]) (a0K (g5 .i64) 1) rfl (a4b [s_6]) rfl hl16 rfl (oM (.ref 0 2 0 (List.length l_16) none) (b7 (a0m ?_)));cases h;exact a1O rfl (g9 [some (0, 0)] rfl nB ⟨(j9 rfl rfl (.refl ((a0K (g5 .i64) 1).blwf 0 _)) rfl), trivial⟩ ⟨rB, rB, (g7 (i9 (b5.enc.blw _ 0))), (g7 ((a0K (g5 .i64) 1).blws 0)), (f6 (a0K (g5 .i64) 1) rfl rfl rfl), (g7 (g6.enc.blws 0)), trivial⟩)}};{refine a2Z hw (d9 (b8 (oM (.ref 0 1 0 (List.length s_2) none) (oM (.ref 0 1 0 (List.length s_2) none) (b7 (f5 (j5 ?_)))))));cases h;exact ⟨trivial, _, rfl, (a5i (a0K (g5 .i64) 1) (Nat.zero_le _) rfl)⟩}
end Go.Proofs.YtepdcebjobjjgaaDoor

