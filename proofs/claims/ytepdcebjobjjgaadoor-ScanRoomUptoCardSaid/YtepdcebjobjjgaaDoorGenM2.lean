/- What the functions compute, and that they do (printed by wip/gen/gen.py), part 1. -/
import Derived.Test.YtepdcebjobjjgaaDoorWlH2
import Derived.Test.YtepdcebjobjjgaaDoorRows
import Derived.Test.YtepdcebjobjjgaaDoorLvW
set_option linter.unusedVariables false
set_option linter.unusedSimpArgs false
namespace Go.Proofs.YtepdcebjobjjgaaDoor
open Go Go.Ab
set_option maxRecDepth 20000
set_option maxHeartbeats 2000000
def a1S : FC := (.seq (.reg [⟨(some 1), none, .op (.box (.t 0))⟩,
  ⟨(some 2), none, .op (.mv (.v .nils))⟩] [])
  (.seq (.reg [⟨(some 12), none, .op (.load (some 8) (.t 1))⟩,
  ⟨(some 13), none, .call 47 [(.t 12)]⟩,
  ⟨(some 3), none, .op (.mv (.t 13))⟩] [])
  (.seq (.reg [⟨(some 4), none, .op (.mv (.v .nils))⟩] [])
  (.seq (.seq (.reg [⟨(some 14), none, .op (.fad 6 (.t 1))⟩,
  ⟨(some 15), none, .op (.load none (.t 14))⟩,
  ⟨(some 16), none, .op (.len .sl (.t 15))⟩,
  ⟨(some 17), none, .op (.mv (.v (.int .i64 0)))⟩] [])
  (.block 0 (.loop (.seq (.reg [⟨(some 18), none, .op (.bin .none .lss (.t 17) (.t 16))⟩] [])
  (.seq (.cond (.t 18)
  .skip
  (.exit 0))
  (.seq (.block 1 (.seq (.reg [⟨(some 19), none, .op (.iad none (some 12) (.t 15) (.t 17))⟩,
  ⟨(some 20), none, .op (.load (some 12) (.t 19))⟩,
  ⟨(some 6), none, .op (.new [(.int .u8 0), (.int .u8 0), (.int .i64 0), (.int .i64 0), (.int .i64 0), (.int .i64 0), (.int .i64 0), (.int .i64 0), (.int .u64 0), .nils, (.int .i64 0), (.int .i64 0)])⟩,
  ⟨none, none, .op (.store 12 (.t 6) (.t 20))⟩] [])
  (.seq (.reg [⟨(some 7), none, .op (.mv (.v .nils))⟩] [])
  (.seq (.seq (.reg [⟨(some 21), none, .op (.fad 1 (.t 1))⟩,
  ⟨(some 22), none, .op (.load none (.t 21))⟩,
  ⟨(some 23), none, .op (.len .sl (.t 22))⟩,
  ⟨(some 24), none, .op (.mv (.v (.int .i64 0)))⟩] [])
  (.block 2 (.loop (.seq (.reg [⟨(some 25), none, .op (.bin .none .lss (.t 24) (.t 23))⟩] [])
  (.seq (.cond (.t 25)
  .skip
  (.exit 2))
  (.seq (.block 3 (.seq (.reg [⟨(some 26), none, .op (.mv (.t 24))⟩,
  ⟨(some 8), none, .op (.mv (.t 26))⟩] [])
  (.seq (.reg [⟨(some 9), none, .op (.mv (.v (.bool false)))⟩] [])
  (.seq (.seq (.reg [⟨(some 27), none, .op (.load (some 12) (.t 6))⟩,
  ⟨(some 28), none, .call 44 [(.t 27)]⟩,
  ⟨(some 29), none, .op (.len .sl (.t 28))⟩,
  ⟨(some 30), none, .op (.mv (.v (.int .i64 0)))⟩] [])
  (.block 4 (.loop (.seq (.reg [⟨(some 31), none, .op (.bin .none .lss (.t 30) (.t 29))⟩] [])
  (.seq (.cond (.t 31)
  .skip
  (.exit 4))
  (.seq (.block 5 (.seq (.reg [⟨(some 32), none, .op (.iad none none (.t 28) (.t 30))⟩,
  ⟨(some 33), none, .op (.load none (.t 32))⟩,
  ⟨(some 11), none, .op (.mv (.t 33))⟩] [])
  (.reg [⟨(some 34), none, .op (.mv (.t 9))⟩,
  ⟨(some 35), none, .op (.mv (.t 34))⟩,
  ⟨(some 36), some (35, false), .op (.mv (.t 3))⟩,
  ⟨(some 37), some (35, false), .op (.mv (.t 11))⟩,
  ⟨(some 38), some (35, false), .op (.iad none none (.t 36) (.t 37))⟩,
  ⟨(some 39), some (35, false), .op (.load none (.t 38))⟩,
  ⟨(some 40), some (35, false), .op (.mv (.t 8))⟩,
  ⟨(some 41), some (35, false), .call 42 [(.t 39), (.t 40)]⟩,
  ⟨(some 42), none, .op (.pick (.t 35) (.v (.bool true)) (.t 41))⟩,
  ⟨(some 9), none, .op (.mv (.t 42))⟩] [])))
  (.reg [⟨(some 43), none, .op (.bin .none .add (.t 30) (.v (.int .i64 1)))⟩,
  ⟨(some 30), none, .op (.mv (.t 43))⟩] [])))))))
  (.seq (.reg [⟨(some 44), none, .op (.mv (.t 9))⟩] [])
  (.cond (.t 44)
  (.reg [⟨(some 45), none, .op (.mv (.t 7))⟩,
  ⟨(some 46), none, .op (.mv (.t 8))⟩,
  ⟨(some 47), none, .op (.bsl none [(.int .i64 0)] 1 [(0, 1, (.t 46))])⟩,
  ⟨(some 48), none, .op (.app none 8 (.t 45) (.t 47))⟩,
  ⟨(some 7), none, .op (.mv (.t 48))⟩] [])
  .skip))))))
  (.reg [⟨(some 49), none, .op (.bin .none .add (.t 24) (.v (.int .i64 1)))⟩,
  ⟨(some 24), none, .op (.mv (.t 49))⟩] [])))))))
  (.block 1000003 (.seq (.reg [⟨(some 50), none, .op (.mv (.t 4))⟩,
  ⟨(some 51), none, .op (.mv (.t 7))⟩] []) (.reg [⟨(some 52), none, .op (.bsl none [.nils] 1 [(0, 1, (.t 51))])⟩,
  ⟨(some 53), none, .op (.app none 24 (.t 50) (.t 52))⟩,
  ⟨(some 4), none, .op (.mv (.t 53))⟩] [])))))))
  (.reg [⟨(some 54), none, .op (.bin .none .add (.t 17) (.v (.int .i64 1)))⟩,
  ⟨(some 17), none, .op (.mv (.t 54))⟩] [])))))))
  (.seq (.reg [⟨(some 55), none, .op (.mv (.t 4))⟩,
  ⟨(some 2), none, .op (.mv (.t 55))⟩] [])
  .ret)))))
theorem a4r : c2n Tryd.prog 48 56 [(2, none)] a1S := ⟨_, _, Tryd.func48, rfl, rfl, rfl, by kernel_rfl, by kernel_rfl⟩
def a0m (fuel : Nat) (g_00 : b5) : Option (List (List Int)) :=
  ((a0c fuel g_00).bind fun v1 => ((rng (fun (i_3 : Nat) (n_4 : i7) (s_2 : (List (List Int))) => (((rni (fun (i_7 : Nat) (s_6 : (List Int)) => (((s3 n_4).bind fun nex_8 => ((rng (fun (i_10 : Nat) (vto_11 : Int) (s_9 : Bool) => ((if s_9 then (some (.nxt true)) else ((u6 v1 vto_11).bind fun y_13 => ((j5 y_13 (i_7 : Int)).bind fun vin_14 => (some (.nxt vin_14))))) : Option (Stp Bool (Option (Stp (List Int) (Option (Stp (List (List Int)) (Option (List (List Int)))))))))) nex_8 false).bind (oc (fun (s_9 : Bool) => (if s_9 then ((a4E 8 s_6 [(i_7 : Int)]).bind fun l_15 => (some (.nxt l_15))) else (some (.nxt s_6))))))) : Option (Stp (List Int) (Option (Stp (List (List Int)) (Option (List (List Int)))))))) (List.length g_00.Kinds : Int) []).bind (oc (fun (s_6 : (List Int)) => ((a4E 24 s_2 [s_6]).bind fun l_16 => (some (.nxt l_16)))))) : Option (Stp (List (List Int)) (Option (List (List Int)))))) g_00.Nodes []).bind (oc (fun (s_2 : (List (List Int))) => (some s_2)))))
theorem a4s {fuel : Nat} {g_00 : b5} {r : (List (List Int))} (h : a0m fuel g_00 = some r) : m8 Tryd.prog 48 [(b5.av g_00)] (.sl false 1 (List.map (avL 1 (avI .i64)) r)) := by
 unfold a0m at h;refine b0L mixed a4r zS [6, 48, 53] 6 ?_;unfold a1S;refine f6 (b8 (oP (.cptr (b5.av g_00).cells 0) (oM .nils (b7 (f8 (f6 (b8 (oP (b5.av g_00) ?_))))))));obtain ⟨v1, hv1, h⟩ := b9 h;refine j6 (a2k (fuel := fuel)  hv1) rfl ⟨(.refl _), trivial⟩ (i8 ⟨(b5.enc.blw _ 0), trivial⟩) ((a0G (d8 .i64) 1).blws 0) (oM (.sl false 1 (List.map (avL 1 (avI .i64)) v1)) (b7 (f8 (f6 (b8 (oM .nils (b7 (f8 (a0o (f6 (b8 (oP (.cptr (b5.av g_00).cells 6) (oP (.sl false 12 (List.map i7.av g_00.Nodes)) (x2 rfl (oM (.int .i64 0) ?_)))))))))))))));refine b7 (f8 (f6 ?_));refine a1b (fun s_2 => [(1, (.cptr (b5.av g_00).cells 0)), (3, (.sl false 1 (List.map (avL 1 (avI .i64)) v1))), (4, (.ref 0 1 0 (List.length s_2) none)), (15, (.sl false 12 (List.map i7.av g_00.Nodes)))]) (fun s_2 => [.arr 1 (flat (avL 1 (avI .i64)) s_2)]) h zD zD (fun _ => ⟨rfl, rfl, rfl, rfl⟩) (i9 [none] rfl nB ⟨(a3u rfl rfl rfl), trivial⟩ ⟨(c9 rfl), (c9 rfl), (c9 (j9 (b5.enc.blw _ 0))), (c9 ((a0G (d8 .i64) 1).blws 0)), (a3P rfl), (c9 (i7.enc.blws 0)), trivial⟩) (fun i_3 n_4 s_2 c hx5 hlt h => ?_) (fun s_2 fr' S' h hw => ?_);{refine f6 (b8 (l8 rfl rfl (a0A hx5) (oP (i7.av n_4) (a1E (v' := .ptr 1 0 0) (S' := [.arr 1 (flat (avL 1 (avI .i64)) s_2), .arr 0 [(.int .u8 0), (.int .u8 0), (.int .i64 0), (.int .i64 0), (.int .i64 0), (.int .i64 0), (.int .i64 0), (.int .i64 0), (.int .u64 0), .nils, (.int .i64 0), (.int .i64 0)]]) rfl rfl rfl (b2K (S' := [.arr 1 (flat (avL 1 (avI .i64)) s_2), .arr 0 [(.int .u8 n_4.Op), (.int .u8 n_4.By), (.int .i64 n_4.D), (.int .i64 n_4.E), (.int .i64 n_4.A), (.int .i64 n_4.B), (.int .i64 n_4.F), (.int .i64 n_4.Cell), (.int .u64 n_4.Imm), (.sl false 1 (List.map (avI .i64) n_4.Args)), (.int .i64 n_4.Next), (.int .i64 n_4.Else)]]) rfl rfl (b7 (f8 (f6 (b8 (oM .nils (b7 (f8 (a0o (f6 (b8 ?_)))))))))))))));refine oP (.cptr (b5.av g_00).cells 1) (oP (.sl false 1 (List.map (avI .u8) g_00.Kinds)) (x2 rfl (oM (.int .i64 0) (b7 (f8 (f6 ?_))))));refine a3R (fun s_6 => [(1, (.cptr (b5.av g_00).cells 0)), (3, (.sl false 1 (List.map (avL 1 (avI .i64)) v1))), (4, (.ref 0 1 0 (List.length s_2) none)), (6, (.ptr 1 0 0)), (7, (.ref 2 1 0 (List.length s_6) none)), (15, (.sl false 12 (List.map i7.av g_00.Nodes))), (16, (.int .i64 (List.length g_00.Nodes : Int))), (17, (.int .i64 (i_3 : Int)))]) (fun s_6 => [.arr 1 (flat (avL 1 (avI .i64)) s_2), .arr 0 [(.int .u8 n_4.Op), (.int .u8 n_4.By), (.int .i64 n_4.D), (.int .i64 n_4.E), (.int .i64 n_4.A), (.int .i64 n_4.B), (.int .i64 n_4.F), (.int .i64 n_4.Cell), (.int .u64 n_4.Imm), (.sl false 1 (List.map (avI .i64) n_4.Args)), (.int .i64 n_4.Next), (.int .i64 n_4.Else)], .arr 1 (flat (avI .i64) s_6)]) h zD zD (fun _ => ⟨rfl, rfl, rfl, rfl⟩) (i9 [some (0, 0), some (1, 0), none] rfl nB ⟨(o9 rfl rfl (.refl ((a0G (d8 .i64) 1).blwf 0 _)) rfl), (o9 rfl rfl (cB rfl (cB rfl (cB rfl (cB rfl (cB rfl (cB rfl (cB rfl (cB rfl (cB rfl (cB ((d8 .i64).blws 0) (cB rfl (cB rfl nL)))))))))))) rfl), (a3u rfl rfl rfl), trivial⟩ ⟨(c9 rfl), (c9 rfl), (c9 (j9 (b5.enc.blw _ 0))), (c9 ((a0G (d8 .i64) 1).blws 0)), (g8 (a0G (d8 .i64) 1) rfl rfl rfl), (k8 rfl rfl rfl rfl), (a3P rfl), (c9 (i7.enc.blws 0)), (c9 rfl), (c9 rfl), trivial⟩) (fun i_7 s_6 c hlt h => ?_) (fun s_6 fr' S' h hw => ?_);{refine f6 (b8 (oM (.int .i64 (i_7 : Int)) (oM (.int .i64 (i_7 : Int)) (b7 (f8 (f6 (b8 (oM (.bool false) (b7 (f8 (a0o (f6 (b8 (w9 (v' := (i7.av n_4)) rfl (.aggL ⟨(.refl _), (.refl _), (.refl _), (.refl _), (.refl _), (.refl _), (.refl _), (.refl _), (.refl _), (.refl _), (.refl _), (.refl _), trivial⟩) rfl ?_))))))))))))));obtain ⟨nex_8, hn8, h⟩ := b9 h;refine j6 (a0V  hn8) rfl ⟨(.refl _), trivial⟩ (i8 ⟨(i7.enc.blw _ 0), trivial⟩) ((d8 .i64).blws 0) (x2 rfl (oM (.int .i64 0) (b7 (f8 (f6 ?_)))));refine a1b (fun s_9 => [(1, (.cptr (b5.av g_00).cells 0)), (3, (.sl false 1 (List.map (avL 1 (avI .i64)) v1))), (4, (.ref 0 1 0 (List.length s_2) none)), (6, (.ptr 1 0 0)), (7, (.ref 2 1 0 (List.length s_6) none)), (8, (.int .i64 (i_7 : Int))), (9, (.bool s_9)), (15, (.sl false 12 (List.map i7.av g_00.Nodes))), (16, (.int .i64 (List.length g_00.Nodes : Int))), (17, (.int .i64 (i_3 : Int))), (23, (.int .i64 (List.length g_00.Kinds : Int))), (24, (.int .i64 (i_7 : Int))), (28, (.sl false 1 (List.map (avI .i64) nex_8)))]) (fun s_9 => [.arr 1 (flat (avL 1 (avI .i64)) s_2), .arr 0 [(.int .u8 n_4.Op), (.int .u8 n_4.By), (.int .i64 n_4.D), (.int .i64 n_4.E), (.int .i64 n_4.A), (.int .i64 n_4.B), (.int .i64 n_4.F), (.int .i64 n_4.Cell), (.int .u64 n_4.Imm), (.sl false 1 (List.map (avI .i64) n_4.Args)), (.int .i64 n_4.Next), (.int .i64 n_4.Else)], .arr 1 (flat (avI .i64) s_6)]) h zD zD (fun _ => ⟨rfl, rfl, rfl, rfl⟩) (i9 [some (0, 0), some (1, 0), some (2, 0)] rfl nB ⟨(o9 rfl rfl (.refl ((a0G (d8 .i64) 1).blwf 0 _)) rfl), (o9 rfl rfl (cB rfl (cB rfl (cB rfl (cB rfl (cB rfl (cB rfl (cB rfl (cB rfl (cB rfl (cB ((d8 .i64).blws 0) (cB rfl (cB rfl nL)))))))))))) rfl), (o9 rfl rfl (.refl ((d8 .i64).blwf 0 _)) rfl), trivial⟩ ⟨(c9 rfl), (c9 rfl), (c9 (j9 (b5.enc.blw _ 0))), (c9 ((a0G (d8 .i64) 1).blws 0)), (g8 (a0G (d8 .i64) 1) rfl rfl rfl), (k8 rfl rfl rfl rfl), (g8 (d8 .i64) rfl rfl rfl), (c9 rfl), (c9 rfl), (c9 (i7.enc.blws 0)), (c9 rfl), (c9 rfl), (c9 rfl), (c9 rfl), (c9 ((d8 .i64).blws 0)), trivial⟩) (fun i_10 vto_11 s_9 c hx12 hlt h => ?_) (fun s_9 fr' S' h hw => ?_);{refine f6 (b8 (l8 rfl rfl (a0A hx12) (oP (.int .i64 vto_11) (oM (.int .i64 vto_11) (b7 (f8 (b8 (oM (.bool s_9) (oM (.bool s_9) ?_)))))))));refine n9 (b := s_9) rfl rfl rfl (fun hb => ?_) (fun hb => ?_);{rw [g7 hb] at h;refine oM (.sl false 1 (List.map (avL 1 (avI .i64)) v1)) (oH (oM (.int .i64 vto_11) (oH ?_)));obtain ⟨y_13, hy13, h⟩ := b9 h;refine l8 rfl rfl hy13 (oH (oP (.sl false 1 (List.map (avI .i64) y_13)) (oH (oM (.int .i64 (i_7 : Int)) (oH ?_)))));obtain ⟨vin_14, hv14, h⟩ := b9 h;refine j6 (n5  hv14) rfl ⟨(.refl _), (.refl _), trivial⟩ (i8 ⟨((d8 .i64).blws 0), rfl, trivial⟩) rfl (a0d rfl rfl (oM (.bool vin_14) (b7 ?_)));cases h;exact a2F rfl (i9 [some (0, 0), some (1, 0), some (2, 0)] rfl nB ⟨(o9 rfl rfl (.refl ((a0G (d8 .i64) 1).blwf 0 _)) rfl), (o9 rfl rfl (cB rfl (cB rfl (cB rfl (cB rfl (cB rfl (cB rfl (cB rfl (cB rfl (cB rfl (cB ((d8 .i64).blws 0) (cB rfl (cB rfl nL)))))))))))) rfl), (o9 rfl rfl (.refl ((d8 .i64).blwf 0 _)) rfl), trivial⟩ ⟨(c9 rfl), (c9 rfl), (c9 (j9 (b5.enc.blw _ 0))), (c9 ((a0G (d8 .i64) 1).blws 0)), (g8 (a0G (d8 .i64) 1) rfl rfl rfl), (k8 rfl rfl rfl rfl), (g8 (d8 .i64) rfl rfl rfl), (c9 rfl), (c9 rfl), (c9 (i7.enc.blws 0)), (c9 rfl), (c9 rfl), (c9 rfl), (c9 rfl), (c9 ((d8 .i64).blws 0)), trivial⟩)};{rw [g6 hb] at h;refine oN (oN (oN (oN (oN (z7 rfl rfl (oM (.bool true) (b7 ?_)))))));cases h;exact a2F rfl (i9 [some (0, 0), some (1, 0), some (2, 0)] rfl nB ⟨(o9 rfl rfl (.refl ((a0G (d8 .i64) 1).blwf 0 _)) rfl), (o9 rfl rfl (cB rfl (cB rfl (cB rfl (cB rfl (cB rfl (cB rfl (cB rfl (cB rfl (cB rfl (cB ((d8 .i64).blws 0) (cB rfl (cB rfl nL)))))))))))) rfl), (o9 rfl rfl (.refl ((d8 .i64).blwf 0 _)) rfl), trivial⟩ ⟨(c9 rfl), (c9 rfl), (c9 (j9 (b5.enc.blw _ 0))), (c9 ((a0G (d8 .i64) 1).blws 0)), (g8 (a0G (d8 .i64) 1) rfl rfl rfl), (k8 rfl rfl rfl rfl), (g8 (d8 .i64) rfl rfl rfl), (c9 rfl), (c9 rfl), (c9 (i7.enc.blws 0)), (c9 rfl), (c9 rfl), (c9 rfl), (c9 rfl), (c9 ((d8 .i64).blws 0)), trivial⟩)}};{refine a4w hw (f6 (b8 (oM (.bool s_9) (b7 (f8 ?_)))));refine m7 (t := s_9) rfl (fun hb => ?_) (fun hb => ?_);{rw [g6 hb] at h;refine b8 (oM (.ref 2 1 0 (List.length s_6) none) (oM (.int .i64 (i_7 : Int)) (w9 (v' := (.sl true 1 (List.map (avI .i64) [(i_7 : Int)]))) rfl (.refl _) rfl ?_)));obtain ⟨l_15, hl15, h⟩ := b9 h;refine a5s (S' := [.arr 1 (flat (avL 1 (avI .i64)) s_2), .arr 0 [(.int .u8 n_4.Op), (.int .u8 n_4.By), (.int .i64 n_4.D), (.int .i64 n_4.E), (.int .i64 n_4.A), (.int .i64 n_4.B), (.int .i64 n_4.F), (.int .i64 n_4.Cell), (.int .u64 n_4.Imm), (.sl false 1 (List.map (avI .i64) n_4.Args)), (.int .i64 n_4.Next), (.int .i64 n_4.Else)], .arr 2 (flat (avI .i64) l_15)]) (d8 .i64) rfl (a3O [(i_7 : Int)]) rfl hl15 rfl (oM (.ref 2 2 0 (List.length l_15) none) (b7 ?_));cases h;exact a2F rfl (i9 [some (0, 0), some (1, 0), some (2, 0)] rfl nB ⟨(o9 rfl rfl (.refl ((a0G (d8 .i64) 1).blwf 0 _)) rfl), (o9 rfl rfl (cB rfl (cB rfl (cB rfl (cB rfl (cB rfl (cB rfl (cB rfl (cB rfl (cB rfl (cB ((d8 .i64).blws 0) (cB rfl (cB rfl nL)))))))))))) rfl), (o9 rfl rfl (.refl ((d8 .i64).blwf 0 _)) rfl), trivial⟩ ⟨(c9 rfl), (c9 rfl), (c9 (j9 (b5.enc.blw _ 0))), (c9 ((a0G (d8 .i64) 1).blws 0)), (g8 (a0G (d8 .i64) 1) rfl rfl rfl), (k8 rfl rfl rfl rfl), (g8 (d8 .i64) rfl rfl rfl), (c9 (i7.enc.blws 0)), (c9 rfl), (c9 rfl), trivial⟩)};{rw [g7 hb] at h;refine i6 ?_;cases h;exact a2F rfl (i9 [some (0, 0), some (1, 0), some (2, 0)] rfl nB ⟨(o9 rfl rfl (.refl ((a0G (d8 .i64) 1).blwf 0 _)) rfl), (o9 rfl rfl (cB rfl (cB rfl (cB rfl (cB rfl (cB rfl (cB rfl (cB rfl (cB rfl (cB rfl (cB ((d8 .i64).blws 0) (cB rfl (cB rfl nL)))))))))))) rfl), (o9 rfl rfl (.refl ((d8 .i64).blwf 0 _)) rfl), trivial⟩ ⟨(c9 rfl), (c9 rfl), (c9 (j9 (b5.enc.blw _ 0))), (c9 ((a0G (d8 .i64) 1).blws 0)), (g8 (a0G (d8 .i64) 1) rfl rfl rfl), (k8 rfl rfl rfl rfl), (g8 (d8 .i64) rfl rfl rfl), (c9 (i7.enc.blws 0)), (c9 rfl), (c9 rfl), trivial⟩)}}};{refine a4w hw (j8 (f6 (b8 (oM (.ref 0 1 0 (List.length s_2) none) (oM (.ref 2 1 0 (List.length s_6) none) (b7 (a3y (F := [(1, (.cptr (b5.av g_00).cells 0)), (3, (.sl false 1 (List.map (avL 1 (avI .i64)) v1))), (15, (.sl false 12 (List.map i7.av g_00.Nodes))), (16, (.int .i64 (List.length g_00.Nodes : Int))), (17, (.int .i64 (i_3 : Int))), (50, (.ref 0 1 0 (List.length s_2) none)), (51, (.sl false 1 (List.map (avI .i64) s_6)))]) (T := [.arr 1 (flat (avL 1 (avI .i64)) s_2)]) (a6o (fr'' := [(1, (.cptr (b5.av g_00).cells 0)), (3, (.sl false 1 (List.map (avL 1 (avI .i64)) v1))), (15, (.sl false 12 (List.map i7.av g_00.Nodes))), (16, (.int .i64 (List.length g_00.Nodes : Int))), (17, (.int .i64 (i_3 : Int))), (50, (.ref 0 1 0 (List.length s_2) none)), (51, (.sl false 1 (List.map (avI .i64) s_6)))]) (S'' := [.arr 1 (flat (avL 1 (avI .i64)) s_2)]) (i9 (fr' := [(1, (.cptr (b5.av g_00).cells 0)), (3, (.sl false 1 (List.map (avL 1 (avI .i64)) v1))), (15, (.sl false 12 (List.map i7.av g_00.Nodes))), (16, (.int .i64 (List.length g_00.Nodes : Int))), (17, (.int .i64 (i_3 : Int))), (50, (.ref 0 1 0 (List.length s_2) none)), (51, (.ref 1 1 0 (List.length s_6) none))]) (S' := [.arr 1 (flat (avL 1 (avI .i64)) s_2), .arr 1 (flat (avI .i64) s_6)]) [some (0, 0), some (2, 0)] rfl nB ⟨(o9 rfl rfl (.refl ((a0G (d8 .i64) 1).blwf 0 _)) rfl), (o9 rfl rfl (.refl ((d8 .i64).blwf 0 _)) rfl), trivial⟩ ⟨(c9 (j9 (b5.enc.blw _ 0))), (c9 ((a0G (d8 .i64) 1).blws 0)), (c9 (i7.enc.blws 0)), (c9 rfl), (c9 rfl), (g8 (a0G (d8 .i64) 1) rfl rfl rfl), (g8 (d8 .i64) rfl rfl rfl), trivial⟩) (c2m 1 6 rfl ⟨⟨rfl, b3J ((a0G (d8 .i64) 1).blwf 1 _)⟩, trivial⟩ ⟨(a0Y (j9 (b5.enc.blw _ 1)) (.refl _)), (a0Y ((a0G (d8 .i64) 1).blws 1) (.refl _)), (a0Y (i7.enc.blws 1) (.refl _)), (a0Y rfl (.refl _)), (a0Y rfl (.refl _)), (a0Y rfl (.refl _)), (a4Y (d8 .i64) nB rfl), trivial⟩)) (b8 (w9 (v' := (.sl true 1 (List.map (avL 1 (avI .i64)) [s_6]))) rfl (.refl _) rfl ?_)))))))));obtain ⟨l_16, hl16, h⟩ := b9 h;refine a5s (S' := [.arr 2 (flat (avL 1 (avI .i64)) l_16)]) (a0G (d8 .i64) 1) rfl (a3O [s_6]) rfl hl16 rfl (oM (.ref 0 2 0 (List.length l_16) none) (b7 (l7 ?_)));cases h;exact a2F rfl (i9 [some (0, 0)] rfl nB ⟨(o9 rfl rfl (.refl ((a0G (d8 .i64) 1).blwf 0 _)) rfl), trivial⟩ ⟨(c9 rfl), (c9 rfl), (c9 (j9 (b5.enc.blw _ 0))), (c9 ((a0G (d8 .i64) 1).blws 0)), (g8 (a0G (d8 .i64) 1) rfl rfl rfl), (c9 (i7.enc.blws 0)), trivial⟩)}};{refine a4w hw (f6 (b8 (oM (.ref 0 1 0 (List.length s_2) none) (oM (.ref 0 1 0 (List.length s_2) none) (b7 (f8 (j3 ?_)))))));cases h;exact ⟨trivial, _, rfl, (a4Y (a0G (d8 .i64) 1) (Nat.zero_le _) rfl)⟩}
end Go.Proofs.YtepdcebjobjjgaaDoor

