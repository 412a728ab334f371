/- The code of the functions that are met, resolved: read off the program's own text while this is built. Printed by a program. -/
import Derived.Test.YtcicbbceknhkfaaGreatDoorWlL2
import Derived.Test.YtcicbbceknhkfaaGreatDoorRows
import Derived.Test.YtcicbbceknhkfaaGreatDoorCta
import Derived.Test.YtcicbbceknhkfaaGreatDoorCtb
import Derived.Test.YtcicbbceknhkfaaGreatDoorCtc
namespace Go.Proofs.YtcicbbceknhkfaaGreatDoor
set_option linter.constructorNameAsVariable false
set_option linter.unusedSimpArgs false
set_option linter.unusedVariables false
open Go Go.Ab Go.RowKit
set_option maxRecDepth 100000
set_option maxHeartbeats 4000000
set_option linter.unusedVariables false
def c5 : {x // codeOf Tryz.prog 5 = x} := ⟨_, by conv => lhs; reduce⟩
def c8 : {x // codeOf Tryz.prog 8 = x} := ⟨_, by conv => lhs; reduce⟩
def c11 : {x // codeOf Tryz.prog 11 = x} := ⟨_, by conv => lhs; reduce⟩
def c12 : {x // codeOf Tryz.prog 12 = x} := ⟨_, by conv => lhs; reduce⟩
def c16 : {x // codeOf Tryz.prog 16 = x} := ⟨_, by conv => lhs; reduce⟩
def c19 : {x // codeOf Tryz.prog 19 = x} := ⟨_, by conv => lhs; reduce⟩
def c22 : {x // codeOf Tryz.prog 22 = x} := ⟨_, by conv => lhs; reduce⟩
def c30 : {x // codeOf Tryz.prog 30 = x} := ⟨some (26, [(4, none)], (.seq (.reg [⟨(some 4), none, .op (.mv (.v (.bool false)))⟩] [])
  (.seq (.seq (.reg [⟨(some 6), none, .op (.mv (.t 0))⟩,
  ⟨(some 7), none, .op (.len .sl (.t 6))⟩,
  ⟨(some 8), none, .op (.mv (.t 1))⟩,
  ⟨(some 9), none, .op (.len .sl (.t 8))⟩,
  ⟨(some 10), none, .op (.bin .none .gtr (.t 7) (.t 9))⟩] [])
  (.cond (.t 10)
  (.seq (.reg [⟨(some 4), none, .op (.mv (.v (.bool false)))⟩] [])
  .ret)
  .skip))
  (.seq (.seq (.reg [⟨(some 11), none, .op (.mv (.t 0))⟩,
  ⟨(some 12), none, .op (.len .sl (.t 11))⟩,
  ⟨(some 13), none, .op (.mv (.v (.int .i64 0)))⟩] [])
  (.block 0 (.loop (.seq (.reg [⟨(some 14), none, .op (.bin .none .lss (.t 13) (.t 12))⟩] [])
  (.seq (.cond (.t 14)
  .skip
  (.exit 0))
  (.seq (.block 1 (.seq (.reg [⟨(some 15), none, .op (.mv (.t 13))⟩,
  ⟨(some 5), none, .op (.mv (.t 15))⟩] [])
  (.seq (.reg [⟨(some 16), none, .op (.mv (.t 0))⟩,
  ⟨(some 17), none, .op (.mv (.t 5))⟩,
  ⟨(some 18), none, .op (.iad none (some 2) (.t 16) (.t 17))⟩,
  ⟨(some 19), none, .op (.load (some 2) (.t 18))⟩,
  ⟨(some 20), none, .op (.mv (.t 1))⟩,
  ⟨(some 21), none, .op (.mv (.t 5))⟩,
  ⟨(some 22), none, .op (.iad none (some 2) (.t 20) (.t 21))⟩,
  ⟨(some 23), none, .op (.load (some 2) (.t 22))⟩,
  ⟨(some 24), none, .op (.eqs [.int, .int] .neq (.t 19) (.t 23))⟩] [])
  (.cond (.t 24)
  (.seq (.reg [⟨(some 4), none, .op (.mv (.v (.bool false)))⟩] [])
  .ret)
  .skip))))
  (.reg [⟨(some 25), none, .op (.bin .none .add (.t 13) (.v (.int .i64 1)))⟩,
  ⟨(some 13), none, .op (.mv (.t 25))⟩] [])))))))
  (.seq (.reg [⟨(some 4), none, .op (.mv (.v (.bool true)))⟩] [])
  .ret))))), by kernel_rfl⟩
def c31 : {x // codeOf Tryz.prog 31 = x} := ⟨_, by conv => lhs; reduce⟩
def c34 : {x // codeOf Tryz.prog 34 = x} := ⟨_, by conv => lhs; reduce⟩
def c35 : {x // codeOf Tryz.prog 35 = x} := ⟨_, by conv => lhs; reduce⟩
def c39 : {x // codeOf Tryz.prog 39 = x} := ⟨_, by conv => lhs; reduce⟩
def c42 : {x // codeOf Tryz.prog 42 = x} := ⟨_, by conv => lhs; reduce⟩
def c45 : {x // codeOf Tryz.prog 45 = x} := ⟨_, by conv => lhs; reduce⟩
def c46 : {x // codeOf Tryz.prog 46 = x} := ⟨_, by conv => lhs; reduce⟩
def c47 : {x // codeOf Tryz.prog 47 = x} := ⟨_, by conv => lhs; reduce⟩
def c55 : {x // codeOf Tryz.prog 55 = x} := ⟨_, by conv => lhs; reduce⟩
def c56 : {x // codeOf Tryz.prog 56 = x} := ⟨_, by conv => lhs; reduce⟩
def c59 : {x // codeOf Tryz.prog 59 = x} := ⟨_, by conv => lhs; reduce⟩
def c64 : {x // codeOf Tryz.prog 64 = x} := ⟨_, by conv => lhs; reduce⟩
def c67 : {x // codeOf Tryz.prog 67 = x} := ⟨_, by conv => lhs; reduce⟩
def c68 : {x // codeOf Tryz.prog 68 = x} := ⟨_, by conv => lhs; reduce⟩
def c71 : {x // codeOf Tryz.prog 71 = x} := ⟨_, by conv => lhs; reduce⟩
def c76 : {x // codeOf Tryz.prog 76 = x} := ⟨_, by conv => lhs; reduce⟩
def c77 : {x // codeOf Tryz.prog 77 = x} := ⟨_, by conv => lhs; reduce⟩
def c82 : {x // codeOf Tryz.prog 82 = x} := ⟨_, by conv => lhs; reduce⟩
def c93 : {x // codeOf Tryz.prog 93 = x} := ⟨_, by conv => lhs; reduce⟩
def c94 : {x // codeOf Tryz.prog 94 = x} := ⟨_, by conv => lhs; reduce⟩
def c100 : {x // codeOf Tryz.prog 100 = x} := ⟨_, by conv => lhs; reduce⟩
def c101 : {x // codeOf Tryz.prog 101 = x} := ⟨_, by conv => lhs; reduce⟩
def c102 : {x // codeOf Tryz.prog 102 = x} := ⟨_, by conv => lhs; reduce⟩
def c113 : {x // codeOf Tryz.prog 113 = x} := ⟨_, by conv => lhs; reduce⟩
def c118 : {x // codeOf Tryz.prog 118 = x} := ⟨_, by conv => lhs; reduce⟩
def c121 : {x // codeOf Tryz.prog 121 = x} := ⟨_, by conv => lhs; reduce⟩
def c122 : {x // codeOf Tryz.prog 122 = x} := ⟨_, by conv => lhs; reduce⟩
def c125 : {x // codeOf Tryz.prog 125 = x} := ⟨_, by conv => lhs; reduce⟩
def c126 : {x // codeOf Tryz.prog 126 = x} := ⟨_, by conv => lhs; reduce⟩
def c137 : {x // codeOf Tryz.prog 137 = x} := ⟨_, by conv => lhs; reduce⟩
def c138 : {x // codeOf Tryz.prog 138 = x} := ⟨_, by conv => lhs; reduce⟩
def c156 : {x // codeOf Tryz.prog 156 = x} := ⟨_, by conv => lhs; reduce⟩
def c158 : {x // codeOf Tryz.prog 158 = x} := ⟨_, by conv => lhs; reduce⟩
def c167 : {x // codeOf Tryz.prog 167 = x} := ⟨_, by conv => lhs; reduce⟩
def c176 : {x // codeOf Tryz.prog 176 = x} := ⟨_, by conv => lhs; reduce⟩
def c181 : {x // codeOf Tryz.prog 181 = x} := ⟨_, by conv => lhs; reduce⟩
def c184 : {x // codeOf Tryz.prog 184 = x} := ⟨_, by conv => lhs; reduce⟩
def c188 : {x // codeOf Tryz.prog 188 = x} := ⟨_, by conv => lhs; reduce⟩
def c190 : {x // codeOf Tryz.prog 190 = x} := ⟨_, by conv => lhs; reduce⟩
def c198 : {x // codeOf Tryz.prog 198 = x} := ⟨_, by conv => lhs; reduce⟩
def c199 : {x // codeOf Tryz.prog 199 = x} := ⟨_, by conv => lhs; reduce⟩
def c206 : {x // codeOf Tryz.prog 206 = x} := ⟨_, by conv => lhs; reduce⟩
def c209 : {x // codeOf Tryz.prog 209 = x} := ⟨_, by conv => lhs; reduce⟩
def c216 : {x // codeOf Tryz.prog 216 = x} := ⟨_, by conv => lhs; reduce⟩
def c219 : {x // codeOf Tryz.prog 219 = x} := ⟨_, by conv => lhs; reduce⟩
def c222 : {x // codeOf Tryz.prog 222 = x} := ⟨_, by conv => lhs; reduce⟩
def c224 : {x // codeOf Tryz.prog 224 = x} := ⟨_, by conv => lhs; reduce⟩
def c248 : {x // codeOf Tryz.prog 248 = x} := ⟨_, by conv => lhs; reduce⟩
def c250 : {x // codeOf Tryz.prog 250 = x} := ⟨_, by conv => lhs; reduce⟩
def c253 : {x // codeOf Tryz.prog 253 = x} := ⟨_, by conv => lhs; reduce⟩
def c254 : {x // codeOf Tryz.prog 254 = x} := ⟨_, by conv => lhs; reduce⟩
def c255 : {x // codeOf Tryz.prog 255 = x} := ⟨_, by conv => lhs; reduce⟩
def c257 : {x // codeOf Tryz.prog 257 = x} := ⟨_, by conv => lhs; reduce⟩
def c258 : {x // codeOf Tryz.prog 258 = x} := ⟨_, by conv => lhs; reduce⟩
end Go.Proofs.YtcicbbceknhkfaaGreatDoor
/- The code of the functions that are met, resolved: read off the program's own text while this is built. Printed by a program. -/
namespace Go.Proofs.YtcicbbceknhkfaaGreatDoor
set_option linter.constructorNameAsVariable false
set_option linter.unusedSimpArgs false
set_option linter.unusedVariables false
open Go Go.Ab Go.RowKit
set_option maxRecDepth 100000
set_option maxHeartbeats 4000000
set_option linter.unusedVariables false
def tabL : List (Nat × Option (Nat × List RS × FC)) := [(3, c3.1), (4, c4.1), (5, c5.1), (6, c6.1), (7, c7.1), (8, c8.1), (9, c9.1), (10, c10.1), (11, c11.1), (12, c12.1), (13, c13.1), (14, c14.1), (15, c15.1), (16, c16.1), (17, c17.1), (18, c18.1), (19, c19.1), (20, c20.1), (21, c21.1), (22, c22.1), (23, c23.1), (24, c24.1), (25, c25.1), (26, c26.1), (27, c27.1), (28, c28.1), (29, c29.1), (30, c30.1), (31, c31.1), (32, c32.1), (33, c33.1), (34, c34.1), (35, c35.1), (36, c36.1), (37, c37.1), (38, c38.1), (39, c39.1), (40, c40.1), (41, c41.1), (42, c42.1), (43, c43.1), (44, c44.1), (45, c45.1), (46, c46.1), (47, c47.1), (48, c48.1), (49, c49.1), (50, c50.1), (51, c51.1), (52, c52.1), (53, c53.1), (54, c54.1), (55, c55.1), (56, c56.1), (57, c57.1), (58, c58.1), (59, c59.1), (60, c60.1), (61, c61.1), (62, c62.1), (63, c63.1), (64, c64.1), (65, c65.1), (66, c66.1), (67, c67.1), (68, c68.1), (69, c69.1), (70, c70.1), (71, c71.1), (72, c72.1), (73, c73.1), (74, c74.1), (75, c75.1), (76, c76.1), (77, c77.1), (78, c78.1), (79, c79.1), (80, c80.1), (81, c81.1), (82, c82.1), (83, c83.1), (85, c85.1), (86, c86.1), (87, c87.1), (88, c88.1), (89, c89.1), (90, c90.1), (91, c91.1), (92, c92.1), (93, c93.1), (94, c94.1), (95, c95.1), (96, c96.1), (97, c97.1), (98, c98.1), (99, c99.1), (100, c100.1), (101, c101.1), (102, c102.1), (103, c103.1), (104, c104.1), (105, c105.1), (106, c106.1), (107, c107.1), (108, c108.1), (109, c109.1), (110, c110.1), (111, c111.1), (112, c112.1), (113, c113.1), (114, c114.1), (115, c115.1), (116, c116.1), (117, c117.1), (118, c118.1), (119, c119.1), (120, c120.1), (121, c121.1), (122, c122.1), (123, c123.1), (124, c124.1), (125, c125.1), (126, c126.1), (127, c127.1), (128, c128.1), (129, c129.1), (130, c130.1), (131, c131.1), (132, c132.1), (133, c133.1), (134, c134.1), (135, c135.1), (136, c136.1), (137, c137.1), (138, c138.1), (139, c139.1), (140, c140.1), (141, c141.1), (142, c142.1), (143, c143.1), (144, c144.1), (146, c146.1), (147, c147.1), (148, c148.1), (149, c149.1), (150, c150.1), (151, c151.1), (152, c152.1), (153, c153.1), (154, c154.1), (155, c155.1), (156, c156.1), (157, c157.1), (158, c158.1), (159, c159.1), (160, c160.1), (161, c161.1), (162, c162.1), (163, c163.1), (164, c164.1), (165, c165.1), (166, c166.1), (167, c167.1), (168, c168.1), (169, c169.1), (170, c170.1), (171, c171.1), (172, c172.1), (173, c173.1), (174, c174.1), (175, c175.1), (176, c176.1), (177, c177.1), (178, c178.1), (179, c179.1), (180, c180.1), (181, c181.1), (182, c182.1), (183, c183.1), (184, c184.1), (185, c185.1), (186, c186.1), (187, c187.1), (188, c188.1), (189, c189.1), (190, c190.1), (191, c191.1), (192, c192.1), (193, c193.1), (194, c194.1), (195, c195.1), (196, c196.1), (197, c197.1), (198, c198.1), (199, c199.1), (200, c200.1), (201, c201.1), (202, c202.1), (203, c203.1), (204, c204.1), (205, c205.1), (206, c206.1), (207, c207.1), (208, c208.1), (209, c209.1), (210, c210.1), (211, c211.1), (212, c212.1), (213, c213.1), (214, c214.1), (215, c215.1), (216, c216.1), (217, c217.1), (219, c219.1), (220, c220.1), (221, c221.1), (222, c222.1), (223, c223.1), (224, c224.1), (225, c225.1), (226, c226.1), (227, c227.1), (228, c228.1), (229, c229.1), (230, c230.1), (248, c248.1), (249, c249.1), (250, c250.1), (251, c251.1), (252, c252.1), (253, c253.1), (254, c254.1), (255, c255.1), (256, c256.1), (257, c257.1), (258, c258.1), (259, c259.1), (260, c260.1), (261, c261.1), (262, c262.1), (263, c263.1), (264, c264.1), (265, c265.1), (266, c266.1), (267, c267.1), (268, c268.1), (269, c269.1), (270, c270.1)]
theorem tabL_ok : allC Tryz.prog tabL := ⟨c3.2, c4.2, c5.2, c6.2, c7.2, c8.2, c9.2, c10.2, c11.2, c12.2, c13.2, c14.2, c15.2, c16.2, c17.2, c18.2, c19.2, c20.2, c21.2, c22.2, c23.2, c24.2, c25.2, c26.2, c27.2, c28.2, c29.2, c30.2, c31.2, c32.2, c33.2, c34.2, c35.2, c36.2, c37.2, c38.2, c39.2, c40.2, c41.2, c42.2, c43.2, c44.2, c45.2, c46.2, c47.2, c48.2, c49.2, c50.2, c51.2, c52.2, c53.2, c54.2, c55.2, c56.2, c57.2, c58.2, c59.2, c60.2, c61.2, c62.2, c63.2, c64.2, c65.2, c66.2, c67.2, c68.2, c69.2, c70.2, c71.2, c72.2, c73.2, c74.2, c75.2, c76.2, c77.2, c78.2, c79.2, c80.2, c81.2, c82.2, c83.2, c85.2, c86.2, c87.2, c88.2, c89.2, c90.2, c91.2, c92.2, c93.2, c94.2, c95.2, c96.2, c97.2, c98.2, c99.2, c100.2, c101.2, c102.2, c103.2, c104.2, c105.2, c106.2, c107.2, c108.2, c109.2, c110.2, c111.2, c112.2, c113.2, c114.2, c115.2, c116.2, c117.2, c118.2, c119.2, c120.2, c121.2, c122.2, c123.2, c124.2, c125.2, c126.2, c127.2, c128.2, c129.2, c130.2, c131.2, c132.2, c133.2, c134.2, c135.2, c136.2, c137.2, c138.2, c139.2, c140.2, c141.2, c142.2, c143.2, c144.2, c146.2, c147.2, c148.2, c149.2, c150.2, c151.2, c152.2, c153.2, c154.2, c155.2, c156.2, c157.2, c158.2, c159.2, c160.2, c161.2, c162.2, c163.2, c164.2, c165.2, c166.2, c167.2, c168.2, c169.2, c170.2, c171.2, c172.2, c173.2, c174.2, c175.2, c176.2, c177.2, c178.2, c179.2, c180.2, c181.2, c182.2, c183.2, c184.2, c185.2, c186.2, c187.2, c188.2, c189.2, c190.2, c191.2, c192.2, c193.2, c194.2, c195.2, c196.2, c197.2, c198.2, c199.2, c200.2, c201.2, c202.2, c203.2, c204.2, c205.2, c206.2, c207.2, c208.2, c209.2, c210.2, c211.2, c212.2, c213.2, c214.2, c215.2, c216.2, c217.2, c219.2, c220.2, c221.2, c222.2, c223.2, c224.2, c225.2, c226.2, c227.2, c228.2, c229.2, c230.2, c248.2, c249.2, c250.2, c251.2, c252.2, c253.2, c254.2, c255.2, c256.2, c257.2, c258.2, c259.2, c260.2, c261.2, c262.2, c263.2, c264.2, c265.2, c266.2, c267.2, c268.2, c269.2, c270.2, trivial⟩
theorem mixed : Tryz.prog.follows .mixedOrders = true := by kernel_rfl
end Go.Proofs.YtcicbbceknhkfaaGreatDoor
