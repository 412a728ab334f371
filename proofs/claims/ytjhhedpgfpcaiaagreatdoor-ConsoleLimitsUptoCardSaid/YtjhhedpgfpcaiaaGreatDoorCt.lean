/- The code of the functions that are met, resolved: read off the program's own text while this is built. Printed by a program. -/
import Derived.Test.YtjhhedpgfpcaiaaGreatDoorWlL2
import Derived.Test.YtjhhedpgfpcaiaaGreatDoorRows
import Derived.Test.YtjhhedpgfpcaiaaGreatDoorCta
import Derived.Test.YtjhhedpgfpcaiaaGreatDoorCtb
import Derived.Test.YtjhhedpgfpcaiaaGreatDoorCtc
namespace Go.Proofs.YtjhhedpgfpcaiaaGreatDoor
set_option linter.constructorNameAsVariable false
set_option linter.unusedSimpArgs false
set_option linter.unusedVariables false
open Go Go.Ab Go.RowKit
set_option maxRecDepth 100000
set_option maxHeartbeats 4000000
set_option linter.unusedVariables false
def c3 : {x // codeOf Tryz.prog 3 = x} := ⟨_, by conv => lhs; reduce⟩
def c4 : {x // codeOf Tryz.prog 4 = x} := ⟨_, by conv => lhs; reduce⟩
def c6 : {x // codeOf Tryz.prog 6 = x} := ⟨_, by conv => lhs; reduce⟩
def c19 : {x // codeOf Tryz.prog 19 = x} := ⟨_, by conv => lhs; reduce⟩
def c69 : {x // codeOf Tryz.prog 69 = x} := ⟨_, by conv => lhs; reduce⟩
def c72 : {x // codeOf Tryz.prog 72 = x} := ⟨_, by conv => lhs; reduce⟩
def c79 : {x // codeOf Tryz.prog 79 = x} := ⟨_, by conv => lhs; reduce⟩
def c81 : {x // codeOf Tryz.prog 81 = x} := ⟨_, by conv => lhs; reduce⟩
def c86 : {x // codeOf Tryz.prog 86 = x} := ⟨_, by conv => lhs; reduce⟩
def c104 : {x // codeOf Tryz.prog 104 = x} := ⟨_, by conv => lhs; reduce⟩
def c107 : {x // codeOf Tryz.prog 107 = x} := ⟨_, by conv => lhs; reduce⟩
def c108 : {x // codeOf Tryz.prog 108 = x} := ⟨_, by conv => lhs; reduce⟩
def c111 : {x // codeOf Tryz.prog 111 = x} := ⟨_, by conv => lhs; reduce⟩
def c115 : {x // codeOf Tryz.prog 115 = x} := ⟨_, by conv => lhs; reduce⟩
def c119 : {x // codeOf Tryz.prog 119 = x} := ⟨_, by conv => lhs; reduce⟩
def c122 : {x // codeOf Tryz.prog 122 = x} := ⟨_, by conv => lhs; reduce⟩
def c124 : {x // codeOf Tryz.prog 124 = x} := ⟨_, by conv => lhs; reduce⟩
def c127 : {x // codeOf Tryz.prog 127 = x} := ⟨_, by conv => lhs; reduce⟩
def c145 : {x // codeOf Tryz.prog 145 = x} := ⟨_, by conv => lhs; reduce⟩
def c150 : {x // codeOf Tryz.prog 150 = x} := ⟨_, by conv => lhs; reduce⟩
def c151 : {x // codeOf Tryz.prog 151 = x} := ⟨_, by conv => lhs; reduce⟩
def c152 : {x // codeOf Tryz.prog 152 = x} := ⟨_, by conv => lhs; reduce⟩
def c166 : {x // codeOf Tryz.prog 166 = x} := ⟨_, by conv => lhs; reduce⟩
def c178 : {x // codeOf Tryz.prog 178 = x} := ⟨_, by conv => lhs; reduce⟩
def c182 : {x // codeOf Tryz.prog 182 = x} := ⟨_, by conv => lhs; reduce⟩
def c183 : {x // codeOf Tryz.prog 183 = x} := ⟨_, by conv => lhs; reduce⟩
def c200 : {x // codeOf Tryz.prog 200 = x} := ⟨_, by conv => lhs; reduce⟩
def c205 : {x // codeOf Tryz.prog 205 = x} := ⟨_, by conv => lhs; reduce⟩
def c206 : {x // codeOf Tryz.prog 206 = x} := ⟨_, by conv => lhs; reduce⟩
def c207 : {x // codeOf Tryz.prog 207 = x} := ⟨_, by conv => lhs; reduce⟩
def c212 : {x // codeOf Tryz.prog 212 = x} := ⟨_, by conv => lhs; reduce⟩
def c213 : {x // codeOf Tryz.prog 213 = x} := ⟨_, by conv => lhs; reduce⟩
def c215 : {x // codeOf Tryz.prog 215 = x} := ⟨_, by conv => lhs; reduce⟩
def c220 : {x // codeOf Tryz.prog 220 = x} := ⟨_, by conv => lhs; reduce⟩
def c222 : {x // codeOf Tryz.prog 222 = x} := ⟨_, by conv => lhs; reduce⟩
def c225 : {x // codeOf Tryz.prog 225 = x} := ⟨_, by conv => lhs; reduce⟩
def c230 : {x // codeOf Tryz.prog 230 = x} := ⟨_, by conv => lhs; reduce⟩
def c264 : {x // codeOf Tryz.prog 264 = x} := ⟨_, by conv => lhs; reduce⟩
def c269 : {x // codeOf Tryz.prog 269 = x} := ⟨_, by conv => lhs; reduce⟩
def c272 : {x // codeOf Tryz.prog 272 = x} := ⟨_, by conv => lhs; reduce⟩
def c275 : {x // codeOf Tryz.prog 275 = x} := ⟨_, by conv => lhs; reduce⟩
def c282 : {x // codeOf Tryz.prog 282 = x} := ⟨_, by conv => lhs; reduce⟩
def c295 : {x // codeOf Tryz.prog 295 = x} := ⟨_, by conv => lhs; reduce⟩
def c296 : {x // codeOf Tryz.prog 296 = x} := ⟨_, by conv => lhs; reduce⟩
def c300 : {x // codeOf Tryz.prog 300 = x} := ⟨_, by conv => lhs; reduce⟩
def c340 : {x // codeOf Tryz.prog 340 = x} := ⟨_, by conv => lhs; reduce⟩
def c345 : {x // codeOf Tryz.prog 345 = x} := ⟨_, by conv => lhs; reduce⟩
def c353 : {x // codeOf Tryz.prog 353 = x} := ⟨_, by conv => lhs; reduce⟩
def c356 : {x // codeOf Tryz.prog 356 = x} := ⟨_, by conv => lhs; reduce⟩
end Go.Proofs.YtjhhedpgfpcaiaaGreatDoor
/- The code of the functions that are met, resolved: read off the program's own text while this is built. Printed by a program. -/
namespace Go.Proofs.YtjhhedpgfpcaiaaGreatDoor
set_option linter.constructorNameAsVariable false
set_option linter.unusedSimpArgs false
set_option linter.unusedVariables false
open Go Go.Ab Go.RowKit
set_option maxRecDepth 100000
set_option maxHeartbeats 4000000
set_option linter.unusedVariables false
def tabL : List (Nat × Option (Nat × List RS × FC)) := [(3, c3.1), (4, c4.1), (6, c6.1), (7, c7.1), (15, c15.1), (16, c16.1), (19, c19.1), (20, c20.1), (27, c27.1), (29, c29.1), (34, c34.1), (35, c35.1), (36, c36.1), (42, c42.1), (44, c44.1), (46, c46.1), (47, c47.1), (49, c49.1), (50, c50.1), (51, c51.1), (53, c53.1), (57, c57.1), (62, c62.1), (63, c63.1), (64, c64.1), (65, c65.1), (67, c67.1), (68, c68.1), (69, c69.1), (70, c70.1), (71, c71.1), (72, c72.1), (73, c73.1), (74, c74.1), (75, c75.1), (77, c77.1), (78, c78.1), (79, c79.1), (80, c80.1), (81, c81.1), (83, c83.1), (84, c84.1), (85, c85.1), (86, c86.1), (87, c87.1), (88, c88.1), (89, c89.1), (91, c91.1), (93, c93.1), (95, c95.1), (99, c99.1), (100, c100.1), (102, c102.1), (103, c103.1), (104, c104.1), (105, c105.1), (106, c106.1), (107, c107.1), (108, c108.1), (109, c109.1), (110, c110.1), (111, c111.1), (112, c112.1), (113, c113.1), (114, c114.1), (115, c115.1), (116, c116.1), (117, c117.1), (118, c118.1), (119, c119.1), (122, c122.1), (123, c123.1), (124, c124.1), (126, c126.1), (127, c127.1), (128, c128.1), (130, c130.1), (131, c131.1), (133, c133.1), (140, c140.1), (141, c141.1), (142, c142.1), (143, c143.1), (144, c144.1), (145, c145.1), (146, c146.1), (147, c147.1), (148, c148.1), (149, c149.1), (150, c150.1), (151, c151.1), (152, c152.1), (153, c153.1), (154, c154.1), (155, c155.1), (156, c156.1), (157, c157.1), (158, c158.1), (159, c159.1), (160, c160.1), (161, c161.1), (162, c162.1), (163, c163.1), (165, c165.1), (166, c166.1), (167, c167.1), (170, c170.1), (171, c171.1), (178, c178.1), (182, c182.1), (183, c183.1), (195, c195.1), (196, c196.1), (197, c197.1), (198, c198.1), (199, c199.1), (200, c200.1), (205, c205.1), (206, c206.1), (207, c207.1), (208, c208.1), (209, c209.1), (210, c210.1), (211, c211.1), (212, c212.1), (213, c213.1), (214, c214.1), (215, c215.1), (216, c216.1), (217, c217.1), (218, c218.1), (219, c219.1), (220, c220.1), (221, c221.1), (222, c222.1), (224, c224.1), (225, c225.1), (226, c226.1), (228, c228.1), (229, c229.1), (230, c230.1), (231, c231.1), (233, c233.1), (242, c242.1), (252, c252.1), (253, c253.1), (256, c256.1), (257, c257.1), (259, c259.1), (261, c261.1), (262, c262.1), (263, c263.1), (264, c264.1), (267, c267.1), (269, c269.1), (270, c270.1), (271, c271.1), (272, c272.1), (273, c273.1), (274, c274.1), (275, c275.1), (276, c276.1), (277, c277.1), (278, c278.1), (279, c279.1), (281, c281.1), (282, c282.1), (283, c283.1), (285, c285.1), (286, c286.1), (287, c287.1), (288, c288.1), (290, c290.1), (293, c293.1), (295, c295.1), (296, c296.1), (300, c300.1), (301, c301.1), (302, c302.1), (305, c305.1), (306, c306.1), (307, c307.1), (309, c309.1), (310, c310.1), (311, c311.1), (313, c313.1), (340, c340.1), (341, c341.1), (342, c342.1), (345, c345.1), (350, c350.1), (353, c353.1), (356, c356.1), (360, c360.1)]
theorem tabL_ok : allC Tryz.prog tabL := ⟨c3.2, c4.2, c6.2, c7.2, c15.2, c16.2, c19.2, c20.2, c27.2, c29.2, c34.2, c35.2, c36.2, c42.2, c44.2, c46.2, c47.2, c49.2, c50.2, c51.2, c53.2, c57.2, c62.2, c63.2, c64.2, c65.2, c67.2, c68.2, c69.2, c70.2, c71.2, c72.2, c73.2, c74.2, c75.2, c77.2, c78.2, c79.2, c80.2, c81.2, c83.2, c84.2, c85.2, c86.2, c87.2, c88.2, c89.2, c91.2, c93.2, c95.2, c99.2, c100.2, c102.2, c103.2, c104.2, c105.2, c106.2, c107.2, c108.2, c109.2, c110.2, c111.2, c112.2, c113.2, c114.2, c115.2, c116.2, c117.2, c118.2, c119.2, c122.2, c123.2, c124.2, c126.2, c127.2, c128.2, c130.2, c131.2, c133.2, c140.2, c141.2, c142.2, c143.2, c144.2, c145.2, c146.2, c147.2, c148.2, c149.2, c150.2, c151.2, c152.2, c153.2, c154.2, c155.2, c156.2, c157.2, c158.2, c159.2, c160.2, c161.2, c162.2, c163.2, c165.2, c166.2, c167.2, c170.2, c171.2, c178.2, c182.2, c183.2, c195.2, c196.2, c197.2, c198.2, c199.2, c200.2, c205.2, c206.2, c207.2, c208.2, c209.2, c210.2, c211.2, c212.2, c213.2, c214.2, c215.2, c216.2, c217.2, c218.2, c219.2, c220.2, c221.2, c222.2, c224.2, c225.2, c226.2, c228.2, c229.2, c230.2, c231.2, c233.2, c242.2, c252.2, c253.2, c256.2, c257.2, c259.2, c261.2, c262.2, c263.2, c264.2, c267.2, c269.2, c270.2, c271.2, c272.2, c273.2, c274.2, c275.2, c276.2, c277.2, c278.2, c279.2, c281.2, c282.2, c283.2, c285.2, c286.2, c287.2, c288.2, c290.2, c293.2, c295.2, c296.2, c300.2, c301.2, c302.2, c305.2, c306.2, c307.2, c309.2, c310.2, c311.2, c313.2, c340.2, c341.2, c342.2, c345.2, c350.2, c353.2, c356.2, c360.2, trivial⟩
theorem mixed : Tryz.prog.follows .mixedOrders = true := by kernel_rfl
end Go.Proofs.YtjhhedpgfpcaiaaGreatDoor
