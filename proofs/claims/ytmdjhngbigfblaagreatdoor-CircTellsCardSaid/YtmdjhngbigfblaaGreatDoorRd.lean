/- Lemmas for a claim: an abstract machine for the translated code, proved sound, and contracts of functions. By an AI agent. -/
import Derived.Test.YtmdjhngbigfblaaGreatDoorProg
import Derived.Test.YtmdjhngbigfblaaGreatDoorRc
set_option linter.all false
namespace RV.Dr
open Go RV Go.Proofs
set_option maxRecDepth 100000
def Dt:au:=(.seq (.dc [⟨(some 6),(.box (.t 0)),none⟩,⟨(some 7),(.box (.t 1)),none⟩,⟨(some 8),(.box (.t 2)),none⟩,⟨(some 9),(.box (.t 3)),none⟩,⟨(some 12),(.bx (.c (.bool false))),none⟩]) (.seq (.dc [⟨(some 19),(.call 10 []),none⟩,⟨(some 13),(.bx (.t 19)),none⟩]) (.seq (.seq (.dc [⟨(some 20),(.dA 0 (.t 6)),none⟩,⟨(some 21),(.dA 1 (.t 20)),none⟩,⟨(some 22),(.load 1 false (.t 21)),none⟩,⟨(some 23),(.len (.t 22)),none⟩,⟨(some 24),(.bin .gtr (.t 23) (.c (.int .i64 70))),none⟩,⟨(some 25),(.bx (.t 24)),none⟩,⟨(some 26),(.dA 3 (.t 6)),(some (25,false))⟩,⟨(some 27),(.dA 1 (.t 26)),(some (25,false))⟩,⟨(some 28),(.load 1 false (.t 27)),(some (25,false))⟩,⟨(some 29),(.len (.t 28)),(some (25,false))⟩,⟨(some 30),(.bin .gtr (.t 29) (.c (.int .i64 70))),(some (25,false))⟩,⟨(some 31),(.pick (.t 25) (.c (.bool true)) (.t 30)),none⟩,⟨(some 32),(.bx (.t 31)),none⟩,⟨(some 33),(.dA 0 (.t 6)),(some (32,false))⟩,⟨(some 34),(.dA 2 (.t 33)),(some (32,false))⟩,⟨(some 35),(.load 1 false (.t 34)),(some (32,false))⟩,⟨(some 36),(.bin .gtr (.t 35) (.c (.int .i64 7000))),(some (32,false))⟩,⟨(some 37),(.pick (.t 32) (.c (.bool true)) (.t 36)),none⟩,⟨(some 38),(.bx (.t 37)),none⟩,⟨(some 39),(.dA 0 (.t 6)),(some (38,false))⟩,⟨(some 40),(.dA 2 (.t 39)),(some (38,false))⟩,⟨(some 41),(.load 1 false (.t 40)),(some (38,false))⟩,⟨(some 42),(.bin .lss (.t 41) (.c (.int .i64 (-7000)))),(some (38,false))⟩,⟨(some 43),(.pick (.t 38) (.c (.bool true)) (.t 42)),none⟩,⟨(some 44),(.bx (.t 43)),none⟩,⟨(some 45),(.dA 3 (.t 6)),(some (44,false))⟩,⟨(some 46),(.dA 2 (.t 45)),(some (44,false))⟩,⟨(some 47),(.load 1 false (.t 46)),(some (44,false))⟩,⟨(some 48),(.bin .gtr (.t 47) (.c (.int .i64 7000))),(some (44,false))⟩,⟨(some 49),(.pick (.t 44) (.c (.bool true)) (.t 48)),none⟩,⟨(some 50),(.bx (.t 49)),none⟩,⟨(some 51),(.dA 3 (.t 6)),(some (50,false))⟩,⟨(some 52),(.dA 2 (.t 51)),(some (50,false))⟩,⟨(some 53),(.load 1 false (.t 52)),(some (50,false))⟩,⟨(some 54),(.bin .lss (.t 53) (.c (.int .i64 (-7000)))),(some (50,false))⟩,⟨(some 55),(.pick (.t 50) (.c (.bool true)) (.t 54)),none⟩]) (.cond (.t 55) (.seq (.dc [⟨(some 56),(.bx (.t 13)),none⟩,⟨(some 12),(.bx (.t 56)),none⟩]) .ret) .skip)) (.seq (.seq (.jh [(⟨(some 57),(.load 6 true (.t 6)),none⟩,[]),(⟨(some 58),(.call 11 [(.t 57)]),none⟩,[88888888]),(⟨(some 59),(.load 6 true (.t 6)),none⟩,[])] [⟨(some 60),(.call 12 [(.t 59)]),none⟩,⟨(some 61),(.kL true (.t 58) (.t 60)),none⟩]) (.cond (.t 61) (.seq (.dc [⟨(some 12),(.bx (.c (.bool false))),none⟩]) .ret) .skip)) (.seq (.seq (.dc [⟨(some 62),(.load 6 true (.t 7)),none⟩,⟨(some 63),(.load 6 true (.t 8)),none⟩,⟨(some 64),(.hM (.recs 6) [(.t 62),(.t 63)]),none⟩,⟨(some 65),(.call 13 [(.t 64)]),none⟩,⟨(some 66),(.un .not (.t 65)),none⟩,⟨(some 67),(.bx (.t 66)),none⟩,⟨(some 68),(.load 3 true (.t 9)),(some (67,false))⟩,⟨(some 69),(.hM (.recs 3) [(.t 68)]),(some (67,false))⟩,⟨(some 70),(.call 14 [(.t 69)]),(some (67,false))⟩,⟨(some 71),(.un .not (.t 70)),(some (67,false))⟩,⟨(some 72),(.pick (.t 67) (.c (.bool true)) (.t 71)),none⟩,⟨(some 73),(.bx (.t 72)),none⟩,⟨(some 74),(.bx (.t 5)),(some (73,false))⟩,⟨(some 75),(.bin .lss (.t 74) (.c (.int .i64 (-500)))),(some (73,false))⟩,⟨(some 76),(.pick (.t 73) (.c (.bool true)) (.t 75)),none⟩,⟨(some 77),(.bx (.t 76)),none⟩,⟨(some 78),(.bx (.t 5)),(some (77,false))⟩,⟨(some 79),(.bin .gtr (.t 78) (.c (.int .i64 500))),(some (77,false))⟩,⟨(some 80),(.pick (.t 77) (.c (.bool true)) (.t 79)),none⟩]) (.cond (.t 80) (.seq (.dc [⟨(some 81),(.bx (.t 13)),none⟩,⟨(some 12),(.bx (.t 81)),none⟩]) .ret) .skip)) (.seq (.dc [⟨(some 82),(.bx (.t 4)),none⟩,⟨(some 83),(.conv .i64 (.t 82)),none⟩,⟨(some 84),(.bin .rem (.t 83) (.c (.int .i64 60))),none⟩,⟨(some 85),(.bin .add (.t 84) (.c (.int .i64 1))),none⟩,⟨(some 14),(.bx (.t 85)),none⟩]) (.seq (.dc [⟨(some 87),(.load 6 true (.t 7)),none⟩,⟨(some 88),(.bx (.t 14)),none⟩,⟨(some 89),(.call 15 [(.t 87),(.t 88)]),none⟩,⟨(some 86),(.bx (.t 89)),none⟩,⟨(some 90),(.lC 0 (.t 86)),none⟩,⟨(some 91),(.lC 1 (.t 86)),none⟩,⟨(some 15),(.alloc [(.bool false),(.ints .i64 []),(.int .i64 0),(.bool false),(.ints .i64 []),(.int .i64 0)]),none⟩,⟨none,(.store 6 (.t 15) (.t 90)),none⟩,⟨(some 16),(.bx (.t 91)),none⟩]) (.seq (.dc [⟨(some 93),(.load 6 true (.t 7)),none⟩,⟨(some 94),(.bx (.t 14)),none⟩,⟨(some 95),(.call 16 [(.t 93),(.t 94)]),none⟩,⟨(some 92),(.bx (.t 95)),none⟩,⟨(some 96),(.lC 0 (.t 92)),none⟩,⟨(some 97),(.lC 1 (.t 92)),none⟩,⟨(some 17),(.alloc [(.bool false),(.ints .i64 []),(.int .i64 0),(.bool false),(.ints .i64 []),(.int .i64 0)]),none⟩,⟨none,(.store 6 (.t 17) (.t 96)),none⟩,⟨(some 18),(.bx (.t 97)),none⟩]) (.seq (.jh [(⟨(some 98),(.bx (.t 13)),none⟩,[]),(⟨(some 99),(.bx (.t 98)),none⟩,[]),(⟨(some 100),(.load 3 true (.t 9)),(some (99,true))⟩,[]),(⟨(some 101),(.call 18 [(.t 100)]),(some (99,true))⟩,[88888888]),(⟨(some 102),(.load 3 true (.t 9)),(some (99,true))⟩,[]),(⟨(some 103),(.call 19 [(.t 102)]),(some (99,true))⟩,[]),(⟨(some 104),(.call 17 [(.t 101),(.t 103)]),(some (99,true))⟩,[]),(⟨(some 105),(.pick (.t 99) (.t 104) (.c (.bool false))),none⟩,[]),(⟨(some 106),(.bx (.t 105)),none⟩,[]),(⟨(some 107),(.load 6 true (.t 7)),(some (106,true))⟩,[]),(⟨(some 108),(.load 3 true (.t 9)),(some (106,true))⟩,[]),(⟨(some 109),(.call 20 [(.t 107),(.t 108)]),(some (106,true))⟩,[88888888]),(⟨(some 110),(.load 6 true (.t 7)),(some (106,true))⟩,[]),(⟨(some 111),(.load 3 true (.t 9)),(some (106,true))⟩,[]),(⟨(some 112),(.call 21 [(.t 110),(.t 111)]),(some (106,true))⟩,[]),(⟨(some 113),(.kL false (.t 109) (.t 112)),(some (106,true))⟩,[]),(⟨(some 114),(.pick (.t 106) (.t 113) (.c (.bool false))),none⟩,[]),(⟨(some 115),(.bx (.t 114)),none⟩,[]),(⟨(some 116),(.load 6 true (.t 7)),(some (115,true))⟩,[]),(⟨(some 117),(.load 6 true (.t 8)),(some (115,true))⟩,[]),(⟨(some 118),(.call 22 [(.t 116),(.t 117)]),(some (115,true))⟩,[88888888]),(⟨(some 119),(.load 6 true (.t 7)),(some (115,true))⟩,[]),(⟨(some 120),(.load 6 true (.t 8)),(some (115,true))⟩,[]),(⟨(some 121),(.call 23 [(.t 119),(.t 120)]),(some (115,true))⟩,[]),(⟨(some 122),(.kL false (.t 118) (.t 121)),(some (115,true))⟩,[]),(⟨(some 123),(.pick (.t 115) (.t 122) (.c (.bool false))),none⟩,[]),(⟨(some 124),(.bx (.t 123)),none⟩,[]),(⟨(some 125),(.load 6 true (.t 7)),(some (124,true))⟩,[]),(⟨(some 126),(.call 25 [(.t 125)]),(some (124,true))⟩,[88888888]),(⟨(some 127),(.load 6 true (.t 7)),(some (124,true))⟩,[]),(⟨(some 128),(.call 26 [(.t 127)]),(some (124,true))⟩,[]),(⟨(some 129),(.call 24 [(.t 126),(.t 128)]),(some (124,true))⟩,[]),(⟨(some 130),(.pick (.t 124) (.t 129) (.c (.bool false))),none⟩,[]),(⟨(some 131),(.bx (.t 130)),none⟩,[]),(⟨(some 132),(.load 6 true (.t 7)),(some (131,true))⟩,[]),(⟨(some 133),(.call 27 [(.t 132)]),(some (131,true))⟩,[88888888]),(⟨(some 134),(.load 6 true (.t 7)),(some (131,true))⟩,[]),(⟨(some 135),(.call 28 [(.t 134)]),(some (131,true))⟩,[]),(⟨(some 136),(.call 17 [(.t 133),(.t 135)]),(some (131,true))⟩,[]),(⟨(some 137),(.pick (.t 131) (.t 136) (.c (.bool false))),none⟩,[]),(⟨(some 138),(.bx (.t 137)),none⟩,[]),(⟨(some 139),(.load 6 true (.t 7)),(some (138,true))⟩,[]),(⟨(some 140),(.bx (.t 5)),(some (138,true))⟩,[]),(⟨(some 141),(.call 29 [(.t 139),(.t 140)]),(some (138,true))⟩,[88888888]),(⟨(some 142),(.load 6 true (.t 7)),(some (138,true))⟩,[]),(⟨(some 143),(.bx (.t 5)),(some (138,true))⟩,[]),(⟨(some 144),(.call 30 [(.t 142),(.t 143)]),(some (138,true))⟩,[]),(⟨(some 145),(.call 17 [(.t 141),(.t 144)]),(some (138,true))⟩,[]),(⟨(some 146),(.pick (.t 138) (.t 145) (.c (.bool false))),none⟩,[]),(⟨(some 147),(.bx (.t 146)),none⟩,[]),(⟨(some 148),(.load 6 true (.t 7)),(some (147,true))⟩,[]),(⟨(some 149),(.load 6 true (.t 8)),(some (147,true))⟩,[]),(⟨(some 150),(.call 31 [(.t 148),(.t 149)]),(some (147,true))⟩,[88888888]),(⟨(some 151),(.load 6 true (.t 7)),(some (147,true))⟩,[]),(⟨(some 152),(.load 6 true (.t 8)),(some (147,true))⟩,[]),(⟨(some 153),(.call 32 [(.t 151),(.t 152)]),(some (147,true))⟩,[]),(⟨(some 154),(.call 17 [(.t 150),(.t 153)]),(some (147,true))⟩,[]),(⟨(some 155),(.pick (.t 147) (.t 154) (.c (.bool false))),none⟩,[]),(⟨(some 156),(.bx (.t 155)),none⟩,[]),(⟨(some 157),(.load 6 true (.t 7)),(some (156,true))⟩,[]),(⟨(some 158),(.load 6 true (.t 8)),(some (156,true))⟩,[]),(⟨(some 159),(.call 33 [(.t 157),(.t 158)]),(some (156,true))⟩,[88888888]),(⟨(some 160),(.load 6 true (.t 7)),(some (156,true))⟩,[]),(⟨(some 161),(.load 6 true (.t 8)),(some (156,true))⟩,[]),(⟨(some 162),(.call 34 [(.t 160),(.t 161)]),(some (156,true))⟩,[]),(⟨(some 163),(.call 17 [(.t 159),(.t 162)]),(some (156,true))⟩,[]),(⟨(some 164),(.pick (.t 156) (.t 163) (.c (.bool false))),none⟩,[]),(⟨(some 165),(.bx (.t 164)),none⟩,[]),(⟨(some 166),(.load 6 true (.t 7)),(some (165,true))⟩,[]),(⟨(some 167),(.bx (.t 14)),(some (165,true))⟩,[]),(⟨(some 168),(.call 35 [(.t 166),(.t 167)]),(some (165,true))⟩,[88888888]),(⟨(some 169),(.load 6 true (.t 7)),(some (165,true))⟩,[]),(⟨(some 170),(.bx (.t 14)),(some (165,true))⟩,[]),(⟨(some 171),(.call 36 [(.t 169),(.t 170)]),(some (165,true))⟩,[]),(⟨(some 172),(.call 17 [(.t 168),(.t 171)]),(some (165,true))⟩,[]),(⟨(some 173),(.pick (.t 165) (.t 172) (.c (.bool false))),none⟩,[]),(⟨(some 174),(.bx (.t 173)),none⟩,[]),(⟨(some 175),(.load 6 true (.t 15)),(some (174,true))⟩,[]),(⟨(some 176),(.load 6 true (.t 17)),(some (174,true))⟩,[]),(⟨(some 177),(.call 17 [(.t 175),(.t 176)]),(some (174,true))⟩,[]),(⟨(some 178),(.pick (.t 174) (.t 177) (.c (.bool false))),none⟩,[]),(⟨(some 179),(.bx (.t 178)),none⟩,[]),(⟨(some 180),(.bx (.t 16)),(some (179,true))⟩,[]),(⟨(some 181),(.bx (.t 18)),(some (179,true))⟩,[])] [⟨(some 182),(.kL false (.t 180) (.t 181)),(some (179,true))⟩,⟨(some 183),(.pick (.t 179) (.t 182) (.c (.bool false))),none⟩,⟨(some 12),(.bx (.t 183)),none⟩]) .ret)))))))))
def g1:List bl:=[(.tmp 12)]
def qw:au:=(.seq (.dc [⟨(some 3),(.box (.t 0)),none⟩,⟨(some 5),(.box (.t 2)),none⟩,⟨(some 6),(.bx (.c (.bool false))),none⟩]) (.seq (.dc [⟨(some 9),(.call 37 []),none⟩,⟨(some 7),(.bx (.t 9)),none⟩]) (.seq (.seq (.dc [⟨(some 10),(.load 2 true (.t 3)),none⟩,⟨(some 11),(.hM (.recs 2) [(.t 10)]),none⟩,⟨(some 12),(.call 38 [(.t 11)]),none⟩,⟨(some 13),(.un .not (.t 12)),none⟩,⟨(some 14),(.bx (.t 13)),none⟩,⟨(some 15),(.load 3 true (.t 5)),(some (14,false))⟩,⟨(some 16),(.hM (.recs 3) [(.t 15)]),(some (14,false))⟩,⟨(some 17),(.call 14 [(.t 16)]),(some (14,false))⟩,⟨(some 18),(.un .not (.t 17)),(some (14,false))⟩,⟨(some 19),(.pick (.t 14) (.c (.bool true)) (.t 18)),none⟩]) (.cond (.t 19) (.seq (.dc [⟨(some 20),(.bx (.t 7)),none⟩,⟨(some 6),(.bx (.t 20)),none⟩]) .ret) .skip)) (.seq (.dc [⟨(some 21),(.bx (.t 1)),none⟩,⟨(some 22),(.call 39 [(.t 21)]),none⟩,⟨(some 8),(.bx (.t 22)),none⟩]) (.seq (.jh [(⟨(some 23),(.bx (.t 7)),none⟩,[]),(⟨(some 24),(.bx (.t 23)),none⟩,[]),(⟨(some 25),(.load 2 true (.t 3)),(some (24,true))⟩,[]),(⟨(some 26),(.bx (.t 8)),(some (24,true))⟩,[]),(⟨(some 27),(.call 40 [(.t 25),(.t 26)]),(some (24,true))⟩,[88888888]),(⟨(some 28),(.load 2 true (.t 3)),(some (24,true))⟩,[]),(⟨(some 29),(.bx (.t 8)),(some (24,true))⟩,[]),(⟨(some 30),(.call 41 [(.t 28),(.t 29)]),(some (24,true))⟩,[]),(⟨(some 31),(.call 17 [(.t 27),(.t 30)]),(some (24,true))⟩,[]),(⟨(some 32),(.pick (.t 24) (.t 31) (.c (.bool false))),none⟩,[]),(⟨(some 33),(.bx (.t 32)),none⟩,[]),(⟨(some 34),(.load 2 true (.t 3)),(some (33,true))⟩,[]),(⟨(some 35),(.bx (.t 8)),(some (33,true))⟩,[]),(⟨(some 36),(.call 42 [(.t 34),(.t 35)]),(some (33,true))⟩,[88888888]),(⟨(some 37),(.load 2 true (.t 3)),(some (33,true))⟩,[]),(⟨(some 38),(.bx (.t 8)),(some (33,true))⟩,[]),(⟨(some 39),(.call 43 [(.t 37),(.t 38)]),(some (33,true))⟩,[]),(⟨(some 40),(.call 17 [(.t 36),(.t 39)]),(some (33,true))⟩,[]),(⟨(some 41),(.pick (.t 33) (.t 40) (.c (.bool false))),none⟩,[]),(⟨(some 42),(.bx (.t 41)),none⟩,[]),(⟨(some 43),(.load 3 true (.t 5)),(some (42,true))⟩,[]),(⟨(some 44),(.bx (.t 8)),(some (42,true))⟩,[]),(⟨(some 45),(.call 44 [(.t 43),(.t 44)]),(some (42,true))⟩,[88888888]),(⟨(some 46),(.load 3 true (.t 5)),(some (42,true))⟩,[]),(⟨(some 47),(.bx (.t 8)),(some (42,true))⟩,[])] [⟨(some 48),(.call 45 [(.t 46),(.t 47)]),(some (42,true))⟩,⟨(some 49),(.call 24 [(.t 45),(.t 48)]),(some (42,true))⟩,⟨(some 50),(.pick (.t 42) (.t 49) (.c (.bool false))),none⟩,⟨(some 6),(.bx (.t 50)),none⟩]) .ret)))))
def wh:List bl:=[(.tmp 6)]
def Du:au:=(.seq (.dc [⟨(some 2),(.box (.t 0)),none⟩,⟨(some 4),(.bx (.c (.bool false))),none⟩]) (.seq (.dc [⟨(some 11),(.call 37 []),none⟩,⟨(some 5),(.bx (.t 11)),none⟩]) (.seq (.seq (.dc [⟨(some 12),(.load 2 true (.t 2)),none⟩,⟨(some 13),(.hM (.recs 2) [(.t 12)]),none⟩,⟨(some 14),(.call 38 [(.t 13)]),none⟩,⟨(some 15),(.un .not (.t 14)),none⟩]) (.cond (.t 15) (.seq (.dc [⟨(some 16),(.bx (.t 5)),none⟩,⟨(some 4),(.bx (.t 16)),none⟩]) .ret) .skip)) (.seq (.dc [⟨(some 17),(.bx (.t 1)),none⟩,⟨(some 18),(.call 39 [(.t 17)]),none⟩,⟨(some 6),(.bx (.t 18)),none⟩]) (.seq (.dc [⟨(some 19),(.load 2 true (.t 2)),none⟩,⟨(some 20),(.bx (.t 6)),none⟩,⟨(some 21),(.call 40 [(.t 19),(.t 20)]),none⟩,⟨(some 7),(.alloc [(.bool false),(.ints .i64 []),(.int .i64 0),(.bool false),(.ints .i64 []),(.int .i64 0)]),none⟩,⟨none,(.store 6 (.t 7) (.t 21)),none⟩]) (.seq (.dc [⟨(some 22),(.load 2 true (.t 2)),none⟩,⟨(some 23),(.bx (.t 6)),none⟩,⟨(some 24),(.call 42 [(.t 22),(.t 23)]),none⟩,⟨(some 8),(.alloc [(.bool false),(.ints .i64 []),(.int .i64 0),(.bool false),(.ints .i64 []),(.int .i64 0)]),none⟩,⟨none,(.store 6 (.t 8) (.t 24)),none⟩]) (.seq (.seq (.dc [⟨(some 25),(.load 6 true (.t 7)),none⟩,⟨(some 26),(.call 12 [(.t 25)]),none⟩,⟨(some 27),(.un .not (.t 26)),none⟩,⟨(some 28),(.bx (.t 27)),none⟩,⟨(some 29),(.load 6 true (.t 8)),(some (28,false))⟩,⟨(some 30),(.call 12 [(.t 29)]),(some (28,false))⟩,⟨(some 31),(.un .not (.t 30)),(some (28,false))⟩,⟨(some 32),(.pick (.t 28) (.c (.bool true)) (.t 31)),none⟩,⟨(some 33),(.bx (.t 32)),none⟩,⟨(some 34),(.dA 0 (.t 7)),(some (33,false))⟩,⟨(some 35),(.dA 1 (.t 34)),(some (33,false))⟩,⟨(some 36),(.load 1 false (.t 35)),(some (33,false))⟩,⟨(some 37),(.len (.t 36)),(some (33,false))⟩,⟨(some 38),(.bin .gtr (.t 37) (.c (.int .i64 0))),(some (33,false))⟩,⟨(some 39),(.bx (.t 38)),(some (33,false))⟩,⟨(some 40),(.dA 0 (.t 7)),(some (39,true))⟩,⟨(some 41),(.dA 2 (.t 40)),(some (39,true))⟩,⟨(some 42),(.load 1 false (.t 41)),(some (39,true))⟩,⟨(some 43),(.bx (.t 6)),(some (39,true))⟩,⟨(some 44),(.un .neg (.t 43)),(some (39,true))⟩,⟨(some 45),(.bin .lss (.t 42) (.t 44)),(some (39,true))⟩,⟨(some 46),(.pick (.t 39) (.t 45) (.c (.bool false))),(some (33,false))⟩,⟨(some 47),(.pick (.t 33) (.c (.bool true)) (.t 46)),none⟩,⟨(some 48),(.bx (.t 47)),none⟩,⟨(some 49),(.dA 3 (.t 8)),(some (48,false))⟩,⟨(some 50),(.dA 1 (.t 49)),(some (48,false))⟩,⟨(some 51),(.load 1 false (.t 50)),(some (48,false))⟩,⟨(some 52),(.len (.t 51)),(some (48,false))⟩,⟨(some 53),(.bin .gtr (.t 52) (.c (.int .i64 0))),(some (48,false))⟩,⟨(some 54),(.bx (.t 53)),(some (48,false))⟩,⟨(some 55),(.dA 3 (.t 8)),(some (54,true))⟩,⟨(some 56),(.dA 2 (.t 55)),(some (54,true))⟩,⟨(some 57),(.load 1 false (.t 56)),(some (54,true))⟩,⟨(some 58),(.bx (.t 6)),(some (54,true))⟩,⟨(some 59),(.un .neg (.t 58)),(some (54,true))⟩,⟨(some 60),(.bin .lss (.t 57) (.t 59)),(some (54,true))⟩,⟨(some 61),(.pick (.t 54) (.t 60) (.c (.bool false))),(some (48,false))⟩,⟨(some 62),(.pick (.t 48) (.c (.bool true)) (.t 61)),none⟩]) (.cond (.t 62) (.seq (.dc [⟨(some 4),(.bx (.c (.bool false))),none⟩]) .ret) .skip)) (.seq (.dc [⟨(some 63),(.call 46 [(.c (.int .i64 1))]),none⟩,⟨(some 9),(.alloc [(.bool false),(.ints .i64 []),(.int .i64 0)]),none⟩,⟨none,(.store 3 (.t 9) (.t 63)),none⟩]) (.seq (.seq (.jh [(⟨(some 64),(.dA 0 (.t 7)),none⟩,[]),(⟨(some 65),(.load 3 true (.t 64)),none⟩,[]),(⟨(some 66),(.load 3 true (.t 9)),none⟩,[]),(⟨(some 67),(.call 48 [(.t 66)]),none⟩,[88888888]),(⟨(some 68),(.call 47 [(.t 65),(.t 67)]),none⟩,[]),(⟨(some 69),(.bin .lss (.t 68) (.c (.int .i64 0))),none⟩,[]),(⟨(some 70),(.bx (.t 69)),none⟩,[]),(⟨(some 71),(.dA 3 (.t 7)),(some (70,false))⟩,[]),(⟨(some 72),(.load 3 true (.t 71)),(some (70,false))⟩,[]),(⟨(some 73),(.load 3 true (.t 9)),(some (70,false))⟩,[]),(⟨(some 74),(.call 47 [(.t 72),(.t 73)]),(some (70,false))⟩,[]),(⟨(some 75),(.bin .gtr (.t 74) (.c (.int .i64 0))),(some (70,false))⟩,[]),(⟨(some 76),(.pick (.t 70) (.c (.bool true)) (.t 75)),none⟩,[]),(⟨(some 77),(.bx (.t 76)),none⟩,[]),(⟨(some 78),(.dA 0 (.t 8)),(some (77,false))⟩,[]),(⟨(some 79),(.load 3 true (.t 78)),(some (77,false))⟩,[]),(⟨(some 80),(.load 3 true (.t 9)),(some (77,false))⟩,[]),(⟨(some 81),(.call 48 [(.t 80)]),(some (77,false))⟩,[88888888]),(⟨(some 82),(.call 47 [(.t 79),(.t 81)]),(some (77,false))⟩,[]),(⟨(some 83),(.bin .lss (.t 82) (.c (.int .i64 0))),(some (77,false))⟩,[]),(⟨(some 84),(.pick (.t 77) (.c (.bool true)) (.t 83)),none⟩,[]),(⟨(some 85),(.bx (.t 84)),none⟩,[]),(⟨(some 86),(.dA 3 (.t 8)),(some (85,false))⟩,[]),(⟨(some 87),(.load 3 true (.t 86)),(some (85,false))⟩,[]),(⟨(some 88),(.load 3 true (.t 9)),(some (85,false))⟩,[])] [⟨(some 89),(.call 47 [(.t 87),(.t 88)]),(some (85,false))⟩,⟨(some 90),(.bin .gtr (.t 89) (.c (.int .i64 0))),(some (85,false))⟩,⟨(some 91),(.pick (.t 85) (.c (.bool true)) (.t 90)),none⟩]) (.cond (.t 91) (.seq (.dc [⟨(some 4),(.bx (.c (.bool false))),none⟩]) .ret) .skip)) (.seq (.seq (.dc [⟨(some 92),(.load 2 true (.t 2)),none⟩,⟨(some 93),(.call 49 [(.t 92)]),none⟩]) (.cond (.t 93) (.seq (.jh [(⟨(some 94),(.bx (.t 5)),none⟩,[]),(⟨(some 95),(.bx (.t 94)),none⟩,[]),(⟨(some 96),(.dA 0 (.t 7)),(some (95,true))⟩,[]),(⟨(some 97),(.load 3 true (.t 96)),(some (95,true))⟩,[]),(⟨(some 98),(.dA 3 (.t 7)),(some (95,true))⟩,[]),(⟨(some 99),(.load 3 true (.t 98)),(some (95,true))⟩,[]),(⟨(some 100),(.call 24 [(.t 97),(.t 99)]),(some (95,true))⟩,[]),(⟨(some 101),(.pick (.t 95) (.t 100) (.c (.bool false))),none⟩,[]),(⟨(some 102),(.bx (.t 101)),none⟩,[]),(⟨(some 103),(.dA 0 (.t 8)),(some (102,true))⟩,[]),(⟨(some 104),(.load 3 true (.t 103)),(some (102,true))⟩,[]),(⟨(some 105),(.dA 3 (.t 8)),(some (102,true))⟩,[]),(⟨(some 106),(.load 3 true (.t 105)),(some (102,true))⟩,[]),(⟨(some 107),(.call 24 [(.t 104),(.t 106)]),(some (102,true))⟩,[]),(⟨(some 108),(.pick (.t 102) (.t 107) (.c (.bool false))),none⟩,[]),(⟨(some 109),(.bx (.t 108)),none⟩,[]),(⟨(some 110),(.dA 0 (.t 7)),(some (109,true))⟩,[]),(⟨(some 111),(.load 3 true (.t 110)),(some (109,true))⟩,[]),(⟨(some 112),(.dA 0 (.t 7)),(some (109,true))⟩,[]),(⟨(some 113),(.load 3 true (.t 112)),(some (109,true))⟩,[]),(⟨(some 114),(.call 51 [(.t 111),(.t 113)]),(some (109,true))⟩,[88888888]),(⟨(some 115),(.dA 0 (.t 8)),(some (109,true))⟩,[]),(⟨(some 116),(.load 3 true (.t 115)),(some (109,true))⟩,[]),(⟨(some 117),(.dA 0 (.t 8)),(some (109,true))⟩,[]),(⟨(some 118),(.load 3 true (.t 117)),(some (109,true))⟩,[]),(⟨(some 119),(.call 51 [(.t 116),(.t 118)]),(some (109,true))⟩,[88888888]),(⟨(some 120),(.call 50 [(.t 114),(.t 119)]),(some (109,true))⟩,[88888888]),(⟨(some 121),(.load 3 true (.t 9)),(some (109,true))⟩,[])] [⟨(some 122),(.call 24 [(.t 120),(.t 121)]),(some (109,true))⟩,⟨(some 123),(.pick (.t 109) (.t 122) (.c (.bool false))),none⟩,⟨(some 4),(.bx (.t 123)),none⟩]) .ret) .skip)) (.seq (.dc [⟨(some 124),(.hM (.ints .i64) [(.c (.int .i64 1))]),none⟩,⟨(some 125),(.bx (.t 6)),none⟩,⟨(some 126),(.un .neg (.t 125)),none⟩,⟨(some 127),(.build [(.bool false),(.ints .i64 []),(.int .i64 0)] [(1,(1,(.t 124))),(2,(1,(.t 126)))]),none⟩,⟨(some 10),(.alloc [(.bool false),(.ints .i64 []),(.int .i64 0)]),none⟩,⟨none,(.store 3 (.t 10) (.t 127)),none⟩]) (.seq (.jh [(⟨(some 128),(.bx (.t 5)),none⟩,[]),(⟨(some 129),(.bx (.t 128)),none⟩,[]),(⟨(some 130),(.load 6 true (.t 7)),(some (129,true))⟩,[]),(⟨(some 131),(.call 26 [(.t 130)]),(some (129,true))⟩,[88888888]),(⟨(some 132),(.load 3 true (.t 10)),(some (129,true))⟩,[]),(⟨(some 133),(.call 24 [(.t 131),(.t 132)]),(some (129,true))⟩,[]),(⟨(some 134),(.pick (.t 129) (.t 133) (.c (.bool false))),none⟩,[]),(⟨(some 135),(.bx (.t 134)),none⟩,[]),(⟨(some 136),(.load 6 true (.t 8)),(some (135,true))⟩,[]),(⟨(some 137),(.call 26 [(.t 136)]),(some (135,true))⟩,[88888888]),(⟨(some 138),(.load 3 true (.t 10)),(some (135,true))⟩,[])] [⟨(some 139),(.call 24 [(.t 137),(.t 138)]),(some (135,true))⟩,⟨(some 140),(.pick (.t 135) (.t 139) (.c (.bool false))),none⟩,⟨(some 4),(.bx (.t 140)),none⟩]) .ret))))))))))))
def Dv:List bl:=[(.tmp 4)]
def aky:au:=by
 refine(?f:(aV Tryz.prog 6).map (fun y=>y.1)=some ?x→au) ?h
 ·exact fun _=> ?x
 ·conv=>lhs;cbv
def Dw:List bl:=[(.tmp 4)]
def akz:au:=(.seq (.dc [⟨(some 2),(.box (.t 0)),none⟩,⟨(some 4),(.bx (.c (.bool false))),none⟩]) (.seq (.dc [⟨(some 12),(.call 37 []),none⟩,⟨(some 5),(.bx (.t 12)),none⟩]) (.seq (.seq (.dc [⟨(some 13),(.load 2 true (.t 2)),none⟩,⟨(some 14),(.hM (.recs 2) [(.t 13)]),none⟩,⟨(some 15),(.call 38 [(.t 14)]),none⟩,⟨(some 16),(.un .not (.t 15)),none⟩]) (.cond (.t 16) (.seq (.dc [⟨(some 17),(.bx (.t 5)),none⟩,⟨(some 4),(.bx (.t 17)),none⟩]) .ret) .skip)) (.seq (.dc [⟨(some 18),(.bx (.t 1)),none⟩,⟨(some 19),(.call 39 [(.t 18)]),none⟩,⟨(some 6),(.bx (.t 19)),none⟩]) (.seq (.dc [⟨(some 20),(.load 2 true (.t 2)),none⟩,⟨(some 21),(.bx (.t 6)),none⟩,⟨(some 22),(.call 40 [(.t 20),(.t 21)]),none⟩,⟨(some 7),(.alloc [(.bool false),(.ints .i64 []),(.int .i64 0),(.bool false),(.ints .i64 []),(.int .i64 0)]),none⟩,⟨none,(.store 6 (.t 7) (.t 22)),none⟩]) (.seq (.dc [⟨(some 23),(.load 2 true (.t 2)),none⟩,⟨(some 24),(.bx (.t 6)),none⟩,⟨(some 25),(.call 42 [(.t 23),(.t 24)]),none⟩,⟨(some 8),(.alloc [(.bool false),(.ints .i64 []),(.int .i64 0),(.bool false),(.ints .i64 []),(.int .i64 0)]),none⟩,⟨none,(.store 6 (.t 8) (.t 25)),none⟩]) (.seq (.dc [⟨(some 26),(.load 2 true (.t 2)),none⟩,⟨(some 27),(.call 52 [(.t 26)]),none⟩,⟨(some 9),(.alloc [(.int .i64 0),(.int .i64 0)]),none⟩,⟨none,(.store 2 (.t 9) (.t 27)),none⟩]) (.seq (.dc [⟨(some 28),(.load 2 true (.t 2)),none⟩,⟨(some 29),(.build [(.int .i64 0),(.int .i64 0)] [(0,(1,(.c (.int .i64 1)))),(1,(1,(.c (.int .i64 1))))]),none⟩,⟨(some 30),(.call 53 [(.t 28),(.t 29)]),none⟩,⟨(some 10),(.alloc [(.int .i64 0),(.int .i64 0)]),none⟩,⟨none,(.store 2 (.t 10) (.t 30)),none⟩]) (.seq (.dc [⟨(some 31),(.load 2 true (.t 2)),none⟩,⟨(some 32),(.build [(.int .i64 0),(.int .i64 0)] [(0,(1,(.c (.int .i64 1)))),(1,(1,(.c (.int .i64 2))))]),none⟩,⟨(some 33),(.call 53 [(.t 31),(.t 32)]),none⟩,⟨(some 11),(.alloc [(.int .i64 0),(.int .i64 0)]),none⟩,⟨none,(.store 2 (.t 11) (.t 33)),none⟩]) (.seq (.jh [(⟨(some 34),(.bx (.t 5)),none⟩,[]),(⟨(some 35),(.bx (.t 34)),none⟩,[]),(⟨(some 36),(.load 2 true (.t 9)),(some (35,true))⟩,[]),(⟨(some 37),(.bx (.t 6)),(some (35,true))⟩,[]),(⟨(some 38),(.call 40 [(.t 36),(.t 37)]),(some (35,true))⟩,[88888888]),(⟨(some 39),(.load 6 true (.t 7)),(some (35,true))⟩,[]),(⟨(some 40),(.call 17 [(.t 38),(.t 39)]),(some (35,true))⟩,[]),(⟨(some 41),(.pick (.t 35) (.t 40) (.c (.bool false))),none⟩,[]),(⟨(some 42),(.bx (.t 41)),none⟩,[]),(⟨(some 43),(.load 2 true (.t 9)),(some (42,true))⟩,[]),(⟨(some 44),(.bx (.t 6)),(some (42,true))⟩,[]),(⟨(some 45),(.call 42 [(.t 43),(.t 44)]),(some (42,true))⟩,[88888888]),(⟨(some 46),(.load 6 true (.t 8)),(some (42,true))⟩,[]),(⟨(some 47),(.call 28 [(.t 46)]),(some (42,true))⟩,[]),(⟨(some 48),(.call 17 [(.t 45),(.t 47)]),(some (42,true))⟩,[]),(⟨(some 49),(.pick (.t 42) (.t 48) (.c (.bool false))),none⟩,[]),(⟨(some 50),(.bx (.t 49)),none⟩,[]),(⟨(some 51),(.load 2 true (.t 10)),(some (50,true))⟩,[]),(⟨(some 52),(.bx (.t 6)),(some (50,true))⟩,[]),(⟨(some 53),(.call 40 [(.t 51),(.t 52)]),(some (50,true))⟩,[88888888]),(⟨(some 54),(.load 6 true (.t 7)),(some (50,true))⟩,[]),(⟨(some 55),(.call 28 [(.t 54)]),(some (50,true))⟩,[]),(⟨(some 56),(.call 17 [(.t 53),(.t 55)]),(some (50,true))⟩,[]),(⟨(some 57),(.pick (.t 50) (.t 56) (.c (.bool false))),none⟩,[]),(⟨(some 58),(.bx (.t 57)),none⟩,[]),(⟨(some 59),(.load 2 true (.t 10)),(some (58,true))⟩,[]),(⟨(some 60),(.bx (.t 6)),(some (58,true))⟩,[]),(⟨(some 61),(.call 42 [(.t 59),(.t 60)]),(some (58,true))⟩,[88888888]),(⟨(some 62),(.load 6 true (.t 8)),(some (58,true))⟩,[]),(⟨(some 63),(.call 28 [(.t 62)]),(some (58,true))⟩,[]),(⟨(some 64),(.call 17 [(.t 61),(.t 63)]),(some (58,true))⟩,[]),(⟨(some 65),(.pick (.t 58) (.t 64) (.c (.bool false))),none⟩,[]),(⟨(some 66),(.bx (.t 65)),none⟩,[]),(⟨(some 67),(.load 2 true (.t 11)),(some (66,true))⟩,[]),(⟨(some 68),(.bx (.t 6)),(some (66,true))⟩,[]),(⟨(some 69),(.call 40 [(.t 67),(.t 68)]),(some (66,true))⟩,[88888888]),(⟨(some 70),(.load 6 true (.t 8)),(some (66,true))⟩,[]),(⟨(some 71),(.call 28 [(.t 70)]),(some (66,true))⟩,[]),(⟨(some 72),(.call 17 [(.t 69),(.t 71)]),(some (66,true))⟩,[]),(⟨(some 73),(.pick (.t 66) (.t 72) (.c (.bool false))),none⟩,[]),(⟨(some 74),(.bx (.t 73)),none⟩,[]),(⟨(some 75),(.load 2 true (.t 11)),(some (74,true))⟩,[]),(⟨(some 76),(.bx (.t 6)),(some (74,true))⟩,[]),(⟨(some 77),(.call 42 [(.t 75),(.t 76)]),(some (74,true))⟩,[88888888]),(⟨(some 78),(.load 6 true (.t 7)),(some (74,true))⟩,[])] [⟨(some 79),(.call 17 [(.t 77),(.t 78)]),(some (74,true))⟩,⟨(some 80),(.pick (.t 74) (.t 79) (.c (.bool false))),none⟩,⟨(some 4),(.bx (.t 80)),none⟩]) .ret))))))))))
def uo:List bl:=[(.tmp 4)]
def Dx:List bl:=[(.tmp 6)]
def Ip:au:=by
 refine(?F:(au→au→au)→au) au.cut
 intro c
 refine(?f:(aV Tryz.prog 14).map (fun y=>y.1.c5 c)=some ?x→au) ?h
 ·exact fun _=> ?x
 ·conv=>lhs;cbv
def Iq:List bl:=[(.tmp 2)]
def Cw:au:=by
 refine(?f:(aV Tryz.prog 15).map (fun y=>y.1)=some ?x→au) ?h
 ·exact fun _=> ?x
 ·conv=>lhs;cbv
def Cx:List bl:=[(.cell 4 6 true),(.tmp 5)]
def Cy:au:=by
 refine(?f:(aV Tryz.prog 16).map (fun y=>y.1)=some ?x→au) ?h
 ·exact fun _=> ?x
 ·conv=>lhs;cbv
def Cz:List bl:=[(.cell 4 6 true),(.tmp 5)]
def CA:au:=by
 refine(?f:(aV Tryz.prog 17).map (fun y=>y.1)=some ?x→au) ?h
 ·exact fun _=> ?x
 ·conv=>lhs;cbv
def CB:List bl:=[(.tmp 4)]
def Ir:au:=by
 refine(?f:(aV Tryz.prog 18).map (fun y=>y.1)=some ?x→au) ?h
 ·exact fun _=> ?x
 ·conv=>lhs;cbv
def Is:List bl:=[(.cell 2 6 true)]
def It:au:=by
 refine(?f:(aV Tryz.prog 19).map (fun y=>y.1)=some ?x→au) ?h
 ·exact fun _=> ?x
 ·conv=>lhs;cbv
def Iu:List bl:=[(.cell 2 6 true)]
def vJ:au:=by
 refine(?f:(aV Tryz.prog 24).map (fun y=>y.1)=some ?x→au) ?h
 ·exact fun _=> ?x
 ·conv=>lhs;cbv
def yr:List bl:=[(.tmp 4)]
def Iv:au:=by
 refine(?f:(aV Tryz.prog 25).map (fun y=>y.1)=some ?x→au) ?h
 ·exact fun _=> ?x
 ·conv=>lhs;cbv
def Iw:List bl:=[(.cell 2 3 true)]
def Ix:au:=by
 refine(?f:(aV Tryz.prog 27).map (fun y=>y.1)=some ?x→au) ?h
 ·exact fun _=> ?x
 ·conv=>lhs;cbv
def Iy:List bl:=[(.cell 2 6 true)]
def Iz:au:=by
 refine(?f:(aV Tryz.prog 28).map (fun y=>y.1)=some ?x→au) ?h
 ·exact fun _=> ?x
 ·conv=>lhs;cbv
def IA:List bl:=[(.cell 2 6 true)]
def IB:au:=by
 refine(?f:(aV Tryz.prog 29).map (fun y=>y.1)=some ?x→au) ?h
 ·exact fun _=> ?x
 ·conv=>lhs;cbv
def IC:List bl:=[(.cell 4 6 true)]
def ID:au:=by
 refine(?f:(aV Tryz.prog 30).map (fun y=>y.1)=some ?x→au) ?h
 ·exact fun _=> ?x
 ·conv=>lhs;cbv
def IE:List bl:=[(.cell 4 6 true)]
def IF:au:=by
 refine(?f:(aV Tryz.prog 31).map (fun y=>y.1)=some ?x→au) ?h
 ·exact fun _=> ?x
 ·conv=>lhs;cbv
def IG:List bl:=[(.cell 4 6 true)]
def IH:au:=by
 refine(?f:(aV Tryz.prog 32).map (fun y=>y.1)=some ?x→au) ?h
 ·exact fun _=> ?x
 ·conv=>lhs;cbv
def II:List bl:=[(.cell 4 6 true)]
def IJ:jz:=by
 refine(?f:(uQ Tryz.prog 33).map (fun y=>y.1)=some ?x→jz) ?h
 ·exact fun _=> ?x
 ·conv=>lhs;cbv
def IK:List bl:=[(.cell 4 6 true)]
def IL:au:=by
 refine(?F:(au→au→au)→au) au.cut
 intro c
 refine(?f:(aV Tryz.prog 34).map (fun y=>y.1.c5 c)=some ?x→au) ?h
 ·exact fun _=> ?x
 ·conv=>lhs;cbv
def IM:List bl:=[(.cell 4 6 true)]
def IP:au:=by
 refine(?f:(aV Tryz.prog 35).map (fun y=>y.1)=some ?x→au) ?h
 ·exact fun _=> ?x
 ·conv=>lhs;cbv
def IQ:List bl:=[(.cell 4 6 true)]
def IU:au:=by
 refine(?f:(aV Tryz.prog 36).map (fun y=>y.1)=some ?x→au) ?h
 ·exact fun _=> ?x
 ·conv=>lhs;cbv
def IV:List bl:=[(.cell 4 6 true)]
def IW:au:=(.seq (.dc [⟨(some 0),(.bx (.c (.bool false))),none⟩]) (.seq (.dc [⟨(some 5),(.build [(.int .i64 0),(.int .i64 0)] [(0,(1,(.c (.int .i64 1)))),(1,(1,(.c (.int .i64 3))))]),none⟩,⟨(some 6),(.call 40 [(.t 5),(.c (.int .i64 1))]),none⟩,⟨(some 1),(.alloc [(.bool false),(.ints .i64 []),(.int .i64 0),(.bool false),(.ints .i64 []),(.int .i64 0)]),none⟩,⟨none,(.store 6 (.t 1) (.t 6)),none⟩]) (.seq (.dc [⟨(some 7),(.build [(.int .i64 0),(.int .i64 0)] [(0,(1,(.c (.int .i64 3)))),(1,(1,(.c (.int .i64 2))))]),none⟩,⟨(some 8),(.call 42 [(.t 7),(.c (.int .i64 9))]),none⟩,⟨(some 2),(.alloc [(.bool false),(.ints .i64 []),(.int .i64 0),(.bool false),(.ints .i64 []),(.int .i64 0)]),none⟩,⟨none,(.store 6 (.t 2) (.t 8)),none⟩]) (.seq (.dc [⟨(some 9),(.build [(.int .i64 0),(.int .i64 0)] [(0,(1,(.c (.int .i64 1)))),(1,(1,(.c (.int .i64 2))))]),none⟩,⟨(some 10),(.call 40 [(.t 9),(.c (.int .i64 5))]),none⟩,⟨(some 3),(.alloc [(.bool false),(.ints .i64 []),(.int .i64 0),(.bool false),(.ints .i64 []),(.int .i64 0)]),none⟩,⟨none,(.store 6 (.t 3) (.t 10)),none⟩]) (.seq (.dc [⟨(some 11),(.build [(.int .i64 0),(.int .i64 0)] [(0,(1,(.c (.int .i64 1)))),(1,(1,(.c (.int .i64 4))))]),none⟩,⟨(some 12),(.call 40 [(.t 11),(.c (.int .i64 8))]),none⟩,⟨(some 4),(.alloc [(.bool false),(.ints .i64 []),(.int .i64 0),(.bool false),(.ints .i64 []),(.int .i64 0)]),none⟩,⟨none,(.store 6 (.t 4) (.t 12)),none⟩]) (.seq (.jh [(⟨(some 13),(.load 6 true (.t 1)),none⟩,[]),(⟨(some 14),(.hM (.ints .i64) [(.c (.int .i64 1))]),none⟩,[]),(⟨(some 15),(.build [(.bool false),(.ints .i64 []),(.int .i64 0)] [(1,(1,(.t 14))),(2,(1,(.c (.int .i64 (-1)))))]),none⟩,[]),(⟨(some 16),(.call 46 [(.c (.int .i64 1))]),none⟩,[88888888]),(⟨(some 17),(.build [(.bool false),(.ints .i64 []),(.int .i64 0),(.bool false),(.ints .i64 []),(.int .i64 0)] [(0,(3,(.t 15))),(3,(3,(.t 16)))]),none⟩,[]),(⟨(some 18),(.call 17 [(.t 13),(.t 17)]),none⟩,[]),(⟨(some 19),(.bx (.t 18)),none⟩,[]),(⟨(some 20),(.load 6 true (.t 2)),(some (19,true))⟩,[]),(⟨(some 21),(.call 46 [(.c (.int .i64 (-1)))]),(some (19,true))⟩,[88888888]),(⟨(some 22),(.call 19 [(.t 21)]),(some (19,true))⟩,[88888888]),(⟨(some 23),(.call 17 [(.t 20),(.t 22)]),(some (19,true))⟩,[]),(⟨(some 24),(.pick (.t 19) (.t 23) (.c (.bool false))),none⟩,[]),(⟨(some 25),(.bx (.t 24)),none⟩,[]),(⟨(some 26),(.load 6 true (.t 3)),(some (25,true))⟩,[]),(⟨(some 27),(.build [(.bool false),(.ints .i64 []),(.int .i64 0),(.bool false),(.ints .i64 []),(.int .i64 0)] []),(some (25,true))⟩,[]),(⟨(some 28),(.call 17 [(.t 26),(.t 27)]),(some (25,true))⟩,[]),(⟨(some 29),(.pick (.t 25) (.t 28) (.c (.bool false))),none⟩,[]),(⟨(some 30),(.bx (.t 29)),none⟩,[]),(⟨(some 31),(.load 6 true (.t 4)),(some (30,true))⟩,[]),(⟨(some 32),(.hM (.ints .i64) [(.c (.int .i64 236))]),(some (30,true))⟩,[]),(⟨(some 33),(.call 76 [(.c (.bool false)),(.t 32),(.c (.int .i64 (-8)))]),(some (30,true))⟩,[88888888]),(⟨(some 34),(.hM (.ints .i64) [(.c (.int .i64 237))]),(some (30,true))⟩,[]),(⟨(some 35),(.call 76 [(.c (.bool false)),(.t 34),(.c (.int .i64 (-8)))]),(some (30,true))⟩,[88888888]),(⟨(some 36),(.build [(.bool false),(.ints .i64 []),(.int .i64 0),(.bool false),(.ints .i64 []),(.int .i64 0)] [(0,(3,(.t 33))),(3,(3,(.t 35)))]),(some (30,true))⟩,[]),(⟨(some 37),(.call 17 [(.t 31),(.t 36)]),(some (30,true))⟩,[]),(⟨(some 38),(.pick (.t 30) (.t 37) (.c (.bool false))),none⟩,[]),(⟨(some 39),(.bx (.t 38)),none⟩,[]),(⟨(some 40),(.hM (.ints .i64) [(.c (.int .i64 5))]),(some (39,true))⟩,[]),(⟨(some 41),(.call 76 [(.c (.bool true)),(.t 40),(.c (.int .i64 (-2)))]),(some (39,true))⟩,[88888888]),(⟨(some 42),(.call 44 [(.t 41),(.c (.int .i64 1))]),(some (39,true))⟩,[88888888]),(⟨(some 43),(.hM (.ints .i64) [(.c (.int .i64 3))]),(some (39,true))⟩,[])] [⟨(some 44),(.call 76 [(.c (.bool true)),(.t 43),(.c (.int .i64 (-1)))]),(some (39,true))⟩,⟨(some 45),(.call 24 [(.t 42),(.t 44)]),(some (39,true))⟩,⟨(some 46),(.pick (.t 39) (.t 45) (.c (.bool false))),none⟩,⟨(some 47),(.bx (.t 46)),none⟩,⟨(some 48),(.call 46 [(.c (.int .i64 (-7)))]),(some (47,true))⟩,⟨(some 49),(.call 44 [(.t 48),(.c (.int .i64 1))]),(some (47,true))⟩,⟨(some 50),(.call 46 [(.c (.int .i64 (-7)))]),(some (47,true))⟩,⟨(some 51),(.call 24 [(.t 49),(.t 50)]),(some (47,true))⟩,⟨(some 52),(.pick (.t 47) (.t 51) (.c (.bool false))),none⟩,⟨(some 0),(.bx (.t 52)),none⟩]) .ret))))))
def IX:List bl:=[(.tmp 0)]
def IY:au:=by
 refine(?F:(au→au→au)→au) au.cut
 intro c
 refine(?f:(aV Tryz.prog 38).map (fun y=>y.1.c5 c)=some ?x→au) ?h
 ·exact fun _=> ?x
 ·conv=>lhs;cbv
def IZ:List bl:=[(.tmp 2)]
def I0:au:=by
 refine(?f:(aV Tryz.prog 39).map (fun y=>y.1)=some ?x→au) ?h
 ·exact fun _=> ?x
 ·conv=>lhs;cbv
def I1:List bl:=[(.tmp 2)]
def I2:au:=by
 refine(?f:(aV Tryz.prog 40).map (fun y=>y.1)=some ?x→au) ?h
 ·exact fun _=> ?x
 ·conv=>lhs;cbv
def I3:List bl:=[(.cell 4 6 true)]
def I4:au:=by
 refine(?f:(aV Tryz.prog 41).map (fun y=>y.1)=some ?x→au) ?h
 ·exact fun _=> ?x
 ·conv=>lhs;cbv
def I5:List bl:=[(.cell 4 6 true)]
def I6:au:=by
 refine(?f:(aV Tryz.prog 42).map (fun y=>y.1)=some ?x→au) ?h
 ·exact fun _=> ?x
 ·conv=>lhs;cbv
def I7:List bl:=[(.cell 4 6 true)]
def I8:au:=by
 refine(?f:(aV Tryz.prog 43).map (fun y=>y.1)=some ?x→au) ?h
 ·exact fun _=> ?x
 ·conv=>lhs;cbv
def I9:List bl:=[(.cell 4 6 true)]
def Ja:au:=by
 refine(?f:(aV Tryz.prog 44).map (fun y=>y.1)=some ?x→au) ?h
 ·exact fun _=> ?x
 ·conv=>lhs;cbv
def Jb:List bl:=[(.cell 4 3 true)]
def Jc:au:=by
 refine(?f:(aV Tryz.prog 45).map (fun y=>y.1)=some ?x→au) ?h
 ·exact fun _=> ?x
 ·conv=>lhs;cbv
def Jd:List bl:=[(.cell 4 3 true)]
def CC:au:=by
 refine(?f:(aV Tryz.prog 46).map (fun y=>y.1)=some ?x→au) ?h
 ·exact fun _=> ?x
 ·conv=>lhs;cbv
def CD:List bl:=[(.cell 2 3 true)]
def Je:au:=by
 refine(?f:(aV Tryz.prog 47).map (fun y=>y.1)=some ?x→au) ?h
 ·exact fun _=> ?x
 ·conv=>lhs;cbv
def Jf:List bl:=[(.tmp 4)]
def ys:au:=by
 refine(?f:(aV Tryz.prog 48).map (fun y=>y.1)=some ?x→au) ?h
 ·exact fun _=> ?x
 ·conv=>lhs;cbv
def yt:List bl:=[(.cell 2 3 true)]
def UJ:au:=by
 refine(?f:(aV Tryz.prog 49).map (fun y=>y.1)=some ?x→au) ?h
 ·exact fun _=> ?x
 ·conv=>lhs;cbv
def UK:List bl:=[(.tmp 2)]
def yu:au:=by
 refine(?f:(aV Tryz.prog 50).map (fun y=>y.1)=some ?x→au) ?h
 ·exact fun _=> ?x
 ·conv=>lhs;cbv
def yv:List bl:=[(.cell 4 3 true)]
def Jg:au:=by
 refine(?f:(aV Tryz.prog 51).map (fun y=>y.1)=some ?x→au) ?h
 ·exact fun _=> ?x
 ·conv=>lhs;cbv
def Jh:List bl:=[(.cell 4 3 true)]
def oT:au:=by
 refine(?f:(aV Tryz.prog 55).map (fun y=>y.1)=some ?x→au) ?h
 ·exact fun _=> ?x
 ·conv=>lhs;cbv
def oU:List bl:=[(.tmp 2)]
def Ji:au:=by
 refine(?f:(aV Tryz.prog 57).map (fun y=>y.1)=some ?x→au) ?h
 ·exact fun _=> ?x
 ·conv=>lhs;cbv
def Jj:List bl:=[(.tmp 4)]
def yw:au:=by
 refine(?f:(aV Tryz.prog 58).map (fun y=>y.1)=some ?x→au) ?h
 ·exact fun _=> ?x
 ·conv=>lhs;cbv
def yx:List bl:=[(.tmp 2)]
def yy:au:=by
 refine(?f:(aV Tryz.prog 59).map (fun y=>y.1)=some ?x→au) ?h
 ·exact fun _=> ?x
 ·conv=>lhs;cbv
def yz:List bl:=[(.cell 4 6 true)]
def Jk:au:=by
 refine(?f:(aV Tryz.prog 60).map (fun y=>y.1)=some ?x→au) ?h
 ·exact fun _=> ?x
 ·conv=>lhs;cbv
def Jl:List bl:=[(.cell 5 3 true)]
def Jm:au:=by
 refine(?f:(aV Tryz.prog 61).map (fun y=>y.1)=some ?x→au) ?h
 ·exact fun _=> ?x
 ·conv=>lhs;cbv
def Jn:List bl:=[(.cell 6 3 true)]
def yA:au:=by
 refine(?f:(aV Tryz.prog 62).map (fun y=>y.1)=some ?x→au) ?h
 ·exact fun _=> ?x
 ·conv=>lhs;cbv
def yB:List bl:=[(.tmp 2)]
def CF:au:=by
 refine(?f:(aV Tryz.prog 63).map (fun y=>y.1)=some ?x→au) ?h
 ·exact fun _=> ?x
 ·conv=>lhs;cbv
def CG:List bl:=[(.cell 6 3 true)]
def Jo:au:=by
 refine(?f:(aV Tryz.prog 64).map (fun y=>y.1)=some ?x→au) ?h
 ·exact fun _=> ?x
 ·conv=>lhs;cbv
def Jp:List bl:=[(.cell 4 3 true)]
def vK:au:=by
 refine(?F:(au→au→au)→au) au.cut
 intro c
 refine(?f:(aV Tryz.prog 65).map (fun y=>y.1.c5 c)=some ?x→au) ?h
 ·exact fun _=> ?x
 ·conv=>lhs;cbv
def CH:List bl:=[(.tmp 4)]
def Jq:au:=by
 refine(?f:(aV Tryz.prog 66).map (fun y=>y.1)=some ?x→au) ?h
 ·exact fun _=> ?x
 ·conv=>lhs;cbv
def Jr:List bl:=[(.cell 4 3 true)]
def Js:au:=by
 refine(?f:(aV Tryz.prog 67).map (fun y=>y.1)=some ?x→au) ?h
 ·exact fun _=> ?x
 ·conv=>lhs;cbv
def Jt:List bl:=[(.cell 2 3 true)]
def Ju:au:=by
 refine(?f:(aV Tryz.prog 68).map (fun y=>y.1)=some ?x→au) ?h
 ·exact fun _=> ?x
 ·conv=>lhs;cbv
def Jv:List bl:=[(.cell 5 3 true)]
def Jw:au:=by
 refine(?f:(aV Tryz.prog 69).map (fun y=>y.1)=some ?x→au) ?h
 ·exact fun _=> ?x
 ·conv=>lhs;cbv
def Jy:List bl:=[(.cell 4 3 true)]
def Jz:au:=by
 refine(?f:(aV Tryz.prog 70).map (fun y=>y.1)=some ?x→au) ?h
 ·exact fun _=> ?x
 ·conv=>lhs;cbv
def JA:List bl:=[(.tmp 4)]
def JB:au:=by
 refine(?F:(au→au→au)→au) au.cut
 intro c
 refine(?f:(aV Tryz.prog 71).map (fun y=>y.1.c5 c)=some ?x→au) ?h
 ·exact fun _=> ?x
 ·conv=>lhs;cbv
def JC:List bl:=[(.cell 4 3 true)]
def JD:au:=by
 refine(?F:(au→au→au)→au) au.cut
 intro c
 refine(?f:(aV Tryz.prog 72).map (fun y=>y.1.c5 c)=some ?x→au) ?h
 ·exact fun _=> ?x
 ·conv=>lhs;cbv
def JE:List bl:=[(.cell 4 3 true)]
def JF:au:=by
 refine(?f:(aV Tryz.prog 73).map (fun y=>y.1)=some ?x→au) ?h
 ·exact fun _=> ?x
 ·conv=>lhs;cbv
def JG:List bl:=[(.cell 5 3 true)]
def CI:au:=by
 refine(?f:(aV Tryz.prog 74).map (fun y=>y.1)=some ?x→au) ?h
 ·exact fun _=> ?x
 ·conv=>lhs;cbv
def CJ:List bl:=[(.cell 6 3 true)]
def yC:au:=by
 refine(?f:(aV Tryz.prog 75).map (fun y=>y.1)=some ?x→au) ?h
 ·exact fun _=> ?x
 ·conv=>lhs;cbv
def yD:List bl:=[(.cell 6 3 true)]
def CK:au:=by
 refine(?F:(au→au→au)→au) au.cut
 intro c
 refine(?f:(aV Tryz.prog 76).map (fun y=>y.1.c5 c)=some ?x→au) ?h
 ·exact fun _=> ?x
 ·conv=>lhs;cbv
def CL:List bl:=[(.cell 6 3 true)]
def JH:au:=by
 refine(?f:(aV Tryz.prog 77).map (fun y=>y.1)=some ?x→au) ?h
 ·exact fun _=> ?x
 ·conv=>lhs;cbv
def JI:List bl:=[(.tmp 2)]
def Gj:au:=by
 refine(?f:(uS Tryz.prog 78).map (fun y=>y.1)=some ?x→au) ?h
 ·exact fun _=> ?x
 ·conv=>lhs;cbv
def Gk:jA:=by
 refine(?f:(uS Tryz.prog 78).map (fun y=>y.2.1)=some ?x→jA) ?h
 ·exact fun _=> ?x
 ·conv=>lhs;cbv
def xW:jA:=by
 refine(?f:(uS Tryz.prog 78).map (fun y=>y.2.2.1)=some ?x→jA) ?h
 ·exact fun _=> ?x
 ·conv=>lhs;cbv
def yE:List bl:=[(.cell 6 6 true)]
def JJ:au:=by
 refine(?f:(aV Tryz.prog 79).map (fun y=>y.1)=some ?x→au) ?h
 ·exact fun _=> ?x
 ·conv=>lhs;cbv
def JK:List bl:=[(.cell 2 6 true)]
def JL:au:=by
 refine(?F:(au→au→au)→au) au.cut
 intro c
 refine(?f:(aV Tryz.prog 80).map (fun y=>y.1.c5 c)=some ?x→au) ?h
 ·exact fun _=> ?x
 ·conv=>lhs;cbv
def JM:List bl:=[(.cell 2 2 true)]
def JN:au:=by
 refine(?f:(aV Tryz.prog 81).map (fun y=>y.1)=some ?x→au) ?h
 ·exact fun _=> ?x
 ·conv=>lhs;cbv
def JO:List bl:=[(.cell 4 6 true),(.cell 5 6 true)]
def JP:au:=by
 refine(?f:(aV Tryz.prog 82).map (fun y=>y.1)=some ?x→au) ?h
 ·exact fun _=> ?x
 ·conv=>lhs;cbv
def JQ:List bl:=[(.cell 4 6 true),(.tmp 5)]
def JR:au:=by
 refine(?f:(aV Tryz.prog 83).map (fun y=>y.1)=some ?x→au) ?h
 ·exact fun _=> ?x
 ·conv=>lhs;cbv
def JS:List bl:=[(.cell 2 6 true)]
def CM:au:=by
 refine(?F:(au→au→au)→au) au.cut
 intro c
 refine(?f:(aV Tryz.prog 84).map (fun y=>y.1.c5 c)=some ?x→au) ?h
 ·exact fun _=> ?x
 ·conv=>lhs;cbv
def CN:List bl:=[(.tmp 4)]
def JT:au:=by
 refine(?f:(aV Tryz.prog 85).map (fun y=>y.1)=some ?x→au) ?h
 ·exact fun _=> ?x
 ·conv=>lhs;cbv
def JU:List bl:=[(.tmp 4)]
def JV:au:=by
 refine(?F:(au→au→au)→au) au.cut
 intro c
 refine(?f:(aV Tryz.prog 86).map (fun y=>y.1.c5 c)=some ?x→au) ?h
 ·exact fun _=> ?x
 ·conv=>lhs;cbv
def JW:List bl:=[(.tmp 2)]
def CO:au:=by
 refine(?f:(aV Tryz.prog 87).map (fun y=>y.1)=some ?x→au) ?h
 ·exact fun _=> ?x
 ·conv=>lhs;cbv
def CP:List bl:=[(.cell 6 3 true)]
def CQ:au:=by
 refine(?F:(au→au→au)→au) au.cut
 intro c
 refine(?f:(aV Tryz.prog 88).map (fun y=>y.1.c5 c)=some ?x→au) ?h
 ·exact fun _=> ?x
 ·conv=>lhs;cbv
def CR:List bl:=[(.tmp 4)]
def JX:au:=by
 refine(?F:(au→au→au)→au) au.cut
 intro c
 refine(?f:(aV Tryz.prog 89).map (fun y=>y.1.c5 c)=some ?x→au) ?h
 ·exact fun _=> ?x
 ·conv=>lhs;cbv
def JY:List bl:=[(.tmp 4)]
def yF:au:=by
 refine(?F:(au→au→au)→au) au.cut
 intro c
 refine(?f:(aV Tryz.prog 90).map (fun y=>y.1.c5 c)=some ?x→au) ?h
 ·exact fun _=> ?x
 ·conv=>lhs;cbv
def JZ:List bl:=[(.tmp 2)]
def yG:au:=by
 refine(?F:(au→au→au)→au) au.cut
 intro c
 refine(?f:(aV Tryz.prog 91).map (fun y=>y.1.c5 c)=some ?x→au) ?h
 ·exact fun _=> ?x
 ·conv=>lhs;cbv
def yH:List bl:=[(.tmp 4)]
def tL:au:=by
 refine(?F:(au→au→au)→au) au.cut
 intro c
 refine(?f:(aV Tryz.prog 92).map (fun y=>y.1.c5 c)=some ?x→au) ?h
 ·exact fun _=> ?x
 ·conv=>lhs;cbv
def nV:List bl:=[(.tmp 4)]
def vL:au:=by
 refine(?F:(au→au→au)→au) au.cut
 intro c
 refine(?f:(aV Tryz.prog 93).map (fun y=>y.1.c5 c)=some ?x→au) ?h
 ·exact fun _=> ?x
 ·conv=>lhs;cbv
def CS:List bl:=[(.tmp 4),(.tmp 5)]
def yI:au:=by
 refine(?F:(au→au→au)→au) au.cut
 intro c
 refine(?f:(aV Tryz.prog 94).map (fun y=>y.1.c5 c)=some ?x→au) ?h
 ·exact fun _=> ?x
 ·conv=>lhs;cbv
def J0:List bl:=[(.tmp 4)]
def J1:au:=by
 refine(?f:(aV Tryz.prog 95).map (fun y=>y.1)=some ?x→au) ?h
 ·exact fun _=> ?x
 ·conv=>lhs;cbv
def J2:List bl:=[(.tmp 4)]
def J3:au:=by
 refine(?F:(au→au→au)→au) au.cut
 intro c
 refine(?f:(aV Tryz.prog 96).map (fun y=>y.1.c5 c)=some ?x→au) ?h
 ·exact fun _=> ?x
 ·conv=>lhs;cbv
def J4:List bl:=[(.tmp 2)]
def J5:au:=by
 refine(?f:(aV Tryz.prog 98).map (fun y=>y.1)=some ?x→au) ?h
 ·exact fun _=> ?x
 ·conv=>lhs;cbv
def J6:List bl:=[(.tmp 2)]
def CT:au:=by
 refine(?f:(aV Tryz.prog 99).map (fun y=>y.1)=some ?x→au) ?h
 ·exact fun _=> ?x
 ·conv=>lhs;cbv
def CU:List bl:=[(.tmp 2)]
def Gl:au:=by
 refine(?F:(au→au→au)→au) au.cut
 intro c
 refine(?f:(aV Tryz.prog 100).map (fun y=>y.1.c5 c)=some ?x→au) ?h
 ·exact fun _=> ?x
 ·conv=>lhs;cbv
def Gm:List bl:=[(.tmp 4)]
def Gn:au:=by
 refine(?F:(au→au→au)→au) au.cut
 intro c
 refine(?f:(aV Tryz.prog 101).map (fun y=>y.1.c5 c)=some ?x→au) ?h
 ·exact fun _=> ?x
 ·conv=>lhs;cbv
def Gp:List bl:=[(.tmp 2)]
def BA:au:=by
 refine(?F:(au→au→au)→au) au.cut
 intro c
 refine(?f:(aV Tryz.prog 102).map (fun y=>y.1.c5 c)=some ?x→au) ?h
 ·exact fun _=> ?x
 ·conv=>lhs;cbv
def BB:List bl:=[(.tmp 4)]
def Gq:au:=by
 refine(?F:(au→au→au)→au) au.cut
 intro c
 refine(?f:(aV Tryz.prog 103).map (fun y=>y.1.c5 c)=some ?x→au) ?h
 ·exact fun _=> ?x
 ·conv=>lhs;cbv
def Gr:List bl:=[(.tmp 4)]
def BD:au:=by
 refine(?F:(au→au→au)→au) au.cut
 intro c
 refine(?f:(aV Tryz.prog 104).map (fun y=>y.1.c5 c)=some ?x→au) ?h
 ·exact fun _=> ?x
 ·conv=>lhs;cbv
def xX:List bl:=[(.tmp 2)]
def Gs:au:=by
 refine(?F:(au→au→au)→au) au.cut
 intro c
 refine(?f:(aV Tryz.prog 105).map (fun y=>y.1.c5 c)=some ?x→au) ?h
 ·exact fun _=> ?x
 ·conv=>lhs;cbv
def Gt:List bl:=[(.tmp 2)]
def Gu:au:=by
 refine(?f:(aV Tryz.prog 106).map (fun y=>y.1)=some ?x→au) ?h
 ·exact fun _=> ?x
 ·conv=>lhs;cbv
def Gv:List bl:=[(.tmp 4)]
def BE:au:=by
 refine(?f:(aV Tryz.prog 107).map (fun y=>y.1)=some ?x→au) ?h
 ·exact fun _=> ?x
 ·conv=>lhs;cbv
def BF:List bl:=[(.tmp 4),(.tmp 5)]
def Gw:au:=by
 refine(?F:(au→au→au)→au) au.cut
 intro c
 refine(?f:(aV Tryz.prog 108).map (fun y=>y.1.c5 c)=some ?x→au) ?h
 ·exact fun _=> ?x
 ·conv=>lhs;cbv
def aeO:List bl:=[]
def Gx:au:=by
 refine(?f:(aV Tryz.prog 109).map (fun y=>y.1)=some ?x→au) ?h
 ·exact fun _=> ?x
 ·conv=>lhs;cbv
def Gy:List bl:=[(.cell 4 3 true)]
def BG:au:=by
 refine(?f:(aV Tryz.prog 110).map (fun y=>y.1)=some ?x→au) ?h
 ·exact fun _=> ?x
 ·conv=>lhs;cbv
def BH:List bl:=[(.tmp 4)]
def BI:au:=by
 refine(?f:(aV Tryz.prog 111).map (fun y=>y.1)=some ?x→au) ?h
 ·exact fun _=> ?x
 ·conv=>lhs;cbv
def BJ:List bl:=[(.cell 2 2 true)]
def Gz:au:=by
 refine(?f:(aV Tryz.prog 112).map (fun y=>y.1)=some ?x→au) ?h
 ·exact fun _=> ?x
 ·conv=>lhs;cbv
def GA:List bl:=[(.cell 4 6 true),(.tmp 5)]
def GC:au:=by
 refine(?f:(aV Tryz.prog 113).map (fun y=>y.1)=some ?x→au) ?h
 ·exact fun _=> ?x
 ·conv=>lhs;cbv
def GD:List bl:=[(.cell 4 12 true)]
def GF:au:=by
 refine(?f:(aV Tryz.prog 114).map (fun y=>y.1)=some ?x→au) ?h
 ·exact fun _=> ?x
 ·conv=>lhs;cbv
def GG:List bl:=[(.cell 6 6 true),(.cell 7 6 true)]
def GH:au:=by
 refine(?F:(au→au→au)→au) au.cut
 intro c
 refine(?f:(aV Tryz.prog 115).map (fun y=>y.1.c5 c)=some ?x→au) ?h
 ·exact fun _=> ?x
 ·conv=>lhs;cbv
def GI:List bl:=[(.tmp 4)]
def GJ:au:=by
 refine(?f:(aV Tryz.prog 116).map (fun y=>y.1)=some ?x→au) ?h
 ·exact fun _=> ?x
 ·conv=>lhs;cbv
def GK:List bl:=[(.tmp 2)]
def GL:au:=by
 refine(?F:(au→au→au)→au) au.cut
 intro c
 refine(?f:(aV Tryz.prog 117).map (fun y=>y.1.c5 c)=some ?x→au) ?h
 ·exact fun _=> ?x
 ·conv=>lhs;cbv
def GM:List bl:=[(.tmp 2)]
def GN:au:=by
 refine(?f:(aV Tryz.prog 118).map (fun y=>y.1)=some ?x→au) ?h
 ·exact fun _=> ?x
 ·conv=>lhs;cbv
def GO:List bl:=[(.tmp 4)]
def BK:au:=by
 refine(?F:(au→au→au)→au) au.cut
 intro c
 refine(?f:(aV Tryz.prog 119).map (fun y=>y.1.c5 c)=some ?x→au) ?h
 ·exact fun _=> ?x
 ·conv=>lhs;cbv
def BL:List bl:=[(.tmp 8)]
def GP:au:=by
 refine(?f:(aV Tryz.prog 120).map (fun y=>y.1)=some ?x→au) ?h
 ·exact fun _=> ?x
 ·conv=>lhs;cbv
def GQ:List bl:=[(.tmp 5)]
def BM:au:=by
 refine(?F:(au→au→au)→au) au.cut
 intro c
 refine(?f:(aV Tryz.prog 121).map (fun y=>y.1.c5 c)=some ?x→au) ?h
 ·exact fun _=> ?x
 ·conv=>lhs;cbv
def BN:List bl:=[(.tmp 4)]
def GR:au:=by
 refine(?f:(aV Tryz.prog 122).map (fun y=>y.1)=some ?x→au) ?h
 ·exact fun _=> ?x
 ·conv=>lhs;cbv
def GS:List bl:=[(.tmp 2)]
def GU:au:=by
 refine(?f:(aV Tryz.prog 123).map (fun y=>y.1)=some ?x→au) ?h
 ·exact fun _=> ?x
 ·conv=>lhs;cbv
def GV:List bl:=[(.tmp 2)]
def GW:au:=by
 refine(?F:(au→au→au)→au) au.cut
 intro c
 refine(?f:(aV Tryz.prog 124).map (fun y=>y.1.c5 c)=some ?x→au) ?h
 ·exact fun _=> ?x
 ·conv=>lhs;cbv
def GX:List bl:=[(.tmp 2)]
def GY:au:=by
 refine(?f:(aV Tryz.prog 125).map (fun y=>y.1)=some ?x→au) ?h
 ·exact fun _=> ?x
 ·conv=>lhs;cbv
def GZ:List bl:=[(.tmp 4)]
def BO:au:=by
 refine(?f:(aV Tryz.prog 126).map (fun y=>y.1)=some ?x→au) ?h
 ·exact fun _=> ?x
 ·conv=>lhs;cbv
def BP:List bl:=[(.tmp 2)]
def G0:au:=by
 refine(?f:(aV Tryz.prog 128).map (fun y=>y.1)=some ?x→au) ?h
 ·exact fun _=> ?x
 ·conv=>lhs;cbv
def G1:List bl:=[(.tmp 2)]
def G2:au:=by
 refine(?f:(aV Tryz.prog 129).map (fun y=>y.1)=some ?x→au) ?h
 ·exact fun _=> ?x
 ·conv=>lhs;cbv
def G3:List bl:=[]
def BQ:au:=by
 refine(?F:(au→au→au)→au) au.cut
 intro c
 refine(?f:(aV Tryz.prog 130).map (fun y=>y.1.c5 c)=some ?x→au) ?h
 ·exact fun _=> ?x
 ·conv=>lhs;cbv
def BR:List bl:=[(.tmp 4)]
def xY:au:=by
 refine(?f:(aV Tryz.prog 131).map (fun y=>y.1)=some ?x→au) ?h
 ·exact fun _=> ?x
 ·conv=>lhs;cbv
def xZ:List bl:=[(.tmp 4)]
def G4:au:=by
 refine(?f:(aV Tryz.prog 132).map (fun y=>y.1)=some ?x→au) ?h
 ·exact fun _=> ?x
 ·conv=>lhs;cbv
def G5:List bl:=[(.tmp 5)]
def G6:au:=by
 refine(?f:(aV Tryz.prog 133).map (fun y=>y.1)=some ?x→au) ?h
 ·exact fun _=> ?x
 ·conv=>lhs;cbv
def G7:List bl:=[(.cell 2 3 true)]
def G8:au:=by
 refine(?f:(aV Tryz.prog 134).map (fun y=>y.1)=some ?x→au) ?h
 ·exact fun _=> ?x
 ·conv=>lhs;cbv
def G9:List bl:=[(.cell 2 3 true)]
def Ha:jz:=by
 refine(?f:(uQ Tryz.prog 135).map (fun y=>y.1)=some ?x→jz) ?h
 ·exact fun _=> ?x
 ·conv=>lhs;cbv
def Hb:List bl:=[(.cell 4 12 true)]
def Hc:au:=by
 refine(?f:(aV Tryz.prog 136).map (fun y=>y.1)=some ?x→au) ?h
 ·exact fun _=> ?x
 ·conv=>lhs;cbv
def Hd:List bl:=[(.tmp 2),(.tmp 3),(.tmp 4)]
def He:au:=by
 refine(?f:(aV Tryz.prog 137).map (fun y=>y.1)=some ?x→au) ?h
 ·exact fun _=> ?x
 ·conv=>lhs;cbv
def Hf:List bl:=[(.cell 2 3 true)]
def Hg:au:=by
 refine(?F:(au→au→au)→au) au.cut
 intro c
 refine(?f:(aV Tryz.prog 138).map (fun y=>y.1.c5 c)=some ?x→au) ?h
 ·exact fun _=> ?x
 ·conv=>lhs;cbv
def Hh:List bl:=[(.cell 6 6 true),(.cell 7 6 true)]
def Hi:au:=by
 refine(?f:(aV Tryz.prog 139).map (fun y=>y.1)=some ?x→au) ?h
 ·exact fun _=> ?x
 ·conv=>lhs;cbv
def Hj:List bl:=[(.tmp 2),(.tmp 3),(.tmp 4)]
def BS:au:=by
 refine(?f:(aV Tryz.prog 140).map (fun y=>y.1)=some ?x→au) ?h
 ·exact fun _=> ?x
 ·conv=>lhs;cbv
def BT:List bl:=[(.tmp 4)]
def Hk:au:=by
 refine(?F:(au→au→au)→au) au.cut
 intro c
 refine(?f:(aV Tryz.prog 145).map (fun y=>y.1.c5 c)=some ?x→au) ?h
 ·exact fun _=> ?x
 ·conv=>lhs;cbv
def Hl:List bl:=[(.tmp 4)]
def Hm:au:=by
 refine(?f:(aV Tryz.prog 146).map (fun y=>y.1)=some ?x→au) ?h
 ·exact fun _=> ?x
 ·conv=>lhs;cbv
def Hn:List bl:=[(.tmp 2)]
def Ho:au:=by
 refine(?f:(aV Tryz.prog 147).map (fun y=>y.1)=some ?x→au) ?h
 ·exact fun _=> ?x
 ·conv=>lhs;cbv
def Hp:List bl:=[(.tmp 2)]
def Hq:au:=by
 refine(?f:(aV Tryz.prog 148).map (fun y=>y.1)=some ?x→au) ?h
 ·exact fun _=> ?x
 ·conv=>lhs;cbv
def Hr:List bl:=[(.cell 2 2 true)]
def Hs:au:=by
 refine(?f:(aV Tryz.prog 149).map (fun y=>y.1)=some ?x→au) ?h
 ·exact fun _=> ?x
 ·conv=>lhs;cbv
def Ht:List bl:=[(.cell 2 2 true)]
def Hu:au:=by
 refine(?f:(aV Tryz.prog 150).map (fun y=>y.1)=some ?x→au) ?h
 ·exact fun _=> ?x
 ·conv=>lhs;cbv
def Hv:List bl:=[(.cell 4 2 true)]
def Hw:au:=by
 refine(?f:(aV Tryz.prog 151).map (fun y=>y.1)=some ?x→au) ?h
 ·exact fun _=> ?x
 ·conv=>lhs;cbv
def Hx:List bl:=[(.cell 0 6 true)]
def Hy:au:=by
 refine(?f:(aV Tryz.prog 152).map (fun y=>y.1)=some ?x→au) ?h
 ·exact fun _=> ?x
 ·conv=>lhs;cbv
def Hz:List bl:=[(.tmp 2)]
def HA:au:=(.seq (.dc [⟨(some 3),(.box (.t 0)),none⟩,⟨(some 4),(.box (.t 1)),none⟩,⟨(some 6),(.alloc [(.bool false),(.ints .i64 []),(.int .i64 0),(.bool false),(.ints .i64 []),(.int .i64 0),(.bool false),(.ints .i64 []),(.int .i64 0),(.bool false),(.ints .i64 []),(.int .i64 0)]),none⟩]) (.seq (.jh [(⟨(some 7),(.dA 0 (.t 3)),none⟩,[]),(⟨(some 8),(.load 6 true (.t 7)),none⟩,[]),(⟨(some 9),(.dA 0 (.t 4)),none⟩,[]),(⟨(some 10),(.load 6 true (.t 9)),none⟩,[]),(⟨(some 11),(.call 33 [(.t 8),(.t 10)]),none⟩,[88888888]),(⟨(some 12),(.dA 6 (.t 3)),none⟩,[]),(⟨(some 13),(.load 6 true (.t 12)),none⟩,[]),(⟨(some 14),(.dA 6 (.t 4)),none⟩,[]),(⟨(some 15),(.load 6 true (.t 14)),none⟩,[]),(⟨(some 16),(.call 33 [(.t 13),(.t 15)]),none⟩,[88888888]),(⟨(some 17),(.call 27 [(.t 16)]),none⟩,[88888888]),(⟨(some 18),(.call 31 [(.t 11),(.t 17)]),none⟩,[88888888]),(⟨(some 19),(.bx (.t 2)),none⟩,[]),(⟨(some 20),(.call 35 [(.t 18),(.t 19)]),none⟩,[88888888]),(⟨(some 21),(.dA 6 (.t 3)),none⟩,[]),(⟨(some 22),(.load 6 true (.t 21)),none⟩,[]),(⟨(some 23),(.dA 0 (.t 4)),none⟩,[]),(⟨(some 24),(.load 6 true (.t 23)),none⟩,[]),(⟨(some 25),(.call 33 [(.t 22),(.t 24)]),none⟩,[88888888]),(⟨(some 26),(.dA 0 (.t 3)),none⟩,[]),(⟨(some 27),(.load 6 true (.t 26)),none⟩,[]),(⟨(some 28),(.dA 6 (.t 4)),none⟩,[]),(⟨(some 29),(.load 6 true (.t 28)),none⟩,[]),(⟨(some 30),(.call 33 [(.t 27),(.t 29)]),none⟩,[]),(⟨(some 31),(.call 31 [(.t 25),(.t 30)]),none⟩,[]),(⟨(some 32),(.bx (.t 2)),none⟩,[])] [⟨(some 33),(.call 35 [(.t 31),(.t 32)]),none⟩,⟨(some 34),(.build [(.bool false),(.ints .i64 []),(.int .i64 0),(.bool false),(.ints .i64 []),(.int .i64 0),(.bool false),(.ints .i64 []),(.int .i64 0),(.bool false),(.ints .i64 []),(.int .i64 0)] [(0,(6,(.t 20))),(6,(6,(.t 33)))]),none⟩,⟨none,(.store 12 (.t 6) (.t 34)),none⟩]) .ret))
def HB:List bl:=[(.cell 6 12 true)]
def HC:au:=by
 refine(?f:(aV Tryz.prog 154).map (fun y=>y.1)=some ?x→au) ?h
 ·exact fun _=> ?x
 ·conv=>lhs;cbv
def HD:List bl:=[]
def HE:au:=by
 refine(?f:(aV Tryz.prog 155).map (fun y=>y.1)=some ?x→au) ?h
 ·exact fun _=> ?x
 ·conv=>lhs;cbv
def aeP:List bl:=[]
def BU:au:=by
 refine(?f:(aV Tryz.prog 156).map (fun y=>y.1)=some ?x→au) ?h
 ·exact fun _=> ?x
 ·conv=>lhs;cbv
def BV:List bl:=[(.cell 3 6 true)]
end RV.Dr
