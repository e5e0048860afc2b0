/- Lemmas for a claim: an abstract machine for the translated code, proved sound, and contracts of functions. By an AI agent. -/
import Derived.Test.YtmdjhngbigfblaaGreatDoorProg
import Derived.Test.YtmdjhngbigfblaaGreatDoorRc
set_option linter.all false
namespace RV.Dr
open Go RV Go.Proofs
set_option maxRecDepth 100000
def Cx:ay:=(.seq (.cR [⟨(some 6),(.box (.t 0)),none⟩,⟨(some 7),(.box (.t 1)),none⟩,⟨(some 8),(.box (.t 2)),none⟩,⟨(some 9),(.box (.t 3)),none⟩,⟨(some 12),(.bj (.c (.bool false))),none⟩]) (.seq (.cR [⟨(some 19),(.call 10 []),none⟩,⟨(some 13),(.bj (.t 19)),none⟩]) (.seq (.seq (.cR [⟨(some 20),(.dD 0 (.t 6)),none⟩,⟨(some 21),(.dD 1 (.t 20)),none⟩,⟨(some 22),(.load 1 false (.t 21)),none⟩,⟨(some 23),(.len (.t 22)),none⟩,⟨(some 24),(.bin .gtr (.t 23) (.c (.int .i64 70))),none⟩,⟨(some 25),(.bj (.t 24)),none⟩,⟨(some 26),(.dD 3 (.t 6)),(some (25,false))⟩,⟨(some 27),(.dD 1 (.t 26)),(some (25,false))⟩,⟨(some 28),(.load 1 false (.t 27)),(some (25,false))⟩,⟨(some 29),(.len (.t 28)),(some (25,false))⟩,⟨(some 30),(.bin .gtr (.t 29) (.c (.int .i64 70))),(some (25,false))⟩,⟨(some 31),(.pick (.t 25) (.c (.bool true)) (.t 30)),none⟩,⟨(some 32),(.bj (.t 31)),none⟩,⟨(some 33),(.dD 0 (.t 6)),(some (32,false))⟩,⟨(some 34),(.dD 2 (.t 33)),(some (32,false))⟩,⟨(some 35),(.load 1 false (.t 34)),(some (32,false))⟩,⟨(some 36),(.bin .gtr (.t 35) (.c (.int .i64 7000))),(some (32,false))⟩,⟨(some 37),(.pick (.t 32) (.c (.bool true)) (.t 36)),none⟩,⟨(some 38),(.bj (.t 37)),none⟩,⟨(some 39),(.dD 0 (.t 6)),(some (38,false))⟩,⟨(some 40),(.dD 2 (.t 39)),(some (38,false))⟩,⟨(some 41),(.load 1 false (.t 40)),(some (38,false))⟩,⟨(some 42),(.bin .lss (.t 41) (.c (.int .i64 (-7000)))),(some (38,false))⟩,⟨(some 43),(.pick (.t 38) (.c (.bool true)) (.t 42)),none⟩,⟨(some 44),(.bj (.t 43)),none⟩,⟨(some 45),(.dD 3 (.t 6)),(some (44,false))⟩,⟨(some 46),(.dD 2 (.t 45)),(some (44,false))⟩,⟨(some 47),(.load 1 false (.t 46)),(some (44,false))⟩,⟨(some 48),(.bin .gtr (.t 47) (.c (.int .i64 7000))),(some (44,false))⟩,⟨(some 49),(.pick (.t 44) (.c (.bool true)) (.t 48)),none⟩,⟨(some 50),(.bj (.t 49)),none⟩,⟨(some 51),(.dD 3 (.t 6)),(some (50,false))⟩,⟨(some 52),(.dD 2 (.t 51)),(some (50,false))⟩,⟨(some 53),(.load 1 false (.t 52)),(some (50,false))⟩,⟨(some 54),(.bin .lss (.t 53) (.c (.int .i64 (-7000)))),(some (50,false))⟩,⟨(some 55),(.pick (.t 50) (.c (.bool true)) (.t 54)),none⟩]) (.cond (.t 55) (.seq (.cR [⟨(some 56),(.bj (.t 13)),none⟩,⟨(some 12),(.bj (.t 56)),none⟩]) .ret) .skip)) (.seq (.seq (.kd [(⟨(some 57),(.load 6 true (.t 6)),none⟩,[]),(⟨(some 58),(.call 11 [(.t 57)]),none⟩,[88888888]),(⟨(some 59),(.load 6 true (.t 6)),none⟩,[])] [⟨(some 60),(.call 12 [(.t 59)]),none⟩,⟨(some 61),(.qW true (.t 58) (.t 60)),none⟩]) (.cond (.t 61) (.seq (.cR [⟨(some 12),(.bj (.c (.bool false))),none⟩]) .ret) .skip)) (.seq (.seq (.cR [⟨(some 62),(.load 6 true (.t 7)),none⟩,⟨(some 63),(.load 6 true (.t 8)),none⟩,⟨(some 64),(.hU (.recs 6) [(.t 62),(.t 63)]),none⟩,⟨(some 65),(.call 13 [(.t 64)]),none⟩,⟨(some 66),(.un .not (.t 65)),none⟩,⟨(some 67),(.bj (.t 66)),none⟩,⟨(some 68),(.load 3 true (.t 9)),(some (67,false))⟩,⟨(some 69),(.hU (.recs 3) [(.t 68)]),(some (67,false))⟩,⟨(some 70),(.call 14 [(.t 69)]),(some (67,false))⟩,⟨(some 71),(.un .not (.t 70)),(some (67,false))⟩,⟨(some 72),(.pick (.t 67) (.c (.bool true)) (.t 71)),none⟩,⟨(some 73),(.bj (.t 72)),none⟩,⟨(some 74),(.bj (.t 5)),(some (73,false))⟩,⟨(some 75),(.bin .lss (.t 74) (.c (.int .i64 (-500)))),(some (73,false))⟩,⟨(some 76),(.pick (.t 73) (.c (.bool true)) (.t 75)),none⟩,⟨(some 77),(.bj (.t 76)),none⟩,⟨(some 78),(.bj (.t 5)),(some (77,false))⟩,⟨(some 79),(.bin .gtr (.t 78) (.c (.int .i64 500))),(some (77,false))⟩,⟨(some 80),(.pick (.t 77) (.c (.bool true)) (.t 79)),none⟩]) (.cond (.t 80) (.seq (.cR [⟨(some 81),(.bj (.t 13)),none⟩,⟨(some 12),(.bj (.t 81)),none⟩]) .ret) .skip)) (.seq (.cR [⟨(some 82),(.bj (.t 4)),none⟩,⟨(some 83),(.conv .i64 (.t 82)),none⟩,⟨(some 84),(.bin .rem (.t 83) (.c (.int .i64 60))),none⟩,⟨(some 85),(.bin .add (.t 84) (.c (.int .i64 1))),none⟩,⟨(some 14),(.bj (.t 85)),none⟩]) (.seq (.cR [⟨(some 87),(.load 6 true (.t 7)),none⟩,⟨(some 88),(.bj (.t 14)),none⟩,⟨(some 89),(.call 15 [(.t 87),(.t 88)]),none⟩,⟨(some 86),(.bj (.t 89)),none⟩,⟨(some 90),(.sr 0 (.t 86)),none⟩,⟨(some 91),(.sr 1 (.t 86)),none⟩,⟨(some 15),(.alloc [(.bool false),(.ints .i64 []),(.int .i64 0),(.bool false),(.ints .i64 []),(.int .i64 0)]),none⟩,⟨none,(.store 6 (.t 15) (.t 90)),none⟩,⟨(some 16),(.bj (.t 91)),none⟩]) (.seq (.cR [⟨(some 93),(.load 6 true (.t 7)),none⟩,⟨(some 94),(.bj (.t 14)),none⟩,⟨(some 95),(.call 16 [(.t 93),(.t 94)]),none⟩,⟨(some 92),(.bj (.t 95)),none⟩,⟨(some 96),(.sr 0 (.t 92)),none⟩,⟨(some 97),(.sr 1 (.t 92)),none⟩,⟨(some 17),(.alloc [(.bool false),(.ints .i64 []),(.int .i64 0),(.bool false),(.ints .i64 []),(.int .i64 0)]),none⟩,⟨none,(.store 6 (.t 17) (.t 96)),none⟩,⟨(some 18),(.bj (.t 97)),none⟩]) (.seq (.kd [(⟨(some 98),(.bj (.t 13)),none⟩,[]),(⟨(some 99),(.bj (.t 98)),none⟩,[]),(⟨(some 100),(.load 3 true (.t 9)),(some (99,true))⟩,[]),(⟨(some 101),(.call 18 [(.t 100)]),(some (99,true))⟩,[88888888]),(⟨(some 102),(.load 3 true (.t 9)),(some (99,true))⟩,[]),(⟨(some 103),(.call 19 [(.t 102)]),(some (99,true))⟩,[]),(⟨(some 104),(.call 17 [(.t 101),(.t 103)]),(some (99,true))⟩,[]),(⟨(some 105),(.pick (.t 99) (.t 104) (.c (.bool false))),none⟩,[]),(⟨(some 106),(.bj (.t 105)),none⟩,[]),(⟨(some 107),(.load 6 true (.t 7)),(some (106,true))⟩,[]),(⟨(some 108),(.load 3 true (.t 9)),(some (106,true))⟩,[]),(⟨(some 109),(.call 20 [(.t 107),(.t 108)]),(some (106,true))⟩,[88888888]),(⟨(some 110),(.load 6 true (.t 7)),(some (106,true))⟩,[]),(⟨(some 111),(.load 3 true (.t 9)),(some (106,true))⟩,[]),(⟨(some 112),(.call 21 [(.t 110),(.t 111)]),(some (106,true))⟩,[]),(⟨(some 113),(.qW false (.t 109) (.t 112)),(some (106,true))⟩,[]),(⟨(some 114),(.pick (.t 106) (.t 113) (.c (.bool false))),none⟩,[]),(⟨(some 115),(.bj (.t 114)),none⟩,[]),(⟨(some 116),(.load 6 true (.t 7)),(some (115,true))⟩,[]),(⟨(some 117),(.load 6 true (.t 8)),(some (115,true))⟩,[]),(⟨(some 118),(.call 22 [(.t 116),(.t 117)]),(some (115,true))⟩,[88888888]),(⟨(some 119),(.load 6 true (.t 7)),(some (115,true))⟩,[]),(⟨(some 120),(.load 6 true (.t 8)),(some (115,true))⟩,[]),(⟨(some 121),(.call 23 [(.t 119),(.t 120)]),(some (115,true))⟩,[]),(⟨(some 122),(.qW false (.t 118) (.t 121)),(some (115,true))⟩,[]),(⟨(some 123),(.pick (.t 115) (.t 122) (.c (.bool false))),none⟩,[]),(⟨(some 124),(.bj (.t 123)),none⟩,[]),(⟨(some 125),(.load 6 true (.t 7)),(some (124,true))⟩,[]),(⟨(some 126),(.call 25 [(.t 125)]),(some (124,true))⟩,[88888888]),(⟨(some 127),(.load 6 true (.t 7)),(some (124,true))⟩,[]),(⟨(some 128),(.call 26 [(.t 127)]),(some (124,true))⟩,[]),(⟨(some 129),(.call 24 [(.t 126),(.t 128)]),(some (124,true))⟩,[]),(⟨(some 130),(.pick (.t 124) (.t 129) (.c (.bool false))),none⟩,[]),(⟨(some 131),(.bj (.t 130)),none⟩,[]),(⟨(some 132),(.load 6 true (.t 7)),(some (131,true))⟩,[]),(⟨(some 133),(.call 27 [(.t 132)]),(some (131,true))⟩,[88888888]),(⟨(some 134),(.load 6 true (.t 7)),(some (131,true))⟩,[]),(⟨(some 135),(.call 28 [(.t 134)]),(some (131,true))⟩,[]),(⟨(some 136),(.call 17 [(.t 133),(.t 135)]),(some (131,true))⟩,[]),(⟨(some 137),(.pick (.t 131) (.t 136) (.c (.bool false))),none⟩,[]),(⟨(some 138),(.bj (.t 137)),none⟩,[]),(⟨(some 139),(.load 6 true (.t 7)),(some (138,true))⟩,[]),(⟨(some 140),(.bj (.t 5)),(some (138,true))⟩,[]),(⟨(some 141),(.call 29 [(.t 139),(.t 140)]),(some (138,true))⟩,[88888888]),(⟨(some 142),(.load 6 true (.t 7)),(some (138,true))⟩,[]),(⟨(some 143),(.bj (.t 5)),(some (138,true))⟩,[]),(⟨(some 144),(.call 30 [(.t 142),(.t 143)]),(some (138,true))⟩,[]),(⟨(some 145),(.call 17 [(.t 141),(.t 144)]),(some (138,true))⟩,[]),(⟨(some 146),(.pick (.t 138) (.t 145) (.c (.bool false))),none⟩,[]),(⟨(some 147),(.bj (.t 146)),none⟩,[]),(⟨(some 148),(.load 6 true (.t 7)),(some (147,true))⟩,[]),(⟨(some 149),(.load 6 true (.t 8)),(some (147,true))⟩,[]),(⟨(some 150),(.call 31 [(.t 148),(.t 149)]),(some (147,true))⟩,[88888888]),(⟨(some 151),(.load 6 true (.t 7)),(some (147,true))⟩,[]),(⟨(some 152),(.load 6 true (.t 8)),(some (147,true))⟩,[]),(⟨(some 153),(.call 32 [(.t 151),(.t 152)]),(some (147,true))⟩,[]),(⟨(some 154),(.call 17 [(.t 150),(.t 153)]),(some (147,true))⟩,[]),(⟨(some 155),(.pick (.t 147) (.t 154) (.c (.bool false))),none⟩,[]),(⟨(some 156),(.bj (.t 155)),none⟩,[]),(⟨(some 157),(.load 6 true (.t 7)),(some (156,true))⟩,[]),(⟨(some 158),(.load 6 true (.t 8)),(some (156,true))⟩,[]),(⟨(some 159),(.call 33 [(.t 157),(.t 158)]),(some (156,true))⟩,[88888888]),(⟨(some 160),(.load 6 true (.t 7)),(some (156,true))⟩,[]),(⟨(some 161),(.load 6 true (.t 8)),(some (156,true))⟩,[]),(⟨(some 162),(.call 34 [(.t 160),(.t 161)]),(some (156,true))⟩,[]),(⟨(some 163),(.call 17 [(.t 159),(.t 162)]),(some (156,true))⟩,[]),(⟨(some 164),(.pick (.t 156) (.t 163) (.c (.bool false))),none⟩,[]),(⟨(some 165),(.bj (.t 164)),none⟩,[]),(⟨(some 166),(.load 6 true (.t 7)),(some (165,true))⟩,[]),(⟨(some 167),(.bj (.t 14)),(some (165,true))⟩,[]),(⟨(some 168),(.call 35 [(.t 166),(.t 167)]),(some (165,true))⟩,[88888888]),(⟨(some 169),(.load 6 true (.t 7)),(some (165,true))⟩,[]),(⟨(some 170),(.bj (.t 14)),(some (165,true))⟩,[]),(⟨(some 171),(.call 36 [(.t 169),(.t 170)]),(some (165,true))⟩,[]),(⟨(some 172),(.call 17 [(.t 168),(.t 171)]),(some (165,true))⟩,[]),(⟨(some 173),(.pick (.t 165) (.t 172) (.c (.bool false))),none⟩,[]),(⟨(some 174),(.bj (.t 173)),none⟩,[]),(⟨(some 175),(.load 6 true (.t 15)),(some (174,true))⟩,[]),(⟨(some 176),(.load 6 true (.t 17)),(some (174,true))⟩,[]),(⟨(some 177),(.call 17 [(.t 175),(.t 176)]),(some (174,true))⟩,[]),(⟨(some 178),(.pick (.t 174) (.t 177) (.c (.bool false))),none⟩,[]),(⟨(some 179),(.bj (.t 178)),none⟩,[]),(⟨(some 180),(.bj (.t 16)),(some (179,true))⟩,[]),(⟨(some 181),(.bj (.t 18)),(some (179,true))⟩,[])] [⟨(some 182),(.qW false (.t 180) (.t 181)),(some (179,true))⟩,⟨(some 183),(.pick (.t 179) (.t 182) (.c (.bool false))),none⟩,⟨(some 12),(.bj (.t 183)),none⟩]) .ret)))))))))
def gS:List bx:=[(.tmp 12)]
def uE:ay:=(.seq (.cR [⟨(some 3),(.box (.t 0)),none⟩,⟨(some 5),(.box (.t 2)),none⟩,⟨(some 6),(.bj (.c (.bool false))),none⟩]) (.seq (.cR [⟨(some 9),(.call 37 []),none⟩,⟨(some 7),(.bj (.t 9)),none⟩]) (.seq (.seq (.cR [⟨(some 10),(.load 2 true (.t 3)),none⟩,⟨(some 11),(.hU (.recs 2) [(.t 10)]),none⟩,⟨(some 12),(.call 38 [(.t 11)]),none⟩,⟨(some 13),(.un .not (.t 12)),none⟩,⟨(some 14),(.bj (.t 13)),none⟩,⟨(some 15),(.load 3 true (.t 5)),(some (14,false))⟩,⟨(some 16),(.hU (.recs 3) [(.t 15)]),(some (14,false))⟩,⟨(some 17),(.call 14 [(.t 16)]),(some (14,false))⟩,⟨(some 18),(.un .not (.t 17)),(some (14,false))⟩,⟨(some 19),(.pick (.t 14) (.c (.bool true)) (.t 18)),none⟩]) (.cond (.t 19) (.seq (.cR [⟨(some 20),(.bj (.t 7)),none⟩,⟨(some 6),(.bj (.t 20)),none⟩]) .ret) .skip)) (.seq (.cR [⟨(some 21),(.bj (.t 1)),none⟩,⟨(some 22),(.call 39 [(.t 21)]),none⟩,⟨(some 8),(.bj (.t 22)),none⟩]) (.seq (.kd [(⟨(some 23),(.bj (.t 7)),none⟩,[]),(⟨(some 24),(.bj (.t 23)),none⟩,[]),(⟨(some 25),(.load 2 true (.t 3)),(some (24,true))⟩,[]),(⟨(some 26),(.bj (.t 8)),(some (24,true))⟩,[]),(⟨(some 27),(.call 40 [(.t 25),(.t 26)]),(some (24,true))⟩,[88888888]),(⟨(some 28),(.load 2 true (.t 3)),(some (24,true))⟩,[]),(⟨(some 29),(.bj (.t 8)),(some (24,true))⟩,[]),(⟨(some 30),(.call 41 [(.t 28),(.t 29)]),(some (24,true))⟩,[]),(⟨(some 31),(.call 17 [(.t 27),(.t 30)]),(some (24,true))⟩,[]),(⟨(some 32),(.pick (.t 24) (.t 31) (.c (.bool false))),none⟩,[]),(⟨(some 33),(.bj (.t 32)),none⟩,[]),(⟨(some 34),(.load 2 true (.t 3)),(some (33,true))⟩,[]),(⟨(some 35),(.bj (.t 8)),(some (33,true))⟩,[]),(⟨(some 36),(.call 42 [(.t 34),(.t 35)]),(some (33,true))⟩,[88888888]),(⟨(some 37),(.load 2 true (.t 3)),(some (33,true))⟩,[]),(⟨(some 38),(.bj (.t 8)),(some (33,true))⟩,[]),(⟨(some 39),(.call 43 [(.t 37),(.t 38)]),(some (33,true))⟩,[]),(⟨(some 40),(.call 17 [(.t 36),(.t 39)]),(some (33,true))⟩,[]),(⟨(some 41),(.pick (.t 33) (.t 40) (.c (.bool false))),none⟩,[]),(⟨(some 42),(.bj (.t 41)),none⟩,[]),(⟨(some 43),(.load 3 true (.t 5)),(some (42,true))⟩,[]),(⟨(some 44),(.bj (.t 8)),(some (42,true))⟩,[]),(⟨(some 45),(.call 44 [(.t 43),(.t 44)]),(some (42,true))⟩,[88888888]),(⟨(some 46),(.load 3 true (.t 5)),(some (42,true))⟩,[]),(⟨(some 47),(.bj (.t 8)),(some (42,true))⟩,[])] [⟨(some 48),(.call 45 [(.t 46),(.t 47)]),(some (42,true))⟩,⟨(some 49),(.call 24 [(.t 45),(.t 48)]),(some (42,true))⟩,⟨(some 50),(.pick (.t 42) (.t 49) (.c (.bool false))),none⟩,⟨(some 6),(.bj (.t 50)),none⟩]) .ret)))))
def F3:List bx:=[(.tmp 6)]
def F4:ay:=(.seq (.cR [⟨(some 2),(.box (.t 0)),none⟩,⟨(some 4),(.bj (.c (.bool false))),none⟩]) (.seq (.cR [⟨(some 11),(.call 37 []),none⟩,⟨(some 5),(.bj (.t 11)),none⟩]) (.seq (.seq (.cR [⟨(some 12),(.load 2 true (.t 2)),none⟩,⟨(some 13),(.hU (.recs 2) [(.t 12)]),none⟩,⟨(some 14),(.call 38 [(.t 13)]),none⟩,⟨(some 15),(.un .not (.t 14)),none⟩]) (.cond (.t 15) (.seq (.cR [⟨(some 16),(.bj (.t 5)),none⟩,⟨(some 4),(.bj (.t 16)),none⟩]) .ret) .skip)) (.seq (.cR [⟨(some 17),(.bj (.t 1)),none⟩,⟨(some 18),(.call 39 [(.t 17)]),none⟩,⟨(some 6),(.bj (.t 18)),none⟩]) (.seq (.cR [⟨(some 19),(.load 2 true (.t 2)),none⟩,⟨(some 20),(.bj (.t 6)),none⟩,⟨(some 21),(.call 40 [(.t 19),(.t 20)]),none⟩,⟨(some 7),(.alloc [(.bool false),(.ints .i64 []),(.int .i64 0),(.bool false),(.ints .i64 []),(.int .i64 0)]),none⟩,⟨none,(.store 6 (.t 7) (.t 21)),none⟩]) (.seq (.cR [⟨(some 22),(.load 2 true (.t 2)),none⟩,⟨(some 23),(.bj (.t 6)),none⟩,⟨(some 24),(.call 42 [(.t 22),(.t 23)]),none⟩,⟨(some 8),(.alloc [(.bool false),(.ints .i64 []),(.int .i64 0),(.bool false),(.ints .i64 []),(.int .i64 0)]),none⟩,⟨none,(.store 6 (.t 8) (.t 24)),none⟩]) (.seq (.seq (.cR [⟨(some 25),(.load 6 true (.t 7)),none⟩,⟨(some 26),(.call 12 [(.t 25)]),none⟩,⟨(some 27),(.un .not (.t 26)),none⟩,⟨(some 28),(.bj (.t 27)),none⟩,⟨(some 29),(.load 6 true (.t 8)),(some (28,false))⟩,⟨(some 30),(.call 12 [(.t 29)]),(some (28,false))⟩,⟨(some 31),(.un .not (.t 30)),(some (28,false))⟩,⟨(some 32),(.pick (.t 28) (.c (.bool true)) (.t 31)),none⟩,⟨(some 33),(.bj (.t 32)),none⟩,⟨(some 34),(.dD 0 (.t 7)),(some (33,false))⟩,⟨(some 35),(.dD 1 (.t 34)),(some (33,false))⟩,⟨(some 36),(.load 1 false (.t 35)),(some (33,false))⟩,⟨(some 37),(.len (.t 36)),(some (33,false))⟩,⟨(some 38),(.bin .gtr (.t 37) (.c (.int .i64 0))),(some (33,false))⟩,⟨(some 39),(.bj (.t 38)),(some (33,false))⟩,⟨(some 40),(.dD 0 (.t 7)),(some (39,true))⟩,⟨(some 41),(.dD 2 (.t 40)),(some (39,true))⟩,⟨(some 42),(.load 1 false (.t 41)),(some (39,true))⟩,⟨(some 43),(.bj (.t 6)),(some (39,true))⟩,⟨(some 44),(.un .neg (.t 43)),(some (39,true))⟩,⟨(some 45),(.bin .lss (.t 42) (.t 44)),(some (39,true))⟩,⟨(some 46),(.pick (.t 39) (.t 45) (.c (.bool false))),(some (33,false))⟩,⟨(some 47),(.pick (.t 33) (.c (.bool true)) (.t 46)),none⟩,⟨(some 48),(.bj (.t 47)),none⟩,⟨(some 49),(.dD 3 (.t 8)),(some (48,false))⟩,⟨(some 50),(.dD 1 (.t 49)),(some (48,false))⟩,⟨(some 51),(.load 1 false (.t 50)),(some (48,false))⟩,⟨(some 52),(.len (.t 51)),(some (48,false))⟩,⟨(some 53),(.bin .gtr (.t 52) (.c (.int .i64 0))),(some (48,false))⟩,⟨(some 54),(.bj (.t 53)),(some (48,false))⟩,⟨(some 55),(.dD 3 (.t 8)),(some (54,true))⟩,⟨(some 56),(.dD 2 (.t 55)),(some (54,true))⟩,⟨(some 57),(.load 1 false (.t 56)),(some (54,true))⟩,⟨(some 58),(.bj (.t 6)),(some (54,true))⟩,⟨(some 59),(.un .neg (.t 58)),(some (54,true))⟩,⟨(some 60),(.bin .lss (.t 57) (.t 59)),(some (54,true))⟩,⟨(some 61),(.pick (.t 54) (.t 60) (.c (.bool false))),(some (48,false))⟩,⟨(some 62),(.pick (.t 48) (.c (.bool true)) (.t 61)),none⟩]) (.cond (.t 62) (.seq (.cR [⟨(some 4),(.bj (.c (.bool false))),none⟩]) .ret) .skip)) (.seq (.cR [⟨(some 63),(.call 46 [(.c (.int .i64 1))]),none⟩,⟨(some 9),(.alloc [(.bool false),(.ints .i64 []),(.int .i64 0)]),none⟩,⟨none,(.store 3 (.t 9) (.t 63)),none⟩]) (.seq (.seq (.kd [(⟨(some 64),(.dD 0 (.t 7)),none⟩,[]),(⟨(some 65),(.load 3 true (.t 64)),none⟩,[]),(⟨(some 66),(.load 3 true (.t 9)),none⟩,[]),(⟨(some 67),(.call 48 [(.t 66)]),none⟩,[88888888]),(⟨(some 68),(.call 47 [(.t 65),(.t 67)]),none⟩,[]),(⟨(some 69),(.bin .lss (.t 68) (.c (.int .i64 0))),none⟩,[]),(⟨(some 70),(.bj (.t 69)),none⟩,[]),(⟨(some 71),(.dD 3 (.t 7)),(some (70,false))⟩,[]),(⟨(some 72),(.load 3 true (.t 71)),(some (70,false))⟩,[]),(⟨(some 73),(.load 3 true (.t 9)),(some (70,false))⟩,[]),(⟨(some 74),(.call 47 [(.t 72),(.t 73)]),(some (70,false))⟩,[]),(⟨(some 75),(.bin .gtr (.t 74) (.c (.int .i64 0))),(some (70,false))⟩,[]),(⟨(some 76),(.pick (.t 70) (.c (.bool true)) (.t 75)),none⟩,[]),(⟨(some 77),(.bj (.t 76)),none⟩,[]),(⟨(some 78),(.dD 0 (.t 8)),(some (77,false))⟩,[]),(⟨(some 79),(.load 3 true (.t 78)),(some (77,false))⟩,[]),(⟨(some 80),(.load 3 true (.t 9)),(some (77,false))⟩,[]),(⟨(some 81),(.call 48 [(.t 80)]),(some (77,false))⟩,[88888888]),(⟨(some 82),(.call 47 [(.t 79),(.t 81)]),(some (77,false))⟩,[]),(⟨(some 83),(.bin .lss (.t 82) (.c (.int .i64 0))),(some (77,false))⟩,[]),(⟨(some 84),(.pick (.t 77) (.c (.bool true)) (.t 83)),none⟩,[]),(⟨(some 85),(.bj (.t 84)),none⟩,[]),(⟨(some 86),(.dD 3 (.t 8)),(some (85,false))⟩,[]),(⟨(some 87),(.load 3 true (.t 86)),(some (85,false))⟩,[]),(⟨(some 88),(.load 3 true (.t 9)),(some (85,false))⟩,[])] [⟨(some 89),(.call 47 [(.t 87),(.t 88)]),(some (85,false))⟩,⟨(some 90),(.bin .gtr (.t 89) (.c (.int .i64 0))),(some (85,false))⟩,⟨(some 91),(.pick (.t 85) (.c (.bool true)) (.t 90)),none⟩]) (.cond (.t 91) (.seq (.cR [⟨(some 4),(.bj (.c (.bool false))),none⟩]) .ret) .skip)) (.seq (.seq (.cR [⟨(some 92),(.load 2 true (.t 2)),none⟩,⟨(some 93),(.call 49 [(.t 92)]),none⟩]) (.cond (.t 93) (.seq (.kd [(⟨(some 94),(.bj (.t 5)),none⟩,[]),(⟨(some 95),(.bj (.t 94)),none⟩,[]),(⟨(some 96),(.dD 0 (.t 7)),(some (95,true))⟩,[]),(⟨(some 97),(.load 3 true (.t 96)),(some (95,true))⟩,[]),(⟨(some 98),(.dD 3 (.t 7)),(some (95,true))⟩,[]),(⟨(some 99),(.load 3 true (.t 98)),(some (95,true))⟩,[]),(⟨(some 100),(.call 24 [(.t 97),(.t 99)]),(some (95,true))⟩,[]),(⟨(some 101),(.pick (.t 95) (.t 100) (.c (.bool false))),none⟩,[]),(⟨(some 102),(.bj (.t 101)),none⟩,[]),(⟨(some 103),(.dD 0 (.t 8)),(some (102,true))⟩,[]),(⟨(some 104),(.load 3 true (.t 103)),(some (102,true))⟩,[]),(⟨(some 105),(.dD 3 (.t 8)),(some (102,true))⟩,[]),(⟨(some 106),(.load 3 true (.t 105)),(some (102,true))⟩,[]),(⟨(some 107),(.call 24 [(.t 104),(.t 106)]),(some (102,true))⟩,[]),(⟨(some 108),(.pick (.t 102) (.t 107) (.c (.bool false))),none⟩,[]),(⟨(some 109),(.bj (.t 108)),none⟩,[]),(⟨(some 110),(.dD 0 (.t 7)),(some (109,true))⟩,[]),(⟨(some 111),(.load 3 true (.t 110)),(some (109,true))⟩,[]),(⟨(some 112),(.dD 0 (.t 7)),(some (109,true))⟩,[]),(⟨(some 113),(.load 3 true (.t 112)),(some (109,true))⟩,[]),(⟨(some 114),(.call 51 [(.t 111),(.t 113)]),(some (109,true))⟩,[88888888]),(⟨(some 115),(.dD 0 (.t 8)),(some (109,true))⟩,[]),(⟨(some 116),(.load 3 true (.t 115)),(some (109,true))⟩,[]),(⟨(some 117),(.dD 0 (.t 8)),(some (109,true))⟩,[]),(⟨(some 118),(.load 3 true (.t 117)),(some (109,true))⟩,[]),(⟨(some 119),(.call 51 [(.t 116),(.t 118)]),(some (109,true))⟩,[88888888]),(⟨(some 120),(.call 50 [(.t 114),(.t 119)]),(some (109,true))⟩,[88888888]),(⟨(some 121),(.load 3 true (.t 9)),(some (109,true))⟩,[])] [⟨(some 122),(.call 24 [(.t 120),(.t 121)]),(some (109,true))⟩,⟨(some 123),(.pick (.t 109) (.t 122) (.c (.bool false))),none⟩,⟨(some 4),(.bj (.t 123)),none⟩]) .ret) .skip)) (.seq (.cR [⟨(some 124),(.hU (.ints .i64) [(.c (.int .i64 1))]),none⟩,⟨(some 125),(.bj (.t 6)),none⟩,⟨(some 126),(.un .neg (.t 125)),none⟩,⟨(some 127),(.build [(.bool false),(.ints .i64 []),(.int .i64 0)] [(1,(1,(.t 124))),(2,(1,(.t 126)))]),none⟩,⟨(some 10),(.alloc [(.bool false),(.ints .i64 []),(.int .i64 0)]),none⟩,⟨none,(.store 3 (.t 10) (.t 127)),none⟩]) (.seq (.kd [(⟨(some 128),(.bj (.t 5)),none⟩,[]),(⟨(some 129),(.bj (.t 128)),none⟩,[]),(⟨(some 130),(.load 6 true (.t 7)),(some (129,true))⟩,[]),(⟨(some 131),(.call 26 [(.t 130)]),(some (129,true))⟩,[88888888]),(⟨(some 132),(.load 3 true (.t 10)),(some (129,true))⟩,[]),(⟨(some 133),(.call 24 [(.t 131),(.t 132)]),(some (129,true))⟩,[]),(⟨(some 134),(.pick (.t 129) (.t 133) (.c (.bool false))),none⟩,[]),(⟨(some 135),(.bj (.t 134)),none⟩,[]),(⟨(some 136),(.load 6 true (.t 8)),(some (135,true))⟩,[]),(⟨(some 137),(.call 26 [(.t 136)]),(some (135,true))⟩,[88888888]),(⟨(some 138),(.load 3 true (.t 10)),(some (135,true))⟩,[])] [⟨(some 139),(.call 24 [(.t 137),(.t 138)]),(some (135,true))⟩,⟨(some 140),(.pick (.t 135) (.t 139) (.c (.bool false))),none⟩,⟨(some 4),(.bj (.t 140)),none⟩]) .ret))))))))))))
def F5:List bx:=[(.tmp 4)]
def Ww:ay:=by
 refine(?f:(a0 Tryz.prog 6).map (fun y=>y.1)=some ?x→ay) ?h
 ·exact fun _=> ?x
 ·conv=>lhs;cbv
def F6:List bx:=[(.tmp 4)]
def Wx:ay:=(.seq (.cR [⟨(some 2),(.box (.t 0)),none⟩,⟨(some 4),(.bj (.c (.bool false))),none⟩]) (.seq (.cR [⟨(some 12),(.call 37 []),none⟩,⟨(some 5),(.bj (.t 12)),none⟩]) (.seq (.seq (.cR [⟨(some 13),(.load 2 true (.t 2)),none⟩,⟨(some 14),(.hU (.recs 2) [(.t 13)]),none⟩,⟨(some 15),(.call 38 [(.t 14)]),none⟩,⟨(some 16),(.un .not (.t 15)),none⟩]) (.cond (.t 16) (.seq (.cR [⟨(some 17),(.bj (.t 5)),none⟩,⟨(some 4),(.bj (.t 17)),none⟩]) .ret) .skip)) (.seq (.cR [⟨(some 18),(.bj (.t 1)),none⟩,⟨(some 19),(.call 39 [(.t 18)]),none⟩,⟨(some 6),(.bj (.t 19)),none⟩]) (.seq (.cR [⟨(some 20),(.load 2 true (.t 2)),none⟩,⟨(some 21),(.bj (.t 6)),none⟩,⟨(some 22),(.call 40 [(.t 20),(.t 21)]),none⟩,⟨(some 7),(.alloc [(.bool false),(.ints .i64 []),(.int .i64 0),(.bool false),(.ints .i64 []),(.int .i64 0)]),none⟩,⟨none,(.store 6 (.t 7) (.t 22)),none⟩]) (.seq (.cR [⟨(some 23),(.load 2 true (.t 2)),none⟩,⟨(some 24),(.bj (.t 6)),none⟩,⟨(some 25),(.call 42 [(.t 23),(.t 24)]),none⟩,⟨(some 8),(.alloc [(.bool false),(.ints .i64 []),(.int .i64 0),(.bool false),(.ints .i64 []),(.int .i64 0)]),none⟩,⟨none,(.store 6 (.t 8) (.t 25)),none⟩]) (.seq (.cR [⟨(some 26),(.load 2 true (.t 2)),none⟩,⟨(some 27),(.call 52 [(.t 26)]),none⟩,⟨(some 9),(.alloc [(.int .i64 0),(.int .i64 0)]),none⟩,⟨none,(.store 2 (.t 9) (.t 27)),none⟩]) (.seq (.cR [⟨(some 28),(.load 2 true (.t 2)),none⟩,⟨(some 29),(.build [(.int .i64 0),(.int .i64 0)] [(0,(1,(.c (.int .i64 1)))),(1,(1,(.c (.int .i64 1))))]),none⟩,⟨(some 30),(.call 53 [(.t 28),(.t 29)]),none⟩,⟨(some 10),(.alloc [(.int .i64 0),(.int .i64 0)]),none⟩,⟨none,(.store 2 (.t 10) (.t 30)),none⟩]) (.seq (.cR [⟨(some 31),(.load 2 true (.t 2)),none⟩,⟨(some 32),(.build [(.int .i64 0),(.int .i64 0)] [(0,(1,(.c (.int .i64 1)))),(1,(1,(.c (.int .i64 2))))]),none⟩,⟨(some 33),(.call 53 [(.t 31),(.t 32)]),none⟩,⟨(some 11),(.alloc [(.int .i64 0),(.int .i64 0)]),none⟩,⟨none,(.store 2 (.t 11) (.t 33)),none⟩]) (.seq (.kd [(⟨(some 34),(.bj (.t 5)),none⟩,[]),(⟨(some 35),(.bj (.t 34)),none⟩,[]),(⟨(some 36),(.load 2 true (.t 9)),(some (35,true))⟩,[]),(⟨(some 37),(.bj (.t 6)),(some (35,true))⟩,[]),(⟨(some 38),(.call 40 [(.t 36),(.t 37)]),(some (35,true))⟩,[88888888]),(⟨(some 39),(.load 6 true (.t 7)),(some (35,true))⟩,[]),(⟨(some 40),(.call 17 [(.t 38),(.t 39)]),(some (35,true))⟩,[]),(⟨(some 41),(.pick (.t 35) (.t 40) (.c (.bool false))),none⟩,[]),(⟨(some 42),(.bj (.t 41)),none⟩,[]),(⟨(some 43),(.load 2 true (.t 9)),(some (42,true))⟩,[]),(⟨(some 44),(.bj (.t 6)),(some (42,true))⟩,[]),(⟨(some 45),(.call 42 [(.t 43),(.t 44)]),(some (42,true))⟩,[88888888]),(⟨(some 46),(.load 6 true (.t 8)),(some (42,true))⟩,[]),(⟨(some 47),(.call 28 [(.t 46)]),(some (42,true))⟩,[]),(⟨(some 48),(.call 17 [(.t 45),(.t 47)]),(some (42,true))⟩,[]),(⟨(some 49),(.pick (.t 42) (.t 48) (.c (.bool false))),none⟩,[]),(⟨(some 50),(.bj (.t 49)),none⟩,[]),(⟨(some 51),(.load 2 true (.t 10)),(some (50,true))⟩,[]),(⟨(some 52),(.bj (.t 6)),(some (50,true))⟩,[]),(⟨(some 53),(.call 40 [(.t 51),(.t 52)]),(some (50,true))⟩,[88888888]),(⟨(some 54),(.load 6 true (.t 7)),(some (50,true))⟩,[]),(⟨(some 55),(.call 28 [(.t 54)]),(some (50,true))⟩,[]),(⟨(some 56),(.call 17 [(.t 53),(.t 55)]),(some (50,true))⟩,[]),(⟨(some 57),(.pick (.t 50) (.t 56) (.c (.bool false))),none⟩,[]),(⟨(some 58),(.bj (.t 57)),none⟩,[]),(⟨(some 59),(.load 2 true (.t 10)),(some (58,true))⟩,[]),(⟨(some 60),(.bj (.t 6)),(some (58,true))⟩,[]),(⟨(some 61),(.call 42 [(.t 59),(.t 60)]),(some (58,true))⟩,[88888888]),(⟨(some 62),(.load 6 true (.t 8)),(some (58,true))⟩,[]),(⟨(some 63),(.call 28 [(.t 62)]),(some (58,true))⟩,[]),(⟨(some 64),(.call 17 [(.t 61),(.t 63)]),(some (58,true))⟩,[]),(⟨(some 65),(.pick (.t 58) (.t 64) (.c (.bool false))),none⟩,[]),(⟨(some 66),(.bj (.t 65)),none⟩,[]),(⟨(some 67),(.load 2 true (.t 11)),(some (66,true))⟩,[]),(⟨(some 68),(.bj (.t 6)),(some (66,true))⟩,[]),(⟨(some 69),(.call 40 [(.t 67),(.t 68)]),(some (66,true))⟩,[88888888]),(⟨(some 70),(.load 6 true (.t 8)),(some (66,true))⟩,[]),(⟨(some 71),(.call 28 [(.t 70)]),(some (66,true))⟩,[]),(⟨(some 72),(.call 17 [(.t 69),(.t 71)]),(some (66,true))⟩,[]),(⟨(some 73),(.pick (.t 66) (.t 72) (.c (.bool false))),none⟩,[]),(⟨(some 74),(.bj (.t 73)),none⟩,[]),(⟨(some 75),(.load 2 true (.t 11)),(some (74,true))⟩,[]),(⟨(some 76),(.bj (.t 6)),(some (74,true))⟩,[]),(⟨(some 77),(.call 42 [(.t 75),(.t 76)]),(some (74,true))⟩,[88888888]),(⟨(some 78),(.load 6 true (.t 7)),(some (74,true))⟩,[])] [⟨(some 79),(.call 17 [(.t 77),(.t 78)]),(some (74,true))⟩,⟨(some 80),(.pick (.t 74) (.t 79) (.c (.bool false))),none⟩,⟨(some 4),(.bj (.t 80)),none⟩]) .ret))))))))))
def yD:List bx:=[(.tmp 4)]
def Wy:ay:=(.seq (.cR [⟨(some 3),(.box (.t 0)),none⟩,⟨(some 4),(.box (.t 1)),none⟩,⟨(some 6),(.bj (.c (.bool false))),none⟩]) (.seq (.cR [⟨(some 16),(.call 37 []),none⟩,⟨(some 7),(.bj (.t 16)),none⟩]) (.seq (.seq (.cR [⟨(some 17),(.load 2 true (.t 3)),none⟩,⟨(some 18),(.load 2 true (.t 4)),none⟩,⟨(some 19),(.hU (.recs 2) [(.t 17),(.t 18)]),none⟩,⟨(some 20),(.call 38 [(.t 19)]),none⟩,⟨(some 21),(.un .not (.t 20)),none⟩]) (.cond (.t 21) (.seq (.cR [⟨(some 22),(.bj (.t 7)),none⟩,⟨(some 6),(.bj (.t 22)),none⟩]) .ret) .skip)) (.seq (.cR [⟨(some 23),(.bj (.t 2)),none⟩,⟨(some 24),(.call 39 [(.t 23)]),none⟩,⟨(some 8),(.bj (.t 24)),none⟩]) (.seq (.cR [⟨(some 25),(.load 2 true (.t 3)),none⟩,⟨(some 26),(.bj (.t 8)),none⟩,⟨(some 27),(.call 40 [(.t 25),(.t 26)]),none⟩,⟨(some 9),(.alloc [(.bool false),(.ints .i64 []),(.int .i64 0),(.bool false),(.ints .i64 []),(.int .i64 0)]),none⟩,⟨none,(.store 6 (.t 9) (.t 27)),none⟩]) (.seq (.cR [⟨(some 28),(.load 2 true (.t 3)),none⟩,⟨(some 29),(.bj (.t 8)),none⟩,⟨(some 30),(.call 42 [(.t 28),(.t 29)]),none⟩,⟨(some 10),(.alloc [(.bool false),(.ints .i64 []),(.int .i64 0),(.bool false),(.ints .i64 []),(.int .i64 0)]),none⟩,⟨none,(.store 6 (.t 10) (.t 30)),none⟩]) (.seq (.cR [⟨(some 31),(.load 2 true (.t 4)),none⟩,⟨(some 32),(.bj (.t 8)),none⟩,⟨(some 33),(.call 40 [(.t 31),(.t 32)]),none⟩,⟨(some 11),(.alloc [(.bool false),(.ints .i64 []),(.int .i64 0),(.bool false),(.ints .i64 []),(.int .i64 0)]),none⟩,⟨none,(.store 6 (.t 11) (.t 33)),none⟩]) (.seq (.cR [⟨(some 34),(.load 2 true (.t 4)),none⟩,⟨(some 35),(.bj (.t 8)),none⟩,⟨(some 36),(.call 42 [(.t 34),(.t 35)]),none⟩,⟨(some 12),(.alloc [(.bool false),(.ints .i64 []),(.int .i64 0),(.bool false),(.ints .i64 []),(.int .i64 0)]),none⟩,⟨none,(.store 6 (.t 12) (.t 36)),none⟩]) (.seq (.cR [⟨(some 37),(.load 6 true (.t 9)),none⟩,⟨(some 38),(.load 6 true (.t 10)),none⟩,⟨(some 39),(.load 6 true (.t 11)),none⟩,⟨(some 40),(.load 6 true (.t 12)),none⟩,⟨(some 41),(.hU (.recs 6) [(.t 37),(.t 38),(.t 39),(.t 40)]),none⟩,⟨(some 13),(.bj (.t 41)),none⟩]) (.cut (.seq (.cR [⟨(some 14),(.bj (.c (.int .i64 0))),none⟩]) (.block 0 (.loop (.seq (.seq (.cR [⟨(some 42),(.bj (.t 14)),none⟩,⟨(some 43),(.bj (.t 13)),none⟩,⟨(some 44),(.len (.t 43)),none⟩,⟨(some 45),(.bin .lss (.t 42) (.t 44)),none⟩]) (.cond (.t 45) .skip (.exit 0))) (.seq (.block 1 (.seq (.cR [⟨(some 48),(.bj (.t 13)),none⟩,⟨(some 49),(.bj (.t 14)),none⟩,⟨(some 50),(.u4 6 (.t 48) (.t 49)),none⟩,⟨(some 51),(.load 6 true (.t 50)),none⟩,⟨(some 52),(.call 12 [(.t 51)]),none⟩,⟨(some 53),(.un .not (.t 52)),none⟩,⟨(some 54),(.bj (.t 53)),none⟩,⟨(some 55),(.bj (.t 13)),(some (54,false))⟩,⟨(some 56),(.bj (.t 14)),(some (54,false))⟩,⟨(some 57),(.u4 6 (.t 55) (.t 56)),(some (54,false))⟩,⟨(some 58),(.dD 0 (.t 57)),(some (54,false))⟩,⟨(some 59),(.dD 1 (.t 58)),(some (54,false))⟩,⟨(some 60),(.load 1 false (.t 59)),(some (54,false))⟩,⟨(some 61),(.len (.t 60)),(some (54,false))⟩,⟨(some 62),(.bin .gtr (.t 61) (.c (.int .i64 9))),(some (54,false))⟩,⟨(some 63),(.pick (.t 54) (.c (.bool true)) (.t 62)),none⟩,⟨(some 64),(.bj (.t 63)),none⟩,⟨(some 65),(.bj (.t 13)),(some (64,false))⟩,⟨(some 66),(.bj (.t 14)),(some (64,false))⟩,⟨(some 67),(.u4 6 (.t 65) (.t 66)),(some (64,false))⟩,⟨(some 68),(.dD 3 (.t 67)),(some (64,false))⟩,⟨(some 69),(.dD 1 (.t 68)),(some (64,false))⟩,⟨(some 70),(.load 1 false (.t 69)),(some (64,false))⟩,⟨(some 71),(.len (.t 70)),(some (64,false))⟩,⟨(some 72),(.bin .gtr (.t 71) (.c (.int .i64 9))),(some (64,false))⟩,⟨(some 73),(.pick (.t 64) (.c (.bool true)) (.t 72)),none⟩]) (.cond (.t 73) (.seq (.cR [⟨(some 6),(.bj (.c (.bool false))),none⟩]) .ret) .skip))) (.cR [⟨(some 46),(.bj (.t 14)),none⟩,⟨(some 47),(.bin .add (.t 46) (.c (.int .i64 1))),none⟩,⟨(some 14),(.bj (.t 47)),none⟩])))))) (.seq (.cR [⟨(some 74),(.load 2 true (.t 3)),none⟩,⟨(some 75),(.load 2 true (.t 4)),none⟩,⟨(some 76),(.call 53 [(.t 74),(.t 75)]),none⟩,⟨(some 15),(.alloc [(.int .i64 0),(.int .i64 0)]),none⟩,⟨none,(.store 2 (.t 15) (.t 76)),none⟩]) (.seq (.kd [(⟨(some 77),(.bj (.t 7)),none⟩,[]),(⟨(some 78),(.bj (.t 77)),none⟩,[]),(⟨(some 79),(.load 2 true (.t 15)),(some (78,true))⟩,[]),(⟨(some 80),(.bj (.t 8)),(some (78,true))⟩,[]),(⟨(some 81),(.call 40 [(.t 79),(.t 80)]),(some (78,true))⟩,[88888888]),(⟨(some 82),(.load 6 true (.t 9)),(some (78,true))⟩,[]),(⟨(some 83),(.load 6 true (.t 11)),(some (78,true))⟩,[]),(⟨(some 84),(.call 34 [(.t 82),(.t 83)]),(some (78,true))⟩,[88888888]),(⟨(some 85),(.load 6 true (.t 10)),(some (78,true))⟩,[]),(⟨(some 86),(.load 6 true (.t 12)),(some (78,true))⟩,[]),(⟨(some 87),(.call 34 [(.t 85),(.t 86)]),(some (78,true))⟩,[]),(⟨(some 88),(.call 28 [(.t 87)]),(some (78,true))⟩,[]),(⟨(some 89),(.call 32 [(.t 84),(.t 88)]),(some (78,true))⟩,[]),(⟨(some 90),(.call 54 [(.t 81),(.t 89)]),(some (78,true))⟩,[]),(⟨(some 91),(.pick (.t 78) (.t 90) (.c (.bool false))),none⟩,[]),(⟨(some 92),(.bj (.t 91)),none⟩,[]),(⟨(some 93),(.load 2 true (.t 15)),(some (92,true))⟩,[]),(⟨(some 94),(.bj (.t 8)),(some (92,true))⟩,[]),(⟨(some 95),(.call 42 [(.t 93),(.t 94)]),(some (92,true))⟩,[88888888]),(⟨(some 96),(.load 6 true (.t 10)),(some (92,true))⟩,[]),(⟨(some 97),(.load 6 true (.t 11)),(some (92,true))⟩,[]),(⟨(some 98),(.call 34 [(.t 96),(.t 97)]),(some (92,true))⟩,[88888888]),(⟨(some 99),(.load 6 true (.t 9)),(some (92,true))⟩,[]),(⟨(some 100),(.load 6 true (.t 12)),(some (92,true))⟩,[])] [⟨(some 101),(.call 34 [(.t 99),(.t 100)]),(some (92,true))⟩,⟨(some 102),(.call 32 [(.t 98),(.t 101)]),(some (92,true))⟩,⟨(some 103),(.call 54 [(.t 95),(.t 102)]),(some (92,true))⟩,⟨(some 104),(.pick (.t 92) (.t 103) (.c (.bool false))),none⟩,⟨(some 6),(.bj (.t 104)),none⟩]) .ret))))))))))))
def Cy:List bx:=[(.tmp 6)]
def Wz:ay:=(.seq (.cR [⟨(some 4),(.box (.t 0)),none⟩,⟨(some 7),(.box (.t 3)),none⟩,⟨(some 8),(.bj (.c (.bool false))),none⟩]) (.seq (.cR [⟨(some 14),(.call 37 []),none⟩,⟨(some 9),(.bj (.t 14)),none⟩]) (.seq (.seq (.cR [⟨(some 15),(.load 2 true (.t 4)),none⟩,⟨(some 16),(.hU (.recs 2) [(.t 15)]),none⟩,⟨(some 17),(.call 38 [(.t 16)]),none⟩,⟨(some 18),(.un .not (.t 17)),none⟩,⟨(some 19),(.bj (.t 18)),none⟩,⟨(some 20),(.load 3 true (.t 7)),(some (19,false))⟩,⟨(some 21),(.hU (.recs 3) [(.t 20)]),(some (19,false))⟩,⟨(some 22),(.call 14 [(.t 21)]),(some (19,false))⟩,⟨(some 23),(.un .not (.t 22)),(some (19,false))⟩,⟨(some 24),(.pick (.t 19) (.c (.bool true)) (.t 23)),none⟩]) (.cond (.t 24) (.seq (.cR [⟨(some 25),(.bj (.t 9)),none⟩,⟨(some 8),(.bj (.t 25)),none⟩]) .ret) .skip)) (.seq (.cR [⟨(some 26),(.bj (.t 1)),none⟩,⟨(some 27),(.call 39 [(.t 26)]),none⟩,⟨(some 10),(.bj (.t 27)),none⟩]) (.seq (.cR [⟨(some 28),(.bj (.t 10)),none⟩,⟨(some 29),(.bj (.t 2)),none⟩,⟨(some 30),(.conv .i64 (.t 29)),none⟩,⟨(some 31),(.bin .rem (.t 30) (.c (.int .i64 20))),none⟩,⟨(some 32),(.bin .add (.t 28) (.t 31)),none⟩,⟨(some 11),(.bj (.t 32)),none⟩]) (.seq (.cR [⟨(some 33),(.load 3 true (.t 7)),none⟩,⟨(some 34),(.bj (.t 10)),none⟩,⟨(some 35),(.call 44 [(.t 33),(.t 34)]),none⟩,⟨(some 12),(.alloc [(.bool false),(.ints .i64 []),(.int .i64 0)]),none⟩,⟨none,(.store 3 (.t 12) (.t 35)),none⟩]) (.seq (.cR [⟨(some 36),(.hU (.ints .i64) [(.c (.int .i64 1))]),none⟩,⟨(some 37),(.bj (.t 10)),none⟩,⟨(some 38),(.un .neg (.t 37)),none⟩,⟨(some 39),(.build [(.bool false),(.ints .i64 []),(.int .i64 0)] [(1,(1,(.t 36))),(2,(1,(.t 38)))]),none⟩,⟨(some 13),(.alloc [(.bool false),(.ints .i64 []),(.int .i64 0)]),none⟩,⟨none,(.store 3 (.t 13) (.t 39)),none⟩]) (.seq (.kd [(⟨(some 40),(.bj (.t 9)),none⟩,[]),(⟨(some 41),(.bj (.t 40)),none⟩,[]),(⟨(some 42),(.load 2 true (.t 4)),(some (41,true))⟩,[]),(⟨(some 43),(.bj (.t 11)),(some (41,true))⟩,[]),(⟨(some 44),(.call 40 [(.t 42),(.t 43)]),(some (41,true))⟩,[88888888]),(⟨(some 45),(.load 2 true (.t 4)),(some (41,true))⟩,[]),(⟨(some 46),(.bj (.t 10)),(some (41,true))⟩,[]),(⟨(some 47),(.call 40 [(.t 45),(.t 46)]),(some (41,true))⟩,[]),(⟨(some 48),(.call 23 [(.t 44),(.t 47)]),(some (41,true))⟩,[]),(⟨(some 49),(.pick (.t 41) (.t 48) (.c (.bool false))),none⟩,[]),(⟨(some 50),(.bj (.t 49)),none⟩,[]),(⟨(some 51),(.load 2 true (.t 4)),(some (50,true))⟩,[]),(⟨(some 52),(.bj (.t 11)),(some (50,true))⟩,[]),(⟨(some 53),(.call 42 [(.t 51),(.t 52)]),(some (50,true))⟩,[88888888]),(⟨(some 54),(.load 2 true (.t 4)),(some (50,true))⟩,[]),(⟨(some 55),(.bj (.t 10)),(some (50,true))⟩,[]),(⟨(some 56),(.call 42 [(.t 54),(.t 55)]),(some (50,true))⟩,[]),(⟨(some 57),(.call 23 [(.t 53),(.t 56)]),(some (50,true))⟩,[]),(⟨(some 58),(.pick (.t 50) (.t 57) (.c (.bool false))),none⟩,[]),(⟨(some 59),(.bj (.t 58)),none⟩,[]),(⟨(some 60),(.load 3 true (.t 12)),(some (59,true))⟩,[]),(⟨(some 61),(.call 55 [(.t 60)]),(some (59,true))⟩,[]),(⟨(some 62),(.pick (.t 59) (.t 61) (.c (.bool false))),none⟩,[]),(⟨(some 63),(.bj (.t 62)),none⟩,[]),(⟨(some 64),(.dD 1 (.t 12)),(some (63,true))⟩,[]),(⟨(some 65),(.load 1 false (.t 64)),(some (63,true))⟩,[]),(⟨(some 66),(.len (.t 65)),(some (63,true))⟩,[]),(⟨(some 67),(.bin .eql (.t 66) (.c (.int .i64 0))),(some (63,true))⟩,[]),(⟨(some 68),(.bj (.t 67)),(some (63,true))⟩,[]),(⟨(some 69),(.dD 2 (.t 12)),(some (68,false))⟩,[]),(⟨(some 70),(.load 1 false (.t 69)),(some (68,false))⟩,[]),(⟨(some 71),(.bj (.t 10)),(some (68,false))⟩,[]),(⟨(some 72),(.un .neg (.t 71)),(some (68,false))⟩,[]),(⟨(some 73),(.bin .geq (.t 70) (.t 72)),(some (68,false))⟩,[]),(⟨(some 74),(.pick (.t 68) (.c (.bool true)) (.t 73)),(some (63,true))⟩,[]),(⟨(some 75),(.pick (.t 63) (.t 74) (.c (.bool false))),none⟩,[]),(⟨(some 76),(.bj (.t 75)),none⟩,[]),(⟨(some 77),(.load 3 true (.t 12)),(some (76,true))⟩,[]),(⟨(some 78),(.load 3 true (.t 7)),(some (76,true))⟩,[]),(⟨(some 79),(.call 47 [(.t 77),(.t 78)]),(some (76,true))⟩,[]),(⟨(some 80),(.bin .leq (.t 79) (.c (.int .i64 0))),(some (76,true))⟩,[]),(⟨(some 81),(.pick (.t 76) (.t 80) (.c (.bool false))),none⟩,[]),(⟨(some 82),(.bj (.t 81)),none⟩,[]),(⟨(some 83),(.load 3 true (.t 7)),(some (82,true))⟩,[]),(⟨(some 84),(.load 3 true (.t 12)),(some (82,true))⟩,[]),(⟨(some 85),(.load 3 true (.t 13)),(some (82,true))⟩,[]),(⟨(some 86),(.call 50 [(.t 84),(.t 85)]),(some (82,true))⟩,[88888888])] [⟨(some 87),(.call 47 [(.t 83),(.t 86)]),(some (82,true))⟩,⟨(some 88),(.bin .lss (.t 87) (.c (.int .i64 0))),(some (82,true))⟩,⟨(some 89),(.pick (.t 82) (.t 88) (.c (.bool false))),none⟩,⟨(some 8),(.bj (.t 89)),none⟩]) .ret))))))))
def WA:List bx:=[(.tmp 8)]
def Iy:ay:=by
 refine(?f:(a0 Tryz.prog 12).map (fun y=>y.1)=some ?x→ay) ?h
 ·exact fun _=> ?x
 ·conv=>lhs;cbv
def Iz:List bx:=[(.tmp 2)]
def Tt:ay:=by
 refine(?F:(ay→ay→ay)→ay) ay.cut
 intro c
 refine(?f:(a0 Tryz.prog 14).map (fun y=>y.1.dE c)=some ?x→ay) ?h
 ·exact fun _=> ?x
 ·conv=>lhs;cbv
def Tv:List bx:=[(.tmp 2)]
def MZ:ay:=by
 refine(?f:(a0 Tryz.prog 15).map (fun y=>y.1)=some ?x→ay) ?h
 ·exact fun _=> ?x
 ·conv=>lhs;cbv
def M1:List bx:=[(.cell 4 6 true),(.tmp 5)]
def M3:ay:=by
 refine(?f:(a0 Tryz.prog 16).map (fun y=>y.1)=some ?x→ay) ?h
 ·exact fun _=> ?x
 ·conv=>lhs;cbv
def M4:List bx:=[(.cell 4 6 true),(.tmp 5)]
def M5:ay:=by
 refine(?f:(a0 Tryz.prog 17).map (fun y=>y.1)=some ?x→ay) ?h
 ·exact fun _=> ?x
 ·conv=>lhs;cbv
def M6:List bx:=[(.tmp 4)]
def Tw:ay:=by
 refine(?f:(a0 Tryz.prog 18).map (fun y=>y.1)=some ?x→ay) ?h
 ·exact fun _=> ?x
 ·conv=>lhs;cbv
def Tx:List bx:=[(.cell 2 6 true)]
def Ty:ay:=by
 refine(?f:(a0 Tryz.prog 19).map (fun y=>y.1)=some ?x→ay) ?h
 ·exact fun _=> ?x
 ·conv=>lhs;cbv
def Tz:List bx:=[(.cell 2 6 true)]
def M7:ay:=by
 refine(?f:(a0 Tryz.prog 21).map (fun y=>y.1)=some ?x→ay) ?h
 ·exact fun _=> ?x
 ·conv=>lhs;cbv
def M8:List bx:=[(.tmp 4)]
def M9:ay:=by
 refine(?f:(a0 Tryz.prog 23).map (fun y=>y.1)=some ?x→ay) ?h
 ·exact fun _=> ?x
 ·conv=>lhs;cbv
def Na:List bx:=[(.tmp 4)]
def EX:ay:=by
 refine(?f:(a0 Tryz.prog 24).map (fun y=>y.1)=some ?x→ay) ?h
 ·exact fun _=> ?x
 ·conv=>lhs;cbv
def IA:List bx:=[(.tmp 4)]
def TA:ay:=by
 refine(?f:(a0 Tryz.prog 25).map (fun y=>y.1)=some ?x→ay) ?h
 ·exact fun _=> ?x
 ·conv=>lhs;cbv
def TB:List bx:=[(.cell 2 3 true)]
def TC:ay:=by
 refine(?f:(a0 Tryz.prog 26).map (fun y=>y.1)=some ?x→ay) ?h
 ·exact fun _=> ?x
 ·conv=>lhs;cbv
def TD:List bx:=[(.cell 2 3 true)]
def TE:ay:=by
 refine(?f:(a0 Tryz.prog 27).map (fun y=>y.1)=some ?x→ay) ?h
 ·exact fun _=> ?x
 ·conv=>lhs;cbv
def TF:List bx:=[(.cell 2 6 true)]
def TG:ay:=by
 refine(?f:(a0 Tryz.prog 28).map (fun y=>y.1)=some ?x→ay) ?h
 ·exact fun _=> ?x
 ·conv=>lhs;cbv
def TH:List bx:=[(.cell 2 6 true)]
def TI:ay:=by
 refine(?f:(a0 Tryz.prog 29).map (fun y=>y.1)=some ?x→ay) ?h
 ·exact fun _=> ?x
 ·conv=>lhs;cbv
def TJ:List bx:=[(.cell 4 6 true)]
def TK:ay:=by
 refine(?f:(a0 Tryz.prog 30).map (fun y=>y.1)=some ?x→ay) ?h
 ·exact fun _=> ?x
 ·conv=>lhs;cbv
def TL:List bx:=[(.cell 4 6 true)]
def TM:ay:=by
 refine(?f:(a0 Tryz.prog 31).map (fun y=>y.1)=some ?x→ay) ?h
 ·exact fun _=> ?x
 ·conv=>lhs;cbv
def TN:List bx:=[(.cell 4 6 true)]
def TO:ay:=by
 refine(?f:(a0 Tryz.prog 32).map (fun y=>y.1)=some ?x→ay) ?h
 ·exact fun _=> ?x
 ·conv=>lhs;cbv
def TP:List bx:=[(.cell 4 6 true)]
def TQ:oO:=by
 refine(?f:(CY Tryz.prog 33).map (fun y=>y.1)=some ?x→oO) ?h
 ·exact fun _=> ?x
 ·conv=>lhs;cbv
def TR:List bx:=[(.cell 4 6 true)]
def TS:ay:=by
 refine(?F:(ay→ay→ay)→ay) ay.cut
 intro c
 refine(?f:(a0 Tryz.prog 34).map (fun y=>y.1.dE c)=some ?x→ay) ?h
 ·exact fun _=> ?x
 ·conv=>lhs;cbv
def TT:List bx:=[(.cell 4 6 true)]
def TU:ay:=by
 refine(?f:(a0 Tryz.prog 35).map (fun y=>y.1)=some ?x→ay) ?h
 ·exact fun _=> ?x
 ·conv=>lhs;cbv
def TV:List bx:=[(.cell 4 6 true)]
def TW:ay:=by
 refine(?f:(a0 Tryz.prog 36).map (fun y=>y.1)=some ?x→ay) ?h
 ·exact fun _=> ?x
 ·conv=>lhs;cbv
def TX:List bx:=[(.cell 4 6 true)]
def TY:ay:=(.seq (.cR [⟨(some 0),(.bj (.c (.bool false))),none⟩]) (.seq (.cR [⟨(some 5),(.build [(.int .i64 0),(.int .i64 0)] [(0,(1,(.c (.int .i64 1)))),(1,(1,(.c (.int .i64 3))))]),none⟩,⟨(some 6),(.call 40 [(.t 5),(.c (.int .i64 1))]),none⟩,⟨(some 1),(.alloc [(.bool false),(.ints .i64 []),(.int .i64 0),(.bool false),(.ints .i64 []),(.int .i64 0)]),none⟩,⟨none,(.store 6 (.t 1) (.t 6)),none⟩]) (.seq (.cR [⟨(some 7),(.build [(.int .i64 0),(.int .i64 0)] [(0,(1,(.c (.int .i64 3)))),(1,(1,(.c (.int .i64 2))))]),none⟩,⟨(some 8),(.call 42 [(.t 7),(.c (.int .i64 9))]),none⟩,⟨(some 2),(.alloc [(.bool false),(.ints .i64 []),(.int .i64 0),(.bool false),(.ints .i64 []),(.int .i64 0)]),none⟩,⟨none,(.store 6 (.t 2) (.t 8)),none⟩]) (.seq (.cR [⟨(some 9),(.build [(.int .i64 0),(.int .i64 0)] [(0,(1,(.c (.int .i64 1)))),(1,(1,(.c (.int .i64 2))))]),none⟩,⟨(some 10),(.call 40 [(.t 9),(.c (.int .i64 5))]),none⟩,⟨(some 3),(.alloc [(.bool false),(.ints .i64 []),(.int .i64 0),(.bool false),(.ints .i64 []),(.int .i64 0)]),none⟩,⟨none,(.store 6 (.t 3) (.t 10)),none⟩]) (.seq (.cR [⟨(some 11),(.build [(.int .i64 0),(.int .i64 0)] [(0,(1,(.c (.int .i64 1)))),(1,(1,(.c (.int .i64 4))))]),none⟩,⟨(some 12),(.call 40 [(.t 11),(.c (.int .i64 8))]),none⟩,⟨(some 4),(.alloc [(.bool false),(.ints .i64 []),(.int .i64 0),(.bool false),(.ints .i64 []),(.int .i64 0)]),none⟩,⟨none,(.store 6 (.t 4) (.t 12)),none⟩]) (.seq (.kd [(⟨(some 13),(.load 6 true (.t 1)),none⟩,[]),(⟨(some 14),(.hU (.ints .i64) [(.c (.int .i64 1))]),none⟩,[]),(⟨(some 15),(.build [(.bool false),(.ints .i64 []),(.int .i64 0)] [(1,(1,(.t 14))),(2,(1,(.c (.int .i64 (-1)))))]),none⟩,[]),(⟨(some 16),(.call 46 [(.c (.int .i64 1))]),none⟩,[88888888]),(⟨(some 17),(.build [(.bool false),(.ints .i64 []),(.int .i64 0),(.bool false),(.ints .i64 []),(.int .i64 0)] [(0,(3,(.t 15))),(3,(3,(.t 16)))]),none⟩,[]),(⟨(some 18),(.call 17 [(.t 13),(.t 17)]),none⟩,[]),(⟨(some 19),(.bj (.t 18)),none⟩,[]),(⟨(some 20),(.load 6 true (.t 2)),(some (19,true))⟩,[]),(⟨(some 21),(.call 46 [(.c (.int .i64 (-1)))]),(some (19,true))⟩,[88888888]),(⟨(some 22),(.call 19 [(.t 21)]),(some (19,true))⟩,[88888888]),(⟨(some 23),(.call 17 [(.t 20),(.t 22)]),(some (19,true))⟩,[]),(⟨(some 24),(.pick (.t 19) (.t 23) (.c (.bool false))),none⟩,[]),(⟨(some 25),(.bj (.t 24)),none⟩,[]),(⟨(some 26),(.load 6 true (.t 3)),(some (25,true))⟩,[]),(⟨(some 27),(.build [(.bool false),(.ints .i64 []),(.int .i64 0),(.bool false),(.ints .i64 []),(.int .i64 0)] []),(some (25,true))⟩,[]),(⟨(some 28),(.call 17 [(.t 26),(.t 27)]),(some (25,true))⟩,[]),(⟨(some 29),(.pick (.t 25) (.t 28) (.c (.bool false))),none⟩,[]),(⟨(some 30),(.bj (.t 29)),none⟩,[]),(⟨(some 31),(.load 6 true (.t 4)),(some (30,true))⟩,[]),(⟨(some 32),(.hU (.ints .i64) [(.c (.int .i64 236))]),(some (30,true))⟩,[]),(⟨(some 33),(.call 76 [(.c (.bool false)),(.t 32),(.c (.int .i64 (-8)))]),(some (30,true))⟩,[88888888]),(⟨(some 34),(.hU (.ints .i64) [(.c (.int .i64 237))]),(some (30,true))⟩,[]),(⟨(some 35),(.call 76 [(.c (.bool false)),(.t 34),(.c (.int .i64 (-8)))]),(some (30,true))⟩,[88888888]),(⟨(some 36),(.build [(.bool false),(.ints .i64 []),(.int .i64 0),(.bool false),(.ints .i64 []),(.int .i64 0)] [(0,(3,(.t 33))),(3,(3,(.t 35)))]),(some (30,true))⟩,[]),(⟨(some 37),(.call 17 [(.t 31),(.t 36)]),(some (30,true))⟩,[]),(⟨(some 38),(.pick (.t 30) (.t 37) (.c (.bool false))),none⟩,[]),(⟨(some 39),(.bj (.t 38)),none⟩,[]),(⟨(some 40),(.hU (.ints .i64) [(.c (.int .i64 5))]),(some (39,true))⟩,[]),(⟨(some 41),(.call 76 [(.c (.bool true)),(.t 40),(.c (.int .i64 (-2)))]),(some (39,true))⟩,[88888888]),(⟨(some 42),(.call 44 [(.t 41),(.c (.int .i64 1))]),(some (39,true))⟩,[88888888]),(⟨(some 43),(.hU (.ints .i64) [(.c (.int .i64 3))]),(some (39,true))⟩,[])] [⟨(some 44),(.call 76 [(.c (.bool true)),(.t 43),(.c (.int .i64 (-1)))]),(some (39,true))⟩,⟨(some 45),(.call 24 [(.t 42),(.t 44)]),(some (39,true))⟩,⟨(some 46),(.pick (.t 39) (.t 45) (.c (.bool false))),none⟩,⟨(some 47),(.bj (.t 46)),none⟩,⟨(some 48),(.call 46 [(.c (.int .i64 (-7)))]),(some (47,true))⟩,⟨(some 49),(.call 44 [(.t 48),(.c (.int .i64 1))]),(some (47,true))⟩,⟨(some 50),(.call 46 [(.c (.int .i64 (-7)))]),(some (47,true))⟩,⟨(some 51),(.call 24 [(.t 49),(.t 50)]),(some (47,true))⟩,⟨(some 52),(.pick (.t 47) (.t 51) (.c (.bool false))),none⟩,⟨(some 0),(.bj (.t 52)),none⟩]) .ret))))))
def T0:List bx:=[(.tmp 0)]
def T1:ay:=by
 refine(?F:(ay→ay→ay)→ay) ay.cut
 intro c
 refine(?f:(a0 Tryz.prog 38).map (fun y=>y.1.dE c)=some ?x→ay) ?h
 ·exact fun _=> ?x
 ·conv=>lhs;cbv
def T2:List bx:=[(.tmp 2)]
def T3:ay:=by
 refine(?f:(a0 Tryz.prog 39).map (fun y=>y.1)=some ?x→ay) ?h
 ·exact fun _=> ?x
 ·conv=>lhs;cbv
def T4:List bx:=[(.tmp 2)]
def T5:ay:=by
 refine(?f:(a0 Tryz.prog 40).map (fun y=>y.1)=some ?x→ay) ?h
 ·exact fun _=> ?x
 ·conv=>lhs;cbv
def T6:List bx:=[(.cell 4 6 true)]
def T7:ay:=by
 refine(?f:(a0 Tryz.prog 41).map (fun y=>y.1)=some ?x→ay) ?h
 ·exact fun _=> ?x
 ·conv=>lhs;cbv
def T8:List bx:=[(.cell 4 6 true)]
def T9:ay:=by
 refine(?f:(a0 Tryz.prog 42).map (fun y=>y.1)=some ?x→ay) ?h
 ·exact fun _=> ?x
 ·conv=>lhs;cbv
def Ua:List bx:=[(.cell 4 6 true)]
def Ub:ay:=by
 refine(?f:(a0 Tryz.prog 43).map (fun y=>y.1)=some ?x→ay) ?h
 ·exact fun _=> ?x
 ·conv=>lhs;cbv
def Uc:List bx:=[(.cell 4 6 true)]
def Ud:ay:=by
 refine(?f:(a0 Tryz.prog 44).map (fun y=>y.1)=some ?x→ay) ?h
 ·exact fun _=> ?x
 ·conv=>lhs;cbv
def Ue:List bx:=[(.cell 4 3 true)]
def Uf:ay:=by
 refine(?f:(a0 Tryz.prog 45).map (fun y=>y.1)=some ?x→ay) ?h
 ·exact fun _=> ?x
 ·conv=>lhs;cbv
def Ug:List bx:=[(.cell 4 3 true)]
def Nb:ay:=by
 refine(?f:(a0 Tryz.prog 46).map (fun y=>y.1)=some ?x→ay) ?h
 ·exact fun _=> ?x
 ·conv=>lhs;cbv
def Nc:List bx:=[(.cell 2 3 true)]
def Uh:ay:=by
 refine(?f:(a0 Tryz.prog 47).map (fun y=>y.1)=some ?x→ay) ?h
 ·exact fun _=> ?x
 ·conv=>lhs;cbv
def Ui:List bx:=[(.tmp 4)]
def IB:ay:=by
 refine(?f:(a0 Tryz.prog 48).map (fun y=>y.1)=some ?x→ay) ?h
 ·exact fun _=> ?x
 ·conv=>lhs;cbv
def IC:List bx:=[(.cell 2 3 true)]
def Uj:ay:=by
 refine(?f:(a0 Tryz.prog 49).map (fun y=>y.1)=some ?x→ay) ?h
 ·exact fun _=> ?x
 ·conv=>lhs;cbv
def Uk:List bx:=[(.tmp 2)]
def ID:ay:=by
 refine(?f:(a0 Tryz.prog 50).map (fun y=>y.1)=some ?x→ay) ?h
 ·exact fun _=> ?x
 ·conv=>lhs;cbv
def IE:List bx:=[(.cell 4 3 true)]
def Ul:ay:=by
 refine(?f:(a0 Tryz.prog 51).map (fun y=>y.1)=some ?x→ay) ?h
 ·exact fun _=> ?x
 ·conv=>lhs;cbv
def Um:List bx:=[(.cell 4 3 true)]
def Un:ay:=by
 refine(?f:(a0 Tryz.prog 52).map (fun y=>y.1)=some ?x→ay) ?h
 ·exact fun _=> ?x
 ·conv=>lhs;cbv
def Uo:List bx:=[(.cell 2 2 true)]
def Up:ay:=by
 refine(?f:(a0 Tryz.prog 53).map (fun y=>y.1)=some ?x→ay) ?h
 ·exact fun _=> ?x
 ·conv=>lhs;cbv
def Uq:List bx:=[(.cell 4 2 true)]
def Nd:ay:=by
 refine(?f:(a0 Tryz.prog 54).map (fun y=>y.1)=some ?x→ay) ?h
 ·exact fun _=> ?x
 ·conv=>lhs;cbv
def Nf:List bx:=[(.tmp 4)]
def w7:ay:=by
 refine(?f:(a0 Tryz.prog 55).map (fun y=>y.1)=some ?x→ay) ?h
 ·exact fun _=> ?x
 ·conv=>lhs;cbv
def w8:List bx:=[(.tmp 2)]
def Ur:ay:=by
 refine(?f:(a0 Tryz.prog 57).map (fun y=>y.1)=some ?x→ay) ?h
 ·exact fun _=> ?x
 ·conv=>lhs;cbv
def Us:List bx:=[(.tmp 4)]
def IF:ay:=by
 refine(?f:(a0 Tryz.prog 58).map (fun y=>y.1)=some ?x→ay) ?h
 ·exact fun _=> ?x
 ·conv=>lhs;cbv
def IG:List bx:=[(.tmp 2)]
def IH:ay:=by
 refine(?f:(a0 Tryz.prog 59).map (fun y=>y.1)=some ?x→ay) ?h
 ·exact fun _=> ?x
 ·conv=>lhs;cbv
def II:List bx:=[(.cell 4 6 true)]
def Ut:ay:=by
 refine(?f:(a0 Tryz.prog 60).map (fun y=>y.1)=some ?x→ay) ?h
 ·exact fun _=> ?x
 ·conv=>lhs;cbv
def Uu:List bx:=[(.cell 5 3 true)]
def Uv:ay:=by
 refine(?f:(a0 Tryz.prog 61).map (fun y=>y.1)=some ?x→ay) ?h
 ·exact fun _=> ?x
 ·conv=>lhs;cbv
def Uw:List bx:=[(.cell 6 3 true)]
def IJ:ay:=by
 refine(?f:(a0 Tryz.prog 62).map (fun y=>y.1)=some ?x→ay) ?h
 ·exact fun _=> ?x
 ·conv=>lhs;cbv
def IK:List bx:=[(.tmp 2)]
def Ng:ay:=by
 refine(?f:(a0 Tryz.prog 63).map (fun y=>y.1)=some ?x→ay) ?h
 ·exact fun _=> ?x
 ·conv=>lhs;cbv
def Nh:List bx:=[(.cell 6 3 true)]
def Ux:ay:=by
 refine(?f:(a0 Tryz.prog 64).map (fun y=>y.1)=some ?x→ay) ?h
 ·exact fun _=> ?x
 ·conv=>lhs;cbv
def Uy:List bx:=[(.cell 4 3 true)]
def EY:ay:=by
 refine(?F:(ay→ay→ay)→ay) ay.cut
 intro c
 refine(?f:(a0 Tryz.prog 65).map (fun y=>y.1.dE c)=some ?x→ay) ?h
 ·exact fun _=> ?x
 ·conv=>lhs;cbv
def Ni:List bx:=[(.tmp 4)]
def Uz:ay:=by
 refine(?f:(a0 Tryz.prog 66).map (fun y=>y.1)=some ?x→ay) ?h
 ·exact fun _=> ?x
 ·conv=>lhs;cbv
def UA:List bx:=[(.cell 4 3 true)]
def UB:ay:=by
 refine(?f:(a0 Tryz.prog 67).map (fun y=>y.1)=some ?x→ay) ?h
 ·exact fun _=> ?x
 ·conv=>lhs;cbv
def UC:List bx:=[(.cell 2 3 true)]
def UD:ay:=by
 refine(?f:(a0 Tryz.prog 68).map (fun y=>y.1)=some ?x→ay) ?h
 ·exact fun _=> ?x
 ·conv=>lhs;cbv
def UE:List bx:=[(.cell 5 3 true)]
def UF:ay:=by
 refine(?f:(a0 Tryz.prog 69).map (fun y=>y.1)=some ?x→ay) ?h
 ·exact fun _=> ?x
 ·conv=>lhs;cbv
def UG:List bx:=[(.cell 4 3 true)]
def UH:ay:=by
 refine(?f:(a0 Tryz.prog 70).map (fun y=>y.1)=some ?x→ay) ?h
 ·exact fun _=> ?x
 ·conv=>lhs;cbv
def UI:List bx:=[(.tmp 4)]
def UJ:ay:=by
 refine(?F:(ay→ay→ay)→ay) ay.cut
 intro c
 refine(?f:(a0 Tryz.prog 71).map (fun y=>y.1.dE c)=some ?x→ay) ?h
 ·exact fun _=> ?x
 ·conv=>lhs;cbv
def UK:List bx:=[(.cell 4 3 true)]
def UL:ay:=by
 refine(?F:(ay→ay→ay)→ay) ay.cut
 intro c
 refine(?f:(a0 Tryz.prog 72).map (fun y=>y.1.dE c)=some ?x→ay) ?h
 ·exact fun _=> ?x
 ·conv=>lhs;cbv
def UM:List bx:=[(.cell 4 3 true)]
def UN:ay:=by
 refine(?f:(a0 Tryz.prog 73).map (fun y=>y.1)=some ?x→ay) ?h
 ·exact fun _=> ?x
 ·conv=>lhs;cbv
def UO:List bx:=[(.cell 5 3 true)]
def Nj:ay:=by
 refine(?f:(a0 Tryz.prog 74).map (fun y=>y.1)=some ?x→ay) ?h
 ·exact fun _=> ?x
 ·conv=>lhs;cbv
def Nk:List bx:=[(.cell 6 3 true)]
def IL:ay:=by
 refine(?f:(a0 Tryz.prog 75).map (fun y=>y.1)=some ?x→ay) ?h
 ·exact fun _=> ?x
 ·conv=>lhs;cbv
def IM:List bx:=[(.cell 6 3 true)]
def Nl:ay:=by
 refine(?F:(ay→ay→ay)→ay) ay.cut
 intro c
 refine(?f:(a0 Tryz.prog 76).map (fun y=>y.1.dE c)=some ?x→ay) ?h
 ·exact fun _=> ?x
 ·conv=>lhs;cbv
def Nm:List bx:=[(.cell 6 3 true)]
def UP:ay:=by
 refine(?f:(a0 Tryz.prog 77).map (fun y=>y.1)=some ?x→ay) ?h
 ·exact fun _=> ?x
 ·conv=>lhs;cbv
def UQ:List bx:=[(.tmp 2)]
def Ri:ay:=by
 refine(?f:(C0 Tryz.prog 78).map (fun y=>y.1)=some ?x→ay) ?h
 ·exact fun _=> ?x
 ·conv=>lhs;cbv
def Rj:oQ:=by
 refine(?f:(C0 Tryz.prog 78).map (fun y=>y.2.1)=some ?x→oQ) ?h
 ·exact fun _=> ?x
 ·conv=>lhs;cbv
def HP:oQ:=by
 refine(?f:(C0 Tryz.prog 78).map (fun y=>y.2.2.1)=some ?x→oQ) ?h
 ·exact fun _=> ?x
 ·conv=>lhs;cbv
def IP:List bx:=[(.cell 6 6 true)]
def UR:ay:=by
 refine(?f:(a0 Tryz.prog 79).map (fun y=>y.1)=some ?x→ay) ?h
 ·exact fun _=> ?x
 ·conv=>lhs;cbv
def US:List bx:=[(.cell 2 6 true)]
def UT:ay:=by
 refine(?F:(ay→ay→ay)→ay) ay.cut
 intro c
 refine(?f:(a0 Tryz.prog 80).map (fun y=>y.1.dE c)=some ?x→ay) ?h
 ·exact fun _=> ?x
 ·conv=>lhs;cbv
def UU:List bx:=[(.cell 2 2 true)]
def UW:ay:=by
 refine(?f:(a0 Tryz.prog 81).map (fun y=>y.1)=some ?x→ay) ?h
 ·exact fun _=> ?x
 ·conv=>lhs;cbv
def UX:List bx:=[(.cell 4 6 true),(.cell 5 6 true)]
def UY:ay:=by
 refine(?f:(a0 Tryz.prog 82).map (fun y=>y.1)=some ?x→ay) ?h
 ·exact fun _=> ?x
 ·conv=>lhs;cbv
def UZ:List bx:=[(.cell 4 6 true),(.tmp 5)]
def U0:ay:=by
 refine(?f:(a0 Tryz.prog 83).map (fun y=>y.1)=some ?x→ay) ?h
 ·exact fun _=> ?x
 ·conv=>lhs;cbv
def U1:List bx:=[(.cell 2 6 true)]
def Nn:ay:=by
 refine(?F:(ay→ay→ay)→ay) ay.cut
 intro c
 refine(?f:(a0 Tryz.prog 84).map (fun y=>y.1.dE c)=some ?x→ay) ?h
 ·exact fun _=> ?x
 ·conv=>lhs;cbv
def Np:List bx:=[(.tmp 4)]
def U2:ay:=by
 refine(?f:(a0 Tryz.prog 85).map (fun y=>y.1)=some ?x→ay) ?h
 ·exact fun _=> ?x
 ·conv=>lhs;cbv
def U3:List bx:=[(.tmp 4)]
def U4:ay:=by
 refine(?F:(ay→ay→ay)→ay) ay.cut
 intro c
 refine(?f:(a0 Tryz.prog 86).map (fun y=>y.1.dE c)=some ?x→ay) ?h
 ·exact fun _=> ?x
 ·conv=>lhs;cbv
def U5:List bx:=[(.tmp 2)]
def Nq:ay:=by
 refine(?f:(a0 Tryz.prog 87).map (fun y=>y.1)=some ?x→ay) ?h
 ·exact fun _=> ?x
 ·conv=>lhs;cbv
def Nr:List bx:=[(.cell 6 3 true)]
def Ns:ay:=by
 refine(?F:(ay→ay→ay)→ay) ay.cut
 intro c
 refine(?f:(a0 Tryz.prog 88).map (fun y=>y.1.dE c)=some ?x→ay) ?h
 ·exact fun _=> ?x
 ·conv=>lhs;cbv
def Nt:List bx:=[(.tmp 4)]
def U6:ay:=by
 refine(?F:(ay→ay→ay)→ay) ay.cut
 intro c
 refine(?f:(a0 Tryz.prog 89).map (fun y=>y.1.dE c)=some ?x→ay) ?h
 ·exact fun _=> ?x
 ·conv=>lhs;cbv
def U7:List bx:=[(.tmp 4)]
def IQ:ay:=by
 refine(?F:(ay→ay→ay)→ay) ay.cut
 intro c
 refine(?f:(a0 Tryz.prog 90).map (fun y=>y.1.dE c)=some ?x→ay) ?h
 ·exact fun _=> ?x
 ·conv=>lhs;cbv
def U8:List bx:=[(.tmp 2)]
def IU:ay:=by
 refine(?F:(ay→ay→ay)→ay) ay.cut
 intro c
 refine(?f:(a0 Tryz.prog 91).map (fun y=>y.1.dE c)=some ?x→ay) ?h
 ·exact fun _=> ?x
 ·conv=>lhs;cbv
def IV:List bx:=[(.tmp 4)]
def B6:ay:=by
 refine(?F:(ay→ay→ay)→ay) ay.cut
 intro c
 refine(?f:(a0 Tryz.prog 92).map (fun y=>y.1.dE c)=some ?x→ay) ?h
 ·exact fun _=> ?x
 ·conv=>lhs;cbv
def vI:List bx:=[(.tmp 4)]
def EZ:ay:=by
 refine(?F:(ay→ay→ay)→ay) ay.cut
 intro c
 refine(?f:(a0 Tryz.prog 93).map (fun y=>y.1.dE c)=some ?x→ay) ?h
 ·exact fun _=> ?x
 ·conv=>lhs;cbv
def Nu:List bx:=[(.tmp 4),(.tmp 5)]
def IW:ay:=by
 refine(?F:(ay→ay→ay)→ay) ay.cut
 intro c
 refine(?f:(a0 Tryz.prog 94).map (fun y=>y.1.dE c)=some ?x→ay) ?h
 ·exact fun _=> ?x
 ·conv=>lhs;cbv
def U9:List bx:=[(.tmp 4)]
def Va:ay:=by
 refine(?f:(a0 Tryz.prog 95).map (fun y=>y.1)=some ?x→ay) ?h
 ·exact fun _=> ?x
 ·conv=>lhs;cbv
def Vb:List bx:=[(.tmp 4)]
def Vc:ay:=by
 refine(?F:(ay→ay→ay)→ay) ay.cut
 intro c
 refine(?f:(a0 Tryz.prog 96).map (fun y=>y.1.dE c)=some ?x→ay) ?h
 ·exact fun _=> ?x
 ·conv=>lhs;cbv
def Vd:List bx:=[(.tmp 2)]
def Ve:ay:=by
 refine(?f:(a0 Tryz.prog 98).map (fun y=>y.1)=some ?x→ay) ?h
 ·exact fun _=> ?x
 ·conv=>lhs;cbv
def Vf:List bx:=[(.tmp 2)]
def Nv:ay:=by
 refine(?f:(a0 Tryz.prog 99).map (fun y=>y.1)=some ?x→ay) ?h
 ·exact fun _=> ?x
 ·conv=>lhs;cbv
def Nw:List bx:=[(.tmp 2)]
def Rk:ay:=by
 refine(?F:(ay→ay→ay)→ay) ay.cut
 intro c
 refine(?f:(a0 Tryz.prog 100).map (fun y=>y.1.dE c)=some ?x→ay) ?h
 ·exact fun _=> ?x
 ·conv=>lhs;cbv
def Rl:List bx:=[(.tmp 4)]
def Rm:ay:=by
 refine(?F:(ay→ay→ay)→ay) ay.cut
 intro c
 refine(?f:(a0 Tryz.prog 101).map (fun y=>y.1.dE c)=some ?x→ay) ?h
 ·exact fun _=> ?x
 ·conv=>lhs;cbv
def Rn:List bx:=[(.tmp 2)]
def LW:ay:=by
 refine(?F:(ay→ay→ay)→ay) ay.cut
 intro c
 refine(?f:(a0 Tryz.prog 102).map (fun y=>y.1.dE c)=some ?x→ay) ?h
 ·exact fun _=> ?x
 ·conv=>lhs;cbv
def LX:List bx:=[(.tmp 4)]
def Ro:ay:=by
 refine(?F:(ay→ay→ay)→ay) ay.cut
 intro c
 refine(?f:(a0 Tryz.prog 103).map (fun y=>y.1.dE c)=some ?x→ay) ?h
 ·exact fun _=> ?x
 ·conv=>lhs;cbv
def Rp:List bx:=[(.tmp 4)]
def LY:ay:=by
 refine(?F:(ay→ay→ay)→ay) ay.cut
 intro c
 refine(?f:(a0 Tryz.prog 104).map (fun y=>y.1.dE c)=some ?x→ay) ?h
 ·exact fun _=> ?x
 ·conv=>lhs;cbv
def HQ:List bx:=[(.tmp 2)]
def Rq:ay:=by
 refine(?F:(ay→ay→ay)→ay) ay.cut
 intro c
 refine(?f:(a0 Tryz.prog 105).map (fun y=>y.1.dE c)=some ?x→ay) ?h
 ·exact fun _=> ?x
 ·conv=>lhs;cbv
def Rr:List bx:=[(.tmp 2)]
def Rs:ay:=by
 refine(?f:(a0 Tryz.prog 106).map (fun y=>y.1)=some ?x→ay) ?h
 ·exact fun _=> ?x
 ·conv=>lhs;cbv
def Rt:List bx:=[(.tmp 4)]
def LZ:ay:=by
 refine(?f:(a0 Tryz.prog 107).map (fun y=>y.1)=some ?x→ay) ?h
 ·exact fun _=> ?x
 ·conv=>lhs;cbv
def L0:List bx:=[(.tmp 4),(.tmp 5)]
def Ru:ay:=by
 refine(?F:(ay→ay→ay)→ay) ay.cut
 intro c
 refine(?f:(a0 Tryz.prog 108).map (fun y=>y.1.dE c)=some ?x→ay) ?h
 ·exact fun _=> ?x
 ·conv=>lhs;cbv
def amX:List bx:=[]
def Rv:ay:=by
 refine(?f:(a0 Tryz.prog 109).map (fun y=>y.1)=some ?x→ay) ?h
 ·exact fun _=> ?x
 ·conv=>lhs;cbv
def Rw:List bx:=[(.cell 4 3 true)]
def L1:ay:=by
 refine(?f:(a0 Tryz.prog 110).map (fun y=>y.1)=some ?x→ay) ?h
 ·exact fun _=> ?x
 ·conv=>lhs;cbv
def L2:List bx:=[(.tmp 4)]
def L3:ay:=by
 refine(?f:(a0 Tryz.prog 111).map (fun y=>y.1)=some ?x→ay) ?h
 ·exact fun _=> ?x
 ·conv=>lhs;cbv
def L4:List bx:=[(.cell 2 2 true)]
def Rx:ay:=by
 refine(?f:(a0 Tryz.prog 112).map (fun y=>y.1)=some ?x→ay) ?h
 ·exact fun _=> ?x
 ·conv=>lhs;cbv
def Ry:List bx:=[(.cell 4 6 true),(.tmp 5)]
def Rz:ay:=by
 refine(?f:(a0 Tryz.prog 113).map (fun y=>y.1)=some ?x→ay) ?h
 ·exact fun _=> ?x
 ·conv=>lhs;cbv
def RA:List bx:=[(.cell 4 12 true)]
def RB:ay:=by
 refine(?f:(a0 Tryz.prog 114).map (fun y=>y.1)=some ?x→ay) ?h
 ·exact fun _=> ?x
 ·conv=>lhs;cbv
def RC:List bx:=[(.cell 6 6 true),(.cell 7 6 true)]
def RD:ay:=by
 refine(?F:(ay→ay→ay)→ay) ay.cut
 intro c
 refine(?f:(a0 Tryz.prog 115).map (fun y=>y.1.dE c)=some ?x→ay) ?h
 ·exact fun _=> ?x
 ·conv=>lhs;cbv
def RE:List bx:=[(.tmp 4)]
def RF:ay:=by
 refine(?f:(a0 Tryz.prog 116).map (fun y=>y.1)=some ?x→ay) ?h
 ·exact fun _=> ?x
 ·conv=>lhs;cbv
def RG:List bx:=[(.tmp 2)]
def RH:ay:=by
 refine(?F:(ay→ay→ay)→ay) ay.cut
 intro c
 refine(?f:(a0 Tryz.prog 117).map (fun y=>y.1.dE c)=some ?x→ay) ?h
 ·exact fun _=> ?x
 ·conv=>lhs;cbv
def RI:List bx:=[(.tmp 2)]
def RJ:ay:=by
 refine(?f:(a0 Tryz.prog 118).map (fun y=>y.1)=some ?x→ay) ?h
 ·exact fun _=> ?x
 ·conv=>lhs;cbv
def RK:List bx:=[(.tmp 4)]
def L5:ay:=by
 refine(?F:(ay→ay→ay)→ay) ay.cut
 intro c
 refine(?f:(a0 Tryz.prog 119).map (fun y=>y.1.dE c)=some ?x→ay) ?h
 ·exact fun _=> ?x
 ·conv=>lhs;cbv
def L6:List bx:=[(.tmp 8)]
def RL:ay:=by
 refine(?f:(a0 Tryz.prog 120).map (fun y=>y.1)=some ?x→ay) ?h
 ·exact fun _=> ?x
 ·conv=>lhs;cbv
def RM:List bx:=[(.tmp 5)]
def L7:ay:=by
 refine(?F:(ay→ay→ay)→ay) ay.cut
 intro c
 refine(?f:(a0 Tryz.prog 121).map (fun y=>y.1.dE c)=some ?x→ay) ?h
 ·exact fun _=> ?x
 ·conv=>lhs;cbv
def L8:List bx:=[(.tmp 4)]
def RN:ay:=by
 refine(?f:(a0 Tryz.prog 122).map (fun y=>y.1)=some ?x→ay) ?h
 ·exact fun _=> ?x
 ·conv=>lhs;cbv
def RO:List bx:=[(.tmp 2)]
def RP:ay:=by
 refine(?f:(a0 Tryz.prog 123).map (fun y=>y.1)=some ?x→ay) ?h
 ·exact fun _=> ?x
 ·conv=>lhs;cbv
def RQ:List bx:=[(.tmp 2)]
def RS:ay:=by
 refine(?F:(ay→ay→ay)→ay) ay.cut
 intro c
 refine(?f:(a0 Tryz.prog 124).map (fun y=>y.1.dE c)=some ?x→ay) ?h
 ·exact fun _=> ?x
 ·conv=>lhs;cbv
def RT:List bx:=[(.tmp 2)]
def RU:ay:=by
 refine(?f:(a0 Tryz.prog 125).map (fun y=>y.1)=some ?x→ay) ?h
 ·exact fun _=> ?x
 ·conv=>lhs;cbv
def RW:List bx:=[(.tmp 4)]
def L9:ay:=by
 refine(?f:(a0 Tryz.prog 126).map (fun y=>y.1)=some ?x→ay) ?h
 ·exact fun _=> ?x
 ·conv=>lhs;cbv
def Ma:List bx:=[(.tmp 2)]
def RX:ay:=by
 refine(?f:(a0 Tryz.prog 128).map (fun y=>y.1)=some ?x→ay) ?h
 ·exact fun _=> ?x
 ·conv=>lhs;cbv
def RY:List bx:=[(.tmp 2)]
def RZ:ay:=by
 refine(?f:(a0 Tryz.prog 129).map (fun y=>y.1)=some ?x→ay) ?h
 ·exact fun _=> ?x
 ·conv=>lhs;cbv
def R0:List bx:=[]
def Mb:ay:=by
 refine(?F:(ay→ay→ay)→ay) ay.cut
 intro c
 refine(?f:(a0 Tryz.prog 130).map (fun y=>y.1.dE c)=some ?x→ay) ?h
 ·exact fun _=> ?x
 ·conv=>lhs;cbv
def Mc:List bx:=[(.tmp 4)]
def HR:ay:=by
 refine(?f:(a0 Tryz.prog 131).map (fun y=>y.1)=some ?x→ay) ?h
 ·exact fun _=> ?x
 ·conv=>lhs;cbv
def HS:List bx:=[(.tmp 4)]
def R1:ay:=by
 refine(?f:(a0 Tryz.prog 132).map (fun y=>y.1)=some ?x→ay) ?h
 ·exact fun _=> ?x
 ·conv=>lhs;cbv
def R2:List bx:=[(.tmp 5)]
def R3:ay:=by
 refine(?f:(a0 Tryz.prog 133).map (fun y=>y.1)=some ?x→ay) ?h
 ·exact fun _=> ?x
 ·conv=>lhs;cbv
def R4:List bx:=[(.cell 2 3 true)]
def R5:ay:=by
 refine(?f:(a0 Tryz.prog 134).map (fun y=>y.1)=some ?x→ay) ?h
 ·exact fun _=> ?x
 ·conv=>lhs;cbv
def R6:List bx:=[(.cell 2 3 true)]
def R7:oO:=by
 refine(?f:(CY Tryz.prog 135).map (fun y=>y.1)=some ?x→oO) ?h
 ·exact fun _=> ?x
 ·conv=>lhs;cbv
def R8:List bx:=[(.cell 4 12 true)]
def R9:ay:=by
 refine(?f:(a0 Tryz.prog 136).map (fun y=>y.1)=some ?x→ay) ?h
 ·exact fun _=> ?x
 ·conv=>lhs;cbv
def Sb:List bx:=[(.tmp 2),(.tmp 3),(.tmp 4)]
def Sc:ay:=by
 refine(?f:(a0 Tryz.prog 137).map (fun y=>y.1)=some ?x→ay) ?h
 ·exact fun _=> ?x
 ·conv=>lhs;cbv
def Sd:List bx:=[(.cell 2 3 true)]
def Se:ay:=by
 refine(?F:(ay→ay→ay)→ay) ay.cut
 intro c
 refine(?f:(a0 Tryz.prog 138).map (fun y=>y.1.dE c)=some ?x→ay) ?h
 ·exact fun _=> ?x
 ·conv=>lhs;cbv
def Sf:List bx:=[(.cell 6 6 true),(.cell 7 6 true)]
def Sg:ay:=by
 refine(?f:(a0 Tryz.prog 139).map (fun y=>y.1)=some ?x→ay) ?h
 ·exact fun _=> ?x
 ·conv=>lhs;cbv
def Sh:List bx:=[(.tmp 2),(.tmp 3),(.tmp 4)]
def Md:ay:=by
 refine(?f:(a0 Tryz.prog 140).map (fun y=>y.1)=some ?x→ay) ?h
 ·exact fun _=> ?x
 ·conv=>lhs;cbv
def Me:List bx:=[(.tmp 4)]
def Si:ay:=by
 refine(?F:(ay→ay→ay)→ay) ay.cut
 intro c
 refine(?f:(a0 Tryz.prog 145).map (fun y=>y.1.dE c)=some ?x→ay) ?h
 ·exact fun _=> ?x
 ·conv=>lhs;cbv
def Sj:List bx:=[(.tmp 4)]
def Sk:ay:=by
 refine(?f:(a0 Tryz.prog 146).map (fun y=>y.1)=some ?x→ay) ?h
 ·exact fun _=> ?x
 ·conv=>lhs;cbv
def Sl:List bx:=[(.tmp 2)]
def Sm:ay:=by
 refine(?f:(a0 Tryz.prog 147).map (fun y=>y.1)=some ?x→ay) ?h
 ·exact fun _=> ?x
 ·conv=>lhs;cbv
def Sn:List bx:=[(.tmp 2)]
def So:ay:=by
 refine(?f:(a0 Tryz.prog 148).map (fun y=>y.1)=some ?x→ay) ?h
 ·exact fun _=> ?x
 ·conv=>lhs;cbv
def Sp:List bx:=[(.cell 2 2 true)]
def Sq:ay:=by
 refine(?f:(a0 Tryz.prog 149).map (fun y=>y.1)=some ?x→ay) ?h
 ·exact fun _=> ?x
 ·conv=>lhs;cbv
def Sr:List bx:=[(.cell 2 2 true)]
def Ss:ay:=by
 refine(?f:(a0 Tryz.prog 150).map (fun y=>y.1)=some ?x→ay) ?h
 ·exact fun _=> ?x
 ·conv=>lhs;cbv
def Sv:List bx:=[(.cell 4 2 true)]
def Sw:ay:=by
 refine(?f:(a0 Tryz.prog 151).map (fun y=>y.1)=some ?x→ay) ?h
 ·exact fun _=> ?x
 ·conv=>lhs;cbv
def Sx:List bx:=[(.cell 0 6 true)]
def Sy:ay:=by
 refine(?f:(a0 Tryz.prog 152).map (fun y=>y.1)=some ?x→ay) ?h
 ·exact fun _=> ?x
 ·conv=>lhs;cbv
def Sz:List bx:=[(.tmp 2)]
def SA:ay:=(.seq (.cR [⟨(some 3),(.box (.t 0)),none⟩,⟨(some 4),(.box (.t 1)),none⟩,⟨(some 6),(.alloc [(.bool false),(.ints .i64 []),(.int .i64 0),(.bool false),(.ints .i64 []),(.int .i64 0),(.bool false),(.ints .i64 []),(.int .i64 0),(.bool false),(.ints .i64 []),(.int .i64 0)]),none⟩]) (.seq (.kd [(⟨(some 7),(.dD 0 (.t 3)),none⟩,[]),(⟨(some 8),(.load 6 true (.t 7)),none⟩,[]),(⟨(some 9),(.dD 0 (.t 4)),none⟩,[]),(⟨(some 10),(.load 6 true (.t 9)),none⟩,[]),(⟨(some 11),(.call 33 [(.t 8),(.t 10)]),none⟩,[88888888]),(⟨(some 12),(.dD 6 (.t 3)),none⟩,[]),(⟨(some 13),(.load 6 true (.t 12)),none⟩,[]),(⟨(some 14),(.dD 6 (.t 4)),none⟩,[]),(⟨(some 15),(.load 6 true (.t 14)),none⟩,[]),(⟨(some 16),(.call 33 [(.t 13),(.t 15)]),none⟩,[88888888]),(⟨(some 17),(.call 27 [(.t 16)]),none⟩,[88888888]),(⟨(some 18),(.call 31 [(.t 11),(.t 17)]),none⟩,[88888888]),(⟨(some 19),(.bj (.t 2)),none⟩,[]),(⟨(some 20),(.call 35 [(.t 18),(.t 19)]),none⟩,[88888888]),(⟨(some 21),(.dD 6 (.t 3)),none⟩,[]),(⟨(some 22),(.load 6 true (.t 21)),none⟩,[]),(⟨(some 23),(.dD 0 (.t 4)),none⟩,[]),(⟨(some 24),(.load 6 true (.t 23)),none⟩,[]),(⟨(some 25),(.call 33 [(.t 22),(.t 24)]),none⟩,[88888888]),(⟨(some 26),(.dD 0 (.t 3)),none⟩,[]),(⟨(some 27),(.load 6 true (.t 26)),none⟩,[]),(⟨(some 28),(.dD 6 (.t 4)),none⟩,[]),(⟨(some 29),(.load 6 true (.t 28)),none⟩,[]),(⟨(some 30),(.call 33 [(.t 27),(.t 29)]),none⟩,[]),(⟨(some 31),(.call 31 [(.t 25),(.t 30)]),none⟩,[]),(⟨(some 32),(.bj (.t 2)),none⟩,[])] [⟨(some 33),(.call 35 [(.t 31),(.t 32)]),none⟩,⟨(some 34),(.build [(.bool false),(.ints .i64 []),(.int .i64 0),(.bool false),(.ints .i64 []),(.int .i64 0),(.bool false),(.ints .i64 []),(.int .i64 0),(.bool false),(.ints .i64 []),(.int .i64 0)] [(0,(6,(.t 20))),(6,(6,(.t 33)))]),none⟩,⟨none,(.store 12 (.t 6) (.t 34)),none⟩]) .ret))
def SB:List bx:=[(.cell 6 12 true)]
def SC:ay:=by
 refine(?f:(a0 Tryz.prog 154).map (fun y=>y.1)=some ?x→ay) ?h
 ·exact fun _=> ?x
 ·conv=>lhs;cbv
def SD:List bx:=[]
def SE:ay:=by
 refine(?f:(a0 Tryz.prog 155).map (fun y=>y.1)=some ?x→ay) ?h
 ·exact fun _=> ?x
 ·conv=>lhs;cbv
def amY:List bx:=[]
def Mf:ay:=by
 refine(?f:(a0 Tryz.prog 156).map (fun y=>y.1)=some ?x→ay) ?h
 ·exact fun _=> ?x
 ·conv=>lhs;cbv
def Mg:List bx:=[(.cell 3 6 true)]
end RV.Dr
