/-
 The compact code of functions of this seat, as translated from the model: each translation holds by reckoning. Conditions: none.
-/
import Derived.Test.YtbcdaglbdnkocaaGreatEv
import Derived.Test.YtbcdaglbdnkocaaGreatRows
set_option maxRecDepth 100000
namespace Go.Proofs.YtbcdaglbdnkocaaGreat
open Go Go.Ev

def pures:List Nat:=[8,11,22,24,28,29,30,31,33,34,37,52,59,61,65,67,68,69,70,72,73,74,77,81,82,87,96,97,99,100,101,102,103,105,108,112,113,116,131,139,140,142,143,147,148]
theorem mixed:Tryz.prog.follows .mixedOrders=true:=by kernel_rfl

theorem tr100:trF Tryz.prog pures Tryz.f100=some
 ⟨16,[(.t 2)],
  (.seq (.reg [⟨(some 1),(.box 23 (.tmp 0)),none⟩,⟨(some 2),(.mv (.const (.bool false))),none⟩])
  (.seq (.reg [⟨(some 3),(.fad 0 (.tmp 1)),none⟩,⟨(some 4),(.ld1 (.tmp 3)),none⟩,⟨(some 5),(.pcall 101 [(.tmp 4),(.const (.int .i64 1)),(.const (.int .i64 64))]),none⟩,⟨(some 6),(.mv (.tmp 5)),none⟩,⟨(some 7),(.fad 1 (.tmp 1)),(some (6,true))⟩,⟨(some 8),(.ld1 (.tmp 7)),(some (6,true))⟩,⟨(some 9),(.pcall 101 [(.tmp 8),(.const (.int .i64 1)),(.const (.int .i64 12))]),(some (6,true))⟩,⟨(some 10),(.pick (.tmp 6) (.tmp 9) (.const (.bool false))),none⟩,⟨(some 11),(.mv (.tmp 10)),none⟩,⟨(some 12),(.fad 2 (.tmp 1)),(some (11,true))⟩,⟨(some 13),(.ld1 (.tmp 12)),(some (11,true))⟩,⟨(some 14),(.pcall 101 [(.tmp 13),(.const (.int .i64 0)),(.const (.int .i64 8))]),(some (11,true))⟩,⟨(some 15),(.pick (.tmp 11) (.tmp 14) (.const (.bool false))),none⟩,⟨(some 2),(.mv (.tmp 15)),none⟩]) .ret))⟩:=by kernel_rfl

theorem tr101:trF Tryz.prog pures Tryz.f101=some
 ⟨15,[(.t 6)],
  (.seq (.reg [⟨(some 6),(.mv (.const (.bool false))),none⟩])
  (.seq (.reg [⟨(some 7),(.mv (.tmp 0)),none⟩,⟨(some 8),(.mv (.tmp 1)),none⟩,⟨(some 9),(.cmp .geq (.tmp 7) (.tmp 8)),none⟩,⟨(some 10),(.mv (.tmp 9)),none⟩,⟨(some 11),(.mv (.tmp 0)),(some (10,true))⟩,⟨(some 12),(.mv (.tmp 2)),(some (10,true))⟩,⟨(some 13),(.cmp .leq (.tmp 11) (.tmp 12)),(some (10,true))⟩,⟨(some 14),(.pick (.tmp 10) (.tmp 13) (.const (.bool false))),none⟩,⟨(some 6),(.mv (.tmp 14)),none⟩]) .ret))⟩:=by kernel_rfl

theorem tr102:trF Tryz.prog pures Tryz.f102=some
 ⟨20,[(.t 2),(.t 3)],
  (.seq (.reg [⟨(some 2),(.mv (.const (.int .i64 0))),none⟩,⟨(some 3),(.mv (.const (.int .i64 0))),none⟩])
  (.seq (.reg [⟨(some 6),(.mv (.tmp 0)),none⟩,⟨(some 7),(.bt .and (.tmp 6) (.const (.int .u64 15))),none⟩,⟨(some 8),(.cv .i64 (.tmp 7)),none⟩,⟨(some 9),(.mv (.tmp 0)),none⟩,⟨(some 10),(.sh .shr (.tmp 9) (.const (.int .u64 4))),none⟩,⟨(some 11),(.bt .and (.tmp 10) (.const (.int .u64 255))),none⟩,⟨(some 12),(.cv .i64 (.tmp 11)),none⟩,⟨(some 4),(.mv (.tmp 8)),none⟩,⟨(some 5),(.mv (.tmp 12)),none⟩])
  (.seq (.seq
  (.reg [⟨(some 13),(.mv (.tmp 4)),none⟩,⟨(some 14),(.mv (.tmp 5)),none⟩,⟨(some 15),(.pcall 8 [(.tmp 13),(.tmp 14)]),none⟩,⟨(some 16),(.mv (.tmp 0)),none⟩,⟨(some 17),(.cmp .neq (.tmp 15) (.tmp 16)),none⟩])
  (.cond (.tmp 17)
  (.seq (.reg [⟨(some 2),(.mv (.const (.int .i64 0))),none⟩,⟨(some 3),(.mv (.const (.int .i64 0))),none⟩]) .ret) .skip))
  (.seq (.reg [⟨(some 18),(.mv (.tmp 4)),none⟩,⟨(some 19),(.mv (.tmp 5)),none⟩,⟨(some 2),(.mv (.tmp 18)),none⟩,⟨(some 3),(.mv (.tmp 19)),none⟩]) .ret))))⟩:=by kernel_rfl

theorem tr103:trF Tryz.prog pures Tryz.f103=some
 ⟨18,[(.cn 2 2)],
  (.seq (.reg [⟨(some 2),(.alc 78 (.agg #[(.int .i64 0),(.int .i64 0)])),none⟩])
  (.seq (.reg [⟨(some 4),(.mv (.tmp 0)),none⟩,⟨(some 5),(.bt .and (.tmp 4) (.const (.int .u64 15))),none⟩,⟨(some 6),(.cv .i64 (.tmp 5)),none⟩,⟨(some 7),(.mv (.tmp 0)),none⟩,⟨(some 8),(.sh .shr (.tmp 7) (.const (.int .u64 4))),none⟩,⟨(some 9),(.bt .and (.tmp 8) (.const (.int .u64 255))),none⟩,⟨(some 10),(.cv .i64 (.tmp 9)),none⟩,⟨(some 11),(.bld #[(.int .i64 0),(.int .i64 0)] [(0,(1,(.tmp 6))),(1,(1,(.tmp 10)))]),none⟩,⟨(some 3),(.alc 78 (.agg #[(.int .i64 0),(.int .i64 0)])),none⟩,⟨none,(.stn 2 (.tmp 3) (.tmp 11)),none⟩])
  (.seq (.seq
  (.reg [⟨(some 12),(.ldn 2 (.tmp 3)),none⟩,⟨(some 13),(.pcall 31 [(.tmp 12)]),none⟩,⟨(some 14),(.mv (.tmp 0)),none⟩,⟨(some 15),(.cmp .neq (.tmp 13) (.tmp 14)),none⟩])
  (.cond (.tmp 15)
  (.seq (.reg [⟨(some 16),(.bld #[(.int .i64 0),(.int .i64 0)] []),none⟩,⟨none,(.stn 2 (.tmp 2) (.tmp 16)),none⟩]) .ret) .skip))
  (.seq (.reg [⟨(some 17),(.ldn 2 (.tmp 3)),none⟩,⟨none,(.stn 2 (.tmp 2) (.tmp 17)),none⟩]) .ret))))⟩:=by kernel_rfl

theorem tr105:trF Tryz.prog pures Tryz.f105=some
 ⟨17,[(.t 2),(.t 3)],
  (.seq (.reg [⟨(some 2),(.mv (.const (.int .i64 0))),none⟩,⟨(some 3),(.mv (.const (.int .i64 0))),none⟩])
  (.seq (.reg [⟨(some 6),(.mv (.tmp 0)),none⟩,⟨(some 7),(.pcall 139 [(.tmp 6)]),none⟩,⟨(some 8),(.mv (.tmp 0)),none⟩,⟨(some 9),(.pcall 140 [(.tmp 8),(.const (.int .i64 0))]),none⟩,⟨(some 4),(.mv (.tmp 7)),none⟩,⟨(some 5),(.mv (.tmp 9)),none⟩])
  (.seq (.seq
  (.reg [⟨(some 10),(.mv (.tmp 4)),none⟩,⟨(some 11),(.mv (.tmp 5)),none⟩,⟨(some 12),(.pcall 108 [(.tmp 10),(.tmp 11)]),none⟩,⟨(some 13),(.mv (.tmp 0)),none⟩,⟨(some 14),(.cmp .neq (.tmp 12) (.tmp 13)),none⟩])
  (.cond (.tmp 14)
  (.seq (.reg [⟨(some 2),(.mv (.const (.int .i64 0))),none⟩,⟨(some 3),(.mv (.const (.int .i64 0))),none⟩]) .ret) .skip))
  (.seq (.reg [⟨(some 15),(.mv (.tmp 4)),none⟩,⟨(some 16),(.mv (.tmp 5)),none⟩,⟨(some 2),(.mv (.tmp 15)),none⟩,⟨(some 3),(.mv (.tmp 16)),none⟩]) .ret))))⟩:=by kernel_rfl

theorem tr106:trF Tryz.prog pures Tryz.f106=some
 ⟨29,[(.t 6)],
  (.seq (.reg [⟨(some 6),(.mv (.const (.int .u64 0))),none⟩])
  (.seq (.reg [⟨(some 7),(.mv (.tmp 0)),none⟩,⟨(some 8),(.mv (.tmp 2)),none⟩,⟨(some 9),(.call 114 [(.tmp 7),(.tmp 8)]),none⟩])
  (.seq (.reg [⟨(some 10),(.mv (.tmp 0)),none⟩,⟨(some 11),(.mv (.tmp 1)),none⟩,⟨(some 12),(.mv (.tmp 2)),none⟩,⟨(some 13),(.mv (.tmp 0)),none⟩,⟨(some 14),(.nilck (.tmp 13)),none⟩,⟨(some 15),(.fad 0 (.tmp 14)),none⟩,⟨(some 16),(.ld1 (.tmp 15)),none⟩,⟨(some 17),(.mv (.tmp 2)),none⟩,⟨(some 18),(.iad 1 (.tmp 16) (.tmp 17)),none⟩,⟨(some 19),(.ld1 (.tmp 18)),none⟩,⟨(some 20),(.bld #[(.int .i64 0),(.int .i64 0),(.int .i64 0),(.int .u64 0),(.int .u64 0),(.bool false)] [(0,(1,(.tmp 11))),(1,(1,(.const (.int .i64 0)))),(2,(1,(.tmp 12))),(3,(1,(.tmp 19))),(5,(1,(.const (.bool true))))]),none⟩,⟨(some 21),(.call 115 [(.tmp 10),(.tmp 20)]),none⟩])
  (.seq (.reg [⟨(some 22),(.mv (.tmp 0)),none⟩,⟨(some 23),(.nilck (.tmp 22)),none⟩,⟨(some 24),(.fad 0 (.tmp 23)),none⟩,⟨(some 25),(.ld1 (.tmp 24)),none⟩,⟨(some 26),(.mv (.tmp 2)),none⟩,⟨(some 27),(.iad 1 (.tmp 25) (.tmp 26)),none⟩,⟨(some 28),(.ld1 (.tmp 27)),none⟩,⟨(some 6),(.mv (.tmp 28)),none⟩]) .ret))))⟩:=by kernel_rfl

theorem tr107:trF Tryz.prog pures Tryz.f107=some
 ⟨47,[(.t 10)],
  (.seq (.reg [⟨(some 10),(.mv (.const (.bool false))),none⟩])
  (.seq (.reg [⟨(some 12),(.mv (.tmp 0)),none⟩,⟨(some 13),(.mv (.tmp 2)),none⟩,⟨(some 14),(.call 114 [(.tmp 12),(.tmp 13)]),none⟩])
  (.seq (.reg [⟨(some 15),(.mv (.tmp 0)),none⟩,⟨(some 16),(.nilck (.tmp 15)),none⟩,⟨(some 17),(.fad 0 (.tmp 16)),none⟩,⟨(some 18),(.ld1 (.tmp 17)),none⟩,⟨(some 19),(.mv (.tmp 2)),none⟩,⟨(some 20),(.iad 1 (.tmp 18) (.tmp 19)),none⟩,⟨(some 21),(.ld1 (.tmp 20)),none⟩,⟨(some 22),(.mv (.tmp 3)),none⟩,⟨(some 23),(.cmp .eql (.tmp 21) (.tmp 22)),none⟩,⟨(some 11),(.mv (.tmp 23)),none⟩])
  (.seq (.reg [⟨(some 24),(.mv (.tmp 0)),none⟩,⟨(some 25),(.mv (.tmp 1)),none⟩,⟨(some 26),(.mv (.tmp 2)),none⟩,⟨(some 27),(.mv (.tmp 0)),none⟩,⟨(some 28),(.nilck (.tmp 27)),none⟩,⟨(some 29),(.fad 0 (.tmp 28)),none⟩,⟨(some 30),(.ld1 (.tmp 29)),none⟩,⟨(some 31),(.mv (.tmp 2)),none⟩,⟨(some 32),(.iad 1 (.tmp 30) (.tmp 31)),none⟩,⟨(some 33),(.ld1 (.tmp 32)),none⟩,⟨(some 34),(.mv (.tmp 4)),none⟩,⟨(some 35),(.mv (.tmp 11)),none⟩,⟨(some 36),(.bld #[(.int .i64 0),(.int .i64 0),(.int .i64 0),(.int .u64 0),(.int .u64 0),(.bool false)] [(0,(1,(.tmp 25))),(1,(1,(.const (.int .i64 2)))),(2,(1,(.tmp 26))),(3,(1,(.tmp 33))),(4,(1,(.tmp 34))),(5,(1,(.tmp 35)))]),none⟩,⟨(some 37),(.call 115 [(.tmp 24),(.tmp 36)]),none⟩])
  (.seq (.seq
  (.reg [⟨(some 38),(.mv (.tmp 11)),none⟩])
  (.cond (.tmp 38)
  (.reg [⟨(some 39),(.mv (.tmp 0)),none⟩,⟨(some 40),(.nilck (.tmp 39)),none⟩,⟨(some 41),(.fad 0 (.tmp 40)),none⟩,⟨(some 42),(.ld1 (.tmp 41)),none⟩,⟨(some 43),(.mv (.tmp 2)),none⟩,⟨(some 44),(.mv (.tmp 4)),none⟩,⟨(some 45),(.iad 1 (.tmp 42) (.tmp 43)),none⟩,⟨none,(.st1 (.tmp 45) (.tmp 44)),none⟩]) .skip))
  (.seq (.reg [⟨(some 46),(.mv (.tmp 11)),none⟩,⟨(some 10),(.mv (.tmp 46)),none⟩]) .ret))))))⟩:=by kernel_rfl

theorem tr108:trF Tryz.prog pures Tryz.f108=some
 ⟨23,[(.t 4)],
  (.seq (.reg [⟨(some 4),(.mv (.const (.int .u64 0))),none⟩])
  (.seq (.seq
  (.reg [⟨(some 5),(.mv (.tmp 0)),none⟩,⟨(some 6),(.cmp .lss (.tmp 5) (.const (.int .i64 0))),none⟩,⟨(some 7),(.mv (.tmp 6)),none⟩,⟨(some 8),(.mv (.tmp 0)),(some (7,false))⟩,⟨(some 9),(.cmp .gtr (.tmp 8) (.const (.int .i64 4))),(some (7,false))⟩,⟨(some 10),(.pick (.tmp 7) (.const (.bool true)) (.tmp 9)),none⟩,⟨(some 11),(.mv (.tmp 10)),none⟩,⟨(some 12),(.mv (.tmp 0)),(some (11,false))⟩,⟨(some 13),(.cmp .neq (.tmp 12) (.const (.int .i64 3))),(some (11,false))⟩,⟨(some 14),(.mv (.tmp 13)),(some (11,false))⟩,⟨(some 15),(.mv (.tmp 1)),(some (14,true))⟩,⟨(some 16),(.cmp .neq (.tmp 15) (.const (.int .i64 0))),(some (14,true))⟩,⟨(some 17),(.pick (.tmp 14) (.tmp 16) (.const (.bool false))),(some (11,false))⟩,⟨(some 18),(.pick (.tmp 11) (.const (.bool true)) (.tmp 17)),none⟩])
  (.cond (.tmp 18)
  (.seq (.reg [⟨(some 4),(.mv (.const (.int .u64 0))),none⟩]) .ret) .skip))
  (.seq (.reg [⟨(some 19),(.mv (.tmp 0)),none⟩,⟨(some 20),(.mv (.tmp 1)),none⟩,⟨(some 21),(.bsl 3 #[(.int .i64 0)] 1 1 [(0,(.tmp 20))]),none⟩,⟨(some 22),(.call 141 [(.tmp 19),(.tmp 21)]),none⟩,⟨(some 4),(.mv (.tmp 22)),none⟩]) .ret)))⟩:=by kernel_rfl

theorem tr112:trF Tryz.prog pures Tryz.f112=some
 ⟨20,[(.t 4)],
  (.seq (.reg [⟨(some 2),(.box 23 (.tmp 0)),none⟩,⟨(some 4),(.mv (.const (.int .i64 0))),none⟩])
  (.seq (.seq
  (.reg [⟨(some 5),(.ldn 3 (.tmp 2)),none⟩,⟨(some 6),(.pcall 100 [(.tmp 5)]),none⟩,⟨(some 7),(.nt (.tmp 6)),none⟩,⟨(some 8),(.mv (.tmp 7)),none⟩,⟨(some 9),(.mv (.tmp 1)),(some (8,false))⟩,⟨(some 10),(.fad 0 (.tmp 2)),(some (8,false))⟩,⟨(some 11),(.ld1 (.tmp 10)),(some (8,false))⟩,⟨(some 12),(.ar .sub (.tmp 11) (.const (.int .i64 1))),(some (8,false))⟩,⟨(some 13),(.pcall 101 [(.tmp 9),(.const (.int .i64 0)),(.tmp 12)]),(some (8,false))⟩,⟨(some 14),(.nt (.tmp 13)),(some (8,false))⟩,⟨(some 15),(.pick (.tmp 8) (.const (.bool true)) (.tmp 14)),none⟩])
  (.cond (.tmp 15)
  (.seq (.reg [⟨(some 4),(.mv (.const (.int .i64 (-1)))),none⟩]) .ret) .skip))
  (.seq (.reg [⟨(some 16),(.fad 1 (.tmp 2)),none⟩,⟨(some 17),(.ld1 (.tmp 16)),none⟩,⟨(some 18),(.mv (.tmp 1)),none⟩,⟨(some 19),(.ar .add (.tmp 17) (.tmp 18)),none⟩,⟨(some 4),(.mv (.tmp 19)),none⟩]) .ret)))⟩:=by kernel_rfl

theorem tr113:trF Tryz.prog pures Tryz.f113=some
 ⟨33,[(.t 6)],
  (.seq (.reg [⟨(some 3),(.box 23 (.tmp 0)),none⟩,⟨(some 6),(.mv (.const (.int .i64 0))),none⟩])
  (.seq (.seq
  (.reg [⟨(some 7),(.ldn 3 (.tmp 3)),none⟩,⟨(some 8),(.pcall 100 [(.tmp 7)]),none⟩,⟨(some 9),(.nt (.tmp 8)),none⟩,⟨(some 10),(.mv (.tmp 9)),none⟩,⟨(some 11),(.mv (.tmp 1)),(some (10,false))⟩,⟨(some 12),(.fad 0 (.tmp 3)),(some (10,false))⟩,⟨(some 13),(.ld1 (.tmp 12)),(some (10,false))⟩,⟨(some 14),(.ar .sub (.tmp 13) (.const (.int .i64 1))),(some (10,false))⟩,⟨(some 15),(.pcall 101 [(.tmp 11),(.const (.int .i64 0)),(.tmp 14)]),(some (10,false))⟩,⟨(some 16),(.nt (.tmp 15)),(some (10,false))⟩,⟨(some 17),(.pick (.tmp 10) (.const (.bool true)) (.tmp 16)),none⟩,⟨(some 18),(.mv (.tmp 17)),none⟩,⟨(some 19),(.mv (.tmp 2)),(some (18,false))⟩,⟨(some 20),(.pcall 101 [(.tmp 19),(.const (.int .i64 0)),(.const (.int .i64 15))]),(some (18,false))⟩,⟨(some 21),(.nt (.tmp 20)),(some (18,false))⟩,⟨(some 22),(.pick (.tmp 18) (.const (.bool true)) (.tmp 21)),none⟩])
  (.cond (.tmp 22)
  (.seq (.reg [⟨(some 6),(.mv (.const (.int .i64 (-1)))),none⟩]) .ret) .skip))
  (.seq (.reg [⟨(some 23),(.fad 1 (.tmp 3)),none⟩,⟨(some 24),(.ld1 (.tmp 23)),none⟩,⟨(some 25),(.fad 0 (.tmp 3)),none⟩,⟨(some 26),(.ld1 (.tmp 25)),none⟩,⟨(some 27),(.ar .add (.tmp 24) (.tmp 26)),none⟩,⟨(some 28),(.mv (.tmp 1)),none⟩,⟨(some 29),(.ar .mul (.tmp 28) (.const (.int .i64 16))),none⟩,⟨(some 30),(.ar .add (.tmp 27) (.tmp 29)),none⟩,⟨(some 31),(.mv (.tmp 2)),none⟩,⟨(some 32),(.ar .add (.tmp 30) (.tmp 31)),none⟩,⟨(some 6),(.mv (.tmp 32)),none⟩]) .ret)))⟩:=by kernel_rfl

theorem tr114:trF Tryz.prog pures Tryz.f114=some
 ⟨9,[],
  (.seq (.reg [⟨(some 4),(.mv (.tmp 0)),none⟩,⟨(some 5),(.mv (.tmp 1)),none⟩,⟨(some 6),(.call 54 [(.tmp 4),(.tmp 5)]),none⟩,⟨(some 7),(.nt (.tmp 6)),none⟩])
  (.cond (.tmp 7) .no .skip))⟩:=by kernel_rfl

theorem tr115:trF Tryz.prog pures Tryz.f115=some
 ⟨15,[],
  (.seq (.reg [⟨(some 3),(.box 33 (.tmp 1)),none⟩])
  (.seq (.reg [⟨(some 4),(.mv (.tmp 0)),none⟩,⟨(some 5),(.nilck (.tmp 4)),none⟩,⟨(some 6),(.fad 1 (.tmp 5)),none⟩,⟨(some 7),(.ld1 (.tmp 6)),none⟩,⟨(some 8),(.ar .add (.tmp 7) (.const (.int .i64 1))),none⟩,⟨(some 9),(.nilck (.tmp 4)),none⟩,⟨(some 10),(.fad 1 (.tmp 9)),none⟩,⟨none,(.st1 (.tmp 10) (.tmp 8)),none⟩])
  (.reg [⟨(some 11),(.mv (.tmp 0)),none⟩,⟨(some 12),(.ldn 6 (.tmp 3)),none⟩,⟨(some 13),(.nilck (.tmp 11)),none⟩,⟨(some 14),(.fad 2 (.tmp 13)),none⟩,⟨none,(.stn 6 (.tmp 14) (.tmp 12)),none⟩])))⟩:=by kernel_rfl

theorem tr116:trF Tryz.prog pures Tryz.f116=some
 ⟨27,[(.t 2)],
  (.seq (.reg [⟨(some 1),(.box 170 (.tmp 0)),none⟩,⟨(some 2),(.mv (.const (.int .u64 0))),none⟩])
  (.seq (.seq
  (.reg [⟨(some 3),(.fad 0 (.tmp 1)),none⟩,⟨(some 4),(.ld1 (.tmp 3)),none⟩,⟨(some 5),(.cmp .lss (.tmp 4) (.const (.int .i64 0))),none⟩,⟨(some 6),(.mv (.tmp 5)),none⟩,⟨(some 7),(.fad 0 (.tmp 1)),(some (6,false))⟩,⟨(some 8),(.ld1 (.tmp 7)),(some (6,false))⟩,⟨(some 9),(.cmp .gtr (.tmp 8) (.const (.int .i64 3))),(some (6,false))⟩,⟨(some 10),(.pick (.tmp 6) (.const (.bool true)) (.tmp 9)),none⟩,⟨(some 11),(.mv (.tmp 10)),none⟩,⟨(some 12),(.fad 0 (.tmp 1)),(some (11,false))⟩,⟨(some 13),(.ld1 (.tmp 12)),(some (11,false))⟩,⟨(some 14),(.cmp .eql (.tmp 13) (.const (.int .i64 0))),(some (11,false))⟩,⟨(some 15),(.mv (.tmp 14)),(some (11,false))⟩,⟨(some 16),(.fad 1 (.tmp 1)),(some (15,true))⟩,⟨(some 17),(.ld1 (.tmp 16)),(some (15,true))⟩,⟨(some 18),(.cmp .neq (.tmp 17) (.const (.int .i64 0))),(some (15,true))⟩,⟨(some 19),(.pick (.tmp 15) (.tmp 18) (.const (.bool false))),(some (11,false))⟩,⟨(some 20),(.pick (.tmp 11) (.const (.bool true)) (.tmp 19)),none⟩])
  (.cond (.tmp 20)
  (.seq (.reg [⟨(some 2),(.mv (.const (.int .u64 0))),none⟩]) .ret) .skip))
  (.seq (.reg [⟨(some 21),(.fad 0 (.tmp 1)),none⟩,⟨(some 22),(.ld1 (.tmp 21)),none⟩,⟨(some 23),(.fad 1 (.tmp 1)),none⟩,⟨(some 24),(.ld1 (.tmp 23)),none⟩,⟨(some 25),(.bsl 3 #[(.int .i64 0)] 1 1 [(0,(.tmp 24))]),none⟩,⟨(some 26),(.call 141 [(.tmp 22),(.tmp 25)]),none⟩,⟨(some 2),(.mv (.tmp 26)),none⟩]) .ret)))⟩:=by kernel_rfl

theorem tr122:trF Tryz.prog pures Tryz.f122=some
 ⟨25,[],
  (.seq (.reg [⟨(some 3),(.box 33 (.tmp 1)),none⟩])
  (.seq (.reg [⟨(some 4),(.mv (.tmp 0)),none⟩,⟨(some 5),(.nilck (.tmp 4)),none⟩,⟨(some 6),(.fad 1 (.tmp 5)),none⟩,⟨(some 7),(.ld1 (.tmp 6)),none⟩,⟨(some 8),(.ar .add (.tmp 7) (.const (.int .i64 1))),none⟩,⟨(some 9),(.nilck (.tmp 4)),none⟩,⟨(some 10),(.fad 1 (.tmp 9)),none⟩,⟨none,(.st1 (.tmp 10) (.tmp 8)),none⟩])
  (.seq (.reg [⟨(some 11),(.mv (.tmp 0)),none⟩,⟨(some 12),(.ldn 6 (.tmp 3)),none⟩,⟨(some 13),(.nilck (.tmp 11)),none⟩,⟨(some 14),(.fad 2 (.tmp 13)),none⟩,⟨none,(.stn 6 (.tmp 14) (.tmp 12)),none⟩])
  (.draw (.take ⟨(some 15),(.mv (.tmp 0)),none⟩ (.take ⟨(some 16),(.mv (.tmp 0)),none⟩ (.take ⟨(some 17),(.nilck (.tmp 16)),none⟩ (.take ⟨(some 18),(.fad 8 (.tmp 17)),none⟩ (.take ⟨(some 19),(.ld1 (.tmp 18)),none⟩ (.take ⟨(some 20),(.ldn 6 (.tmp 3)),none⟩ (.alt false ⟨(some 21),(.bsl 33 #[(.int .i64 0),(.int .i64 0),(.int .i64 0),(.int .u64 0),(.int .u64 0),(.bool false)] 1 6 [(0,(.tmp 20))]),none⟩ (.alt false ⟨(some 22),(.app 33 6 48 #[(.int .i64 0),(.int .i64 0),(.int .i64 0),(.int .u64 0),(.int .u64 0),(.bool false)] (.tmp 19) (.tmp 21)),none⟩ (.take ⟨(some 23),(.nilck (.tmp 15)),none⟩ (.take ⟨(some 24),(.fad 8 (.tmp 23)),none⟩ (.alt true ⟨none,(.st1 (.tmp 24) (.tmp 22)),none⟩ .done .stop))) .stop) .stop)))))))))))⟩:=by kernel_rfl

theorem tr134:trF Tryz.prog pures Tryz.f134=some
 ⟨44,[(.t 10)],
  (.seq (.reg [⟨(some 10),(.mv (.const (.bool false))),none⟩])
  (.seq (.reg [⟨(some 12),(.mv (.tmp 0)),none⟩,⟨(some 13),(.nilck (.tmp 12)),none⟩,⟨(some 14),(.fad 0 (.tmp 13)),none⟩,⟨(some 15),(.ld1 (.tmp 14)),none⟩,⟨(some 16),(.mv (.tmp 2)),none⟩,⟨(some 17),(.iad 1 (.tmp 15) (.tmp 16)),none⟩,⟨(some 18),(.ld1 (.tmp 17)),none⟩,⟨(some 19),(.mv (.tmp 3)),none⟩,⟨(some 20),(.cmp .eql (.tmp 18) (.tmp 19)),none⟩,⟨(some 11),(.mv (.tmp 20)),none⟩])
  (.seq (.reg [⟨(some 21),(.mv (.tmp 0)),none⟩,⟨(some 22),(.mv (.tmp 1)),none⟩,⟨(some 23),(.mv (.tmp 2)),none⟩,⟨(some 24),(.mv (.tmp 0)),none⟩,⟨(some 25),(.nilck (.tmp 24)),none⟩,⟨(some 26),(.fad 0 (.tmp 25)),none⟩,⟨(some 27),(.ld1 (.tmp 26)),none⟩,⟨(some 28),(.mv (.tmp 2)),none⟩,⟨(some 29),(.iad 1 (.tmp 27) (.tmp 28)),none⟩,⟨(some 30),(.ld1 (.tmp 29)),none⟩,⟨(some 31),(.mv (.tmp 4)),none⟩,⟨(some 32),(.mv (.tmp 11)),none⟩,⟨(some 33),(.bld #[(.int .i64 0),(.int .i64 0),(.int .i64 0),(.int .u64 0),(.int .u64 0),(.bool false)] [(0,(1,(.tmp 22))),(1,(1,(.const (.int .i64 2)))),(2,(1,(.tmp 23))),(3,(1,(.tmp 30))),(4,(1,(.tmp 31))),(5,(1,(.tmp 32)))]),none⟩,⟨(some 34),(.call 122 [(.tmp 21),(.tmp 33)]),none⟩])
  (.seq (.seq
  (.reg [⟨(some 35),(.mv (.tmp 11)),none⟩])
  (.cond (.tmp 35)
  (.reg [⟨(some 36),(.mv (.tmp 0)),none⟩,⟨(some 37),(.nilck (.tmp 36)),none⟩,⟨(some 38),(.fad 0 (.tmp 37)),none⟩,⟨(some 39),(.ld1 (.tmp 38)),none⟩,⟨(some 40),(.mv (.tmp 2)),none⟩,⟨(some 41),(.mv (.tmp 4)),none⟩,⟨(some 42),(.iad 1 (.tmp 39) (.tmp 40)),none⟩,⟨none,(.st1 (.tmp 42) (.tmp 41)),none⟩]) .skip))
  (.seq (.reg [⟨(some 43),(.mv (.tmp 11)),none⟩,⟨(some 10),(.mv (.tmp 43)),none⟩]) .ret)))))⟩:=by kernel_rfl

theorem tr139:trF Tryz.prog pures Tryz.f139=some
 ⟨6,[(.t 2)],
  (.seq (.reg [⟨(some 2),(.mv (.const (.int .i64 0))),none⟩])
  (.seq (.reg [⟨(some 3),(.mv (.tmp 0)),none⟩,⟨(some 4),(.bt .and (.tmp 3) (.const (.int .u64 15))),none⟩,⟨(some 5),(.cv .i64 (.tmp 4)),none⟩,⟨(some 2),(.mv (.tmp 5)),none⟩]) .ret))⟩:=by kernel_rfl

theorem tr140:trF Tryz.prog pures Tryz.f140=some
 ⟨12,[(.t 4)],
  (.seq (.reg [⟨(some 4),(.mv (.const (.int .i64 0))),none⟩])
  (.seq (.reg [⟨(some 5),(.mv (.tmp 0)),none⟩,⟨(some 6),(.mv (.tmp 1)),none⟩,⟨(some 7),(.ar .mul (.const (.int .i64 8)) (.tmp 6)),none⟩,⟨(some 8),(.ar .add (.const (.int .i64 4)) (.tmp 7)),none⟩,⟨(some 9),(.sh .shr (.tmp 5) (.tmp 8)),none⟩,⟨(some 10),(.bt .and (.tmp 9) (.const (.int .u64 255))),none⟩,⟨(some 11),(.cv .i64 (.tmp 10)),none⟩,⟨(some 4),(.mv (.tmp 11)),none⟩]) .ret))⟩:=by kernel_rfl

theorem tr141:trF Tryz.prog pures Tryz.f141=some
 ⟨33,[(.t 4)],
  (.seq (.reg [⟨(some 4),(.mv (.const (.int .u64 0))),none⟩])
  (.seq (.reg [⟨(some 8),(.mv (.tmp 0)),none⟩,⟨(some 9),(.cv .u64 (.tmp 8)),none⟩,⟨(some 5),(.mv (.tmp 9)),none⟩])
  (.seq (.seq
  (.reg [⟨(some 10),(.mv (.tmp 1)),none⟩,⟨(some 11),(.len (.tmp 10)),none⟩,⟨(some 12),(.mv (.const (.int .i64 0))),none⟩])
  (.block 0
  (.loop (.seq
  (.reg [⟨(some 13),(.cmp .lss (.tmp 12) (.tmp 11)),none⟩])
  (.seq (.cond (.tmp 13) .skip (.exit 0))
  (.seq (.block 1
  (.seq (.reg [⟨(some 14),(.mv (.tmp 12)),none⟩,⟨(some 15),(.iad 1 (.tmp 10) (.tmp 12)),none⟩,⟨(some 16),(.ld1 (.tmp 15)),none⟩,⟨(some 6),(.mv (.tmp 14)),none⟩,⟨(some 7),(.mv (.tmp 16)),none⟩])
  (.seq (.seq
  (.reg [⟨(some 17),(.mv (.tmp 7)),none⟩,⟨(some 18),(.cmp .lss (.tmp 17) (.const (.int .i64 0))),none⟩,⟨(some 19),(.mv (.tmp 18)),none⟩,⟨(some 20),(.mv (.tmp 7)),(some (19,false))⟩,⟨(some 21),(.cmp .gtr (.tmp 20) (.const (.int .i64 255))),(some (19,false))⟩,⟨(some 22),(.pick (.tmp 19) (.const (.bool true)) (.tmp 21)),none⟩])
  (.cond (.tmp 22)
  (.seq (.reg [⟨(some 4),(.mv (.const (.int .u64 0))),none⟩]) .ret) .skip))
  (.reg [⟨(some 23),(.mv (.tmp 5)),none⟩,⟨(some 24),(.mv (.tmp 7)),none⟩,⟨(some 25),(.cv .u64 (.tmp 24)),none⟩,⟨(some 26),(.mv (.tmp 6)),none⟩,⟨(some 27),(.ar .mul (.const (.int .i64 8)) (.tmp 26)),none⟩,⟨(some 28),(.ar .add (.const (.int .i64 4)) (.tmp 27)),none⟩,⟨(some 29),(.sh .shl (.tmp 25) (.tmp 28)),none⟩,⟨(some 30),(.bt .or (.tmp 23) (.tmp 29)),none⟩,⟨(some 5),(.mv (.tmp 30)),none⟩]))))
  (.reg [⟨(some 31),(.ar .add (.tmp 12) (.const (.int .i64 1))),none⟩,⟨(some 12),(.mv (.tmp 31)),none⟩])))))))
  (.seq (.reg [⟨(some 32),(.mv (.tmp 5)),none⟩,⟨(some 4),(.mv (.tmp 32)),none⟩]) .ret))))⟩:=by kernel_rfl

theorem tr142:trF Tryz.prog pures Tryz.f142=some
 ⟨35,[(.cn 6 3),(.t 7)],
  (.seq (.reg [⟨(some 3),(.box 23 (.tmp 0)),none⟩,⟨(some 6),(.alc 120 (.agg #[(.int .i64 0),(.int .i64 0),(.int .i64 0)])),none⟩,⟨(some 7),(.mv (.const (.bool false))),none⟩])
  (.seq (.reg [⟨(some 9),(.mv (.tmp 2)),none⟩,⟨(some 10),(.pcall 139 [(.tmp 9)]),none⟩,⟨(some 11),(.mv (.tmp 2)),none⟩,⟨(some 12),(.pcall 140 [(.tmp 11),(.const (.int .i64 0))]),none⟩,⟨(some 13),(.mv (.tmp 2)),none⟩,⟨(some 14),(.pcall 140 [(.tmp 13),(.const (.int .i64 1))]),none⟩,⟨(some 15),(.bld #[(.int .i64 0),(.int .i64 0),(.int .i64 0)] [(0,(1,(.tmp 10))),(1,(1,(.tmp 12))),(2,(1,(.tmp 14)))]),none⟩,⟨(some 8),(.alc 120 (.agg #[(.int .i64 0),(.int .i64 0),(.int .i64 0)])),none⟩,⟨none,(.stn 3 (.tmp 8) (.tmp 15)),none⟩])
  (.seq (.seq
  (.reg [⟨(some 16),(.ldn 3 (.tmp 8)),none⟩,⟨(some 17),(.pcall 147 [(.tmp 16)]),none⟩,⟨(some 18),(.mv (.tmp 2)),none⟩,⟨(some 19),(.cmp .neq (.tmp 17) (.tmp 18)),none⟩,⟨(some 20),(.mv (.tmp 19)),none⟩,⟨(some 21),(.ldn 3 (.tmp 3)),(some (20,false))⟩,⟨(some 22),(.mv (.tmp 1)),(some (20,false))⟩,⟨(some 23),(.pcall 112 [(.tmp 21),(.tmp 22)]),(some (20,false))⟩,⟨(some 24),(.cmp .lss (.tmp 23) (.const (.int .i64 0))),(some (20,false))⟩,⟨(some 25),(.pick (.tmp 20) (.const (.bool true)) (.tmp 24)),none⟩,⟨(some 26),(.mv (.tmp 25)),none⟩,⟨(some 27),(.ldn 3 (.tmp 3)),(some (26,false))⟩,⟨(some 28),(.mv (.tmp 1)),(some (26,false))⟩,⟨(some 29),(.ldn 3 (.tmp 8)),(some (26,false))⟩,⟨(some 30),(.pcall 148 [(.tmp 27),(.tmp 28),(.tmp 29)]),(some (26,false))⟩,⟨(some 31),(.nt (.tmp 30)),(some (26,false))⟩,⟨(some 32),(.pick (.tmp 26) (.const (.bool true)) (.tmp 31)),none⟩])
  (.cond (.tmp 32)
  (.seq (.reg [⟨(some 33),(.bld #[(.int .i64 0),(.int .i64 0),(.int .i64 0)] []),none⟩,⟨none,(.stn 3 (.tmp 6) (.tmp 33)),none⟩,⟨(some 7),(.mv (.const (.bool false))),none⟩]) .ret) .skip))
  (.seq (.reg [⟨(some 34),(.ldn 3 (.tmp 8)),none⟩,⟨none,(.stn 3 (.tmp 6) (.tmp 34)),none⟩,⟨(some 7),(.mv (.const (.bool true))),none⟩]) .ret))))⟩:=by kernel_rfl

theorem tr143:trF Tryz.prog pures Tryz.f143=some
 ⟨8,[(.t 2)],
  (.seq (.reg [⟨(some 2),(.mv (.const (.int .i64 0))),none⟩])
  (.seq (.seq
  (.reg [⟨(some 3),(.mv (.tmp 0)),none⟩,⟨(some 4),(.pcall 101 [(.tmp 3),(.const (.int .i64 0)),(.const (.int .i64 3))]),none⟩,⟨(some 5),(.nt (.tmp 4)),none⟩])
  (.cond (.tmp 5)
  (.seq (.reg [⟨(some 2),(.mv (.const (.int .i64 0))),none⟩]) .ret) .skip))
  (.seq (.reg [⟨(some 6),(.mv (.tmp 0)),none⟩,⟨(some 7),(.sh .shr (.const (.int .i64 16)) (.tmp 6)),none⟩,⟨(some 2),(.mv (.tmp 7)),none⟩]) .ret)))⟩:=by kernel_rfl

theorem tr147:trF Tryz.prog pures Tryz.f147=some
 ⟨39,[(.t 2)],
  (.seq (.reg [⟨(some 1),(.box 120 (.tmp 0)),none⟩,⟨(some 2),(.mv (.const (.int .u64 0))),none⟩])
  (.seq (.seq
  (.reg [⟨(some 3),(.fad 0 (.tmp 1)),none⟩,⟨(some 4),(.ld1 (.tmp 3)),none⟩,⟨(some 5),(.cmp .lss (.tmp 4) (.const (.int .i64 0))),none⟩,⟨(some 6),(.mv (.tmp 5)),none⟩,⟨(some 7),(.fad 0 (.tmp 1)),(some (6,false))⟩,⟨(some 8),(.ld1 (.tmp 7)),(some (6,false))⟩,⟨(some 9),(.cmp .gtr (.tmp 8) (.const (.int .i64 4))),(some (6,false))⟩,⟨(some 10),(.pick (.tmp 6) (.const (.bool true)) (.tmp 9)),none⟩,⟨(some 11),(.mv (.tmp 10)),none⟩,⟨(some 12),(.fad 0 (.tmp 1)),(some (11,false))⟩,⟨(some 13),(.ld1 (.tmp 12)),(some (11,false))⟩,⟨(some 14),(.cmp .eql (.tmp 13) (.const (.int .i64 0))),(some (11,false))⟩,⟨(some 15),(.mv (.tmp 14)),(some (11,false))⟩,⟨(some 16),(.fad 1 (.tmp 1)),(some (15,true))⟩,⟨(some 17),(.ld1 (.tmp 16)),(some (15,true))⟩,⟨(some 18),(.cmp .neq (.tmp 17) (.const (.int .i64 0))),(some (15,true))⟩,⟨(some 19),(.pick (.tmp 15) (.tmp 18) (.const (.bool false))),(some (11,false))⟩,⟨(some 20),(.pick (.tmp 11) (.const (.bool true)) (.tmp 19)),none⟩,⟨(some 21),(.mv (.tmp 20)),none⟩,⟨(some 22),(.fad 0 (.tmp 1)),(some (21,false))⟩,⟨(some 23),(.ld1 (.tmp 22)),(some (21,false))⟩,⟨(some 24),(.cmp .neq (.tmp 23) (.const (.int .i64 2))),(some (21,false))⟩,⟨(some 25),(.mv (.tmp 24)),(some (21,false))⟩,⟨(some 26),(.fad 2 (.tmp 1)),(some (25,true))⟩,⟨(some 27),(.ld1 (.tmp 26)),(some (25,true))⟩,⟨(some 28),(.cmp .neq (.tmp 27) (.const (.int .i64 0))),(some (25,true))⟩,⟨(some 29),(.pick (.tmp 25) (.tmp 28) (.const (.bool false))),(some (21,false))⟩,⟨(some 30),(.pick (.tmp 21) (.const (.bool true)) (.tmp 29)),none⟩])
  (.cond (.tmp 30)
  (.seq (.reg [⟨(some 2),(.mv (.const (.int .u64 0))),none⟩]) .ret) .skip))
  (.seq (.reg [⟨(some 31),(.fad 0 (.tmp 1)),none⟩,⟨(some 32),(.ld1 (.tmp 31)),none⟩,⟨(some 33),(.fad 1 (.tmp 1)),none⟩,⟨(some 34),(.ld1 (.tmp 33)),none⟩,⟨(some 35),(.fad 2 (.tmp 1)),none⟩,⟨(some 36),(.ld1 (.tmp 35)),none⟩,⟨(some 37),(.bsl 3 #[(.int .i64 0),(.int .i64 0)] 2 1 [(0,(.tmp 34)),(1,(.tmp 36))]),none⟩,⟨(some 38),(.call 141 [(.tmp 32),(.tmp 37)]),none⟩,⟨(some 2),(.mv (.tmp 38)),none⟩]) .ret)))⟩:=by kernel_rfl

theorem tr148:trF Tryz.prog pures Tryz.f148=some
 ⟨60,[(.t 6)],
  (.seq (.reg [⟨(some 3),(.box 23 (.tmp 0)),none⟩,⟨(some 5),(.box 120 (.tmp 2)),none⟩,⟨(some 6),(.mv (.const (.bool false))),none⟩])
  (.seq (.seq
  (.reg [⟨(some 7),(.fad 0 (.tmp 5)),none⟩,⟨(some 8),(.ld1 (.tmp 7)),none⟩])
  (.block 0
  (.seq (.reg [⟨(some 10),(.cmp .eql (.tmp 8) (.const (.int .i64 1))),none⟩,⟨(some 9),(.mv (.tmp 10)),none⟩])
  (.cond (.tmp 9)
  (.seq (.reg [⟨(some 11),(.fad 1 (.tmp 5)),none⟩,⟨(some 12),(.ld1 (.tmp 11)),none⟩,⟨(some 13),(.fad 1 (.tmp 3)),none⟩,⟨(some 14),(.ld1 (.tmp 13)),none⟩,⟨(some 15),(.cmp .lss (.tmp 12) (.tmp 14)),none⟩,⟨(some 6),(.mv (.tmp 15)),none⟩]) .ret)
  (.seq (.reg [⟨(some 17),(.cmp .eql (.tmp 8) (.const (.int .i64 2))),none⟩,⟨(some 16),(.mv (.tmp 17)),none⟩])
  (.cond (.tmp 16)
  (.seq (.reg [⟨(some 18),(.fad 1 (.tmp 5)),none⟩,⟨(some 19),(.ld1 (.tmp 18)),none⟩,⟨(some 20),(.cmp .lss (.tmp 19) (.const (.int .i64 4))),none⟩,⟨(some 21),(.mv (.tmp 20)),none⟩,⟨(some 22),(.fad 2 (.tmp 5)),(some (21,true))⟩,⟨(some 23),(.ld1 (.tmp 22)),(some (21,true))⟩,⟨(some 24),(.fad 1 (.tmp 3)),(some (21,true))⟩,⟨(some 25),(.ld1 (.tmp 24)),(some (21,true))⟩,⟨(some 26),(.cmp .lss (.tmp 23) (.tmp 25)),(some (21,true))⟩,⟨(some 27),(.pick (.tmp 21) (.tmp 26) (.const (.bool false))),none⟩,⟨(some 6),(.mv (.tmp 27)),none⟩]) .ret)
  (.seq (.reg [⟨(some 29),(.cmp .eql (.tmp 8) (.const (.int .i64 3))),none⟩,⟨(some 28),(.mv (.tmp 29)),none⟩])
  (.cond (.tmp 28)
  (.seq (.reg [⟨(some 30),(.fad 1 (.tmp 5)),none⟩,⟨(some 31),(.ld1 (.tmp 30)),none⟩,⟨(some 32),(.cmp .geq (.tmp 31) (.const (.int .i64 1))),none⟩,⟨(some 33),(.mv (.tmp 32)),none⟩,⟨(some 34),(.fad 1 (.tmp 5)),(some (33,true))⟩,⟨(some 35),(.ld1 (.tmp 34)),(some (33,true))⟩,⟨(some 36),(.cmp .leq (.tmp 35) (.const (.int .i64 8))),(some (33,true))⟩,⟨(some 37),(.pick (.tmp 33) (.tmp 36) (.const (.bool false))),none⟩,⟨(some 38),(.mv (.tmp 37)),none⟩,⟨(some 39),(.fad 1 (.tmp 5)),(some (38,true))⟩,⟨(some 40),(.ld1 (.tmp 39)),(some (38,true))⟩,⟨(some 41),(.fad 0 (.tmp 3)),(some (38,true))⟩,⟨(some 42),(.ld1 (.tmp 41)),(some (38,true))⟩,⟨(some 43),(.mv (.tmp 1)),(some (38,true))⟩,⟨(some 44),(.ar .sub (.tmp 42) (.tmp 43)),(some (38,true))⟩,⟨(some 45),(.cmp .leq (.tmp 40) (.tmp 44)),(some (38,true))⟩,⟨(some 46),(.pick (.tmp 38) (.tmp 45) (.const (.bool false))),none⟩,⟨(some 6),(.mv (.tmp 46)),none⟩]) .ret)
  (.seq (.reg [⟨(some 48),(.cmp .eql (.tmp 8) (.const (.int .i64 4))),none⟩,⟨(some 47),(.mv (.tmp 48)),none⟩])
  (.cond (.tmp 47)
  (.seq (.reg [⟨(some 49),(.fad 1 (.tmp 5)),none⟩,⟨(some 50),(.ld1 (.tmp 49)),none⟩,⟨(some 51),(.mv (.tmp 1)),none⟩,⟨(some 52),(.cmp .lss (.tmp 50) (.tmp 51)),none⟩,⟨(some 53),(.mv (.tmp 52)),none⟩,⟨(some 54),(.fad 1 (.tmp 5)),(some (53,true))⟩,⟨(some 55),(.ld1 (.tmp 54)),(some (53,true))⟩,⟨(some 56),(.mv (.tmp 1)),(some (53,true))⟩,⟨(some 57),(.ar .sub (.tmp 56) (.const (.int .i64 8))),(some (53,true))⟩,⟨(some 58),(.cmp .gtr (.tmp 55) (.tmp 57)),(some (53,true))⟩,⟨(some 59),(.pick (.tmp 53) (.tmp 58) (.const (.bool false))),none⟩,⟨(some 6),(.mv (.tmp 59)),none⟩]) .ret) .skip))))))))))
  (.seq (.reg [⟨(some 6),(.mv (.const (.bool true))),none⟩]) .ret)))⟩:=by kernel_rfl

theorem tr15:trF Tryz.prog pures Tryz.f15=some
 ⟨18,[(.t 6)],
  (.seq (.reg [⟨(some 6),(.mv (.const (.bool false))),none⟩])
  (.seq (.seq
  (.reg [⟨(some 7),(.mv (.tmp 0)),none⟩,⟨(some 8),(.mv (.tmp 1)),none⟩,⟨(some 9),(.call 54 [(.tmp 7),(.tmp 8)]),none⟩,⟨(some 10),(.nt (.tmp 9)),none⟩])
  (.cond (.tmp 10)
  (.seq (.reg [⟨(some 6),(.mv (.const (.bool false))),none⟩]) .ret) .skip))
  (.seq (.reg [⟨(some 11),(.mv (.tmp 0)),none⟩,⟨(some 12),(.nilck (.tmp 11)),none⟩,⟨(some 13),(.fad 0 (.tmp 12)),none⟩,⟨(some 14),(.ld1 (.tmp 13)),none⟩,⟨(some 15),(.mv (.tmp 1)),none⟩,⟨(some 16),(.mv (.tmp 2)),none⟩,⟨(some 17),(.iad 1 (.tmp 14) (.tmp 15)),none⟩,⟨none,(.st1 (.tmp 17) (.tmp 16)),none⟩])
  (.seq (.reg [⟨(some 6),(.mv (.const (.bool true))),none⟩]) .ret))))⟩:=by kernel_rfl

theorem tr17:trF Tryz.prog pures Tryz.f17=some
 ⟨10,[(.t 2)],
  (.seq (.reg [⟨(some 2),(.mv (.const (.slice none 0 0))),none⟩])
  (.seq (.seq
  (.reg [⟨(some 3),(.mv (.tmp 0)),none⟩,⟨(some 4),(.pnil false (.tmp 3)),none⟩])
  (.cond (.tmp 4)
  (.seq (.reg [⟨(some 2),(.mv (.const (.slice none 0 0))),none⟩]) .ret) .skip))
  (.seq (.reg [⟨(some 5),(.mv (.tmp 0)),none⟩,⟨(some 6),(.nilck (.tmp 5)),none⟩,⟨(some 7),(.fad 0 (.tmp 6)),none⟩,⟨(some 8),(.ld1 (.tmp 7)),none⟩,⟨(some 9),(.call 58 [(.tmp 8)]),none⟩,⟨(some 2),(.mv (.tmp 9)),none⟩]) .ret)))⟩:=by kernel_rfl

theorem tr22:trF Tryz.prog pures Tryz.f22=some
 ⟨21,[(.t 2)],
  (.seq (.reg [⟨(some 1),(.box 23 (.tmp 0)),none⟩,⟨(some 2),(.mv (.const (.int .i64 0))),none⟩])
  (.seq (.seq
  (.reg [⟨(some 3),(.ldn 3 (.tmp 1)),none⟩,⟨(some 4),(.pcall 24 [(.tmp 3)]),none⟩,⟨(some 5),(.nt (.tmp 4)),none⟩])
  (.cond (.tmp 5)
  (.seq (.reg [⟨(some 2),(.mv (.const (.int .i64 0))),none⟩]) .ret) .skip))
  (.seq (.reg [⟨(some 6),(.fad 1 (.tmp 1)),none⟩,⟨(some 7),(.ld1 (.tmp 6)),none⟩,⟨(some 8),(.fad 0 (.tmp 1)),none⟩,⟨(some 9),(.ld1 (.tmp 8)),none⟩,⟨(some 10),(.ar .add (.tmp 7) (.tmp 9)),none⟩,⟨(some 11),(.fad 0 (.tmp 1)),none⟩,⟨(some 12),(.ld1 (.tmp 11)),none⟩,⟨(some 13),(.ar .mul (.const (.int .i64 16)) (.tmp 12)),none⟩,⟨(some 14),(.ar .add (.tmp 10) (.tmp 13)),none⟩,⟨(some 15),(.fad 1 (.tmp 1)),none⟩,⟨(some 16),(.ld1 (.tmp 15)),none⟩,⟨(some 17),(.fad 2 (.tmp 1)),none⟩,⟨(some 18),(.ld1 (.tmp 17)),none⟩,⟨(some 19),(.ar .mul (.tmp 16) (.tmp 18)),none⟩,⟨(some 20),(.ar .add (.tmp 14) (.tmp 19)),none⟩,⟨(some 2),(.mv (.tmp 20)),none⟩]) .ret)))⟩:=by kernel_rfl

theorem tr23:trF Tryz.prog pures Tryz.f23=some
 ⟨16,[(.t 4)],
  (.seq (.reg [⟨(some 4),(.mv (.const (.int .u64 0))),none⟩])
  (.seq (.seq
  (.reg [⟨(some 5),(.mv (.tmp 0)),none⟩,⟨(some 6),(.mv (.tmp 1)),none⟩,⟨(some 7),(.call 54 [(.tmp 5),(.tmp 6)]),none⟩,⟨(some 8),(.nt (.tmp 7)),none⟩])
  (.cond (.tmp 8)
  (.seq (.reg [⟨(some 4),(.mv (.const (.int .u64 0))),none⟩]) .ret) .skip))
  (.seq (.reg [⟨(some 9),(.mv (.tmp 0)),none⟩,⟨(some 10),(.nilck (.tmp 9)),none⟩,⟨(some 11),(.fad 0 (.tmp 10)),none⟩,⟨(some 12),(.ld1 (.tmp 11)),none⟩,⟨(some 13),(.mv (.tmp 1)),none⟩,⟨(some 14),(.iad 1 (.tmp 12) (.tmp 13)),none⟩,⟨(some 15),(.ld1 (.tmp 14)),none⟩,⟨(some 4),(.mv (.tmp 15)),none⟩]) .ret)))⟩:=by kernel_rfl

theorem tr24:trF Tryz.prog pures Tryz.f24=some
 ⟨31,[(.t 2)],
  (.seq (.reg [⟨(some 1),(.box 23 (.tmp 0)),none⟩,⟨(some 2),(.mv (.const (.bool false))),none⟩])
  (.seq (.reg [⟨(some 3),(.fad 0 (.tmp 1)),none⟩,⟨(some 4),(.ld1 (.tmp 3)),none⟩,⟨(some 5),(.cmp .geq (.tmp 4) (.const (.int .i64 1))),none⟩,⟨(some 6),(.mv (.tmp 5)),none⟩,⟨(some 7),(.fad 0 (.tmp 1)),(some (6,true))⟩,⟨(some 8),(.ld1 (.tmp 7)),(some (6,true))⟩,⟨(some 9),(.cmp .leq (.tmp 8) (.const (.int .i64 64))),(some (6,true))⟩,⟨(some 10),(.pick (.tmp 6) (.tmp 9) (.const (.bool false))),none⟩,⟨(some 11),(.mv (.tmp 10)),none⟩,⟨(some 12),(.fad 1 (.tmp 1)),(some (11,true))⟩,⟨(some 13),(.ld1 (.tmp 12)),(some (11,true))⟩,⟨(some 14),(.cmp .geq (.tmp 13) (.const (.int .i64 1))),(some (11,true))⟩,⟨(some 15),(.pick (.tmp 11) (.tmp 14) (.const (.bool false))),none⟩,⟨(some 16),(.mv (.tmp 15)),none⟩,⟨(some 17),(.fad 1 (.tmp 1)),(some (16,true))⟩,⟨(some 18),(.ld1 (.tmp 17)),(some (16,true))⟩,⟨(some 19),(.cmp .leq (.tmp 18) (.const (.int .i64 12))),(some (16,true))⟩,⟨(some 20),(.pick (.tmp 16) (.tmp 19) (.const (.bool false))),none⟩,⟨(some 21),(.mv (.tmp 20)),none⟩,⟨(some 22),(.fad 2 (.tmp 1)),(some (21,true))⟩,⟨(some 23),(.ld1 (.tmp 22)),(some (21,true))⟩,⟨(some 24),(.cmp .geq (.tmp 23) (.const (.int .i64 0))),(some (21,true))⟩,⟨(some 25),(.pick (.tmp 21) (.tmp 24) (.const (.bool false))),none⟩,⟨(some 26),(.mv (.tmp 25)),none⟩,⟨(some 27),(.fad 2 (.tmp 1)),(some (26,true))⟩,⟨(some 28),(.ld1 (.tmp 27)),(some (26,true))⟩,⟨(some 29),(.cmp .leq (.tmp 28) (.const (.int .i64 8))),(some (26,true))⟩,⟨(some 30),(.pick (.tmp 26) (.tmp 29) (.const (.bool false))),none⟩,⟨(some 2),(.mv (.tmp 30)),none⟩]) .ret))⟩:=by kernel_rfl

theorem tr28:trF Tryz.prog pures Tryz.f28=some
 ⟨37,[(.t 6)],
  (.seq (.reg [⟨(some 3),(.box 23 (.tmp 0)),none⟩,⟨(some 6),(.mv (.const (.int .i64 0))),none⟩])
  (.seq (.seq
  (.reg [⟨(some 7),(.ldn 3 (.tmp 3)),none⟩,⟨(some 8),(.mv (.tmp 1)),none⟩,⟨(some 9),(.pcall 34 [(.tmp 7),(.tmp 8)]),none⟩,⟨(some 10),(.cmp .lss (.tmp 9) (.const (.int .i64 0))),none⟩,⟨(some 11),(.mv (.tmp 10)),none⟩,⟨(some 12),(.mv (.tmp 2)),(some (11,false))⟩,⟨(some 13),(.cmp .lss (.tmp 12) (.const (.int .i64 0))),(some (11,false))⟩,⟨(some 14),(.pick (.tmp 11) (.const (.bool true)) (.tmp 13)),none⟩,⟨(some 15),(.mv (.tmp 14)),none⟩,⟨(some 16),(.mv (.tmp 2)),(some (15,false))⟩,⟨(some 17),(.fad 2 (.tmp 3)),(some (15,false))⟩,⟨(some 18),(.ld1 (.tmp 17)),(some (15,false))⟩,⟨(some 19),(.cmp .geq (.tmp 16) (.tmp 18)),(some (15,false))⟩,⟨(some 20),(.pick (.tmp 15) (.const (.bool true)) (.tmp 19)),none⟩])
  (.cond (.tmp 20)
  (.seq (.reg [⟨(some 6),(.mv (.const (.int .i64 (-1)))),none⟩]) .ret) .skip))
  (.seq (.reg [⟨(some 21),(.fad 1 (.tmp 3)),none⟩,⟨(some 22),(.ld1 (.tmp 21)),none⟩,⟨(some 23),(.fad 0 (.tmp 3)),none⟩,⟨(some 24),(.ld1 (.tmp 23)),none⟩,⟨(some 25),(.ar .add (.tmp 22) (.tmp 24)),none⟩,⟨(some 26),(.fad 0 (.tmp 3)),none⟩,⟨(some 27),(.ld1 (.tmp 26)),none⟩,⟨(some 28),(.ar .mul (.const (.int .i64 16)) (.tmp 27)),none⟩,⟨(some 29),(.ar .add (.tmp 25) (.tmp 28)),none⟩,⟨(some 30),(.fad 2 (.tmp 3)),none⟩,⟨(some 31),(.ld1 (.tmp 30)),none⟩,⟨(some 32),(.mv (.tmp 1)),none⟩,⟨(some 33),(.ar .mul (.tmp 31) (.tmp 32)),none⟩,⟨(some 34),(.ar .add (.tmp 29) (.tmp 33)),none⟩,⟨(some 35),(.mv (.tmp 2)),none⟩,⟨(some 36),(.ar .add (.tmp 34) (.tmp 35)),none⟩,⟨(some 6),(.mv (.tmp 36)),none⟩]) .ret)))⟩:=by kernel_rfl

theorem tr29:trF Tryz.prog pures Tryz.f29=some
 ⟨41,[(.cn 4 3),(.t 5)],
  (.seq (.reg [⟨(some 2),(.box 23 (.tmp 0)),none⟩,⟨(some 4),(.alc 73 (.agg #[(.int .i64 0),(.int .i64 0),(.int .i64 0)])),none⟩,⟨(some 5),(.mv (.const (.bool false))),none⟩])
  (.seq (.reg [⟨(some 7),(.mv (.tmp 1)),none⟩,⟨(some 8),(.sh .shr (.tmp 7) (.const (.int .u64 4))),none⟩,⟨(some 9),(.bt .and (.tmp 8) (.const (.int .u64 255))),none⟩,⟨(some 10),(.cv .i64 (.tmp 9)),none⟩,⟨(some 11),(.mv (.tmp 1)),none⟩,⟨(some 12),(.sh .shr (.tmp 11) (.const (.int .u64 12))),none⟩,⟨(some 13),(.bt .and (.tmp 12) (.const (.int .u64 255))),none⟩,⟨(some 14),(.cv .i64 (.tmp 13)),none⟩,⟨(some 15),(.mv (.tmp 1)),none⟩,⟨(some 16),(.sh .shr (.tmp 15) (.const (.int .u64 20))),none⟩,⟨(some 17),(.bt .and (.tmp 16) (.const (.int .u64 255))),none⟩,⟨(some 18),(.cv .i64 (.tmp 17)),none⟩,⟨(some 19),(.bld #[(.int .i64 0),(.int .i64 0),(.int .i64 0)] [(0,(1,(.tmp 10))),(1,(1,(.tmp 14))),(2,(1,(.tmp 18)))]),none⟩,⟨(some 6),(.alc 73 (.agg #[(.int .i64 0),(.int .i64 0),(.int .i64 0)])),none⟩,⟨none,(.stn 3 (.tmp 6) (.tmp 19)),none⟩])
  (.seq (.seq
  (.reg [⟨(some 20),(.ldn 3 (.tmp 6)),none⟩,⟨(some 21),(.pcall 70 [(.tmp 20)]),none⟩,⟨(some 22),(.mv (.tmp 1)),none⟩,⟨(some 23),(.cmp .neq (.tmp 21) (.tmp 22)),none⟩,⟨(some 24),(.mv (.tmp 23)),none⟩,⟨(some 25),(.ldn 3 (.tmp 2)),(some (24,false))⟩,⟨(some 26),(.fad 0 (.tmp 6)),(some (24,false))⟩,⟨(some 27),(.ld1 (.tmp 26)),(some (24,false))⟩,⟨(some 28),(.pcall 67 [(.tmp 25),(.tmp 27)]),(some (24,false))⟩,⟨(some 29),(.cmp .lss (.tmp 28) (.const (.int .i64 0))),(some (24,false))⟩,⟨(some 30),(.pick (.tmp 24) (.const (.bool true)) (.tmp 29)),none⟩,⟨(some 31),(.mv (.tmp 30)),none⟩,⟨(some 32),(.fad 1 (.tmp 6)),(some (31,false))⟩,⟨(some 33),(.ld1 (.tmp 32)),(some (31,false))⟩,⟨(some 34),(.fad 2 (.tmp 6)),(some (31,false))⟩,⟨(some 35),(.ld1 (.tmp 34)),(some (31,false))⟩,⟨(some 36),(.pcall 69 [(.tmp 35)]),(some (31,false))⟩,⟨(some 37),(.cmp .geq (.tmp 33) (.tmp 36)),(some (31,false))⟩,⟨(some 38),(.pick (.tmp 31) (.const (.bool true)) (.tmp 37)),none⟩])
  (.cond (.tmp 38)
  (.seq (.reg [⟨(some 39),(.bld #[(.int .i64 0),(.int .i64 0),(.int .i64 0)] []),none⟩,⟨none,(.stn 3 (.tmp 4) (.tmp 39)),none⟩,⟨(some 5),(.mv (.const (.bool false))),none⟩]) .ret) .skip))
  (.seq (.reg [⟨(some 40),(.ldn 3 (.tmp 6)),none⟩,⟨none,(.stn 3 (.tmp 4) (.tmp 40)),none⟩,⟨(some 5),(.mv (.const (.bool true))),none⟩]) .ret))))⟩:=by kernel_rfl

theorem tr30:trF Tryz.prog pures Tryz.f30=some
 ⟨29,[(.t 6)],
  (.seq (.reg [⟨(some 3),(.box 23 (.tmp 0)),none⟩,⟨(some 6),(.mv (.const (.int .i64 0))),none⟩])
  (.seq (.seq
  (.reg [⟨(some 7),(.ldn 3 (.tmp 3)),none⟩,⟨(some 8),(.mv (.tmp 1)),none⟩,⟨(some 9),(.pcall 67 [(.tmp 7),(.tmp 8)]),none⟩,⟨(some 10),(.cmp .lss (.tmp 9) (.const (.int .i64 0))),none⟩,⟨(some 11),(.mv (.tmp 10)),none⟩,⟨(some 12),(.mv (.tmp 2)),(some (11,false))⟩,⟨(some 13),(.cmp .lss (.tmp 12) (.const (.int .i64 0))),(some (11,false))⟩,⟨(some 14),(.pick (.tmp 11) (.const (.bool true)) (.tmp 13)),none⟩,⟨(some 15),(.mv (.tmp 14)),none⟩,⟨(some 16),(.mv (.tmp 2)),(some (15,false))⟩,⟨(some 17),(.cmp .geq (.tmp 16) (.const (.int .i64 16))),(some (15,false))⟩,⟨(some 18),(.pick (.tmp 15) (.const (.bool true)) (.tmp 17)),none⟩])
  (.cond (.tmp 18)
  (.seq (.reg [⟨(some 6),(.mv (.const (.int .i64 (-1)))),none⟩]) .ret) .skip))
  (.seq (.reg [⟨(some 19),(.fad 1 (.tmp 3)),none⟩,⟨(some 20),(.ld1 (.tmp 19)),none⟩,⟨(some 21),(.fad 0 (.tmp 3)),none⟩,⟨(some 22),(.ld1 (.tmp 21)),none⟩,⟨(some 23),(.ar .add (.tmp 20) (.tmp 22)),none⟩,⟨(some 24),(.mv (.tmp 1)),none⟩,⟨(some 25),(.ar .mul (.const (.int .i64 16)) (.tmp 24)),none⟩,⟨(some 26),(.ar .add (.tmp 23) (.tmp 25)),none⟩,⟨(some 27),(.mv (.tmp 2)),none⟩,⟨(some 28),(.ar .add (.tmp 26) (.tmp 27)),none⟩,⟨(some 6),(.mv (.tmp 28)),none⟩]) .ret)))⟩:=by kernel_rfl

theorem tr31:trF Tryz.prog pures Tryz.f31=some
 ⟨35,[(.t 2)],
  (.seq (.reg [⟨(some 1),(.box 78 (.tmp 0)),none⟩,⟨(some 2),(.mv (.const (.int .u64 0))),none⟩])
  (.seq (.seq
  (.reg [⟨(some 3),(.fad 0 (.tmp 1)),none⟩,⟨(some 4),(.ld1 (.tmp 3)),none⟩,⟨(some 5),(.cmp .lss (.tmp 4) (.const (.int .i64 0))),none⟩,⟨(some 6),(.mv (.tmp 5)),none⟩,⟨(some 7),(.fad 0 (.tmp 1)),(some (6,false))⟩,⟨(some 8),(.ld1 (.tmp 7)),(some (6,false))⟩,⟨(some 9),(.cmp .gtr (.tmp 8) (.const (.int .i64 3))),(some (6,false))⟩,⟨(some 10),(.pick (.tmp 6) (.const (.bool true)) (.tmp 9)),none⟩,⟨(some 11),(.mv (.tmp 10)),none⟩,⟨(some 12),(.fad 1 (.tmp 1)),(some (11,false))⟩,⟨(some 13),(.ld1 (.tmp 12)),(some (11,false))⟩,⟨(some 14),(.pcall 33 [(.tmp 13)]),(some (11,false))⟩,⟨(some 15),(.nt (.tmp 14)),(some (11,false))⟩,⟨(some 16),(.pick (.tmp 11) (.const (.bool true)) (.tmp 15)),none⟩,⟨(some 17),(.mv (.tmp 16)),none⟩,⟨(some 18),(.fad 0 (.tmp 1)),(some (17,false))⟩,⟨(some 19),(.ld1 (.tmp 18)),(some (17,false))⟩,⟨(some 20),(.cmp .eql (.tmp 19) (.const (.int .i64 0))),(some (17,false))⟩,⟨(some 21),(.mv (.tmp 20)),(some (17,false))⟩,⟨(some 22),(.fad 1 (.tmp 1)),(some (21,true))⟩,⟨(some 23),(.ld1 (.tmp 22)),(some (21,true))⟩,⟨(some 24),(.cmp .neq (.tmp 23) (.const (.int .i64 0))),(some (21,true))⟩,⟨(some 25),(.pick (.tmp 21) (.tmp 24) (.const (.bool false))),(some (17,false))⟩,⟨(some 26),(.pick (.tmp 17) (.const (.bool true)) (.tmp 25)),none⟩])
  (.cond (.tmp 26)
  (.seq (.reg [⟨(some 2),(.mv (.const (.int .u64 0))),none⟩]) .ret) .skip))
  (.seq (.reg [⟨(some 27),(.fad 0 (.tmp 1)),none⟩,⟨(some 28),(.ld1 (.tmp 27)),none⟩,⟨(some 29),(.cv .u64 (.tmp 28)),none⟩,⟨(some 30),(.fad 1 (.tmp 1)),none⟩,⟨(some 31),(.ld1 (.tmp 30)),none⟩,⟨(some 32),(.cv .u64 (.tmp 31)),none⟩,⟨(some 33),(.sh .shl (.tmp 32) (.const (.int .u64 4))),none⟩,⟨(some 34),(.bt .or (.tmp 29) (.tmp 33)),none⟩,⟨(some 2),(.mv (.tmp 34)),none⟩]) .ret)))⟩:=by kernel_rfl

theorem tr32:trF Tryz.prog pures Tryz.f32=some
 ⟨13,[(.t 2)],
  (.seq (.reg [⟨(some 2),(.mv (.const (.pointer none))),none⟩])
  (.seq (.seq
  (.reg [⟨(some 3),(.mv (.tmp 0)),none⟩,⟨(some 4),(.cmp .lss (.tmp 3) (.const (.int .i64 0))),none⟩,⟨(some 5),(.mv (.tmp 4)),none⟩,⟨(some 6),(.mv (.tmp 0)),(some (5,false))⟩,⟨(some 7),(.cmp .gtr (.tmp 6) (.const (.int .i64 2000))),(some (5,false))⟩,⟨(some 8),(.pick (.tmp 5) (.const (.bool true)) (.tmp 7)),none⟩])
  (.cond (.tmp 8)
  (.reg [⟨(some 0),(.mv (.const (.int .i64 0))),none⟩]) .skip))
  (.seq (.reg [⟨(some 9),(.mv (.tmp 0)),none⟩,⟨(some 10),(.mks 30 8 (.int .u64 0) (.tmp 9) (.tmp 9)),none⟩,⟨(some 11),(.bld #[(.slice none 0 0),(.int .i64 0),(.int .i64 0),(.int .i64 0),(.int .i64 0),(.int .u64 0),(.int .u64 0),(.bool false),(.slice none 0 0)] [(0,(1,(.tmp 10)))]),none⟩,⟨(some 12),(.box 36 (.tmp 11)),none⟩,⟨(some 2),(.mv (.tmp 12)),none⟩]) .ret)))⟩:=by kernel_rfl

theorem tr33:trF Tryz.prog pures Tryz.f33=some
 ⟨9,[(.t 2)],
  (.seq (.reg [⟨(some 2),(.mv (.const (.bool false))),none⟩])
  (.seq (.reg [⟨(some 3),(.mv (.tmp 0)),none⟩,⟨(some 4),(.cmp .geq (.tmp 3) (.const (.int .i64 0))),none⟩,⟨(some 5),(.mv (.tmp 4)),none⟩,⟨(some 6),(.mv (.tmp 0)),(some (5,true))⟩,⟨(some 7),(.cmp .leq (.tmp 6) (.const (.int .i64 255))),(some (5,true))⟩,⟨(some 8),(.pick (.tmp 5) (.tmp 7) (.const (.bool false))),none⟩,⟨(some 2),(.mv (.tmp 8)),none⟩]) .ret))⟩:=by kernel_rfl

theorem tr34:trF Tryz.prog pures Tryz.f34=some
 ⟨19,[(.t 4)],
  (.seq (.reg [⟨(some 2),(.box 23 (.tmp 0)),none⟩,⟨(some 4),(.mv (.const (.int .i64 0))),none⟩])
  (.seq (.seq
  (.reg [⟨(some 5),(.ldn 3 (.tmp 2)),none⟩,⟨(some 6),(.pcall 24 [(.tmp 5)]),none⟩,⟨(some 7),(.nt (.tmp 6)),none⟩,⟨(some 8),(.mv (.tmp 7)),none⟩,⟨(some 9),(.mv (.tmp 1)),(some (8,false))⟩,⟨(some 10),(.cmp .lss (.tmp 9) (.const (.int .i64 0))),(some (8,false))⟩,⟨(some 11),(.pick (.tmp 8) (.const (.bool true)) (.tmp 10)),none⟩,⟨(some 12),(.mv (.tmp 11)),none⟩,⟨(some 13),(.mv (.tmp 1)),(some (12,false))⟩,⟨(some 14),(.fad 1 (.tmp 2)),(some (12,false))⟩,⟨(some 15),(.ld1 (.tmp 14)),(some (12,false))⟩,⟨(some 16),(.cmp .geq (.tmp 13) (.tmp 15)),(some (12,false))⟩,⟨(some 17),(.pick (.tmp 12) (.const (.bool true)) (.tmp 16)),none⟩])
  (.cond (.tmp 17)
  (.seq (.reg [⟨(some 4),(.mv (.const (.int .i64 (-1)))),none⟩]) .ret) .skip))
  (.seq (.reg [⟨(some 18),(.mv (.tmp 1)),none⟩,⟨(some 4),(.mv (.tmp 18)),none⟩]) .ret)))⟩:=by kernel_rfl

theorem tr35:trF Tryz.prog pures Tryz.f35=some
 ⟨28,[(.t 4)],
  (.seq (.reg [⟨(some 4),(.mv (.const (.int .i64 0))),none⟩])
  (.seq (.seq
  (.reg [⟨(some 5),(.mv (.tmp 1)),none⟩,⟨(some 6),(.cmp .lss (.tmp 5) (.const (.int .i64 1))),none⟩,⟨(some 7),(.mv (.tmp 6)),none⟩,⟨(some 8),(.mv (.tmp 0)),(some (7,false))⟩,⟨(some 9),(.call 71 [(.tmp 8)]),(some (7,false))⟩,⟨(some 10),(.cmp .eql (.tmp 9) (.const (.int .i64 0))),(some (7,false))⟩,⟨(some 11),(.pick (.tmp 7) (.const (.bool true)) (.tmp 10)),none⟩,⟨(some 12),(.mv (.tmp 11)),none⟩,⟨(some 13),(.mv (.tmp 0)),(some (12,false))⟩,⟨(some 14),(.fcm .lss (.tmp 13) (.const (.float .f64 0))),(some (12,false))⟩,⟨(some 15),(.pick (.tmp 12) (.const (.bool true)) (.tmp 14)),none⟩])
  (.cond (.tmp 15)
  (.seq (.reg [⟨(some 4),(.mv (.const (.int .i64 0))),none⟩]) .ret) .skip))
  (.seq (.seq
  (.reg [⟨(some 16),(.mv (.tmp 0)),none⟩,⟨(some 17),(.fcm .geq (.tmp 16) (.const (.float .f64 4607182418800017408))),none⟩])
  (.cond (.tmp 17)
  (.seq (.reg [⟨(some 18),(.mv (.tmp 1)),none⟩,⟨(some 19),(.ar .sub (.tmp 18) (.const (.int .i64 1))),none⟩,⟨(some 4),(.mv (.tmp 19)),none⟩]) .ret) .skip))
  (.seq (.reg [⟨(some 20),(.mv (.tmp 0)),none⟩,⟨(some 21),(.mv (.tmp 1)),none⟩,⟨(some 22),(.fcv (.tmp 21)),none⟩,⟨(some 23),(.far .mul (.tmp 20) (.tmp 22)),none⟩,⟨(some 24),(.fti .i64 (.tmp 23)),none⟩,⟨(some 25),(.mv (.tmp 1)),none⟩,⟨(some 26),(.ar .sub (.tmp 25) (.const (.int .i64 1))),none⟩,⟨(some 27),(.mn (.tmp 24) (.tmp 26)),none⟩,⟨(some 4),(.mv (.tmp 27)),none⟩]) .ret))))⟩:=by kernel_rfl

theorem tr51:trF Tryz.prog pures Tryz.f51=some
 ⟨13,[(.t 2)],
  (.seq (.reg [⟨(some 2),(.mv (.const (.pointer none))),none⟩])
  (.seq (.seq
  (.reg [⟨(some 3),(.mv (.tmp 0)),none⟩,⟨(some 4),(.cmp .lss (.tmp 3) (.const (.int .i64 0))),none⟩,⟨(some 5),(.mv (.tmp 4)),none⟩,⟨(some 6),(.mv (.tmp 0)),(some (5,false))⟩,⟨(some 7),(.cmp .gtr (.tmp 6) (.const (.int .i64 2000))),(some (5,false))⟩,⟨(some 8),(.pick (.tmp 5) (.const (.bool true)) (.tmp 7)),none⟩])
  (.cond (.tmp 8)
  (.reg [⟨(some 0),(.mv (.const (.int .i64 0))),none⟩]) .skip))
  (.seq (.reg [⟨(some 9),(.mv (.tmp 0)),none⟩,⟨(some 10),(.mks 30 8 (.int .u64 0) (.tmp 9) (.tmp 9)),none⟩,⟨(some 11),(.bld #[(.slice none 0 0),(.int .i64 0),(.int .i64 0),(.int .i64 0),(.int .i64 0),(.int .u64 0),(.int .u64 0),(.bool false)] [(0,(1,(.tmp 10)))]),none⟩,⟨(some 12),(.box 125 (.tmp 11)),none⟩,⟨(some 2),(.mv (.tmp 12)),none⟩]) .ret)))⟩:=by kernel_rfl

theorem tr52:trF Tryz.prog pures Tryz.f52=some
 ⟨17,[(.t 4)],
  (.seq (.reg [⟨(some 2),(.box 23 (.tmp 0)),none⟩,⟨(some 4),(.mv (.const (.int .i64 0))),none⟩])
  (.seq (.seq
  (.reg [⟨(some 5),(.ldn 3 (.tmp 2)),none⟩,⟨(some 6),(.pcall 100 [(.tmp 5)]),none⟩,⟨(some 7),(.nt (.tmp 6)),none⟩,⟨(some 8),(.mv (.tmp 7)),none⟩,⟨(some 9),(.mv (.tmp 1)),(some (8,false))⟩,⟨(some 10),(.fad 1 (.tmp 2)),(some (8,false))⟩,⟨(some 11),(.ld1 (.tmp 10)),(some (8,false))⟩,⟨(some 12),(.ar .sub (.tmp 11) (.const (.int .i64 1))),(some (8,false))⟩,⟨(some 13),(.pcall 101 [(.tmp 9),(.const (.int .i64 0)),(.tmp 12)]),(some (8,false))⟩,⟨(some 14),(.nt (.tmp 13)),(some (8,false))⟩,⟨(some 15),(.pick (.tmp 8) (.const (.bool true)) (.tmp 14)),none⟩])
  (.cond (.tmp 15)
  (.seq (.reg [⟨(some 4),(.mv (.const (.int .i64 (-1)))),none⟩]) .ret) .skip))
  (.seq (.reg [⟨(some 16),(.mv (.tmp 1)),none⟩,⟨(some 4),(.mv (.tmp 16)),none⟩]) .ret)))⟩:=by kernel_rfl

theorem tr54:trF Tryz.prog pures Tryz.f54=some
 ⟨20,[(.t 4)],
  (.seq (.reg [⟨(some 4),(.mv (.const (.bool false))),none⟩])
  (.seq (.reg [⟨(some 5),(.mv (.tmp 0)),none⟩,⟨(some 6),(.pnil true (.tmp 5)),none⟩,⟨(some 7),(.mv (.tmp 6)),none⟩,⟨(some 8),(.mv (.tmp 1)),(some (7,true))⟩,⟨(some 9),(.cmp .geq (.tmp 8) (.const (.int .i64 0))),(some (7,true))⟩,⟨(some 10),(.pick (.tmp 7) (.tmp 9) (.const (.bool false))),none⟩,⟨(some 11),(.mv (.tmp 10)),none⟩,⟨(some 12),(.mv (.tmp 1)),(some (11,true))⟩,⟨(some 13),(.mv (.tmp 0)),(some (11,true))⟩,⟨(some 14),(.nilck (.tmp 13)),(some (11,true))⟩,⟨(some 15),(.fad 0 (.tmp 14)),(some (11,true))⟩,⟨(some 16),(.ld1 (.tmp 15)),(some (11,true))⟩,⟨(some 17),(.len (.tmp 16)),(some (11,true))⟩,⟨(some 18),(.cmp .lss (.tmp 12) (.tmp 17)),(some (11,true))⟩,⟨(some 19),(.pick (.tmp 11) (.tmp 18) (.const (.bool false))),none⟩,⟨(some 4),(.mv (.tmp 19)),none⟩]) .ret))⟩:=by kernel_rfl

theorem tr58:trF Tryz.prog pures Tryz.f58=some
 ⟨8,[(.t 2)],
  (.seq (.reg [⟨(some 2),(.mv (.const (.slice none 0 0))),none⟩])
  (.seq (.seq
  (.reg [⟨(some 3),(.mv (.tmp 0)),none⟩,⟨(some 4),(.snil false (.tmp 3)),none⟩])
  (.cond (.tmp 4)
  (.seq (.reg [⟨(some 2),(.mv (.const (.slice none 0 0))),none⟩]) .ret) .skip))
  (.seq (.reg [⟨(some 5),(.bsl0 30 0),none⟩,⟨(some 6),(.mv (.tmp 0)),none⟩,⟨(some 7),(.app 30 1 8 #[(.int .u64 0)] (.tmp 5) (.tmp 6)),none⟩,⟨(some 2),(.mv (.tmp 7)),none⟩]) .ret)))⟩:=by kernel_rfl

theorem tr59:trF Tryz.prog pures Tryz.f59=some
 ⟨25,[(.t 4),(.t 5),(.t 6)],
  (.seq (.reg [⟨(some 2),(.box 23 (.tmp 0)),none⟩,⟨(some 4),(.mv (.const (.int .i64 0))),none⟩,⟨(some 5),(.mv (.const (.int .i64 0))),none⟩,⟨(some 6),(.mv (.const (.bool false))),none⟩])
  (.seq (.seq
  (.reg [⟨(some 7),(.ldn 3 (.tmp 2)),none⟩,⟨(some 8),(.pcall 24 [(.tmp 7)]),none⟩,⟨(some 9),(.nt (.tmp 8)),none⟩,⟨(some 10),(.mv (.tmp 9)),none⟩,⟨(some 11),(.mv (.tmp 1)),(some (10,false))⟩,⟨(some 12),(.cmp .lss (.tmp 11) (.const (.int .i64 0))),(some (10,false))⟩,⟨(some 13),(.pick (.tmp 10) (.const (.bool true)) (.tmp 12)),none⟩,⟨(some 14),(.mv (.tmp 13)),none⟩,⟨(some 15),(.mv (.tmp 1)),(some (14,false))⟩,⟨(some 16),(.fad 0 (.tmp 2)),(some (14,false))⟩,⟨(some 17),(.ld1 (.tmp 16)),(some (14,false))⟩,⟨(some 18),(.ar .mul (.tmp 17) (.const (.int .i64 64))),(some (14,false))⟩,⟨(some 19),(.cmp .geq (.tmp 15) (.tmp 18)),(some (14,false))⟩,⟨(some 20),(.pick (.tmp 14) (.const (.bool true)) (.tmp 19)),none⟩])
  (.cond (.tmp 20)
  (.seq (.reg [⟨(some 4),(.mv (.const (.int .i64 0))),none⟩,⟨(some 5),(.mv (.const (.int .i64 0))),none⟩,⟨(some 6),(.mv (.const (.bool false))),none⟩]) .ret) .skip))
  (.seq (.reg [⟨(some 21),(.mv (.tmp 1)),none⟩,⟨(some 22),(.dv .quo (.tmp 21) (.const (.int .i64 64))),none⟩,⟨(some 23),(.mv (.tmp 1)),none⟩,⟨(some 24),(.dv .rem (.tmp 23) (.const (.int .i64 64))),none⟩,⟨(some 4),(.mv (.tmp 22)),none⟩,⟨(some 5),(.mv (.tmp 24)),none⟩,⟨(some 6),(.mv (.const (.bool true))),none⟩]) .ret)))⟩:=by kernel_rfl

theorem tr61:trF Tryz.prog pures Tryz.f61=some
 ⟨12,[(.t 2)],
  (.seq (.reg [⟨(some 2),(.mv (.const (.int .i64 0))),none⟩])
  (.seq (.seq
  (.reg [⟨(some 3),(.mv (.tmp 0)),none⟩,⟨(some 4),(.cmp .lss (.tmp 3) (.const (.int .i64 0))),none⟩,⟨(some 5),(.mv (.tmp 4)),none⟩,⟨(some 6),(.mv (.tmp 0)),(some (5,false))⟩,⟨(some 7),(.cmp .geq (.tmp 6) (.const (.int .i64 4))),(some (5,false))⟩,⟨(some 8),(.pick (.tmp 5) (.const (.bool true)) (.tmp 7)),none⟩])
  (.cond (.tmp 8)
  (.seq (.reg [⟨(some 2),(.mv (.const (.int .i64 0))),none⟩]) .ret) .skip))
  (.seq (.reg [⟨(some 9),(.mv (.tmp 0)),none⟩,⟨(some 10),(.cv .u64 (.tmp 9)),none⟩,⟨(some 11),(.sh .shl (.const (.int .i64 4)) (.tmp 10)),none⟩,⟨(some 2),(.mv (.tmp 11)),none⟩]) .ret)))⟩:=by kernel_rfl

theorem tr64:trF Tryz.prog pures Tryz.f64=some
 ⟨31,[],
  (.seq (.reg [⟨(some 8),(.mv (.tmp 0)),none⟩,⟨(some 9),(.mv (.tmp 2)),none⟩,⟨(some 10),(.call 114 [(.tmp 8),(.tmp 9)]),none⟩])
  (.seq (.reg [⟨(some 11),(.mv (.tmp 0)),none⟩,⟨(some 12),(.mv (.tmp 1)),none⟩,⟨(some 13),(.mv (.tmp 2)),none⟩,⟨(some 14),(.mv (.tmp 0)),none⟩,⟨(some 15),(.nilck (.tmp 14)),none⟩,⟨(some 16),(.fad 0 (.tmp 15)),none⟩,⟨(some 17),(.ld1 (.tmp 16)),none⟩,⟨(some 18),(.mv (.tmp 2)),none⟩,⟨(some 19),(.iad 1 (.tmp 17) (.tmp 18)),none⟩,⟨(some 20),(.ld1 (.tmp 19)),none⟩,⟨(some 21),(.mv (.tmp 3)),none⟩,⟨(some 22),(.bld #[(.int .i64 0),(.int .i64 0),(.int .i64 0),(.int .u64 0),(.int .u64 0),(.bool false)] [(0,(1,(.tmp 12))),(1,(1,(.const (.int .i64 1)))),(2,(1,(.tmp 13))),(3,(1,(.tmp 20))),(4,(1,(.tmp 21))),(5,(1,(.const (.bool true))))]),none⟩,⟨(some 23),(.call 115 [(.tmp 11),(.tmp 22)]),none⟩])
  (.reg [⟨(some 24),(.mv (.tmp 0)),none⟩,⟨(some 25),(.nilck (.tmp 24)),none⟩,⟨(some 26),(.fad 0 (.tmp 25)),none⟩,⟨(some 27),(.ld1 (.tmp 26)),none⟩,⟨(some 28),(.mv (.tmp 2)),none⟩,⟨(some 29),(.mv (.tmp 3)),none⟩,⟨(some 30),(.iad 1 (.tmp 27) (.tmp 28)),none⟩,⟨none,(.st1 (.tmp 30) (.tmp 29)),none⟩])))⟩:=by kernel_rfl

theorem tr65:trF Tryz.prog pures Tryz.f65=some
 ⟨42,[(.t 6)],
  (.seq (.reg [⟨(some 3),(.box 23 (.tmp 0)),none⟩,⟨(some 6),(.mv (.const (.int .i64 0))),none⟩])
  (.seq (.seq
  (.reg [⟨(some 7),(.ldn 3 (.tmp 3)),none⟩,⟨(some 8),(.pcall 100 [(.tmp 7)]),none⟩,⟨(some 9),(.nt (.tmp 8)),none⟩,⟨(some 10),(.mv (.tmp 9)),none⟩,⟨(some 11),(.mv (.tmp 1)),(some (10,false))⟩,⟨(some 12),(.fad 1 (.tmp 3)),(some (10,false))⟩,⟨(some 13),(.ld1 (.tmp 12)),(some (10,false))⟩,⟨(some 14),(.ar .sub (.tmp 13) (.const (.int .i64 1))),(some (10,false))⟩,⟨(some 15),(.pcall 101 [(.tmp 11),(.const (.int .i64 0)),(.tmp 14)]),(some (10,false))⟩,⟨(some 16),(.nt (.tmp 15)),(some (10,false))⟩,⟨(some 17),(.pick (.tmp 10) (.const (.bool true)) (.tmp 16)),none⟩,⟨(some 18),(.mv (.tmp 17)),none⟩,⟨(some 19),(.mv (.tmp 2)),(some (18,false))⟩,⟨(some 20),(.fad 2 (.tmp 3)),(some (18,false))⟩,⟨(some 21),(.ld1 (.tmp 20)),(some (18,false))⟩,⟨(some 22),(.ar .sub (.tmp 21) (.const (.int .i64 1))),(some (18,false))⟩,⟨(some 23),(.pcall 101 [(.tmp 19),(.const (.int .i64 0)),(.tmp 22)]),(some (18,false))⟩,⟨(some 24),(.nt (.tmp 23)),(some (18,false))⟩,⟨(some 25),(.pick (.tmp 18) (.const (.bool true)) (.tmp 24)),none⟩])
  (.cond (.tmp 25)
  (.seq (.reg [⟨(some 6),(.mv (.const (.int .i64 (-1)))),none⟩]) .ret) .skip))
  (.seq (.reg [⟨(some 26),(.fad 1 (.tmp 3)),none⟩,⟨(some 27),(.ld1 (.tmp 26)),none⟩,⟨(some 28),(.fad 0 (.tmp 3)),none⟩,⟨(some 29),(.ld1 (.tmp 28)),none⟩,⟨(some 30),(.ar .add (.tmp 27) (.tmp 29)),none⟩,⟨(some 31),(.fad 0 (.tmp 3)),none⟩,⟨(some 32),(.ld1 (.tmp 31)),none⟩,⟨(some 33),(.ar .mul (.tmp 32) (.const (.int .i64 16))),none⟩,⟨(some 34),(.ar .add (.tmp 30) (.tmp 33)),none⟩,⟨(some 35),(.mv (.tmp 1)),none⟩,⟨(some 36),(.fad 2 (.tmp 3)),none⟩,⟨(some 37),(.ld1 (.tmp 36)),none⟩,⟨(some 38),(.ar .mul (.tmp 35) (.tmp 37)),none⟩,⟨(some 39),(.ar .add (.tmp 34) (.tmp 38)),none⟩,⟨(some 40),(.mv (.tmp 2)),none⟩,⟨(some 41),(.ar .add (.tmp 39) (.tmp 40)),none⟩,⟨(some 6),(.mv (.tmp 41)),none⟩]) .ret)))⟩:=by kernel_rfl

theorem tr67:trF Tryz.prog pures Tryz.f67=some
 ⟨22,[(.t 4)],
  (.seq (.reg [⟨(some 2),(.box 23 (.tmp 0)),none⟩,⟨(some 4),(.mv (.const (.int .i64 0))),none⟩])
  (.seq (.seq
  (.reg [⟨(some 5),(.ldn 3 (.tmp 2)),none⟩,⟨(some 6),(.pcall 24 [(.tmp 5)]),none⟩,⟨(some 7),(.nt (.tmp 6)),none⟩,⟨(some 8),(.mv (.tmp 7)),none⟩,⟨(some 9),(.mv (.tmp 1)),(some (8,false))⟩,⟨(some 10),(.cmp .lss (.tmp 9) (.const (.int .i64 0))),(some (8,false))⟩,⟨(some 11),(.pick (.tmp 8) (.const (.bool true)) (.tmp 10)),none⟩,⟨(some 12),(.mv (.tmp 11)),none⟩,⟨(some 13),(.mv (.tmp 1)),(some (12,false))⟩,⟨(some 14),(.fad 0 (.tmp 2)),(some (12,false))⟩,⟨(some 15),(.ld1 (.tmp 14)),(some (12,false))⟩,⟨(some 16),(.cmp .geq (.tmp 13) (.tmp 15)),(some (12,false))⟩,⟨(some 17),(.pick (.tmp 12) (.const (.bool true)) (.tmp 16)),none⟩])
  (.cond (.tmp 17)
  (.seq (.reg [⟨(some 4),(.mv (.const (.int .i64 (-1)))),none⟩]) .ret) .skip))
  (.seq (.reg [⟨(some 18),(.fad 1 (.tmp 2)),none⟩,⟨(some 19),(.ld1 (.tmp 18)),none⟩,⟨(some 20),(.mv (.tmp 1)),none⟩,⟨(some 21),(.ar .add (.tmp 19) (.tmp 20)),none⟩,⟨(some 4),(.mv (.tmp 21)),none⟩]) .ret)))⟩:=by kernel_rfl

theorem tr68:trF Tryz.prog pures Tryz.f68=some
 ⟨90,[(.cn 6 3),(.t 7)],
  (.seq (.reg [⟨(some 3),(.box 23 (.tmp 0)),none⟩,⟨(some 6),(.alc 66 (.agg #[(.int .i64 0),(.int .i64 0),(.int .i64 0)])),none⟩,⟨(some 7),(.mv (.const (.bool false))),none⟩])
  (.seq (.reg [⟨(some 10),(.mv (.tmp 2)),none⟩,⟨(some 11),(.bt .and (.tmp 10) (.const (.int .u64 15))),none⟩,⟨(some 12),(.cv .i64 (.tmp 11)),none⟩,⟨(some 13),(.mv (.tmp 2)),none⟩,⟨(some 14),(.sh .shr (.tmp 13) (.const (.int .u64 4))),none⟩,⟨(some 15),(.bt .and (.tmp 14) (.const (.int .u64 255))),none⟩,⟨(some 16),(.cv .i64 (.tmp 15)),none⟩,⟨(some 17),(.mv (.tmp 2)),none⟩,⟨(some 18),(.sh .shr (.tmp 17) (.const (.int .u64 12))),none⟩,⟨(some 19),(.bt .and (.tmp 18) (.const (.int .u64 255))),none⟩,⟨(some 20),(.cv .i64 (.tmp 19)),none⟩,⟨(some 21),(.bld #[(.int .i64 0),(.int .i64 0),(.int .i64 0)] [(0,(1,(.tmp 12))),(1,(1,(.tmp 16))),(2,(1,(.tmp 20)))]),none⟩,⟨(some 8),(.alc 66 (.agg #[(.int .i64 0),(.int .i64 0),(.int .i64 0)])),none⟩,⟨none,(.stn 3 (.tmp 8) (.tmp 21)),none⟩])
  (.seq (.seq
  (.reg [⟨(some 22),(.ldn 3 (.tmp 8)),none⟩,⟨(some 23),(.pcall 81 [(.tmp 22)]),none⟩,⟨(some 24),(.mv (.tmp 2)),none⟩,⟨(some 25),(.cmp .neq (.tmp 23) (.tmp 24)),none⟩,⟨(some 26),(.mv (.tmp 25)),none⟩,⟨(some 27),(.ldn 3 (.tmp 3)),(some (26,false))⟩,⟨(some 28),(.mv (.tmp 1)),(some (26,false))⟩,⟨(some 29),(.pcall 67 [(.tmp 27),(.tmp 28)]),(some (26,false))⟩,⟨(some 30),(.cmp .lss (.tmp 29) (.const (.int .i64 0))),(some (26,false))⟩,⟨(some 31),(.pick (.tmp 26) (.const (.bool true)) (.tmp 30)),none⟩])
  (.cond (.tmp 31)
  (.seq (.reg [⟨(some 32),(.bld #[(.int .i64 0),(.int .i64 0),(.int .i64 0)] []),none⟩,⟨none,(.stn 3 (.tmp 6) (.tmp 32)),none⟩,⟨(some 7),(.mv (.const (.bool false))),none⟩]) .ret) .skip))
  (.seq (.reg [⟨(some 9),(.mv (.const (.bool true))),none⟩])
  (.seq (.seq
  (.reg [⟨(some 33),(.fad 0 (.tmp 8)),none⟩,⟨(some 34),(.ld1 (.tmp 33)),none⟩])
  (.block 0
  (.seq (.reg [⟨(some 36),(.cmp .eql (.tmp 34) (.const (.int .i64 1))),none⟩,⟨(some 35),(.mv (.tmp 36)),none⟩])
  (.cond (.tmp 35)
  (.reg [⟨(some 37),(.fad 1 (.tmp 8)),none⟩,⟨(some 38),(.ld1 (.tmp 37)),none⟩,⟨(some 39),(.fad 1 (.tmp 3)),none⟩,⟨(some 40),(.ld1 (.tmp 39)),none⟩,⟨(some 41),(.cmp .lss (.tmp 38) (.tmp 40)),none⟩,⟨(some 9),(.mv (.tmp 41)),none⟩])
  (.seq (.reg [⟨(some 43),(.cmp .eql (.tmp 34) (.const (.int .i64 2))),none⟩,⟨(some 42),(.mv (.tmp 43)),none⟩])
  (.cond (.tmp 42)
  (.reg [⟨(some 44),(.fad 1 (.tmp 8)),none⟩,⟨(some 45),(.ld1 (.tmp 44)),none⟩,⟨(some 46),(.cmp .lss (.tmp 45) (.const (.int .i64 4))),none⟩,⟨(some 47),(.mv (.tmp 46)),none⟩,⟨(some 48),(.fad 2 (.tmp 8)),(some (47,true))⟩,⟨(some 49),(.ld1 (.tmp 48)),(some (47,true))⟩,⟨(some 50),(.fad 1 (.tmp 3)),(some (47,true))⟩,⟨(some 51),(.ld1 (.tmp 50)),(some (47,true))⟩,⟨(some 52),(.cmp .lss (.tmp 49) (.tmp 51)),(some (47,true))⟩,⟨(some 53),(.pick (.tmp 47) (.tmp 52) (.const (.bool false))),none⟩,⟨(some 9),(.mv (.tmp 53)),none⟩])
  (.seq (.reg [⟨(some 55),(.cmp .eql (.tmp 34) (.const (.int .i64 3))),none⟩,⟨(some 54),(.mv (.tmp 55)),none⟩])
  (.cond (.tmp 54)
  (.reg [⟨(some 56),(.fad 1 (.tmp 8)),none⟩,⟨(some 57),(.ld1 (.tmp 56)),none⟩,⟨(some 58),(.cmp .geq (.tmp 57) (.const (.int .i64 1))),none⟩,⟨(some 59),(.mv (.tmp 58)),none⟩,⟨(some 60),(.fad 1 (.tmp 8)),(some (59,true))⟩,⟨(some 61),(.ld1 (.tmp 60)),(some (59,true))⟩,⟨(some 62),(.cmp .leq (.tmp 61) (.const (.int .i64 8))),(some (59,true))⟩,⟨(some 63),(.pick (.tmp 59) (.tmp 62) (.const (.bool false))),none⟩,⟨(some 64),(.mv (.tmp 63)),none⟩,⟨(some 65),(.mv (.tmp 1)),(some (64,true))⟩,⟨(some 66),(.fad 1 (.tmp 8)),(some (64,true))⟩,⟨(some 67),(.ld1 (.tmp 66)),(some (64,true))⟩,⟨(some 68),(.ar .add (.tmp 65) (.tmp 67)),(some (64,true))⟩,⟨(some 69),(.fad 0 (.tmp 3)),(some (64,true))⟩,⟨(some 70),(.ld1 (.tmp 69)),(some (64,true))⟩,⟨(some 71),(.cmp .leq (.tmp 68) (.tmp 70)),(some (64,true))⟩,⟨(some 72),(.pick (.tmp 64) (.tmp 71) (.const (.bool false))),none⟩,⟨(some 9),(.mv (.tmp 72)),none⟩])
  (.seq (.reg [⟨(some 74),(.cmp .eql (.tmp 34) (.const (.int .i64 4))),none⟩,⟨(some 73),(.mv (.tmp 74)),none⟩])
  (.cond (.tmp 73)
  (.reg [⟨(some 75),(.fad 1 (.tmp 8)),none⟩,⟨(some 76),(.ld1 (.tmp 75)),none⟩,⟨(some 77),(.mv (.tmp 1)),none⟩,⟨(some 78),(.cmp .lss (.tmp 76) (.tmp 77)),none⟩,⟨(some 79),(.mv (.tmp 78)),none⟩,⟨(some 80),(.mv (.tmp 1)),(some (79,true))⟩,⟨(some 81),(.fad 1 (.tmp 8)),(some (79,true))⟩,⟨(some 82),(.ld1 (.tmp 81)),(some (79,true))⟩,⟨(some 83),(.ar .sub (.tmp 80) (.tmp 82)),(some (79,true))⟩,⟨(some 84),(.cmp .lss (.tmp 83) (.const (.int .i64 8))),(some (79,true))⟩,⟨(some 85),(.pick (.tmp 79) (.tmp 84) (.const (.bool false))),none⟩,⟨(some 9),(.mv (.tmp 85)),none⟩]) .skip))))))))))
  (.seq (.seq
  (.reg [⟨(some 86),(.mv (.tmp 9)),none⟩,⟨(some 87),(.nt (.tmp 86)),none⟩])
  (.cond (.tmp 87)
  (.seq (.reg [⟨(some 88),(.bld #[(.int .i64 0),(.int .i64 0),(.int .i64 0)] []),none⟩,⟨none,(.stn 3 (.tmp 6) (.tmp 88)),none⟩,⟨(some 7),(.mv (.const (.bool false))),none⟩]) .ret) .skip))
  (.seq (.reg [⟨(some 89),(.ldn 3 (.tmp 8)),none⟩,⟨none,(.stn 3 (.tmp 6) (.tmp 89)),none⟩,⟨(some 7),(.mv (.const (.bool true))),none⟩]) .ret)))))))⟩:=by kernel_rfl

theorem tr69:trF Tryz.prog pures Tryz.f69=some
 ⟨12,[(.t 2)],
  (.seq (.reg [⟨(some 2),(.mv (.const (.int .i64 0))),none⟩])
  (.seq (.seq
  (.reg [⟨(some 3),(.mv (.tmp 0)),none⟩,⟨(some 4),(.cmp .lss (.tmp 3) (.const (.int .i64 0))),none⟩,⟨(some 5),(.mv (.tmp 4)),none⟩,⟨(some 6),(.mv (.tmp 0)),(some (5,false))⟩,⟨(some 7),(.cmp .geq (.tmp 6) (.const (.int .i64 4))),(some (5,false))⟩,⟨(some 8),(.pick (.tmp 5) (.const (.bool true)) (.tmp 7)),none⟩])
  (.cond (.tmp 8)
  (.seq (.reg [⟨(some 2),(.mv (.const (.int .i64 0))),none⟩]) .ret) .skip))
  (.seq (.reg [⟨(some 9),(.mv (.tmp 0)),none⟩,⟨(some 10),(.cv .u64 (.tmp 9)),none⟩,⟨(some 11),(.sh .shr (.const (.int .i64 16)) (.tmp 10)),none⟩,⟨(some 2),(.mv (.tmp 11)),none⟩]) .ret)))⟩:=by kernel_rfl

theorem tr70:trF Tryz.prog pures Tryz.f70=some
 ⟨34,[(.t 2)],
  (.seq (.reg [⟨(some 1),(.box 73 (.tmp 0)),none⟩,⟨(some 2),(.mv (.const (.int .u64 0))),none⟩])
  (.seq (.seq
  (.reg [⟨(some 3),(.fad 0 (.tmp 1)),none⟩,⟨(some 4),(.ld1 (.tmp 3)),none⟩,⟨(some 5),(.pcall 33 [(.tmp 4)]),none⟩,⟨(some 6),(.nt (.tmp 5)),none⟩,⟨(some 7),(.mv (.tmp 6)),none⟩,⟨(some 8),(.fad 1 (.tmp 1)),(some (7,false))⟩,⟨(some 9),(.ld1 (.tmp 8)),(some (7,false))⟩,⟨(some 10),(.pcall 33 [(.tmp 9)]),(some (7,false))⟩,⟨(some 11),(.nt (.tmp 10)),(some (7,false))⟩,⟨(some 12),(.pick (.tmp 7) (.const (.bool true)) (.tmp 11)),none⟩,⟨(some 13),(.mv (.tmp 12)),none⟩,⟨(some 14),(.fad 2 (.tmp 1)),(some (13,false))⟩,⟨(some 15),(.ld1 (.tmp 14)),(some (13,false))⟩,⟨(some 16),(.pcall 33 [(.tmp 15)]),(some (13,false))⟩,⟨(some 17),(.nt (.tmp 16)),(some (13,false))⟩,⟨(some 18),(.pick (.tmp 13) (.const (.bool true)) (.tmp 17)),none⟩])
  (.cond (.tmp 18)
  (.seq (.reg [⟨(some 2),(.mv (.const (.int .u64 0))),none⟩]) .ret) .skip))
  (.seq (.reg [⟨(some 19),(.fad 0 (.tmp 1)),none⟩,⟨(some 20),(.ld1 (.tmp 19)),none⟩,⟨(some 21),(.cv .u64 (.tmp 20)),none⟩,⟨(some 22),(.sh .shl (.tmp 21) (.const (.int .u64 4))),none⟩,⟨(some 23),(.bt .or (.const (.int .u64 1)) (.tmp 22)),none⟩,⟨(some 24),(.fad 1 (.tmp 1)),none⟩,⟨(some 25),(.ld1 (.tmp 24)),none⟩,⟨(some 26),(.cv .u64 (.tmp 25)),none⟩,⟨(some 27),(.sh .shl (.tmp 26) (.const (.int .u64 12))),none⟩,⟨(some 28),(.bt .or (.tmp 23) (.tmp 27)),none⟩,⟨(some 29),(.fad 2 (.tmp 1)),none⟩,⟨(some 30),(.ld1 (.tmp 29)),none⟩,⟨(some 31),(.cv .u64 (.tmp 30)),none⟩,⟨(some 32),(.sh .shl (.tmp 31) (.const (.int .u64 20))),none⟩,⟨(some 33),(.bt .or (.tmp 28) (.tmp 32)),none⟩,⟨(some 2),(.mv (.tmp 33)),none⟩]) .ret)))⟩:=by kernel_rfl

theorem tr71:trF Tryz.prog pures Tryz.f71=some
 ⟨19,[(.t 2)],
  (.seq (.reg [⟨(some 2),(.mv (.const (.int .i64 0))),none⟩])
  (.seq (.block 0
  (.seq (.reg [⟨(some 4),(.mv (.tmp 0)),none⟩,⟨(some 5),(.mv (.tmp 0)),none⟩,⟨(some 6),(.fcm .neq (.tmp 4) (.tmp 5)),none⟩,⟨(some 3),(.mv (.tmp 6)),none⟩])
  (.cond (.tmp 3)
  (.seq (.reg [⟨(some 2),(.mv (.const (.int .i64 0))),none⟩]) .ret)
  (.seq (.reg [⟨(some 8),(.mv (.tmp 0)),none⟩,⟨(some 9),(.call 118 [(.tmp 8),(.const (.int .i64 (-1)))]),none⟩,⟨(some 7),(.mv (.tmp 9)),none⟩])
  (.cond (.tmp 7)
  (.seq (.reg [⟨(some 2),(.mv (.const (.int .i64 1))),none⟩]) .ret)
  (.seq (.reg [⟨(some 11),(.mv (.tmp 0)),none⟩,⟨(some 12),(.fcm .lss (.tmp 11) (.const (.float .f64 0))),none⟩,⟨(some 10),(.mv (.tmp 12)),none⟩])
  (.cond (.tmp 10)
  (.seq (.reg [⟨(some 2),(.mv (.const (.int .i64 2))),none⟩]) .ret)
  (.seq (.reg [⟨(some 14),(.mv (.tmp 0)),none⟩,⟨(some 15),(.fcm .eql (.tmp 14) (.const (.float .f64 0))),none⟩,⟨(some 13),(.mv (.tmp 15)),none⟩])
  (.cond (.tmp 13)
  (.seq (.reg [⟨(some 2),(.mv (.const (.int .i64 3))),none⟩]) .ret)
  (.seq (.reg [⟨(some 17),(.mv (.tmp 0)),none⟩,⟨(some 18),(.call 118 [(.tmp 17),(.const (.int .i64 1))]),none⟩,⟨(some 16),(.mv (.tmp 18)),none⟩])
  (.cond (.tmp 16)
  (.seq (.reg [⟨(some 2),(.mv (.const (.int .i64 5))),none⟩]) .ret) .skip)))))))))))
  (.seq (.reg [⟨(some 2),(.mv (.const (.int .i64 4))),none⟩]) .ret)))⟩:=by kernel_rfl

theorem tr72:trF Tryz.prog pures Tryz.f72=some
 ⟨23,[(.t 2),(.t 3)],
  (.seq (.reg [⟨(some 2),(.mv (.const (.int .i64 0))),none⟩,⟨(some 3),(.mv (.const (.bool false))),none⟩])
  (.seq (.reg [⟨(some 8),(.mv (.tmp 0)),none⟩,⟨(some 9),(.pcall 74 [(.tmp 8)]),none⟩,⟨(some 7),(.mv (.tmp 9)),none⟩,⟨(some 10),(.ext 0 (.tmp 7)),none⟩,⟨(some 11),(.ext 1 (.tmp 7)),none⟩,⟨(some 4),(.mv (.tmp 10)),none⟩,⟨(some 5),(.mv (.tmp 11)),none⟩])
  (.seq (.seq
  (.reg [⟨(some 12),(.mv (.tmp 5)),none⟩])
  (.cond (.tmp 12)
  (.seq (.reg [⟨(some 13),(.mv (.tmp 4)),none⟩,⟨(some 14),(.pcall 61 [(.tmp 13)]),none⟩,⟨(some 2),(.mv (.tmp 14)),none⟩,⟨(some 3),(.mv (.const (.bool true))),none⟩]) .ret) .skip))
  (.seq (.reg [⟨(some 16),(.mv (.tmp 0)),none⟩,⟨(some 17),(.pcall 73 [(.tmp 16)]),none⟩,⟨(some 15),(.mv (.tmp 17)),none⟩,⟨(some 18),(.ext 0 (.tmp 15)),none⟩,⟨(some 19),(.ext 1 (.tmp 15)),none⟩,⟨(some 6),(.mv (.tmp 18)),none⟩,⟨(some 5),(.mv (.tmp 19)),none⟩])
  (.seq (.reg [⟨(some 20),(.mv (.tmp 6)),none⟩,⟨(some 21),(.ar .mul (.tmp 20) (.const (.int .i64 64))),none⟩,⟨(some 22),(.mv (.tmp 5)),none⟩,⟨(some 2),(.mv (.tmp 21)),none⟩,⟨(some 3),(.mv (.tmp 22)),none⟩]) .ret)))))⟩:=by kernel_rfl

theorem tr73:trF Tryz.prog pures Tryz.f73=some
 ⟨14,[(.t 2),(.t 3)],
  (.seq (.reg [⟨(some 2),(.mv (.const (.int .i64 0))),none⟩,⟨(some 3),(.mv (.const (.bool false))),none⟩])
  (.seq (.seq
  (.reg [⟨(some 4),(.mv (.tmp 0)),none⟩,⟨(some 5),(.cmp .lss (.tmp 4) (.const (.int .i64 33))),none⟩,⟨(some 6),(.mv (.tmp 5)),none⟩,⟨(some 7),(.mv (.tmp 0)),(some (6,false))⟩,⟨(some 8),(.cmp .gtr (.tmp 7) (.const (.int .i64 512))),(some (6,false))⟩,⟨(some 9),(.pick (.tmp 6) (.const (.bool true)) (.tmp 8)),none⟩])
  (.cond (.tmp 9)
  (.seq (.reg [⟨(some 2),(.mv (.const (.int .i64 0))),none⟩,⟨(some 3),(.mv (.const (.bool false))),none⟩]) .ret) .skip))
  (.seq (.reg [⟨(some 10),(.mv (.tmp 0)),none⟩,⟨(some 11),(.ar .add (.tmp 10) (.const (.int .i64 64))),none⟩,⟨(some 12),(.ar .sub (.tmp 11) (.const (.int .i64 1))),none⟩,⟨(some 13),(.dv .quo (.tmp 12) (.const (.int .i64 64))),none⟩,⟨(some 2),(.mv (.tmp 13)),none⟩,⟨(some 3),(.mv (.const (.bool true))),none⟩]) .ret)))⟩:=by kernel_rfl

theorem tr74:trF Tryz.prog pures Tryz.f74=some
 ⟨18,[(.t 2),(.t 3)],
  (.seq (.reg [⟨(some 2),(.mv (.const (.int .i64 0))),none⟩,⟨(some 3),(.mv (.const (.bool false))),none⟩])
  (.seq (.seq
  (.reg [⟨(some 5),(.mv (.tmp 0)),none⟩,⟨(some 6),(.cmp .lss (.tmp 5) (.const (.int .i64 1))),none⟩,⟨(some 7),(.mv (.tmp 6)),none⟩,⟨(some 8),(.mv (.tmp 0)),(some (7,false))⟩,⟨(some 9),(.cmp .gtr (.tmp 8) (.const (.int .i64 32))),(some (7,false))⟩,⟨(some 10),(.pick (.tmp 7) (.const (.bool true)) (.tmp 9)),none⟩])
  (.cond (.tmp 10)
  (.seq (.reg [⟨(some 2),(.mv (.const (.int .i64 0))),none⟩,⟨(some 3),(.mv (.const (.bool false))),none⟩]) .ret) .skip))
  (.seq (.reg [⟨(some 4),(.mv (.const (.int .i64 0))),none⟩])
  (.seq (.block 0
  (.loop (.seq
  (.seq (.reg [⟨(some 11),(.mv (.tmp 4)),none⟩,⟨(some 12),(.pcall 61 [(.tmp 11)]),none⟩,⟨(some 13),(.mv (.tmp 0)),none⟩,⟨(some 14),(.cmp .lss (.tmp 12) (.tmp 13)),none⟩])
  (.cond (.tmp 14) .skip (.exit 0)))
  (.block 1
  (.reg [⟨(some 15),(.mv (.tmp 4)),none⟩,⟨(some 16),(.ar .add (.tmp 15) (.const (.int .i64 1))),none⟩,⟨(some 4),(.mv (.tmp 16)),none⟩])))))
  (.seq (.reg [⟨(some 17),(.mv (.tmp 4)),none⟩,⟨(some 2),(.mv (.tmp 17)),none⟩,⟨(some 3),(.mv (.const (.bool true))),none⟩]) .ret)))))⟩:=by kernel_rfl

theorem tr8:trF Tryz.prog pures Tryz.f8=some
 ⟨30,[(.t 4)],
  (.seq (.reg [⟨(some 4),(.mv (.const (.int .u64 0))),none⟩])
  (.seq (.seq
  (.reg [⟨(some 5),(.mv (.tmp 0)),none⟩,⟨(some 6),(.cmp .lss (.tmp 5) (.const (.int .i64 0))),none⟩,⟨(some 7),(.mv (.tmp 6)),none⟩,⟨(some 8),(.mv (.tmp 0)),(some (7,false))⟩,⟨(some 9),(.cmp .gtr (.tmp 8) (.const (.int .i64 4))),(some (7,false))⟩,⟨(some 10),(.pick (.tmp 7) (.const (.bool true)) (.tmp 9)),none⟩,⟨(some 11),(.mv (.tmp 10)),none⟩,⟨(some 12),(.mv (.tmp 1)),(some (11,false))⟩,⟨(some 13),(.pcall 33 [(.tmp 12)]),(some (11,false))⟩,⟨(some 14),(.nt (.tmp 13)),(some (11,false))⟩,⟨(some 15),(.pick (.tmp 11) (.const (.bool true)) (.tmp 14)),none⟩,⟨(some 16),(.mv (.tmp 15)),none⟩,⟨(some 17),(.mv (.tmp 0)),(some (16,false))⟩,⟨(some 18),(.cmp .neq (.tmp 17) (.const (.int .i64 3))),(some (16,false))⟩,⟨(some 19),(.mv (.tmp 18)),(some (16,false))⟩,⟨(some 20),(.mv (.tmp 1)),(some (19,true))⟩,⟨(some 21),(.cmp .neq (.tmp 20) (.const (.int .i64 0))),(some (19,true))⟩,⟨(some 22),(.pick (.tmp 19) (.tmp 21) (.const (.bool false))),(some (16,false))⟩,⟨(some 23),(.pick (.tmp 16) (.const (.bool true)) (.tmp 22)),none⟩])
  (.cond (.tmp 23)
  (.seq (.reg [⟨(some 4),(.mv (.const (.int .u64 0))),none⟩]) .ret) .skip))
  (.seq (.reg [⟨(some 24),(.mv (.tmp 0)),none⟩,⟨(some 25),(.cv .u64 (.tmp 24)),none⟩,⟨(some 26),(.mv (.tmp 1)),none⟩,⟨(some 27),(.cv .u64 (.tmp 26)),none⟩,⟨(some 28),(.sh .shl (.tmp 27) (.const (.int .u64 4))),none⟩,⟨(some 29),(.bt .or (.tmp 25) (.tmp 28)),none⟩,⟨(some 4),(.mv (.tmp 29)),none⟩]) .ret)))⟩:=by kernel_rfl

theorem tr80:trF Tryz.prog pures Tryz.f80=some
 ⟨28,[],
  (.seq (.reg [⟨(some 8),(.mv (.tmp 0)),none⟩,⟨(some 9),(.mv (.tmp 1)),none⟩,⟨(some 10),(.mv (.tmp 2)),none⟩,⟨(some 11),(.mv (.tmp 0)),none⟩,⟨(some 12),(.nilck (.tmp 11)),none⟩,⟨(some 13),(.fad 0 (.tmp 12)),none⟩,⟨(some 14),(.ld1 (.tmp 13)),none⟩,⟨(some 15),(.mv (.tmp 2)),none⟩,⟨(some 16),(.iad 1 (.tmp 14) (.tmp 15)),none⟩,⟨(some 17),(.ld1 (.tmp 16)),none⟩,⟨(some 18),(.mv (.tmp 3)),none⟩,⟨(some 19),(.bld #[(.int .i64 0),(.int .i64 0),(.int .i64 0),(.int .u64 0),(.int .u64 0),(.bool false)] [(0,(1,(.tmp 9))),(1,(1,(.const (.int .i64 1)))),(2,(1,(.tmp 10))),(3,(1,(.tmp 17))),(4,(1,(.tmp 18))),(5,(1,(.const (.bool true))))]),none⟩,⟨(some 20),(.call 122 [(.tmp 8),(.tmp 19)]),none⟩])
  (.reg [⟨(some 21),(.mv (.tmp 0)),none⟩,⟨(some 22),(.nilck (.tmp 21)),none⟩,⟨(some 23),(.fad 0 (.tmp 22)),none⟩,⟨(some 24),(.ld1 (.tmp 23)),none⟩,⟨(some 25),(.mv (.tmp 2)),none⟩,⟨(some 26),(.mv (.tmp 3)),none⟩,⟨(some 27),(.iad 1 (.tmp 24) (.tmp 25)),none⟩,⟨none,(.st1 (.tmp 27) (.tmp 26)),none⟩]))⟩:=by kernel_rfl

theorem tr81:trF Tryz.prog pures Tryz.f81=some
 ⟨56,[(.t 2)],
  (.seq (.reg [⟨(some 1),(.box 66 (.tmp 0)),none⟩,⟨(some 2),(.mv (.const (.int .u64 0))),none⟩])
  (.seq (.seq
  (.reg [⟨(some 3),(.fad 0 (.tmp 1)),none⟩,⟨(some 4),(.ld1 (.tmp 3)),none⟩,⟨(some 5),(.cmp .lss (.tmp 4) (.const (.int .i64 0))),none⟩,⟨(some 6),(.mv (.tmp 5)),none⟩,⟨(some 7),(.fad 0 (.tmp 1)),(some (6,false))⟩,⟨(some 8),(.ld1 (.tmp 7)),(some (6,false))⟩,⟨(some 9),(.cmp .gtr (.tmp 8) (.const (.int .i64 4))),(some (6,false))⟩,⟨(some 10),(.pick (.tmp 6) (.const (.bool true)) (.tmp 9)),none⟩,⟨(some 11),(.mv (.tmp 10)),none⟩,⟨(some 12),(.fad 1 (.tmp 1)),(some (11,false))⟩,⟨(some 13),(.ld1 (.tmp 12)),(some (11,false))⟩,⟨(some 14),(.pcall 33 [(.tmp 13)]),(some (11,false))⟩,⟨(some 15),(.nt (.tmp 14)),(some (11,false))⟩,⟨(some 16),(.pick (.tmp 11) (.const (.bool true)) (.tmp 15)),none⟩,⟨(some 17),(.mv (.tmp 16)),none⟩,⟨(some 18),(.fad 2 (.tmp 1)),(some (17,false))⟩,⟨(some 19),(.ld1 (.tmp 18)),(some (17,false))⟩,⟨(some 20),(.pcall 33 [(.tmp 19)]),(some (17,false))⟩,⟨(some 21),(.nt (.tmp 20)),(some (17,false))⟩,⟨(some 22),(.pick (.tmp 17) (.const (.bool true)) (.tmp 21)),none⟩,⟨(some 23),(.mv (.tmp 22)),none⟩,⟨(some 24),(.fad 0 (.tmp 1)),(some (23,false))⟩,⟨(some 25),(.ld1 (.tmp 24)),(some (23,false))⟩,⟨(some 26),(.cmp .neq (.tmp 25) (.const (.int .i64 2))),(some (23,false))⟩,⟨(some 27),(.mv (.tmp 26)),(some (23,false))⟩,⟨(some 28),(.fad 2 (.tmp 1)),(some (27,true))⟩,⟨(some 29),(.ld1 (.tmp 28)),(some (27,true))⟩,⟨(some 30),(.cmp .neq (.tmp 29) (.const (.int .i64 0))),(some (27,true))⟩,⟨(some 31),(.pick (.tmp 27) (.tmp 30) (.const (.bool false))),(some (23,false))⟩,⟨(some 32),(.pick (.tmp 23) (.const (.bool true)) (.tmp 31)),none⟩,⟨(some 33),(.mv (.tmp 32)),none⟩,⟨(some 34),(.fad 0 (.tmp 1)),(some (33,false))⟩,⟨(some 35),(.ld1 (.tmp 34)),(some (33,false))⟩,⟨(some 36),(.cmp .eql (.tmp 35) (.const (.int .i64 0))),(some (33,false))⟩,⟨(some 37),(.mv (.tmp 36)),(some (33,false))⟩,⟨(some 38),(.fad 1 (.tmp 1)),(some (37,true))⟩,⟨(some 39),(.ld1 (.tmp 38)),(some (37,true))⟩,⟨(some 40),(.cmp .neq (.tmp 39) (.const (.int .i64 0))),(some (37,true))⟩,⟨(some 41),(.pick (.tmp 37) (.tmp 40) (.const (.bool false))),(some (33,false))⟩,⟨(some 42),(.pick (.tmp 33) (.const (.bool true)) (.tmp 41)),none⟩])
  (.cond (.tmp 42)
  (.seq (.reg [⟨(some 2),(.mv (.const (.int .u64 0))),none⟩]) .ret) .skip))
  (.seq (.reg [⟨(some 43),(.fad 0 (.tmp 1)),none⟩,⟨(some 44),(.ld1 (.tmp 43)),none⟩,⟨(some 45),(.cv .u64 (.tmp 44)),none⟩,⟨(some 46),(.fad 1 (.tmp 1)),none⟩,⟨(some 47),(.ld1 (.tmp 46)),none⟩,⟨(some 48),(.cv .u64 (.tmp 47)),none⟩,⟨(some 49),(.sh .shl (.tmp 48) (.const (.int .u64 4))),none⟩,⟨(some 50),(.bt .or (.tmp 45) (.tmp 49)),none⟩,⟨(some 51),(.fad 2 (.tmp 1)),none⟩,⟨(some 52),(.ld1 (.tmp 51)),none⟩,⟨(some 53),(.cv .u64 (.tmp 52)),none⟩,⟨(some 54),(.sh .shl (.tmp 53) (.const (.int .u64 12))),none⟩,⟨(some 55),(.bt .or (.tmp 50) (.tmp 54)),none⟩,⟨(some 2),(.mv (.tmp 55)),none⟩]) .ret)))⟩:=by kernel_rfl

theorem tr94:trF Tryz.prog pures Tryz.f94=some
 ⟨26,[(.t 6)],
  (.seq (.reg [⟨(some 6),(.mv (.const (.int .u64 0))),none⟩])
  (.seq (.reg [⟨(some 7),(.mv (.tmp 0)),none⟩,⟨(some 8),(.mv (.tmp 1)),none⟩,⟨(some 9),(.mv (.tmp 2)),none⟩,⟨(some 10),(.mv (.tmp 0)),none⟩,⟨(some 11),(.nilck (.tmp 10)),none⟩,⟨(some 12),(.fad 0 (.tmp 11)),none⟩,⟨(some 13),(.ld1 (.tmp 12)),none⟩,⟨(some 14),(.mv (.tmp 2)),none⟩,⟨(some 15),(.iad 1 (.tmp 13) (.tmp 14)),none⟩,⟨(some 16),(.ld1 (.tmp 15)),none⟩,⟨(some 17),(.bld #[(.int .i64 0),(.int .i64 0),(.int .i64 0),(.int .u64 0),(.int .u64 0),(.bool false)] [(0,(1,(.tmp 8))),(1,(1,(.const (.int .i64 0)))),(2,(1,(.tmp 9))),(3,(1,(.tmp 16))),(5,(1,(.const (.bool true))))]),none⟩,⟨(some 18),(.call 122 [(.tmp 7),(.tmp 17)]),none⟩])
  (.seq (.reg [⟨(some 19),(.mv (.tmp 0)),none⟩,⟨(some 20),(.nilck (.tmp 19)),none⟩,⟨(some 21),(.fad 0 (.tmp 20)),none⟩,⟨(some 22),(.ld1 (.tmp 21)),none⟩,⟨(some 23),(.mv (.tmp 2)),none⟩,⟨(some 24),(.iad 1 (.tmp 22) (.tmp 23)),none⟩,⟨(some 25),(.ld1 (.tmp 24)),none⟩,⟨(some 6),(.mv (.tmp 25)),none⟩]) .ret)))⟩:=by kernel_rfl

end Go.Proofs.YtbcdaglbdnkocaaGreat
