/-
 The compact code of functions of this seat, as translated from the model: each translation holds by reckoning. Conditions: none.
-/
import Derived.Test.YtkjpgikjcfhckaaGreatEv
import Derived.Test.YtkjpgikjcfhckaaGreatRows
set_option maxRecDepth 100000
namespace Go.Proofs.YtkjpgikjcfhckaaGreat
open Go Go.Ev

def pures:List Nat:=[17,24,25,26,27,28,29,30,31,34,40,53,55,57,61,62,64,67,68,69,70,72,73,74,75,78,80,81,88,92,93,94,96,97,100,101,102,103,112,113,120,121,122,128,222,223,252,274,279,288,289,291,302,309,310]
theorem mixed:Tryz.prog.follows .mixedOrders=true:=by kernel_rfl

theorem tr100:trF Tryz.prog pures Tryz.f100=some
 ⟨15,[(.cn 2 2)],
  (.seq (.reg [⟨(some 2),(.alc 128 (.agg #[(.int .i64 0),(.int .i64 0)])),none⟩])
  (.seq (.reg [⟨(some 4),(.mv (.tmp 0)),none⟩,⟨(some 5),(.pcall 102 [(.tmp 4)]),none⟩,⟨(some 6),(.mv (.tmp 0)),none⟩,⟨(some 7),(.pcall 103 [(.tmp 6),(.const (.int .i64 0))]),none⟩,⟨(some 8),(.bld #[(.int .i64 0),(.int .i64 0)] [(0,(1,(.tmp 5))),(1,(1,(.tmp 7)))]),none⟩,⟨(some 3),(.alc 128 (.agg #[(.int .i64 0),(.int .i64 0)])),none⟩,⟨none,(.stn 2 (.tmp 3) (.tmp 8)),none⟩])
  (.seq (.seq
  (.reg [⟨(some 9),(.ldn 2 (.tmp 3)),none⟩,⟨(some 10),(.pcall 122 [(.tmp 9)]),none⟩,⟨(some 11),(.mv (.tmp 0)),none⟩,⟨(some 12),(.cmp .neq (.tmp 10) (.tmp 11)),none⟩])
  (.cond (.tmp 12)
  (.seq (.reg [⟨(some 13),(.bld #[(.int .i64 0),(.int .i64 0)] []),none⟩,⟨none,(.stn 2 (.tmp 2) (.tmp 13)),none⟩]) .ret) .skip))
  (.seq (.reg [⟨(some 14),(.ldn 2 (.tmp 3)),none⟩,⟨none,(.stn 2 (.tmp 2) (.tmp 14)),none⟩]) .ret))))⟩:=by kernel_rfl

theorem tr101:trF Tryz.prog pures Tryz.f101=some
 ⟨33,[(.t 6)],
  (.seq (.reg [⟨(some 3),(.box 23 (.tmp 0)),none⟩,⟨(some 6),(.mv (.const (.int .i64 0))),none⟩])
  (.seq (.seq
  (.reg [⟨(some 7),(.ldn 3 (.tmp 3)),none⟩,⟨(some 8),(.pcall 53 [(.tmp 7)]),none⟩,⟨(some 9),(.nt (.tmp 8)),none⟩,⟨(some 10),(.mv (.tmp 9)),none⟩,⟨(some 11),(.mv (.tmp 1)),(some (10,false))⟩,⟨(some 12),(.fad 0 (.tmp 3)),(some (10,false))⟩,⟨(some 13),(.ld1 (.tmp 12)),(some (10,false))⟩,⟨(some 14),(.ar .sub (.tmp 13) (.const (.int .i64 1))),(some (10,false))⟩,⟨(some 15),(.pcall 81 [(.tmp 11),(.const (.int .i64 0)),(.tmp 14)]),(some (10,false))⟩,⟨(some 16),(.nt (.tmp 15)),(some (10,false))⟩,⟨(some 17),(.pick (.tmp 10) (.const (.bool true)) (.tmp 16)),none⟩,⟨(some 18),(.mv (.tmp 17)),none⟩,⟨(some 19),(.mv (.tmp 2)),(some (18,false))⟩,⟨(some 20),(.pcall 81 [(.tmp 19),(.const (.int .i64 0)),(.const (.int .i64 15))]),(some (18,false))⟩,⟨(some 21),(.nt (.tmp 20)),(some (18,false))⟩,⟨(some 22),(.pick (.tmp 18) (.const (.bool true)) (.tmp 21)),none⟩])
  (.cond (.tmp 22)
  (.seq (.reg [⟨(some 6),(.mv (.const (.int .i64 (-1)))),none⟩]) .ret) .skip))
  (.seq (.reg [⟨(some 23),(.fad 1 (.tmp 3)),none⟩,⟨(some 24),(.ld1 (.tmp 23)),none⟩,⟨(some 25),(.fad 0 (.tmp 3)),none⟩,⟨(some 26),(.ld1 (.tmp 25)),none⟩,⟨(some 27),(.ar .add (.tmp 24) (.tmp 26)),none⟩,⟨(some 28),(.mv (.tmp 1)),none⟩,⟨(some 29),(.ar .mul (.tmp 28) (.const (.int .i64 16))),none⟩,⟨(some 30),(.ar .add (.tmp 27) (.tmp 29)),none⟩,⟨(some 31),(.mv (.tmp 2)),none⟩,⟨(some 32),(.ar .add (.tmp 30) (.tmp 31)),none⟩,⟨(some 6),(.mv (.tmp 32)),none⟩]) .ret)))⟩:=by kernel_rfl

theorem tr102:trF Tryz.prog pures Tryz.f102=some
 ⟨6,[(.t 2)],
  (.seq (.reg [⟨(some 2),(.mv (.const (.int .i64 0))),none⟩])
  (.seq (.reg [⟨(some 3),(.mv (.tmp 0)),none⟩,⟨(some 4),(.bt .and (.tmp 3) (.const (.int .u64 15))),none⟩,⟨(some 5),(.cv .i64 (.tmp 4)),none⟩,⟨(some 2),(.mv (.tmp 5)),none⟩]) .ret))⟩:=by kernel_rfl

theorem tr103:trF Tryz.prog pures Tryz.f103=some
 ⟨12,[(.t 4)],
  (.seq (.reg [⟨(some 4),(.mv (.const (.int .i64 0))),none⟩])
  (.seq (.reg [⟨(some 5),(.mv (.tmp 0)),none⟩,⟨(some 6),(.mv (.tmp 1)),none⟩,⟨(some 7),(.ar .mul (.const (.int .i64 8)) (.tmp 6)),none⟩,⟨(some 8),(.ar .add (.const (.int .i64 4)) (.tmp 7)),none⟩,⟨(some 9),(.sh .shr (.tmp 5) (.tmp 8)),none⟩,⟨(some 10),(.bt .and (.tmp 9) (.const (.int .u64 255))),none⟩,⟨(some 11),(.cv .i64 (.tmp 10)),none⟩,⟨(some 4),(.mv (.tmp 11)),none⟩]) .ret))⟩:=by kernel_rfl

theorem tr104:trF Tryz.prog pures Tryz.f104=some
 ⟨20,[(.t 4)],
  (.seq (.reg [⟨(some 4),(.mv (.const (.bool false))),none⟩])
  (.seq (.reg [⟨(some 5),(.mv (.tmp 0)),none⟩,⟨(some 6),(.pnil true (.tmp 5)),none⟩,⟨(some 7),(.mv (.tmp 6)),none⟩,⟨(some 8),(.mv (.tmp 1)),(some (7,true))⟩,⟨(some 9),(.cmp .geq (.tmp 8) (.const (.int .i64 0))),(some (7,true))⟩,⟨(some 10),(.pick (.tmp 7) (.tmp 9) (.const (.bool false))),none⟩,⟨(some 11),(.mv (.tmp 10)),none⟩,⟨(some 12),(.mv (.tmp 1)),(some (11,true))⟩,⟨(some 13),(.mv (.tmp 0)),(some (11,true))⟩,⟨(some 14),(.nilck (.tmp 13)),(some (11,true))⟩,⟨(some 15),(.fad 0 (.tmp 14)),(some (11,true))⟩,⟨(some 16),(.ld1 (.tmp 15)),(some (11,true))⟩,⟨(some 17),(.len (.tmp 16)),(some (11,true))⟩,⟨(some 18),(.cmp .lss (.tmp 12) (.tmp 17)),(some (11,true))⟩,⟨(some 19),(.pick (.tmp 11) (.tmp 18) (.const (.bool false))),none⟩,⟨(some 4),(.mv (.tmp 19)),none⟩]) .ret))⟩:=by kernel_rfl

theorem tr112:trF Tryz.prog pures Tryz.f112=some
 ⟨24,[(.t 2),(.t 3)],
  (.seq (.reg [⟨(some 2),(.mv (.const (.int .i64 0))),none⟩,⟨(some 3),(.mv (.const (.bool false))),none⟩])
  (.seq (.seq
  (.reg [⟨(some 9),(.mv (.tmp 0)),none⟩,⟨(some 10),(.pcall 128 [(.tmp 9)]),none⟩,⟨(some 8),(.mv (.tmp 10)),none⟩,⟨(some 11),(.ext 0 (.tmp 8)),none⟩,⟨(some 12),(.ext 1 (.tmp 8)),none⟩,⟨(some 4),(.mv (.tmp 11)),none⟩,⟨(some 5),(.mv (.tmp 12)),none⟩])
  (.seq (.reg [⟨(some 13),(.mv (.tmp 5)),none⟩])
  (.cond (.tmp 13)
  (.seq (.reg [⟨(some 14),(.mv (.tmp 4)),none⟩,⟨(some 15),(.pcall 73 [(.tmp 14)]),none⟩,⟨(some 2),(.mv (.tmp 15)),none⟩,⟨(some 3),(.mv (.const (.bool true))),none⟩]) .ret) .skip)))
  (.seq (.reg [⟨(some 17),(.mv (.tmp 0)),none⟩,⟨(some 18),(.pcall 113 [(.tmp 17)]),none⟩,⟨(some 16),(.mv (.tmp 18)),none⟩,⟨(some 19),(.ext 0 (.tmp 16)),none⟩,⟨(some 20),(.ext 1 (.tmp 16)),none⟩,⟨(some 6),(.mv (.tmp 19)),none⟩,⟨(some 7),(.mv (.tmp 20)),none⟩])
  (.seq (.reg [⟨(some 21),(.mv (.tmp 6)),none⟩,⟨(some 22),(.sh .shl (.tmp 21) (.const (.int .u64 6))),none⟩,⟨(some 23),(.mv (.tmp 7)),none⟩,⟨(some 2),(.mv (.tmp 22)),none⟩,⟨(some 3),(.mv (.tmp 23)),none⟩]) .ret))))⟩:=by kernel_rfl

theorem tr113:trF Tryz.prog pures Tryz.f113=some
 ⟨11,[(.t 2),(.t 3)],
  (.seq (.reg [⟨(some 2),(.mv (.const (.int .i64 0))),none⟩,⟨(some 3),(.mv (.const (.bool false))),none⟩])
  (.seq (.seq
  (.reg [⟨(some 4),(.mv (.tmp 0)),none⟩,⟨(some 5),(.pcall 81 [(.tmp 4),(.const (.int .i64 33)),(.const (.int .i64 512))]),none⟩,⟨(some 6),(.nt (.tmp 5)),none⟩])
  (.cond (.tmp 6)
  (.seq (.reg [⟨(some 2),(.mv (.const (.int .i64 0))),none⟩,⟨(some 3),(.mv (.const (.bool false))),none⟩]) .ret) .skip))
  (.seq (.reg [⟨(some 7),(.mv (.tmp 0)),none⟩,⟨(some 8),(.ar .sub (.tmp 7) (.const (.int .i64 1))),none⟩,⟨(some 9),(.sh .shr (.tmp 8) (.const (.int .u64 6))),none⟩,⟨(some 10),(.ar .add (.tmp 9) (.const (.int .i64 1))),none⟩,⟨(some 2),(.mv (.tmp 10)),none⟩,⟨(some 3),(.mv (.const (.bool true))),none⟩]) .ret)))⟩:=by kernel_rfl

theorem tr119:trF Tryz.prog pures Tryz.f119=some
 ⟨33,[(.t 4)],
  (.seq (.reg [⟨(some 4),(.mv (.const (.int .u64 0))),none⟩])
  (.seq (.reg [⟨(some 8),(.mv (.tmp 0)),none⟩,⟨(some 9),(.cv .u64 (.tmp 8)),none⟩,⟨(some 5),(.mv (.tmp 9)),none⟩])
  (.seq (.seq
  (.reg [⟨(some 10),(.mv (.tmp 1)),none⟩,⟨(some 11),(.len (.tmp 10)),none⟩,⟨(some 12),(.mv (.const (.int .i64 0))),none⟩])
  (.block 0
  (.loop (.seq
  (.reg [⟨(some 13),(.cmp .lss (.tmp 12) (.tmp 11)),none⟩])
  (.seq (.cond (.tmp 13) .skip (.exit 0))
  (.seq (.block 1
  (.seq (.reg [⟨(some 14),(.mv (.tmp 12)),none⟩,⟨(some 15),(.iad 1 (.tmp 10) (.tmp 12)),none⟩,⟨(some 16),(.ld1 (.tmp 15)),none⟩,⟨(some 6),(.mv (.tmp 14)),none⟩,⟨(some 7),(.mv (.tmp 16)),none⟩])
  (.seq (.seq
  (.reg [⟨(some 17),(.mv (.tmp 7)),none⟩,⟨(some 18),(.cmp .lss (.tmp 17) (.const (.int .i64 0))),none⟩,⟨(some 19),(.mv (.tmp 18)),none⟩,⟨(some 20),(.mv (.tmp 7)),(some (19,false))⟩,⟨(some 21),(.cmp .gtr (.tmp 20) (.const (.int .i64 255))),(some (19,false))⟩,⟨(some 22),(.pick (.tmp 19) (.const (.bool true)) (.tmp 21)),none⟩])
  (.cond (.tmp 22)
  (.seq (.reg [⟨(some 4),(.mv (.const (.int .u64 0))),none⟩]) .ret) .skip))
  (.reg [⟨(some 23),(.mv (.tmp 5)),none⟩,⟨(some 24),(.mv (.tmp 7)),none⟩,⟨(some 25),(.cv .u64 (.tmp 24)),none⟩,⟨(some 26),(.mv (.tmp 6)),none⟩,⟨(some 27),(.ar .mul (.const (.int .i64 8)) (.tmp 26)),none⟩,⟨(some 28),(.ar .add (.const (.int .i64 4)) (.tmp 27)),none⟩,⟨(some 29),(.sh .shl (.tmp 25) (.tmp 28)),none⟩,⟨(some 30),(.bt .or (.tmp 23) (.tmp 29)),none⟩,⟨(some 5),(.mv (.tmp 30)),none⟩]))))
  (.reg [⟨(some 31),(.ar .add (.tmp 12) (.const (.int .i64 1))),none⟩,⟨(some 12),(.mv (.tmp 31)),none⟩])))))))
  (.seq (.reg [⟨(some 32),(.mv (.tmp 5)),none⟩,⟨(some 4),(.mv (.tmp 32)),none⟩]) .ret))))⟩:=by kernel_rfl

theorem tr120:trF Tryz.prog pures Tryz.f120=some
 ⟨39,[(.t 2)],
  (.seq (.reg [⟨(some 1),(.box 107 (.tmp 0)),none⟩,⟨(some 2),(.mv (.const (.int .u64 0))),none⟩])
  (.seq (.seq
  (.reg [⟨(some 3),(.fad 0 (.tmp 1)),none⟩,⟨(some 4),(.ld1 (.tmp 3)),none⟩,⟨(some 5),(.cmp .lss (.tmp 4) (.const (.int .i64 0))),none⟩,⟨(some 6),(.mv (.tmp 5)),none⟩,⟨(some 7),(.fad 0 (.tmp 1)),(some (6,false))⟩,⟨(some 8),(.ld1 (.tmp 7)),(some (6,false))⟩,⟨(some 9),(.cmp .gtr (.tmp 8) (.const (.int .i64 4))),(some (6,false))⟩,⟨(some 10),(.pick (.tmp 6) (.const (.bool true)) (.tmp 9)),none⟩,⟨(some 11),(.mv (.tmp 10)),none⟩,⟨(some 12),(.fad 0 (.tmp 1)),(some (11,false))⟩,⟨(some 13),(.ld1 (.tmp 12)),(some (11,false))⟩,⟨(some 14),(.cmp .eql (.tmp 13) (.const (.int .i64 0))),(some (11,false))⟩,⟨(some 15),(.mv (.tmp 14)),(some (11,false))⟩,⟨(some 16),(.fad 1 (.tmp 1)),(some (15,true))⟩,⟨(some 17),(.ld1 (.tmp 16)),(some (15,true))⟩,⟨(some 18),(.cmp .neq (.tmp 17) (.const (.int .i64 0))),(some (15,true))⟩,⟨(some 19),(.pick (.tmp 15) (.tmp 18) (.const (.bool false))),(some (11,false))⟩,⟨(some 20),(.pick (.tmp 11) (.const (.bool true)) (.tmp 19)),none⟩,⟨(some 21),(.mv (.tmp 20)),none⟩,⟨(some 22),(.fad 0 (.tmp 1)),(some (21,false))⟩,⟨(some 23),(.ld1 (.tmp 22)),(some (21,false))⟩,⟨(some 24),(.cmp .neq (.tmp 23) (.const (.int .i64 2))),(some (21,false))⟩,⟨(some 25),(.mv (.tmp 24)),(some (21,false))⟩,⟨(some 26),(.fad 2 (.tmp 1)),(some (25,true))⟩,⟨(some 27),(.ld1 (.tmp 26)),(some (25,true))⟩,⟨(some 28),(.cmp .neq (.tmp 27) (.const (.int .i64 0))),(some (25,true))⟩,⟨(some 29),(.pick (.tmp 25) (.tmp 28) (.const (.bool false))),(some (21,false))⟩,⟨(some 30),(.pick (.tmp 21) (.const (.bool true)) (.tmp 29)),none⟩])
  (.cond (.tmp 30)
  (.seq (.reg [⟨(some 2),(.mv (.const (.int .u64 0))),none⟩]) .ret) .skip))
  (.seq (.reg [⟨(some 31),(.fad 0 (.tmp 1)),none⟩,⟨(some 32),(.ld1 (.tmp 31)),none⟩,⟨(some 33),(.fad 1 (.tmp 1)),none⟩,⟨(some 34),(.ld1 (.tmp 33)),none⟩,⟨(some 35),(.fad 2 (.tmp 1)),none⟩,⟨(some 36),(.ld1 (.tmp 35)),none⟩,⟨(some 37),(.bsl 3 #[(.int .i64 0),(.int .i64 0)] 2 1 [(0,(.tmp 34)),(1,(.tmp 36))]),none⟩,⟨(some 38),(.call 119 [(.tmp 32),(.tmp 37)]),none⟩,⟨(some 2),(.mv (.tmp 38)),none⟩]) .ret)))⟩:=by kernel_rfl

theorem tr121:trF Tryz.prog pures Tryz.f121=some
 ⟨60,[(.t 6)],
  (.seq (.reg [⟨(some 3),(.box 23 (.tmp 0)),none⟩,⟨(some 5),(.box 107 (.tmp 2)),none⟩,⟨(some 6),(.mv (.const (.bool false))),none⟩])
  (.seq (.seq
  (.reg [⟨(some 7),(.fad 0 (.tmp 5)),none⟩,⟨(some 8),(.ld1 (.tmp 7)),none⟩])
  (.block 0
  (.seq (.reg [⟨(some 10),(.cmp .eql (.tmp 8) (.const (.int .i64 1))),none⟩,⟨(some 9),(.mv (.tmp 10)),none⟩])
  (.cond (.tmp 9)
  (.seq (.reg [⟨(some 11),(.fad 1 (.tmp 5)),none⟩,⟨(some 12),(.ld1 (.tmp 11)),none⟩,⟨(some 13),(.fad 1 (.tmp 3)),none⟩,⟨(some 14),(.ld1 (.tmp 13)),none⟩,⟨(some 15),(.cmp .lss (.tmp 12) (.tmp 14)),none⟩,⟨(some 6),(.mv (.tmp 15)),none⟩]) .ret)
  (.seq (.reg [⟨(some 17),(.cmp .eql (.tmp 8) (.const (.int .i64 2))),none⟩,⟨(some 16),(.mv (.tmp 17)),none⟩])
  (.cond (.tmp 16)
  (.seq (.reg [⟨(some 18),(.fad 1 (.tmp 5)),none⟩,⟨(some 19),(.ld1 (.tmp 18)),none⟩,⟨(some 20),(.cmp .lss (.tmp 19) (.const (.int .i64 4))),none⟩,⟨(some 21),(.mv (.tmp 20)),none⟩,⟨(some 22),(.fad 2 (.tmp 5)),(some (21,true))⟩,⟨(some 23),(.ld1 (.tmp 22)),(some (21,true))⟩,⟨(some 24),(.fad 1 (.tmp 3)),(some (21,true))⟩,⟨(some 25),(.ld1 (.tmp 24)),(some (21,true))⟩,⟨(some 26),(.cmp .lss (.tmp 23) (.tmp 25)),(some (21,true))⟩,⟨(some 27),(.pick (.tmp 21) (.tmp 26) (.const (.bool false))),none⟩,⟨(some 6),(.mv (.tmp 27)),none⟩]) .ret)
  (.seq (.reg [⟨(some 29),(.cmp .eql (.tmp 8) (.const (.int .i64 3))),none⟩,⟨(some 28),(.mv (.tmp 29)),none⟩])
  (.cond (.tmp 28)
  (.seq (.reg [⟨(some 30),(.fad 1 (.tmp 5)),none⟩,⟨(some 31),(.ld1 (.tmp 30)),none⟩,⟨(some 32),(.cmp .geq (.tmp 31) (.const (.int .i64 1))),none⟩,⟨(some 33),(.mv (.tmp 32)),none⟩,⟨(some 34),(.fad 1 (.tmp 5)),(some (33,true))⟩,⟨(some 35),(.ld1 (.tmp 34)),(some (33,true))⟩,⟨(some 36),(.cmp .leq (.tmp 35) (.const (.int .i64 8))),(some (33,true))⟩,⟨(some 37),(.pick (.tmp 33) (.tmp 36) (.const (.bool false))),none⟩,⟨(some 38),(.mv (.tmp 37)),none⟩,⟨(some 39),(.fad 1 (.tmp 5)),(some (38,true))⟩,⟨(some 40),(.ld1 (.tmp 39)),(some (38,true))⟩,⟨(some 41),(.fad 0 (.tmp 3)),(some (38,true))⟩,⟨(some 42),(.ld1 (.tmp 41)),(some (38,true))⟩,⟨(some 43),(.mv (.tmp 1)),(some (38,true))⟩,⟨(some 44),(.ar .sub (.tmp 42) (.tmp 43)),(some (38,true))⟩,⟨(some 45),(.cmp .leq (.tmp 40) (.tmp 44)),(some (38,true))⟩,⟨(some 46),(.pick (.tmp 38) (.tmp 45) (.const (.bool false))),none⟩,⟨(some 6),(.mv (.tmp 46)),none⟩]) .ret)
  (.seq (.reg [⟨(some 48),(.cmp .eql (.tmp 8) (.const (.int .i64 4))),none⟩,⟨(some 47),(.mv (.tmp 48)),none⟩])
  (.cond (.tmp 47)
  (.seq (.reg [⟨(some 49),(.fad 1 (.tmp 5)),none⟩,⟨(some 50),(.ld1 (.tmp 49)),none⟩,⟨(some 51),(.mv (.tmp 1)),none⟩,⟨(some 52),(.cmp .lss (.tmp 50) (.tmp 51)),none⟩,⟨(some 53),(.mv (.tmp 52)),none⟩,⟨(some 54),(.fad 1 (.tmp 5)),(some (53,true))⟩,⟨(some 55),(.ld1 (.tmp 54)),(some (53,true))⟩,⟨(some 56),(.mv (.tmp 1)),(some (53,true))⟩,⟨(some 57),(.ar .sub (.tmp 56) (.const (.int .i64 8))),(some (53,true))⟩,⟨(some 58),(.cmp .gtr (.tmp 55) (.tmp 57)),(some (53,true))⟩,⟨(some 59),(.pick (.tmp 53) (.tmp 58) (.const (.bool false))),none⟩,⟨(some 6),(.mv (.tmp 59)),none⟩]) .ret) .skip))))))))))
  (.seq (.reg [⟨(some 6),(.mv (.const (.bool true))),none⟩]) .ret)))⟩:=by kernel_rfl

theorem tr122:trF Tryz.prog pures Tryz.f122=some
 ⟨27,[(.t 2)],
  (.seq (.reg [⟨(some 1),(.box 128 (.tmp 0)),none⟩,⟨(some 2),(.mv (.const (.int .u64 0))),none⟩])
  (.seq (.seq
  (.reg [⟨(some 3),(.fad 0 (.tmp 1)),none⟩,⟨(some 4),(.ld1 (.tmp 3)),none⟩,⟨(some 5),(.cmp .lss (.tmp 4) (.const (.int .i64 0))),none⟩,⟨(some 6),(.mv (.tmp 5)),none⟩,⟨(some 7),(.fad 0 (.tmp 1)),(some (6,false))⟩,⟨(some 8),(.ld1 (.tmp 7)),(some (6,false))⟩,⟨(some 9),(.cmp .gtr (.tmp 8) (.const (.int .i64 3))),(some (6,false))⟩,⟨(some 10),(.pick (.tmp 6) (.const (.bool true)) (.tmp 9)),none⟩,⟨(some 11),(.mv (.tmp 10)),none⟩,⟨(some 12),(.fad 0 (.tmp 1)),(some (11,false))⟩,⟨(some 13),(.ld1 (.tmp 12)),(some (11,false))⟩,⟨(some 14),(.cmp .eql (.tmp 13) (.const (.int .i64 0))),(some (11,false))⟩,⟨(some 15),(.mv (.tmp 14)),(some (11,false))⟩,⟨(some 16),(.fad 1 (.tmp 1)),(some (15,true))⟩,⟨(some 17),(.ld1 (.tmp 16)),(some (15,true))⟩,⟨(some 18),(.cmp .neq (.tmp 17) (.const (.int .i64 0))),(some (15,true))⟩,⟨(some 19),(.pick (.tmp 15) (.tmp 18) (.const (.bool false))),(some (11,false))⟩,⟨(some 20),(.pick (.tmp 11) (.const (.bool true)) (.tmp 19)),none⟩])
  (.cond (.tmp 20)
  (.seq (.reg [⟨(some 2),(.mv (.const (.int .u64 0))),none⟩]) .ret) .skip))
  (.seq (.reg [⟨(some 21),(.fad 0 (.tmp 1)),none⟩,⟨(some 22),(.ld1 (.tmp 21)),none⟩,⟨(some 23),(.fad 1 (.tmp 1)),none⟩,⟨(some 24),(.ld1 (.tmp 23)),none⟩,⟨(some 25),(.bsl 3 #[(.int .i64 0)] 1 1 [(0,(.tmp 24))]),none⟩,⟨(some 26),(.call 119 [(.tmp 22),(.tmp 25)]),none⟩,⟨(some 2),(.mv (.tmp 26)),none⟩]) .ret)))⟩:=by kernel_rfl

theorem tr128:trF Tryz.prog pures Tryz.f128=some
 ⟨15,[(.t 2),(.t 3)],
  (.seq (.reg [⟨(some 2),(.mv (.const (.int .i64 0))),none⟩,⟨(some 3),(.mv (.const (.bool false))),none⟩])
  (.seq (.seq
  (.reg [⟨(some 5),(.mv (.tmp 0)),none⟩,⟨(some 6),(.pcall 81 [(.tmp 5),(.const (.int .i64 1)),(.const (.int .i64 32))]),none⟩,⟨(some 7),(.nt (.tmp 6)),none⟩])
  (.cond (.tmp 7)
  (.seq (.reg [⟨(some 2),(.mv (.const (.int .i64 0))),none⟩,⟨(some 3),(.mv (.const (.bool false))),none⟩]) .ret) .skip))
  (.seq (.reg [⟨(some 4),(.mv (.const (.int .i64 0))),none⟩])
  (.seq (.block 0
  (.loop (.seq
  (.seq (.reg [⟨(some 8),(.mv (.tmp 4)),none⟩,⟨(some 9),(.pcall 73 [(.tmp 8)]),none⟩,⟨(some 10),(.mv (.tmp 0)),none⟩,⟨(some 11),(.cmp .lss (.tmp 9) (.tmp 10)),none⟩])
  (.cond (.tmp 11) .skip (.exit 0)))
  (.block 1
  (.reg [⟨(some 12),(.mv (.tmp 4)),none⟩,⟨(some 13),(.ar .add (.tmp 12) (.const (.int .i64 1))),none⟩,⟨(some 4),(.mv (.tmp 13)),none⟩])))))
  (.seq (.reg [⟨(some 14),(.mv (.tmp 4)),none⟩,⟨(some 2),(.mv (.tmp 14)),none⟩,⟨(some 3),(.mv (.const (.bool true))),none⟩]) .ret)))))⟩:=by kernel_rfl

theorem tr199:trF Tryz.prog pures Tryz.f199=some
 ⟨31,[],
  (.seq (.reg [⟨(some 8),(.mv (.tmp 0)),none⟩,⟨(some 9),(.mv (.tmp 2)),none⟩,⟨(some 10),(.call 211 [(.tmp 8),(.tmp 9)]),none⟩])
  (.seq (.reg [⟨(some 11),(.mv (.tmp 0)),none⟩,⟨(some 12),(.mv (.tmp 1)),none⟩,⟨(some 13),(.mv (.tmp 2)),none⟩,⟨(some 14),(.mv (.tmp 0)),none⟩,⟨(some 15),(.nilck (.tmp 14)),none⟩,⟨(some 16),(.fad 0 (.tmp 15)),none⟩,⟨(some 17),(.ld1 (.tmp 16)),none⟩,⟨(some 18),(.mv (.tmp 2)),none⟩,⟨(some 19),(.iad 1 (.tmp 17) (.tmp 18)),none⟩,⟨(some 20),(.ld1 (.tmp 19)),none⟩,⟨(some 21),(.mv (.tmp 3)),none⟩,⟨(some 22),(.bld #[(.int .i64 0),(.int .i64 0),(.int .i64 0),(.int .u64 0),(.int .u64 0),(.bool false)] [(0,(1,(.tmp 12))),(1,(1,(.const (.int .i64 1)))),(2,(1,(.tmp 13))),(3,(1,(.tmp 20))),(4,(1,(.tmp 21))),(5,(1,(.const (.bool true))))]),none⟩,⟨(some 23),(.call 212 [(.tmp 11),(.tmp 22)]),none⟩])
  (.reg [⟨(some 24),(.mv (.tmp 0)),none⟩,⟨(some 25),(.nilck (.tmp 24)),none⟩,⟨(some 26),(.fad 0 (.tmp 25)),none⟩,⟨(some 27),(.ld1 (.tmp 26)),none⟩,⟨(some 28),(.mv (.tmp 2)),none⟩,⟨(some 29),(.mv (.tmp 3)),none⟩,⟨(some 30),(.iad 1 (.tmp 27) (.tmp 28)),none⟩,⟨none,(.st1 (.tmp 30) (.tmp 29)),none⟩])))⟩:=by kernel_rfl

theorem tr200:trF Tryz.prog pures Tryz.f200=some
 ⟨29,[(.t 6)],
  (.seq (.reg [⟨(some 6),(.mv (.const (.int .u64 0))),none⟩])
  (.seq (.reg [⟨(some 7),(.mv (.tmp 0)),none⟩,⟨(some 8),(.mv (.tmp 2)),none⟩,⟨(some 9),(.call 211 [(.tmp 7),(.tmp 8)]),none⟩])
  (.seq (.reg [⟨(some 10),(.mv (.tmp 0)),none⟩,⟨(some 11),(.mv (.tmp 1)),none⟩,⟨(some 12),(.mv (.tmp 2)),none⟩,⟨(some 13),(.mv (.tmp 0)),none⟩,⟨(some 14),(.nilck (.tmp 13)),none⟩,⟨(some 15),(.fad 0 (.tmp 14)),none⟩,⟨(some 16),(.ld1 (.tmp 15)),none⟩,⟨(some 17),(.mv (.tmp 2)),none⟩,⟨(some 18),(.iad 1 (.tmp 16) (.tmp 17)),none⟩,⟨(some 19),(.ld1 (.tmp 18)),none⟩,⟨(some 20),(.bld #[(.int .i64 0),(.int .i64 0),(.int .i64 0),(.int .u64 0),(.int .u64 0),(.bool false)] [(0,(1,(.tmp 11))),(1,(1,(.const (.int .i64 0)))),(2,(1,(.tmp 12))),(3,(1,(.tmp 19))),(5,(1,(.const (.bool true))))]),none⟩,⟨(some 21),(.call 212 [(.tmp 10),(.tmp 20)]),none⟩])
  (.seq (.reg [⟨(some 22),(.mv (.tmp 0)),none⟩,⟨(some 23),(.nilck (.tmp 22)),none⟩,⟨(some 24),(.fad 0 (.tmp 23)),none⟩,⟨(some 25),(.ld1 (.tmp 24)),none⟩,⟨(some 26),(.mv (.tmp 2)),none⟩,⟨(some 27),(.iad 1 (.tmp 25) (.tmp 26)),none⟩,⟨(some 28),(.ld1 (.tmp 27)),none⟩,⟨(some 6),(.mv (.tmp 28)),none⟩]) .ret))))⟩:=by kernel_rfl

theorem tr203:trF Tryz.prog pures Tryz.f203=some
 ⟨47,[(.t 10)],
  (.seq (.reg [⟨(some 10),(.mv (.const (.bool false))),none⟩])
  (.seq (.reg [⟨(some 12),(.mv (.tmp 0)),none⟩,⟨(some 13),(.mv (.tmp 2)),none⟩,⟨(some 14),(.call 211 [(.tmp 12),(.tmp 13)]),none⟩])
  (.seq (.reg [⟨(some 15),(.mv (.tmp 0)),none⟩,⟨(some 16),(.nilck (.tmp 15)),none⟩,⟨(some 17),(.fad 0 (.tmp 16)),none⟩,⟨(some 18),(.ld1 (.tmp 17)),none⟩,⟨(some 19),(.mv (.tmp 2)),none⟩,⟨(some 20),(.iad 1 (.tmp 18) (.tmp 19)),none⟩,⟨(some 21),(.ld1 (.tmp 20)),none⟩,⟨(some 22),(.mv (.tmp 3)),none⟩,⟨(some 23),(.cmp .eql (.tmp 21) (.tmp 22)),none⟩,⟨(some 11),(.mv (.tmp 23)),none⟩])
  (.seq (.reg [⟨(some 24),(.mv (.tmp 0)),none⟩,⟨(some 25),(.mv (.tmp 1)),none⟩,⟨(some 26),(.mv (.tmp 2)),none⟩,⟨(some 27),(.mv (.tmp 0)),none⟩,⟨(some 28),(.nilck (.tmp 27)),none⟩,⟨(some 29),(.fad 0 (.tmp 28)),none⟩,⟨(some 30),(.ld1 (.tmp 29)),none⟩,⟨(some 31),(.mv (.tmp 2)),none⟩,⟨(some 32),(.iad 1 (.tmp 30) (.tmp 31)),none⟩,⟨(some 33),(.ld1 (.tmp 32)),none⟩,⟨(some 34),(.mv (.tmp 4)),none⟩,⟨(some 35),(.mv (.tmp 11)),none⟩,⟨(some 36),(.bld #[(.int .i64 0),(.int .i64 0),(.int .i64 0),(.int .u64 0),(.int .u64 0),(.bool false)] [(0,(1,(.tmp 25))),(1,(1,(.const (.int .i64 2)))),(2,(1,(.tmp 26))),(3,(1,(.tmp 33))),(4,(1,(.tmp 34))),(5,(1,(.tmp 35)))]),none⟩,⟨(some 37),(.call 212 [(.tmp 24),(.tmp 36)]),none⟩])
  (.seq (.seq
  (.reg [⟨(some 38),(.mv (.tmp 11)),none⟩])
  (.cond (.tmp 38)
  (.reg [⟨(some 39),(.mv (.tmp 0)),none⟩,⟨(some 40),(.nilck (.tmp 39)),none⟩,⟨(some 41),(.fad 0 (.tmp 40)),none⟩,⟨(some 42),(.ld1 (.tmp 41)),none⟩,⟨(some 43),(.mv (.tmp 2)),none⟩,⟨(some 44),(.mv (.tmp 4)),none⟩,⟨(some 45),(.iad 1 (.tmp 42) (.tmp 43)),none⟩,⟨none,(.st1 (.tmp 45) (.tmp 44)),none⟩]) .skip))
  (.seq (.reg [⟨(some 46),(.mv (.tmp 11)),none⟩,⟨(some 10),(.mv (.tmp 46)),none⟩]) .ret))))))⟩:=by kernel_rfl

theorem tr211:trF Tryz.prog pures Tryz.f211=some
 ⟨9,[],
  (.seq (.reg [⟨(some 4),(.mv (.tmp 0)),none⟩,⟨(some 5),(.mv (.tmp 1)),none⟩,⟨(some 6),(.call 104 [(.tmp 4),(.tmp 5)]),none⟩,⟨(some 7),(.nt (.tmp 6)),none⟩])
  (.cond (.tmp 7) .no .skip))⟩:=by kernel_rfl

theorem tr212:trF Tryz.prog pures Tryz.f212=some
 ⟨15,[],
  (.seq (.reg [⟨(some 3),(.box 52 (.tmp 1)),none⟩])
  (.seq (.reg [⟨(some 4),(.mv (.tmp 0)),none⟩,⟨(some 5),(.nilck (.tmp 4)),none⟩,⟨(some 6),(.fad 1 (.tmp 5)),none⟩,⟨(some 7),(.ld1 (.tmp 6)),none⟩,⟨(some 8),(.ar .add (.tmp 7) (.const (.int .i64 1))),none⟩,⟨(some 9),(.nilck (.tmp 4)),none⟩,⟨(some 10),(.fad 1 (.tmp 9)),none⟩,⟨none,(.st1 (.tmp 10) (.tmp 8)),none⟩])
  (.reg [⟨(some 11),(.mv (.tmp 0)),none⟩,⟨(some 12),(.ldn 6 (.tmp 3)),none⟩,⟨(some 13),(.nilck (.tmp 11)),none⟩,⟨(some 14),(.fad 2 (.tmp 13)),none⟩,⟨none,(.stn 6 (.tmp 14) (.tmp 12)),none⟩])))⟩:=by kernel_rfl

theorem tr222:trF Tryz.prog pures Tryz.f222=some
 ⟨42,[(.t 6)],
  (.seq (.reg [⟨(some 3),(.box 23 (.tmp 0)),none⟩,⟨(some 6),(.mv (.const (.int .i64 0))),none⟩])
  (.seq (.seq
  (.reg [⟨(some 7),(.ldn 3 (.tmp 3)),none⟩,⟨(some 8),(.pcall 53 [(.tmp 7)]),none⟩,⟨(some 9),(.nt (.tmp 8)),none⟩,⟨(some 10),(.mv (.tmp 9)),none⟩,⟨(some 11),(.mv (.tmp 1)),(some (10,false))⟩,⟨(some 12),(.fad 1 (.tmp 3)),(some (10,false))⟩,⟨(some 13),(.ld1 (.tmp 12)),(some (10,false))⟩,⟨(some 14),(.ar .sub (.tmp 13) (.const (.int .i64 1))),(some (10,false))⟩,⟨(some 15),(.pcall 81 [(.tmp 11),(.const (.int .i64 0)),(.tmp 14)]),(some (10,false))⟩,⟨(some 16),(.nt (.tmp 15)),(some (10,false))⟩,⟨(some 17),(.pick (.tmp 10) (.const (.bool true)) (.tmp 16)),none⟩,⟨(some 18),(.mv (.tmp 17)),none⟩,⟨(some 19),(.mv (.tmp 2)),(some (18,false))⟩,⟨(some 20),(.fad 2 (.tmp 3)),(some (18,false))⟩,⟨(some 21),(.ld1 (.tmp 20)),(some (18,false))⟩,⟨(some 22),(.ar .sub (.tmp 21) (.const (.int .i64 1))),(some (18,false))⟩,⟨(some 23),(.pcall 81 [(.tmp 19),(.const (.int .i64 0)),(.tmp 22)]),(some (18,false))⟩,⟨(some 24),(.nt (.tmp 23)),(some (18,false))⟩,⟨(some 25),(.pick (.tmp 18) (.const (.bool true)) (.tmp 24)),none⟩])
  (.cond (.tmp 25)
  (.seq (.reg [⟨(some 6),(.mv (.const (.int .i64 (-1)))),none⟩]) .ret) .skip))
  (.seq (.reg [⟨(some 26),(.fad 1 (.tmp 3)),none⟩,⟨(some 27),(.ld1 (.tmp 26)),none⟩,⟨(some 28),(.fad 0 (.tmp 3)),none⟩,⟨(some 29),(.ld1 (.tmp 28)),none⟩,⟨(some 30),(.ar .add (.tmp 27) (.tmp 29)),none⟩,⟨(some 31),(.fad 0 (.tmp 3)),none⟩,⟨(some 32),(.ld1 (.tmp 31)),none⟩,⟨(some 33),(.ar .mul (.tmp 32) (.const (.int .i64 16))),none⟩,⟨(some 34),(.ar .add (.tmp 30) (.tmp 33)),none⟩,⟨(some 35),(.mv (.tmp 1)),none⟩,⟨(some 36),(.fad 2 (.tmp 3)),none⟩,⟨(some 37),(.ld1 (.tmp 36)),none⟩,⟨(some 38),(.ar .mul (.tmp 35) (.tmp 37)),none⟩,⟨(some 39),(.ar .add (.tmp 34) (.tmp 38)),none⟩,⟨(some 40),(.mv (.tmp 2)),none⟩,⟨(some 41),(.ar .add (.tmp 39) (.tmp 40)),none⟩,⟨(some 6),(.mv (.tmp 41)),none⟩]) .ret)))⟩:=by kernel_rfl

theorem tr223:trF Tryz.prog pures Tryz.f223=some
 ⟨11,[(.t 2)],
  (.seq (.reg [⟨(some 1),(.box 238 (.tmp 0)),none⟩,⟨(some 2),(.mv (.const (.int .u64 0))),none⟩])
  (.seq (.reg [⟨(some 3),(.fad 0 (.tmp 1)),none⟩,⟨(some 4),(.ld1 (.tmp 3)),none⟩,⟨(some 5),(.fad 1 (.tmp 1)),none⟩,⟨(some 6),(.ld1 (.tmp 5)),none⟩,⟨(some 7),(.fad 2 (.tmp 1)),none⟩,⟨(some 8),(.ld1 (.tmp 7)),none⟩,⟨(some 9),(.bsl 3 #[(.int .i64 0),(.int .i64 0),(.int .i64 0)] 3 1 [(0,(.tmp 4)),(1,(.tmp 6)),(2,(.tmp 8))]),none⟩,⟨(some 10),(.call 119 [(.const (.int .i64 1)),(.tmp 9)]),none⟩,⟨(some 2),(.mv (.tmp 10)),none⟩]) .ret))⟩:=by kernel_rfl

theorem tr252:trF Tryz.prog pures Tryz.f252=some
 ⟨35,[(.cn 4 3),(.t 5)],
  (.seq (.reg [⟨(some 2),(.box 23 (.tmp 0)),none⟩,⟨(some 4),(.alc 238 (.agg #[(.int .i64 0),(.int .i64 0),(.int .i64 0)])),none⟩,⟨(some 5),(.mv (.const (.bool false))),none⟩])
  (.seq (.reg [⟨(some 7),(.mv (.tmp 1)),none⟩,⟨(some 8),(.pcall 103 [(.tmp 7),(.const (.int .i64 0))]),none⟩,⟨(some 9),(.mv (.tmp 1)),none⟩,⟨(some 10),(.pcall 103 [(.tmp 9),(.const (.int .i64 1))]),none⟩,⟨(some 11),(.mv (.tmp 1)),none⟩,⟨(some 12),(.pcall 103 [(.tmp 11),(.const (.int .i64 2))]),none⟩,⟨(some 13),(.bld #[(.int .i64 0),(.int .i64 0),(.int .i64 0)] [(0,(1,(.tmp 8))),(1,(1,(.tmp 10))),(2,(1,(.tmp 12)))]),none⟩,⟨(some 6),(.alc 238 (.agg #[(.int .i64 0),(.int .i64 0),(.int .i64 0)])),none⟩,⟨none,(.stn 3 (.tmp 6) (.tmp 13)),none⟩])
  (.seq (.seq
  (.reg [⟨(some 14),(.ldn 3 (.tmp 6)),none⟩,⟨(some 15),(.pcall 223 [(.tmp 14)]),none⟩,⟨(some 16),(.mv (.tmp 1)),none⟩,⟨(some 17),(.cmp .neq (.tmp 15) (.tmp 16)),none⟩,⟨(some 18),(.mv (.tmp 17)),none⟩,⟨(some 19),(.ldn 3 (.tmp 2)),(some (18,false))⟩,⟨(some 20),(.fad 0 (.tmp 6)),(some (18,false))⟩,⟨(some 21),(.ld1 (.tmp 20)),(some (18,false))⟩,⟨(some 22),(.pcall 94 [(.tmp 19),(.tmp 21)]),(some (18,false))⟩,⟨(some 23),(.cmp .lss (.tmp 22) (.const (.int .i64 0))),(some (18,false))⟩,⟨(some 24),(.pick (.tmp 18) (.const (.bool true)) (.tmp 23)),none⟩,⟨(some 25),(.mv (.tmp 24)),none⟩,⟨(some 26),(.fad 1 (.tmp 6)),(some (25,false))⟩,⟨(some 27),(.ld1 (.tmp 26)),(some (25,false))⟩,⟨(some 28),(.fad 2 (.tmp 6)),(some (25,false))⟩,⟨(some 29),(.ld1 (.tmp 28)),(some (25,false))⟩,⟨(some 30),(.pcall 70 [(.tmp 29)]),(some (25,false))⟩,⟨(some 31),(.cmp .geq (.tmp 27) (.tmp 30)),(some (25,false))⟩,⟨(some 32),(.pick (.tmp 25) (.const (.bool true)) (.tmp 31)),none⟩])
  (.cond (.tmp 32)
  (.seq (.reg [⟨(some 33),(.bld #[(.int .i64 0),(.int .i64 0),(.int .i64 0)] []),none⟩,⟨none,(.stn 3 (.tmp 4) (.tmp 33)),none⟩,⟨(some 5),(.mv (.const (.bool false))),none⟩]) .ret) .skip))
  (.seq (.reg [⟨(some 34),(.ldn 3 (.tmp 6)),none⟩,⟨none,(.stn 3 (.tmp 4) (.tmp 34)),none⟩,⟨(some 5),(.mv (.const (.bool true))),none⟩]) .ret))))⟩:=by kernel_rfl

theorem tr26:trF Tryz.prog pures Tryz.f26=some
 ⟨12,[(.t 2)],
  (.seq (.reg [⟨(some 2),(.mv (.const (.int .i64 0))),none⟩])
  (.seq (.seq
  (.reg [⟨(some 3),(.mv (.tmp 0)),none⟩,⟨(some 4),(.cmp .lss (.tmp 3) (.const (.int .i64 0))),none⟩,⟨(some 5),(.mv (.tmp 4)),none⟩,⟨(some 6),(.mv (.tmp 0)),(some (5,false))⟩,⟨(some 7),(.cmp .geq (.tmp 6) (.const (.int .i64 4))),(some (5,false))⟩,⟨(some 8),(.pick (.tmp 5) (.const (.bool true)) (.tmp 7)),none⟩])
  (.cond (.tmp 8)
  (.seq (.reg [⟨(some 2),(.mv (.const (.int .i64 0))),none⟩]) .ret) .skip))
  (.seq (.reg [⟨(some 9),(.mv (.tmp 0)),none⟩,⟨(some 10),(.cv .u64 (.tmp 9)),none⟩,⟨(some 11),(.sh .shl (.const (.int .i64 4)) (.tmp 10)),none⟩,⟨(some 2),(.mv (.tmp 11)),none⟩]) .ret)))⟩:=by kernel_rfl

theorem tr29:trF Tryz.prog pures Tryz.f29=some
 ⟨18,[(.t 2),(.t 3)],
  (.seq (.reg [⟨(some 2),(.mv (.const (.int .i64 0))),none⟩,⟨(some 3),(.mv (.const (.bool false))),none⟩])
  (.seq (.seq
  (.reg [⟨(some 5),(.mv (.tmp 0)),none⟩,⟨(some 6),(.cmp .lss (.tmp 5) (.const (.int .i64 1))),none⟩,⟨(some 7),(.mv (.tmp 6)),none⟩,⟨(some 8),(.mv (.tmp 0)),(some (7,false))⟩,⟨(some 9),(.cmp .gtr (.tmp 8) (.const (.int .i64 32))),(some (7,false))⟩,⟨(some 10),(.pick (.tmp 7) (.const (.bool true)) (.tmp 9)),none⟩])
  (.cond (.tmp 10)
  (.seq (.reg [⟨(some 2),(.mv (.const (.int .i64 0))),none⟩,⟨(some 3),(.mv (.const (.bool false))),none⟩]) .ret) .skip))
  (.seq (.reg [⟨(some 4),(.mv (.const (.int .i64 0))),none⟩])
  (.seq (.block 0
  (.loop (.seq
  (.seq (.reg [⟨(some 11),(.mv (.tmp 4)),none⟩,⟨(some 12),(.pcall 26 [(.tmp 11)]),none⟩,⟨(some 13),(.mv (.tmp 0)),none⟩,⟨(some 14),(.cmp .lss (.tmp 12) (.tmp 13)),none⟩])
  (.cond (.tmp 14) .skip (.exit 0)))
  (.block 1
  (.reg [⟨(some 15),(.mv (.tmp 4)),none⟩,⟨(some 16),(.ar .add (.tmp 15) (.const (.int .i64 1))),none⟩,⟨(some 4),(.mv (.tmp 16)),none⟩])))))
  (.seq (.reg [⟨(some 17),(.mv (.tmp 4)),none⟩,⟨(some 2),(.mv (.tmp 17)),none⟩,⟨(some 3),(.mv (.const (.bool true))),none⟩]) .ret)))))⟩:=by kernel_rfl

theorem tr30:trF Tryz.prog pures Tryz.f30=some
 ⟨12,[(.t 2)],
  (.seq (.reg [⟨(some 2),(.mv (.const (.int .i64 0))),none⟩])
  (.seq (.seq
  (.reg [⟨(some 3),(.mv (.tmp 0)),none⟩,⟨(some 4),(.cmp .lss (.tmp 3) (.const (.int .i64 0))),none⟩,⟨(some 5),(.mv (.tmp 4)),none⟩,⟨(some 6),(.mv (.tmp 0)),(some (5,false))⟩,⟨(some 7),(.cmp .geq (.tmp 6) (.const (.int .i64 4))),(some (5,false))⟩,⟨(some 8),(.pick (.tmp 5) (.const (.bool true)) (.tmp 7)),none⟩])
  (.cond (.tmp 8)
  (.seq (.reg [⟨(some 2),(.mv (.const (.int .i64 0))),none⟩]) .ret) .skip))
  (.seq (.reg [⟨(some 9),(.mv (.tmp 0)),none⟩,⟨(some 10),(.cv .u64 (.tmp 9)),none⟩,⟨(some 11),(.sh .shr (.const (.int .i64 16)) (.tmp 10)),none⟩,⟨(some 2),(.mv (.tmp 11)),none⟩]) .ret)))⟩:=by kernel_rfl

theorem tr31:trF Tryz.prog pures Tryz.f31=some
 ⟨14,[(.t 2),(.t 3)],
  (.seq (.reg [⟨(some 2),(.mv (.const (.int .i64 0))),none⟩,⟨(some 3),(.mv (.const (.bool false))),none⟩])
  (.seq (.seq
  (.reg [⟨(some 4),(.mv (.tmp 0)),none⟩,⟨(some 5),(.cmp .lss (.tmp 4) (.const (.int .i64 33))),none⟩,⟨(some 6),(.mv (.tmp 5)),none⟩,⟨(some 7),(.mv (.tmp 0)),(some (6,false))⟩,⟨(some 8),(.cmp .gtr (.tmp 7) (.const (.int .i64 512))),(some (6,false))⟩,⟨(some 9),(.pick (.tmp 6) (.const (.bool true)) (.tmp 8)),none⟩])
  (.cond (.tmp 9)
  (.seq (.reg [⟨(some 2),(.mv (.const (.int .i64 0))),none⟩,⟨(some 3),(.mv (.const (.bool false))),none⟩]) .ret) .skip))
  (.seq (.reg [⟨(some 10),(.mv (.tmp 0)),none⟩,⟨(some 11),(.ar .add (.tmp 10) (.const (.int .i64 64))),none⟩,⟨(some 12),(.ar .sub (.tmp 11) (.const (.int .i64 1))),none⟩,⟨(some 13),(.dv .quo (.tmp 12) (.const (.int .i64 64))),none⟩,⟨(some 2),(.mv (.tmp 13)),none⟩,⟨(some 3),(.mv (.const (.bool true))),none⟩]) .ret)))⟩:=by kernel_rfl

theorem tr34:trF Tryz.prog pures Tryz.f34=some
 ⟨31,[(.t 2)],
  (.seq (.reg [⟨(some 1),(.box 23 (.tmp 0)),none⟩,⟨(some 2),(.mv (.const (.bool false))),none⟩])
  (.seq (.reg [⟨(some 3),(.fad 0 (.tmp 1)),none⟩,⟨(some 4),(.ld1 (.tmp 3)),none⟩,⟨(some 5),(.cmp .geq (.tmp 4) (.const (.int .i64 1))),none⟩,⟨(some 6),(.mv (.tmp 5)),none⟩,⟨(some 7),(.fad 0 (.tmp 1)),(some (6,true))⟩,⟨(some 8),(.ld1 (.tmp 7)),(some (6,true))⟩,⟨(some 9),(.cmp .leq (.tmp 8) (.const (.int .i64 64))),(some (6,true))⟩,⟨(some 10),(.pick (.tmp 6) (.tmp 9) (.const (.bool false))),none⟩,⟨(some 11),(.mv (.tmp 10)),none⟩,⟨(some 12),(.fad 1 (.tmp 1)),(some (11,true))⟩,⟨(some 13),(.ld1 (.tmp 12)),(some (11,true))⟩,⟨(some 14),(.cmp .geq (.tmp 13) (.const (.int .i64 1))),(some (11,true))⟩,⟨(some 15),(.pick (.tmp 11) (.tmp 14) (.const (.bool false))),none⟩,⟨(some 16),(.mv (.tmp 15)),none⟩,⟨(some 17),(.fad 1 (.tmp 1)),(some (16,true))⟩,⟨(some 18),(.ld1 (.tmp 17)),(some (16,true))⟩,⟨(some 19),(.cmp .leq (.tmp 18) (.const (.int .i64 12))),(some (16,true))⟩,⟨(some 20),(.pick (.tmp 16) (.tmp 19) (.const (.bool false))),none⟩,⟨(some 21),(.mv (.tmp 20)),none⟩,⟨(some 22),(.fad 2 (.tmp 1)),(some (21,true))⟩,⟨(some 23),(.ld1 (.tmp 22)),(some (21,true))⟩,⟨(some 24),(.cmp .geq (.tmp 23) (.const (.int .i64 0))),(some (21,true))⟩,⟨(some 25),(.pick (.tmp 21) (.tmp 24) (.const (.bool false))),none⟩,⟨(some 26),(.mv (.tmp 25)),none⟩,⟨(some 27),(.fad 2 (.tmp 1)),(some (26,true))⟩,⟨(some 28),(.ld1 (.tmp 27)),(some (26,true))⟩,⟨(some 29),(.cmp .leq (.tmp 28) (.const (.int .i64 8))),(some (26,true))⟩,⟨(some 30),(.pick (.tmp 26) (.tmp 29) (.const (.bool false))),none⟩,⟨(some 2),(.mv (.tmp 30)),none⟩]) .ret))⟩:=by kernel_rfl

theorem tr40:trF Tryz.prog pures Tryz.f40=some
 ⟨17,[(.t 4)],
  (.seq (.reg [⟨(some 2),(.box 23 (.tmp 0)),none⟩,⟨(some 4),(.mv (.const (.int .i64 0))),none⟩])
  (.seq (.seq
  (.reg [⟨(some 5),(.ldn 3 (.tmp 2)),none⟩,⟨(some 6),(.pcall 53 [(.tmp 5)]),none⟩,⟨(some 7),(.nt (.tmp 6)),none⟩,⟨(some 8),(.mv (.tmp 7)),none⟩,⟨(some 9),(.mv (.tmp 1)),(some (8,false))⟩,⟨(some 10),(.fad 1 (.tmp 2)),(some (8,false))⟩,⟨(some 11),(.ld1 (.tmp 10)),(some (8,false))⟩,⟨(some 12),(.ar .sub (.tmp 11) (.const (.int .i64 1))),(some (8,false))⟩,⟨(some 13),(.pcall 81 [(.tmp 9),(.const (.int .i64 0)),(.tmp 12)]),(some (8,false))⟩,⟨(some 14),(.nt (.tmp 13)),(some (8,false))⟩,⟨(some 15),(.pick (.tmp 8) (.const (.bool true)) (.tmp 14)),none⟩])
  (.cond (.tmp 15)
  (.seq (.reg [⟨(some 4),(.mv (.const (.int .i64 (-1)))),none⟩]) .ret) .skip))
  (.seq (.reg [⟨(some 16),(.mv (.tmp 1)),none⟩,⟨(some 4),(.mv (.tmp 16)),none⟩]) .ret)))⟩:=by kernel_rfl

theorem tr52:trF Tryz.prog pures Tryz.f52=some
 ⟨10,[(.t 2)],
  (.seq (.reg [⟨(some 2),(.mv (.const (.slice none 0 0))),none⟩])
  (.seq (.seq
  (.reg [⟨(some 3),(.mv (.tmp 0)),none⟩,⟨(some 4),(.pnil false (.tmp 3)),none⟩])
  (.cond (.tmp 4)
  (.seq (.reg [⟨(some 2),(.mv (.const (.slice none 0 0))),none⟩]) .ret) .skip))
  (.seq (.reg [⟨(some 5),(.mv (.tmp 0)),none⟩,⟨(some 6),(.nilck (.tmp 5)),none⟩,⟨(some 7),(.fad 0 (.tmp 6)),none⟩,⟨(some 8),(.ld1 (.tmp 7)),none⟩,⟨(some 9),(.call 95 [(.tmp 8)]),none⟩,⟨(some 2),(.mv (.tmp 9)),none⟩]) .ret)))⟩:=by kernel_rfl

theorem tr53:trF Tryz.prog pures Tryz.f53=some
 ⟨16,[(.t 2)],
  (.seq (.reg [⟨(some 1),(.box 23 (.tmp 0)),none⟩,⟨(some 2),(.mv (.const (.bool false))),none⟩])
  (.seq (.reg [⟨(some 3),(.fad 0 (.tmp 1)),none⟩,⟨(some 4),(.ld1 (.tmp 3)),none⟩,⟨(some 5),(.pcall 81 [(.tmp 4),(.const (.int .i64 1)),(.const (.int .i64 64))]),none⟩,⟨(some 6),(.mv (.tmp 5)),none⟩,⟨(some 7),(.fad 1 (.tmp 1)),(some (6,true))⟩,⟨(some 8),(.ld1 (.tmp 7)),(some (6,true))⟩,⟨(some 9),(.pcall 81 [(.tmp 8),(.const (.int .i64 1)),(.const (.int .i64 12))]),(some (6,true))⟩,⟨(some 10),(.pick (.tmp 6) (.tmp 9) (.const (.bool false))),none⟩,⟨(some 11),(.mv (.tmp 10)),none⟩,⟨(some 12),(.fad 2 (.tmp 1)),(some (11,true))⟩,⟨(some 13),(.ld1 (.tmp 12)),(some (11,true))⟩,⟨(some 14),(.pcall 81 [(.tmp 13),(.const (.int .i64 0)),(.const (.int .i64 8))]),(some (11,true))⟩,⟨(some 15),(.pick (.tmp 11) (.tmp 14) (.const (.bool false))),none⟩,⟨(some 2),(.mv (.tmp 15)),none⟩]) .ret))⟩:=by kernel_rfl

theorem tr60:trF Tryz.prog pures Tryz.f60=some
 ⟨8,[(.t 2)],
  (.seq (.reg [⟨(some 2),(.mv (.const (.slice none 0 0))),none⟩])
  (.seq (.seq
  (.reg [⟨(some 3),(.mv (.tmp 0)),none⟩,⟨(some 4),(.snil false (.tmp 3)),none⟩])
  (.cond (.tmp 4)
  (.seq (.reg [⟨(some 2),(.mv (.const (.slice none 0 0))),none⟩]) .ret) .skip))
  (.seq (.reg [⟨(some 5),(.bsl0 58 0),none⟩,⟨(some 6),(.mv (.tmp 0)),none⟩,⟨(some 7),(.app 58 8 64 #[(.int .i64 0),(.int .i64 0),(.int .i64 0),(.int .i64 0),(.int .i64 0),(.int .i64 0),(.int .i64 0),(.int .i64 0)] (.tmp 5) (.tmp 6)),none⟩,⟨(some 2),(.mv (.tmp 7)),none⟩]) .ret)))⟩:=by kernel_rfl

theorem tr64:trF Tryz.prog pures Tryz.f64=some
 ⟨14,[(.t 2)],
  (.seq (.reg [⟨(some 1),(.box 23 (.tmp 0)),none⟩,⟨(some 2),(.mv (.const (.int .i64 0))),none⟩])
  (.seq (.seq
  (.reg [⟨(some 3),(.ldn 3 (.tmp 1)),none⟩,⟨(some 4),(.pcall 53 [(.tmp 3)]),none⟩,⟨(some 5),(.nt (.tmp 4)),none⟩])
  (.cond (.tmp 5)
  (.seq (.reg [⟨(some 2),(.mv (.const (.int .i64 0))),none⟩]) .ret) .skip))
  (.seq (.reg [⟨(some 6),(.fad 0 (.tmp 1)),none⟩,⟨(some 7),(.ld1 (.tmp 6)),none⟩,⟨(some 8),(.ar .mul (.const (.int .i64 110)) (.tmp 7)),none⟩,⟨(some 9),(.fad 2 (.tmp 1)),none⟩,⟨(some 10),(.ld1 (.tmp 9)),none⟩,⟨(some 11),(.ar .mul (.const (.int .i64 4)) (.tmp 10)),none⟩,⟨(some 12),(.ar .add (.tmp 8) (.tmp 11)),none⟩,⟨(some 13),(.ar .add (.tmp 12) (.const (.int .i64 60))),none⟩,⟨(some 2),(.mv (.tmp 13)),none⟩]) .ret)))⟩:=by kernel_rfl

theorem tr70:trF Tryz.prog pures Tryz.f70=some
 ⟨8,[(.t 2)],
  (.seq (.reg [⟨(some 2),(.mv (.const (.int .i64 0))),none⟩])
  (.seq (.seq
  (.reg [⟨(some 3),(.mv (.tmp 0)),none⟩,⟨(some 4),(.pcall 81 [(.tmp 3),(.const (.int .i64 0)),(.const (.int .i64 3))]),none⟩,⟨(some 5),(.nt (.tmp 4)),none⟩])
  (.cond (.tmp 5)
  (.seq (.reg [⟨(some 2),(.mv (.const (.int .i64 0))),none⟩]) .ret) .skip))
  (.seq (.reg [⟨(some 6),(.mv (.tmp 0)),none⟩,⟨(some 7),(.sh .shr (.const (.int .i64 16)) (.tmp 6)),none⟩,⟨(some 2),(.mv (.tmp 7)),none⟩]) .ret)))⟩:=by kernel_rfl

theorem tr72:trF Tryz.prog pures Tryz.f72=some
 ⟨14,[(.t 6)],
  (.seq (.reg [⟨(some 6),(.mv (.const (.int .i64 0))),none⟩])
  (.seq (.reg [⟨(some 7),(.mv (.tmp 0)),none⟩,⟨(some 8),(.sh .shl (.tmp 7) (.const (.int .u64 6))),none⟩,⟨(some 9),(.mv (.tmp 1)),none⟩,⟨(some 10),(.mv (.tmp 2)),none⟩,⟨(some 11),(.pcall 73 [(.tmp 10)]),none⟩,⟨(some 12),(.ar .mul (.tmp 9) (.tmp 11)),none⟩,⟨(some 13),(.ar .add (.tmp 8) (.tmp 12)),none⟩,⟨(some 6),(.mv (.tmp 13)),none⟩]) .ret))⟩:=by kernel_rfl

theorem tr73:trF Tryz.prog pures Tryz.f73=some
 ⟨8,[(.t 2)],
  (.seq (.reg [⟨(some 2),(.mv (.const (.int .i64 0))),none⟩])
  (.seq (.seq
  (.reg [⟨(some 3),(.mv (.tmp 0)),none⟩,⟨(some 4),(.pcall 81 [(.tmp 3),(.const (.int .i64 0)),(.const (.int .i64 3))]),none⟩,⟨(some 5),(.nt (.tmp 4)),none⟩])
  (.cond (.tmp 5)
  (.seq (.reg [⟨(some 2),(.mv (.const (.int .i64 0))),none⟩]) .ret) .skip))
  (.seq (.reg [⟨(some 6),(.mv (.tmp 0)),none⟩,⟨(some 7),(.sh .shl (.const (.int .i64 4)) (.tmp 6)),none⟩,⟨(some 2),(.mv (.tmp 7)),none⟩]) .ret)))⟩:=by kernel_rfl

theorem tr74:trF Tryz.prog pures Tryz.f74=some
 ⟨23,[(.t 4),(.t 5),(.t 6)],
  (.seq (.reg [⟨(some 2),(.box 23 (.tmp 0)),none⟩,⟨(some 4),(.mv (.const (.int .i64 0))),none⟩,⟨(some 5),(.mv (.const (.int .i64 0))),none⟩,⟨(some 6),(.mv (.const (.bool false))),none⟩])
  (.seq (.seq
  (.reg [⟨(some 7),(.ldn 3 (.tmp 2)),none⟩,⟨(some 8),(.pcall 53 [(.tmp 7)]),none⟩,⟨(some 9),(.nt (.tmp 8)),none⟩,⟨(some 10),(.mv (.tmp 9)),none⟩,⟨(some 11),(.mv (.tmp 1)),(some (10,false))⟩,⟨(some 12),(.fad 0 (.tmp 2)),(some (10,false))⟩,⟨(some 13),(.ld1 (.tmp 12)),(some (10,false))⟩,⟨(some 14),(.sh .shl (.tmp 13) (.const (.int .u64 6))),(some (10,false))⟩,⟨(some 15),(.ar .sub (.tmp 14) (.const (.int .i64 1))),(some (10,false))⟩,⟨(some 16),(.pcall 81 [(.tmp 11),(.const (.int .i64 0)),(.tmp 15)]),(some (10,false))⟩,⟨(some 17),(.nt (.tmp 16)),(some (10,false))⟩,⟨(some 18),(.pick (.tmp 10) (.const (.bool true)) (.tmp 17)),none⟩])
  (.cond (.tmp 18)
  (.seq (.reg [⟨(some 4),(.mv (.const (.int .i64 0))),none⟩,⟨(some 5),(.mv (.const (.int .i64 0))),none⟩,⟨(some 6),(.mv (.const (.bool false))),none⟩]) .ret) .skip))
  (.seq (.reg [⟨(some 19),(.mv (.tmp 1)),none⟩,⟨(some 20),(.sh .shr (.tmp 19) (.const (.int .u64 6))),none⟩,⟨(some 21),(.mv (.tmp 1)),none⟩,⟨(some 22),(.bt .and (.tmp 21) (.const (.int .i64 63))),none⟩,⟨(some 4),(.mv (.tmp 20)),none⟩,⟨(some 5),(.mv (.tmp 22)),none⟩,⟨(some 6),(.mv (.const (.bool true))),none⟩]) .ret)))⟩:=by kernel_rfl

theorem tr75:trF Tryz.prog pures Tryz.f75=some
 ⟨17,[(.t 2),(.t 3)],
  (.seq (.reg [⟨(some 2),(.mv (.const (.int .i64 0))),none⟩,⟨(some 3),(.mv (.const (.int .i64 0))),none⟩])
  (.seq (.reg [⟨(some 6),(.mv (.tmp 0)),none⟩,⟨(some 7),(.pcall 102 [(.tmp 6)]),none⟩,⟨(some 8),(.mv (.tmp 0)),none⟩,⟨(some 9),(.pcall 103 [(.tmp 8),(.const (.int .i64 0))]),none⟩,⟨(some 4),(.mv (.tmp 7)),none⟩,⟨(some 5),(.mv (.tmp 9)),none⟩])
  (.seq (.seq
  (.reg [⟨(some 10),(.mv (.tmp 4)),none⟩,⟨(some 11),(.mv (.tmp 5)),none⟩,⟨(some 12),(.pcall 92 [(.tmp 10),(.tmp 11)]),none⟩,⟨(some 13),(.mv (.tmp 0)),none⟩,⟨(some 14),(.cmp .neq (.tmp 12) (.tmp 13)),none⟩])
  (.cond (.tmp 14)
  (.seq (.reg [⟨(some 2),(.mv (.const (.int .i64 0))),none⟩,⟨(some 3),(.mv (.const (.int .i64 0))),none⟩]) .ret) .skip))
  (.seq (.reg [⟨(some 15),(.mv (.tmp 4)),none⟩,⟨(some 16),(.mv (.tmp 5)),none⟩,⟨(some 2),(.mv (.tmp 15)),none⟩,⟨(some 3),(.mv (.tmp 16)),none⟩]) .ret))))⟩:=by kernel_rfl

theorem tr76:trF Tryz.prog pures Tryz.f76=some
 ⟨16,[(.t 4)],
  (.seq (.reg [⟨(some 4),(.mv (.const (.int .u64 0))),none⟩])
  (.seq (.seq
  (.reg [⟨(some 5),(.mv (.tmp 0)),none⟩,⟨(some 6),(.mv (.tmp 1)),none⟩,⟨(some 7),(.call 104 [(.tmp 5),(.tmp 6)]),none⟩,⟨(some 8),(.nt (.tmp 7)),none⟩])
  (.cond (.tmp 8)
  (.seq (.reg [⟨(some 4),(.mv (.const (.int .u64 0))),none⟩]) .ret) .skip))
  (.seq (.reg [⟨(some 9),(.mv (.tmp 0)),none⟩,⟨(some 10),(.nilck (.tmp 9)),none⟩,⟨(some 11),(.fad 0 (.tmp 10)),none⟩,⟨(some 12),(.ld1 (.tmp 11)),none⟩,⟨(some 13),(.mv (.tmp 1)),none⟩,⟨(some 14),(.iad 1 (.tmp 12) (.tmp 13)),none⟩,⟨(some 15),(.ld1 (.tmp 14)),none⟩,⟨(some 4),(.mv (.tmp 15)),none⟩]) .ret)))⟩:=by kernel_rfl

theorem tr77:trF Tryz.prog pures Tryz.f77=some
 ⟨13,[(.t 2)],
  (.seq (.reg [⟨(some 2),(.mv (.const (.pointer none))),none⟩])
  (.seq (.seq
  (.reg [⟨(some 3),(.mv (.tmp 0)),none⟩,⟨(some 4),(.cmp .lss (.tmp 3) (.const (.int .i64 0))),none⟩,⟨(some 5),(.mv (.tmp 4)),none⟩,⟨(some 6),(.mv (.tmp 0)),(some (5,false))⟩,⟨(some 7),(.cmp .gtr (.tmp 6) (.const (.int .i64 2000))),(some (5,false))⟩,⟨(some 8),(.pick (.tmp 5) (.const (.bool true)) (.tmp 7)),none⟩])
  (.cond (.tmp 8)
  (.reg [⟨(some 0),(.mv (.const (.int .i64 0))),none⟩]) .skip))
  (.seq (.reg [⟨(some 9),(.mv (.tmp 0)),none⟩,⟨(some 10),(.mks 50 8 (.int .u64 0) (.tmp 9) (.tmp 9)),none⟩,⟨(some 11),(.bld #[(.slice none 0 0),(.int .i64 0),(.int .i64 0),(.int .i64 0),(.int .i64 0),(.int .u64 0),(.int .u64 0),(.bool false)] [(0,(1,(.tmp 10)))]),none⟩,⟨(some 12),(.box 159 (.tmp 11)),none⟩,⟨(some 2),(.mv (.tmp 12)),none⟩]) .ret)))⟩:=by kernel_rfl

theorem tr78:trF Tryz.prog pures Tryz.f78=some
 ⟨21,[(.t 2)],
  (.seq (.reg [⟨(some 1),(.box 23 (.tmp 0)),none⟩,⟨(some 2),(.mv (.const (.int .i64 0))),none⟩])
  (.seq (.seq
  (.reg [⟨(some 3),(.ldn 3 (.tmp 1)),none⟩,⟨(some 4),(.pcall 53 [(.tmp 3)]),none⟩,⟨(some 5),(.nt (.tmp 4)),none⟩])
  (.cond (.tmp 5)
  (.seq (.reg [⟨(some 2),(.mv (.const (.int .i64 0))),none⟩]) .ret) .skip))
  (.seq (.reg [⟨(some 6),(.fad 1 (.tmp 1)),none⟩,⟨(some 7),(.ld1 (.tmp 6)),none⟩,⟨(some 8),(.fad 0 (.tmp 1)),none⟩,⟨(some 9),(.ld1 (.tmp 8)),none⟩,⟨(some 10),(.ar .add (.tmp 7) (.tmp 9)),none⟩,⟨(some 11),(.fad 0 (.tmp 1)),none⟩,⟨(some 12),(.ld1 (.tmp 11)),none⟩,⟨(some 13),(.ar .mul (.tmp 12) (.const (.int .i64 16))),none⟩,⟨(some 14),(.ar .add (.tmp 10) (.tmp 13)),none⟩,⟨(some 15),(.fad 1 (.tmp 1)),none⟩,⟨(some 16),(.ld1 (.tmp 15)),none⟩,⟨(some 17),(.fad 2 (.tmp 1)),none⟩,⟨(some 18),(.ld1 (.tmp 17)),none⟩,⟨(some 19),(.ar .mul (.tmp 16) (.tmp 18)),none⟩,⟨(some 20),(.ar .add (.tmp 14) (.tmp 19)),none⟩,⟨(some 2),(.mv (.tmp 20)),none⟩]) .ret)))⟩:=by kernel_rfl

theorem tr79:trF Tryz.prog pures Tryz.f79=some
 ⟨13,[(.t 2)],
  (.seq (.reg [⟨(some 2),(.mv (.const (.pointer none))),none⟩])
  (.seq (.seq
  (.reg [⟨(some 3),(.mv (.tmp 0)),none⟩,⟨(some 4),(.cmp .lss (.tmp 3) (.const (.int .i64 0))),none⟩,⟨(some 5),(.mv (.tmp 4)),none⟩,⟨(some 6),(.mv (.tmp 0)),(some (5,false))⟩,⟨(some 7),(.cmp .gtr (.tmp 6) (.const (.int .i64 2000))),(some (5,false))⟩,⟨(some 8),(.pick (.tmp 5) (.const (.bool true)) (.tmp 7)),none⟩])
  (.cond (.tmp 8)
  (.reg [⟨(some 0),(.mv (.const (.int .i64 0))),none⟩]) .skip))
  (.seq (.reg [⟨(some 9),(.mv (.tmp 0)),none⟩,⟨(some 10),(.mks 50 8 (.int .u64 0) (.tmp 9) (.tmp 9)),none⟩,⟨(some 11),(.bld #[(.slice none 0 0),(.int .i64 0),(.int .i64 0),(.int .i64 0),(.int .i64 0),(.int .u64 0),(.int .u64 0),(.bool false),(.slice none 0 0)] [(0,(1,(.tmp 10)))]),none⟩,⟨(some 12),(.box 166 (.tmp 11)),none⟩,⟨(some 2),(.mv (.tmp 12)),none⟩]) .ret)))⟩:=by kernel_rfl

theorem tr80:trF Tryz.prog pures Tryz.f80=some
 ⟨21,[(.t 2)],
  (.seq (.reg [⟨(some 1),(.box 23 (.tmp 0)),none⟩,⟨(some 2),(.mv (.const (.int .i64 0))),none⟩])
  (.seq (.seq
  (.reg [⟨(some 3),(.ldn 3 (.tmp 1)),none⟩,⟨(some 4),(.pcall 34 [(.tmp 3)]),none⟩,⟨(some 5),(.nt (.tmp 4)),none⟩])
  (.cond (.tmp 5)
  (.seq (.reg [⟨(some 2),(.mv (.const (.int .i64 0))),none⟩]) .ret) .skip))
  (.seq (.reg [⟨(some 6),(.fad 1 (.tmp 1)),none⟩,⟨(some 7),(.ld1 (.tmp 6)),none⟩,⟨(some 8),(.fad 0 (.tmp 1)),none⟩,⟨(some 9),(.ld1 (.tmp 8)),none⟩,⟨(some 10),(.ar .add (.tmp 7) (.tmp 9)),none⟩,⟨(some 11),(.fad 0 (.tmp 1)),none⟩,⟨(some 12),(.ld1 (.tmp 11)),none⟩,⟨(some 13),(.ar .mul (.const (.int .i64 16)) (.tmp 12)),none⟩,⟨(some 14),(.ar .add (.tmp 10) (.tmp 13)),none⟩,⟨(some 15),(.fad 1 (.tmp 1)),none⟩,⟨(some 16),(.ld1 (.tmp 15)),none⟩,⟨(some 17),(.fad 2 (.tmp 1)),none⟩,⟨(some 18),(.ld1 (.tmp 17)),none⟩,⟨(some 19),(.ar .mul (.tmp 16) (.tmp 18)),none⟩,⟨(some 20),(.ar .add (.tmp 14) (.tmp 19)),none⟩,⟨(some 2),(.mv (.tmp 20)),none⟩]) .ret)))⟩:=by kernel_rfl

theorem tr81:trF Tryz.prog pures Tryz.f81=some
 ⟨15,[(.t 6)],
  (.seq (.reg [⟨(some 6),(.mv (.const (.bool false))),none⟩])
  (.seq (.reg [⟨(some 7),(.mv (.tmp 0)),none⟩,⟨(some 8),(.mv (.tmp 1)),none⟩,⟨(some 9),(.cmp .geq (.tmp 7) (.tmp 8)),none⟩,⟨(some 10),(.mv (.tmp 9)),none⟩,⟨(some 11),(.mv (.tmp 0)),(some (10,true))⟩,⟨(some 12),(.mv (.tmp 2)),(some (10,true))⟩,⟨(some 13),(.cmp .leq (.tmp 11) (.tmp 12)),(some (10,true))⟩,⟨(some 14),(.pick (.tmp 10) (.tmp 13) (.const (.bool false))),none⟩,⟨(some 6),(.mv (.tmp 14)),none⟩]) .ret))⟩:=by kernel_rfl

theorem tr83:trF Tryz.prog pures Tryz.f83=some
 ⟨9,[(.t 2)],
  (.seq (.reg [⟨(some 2),(.mv (.const (.int .i64 0))),none⟩])
  (.seq (.seq
  (.reg [⟨(some 3),(.mv (.tmp 0)),none⟩,⟨(some 4),(.pnil false (.tmp 3)),none⟩])
  (.cond (.tmp 4)
  (.seq (.reg [⟨(some 2),(.mv (.const (.int .i64 0))),none⟩]) .ret) .skip))
  (.seq (.reg [⟨(some 5),(.mv (.tmp 0)),none⟩,⟨(some 6),(.nilck (.tmp 5)),none⟩,⟨(some 7),(.fad 1 (.tmp 6)),none⟩,⟨(some 8),(.ld1 (.tmp 7)),none⟩,⟨(some 2),(.mv (.tmp 8)),none⟩]) .ret)))⟩:=by kernel_rfl

theorem tr85:trF Tryz.prog pures Tryz.f85=some
 ⟨10,[(.cn 2 6)],
  (.seq (.reg [⟨(some 2),(.alc 52 (.agg #[(.int .i64 0),(.int .i64 0),(.int .i64 0),(.int .u64 0),(.int .u64 0),(.bool false)])),none⟩])
  (.seq (.seq
  (.reg [⟨(some 3),(.mv (.tmp 0)),none⟩,⟨(some 4),(.pnil false (.tmp 3)),none⟩])
  (.cond (.tmp 4)
  (.seq (.reg [⟨(some 5),(.bld #[(.int .i64 0),(.int .i64 0),(.int .i64 0),(.int .u64 0),(.int .u64 0),(.bool false)] []),none⟩,⟨none,(.stn 6 (.tmp 2) (.tmp 5)),none⟩]) .ret) .skip))
  (.seq (.reg [⟨(some 6),(.mv (.tmp 0)),none⟩,⟨(some 7),(.nilck (.tmp 6)),none⟩,⟨(some 8),(.fad 2 (.tmp 7)),none⟩,⟨(some 9),(.ldn 6 (.tmp 8)),none⟩,⟨none,(.stn 6 (.tmp 2) (.tmp 9)),none⟩]) .ret)))⟩:=by kernel_rfl

theorem tr88:trF Tryz.prog pures Tryz.f88=some
 ⟨95,[(.t 6),(.t 7)],
  (.seq (.reg [⟨(some 3),(.box 23 (.tmp 0)),none⟩,⟨(some 5),(.box 34 (.tmp 2)),none⟩,⟨(some 6),(.mv (.const (.int .i64 0))),none⟩,⟨(some 7),(.mv (.const (.bool false))),none⟩])
  (.seq (.reg [⟨(some 19),(.fad 2 (.tmp 5)),none⟩,⟨(some 20),(.ld1 (.tmp 19)),none⟩,⟨(some 21),(.pcall 112 [(.tmp 20)]),none⟩,⟨(some 18),(.mv (.tmp 21)),none⟩,⟨(some 22),(.ext 0 (.tmp 18)),none⟩,⟨(some 23),(.ext 1 (.tmp 18)),none⟩,⟨(some 8),(.mv (.tmp 22)),none⟩,⟨(some 9),(.mv (.tmp 23)),none⟩])
  (.seq (.reg [⟨(some 25),(.ldn 3 (.tmp 3)),none⟩,⟨(some 26),(.fad 1 (.tmp 5)),none⟩,⟨(some 27),(.ld1 (.tmp 26)),none⟩,⟨(some 28),(.pcall 74 [(.tmp 25),(.tmp 27)]),none⟩,⟨(some 24),(.mv (.tmp 28)),none⟩,⟨(some 29),(.ext 0 (.tmp 24)),none⟩,⟨(some 30),(.ext 1 (.tmp 24)),none⟩,⟨(some 31),(.ext 2 (.tmp 24)),none⟩,⟨(some 10),(.mv (.tmp 29)),none⟩,⟨(some 11),(.mv (.tmp 30)),none⟩,⟨(some 12),(.mv (.tmp 31)),none⟩])
  (.seq (.reg [⟨(some 32),(.fad 0 (.tmp 5)),none⟩,⟨(some 33),(.ld1 (.tmp 32)),none⟩,⟨(some 34),(.cmp .eql (.tmp 33) (.const (.int .i64 1))),none⟩,⟨(some 35),(.mv (.tmp 34)),none⟩,⟨(some 36),(.fad 0 (.tmp 5)),(some (35,false))⟩,⟨(some 37),(.ld1 (.tmp 36)),(some (35,false))⟩,⟨(some 38),(.cmp .eql (.tmp 37) (.const (.int .i64 3))),(some (35,false))⟩,⟨(some 39),(.pick (.tmp 35) (.const (.bool true)) (.tmp 38)),none⟩,⟨(some 13),(.mv (.tmp 39)),none⟩])
  (.seq (.reg [⟨(some 40),(.fad 0 (.tmp 5)),none⟩,⟨(some 41),(.ld1 (.tmp 40)),none⟩,⟨(some 42),(.cmp .eql (.tmp 41) (.const (.int .i64 2))),none⟩,⟨(some 43),(.mv (.tmp 42)),none⟩,⟨(some 44),(.fad 0 (.tmp 5)),(some (43,false))⟩,⟨(some 45),(.ld1 (.tmp 44)),(some (43,false))⟩,⟨(some 46),(.cmp .eql (.tmp 45) (.const (.int .i64 3))),(some (43,false))⟩,⟨(some 47),(.pick (.tmp 43) (.const (.bool true)) (.tmp 46)),none⟩,⟨(some 14),(.mv (.tmp 47)),none⟩])
  (.seq (.reg [⟨(some 48),(.fad 0 (.tmp 5)),none⟩,⟨(some 49),(.ld1 (.tmp 48)),none⟩,⟨(some 50),(.cmp .eql (.tmp 49) (.const (.int .i64 4))),none⟩,⟨(some 51),(.mv (.tmp 50)),none⟩,⟨(some 52),(.ldn 3 (.tmp 3)),(some (51,true))⟩,⟨(some 53),(.fad 1 (.tmp 5)),(some (51,true))⟩,⟨(some 54),(.ld1 (.tmp 53)),(some (51,true))⟩,⟨(some 55),(.pcall 40 [(.tmp 52),(.tmp 54)]),(some (51,true))⟩,⟨(some 56),(.cmp .lss (.tmp 55) (.const (.int .i64 0))),(some (51,true))⟩,⟨(some 57),(.mv (.tmp 56)),(some (51,true))⟩,⟨(some 58),(.fad 1 (.tmp 5)),(some (57,false))⟩,⟨(some 59),(.ld1 (.tmp 58)),(some (57,false))⟩,⟨(some 60),(.mv (.tmp 1)),(some (57,false))⟩,⟨(some 61),(.cmp .eql (.tmp 59) (.tmp 60)),(some (57,false))⟩,⟨(some 62),(.pick (.tmp 57) (.const (.bool true)) (.tmp 61)),(some (51,true))⟩,⟨(some 63),(.pick (.tmp 51) (.tmp 62) (.const (.bool false))),none⟩,⟨(some 15),(.mv (.tmp 63)),none⟩])
  (.seq (.seq
  (.reg [⟨(some 64),(.mv (.tmp 15)),none⟩,⟨(some 65),(.mv (.tmp 64)),none⟩,⟨(some 66),(.mv (.tmp 13)),(some (65,false))⟩,⟨(some 67),(.mv (.tmp 66)),(some (65,false))⟩,⟨(some 68),(.mv (.tmp 9)),(some (67,true))⟩,⟨(some 69),(.nt (.tmp 68)),(some (67,true))⟩,⟨(some 70),(.pick (.tmp 67) (.tmp 69) (.const (.bool false))),(some (65,false))⟩,⟨(some 71),(.pick (.tmp 65) (.const (.bool true)) (.tmp 70)),none⟩,⟨(some 72),(.mv (.tmp 71)),none⟩,⟨(some 73),(.mv (.tmp 14)),(some (72,false))⟩,⟨(some 74),(.mv (.tmp 73)),(some (72,false))⟩,⟨(some 75),(.mv (.tmp 12)),(some (74,true))⟩,⟨(some 76),(.nt (.tmp 75)),(some (74,true))⟩,⟨(some 77),(.pick (.tmp 74) (.tmp 76) (.const (.bool false))),(some (72,false))⟩,⟨(some 78),(.pick (.tmp 72) (.const (.bool true)) (.tmp 77)),none⟩])
  (.cond (.tmp 78)
  (.seq (.reg [⟨(some 6),(.mv (.const (.int .i64 1))),none⟩,⟨(some 7),(.mv (.const (.bool true))),none⟩]) .ret) .skip))
  (.seq (.seq
  (.reg [⟨(some 80),(.fad 2 (.tmp 5)),none⟩,⟨(some 81),(.ld1 (.tmp 80)),none⟩,⟨(some 82),(.pcall 113 [(.tmp 81)]),none⟩,⟨(some 79),(.mv (.tmp 82)),none⟩,⟨(some 83),(.ext 0 (.tmp 79)),none⟩,⟨(some 84),(.ext 1 (.tmp 79)),none⟩,⟨(some 16),(.mv (.tmp 83)),none⟩,⟨(some 17),(.mv (.tmp 84)),none⟩])
  (.seq (.reg [⟨(some 85),(.mv (.tmp 13)),none⟩,⟨(some 86),(.mv (.tmp 85)),none⟩,⟨(some 87),(.mv (.tmp 17)),(some (86,true))⟩,⟨(some 88),(.pick (.tmp 86) (.tmp 87) (.const (.bool false))),none⟩,⟨(some 89),(.mv (.tmp 88)),none⟩,⟨(some 90),(.mv (.tmp 16)),(some (89,true))⟩,⟨(some 91),(.fad 0 (.tmp 3)),(some (89,true))⟩,⟨(some 92),(.ld1 (.tmp 91)),(some (89,true))⟩,⟨(some 93),(.cmp .gtr (.tmp 90) (.tmp 92)),(some (89,true))⟩,⟨(some 94),(.pick (.tmp 89) (.tmp 93) (.const (.bool false))),none⟩])
  (.cond (.tmp 94)
  (.seq (.reg [⟨(some 6),(.mv (.const (.int .i64 3))),none⟩,⟨(some 7),(.mv (.const (.bool true))),none⟩]) .ret) .skip)))
  (.seq (.reg [⟨(some 6),(.mv (.const (.int .i64 0))),none⟩,⟨(some 7),(.mv (.const (.bool false))),none⟩]) .ret)))))))))⟩:=by kernel_rfl

theorem tr91:trF Tryz.prog pures Tryz.f91=some
 ⟨18,[(.t 6)],
  (.seq (.reg [⟨(some 6),(.mv (.const (.bool false))),none⟩])
  (.seq (.seq
  (.reg [⟨(some 7),(.mv (.tmp 0)),none⟩,⟨(some 8),(.mv (.tmp 1)),none⟩,⟨(some 9),(.call 104 [(.tmp 7),(.tmp 8)]),none⟩,⟨(some 10),(.nt (.tmp 9)),none⟩])
  (.cond (.tmp 10)
  (.seq (.reg [⟨(some 6),(.mv (.const (.bool false))),none⟩]) .ret) .skip))
  (.seq (.reg [⟨(some 11),(.mv (.tmp 0)),none⟩,⟨(some 12),(.nilck (.tmp 11)),none⟩,⟨(some 13),(.fad 0 (.tmp 12)),none⟩,⟨(some 14),(.ld1 (.tmp 13)),none⟩,⟨(some 15),(.mv (.tmp 1)),none⟩,⟨(some 16),(.mv (.tmp 2)),none⟩,⟨(some 17),(.iad 1 (.tmp 14) (.tmp 15)),none⟩,⟨none,(.st1 (.tmp 17) (.tmp 16)),none⟩])
  (.seq (.reg [⟨(some 6),(.mv (.const (.bool true))),none⟩]) .ret))))⟩:=by kernel_rfl

theorem tr92:trF Tryz.prog pures Tryz.f92=some
 ⟨23,[(.t 4)],
  (.seq (.reg [⟨(some 4),(.mv (.const (.int .u64 0))),none⟩])
  (.seq (.seq
  (.reg [⟨(some 5),(.mv (.tmp 0)),none⟩,⟨(some 6),(.cmp .lss (.tmp 5) (.const (.int .i64 0))),none⟩,⟨(some 7),(.mv (.tmp 6)),none⟩,⟨(some 8),(.mv (.tmp 0)),(some (7,false))⟩,⟨(some 9),(.cmp .gtr (.tmp 8) (.const (.int .i64 4))),(some (7,false))⟩,⟨(some 10),(.pick (.tmp 7) (.const (.bool true)) (.tmp 9)),none⟩,⟨(some 11),(.mv (.tmp 10)),none⟩,⟨(some 12),(.mv (.tmp 0)),(some (11,false))⟩,⟨(some 13),(.cmp .neq (.tmp 12) (.const (.int .i64 3))),(some (11,false))⟩,⟨(some 14),(.mv (.tmp 13)),(some (11,false))⟩,⟨(some 15),(.mv (.tmp 1)),(some (14,true))⟩,⟨(some 16),(.cmp .neq (.tmp 15) (.const (.int .i64 0))),(some (14,true))⟩,⟨(some 17),(.pick (.tmp 14) (.tmp 16) (.const (.bool false))),(some (11,false))⟩,⟨(some 18),(.pick (.tmp 11) (.const (.bool true)) (.tmp 17)),none⟩])
  (.cond (.tmp 18)
  (.seq (.reg [⟨(some 4),(.mv (.const (.int .u64 0))),none⟩]) .ret) .skip))
  (.seq (.reg [⟨(some 19),(.mv (.tmp 0)),none⟩,⟨(some 20),(.mv (.tmp 1)),none⟩,⟨(some 21),(.bsl 3 #[(.int .i64 0)] 1 1 [(0,(.tmp 20))]),none⟩,⟨(some 22),(.call 119 [(.tmp 19),(.tmp 21)]),none⟩,⟨(some 4),(.mv (.tmp 22)),none⟩]) .ret)))⟩:=by kernel_rfl

theorem tr93:trF Tryz.prog pures Tryz.f93=some
 ⟨35,[(.cn 6 3),(.t 7)],
  (.seq (.reg [⟨(some 3),(.box 23 (.tmp 0)),none⟩,⟨(some 6),(.alc 107 (.agg #[(.int .i64 0),(.int .i64 0),(.int .i64 0)])),none⟩,⟨(some 7),(.mv (.const (.bool false))),none⟩])
  (.seq (.reg [⟨(some 9),(.mv (.tmp 2)),none⟩,⟨(some 10),(.pcall 102 [(.tmp 9)]),none⟩,⟨(some 11),(.mv (.tmp 2)),none⟩,⟨(some 12),(.pcall 103 [(.tmp 11),(.const (.int .i64 0))]),none⟩,⟨(some 13),(.mv (.tmp 2)),none⟩,⟨(some 14),(.pcall 103 [(.tmp 13),(.const (.int .i64 1))]),none⟩,⟨(some 15),(.bld #[(.int .i64 0),(.int .i64 0),(.int .i64 0)] [(0,(1,(.tmp 10))),(1,(1,(.tmp 12))),(2,(1,(.tmp 14)))]),none⟩,⟨(some 8),(.alc 107 (.agg #[(.int .i64 0),(.int .i64 0),(.int .i64 0)])),none⟩,⟨none,(.stn 3 (.tmp 8) (.tmp 15)),none⟩])
  (.seq (.seq
  (.reg [⟨(some 16),(.ldn 3 (.tmp 8)),none⟩,⟨(some 17),(.pcall 120 [(.tmp 16)]),none⟩,⟨(some 18),(.mv (.tmp 2)),none⟩,⟨(some 19),(.cmp .neq (.tmp 17) (.tmp 18)),none⟩,⟨(some 20),(.mv (.tmp 19)),none⟩,⟨(some 21),(.ldn 3 (.tmp 3)),(some (20,false))⟩,⟨(some 22),(.mv (.tmp 1)),(some (20,false))⟩,⟨(some 23),(.pcall 94 [(.tmp 21),(.tmp 22)]),(some (20,false))⟩,⟨(some 24),(.cmp .lss (.tmp 23) (.const (.int .i64 0))),(some (20,false))⟩,⟨(some 25),(.pick (.tmp 20) (.const (.bool true)) (.tmp 24)),none⟩,⟨(some 26),(.mv (.tmp 25)),none⟩,⟨(some 27),(.ldn 3 (.tmp 3)),(some (26,false))⟩,⟨(some 28),(.mv (.tmp 1)),(some (26,false))⟩,⟨(some 29),(.ldn 3 (.tmp 8)),(some (26,false))⟩,⟨(some 30),(.pcall 121 [(.tmp 27),(.tmp 28),(.tmp 29)]),(some (26,false))⟩,⟨(some 31),(.nt (.tmp 30)),(some (26,false))⟩,⟨(some 32),(.pick (.tmp 26) (.const (.bool true)) (.tmp 31)),none⟩])
  (.cond (.tmp 32)
  (.seq (.reg [⟨(some 33),(.bld #[(.int .i64 0),(.int .i64 0),(.int .i64 0)] []),none⟩,⟨none,(.stn 3 (.tmp 6) (.tmp 33)),none⟩,⟨(some 7),(.mv (.const (.bool false))),none⟩]) .ret) .skip))
  (.seq (.reg [⟨(some 34),(.ldn 3 (.tmp 8)),none⟩,⟨none,(.stn 3 (.tmp 6) (.tmp 34)),none⟩,⟨(some 7),(.mv (.const (.bool true))),none⟩]) .ret))))⟩:=by kernel_rfl

theorem tr94:trF Tryz.prog pures Tryz.f94=some
 ⟨20,[(.t 4)],
  (.seq (.reg [⟨(some 2),(.box 23 (.tmp 0)),none⟩,⟨(some 4),(.mv (.const (.int .i64 0))),none⟩])
  (.seq (.seq
  (.reg [⟨(some 5),(.ldn 3 (.tmp 2)),none⟩,⟨(some 6),(.pcall 53 [(.tmp 5)]),none⟩,⟨(some 7),(.nt (.tmp 6)),none⟩,⟨(some 8),(.mv (.tmp 7)),none⟩,⟨(some 9),(.mv (.tmp 1)),(some (8,false))⟩,⟨(some 10),(.fad 0 (.tmp 2)),(some (8,false))⟩,⟨(some 11),(.ld1 (.tmp 10)),(some (8,false))⟩,⟨(some 12),(.ar .sub (.tmp 11) (.const (.int .i64 1))),(some (8,false))⟩,⟨(some 13),(.pcall 81 [(.tmp 9),(.const (.int .i64 0)),(.tmp 12)]),(some (8,false))⟩,⟨(some 14),(.nt (.tmp 13)),(some (8,false))⟩,⟨(some 15),(.pick (.tmp 8) (.const (.bool true)) (.tmp 14)),none⟩])
  (.cond (.tmp 15)
  (.seq (.reg [⟨(some 4),(.mv (.const (.int .i64 (-1)))),none⟩]) .ret) .skip))
  (.seq (.reg [⟨(some 16),(.fad 1 (.tmp 2)),none⟩,⟨(some 17),(.ld1 (.tmp 16)),none⟩,⟨(some 18),(.mv (.tmp 1)),none⟩,⟨(some 19),(.ar .add (.tmp 17) (.tmp 18)),none⟩,⟨(some 4),(.mv (.tmp 19)),none⟩]) .ret)))⟩:=by kernel_rfl

theorem tr95:trF Tryz.prog pures Tryz.f95=some
 ⟨8,[(.t 2)],
  (.seq (.reg [⟨(some 2),(.mv (.const (.slice none 0 0))),none⟩])
  (.seq (.seq
  (.reg [⟨(some 3),(.mv (.tmp 0)),none⟩,⟨(some 4),(.snil false (.tmp 3)),none⟩])
  (.cond (.tmp 4)
  (.seq (.reg [⟨(some 2),(.mv (.const (.slice none 0 0))),none⟩]) .ret) .skip))
  (.seq (.reg [⟨(some 5),(.bsl0 50 0),none⟩,⟨(some 6),(.mv (.tmp 0)),none⟩,⟨(some 7),(.app 50 1 8 #[(.int .u64 0)] (.tmp 5) (.tmp 6)),none⟩,⟨(some 2),(.mv (.tmp 7)),none⟩]) .ret)))⟩:=by kernel_rfl

end Go.Proofs.YtkjpgikjcfhckaaGreat
