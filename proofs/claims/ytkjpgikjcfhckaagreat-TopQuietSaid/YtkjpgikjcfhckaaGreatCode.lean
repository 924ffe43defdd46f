/-
 The compact code of functions of this seat, as translated from the model: each translation holds by reckoning. Conditions: none.
-/
import Derived.Test.YtkjpgikjcfhckaaGreatEv
import Derived.Test.YtkjpgikjcfhckaaGreatRows
set_option maxRecDepth 100000
namespace Go.Proofs.YtkjpgikjcfhckaaGreat
open Go Go.Ev
@[reducible] def M (d x:Nat):MI:=⟨some d,.mv (.tmp x),none⟩
@[reducible] def L (d x:Nat):MI:=⟨some d,.ld1 (.tmp x),none⟩
@[reducible] def Q (d x:Nat):MI:=⟨some d,.nilck (.tmp x),none⟩
@[reducible] def Y (d k x:Nat):MI:=⟨some d,.fad k (.tmp x),none⟩
@[reducible] def E1 (d:Nat) (o:MO):MI:=⟨some d,o,none⟩
@[reducible] def E2 (d:Nat) (o:MO) (g:Nat) (b:Bool):MI:=⟨some d,o,some (g,b)⟩
@[reducible] def E3 (d x g:Nat) (b:Bool):MI:=⟨some d,.mv (.tmp x),some (g,b)⟩
@[reducible] def E4 (d i x:Nat):MI:=⟨some d,.ext i (.tmp x),none⟩
@[reducible] def E5 (x y:Nat):MI:=⟨none,.st1 (.tmp x) (.tmp y),none⟩
@[reducible] def E6 (d k x:Nat):MI:=⟨some d,.ldn k (.tmp x),none⟩
@[reducible] def E7 (d x g:Nat) (b:Bool):MI:=⟨some d,.ld1 (.tmp x),some (g,b)⟩
@[reducible] def E8 (d x:Nat):MI:=⟨some d,.nt (.tmp x),none⟩
open _root_.Go.Ev.ST renaming take→T,alt→A,stop→Z,done→D
open _root_.Go.Ev.MC renaming reg→R,seq→S,cond→C
open _root_.Go.Ev.MO renaming mv→m,call→c,pcall→p,nilck→q,fad→f,ld1→l,cmp→h,pick→k,ldn→e,ar→a,st1→z
open _root_.Go.Operand renaming tmp→t,const→v
open _root_.Go.Value renaming int→I
open _root_.Go.IntKind renaming i64→W
open _root_.Option renaming some→s,none→n
open _root_.Bool renaming false→F,true→G

def pures:List Nat:=[17,24,25,26,27,28,29,30,31,34,40,53,55,57,61,62,64,67,68,69,70,72,73,74,75,78,80,81,88,92,93,94,96,97,100,101,102,103,112,113,120,121,122,128,222,223,252,274,279,288,289,291,302,309,310]
theorem mixed:Tryz.prog.follows .mixedOrders=true:=by kernel_rfl

theorem tr100:trF Tryz.prog pures Tryz.f100=some
 ⟨15,[(.cn 2 2)],(S (R [E1 2 (.alc 128 (.agg #[(I W 0),(I W 0)]))]) (S (R [M 4 0,E1 5 (p 102 [t 4]),M 6 0,E1 7 (p 103 [t 6,(v (I W 0))]),E1 8 (.bld #[(I W 0),(I W 0)] [(0,(1,(t 5))),(1,(1,(t 7)))]),E1 3 (.alc 128 (.agg #[(I W 0),(I W 0)])),⟨n,.stn 2 (t 3) (t 8),n⟩]) (S (S (R [E6 9 2 3,E1 10 (p 122 [t 9]),M 11 0,E1 12 (h .neq (t 10) (t 11))]) (C (t 12) (S (R [E1 13 (.bld #[(I W 0),(I W 0)] []),⟨n,.stn 2 (t 2) (t 13),n⟩]) .ret) .skip)) (S (R [E6 14 2 3,⟨n,.stn 2 (t 2) (t 14),n⟩]) .ret))))⟩:=by kernel_rfl

theorem tr101:trF Tryz.prog pures Tryz.f101=some
 ⟨33,[(.t 6)],(S (R [E1 3 (.box 23 (t 0)),E1 6 (m (v (I W 0)))]) (S (S (R [E6 7 3 3,E1 8 (p 53 [t 7]),E8 9 8,M 10 9,E3 11 1 10 F,E2 12 (f 0 (t 3)) 10 F,E7 13 12 10 F,E2 14 (a .sub (t 13) (v (I W 1))) 10 F,E2 15 (p 81 [t 11,(v (I W 0)),t 14]) 10 F,E2 16 (.nt (t 15)) 10 F,E1 17 (k (t 10) (v (.bool true)) (t 16)),M 18 17,E3 19 2 18 F,E2 20 (p 81 [t 19,(v (I W 0)),(v (I W 15))]) 18 F,E2 21 (.nt (t 20)) 18 F,E1 22 (k (t 18) (v (.bool true)) (t 21))]) (C (t 22) (S (R [E1 6 (m (v (I W (-1))))]) .ret) .skip)) (S (R [Y 23 1 3,L 24 23,Y 25 0 3,L 26 25,E1 27 (a .add (t 24) (t 26)),M 28 1,E1 29 (a .mul (t 28) (v (I W 16))),E1 30 (a .add (t 27) (t 29)),M 31 2,E1 32 (a .add (t 30) (t 31)),M 6 32]) .ret)))⟩:=by kernel_rfl

theorem tr102:trF Tryz.prog pures Tryz.f102=some
 ⟨6,[(.t 2)],(S (R [E1 2 (m (v (I W 0)))]) (S (R [M 3 0,E1 4 (.bt .and (t 3) (v (.int .u64 15))),E1 5 (.cv .i64 (t 4)),M 2 5]) .ret))⟩:=by kernel_rfl

theorem tr103:trF Tryz.prog pures Tryz.f103=some
 ⟨12,[(.t 4)],(S (R [E1 4 (m (v (I W 0)))]) (S (R [M 5 0,M 6 1,E1 7 (a .mul (v (I W 8)) (t 6)),E1 8 (a .add (v (I W 4)) (t 7)),E1 9 (.sh .shr (t 5) (t 8)),E1 10 (.bt .and (t 9) (v (.int .u64 255))),E1 11 (.cv .i64 (t 10)),M 4 11]) .ret))⟩:=by kernel_rfl

theorem tr104:trF Tryz.prog pures Tryz.f104=some
 ⟨20,[(.t 4)],(S (R [E1 4 (m (v (.bool false)))]) (S (R [M 5 0,E1 6 (.pnil true (t 5)),M 7 6,E3 8 1 7 G,E2 9 (h .geq (t 8) (v (I W 0))) 7 G,E1 10 (k (t 7) (t 9) (v (.bool false))),M 11 10,E3 12 1 11 G,E3 13 0 11 G,E2 14 (q (t 13)) 11 G,E2 15 (f 0 (t 14)) 11 G,E7 16 15 11 G,E2 17 (.len (t 16)) 11 G,E2 18 (h .lss (t 12) (t 17)) 11 G,E1 19 (k (t 11) (t 18) (v (.bool false))),M 4 19]) .ret))⟩:=by kernel_rfl

theorem tr112:trF Tryz.prog pures Tryz.f112=some
 ⟨24,[(.t 2),(.t 3)],(S (R [E1 2 (m (v (I W 0))),E1 3 (m (v (.bool false)))]) (S (S (R [M 9 0,E1 10 (p 128 [t 9]),M 8 10,E4 11 0 8,E4 12 1 8,M 4 11,M 5 12]) (S (R [M 13 5]) (C (t 13) (S (R [M 14 4,E1 15 (p 73 [t 14]),M 2 15,E1 3 (m (v (.bool true)))]) .ret) .skip))) (S (R [M 17 0,E1 18 (p 113 [t 17]),M 16 18,E4 19 0 16,E4 20 1 16,M 6 19,M 7 20]) (S (R [M 21 6,E1 22 (.sh .shl (t 21) (v (.int .u64 6))),M 23 7,M 2 22,M 3 23]) .ret))))⟩:=by kernel_rfl

theorem tr113:trF Tryz.prog pures Tryz.f113=some
 ⟨11,[(.t 2),(.t 3)],(S (R [E1 2 (m (v (I W 0))),E1 3 (m (v (.bool false)))]) (S (S (R [M 4 0,E1 5 (p 81 [t 4,(v (I W 33)),(v (I W 512))]),E8 6 5]) (C (t 6) (S (R [E1 2 (m (v (I W 0))),E1 3 (m (v (.bool false)))]) .ret) .skip)) (S (R [M 7 0,E1 8 (a .sub (t 7) (v (I W 1))),E1 9 (.sh .shr (t 8) (v (.int .u64 6))),E1 10 (a .add (t 9) (v (I W 1))),M 2 10,E1 3 (m (v (.bool true)))]) .ret)))⟩:=by kernel_rfl

theorem tr119:trF Tryz.prog pures Tryz.f119=some
 ⟨33,[(.t 4)],(S (R [E1 4 (m (v (.int .u64 0)))]) (S (R [M 8 0,E1 9 (.cv .u64 (t 8)),M 5 9]) (S (S (R [M 10 1,E1 11 (.len (t 10)),E1 12 (m (v (I W 0)))]) (.block 0 (.loop (S (R [E1 13 (h .lss (t 12) (t 11))]) (S (C (t 13) .skip (.exit 0)) (S (.block 1 (S (R [M 14 12,E1 15 (.iad 1 (t 10) (t 12)),L 16 15,M 6 14,M 7 16]) (S (S (R [M 17 7,E1 18 (h .lss (t 17) (v (I W 0))),M 19 18,E3 20 7 19 F,E2 21 (h .gtr (t 20) (v (I W 255))) 19 F,E1 22 (k (t 19) (v (.bool true)) (t 21))]) (C (t 22) (S (R [E1 4 (m (v (.int .u64 0)))]) .ret) .skip)) (R [M 23 5,M 24 7,E1 25 (.cv .u64 (t 24)),M 26 6,E1 27 (a .mul (v (I W 8)) (t 26)),E1 28 (a .add (v (I W 4)) (t 27)),E1 29 (.sh .shl (t 25) (t 28)),E1 30 (.bt .or (t 23) (t 29)),M 5 30])))) (R [E1 31 (a .add (t 12) (v (I W 1))),M 12 31]))))))) (S (R [M 32 5,M 4 32]) .ret))))⟩:=by kernel_rfl

theorem tr120:trF Tryz.prog pures Tryz.f120=some
 ⟨39,[(.t 2)],(S (R [E1 1 (.box 107 (t 0)),E1 2 (m (v (.int .u64 0)))]) (S (S (R [Y 3 0 1,L 4 3,E1 5 (h .lss (t 4) (v (I W 0))),M 6 5,E2 7 (f 0 (t 1)) 6 F,E7 8 7 6 F,E2 9 (h .gtr (t 8) (v (I W 4))) 6 F,E1 10 (k (t 6) (v (.bool true)) (t 9)),M 11 10,E2 12 (f 0 (t 1)) 11 F,E7 13 12 11 F,E2 14 (h .eql (t 13) (v (I W 0))) 11 F,E3 15 14 11 F,E2 16 (f 1 (t 1)) 15 G,E7 17 16 15 G,E2 18 (h .neq (t 17) (v (I W 0))) 15 G,E2 19 (k (t 15) (t 18) (v (.bool false))) 11 F,E1 20 (k (t 11) (v (.bool true)) (t 19)),M 21 20,E2 22 (f 0 (t 1)) 21 F,E7 23 22 21 F,E2 24 (h .neq (t 23) (v (I W 2))) 21 F,E3 25 24 21 F,E2 26 (f 2 (t 1)) 25 G,E7 27 26 25 G,E2 28 (h .neq (t 27) (v (I W 0))) 25 G,E2 29 (k (t 25) (t 28) (v (.bool false))) 21 F,E1 30 (k (t 21) (v (.bool true)) (t 29))]) (C (t 30) (S (R [E1 2 (m (v (.int .u64 0)))]) .ret) .skip)) (S (R [Y 31 0 1,L 32 31,Y 33 1 1,L 34 33,Y 35 2 1,L 36 35,E1 37 (.bsl 3 #[(I W 0),(I W 0)] 2 1 [(0,(t 34)),(1,(t 36))]),E1 38 (c 119 [t 32,t 37]),M 2 38]) .ret)))⟩:=by kernel_rfl

theorem tr121:trF Tryz.prog pures Tryz.f121=some
 ⟨60,[(.t 6)],(S (R [E1 3 (.box 23 (t 0)),E1 5 (.box 107 (t 2)),E1 6 (m (v (.bool false)))]) (S (S (R [Y 7 0 5,L 8 7]) (.block 0 (S (R [E1 10 (h .eql (t 8) (v (I W 1))),M 9 10]) (C (t 9) (S (R [Y 11 1 5,L 12 11,Y 13 1 3,L 14 13,E1 15 (h .lss (t 12) (t 14)),M 6 15]) .ret) (S (R [E1 17 (h .eql (t 8) (v (I W 2))),M 16 17]) (C (t 16) (S (R [Y 18 1 5,L 19 18,E1 20 (h .lss (t 19) (v (I W 4))),M 21 20,E2 22 (f 2 (t 5)) 21 G,E7 23 22 21 G,E2 24 (f 1 (t 3)) 21 G,E7 25 24 21 G,E2 26 (h .lss (t 23) (t 25)) 21 G,E1 27 (k (t 21) (t 26) (v (.bool false))),M 6 27]) .ret) (S (R [E1 29 (h .eql (t 8) (v (I W 3))),M 28 29]) (C (t 28) (S (R [Y 30 1 5,L 31 30,E1 32 (h .geq (t 31) (v (I W 1))),M 33 32,E2 34 (f 1 (t 5)) 33 G,E7 35 34 33 G,E2 36 (h .leq (t 35) (v (I W 8))) 33 G,E1 37 (k (t 33) (t 36) (v (.bool false))),M 38 37,E2 39 (f 1 (t 5)) 38 G,E7 40 39 38 G,E2 41 (f 0 (t 3)) 38 G,E7 42 41 38 G,E3 43 1 38 G,E2 44 (a .sub (t 42) (t 43)) 38 G,E2 45 (h .leq (t 40) (t 44)) 38 G,E1 46 (k (t 38) (t 45) (v (.bool false))),M 6 46]) .ret) (S (R [E1 48 (h .eql (t 8) (v (I W 4))),M 47 48]) (C (t 47) (S (R [Y 49 1 5,L 50 49,M 51 1,E1 52 (h .lss (t 50) (t 51)),M 53 52,E2 54 (f 1 (t 5)) 53 G,E7 55 54 53 G,E3 56 1 53 G,E2 57 (a .sub (t 56) (v (I W 8))) 53 G,E2 58 (h .gtr (t 55) (t 57)) 53 G,E1 59 (k (t 53) (t 58) (v (.bool false))),M 6 59]) .ret) .skip)))))))))) (S (R [E1 6 (m (v (.bool true)))]) .ret)))⟩:=by kernel_rfl

theorem tr122:trF Tryz.prog pures Tryz.f122=some
 ⟨27,[(.t 2)],(S (R [E1 1 (.box 128 (t 0)),E1 2 (m (v (.int .u64 0)))]) (S (S (R [Y 3 0 1,L 4 3,E1 5 (h .lss (t 4) (v (I W 0))),M 6 5,E2 7 (f 0 (t 1)) 6 F,E7 8 7 6 F,E2 9 (h .gtr (t 8) (v (I W 3))) 6 F,E1 10 (k (t 6) (v (.bool true)) (t 9)),M 11 10,E2 12 (f 0 (t 1)) 11 F,E7 13 12 11 F,E2 14 (h .eql (t 13) (v (I W 0))) 11 F,E3 15 14 11 F,E2 16 (f 1 (t 1)) 15 G,E7 17 16 15 G,E2 18 (h .neq (t 17) (v (I W 0))) 15 G,E2 19 (k (t 15) (t 18) (v (.bool false))) 11 F,E1 20 (k (t 11) (v (.bool true)) (t 19))]) (C (t 20) (S (R [E1 2 (m (v (.int .u64 0)))]) .ret) .skip)) (S (R [Y 21 0 1,L 22 21,Y 23 1 1,L 24 23,E1 25 (.bsl 3 #[(I W 0)] 1 1 [(0,(t 24))]),E1 26 (c 119 [t 22,t 25]),M 2 26]) .ret)))⟩:=by kernel_rfl

theorem tr128:trF Tryz.prog pures Tryz.f128=some
 ⟨15,[(.t 2),(.t 3)],(S (R [E1 2 (m (v (I W 0))),E1 3 (m (v (.bool false)))]) (S (S (R [M 5 0,E1 6 (p 81 [t 5,(v (I W 1)),(v (I W 32))]),E8 7 6]) (C (t 7) (S (R [E1 2 (m (v (I W 0))),E1 3 (m (v (.bool false)))]) .ret) .skip)) (S (R [E1 4 (m (v (I W 0)))]) (S (.block 0 (.loop (S (S (R [M 8 4,E1 9 (p 73 [t 8]),M 10 0,E1 11 (h .lss (t 9) (t 10))]) (C (t 11) .skip (.exit 0))) (.block 1 (R [M 12 4,E1 13 (a .add (t 12) (v (I W 1))),M 4 13]))))) (S (R [M 14 4,M 2 14,E1 3 (m (v (.bool true)))]) .ret)))))⟩:=by kernel_rfl

theorem tr199:trF Tryz.prog pures Tryz.f199=some
 ⟨31,[],(S (R [M 8 0,M 9 2,E1 10 (c 211 [t 8,t 9])]) (S (R [M 11 0,M 12 1,M 13 2,M 14 0,Q 15 14,Y 16 0 15,L 17 16,M 18 2,E1 19 (.iad 1 (t 17) (t 18)),L 20 19,M 21 3,E1 22 (.bld #[(I W 0),(I W 0),(I W 0),(.int .u64 0),(.int .u64 0),(.bool false)] [(0,(1,(t 12))),(1,(1,(v (I W 1)))),(2,(1,(t 13))),(3,(1,(t 20))),(4,(1,(t 21))),(5,(1,(v (.bool true))))]),E1 23 (c 212 [t 11,t 22])]) (R [M 24 0,Q 25 24,Y 26 0 25,L 27 26,M 28 2,M 29 3,E1 30 (.iad 1 (t 27) (t 28)),E5 30 29])))⟩:=by kernel_rfl

theorem tr200:trF Tryz.prog pures Tryz.f200=some
 ⟨29,[(.t 6)],(S (R [E1 6 (m (v (.int .u64 0)))]) (S (R [M 7 0,M 8 2,E1 9 (c 211 [t 7,t 8])]) (S (R [M 10 0,M 11 1,M 12 2,M 13 0,Q 14 13,Y 15 0 14,L 16 15,M 17 2,E1 18 (.iad 1 (t 16) (t 17)),L 19 18,E1 20 (.bld #[(I W 0),(I W 0),(I W 0),(.int .u64 0),(.int .u64 0),(.bool false)] [(0,(1,(t 11))),(1,(1,(v (I W 0)))),(2,(1,(t 12))),(3,(1,(t 19))),(5,(1,(v (.bool true))))]),E1 21 (c 212 [t 10,t 20])]) (S (R [M 22 0,Q 23 22,Y 24 0 23,L 25 24,M 26 2,E1 27 (.iad 1 (t 25) (t 26)),L 28 27,M 6 28]) .ret))))⟩:=by kernel_rfl

theorem tr203:trF Tryz.prog pures Tryz.f203=some
 ⟨47,[(.t 10)],(S (R [E1 10 (m (v (.bool false)))]) (S (R [M 12 0,M 13 2,E1 14 (c 211 [t 12,t 13])]) (S (R [M 15 0,Q 16 15,Y 17 0 16,L 18 17,M 19 2,E1 20 (.iad 1 (t 18) (t 19)),L 21 20,M 22 3,E1 23 (h .eql (t 21) (t 22)),M 11 23]) (S (R [M 24 0,M 25 1,M 26 2,M 27 0,Q 28 27,Y 29 0 28,L 30 29,M 31 2,E1 32 (.iad 1 (t 30) (t 31)),L 33 32,M 34 4,M 35 11,E1 36 (.bld #[(I W 0),(I W 0),(I W 0),(.int .u64 0),(.int .u64 0),(.bool false)] [(0,(1,(t 25))),(1,(1,(v (I W 2)))),(2,(1,(t 26))),(3,(1,(t 33))),(4,(1,(t 34))),(5,(1,(t 35)))]),E1 37 (c 212 [t 24,t 36])]) (S (S (R [M 38 11]) (C (t 38) (R [M 39 0,Q 40 39,Y 41 0 40,L 42 41,M 43 2,M 44 4,E1 45 (.iad 1 (t 42) (t 43)),E5 45 44]) .skip)) (S (R [M 46 11,M 10 46]) .ret))))))⟩:=by kernel_rfl

theorem tr211:trF Tryz.prog pures Tryz.f211=some
 ⟨9,[],(S (R [M 4 0,M 5 1,E1 6 (c 104 [t 4,t 5]),E8 7 6]) (C (t 7) .no .skip))⟩:=by kernel_rfl

theorem tr212:trF Tryz.prog pures Tryz.f212=some
 ⟨15,[],(S (R [E1 3 (.box 52 (t 1))]) (S (R [M 4 0,Q 5 4,Y 6 1 5,L 7 6,E1 8 (a .add (t 7) (v (I W 1))),Q 9 4,Y 10 1 9,E5 10 8]) (R [M 11 0,E6 12 6 3,Q 13 11,Y 14 2 13,⟨n,.stn 6 (t 14) (t 12),n⟩])))⟩:=by kernel_rfl

theorem tr222:trF Tryz.prog pures Tryz.f222=some
 ⟨42,[(.t 6)],(S (R [E1 3 (.box 23 (t 0)),E1 6 (m (v (I W 0)))]) (S (S (R [E6 7 3 3,E1 8 (p 53 [t 7]),E8 9 8,M 10 9,E3 11 1 10 F,E2 12 (f 1 (t 3)) 10 F,E7 13 12 10 F,E2 14 (a .sub (t 13) (v (I W 1))) 10 F,E2 15 (p 81 [t 11,(v (I W 0)),t 14]) 10 F,E2 16 (.nt (t 15)) 10 F,E1 17 (k (t 10) (v (.bool true)) (t 16)),M 18 17,E3 19 2 18 F,E2 20 (f 2 (t 3)) 18 F,E7 21 20 18 F,E2 22 (a .sub (t 21) (v (I W 1))) 18 F,E2 23 (p 81 [t 19,(v (I W 0)),t 22]) 18 F,E2 24 (.nt (t 23)) 18 F,E1 25 (k (t 18) (v (.bool true)) (t 24))]) (C (t 25) (S (R [E1 6 (m (v (I W (-1))))]) .ret) .skip)) (S (R [Y 26 1 3,L 27 26,Y 28 0 3,L 29 28,E1 30 (a .add (t 27) (t 29)),Y 31 0 3,L 32 31,E1 33 (a .mul (t 32) (v (I W 16))),E1 34 (a .add (t 30) (t 33)),M 35 1,Y 36 2 3,L 37 36,E1 38 (a .mul (t 35) (t 37)),E1 39 (a .add (t 34) (t 38)),M 40 2,E1 41 (a .add (t 39) (t 40)),M 6 41]) .ret)))⟩:=by kernel_rfl

theorem tr223:trF Tryz.prog pures Tryz.f223=some
 ⟨11,[(.t 2)],(S (R [E1 1 (.box 238 (t 0)),E1 2 (m (v (.int .u64 0)))]) (S (R [Y 3 0 1,L 4 3,Y 5 1 1,L 6 5,Y 7 2 1,L 8 7,E1 9 (.bsl 3 #[(I W 0),(I W 0),(I W 0)] 3 1 [(0,(t 4)),(1,(t 6)),(2,(t 8))]),E1 10 (c 119 [(v (I W 1)),t 9]),M 2 10]) .ret))⟩:=by kernel_rfl

theorem tr24:trF Tryz.prog pures Tryz.f24=some
 ⟨41,[(.cn 4 3),(.t 5)],(S (R [E1 2 (.box 23 (t 0)),E1 4 (.alc 63 (.agg #[(I W 0),(I W 0),(I W 0)])),E1 5 (m (v (.bool false)))]) (S (R [M 7 1,E1 8 (.sh .shr (t 7) (v (.int .u64 4))),E1 9 (.bt .and (t 8) (v (.int .u64 255))),E1 10 (.cv .i64 (t 9)),M 11 1,E1 12 (.sh .shr (t 11) (v (.int .u64 12))),E1 13 (.bt .and (t 12) (v (.int .u64 255))),E1 14 (.cv .i64 (t 13)),M 15 1,E1 16 (.sh .shr (t 15) (v (.int .u64 20))),E1 17 (.bt .and (t 16) (v (.int .u64 255))),E1 18 (.cv .i64 (t 17)),E1 19 (.bld #[(I W 0),(I W 0),(I W 0)] [(0,(1,(t 10))),(1,(1,(t 14))),(2,(1,(t 18)))]),E1 6 (.alc 63 (.agg #[(I W 0),(I W 0),(I W 0)])),⟨n,.stn 3 (t 6) (t 19),n⟩]) (S (S (R [E6 20 3 6,E1 21 (p 67 [t 20]),M 22 1,E1 23 (h .neq (t 21) (t 22)),M 24 23,E2 25 (e 3 (t 2)) 24 F,E2 26 (f 0 (t 6)) 24 F,E7 27 26 24 F,E2 28 (p 28 [t 25,t 27]) 24 F,E2 29 (h .lss (t 28) (v (I W 0))) 24 F,E1 30 (k (t 24) (v (.bool true)) (t 29)),M 31 30,E2 32 (f 1 (t 6)) 31 F,E7 33 32 31 F,E2 34 (f 2 (t 6)) 31 F,E7 35 34 31 F,E2 36 (p 30 [t 35]) 31 F,E2 37 (h .geq (t 33) (t 36)) 31 F,E1 38 (k (t 31) (v (.bool true)) (t 37))]) (C (t 38) (S (R [E1 39 (.bld #[(I W 0),(I W 0),(I W 0)] []),⟨n,.stn 3 (t 4) (t 39),n⟩,E1 5 (m (v (.bool false)))]) .ret) .skip)) (S (R [E6 40 3 6,⟨n,.stn 3 (t 4) (t 40),n⟩,E1 5 (m (v (.bool true)))]) .ret))))⟩:=by kernel_rfl

theorem tr25:trF Tryz.prog pures Tryz.f25=some
 ⟨37,[(.t 6)],(S (R [E1 3 (.box 23 (t 0)),E1 6 (m (v (I W 0)))]) (S (S (R [E6 7 3 3,M 8 1,E1 9 (p 68 [t 7,t 8]),E1 10 (h .lss (t 9) (v (I W 0))),M 11 10,E3 12 2 11 F,E2 13 (h .lss (t 12) (v (I W 0))) 11 F,E1 14 (k (t 11) (v (.bool true)) (t 13)),M 15 14,E3 16 2 15 F,E2 17 (f 2 (t 3)) 15 F,E7 18 17 15 F,E2 19 (h .geq (t 16) (t 18)) 15 F,E1 20 (k (t 15) (v (.bool true)) (t 19))]) (C (t 20) (S (R [E1 6 (m (v (I W (-1))))]) .ret) .skip)) (S (R [Y 21 1 3,L 22 21,Y 23 0 3,L 24 23,E1 25 (a .add (t 22) (t 24)),Y 26 0 3,L 27 26,E1 28 (a .mul (v (I W 16)) (t 27)),E1 29 (a .add (t 25) (t 28)),Y 30 2 3,L 31 30,M 32 1,E1 33 (a .mul (t 31) (t 32)),E1 34 (a .add (t 29) (t 33)),M 35 2,E1 36 (a .add (t 34) (t 35)),M 6 36]) .ret)))⟩:=by kernel_rfl

theorem tr252:trF Tryz.prog pures Tryz.f252=some
 ⟨35,[(.cn 4 3),(.t 5)],(S (R [E1 2 (.box 23 (t 0)),E1 4 (.alc 238 (.agg #[(I W 0),(I W 0),(I W 0)])),E1 5 (m (v (.bool false)))]) (S (R [M 7 1,E1 8 (p 103 [t 7,(v (I W 0))]),M 9 1,E1 10 (p 103 [t 9,(v (I W 1))]),M 11 1,E1 12 (p 103 [t 11,(v (I W 2))]),E1 13 (.bld #[(I W 0),(I W 0),(I W 0)] [(0,(1,(t 8))),(1,(1,(t 10))),(2,(1,(t 12)))]),E1 6 (.alc 238 (.agg #[(I W 0),(I W 0),(I W 0)])),⟨n,.stn 3 (t 6) (t 13),n⟩]) (S (S (R [E6 14 3 6,E1 15 (p 223 [t 14]),M 16 1,E1 17 (h .neq (t 15) (t 16)),M 18 17,E2 19 (e 3 (t 2)) 18 F,E2 20 (f 0 (t 6)) 18 F,E7 21 20 18 F,E2 22 (p 94 [t 19,t 21]) 18 F,E2 23 (h .lss (t 22) (v (I W 0))) 18 F,E1 24 (k (t 18) (v (.bool true)) (t 23)),M 25 24,E2 26 (f 1 (t 6)) 25 F,E7 27 26 25 F,E2 28 (f 2 (t 6)) 25 F,E7 29 28 25 F,E2 30 (p 70 [t 29]) 25 F,E2 31 (h .geq (t 27) (t 30)) 25 F,E1 32 (k (t 25) (v (.bool true)) (t 31))]) (C (t 32) (S (R [E1 33 (.bld #[(I W 0),(I W 0),(I W 0)] []),⟨n,.stn 3 (t 4) (t 33),n⟩,E1 5 (m (v (.bool false)))]) .ret) .skip)) (S (R [E6 34 3 6,⟨n,.stn 3 (t 4) (t 34),n⟩,E1 5 (m (v (.bool true)))]) .ret))))⟩:=by kernel_rfl

theorem tr26:trF Tryz.prog pures Tryz.f26=some
 ⟨12,[(.t 2)],(S (R [E1 2 (m (v (I W 0)))]) (S (S (R [M 3 0,E1 4 (h .lss (t 3) (v (I W 0))),M 5 4,E3 6 0 5 F,E2 7 (h .geq (t 6) (v (I W 4))) 5 F,E1 8 (k (t 5) (v (.bool true)) (t 7))]) (C (t 8) (S (R [E1 2 (m (v (I W 0)))]) .ret) .skip)) (S (R [M 9 0,E1 10 (.cv .u64 (t 9)),E1 11 (.sh .shl (v (I W 4)) (t 10)),M 2 11]) .ret)))⟩:=by kernel_rfl

theorem tr27:trF Tryz.prog pures Tryz.f27=some
 ⟨90,[(.cn 6 3),(.t 7)],(S (R [E1 3 (.box 23 (t 0)),E1 6 (.alc 69 (.agg #[(I W 0),(I W 0),(I W 0)])),E1 7 (m (v (.bool false)))]) (S (R [M 10 2,E1 11 (.bt .and (t 10) (v (.int .u64 15))),E1 12 (.cv .i64 (t 11)),M 13 2,E1 14 (.sh .shr (t 13) (v (.int .u64 4))),E1 15 (.bt .and (t 14) (v (.int .u64 255))),E1 16 (.cv .i64 (t 15)),M 17 2,E1 18 (.sh .shr (t 17) (v (.int .u64 12))),E1 19 (.bt .and (t 18) (v (.int .u64 255))),E1 20 (.cv .i64 (t 19)),E1 21 (.bld #[(I W 0),(I W 0),(I W 0)] [(0,(1,(t 12))),(1,(1,(t 16))),(2,(1,(t 20)))]),E1 8 (.alc 69 (.agg #[(I W 0),(I W 0),(I W 0)])),⟨n,.stn 3 (t 8) (t 21),n⟩]) (S (S (R [E6 22 3 8,E1 23 (p 69 [t 22]),M 24 2,E1 25 (h .neq (t 23) (t 24)),M 26 25,E2 27 (e 3 (t 3)) 26 F,E3 28 1 26 F,E2 29 (p 28 [t 27,t 28]) 26 F,E2 30 (h .lss (t 29) (v (I W 0))) 26 F,E1 31 (k (t 26) (v (.bool true)) (t 30))]) (C (t 31) (S (R [E1 32 (.bld #[(I W 0),(I W 0),(I W 0)] []),⟨n,.stn 3 (t 6) (t 32),n⟩,E1 7 (m (v (.bool false)))]) .ret) .skip)) (S (R [E1 9 (m (v (.bool true)))]) (S (S (R [Y 33 0 8,L 34 33]) (.block 0 (S (R [E1 36 (h .eql (t 34) (v (I W 1))),M 35 36]) (C (t 35) (R [Y 37 1 8,L 38 37,Y 39 1 3,L 40 39,E1 41 (h .lss (t 38) (t 40)),M 9 41]) (S (R [E1 43 (h .eql (t 34) (v (I W 2))),M 42 43]) (C (t 42) (R [Y 44 1 8,L 45 44,E1 46 (h .lss (t 45) (v (I W 4))),M 47 46,E2 48 (f 2 (t 8)) 47 G,E7 49 48 47 G,E2 50 (f 1 (t 3)) 47 G,E7 51 50 47 G,E2 52 (h .lss (t 49) (t 51)) 47 G,E1 53 (k (t 47) (t 52) (v (.bool false))),M 9 53]) (S (R [E1 55 (h .eql (t 34) (v (I W 3))),M 54 55]) (C (t 54) (R [Y 56 1 8,L 57 56,E1 58 (h .geq (t 57) (v (I W 1))),M 59 58,E2 60 (f 1 (t 8)) 59 G,E7 61 60 59 G,E2 62 (h .leq (t 61) (v (I W 8))) 59 G,E1 63 (k (t 59) (t 62) (v (.bool false))),M 64 63,E3 65 1 64 G,E2 66 (f 1 (t 8)) 64 G,E7 67 66 64 G,E2 68 (a .add (t 65) (t 67)) 64 G,E2 69 (f 0 (t 3)) 64 G,E7 70 69 64 G,E2 71 (h .leq (t 68) (t 70)) 64 G,E1 72 (k (t 64) (t 71) (v (.bool false))),M 9 72]) (S (R [E1 74 (h .eql (t 34) (v (I W 4))),M 73 74]) (C (t 73) (R [Y 75 1 8,L 76 75,M 77 1,E1 78 (h .lss (t 76) (t 77)),M 79 78,E3 80 1 79 G,E2 81 (f 1 (t 8)) 79 G,E7 82 81 79 G,E2 83 (a .sub (t 80) (t 82)) 79 G,E2 84 (h .lss (t 83) (v (I W 8))) 79 G,E1 85 (k (t 79) (t 84) (v (.bool false))),M 9 85]) .skip)))))))))) (S (S (R [M 86 9,E8 87 86]) (C (t 87) (S (R [E1 88 (.bld #[(I W 0),(I W 0),(I W 0)] []),⟨n,.stn 3 (t 6) (t 88),n⟩,E1 7 (m (v (.bool false)))]) .ret) .skip)) (S (R [E6 89 3 8,⟨n,.stn 3 (t 6) (t 89),n⟩,E1 7 (m (v (.bool true)))]) .ret)))))))⟩:=by kernel_rfl

theorem tr28:trF Tryz.prog pures Tryz.f28=some
 ⟨22,[(.t 4)],(S (R [E1 2 (.box 23 (t 0)),E1 4 (m (v (I W 0)))]) (S (S (R [E6 5 3 2,E1 6 (p 34 [t 5]),E8 7 6,M 8 7,E3 9 1 8 F,E2 10 (h .lss (t 9) (v (I W 0))) 8 F,E1 11 (k (t 8) (v (.bool true)) (t 10)),M 12 11,E3 13 1 12 F,E2 14 (f 0 (t 2)) 12 F,E7 15 14 12 F,E2 16 (h .geq (t 13) (t 15)) 12 F,E1 17 (k (t 12) (v (.bool true)) (t 16))]) (C (t 17) (S (R [E1 4 (m (v (I W (-1))))]) .ret) .skip)) (S (R [Y 18 1 2,L 19 18,M 20 1,E1 21 (a .add (t 19) (t 20)),M 4 21]) .ret)))⟩:=by kernel_rfl

theorem tr30:trF Tryz.prog pures Tryz.f30=some
 ⟨12,[(.t 2)],(S (R [E1 2 (m (v (I W 0)))]) (S (S (R [M 3 0,E1 4 (h .lss (t 3) (v (I W 0))),M 5 4,E3 6 0 5 F,E2 7 (h .geq (t 6) (v (I W 4))) 5 F,E1 8 (k (t 5) (v (.bool true)) (t 7))]) (C (t 8) (S (R [E1 2 (m (v (I W 0)))]) .ret) .skip)) (S (R [M 9 0,E1 10 (.cv .u64 (t 9)),E1 11 (.sh .shr (v (I W 16)) (t 10)),M 2 11]) .ret)))⟩:=by kernel_rfl

theorem tr34:trF Tryz.prog pures Tryz.f34=some
 ⟨31,[(.t 2)],(S (R [E1 1 (.box 23 (t 0)),E1 2 (m (v (.bool false)))]) (S (R [Y 3 0 1,L 4 3,E1 5 (h .geq (t 4) (v (I W 1))),M 6 5,E2 7 (f 0 (t 1)) 6 G,E7 8 7 6 G,E2 9 (h .leq (t 8) (v (I W 64))) 6 G,E1 10 (k (t 6) (t 9) (v (.bool false))),M 11 10,E2 12 (f 1 (t 1)) 11 G,E7 13 12 11 G,E2 14 (h .geq (t 13) (v (I W 1))) 11 G,E1 15 (k (t 11) (t 14) (v (.bool false))),M 16 15,E2 17 (f 1 (t 1)) 16 G,E7 18 17 16 G,E2 19 (h .leq (t 18) (v (I W 12))) 16 G,E1 20 (k (t 16) (t 19) (v (.bool false))),M 21 20,E2 22 (f 2 (t 1)) 21 G,E7 23 22 21 G,E2 24 (h .geq (t 23) (v (I W 0))) 21 G,E1 25 (k (t 21) (t 24) (v (.bool false))),M 26 25,E2 27 (f 2 (t 1)) 26 G,E7 28 27 26 G,E2 29 (h .leq (t 28) (v (I W 8))) 26 G,E1 30 (k (t 26) (t 29) (v (.bool false))),M 2 30]) .ret))⟩:=by kernel_rfl

theorem tr40:trF Tryz.prog pures Tryz.f40=some
 ⟨17,[(.t 4)],(S (R [E1 2 (.box 23 (t 0)),E1 4 (m (v (I W 0)))]) (S (S (R [E6 5 3 2,E1 6 (p 53 [t 5]),E8 7 6,M 8 7,E3 9 1 8 F,E2 10 (f 1 (t 2)) 8 F,E7 11 10 8 F,E2 12 (a .sub (t 11) (v (I W 1))) 8 F,E2 13 (p 81 [t 9,(v (I W 0)),t 12]) 8 F,E2 14 (.nt (t 13)) 8 F,E1 15 (k (t 8) (v (.bool true)) (t 14))]) (C (t 15) (S (R [E1 4 (m (v (I W (-1))))]) .ret) .skip)) (S (R [M 16 1,M 4 16]) .ret)))⟩:=by kernel_rfl

theorem tr52:trF Tryz.prog pures Tryz.f52=some
 ⟨10,[(.t 2)],(S (R [E1 2 (m (v (.slice none 0 0)))]) (S (S (R [M 3 0,E1 4 (.pnil false (t 3))]) (C (t 4) (S (R [E1 2 (m (v (.slice none 0 0)))]) .ret) .skip)) (S (R [M 5 0,Q 6 5,Y 7 0 6,L 8 7,E1 9 (c 95 [t 8]),M 2 9]) .ret)))⟩:=by kernel_rfl

theorem tr53:trF Tryz.prog pures Tryz.f53=some
 ⟨16,[(.t 2)],(S (R [E1 1 (.box 23 (t 0)),E1 2 (m (v (.bool false)))]) (S (R [Y 3 0 1,L 4 3,E1 5 (p 81 [t 4,(v (I W 1)),(v (I W 64))]),M 6 5,E2 7 (f 1 (t 1)) 6 G,E7 8 7 6 G,E2 9 (p 81 [t 8,(v (I W 1)),(v (I W 12))]) 6 G,E1 10 (k (t 6) (t 9) (v (.bool false))),M 11 10,E2 12 (f 2 (t 1)) 11 G,E7 13 12 11 G,E2 14 (p 81 [t 13,(v (I W 0)),(v (I W 8))]) 11 G,E1 15 (k (t 11) (t 14) (v (.bool false))),M 2 15]) .ret))⟩:=by kernel_rfl

theorem tr60:trF Tryz.prog pures Tryz.f60=some
 ⟨8,[(.t 2)],(S (R [E1 2 (m (v (.slice none 0 0)))]) (S (S (R [M 3 0,E1 4 (.snil false (t 3))]) (C (t 4) (S (R [E1 2 (m (v (.slice none 0 0)))]) .ret) .skip)) (S (R [E1 5 (.bsl0 58 0),M 6 0,E1 7 (.app 58 8 64 #[(I W 0),(I W 0),(I W 0),(I W 0),(I W 0),(I W 0),(I W 0),(I W 0)] (t 5) (t 6)),M 2 7]) .ret)))⟩:=by kernel_rfl

theorem tr64:trF Tryz.prog pures Tryz.f64=some
 ⟨14,[(.t 2)],(S (R [E1 1 (.box 23 (t 0)),E1 2 (m (v (I W 0)))]) (S (S (R [E6 3 3 1,E1 4 (p 53 [t 3]),E8 5 4]) (C (t 5) (S (R [E1 2 (m (v (I W 0)))]) .ret) .skip)) (S (R [Y 6 0 1,L 7 6,E1 8 (a .mul (v (I W 110)) (t 7)),Y 9 2 1,L 10 9,E1 11 (a .mul (v (I W 4)) (t 10)),E1 12 (a .add (t 8) (t 11)),E1 13 (a .add (t 12) (v (I W 60))),M 2 13]) .ret)))⟩:=by kernel_rfl

theorem tr67:trF Tryz.prog pures Tryz.f67=some
 ⟨34,[(.t 2)],(S (R [E1 1 (.box 63 (t 0)),E1 2 (m (v (.int .u64 0)))]) (S (S (R [Y 3 0 1,L 4 3,E1 5 (p 97 [t 4]),E8 6 5,M 7 6,E2 8 (f 1 (t 1)) 7 F,E7 9 8 7 F,E2 10 (p 97 [t 9]) 7 F,E2 11 (.nt (t 10)) 7 F,E1 12 (k (t 7) (v (.bool true)) (t 11)),M 13 12,E2 14 (f 2 (t 1)) 13 F,E7 15 14 13 F,E2 16 (p 97 [t 15]) 13 F,E2 17 (.nt (t 16)) 13 F,E1 18 (k (t 13) (v (.bool true)) (t 17))]) (C (t 18) (S (R [E1 2 (m (v (.int .u64 0)))]) .ret) .skip)) (S (R [Y 19 0 1,L 20 19,E1 21 (.cv .u64 (t 20)),E1 22 (.sh .shl (t 21) (v (.int .u64 4))),E1 23 (.bt .or (v (.int .u64 1)) (t 22)),Y 24 1 1,L 25 24,E1 26 (.cv .u64 (t 25)),E1 27 (.sh .shl (t 26) (v (.int .u64 12))),E1 28 (.bt .or (t 23) (t 27)),Y 29 2 1,L 30 29,E1 31 (.cv .u64 (t 30)),E1 32 (.sh .shl (t 31) (v (.int .u64 20))),E1 33 (.bt .or (t 28) (t 32)),M 2 33]) .ret)))⟩:=by kernel_rfl

theorem tr68:trF Tryz.prog pures Tryz.f68=some
 ⟨19,[(.t 4)],(S (R [E1 2 (.box 23 (t 0)),E1 4 (m (v (I W 0)))]) (S (S (R [E6 5 3 2,E1 6 (p 34 [t 5]),E8 7 6,M 8 7,E3 9 1 8 F,E2 10 (h .lss (t 9) (v (I W 0))) 8 F,E1 11 (k (t 8) (v (.bool true)) (t 10)),M 12 11,E3 13 1 12 F,E2 14 (f 1 (t 2)) 12 F,E7 15 14 12 F,E2 16 (h .geq (t 13) (t 15)) 12 F,E1 17 (k (t 12) (v (.bool true)) (t 16))]) (C (t 17) (S (R [E1 4 (m (v (I W (-1))))]) .ret) .skip)) (S (R [M 18 1,M 4 18]) .ret)))⟩:=by kernel_rfl

theorem tr69:trF Tryz.prog pures Tryz.f69=some
 ⟨56,[(.t 2)],(S (R [E1 1 (.box 69 (t 0)),E1 2 (m (v (.int .u64 0)))]) (S (S (R [Y 3 0 1,L 4 3,E1 5 (h .lss (t 4) (v (I W 0))),M 6 5,E2 7 (f 0 (t 1)) 6 F,E7 8 7 6 F,E2 9 (h .gtr (t 8) (v (I W 4))) 6 F,E1 10 (k (t 6) (v (.bool true)) (t 9)),M 11 10,E2 12 (f 1 (t 1)) 11 F,E7 13 12 11 F,E2 14 (p 97 [t 13]) 11 F,E2 15 (.nt (t 14)) 11 F,E1 16 (k (t 11) (v (.bool true)) (t 15)),M 17 16,E2 18 (f 2 (t 1)) 17 F,E7 19 18 17 F,E2 20 (p 97 [t 19]) 17 F,E2 21 (.nt (t 20)) 17 F,E1 22 (k (t 17) (v (.bool true)) (t 21)),M 23 22,E2 24 (f 0 (t 1)) 23 F,E7 25 24 23 F,E2 26 (h .neq (t 25) (v (I W 2))) 23 F,E3 27 26 23 F,E2 28 (f 2 (t 1)) 27 G,E7 29 28 27 G,E2 30 (h .neq (t 29) (v (I W 0))) 27 G,E2 31 (k (t 27) (t 30) (v (.bool false))) 23 F,E1 32 (k (t 23) (v (.bool true)) (t 31)),M 33 32,E2 34 (f 0 (t 1)) 33 F,E7 35 34 33 F,E2 36 (h .eql (t 35) (v (I W 0))) 33 F,E3 37 36 33 F,E2 38 (f 1 (t 1)) 37 G,E7 39 38 37 G,E2 40 (h .neq (t 39) (v (I W 0))) 37 G,E2 41 (k (t 37) (t 40) (v (.bool false))) 33 F,E1 42 (k (t 33) (v (.bool true)) (t 41))]) (C (t 42) (S (R [E1 2 (m (v (.int .u64 0)))]) .ret) .skip)) (S (R [Y 43 0 1,L 44 43,E1 45 (.cv .u64 (t 44)),Y 46 1 1,L 47 46,E1 48 (.cv .u64 (t 47)),E1 49 (.sh .shl (t 48) (v (.int .u64 4))),E1 50 (.bt .or (t 45) (t 49)),Y 51 2 1,L 52 51,E1 53 (.cv .u64 (t 52)),E1 54 (.sh .shl (t 53) (v (.int .u64 12))),E1 55 (.bt .or (t 50) (t 54)),M 2 55]) .ret)))⟩:=by kernel_rfl

theorem tr70:trF Tryz.prog pures Tryz.f70=some
 ⟨8,[(.t 2)],(S (R [E1 2 (m (v (I W 0)))]) (S (S (R [M 3 0,E1 4 (p 81 [t 3,(v (I W 0)),(v (I W 3))]),E8 5 4]) (C (t 5) (S (R [E1 2 (m (v (I W 0)))]) .ret) .skip)) (S (R [M 6 0,E1 7 (.sh .shr (v (I W 16)) (t 6)),M 2 7]) .ret)))⟩:=by kernel_rfl

theorem tr72:trF Tryz.prog pures Tryz.f72=some
 ⟨14,[(.t 6)],(S (R [E1 6 (m (v (I W 0)))]) (S (R [M 7 0,E1 8 (.sh .shl (t 7) (v (.int .u64 6))),M 9 1,M 10 2,E1 11 (p 73 [t 10]),E1 12 (a .mul (t 9) (t 11)),E1 13 (a .add (t 8) (t 12)),M 6 13]) .ret))⟩:=by kernel_rfl

theorem tr73:trF Tryz.prog pures Tryz.f73=some
 ⟨8,[(.t 2)],(S (R [E1 2 (m (v (I W 0)))]) (S (S (R [M 3 0,E1 4 (p 81 [t 3,(v (I W 0)),(v (I W 3))]),E8 5 4]) (C (t 5) (S (R [E1 2 (m (v (I W 0)))]) .ret) .skip)) (S (R [M 6 0,E1 7 (.sh .shl (v (I W 4)) (t 6)),M 2 7]) .ret)))⟩:=by kernel_rfl

theorem tr74:trF Tryz.prog pures Tryz.f74=some
 ⟨23,[(.t 4),(.t 5),(.t 6)],(S (R [E1 2 (.box 23 (t 0)),E1 4 (m (v (I W 0))),E1 5 (m (v (I W 0))),E1 6 (m (v (.bool false)))]) (S (S (R [E6 7 3 2,E1 8 (p 53 [t 7]),E8 9 8,M 10 9,E3 11 1 10 F,E2 12 (f 0 (t 2)) 10 F,E7 13 12 10 F,E2 14 (.sh .shl (t 13) (v (.int .u64 6))) 10 F,E2 15 (a .sub (t 14) (v (I W 1))) 10 F,E2 16 (p 81 [t 11,(v (I W 0)),t 15]) 10 F,E2 17 (.nt (t 16)) 10 F,E1 18 (k (t 10) (v (.bool true)) (t 17))]) (C (t 18) (S (R [E1 4 (m (v (I W 0))),E1 5 (m (v (I W 0))),E1 6 (m (v (.bool false)))]) .ret) .skip)) (S (R [M 19 1,E1 20 (.sh .shr (t 19) (v (.int .u64 6))),M 21 1,E1 22 (.bt .and (t 21) (v (I W 63))),M 4 20,M 5 22,E1 6 (m (v (.bool true)))]) .ret)))⟩:=by kernel_rfl

theorem tr75:trF Tryz.prog pures Tryz.f75=some
 ⟨17,[(.t 2),(.t 3)],(S (R [E1 2 (m (v (I W 0))),E1 3 (m (v (I W 0)))]) (S (R [M 6 0,E1 7 (p 102 [t 6]),M 8 0,E1 9 (p 103 [t 8,(v (I W 0))]),M 4 7,M 5 9]) (S (S (R [M 10 4,M 11 5,E1 12 (p 92 [t 10,t 11]),M 13 0,E1 14 (h .neq (t 12) (t 13))]) (C (t 14) (S (R [E1 2 (m (v (I W 0))),E1 3 (m (v (I W 0)))]) .ret) .skip)) (S (R [M 15 4,M 16 5,M 2 15,M 3 16]) .ret))))⟩:=by kernel_rfl

theorem tr76:trF Tryz.prog pures Tryz.f76=some
 ⟨16,[(.t 4)],(S (R [E1 4 (m (v (.int .u64 0)))]) (S (S (R [M 5 0,M 6 1,E1 7 (c 104 [t 5,t 6]),E8 8 7]) (C (t 8) (S (R [E1 4 (m (v (.int .u64 0)))]) .ret) .skip)) (S (R [M 9 0,Q 10 9,Y 11 0 10,L 12 11,M 13 1,E1 14 (.iad 1 (t 12) (t 13)),L 15 14,M 4 15]) .ret)))⟩:=by kernel_rfl

theorem tr77:trF Tryz.prog pures Tryz.f77=some
 ⟨13,[(.t 2)],(S (R [E1 2 (m (v (.pointer none)))]) (S (S (R [M 3 0,E1 4 (h .lss (t 3) (v (I W 0))),M 5 4,E3 6 0 5 F,E2 7 (h .gtr (t 6) (v (I W 2000))) 5 F,E1 8 (k (t 5) (v (.bool true)) (t 7))]) (C (t 8) (R [E1 0 (m (v (I W 0)))]) .skip)) (S (R [M 9 0,E1 10 (.mks 50 8 (.int .u64 0) (t 9) (t 9)),E1 11 (.bld #[(.slice none 0 0),(I W 0),(I W 0),(I W 0),(I W 0),(.int .u64 0),(.int .u64 0),(.bool false)] [(0,(1,(t 10)))]),E1 12 (.box 159 (t 11)),M 2 12]) .ret)))⟩:=by kernel_rfl

theorem tr78:trF Tryz.prog pures Tryz.f78=some
 ⟨21,[(.t 2)],(S (R [E1 1 (.box 23 (t 0)),E1 2 (m (v (I W 0)))]) (S (S (R [E6 3 3 1,E1 4 (p 53 [t 3]),E8 5 4]) (C (t 5) (S (R [E1 2 (m (v (I W 0)))]) .ret) .skip)) (S (R [Y 6 1 1,L 7 6,Y 8 0 1,L 9 8,E1 10 (a .add (t 7) (t 9)),Y 11 0 1,L 12 11,E1 13 (a .mul (t 12) (v (I W 16))),E1 14 (a .add (t 10) (t 13)),Y 15 1 1,L 16 15,Y 17 2 1,L 18 17,E1 19 (a .mul (t 16) (t 18)),E1 20 (a .add (t 14) (t 19)),M 2 20]) .ret)))⟩:=by kernel_rfl

theorem tr79:trF Tryz.prog pures Tryz.f79=some
 ⟨13,[(.t 2)],(S (R [E1 2 (m (v (.pointer none)))]) (S (S (R [M 3 0,E1 4 (h .lss (t 3) (v (I W 0))),M 5 4,E3 6 0 5 F,E2 7 (h .gtr (t 6) (v (I W 2000))) 5 F,E1 8 (k (t 5) (v (.bool true)) (t 7))]) (C (t 8) (R [E1 0 (m (v (I W 0)))]) .skip)) (S (R [M 9 0,E1 10 (.mks 50 8 (.int .u64 0) (t 9) (t 9)),E1 11 (.bld #[(.slice none 0 0),(I W 0),(I W 0),(I W 0),(I W 0),(.int .u64 0),(.int .u64 0),(.bool false),(.slice none 0 0)] [(0,(1,(t 10)))]),E1 12 (.box 166 (t 11)),M 2 12]) .ret)))⟩:=by kernel_rfl

theorem tr80:trF Tryz.prog pures Tryz.f80=some
 ⟨21,[(.t 2)],(S (R [E1 1 (.box 23 (t 0)),E1 2 (m (v (I W 0)))]) (S (S (R [E6 3 3 1,E1 4 (p 34 [t 3]),E8 5 4]) (C (t 5) (S (R [E1 2 (m (v (I W 0)))]) .ret) .skip)) (S (R [Y 6 1 1,L 7 6,Y 8 0 1,L 9 8,E1 10 (a .add (t 7) (t 9)),Y 11 0 1,L 12 11,E1 13 (a .mul (v (I W 16)) (t 12)),E1 14 (a .add (t 10) (t 13)),Y 15 1 1,L 16 15,Y 17 2 1,L 18 17,E1 19 (a .mul (t 16) (t 18)),E1 20 (a .add (t 14) (t 19)),M 2 20]) .ret)))⟩:=by kernel_rfl

theorem tr81:trF Tryz.prog pures Tryz.f81=some
 ⟨15,[(.t 6)],(S (R [E1 6 (m (v (.bool false)))]) (S (R [M 7 0,M 8 1,E1 9 (h .geq (t 7) (t 8)),M 10 9,E3 11 0 10 G,E3 12 2 10 G,E2 13 (h .leq (t 11) (t 12)) 10 G,E1 14 (k (t 10) (t 13) (v (.bool false))),M 6 14]) .ret))⟩:=by kernel_rfl

theorem tr83:trF Tryz.prog pures Tryz.f83=some
 ⟨9,[(.t 2)],(S (R [E1 2 (m (v (I W 0)))]) (S (S (R [M 3 0,E1 4 (.pnil false (t 3))]) (C (t 4) (S (R [E1 2 (m (v (I W 0)))]) .ret) .skip)) (S (R [M 5 0,Q 6 5,Y 7 1 6,L 8 7,M 2 8]) .ret)))⟩:=by kernel_rfl

theorem tr85:trF Tryz.prog pures Tryz.f85=some
 ⟨10,[(.cn 2 6)],(S (R [E1 2 (.alc 52 (.agg #[(I W 0),(I W 0),(I W 0),(.int .u64 0),(.int .u64 0),(.bool false)]))]) (S (S (R [M 3 0,E1 4 (.pnil false (t 3))]) (C (t 4) (S (R [E1 5 (.bld #[(I W 0),(I W 0),(I W 0),(.int .u64 0),(.int .u64 0),(.bool false)] []),⟨n,.stn 6 (t 2) (t 5),n⟩]) .ret) .skip)) (S (R [M 6 0,Q 7 6,Y 8 2 7,E6 9 6 8,⟨n,.stn 6 (t 2) (t 9),n⟩]) .ret)))⟩:=by kernel_rfl

theorem tr88:trF Tryz.prog pures Tryz.f88=some
 ⟨95,[(.t 6),(.t 7)],(S (R [E1 3 (.box 23 (t 0)),E1 5 (.box 34 (t 2)),E1 6 (m (v (I W 0))),E1 7 (m (v (.bool false)))]) (S (R [Y 19 2 5,L 20 19,E1 21 (p 112 [t 20]),M 18 21,E4 22 0 18,E4 23 1 18,M 8 22,M 9 23]) (S (R [E6 25 3 3,Y 26 1 5,L 27 26,E1 28 (p 74 [t 25,t 27]),M 24 28,E4 29 0 24,E4 30 1 24,E4 31 2 24,M 10 29,M 11 30,M 12 31]) (S (R [Y 32 0 5,L 33 32,E1 34 (h .eql (t 33) (v (I W 1))),M 35 34,E2 36 (f 0 (t 5)) 35 F,E7 37 36 35 F,E2 38 (h .eql (t 37) (v (I W 3))) 35 F,E1 39 (k (t 35) (v (.bool true)) (t 38)),M 13 39]) (S (R [Y 40 0 5,L 41 40,E1 42 (h .eql (t 41) (v (I W 2))),M 43 42,E2 44 (f 0 (t 5)) 43 F,E7 45 44 43 F,E2 46 (h .eql (t 45) (v (I W 3))) 43 F,E1 47 (k (t 43) (v (.bool true)) (t 46)),M 14 47]) (S (R [Y 48 0 5,L 49 48,E1 50 (h .eql (t 49) (v (I W 4))),M 51 50,E2 52 (e 3 (t 3)) 51 G,E2 53 (f 1 (t 5)) 51 G,E7 54 53 51 G,E2 55 (p 40 [t 52,t 54]) 51 G,E2 56 (h .lss (t 55) (v (I W 0))) 51 G,E3 57 56 51 G,E2 58 (f 1 (t 5)) 57 F,E7 59 58 57 F,E3 60 1 57 F,E2 61 (h .eql (t 59) (t 60)) 57 F,E2 62 (k (t 57) (v (.bool true)) (t 61)) 51 G,E1 63 (k (t 51) (t 62) (v (.bool false))),M 15 63]) (S (S (R [M 64 15,M 65 64,E3 66 13 65 F,E3 67 66 65 F,E3 68 9 67 G,E2 69 (.nt (t 68)) 67 G,E2 70 (k (t 67) (t 69) (v (.bool false))) 65 F,E1 71 (k (t 65) (v (.bool true)) (t 70)),M 72 71,E3 73 14 72 F,E3 74 73 72 F,E3 75 12 74 G,E2 76 (.nt (t 75)) 74 G,E2 77 (k (t 74) (t 76) (v (.bool false))) 72 F,E1 78 (k (t 72) (v (.bool true)) (t 77))]) (C (t 78) (S (R [E1 6 (m (v (I W 1))),E1 7 (m (v (.bool true)))]) .ret) .skip)) (S (S (R [Y 80 2 5,L 81 80,E1 82 (p 113 [t 81]),M 79 82,E4 83 0 79,E4 84 1 79,M 16 83,M 17 84]) (S (R [M 85 13,M 86 85,E3 87 17 86 G,E1 88 (k (t 86) (t 87) (v (.bool false))),M 89 88,E3 90 16 89 G,E2 91 (f 0 (t 3)) 89 G,E7 92 91 89 G,E2 93 (h .gtr (t 90) (t 92)) 89 G,E1 94 (k (t 89) (t 93) (v (.bool false)))]) (C (t 94) (S (R [E1 6 (m (v (I W 3))),E1 7 (m (v (.bool true)))]) .ret) .skip))) (S (R [E1 6 (m (v (I W 0))),E1 7 (m (v (.bool false)))]) .ret)))))))))⟩:=by kernel_rfl

theorem tr91:trF Tryz.prog pures Tryz.f91=some
 ⟨18,[(.t 6)],(S (R [E1 6 (m (v (.bool false)))]) (S (S (R [M 7 0,M 8 1,E1 9 (c 104 [t 7,t 8]),E8 10 9]) (C (t 10) (S (R [E1 6 (m (v (.bool false)))]) .ret) .skip)) (S (R [M 11 0,Q 12 11,Y 13 0 12,L 14 13,M 15 1,M 16 2,E1 17 (.iad 1 (t 14) (t 15)),E5 17 16]) (S (R [E1 6 (m (v (.bool true)))]) .ret))))⟩:=by kernel_rfl

theorem tr92:trF Tryz.prog pures Tryz.f92=some
 ⟨23,[(.t 4)],(S (R [E1 4 (m (v (.int .u64 0)))]) (S (S (R [M 5 0,E1 6 (h .lss (t 5) (v (I W 0))),M 7 6,E3 8 0 7 F,E2 9 (h .gtr (t 8) (v (I W 4))) 7 F,E1 10 (k (t 7) (v (.bool true)) (t 9)),M 11 10,E3 12 0 11 F,E2 13 (h .neq (t 12) (v (I W 3))) 11 F,E3 14 13 11 F,E3 15 1 14 G,E2 16 (h .neq (t 15) (v (I W 0))) 14 G,E2 17 (k (t 14) (t 16) (v (.bool false))) 11 F,E1 18 (k (t 11) (v (.bool true)) (t 17))]) (C (t 18) (S (R [E1 4 (m (v (.int .u64 0)))]) .ret) .skip)) (S (R [M 19 0,M 20 1,E1 21 (.bsl 3 #[(I W 0)] 1 1 [(0,(t 20))]),E1 22 (c 119 [t 19,t 21]),M 4 22]) .ret)))⟩:=by kernel_rfl

theorem tr93:trF Tryz.prog pures Tryz.f93=some
 ⟨35,[(.cn 6 3),(.t 7)],(S (R [E1 3 (.box 23 (t 0)),E1 6 (.alc 107 (.agg #[(I W 0),(I W 0),(I W 0)])),E1 7 (m (v (.bool false)))]) (S (R [M 9 2,E1 10 (p 102 [t 9]),M 11 2,E1 12 (p 103 [t 11,(v (I W 0))]),M 13 2,E1 14 (p 103 [t 13,(v (I W 1))]),E1 15 (.bld #[(I W 0),(I W 0),(I W 0)] [(0,(1,(t 10))),(1,(1,(t 12))),(2,(1,(t 14)))]),E1 8 (.alc 107 (.agg #[(I W 0),(I W 0),(I W 0)])),⟨n,.stn 3 (t 8) (t 15),n⟩]) (S (S (R [E6 16 3 8,E1 17 (p 120 [t 16]),M 18 2,E1 19 (h .neq (t 17) (t 18)),M 20 19,E2 21 (e 3 (t 3)) 20 F,E3 22 1 20 F,E2 23 (p 94 [t 21,t 22]) 20 F,E2 24 (h .lss (t 23) (v (I W 0))) 20 F,E1 25 (k (t 20) (v (.bool true)) (t 24)),M 26 25,E2 27 (e 3 (t 3)) 26 F,E3 28 1 26 F,E2 29 (e 3 (t 8)) 26 F,E2 30 (p 121 [t 27,t 28,t 29]) 26 F,E2 31 (.nt (t 30)) 26 F,E1 32 (k (t 26) (v (.bool true)) (t 31))]) (C (t 32) (S (R [E1 33 (.bld #[(I W 0),(I W 0),(I W 0)] []),⟨n,.stn 3 (t 6) (t 33),n⟩,E1 7 (m (v (.bool false)))]) .ret) .skip)) (S (R [E6 34 3 8,⟨n,.stn 3 (t 6) (t 34),n⟩,E1 7 (m (v (.bool true)))]) .ret))))⟩:=by kernel_rfl

theorem tr94:trF Tryz.prog pures Tryz.f94=some
 ⟨20,[(.t 4)],(S (R [E1 2 (.box 23 (t 0)),E1 4 (m (v (I W 0)))]) (S (S (R [E6 5 3 2,E1 6 (p 53 [t 5]),E8 7 6,M 8 7,E3 9 1 8 F,E2 10 (f 0 (t 2)) 8 F,E7 11 10 8 F,E2 12 (a .sub (t 11) (v (I W 1))) 8 F,E2 13 (p 81 [t 9,(v (I W 0)),t 12]) 8 F,E2 14 (.nt (t 13)) 8 F,E1 15 (k (t 8) (v (.bool true)) (t 14))]) (C (t 15) (S (R [E1 4 (m (v (I W (-1))))]) .ret) .skip)) (S (R [Y 16 1 2,L 17 16,M 18 1,E1 19 (a .add (t 17) (t 18)),M 4 19]) .ret)))⟩:=by kernel_rfl

theorem tr95:trF Tryz.prog pures Tryz.f95=some
 ⟨8,[(.t 2)],(S (R [E1 2 (m (v (.slice none 0 0)))]) (S (S (R [M 3 0,E1 4 (.snil false (t 3))]) (C (t 4) (S (R [E1 2 (m (v (.slice none 0 0)))]) .ret) .skip)) (S (R [E1 5 (.bsl0 50 0),M 6 0,E1 7 (.app 50 1 8 #[(.int .u64 0)] (t 5) (t 6)),M 2 7]) .ret)))⟩:=by kernel_rfl

theorem tr97:trF Tryz.prog pures Tryz.f97=some
 ⟨9,[(.t 2)],(S (R [E1 2 (m (v (.bool false)))]) (S (R [M 3 0,E1 4 (h .geq (t 3) (v (I W 0))),M 5 4,E3 6 0 5 G,E2 7 (h .leq (t 6) (v (I W 255))) 5 G,E1 8 (k (t 5) (t 7) (v (.bool false))),M 2 8]) .ret))⟩:=by kernel_rfl

end Go.Proofs.YtkjpgikjcfhckaaGreat
