/-
  RenewTwo, walked: two renew the only block, whatever their turns. Conditions: none.
-/
import Derived.Test.YtjmlapagmbldoaaGreatRenew
import Derived.Test.YtjmlapagmbldoaaGreatRowV
import Derived.Test.YtjmlapagmbldoaaGreatSoundA
import Derived.Test.YtjmlapagmbldoaaGreatAlt
import Derived.Test.YtjmlapagmbldoaaGreatMaRenewT
open Nat renaming reduceAdd → xA, reduceMul → xB, reduceSub → xC, reduceEqDiff → xD, reduceBEq → xE, reduceLeDiff → xF, reduceLT → xG
open Int renaming reduceAdd → xH, reduceMul → xI, reduceSub → xJ, reduceLT → xK, reduceLE → xL, reduceToNat → xM, reduceEq → xN, reduceNe → xO, reduceBEq → xP, reduceBNe → xQ
set_option linter.unusedVariables false
set_option linter.unusedSimpArgs false
set_option maxRecDepth 8000
namespace Go.Ev
theorem Sep.toA {LA LB R : List Hp} {H : Hp} (h : Sep (LB ++ (LA ++ R)) H) : Sep (LA ++ (R ++ LB)) H := by have := h.perm List.perm_append_comm; rw [List.append_assoc] at this; exact this
theorem Sep.unA {LA LB R : List Hp} {H : Hp} (h : Sep (LA ++ (R ++ LB)) H) : Sep (LB ++ (LA ++ R)) H := by rw [← List.append_assoc] at h; exact h.perm List.perm_append_comm
theorem Sep.sw2 {LA LB R : List Hp} {H : Hp} (h : Sep (LB ++ (LA ++ R)) H) : Sep (LB ++ (R ++ LA)) H := h.perm (List.perm_append_comm.append_left LB)
theorem Sep.fr {X L Y : List Hp} {H : Hp} (h : Sep (X ++ (L ++ Y)) H) : Sep (L ++ (X ++ Y)) H := h.perm (List.perm_append_comm_assoc X L Y)
theorem Sep.rt1 {P Q wb wr : Hp} {LB LA T : List Hp} {H : Hp} (h : Sep (P :: Q :: (LB ++ (LA ++ (wb :: wr :: T)))) H) : Sep (wb :: wr :: P :: Q :: (LB ++ (LA ++ T))) H := by
  have h1 : Sep ((P :: Q :: (LB ++ LA)) ++ ([wb, wr] ++ T)) H := by
    show Sep (P :: Q :: ((LB ++ LA) ++ ([wb, wr] ++ T))) H
    rw [List.append_assoc]; exact h
  have h3 : Sep (wb :: wr :: P :: Q :: ((LB ++ LA) ++ T)) H := h1.fr
  rw [List.append_assoc] at h3; exact h3
end Go.Ev
namespace Go.Proofs.YtjmlapagmbldoaaGreat
open Go Go.Ev Go.Pl Go.Ma
theorem Cn_size (A : Int) : 0 ≤ size A := by
  unfold size; repeat' split
  all_goals omega
theorem rv_bk (v : Rv) : (v.bk.lg = true → v.bk.i = 0) ∧ (v.bk.lg = false → v.bk.n = 0) := by
  cases v with
  | no => exact ⟨fun _ => rfl, fun _ => rfl⟩
  | sk t => cases hf : t.fd <;> simp [Rv.bk, hf, Bk.zero]
  | rn t => cases hf : t.fd <;> simp [Rv.bk, hf, Bk.zero]
theorem re_bk {t : Re} {s : Sh} {c : Int} (hm : s.p ≤ 64) (h : t.bk.Fit s c) : (0 ≤ t.bk.p ∧ t.bk.p ≤ 64) ∧ (0 ≤ t.bk.i ∧ t.bk.i ≤ 64) ∧ (0 ≤ t.bk.n ∧ t.bk.n ≤ 64) ∧ (t.bk.p ≠ 0 → t.bk.ad ≠ 0) := by
  have p0 := h.p0
  have p1 := h.p1
  have hb : (t.bk.lg = true → t.bk.i = 0) ∧ (t.bk.lg = false → t.bk.n = 0) := by
    unfold Re.bk
    split
    · exact rv_bk t.rv
    · exact ⟨fun _ => rfl, fun _ => rfl⟩
  have sz := Cn_size t.bk.k
  cases hl : t.bk.lg
  · obtain ⟨i0, i1⟩ := h.s hl
    have sb := slots_bd t.bk.k
    have := hb.2 hl
    refine ⟨by omega, by omega, by omega, fun g => ?_⟩
    unfold Bk.ad; rw [if_neg (by rw [hl]; decide)]
    have h1 : 0 ≤ t.bk.i * size t.bk.k := Int.mul_nonneg i0 sz
    omega
  · obtain ⟨n1, n8, -⟩ := h.l hl
    have := hb.1 hl
    refine ⟨by omega, by omega, by omega, fun g => ?_⟩
    unfold Bk.ad; rw [if_pos hl]; omega
theorem tr3 : trF Tryz.prog pures Tryz.f3 = some
  ⟨211, [(.t 6)],
    (.seq (.reg [⟨(some 4), (.box 23 (.tmp 1)), none⟩, ⟨(some 6), (.mv (.const (.bool false))), none⟩])
    (.seq (.seq
    (.reg [⟨(some 22), (.call 4 []), none⟩, ⟨(some 23), (.nt (.tmp 22)), none⟩])
    (.cond (.tmp 23)
    (.seq (.reg [⟨(some 6), (.mv (.const (.bool false))), none⟩]) .ret) .skip))
    (.seq (.reg [⟨(some 24), (.mv (.tmp 0)), none⟩, ⟨(some 25), (.cv .i64 (.tmp 24)), none⟩, ⟨(some 26), (.dv .rem (.tmp 25) (.const (.int .i64 5))), none⟩, ⟨(some 27), (.ar .add (.const (.int .i64 2)) (.tmp 26)), none⟩, ⟨(some 7), (.mv (.tmp 27)), none⟩])
    (.seq (.reg [⟨(some 28), (.mv (.tmp 7)), none⟩, ⟨(some 29), (.bld #[(.int .i64 0), (.int .i64 0), (.int .i64 0)] [(0, (1, (.tmp 28))), (1, (1, (.const (.int .i64 2)))), (2, (1, (.const (.int .i64 1))))]), none⟩, ⟨(some 8), (.alc 27 (.agg #[(.int .i64 0), (.int .i64 0), (.int .i64 0)])), none⟩, ⟨none, (.stn 3 (.tmp 8) (.tmp 29)), none⟩])
    (.seq (.reg [⟨(some 30), (.ldn 3 (.tmp 8)), none⟩, ⟨(some 31), (.pcall 5 [(.tmp 30)]), none⟩, ⟨(some 32), (.mks 30 8 (.int .u64 0) (.tmp 31) (.tmp 31)), none⟩, ⟨(some 9), (.mv (.tmp 32)), none⟩])
    (.seq (.reg [⟨(some 33), (.mv (.tmp 9)), none⟩, ⟨(some 34), (.ldn 3 (.tmp 8)), none⟩, ⟨(some 35), (.pcall 7 [(.tmp 34), (.const (.int .i64 0))]), none⟩, ⟨(some 36), (.bld #[(.int .i64 0), (.int .i64 0), (.int .i64 0)] [(0, (1, (.const (.int .i64 3)))), (1, (1, (.const (.int .i64 1))))]), none⟩, ⟨(some 37), (.pcall 6 [(.tmp 36)]), none⟩, ⟨(some 38), (.iad 1 (.tmp 33) (.tmp 35)), none⟩, ⟨none, (.st1 (.tmp 38) (.tmp 37)), none⟩])
    (.seq (.reg [⟨(some 39), (.mv (.tmp 9)), none⟩, ⟨(some 40), (.call 8 [(.tmp 39)]), none⟩, ⟨(some 10), (.mv (.tmp 40)), none⟩])
    (.seq (.reg [⟨(some 41), (.iadA 2 1 (.tmp 4) (.const (.int .i64 0))), none⟩, ⟨(some 42), (.ld1 (.tmp 41)), none⟩, ⟨(some 43), (.cv .i64 (.tmp 42)), none⟩, ⟨(some 44), (.dv .rem (.tmp 43) (.const (.int .i64 512))), none⟩, ⟨(some 45), (.ar .add (.const (.int .i64 1)) (.tmp 44)), none⟩, ⟨(some 46), (.iadA 2 1 (.tmp 4) (.const (.int .i64 1))), none⟩, ⟨(some 47), (.ld1 (.tmp 46)), none⟩, ⟨(some 48), (.cv .i64 (.tmp 47)), none⟩, ⟨(some 49), (.dv .rem (.tmp 48) (.const (.int .i64 512))), none⟩, ⟨(some 50), (.ar .add (.const (.int .i64 1)) (.tmp 49)), none⟩, ⟨(some 11), (.mv (.tmp 45)), none⟩, ⟨(some 12), (.mv (.tmp 50)), none⟩])
    (.seq (.draw (.take ⟨(some 51), (.ldn 3 (.tmp 8)), none⟩ (.take ⟨(some 52), (.mv (.tmp 11)), none⟩ (.take ⟨(some 54), (.ldn 3 (.tmp 8)), none⟩ (.take ⟨(some 55), (.mv (.tmp 12)), none⟩ (.alt false ⟨(some 53), (.call 9 [(.tmp 51), (.const (.int .i64 0)), (.const (.int .i64 0)), (.tmp 52), (.const (.int .i64 0))]), none⟩ (.alt false ⟨(some 56), (.call 9 [(.tmp 54), (.const (.int .i64 1)), (.const (.int .i64 0)), (.tmp 55), (.const (.int .i64 1))]), none⟩ (.take ⟨(some 13), (.mv (.tmp 53)), none⟩ (.take ⟨(some 14), (.mv (.tmp 56)), none⟩ .done)) .stop) .stop))))))
    (.seq (.seq
    (.reg [⟨(some 57), (.mv (.tmp 2)), none⟩, ⟨(some 58), (.len (.tmp 57)), none⟩, ⟨(some 59), (.cmp .gtr (.tmp 58) (.const (.int .i64 2000))), none⟩])
    (.cond (.tmp 59)
    (.seq (.reg [⟨(some 6), (.mv (.const (.bool true))), none⟩]) .ret) .skip))
    (.seq (.seq
    (.reg [⟨(some 60), (.mv (.tmp 10)), none⟩, ⟨(some 61), (.pnil false (.tmp 60)), none⟩, ⟨(some 62), (.mv (.tmp 61)), none⟩, ⟨(some 63), (.mv (.tmp 13)), (some (62, false))⟩, ⟨(some 64), (.pnil false (.tmp 63)), (some (62, false))⟩, ⟨(some 65), (.pick (.tmp 62) (.const (.bool true)) (.tmp 64)), none⟩, ⟨(some 66), (.mv (.tmp 65)), none⟩, ⟨(some 67), (.mv (.tmp 14)), (some (66, false))⟩, ⟨(some 68), (.pnil false (.tmp 67)), (some (66, false))⟩, ⟨(some 69), (.pick (.tmp 66) (.const (.bool true)) (.tmp 68)), none⟩])
    (.cond (.tmp 69)
    (.seq (.reg [⟨(some 6), (.mv (.const (.bool false))), none⟩]) .ret) .skip))
    (.seq (.seq
    (.reg [⟨(some 15), (.mv (.const (.int .i64 0))), none⟩])
    (.block 0
    (.loop (.seq
    (.seq (.reg [⟨(some 70), (.mv (.tmp 15)), none⟩, ⟨(some 71), (.mv (.tmp 2)), none⟩, ⟨(some 72), (.len (.tmp 71)), none⟩, ⟨(some 73), (.cmp .lss (.tmp 70) (.tmp 72)), none⟩])
    (.cond (.tmp 73) .skip (.exit 0)))
    (.seq (.block 1
    (.seq (.reg [⟨(some 76), (.mv (.tmp 2)), none⟩, ⟨(some 77), (.mv (.tmp 15)), none⟩, ⟨(some 78), (.iad 1 (.tmp 76) (.tmp 77)), none⟩, ⟨(some 79), (.ld1 (.tmp 78)), none⟩])
    (.cond (.tmp 79)
    (.reg [⟨(some 80), (.mv (.tmp 14)), none⟩, ⟨(some 81), (.mv (.tmp 10)), none⟩, ⟨(some 82), (.call 10 [(.tmp 80), (.tmp 81)]), none⟩])
    (.reg [⟨(some 83), (.mv (.tmp 13)), none⟩, ⟨(some 84), (.mv (.tmp 10)), none⟩, ⟨(some 85), (.call 10 [(.tmp 83), (.tmp 84)]), none⟩]))))
    (.reg [⟨(some 74), (.mv (.tmp 15)), none⟩, ⟨(some 75), (.ar .add (.tmp 74) (.const (.int .i64 1))), none⟩, ⟨(some 15), (.mv (.tmp 75)), none⟩]))))))
    (.seq (.seq
    (.reg [⟨(some 16), (.mv (.const (.int .i64 0))), none⟩])
    (.block 2
    (.loop (.seq
    (.seq (.reg [⟨(some 86), (.mv (.tmp 16)), none⟩, ⟨(some 87), (.mv (.tmp 7)), none⟩, ⟨(some 88), (.ar .mul (.const (.int .i64 80)) (.tmp 87)), none⟩, ⟨(some 89), (.ar .add (.tmp 88) (.const (.int .i64 130))), none⟩, ⟨(some 90), (.cmp .lss (.tmp 86) (.tmp 89)), none⟩])
    (.cond (.tmp 90) .skip (.exit 2)))
    (.seq (.block 3
    (.seq (.reg [⟨(some 93), (.mv (.tmp 13)), none⟩, ⟨(some 94), (.mv (.tmp 10)), none⟩, ⟨(some 95), (.call 10 [(.tmp 93), (.tmp 94)]), none⟩])
    (.reg [⟨(some 96), (.mv (.tmp 14)), none⟩, ⟨(some 97), (.mv (.tmp 10)), none⟩, ⟨(some 98), (.call 10 [(.tmp 96), (.tmp 97)]), none⟩])))
    (.reg [⟨(some 91), (.mv (.tmp 16)), none⟩, ⟨(some 92), (.ar .add (.tmp 91) (.const (.int .i64 1))), none⟩, ⟨(some 16), (.mv (.tmp 92)), none⟩]))))))
    (.seq (.reg [⟨(some 100), (.mv (.tmp 13)), none⟩, ⟨(some 101), (.call 11 [(.tmp 100)]), none⟩, ⟨(some 99), (.mv (.tmp 101)), none⟩, ⟨(some 102), (.ext 0 (.tmp 99)), none⟩, ⟨(some 103), (.ext 1 (.tmp 99)), none⟩, ⟨(some 17), (.alc 41 (.agg #[(.bool false), (.int .i64 0), (.int .i64 0), (.int .i64 0), (.int .i64 0)])), none⟩, ⟨none, (.stn 5 (.tmp 17) (.tmp 102)), none⟩, ⟨(some 18), (.mv (.tmp 103)), none⟩])
    (.seq (.reg [⟨(some 105), (.mv (.tmp 14)), none⟩, ⟨(some 106), (.call 11 [(.tmp 105)]), none⟩, ⟨(some 104), (.mv (.tmp 106)), none⟩, ⟨(some 107), (.ext 0 (.tmp 104)), none⟩, ⟨(some 108), (.ext 1 (.tmp 104)), none⟩, ⟨(some 19), (.alc 41 (.agg #[(.bool false), (.int .i64 0), (.int .i64 0), (.int .i64 0), (.int .i64 0)])), none⟩, ⟨none, (.stn 5 (.tmp 19) (.tmp 107)), none⟩, ⟨(some 20), (.mv (.tmp 108)), none⟩])
    (.seq (.draw (.take ⟨(some 109), (.ldn 3 (.tmp 8)), none⟩ (.take ⟨(some 110), (.mv (.tmp 10)), none⟩ (.alt false ⟨(some 111), (.call 13 [(.tmp 110)]), none⟩ (.alt false ⟨(some 112), (.call 12 [(.tmp 109), (.tmp 111)]), none⟩ (.take ⟨(some 21), (.mv (.tmp 112)), none⟩ .done) .stop) .stop))))
    (.seq (.seq
    (.draw (.take ⟨(some 113), (.mv (.tmp 13)), none⟩ (.alt false ⟨(some 114), (.call 14 [(.tmp 113)]), none⟩ (.take ⟨(some 115), (.nt (.tmp 114)), none⟩ (.take ⟨(some 116), (.mv (.tmp 115)), none⟩ (.take ⟨(some 117), (.mv (.tmp 14)), (some (116, false))⟩ (.alt false ⟨(some 118), (.call 14 [(.tmp 117)]), (some (116, false))⟩ (.take ⟨(some 119), (.nt (.tmp 118)), (some (116, false))⟩ (.take ⟨(some 120), (.pick (.tmp 116) (.const (.bool true)) (.tmp 119)), none⟩ (.take ⟨(some 121), (.mv (.tmp 120)), none⟩ (.take ⟨(some 122), (.mv (.tmp 18)), (some (121, false))⟩ (.take ⟨(some 123), (.mv (.tmp 122)), (some (121, false))⟩ (.take ⟨(some 124), (.mv (.tmp 20)), (some (123, true))⟩ (.take ⟨(some 125), (.pick (.tmp 123) (.tmp 124) (.const (.bool false))), (some (121, false))⟩ (.take ⟨(some 126), (.pick (.tmp 121) (.const (.bool true)) (.tmp 125)), none⟩ (.take ⟨(some 127), (.mv (.tmp 126)), none⟩ (.take ⟨(some 128), (.mv (.tmp 21)), (some (127, false))⟩ (.take ⟨(some 129), (.len (.tmp 128)), (some (127, false))⟩ (.take ⟨(some 130), (.cmp .neq (.tmp 129) (.const (.int .i64 1))), (some (127, false))⟩ (.take ⟨(some 131), (.pick (.tmp 127) (.const (.bool true)) (.tmp 130)), none⟩ (.take ⟨(some 132), (.mv (.tmp 131)), none⟩ (.take ⟨(some 133), (.ldn 3 (.tmp 8)), (some (132, false))⟩ (.take ⟨(some 134), (.mv (.tmp 10)), (some (132, false))⟩ (.alt false ⟨(some 135), (.call 13 [(.tmp 134)]), (some (132, false))⟩ (.alt false ⟨(some 136), (.call 15 [(.tmp 133), (.tmp 135)]), (some (132, false))⟩ (.take ⟨(some 137), (.nt (.tmp 136)), (some (132, false))⟩ (.take ⟨(some 138), (.pick (.tmp 132) (.const (.bool true)) (.tmp 137)), none⟩ .done)) .stop) .stop))))))))))))))))) .stop)))) .stop)))
    (.cond (.tmp 138)
    (.seq (.reg [⟨(some 6), (.mv (.const (.bool false))), none⟩]) .ret) .skip))
    (.seq (.block 4
    (.seq (.reg [⟨(some 140), (.mv (.tmp 18)), none⟩, ⟨(some 139), (.mv (.tmp 140)), none⟩])
    (.cond (.tmp 139)
    (.seq (.draw (.take ⟨(some 141), (.mv (.tmp 21)), none⟩ (.take ⟨(some 142), (.iad 2 (.tmp 141) (.const (.int .i64 0))), none⟩ (.take ⟨(some 143), (.iadA 2 1 (.tmp 142) (.const (.int .i64 0))), none⟩ (.take ⟨(some 144), (.ld1 (.tmp 143)), none⟩ (.take ⟨(some 145), (.ldn 5 (.tmp 17)), none⟩ (.alt false ⟨(some 146), (.call 16 [(.tmp 145)]), none⟩ (.take ⟨(some 147), (.cmp .eql (.tmp 144) (.tmp 146)), none⟩ (.take ⟨(some 148), (.mv (.tmp 147)), none⟩ (.take ⟨(some 149), (.mv (.tmp 21)), (some (148, true))⟩ (.take ⟨(some 150), (.iad 2 (.tmp 149) (.const (.int .i64 0))), (some (148, true))⟩ (.take ⟨(some 151), (.iadA 2 1 (.tmp 150) (.const (.int .i64 1))), (some (148, true))⟩ (.take ⟨(some 152), (.ld1 (.tmp 151)), (some (148, true))⟩ (.take ⟨(some 153), (.ldn 5 (.tmp 17)), (some (148, true))⟩ (.alt false ⟨(some 154), (.call 17 [(.tmp 153)]), (some (148, true))⟩ (.take ⟨(some 155), (.cmp .eql (.tmp 152) (.tmp 154)), (some (148, true))⟩ (.take ⟨(some 156), (.pick (.tmp 148) (.tmp 155) (.const (.bool false))), none⟩ (.take ⟨(some 157), (.mv (.tmp 156)), none⟩ (.take ⟨(some 158), (.mv (.tmp 21)), (some (157, true))⟩ (.take ⟨(some 159), (.iad 2 (.tmp 158) (.const (.int .i64 0))), (some (157, true))⟩ (.take ⟨(some 160), (.iadA 2 1 (.tmp 159) (.const (.int .i64 0))), (some (157, true))⟩ (.take ⟨(some 161), (.ld1 (.tmp 160)), (some (157, true))⟩ (.take ⟨(some 162), (.cmp .neq (.tmp 161) (.const (.int .i64 0))), (some (157, true))⟩ (.take ⟨(some 163), (.pick (.tmp 157) (.tmp 162) (.const (.bool false))), none⟩ (.take ⟨(some 6), (.mv (.tmp 163)), none⟩ .done)))))))))) .stop)))))))) .stop))))))) .ret)
    (.seq (.reg [⟨(some 165), (.mv (.tmp 20)), none⟩, ⟨(some 164), (.mv (.tmp 165)), none⟩])
    (.cond (.tmp 164)
    (.seq (.draw (.take ⟨(some 166), (.mv (.tmp 21)), none⟩ (.take ⟨(some 167), (.iad 2 (.tmp 166) (.const (.int .i64 0))), none⟩ (.take ⟨(some 168), (.iadA 2 1 (.tmp 167) (.const (.int .i64 0))), none⟩ (.take ⟨(some 169), (.ld1 (.tmp 168)), none⟩ (.take ⟨(some 170), (.ldn 5 (.tmp 19)), none⟩ (.alt false ⟨(some 171), (.call 16 [(.tmp 170)]), none⟩ (.take ⟨(some 172), (.cmp .eql (.tmp 169) (.tmp 171)), none⟩ (.take ⟨(some 173), (.mv (.tmp 172)), none⟩ (.take ⟨(some 174), (.mv (.tmp 21)), (some (173, true))⟩ (.take ⟨(some 175), (.iad 2 (.tmp 174) (.const (.int .i64 0))), (some (173, true))⟩ (.take ⟨(some 176), (.iadA 2 1 (.tmp 175) (.const (.int .i64 1))), (some (173, true))⟩ (.take ⟨(some 177), (.ld1 (.tmp 176)), (some (173, true))⟩ (.take ⟨(some 178), (.ldn 5 (.tmp 19)), (some (173, true))⟩ (.alt false ⟨(some 179), (.call 17 [(.tmp 178)]), (some (173, true))⟩ (.take ⟨(some 180), (.cmp .eql (.tmp 177) (.tmp 179)), (some (173, true))⟩ (.take ⟨(some 181), (.pick (.tmp 173) (.tmp 180) (.const (.bool false))), none⟩ (.take ⟨(some 182), (.mv (.tmp 181)), none⟩ (.take ⟨(some 183), (.mv (.tmp 21)), (some (182, true))⟩ (.take ⟨(some 184), (.iad 2 (.tmp 183) (.const (.int .i64 0))), (some (182, true))⟩ (.take ⟨(some 185), (.iadA 2 1 (.tmp 184) (.const (.int .i64 0))), (some (182, true))⟩ (.take ⟨(some 186), (.ld1 (.tmp 185)), (some (182, true))⟩ (.take ⟨(some 187), (.cmp .neq (.tmp 186) (.const (.int .i64 0))), (some (182, true))⟩ (.take ⟨(some 188), (.pick (.tmp 182) (.tmp 187) (.const (.bool false))), none⟩ (.take ⟨(some 6), (.mv (.tmp 188)), none⟩ .done)))))))))) .stop)))))))) .stop))))))) .ret) .skip)))))
    (.seq (.reg [⟨(some 189), (.mv (.tmp 21)), none⟩, ⟨(some 190), (.iad 2 (.tmp 189) (.const (.int .i64 0))), none⟩, ⟨(some 191), (.iadA 2 1 (.tmp 190) (.const (.int .i64 0))), none⟩, ⟨(some 192), (.ld1 (.tmp 191)), none⟩, ⟨(some 193), (.cmp .eql (.tmp 192) (.const (.int .i64 0))), none⟩, ⟨(some 194), (.mv (.tmp 193)), none⟩, ⟨(some 195), (.mv (.tmp 21)), (some (194, true))⟩, ⟨(some 196), (.iad 2 (.tmp 195) (.const (.int .i64 0))), (some (194, true))⟩, ⟨(some 197), (.iadA 2 1 (.tmp 196) (.const (.int .i64 1))), (some (194, true))⟩, ⟨(some 198), (.ld1 (.tmp 197)), (some (194, true))⟩, ⟨(some 199), (.cmp .eql (.tmp 198) (.const (.int .i64 64))), (some (194, true))⟩, ⟨(some 200), (.pick (.tmp 194) (.tmp 199) (.const (.bool false))), none⟩, ⟨(some 201), (.mv (.tmp 200)), none⟩, ⟨(some 202), (.mv (.tmp 13)), (some (201, true))⟩, ⟨(some 203), (.call 18 [(.tmp 202)]), (some (201, true))⟩, ⟨(some 204), (.cmp .eql (.tmp 203) (.const (.int .i64 3))), (some (201, true))⟩, ⟨(some 205), (.pick (.tmp 201) (.tmp 204) (.const (.bool false))), none⟩, ⟨(some 206), (.mv (.tmp 205)), none⟩, ⟨(some 207), (.mv (.tmp 14)), (some (206, true))⟩, ⟨(some 208), (.call 18 [(.tmp 207)]), (some (206, true))⟩, ⟨(some 209), (.cmp .eql (.tmp 208) (.const (.int .i64 3))), (some (206, true))⟩, ⟨(some 210), (.pick (.tmp 206) (.tmp 209) (.const (.bool false))), none⟩, ⟨(some 6), (.mv (.tmp 210)), none⟩]) .ret)))))))))))))))))))⟩ := by kernel_rfl
section
variable {W : World} {H h : Hp} {l : List Hp} {n cap : Nat} {a : Option Addr} {B : Nat → Bool}
def rtI (m : Int) (n cap : Nat) (a : Option Addr) (x b ka kb s ra r2a ga rb r2b gb : Nat) (L : List Hp) (second : Bool) (F' : Fr) (H' : Hp) : Prop :=
  ∃ (i : Int) (A B : Re) (w : Wd) (na pa ma nb pb mb : Nat), 0 ≤ i ∧ (second = false → i ≤ (n : Int)) ∧ (second = true → i ≤ 80 * m + 130) ∧ gt F' (if second then 16 else 15) = .int .i64 i ∧
    (gt F' 2 = .slice a n cap ∧ gt F' 7 = .int .i64 m ∧ gt F' 8 = .pointer (some ⟨x, 0, none⟩) ∧ gt F' 10 = .pointer (some ⟨b, 0, none⟩) ∧ gt F' 13 = .pointer (some ⟨ka, 0, none⟩) ∧ gt F' 14 = .pointer (some ⟨kb, 0, none⟩)) ∧
    R2.Inv2 m A B w ∧ (A.left ≤ 80 * m + 130 ∧ B.left ≤ 80 * m + 130) ∧ (second = true → A.left ≤ max 0 (80 * m + 130 - i) ∧ B.left ≤ max 0 (80 * m + 130 - i)) ∧
    Sep (reL kb rb r2b nb gb pb mb B ++ (reL ka ra r2a na ga pa ma A ++ wB b s w :: wR s w :: L)) H'
theorem c_renewtwo {g0 u0 u1 : Int} (hg0 : 0 ≤ g0) (hg1 : g0 ≤ 255) (hu0 : 0 ≤ u0 ∧ u0 ≤ 65535) (hu1 : 0 ≤ u1 ∧ u1 ≤ 65535) (hr : RowV h a n (fun i => .bool (B i))) (hnn : n ≤ 9223372036854775807) (hS : Sep (h :: l) H) :
    CallP Tryz.prog W 3 #[.int .u8 g0, .agg #[.int .u16 u0, .int .u16 u1], .slice a n cap] H fun v H' => v = .bool true ∧ Sep (h :: l) H' := by
  refine CallP.of mixed Tryz.func3 tr3 (by show 3 ≤ _; decide) fun W _ => ?_
  simp only [↓DD, UU, ↓reduceIte, xA, xB, xC, xD, xE, xF, xG, xH, xI, xJ, xK, xL, xM, xN, xO, xP, xQ, ne_eq, eq_self]
  refine newB_intro fun z hz f1 f2 => ?_
  have hS := hS.new f1 (.cells #[.int .u16 u0, .int .u16 u1] 23 (0, 0))
  have hz1 := hS.look
  simp only [↓DD, UU, ↓reduceIte, xA, xB, xC, xD, xE, xF, xG, xH, xI, xJ, xK, xL, xM, xN, xO, xP, xQ, ne_eq, eq_self]
  refine callT_of (c_awake17 hS) ?_
  rintro v H' ⟨rfl, hS⟩
  have hz1 := hS.look
  have eg0 : w64 g0 = g0 := w64_eq (by omega) (by omega)
  have et0 : g0.tmod 5 = g0 % 5 := Int.tmod_eq_emod_of_nonneg hg0
  have wq : w64 (g0 % 5) = g0 % 5 := w64_eq (by omega) (by omega)
  have wm : w64 (2 + g0 % 5) = 2 + g0 % 5 := w64_eq (by omega) (by omega)
  obtain ⟨m, hm⟩ : ∃ m, 2 + g0 % 5 = m := ⟨_, rfl⟩
  have m2 : 2 ≤ m := by omega
  have m1 : 1 ≤ m := by omega
  have m6 : m ≤ 6 := by omega
  rw [hm] at wm
  simp only [wrap_w64, eg0, et0, wq, hm, wm, ↓DD, UU, ↓reduceIte, xA, xB, xC, xD, xE, xF, xG, xH, xI, xJ, xK, xL, xM, xN, xO, xP, xQ, ne_eq, eq_self]
  refine newB_intro fun x hx f3 f4 => ?_
  have nzx : (z = x) = False := f3 z (by rw [hz1]; rfl)
  have nxz : (x = z) = False := f4 z (by rw [hz1]; rfl)
  have hS := hS.new f3 (.cells #[.int .i64 0, .int .i64 0, .int .i64 0] 27 (0, 0))
  have hS := hS.set (.cells #[.int .i64 m, .int .i64 2, .int .i64 1] 27 (0, 0))
  rw [Ev.upd_upd] at hS
  have hx1 := hS.look
  have r1 := fun o n => rdn_of hx1 o n
  have hmay : may m 2 1 = true := R2.may_ok m1 m6
  obtain ⟨N, hN⟩ : ∃ N : Nat, words m 2 1 = (N : Int) := ⟨(words m 2 1).toNat, by have := words_le hmay; omega⟩
  have hN' : (N : Int) = 4 + 17 * m := by
    rw [← hN]; unfold words; rw [if_pos hmay]; omega
  have hN2 : N ≤ 2000 := by omega
  have n0 : (0 : Int) ≤ (N : Int) := by omega
  have n8 : 8 * (N : Int) ≤ 281474976710656 := by omega
  have n9 : (N : Int) ≤ 9223372036854775807 := by omega
  have nle : (N : Int) ≤ (N : Int) := Int.le_refl _
  have n2 : (2 : Int) < (N : Int) := by omega
  have hp0 : page m 2 1 0 = 2 := by rw [page_yes hmay (by decide) (by omega)]; rfl
  have hlv : putPg 3 1 0 = 19 := by decide
  simp only [Ev.upd_upd, hx1, r1, u_words, hN, n0, n8, n9, nle, Int.toNat_natCast, ↓DD, UU, ↓reduceIte, xA, xB, xC, xD, xE, xF, xG, xH, xI, xJ, xK, xL, xM, xN, xO, xP, xQ, ne_eq, eq_self]
  refine newB_intro fun y hy f5 f6 => ?_
  have nxy : (x = y) = False := f5 x (by rw [hx1]; rfl)
  have nyx : (y = x) = False := f6 x (by rw [hx1]; rfl)
  have hS := hS.new f5 (.cells (urow N R2.one) 30 (0, 0))
  have hone : (fun q => if q = 2 then 19 else 0 : Nat → Int) = R2.one := rfl
  simp only [urow_zero, urow_size, urow_set, Ev.upd_upd, hx1, r1, n2, nyx, nxy, u_page, hp0, u_putpg, hlv, hone, ↓DD, UU, ↓reduceIte, xA, xB, xC, xD, xE, xF, xG, xH, xI, xJ, xK, xL, xM, xN, xO, xP, xQ, ne_eq, eq_self]
  refine ⟨by omega, ?_⟩
  refine callT_of (c_fill (n := N) hN2 (RowU.own y N _ _ _) hS) ?_
  rintro v H' ⟨b, s, rfl, hS⟩
  have hw0 : (rowW N R2.one).ws = R2.one := by
    funext j
    show (if j < N then R2.one j else 0) = R2.one j
    by_cases g : j < N
    · rw [if_pos g]
    · rw [if_neg g]; unfold R2.one; rw [if_neg (by omega)]
  have hof : (rowW N R2.one).of (R2.sh m) := rowW_of (sh := R2.sh m) (by show (N : Int) = words m 2 1; rw [hN]) fun i _ => by
    unfold R2.one U; split <;> omega
  have hx1 := hS.lk 3 rfl
  have hz1 := hS.lk 4 rfl
  have r1 := fun o n => rdn_of hx1 o n
  have rz := fun o => rd_of hz1 o
  have e0 : w64 u0 = u0 := w64_eq (by omega) (by omega)
  have e1 : w64 u1 = u1 := w64_eq (by omega) (by omega)
  have t0 : u0.tmod 512 = u0 % 512 := Int.tmod_eq_emod_of_nonneg hu0.1
  have t1 : u1.tmod 512 = u1 % 512 := Int.tmod_eq_emod_of_nonneg hu1.1
  have a0 : w64 (u0 % 512) = u0 % 512 := w64_eq (by omega) (by omega)
  have a1 : w64 (u1 % 512) = u1 % 512 := w64_eq (by omega) (by omega)
  have b0 : w64 (1 + u0 % 512) = 1 + u0 % 512 := w64_eq (by omega) (by omega)
  have b1 : w64 (1 + u1 % 512) = 1 + u1 % 512 := w64_eq (by omega) (by omega)
  have i0 : (0 : Int) < ((2 : Nat) : Int) := by decide
  have i1 : (1 : Int) < ((2 : Nat) : Int) := by decide
  simp only [hx1, hz1, r1, rz, nxz, nzx, i0, i1, wrap_w64, e0, e1, t0, t1, a0, a1, b0, b1, ↓DD, UU, ↓reduceIte, xA, xB, xC, xD, xE, xF, xG, xH, xI, xJ, xK, xL, xM, xN, xO, xP, xQ, ne_eq, eq_self]
  refine draw_intro [(x, #[.int .i64 m, .int .i64 2, .int .i64 1], [])] (by simp only [hx1, ↓DD, UU, ↓reduceIte, xA, xB, xC, xD, xE, xF, xG, xH, xI, xJ, xK, xL, xM, xN, xO, xP, xQ, ne_eq, eq_self]) ?_
  simp only [hx1, r1, ↓DD, UU, ↓reduceIte, xA, xB, xC, xD, xE, xF, xG, xH, xI, xJ, xK, xL, xM, xN, xO, xP, xQ, ne_eq, eq_self]
  refine callT_of (c_renew (sh := R2.sh m) (c := 0) (a := 0) (n := 1 + u0 % 512) (f := 0) hS) ?_
  rintro v H' ⟨ka, ra, r2a, na, ga, pa, ma, rfl, hS⟩
  have hx1 := hS.offL.lk 3 rfl
  have r1 := fun o n => rdn_of hx1 o n
  simp only [hx1, r1, ↓DD, UU, ↓reduceIte, xA, xB, xC, xD, xE, xF, xG, xH, xI, xJ, xK, xL, xM, xN, xO, xP, xQ, ne_eq, eq_self]
  refine callT_of (c_renew (sh := R2.sh m) (c := 1) (a := 0) (n := 1 + u1 % 512) (f := 1) hS) ?_
  rintro v H' ⟨kb, rb, r2b, nb, gb, pb, mb, rfl, hS⟩
  have hx1 := hS.offL.offL.lk 3 rfl
  simp only [hx1, ↓DD, UU, ↓reduceIte, xA, xB, xC, xD, xE, xF, xG, xH, xI, xJ, xK, xL, xM, xN, xO, xP, xQ, ne_eq, eq_self]
  by_cases hbig : (2000 : Int) < (n : Int)
  · have d2 : decide ((2000 : Int) < (n : Int)) = true := decide_eq_true hbig
    simp only [d2, ↓DD, UU, ↓reduceIte, xA, xB, xC, xD, xE, xF, xG, xH, xI, xJ, xK, xL, xM, xN, xO, xP, xQ, ne_eq, eq_self]
    exact hS.offL.offL.tail.tail.tail.tail.tail
  have d2 : decide ((2000 : Int) < (n : Int)) = false := decide_eq_false hbig
  simp only [d2, ↓DD, UU, ↓reduceIte, xA, xB, xC, xD, xE, xF, xG, xH, xI, xJ, xK, xL, xM, xN, xO, xP, xQ, ne_eq, eq_self]
  have hfx : fine (1 + u0 % 512) = true := by
    unfold fine small large; simp only [Bool.or_eq_true, win_iff]; omega
  have hfy : fine (1 + u1 % 512) = true := by
    unfold fine small large; simp only [Bool.or_eq_true, win_iff]; omega
  have hI0 := R2.Inv2.init (m := m) m1 m6 hfx hfy hof hw0
  have hla := Re.new_left (R2.sh m) 0 0 (1 + u0 % 512) 0 hmay
  have hlb := Re.new_left (R2.sh m) 1 0 (1 + u1 % 512) 1 hmay
  have hla : (Re.new (R2.sh m) 0 0 (1 + u0 % 512) 0).left ≤ 2 * 1 + 70 * m + 80 := hla
  have hlb : (Re.new (R2.sh m) 1 0 (1 + u1 % 512) 1).left ≤ 2 * 1 + 70 * m + 80 := hlb
  refine loop_intro (rtI m n cap a x b ka kb s ra r2a ga rb r2b gb (sg y (.cells (urow N R2.one) 30 (0, 0)) :: sg x (.cells #[.int .i64 m, .int .i64 2, .int .i64 1] 27 (0, 0)) :: sg z (.cells #[.int .u16 u0, .int .u16 u1] 23 (0, 0)) :: h :: l) false) (fun F' _ => (n - iv (gt F' 15)).toNat)
    ⟨0, _, _, _, na, pa, ma, nb, pb, mb, Int.le_refl _, fun _ => by omega, fun g => (by cases g), by simp [gt], ⟨by simp [gt], by simp [gt], by simp [gt], by simp [gt], by simp [gt], by simp [gt]⟩, hI0, ⟨by omega, by omega⟩, fun g => (by cases g), hS⟩ ?_
  clear hS hI0 hx1 hz1 r1 rz hla hlb
  rintro F' H' ⟨i, A, B', w, na, pa, ma, nb, pb, mb, j0, j1, -, e15, ⟨e2, e7, e8, e10, e13, e14⟩, hI, ⟨hl1, hl2⟩, -, hS⟩
  have j1 := j1 rfl
  have e15 : gt F' 15 = .int .i64 i := e15
  have wi : w64 (i + 1) = i + 1 := w64_eq (by omega) (by omega)
  by_cases hlt : i < (n : Int)
  · have d1 : decide (i < (n : Int)) = true := decide_eq_true hlt
    obtain ⟨c1, o1, rfl, hrd⟩ := (hr.sub (hS.offL.offL.sb h (by simp))).at' (i := i.toNat) (by omega)
    have hrd : rd H' c1 (o1 + i.toNat) = some (.bool (B i.toNat)) := hrd
    cases hB : B i.toNat
    · rw [hB] at hrd
      simp only [e15, e2, e7, e8, e10, e13, e14, d1, j0, hlt, hrd, ↓DD, UU, ↓reduceIte, xA, xB, xC, xD, xE, xF, xG, xH, xI, xJ, xK, xL, xM, xN, xO, xP, xQ, ne_eq, eq_self]
      refine callT_of (c_restep hI.i.ia.wf (fun _ => by rw [hI.i.ia.es]; exact hI.i.of) hS.toA) ?_
      rintro v H' ⟨rfl, na2, pa2, ma2, hS⟩
      have hS := Sep.unA (R := wB b s _ :: wR s _ :: (sg y (.cells (urow N R2.one) 30 (0, 0)) :: sg x (.cells #[.int .i64 m, .int .i64 2, .int .i64 1] 27 (0, 0)) :: sg z (.cells #[.int .u16 u0, .int .u16 u1] 23 (0, 0)) :: h :: l)) hS
      have hl' : (A.step w).1.left ≤ 80 * m + 130 := by have := Re.left_step (m := 80 * m + 130) hI.i.ia.wf (by rw [hI.i.ia.es]; exact hI.i.of) (w := w) (by omega); omega
      have hI := hI.stepA m1 m6
      simp only [e15, e2, e7, e8, e10, e13, e14, wrap_w64, wi, ↓DD, UU, ↓reduceIte, xA, xB, xC, xD, xE, xF, xG, xH, xI, xJ, xK, xL, xM, xN, xO, xP, xQ, ne_eq, eq_self]
      exact ⟨⟨i + 1, _, _, _, na2, pa2, ma2, nb, pb, mb, by omega, fun _ => by omega, fun g => (by cases g), by simp [gt], ⟨by simp [gt, e2], by simp [gt, e7], by simp [gt, e8], by simp [gt, e10], by simp [gt, e13], by simp [gt, e14]⟩, hI, ⟨hl', hl2⟩, fun g => (by cases g), hS⟩, by simp [gt, iv, e15]; omega⟩
    · rw [hB] at hrd
      simp only [e15, e2, e7, e8, e10, e13, e14, d1, j0, hlt, hrd, ↓DD, UU, ↓reduceIte, xA, xB, xC, xD, xE, xF, xG, xH, xI, xJ, xK, xL, xM, xN, xO, xP, xQ, ne_eq, eq_self]
      refine callT_of (c_restep hI.i.ib.wf (fun _ => by rw [hI.i.ib.es]; exact hI.i.of) hS.sw2) ?_
      rintro v H' ⟨rfl, nb2, pb2, mb2, hS⟩
      have hS := Sep.sw2 (LA := wB b s _ :: wR s _ :: (sg y (.cells (urow N R2.one) 30 (0, 0)) :: sg x (.cells #[.int .i64 m, .int .i64 2, .int .i64 1] 27 (0, 0)) :: sg z (.cells #[.int .u16 u0, .int .u16 u1] 23 (0, 0)) :: h :: l)) hS
      have hl' : (B'.step w).1.left ≤ 80 * m + 130 := by have := Re.left_step (m := 80 * m + 130) hI.i.ib.wf (by rw [hI.i.ib.es]; exact hI.i.of) (w := w) (by omega); omega
      have hI := hI.stepB m1 m6
      simp only [e15, e2, e7, e8, e10, e13, e14, wrap_w64, wi, ↓DD, UU, ↓reduceIte, xA, xB, xC, xD, xE, xF, xG, xH, xI, xJ, xK, xL, xM, xN, xO, xP, xQ, ne_eq, eq_self]
      exact ⟨⟨i + 1, _, _, _, na, pa, ma, nb2, pb2, mb2, by omega, fun _ => by omega, fun g => (by cases g), by simp [gt], ⟨by simp [gt, e2], by simp [gt, e7], by simp [gt, e8], by simp [gt, e10], by simp [gt, e13], by simp [gt, e14]⟩, hI, ⟨hl1, hl'⟩, fun g => (by cases g), hS⟩, by simp [gt, iv, e15]; omega⟩
  have d1 : decide (i < (n : Int)) = false := decide_eq_false hlt
  have w8 : w64 (80 * m) = 80 * m := w64_eq (by omega) (by omega)
  have w9 : w64 (80 * m + 130) = 80 * m + 130 := w64_eq (by omega) (by omega)
  simp only [e15, e2, e7, e8, e10, e13, e14, d1, ↓DD, UU, ↓reduceIte, xA, xB, xC, xD, xE, xF, xG, xH, xI, xJ, xK, xL, xM, xN, xO, xP, xQ, ne_eq, eq_self]
  refine loop_intro (rtI m n cap a x b ka kb s ra r2a ga rb r2b gb (sg y (.cells (urow N R2.one) 30 (0, 0)) :: sg x (.cells #[.int .i64 m, .int .i64 2, .int .i64 1] 27 (0, 0)) :: sg z (.cells #[.int .u16 u0, .int .u16 u1] 23 (0, 0)) :: h :: l) true) (fun F' _ => (80 * m + 130 - iv (gt F' 16)).toNat)
    ⟨0, A, B', w, na, pa, ma, nb, pb, mb, Int.le_refl _, fun g => (by cases g), fun _ => by omega, by simp [gt], ⟨by simp [gt, e2], by simp [gt, e7], by simp [gt, e8], by simp [gt, e10], by simp [gt, e13], by simp [gt, e14]⟩, hI, ⟨hl1, hl2⟩, fun _ => ⟨by omega, by omega⟩, hS⟩ ?_
  clear hS hI hl1 hl2 e15 e2 e7 e8 e10 e13 e14 hlt d1 j0 j1 wi
  rintro F' H' ⟨i, A, B', w, na, pa, ma, nb, pb, mb, j0, -, j1, e16, ⟨e2, e7, e8, e10, e13, e14⟩, hI, ⟨hm1, hm2⟩, hl, hS⟩
  have j1 := j1 rfl
  obtain ⟨hl1, hl2⟩ := hl rfl
  have e16 : gt F' 16 = .int .i64 i := e16
  have wi : w64 (i + 1) = i + 1 := w64_eq (by omega) (by omega)
  by_cases hlt : i < 80 * m + 130
  · have d1 : decide (i < 80 * m + 130) = true := decide_eq_true hlt
    simp only [e16, e2, e7, e8, e10, e13, e14, wrap_w64, w8, w9, d1, ↓DD, UU, ↓reduceIte, xA, xB, xC, xD, xE, xF, xG, xH, xI, xJ, xK, xL, xM, xN, xO, xP, xQ, ne_eq, eq_self]
    refine callT_of (c_restep hI.i.ia.wf (fun _ => by rw [hI.i.ia.es]; exact hI.i.of) hS.toA) ?_
    rintro v H' ⟨rfl, na2, pa2, ma2, hS⟩
    have hS := Sep.unA (R := wB b s _ :: wR s _ :: (sg y (.cells (urow N R2.one) 30 (0, 0)) :: sg x (.cells #[.int .i64 m, .int .i64 2, .int .i64 1] 27 (0, 0)) :: sg z (.cells #[.int .u16 u0, .int .u16 u1] 23 (0, 0)) :: h :: l)) hS
    have hl1' := Re.left_step (m := 80 * m + 130 - i) hI.i.ia.wf (by rw [hI.i.ia.es]; exact hI.i.of) (w := w) hl1
    have hI := hI.stepA m1 m6
    simp only [e16, e2, e7, e8, e10, e13, e14, ↓DD, UU, ↓reduceIte, xA, xB, xC, xD, xE, xF, xG, xH, xI, xJ, xK, xL, xM, xN, xO, xP, xQ, ne_eq, eq_self]
    refine callT_of (c_restep hI.i.ib.wf (fun _ => by rw [hI.i.ib.es]; exact hI.i.of) hS.sw2) ?_
    rintro v H' ⟨rfl, nb2, pb2, mb2, hS⟩
    have hS := Sep.sw2 (LA := wB b s _ :: wR s _ :: (sg y (.cells (urow N R2.one) 30 (0, 0)) :: sg x (.cells #[.int .i64 m, .int .i64 2, .int .i64 1] 27 (0, 0)) :: sg z (.cells #[.int .u16 u0, .int .u16 u1] 23 (0, 0)) :: h :: l)) hS
    have hl2' := Re.left_step (m := 80 * m + 130 - i) hI.i.ib.wf (by rw [hI.i.ib.es]; exact hI.i.of) hl2
    have hI := hI.stepB m1 m6
    simp only [e16, e2, e7, e8, e10, e13, e14, wrap_w64, wi, ↓DD, UU, ↓reduceIte, xA, xB, xC, xD, xE, xF, xG, xH, xI, xJ, xK, xL, xM, xN, xO, xP, xQ, ne_eq, eq_self]
    exact ⟨⟨i + 1, _, _, _, na2, pa2, ma2, nb2, pb2, mb2, by omega, fun g => (by cases g), fun _ => by omega, by simp [gt], ⟨by simp [gt, e2], by simp [gt, e7], by simp [gt, e8], by simp [gt, e10], by simp [gt, e13], by simp [gt, e14]⟩, hI, ⟨by omega, by omega⟩, fun _ => ⟨by omega, by omega⟩, hS⟩, by simp [gt, iv, e16]; omega⟩
  have d1 : decide (i < 80 * m + 130) = false := decide_eq_false hlt
  have had : A.dn = true := Re.left_dn hI.i.ia.wf (by omega)
  have hbd : B'.dn = true := Re.left_dn hI.i.ib.wf (by omega)
  have hfin := hI.fin m1 m6 had hbd
  simp only [e16, e2, e7, e8, e10, e13, e14, wrap_w64, w8, w9, d1, ↓DD, UU, ↓reduceIte, xA, xB, xC, xD, xE, xF, xG, xH, xI, xJ, xK, xL, xM, xN, xO, xP, xQ, ne_eq, eq_self]
  refine callT_of (c_refound hI.i.ia.wf hS.toA) ?_
  rintro v H' ⟨rfl, hS⟩
  have hS := Sep.unA (R := wB b s w :: wR s w :: (sg y (.cells (urow N R2.one) 30 (0, 0)) :: sg x (.cells #[.int .i64 m, .int .i64 2, .int .i64 1] 27 (0, 0)) :: sg z (.cells #[.int .u16 u0, .int .u16 u1] 23 (0, 0)) :: h :: l)) hS
  simp only [e16, e2, e7, e8, e10, e13, e14, bkV, ↓DD, UU, ↓reduceIte, xA, xB, xC, xD, xE, xF, xG, xH, xI, xJ, xK, xL, xM, xN, xO, xP, xQ, ne_eq, eq_self]
  have hx1 := hS.offL.offL.lk 3 rfl
  refine newB_intro fun q hq f7 f8 => ?_
  have nxq : (x = q) = False := f7 x (by rw [hx1]; rfl)
  have nqx : (q = x) = False := f8 x (by rw [hx1]; rfl)
  have hS := (hS.new f7 (.cells #[.bool A.bk.lg, .int .i64 A.bk.p, .int .i64 A.bk.i, .int .i64 A.bk.k, .int .i64 A.bk.n] 41 (0, 0)))
  have hS := Sep.inL (L := reL kb rb r2b nb gb pb mb B') hS
  simp only [e16, e2, e7, e8, e10, e13, e14, Ev.upd_upd, ↓DD, UU, ↓reduceIte, xA, xB, xC, xD, xE, xF, xG, xH, xI, xJ, xK, xL, xM, xN, xO, xP, xQ, ne_eq, eq_self]
  refine callT_of (c_refound hI.i.ib.wf hS) ?_
  rintro v H' ⟨rfl, hS⟩
  have hS := Sep.inL (hS.outL)
  have hq1 := hS.outL.look
  have hx1 := hS.offL.tail.offL.lk 3 rfl
  simp only [e16, e2, e7, e8, e10, e13, e14, bkV, ↓DD, UU, ↓reduceIte, xA, xB, xC, xD, xE, xF, xG, xH, xI, xJ, xK, xL, xM, xN, xO, xP, xQ, ne_eq, eq_self]
  refine newB_intro fun p hp f9 f0 => ?_
  have nxp : (x = p) = False := f9 x (by rw [hx1]; rfl)
  have npx : (p = x) = False := f0 x (by rw [hx1]; rfl)
  have nqp : (q = p) = False := f9 q (by rw [hq1]; rfl)
  have npq : (p = q) = False := f0 q (by rw [hq1]; rfl)
  have hS := (hS.outL.new f9 (.cells #[.bool B'.bk.lg, .int .i64 B'.bk.p, .int .i64 B'.bk.i, .int .i64 B'.bk.k, .int .i64 B'.bk.n] 41 (0, 0)))
  simp only [e16, e2, e7, e8, e10, e13, e14, hx1, nxp, npx, nqp, npq, Ev.upd_upd, ↓DD, UU, ↓reduceIte, xA, xB, xC, xD, xE, xF, xG, xH, xI, xJ, xK, xL, xM, xN, xO, xP, xQ, ne_eq, eq_self]
  obtain ⟨LA, hLA⟩ : ∃ LA, LA = reL ka ra r2a na ga pa ma A := ⟨_, rfl⟩
  obtain ⟨LB, hLB⟩ : ∃ LB, LB = reL kb rb r2b nb gb pb mb B' := ⟨_, rfl⟩
  obtain ⟨T, hT⟩ : ∃ T, T = (sg y (.cells (urow N R2.one) 30 (0, 0)) :: sg x (.cells #[.int .i64 m, .int .i64 2, .int .i64 1] 27 (0, 0)) :: sg z (.cells #[.int .u16 u0, .int .u16 u1] 23 (0, 0)) :: h :: l) := ⟨_, rfl⟩
  obtain ⟨Q, hQ⟩ : ∃ Q, Q = sg q (.cells #[.bool A.bk.lg, .int .i64 A.bk.p, .int .i64 A.bk.i, .int .i64 A.bk.k, .int .i64 A.bk.n] 41 (0, 0)) := ⟨_, rfl⟩
  obtain ⟨P, hP⟩ : ∃ P, P = sg p (.cells #[.bool B'.bk.lg, .int .i64 B'.bk.p, .int .i64 B'.bk.i, .int .i64 B'.bk.k, .int .i64 B'.bk.n] 41 (0, 0)) := ⟨_, rfl⟩
  rw [← hLA, ← hLB, ← hQ, ← hP, ← hT] at hS
  have hS := Sep.rt1 hS
  have hwn : w.n ≤ 2000 := by have := hI.i.of.n; have h9 : words (R2.sh m).p (R2.sh m).c (R2.sh m).m = (N : Int) := hN; omega
  have lx : ∀ X : Hp, Sep (LB ++ (LA ++ T)) X → X x = some (.cells #[.int .i64 m, .int .i64 2, .int .i64 1] 27 (0, 0)) := fun X g => by
    have g2 := g.offL.offL
    rw [hT] at g2
    exact g2.lk 1 rfl
  have hx1 := lx _ hS.tail.tail.tail.tail
  have r1 := fun o n => rdn_of hx1 o n
  refine draw_intro [(x, #[.int .i64 m, .int .i64 2, .int .i64 1], [])] (by simp only [hx1, nxp, npx, nxq, nqx, ↓DD, UU, ↓reduceIte, xA, xB, xC, xD, xE, xF, xG, xH, xI, xJ, xK, xL, xM, xN, xO, xP, xQ, ne_eq, eq_self]) ?_
  simp only [e16, e2, e7, e8, e10, e13, e14, hx1, r1, ↓DD, UU, ↓reduceIte, xA, xB, xC, xD, xE, xF, xG, xH, xI, xJ, xK, xL, xM, xN, xO, xP, xQ, ne_eq, eq_self]
  refine callT_of (c_all (w := w) hwn hS) ?_
  rintro v H' ⟨a3, cap3, h3, rfl, hr3, hS⟩
  have hx1 := lx _ hS.tail.tail.tail.tail.tail
  have r1 := fun o n => rdn_of hx1 o n
  simp only [e16, e2, e7, e8, e10, e13, e14, hx1, r1, ↓DD, UU, ↓reduceIte, xA, xB, xC, xD, xE, xF, xG, xH, xI, xJ, xK, xL, xM, xN, xO, xP, xQ, ne_eq, eq_self]
  have hnW : ((w.n : Nat) : Int) = words (R2.sh m).p (R2.sh m).c (R2.sh m).m := by rw [hI.i.of.n]
  refine callT_of (c_blocks (sh := R2.sh m) hmay hnW hr3 (fun i _ => hI.i.of.u i) hS) ?_
  rintro v H' ⟨ba, bc, g, rfl, hBL, hS⟩
  obtain ⟨bl, hbl⟩ : ∃ bl, blks (R2.sh m) w.ws (R2.sh m).p.toNat = bl := ⟨_, rfl⟩
  have hfin : (A.fd = true ∧ B'.fd = false ∧ bl = [(A.bk.ad, A.bk.len)] ∧ A.bk.Fit (R2.sh m) 0 ∧ A.bk.p ≠ 0) ∨ (A.fd = false ∧ B'.fd = true ∧ bl = [(B'.bk.ad, B'.bk.len)] ∧ B'.bk.Fit (R2.sh m) 1 ∧ B'.bk.p ≠ 0) ∨ (A.fd = false ∧ B'.fd = false ∧ bl = [(0, 64)] ∧ A.er = 3 ∧ B'.er = 3) := by rw [← hbl]; exact hfin
  rw [hbl] at hBL
  have hone : bl.length = 1 := by rcases hfin with ⟨-, -, g, -⟩ | ⟨-, -, g, -⟩ | ⟨-, -, g, -⟩ <;> rw [g] <;> rfl
  have hx1 := lx _ hS.tail.tail.tail.tail.tail.tail
  have r1 := fun o n => rdn_of hx1 o n
  simp only [e16, e2, e7, e8, e10, e13, e14, hbl, hone, hx1, r1, ↓DD, UU, ↓reduceIte, xA, xB, xC, xD, xE, xF, xG, xH, xI, xJ, xK, xL, xM, xN, xO, xP, xQ, ne_eq, eq_self]
  rcases hfin with ⟨fA, fB, hbk, fit, hp0⟩ | ⟨fA, fB, hbk, fit, hp0⟩ | ⟨fA, fB, hbk, eA, eB⟩
  · have hx1 := lx _ hS.tail.tail.tail.tail.tail.tail
    refine draw_intro [(x, #[.int .i64 m, .int .i64 2, .int .i64 1], [])] (by simp only [hx1, ↓DD, UU, ↓reduceIte, xA, xB, xC, xD, xE, xF, xG, xH, xI, xJ, xK, xL, xM, xN, xO, xP, xQ, ne_eq, eq_self]) ?_
    simp only [e16, e2, e7, e8, e10, e13, e14, ↓DD, UU, ↓reduceIte, xA, xB, xC, xD, xE, xF, xG, xH, xI, xJ, xK, xL, xM, xN, xO, xP, xQ, ne_eq, eq_self]
    refine callT_of (c_redone' (t := A) (by rw [← hLA]; exact Sep.fr (X := g :: h3 :: wB b s w :: wR s w :: P :: Q :: LB) (L := LA) (Y := T) hS)) ?_
    rintro v H' ⟨rfl, hS⟩
    rw [← hLA] at hS
    have hS := Sep.fr (X := LA) (L := g :: h3 :: wB b s w :: wR s w :: P :: Q :: LB) (Y := T) hS
    have hx1 := lx _ hS.tail.tail.tail.tail.tail.tail
    simp only [e16, e2, e7, e8, e10, e13, e14, hx1, had, ↓DD, UU, ↓reduceIte, xA, xB, xC, xD, xE, xF, xG, xH, xI, xJ, xK, xL, xM, xN, xO, xP, xQ, ne_eq, eq_self]
    refine callT_of (c_redone' (t := B') (by rw [← hLB]; exact Sep.fr (X := [g, h3, wB b s w, wR s w, P, Q]) (L := LB) (Y := LA ++ T) hS)) ?_
    rintro v H' ⟨rfl, hS⟩
    rw [← hLB] at hS
    have hS := Sep.fr (X := LB) (L := [g, h3, wB b s w, wR s w, P, Q]) (Y := LA ++ T) hS
    have hS : Sep (g :: h3 :: wB b s w :: wR s w :: P :: Q :: (LB ++ (LA ++ T))) _ := hS
    have hx1 := lx _ hS.tail.tail.tail.tail.tail.tail
    have r1 := fun o n => rdn_of hx1 o n
    simp only [e16, e2, e7, e8, e10, e13, e14, hx1, r1, hbd, fA, fB, ↓DD, UU, ↓reduceIte, xA, xB, xC, xD, xE, xF, xG, xH, xI, xJ, xK, xL, xM, xN, xO, xP, xQ, ne_eq, eq_self]
    refine callT_of (c_all (w := w) hwn hS.p3.p3) ?_
    rintro v H' ⟨a4, cap4, h4, rfl, hr4, hS⟩
    have hx1 := lx _ hS.tail.tail.tail.tail.tail.tail.tail
    have r1 := fun o n => rdn_of hx1 o n
    simp only [e16, e2, e7, e8, e10, e13, e14, hx1, r1, fA, fB, ↓DD, UU, ↓reduceIte, xA, xB, xC, xD, xE, xF, xG, xH, xI, xJ, xK, xL, xM, xN, xO, xP, xQ, ne_eq, eq_self]
    refine callT_of (c_soundV (sh := R2.sh m) hmay hnW hr4 (fun i _ => hI.i.of.u i) hS) ?_
    rintro v H' ⟨sb, rfl, hsb, hS⟩
    have hsb := hsb.2 (hI.i.bs.snd hmay)
    subst hsb
    have hx1 := lx _ hS.tail.tail.tail.tail.tail.tail.tail
    rw [hbk] at hBL
    have hBL2 : BsV ba 1 bc (fun j => ([(A.bk.ad, A.bk.len)] : List (Int × Int)).getD j (0, 0)) g := hBL
    rcases hBL2 with ⟨-, g1, -⟩ | ⟨zb, cb, rfl, hgz, -, hcs, hce⟩
    · cases g1
    have hce := hce 0 (by decide)
    have hc0 : cb[0]? = some (.int .i64 A.bk.ad) := hce.1
    have hc1 : cb[1]? = some (.int .i64 A.bk.len) := hce.2
    rw [hgz] at hS
    have hg1 := hS.lk 3 rfl
    have rg := fun o => rd_of hg1 o
    have o0 : (0 : Int) < ((1 : Nat) : Int) := by decide
    simp only [e16, e2, e7, e8, e10, e13, e14, hx1, fA, fB, hg1, rg, hc0, hc1, o0, ↓DD, UU, ↓reduceIte, xA, xB, xC, xD, xE, xF, xG, xH, xI, xJ, xK, xL, xM, xN, xO, xP, xQ, ne_eq, eq_self]
    obtain ⟨bp, bi, bn, bz⟩ := re_bk (t := A) (by show m ≤ 64; omega) fit
    have bz := bz hp0
    rw [hQ] at hS
    have hq1 := hS.lk 6 rfl
    have rq := fun o n => rdn_of hq1 o n
    have nzq := hS.neq 3 6 (by decide) rfl rfl
    have nqz := hS.qen 3 6 (by decide) rfl rfl
    refine draw_intro [(zb, cb, []), (q, #[.bool A.bk.lg, .int .i64 A.bk.p, .int .i64 A.bk.i, .int .i64 A.bk.k, .int .i64 A.bk.n], [])] (by simp only [hg1, hq1, ↓DD, UU, ↓reduceIte, xA, xB, xC, xD, xE, xF, xG, xH, xI, xJ, xK, xL, xM, xN, xO, xP, xQ, ne_eq, eq_self]) ?_
    simp only [e16, e2, e7, e8, e10, e13, e14, hg1, rg, hq1, rq, hc0, hc1, o0, nzq, nqz, ↓DD, UU, ↓reduceIte, xA, xB, xC, xD, xE, xF, xG, xH, xI, xJ, xK, xL, xM, xN, xO, xP, xQ, ne_eq, eq_self]
    refine callT_of (c_bkat (B := A.bk) bp bi hS) ?_
    rintro v H' ⟨rfl, hS⟩
    have hg1 := hS.lk 3 rfl
    have rg := fun o => rd_of hg1 o
    have hq1 := hS.lk 6 rfl
    have rq := fun o n => rdn_of hq1 o n
    have k0 : (A.bk.ad == A.bk.ad) = true := by simp
    have k1 : (A.bk.len == A.bk.len) = true := by simp
    have k2 : (A.bk.ad != 0) = true := by simp [bz]
    simp only [e16, e2, e7, e8, e10, e13, e14, hg1, rg, hq1, rq, hc0, hc1, o0, nzq, nqz, k0, k1, k2, ↓DD, UU, ↓reduceIte, xA, xB, xC, xD, xE, xF, xG, xH, xI, xJ, xK, xL, xM, xN, xO, xP, xQ, ne_eq, eq_self]
    refine callT_of (c_bklen (B := A.bk) bn hS) ?_
    rintro v H' ⟨rfl, hS⟩
    have hg1 := hS.lk 3 rfl
    have rg := fun o => rd_of hg1 o
    have hq1 := hS.lk 6 rfl
    have rq := fun o n => rdn_of hq1 o n
    have hSf := hS.tail.tail.tail.tail.tail.tail.tail.offL.offL
    rw [hT] at hSf
    have hSf := hSf.tail.tail.tail
    simp only [e16, e2, e7, e8, e10, e13, e14, hg1, rg, hq1, rq, hc0, hc1, o0, nzq, nqz, k0, k1, k2, ↓DD, UU, ↓reduceIte, xA, xB, xC, xD, xE, xF, xG, xH, xI, xJ, xK, xL, xM, xN, xO, xP, xQ, ne_eq, eq_self]
    exact hSf
  · have hx1 := lx _ hS.tail.tail.tail.tail.tail.tail
    refine draw_intro [(x, #[.int .i64 m, .int .i64 2, .int .i64 1], [])] (by simp only [hx1, ↓DD, UU, ↓reduceIte, xA, xB, xC, xD, xE, xF, xG, xH, xI, xJ, xK, xL, xM, xN, xO, xP, xQ, ne_eq, eq_self]) ?_
    simp only [e16, e2, e7, e8, e10, e13, e14, ↓DD, UU, ↓reduceIte, xA, xB, xC, xD, xE, xF, xG, xH, xI, xJ, xK, xL, xM, xN, xO, xP, xQ, ne_eq, eq_self]
    refine callT_of (c_redone' (t := A) (by rw [← hLA]; exact Sep.fr (X := g :: h3 :: wB b s w :: wR s w :: P :: Q :: LB) (L := LA) (Y := T) hS)) ?_
    rintro v H' ⟨rfl, hS⟩
    rw [← hLA] at hS
    have hS := Sep.fr (X := LA) (L := g :: h3 :: wB b s w :: wR s w :: P :: Q :: LB) (Y := T) hS
    have hx1 := lx _ hS.tail.tail.tail.tail.tail.tail
    simp only [e16, e2, e7, e8, e10, e13, e14, hx1, had, ↓DD, UU, ↓reduceIte, xA, xB, xC, xD, xE, xF, xG, xH, xI, xJ, xK, xL, xM, xN, xO, xP, xQ, ne_eq, eq_self]
    refine callT_of (c_redone' (t := B') (by rw [← hLB]; exact Sep.fr (X := [g, h3, wB b s w, wR s w, P, Q]) (L := LB) (Y := LA ++ T) hS)) ?_
    rintro v H' ⟨rfl, hS⟩
    rw [← hLB] at hS
    have hS := Sep.fr (X := LB) (L := [g, h3, wB b s w, wR s w, P, Q]) (Y := LA ++ T) hS
    have hS : Sep (g :: h3 :: wB b s w :: wR s w :: P :: Q :: (LB ++ (LA ++ T))) _ := hS
    have hx1 := lx _ hS.tail.tail.tail.tail.tail.tail
    have r1 := fun o n => rdn_of hx1 o n
    simp only [e16, e2, e7, e8, e10, e13, e14, hx1, r1, hbd, fA, fB, ↓DD, UU, ↓reduceIte, xA, xB, xC, xD, xE, xF, xG, xH, xI, xJ, xK, xL, xM, xN, xO, xP, xQ, ne_eq, eq_self]
    refine callT_of (c_all (w := w) hwn hS.p3.p3) ?_
    rintro v H' ⟨a4, cap4, h4, rfl, hr4, hS⟩
    have hx1 := lx _ hS.tail.tail.tail.tail.tail.tail.tail
    have r1 := fun o n => rdn_of hx1 o n
    simp only [e16, e2, e7, e8, e10, e13, e14, hx1, r1, fA, fB, ↓DD, UU, ↓reduceIte, xA, xB, xC, xD, xE, xF, xG, xH, xI, xJ, xK, xL, xM, xN, xO, xP, xQ, ne_eq, eq_self]
    refine callT_of (c_soundV (sh := R2.sh m) hmay hnW hr4 (fun i _ => hI.i.of.u i) hS) ?_
    rintro v H' ⟨sb, rfl, hsb, hS⟩
    have hsb := hsb.2 (hI.i.bs.snd hmay)
    subst hsb
    have hx1 := lx _ hS.tail.tail.tail.tail.tail.tail.tail
    rw [hbk] at hBL
    have hBL2 : BsV ba 1 bc (fun j => ([(B'.bk.ad, B'.bk.len)] : List (Int × Int)).getD j (0, 0)) g := hBL
    rcases hBL2 with ⟨-, g1, -⟩ | ⟨zb, cb, rfl, hgz, -, hcs, hce⟩
    · cases g1
    have hce := hce 0 (by decide)
    have hc0 : cb[0]? = some (.int .i64 B'.bk.ad) := hce.1
    have hc1 : cb[1]? = some (.int .i64 B'.bk.len) := hce.2
    rw [hgz] at hS
    have hg1 := hS.lk 3 rfl
    have rg := fun o => rd_of hg1 o
    have o0 : (0 : Int) < ((1 : Nat) : Int) := by decide
    simp only [e16, e2, e7, e8, e10, e13, e14, hx1, fA, fB, hg1, rg, hc0, hc1, o0, ↓DD, UU, ↓reduceIte, xA, xB, xC, xD, xE, xF, xG, xH, xI, xJ, xK, xL, xM, xN, xO, xP, xQ, ne_eq, eq_self]
    obtain ⟨bp, bi, bn, bz⟩ := re_bk (t := B') (by show m ≤ 64; omega) fit
    have bz := bz hp0
    rw [hP] at hS
    have hq1 := hS.lk 5 rfl
    have rq := fun o n => rdn_of hq1 o n
    have nzq := hS.neq 3 5 (by decide) rfl rfl
    have nqz := hS.qen 3 5 (by decide) rfl rfl
    refine draw_intro [(zb, cb, []), (p, #[.bool B'.bk.lg, .int .i64 B'.bk.p, .int .i64 B'.bk.i, .int .i64 B'.bk.k, .int .i64 B'.bk.n], [])] (by simp only [hg1, hq1, ↓DD, UU, ↓reduceIte, xA, xB, xC, xD, xE, xF, xG, xH, xI, xJ, xK, xL, xM, xN, xO, xP, xQ, ne_eq, eq_self]) ?_
    simp only [e16, e2, e7, e8, e10, e13, e14, hg1, rg, hq1, rq, hc0, hc1, o0, nzq, nqz, ↓DD, UU, ↓reduceIte, xA, xB, xC, xD, xE, xF, xG, xH, xI, xJ, xK, xL, xM, xN, xO, xP, xQ, ne_eq, eq_self]
    refine callT_of (c_bkat (B := B'.bk) bp bi hS) ?_
    rintro v H' ⟨rfl, hS⟩
    have hg1 := hS.lk 3 rfl
    have rg := fun o => rd_of hg1 o
    have hq1 := hS.lk 5 rfl
    have rq := fun o n => rdn_of hq1 o n
    have k0 : (B'.bk.ad == B'.bk.ad) = true := by simp
    have k1 : (B'.bk.len == B'.bk.len) = true := by simp
    have k2 : (B'.bk.ad != 0) = true := by simp [bz]
    simp only [e16, e2, e7, e8, e10, e13, e14, hg1, rg, hq1, rq, hc0, hc1, o0, nzq, nqz, k0, k1, k2, ↓DD, UU, ↓reduceIte, xA, xB, xC, xD, xE, xF, xG, xH, xI, xJ, xK, xL, xM, xN, xO, xP, xQ, ne_eq, eq_self]
    refine callT_of (c_bklen (B := B'.bk) bn hS) ?_
    rintro v H' ⟨rfl, hS⟩
    have hg1 := hS.lk 3 rfl
    have rg := fun o => rd_of hg1 o
    have hq1 := hS.lk 5 rfl
    have rq := fun o n => rdn_of hq1 o n
    have hSf := hS.tail.tail.tail.tail.tail.tail.tail.offL.offL
    rw [hT] at hSf
    have hSf := hSf.tail.tail.tail
    simp only [e16, e2, e7, e8, e10, e13, e14, hg1, rg, hq1, rq, hc0, hc1, o0, nzq, nqz, k0, k1, k2, ↓DD, UU, ↓reduceIte, xA, xB, xC, xD, xE, xF, xG, xH, xI, xJ, xK, xL, xM, xN, xO, xP, xQ, ne_eq, eq_self]
    exact hSf
  · have hx1 := lx _ hS.tail.tail.tail.tail.tail.tail
    refine draw_intro [(x, #[.int .i64 m, .int .i64 2, .int .i64 1], [])] (by simp only [hx1, ↓DD, UU, ↓reduceIte, xA, xB, xC, xD, xE, xF, xG, xH, xI, xJ, xK, xL, xM, xN, xO, xP, xQ, ne_eq, eq_self]) ?_
    simp only [e16, e2, e7, e8, e10, e13, e14, ↓DD, UU, ↓reduceIte, xA, xB, xC, xD, xE, xF, xG, xH, xI, xJ, xK, xL, xM, xN, xO, xP, xQ, ne_eq, eq_self]
    refine callT_of (c_redone' (t := A) (by rw [← hLA]; exact Sep.fr (X := g :: h3 :: wB b s w :: wR s w :: P :: Q :: LB) (L := LA) (Y := T) hS)) ?_
    rintro v H' ⟨rfl, hS⟩
    rw [← hLA] at hS
    have hS := Sep.fr (X := LA) (L := g :: h3 :: wB b s w :: wR s w :: P :: Q :: LB) (Y := T) hS
    have hx1 := lx _ hS.tail.tail.tail.tail.tail.tail
    simp only [e16, e2, e7, e8, e10, e13, e14, hx1, had, ↓DD, UU, ↓reduceIte, xA, xB, xC, xD, xE, xF, xG, xH, xI, xJ, xK, xL, xM, xN, xO, xP, xQ, ne_eq, eq_self]
    refine callT_of (c_redone' (t := B') (by rw [← hLB]; exact Sep.fr (X := [g, h3, wB b s w, wR s w, P, Q]) (L := LB) (Y := LA ++ T) hS)) ?_
    rintro v H' ⟨rfl, hS⟩
    rw [← hLB] at hS
    have hS := Sep.fr (X := LB) (L := [g, h3, wB b s w, wR s w, P, Q]) (Y := LA ++ T) hS
    have hS : Sep (g :: h3 :: wB b s w :: wR s w :: P :: Q :: (LB ++ (LA ++ T))) _ := hS
    have hx1 := lx _ hS.tail.tail.tail.tail.tail.tail
    have r1 := fun o n => rdn_of hx1 o n
    simp only [e16, e2, e7, e8, e10, e13, e14, hx1, r1, hbd, fA, fB, ↓DD, UU, ↓reduceIte, xA, xB, xC, xD, xE, xF, xG, xH, xI, xJ, xK, xL, xM, xN, xO, xP, xQ, ne_eq, eq_self]
    refine callT_of (c_all (w := w) hwn hS.p3.p3) ?_
    rintro v H' ⟨a4, cap4, h4, rfl, hr4, hS⟩
    have hx1 := lx _ hS.tail.tail.tail.tail.tail.tail.tail
    have r1 := fun o n => rdn_of hx1 o n
    simp only [e16, e2, e7, e8, e10, e13, e14, hx1, r1, fA, fB, ↓DD, UU, ↓reduceIte, xA, xB, xC, xD, xE, xF, xG, xH, xI, xJ, xK, xL, xM, xN, xO, xP, xQ, ne_eq, eq_self]
    refine callT_of (c_soundV (sh := R2.sh m) hmay hnW hr4 (fun i _ => hI.i.of.u i) hS) ?_
    rintro v H' ⟨sb, rfl, hsb, hS⟩
    have hsb := hsb.2 (hI.i.bs.snd hmay)
    subst hsb
    have hx1 := lx _ hS.tail.tail.tail.tail.tail.tail.tail
    rw [hbk] at hBL
    have hBL2 : BsV ba 1 bc (fun j => ([(0, 64)] : List (Int × Int)).getD j (0, 0)) g := hBL
    rcases hBL2 with ⟨-, g1, -⟩ | ⟨zb, cb, rfl, hgz, -, hcs, hce⟩
    · cases g1
    have hce := hce 0 (by decide)
    have hc0 : cb[0]? = some (.int .i64 0) := hce.1
    have hc1 : cb[1]? = some (.int .i64 64) := hce.2
    rw [hgz] at hS
    have hg1 := hS.lk 3 rfl
    have rg := fun o => rd_of hg1 o
    have o0 : (0 : Int) < ((1 : Nat) : Int) := by decide
    simp only [e16, e2, e7, e8, e10, e13, e14, hx1, fA, fB, hg1, rg, hc0, hc1, o0, ↓DD, UU, ↓reduceIte, xA, xB, xC, xD, xE, xF, xG, xH, xI, xJ, xK, xL, xM, xN, xO, xP, xQ, ne_eq, eq_self]
    refine callT_of (c_reerr' (t := A) (by rw [← hLA]; exact Sep.fr (X := h4 :: wB b s w :: wR s w :: sg zb _ :: h3 :: P :: Q :: LB) (L := LA) (Y := T) hS)) ?_
    rintro v H' ⟨rfl, hS⟩
    rw [← hLA] at hS
    have hS := Sep.fr (X := LA) (L := h4 :: wB b s w :: wR s w :: sg zb _ :: h3 :: P :: Q :: LB) (Y := T) hS
    have r3 : ((3 : Int) == 3) = true := rfl
    simp only [e16, e2, e7, e8, e10, e13, e14, eA, r3, ↓DD, UU, ↓reduceIte, xA, xB, xC, xD, xE, xF, xG, xH, xI, xJ, xK, xL, xM, xN, xO, xP, xQ, ne_eq, eq_self]
    refine callT_of (c_reerr' (t := B') (by rw [← hLB]; exact Sep.fr (X := [h4, wB b s w, wR s w, sg zb _, h3, P, Q]) (L := LB) (Y := LA ++ T) hS)) ?_
    rintro v H' ⟨rfl, hS⟩
    have hS := hS.offL.tail.tail.tail.tail.tail.tail.tail.offL
    rw [hT] at hS
    simp only [e16, e2, e7, e8, e10, e13, e14, eB, r3, ↓DD, UU, ↓reduceIte, xA, xB, xC, xD, xE, xF, xG, xH, xI, xJ, xK, xL, xM, xN, xO, xP, xQ, ne_eq, eq_self]
    exact hS.offL.tail.tail.tail
end
theorem l_renewtwo {W : World} {n cap : Nat} {a : Option Addr} {B : Nat → Bool} (g0 : Int) (h0 : 0 ≤ g0 ∧ g0 ≤ 255) (u0 u1 : Int) (h1 : 0 ≤ u0 ∧ u0 ≤ 65535) (h2 : 0 ≤ u1 ∧ u1 ≤ 65535) (hn : n ≤ 9223372036854775807) (hr : RowV (memOf W) a n (fun i => .bool (B i))) :
    CallP Tryz.prog W 3 #[.int .u8 g0, .agg #[.int .u16 u0, .int .u16 u1], .slice a n cap] (memOf W) fun v H' => v = .bool true ∧ Sub (memOf W) H' :=
  (c_renewtwo h0.1 h0.2 h1 h2 hr hn (Sep.one _)).mono fun v H' ⟨h1, h2⟩ => ⟨h1, h2.head⟩
end Go.Proofs.YtjmlapagmbldoaaGreat
