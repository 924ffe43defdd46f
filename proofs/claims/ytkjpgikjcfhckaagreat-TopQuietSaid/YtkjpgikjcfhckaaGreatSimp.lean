/-
 The rules by which walks are reckoned, in groups. Conditions: none.
-/
import Derived.Test.YtkjpgikjcfhckaaGreatMono
namespace Go.Ev
open Go

theorem D0:(type_of% @e_skip)∧(type_of% @e_ret)∧(type_of% @e_exit)∧(type_of% @e_reg)∧(type_of% @e_seq)∧(type_of% @e_cond)∧(type_of% @e_block)∧(type_of% @e_thn)∧(type_of% @e_thn1)∧(type_of% @e_thn_ret)∧(type_of% @e_thn_ret1)∧(type_of% @e_thn_exit):=
 ⟨@e_skip,@e_ret,@e_exit,@e_reg,@e_seq,@e_cond,@e_block,@e_thn,@e_thn1,@e_thn_ret,@e_thn_ret1,@e_thn_exit⟩
theorem D1:(type_of% @e_blk)∧(type_of% @e_blk1)∧(type_of% @e_blk_ret)∧(type_of% @e_blk_exit)∧(type_of% @e_blk_exit')∧(type_of% @e_fret)∧(type_of% @e_fnorm)∧(type_of% @e_rv0)∧(type_of% @e_rvt)∧(type_of% @e_rv1)∧(type_of% @e_rvn)∧(type_of% @e_nil):=
 ⟨@e_blk,@e_blk1,@e_blk_ret,@e_blk_exit,@e_blk_exit',@e_fret,@e_fnorm,@e_rv0,@e_rvt,@e_rv1,@e_rvn,@e_nil⟩
theorem D2:(type_of% @e_cons)∧(type_of% @e_consg)∧(type_of% @e_ddone)∧(type_of% @e_dstop)∧(type_of% @e_dtake)∧(type_of% @e_dtakeg)∧(type_of% @e_dlast)∧(type_of% @e_dlastg)∧(type_of% @e_dfin)∧(type_of% @e_dfing)∧(type_of% @e_put)∧(type_of% @e_put0):=
 ⟨@e_cons,@e_consg,@e_ddone,@e_dstop,@e_dtake,@e_dtakeg,@e_dlast,@e_dlastg,@e_dfin,@e_dfing,@e_put,@e_put0⟩
theorem D3:(type_of% @e_tmp)∧(type_of% @e_const)∧(type_of% @e_fun)∧(type_of% @gt_hit)∧(type_of% @gt_miss)∧(type_of% @t_ld1)∧(type_of% @t_ldn)∧(type_of% @t_aeq)∧(type_of% @t_mv)∧(type_of% @t_pick)∧(type_of% @t_fad)∧(type_of% @t_fld1):=
 ⟨@e_tmp,@e_const,@e_fun,@gt_hit,@gt_miss,@t_ld1,@t_ldn,@t_aeq,@t_mv,@t_pick,@t_fad,@t_fld1⟩
theorem D4:(type_of% @t_fldn)∧(type_of% @t_ar)∧(type_of% @t_dv)∧(type_of% @t_cmp)∧(type_of% @t_bt)∧(type_of% @t_sh)∧(type_of% @t_nt)∧(type_of% @t_cv)∧(type_of% @t_ext)∧(type_of% @t_len)∧(type_of% @t_iad)∧(type_of% @t_beq):=
 ⟨@t_fldn,@t_ar,@t_dv,@t_cmp,@t_bt,@t_sh,@t_nt,@t_cv,@t_ext,@t_len,@t_iad,@t_beq⟩
theorem D5:(type_of% @t_pnil)∧(type_of% @t_nilck)∧(type_of% @t_snil)∧(type_of% @t_bld)∧(type_of% @t_iadA)∧(type_of% @t_mn)∧(type_of% @t_mx)∧(type_of% @t_slA)∧(type_of% @t_slc)∧(type_of% @t_slc3)∧(type_of% @t_mkf)∧(type_of% @t_mif):=
 ⟨@t_pnil,@t_nilck,@t_snil,@t_bld,@t_iadA,@t_mn,@t_mx,@t_slA,@t_slc,@t_slc3,@t_mkf,@t_mif⟩
theorem D6:(type_of% @t_inil)∧(type_of% @t_tas)∧(type_of% @hold_nil)∧(type_of% @hold_cons)∧(type_of% @kp_cons)∧(type_of% @kpn_cons)∧(type_of% @o_aeq)∧(type_of% @o_mv)∧(type_of% @o_pick)∧(type_of% @o_fad)∧(type_of% @o_ld1)∧(type_of% @o_ldn):=
 ⟨@t_inil,@t_tas,@hold_nil,@hold_cons,@kp_cons,@kpn_cons,@o_aeq,@o_mv,@o_pick,@o_fad,@o_ld1,@o_ldn⟩
theorem D7:(type_of% @o_st1)∧(type_of% @o_stn)∧(type_of% @o_box)∧(type_of% @o_alc)∧(type_of% @o_fld1)∧(type_of% @o_fldn)∧(type_of% @o_ar)∧(type_of% @o_dv)∧(type_of% @o_cmp)∧(type_of% @o_bt)∧(type_of% @o_sh)∧(type_of% @o_nt):=
 ⟨@o_st1,@o_stn,@o_box,@o_alc,@o_fld1,@o_fldn,@o_ar,@o_dv,@o_cmp,@o_bt,@o_sh,@o_nt⟩
theorem D8:(type_of% @o_cv)∧(type_of% @o_ext)∧(type_of% @o_len)∧(type_of% @o_iad)∧(type_of% @o_pcall)∧(type_of% @o_call)∧(type_of% @o_beq)∧(type_of% @o_pnil)∧(type_of% @o_nilck)∧(type_of% @o_snil)∧(type_of% @o_bsl0)∧(type_of% @o_bld):=
 ⟨@o_cv,@o_ext,@o_len,@o_iad,@o_pcall,@o_call,@o_beq,@o_pnil,@o_nilck,@o_snil,@o_bsl0,@o_bld⟩
theorem D9:(type_of% @o_mks)∧(type_of% @o_bsl)∧(type_of% @o_iadA)∧(type_of% @o_mn)∧(type_of% @o_mx)∧(type_of% @o_slA)∧(type_of% @o_app)∧(type_of% @o_cpy)∧(type_of% @o_slc)∧(type_of% @o_slc3)∧(type_of% @o_mkf)∧(type_of% @o_mif):=
 ⟨@o_mks,@o_bsl,@o_iadA,@o_mn,@o_mx,@o_slA,@o_app,@o_cpy,@o_slc,@o_slc3,@o_mkf,@o_mif⟩
theorem D10:(type_of% @o_inil)∧(type_of% @o_tas)∧(type_of% @o_inv)∧(type_of% @o_clo)∧(type_of% @onFn_mk)∧(type_of% @o_or0)∧(type_of% @o_or1):=
 ⟨@o_inil,@o_tas,@o_inv,@o_clo,@onFn_mk,@o_or0,@o_or1⟩
theorem U0:(type_of% @e_tup0)∧(type_of% @e_tup1)∧(type_of% @e_tup2)∧(type_of% @e_evs0)∧(type_of% @e_evs)∧(type_of% @e_evp0)∧(type_of% @e_evp)∧(type_of% @gt_nil)∧(type_of% @initF_nil)∧(type_of% @initF_cons)∧(type_of% @hold1_mk)∧(type_of% @agree_self):=
 ⟨@e_tup0,@e_tup1,@e_tup2,@e_evs0,@e_evs,@e_evp0,@e_evp,@gt_nil,@initF_nil,@initF_cons,@hold1_mk,@agree_self⟩
theorem U1:(type_of% @agree_nil)∧(type_of% @agree_cons)∧(type_of% @List.contains_cons.{0})∧(type_of% @List.contains_nil.{0})∧(type_of% @List.all_nil.{0})∧(type_of% @List.all_cons.{0})∧(type_of% @Bool.or_false)∧(type_of% @Bool.or_true)∧(type_of% @Bool.true_or)∧(type_of% @Bool.false_or)∧(type_of% @or_true)∧(type_of% @true_or):=
 ⟨@agree_nil,@agree_cons,@List.contains_cons.{0},@List.contains_nil.{0},@List.all_nil.{0},@List.all_cons.{0},@Bool.or_false,@Bool.or_true,@Bool.true_or,@Bool.false_or,@or_true,@true_or⟩
theorem U2:(type_of% @or_false)∧(type_of% @false_or)∧(type_of% @List.toList_toArray.{0})∧(type_of% @onV_mk)∧(type_of% @onPtr_mk)∧(type_of% @onBool_mk)∧(type_of% @onInt_mk)∧(type_of% @onSome_mk)∧(type_of% @onTuple_mk)∧(type_of% @onSlice_mk)∧(type_of% @onCells_mk)∧(type_of% @onAgg_mk):=
 ⟨@or_false,@false_or,@List.toList_toArray.{0},@onV_mk,@onPtr_mk,@onBool_mk,@onInt_mk,@onSome_mk,@onTuple_mk,@onSlice_mk,@onCells_mk,@onAgg_mk⟩
theorem U3:(type_of% @onP_mk)∧(type_of% @onNil_nil)∧(type_of% @onNil_mk)∧(type_of% @onIf_mk)∧(type_of% @onMeth_mk)∧(type_of% @onAs_nil)∧(type_of% @onAs_hit)∧(type_of% @onAs_miss)∧(type_of% @onGuard_true)∧(type_of% @onGuard_false)∧(type_of% @onGuard_undef)∧(type_of% @both_true):=
 ⟨@onP_mk,@onNil_nil,@onNil_mk,@onIf_mk,@onMeth_mk,@onAs_nil,@onAs_hit,@onAs_miss,@onGuard_true,@onGuard_false,@onGuard_undef,@both_true⟩
theorem U4:(type_of% @both_false)∧(type_of% @a_add)∧(type_of% @a_sub)∧(type_of% @a_mul)∧(type_of% @a_quo)∧(type_of% @a_rem)∧(type_of% @a_eql)∧(type_of% @a_neq)∧(type_of% @a_lss)∧(type_of% @a_leq)∧(type_of% @a_gtr)∧(type_of% @a_geq):=
 ⟨@both_false,@a_add,@a_sub,@a_mul,@a_quo,@a_rem,@a_eql,@a_neq,@a_lss,@a_leq,@a_gtr,@a_geq⟩
theorem U5:(type_of% @a_and)∧(type_of% @a_or)∧(type_of% @a_shl)∧(type_of% @a_shr)∧(type_of% @c_agg)∧(type_of% @c_int)∧(type_of% @c_bool)∧(type_of% @c_ptr)∧(type_of% @c_slice)∧(type_of% @c_ifn)∧(type_of% @c_if)∧(type_of% @h1_ifn):=
 ⟨@a_and,@a_or,@a_shl,@a_shr,@c_agg,@c_int,@c_bool,@c_ptr,@c_slice,@c_ifn,@c_if,@h1_ifn⟩
theorem U6:(type_of% @h1_if)∧(type_of% @h1_int)∧(type_of% @h1_bool)∧(type_of% @h1_ptr)∧(type_of% @h1_slice)∧(type_of% @upd_same)∧(type_of% @upd_upd)∧(type_of% @rd_upd)∧(type_of% @rdn_upd)∧(type_of% @upd_at)∧(type_of% @Option.isSome_some.{0})∧(type_of% @Option.isNone_some.{0}):=
 ⟨@h1_if,@h1_int,@h1_bool,@h1_ptr,@h1_slice,@upd_same,@upd_upd,@rd_upd,@rdn_upd,@upd_at,@Option.isSome_some.{0},@Option.isNone_some.{0}⟩
theorem U7:(type_of% @Option.isNone_none.{0})∧(type_of% @not_false_eq_true)∧(type_of% @not_true_eq_false)∧(type_of% @true_and)∧(type_of% @and_true)∧(type_of% @and_self)∧(type_of% @Bool.not_true)∧(type_of% @Bool.not_false)∧(type_of% @Nat.zero_add)∧(type_of% @Nat.add_zero)∧(type_of% @List.getElem?_toArray.{0})∧(type_of% @List.getElem?_cons_zero.{0}):=
 ⟨@Option.isNone_none.{0},@not_false_eq_true,@not_true_eq_false,@true_and,@and_true,@and_self,@Bool.not_true,@Bool.not_false,@Nat.zero_add,@Nat.add_zero,@List.getElem?_toArray.{0},@List.getElem?_cons_zero.{0}⟩
theorem U8:(type_of% @List.getElem?_cons_succ.{0})∧(type_of% @List.size_toArray.{0})∧(type_of% @List.length_cons.{0})∧(type_of% @List.length_nil.{0})∧(type_of% @List.extract_toArray.{0})∧(type_of% @List.extract_eq_take_drop.{0})∧(type_of% @List.drop_succ_cons.{0})∧(type_of% @List.drop_zero.{0})∧(type_of% @List.take_succ_cons.{0})∧(type_of% @List.take_zero.{0})∧(type_of% @List.setIfInBounds_toArray.{0})∧(type_of% @List.set_cons_zero.{0}):=
 ⟨@List.getElem?_cons_succ.{0},@List.size_toArray.{0},@List.length_cons.{0},@List.length_nil.{0},@List.extract_toArray.{0},@List.extract_eq_take_drop.{0},@List.drop_succ_cons.{0},@List.drop_zero.{0},@List.take_succ_cons.{0},@List.take_zero.{0},@List.setIfInBounds_toArray.{0},@List.set_cons_zero.{0}⟩
theorem U9:(type_of% @List.set_cons_succ.{0})∧(type_of% @List.map_cons.{0,0})∧(type_of% @List.map_nil.{0,0})∧(type_of% @Nat.one_mul)∧(type_of% @Nat.mul_one)∧(type_of% @sz_nil)∧(type_of% @sz_cons)∧(type_of% @us_nil)∧(type_of% @us_cons)∧(type_of% @fp_nil)∧(type_of% @fp_cons)∧(type_of% @sn_nil):=
 ⟨@List.set_cons_succ.{0},@List.map_cons.{0,0},@List.map_nil.{0,0},@Nat.one_mul,@Nat.mul_one,@sz_nil,@sz_cons,@us_nil,@us_cons,@fp_nil,@fp_cons,@sn_nil⟩
theorem U10:(type_of% @sn_cons)∧(type_of% @al_nil)∧(type_of% @al_cons)∧(type_of% @tl_mk)∧(type_of% @Bool.and_true)∧(type_of% @Bool.true_and)∧(type_of% @beq_self_eq_true.{0})∧(type_of% @bne_self_eq_false.{0})∧(type_of% @Bool.false_eq_true)∧(type_of% @Int.cast_ofNat_Int)∧(type_of% @decide_true)∧(type_of% @decide_false):=
 ⟨@sn_cons,@al_nil,@al_cons,@tl_mk,@Bool.and_true,@Bool.true_and,@beq_self_eq_true.{0},@bne_self_eq_false.{0},@Bool.false_eq_true,@Int.cast_ofNat_Int,@decide_true,@decide_false⟩

theorem DD:(type_of% D0)∧(type_of% D1)∧(type_of% D2)∧(type_of% D3)∧(type_of% D4)∧(type_of% D5)∧(type_of% D6)∧(type_of% D7)∧(type_of% D8)∧(type_of% D9)∧(type_of% D10):=⟨D0,D1,D2,D3,D4,D5,D6,D7,D8,D9,D10⟩
theorem UU:(type_of% U0)∧(type_of% U1)∧(type_of% U2)∧(type_of% U3)∧(type_of% U4)∧(type_of% U5)∧(type_of% U6)∧(type_of% U7)∧(type_of% U8)∧(type_of% U9)∧(type_of% U10)∧(type_of% @eq_self.{1}):=⟨U0,U1,U2,U3,U4,U5,U6,U7,U8,U9,U10,@eq_self.{1}⟩
end Go.Ev
