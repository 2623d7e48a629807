import Derived.Test.YtfoejfohbkmmeaaGreatDoorProg
import Derived.WalkKit
import Derived.WalkLawsBesides
import Derived.WalkSpells
import Derived.Outline
import Derived.Lib.Hide
import Derived.Lib.LaidTab
import Derived.Lib.SmallJoins
import Derived.Shelf.Strconv.Itoa4
import Derived.Below
import Derived.Shelf.Small.Strs
import Derived.Shelf.LaysM
import Derived.Shelf.Strconv.ParseIntPublic10
import Derived.Shelf.Strconv.ErrVarParseInt
import Derived.Shelf.Strings.Prefix
import Derived.Shelf.Strings.Replace
import Derived.Shelf.Strings.SplitShaped
import Derived.Shelf.Small.Bits
import Derived.Shelf.Strings.Split
import Derived.Shelf.Strings.IndexAny
set_option linter.defProp false
open Go.Proofs.Tryz
namespace Go.Proofs.YtfoejfohbkmmeaaGreatDoor
open Go.RowKit
def Z.{u}{α:Sort u}{a:α}:a=a:=rfl
def Zz.{u}{α:Sort u}{a:α}:a=a:=rfl
def O{p:Prop}(h:p:=by omega):p:=h
def I{p:Prop}(h:p:=by decide):p:=h
def U{p:Prop}(h:p:=by kernel_rfl):p:=h
def F{p:Prop}(h:p:=by simp):p:=h
def O0{p:Prop}(h:p:=by omega):p:=h
def I1{p:Prop}(h:p:=by decide):p:=h
def U0{p:Prop}(h:p:=by kernel_rfl):p:=h
def F0{p:Prop}(h:p:=by simp):p:=h
def Zy.{u,v}{α:Sort u}{β:Sort v}{f:α->β}:∀a,f a=f a:=λ_=>rfl
def Q2:type_of% @List.getElem?_eq_getElem:=@List.getElem?_eq_getElem
def Q3:type_of% @Nat.le_refl:=@Nat.le_refl
def Q4:type_of% @List.length_append:=@List.length_append
def Q5:type_of% @List.length_cons:=@List.length_cons
def Q6:type_of% @List.getElem?_eq_some_iff:=@List.getElem?_eq_some_iff
def Q7:type_of% @Nat.le_trans:=@Nat.le_trans
def Q8:type_of% @List.mem_of_getElem?:=@List.mem_of_getElem?
def Q9:type_of% @Bool.and_eq_true:=@Bool.and_eq_true
def Ra:type_of% @List.length_nil:=@List.length_nil
def Rb:type_of% @List.length_take:=@List.length_take
def Rc:type_of% @List.drop_of_length_le:=@List.drop_of_length_le
def Re:type_of% @List.drop_eq_getElem_cons:=@List.drop_eq_getElem_cons
def Rf:type_of% @List.take_of_length_le:=@List.take_of_length_le
def Rg:type_of% @Nat.zero_le:=@Nat.zero_le
def Rh:type_of% @Nat.lt_of_lt_of_le:=@Nat.lt_of_lt_of_le
def Ri:type_of% @List.mem_cons:=@List.mem_cons
def Rj:type_of% @List.eq_nil_of_length_eq_zero:=@List.eq_nil_of_length_eq_zero
def Rk:type_of% @Nat.mul_comm:=@Nat.mul_comm
def Rl:type_of% @List.all_eq_true:=@List.all_eq_true
def Rm:type_of% @List.length_drop:=@List.length_drop
def Rn:type_of% @List.length_map:=@List.length_map
def Ro:type_of% @Option.some.injEq:=@Option.some.injEq
def Rp:type_of% @Bool.or_eq_false_iff:=@Bool.or_eq_false_iff
def Rr:type_of% @List.getD_eq_getElem?_getD:=@List.getD_eq_getElem?_getD
def Rs:type_of% @List.mem_singleton:=@List.mem_singleton
def Ru:type_of% @List.getElem?_append_right:=@List.getElem?_append_right
def Rv:type_of% @List.getElem?_append_left:=@List.getElem?_append_left
def Rw:type_of% @List.mem_cons_self:=@List.mem_cons_self
def Rx:type_of% @Nat.pow_le_pow_right:=@Nat.pow_le_pow_right
def Ry:type_of% @Nat.mul_assoc:=@Nat.mul_assoc
def Rz:type_of% @List.take_succ_eq_append_getElem:=@List.take_succ_eq_append_getElem
def RA:type_of% @Nat.pow_succ:=@Nat.pow_succ
def RB:type_of% @Nat.mul_le_mul_right:=@Nat.mul_le_mul_right
def RC:type_of% @Nat.mod_eq_of_lt:=@Nat.mod_eq_of_lt
def RD:type_of% @List.mem_cons_of_mem:=@List.mem_cons_of_mem
def RE:type_of% @Nat.lt_or_ge:=@Nat.lt_or_ge
def RF:type_of% @Nat.mul_add:=@Nat.mul_add
def RG:type_of% @List.mem_of_mem_take:=@List.mem_of_mem_take
def RH:type_of% @Option.getD_some:=@Option.getD_some
def RI:type_of% @List.mem_append:=@List.mem_append
def RJ:type_of% @Nat.mod_lt:=@Nat.mod_lt
def RK:type_of% @List.getElem?_map:=@List.getElem?_map
def RL:type_of% @List.append_assoc:=@List.append_assoc
def RM:type_of% @List.mem_nil_iff:=@List.mem_nil_iff
def RN:type_of% @Array.getElem?_eq_getElem:=@Array.getElem?_eq_getElem
def RO:type_of% @List.length_set:=@List.length_set
def RP:type_of% @List.append_nil:=@List.append_nil
def RQ:type_of% @Array.getElem?_eq_some_iff:=@Array.getElem?_eq_some_iff
def RR:type_of% @Nat.pos_of_ne_zero:=@Nat.pos_of_ne_zero
def RS:type_of% @ByteArray.size_extract:=@ByteArray.size_extract
def RU:type_of% @Array.getD_eq_getD_getElem?:=@Array.getD_eq_getD_getElem?
def RV:type_of% @Nat.eq_zero_or_pos:=@Nat.eq_zero_or_pos
def RW:type_of% @Nat.sub_self:=@Nat.sub_self
def RX:type_of% @List.contains_iff_mem:=@List.contains_iff_mem
def RY:type_of% @List.getElem?_cons_zero:=@List.getElem?_cons_zero
def RZ:type_of% @IntKind.wrap_i64:=@IntKind.wrap_i64
def R0:type_of% @Bool.false_ne_true:=@Bool.false_ne_true
def R2:type_of% @Nat.add_mul:=@Nat.add_mul
def R3:type_of% @List.take_append_drop:=@List.take_append_drop
def R4:type_of% @Nat.zero_add:=@Nat.zero_add
def R5:type_of% @Nat.blt_eq:=@Nat.blt_eq
def R6:type_of% @List.getElem_mem:=@List.getElem_mem
def R7:type_of% @List.getElem?_take:=@List.getElem?_take
def R8:type_of% @List.getElem?_eq_none:=@List.getElem?_eq_none
def R9:type_of% @Option.map_eq_some_iff:=@Option.map_eq_some_iff
def Sa:type_of% @List.take_length:=@List.take_length
def Sb:type_of% @List.map_cons:=@List.map_cons
def Sc:type_of% @List.nil_append:=@List.nil_append
def Sd:type_of% @Array.length_toList:=@Array.length_toList
def Se:type_of% @List.getElem?_set_ne:=@List.getElem?_set_ne
def Sf:type_of% @List.mem_of_mem_drop:=@List.mem_of_mem_drop
def Sg:type_of% @Nat.div_lt_iff_lt_mul:=@Nat.div_lt_iff_lt_mul
def Sh:type_of% @Nat.pow_pos:=@Nat.pow_pos
def Si:type_of% @List.getElem?_drop:=@List.getElem?_drop
def Sk:type_of% @Bool.not_eq_true':=@Bool.not_eq_true'
def Sl:type_of% @List.getElem_of_mem:=@List.getElem_of_mem
def Sm:type_of% @Bool.or_eq_true:=@Bool.or_eq_true
def Sn:type_of% @List.map_append:=@List.map_append
def So:type_of% @List.getElem?_set_self:=@List.getElem?_set_self
def Sp:type_of% @Option.bind_some:=@Option.bind_some
def Sq:type_of% @List.cons_append:=@List.cons_append
def Sr:type_of% @Option.map_some:=@Option.map_some
def Ss:type_of% @List.length_singleton:=@List.length_singleton
def Su:type_of% @List.drop_zero:=@List.drop_zero
def Sv:type_of% @List.mem_map:=@List.mem_map
def Sw:type_of% @Option.some.inj:=@Option.some.inj
def Sz:type_of% @Nat.mul_le_mul_left:=@Nat.mul_le_mul_left
def SA:type_of% @List.takeWhile_cons:=@List.takeWhile_cons
def SB:type_of% @Nat.add_zero:=@Nat.add_zero
def SC:type_of% @Array.getElem?_toList:=@Array.getElem?_toList
def SD:type_of% @Nat.min_eq_left:=@Nat.min_eq_left
def SE:type_of% @Array.toList_append:=@Array.toList_append
def SF:type_of% @Nat.pow_add:=@Nat.pow_add
def SG:type_of% @Nat.lt_of_le_of_lt:=@Nat.lt_of_le_of_lt
def SH:type_of% @Nat.div_div_eq_div_mul:=@Nat.div_div_eq_div_mul
def SI:type_of% @List.flatMap_cons:=@List.flatMap_cons
def SJ:type_of% @List.all_cons:=@List.all_cons
def SK:type_of% @Nat.shiftLeft_add_eq_or_of_lt:=@Nat.shiftLeft_add_eq_or_of_lt
def SL:type_of% @Decidable.not_not:=@Decidable.not_not
def SM:type_of% @List.zip_cons_cons:=@List.zip_cons_cons
def SN:type_of% @Nat.add_comm:=@Nat.add_comm
def SO:type_of% @List.getElem?_toArray:=@List.getElem?_toArray
def SP:type_of% @Int.sign_eq_neg_one_of_neg:=@Int.sign_eq_neg_one_of_neg
def SQ:type_of% @Nat.mul_left_comm:=@Nat.mul_left_comm
def SR:type_of% @Array.mapM_eq_mapM_toList:=@Array.mapM_eq_mapM_toList
def ST:type_of% @Nat.mul_one:=@Nat.mul_one
def SU:type_of% @IntKind.wrap_u32:=@IntKind.wrap_u32
def SV:type_of% @List.map_congr_left:=@List.map_congr_left
def SW:type_of% @List.replicate_zero:=@List.replicate_zero
def SX:type_of% @Array.getElem?_modify:=@Array.getElem?_modify
def SY:type_of% @List.set_append_right:=@List.set_append_right
def SZ:type_of% @Bool.and_eq_false_iff:=@Bool.and_eq_false_iff
def S1:type_of% @ByteArray.size_append:=@ByteArray.size_append
def S3:type_of% @Array.toList_setIfInBounds:=@Array.toList_setIfInBounds
def S4:type_of% @Nat.add_assoc:=@Nat.add_assoc
def S5:type_of% @Nat.div_eq_of_lt:=@Nat.div_eq_of_lt
def S6:type_of% @Int.sign_eq_one_of_pos:=@Int.sign_eq_one_of_pos
def S7:type_of% @List.take_succ_cons:=@List.take_succ_cons
def S8:type_of% @List.drop_succ_cons:=@List.drop_succ_cons
def S9:type_of% @List.all_append:=@List.all_append
def Ta:type_of% @UInt8.toNat_inj:=@UInt8.toNat_inj
def Tb:type_of% @List.set_cons_zero:=@List.set_cons_zero
def Tc:type_of% @Array.getElem?_append_left:=@Array.getElem?_append_left
def Td:type_of% @Prod.mk.injEq:=@Prod.mk.injEq
def Te:type_of% @Int.tmod_eq_emod_of_nonneg:=@Int.tmod_eq_emod_of_nonneg
def Tf:type_of% @Nat.le_of_eq:=@Nat.le_of_eq
def Tg:type_of% @List.any_eq_false:=@List.any_eq_false
def Th:type_of% @List.foldl_cons:=@List.foldl_cons
def Ti:type_of% @Nat.div_le_self:=@Nat.div_le_self
def Tj:type_of% @Nat.and_two_pow_sub_one_eq_mod:=@Nat.and_two_pow_sub_one_eq_mod
def Tk:type_of% @List.map_toArray:=@List.map_toArray
def Tl:type_of% @UInt8.toNat_ofNat':=@UInt8.toNat_ofNat'
def Tm:type_of% @Nat.shiftLeft_eq:=@Nat.shiftLeft_eq
def Tn:type_of% @Nat.add_sub_cancel:=@Nat.add_sub_cancel
def To:type_of% @List.not_mem_nil:=@List.not_mem_nil
def Tq:type_of% @Nat.mul_le_mul:=@Nat.mul_le_mul
def Tr:type_of% @List.mem_range:=@List.mem_range
def Ts:type_of% @Nat.pow_lt_pow_right:=@Nat.pow_lt_pow_right
def Tt:type_of% @Nat.div_add_mod:=@Nat.div_add_mod
def Tu:type_of% @Nat.pow_mul:=@Nat.pow_mul
def Tv:type_of% @List.map_take:=@List.map_take
def Tw:type_of% @List.map_drop:=@List.map_drop
def Tx:type_of% @Bool.true_and:=@Bool.true_and
def Ty:type_of% @Bool.false_eq_true:=@Bool.false_eq_true
def Tz:type_of% @Nat.eq_of_beq_eq_true:=@Nat.eq_of_beq_eq_true
def TA:type_of% @List.length_replicate:=@List.length_replicate
def TB:type_of% @Nat.div_mul_cancel:=@Nat.div_mul_cancel
def TC:type_of% @Nat.one_mul:=@Nat.one_mul
def TD:type_of% @List.map_nil:=@List.map_nil
def TE:type_of% @Bool.eq_iff_iff:=@Bool.eq_iff_iff
def TF:type_of% @Nat.gcd_comm:=@Nat.gcd_comm
def TG:type_of% @Int.toNat_natCast:=@Int.toNat_natCast
def TH:type_of% @Option.bind_eq_some_iff:=@Option.bind_eq_some_iff
def TI:type_of% @Bool.or_eq_true_iff:=@Bool.or_eq_true_iff
def TJ:type_of% @Nat.mul_pos:=@Nat.mul_pos
def TK:type_of% @List.takeWhile_sublist:=@List.takeWhile_sublist
def TL:type_of% @Nat.mul_zero:=@Nat.mul_zero
def TM:type_of% @Nat.pow_zero:=@Nat.pow_zero
def TN:type_of% @List.ext_getElem?:=@List.ext_getElem?
def TO:type_of% @List.getElem_drop:=@List.getElem_drop
def TP:type_of% @Array.size_append:=@Array.size_append
def TQ:type_of% @List.mem_append_left:=@List.mem_append_left
def TR:type_of% @Array.ext':=@Array.ext'
def TS:type_of% @List.mem_or_eq_of_mem_set:=@List.mem_or_eq_of_mem_set
def TT:type_of% @Nat.add_mul_div_left:=@Nat.add_mul_div_left
def TU:type_of% @Nat.add_mul_mod_self_left:=@Nat.add_mul_mod_self_left
def TV:type_of% @Nat.div_one:=@Nat.div_one
def TW:type_of% @Nat.sub_zero:=@Nat.sub_zero
def TX:type_of% @List.any_eq_true:=@List.any_eq_true
def TY:type_of% @List.replicate_succ:=@List.replicate_succ
def TZ:type_of% @Nat.mul_div_cancel_left:=@Nat.mul_div_cancel_left
def T0:type_of% @Nat.gcd_pos_of_pos_left:=@Nat.gcd_pos_of_pos_left
def T1:type_of% @Iff.rfl:=@Iff.rfl
def T2:type_of% @List.set_cons_succ:=@List.set_cons_succ
def T3:type_of% @List.contains_cons:=@List.contains_cons
def T4:type_of% @List.cons.injEq:=@List.cons.injEq
def T5:type_of% @Nat.not_lt_zero:=@Nat.not_lt_zero
def T6:type_of% @Nat.gcd_zero_right:=@Nat.gcd_zero_right
def T7:type_of% @List.pairwise_cons:=@List.pairwise_cons
def T8:type_of% @List.getElem_cons_zero:=@List.getElem_cons_zero
def T9:type_of% @List.take_append_of_le_length:=@List.take_append_of_le_length
def Ua:type_of% @List.getElem?_set:=@List.getElem?_set
def Ub:type_of% @Nat.lt_trichotomy:=@Nat.lt_trichotomy
def Uc:type_of% @Nat.zero_mul:=@Nat.zero_mul
def Ud:type_of% @List.take_zero:=@List.take_zero
def Ue:type_of% @UInt8.lt_iff_toNat_lt:=@UInt8.lt_iff_toNat_lt
def Uf:type_of% @List.take_append:=@List.take_append
def Ug:type_of% @List.ext_getElem:=@List.ext_getElem
def Uh:type_of% @Nat.lt_succ_self:=@Nat.lt_succ_self
def Ui:type_of% @Nat.sub_le:=@Nat.sub_le
def Uj:type_of% @List.pairwise_append:=@List.pairwise_append
def Uk:type_of% @Int.fdiv_eq_ediv_of_nonneg:=@Int.fdiv_eq_ediv_of_nonneg
def Ul:type_of% @List.flatMap_append:=@List.flatMap_append
def Um:type_of% @Int.natCast_mul:=@Int.natCast_mul
def Un:type_of% @List.getElem_append_right:=@List.getElem_append_right
def Uo:type_of% @IntKind.wrap_u8:=@IntKind.wrap_u8
def Up:type_of% @List.mem_replicate:=@List.mem_replicate
def Uq:type_of% @List.drop_take:=@List.drop_take
def Ur:type_of% @List.getElem?_cons_succ:=@List.getElem?_cons_succ
def Us:type_of% @List.size_toArray:=@List.size_toArray
def Ut:type_of% @List.reverse_cons:=@List.reverse_cons
def Uu:type_of% @Nat.gcd_zero_left:=@Nat.gcd_zero_left
def Uv:type_of% @Nat.succ_le_of_lt:=@Nat.succ_le_of_lt
def Uw:type_of% @Int.lt_trichotomy:=@Int.lt_trichotomy
def Ux:type_of% @Array.getElem?_eq_none:=@Array.getElem?_eq_none
def Uy:type_of% @Option.map_eq_none_iff:=@Option.map_eq_none_iff
def Uz:type_of% @List.set_eq_take_append_cons_drop:=@List.set_eq_take_append_cons_drop
def UA:type_of% @List.any_cons:=@List.any_cons
def UB:type_of% @Array.all_eq_true_iff_forall_mem:=@Array.all_eq_true_iff_forall_mem
def UC:type_of% @Nat.gcd_dvd_left:=@Nat.gcd_dvd_left
def UD:type_of% @ByteArray.data_append:=@ByteArray.data_append
def UE:type_of% @Nat.le_div_iff_mul_le:=@Nat.le_div_iff_mul_le
def UF:type_of% @List.singleton_append:=@List.singleton_append
def UG:type_of% @List.getElem?_reverse:=@List.getElem?_reverse
def UH:type_of% @List.replicate_append_replicate:=@List.replicate_append_replicate
def UI:type_of% @Nat.succ_pos:=@Nat.succ_pos
def UJ:type_of% @Nat.mul_add_mod:=@Nat.mul_add_mod
def UK:type_of% @Nat.pow_le_pow_left:=@Nat.pow_le_pow_left
def UL:type_of% @Bool.and_false:=@Bool.and_false
def UM:type_of% @List.mem_filterMap:=@List.mem_filterMap
def UN:type_of% @Nat.add_right_comm:=@Nat.add_right_comm
def UO:type_of% @Bool.not_eq_false':=@Bool.not_eq_false'
def UP:type_of% @List.take_set:=@List.take_set
def UQ:type_of% @ByteArray.ext:=@ByteArray.ext
def UR:type_of% @Nat.mul_lt_mul_of_pos_left:=@Nat.mul_lt_mul_of_pos_left
def US:type_of% @List.setIfInBounds_toArray:=@List.setIfInBounds_toArray
def UT:type_of% @Int.ofNat_natAbs_of_nonpos:=@Int.ofNat_natAbs_of_nonpos
def UU:type_of% @List.all_eq_false:=@List.all_eq_false
def UV:type_of% @Nat.le_succ_of_le:=@Nat.le_succ_of_le
def UW:type_of% @List.pairwise_iff_getElem:=@List.pairwise_iff_getElem
def UX:type_of% @Nat.eq_of_mul_eq_mul_left:=@Nat.eq_of_mul_eq_mul_left
def UY:type_of% @Int.sign_eq_zero_iff_zero:=@Int.sign_eq_zero_iff_zero
def UZ:type_of% @Int.mul_neg_of_neg_of_pos:=@Int.mul_neg_of_neg_of_pos
def U1:type_of% @List.drop_append:=@List.drop_append
def U2:type_of% @Array.toList_map:=@Array.toList_map
def U3:type_of% @List.drop_length:=@List.drop_length
def U4:type_of% @Nat.pow_lt_pow_iff_right:=@Nat.pow_lt_pow_iff_right
def U5:type_of% @Nat.mul_lt_mul'':=@Nat.mul_lt_mul''
def U6:type_of% @Nat.le_mul_of_pos_right:=@Nat.le_mul_of_pos_right
def U7:type_of% @List.getLast_eq_getElem:=@List.getLast_eq_getElem
def U8:type_of% @Nat.gcd_le_left:=@Nat.gcd_le_left
def U9:type_of% @Nat.mul_add_div:=@Nat.mul_add_div
def Va:type_of% @Array.getElem!_eq_getD:=@Array.getElem!_eq_getD
def Vb:type_of% @Nat.or_comm:=@Nat.or_comm
def Vc:type_of% @Nat.dvd_of_mod_eq_zero:=@Nat.dvd_of_mod_eq_zero
def Vd:type_of% @Nat.mod_one:=@Nat.mod_one
def Ve:type_of% @Nat.gcd_rec:=@Nat.gcd_rec
def Vf:type_of% @Nat.gcd_sub_self_right:=@Nat.gcd_sub_self_right
def Vg:type_of% @Nat.eq_zero_of_not_pos:=@Nat.eq_zero_of_not_pos
def Vh:type_of% @List.mem_append_right:=@List.mem_append_right
def Vi:type_of% @List.mapM_cons:=@List.mapM_cons
def Vj:type_of% @Array.mem_of_getElem?:=@Array.mem_of_getElem?
def Vk:type_of% @List.take_take:=@List.take_take
def Vl:type_of% @Nat.mul_mod_mul_right:=@Nat.mul_mod_mul_right
def Vm:type_of% @List.drop_drop:=@List.drop_drop
def Vn:type_of% @List.modify_succ_cons:=@List.modify_succ_cons
def Vo:type_of% @List.length_insertIdx:=@List.length_insertIdx
def Vp:type_of% @Nat.le_sub_one_of_lt:=@Nat.le_sub_one_of_lt
def Vq:type_of% @Int.natAbs_of_nonneg:=@Int.natAbs_of_nonneg
def Vs:type_of% @Bool.and_self:=@Bool.and_self
def Vt:type_of% @Bool.false_or:=@Bool.false_or
def Vu:type_of% @List.drop_set_of_lt:=@List.drop_set_of_lt
def Vv:type_of% @List.getD_cons_succ:=@List.getD_cons_succ
def Vw:type_of% @Option.isSome_none:=@Option.isSome_none
def Vx:type_of% @List.map_set:=@List.map_set
def Vy:type_of% @Nat.mod_mod_of_dvd:=@Nat.mod_mod_of_dvd
def Vz:type_of% @Nat.and_one_is_mod:=@Nat.and_one_is_mod
def VA:type_of% @Nat.le_of_lt:=@Nat.le_of_lt
def VB:type_of% @List.zip_nil_right:=@List.zip_nil_right
def VC:type_of% @Bool.or_comm:=@Bool.or_comm
def VD:type_of% @Nat.min_self:=@Nat.min_self
def VE:type_of% @Int.emod_lt_of_pos:=@Int.emod_lt_of_pos
def VF:type_of% @List.flatten_cons:=@List.flatten_cons
def VG:type_of% @Nat.or_lt_two_pow:=@Nat.or_lt_two_pow
def VH:type_of% @Nat.gcd_dvd_right:=@Nat.gcd_dvd_right
def VI:type_of% @List.foldl_append:=@List.foldl_append
def VJ:type_of% @Nat.le_succ:=@Nat.le_succ
def VK:type_of% @Int.neg_mul:=@Int.neg_mul
def VU:type_of% @Nat.ble_eq:=@Nat.ble_eq
def NL{P:Program}{f:FuncId}{args:Array Value}{w:World}{v:Value}(h:Calls P f args w λe w'=>e=.returned v/\w=w'):Calls P f args w λe w'=>e=.returned v/\w'=w:=h.mono λ_ _ ⟨a,b⟩=>⟨a,b.symm⟩
structure Env (w:World):Prop where
 maxLen:∃m,w.cell? ⟨0,0,none⟩=some (.int .i64 m)
 pow10:Lib.TabIs prog w "internal/strconv.uint64pow10" .u64 Lib.pow10Tab
 errSyntax:∃tp p,w.var? prog "strconv.ErrSyntax" =some #[.iface tp p]
 errRange:∃tp p,w.var? prog "strconv.ErrRange" =some #[.iface tp p]
def Dm:prog.globalNamed "internal/strconv.uint64pow10" =some 1:=U
def pP:prog.globalNamed "strconv.ErrSyntax" =some 4:=U
def se:prog.globalNamed "strconv.ErrRange" =some 5:=U
def Dn{P:Program}{w:World}{n:String}{g:Nat}{cs:Array Value}(c:P.globalNamed n=some g)(h:w.var? P n=some cs):g<w.heap.size:=by
 rcases RE g w.heap.size with b|a
 ·exact b
 simp[World.var?,c,Ux a]at h
def Env.below{w w':World}{B:Nat}(h:Env w)(a:Below B w w')(l:w.heap.size<=B):Env w':=by
 obtain⟨m,e⟩:=h.maxLen;obtain⟨tp,p,c⟩:=h.errSyntax;obtain⟨b,g,d⟩:=h.errRange;have i:=Dn pP c;have j:=Dn se d;have k:=Dn Dm h.pow10;have f:=World.block_lt_of_cell? _ _ e;exact⟨⟨m,(a.cell (p:=⟨0,0,none⟩) (by simp at f⊢;omega)).trans e⟩,var?_below a Dm O h.pow10,⟨tp,p,var?_below a pP O c⟩,⟨b,g,var?_below a se O d⟩⟩
def Pp(w:World)(t:TypeId)(a b c:Value):
  ∃W,w.alloc (.cells #[a,b,c] t)=W/\Below w.heap.size w W/\W.heap.size=w.heap.size+1/\
   W.cell? ⟨w.heap.size,0,none⟩=some a/\W.cell? ⟨w.heap.size,1,none⟩=some b/\W.cell? ⟨w.heap.size,2,none⟩=some c:=by
 refine⟨_,Z,(Below.refl _ _).alloc (Q3 _) _,F,?_,?_,?_⟩<;>simp[go_sem]
def Qz(w:World)(t:TypeId)(a b c y0 d e:Value):
  ∃W,(w.alloc (.cells #[a,b,c] t)).alloc (.cells #[y0,d,e] t)=W/\Below w.heap.size w W/\W.heap.size=w.heap.size+2/\
   W.cell? ⟨w.heap.size,0,none⟩=some a/\W.cell? ⟨w.heap.size,1,none⟩=some b/\W.cell? ⟨w.heap.size,2,none⟩=some c/\
   W.cell? ⟨w.heap.size+1,0,none⟩=some y0/\W.cell? ⟨w.heap.size+1,1,none⟩=some d/\W.cell? ⟨w.heap.size+1,2,none⟩=some e:=by
 refine⟨_,Z,((Below.refl _ _).alloc (Q3 _) _).alloc F _,F,?_,?_,?_,?_,?_,?_⟩<;>simp[go_sem]
def IsBlk(w:World)(g:Nat)(t:TypeId)(cs:Array Value):Prop:=w.heap[g]? =some (.cells cs t (0,0))
def IsBlk.lt{w:World}{g:Nat}{t:TypeId}{cs:Array Value}(h:IsBlk w g t cs):g<w.heap.size:=(RQ.1 h).1
def IsBlk.cell{w:World}{g:Nat}{t:TypeId}{cs:Array Value}(h:IsBlk w g t cs)(i:Nat):w.cell? ⟨g,i,none⟩=cs[i]? :=cell_of_row w g i cs t (0,0) h
def IsBlk.free{w:World}{g:Nat}{t:TypeId}{cs:Array Value}(h:IsBlk w g t cs)(i:Nat):w.frozen? ⟨g,i,none⟩=false:=by
 unfold IsBlk at h;simp[World.frozen?,h]
def iF(w:World)(t:TypeId)(cs:Array Value):IsBlk (w.alloc (.cells cs t)) w.heap.size t cs:=heap_alloc_new w _
def IsBlk.below{w w':World}{g B:Nat}{t:TypeId}{cs:Array Value}(h:IsBlk w g t cs)(a:Below B w w')(b:g<B):IsBlk w' g t cs:=(a.block g b).trans h
def IsBlk.alloc{w:World}{g:Nat}{t:TypeId}{cs:Array Value}(h:IsBlk w g t cs)(o:Obj):IsBlk (w.alloc o) g t cs:=(Below.heap_alloc w o g h.lt).trans h
def IsBlk.put{w:World}{g:Nat}{t:TypeId}{cs:Array Value}(h:IsBlk w g t cs)(i:Nat)(u:Value):IsBlk (w.setCell ⟨g,i,none⟩ u) g t (cs.setIfInBounds i u):=by
 unfold IsBlk at h⊢;simp[World.setCell,SX,h]
def IsBlk.three{w:World}{g:Nat}{t:TypeId}{a b c:Value}(h:IsBlk w g t #[a,b,c]):
  w.cell? ⟨g,0,none⟩=some a/\w.cell? ⟨g,1,none⟩=some b/\w.cell? ⟨g,2,none⟩=some c/\w.frozen? ⟨g,0,none⟩=false/\w.frozen? ⟨g,1,none⟩=false/\w.frozen? ⟨g,2,none⟩=false:=
 ⟨h.cell 0,h.cell 1,h.cell 2,h.free 0,h.free 1,h.free 2⟩
def iG{w:World}{g:Nat}{t:TypeId}{i j l:Value}(h:IsBlk w g t #[i,j,l])(y0 a b:Value):
  ∃W,((w.setCell ⟨g,0,none⟩ y0).setCell ⟨g,1,none⟩ a).setCell ⟨g,2,none⟩ b=W/\IsBlk W g t #[y0,a,b]/\Below g w W/\W.heap.size=w.heap.size/\(∀k,k≠g->W.heap[k]? =w.heap[k]?):=by
 have d:=(Below.refl g w).setCell (p:=⟨g,0,none⟩) (Q3 g) y0;have e:=d.setCell (p:=⟨g,1,none⟩) (Q3 g) a;have f:=e.setCell (p:=⟨g,2,none⟩) (Q3 g) b;refine⟨_,Z,?_,f,by simp[World.setCell],λk c=>?_⟩
 ·have:=((h.put 0 y0).put 1 a).put 2 b;simpa using this
 rw[Below.heap_setCell _ _ _ _ c,Below.heap_setCell _ _ _ _ c,Below.heap_setCell _ _ _ _ c]
end Go.Proofs.YtfoejfohbkmmeaaGreatDoor
namespace Go.Proofs
open Go.Shelf Tryz
def fxS {o:Option Func} {a b:Func} (h:o=some a) (k:a=b:=by kernel_rfl):o=some b:=h.trans (congrArg some k)
def Tryz.lays128_ren:Go.Shelf.Ren:=⟨fun|128=>194|n=>n,fun|51=>50|3=>3|4=>4|46=>36|5=>5|9=>9|n=>n,fun|n=>n⟩
def Tryz.lays128:Go.Proofs.Lays.n128 Tryz.prog Tryz.lays128_ren:={mixed:=by kernel_rfl,f128:=fxS func194,t3:=underlying3,a3:=isAgg3,z3:=sizeOf3,v3:=zeroValue3,t4:=underlying4,a4:=isAgg4,z4:=sizeOf4,v4:=zeroValue4,t5:=underlying5,a5:=isAgg5,z5:=sizeOf5,v5:=zeroValue5,t9:=underlying9,a9:=isAgg9,z9:=sizeOf9,v9:=zeroValue9,t46:=underlying36,a46:=isAgg36,z46:=sizeOf36,v46:=zeroValue36,t51:=underlying50,a51:=isAgg50,z51:=sizeOf50,v51:=zeroValue50}
def Tryz.bits_Len32 (x:Int) (w:World) (h0:0≤x) (h1:x≤4294967295):
    Calls Tryz.prog 194 #[.int .u32 x] w fun e w'=>e=.returned (.int .i64 (Lib.bitLen x.toNat))∧w'=w:=Any.bits_Len32 Tryz.lays128 x w h0 h1
def Tryz.lays125_ren:Go.Shelf.Ren:=⟨fun|125=>212|128=>194|129=>247|n=>n,fun|46=>36|3=>3|51=>50|53=>89|4=>4|5=>5|9=>9|n=>n,fun|n=>n⟩
def Tryz.lays125:Go.Proofs.Lays.n125 Tryz.prog Tryz.lays125_ren:={Tryz.lays128 with f125:=fxS func212,f128:=fxS func194,f129:=fxS func247,t53:=underlying89,a53:=isAgg89,z53:=sizeOf89,v53:=zeroValue89}
def Tryz.bits_Len (x:Int) (w:World) (h0:0≤x) (h1:x≤18446744073709551615):
    Calls Tryz.prog 212 #[.int .u64 x] w fun e w'=>e=.returned (.int .i64 (Lib.bitLen x.toNat))∧w'=w:=Any.bits_Len Tryz.lays125 x w h0 h1
def Tryz.lays133_ren:Go.Shelf.Ren:=⟨fun|133=>267|128=>194|n=>n,fun|51=>50|3=>3|4=>4|46=>36|5=>5|9=>9|n=>n,fun|n=>n⟩
def Tryz.lays133:Go.Proofs.Lays.n133 Tryz.prog Tryz.lays133_ren:={Tryz.lays128 with f128:=fxS func194,f133:=fxS func267}
def Tryz.bits_LeadingZeros32 (x:Int) (w:World) (h0:0≤x) (h1:x≤4294967295):
    Calls Tryz.prog 267 #[.int .u32 x] w fun e w'=>e=.returned (.int .i64 (32-(Lib.bitLen x.toNat:Int)))∧w'=w:=Any.bits_LeadingZeros32 Tryz.lays133 x w h0 h1
def Tryz.lays106_ren:Go.Shelf.Ren:=⟨fun|106=>188|213=>229|265=>256|n=>n,fun|9=>9|3=>3|n=>n,fun|n=>n⟩
def Tryz.lays106:Go.Proofs.Lays.n106 Tryz.prog Tryz.lays106_ren:={Tryz.lays128 with f106:=fxS func188,f213:=fxS func229,f265:=fxS func256}
open Go.RowKit in
def Tryz.strings_Compare (a b:ByteArray) (w:World):
    Calls Tryz.prog 188 #[.string a,.string b] w fun e w'=>e=.returned (.int .i64 (Lib.compareBytes a.data.toList b.data.toList))∧w'=w:=Any.strings_Compare Tryz.lays106 a b w
def Tryz.laysM173_ren:Go.Shelf.Ren:=⟨fun|173=>105|246=>170|283=>218|284=>219|285=>220|286=>221|129=>247|317=>250|318=>251|319=>252|320=>253|337=>273|338=>274|n=>n,fun|2=>2|3=>3|9=>9|4=>4|171=>213|0=>0|53=>89|37=>22|5=>5|173=>216|212=>241|51=>50|20=>20|213=>242|46=>36|232=>269|233=>270|n=>n,fun|17=>1|18=>6|19=>7|n=>n⟩
def Tryz.laysM173:Go.Proofs.LaysM.n173 Tryz.prog Tryz.laysM173_ren:={Tryz.lays125 with f129:=fxS func247,f173:=fxS func105,f246:=fxS func170,f283:=fxS func218,f284:=fxS func219,f285:=fxS func220,f286:=fxS func221,f317:=fxS func250,f318:=fxS func251,f319:=fxS func252,f320:=fxS func253,f337:=fxS func273,f338:=fxS func274,t0:=underlying0,a0:=isAgg0,z0:=sizeOf0,v0:=zeroValue0,t2:=underlying2,a2:=isAgg2,z2:=sizeOf2,v2:=zeroValue2,t20:=underlying20,a20:=isAgg20,z20:=sizeOf20,v20:=zeroValue20,t37:=underlying22,a37:=isAgg22,z37:=sizeOf22,v37:=zeroValue22,t171:=underlying213,a171:=isAgg213,z171:=sizeOf213,v171:=zeroValue213,t173:=underlying216,a173:=isAgg216,z173:=sizeOf216,v173:=zeroValue216,t212:=underlying241,a212:=isAgg241,z212:=sizeOf241,v212:=zeroValue241,t213:=underlying242,a213:=isAgg242,z213:=sizeOf242,t232:=underlying269,a232:=isAgg269,z232:=sizeOf269,v232:=zeroValue269,t233:=underlying270,a233:=isAgg270,z233:=sizeOf270,v233:=zeroValue270,g17:=by kernel_rfl,g18:=by kernel_rfl,g19:=by kernel_rfl,i0:=by kernel_rfl,i2:=by kernel_rfl,i3:=by kernel_rfl,i4:=by kernel_rfl,i5:=by kernel_rfl,i9:=by kernel_rfl,i20:=by kernel_rfl,i37:=by kernel_rfl,i46:=by kernel_rfl,i51:=by kernel_rfl,i53:=by kernel_rfl,i171:=by kernel_rfl,i173:=by kernel_rfl,i212:=by kernel_rfl,i232:=by kernel_rfl,i233:=by kernel_rfl,m17:=by kernel_rfl,m18:=by kernel_rfl,m19:=by kernel_rfl}
open Go.RowKit Go.Sort Go.Lib in
def Tryz.strconv_FormatInt_10 (n:Int) (h0: -9223372036854775808≤n) (h1:n≤9223372036854775807) (w:World) (htab:Lib.TabIs Tryz.prog w "internal/strconv.uint64pow10" .u64 Lib.pow10Tab):
    Calls Tryz.prog 105 #[.int .i64 n,.int .i64 10] w fun e w'=>e=.returned (.string ⟨(Lib.itoa n).toArray⟩)∧∃k os,w'=grow (w.drewN k) os:=Any.strconv_FormatInt_10 Tryz.laysM173 n h0 h1 w htab
def Tryz.laysC174_ren:Go.Shelf.Ren:=⟨fun|174=>142|247=>206|245=>207|287=>239|279=>240|280=>241|281=>242|282=>243|321=>261|322=>262|316=>263|171=>265|205=>264|243=>277|246=>170|283=>218|284=>219|285=>220|286=>221|129=>247|317=>250|318=>251|319=>252|320=>253|337=>273|338=>274|n=>n,fun|9=>9|3=>3|2=>2|75=>163|85=>164|4=>4|167=>230|5=>5|53=>89|175=>231|46=>36|168=>233|37=>22|0=>0|210=>255|21=>21|127=>243|145=>268|143=>266|171=>213|173=>216|212=>241|51=>50|20=>20|213=>242|232=>269|233=>270|80=>224|n=>n,fun|15=>4|16=>5|17=>1|18=>6|19=>7|n=>n⟩
def Tryz.laysC174:Go.Proofs.LaysC.n174 Tryz.prog Tryz.laysC174_ren:={Tryz.laysM173 with f129:=fxS func247,f171:=fxS func265,f174:=fxS func142,f205:=fxS func264,f243:=fxS func277,f245:=fxS func207,f246:=fxS func170,f247:=fxS func206,f279:=fxS func240,f280:=fxS func241,f281:=fxS func242,f282:=fxS func243,f283:=fxS func218,f284:=fxS func219,f285:=fxS func220,f286:=fxS func221,f287:=fxS func239,f316:=fxS func263,f317:=fxS func250,f318:=fxS func251,f319:=fxS func252,f320:=fxS func253,f321:=fxS func261,f322:=fxS func262,f337:=fxS func273,f338:=fxS func274,t21:=underlying21,a21:=isAgg21,z21:=sizeOf21,v21:=zeroValue21,t75:=underlying163,a75:=isAgg163,z75:=sizeOf163,v75:=zeroValue163,t85:=underlying164,a85:=isAgg164,z85:=sizeOf164,v85:=zeroValue164,t127:=underlying243,a127:=isAgg243,z127:=sizeOf243,v127:=zeroValue243,t143:=underlying266,a143:=isAgg266,z143:=sizeOf266,v143:=zeroValue266,t145:=underlying268,a145:=isAgg268,z145:=sizeOf268,v145:=zeroValue268,t167:=underlying230,a167:=isAgg230,z167:=sizeOf230,v167:=zeroValue230,t168:=underlying233,a168:=isAgg233,z168:=sizeOf233,v168:=zeroValue233,t175:=underlying231,a175:=isAgg231,z175:=sizeOf231,v175:=zeroValue231,t210:=underlying255,a210:=isAgg255,z210:=sizeOf255,v210:=zeroValue255,g15:=by kernel_rfl,g16:=by kernel_rfl,g17:=by kernel_rfl,g18:=by kernel_rfl,g19:=by kernel_rfl,t80:=underlying224,a80:=isAgg224,z80:=sizeOf224,v80:=zeroValue224,i0:=by kernel_rfl,i2:=by kernel_rfl,i3:=by kernel_rfl,i4:=by kernel_rfl,i5:=by kernel_rfl,i9:=by kernel_rfl,i20:=by kernel_rfl,i21:=by kernel_rfl,i37:=by kernel_rfl,i46:=by kernel_rfl,i51:=by kernel_rfl,i53:=by kernel_rfl,i75:=by kernel_rfl,i80:=by kernel_rfl,i85:=by kernel_rfl,i127:=by kernel_rfl,i143:=by kernel_rfl,i145:=by kernel_rfl,i167:=by kernel_rfl,i168:=by kernel_rfl,i171:=by kernel_rfl,i173:=by kernel_rfl,i175:=by kernel_rfl,i210:=by kernel_rfl,i212:=by kernel_rfl,i232:=by kernel_rfl,i233:=by kernel_rfl,m15:=by kernel_rfl,m16:=by kernel_rfl,m17:=by kernel_rfl,m18:=by kernel_rfl,m19:=by kernel_rfl,c0:=by kernel_rfl,c2:=by kernel_rfl,c3:=by kernel_rfl,c4:=by kernel_rfl,c5:=by kernel_rfl,c9:=by kernel_rfl,c20:=by kernel_rfl,c21:=by kernel_rfl,c37:=by kernel_rfl,c46:=by kernel_rfl,c51:=by kernel_rfl,c53:=by kernel_rfl,c75:=by kernel_rfl,c80:=by kernel_rfl,c85:=by kernel_rfl,c127:=by kernel_rfl,c143:=by kernel_rfl,c145:=by kernel_rfl,c167:=by kernel_rfl,c168:=by kernel_rfl,c171:=by kernel_rfl,c173:=by kernel_rfl,c175:=by kernel_rfl,c210:=by kernel_rfl,c212:=by kernel_rfl,c213:=by kernel_rfl,c232:=by kernel_rfl,c233:=by kernel_rfl}
open Go.RowKit in
def Tryz.strconv_ParseInt_10_at64_ok (s:ByteArray) (hmax:s.size≤9223372036854775806) (v:Int) (h:Lib.parseIntB 64 s.data.toList=.ok v) (w:World):
    Calls Tryz.prog 142 #[.string s,.int .i64 10,.int .i64 64] w fun e w'=>e=.returned (.tuple #[.int .i64 v,.nilIface])∧(w'=w∨∃t,w'=Lib.bytesWorld w 5 t):=Any.strconv_ParseInt_10_at64_ok Tryz.laysC174 s hmax v h w
open Go.RowKit in
def Tryz.strconv_ParseInt_10_at64_range_var (s:ByteArray) (hlim:s.size≤281474976710656) (h:Lib.parseIntB 64 s.data.toList=.range) (tp:TypeId) (p:Value) (w:World) (hvar:w.var? Tryz.prog "strconv.ErrRange" =some #[.iface tp p]):
    Calls Tryz.prog 142 #[.string s,.int .i64 10,.int .i64 64] w fun e w'=>∃N,e=.returned (.tuple #[.int .i64 (Lib.intSat 64 s.data.toList),.iface 233 (.pointer (some ⟨N,0,none⟩))])∧w.heap.size≤N∧w'.heap[N]? =some (.cells #[.string ⟨#[80,97,114,115,101,73,110,116]⟩,.string s,.iface tp p] 255 (0,0))∧Below w.heap.size w w':=Any.strconv_ParseInt_10_at64_range_var Tryz.laysC174 s hlim h tp p w hvar
def Tryz.lays99_ren:Go.Shelf.Ren:=⟨fun|99=>77|206=>144|n=>n,fun|9=>9|4=>4|3=>3|n=>n,fun|n=>n⟩
def Tryz.lays99:Go.Proofs.Lays.n99 Tryz.prog Tryz.lays99_ren:={Tryz.lays128 with f99:=fxS func77,f206:=fxS func144}
open Go.RowKit Go.Lib in
def Tryz.strings_HasPrefix (s p:ByteArray) (w:World):
    Calls Tryz.prog 77 #[.string s,.string p] w fun e w'=>e=.returned (.bool (Lib.hasPrefix s.data.toList p.data.toList))∧w'=w:=Any.strings_HasPrefix Tryz.lays99 s p w
def Tryz.lays146_ren:Go.Shelf.Ren:=⟨fun|146=>28|221=>74|268=>137|138=>138|143=>139|195=>198|197=>199|218=>200|219=>201|260=>232|217=>233|225=>234|224=>235|267=>236|266=>259|314=>260|n=>n,fun|9=>9|31=>59|3=>3|4=>4|0=>0|105=>199|21=>21|5=>5|46=>36|119=>246|139=>249|138=>248|146=>250|51=>50|n=>n,fun|1=>0|3=>2|4=>3|n=>n⟩
def Tryz.lays146:Go.Proofs.Lays.n146 Tryz.prog Tryz.lays146_ren:={Tryz.laysC174 with f138:=fxS func138,f143:=fxS func139,f146:=fxS func28,f195:=fxS func198,f197:=fxS func199,f217:=fxS func233,f218:=fxS func200,f219:=fxS func201,f221:=fxS func74,f224:=fxS func235,f225:=fxS func234,f260:=fxS func232,f266:=fxS func259,f267:=fxS func236,f268:=fxS func137,f314:=fxS func260,t31:=underlying59,a31:=isAgg59,z31:=sizeOf59,v31:=zeroValue59,t105:=underlying199,a105:=isAgg199,z105:=sizeOf199,v105:=zeroValue199,t119:=underlying246,a119:=isAgg246,z119:=sizeOf246,t138:=underlying248,a138:=isAgg248,z138:=sizeOf248,v138:=zeroValue248,t139:=underlying249,a139:=isAgg249,z139:=sizeOf249,v139:=zeroValue249,t146:=underlying250,a146:=isAgg250,z146:=sizeOf250,v146:=zeroValue250,g1:=by kernel_rfl,g3:=by kernel_rfl,g4:=by kernel_rfl}
open Go.RowKit Go.Lib in
def Tryz.strings_Split (s sep:ByteArray) (m:Int) (w:World) (hs:s.size<4294967281) (hm:w.cell? ⟨0,0,none⟩=some (.int .i64 m)) (h1:1≤sep.size):
    Calls Tryz.prog 28 #[.string s,.string sep] w fun e w'=>
      e=.returned (.slice (some ⟨w.heap.size,0,none⟩) (Lib.countB s sep+1) (Lib.countB s sep+1))∧w'=w.alloc (.cells ((Lib.splitB sep 0 (Lib.countB s sep) s).map Value.string).toArray 9):=Any.strings_Split Tryz.lays146 (by kernel_rfl) s sep m w hs hm h1
def Tryz.lays155_ren:Go.Shelf.Ren:=⟨fun|155=>106|154=>171|138=>138|165=>222|143=>139|166=>223|197=>199|169=>224|195=>198|218=>200|240=>254|241=>255|219=>201|260=>232|276=>275|277=>276|217=>233|225=>234|224=>235|267=>236|266=>259|314=>260|n=>n,fun|9=>9|3=>3|4=>4|72=>220|0=>0|76=>222|105=>199|21=>21|5=>5|70=>218|20=>20|37=>22|75=>163|127=>243|164=>264|46=>36|119=>246|139=>249|138=>248|146=>250|51=>50|80=>224|n=>n,fun|1=>0|3=>2|4=>3|n=>n⟩
def Tryz.lays155:Go.Proofs.Lays.n155 Tryz.prog Tryz.lays155_ren:={Tryz.lays146,Tryz.laysC174 with f138:=fxS func138,f143:=fxS func139,f154:=fxS func171,f155:=fxS func106,f165:=fxS func222,f166:=fxS func223,f169:=fxS func224,f195:=fxS func198,f197:=fxS func199,f217:=fxS func233,f218:=fxS func200,f219:=fxS func201,f224:=fxS func235,f225:=fxS func234,f240:=fxS func254,f241:=fxS func255,f260:=fxS func232,f266:=fxS func259,f267:=fxS func236,f276:=fxS func275,f277:=fxS func276,f314:=fxS func260,t70:=underlying218,a70:=isAgg218,z70:=sizeOf218,v70:=zeroValue218,t72:=underlying220,a72:=isAgg220,z72:=sizeOf220,v72:=zeroValue220,t76:=underlying222,a76:=isAgg222,z76:=sizeOf222,v76:=zeroValue222,t164:=underlying264,a164:=isAgg264,z164:=sizeOf264,v164:=zeroValue264,g1:=by kernel_rfl,g3:=by kernel_rfl,g4:=by kernel_rfl}
def Tryz.Builder_Extra_155:Builder.Extra Tryz.prog Tryz.lays155_ren:={
  sizeBuilder:=by kernel_rfl
  liesBuilder:=by kernel_rfl
  t5:=Tryz.underlying5
  a5:=Tryz.isAgg5
  z5:=Tryz.sizeOf5
  v5:=Tryz.zeroValue5
  infoByte:=by kernel_rfl
  cellsByte:=by kernel_rfl
  sizeByte:=by kernel_rfl
  neB5:=by decide}
open Go.RowKit Go.Lib in
def Tryz.strings_ReplaceAll (s old new:ByteArray) (m:Int) (w:World) (hs:s.size<4294967281) (hm:w.cell? ⟨0,0,none⟩=some (.int .i64 m)) (h1:1≤old.size) (hlen:s.size+Lib.countB s old*new.size≤140737488355328):
    Calls Tryz.prog 106 #[.string s,.string old,.string new] w fun e w'=>
      e=.returned (.string ⟨(Lib.replaceAll s.data.toList old.data.toList new.data.toList).toArray⟩)∧Below w.heap.size w w':=Any.strings_ReplaceAll Tryz.lays155 Tryz.Builder_Extra_155 s old new m w hs hm h1 hlen
def Tryz.laysM155_ren:Go.Shelf.Ren:=⟨fun|155=>106|154=>171|138=>138|165=>222|143=>139|166=>223|197=>199|169=>224|195=>198|218=>200|240=>254|241=>255|219=>201|260=>232|276=>275|277=>276|217=>233|225=>234|224=>235|267=>236|266=>259|314=>260|n=>n,fun|9=>9|3=>3|4=>4|72=>220|0=>0|76=>222|105=>199|21=>21|5=>5|70=>218|20=>20|37=>22|75=>163|127=>243|164=>264|46=>36|119=>246|139=>249|138=>248|146=>250|51=>50|80=>224|n=>n,fun|1=>0|3=>2|4=>3|n=>n⟩
def Tryz.laysM155:Go.Proofs.LaysM.n155 Tryz.prog Tryz.laysM155_ren:={Tryz.lays155,Tryz.laysC174 with f138:=fxS func138,f143:=fxS func139,f154:=fxS func171,f155:=fxS func106,f165:=fxS func222,f166:=fxS func223,f169:=fxS func224,f195:=fxS func198,f197:=fxS func199,f217:=fxS func233,f218:=fxS func200,f219:=fxS func201,f224:=fxS func235,f225:=fxS func234,f240:=fxS func254,f241:=fxS func255,f260:=fxS func232,f266:=fxS func259,f267:=fxS func236,f276:=fxS func275,f277:=fxS func276,f314:=fxS func260,g1:=by kernel_rfl,g3:=by kernel_rfl,g4:=by kernel_rfl,i0:=by kernel_rfl,i3:=by kernel_rfl,i4:=by kernel_rfl,i5:=by kernel_rfl,i9:=by kernel_rfl,i20:=by kernel_rfl,i21:=by kernel_rfl,i37:=by kernel_rfl,i46:=by kernel_rfl,i51:=by kernel_rfl,i70:=by kernel_rfl,i72:=by kernel_rfl,i75:=by kernel_rfl,i76:=by kernel_rfl,i80:=by kernel_rfl,i105:=by kernel_rfl,i127:=by kernel_rfl,i138:=by kernel_rfl,i139:=by kernel_rfl,i146:=by kernel_rfl,i164:=by kernel_rfl,m1:=by kernel_rfl,s1_3:=fun w h=>Go.Proofs.cell_of_shapedOpen_int (zero:=#[.int .i64 0]) (t:=3) h (of_decide_eq_true (by kernel_rfl)) (by kernel_rfl) rfl (by kernel_rfl) (by kernel_rfl) Tryz.underlying3,m3:=by kernel_rfl,m4:=by kernel_rfl}
def Tryz.lays153_ren:Go.Shelf.Ren:=⟨fun|153=>140|152=>202|226=>203|227=>204|228=>205|137=>237|119=>238|224=>235|225=>234|217=>233|266=>259|n=>n,fun|9=>9|3=>3|4=>4|5=>5|21=>21|117=>206|116=>205|0=>0|46=>36|124=>229|n=>n,fun|n=>n⟩
def Tryz.lays153:Go.Proofs.Lays.n153 Tryz.prog Tryz.lays153_ren:={Tryz.lays146 with f119:=fxS func238,f137:=fxS func237,f152:=fxS func202,f153:=fxS func140,f217:=fxS func233,f224:=fxS func235,f225:=fxS func234,f226:=fxS func203,f227:=fxS func204,f228:=fxS func205,f266:=fxS func259,t116:=underlying205,a116:=isAgg205,z116:=sizeOf205,t117:=underlying206,a117:=isAgg206,z117:=sizeOf206,v117:=zeroValue206,t124:=underlying229,a124:=isAgg229,z124:=sizeOf229,v124:=zeroValue229}
end Go.Proofs
