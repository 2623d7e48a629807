import Derived.Test.YtfoejfohbkmmeaaGreatDoorProg
import Derived.WalkKit
import Derived.WalkLawsBesides
import Derived.WalkSpells
import Derived.Outline
import Derived.Lib.Hide
import Derived.Lib.LaidTab
import Derived.Lib.SmallJoins
import Derived.Shelf.Strconv.Itoa4
import Derived.Below
namespace Go.Proofs.YtfoejfohbkmmeaaGreatDoor
open Go.RowKit
theorem Z.{u}{α:Sort u}{a:α}:a=a:=rfl
theorem Zz.{u}{α:Sort u}{a:α}:a=a:=rfl
theorem Zy.{u,v}{α:Sort u}{β:Sort v}{f:α->β}:∀a,f a=f a:=fun _=>rfl
theorem L4:type_of% @List.getElem?_eq_getElem:=@List.getElem?_eq_getElem
theorem L5:type_of% @Nat.le_refl:=@Nat.le_refl
theorem L6:type_of% @Nat.le_trans:=@Nat.le_trans
theorem L7:type_of% @List.getElem?_eq_some_iff:=@List.getElem?_eq_some_iff
theorem L8:type_of% @List.length_map:=@List.length_map
theorem L9:type_of% @List.mem_of_getElem?:=@List.mem_of_getElem?
theorem Ma:type_of% @Bool.and_eq_true:=@Bool.and_eq_true
theorem Mb:type_of% @List.length_cons:=@List.length_cons
theorem Mc:type_of% @List.length_append:=@List.length_append
theorem Md:type_of% @List.drop_eq_getElem_cons:=@List.drop_eq_getElem_cons
theorem Me:type_of% @List.take_of_length_le:=@List.take_of_length_le
theorem Mf:type_of% @List.length_take:=@List.length_take
theorem Mg:type_of% @List.drop_of_length_le:=@List.drop_of_length_le
theorem Mh:type_of% @List.all_eq_true:=@List.all_eq_true
theorem Mi:type_of% @List.mem_cons:=@List.mem_cons
theorem Mj:type_of% @List.setIfInBounds_toArray:=@List.setIfInBounds_toArray
theorem Mk:type_of% @List.eq_nil_of_length_eq_zero:=@List.eq_nil_of_length_eq_zero
theorem Ml:type_of% @List.mem_singleton:=@List.mem_singleton
theorem Mm:type_of% @List.getD_eq_getElem?_getD:=@List.getD_eq_getElem?_getD
theorem Mn:type_of% @List.zip_cons_cons:=@List.zip_cons_cons
theorem Mo:type_of% @List.length_nil:=@List.length_nil
theorem Mp:type_of% @Nat.lt_of_lt_of_le:=@Nat.lt_of_lt_of_le
theorem Mq:type_of% @List.take_succ_eq_append_getElem:=@List.take_succ_eq_append_getElem
theorem Mr:type_of% @List.mem_cons_self:=@List.mem_cons_self
theorem Ms:type_of% @List.set_cons_zero:=@List.set_cons_zero
theorem Mt:type_of% @Nat.mul_comm:=@Nat.mul_comm
theorem Mu:type_of% @Nat.mul_assoc:=@Nat.mul_assoc
theorem Mv:type_of% @List.set_cons_succ:=@List.set_cons_succ
theorem Mw:type_of% @List.getElem?_append_right:=@List.getElem?_append_right
theorem Mx:type_of% @Nat.zero_le:=@Nat.zero_le
theorem My:type_of% @List.mem_append:=@List.mem_append
theorem Mz:type_of% @Bool.or_eq_false_iff:=@Bool.or_eq_false_iff
theorem MA:type_of% @List.append_nil:=@List.append_nil
theorem MB:type_of% @List.mem_cons_of_mem:=@List.mem_cons_of_mem
theorem MC:type_of% @List.mem_of_mem_take:=@List.mem_of_mem_take
theorem MD:type_of% @List.zip_nil_right:=@List.zip_nil_right
theorem ME:type_of% @List.getElem?_append_left:=@List.getElem?_append_left
theorem MF:type_of% @Nat.mul_add:=@Nat.mul_add
theorem MG:type_of% @List.append_assoc:=@List.append_assoc
theorem MH:type_of% @Array.getElem?_eq_getElem:=@Array.getElem?_eq_getElem
theorem MI:type_of% @Nat.lt_or_ge:=@Nat.lt_or_ge
theorem MJ:type_of% @Nat.mul_le_mul_right:=@Nat.mul_le_mul_right
theorem MK:type_of% @Option.getD_some:=@Option.getD_some
theorem ML:type_of% @Array.getElem?_eq_some_iff:=@Array.getElem?_eq_some_iff
theorem MM:type_of% @Nat.pow_succ:=@Nat.pow_succ
theorem MN:type_of% @Option.some.injEq:=@Option.some.injEq
theorem MO:type_of% @ByteArray.size_extract:=@ByteArray.size_extract
theorem MP:type_of% @Nat.pow_le_pow_right:=@Nat.pow_le_pow_right
theorem MQ:type_of% @List.getElem?_map:=@List.getElem?_map
theorem MR:type_of% @Bool.false_ne_true:=@Bool.false_ne_true
theorem MS:type_of% @List.length_drop:=@List.length_drop
theorem MT:type_of% @List.contains_iff_mem:=@List.contains_iff_mem
theorem MU:type_of% @List.length_set:=@List.length_set
theorem MV:type_of% @Array.getD_eq_getD_getElem?:=@Array.getD_eq_getD_getElem?
theorem MW:type_of% @List.getElem?_cons_zero:=@List.getElem?_cons_zero
theorem MX:type_of% @List.map_cons:=@List.map_cons
theorem MY:type_of% @List.getElem_mem:=@List.getElem_mem
theorem MZ:type_of% @List.getElem?_take:=@List.getElem?_take
theorem M0:type_of% @Nat.zero_add:=@Nat.zero_add
theorem M1:type_of% @Nat.eq_zero_or_pos:=@Nat.eq_zero_or_pos
theorem M2:type_of% @List.mem_of_mem_drop:=@List.mem_of_mem_drop
theorem M3:type_of% @Nat.add_mul:=@Nat.add_mul
theorem M4:type_of% @Nat.sub_self:=@Nat.sub_self
theorem M5:type_of% @Bool.or_eq_true:=@Bool.or_eq_true
theorem M6:type_of% @List.nil_append:=@List.nil_append
theorem M7:type_of% @Array.length_toList:=@Array.length_toList
theorem M8:type_of% @List.take_append_drop:=@List.take_append_drop
theorem M9:type_of% @List.take_length:=@List.take_length
theorem Na:type_of% @Option.map_eq_some_iff:=@Option.map_eq_some_iff
theorem Nb:type_of% @List.getElem_of_mem:=@List.getElem_of_mem
theorem Nc:type_of% @Option.bind_some:=@Option.bind_some
theorem Nd:type_of% @List.getElem?_drop:=@List.getElem?_drop
theorem Nf:type_of% @List.map_toArray:=@List.map_toArray
theorem Ng:type_of% @List.cons_append:=@List.cons_append
theorem Nh:type_of% @List.takeWhile_cons:=@List.takeWhile_cons
theorem Ni:type_of% @Nat.mod_lt:=@Nat.mod_lt
theorem Nj:type_of% @Bool.not_eq_true':=@Bool.not_eq_true'
theorem Nk:type_of% @List.map_append:=@List.map_append
theorem Nl:type_of% @Nat.min_eq_left:=@Nat.min_eq_left
theorem Nm:type_of% @List.getElem?_set_ne:=@List.getElem?_set_ne
theorem Nn:type_of% @Nat.blt_eq:=@Nat.blt_eq
theorem No:type_of% @Nat.add_zero:=@Nat.add_zero
theorem Np:type_of% @Array.getElem?_toList:=@Array.getElem?_toList
theorem Nq:type_of% @List.getElem?_eq_none:=@List.getElem?_eq_none
theorem Nr:type_of% @List.mem_nil_iff:=@List.mem_nil_iff
theorem Ns:type_of% @IntKind.wrap_i64:=@IntKind.wrap_i64
theorem Nt:type_of% @Option.some.inj:=@Option.some.inj
theorem Nu:type_of% @Option.map_some:=@Option.map_some
theorem Nv:type_of% @Array.toList_append:=@Array.toList_append
theorem Nw:type_of% @Nat.mul_le_mul_left:=@Nat.mul_le_mul_left
theorem Nx:type_of% @List.drop_zero:=@List.drop_zero
theorem Ny:type_of% @List.mem_map:=@List.mem_map
theorem Nz:type_of% @Nat.div_lt_iff_lt_mul:=@Nat.div_lt_iff_lt_mul
theorem NA:type_of% @List.getElem?_set_self:=@List.getElem?_set_self
theorem NC:type_of% @Nat.lt_of_le_of_lt:=@Nat.lt_of_le_of_lt
theorem ND:type_of% @List.map_nil:=@List.map_nil
theorem NE:type_of% @Decidable.not_not:=@Decidable.not_not
theorem NF:type_of% @Nat.shiftLeft_add_eq_or_of_lt:=@Nat.shiftLeft_add_eq_or_of_lt
theorem NG:type_of% @Nat.pos_of_ne_zero:=@Nat.pos_of_ne_zero
theorem NH:type_of% @List.foldl_cons:=@List.foldl_cons
theorem NI:type_of% @List.replicate_zero:=@List.replicate_zero
theorem NJ:type_of% @Array.getElem?_modify:=@Array.getElem?_modify
theorem NK:type_of% @List.set_append_right:=@List.set_append_right
theorem NL:type_of% @List.length_singleton:=@List.length_singleton
theorem NM:type_of% @ByteArray.size_append:=@ByteArray.size_append
theorem NN:type_of% @Nat.pow_pos:=@Nat.pow_pos
theorem NO:type_of% @Nat.mul_left_comm:=@Nat.mul_left_comm
theorem NP:type_of% @List.all_cons:=@List.all_cons
theorem NQ:type_of% @Array.toList_setIfInBounds:=@Array.toList_setIfInBounds
theorem NR:type_of% @Int.sign_eq_neg_one_of_neg:=@Int.sign_eq_neg_one_of_neg
theorem NS:type_of% @Nat.pow_lt_pow_right:=@Nat.pow_lt_pow_right
theorem NT:type_of% @Nat.add_assoc:=@Nat.add_assoc
theorem NU:type_of% @Nat.mul_le_mul:=@Nat.mul_le_mul
theorem NV:type_of% @List.getElem?_toArray:=@List.getElem?_toArray
theorem NW:type_of% @Nat.add_comm:=@Nat.add_comm
theorem NX:type_of% @List.all_append:=@List.all_append
theorem NY:type_of% @Nat.div_le_self:=@Nat.div_le_self
theorem NZ:type_of% @Nat.mod_eq_of_lt:=@Nat.mod_eq_of_lt
theorem N0:type_of% @List.not_mem_nil:=@List.not_mem_nil
theorem N1:type_of% @List.mem_range:=@List.mem_range
theorem N2:type_of% @Nat.pow_add:=@Nat.pow_add
theorem N3:type_of% @Int.sign_eq_one_of_pos:=@Int.sign_eq_one_of_pos
theorem N4:type_of% @List.any_eq_false:=@List.any_eq_false
theorem N5:type_of% @List.take_succ_cons:=@List.take_succ_cons
theorem N6:type_of% @List.replicate_succ:=@List.replicate_succ
theorem N7:type_of% @Nat.eq_of_beq_eq_true:=@Nat.eq_of_beq_eq_true
theorem N8:type_of% @Bool.and_eq_false_iff:=@Bool.and_eq_false_iff
theorem N9:type_of% @Bool.false_eq_true:=@Bool.false_eq_true
theorem Oa:type_of% @Nat.div_eq_of_lt:=@Nat.div_eq_of_lt
theorem Ob:type_of% @Nat.le_of_eq:=@Nat.le_of_eq
theorem Oc:type_of% @List.pairwise_cons:=@List.pairwise_cons
theorem Od:type_of% @List.pairwise_append:=@List.pairwise_append
theorem Oe:type_of% @Nat.div_add_mod:=@Nat.div_add_mod
theorem Of:type_of% @List.drop_succ_cons:=@List.drop_succ_cons
theorem Og:type_of% @Nat.one_mul:=@Nat.one_mul
theorem Oh:type_of% @Nat.mul_one:=@Nat.mul_one
theorem Oi:type_of% @Nat.mul_pos:=@Nat.mul_pos
theorem Oj:type_of% @Nat.shiftLeft_eq:=@Nat.shiftLeft_eq
theorem Ok:type_of% @List.length_replicate:=@List.length_replicate
theorem Ol:type_of% @Array.mapM_eq_mapM_toList:=@Array.mapM_eq_mapM_toList
theorem Om:type_of% @List.mem_append_left:=@List.mem_append_left
theorem On:type_of% @Nat.and_two_pow_sub_one_eq_mod:=@Nat.and_two_pow_sub_one_eq_mod
theorem Oo:type_of% @Nat.gcd_comm:=@Nat.gcd_comm
theorem Oq:type_of% @Int.toNat_natCast:=@Int.toNat_natCast
theorem Ot:type_of% @Option.bind_eq_some_iff:=@Option.bind_eq_some_iff
theorem Ou:type_of% @List.take_zero:=@List.take_zero
theorem Ov:type_of% @Nat.div_div_eq_div_mul:=@Nat.div_div_eq_div_mul
theorem Ow:type_of% @List.getElem_cons_zero:=@List.getElem_cons_zero
theorem Ox:type_of% @List.takeWhile_sublist:=@List.takeWhile_sublist
theorem Oy:type_of% @Nat.mul_zero:=@Nat.mul_zero
theorem Oz:type_of% @Array.getElem?_append_left:=@Array.getElem?_append_left
theorem OA:type_of% @Int.tmod_eq_emod_of_nonneg:=@Int.tmod_eq_emod_of_nonneg
theorem OB:type_of% @List.map_take:=@List.map_take
theorem OC:type_of% @Bool.true_and:=@Bool.true_and
theorem OD:type_of% @List.flatMap_cons:=@List.flatMap_cons
theorem OE:type_of% @Nat.lt_trichotomy:=@Nat.lt_trichotomy
theorem OF:type_of% @List.reverse_cons:=@List.reverse_cons
theorem OG:type_of% @Array.size_append:=@Array.size_append
theorem OH:type_of% @List.mem_or_eq_of_mem_set:=@List.mem_or_eq_of_mem_set
theorem OI:type_of% @List.any_eq_true:=@List.any_eq_true
theorem OJ:type_of% @Nat.pow_le_pow_left:=@Nat.pow_le_pow_left
theorem OL:type_of% @List.map_drop:=@List.map_drop
theorem OM:type_of% @List.contains_cons:=@List.contains_cons
theorem ON:type_of% @List.mem_replicate:=@List.mem_replicate
theorem OO:type_of% @Array.getElem?_eq_none:=@Array.getElem?_eq_none
theorem OP:type_of% @List.take_append_of_le_length:=@List.take_append_of_le_length
theorem OQ:type_of% @List.getElem?_set:=@List.getElem?_set
theorem OR:type_of% @List.size_toArray:=@List.size_toArray
theorem OS:type_of% @List.getElem_drop:=@List.getElem_drop
theorem OT:type_of% @Nat.le_succ_of_le:=@Nat.le_succ_of_le
theorem OU:type_of% @Iff.rfl:=@Iff.rfl
theorem OV:type_of% @UInt8.lt_iff_toNat_lt:=@UInt8.lt_iff_toNat_lt
theorem OW:type_of% @Array.ext':=@Array.ext'
theorem OX:type_of% @List.take_append:=@List.take_append
theorem OY:type_of% @List.ext_getElem:=@List.ext_getElem
theorem OZ:type_of% @Nat.sub_le:=@Nat.sub_le
theorem O0:type_of% @List.reverse_reverse:=@List.reverse_reverse
theorem O1:type_of% @List.flatMap_append:=@List.flatMap_append
theorem O2:type_of% @Bool.eq_iff_iff:=@Bool.eq_iff_iff
theorem O3:type_of% @List.getElem_append_right:=@List.getElem_append_right
theorem O4:type_of% @Nat.add_mul_mod_self_left:=@Nat.add_mul_mod_self_left
theorem O5:type_of% @UInt8.toNat_inj:=@UInt8.toNat_inj
theorem O6:type_of% @UInt8.toNat_ofNat':=@UInt8.toNat_ofNat'
theorem O7:type_of% @Nat.zero_mul:=@Nat.zero_mul
theorem O8:type_of% @Nat.sub_zero:=@Nat.sub_zero
theorem O9:type_of% @Nat.div_mul_cancel:=@Nat.div_mul_cancel
theorem Pa:type_of% @Nat.gcd_zero_right:=@Nat.gcd_zero_right
theorem Pb:type_of% @List.nodup_nil:=@List.nodup_nil
theorem Pc:type_of% @List.foldl_nil:=@List.foldl_nil
theorem Pd:type_of% @List.getElem?_cons_succ:=@List.getElem?_cons_succ
theorem Pe:type_of% @Nat.mul_div_cancel_left:=@Nat.mul_div_cancel_left
theorem Pf:type_of% @Nat.succ_le_of_lt:=@Nat.succ_le_of_lt
theorem Pg:type_of% @List.foldl_append:=@List.foldl_append
theorem Ph:type_of% @Int.lt_trichotomy:=@Int.lt_trichotomy
theorem Pi:type_of% @Option.map_eq_none_iff:=@Option.map_eq_none_iff
theorem Pj:type_of% @List.set_eq_take_append_cons_drop:=@List.set_eq_take_append_cons_drop
theorem Pk:type_of% @Prod.mk.injEq:=@Prod.mk.injEq
theorem Pm:type_of% @List.any_cons:=@List.any_cons
theorem Pn:type_of% @Array.all_eq_true_iff_forall_mem:=@Array.all_eq_true_iff_forall_mem
theorem Po:type_of% @Nat.lt_succ_self:=@Nat.lt_succ_self
theorem Pp:type_of% @Nat.min_eq_right:=@Nat.min_eq_right
theorem Pq:type_of% @List.mem_append_right:=@List.mem_append_right
theorem Pr:type_of% @ByteArray.data_append:=@ByteArray.data_append
theorem Ps:type_of% @List.singleton_append:=@List.singleton_append
theorem Pt:type_of% @List.getElem?_reverse:=@List.getElem?_reverse
theorem Pu:type_of% @List.replicate_append_replicate:=@List.replicate_append_replicate
theorem Pv:type_of% @List.cons.injEq:=@List.cons.injEq
theorem Pw:type_of% @Int.natCast_mul:=@Int.natCast_mul
theorem Px:type_of% @Nat.not_lt_zero:=@Nat.not_lt_zero
theorem Py:type_of% @Nat.pow_zero:=@Nat.pow_zero
theorem Pz:type_of% @Nat.add_mul_div_left:=@Nat.add_mul_div_left
theorem PA:type_of% @Nat.le_of_lt:=@Nat.le_of_lt
theorem PB:type_of% @Nat.succ_pos:=@Nat.succ_pos
theorem PC:type_of% @List.map_congr_left:=@List.map_congr_left
theorem PD:type_of% @List.length_reverse:=@List.length_reverse
theorem PE:type_of% @Bool.and_false:=@Bool.and_false
theorem PF:type_of% @Nat.pow_mul:=@Nat.pow_mul
theorem PG:type_of% @List.mem_filterMap:=@List.mem_filterMap
theorem PH:type_of% @Bool.not_eq_false':=@Bool.not_eq_false'
theorem PI:type_of% @List.take_set:=@List.take_set
theorem PJ:type_of% @ByteArray.ext:=@ByteArray.ext
theorem PK:type_of% @Nat.mul_lt_mul_of_pos_left:=@Nat.mul_lt_mul_of_pos_left
theorem PL:type_of% @Int.ofNat_natAbs_of_nonpos:=@Int.ofNat_natAbs_of_nonpos
theorem PM:type_of% @Int.fdiv_eq_ediv_of_nonneg:=@Int.fdiv_eq_ediv_of_nonneg
theorem PN:type_of% @List.ext_getElem?:=@List.ext_getElem?
theorem PO:type_of% @List.all_eq_false:=@List.all_eq_false
theorem PP:type_of% @Nat.gcd_zero_left:=@Nat.gcd_zero_left
theorem PQ:type_of% @List.pairwise_iff_getElem:=@List.pairwise_iff_getElem
theorem PR:type_of% @Int.sign_eq_zero_iff_zero:=@Int.sign_eq_zero_iff_zero
theorem PS:type_of% @Int.mul_neg_of_neg_of_pos:=@Int.mul_neg_of_neg_of_pos
theorem PU:type_of% @List.drop_append:=@List.drop_append
theorem PV:type_of% @List.mem_flatMap:=@List.mem_flatMap
theorem PW:type_of% @Array.toList_map:=@Array.toList_map
theorem PX:type_of% @Int.natCast_ediv:=@Int.natCast_ediv
theorem PY:type_of% @Nat.mul_lt_mul'':=@Nat.mul_lt_mul''
theorem PZ:type_of% @Nat.gcd_pos_of_pos_left:=@Nat.gcd_pos_of_pos_left
theorem P0:type_of% @UInt8.toNat.inj:=@UInt8.toNat.inj
theorem P1:type_of% @Array.getElem!_eq_getD:=@Array.getElem!_eq_getD
theorem P2:type_of% @Nat.div_one:=@Nat.div_one
theorem P3:type_of% @Nat.dvd_of_mod_eq_zero:=@Nat.dvd_of_mod_eq_zero
theorem P4:type_of% @Nat.gcd_rec:=@Nat.gcd_rec
theorem P5:type_of% @Nat.gcd_sub_self_right:=@Nat.gcd_sub_self_right
theorem P6:type_of% @Nat.eq_zero_of_not_pos:=@Nat.eq_zero_of_not_pos
theorem P7:type_of% @List.head?_eq_getElem?:=@List.head?_eq_getElem?
theorem P8:type_of% @List.sublist_cons_self:=@List.sublist_cons_self
theorem P9:type_of% @List.take_left:=@List.take_left
theorem Qa:type_of% @List.mapM_cons:=@List.mapM_cons
theorem Qb:type_of% @Array.mem_of_getElem?:=@Array.mem_of_getElem?
theorem Qc:type_of% @List.take_take:=@List.take_take
theorem Qd:type_of% @Nat.le_div_iff_mul_le:=@Nat.le_div_iff_mul_le
theorem Qe:type_of% @Nat.mul_mod_mul_right:=@Nat.mul_mod_mul_right
theorem Qf:type_of% @List.modify_succ_cons:=@List.modify_succ_cons
theorem Qg:type_of% @List.length_insertIdx:=@List.length_insertIdx
theorem Qh:type_of% @List.replicate_succ':=@List.replicate_succ'
theorem Qi:type_of% @Nat.le_sub_one_of_lt:=@Nat.le_sub_one_of_lt
theorem Qj:type_of% @Int.natAbs_of_nonneg:=@Int.natAbs_of_nonneg
theorem Ql:type_of% @Bool.and_self:=@Bool.and_self
theorem Qm:type_of% @Bool.false_or:=@Bool.false_or
theorem Qn:type_of% @List.drop_set_of_lt:=@List.drop_set_of_lt
theorem Qo:type_of% @Bool.or_eq_true_iff:=@Bool.or_eq_true_iff
theorem Qp:type_of% @Array.any_eq_true':=@Array.any_eq_true'
theorem Qq:type_of% @Option.isSome_none:=@Option.isSome_none
theorem Qr:type_of% @Nat.mod_mod_of_dvd:=@Nat.mod_mod_of_dvd
theorem Qs:type_of% @Nat.add_right_comm:=@Nat.add_right_comm
theorem Qt:type_of% @Nat.le_total:=@Nat.le_total
theorem Qu:type_of% @Nat.add_sub_cancel:=@Nat.add_sub_cancel
theorem Qv:type_of% @Nat.min_self:=@Nat.min_self
theorem Qw:type_of% @Int.emod_lt_of_pos:=@Int.emod_lt_of_pos
theorem Qx:type_of% @List.flatten_cons:=@List.flatten_cons
theorem Qy:type_of% @Nat.le_succ:=@Nat.le_succ
theorem Qz:type_of% @Int.neg_mul:=@Int.neg_mul
theorem QJ:type_of% @Nat.ble_eq:=@Nat.ble_eq
theorem Im{P:Program}{f:FuncId}{args:Array Value}{w:World}{v:Value}(h:Calls P f args w fun e w'=>e=.returned v/\w=w'):Calls P f args w fun e w'=>e=.returned v/\w'=w:=h.mono fun _ _ ⟨a,b⟩=>⟨a,b.symm⟩
structure Env (w:World):Prop where
 maxLen:∃m,w.cell? ⟨0,0,none⟩=some (.int .i64 m)
 pow10:Lib.TabIs Tryz.prog w "internal/strconv.uint64pow10" .u64 Lib.pow10Tab
 errSyntax:∃tp p,w.var? Tryz.prog "strconv.ErrSyntax" =some #[.iface tp p]
 errRange:∃tp p,w.var? Tryz.prog "strconv.ErrRange" =some #[.iface tp p]
theorem yN:Tryz.prog.globalNamed "internal/strconv.uint64pow10" =some 1:=by kernel_rfl
theorem nl:Tryz.prog.globalNamed "strconv.ErrSyntax" =some 4:=by kernel_rfl
theorem pk:Tryz.prog.globalNamed "strconv.ErrRange" =some 5:=by kernel_rfl
theorem yO{P:Program}{w:World}{n:String}{g:Nat}{cs:Array Value}(c:P.globalNamed n=some g)(h:w.var? P n=some cs):g<w.heap.size:=by
 rcases MI g w.heap.size with a|b
 ·exact a
 simp[World.var?,c,OO b]at h
theorem Env.below{w w':World}{B:Nat}(h:Env w)(a:Below B w w')(l:w.heap.size<=B):Env w':=by
 obtain⟨m,e⟩:=h.maxLen;obtain⟨i,p,c⟩:=h.errSyntax;obtain⟨b,g,d⟩:=h.errRange;have n:=yO nl c;have j:=yO pk d;have k:=yO yN h.pow10;have f:=World.block_lt_of_cell? _ _ e;exact⟨⟨m,(a.cell (p:=⟨0,0,none⟩) (by simp at f⊢;omega)).trans e⟩,var?_below a yN (by omega) h.pow10,⟨i,p,var?_below a nl (by omega) c⟩,⟨b,g,var?_below a pk (by omega) d⟩⟩
theorem JY(w:World)(t:TypeId)(c b a:Value):
  ∃W,w.alloc (.cells #[c,b,a] t)=W/\Below w.heap.size w W/\W.heap.size=w.heap.size+1/\
   W.cell? ⟨w.heap.size,0,none⟩=some c/\W.cell? ⟨w.heap.size,1,none⟩=some b/\W.cell? ⟨w.heap.size,2,none⟩=some a:=by
 refine⟨_,Z,(Below.refl _ _).alloc (L5 _) _,by simp,?_,?_,?_⟩<;>simp[go_sem]
theorem Lp(w:World)(t:TypeId)(b a c y0 e d:Value):
  ∃W,(w.alloc (.cells #[b,a,c] t)).alloc (.cells #[y0,e,d] t)=W/\Below w.heap.size w W/\W.heap.size=w.heap.size+2/\
   W.cell? ⟨w.heap.size,0,none⟩=some b/\W.cell? ⟨w.heap.size,1,none⟩=some a/\W.cell? ⟨w.heap.size,2,none⟩=some c/\
   W.cell? ⟨w.heap.size+1,0,none⟩=some y0/\W.cell? ⟨w.heap.size+1,1,none⟩=some e/\W.cell? ⟨w.heap.size+1,2,none⟩=some d:=by
 refine⟨_,Z,((Below.refl _ _).alloc (L5 _) _).alloc (by simp) _,by simp,?_,?_,?_,?_,?_,?_⟩<;>simp[go_sem]
def IsBlk(w:World)(g:Nat)(t:TypeId)(cs:Array Value):Prop:=w.heap[g]? =some (.cells cs t (0,0))
theorem IsBlk.lt{w:World}{g:Nat}{t:TypeId}{cs:Array Value}(h:IsBlk w g t cs):g<w.heap.size:=(ML.1 h).1
theorem IsBlk.cell{w:World}{g:Nat}{t:TypeId}{cs:Array Value}(h:IsBlk w g t cs)(i:Nat):w.cell? ⟨g,i,none⟩=cs[i]? :=cell_of_row w g i cs t (0,0) h
theorem IsBlk.free{w:World}{g:Nat}{t:TypeId}{cs:Array Value}(h:IsBlk w g t cs)(i:Nat):w.frozen? ⟨g,i,none⟩=false:=by
 unfold IsBlk at h;simp[World.frozen?,h]
theorem dP(w:World)(t:TypeId)(cs:Array Value):IsBlk (w.alloc (.cells cs t)) w.heap.size t cs:=heap_alloc_new w _
theorem IsBlk.below{w w':World}{g B:Nat}{t:TypeId}{cs:Array Value}(h:IsBlk w g t cs)(b:Below B w w')(a:g<B):IsBlk w' g t cs:=(b.block g a).trans h
theorem IsBlk.alloc{w:World}{g:Nat}{t:TypeId}{cs:Array Value}(h:IsBlk w g t cs)(o:Obj):IsBlk (w.alloc o) g t cs:=(Below.heap_alloc w o g h.lt).trans h
theorem IsBlk.put{w:World}{g:Nat}{t:TypeId}{cs:Array Value}(h:IsBlk w g t cs)(i:Nat)(u:Value):IsBlk (w.setCell ⟨g,i,none⟩ u) g t (cs.setIfInBounds i u):=by
 unfold IsBlk at h⊢;simp[World.setCell,NJ,h]
theorem IsBlk.three{w:World}{g:Nat}{t:TypeId}{c b a:Value}(h:IsBlk w g t #[c,b,a]):
  w.cell? ⟨g,0,none⟩=some c/\w.cell? ⟨g,1,none⟩=some b/\w.cell? ⟨g,2,none⟩=some a/\w.frozen? ⟨g,0,none⟩=false/\w.frozen? ⟨g,1,none⟩=false/\w.frozen? ⟨g,2,none⟩=false:=
 ⟨h.cell 0,h.cell 1,h.cell 2,h.free 0,h.free 1,h.free 2⟩
theorem cg{w:World}{g:Nat}{t:TypeId}{f d l:Value}(h:IsBlk w g t #[f,d,l])(y0 b a:Value):
  ∃W,((w.setCell ⟨g,0,none⟩ y0).setCell ⟨g,1,none⟩ b).setCell ⟨g,2,none⟩ a=W/\IsBlk W g t #[y0,b,a]/\Below g w W/\W.heap.size=w.heap.size/\(∀k,k≠g->W.heap[k]? =w.heap[k]?):=by
 have j:=(Below.refl g w).setCell (p:=⟨g,0,none⟩) (L5 g) y0;have i:=j.setCell (p:=⟨g,1,none⟩) (L5 g) b;have e:=i.setCell (p:=⟨g,2,none⟩) (L5 g) a;refine⟨_,Z,?_,e,by simp[World.setCell],fun k c=>?_⟩
 ·have:=((h.put 0 y0).put 1 b).put 2 a;simpa using this
 rw[Below.heap_setCell _ _ _ _ c,Below.heap_setCell _ _ _ _ c,Below.heap_setCell _ _ _ _ c]
end Go.Proofs.YtfoejfohbkmmeaaGreatDoor
