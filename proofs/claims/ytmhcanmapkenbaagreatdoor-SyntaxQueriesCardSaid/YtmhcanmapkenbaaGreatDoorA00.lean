import Derived.Test.YtmhcanmapkenbaaGreatDoorProg
import Derived.WalkKit
import Derived.WalkLawsBesides
import Derived.WalkSpells
import Derived.Outline
import Derived.Lib.Hide
import Derived.Lib.LaidTab
import Derived.Lib.SmallJoins
import Derived.Shelf.Strconv.Itoa4
import Derived.Below
import Derived.Shelf.Small.Strs
import Derived.Shelf.LaysM
import Derived.Shelf.Strconv.ParseIntPublic10
import Derived.Shelf.Strconv.ErrVarParseInt
import Derived.Shelf.Strings.Prefix
import Derived.Shelf.Strings.Replace
import Derived.Shelf.Strings.SplitShaped
import Derived.Shelf.Small.Bits
import Derived.Shelf.Strings.Split
import Derived.Shelf.Strings.Builder1
import Derived.Shelf.Strings.Builder2
import Derived.Shelf.Strings.OnBuilder
import Derived.Lib.AtoiErrMem
set_option linter.defProp false
open Go.Proofs.Tryz
namespace Go.Proofs.YtmhcanmapkenbaaGreatDoor
open Go.RowKit
def Z.{u}{α:Sort u}{a:α}:a=a:=rfl
def Zz.{u}{α:Sort u}{a:α}:a=a:=rfl
def O{p:Prop}(h:p:=by omega):p:=h
def I{p:Prop}(h:p:=by decide):p:=h
def U{p:Prop}(h:p:=by kernel_rfl):p:=h
def F{p:Prop}(h:p:=by simp):p:=h
def O0{p:Prop}(h:p:=by omega):p:=h
def I0{p:Prop}(h:p:=by decide):p:=h
def U0{p:Prop}(h:p:=by kernel_rfl):p:=h
def F0{p:Prop}(h:p:=by simp):p:=h
def Zy.{u,v}{α:Sort u}{β:Sort v}{f:α->β}:∀a,f a=f a:=λ_=>rfl
def Qh:type_of% @Bool.and_eq_true:=@Bool.and_eq_true
def Qi:type_of% @Nat.le_refl:=@Nat.le_refl
def Qj:type_of% @List.getElem?_eq_getElem:=@List.getElem?_eq_getElem
def Qk:type_of% @Bool.false_ne_true:=@Bool.false_ne_true
def Ql:type_of% @Nat.eq_of_beq_eq_true:=@Nat.eq_of_beq_eq_true
def Qm:type_of% @List.getElem?_eq_some_iff:=@List.getElem?_eq_some_iff
def Qn:type_of% @List.length_cons:=@List.length_cons
def Qo:type_of% @List.mem_of_getElem?:=@List.mem_of_getElem?
def Qp:type_of% @List.getD_eq_getElem?_getD:=@List.getD_eq_getElem?_getD
def Qq:type_of% @ByteArray.size_append:=@ByteArray.size_append
def Qr:type_of% @List.length_map:=@List.length_map
def Qs:type_of% @List.mem_cons_self:=@List.mem_cons_self
def Qt:type_of% @List.all_eq_true:=@List.all_eq_true
def Qu:type_of% @Nat.le_trans:=@Nat.le_trans
def Qv:type_of% @List.getElem?_append_left:=@List.getElem?_append_left
def Qw:type_of% @List.mem_cons:=@List.mem_cons
def Qx:type_of% @List.getElem?_append_right:=@List.getElem?_append_right
def Qy:type_of% @Option.some.injEq:=@Option.some.injEq
def Qz:type_of% @List.map_append:=@List.map_append
def QA:type_of% @List.mem_cons_of_mem:=@List.mem_cons_of_mem
def QC:type_of% @List.length_nil:=@List.length_nil
def QD:type_of% @Bool.or_eq_false_iff:=@Bool.or_eq_false_iff
def QE:type_of% @Nat.lt_of_lt_of_le:=@Nat.lt_of_lt_of_le
def QF:type_of% @Nat.zero_le:=@Nat.zero_le
def QG:type_of% @Array.getD_eq_getD_getElem?:=@Array.getD_eq_getD_getElem?
def QH:type_of% @List.mem_nil_iff:=@List.mem_nil_iff
def QI:type_of% @List.eq_nil_of_length_eq_zero:=@List.eq_nil_of_length_eq_zero
def QJ:type_of% @List.length_append:=@List.length_append
def QK:type_of% @Array.getElem?_eq_some_iff:=@Array.getElem?_eq_some_iff
def QL:type_of% @List.getElem?_map:=@List.getElem?_map
def QM:type_of% @List.map_cons:=@List.map_cons
def QN:type_of% @List.length_take:=@List.length_take
def QO:type_of% @Array.getElem?_toList:=@Array.getElem?_toList
def QP:type_of% @List.mem_singleton:=@List.mem_singleton
def QQ:type_of% @List.getElem?_take:=@List.getElem?_take
def QR:type_of% @Array.getElem?_eq_getElem:=@Array.getElem?_eq_getElem
def QS:type_of% @Option.some.inj:=@Option.some.inj
def QT:type_of% @Nat.zero_add:=@Nat.zero_add
def QU:type_of% @List.take_of_length_le:=@List.take_of_length_le
def QV:type_of% @List.getElem?_cons_zero:=@List.getElem?_cons_zero
def QW:type_of% @Array.toList_append:=@Array.toList_append
def QX:type_of% @List.contains_iff_mem:=@List.contains_iff_mem
def QY:type_of% @Option.bind_some:=@Option.bind_some
def QZ:type_of% @List.length_drop:=@List.length_drop
def Q0:type_of% @List.append_assoc:=@List.append_assoc
def Q1:type_of% @List.drop_of_length_le:=@List.drop_of_length_le
def Q2:type_of% @Option.getD_some:=@Option.getD_some
def Q3:type_of% @List.drop_eq_getElem_cons:=@List.drop_eq_getElem_cons
def Q4:type_of% @Option.map_eq_some_iff:=@Option.map_eq_some_iff
def Q5:type_of% @Bool.or_eq_true:=@Bool.or_eq_true
def Q6:type_of% @List.mem_append:=@List.mem_append
def Q7:type_of% @Nat.blt_eq:=@Nat.blt_eq
def Q8:type_of% @List.zip_cons_cons:=@List.zip_cons_cons
def Q9:type_of% @List.getElem?_drop:=@List.getElem?_drop
def Ra:type_of% @List.mem_of_mem_take:=@List.mem_of_mem_take
def Rb:type_of% @Array.ext':=@Array.ext'
def Rc:type_of% @List.all_cons:=@List.all_cons
def Re:type_of% @Bool.not_eq_true':=@Bool.not_eq_true'
def Rf:type_of% @Option.map_some:=@Option.map_some
def Rg:type_of% @List.size_toArray:=@List.size_toArray
def Rh:type_of% @Nat.ble_eq:=@Nat.ble_eq
def Ri:type_of% @Bool.true_and:=@Bool.true_and
def Rj:type_of% @List.cons_append:=@List.cons_append
def Rk:type_of% @Array.toList_setIfInBounds:=@Array.toList_setIfInBounds
def Rl:type_of% @List.getElem?_eq_none:=@List.getElem?_eq_none
def Rm:type_of% @Nat.lt_or_ge:=@Nat.lt_or_ge
def Rn:type_of% @List.append_nil:=@List.append_nil
def Ro:type_of% @List.take_succ_eq_append_getElem:=@List.take_succ_eq_append_getElem
def Rp:type_of% @Nat.add_mul:=@Nat.add_mul
def Rq:type_of% @List.map_nil:=@List.map_nil
def Rr:type_of% @List.length_set:=@List.length_set
def Rt:type_of% @Nat.mul_assoc:=@Nat.mul_assoc
def Ru:type_of% @Nat.mul_le_mul_right:=@Nat.mul_le_mul_right
def Rv:type_of% @List.nil_append:=@List.nil_append
def Rw:type_of% @Nat.pow_succ:=@Nat.pow_succ
def Rx:type_of% @List.getElem_mem:=@List.getElem_mem
def Ry:type_of% @List.getElem?_toArray:=@List.getElem?_toArray
def Rz:type_of% @List.length_eq_zero_iff:=@List.length_eq_zero_iff
def RA:type_of% @Nat.lt_of_le_of_lt:=@Nat.lt_of_le_of_lt
def RB:type_of% @List.getElem?_set_self:=@List.getElem?_set_self
def RC:type_of% @Nat.mod_eq_of_lt:=@Nat.mod_eq_of_lt
def RD:type_of% @Array.mapM_eq_mapM_toList:=@Array.mapM_eq_mapM_toList
def RE:type_of% @Array.length_toList:=@Array.length_toList
def RF:type_of% @Decidable.not_not:=@Decidable.not_not
def RG:type_of% @Array.getElem?_modify:=@Array.getElem?_modify
def RH:type_of% @List.mem_map:=@List.mem_map
def RI:type_of% @Nat.sub_self:=@Nat.sub_self
def RJ:type_of% @ByteArray.data_append:=@ByteArray.data_append
def RK:type_of% @List.drop_drop:=@List.drop_drop
def RL:type_of% @List.singleton_append:=@List.singleton_append
def RM:type_of% @Bool.false_eq_true:=@Bool.false_eq_true
def RN:type_of% @Nat.pos_of_ne_zero:=@Nat.pos_of_ne_zero
def RO:type_of% @List.getElem?_set_ne:=@List.getElem?_set_ne
def RP:type_of% @Nat.add_assoc:=@Nat.add_assoc
def RQ:type_of% @Nat.add_zero:=@Nat.add_zero
def RR:type_of% @Nat.mul_comm:=@Nat.mul_comm
def RS:type_of% @Nat.mul_add:=@Nat.mul_add
def RU:type_of% @List.take_succ_cons:=@List.take_succ_cons
def RV:type_of% @Bool.and_eq_false_iff:=@Bool.and_eq_false_iff
def RW:type_of% @Nat.eq_zero_or_pos:=@Nat.eq_zero_or_pos
def RX:type_of% @Nat.le_succ:=@Nat.le_succ
def RY:type_of% @List.foldl_cons:=@List.foldl_cons
def RZ:type_of% @Nat.not_lt_zero:=@Nat.not_lt_zero
def R0:type_of% @Array.getElem?_eq_none:=@Array.getElem?_eq_none
def R2:type_of% @List.map_toArray:=@List.map_toArray
def R3:type_of% @List.take_append_drop:=@List.take_append_drop
def R4:type_of% @Bool.eq_iff_iff:=@Bool.eq_iff_iff
def R5:type_of% @Nat.shiftLeft_add_eq_or_of_lt:=@Nat.shiftLeft_add_eq_or_of_lt
def R6:type_of% @Option.bind_eq_some_iff:=@Option.bind_eq_some_iff
def R7:type_of% @Array.toList_map:=@Array.toList_map
def R8:type_of% @Bool.and_false:=@Bool.and_false
def R9:type_of% @Nat.mod_lt:=@Nat.mod_lt
def Sa:type_of% @List.mem_filterMap:=@List.mem_filterMap
def Sb:type_of% @Nat.add_comm:=@Nat.add_comm
def Sc:type_of% @List.mem_append_right:=@List.mem_append_right
def Sd:type_of% @List.set_append_right:=@List.set_append_right
def Se:type_of% @List.all_append:=@List.all_append
def Sf:type_of% @UInt8.toNat_inj:=@UInt8.toNat_inj
def Sg:type_of% @Prod.mk.injEq:=@Prod.mk.injEq
def Sh:type_of% @List.mem_append_left:=@List.mem_append_left
def Si:type_of% @Nat.pow_lt_pow_right:=@Nat.pow_lt_pow_right
def Sk:type_of% @Nat.pow_le_pow_right:=@Nat.pow_le_pow_right
def Sl:type_of% @Array.toList_extract:=@Array.toList_extract
def Sm:type_of% @Array.all_eq_true_iff_forall_mem:=@Array.all_eq_true_iff_forall_mem
def Sn:type_of% @Nat.div_eq_of_lt:=@Nat.div_eq_of_lt
def So:type_of% @List.getElem_of_mem:=@List.getElem_of_mem
def Sq:type_of% @List.set_cons_succ:=@List.set_cons_succ
def Sr:type_of% @List.contains_cons:=@List.contains_cons
def Ss:type_of% @List.set_cons_zero:=@List.set_cons_zero
def Su:type_of% @Nat.div_le_self:=@Nat.div_le_self
def Sv:type_of% @List.getElem?_set:=@List.getElem?_set
def Sw:type_of% @Nat.succ_pos:=@Nat.succ_pos
def Sz:type_of% @IntKind.wrap_i64:=@IntKind.wrap_i64
def SA:type_of% @List.take_length:=@List.take_length
def SB:type_of% @Nat.lt_succ_self:=@Nat.lt_succ_self
def SC:type_of% @Array.getElem?_append_left:=@Array.getElem?_append_left
def SD:type_of% @ByteArray.ext:=@ByteArray.ext
def SE:type_of% @List.map_congr_left:=@List.map_congr_left
def SF:type_of% @Nat.mul_le_mul_left:=@Nat.mul_le_mul_left
def SG:type_of% @List.takeWhile_cons:=@List.takeWhile_cons
def SH:type_of% @Array.getElem?_push:=@Array.getElem?_push
def SI:type_of% @List.getElem?_zip_eq_some:=@List.getElem?_zip_eq_some
def SJ:type_of% @UInt8.toNat_ofNat':=@UInt8.toNat_ofNat'
def SK:type_of% @Nat.div_mul_cancel:=@Nat.div_mul_cancel
def SL:type_of% @List.mem_range:=@List.mem_range
def SM:type_of% @List.mapM_cons:=@List.mapM_cons
def SN:type_of% @Nat.le_mul_of_pos_right:=@Nat.le_mul_of_pos_right
def SO:type_of% @List.ext_getElem?:=@List.ext_getElem?
def SP:type_of% @Nat.lt_trichotomy:=@Nat.lt_trichotomy
def SQ:type_of% @Array.size_append:=@Array.size_append
def SR:type_of% @Array.getElem!_eq_getD:=@Array.getElem!_eq_getD
def ST:type_of% @Option.map_eq_none_iff:=@Option.map_eq_none_iff
def SU:type_of% @Nat.div_div_eq_div_mul:=@Nat.div_div_eq_div_mul
def SV:type_of% @ByteArray.data_extract:=@ByteArray.data_extract
def SW:type_of% @List.take_set:=@List.take_set
def SX:type_of% @List.not_mem_nil:=@List.not_mem_nil
def SY:type_of% @List.ext_getElem:=@List.ext_getElem
def SZ:type_of% @Nat.shiftLeft_eq:=@Nat.shiftLeft_eq
def S1:type_of% @Array.mem_of_getElem?:=@Array.mem_of_getElem?
def S4:type_of% @UInt8.lt_iff_toNat_lt:=@UInt8.lt_iff_toNat_lt
def S5:type_of% @Nat.div_lt_iff_lt_mul:=@Nat.div_lt_iff_lt_mul
def S6:type_of% @List.getElem!_eq_getElem?_getD:=@List.getElem!_eq_getElem?_getD
def S7:type_of% @List.drop_succ_cons:=@List.drop_succ_cons
def S8:type_of% @List.drop_set_of_lt:=@List.drop_set_of_lt
def S9:type_of% @Array.toList_zipIdx:=@Array.toList_zipIdx
def Ta:type_of% @List.getD_cons_succ:=@List.getD_cons_succ
def Tb:type_of% @List.take_zero:=@List.take_zero
def Tc:type_of% @List.drop_zero:=@List.drop_zero
def Td:type_of% @Array.foldl_toList:=@Array.foldl_toList
def Te:type_of% @Array.toList_range:=@Array.toList_range
def Tf:type_of% @List.mem_replicate:=@List.mem_replicate
def Tg:type_of% @Bool.false_or:=@Bool.false_or
def Th:type_of% @Int.tmod_eq_emod_of_nonneg:=@Int.tmod_eq_emod_of_nonneg
def Ti:type_of% @List.setIfInBounds_toArray:=@List.setIfInBounds_toArray
def Tj:type_of% @List.take_sublist:=@List.take_sublist
def Tl:type_of% @Nat.succ_le_of_lt:=@Nat.succ_le_of_lt
def Tm:type_of% @List.flatMap_cons:=@List.flatMap_cons
def Tn:type_of% @Nat.not_lt:=@Nat.not_lt
def To:type_of% @Nat.add_mul_mod_self_left:=@Nat.add_mul_mod_self_left
def Tq:type_of% @List.mem_or_eq_of_mem_set:=@List.mem_or_eq_of_mem_set
def Tr:type_of% @Nat.succ_le_succ:=@Nat.succ_le_succ
def Ts:type_of% @List.drop_length:=@List.drop_length
def Tt:type_of% @List.getElem?_cons_succ:=@List.getElem?_cons_succ
def Tu:type_of% @List.cons.injEq:=@List.cons.injEq
def Tv:type_of% @UInt8.toNat.inj:=@UInt8.toNat.inj
def Tw:type_of% @Nat.dvd_of_mod_eq_zero:=@Nat.dvd_of_mod_eq_zero
def Tx:type_of% @Nat.gcd_sub_self_right:=@Nat.gcd_sub_self_right
def Ty:type_of% @List.takeWhile_sublist:=@List.takeWhile_sublist
def Tz:type_of% @Nat.mul_le_mul:=@Nat.mul_le_mul
def TA:type_of% @Iff.rfl:=@Iff.rfl
def TB:type_of% @List.take_left:=@List.take_left
def TC:type_of% @List.length_singleton:=@List.length_singleton
def TD:type_of% @List.length_replicate:=@List.length_replicate
def TE:type_of% @List.drop_left:=@List.drop_left
def TF:type_of% @List.mem_of_mem_drop:=@List.mem_of_mem_drop
def TG:type_of% @Nat.add_mul_div_left:=@Nat.add_mul_div_left
def TI:type_of% @Bool.or_false:=@Bool.or_false
def TJ:type_of% @Option.isSome_none:=@Option.isSome_none
def TK:type_of% @Nat.add_right_comm:=@Nat.add_right_comm
def TL:type_of% @Nat.mul_zero:=@Nat.mul_zero
def TM:type_of% @Nat.mod_mod_of_dvd:=@Nat.mod_mod_of_dvd
def TN:type_of% @Nat.pow_zero:=@Nat.pow_zero
def TO:type_of% @Nat.gcd_comm:=@Nat.gcd_comm
def TP:type_of% @Nat.gcd_zero_right:=@Nat.gcd_zero_right
def TQ:type_of% @List.zip_nil_right:=@List.zip_nil_right
def TR:type_of% @Bool.or_comm:=@Bool.or_comm
def TS:type_of% @List.all_eq_false:=@List.all_eq_false
def TT:type_of% @List.getElem_drop:=@List.getElem_drop
def TU:type_of% @Nat.gcd_zero_left:=@Nat.gcd_zero_left
def TV:type_of% @List.foldl_append:=@List.foldl_append
def TW:type_of% @Nat.le_succ_of_le:=@Nat.le_succ_of_le
def TX:type_of% @Nat.mul_one:=@Nat.mul_one
def TY:type_of% @Nat.pow_add:=@Nat.pow_add
def TZ:type_of% @Nat.pow_mul:=@Nat.pow_mul
def T0:type_of% @Nat.div_one:=@Nat.div_one
def T1:type_of% @Int.le_refl:=@Int.le_refl
structure Env (w:World):Prop where
 maxLen:∃m,w.cell? ⟨0,0,none⟩=some (.int .i64 m)
 pow10:Lib.TabIs prog w "internal/strconv.uint64pow10" .u64 Lib.pow10Tab
 errSyntax:∃tp p,w.var? prog "strconv.ErrSyntax" =some #[.iface tp p]
 errRange:∃tp p,w.var? prog "strconv.ErrRange" =some #[.iface tp p]
def zt:prog.globalNamed "internal/strconv.uint64pow10" =some 1:=U
def mW:prog.globalNamed "strconv.ErrSyntax" =some 6:=U
def pc:prog.globalNamed "strconv.ErrRange" =some 7:=U
def zu{P:Program}{w:World}{n:String}{g:Nat}{cs:Array Value}(c:P.globalNamed n=some g)(h:w.var? P n=some cs):g<w.heap.size:=by
 rcases Rm g w.heap.size with b|a
 ·exact b
 simp[World.var?,c,R0 a]at h
def Env.below{w w':World}{B:Nat}(h:Env w)(a:Below B w w')(n:w.heap.size<=B):Env w':=by
 obtain⟨m,e⟩:=h.maxLen;obtain⟨i,p,c⟩:=h.errSyntax;obtain⟨b,g,d⟩:=h.errRange;have j:=zu mW c;have k:=zu pc d;have l:=zu zt h.pow10;have f:=World.block_lt_of_cell? _ _ e;exact⟨⟨m,(a.cell (p:=⟨0,0,none⟩) (by simp at f⊢;omega)).trans e⟩,var?_below a zt O h.pow10,⟨i,p,var?_below a mW O c⟩,⟨b,g,var?_below a pc O d⟩⟩
def Of(w:World)(t:TypeId)(a b c:Value):
  ∃W,w.alloc (.cells #[a,b,c] t)=W/\Below w.heap.size w W/\W.heap.size=w.heap.size+1/\
   W.cell? ⟨w.heap.size,0,none⟩=some a/\W.cell? ⟨w.heap.size,1,none⟩=some b/\W.cell? ⟨w.heap.size,2,none⟩=some c:=by
 refine⟨_,Z,(Below.refl _ _).alloc (Qi _) _,F,?_,?_,?_⟩<;>simp[go_sem]
def IsBlk(w:World)(g:Nat)(t:TypeId)(cs:Array Value):Prop:=w.heap[g]? =some (.cells cs t (0,0))
def IsBlk.lt{w:World}{g:Nat}{t:TypeId}{cs:Array Value}(h:IsBlk w g t cs):g<w.heap.size:=(QK.1 h).1
def IsBlk.cell{w:World}{g:Nat}{t:TypeId}{cs:Array Value}(h:IsBlk w g t cs)(i:Nat):w.cell? ⟨g,i,none⟩=cs[i]? :=cell_of_row w g i cs t (0,0) h
def IsBlk.free{w:World}{g:Nat}{t:TypeId}{cs:Array Value}(h:IsBlk w g t cs)(i:Nat):w.frozen? ⟨g,i,none⟩=false:=by
 unfold IsBlk at h;simp[World.frozen?,h]
def gL(w:World)(t:TypeId)(cs:Array Value):IsBlk (w.alloc (.cells cs t)) w.heap.size t cs:=heap_alloc_new w _
def IsBlk.below{w w':World}{g B:Nat}{t:TypeId}{cs:Array Value}(h:IsBlk w g t cs)(a:Below B w w')(b:g<B):IsBlk w' g t cs:=(a.block g b).trans h
def IsBlk.alloc{w:World}{g:Nat}{t:TypeId}{cs:Array Value}(h:IsBlk w g t cs)(o:Obj):IsBlk (w.alloc o) g t cs:=(Below.heap_alloc w o g h.lt).trans h
def IsBlk.put{w:World}{g:Nat}{t:TypeId}{cs:Array Value}(h:IsBlk w g t cs)(i:Nat)(u:Value):IsBlk (w.setCell ⟨g,i,none⟩ u) g t (cs.setIfInBounds i u):=by
 unfold IsBlk at h⊢;simp[World.setCell,RG,h]
def IsBlk.three{w:World}{g:Nat}{t:TypeId}{a b c:Value}(h:IsBlk w g t #[a,b,c]):
  w.cell? ⟨g,0,none⟩=some a/\w.cell? ⟨g,1,none⟩=some b/\w.cell? ⟨g,2,none⟩=some c/\w.frozen? ⟨g,0,none⟩=false/\w.frozen? ⟨g,1,none⟩=false/\w.frozen? ⟨g,2,none⟩=false:=
 ⟨h.cell 0,h.cell 1,h.cell 2,h.free 0,h.free 1,h.free 2⟩
def dM{w:World}{g:Nat}{t:TypeId}{i j l:Value}(h:IsBlk w g t #[i,j,l])(y0 a b:Value):
  ∃W,((w.setCell ⟨g,0,none⟩ y0).setCell ⟨g,1,none⟩ a).setCell ⟨g,2,none⟩ b=W/\IsBlk W g t #[y0,a,b]/\Below g w W/\W.heap.size=w.heap.size/\(∀k,k≠g->W.heap[k]? =w.heap[k]?):=by
 have d:=(Below.refl g w).setCell (p:=⟨g,0,none⟩) (Qi g) y0;have e:=d.setCell (p:=⟨g,1,none⟩) (Qi g) a;have f:=e.setCell (p:=⟨g,2,none⟩) (Qi g) b;refine⟨_,Z,?_,f,by simp[World.setCell],λk c=>?_⟩
 ·have:=((h.put 0 y0).put 1 a).put 2 b;simpa using this
 rw[Below.heap_setCell _ _ _ _ c,Below.heap_setCell _ _ _ _ c,Below.heap_setCell _ _ _ _ c]
end Go.Proofs.YtmhcanmapkenbaaGreatDoor
namespace Go.Proofs
open Go.Shelf Tryz
def fxS {o:Option Func} {a b:Func} (h:o=some a) (k:a=b:=by kernel_rfl):o=some b:=h.trans (congrArg some k)
def Tryz.lays165_ren:Go.Shelf.Ren:=⟨fun|165=>128|240=>58|241=>184|276=>98|277=>234|n=>n,fun|70=>57|3=>3|0=>0|4=>4|9=>9|20=>20|72=>59|37=>49|164=>154|5=>5|n=>n,fun|n=>n⟩
def Tryz.lays165:Go.Proofs.Lays.n165 Tryz.prog Tryz.lays165_ren:={mixed:=by kernel_rfl,f165:=fxS func128,f240:=fxS func58,f241:=fxS func184,f276:=fxS func98,f277:=fxS func234,t0:=underlying0,a0:=isAgg0,z0:=sizeOf0,v0:=zeroValue0,t3:=underlying3,a3:=isAgg3,z3:=sizeOf3,v3:=zeroValue3,t4:=underlying4,a4:=isAgg4,z4:=sizeOf4,v4:=zeroValue4,t9:=underlying9,a9:=isAgg9,z9:=sizeOf9,v9:=zeroValue9,t20:=underlying20,a20:=isAgg20,z20:=sizeOf20,v20:=zeroValue20,t37:=underlying49,a37:=isAgg49,z37:=sizeOf49,v37:=zeroValue49,t70:=underlying57,a70:=isAgg57,z70:=sizeOf57,v70:=zeroValue57,t72:=underlying59,a72:=isAgg59,z72:=sizeOf59,v72:=zeroValue59,t164:=underlying154,a164:=isAgg154,z164:=sizeOf154,v164:=zeroValue154}
def Tryz.lays156_ren:Go.Shelf.Ren:=⟨fun|156=>74|165=>128|166=>22|169=>25|240=>58|241=>184|276=>98|277=>234|n=>n,fun|31=>40|9=>9|3=>3|4=>4|0=>0|20=>20|72=>59|76=>62|70=>57|37=>49|75=>61|127=>121|164=>154|5=>5|80=>66|n=>n,fun|n=>n⟩
def Tryz.lays156:Go.Proofs.Lays.n156 Tryz.prog Tryz.lays156_ren:={Tryz.lays165 with f156:=fxS func74,f165:=fxS func128,f166:=fxS func22,f169:=fxS func25,f240:=fxS func58,f241:=fxS func184,f276:=fxS func98,f277:=fxS func234,t31:=underlying40,a31:=isAgg40,z31:=sizeOf40,v31:=zeroValue40,t75:=underlying61,a75:=isAgg61,z75:=sizeOf61,v75:=zeroValue61,t76:=underlying62,a76:=isAgg62,z76:=sizeOf62,v76:=zeroValue62,t127:=underlying121,a127:=isAgg121,z127:=sizeOf121,v127:=zeroValue121}
def Tryz.Builder_Extra_156:Builder.Extra Tryz.prog Tryz.lays156_ren:={
  sizeBuilder:=by kernel_rfl
  liesBuilder:=by kernel_rfl
  t5:=Tryz.underlying5
  a5:=Tryz.isAgg5
  z5:=Tryz.sizeOf5
  v5:=Tryz.zeroValue5
  infoByte:=by kernel_rfl
  cellsByte:=by kernel_rfl
  sizeByte:=by kernel_rfl
  neB5:=by decide}
open Go.RowKit in
def Tryz.strings_Join_none (a:Option Addr) (c:Nat) (sep:ByteArray) (w:World):
    Calls Tryz.prog 74 #[.slice a 0 c,.string sep] w fun e w'=>e=.returned (.string ⟨#[]⟩)∧w'=w:=Any.strings_Join_none Tryz.lays156 Tryz.Builder_Extra_156 a c sep w
open Go.RowKit in
def Tryz.strings_Join (bk o c:Nat) (xs:List ByteArray) (sep:ByteArray) (w:World) (hcells:∀(j:Nat) x,xs[j]? =some x→w.cell? ⟨bk,o+j,none⟩=some (.string x)) (hbk:bk<w.heap.size) (hN:xs.length≤140737488355328) (hcap:xs.length≤c) (hlen:(Lib.join (xs.map (·.data.toList)) sep.data.toList).length≤140737488355328):
    Calls Tryz.prog 74 #[.slice (some ⟨bk,o,none⟩) xs.length c,.string sep] w fun e w'=>e=.returned (.string ⟨(Lib.join (xs.map (·.data.toList)) sep.data.toList).toArray⟩)∧Below w.heap.size w w':=Any.strings_Join Tryz.lays156 Tryz.Builder_Extra_156 bk o c xs sep w hcells hbk hN hcap hlen
def Tryz.laysM173_ren:Go.Shelf.Ren:=⟨fun|173=>60|246=>99|283=>148|284=>149|285=>150|286=>151|129=>195|317=>194|318=>196|319=>197|320=>198|337=>240|338=>241|n=>n,fun|2=>2|3=>3|9=>9|4=>4|171=>207|0=>0|53=>56|37=>49|5=>5|173=>210|212=>250|51=>114|20=>20|213=>251|46=>32|232=>318|233=>319|n=>n,fun|17=>1|18=>4|19=>5|n=>n⟩
def Tryz.laysM173:Go.Proofs.LaysM.n173 Tryz.prog Tryz.laysM173_ren:={Tryz.lays165 with f129:=fxS func195,f173:=fxS func60,f246:=fxS func99,f283:=fxS func148,f284:=fxS func149,f285:=fxS func150,f286:=fxS func151,f317:=fxS func194,f318:=fxS func196,f319:=fxS func197,f320:=fxS func198,f337:=fxS func240,f338:=fxS func241,t2:=underlying2,a2:=isAgg2,z2:=sizeOf2,v2:=zeroValue2,t5:=underlying5,a5:=isAgg5,z5:=sizeOf5,v5:=zeroValue5,t46:=underlying32,a46:=isAgg32,z46:=sizeOf32,v46:=zeroValue32,t51:=underlying114,a51:=isAgg114,z51:=sizeOf114,v51:=zeroValue114,t53:=underlying56,a53:=isAgg56,z53:=sizeOf56,v53:=zeroValue56,t171:=underlying207,a171:=isAgg207,z171:=sizeOf207,v171:=zeroValue207,t173:=underlying210,a173:=isAgg210,z173:=sizeOf210,v173:=zeroValue210,t212:=underlying250,a212:=isAgg250,z212:=sizeOf250,v212:=zeroValue250,t213:=underlying251,a213:=isAgg251,z213:=sizeOf251,t232:=underlying318,a232:=isAgg318,z232:=sizeOf318,v232:=zeroValue318,t233:=underlying319,a233:=isAgg319,z233:=sizeOf319,v233:=zeroValue319,g17:=by kernel_rfl,g18:=by kernel_rfl,g19:=by kernel_rfl,i0:=by kernel_rfl,i2:=by kernel_rfl,i3:=by kernel_rfl,i4:=by kernel_rfl,i5:=by kernel_rfl,i9:=by kernel_rfl,i20:=by kernel_rfl,i37:=by kernel_rfl,i46:=by kernel_rfl,i51:=by kernel_rfl,i53:=by kernel_rfl,i171:=by kernel_rfl,i173:=by kernel_rfl,i212:=by kernel_rfl,i232:=by kernel_rfl,i233:=by kernel_rfl,m17:=by kernel_rfl,m18:=by kernel_rfl,m19:=by kernel_rfl}
open Go.RowKit Go.Sort Go.Lib in
def Tryz.strconv_FormatInt_10 (n:Int) (h0: -9223372036854775808≤n) (h1:n≤9223372036854775807) (w:World) (htab:Lib.TabIs Tryz.prog w "internal/strconv.uint64pow10" .u64 Lib.pow10Tab):
    Calls Tryz.prog 60 #[.int .i64 n,.int .i64 10] w fun e w'=>e=.returned (.string ⟨(Lib.itoa n).toArray⟩)∧∃k os,w'=grow (w.drewN k) os:=Any.strconv_FormatInt_10 Tryz.laysM173 n h0 h1 w htab
def Tryz.laysC174_ren:Go.Shelf.Ren:=⟨fun|174=>280|247=>299|245=>300|287=>312|279=>313|280=>314|281=>315|282=>316|321=>320|322=>321|316=>322|171=>178|205=>323|243=>231|246=>99|283=>148|284=>149|285=>150|286=>151|129=>195|317=>194|318=>196|319=>197|320=>198|337=>240|338=>241|n=>n,fun|9=>9|3=>3|2=>2|75=>61|85=>323|4=>4|167=>349|5=>5|53=>56|175=>350|46=>32|168=>352|37=>49|0=>0|210=>358|21=>21|127=>121|145=>364|143=>362|171=>207|173=>210|212=>250|51=>114|20=>20|213=>251|232=>318|233=>319|80=>66|n=>n,fun|15=>6|16=>7|17=>1|18=>4|19=>5|n=>n⟩
def Tryz.laysC174:Go.Proofs.LaysC.n174 Tryz.prog Tryz.laysC174_ren:={Tryz.laysM173,Tryz.lays156 with f129:=fxS func195,f171:=fxS func178,f174:=fxS func280,f205:=fxS func323,f243:=fxS func231,f245:=fxS func300,f246:=fxS func99,f247:=fxS func299,f279:=fxS func313,f280:=fxS func314,f281:=fxS func315,f282:=fxS func316,f283:=fxS func148,f284:=fxS func149,f285:=fxS func150,f286:=fxS func151,f287:=fxS func312,f316:=fxS func322,f317:=fxS func194,f318:=fxS func196,f319:=fxS func197,f320:=fxS func198,f321:=fxS func320,f322:=fxS func321,f337:=fxS func240,f338:=fxS func241,t21:=underlying21,a21:=isAgg21,z21:=sizeOf21,v21:=zeroValue21,t85:=underlying323,a85:=isAgg323,z85:=sizeOf323,v85:=zeroValue323,t143:=underlying362,a143:=isAgg362,z143:=sizeOf362,v143:=zeroValue362,t145:=underlying364,a145:=isAgg364,z145:=sizeOf364,v145:=zeroValue364,t167:=underlying349,a167:=isAgg349,z167:=sizeOf349,v167:=zeroValue349,t168:=underlying352,a168:=isAgg352,z168:=sizeOf352,v168:=zeroValue352,t175:=underlying350,a175:=isAgg350,z175:=sizeOf350,v175:=zeroValue350,t210:=underlying358,a210:=isAgg358,z210:=sizeOf358,v210:=zeroValue358,g15:=by kernel_rfl,g16:=by kernel_rfl,g17:=by kernel_rfl,g18:=by kernel_rfl,g19:=by kernel_rfl,t80:=underlying66,a80:=isAgg66,z80:=sizeOf66,v80:=zeroValue66,i0:=by kernel_rfl,i2:=by kernel_rfl,i3:=by kernel_rfl,i4:=by kernel_rfl,i5:=by kernel_rfl,i9:=by kernel_rfl,i20:=by kernel_rfl,i21:=by kernel_rfl,i37:=by kernel_rfl,i46:=by kernel_rfl,i51:=by kernel_rfl,i53:=by kernel_rfl,i75:=by kernel_rfl,i80:=by kernel_rfl,i85:=by kernel_rfl,i127:=by kernel_rfl,i143:=by kernel_rfl,i145:=by kernel_rfl,i167:=by kernel_rfl,i168:=by kernel_rfl,i171:=by kernel_rfl,i173:=by kernel_rfl,i175:=by kernel_rfl,i210:=by kernel_rfl,i212:=by kernel_rfl,i232:=by kernel_rfl,i233:=by kernel_rfl,m15:=by kernel_rfl,m16:=by kernel_rfl,m17:=by kernel_rfl,m18:=by kernel_rfl,m19:=by kernel_rfl,c0:=by kernel_rfl,c2:=by kernel_rfl,c3:=by kernel_rfl,c4:=by kernel_rfl,c5:=by kernel_rfl,c9:=by kernel_rfl,c20:=by kernel_rfl,c21:=by kernel_rfl,c37:=by kernel_rfl,c46:=by kernel_rfl,c51:=by kernel_rfl,c53:=by kernel_rfl,c75:=by kernel_rfl,c80:=by kernel_rfl,c85:=by kernel_rfl,c127:=by kernel_rfl,c143:=by kernel_rfl,c145:=by kernel_rfl,c167:=by kernel_rfl,c168:=by kernel_rfl,c171:=by kernel_rfl,c173:=by kernel_rfl,c175:=by kernel_rfl,c210:=by kernel_rfl,c212:=by kernel_rfl,c213:=by kernel_rfl,c232:=by kernel_rfl,c233:=by kernel_rfl}
open Go.RowKit in
def Tryz.strconv_ParseInt_10_at64_ok (s:ByteArray) (hmax:s.size≤9223372036854775806) (v:Int) (h:Lib.parseIntB 64 s.data.toList=.ok v) (w:World):
    Calls Tryz.prog 280 #[.string s,.int .i64 10,.int .i64 64] w fun e w'=>e=.returned (.tuple #[.int .i64 v,.nilIface])∧(w'=w∨∃t,w'=Lib.bytesWorld w 5 t):=Any.strconv_ParseInt_10_at64_ok Tryz.laysC174 s hmax v h w
open Go.RowKit in
def Tryz.strconv_ParseInt_10_at64_range_var (s:ByteArray) (hlim:s.size≤281474976710656) (h:Lib.parseIntB 64 s.data.toList=.range) (tp:TypeId) (p:Value) (w:World) (hvar:w.var? Tryz.prog "strconv.ErrRange" =some #[.iface tp p]):
    Calls Tryz.prog 280 #[.string s,.int .i64 10,.int .i64 64] w fun e w'=>∃N,e=.returned (.tuple #[.int .i64 (Lib.intSat 64 s.data.toList),.iface 352 (.pointer (some ⟨N,0,none⟩))])∧w.heap.size≤N∧w'.heap[N]? =some (.cells #[.string ⟨#[80,97,114,115,101,73,110,116]⟩,.string s,.iface tp p] 358 (0,0))∧Below w.heap.size w w':=Any.strconv_ParseInt_10_at64_range_var Tryz.laysC174 s hlim h tp p w hvar
def Tryz.lays99_ren:Go.Shelf.Ren:=⟨fun|99=>278|206=>298|n=>n,fun|9=>9|4=>4|3=>3|n=>n,fun|n=>n⟩
def Tryz.lays99:Go.Proofs.Lays.n99 Tryz.prog Tryz.lays99_ren:={Tryz.lays165 with f99:=fxS func278,f206:=fxS func298}
open Go.RowKit Go.Lib in
def Tryz.strings_HasPrefix (s p:ByteArray) (w:World):
    Calls Tryz.prog 278 #[.string s,.string p] w fun e w'=>e=.returned (.bool (Lib.hasPrefix s.data.toList p.data.toList))∧w'=w:=Any.strings_HasPrefix Tryz.lays99 s p w
def Tryz.lays155_ren:Go.Shelf.Ren:=⟨fun|155=>61|154=>100|138=>152|165=>128|143=>153|166=>22|197=>154|169=>25|195=>199|218=>200|240=>58|241=>184|219=>201|260=>202|276=>98|277=>234|217=>78|225=>242|224=>243|267=>244|266=>133|314=>277|n=>n,fun|9=>9|3=>3|4=>4|72=>59|0=>0|76=>62|105=>212|21=>21|5=>5|70=>57|20=>20|37=>49|75=>61|127=>121|164=>154|46=>32|119=>282|139=>285|138=>284|146=>320|51=>114|80=>66|n=>n,fun|1=>0|3=>2|4=>3|n=>n⟩
def Tryz.lays155:Go.Proofs.Lays.n155 Tryz.prog Tryz.lays155_ren:={Tryz.lays156,Tryz.laysC174 with f138:=fxS func152,f143:=fxS func153,f154:=fxS func100,f155:=fxS func61,f165:=fxS func128,f166:=fxS func22,f169:=fxS func25,f195:=fxS func199,f197:=fxS func154,f217:=fxS func78,f218:=fxS func200,f219:=fxS func201,f224:=fxS func243,f225:=fxS func242,f240:=fxS func58,f241:=fxS func184,f260:=fxS func202,f266:=fxS func133,f267:=fxS func244,f276:=fxS func98,f277:=fxS func234,f314:=fxS func277,t105:=underlying212,a105:=isAgg212,z105:=sizeOf212,v105:=zeroValue212,t119:=underlying282,a119:=isAgg282,z119:=sizeOf282,t138:=underlying284,a138:=isAgg284,z138:=sizeOf284,v138:=zeroValue284,t139:=underlying285,a139:=isAgg285,z139:=sizeOf285,v139:=zeroValue285,t146:=underlying320,a146:=isAgg320,z146:=sizeOf320,v146:=zeroValue320,g1:=by kernel_rfl,g3:=by kernel_rfl,g4:=by kernel_rfl}
def Tryz.Builder_Extra_155:Builder.Extra Tryz.prog Tryz.lays155_ren:={
  sizeBuilder:=by kernel_rfl
  liesBuilder:=by kernel_rfl
  t5:=Tryz.underlying5
  a5:=Tryz.isAgg5
  z5:=Tryz.sizeOf5
  v5:=Tryz.zeroValue5
  infoByte:=by kernel_rfl
  cellsByte:=by kernel_rfl
  sizeByte:=by kernel_rfl
  neB5:=by decide}
open Go.RowKit Go.Lib in
def Tryz.strings_ReplaceAll (s old new:ByteArray) (m:Int) (w:World) (hs:s.size<4294967281) (hm:w.cell? ⟨0,0,none⟩=some (.int .i64 m)) (h1:1≤old.size) (hlen:s.size+Lib.countB s old*new.size≤140737488355328):
    Calls Tryz.prog 61 #[.string s,.string old,.string new] w fun e w'=>
      e=.returned (.string ⟨(Lib.replaceAll s.data.toList old.data.toList new.data.toList).toArray⟩)∧Below w.heap.size w w':=Any.strings_ReplaceAll Tryz.lays155 Tryz.Builder_Extra_155 s old new m w hs hm h1 hlen
def Tryz.laysM155_ren:Go.Shelf.Ren:=⟨fun|155=>61|154=>100|138=>152|165=>128|143=>153|166=>22|197=>154|169=>25|195=>199|218=>200|240=>58|241=>184|219=>201|260=>202|276=>98|277=>234|217=>78|225=>242|224=>243|267=>244|266=>133|314=>277|n=>n,fun|9=>9|3=>3|4=>4|72=>59|0=>0|76=>62|105=>212|21=>21|5=>5|70=>57|20=>20|37=>49|75=>61|127=>121|164=>154|46=>32|119=>282|139=>285|138=>284|146=>320|51=>114|80=>66|n=>n,fun|1=>0|3=>2|4=>3|n=>n⟩
def Tryz.laysM155:Go.Proofs.LaysM.n155 Tryz.prog Tryz.laysM155_ren:={Tryz.lays155,Tryz.laysC174 with f138:=fxS func152,f143:=fxS func153,f154:=fxS func100,f155:=fxS func61,f165:=fxS func128,f166:=fxS func22,f169:=fxS func25,f195:=fxS func199,f197:=fxS func154,f217:=fxS func78,f218:=fxS func200,f219:=fxS func201,f224:=fxS func243,f225:=fxS func242,f240:=fxS func58,f241:=fxS func184,f260:=fxS func202,f266:=fxS func133,f267:=fxS func244,f276:=fxS func98,f277:=fxS func234,f314:=fxS func277,g1:=by kernel_rfl,g3:=by kernel_rfl,g4:=by kernel_rfl,i0:=by kernel_rfl,i3:=by kernel_rfl,i4:=by kernel_rfl,i5:=by kernel_rfl,i9:=by kernel_rfl,i20:=by kernel_rfl,i21:=by kernel_rfl,i37:=by kernel_rfl,i46:=by kernel_rfl,i51:=by kernel_rfl,i70:=by kernel_rfl,i72:=by kernel_rfl,i75:=by kernel_rfl,i76:=by kernel_rfl,i80:=by kernel_rfl,i105:=by kernel_rfl,i127:=by kernel_rfl,i138:=by kernel_rfl,i139:=by kernel_rfl,i146:=by kernel_rfl,i164:=by kernel_rfl,m1:=by kernel_rfl,s1_3:=fun w h=>Go.Proofs.cell_of_shapedOpen_int (zero:=#[.int .i64 0]) (t:=3) h (of_decide_eq_true (by kernel_rfl)) (by kernel_rfl) rfl (by kernel_rfl) (by kernel_rfl) Tryz.underlying3,m3:=by kernel_rfl,m4:=by kernel_rfl}
end Go.Proofs
namespace Go.Proofs.YtmhcanmapkenbaaGreatDoor
open Go.RowKit
def zw(w:World)(k:Nat)(b:Array Obj):Below w.heap.size w (Go.Sort.grow (w.drewN k) b):=
 ⟨Z,Z,Z,by simp[Go.Sort.grow],λi a=>by simp[Go.Sort.grow,World.drewN,SC a]⟩
def tL(n:Int)(w:World)(a: -9223372036854775808<=n)(b:n<=9223372036854775807)(c:Env w):
  Calls prog 60 #[.int .i64 n,.int .i64 10] w λe w'=>e=.returned (.string ⟨(Lib.itoa n).toArray⟩)/\Below w.heap.size w w':=
 (Tryz.strconv_FormatInt_10 n a b w c.pow10).mono λe w' ⟨d,k,g,f⟩=>⟨d,by subst f;exact zw w k g⟩
def pL(s:ByteArray)(v:Int)(w:World)(c:s.size<=281474976710656)(h:Lib.parseIntB 64 s.data.toList=.ok v):
  Calls prog 280 #[.string s,.int .i64 10,.int .i64 64] w λe w'=>e=.returned (.tuple #[.int .i64 v,.nilIface])/\Below w.heap.size w w':=
 (Tryz.strconv_ParseInt_10_at64_ok s O v h w).mono λe w' ⟨a,b⟩=>⟨a,by
  rcases b with rfl|⟨t,rfl⟩
  ·exact Below.refl _ _
  exact Lib.bytesWorld_below _ _ _⟩
def IW(w:World)(e:Ending)(w':World):Prop:=∃(v:Int) (N:Nat),e=.returned (.tuple #[.int .i64 v,.iface 352 (.pointer (some ⟨N,0,none⟩))])/\Below w.heap.size w w'
def va(s:ByteArray)(w:World)(g:s.size<=281474976710656)(h:∀v,Lib.parseIntB 64 s.data.toList≠ .ok v)(f:Env w):
  Calls prog 280 #[.string s,.int .i64 10,.int .i64 64] w (IW w):=by
 obtain⟨l,p,i⟩:=f.errSyntax;obtain⟨d,k,j⟩:=f.errRange;cases c:Lib.parseIntB 64 s.data.toList with
 |ok v=>exact absurd c (h v)
 |_=>
  first
   |exact(Tryz.strconv_ParseInt_10_at64_range_var s g c d k w j).mono λe w' ⟨N,b,_,_,a⟩=>⟨_,N,b,a⟩
   |exact(Any.strconv_ParseInt_10_at64_syntax_var laysC174 s g c l p w i).mono λe w' ⟨N,b,_,_,a⟩=>⟨_,N,b,a⟩
def eg(s p:ByteArray)(w:World):
  Calls prog 278 #[.string s,.string p] w λe w'=>e=.returned (.bool (Lib.hasPrefix s.data.toList p.data.toList))/\w=w':=
 (Tryz.strings_HasPrefix s p w).mono λ_ _ ⟨a,b⟩=>⟨a,b.symm⟩
def gq(s old a:ByteArray)(w:World)(h:s.size<=4294967280)(b:1<=old.size)(c:a.size<=2)(d:Env w):
  Calls prog 61 #[.string s,.string old,.string a] w λe w'=>e=.returned (.string ⟨(Lib.replaceAll s.data.toList old.data.toList a.data.toList).toArray⟩)/\Below w.heap.size w w':=by
 obtain⟨m,g⟩:=d.maxLen;have f:=Lib.countB_le old b s.size s (Qi _);exact Tryz.strings_ReplaceAll s old a m w O g b (by
  have:Lib.countB s old*a.size<=s.size*2:=Tz f c;omega)
