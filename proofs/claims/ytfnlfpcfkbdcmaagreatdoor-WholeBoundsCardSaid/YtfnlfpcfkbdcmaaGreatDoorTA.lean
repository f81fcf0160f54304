import Derived.Deep.AppendLies
import Derived.Deep.Matrix
import Derived.Deep.RegionHeld3
import Derived.Deep.SlicePairs
import Derived.Deep.WholeRow
import Derived.LaidMore
import Derived.Laws.CopyOwn
import Derived.Laws.Cover1
import Derived.Laws.PanicsMore
import Derived.Lib.AppendStr
import Derived.Lib.AppendZerosOnto
import Derived.Lib.Hide
import Derived.Lib.SmallJoins
import Derived.Maps.OwnRows
import Derived.RangeFuncBox
import Derived.RangeFuncCalls
import Derived.SevenTiedAt
import Derived.Shelf.SlIter.Nil
import Derived.Shelf.SlicesG.CompactS
import Derived.Shelf.SortM.Plain
import Derived.Shelf.SortM.SortNone
import Derived.StillTailTactics
import Derived.WalkSpells
import Derived.Test.YtfnlfpcfkbdcmaaGreatDoorChecked
set_option linter.unusedSimpArgs false
set_option linter.unusedVariables false
namespace Go.Proofs.YtfnlfpcfkbdcmaaGreatDoor
open RowKit Tryz
theorem T:type_of% @Lib.hid:=@Lib.hid
theorem qx:type_of% @Nat.le_refl:=@Nat.le_refl
theorem qv:type_of% @Nat.le_trans:=@Nat.le_trans
theorem qy:type_of% @List.mem_singleton:=@List.mem_singleton
theorem qQ:type_of% @List.setIfInBounds_toArray:=@List.setIfInBounds_toArray
theorem qZ:type_of% @Below.refl:=@Below.refl
theorem qJ:type_of% @if_neg:=@if_neg
theorem qX:type_of% @List.getElem?_eq_getElem:=@List.getElem?_eq_getElem
theorem qV:type_of% @List.set_cons_succ:=@List.set_cons_succ
theorem qY:type_of% @List.set_cons_zero:=@List.set_cons_zero
theorem qk:type_of% @if_pos:=@if_pos
theorem qK:type_of% @List.length_append:=@List.length_append
theorem qp:type_of% @Nat.zero_le:=@Nat.zero_le
theorem qP:type_of% @World.ownsRow_nil:=@World.ownsRow_nil
theorem qu:type_of% @underlying30:=@underlying30
theorem qU:type_of% @IntKind.wrap_i64:=@IntKind.wrap_i64
theorem qD:type_of% @List.getElem?_map:=@List.getElem?_map
theorem qd:type_of% @List.getD_eq_getElem?_getD:=@List.getD_eq_getElem?_getD
theorem qf:type_of% @List.length_cons:=@List.length_cons
theorem qg:type_of% @List.map_append:=@List.map_append
theorem qh:type_of% @List.length_take:=@List.length_take
theorem qB:type_of% @Nat.lt_of_lt_of_le:=@Nat.lt_of_lt_of_le
theorem qc:type_of% @decide_eq_false:=@decide_eq_false
theorem qH:type_of% @List.take_of_length_le:=@List.take_of_length_le
theorem qC:type_of% @wpList_store_row:=@wpList_store_row
theorem qA:type_of% @info_parts:=@info_parts
theorem qw:type_of% @decide_eq_true:=@decide_eq_true
theorem qR:type_of% @List.getElem?_toArray:=@List.getElem?_toArray
theorem qt:type_of% @List.getElem?_cons_zero:=@List.getElem?_cons_zero
theorem qI:type_of% @List.length_drop:=@List.length_drop
theorem qs:type_of% @List.take_add_one:=@List.take_add_one
theorem qW:type_of% @bodyPost_ret:=@bodyPost_ret
theorem qS:type_of% @IntKind.wrap_u64:=@IntKind.wrap_u64
theorem qN:type_of% @run_loadVar_row:=@run_loadVar_row
theorem qM:type_of% @List.mem_cons_of_mem:=@List.mem_cons_of_mem
theorem qo:type_of% @List.mem_cons_self:=@List.mem_cons_self
theorem qm:type_of% @List.getElem?_append_right:=@List.getElem?_append_right
theorem ql:type_of% @Nat.succ_mul:=@Nat.succ_mul
theorem qL:type_of% @List.mem_cons:=@List.mem_cons
theorem zy:type_of% @Option.some.inj:=@Option.some.inj
theorem zx:type_of% @List.getElem_mem:=@List.getElem_mem
theorem qO:type_of% @List.getElem?_eq_none:=@List.getElem?_eq_none
theorem q_:type_of% @List.getElem?_append_left:=@List.getElem?_append_left
theorem zQ:type_of% @List.mem_of_getElem?:=@List.mem_of_getElem?
theorem zZ:type_of% @Nat.pow_le_pow_right:=@Nat.pow_le_pow_right
theorem zJ:type_of% @List.length_singleton:=@List.length_singleton
theorem zK:type_of% @List.drop_eq_getElem_cons:=@List.drop_eq_getElem_cons
theorem zF:type_of% @List.length_nil:=@List.length_nil
theorem zW:type_of% @decide_eq_false_iff_not:=@decide_eq_false_iff_not
theorem zd:type_of% @decide_eq_true_eq:=@decide_eq_true_eq
theorem zk:type_of% @Nat.mul_le_mul_right:=@Nat.mul_le_mul_right
theorem zD:type_of% @List.drop_of_length_le:=@List.drop_of_length_le
theorem zg:type_of% @Array.getElem?_eq_none:=@Array.getElem?_eq_none
theorem zH:type_of% @List.length_map:=@List.length_map
theorem zB:type_of% @Int.natCast_mul:=@Int.natCast_mul
theorem zc:type_of% @Int.toNat_natCast:=@Int.toNat_natCast
theorem zA:type_of% @Nat.eq_zero_or_pos:=@Nat.eq_zero_or_pos
theorem zR:type_of% @Bool.and_eq_true:=@Bool.and_eq_true
theorem ze:type_of% @Nat.lt_succ_self:=@Nat.lt_succ_self
theorem zt:type_of% @List.mem_append:=@List.mem_append
theorem zE:type_of% @beq_eq_false_iff_ne:=@beq_eq_false_iff_ne
theorem zr:type_of% @Nat.le_of_lt:=@Nat.le_of_lt
theorem zT:type_of% @List.length_replicate:=@List.length_replicate
theorem zw:type_of% @World.cell?_of_block:=@World.cell?_of_block
theorem zS:type_of% @UInt8.toNat_ofNat':=@UInt8.toNat_ofNat'
theorem zo:type_of% @congrArg:=@congrArg
theorem zO:type_of% @World.size_setCell:=@World.size_setCell
theorem zm:type_of% @List.ext_getElem?:=@List.ext_getElem?
theorem zl:type_of% @List.eq_nil_of_length_eq_zero:=@List.eq_nil_of_length_eq_zero
theorem zL:type_of% @underlying154:=@underlying154
theorem jy:type_of% @List.map_cons:=@List.map_cons
theorem z_:type_of% @Nat.mul_one:=@Nat.mul_one
theorem jj:type_of% @underlying62:=@underlying62
theorem jx:type_of% @List.append_nil:=@List.append_nil
theorem ju:type_of% @underlying9:=@underlying9
theorem jJ:type_of% @List.getElem?_range:=@List.getElem?_range
theorem jv:type_of% @Nat.le_succ:=@Nat.le_succ
theorem jY:type_of% @List.append_assoc:=@List.append_assoc
theorem jK:type_of% @underlying23:=@underlying23
theorem jP:type_of% @List.take_length:=@List.take_length
theorem jB:type_of% @List.mem_map:=@List.mem_map
theorem jk:type_of% @Nat.mod_eq_of_lt:=@Nat.mod_eq_of_lt
theorem jd:type_of% @Nat.zero_mul:=@Nat.zero_mul
theorem jD:type_of% @underlying99:=@underlying99
theorem jF:type_of% @List.getElem?_replicate:=@List.getElem?_replicate
theorem jb:type_of% @zero_of_info:=@zero_of_info
theorem jG:type_of% @UInt8.toNat_inj:=@UInt8.toNat_inj
theorem jE:type_of% @Nat.lt_or_ge:=@Nat.lt_or_ge
theorem js:type_of% @List.mem_range:=@List.mem_range
theorem xD:type_of% @of_decide_eq_true:=@of_decide_eq_true
theorem jc:type_of% @underlying193:=@underlying193
theorem jX:type_of% @List.map_congr_left:=@List.map_congr_left
theorem ja:type_of% @wpList_load_row:=@wpList_load_row
theorem jA:type_of% @List.range_succ:=@List.range_succ
theorem je:type_of% @Nat.xor_assoc:=@Nat.xor_assoc
theorem jr:type_of% @underlying87:=@underlying87
theorem jt:type_of% @List.getElem?_drop:=@List.getElem?_drop
theorem jT:type_of% @Below.heap_setCell:=@Below.heap_setCell
theorem xT:type_of% @List.all_eq_true:=@List.all_eq_true
theorem jL:type_of% @Nat.zero_add:=@Nat.zero_add
theorem yu:type_of% @underlying3:=@underlying3
theorem jN:type_of% @List.length_filter_le:=@List.length_filter_le
theorem jM:type_of% @Array.getElem?_setIfInBounds:=@Array.getElem?_setIfInBounds
theorem jo:type_of% @decide_eq_true_iff:=@decide_eq_true_iff
theorem j2:type_of% @List.mem_of_mem_take:=@List.mem_of_mem_take
theorem j6:type_of% @Int.natCast_pow:=@Int.natCast_pow
theorem xZ:type_of% @List.getElem?_take:=@List.getElem?_take
theorem xq:type_of% @List.length_eq_zero_iff:=@List.length_eq_zero_iff
theorem yz:type_of% @Nat.mul_le_mul_left:=@Nat.mul_le_mul_left
theorem vp:type_of% @List.getElem?_eq_some_iff:=@List.getElem?_eq_some_iff
theorem xS:type_of% @underlying5:=@underlying5
theorem xj:type_of% @List.mem_nil_iff:=@List.mem_nil_iff
theorem xI:type_of% @List.flatten_cons:=@List.flatten_cons
theorem xJ:type_of% @List.eq_of_mem_replicate:=@List.eq_of_mem_replicate
theorem xB:type_of% @List.map_nil:=@List.map_nil
theorem xY:type_of% @List.nil_append:=@List.nil_append
theorem xK:type_of% @Nat.min_le_left:=@Nat.min_le_left
theorem xP:type_of% @wpList_make_full:=@wpList_make_full
theorem xd:type_of% @List.size_toArray:=@List.size_toArray
theorem xf:type_of% @toList_madeCells_one:=@toList_madeCells_one
theorem xH:type_of% @Nat.mul_comm:=@Nat.mul_comm
theorem xC:type_of% @Nat.mod_lt:=@Nat.mod_lt
theorem xA:type_of% @Nat.mul_le_mul:=@Nat.mul_le_mul
theorem xe:type_of% @Int.natCast_add:=@Int.natCast_add
theorem xE:type_of% @List.length_set:=@List.length_set
theorem xr:type_of% @Nat.div_le_self:=@Nat.div_le_self
theorem xW:type_of% @Nat.div_eq_of_lt:=@Nat.div_eq_of_lt
theorem xM:type_of% @List.flatten_append:=@List.flatten_append
theorem xO:type_of% @Nat.sub_self:=@Nat.sub_self
theorem vz:type_of% @Nat.xor_lt_two_pow:=@Nat.xor_lt_two_pow
theorem vj:type_of% @List.pairwise_cons:=@List.pairwise_cons
theorem vx:type_of% @List.filter_append:=@List.filter_append
theorem vQ:type_of% @Nat.lt_of_le_of_lt:=@Nat.lt_of_le_of_lt
theorem vZ:type_of% @Nat.min_eq_left:=@Nat.min_eq_left
theorem vJ:type_of% @List.mem_filter:=@List.mem_filter
theorem vV:type_of% @Nat.ne_of_lt:=@Nat.ne_of_lt
theorem vY:type_of% @World.size_alloc:=@World.size_alloc
theorem vK:type_of% @ntmps26:=@ntmps26
theorem yQ:type_of% @Classical.byContradiction:=@Classical.byContradiction
theorem vD:type_of% @List.getElem?_set:=@List.getElem?_set
theorem QL:type_of% @underlying24:=@underlying24
theorem vG:type_of% @List.take_zero:=@List.take_zero
theorem vh:type_of% @List.drop_drop:=@List.drop_drop
theorem vH:type_of% @ntmps150:=@ntmps150
theorem vB:type_of% @Nat.pow_succ:=@Nat.pow_succ
theorem v_:type_of% @Nat.add_zero:=@Nat.add_zero
theorem vC:type_of% @List.map_map:=@List.map_map
theorem va:type_of% @IntKind.wrap_u8:=@IntKind.wrap_u8
theorem vw:type_of% @func26:=@func26
theorem yE:type_of% @List.getElem?_mapIdx:=@List.getElem?_mapIdx
theorem vo:type_of% @Nat.add_assoc:=@Nat.add_assoc
theorem vL:type_of% @Nat.mod_two_eq_zero_or_one:=@Nat.mod_two_eq_zero_or_one
theorem yo:type_of% @bne_iff_ne:=@bne_iff_ne
theorem yq:type_of% @func150:=@func150
theorem yx:type_of% @Bool.eq_iff_iff:=@Bool.eq_iff_iff
theorem QE:type_of% @List.sum_append:=@List.sum_append
theorem yJ:type_of% @Nat.le_div_iff_mul_le:=@Nat.le_div_iff_mul_le
theorem yp:type_of% @beq_iff_eq:=@beq_iff_eq
theorem yP:type_of% @List.map_replicate:=@List.map_replicate
theorem yU:type_of% @underlying350:=@underlying350
theorem yg:type_of% @Array.size_setIfInBounds:=@Array.size_setIfInBounds
theorem ya:type_of% @Array.replicate_succ:=@Array.replicate_succ
theorem yA:type_of% @Array.replicate_zero:=@Array.replicate_zero
theorem ye:type_of% @List.length_finRange:=@List.length_finRange
theorem yT:type_of% @IntWalk.wrap64_in:=@IntWalk.wrap64_in
theorem yw:type_of% @List.filter_cons_of_neg:=@List.filter_cons_of_neg
theorem yW:type_of% @List.filter_cons_of_pos:=@List.filter_cons_of_pos
theorem yS:type_of% @List.length_range:=@List.length_range
theorem yN:type_of% @List.getElem?_cons_succ:=@List.getElem?_cons_succ
theorem ym:type_of% @Classical.not_not:=@Classical.not_not
theorem yI:type_of% @List.append_toArray:=@List.append_toArray
theorem y_:type_of% @Nat.xor_comm:=@Nat.xor_comm
theorem Qq:type_of% @List.getElem?_set_self:=@List.getElem?_set_self
theorem Qz:type_of% @callsIn_wide:=@callsIn_wide
theorem Zv:type_of% @Option.getD_some:=@Option.getD_some
theorem Qy:type_of% @List.cons_append:=@List.cons_append
theorem QQ:type_of% @List.filter_cons:=@List.filter_cons
theorem Qd:type_of% @Nat.sub_le:=@Nat.sub_le
theorem QD:type_of% @underlying314:=@underlying314
theorem Qg:type_of% @Nat.eq_of_beq_eq_true:=@Nat.eq_of_beq_eq_true
theorem QG:type_of% @List.take_append_drop:=@List.take_append_drop
theorem Qh:type_of% @List.set_append_right:=@List.set_append_right
theorem QA:type_of% @wpList_make_own:=@wpList_make_own
theorem Qe:type_of% @Nat.div_add_mod:=@Nat.div_add_mod
theorem QO:type_of% @setRow_other:=@setRow_other
theorem Qi:type_of% @Region.noSelect_spec:=@Region.noSelect_spec
theorem QI:type_of% @List.push_toArray:=@List.push_toArray
theorem Ql:type_of% @Value.slice.injEq:=@Value.slice.injEq
theorem ZI:type_of% @underlying45:=@underlying45
theorem Q1:type_of% @List.mem_of_mem_drop:=@List.mem_of_mem_drop
theorem Q8:type_of% @List.getElem_of_mem:=@List.getElem_of_mem
theorem Q9:type_of% @Array.length_toList:=@Array.length_toList
theorem Zy:type_of% @List.drop_zero:=@List.drop_zero
theorem ZQ:type_of% @List.any_eq_true:=@List.any_eq_true
theorem Jk:type_of% @Nat.le_add_right:=@Nat.le_add_right
theorem ZV:type_of% @List.take_append_of_le_length:=@List.take_append_of_le_length
theorem Zd:type_of% @Nat.testBit_lt_two_pow:=@Nat.testBit_lt_two_pow
theorem ZD:type_of% @Array.ext_getElem?:=@Array.ext_getElem?
theorem Zf:type_of% @underlying269:=@underlying269
theorem Zg:type_of% @ntmps40:=@ntmps40
theorem Zc:type_of% @Nat.testBit_xor:=@Nat.testBit_xor
theorem Za:type_of% @Option.map_some:=@Option.map_some
theorem Ze:type_of% @or_false:=@or_false
theorem ZE:type_of% @List.dropLast_concat_getLast:=@List.dropLast_concat_getLast
theorem Zw:type_of% @ntmps183:=@ntmps183
theorem ZW:type_of% @ntmps202:=@ntmps202
theorem Z9:type_of% @Nat.eq_of_testBit_eq:=@Nat.eq_of_testBit_eq
theorem Z_:type_of% @List.getElem?_set_ne:=@List.getElem?_set_ne
theorem Jq:type_of% @ready_mono:=@ready_mono
theorem Jz:type_of% @List.dropLast_concat:=@List.dropLast_concat
theorem Jj:type_of% @List.getLastD_concat:=@List.getLastD_concat
theorem Jv:type_of% @func40:=@func40
theorem Zi:type_of% @Ne.symm:=@Ne.symm
theorem JV:type_of% @Region.free_spec:=@Region.free_spec
theorem JY:type_of% @List.map_set:=@List.map_set
theorem JK:type_of% @Int.natCast_ediv:=@Int.natCast_ediv
theorem Jp:type_of% @func183:=@func183
theorem JP:type_of% @func202:=@func202
theorem JF:type_of% @Nat.shiftRight_eq_div_pow:=@Nat.shiftRight_eq_div_pow
theorem Jg:type_of% @List.pairwise_iff_getElem:=@List.pairwise_iff_getElem
theorem JG:type_of% @List.getLastD_eq_getLast?:=@List.getLastD_eq_getLast?
theorem JC:type_of% @List.drop_replicate:=@List.drop_replicate
theorem Ja:type_of% @ByteArray.toList_mk:=@ByteArray.toList_mk
theorem JA:type_of% @List.length_pos_iff:=@List.length_pos_iff
theorem Jm:type_of% @Array.setIfInBounds_comm:=@Array.setIfInBounds_comm
theorem JM:type_of% @ntmps100:=@ntmps100
theorem Jo:type_of% @List.set_eq_of_length_le:=@List.set_eq_of_length_le
theorem JO:type_of% @ntmps225:=@ntmps225
theorem J1:type_of% @UInt8.toNat_xor:=@UInt8.toNat_xor
theorem J2:type_of% @UInt8.xor_assoc:=@UInt8.xor_assoc
theorem J3:type_of% @Bool.or_eq_true:=@Bool.or_eq_true
theorem J4:type_of% @Oper.semAt_some:=@Oper.semAt_some
theorem J5:type_of% @zeroValue9:=@zeroValue9
theorem Xq:type_of% @Option.isSome_some:=@Option.isSome_some
theorem Xz:type_of% @Option.isSome_none:=@Option.isSome_none
theorem Xj:type_of% @underlying180:=@underlying180
theorem Xx:type_of% @underlying102:=@underlying102
theorem Xk:type_of% @size_setRow:=@size_setRow
theorem Xp:type_of% @Nat.le_mul_of_pos_right:=@Nat.le_mul_of_pos_right
theorem M {P:Prop} (h:P:=by omega):P:=h
theorem FV {P:Prop} (h:P:=by decide):P:=h
theorem AL {P:Prop} (h:P:=by kernel_rfl):P:=h
theorem s8 {P:Prop} (h:P:=by simp):P:=h
theorem SQ {P:Prop} (h:P:=by rfl):P:=h
theorem SZ {P:Prop} (h:P:=by simp;omega):P:=h
theorem SJ {P:Prop} (h:P:=by unfold maxLen;omega):P:=h
theorem SX {P:Prop} (h:P:=by rw [qU];omega):P:=h
instance : Coe World Nat := ⟨fun w => w.heap.size⟩
instance {α:Type _} : CoeOut (List α) Nat := ⟨fun l => l.length⟩
instance : Coe Nat Addr := ⟨fun g => ⟨g,0,none⟩⟩
instance : Coe Int Value := ⟨fun k => .int .i64 k⟩
instance : Coe Nat Value := ⟨fun k => .int .i64 k⟩
instance : Coe Unit Value := ⟨fun _ => .int .i64 0⟩
abbrev qn:=List UInt8
abbrev q':=Option Addr
structure XK where
def z8:XK:=⟨⟩
instance : Coe XK Value := ⟨fun _ => .slice none 0 0⟩
instance : Coe Bool Value := ⟨fun b => .bool b⟩
structure X2 (p:Prop):Prop where
 o:p
theorem xk {P Q:Prop} (m:Q) (h:X2 Q->P:=by intro __h;go_roundw;(case rel=>exact __h.o);(case measure=>simp [intOf];omega)):P:=h ⟨m⟩
theorem zn {α:Sort _} (a:α): ∃x,x=a:=⟨_,rfl⟩
theorem vn {p0 p1 p2 G:Prop} (h:Hid p0->Hid p1->Hid p2->G):p0->p1->p2->G:=h
theorem yb {p0 p1 p2 p3 G:Prop} (h:Hid p0->Hid p1->Hid p2->Hid p3->G):p0->p1->p2->p3->G:=h
theorem Jx {p0 p1 p2 p3 p4 G:Prop} (h:Hid p0->Hid p1->Hid p2->Hid p3->Hid p4->G):p0->p1->p2->p3->p4->G:=h
theorem KH {p0 p1 p2 p3 p4 p5 p6 p7 G:Prop} (h:Hid p0->Hid p1->Hid p2->Hid p3->Hid p4->Hid p5->Hid p6->Hid p7->G):p0->p1->p2->p3->p4->p5->p6->p7->G:=h
theorem xb {P Q:Prop} (m:Q) (h:X2 Q->P:=by intro __h;(try simp only [Act.put,List.setIfInBounds_toArray,List.set_cons_zero,List.set_cons_succ]);exact __h.o):P:=h ⟨m⟩
theorem vv (a b:Nat) (h:a<=b:=by omega):(a:Int)<=b:=by omega
theorem j' (a b:Nat) (h:a<b:=by omega):(a:Int)<b:=by omega
theorem K6 (a b:Nat) (h:b<a:=by omega): ¬(a:Int)<=b:=by omega
theorem vc (a b:Nat) (h:b<=a:=by omega): ¬(a:Int)<b:=by omega
theorem xi (a:Nat):(0:Int)<=a:=by omega
theorem yn (a:Nat) (h:0<a:=by omega):(0:Int)<a:=by omega
theorem j1 {w:World} (o:Obj):RowKit.Below w.heap.size w (w.alloc o):=(RowKit.Below.refl _ _).alloc (Nat.le_refl _) _
theorem xt {P : Program} {e : TypeId} {z : Value} {size bytes : Nat} (h : (P.info? e).map (fun i => (i.zero, i.size, i.bytes)) = some (some z, size, bytes)) : ∃ i, Hid (P.info? e = some i)/\Hid (i.zero = some z)/\Hid (i.size = size)/\Hid (i.bytes = bytes):=qA h
theorem xg {P:Prop} (h:P:=by first|rfl|simp):P:=h
theorem yl {P:Prop} (h:P:=by first|rfl|simp_all):P:=h
theorem xh {P:Prop} (h:P:=by go_num):P:=h
theorem y' {P:Prop} (h:P:=by first|rfl|trivial):P:=h
theorem y8 {P:Prop} (h:P:=by simp [Hid]):P:=h
theorem Z1 {P:Prop} (h:P:=by assumption):P:=h
theorem Ω {P:Program} {f:FuncId} {a:Array Value} {w:World} {v:Ending} {R:Ending->World->Prop} (K:Calls P f a w λe W=>e=v/\w=W) (h:R v w):Calls P f a w R:=K.mono (by rintro e W ⟨rfl,rfl⟩;exact h)
theorem zC {P:Program} {f:FuncId} {a:Array Value} {w:World} {v:Ending} {S:World->Prop} {R:Ending->World->Prop} (K:Calls P f a w λe W=>e=v/\S W) (h: ∀W,S W->R v W):Calls P f a w R:=K.mono (by rintro e W ⟨rfl,g⟩;exact h W g)
structure E_ (n:Nat):Type
def Y:E_ 0:=⟨⟩
instance:CoeFun (E_ 0) (λ_=>(a:Array Value)->(t:TypeId)->(s:Nat×Nat:=(0,0))->Obj):=⟨λ_=>@Obj.cells⟩
instance:CoeFun World (λ_=>Obj->World):=⟨World.alloc⟩
def Z:E_ 1:=⟨⟩
instance:CoeFun (E_ 1) (λ_=>Option Addr->Nat->Nat->Value):=⟨λ_=>Value.slice⟩
def U:E_ 2:=⟨⟩
instance:CoeFun (E_ 2) (λ_=>∀{α:Type},List α->Nat):=⟨λ_=>@List.length⟩
def O:E_ 3:=⟨⟩
instance:CoeSort (E_ 3) Type:=⟨λ_=>Nat⟩
instance:Coe (E_ 3) Type:=⟨λ_=>Nat⟩
def V:E_ 4:=⟨⟩
instance:CoeSort (E_ 4) Type:=⟨λ_=>Int⟩
instance:Coe (E_ 4) Type:=⟨λ_=>Int⟩
def e':E_ 5:=⟨⟩
instance:CoeFun (E_ 5) (λ_=>Int->Value):=⟨λ_=>Value.int .i64⟩
def gR:E_ 6:=⟨⟩
instance:CoeFun (E_ 6) (λ_=>Int->Value):=⟨λ_=>Value.int .u8⟩
def J:E_ 7:=⟨⟩
instance:CoeFun (E_ 7) (λ_=>∀{α:Type},α->Option α):=⟨λ_=>@some⟩
def I:E_ 8:=⟨⟩
instance:CoeSort (E_ 8) Type:=⟨λ_=>World⟩
instance:Coe (E_ 8) Type:=⟨λ_=>World⟩
def S:E_ 9:=⟨⟩
instance:CoeFun (E_ 9) (λ_=>Type->Type):=⟨λ_=>List⟩
def i':E_ 10:=⟨⟩
instance:CoeFun (E_ 10) (λ_=>World->Addr->Option Value):=⟨λ_=>World.cell?⟩
def la:E_ 11:=⟨⟩
instance:CoeSort (E_ 11) Type:=⟨λ_=>Value⟩
instance:Coe (E_ 11) Type:=⟨λ_=>Value⟩
def G:E_ 12:=⟨⟩
instance:CoeFun (E_ 12) (λ_=>Prop->Prop):=⟨λ_=>Hid⟩
def mJ:E_ 13:=⟨⟩
instance:CoeFun (E_ 13) (λ_=>Option Addr->Value):=⟨λ_=>Value.pointer⟩
def r':E_ 14:=⟨⟩
instance:CoeFun (E_ 14) (λ_=>Nat->World->World->Prop):=⟨λ_=>Below⟩
def t':E_ 15:=⟨⟩
instance:CoeFun (E_ 15) (λ_=>Value->Ending):=⟨λ_=>Ending.returned⟩
def xp:E_ 16:=⟨⟩
instance:CoeFun (E_ 16) (λ_=>World->Nat->TypeId->Nat->Value->Nat->List Value->Prop):=⟨λ_=>World.ownsRow⟩
def xG:E_ 17:=⟨⟩
instance:CoeFun (E_ 17) (λ_=>FuncId->Array Value->World->(Ending->World->Prop)->Prop):=⟨λ_=>Calls prog⟩
def AB:E_ 18:=⟨⟩
instance:CoeSort (E_ 18) Type:=⟨λ_=>UInt8⟩
instance:Coe (E_ 18) Type:=⟨λ_=>UInt8⟩
def BA:E_ 19:=⟨⟩
instance:CoeFun (E_ 19) (λ_=>Array Value->Value):=⟨λ_=>Value.tuple⟩
def DW:E_ 20:=⟨⟩
instance:CoeFun (E_ 20) (λ_=>Int->Int):=⟨λ_=>IntKind.wrap .i64⟩
end Go.Proofs.YtfnlfpcfkbdcmaaGreatDoor
