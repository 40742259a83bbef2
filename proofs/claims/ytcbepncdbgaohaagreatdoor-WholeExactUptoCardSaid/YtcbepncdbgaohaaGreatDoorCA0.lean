/-
  PI: each operation but a call does to memory what 'evalOp' says: fifth part: append, len, max, min; all together.
-/
import Derived.WalkKit
import Derived.KernelRfl
import Derived.Laws.Cover3
import Derived.Deep.AppendSrc
import Derived.RangeFuncRecord
import Derived.MapKept
set_option linter.all false
set_option maxHeartbeats 0
namespace Go.PI
def x7{p:Prop}(h:p:=by kernel_rfl):p:=h
def xU{p:Prop}(h:p:=by assumption):p:=h
def yQ{p:Prop}(h:p:=by simp[Op.operands]):p:=h
def yE{p:Prop}(h:p:=by simp;omega):p:=h
def qJ{p:Prop}(h:p:=by simp_all):p:=h
def qK{p:Prop}(h:p:=by simp only[List.length_map];omega):p:=h
def oO{p:Prop}(h:p:=by simp[Op.operands,Call.operands]):p:=h
abbrev zB:=@if_neg
abbrev zS:=@getElem!_pos
abbrev zC:=@Or.inr
abbrev yG:=@List.mem_singleton
abbrev z6:=@List.length_map
abbrev zE:=@if_pos
abbrev zW:=@List.mem_map
abbrev zF:=@Or.inl
abbrev xW:=@List.getElem?_eq_some_iff
abbrev zX:=@Nat.le_refl
abbrev z7:=@Nat.zero_add
abbrev xN:=@List.mem_cons_of_mem
abbrev yI:=@List.mem_cons
abbrev yN:=@List.mem_range
abbrev z8:=@Nat.zero_le
abbrev y8:=@List.mem_append
abbrev wN:=@List.getElem?_eq_getElem
abbrev xR:=@List.length_append
abbrev xO:=@Bool.and_eq_true
abbrev tO:=@List.take_succ_eq_append_getElem
abbrev zV:=@congrArg
abbrev wO:=@List.mem_of_getElem?
abbrev xZ:=@List.all_eq_true
abbrev vZ:=@List.length_eq_zero_iff
abbrev wA:=@List.getElem_mem
abbrev vK:=@Nat.mul_le_mul_right
abbrev wG:=@List.length_take
abbrev w9:=@Nat.lt_of_lt_of_le
abbrev wB:=@List.map_append
abbrev uT:=@List.take_of_length_le
abbrev xH:=@Nat.mul_add
abbrev uE:=@List.getElem_of_mem
abbrev vE:=@List.ext_getElem
abbrev uF:=@List.getElem?_map
abbrev vS:=@List.getElem_map
abbrev wC:=@Nat.mul_comm
abbrev sV:=@List.mem_append_left
abbrev sI:=@Nat.mul_le_mul_left
abbrev o8:=@Array.getD_eq_getD_getElem?
abbrev tT:=@List.mem_cons_self
abbrev tC:=@decide_eq_true_eq
abbrev oP:=@List.getElem?_take_of_lt
abbrev rL:=@List.map_congr_left
abbrev o9:=@List.getElem?_append_left
abbrev wS:=@Nat.le_trans
abbrev uU:=@List.not_mem_nil
abbrev tV:=@List.append_assoc
abbrev pI:=@Option.map_eq_some_iff
abbrev vF:=@Nat.mul_assoc
abbrev pJ:=@List.mem_append_right
abbrev pK:=@List.mem_of_mem_take
abbrev nA:=@List.getElem_replicate
abbrev kG:=@List.getElem?_append_right
abbrev kH:=@Array.getElem?_eq_some_iff
abbrev w6:=@Nat.add_mul
abbrev kI:=@List.drop_eq_getElem_cons
abbrev kJ:=@Classical.byContradiction
abbrev y9:=@Ne.symm
abbrev jN:=@List.length_eraseIdx_of_lt
abbrev uV:=@Nat.add_assoc
abbrev uW:=@List.map_cons
abbrev pM:=@List.getElem?_drop
abbrev sJ:=@decide_eq_true
abbrev oQ:=@List.getElem_range
abbrev pO:=@Nat.mul_left_comm
abbrev iI:=@List.getElem_append_right
abbrev qL:=@decide_eq_false
abbrev nB:=@Nat.lt_of_le_of_lt
abbrev iJ:=@List.getElem_append_left
abbrev jO:=@List.length_replicate
abbrev qV:=@Rat.mul_nonneg
abbrev nC:=@Nat.lt_succ_self
abbrev mS:=@of_decide_eq_true
abbrev qC:=@List.map_map
abbrev bR:=@List.mem_or_eq_of_mem_set
abbrev gQ:=@List.mem_of_mem_drop
abbrev kK:=@List.take_length
abbrev kL:=@List.getElem_set
abbrev mU:=@List.nodup_cons
abbrev mV:=@List.append_nil
abbrev jP:=@Classical.not_not
abbrev mW:=@Bool.eq_iff_iff
abbrev bS:=@List.getElem!_cons_zero
abbrev jQ:=@Nat.mod_eq_of_lt
abbrev kM:=@List.range_succ
abbrev jR:=@List.length_drop
abbrev kN:=@Bool.or_eq_true
abbrev rM:=@Nat.ble_eq
abbrev iK:=@List.nodup_append
abbrev bT:=@List.drop_of_length_le
abbrev nW:=@Bool.or_false
abbrev nD:=@Nat.lt_or_ge
abbrev Ab:=@List.getElem!_cons_succ
abbrev bU:=@Nat.pow_le_pow_right
abbrev uX:=@or_false
abbrev nX:=@Rat.le_of_lt
abbrev CO:=@Nat.lt_of_mul_lt_mul_left
abbrev CP:=@Array.getElem?_eq_getElem
abbrev tE:=@if_false
abbrev nE:=@Rat.le_refl
abbrev Ac:=@List.take_append_drop
abbrev dF:=@List.foldl_append
abbrev uA:=@if_true
abbrev CQ:=@decide_eq_false_iff_not
abbrev nY:=@Rat.mul_pos
abbrev gS:=@Nat.div_le_self
abbrev gT:=@List.mem_filter
abbrev kO:=@List.map_nil
abbrev D8:=@Int.tmod_eq_emod_of_nonneg
abbrev D9:=@Int.tdiv_eq_ediv_of_nonneg
abbrev bV:=@Bool.not_eq_true'
abbrev gW:=@Nat.mul_le_mul
abbrev CR:=@Nat.eq_of_beq_eq_true
abbrev CS:=@List.getElem?_eq_none
abbrev CU:=@Array.getElem?_toList
abbrev Ad:=@Rat.div_mul_cancel
abbrev nZ:=@Nat.mod_lt
abbrev Ae:=@Nat.lt_or_eq_of_le
abbrev mD:=@Nat.blt_eq
abbrev Ag:=@Bool.true_eq_false
abbrev bW:=@decide_eq_decide
abbrev iL:=@decide_false
abbrev dG:=@Int.natAbs_mul
abbrev mX:=@Rat.not_lt
abbrev Ah:=@Nat.le_of_lt_succ
abbrev Ai:=@Int.lt_trichotomy
abbrev CV:=@List.length_pos_iff
abbrev CW:=@List.getElem_set_ne
abbrev CX:=@List.flatMap_append
abbrev CY:=@List.drop_set_of_lt
abbrev F6:=@Int.sign_eq_neg_one_of_neg
abbrev F7:=@Int.fdiv_eq_ediv_of_nonneg
abbrev Aj:=@Nat.le_add_right
abbrev dH:=@Nat.lt_irrefl
abbrev EA:=@List.getElem?_toArray
abbrev CZ:=@List.find?_eq_none
abbrev gY:=@Bool.true_or
abbrev gZ:=@Bool.or_true
abbrev EB:=@Array.mem_of_getElem?
abbrev iM:=@Nat.pow_add
abbrev F8:=@List.pairwise_iff_getElem
abbrev Ak:=@Option.some.inj
abbrev Al:=@Nat.mul_ne_zero
abbrev Am:=@List.length_set
abbrev Ca:=@List.length_range
abbrev F9:=@List.length_erase_of_mem
abbrev dI:=@Rat.add_zero
abbrev fA:=@decide_true
abbrev fB:=@Nat.mul_one
abbrev GA:=@Nat.add_sub_cancel_left
abbrev Cb:=@Nat.le_of_not_lt
abbrev Cc:=@Nat.div_eq_of_lt
abbrev Ce:=@List.mem_flatMap
abbrev GD:=@Int.sign_eq_one_of_pos
abbrev GF:=@Array.getElem?_eq_none
abbrev EC:=@Nat.eq_zero_or_pos
abbrev ED:=@List.getElem?_take
abbrev bX:=@Nat.add_comm
abbrev GG:=@List.length_filter_le
abbrev EE:=@List.flatMap_cons
abbrev JJ:=@List.getLast?_eq_getElem?
abbrev EF:=@List.any_eq_true
abbrev bY:=@Nat.pow_pos
abbrev GH:=@List.take_set_of_le
abbrev GI:=@Array.toList_append
abbrev dJ:=@not_exists
abbrev JK:=@Option.isSome_iff_exists
abbrev Ao:=@Nat.zero_mul
abbrev JL:=@List.find?_range_eq_some
abbrev GJ:=@of_decide_eq_false
abbrev EG:=@Nat.not_lt_zero
abbrev EH:=@Nat.div_add_mod
abbrev JM:=@List.pairwise_singleton
abbrev JN:=@List.length_eq_one_iff
abbrev GK:=@Nat.lt_succ_of_lt
abbrev GL:=@Nat.le_succ_of_le
abbrev GM:=@List.getElem_take
abbrev GN:=@List.getElem?_set
abbrev GQ:=@Bool.eq_false_iff
abbrev EI:=@Rat.mkRat_self
abbrev EJ:=@List.drop_zero
abbrev Cf:=@Rat.le_trans
abbrev JO:=@List.mem_of_mem_erase
abbrev JP:=@List.getElem_set_self
abbrev GR:=@Rat.mkRat_eq_div
abbrev GU:=@Nat.gcd_dvd_left
abbrev JQ:=@Nat.add_mul_div_left
abbrev JR:=@Classical.not_forall
abbrev JS:=@Bool.or_eq_false_iff
abbrev Ap:=@bne_iff_ne
abbrev Aq:=@beq_iff_eq
abbrev Cg:=@Rat.inv_pos
abbrev Ch:=@Nat.one_mul
abbrev GV:=@Nat.min_eq_left
abbrev Mr:=@Nat.add_mul_mod_self_right
abbrev Ms:=@Array.getElem?_append_left
abbrev dK:=@true_and
abbrev EK:=@Nat.sub_self
abbrev EL:=@Nat.le_of_lt
abbrev JU:=@Nat.gcd_zero_right
abbrev EM:=@Nat.beq_refl
abbrev JV:=@List.pairwise_cons
abbrev JW:=@List.contains_cons
abbrev JX:=@Bool.false_eq_true
abbrev Mt:=@Nat.add_mul_mod_self_left
abbrev Mv:=@List.mem_of_find?_eq_some
abbrev Ar:=@false_and
abbrev JY:=@List.getElem_drop
abbrev bZ:=@and_true
abbrev Mw:=@Nat.mul_div_cancel_left
abbrev Mx:=@List.filter_cons_of_pos
abbrev My:=@List.filter_cons_of_neg
abbrev M0:=@Int.eq_ofNat_of_zero_le
abbrev GX:=@Bool.and_true
abbrev JZ:=@List.nodup_range
abbrev M3:=@Nat.div_div_eq_div_mul
abbrev M4:=@List.length_pos_of_mem
abbrev M5:=@List.append_eq_nil_iff
abbrev dL:=@not_and
abbrev GY:=@Rat.zero_add
abbrev Ja:=@Rat.mul_eq_zero
abbrev Jb:=@Rat.intCast_mul
abbrev GZ:=@Nat.le_of_eq
abbrev Ga:=@List.map_set
abbrev M6:=@Classical.choose_spec
abbrev M7:=@Array.getElem_push_lt
abbrev M8:=@Nat.pow_lt_pow_right
abbrev M9:=@Nat.div_lt_of_lt_mul
abbrev NA:=@List.getElem?_append
abbrev NC:=@List.contains_eq_mem
abbrev ND:=@Array.mem_toList_iff
abbrev NE:=@Rat.mkRat_mul_mkRat
abbrev NF:=@Rat.mkRat_add_mkRat
abbrev fC:=@not_or
abbrev NG:=@Rat.sub_eq_add_neg
abbrev NH:=@Nat.lt_or_gt_of_ne
abbrev Jc:=@List.map_take
abbrev NI:=@List.filter_append
abbrev NJ:=@Int.ofNat_dvd_left
abbrev TZ:=@Nat.eq_zero_of_gcd_eq_zero_right
abbrev NK:=@Option.some.injEq
abbrev NL:=@Nat.or_lt_two_pow
abbrev NM:=@List.take_sublist
abbrev NN:=@List.size_toArray
abbrev NP:=@List.any_eq_false
abbrev Au:=@Iff.rfl
abbrev Ta:=@Rat.mul_le_mul_of_nonneg_right
abbrev Jd:=@Rat.mul_comm
abbrev Je:=@Nat.gcd_comm
abbrev Tc:=@List.Nodup.length_le_of_subset
abbrev Td:=@List.eq_nil_of_length_eq_zero
abbrev NQ:=@Rat.num_eq_zero
abbrev NR:=@Rat.intCast_sub
abbrev Te:=@Nat.two_pow_add_eq_or_of_lt
abbrev Tf:=@Nat.mul_lt_mul_of_pos_right
abbrev Jf:=@Nat.le_succ
abbrev Tg:=@List.idxOf_lt_length_of_mem
abbrev NS:=@List.find?_some
abbrev Tj:=@Int.sign_natCast_of_ne_zero
abbrev Tn:=@Rat.mul_lt_mul_of_pos_left
abbrev Tp:=@List.getD_eq_getElem?_getD
abbrev Tq:=@List.exists_cons_of_ne_nil
abbrev NT:=@List.nodup_nil
abbrev Tt:=@List.mem_take_iff_getElem
abbrev Tu:=@Int.natAbs_tdiv_le_natAbs
abbrev Jg:=@Nat.beq_eq
abbrev Tv:=@List.eq_of_mem_replicate
abbrev Tw:=@List.Nodup.mem_erase_iff
abbrev Jh:=@Int.not_lt
abbrev Tx:=@Array.getElem?_replicate
abbrev NU:=@Rat.neg_mkRat
abbrev NV:=@Prod.mk.injEq
abbrev Ty:=@Nat.gcd_pos_of_pos_left
abbrev Tz:=@List.getLast?_cons_cons
abbrev T9:=@Rat.intCast_lt_intCast
abbrev UA:=@List.range_succ_eq_map
abbrev UB:=@List.getElem?_eraseIdx
abbrev UC:=@List.findIdx_le_length
def zA:True:=trivial
def zom{p:Prop}(h:p:=by omega):p:=h
def zbo{p:Prop}(h:p:=by first|omega|(dsimp only;omega)):p:=h
def zdd{p:Prop}(h:p:=by decide):p:=h
def zsm{p:Prop}(h:p:=by simp):p:=h
inductive PV where
 |int (k:IntKind) (n:Int)
 |bool (b:Bool)
 |str (s:ByteArray)
 |agg (cs:List PV)
 |imm (es:List PV)
 |nilsl
 |own (r off len:Nat)
 |ptr (r i off:Nat)
 |cptr (e:PV) (off:Nat)
 |mp (r:Nat)
 |func (fn:Fn) (first captured:List PV)
 |nilfunc
 |raw (v:Value)
 |tup (vs:List PV)
 |anyb
 |any
 deriving Inhabited
def PV.cells:PV->List PV
 |.agg cs=>cs
 |v=>[v]
def PV.isAgg:PV->Bool
 |.agg _=>true
 |_=>false
@[simp] theorem PV.cells_agg (cs:List PV):(PV.agg cs).cells=cs:=rfl
@[simp] theorem PV.isAgg_agg (cs:List PV):(PV.agg cs).isAgg=true:=rfl
structure Blk where
 els:List PV
 sz:Nat
 agg:Bool
abbrev Tm:=Nat->PV
abbrev Hp:=Nat->Option Blk
abbrev Fz:=Nat->Bool
abbrev Gl:=Nat->Option PV
def mE(t:Tm)(d:Nat)(v:PV):Tm:=fun j=>if j=d then v else t j
def hset(h:Hp)(r:Nat)(b:Option Blk):Hp:=fun j=>if j=r then b else h j
def yY(z:Fz)(ks:List Nat):Fz:=fun j=>ks.contains j||z j
structure St where
 t:Tm
 h:Hp
 z:Fz
 nx:Nat
def Av:Value->PV
 |.int k n=>.int k n
 |.bool b=>.bool b
 |.string s=>.str s
 |.slice none 0 0=>.nilsl
 |.nilFunc=>.nilfunc
 |.pointer none=>.raw (.pointer none)
 |.nilIface=>.raw .nilIface
 |.map none=>.raw (.map none)
 |.tuple ⟨[]⟩=>.tup []
 |.func fn ⟨[]⟩ ⟨[]⟩=>.func fn [] []
 |_=>.any
def dM:Value->PV
 |.agg cs=>.agg (cs.toList.map Av)
 |v=>Av v
def ev(G:Gl)(t:Tm):Operand->PV
 |.tmp i=>t i
 |.const v=>Av v
 | .global g=>match G g with
   |some e=>.cptr e 0
   |none=>.any
 |.func f=>.func (.func f) [] []
structure TI where
 size:Nat
 bytes:Nat
 agg:Bool
 elem:Nat
 kind:Option IntKind
 fields:List (Nat×Nat×Nat)   -- offset,type,size
 zero:PV
 zok:Bool
 isSlice:Bool
 isStruct:Bool
 isBool:Bool
 isStr:Bool
 alen:Nat
 eqInts:Bool
 isPtr:Bool
 deriving Inhabited
def NW:Value->Bool
 |.pointer none=>true
 |.nilIface=>true
 |.iface _ _=>true
 |.map _=>true
 |_=>false
def zty(t:TypeId):Bool:=Nat.beq t 254||Nat.beq t 256
def PV.ne0:PV->Bool
 |.agg []=>false
 |_=>true
def PV.storable:PV->Bool
 |.raw v=>NW v
 |.any|.anyb|.tup _=>false
 |_=>true
def zK(P:Program)(t:TypeId):TI :=
 let d:=P.underlying t
 let z:PV:=match P.info? t with|some i=>(match i.zero with|some v=>dM v|none=>.any)|none=>.any
 {
  size:=match d with|some _=>P.cellsOf t|none=>0
  bytes:=P.bytesOf t
  agg:=match d with|some (.struct _)|some (.array _ _)=>true|_=>false
  elem:=match d with|some (.slice e)=>e|some (.array _ e)=>e|_=>0
  kind:=match d with|some (.int k)=>some k|_=>none
  fields:=match d with|some (.struct fs)=>fs.toList.map fun f=>(f.offset,f.type,P.cellsOf f.type)|_=>[]
  zero:=z
  zok:=z.storable&&z.cells.all PV.storable
  isSlice:=match d with|some (.slice _)=>true|_=>false
  isStruct:=match d with|some (.struct fs)=>fs.toList.all fun f=>(P.info? f.type).isSome|_=>false
  isBool:=match d with|some .bool=>true|_=>false
  isStr:=match d with|some .string=>true|_=>false
  alen:=match d with|some (.array n _)=>n|_=>0
  eqInts:=match d with
   | some (.struct fs) => fs.toList.zipIdx.all (fun (f, i) => f.name != "_" && f.offset == i && (match P.underlying f.type with | some (.int _) => true | _ => false)) && !P.stoodInHeld t && !P.eqGuardType P.depth t
   |_=>false
  isPtr:=match d with|some (.pointer _)=>true|_=>false }
def part(e:PV)(off n:Nat)(agg:Bool):Option PV :=
 if off=0/\e.cells.length=n/\e.isAgg=agg then some e
 else if off+n<=e.cells.length then
  (if agg then some (.agg ((e.cells.drop off).take n)) else if n=1 then e.cells[off]? else none)
 else none
def splice(e:PV)(off:Nat)(v:PV):Option PV :=
 if off=0/\e.cells.length=v.cells.length/\e.isAgg=v.isAgg then some v
 else if off+v.cells.length<=e.cells.length/\e.isAgg=true then some (.agg (e.cells.take off++v.cells++e.cells.drop (off+v.cells.length)))
 else none
abbrev Res:=Option (PV×Hp×List Nat×List Nat)   -- the value,the heap,the keys read,the keys written
def need(c:Prop)[Decidable c](x:Res):Res:=if c then x else none
def arith(op:BinOp)(k:IntKind)(x y:Int):Option PV :=
 match op with
 |.add=>some (.int k (k.wrap (x+y)))
 |.sub=>some (.int k (k.wrap (x-y)))
 |.mul=>some (.int k (k.wrap (x*y)))
 |.eql=>some (.bool (x == y))
 |.neq=>some (.bool (x != y))
 |.lss=>some (.bool (decide (x<y)))
 |.leq=>some (.bool (decide (x<=y)))
 |.gtr=>some (.bool (decide (x > y)))
 |.geq=>some (.bool (decide (x>=y)))
 |.and=>some (.int k (k.wrap (BitVec.ofInt k.bits x &&& BitVec.ofInt k.bits y).toNat))
 |.or=>some (.int k (k.wrap (BitVec.ofInt k.bits x ||| BitVec.ofInt k.bits y).toNat))
 |.xor=>some (.int k (k.wrap (BitVec.ofInt k.bits x ^^^ BitVec.ofInt k.bits y).toNat))
 |.andNot=>some (.int k (k.wrap (BitVec.ofInt k.bits x &&& ~~~BitVec.ofInt k.bits y).toNat))
 |_=>none
def Aw(fs:List (Nat×Nat×Nat)):List PV->List (Nat×PV)->Option (List PV)
 |cells,[]=>some cells
 | cells,(i,v)::rest =>
   match fs[i]? with
   |none=>none
   | some (off,_,size) =>
     if v.storable=true/\v.cells.length=size/\off+size<=cells.length then Aw fs (cells.take off++v.cells++cells.drop (off+size)) rest else none
def Ci(sz:Nat)(agg:Bool):List PV->List (Nat×PV)->Option (List PV)
 |els,[]=>some els
 |els,(i,v)::rest=>if v.storable=true/\v.cells.length=sz/\v.isAgg=agg/\i<els.length then Ci sz agg (els.set i v) rest else none
def Ay(h:Hp):PV->Option (List PV×List Nat)
 |.imm es=>some (es,[])
 |.nilsl=>some ([],[])
 | .own r off len=>match h r with
   |some b=>if off+len<=b.els.length then some ((b.els.drop off).take len,[r]) else none
   |none=>none
 |_=>none
def jS:List PV->List PV->Option Bool
 |[],[]=>some true
 |.int k a::aq,.int k' b::bs=>if k=k' then(jS aq bs).map fun r=>(a == b)&&r else none
 |_,_=>none
def isNil:PV->Option PV
 |.nilsl=>some (.bool true)
 |.imm []=>some .anyb
 |.imm (_::_)=>some (.bool false)
 |.own _ _ len=>some (if len=0 then .anyb else .bool false)
 |_=>none
def Ji:PV->Option Bool
 |.ptr _ _ _=>some false
 |.cptr _ _=>some false
 |.raw (.pointer none)=>some true
 |_=>none
def UD:PV->Option Bool
 |.raw (.iface _ _)=>some false
 |_=>none
def Cj:List PV->Option (List Value)
 |[]=>some []
 |.raw (.iface t v)::cs=>(Cj cs).map (Value.iface t v::·)
 |_=>none
def Az:PV->Option Value
 |.agg cs=>(Cj cs).map fun l=>.agg l.toArray
 |_=>none
def UE(P:Program)(t:TypeId):Bool:=match P.underlying t with
 |some (.interface _)=>true
 |_=>false
def Ck:Value->PV
 |.agg cs=>.agg (cs.toList.map .raw)
 |v=>.raw v
def Jj(P:Program)(t:TypeId):Bool:=match P.underlying t with
 | some (.map k e)=>(match P.underlying k,(P.info? e).bind (·.zero) with
   |some .string,some (.bool false)=>true
   |_,_=>false)
 |_=>false
def NY:PV->PV
 |.bool b=>.bool (!b)
 |v=>v
def zfB(P:Program)(s:TypeId)(f:Nat):Bool:=(match P.underlying s with
 | some (.struct fs)=>(match fs[f]? with
   |some fd=>Nat.beq fd.byteOffset 0&&(Nat.beq fd.offset 0&&(P.info? fd.type).isSome)
   |none=>false)
 |_=>false)&&(Nat.beq (P.cellsOf 254) 0&&Nat.beq (P.cellsOf 256) 0)
def zN (P:Program) (G:Gl) (z:Fz) (key:Nat) (op:Op) (t:Tm) (h:Hp):Res :=
 match op with
 |.move x|.assign x=>some (ev G t x,h,[],[])
 | .pick c a b=>match ev G t c with
   |.bool v=>some (if v then ev G t a else ev G t b,h,[],[])
   |_=>none
 | .alloc e =>
   let i:=zK P e
   need ((i.zok&&i.zero.ne0)=true) (some (.ptr key 0 0,hset h key (some ⟨[i.zero],i.zero.cells.length,i.zero.isAgg⟩),[],[key]))
 | .box e x =>
   let v:=ev G t x
   if (v.storable&&v.ne0)=true then some (.ptr key 0 0,hset h key (some ⟨[v],v.cells.length,v.isAgg⟩),[],[key]) else(match v with
    |.agg []=>need (zty e=true) (some (.ptr key 0 0,hset h key (some ⟨[.agg []],0,true⟩),[],[key]))
    |_=>none)
 | .build ty parts =>
   let i:=zK P ty
   match i.alen with
   | 0=>need (i.zok=true/\i.isStruct=true) (match Aw i.fields i.zero.cells (parts.toList.map fun(j,x)=>(j,ev G t x)) with
     |some cs=>some (.agg cs,h,[],[])
     |none=>none)
   | n=>need (i.zok=true/\(zK P i.elem).size≠0) (match Aw ((List.range n).map fun j=>(j*(zK P i.elem).size,i.elem,(zK P i.elem).size)) i.zero.cells (parts.toList.map fun(j,x)=>(j,ev G t x)) with
     |some cs=>some (.agg cs,h,[],[])
     |none=>none)
 | .buildSlice ty len parts =>
   let e:=zK P (zK P ty).elem
   need (len*e.size<=2^24/\e.zok=true/\(zK P ty).isSlice=true/\e.zero.cells.length=e.size/\e.zero.isAgg=e.agg/\e.size≠0) <|
   (match Ci e.size e.agg (List.replicate len e.zero) (parts.toList.map fun(j,x)=>(j,ev G t x)) with
   |some els=>some (.own key 0 len,hset h key (some ⟨els,e.size,e.agg⟩),[],[key])
   |none=>none)
 | .load ty x =>
   let i:=zK P ty
   (match ev G t x with
   | .ptr r j off=>(match h r with
     | some b=>(match b.els[j]? with
       |some e=>(part e off i.size i.agg).map fun v=>(v,h,[r],[])
       |none=>none)
     |none=>none)
   |.cptr e off=>(part e off i.size i.agg).map fun v=>(v,h,[],[])
   |_=>none)
 | .store ty x y =>
   let v:=ev G t y
   (match ev G t x with
   | .ptr r j off=>(match h r with
     | some b=>(match b.els[j]? with
       | some e=>need (z r=false/\v.storable=true/\v.cells.length=(zK P ty).size/\(zK P ty).size≠0) <|
         (splice e off v).map fun e'=>(.tup [],hset h r (some { b with els:=b.els.set j e' }),[r],[r])
       |none=>none)
     |none=>none)
   |_=>none)
 | .nilCheck x=>(match ev G t x with
   |.ptr r i off=>some (.ptr r i off,h,[],[])
   |.cptr e off=>some (.cptr e off,h,[],[])
   |_=>none)
 | .binOp op xt x y _=>(match ev G t x,ev G t y with
   | .int k a,.int k' b =>
     if k=k' then
      (match op with
      |.quo=>need (b≠0) (some (.int k (k.wrap (a.tdiv b)),h,[],[]))
      |.rem=>need (b≠0) (some (.int k (a.tmod b),h,[],[]))
      |.shl=>need (0<=b) (some (.int k (k.wrap (a*2^(min b.toNat k.bits))),h,[],[]))
      |.shr=>need (0<=b) (some (.int k (a.fdiv (2^(min b.toNat k.bits))),h,[],[]))
      |_=>(arith op k a b).map fun v=>(v,h,[],[]))
     else(match op with
      |.shl=>need (0<=b) (some (.int k (k.wrap (a*2^(min b.toNat k.bits))),h,[],[]))
      |.shr=>need (0<=b) (some (.int k (a.fdiv (2^(min b.toNat k.bits))),h,[],[]))
      |_=>none)
   | .bool a,.bool b=>(match op with
     |.eql=>need ((zK P xt).isBool=true) (some (.bool (a == b),h,[],[]))
     |.neq=>need ((zK P xt).isBool=true) (some (.bool (a != b),h,[],[]))
     |_=>none)
   | .agg aq,.agg bs=>(match op with
     |.eql=>need ((zK P xt).eqInts=true/\aq.length=(zK P xt).fields.length/\bs.length=(zK P xt).fields.length) ((jS aq bs).map fun r=>(.bool r,h,[],[]))
     |.neq=>need ((zK P xt).eqInts=true/\aq.length=(zK P xt).fields.length/\bs.length=(zK P xt).fields.length) ((jS aq bs).map fun r=>(.bool (!r),h,[],[]))
     |_=>none)
   | v,.nilsl=>(match op with
     |.eql=>need ((zK P xt).isSlice=true) ((isNil v).map fun r=>(r,h,[],[]))
     |.neq=>need ((zK P xt).isSlice=true) ((isNil v).map fun r=>(NY r,h,[],[]))
     |_=>none)
   | v,.raw (.pointer none)=>(match op with
     |.eql=>need ((zK P xt).isPtr=true) ((Ji v).map fun r=>(.bool r,h,[],[]))
     |.neq=>need ((zK P xt).isPtr=true) ((Ji v).map fun r=>(.bool (!r),h,[],[]))
     |_=>none)
   | v,.raw .nilIface=>(match op with
     |.eql=>need (UE P xt=true) ((UD v).map fun r=>(.bool r,h,[],[]))
     |_=>none)
   |_,_=>none)
 | .unOp op _ x=>(match op,ev G t x with
   |.not,.bool b=>some (.bool (!b),h,[],[])
   |.neg,.int k n=>some (.int k (k.wrap (0-n)),h,[],[])
   |_,_=>none)
 | .convert src dst x=>(match (zK P src).kind,(zK P dst).kind,ev G t x with
   |some _,some k,.int _ n=>some (.int k (k.wrap n),h,[],[])
   |_,_,_=>none)
 |.makeMap _ none=>some (.mp key,hset h key (some ⟨[],0,false⟩),[],[key])
 | .lookup ty x y false=>(match ev G t x,ev G t y with
   | .mp r,.str _=>(match h r with
     |some b=>need (Jj P ty=true/\b.sz=0/\b.agg=false) (some (.bool false,h,[r],[]))
     |none=>none)
   |_,_=>none)
 | .mapUpdate ty x y u=>(match ev G t x,ev G t y,ev G t u with
   | .mp r,.str _,.bool _=>(match h r with
     |some b=>need (Jj P ty=true/\b.sz=0/\b.agg=false/\z r=false) (some (.tup [],hset h r none,[r],[r]))
     |none=>none)
   |_,_,_=>none)
 |.makeFunc fn first captured=>some (.func fn (first.toList.map (ev G t)) (captured.toList.map (ev G t)),h,[],[])
 |.makeInterface ty x=>need ((zK P ty).isStruct=true) ((Az (ev G t x)).map fun v=>(.raw (.iface ty v),h,[],[]))
 | .makeSlice ty l c =>
   let e:=zK P (zK P ty).elem
   (match ev G t l,ev G t c with
   |.int .i64 n,.int .i64 m=>need (n=m/\0<=n/\n<=2^32/\e.bytes<=4096/\e.zok=true/\(zK P ty).isSlice=true/\e.zero.cells.length=e.size/\e.zero.isAgg=e.agg/\e.size≠0) (some (.own key 0 n.toNat,hset h key (some ⟨List.replicate n.toNat e.zero,e.size,e.agg⟩),[],[key]))
   |_,_=>none)
 | .slice ty x lo hi none =>
   let lo':Option Int:=match lo with
    |none=>some 0
    |some o=>match ev G t o with|.int _ n=>some n|_=>none
   let size:=(zK P (zK P ty).elem).size
   (match ev G t x with
   | .imm es =>
     let hi':Option Int:=match hi with
      |none=>some es.length
      |some o=>match ev G t o with|.int _ n=>some n|_=>none
     (match lo',hi' with
     |some a,some b=>need ((zK P ty).isSlice=true/\(∀ e∈es,e.cells.length=size)/\0<=a/\a<=b/\b<=es.length/\size≠0) (some (.imm ((es.take b.toNat).drop a.toNat),h,[],[]))
     |_,_=>none)
   | .own r off len =>
     let hi':Option Int:=match hi with
      |none=>some len
      |some o=>match ev G t o with|.int _ n=>some n|_=>none
     (match lo',hi' with
     | some a,some b=>(match h r with
       |some k=>need ((zK P ty).isSlice=true/\k.sz=size/\0<=a/\a<=b/\b<=len/\size≠0) (some (.own r (off+a.toNat) (b.toNat-a.toNat),h,[r],[]))
       |none=>none)
     |_,_=>none)
   |_=>none)
 | .fieldAddr s x f=>(match (zK P s).fields[f]?,ev G t x with
   | some (o,_,n),.ptr r j off=>if n≠0 then some (.ptr r j (off+o),h,[],[]) else(match h r with
     |some b=>need (b.sz=0/\b.els≠[]/\j=0/\off=0/\zfB P s f=true) (some (.ptr r 0 0,h,[r],[]))
     |none=>none)
   |some (o,_,n),.cptr e off=>need (n≠0) (some (.cptr e (off+o),h,[],[]))
   |_,_=>none)
 | .field s x f=>(match (zK P s).fields[f]?,ev G t x with
   |some (o,ty,_),.agg cs=>(part (.agg cs) o (zK P ty).size (zK P ty).agg).map fun v=>(v,h,[],[])
   |_,_=>none)
 | .indexAddr ty x ix =>
   let i:=zK P ty
   (match ev G t x,ev G t ix with
   | .imm es,.int _ n=>need (i.isSlice=true/\0<=n/\n<es.length) (match es[n.toNat]? with
     |some e=>need (e.cells.length=(zK P i.elem).size/\(zK P i.elem).size≠0) (some (.cptr e 0,h,[],[]))
     |none=>none)
   | .own r off len,.int _ n=>need (i.isSlice=true/\0<=n/\n<len) (match h r with
     |some b=>need (b.sz=(zK P i.elem).size/\(zK P i.elem).size≠0) (some (.ptr r (off+n.toNat) 0,h,[r],[]))
     |none=>none)
   |.cptr e off,.int _ n=>need (i.alen≠0/\0<=n/\n<i.alen/\(zK P i.elem).size≠0) (some (.cptr e (off+n.toNat*(zK P i.elem).size),h,[],[]))
   |.ptr r j off,.int _ n=>need (i.alen≠0/\0<=n/\n<i.alen/\(zK P i.elem).size≠0) (some (.ptr r j (off+n.toNat*(zK P i.elem).size),h,[],[]))
   |_,_=>none)
 | .index ty x ix =>
   let i:=zK P ty
   (match ev G t x,ev G t ix with
   |.agg cs,.int _ n=>need (i.alen≠0/\0<=n/\n<i.alen/\(zK P i.elem).size≠0) ((part (.agg cs) (n.toNat*(zK P i.elem).size) (zK P i.elem).size (zK P i.elem).agg).map fun v=>(v,h,[],[]))
   |.str s,.int _ n=>need (i.isStr=true/\0<=n) ((s[n.toNat]?).map fun b=>(.int .u8 b.toNat,h,[],[]))
   |_,_=>none)
 | .extract x i=>(match ev G t x with
   |.tup vs=>(vs[i]?).map fun v=>(v,h,[],[])
   |_=>none)
 | .call { callee:=.builtin .len,args:=⟨[x]⟩,argTypes:=⟨[ty]⟩ }=>need ((zK P ty).isSlice=true) (match ev G t x with
   |.imm es=>some (.int .i64 es.length,h,[],[])
   |.own _ _ len=>some (.int .i64 len,h,[],[])
   |.nilsl=>some (.int .i64 0,h,[],[])
   |_=>none)
 | .call { callee:=.builtin .max,args:=⟨[x,y]⟩,argTypes:=_ }=>(match ev G t x,ev G t y with
   |.int k a,.int _ b=>some (.int k (if b > a then b else a),h,[],[])
   |_,_=>none)
 | .call { callee:=.builtin .min,args:=⟨[x,y]⟩,argTypes:=_ }=>(match ev G t x,ev G t y with
   |.int k a,.int _ b=>some (.int k (if b<a then b else a),h,[],[])
   |_,_=>none)
 | .call { callee:=.builtin .append,args:=⟨[x,y]⟩,argTypes:=⟨[ty,ty2]⟩ } =>
   let e:=zK P (zK P ty).elem
   (match Ay h (ev G t y) with
   | some (es,ks)=>need ((∀ e'∈es,e'.cells.length=e.size/\e'.isAgg=e.agg)/\e.bytes<=4096/\e.zok=true/\(zK P ty).isSlice=true/\(zK P ty2).isSlice=true/\e.zero.cells.length=e.size/\e.size≠0) (match ev G t x with
     |.nilsl=>need (es.length<=2^32) (some (.own key 0 es.length,hset h key (some ⟨es,e.size,e.agg⟩),ks,[key]))
     | .own r off len=>(match h r with
       |some b=>need (off=0/\len=b.els.length/\b.sz=e.size/\b.agg=e.agg/\z r=false/\ks.contains r=false/\len+es.length<=2^32)
        (some (.own key 0 (len+es.length),hset (hset h r none) key (some ⟨b.els++es,e.size,e.agg⟩),r::ks,[r,key]))
       |none=>none)
     |_=>none)
   |none=>none)
 |_=>none
def zZ(f:PV->Option (PV×List Nat)):List PV->Option (List PV×List Nat)
 |[]=>some ([],[])
 | v::vs=>match f v,zZ f vs with
   |some (d,ks),some (ds,ls)=>some (d::ds,ks++ls)
   |_,_=>none
def frz(h:Hp):Nat->PV->Option (PV×List Nat)
 |_,.int k n=>some (.int k n,[])
 |_,.bool b=>some (.bool b,[])
 |_,.str s=>some (.str s,[])
 |_,.imm es=>some (.imm es,[])
 |_,.nilsl=>some (.imm [],[])
 |_,.nilfunc=>some (.nilfunc,[])
 |_,.raw v=>some (.raw v,[])
 |_,.cptr e off=>some (.cptr e off,[])
 | n + 1,.ptr r i off=>match h r with
   | some b=>(match b.els[i]? with
     | some e=>(match frz h n e with
       |some (d,ks)=>some (.cptr d off,r::ks)
       |none=>none)
     |none=>none)
   |none=>none
 | n+1,.func fn f c=>match zZ (frz h n) f,zZ (frz h n) c with
   |some (fs,ks),some (cs,ls)=>some (.func fn fs cs,ks++ls)
   |_,_=>none
 | n+1,.agg cs=>match zZ (frz h n) cs with
   |some (ds,ks)=>some (.agg ds,ks)
   |none=>none
 | n+1,.tup cs=>match zZ (frz h n) cs with
   |some (ds,ks)=>some (.tup ds,ks)
   |none=>none
 | n + 1,.own r off len=>match h r with
   | some b=>if off+len<=b.els.length then(match zZ (frz h n) ((b.els.drop off).take len) with
     |some (ds,ks)=>some (.imm ds,r::ks)
     |none=>none) else none
   |none=>none
 |_,_=>none
def cv1(h:Hp)(n:Nat)(q:Option Nat):PV->Option (PV×List Nat)
 |.nilsl=>some (.nilsl,[])
 |.own r off len=>if q=some r then some (.own 0 off len,[]) else frz h n (.own r off len)
 |.ptr r i off=>if q=some r then some (.ptr 0 i off,[]) else frz h n (.ptr r i off)
 |v=>frz h n v
def cv(h:Hp)(n:Nat)(q:Option Nat):PV->Option (PV×List Nat)
 | .agg cs=>match zZ (cv1 h n q) cs with
   |some (ds,ks)=>some (.agg ds,ks)
   |none=>none
 | .func fn f c=>match zZ (cv1 h n q) f,zZ (cv1 h n q) c with
   |some (fs,ks),some (cs,ls)=>some (.func fn fs cs,ks++ls)
   |_,_=>none
 |v=>cv1 h n q v
def rk1(r:Nat):PV->PV
 |.own _ off len=>.own r off len
 |.ptr _ i off=>.ptr r i off
 |v=>v
def rk(r:Nat):PV->PV
 |.agg cs=>.agg (cs.map (rk1 r))
 |.tup cs=>.tup (cs.map (rk1 r))
 |v=>rk1 r v
def A7:PV->PV
 |.own _ _ _=>.nilsl
 |v=>v
def rkn:PV->PV
 |.agg cs=>.agg (cs.map A7)
 |.tup cs=>.tup (cs.map A7)
 |v=>A7 v
def dN:PV->List PV
 |.agg cs=>cs
 |.tup cs=>cs
 |v=>[v]
def mY(h:Hp):Option (Nat×Blk)->Hp
 |none=>h
 |some (r,_)=>hset h r none
def EN:Option (Nat×Blk)->List Nat
 |none=>[]
 |some (r,_)=>[r]
def nr:Nat->PV->Bool
 |_,.int _ _|_,.bool _|_,.str _|_,.imm _|_,.nilsl|_,.cptr _ _|_,.nilfunc|_,.raw _|_,.anyb|_,.any=>true
 |n+1,.agg cs=>cs.all (nr n)
 |n+1,.tup cs=>cs.all (nr n)
 |n+1,.func _ f c=>f.all (nr n)&&c.all (nr n)
 |_,_=>false
def nrs(b:Blk):Prop:=∀ e∈b.els,nr 3 e=true
def uS7(b1:Blk)(res:PV):Prop:=(∀ c∈dN res,c=.own 0 0 b1.els.length\/nr 3 c=true)/\.own 0 0 b1.els.length∈dN res
def A8(b1:Blk)(res:PV):Prop:=uS7 b1 res\/(res=.ptr 0 0 0/\b1.els≠[])
inductive CRes where
 |data (d:PV)
 |fresh (els:List PV) (sz:Nat) (agg:Bool)
 |own (b0:Option Blk) (res:PV) (b1:Blk)
 |wrt (b0:Blk) (v:PV) (b1:Blk)
 |pk (L:List (Nat×Blk)) (N:Nat) (v:PV) (nb:Option Blk)
def CRes.val(key:Nat):CRes->PV
 |.data d=>d
 |.fresh els _ _=>.own key 0 els.length
 |.own _ _ _=>.any
 |.wrt _ _ _=>.any
 |.pk _ _ _ _=>.any
def CRes.heap(key:Nat)(h:Hp):CRes->Hp
 |.data _=>h
 |.fresh els sz agg=>hset h key (some ⟨els,sz,agg⟩)
 |.own _ _ _=>h
 |.wrt _ _ _=>h
 |.pk _ _ _ _=>h
def CRes.keys(key:Nat):CRes->List Nat
 |.data _=>[]
 |.fresh _ _ _=>[key]
 |.own _ _ _=>[]
 |.wrt _ _ _=>[]
 |.pk _ _ _ _=>[]
def CRes.ok(h:Hp):CRes->Prop
 |.own _ _ _=>False
 |.wrt _ _ _=>False
 |.pk _ _ _ _=>False
 |_=>True
structure FP where
 rd:List Nat
 wr:List Nat
 fz:List Nat
def mkz:Nat:=1099511627776
def FP.apart(a b:FP):Bool :=
 a.wr.all (fun k=>!b.rd.contains k&&!b.wr.contains k&&!b.fz.contains k)&&b.wr.all (fun k=>!a.rd.contains k&&!a.fz.contains k) &&
  a.fz.all (fun k=>!b.rd.contains (k+mkz))&&b.fz.all (fun k=>!a.rd.contains (k+mkz))
def put(s:St)(d:Option Nat)(v:PV):St :=
 match d with
 |some d=>{ s with t:=mE s.t d v }
 |none=>s
def rN(ops:List Oper):Nat->Oper->Nat->Bool
 |0,_,_=>false
 | f+1,o,k=>o.after.any (fun e=>e.on == k&&Region.binds .any e)||o.after.any fun e=>Region.binds .any e&&(match ops[e.on]? with
   |some o'=>rN ops f o' k
   |none=>false)
def rO(ops:List Oper)(o:Oper)(fp:FP)(acc:List (Nat×FP)):Bool :=
 acc.all fun(k,f)=>rN ops 4 o k||FP.apart f fp
abbrev LeT:=(Nat->St->St->Prop)×Nat
def kl(N:Nat):Nat->PV->Bool
 |_,.own r _ _|_,.ptr r _ _|_,.mp r=>Nat.blt r N
 |n+1,.agg cs=>cs.all (kl N n)
 |n+1,.tup cs=>cs.all (kl N n)
 |n+1,.func _ f c=>f.all (kl N n)&&c.all (kl N n)
 |0,.agg _|0,.tup _|0,.func _ _ _=>false
 |_,_=>true
def fD(h:Hp)(z:Fz)(L:List (Nat×Blk))(N:Nat)(args:List PV):Prop :=
 (L.map (·.1)).Nodup/\(∀ p∈L,h p.1=some p.2/\z p.1=false/\p.1<N/\∀ e∈p.2.els,kl N 3 e=true)/\∀ a∈args,kl N 3 a=true
def mZ(N key:Nat):PV->PV
 |.own r off len=>.own (if r=N then key else r) off len
 |v=>v
def Gb(h:Hp)(key:Nat):Option Blk->Hp
 |none=>h
 |some b=>hset h key (some b)
def UF(key:Nat):Option Blk->List Nat
 |none=>[]
 |some _=>[key]
def A9(L:List (Nat×Blk)):List Nat:=L.map (·.1)++L.map (·.1+mkz)
abbrev wK:=FuncId->List PV->CRes->Prop
abbrev rP:=FuncId->List PV->(PV->St->Prop)->St->Prop
def NZ(C:wK)(key:Nat)(h:Hp)(z:Fz)(f:FuncId)(args:List PV)(fp:FP)(v:PV)(h':Hp):Prop :=
 (∃ n ds r,zZ (frz h n) args=some (ds,fp.fz)/\C f ds r/\r.ok h/\v=r.val key/\h'=r.heap key h/\fp.rd=fp.fz/\fp.wr=r.keys key) \/
 (∃ n ds q res b1,zZ (cv h n (q.map (·.1))) args=some (ds,fp.fz)/\C f ds (.own (q.map (·.2)) res b1)/\(∀ r b,q=some (r,b)->h r=some b/\z r=false/\r∉fp.fz/\nrs b) /\
   v=rk key res/\h'=hset (mY h q) key (some b1)/\fp.rd=EN q++fp.fz/\fp.wr=EN q++[key]) \/
 (∃ n ds r b0 b1,zZ (cv h n (some r)) args=some (ds,fp.fz)/\C f ds (.wrt b0 v b1)/\(h r=some b0/\z r=false/\r∉fp.fz/\nrs b0) /\
   h'=hset h r (some b1)/\fp.rd=r::fp.fz/\fp.wr=[r]) \/
 (∃ L N v0 nb,C f args (.pk L N v0 nb)/\fD h z L N args/\v=mZ N key v0/\h'=Gb h key nb/\fp.fz=[]/\fp.rd=A9 L/\fp.wr=UF key nb)
section
variable (P:Program) (G:Gl) (C:wK) (I:rP) (Le:LeT) (D:Bool)
def fE(f:FuncId)(args:List PV)(dst:Option Nat)(K:FP->St->Prop)(s:St):Prop :=
 (∃ fp v h',NZ C s.nx s.h s.z f args fp v h'/\K fp (put { s with h:=h',z:=yY s.z fp.fz,nx:=s.nx+1 } dst v)) \/
 (D=false/\I f args (fun v s'=>K ⟨[],[],[]⟩ (put { s' with t:=s.t } dst v)) s)
def uG(o:Oper)(K:FP->St->Prop)(s:St):Prop :=
 match o.op with
 | .call { callee:=.value g,args,argTypes:=_ } =>
   (match ev G s.t g with
   |.func (.func f) first captured=>fE C I D f (first++args.toList.map (ev G s.t)++captured) o.dst K s
   |_=>False)
 | .call { callee:=.invoke g m,args,argTypes:=_ } =>
   D=false/\∃ u v f r,ev G s.t g=.raw (.iface u v)/\(∀ w,(Go.method (P.types.size+Made.depth) u v m).run P w=.ok (f,r) w)/\Az (Ck r)=some r/\I f (Ck r::args.toList.map (ev G s.t)) (fun v s'=>K ⟨[],[],[]⟩ (put { s' with t:=s.t } o.dst v)) s
 | op=>match zN P G s.z s.nx op s.t s.h with
   |some (v,h',rd,wr)=>K ⟨rd,wr,[]⟩ (put { s with h:=h',nx:=s.nx+1 } o.dst v)
   |none=>False
def wpOps(ops:List Oper):Nat->List (Nat×FP)->List Oper->(St->Prop)->St->Prop
 |_,_,[],K,s=>K s
 | i,acc,o::rest,K,s =>
   let run:=uG P G C I D o (fun fp s'=>(D=true->rO ops o fp acc=true)/\wpOps ops (i+1) ((i,fp)::acc) rest K s') s
   let pass:=wpOps ops (i+1) acc rest K (put { s with nx:=s.nx+1 } o.dst (.tup []))
   match o.guard with
   |none=>run
   | some (j,want)=>match (ops[j]?).bind (·.dst) with
     | some d=>(match s.t d with
       |.bool b=>(b=want->run)/\(b=(!want)->pass)
       |.tup []=>pass
       |_=>False)
     |none=>False
end
def nG(K:St->Prop)(Q:Exit->St->Prop):Exit->St->Prop
 |.normal,s=>K s
 |e,s=>Q e s
def tX(Le:LeT)(K:St->Prop)(Q:Exit->St->Prop):Exit->St->Prop
 |.normal,s=>∃ s',Le.1 Le.2 s s'/\K s'
 |e,s=>Q e s
def dO(id:Nat)(Q:Exit->St->Prop):Exit->St->Prop
 |.exit id',s=>if id'=id then Q .normal s else Q (.exit id') s
 |e,s=>Q e s
def Cm(k:Nat)(o:Oper):Bool:=o.after.toList.all (fun e=>!Region.binds .any e||Nat.blt e.on k)&&(match o.guard with
 |none=>true
 |some (j,_)=>Nat.blt j k)
def Gc:Nat->List Oper->Bool
 |_,[]=>true
 |k,o::l=>Cm k o&&Gc (k+1) l
def Jk(l:List Oper)(o:Oper):Bool:=Region.lexB .any l.toArray&&(o.guard.isNone&&(Cm l.length o&&(Gc 0 l&&(List.range l.length).all (fun k=>rN l 4 o k))))
section
variable (P:Program) (G:Gl) (C:wK) (I:rP)
def Gd(Q:Exit->St->Prop):Exit->St->Prop
 |.goto _,_=>False
 |e,s=>Q e s
def uYI(D:Bool)(ops:List Oper)(K:St->Prop)(s:St):Prop :=
 D=true/\∃ l o,ops=l++[o]/\Jk l o=true/\wpOps P G C I true l 0 [] l (fun s'=>uG P G C I false o (fun _ s''=>K s'') s') s
def wp:LeT->Code->(Exit->St->Prop)->St->Prop
 |_,.skip,Q,s=>Q .normal s
 |_,.label _,Q,s=>Q .normal s
 |Le,.scope c,Q,s=>wp Le c (Gd Q) s
 |Le,.seq a b,Q,s=>wp Le a (tX Le (wp Le b Q) Q) s
 | Le,.cond c a b,Q,s=>(match ev G s.t c with
   |.bool t=>(t=true->wp Le a Q s)/\(t=false->wp Le b Q s)
   |.anyb=>wp Le a Q s/\wp Le b Q s
   |_=>False)
 |Le,.block id c,Q,s=>wp Le c (dO id Q) s
 |Le,.loop c,Q,s=>∃ s0,Le.1 Le.2 s s0/\∃ n,Nat.rec (motive:=fun _=>St->Prop) (fun _=>False) (fun _ ih s=>wp Le c (nG (fun s'=>∃ s'',Le.1 Le.2 s' s''/\ih s'') Q) s) n s0
 |_,.exit id,Q,s=>Q (.exit id) s
 |_,.ret,Q,s=>Q .ret s
 |_,.region _ ops D,Q,s=>wpOps P G C I D ops.toList 0 [] ops.toList (Q .normal) s\/uYI P G C I D ops.toList (Q .normal) s
 |_,_,_,_=>False
end
variable {s:St}
section
variable {P:Program} {G:Gl} {C:wK} {I:rP} {Le:LeT}
def wp_region{id:Nat}{ops:Array Oper}{D:Bool}{Q:Exit->St->Prop}  (h:wpOps P G C I D ops.toList 0 [] ops.toList (Q .normal) s):wp P G C I Le (.region id ops D) Q s:=zF h
def Gf{D:Bool}{o:Oper}{K K':FP->St->Prop}  (hI:∀ f args (J J':PV->St->Prop) s,(∀ v s,J v s->J' v s)->I f args J s->I f args J' s)
 (hk:∀ fp s,K fp s->K' fp s) (h:uG P G C I D o K s):uG P G C I D o K' s:=by
 unfold uG at *
 split at h
 .split at h
  .rename_i f first captured hg
   rcases h with⟨fp,v,h',hd,h⟩|⟨hd,h⟩
   .exact zF ⟨fp,v,h',hd,hk _ _ h⟩
   .exact zC ⟨hd,hI _ _ _ _ _ (fun v s h=>hk _ _ h) h⟩
  .exact h
 .obtain⟨hd,u,v,f,r,h1,h2,h3,h⟩:=h
  exact⟨hd,u,v,f,r,h1,h2,h3,hI _ _ _ _ _ (fun v s h=>hk _ _ h) h⟩
 .split at h
  .exact hk _ _ h
  .exact h
def Na{D:Bool}{ops:List Oper}{K K':St->Prop}(hI:∀ f args (J J':PV->St->Prop) s,(∀ v s,J v s->J' v s)->I f args J s->I f args J' s)
 (hk:∀ s,K s->K' s):∀ (l:List Oper) (i:Nat) (acc:List (Nat×FP)) (s:St),wpOps P G C I D ops i acc l K s->wpOps P G C I D ops i acc l K' s
 |[],_,_,_,h=>hk _ h
 | o :: rest,i,acc,s,h=>by
   have ih:=Na (D:=D) (ops:=ops) hI hk rest;unfold wpOps at h ⊢
   have run:uG P G C I D o (fun fp s'=>(D=true->rO ops o fp acc=true)/\wpOps P G C I D ops (i+1) ((i,fp)::acc) rest K s') s ->
    uG P G C I D o (fun fp s'=>(D=true->rO ops o fp acc=true)/\wpOps P G C I D ops (i+1) ((i,fp)::acc) rest K' s') s :=
    Gf hI fun fp s h=>⟨h.1,ih _ _ _ h.2⟩
   dsimp only at h ⊢
   split at h
   .exact run h
   .split at h
    .split at h
     .exact⟨fun e=>run (h.1 e),fun e=>ih _ _ _ (h.2 e)⟩
     .exact ih _ _ _ h
     .exact h
    .exact h
def wp_mono(hI:∀ f args (J J':PV->St->Prop) s,(∀ v s,J v s->J' v s)->I f args J s->I f args J' s) :
 ∀ {Le:LeT} (c:Code) (Q Q':Exit->St->Prop) (s:St),(∀ e s,Q e s->Q' e s)->wp P G C I Le c Q s->wp P G C I Le c Q' s
 |_,.skip,_,_,_,hq,h=>hq _ _ h
 |_,.label _,_,_,_,hq,h=>hq _ _ h
 | _,.seq a b,Q,Q',s,hq,h=>by
   refine wp_mono hI a _ _ s (fun e s h=>?_) h;cases e<;>first|exact hq _ _ h|(obtain⟨s',h1,h2⟩:=h;exact⟨s',h1,wp_mono hI b _ _ s' hq h2⟩)
 | _,.cond c a b,Q,Q',s,hq,h=>by
   unfold wp at *
   split at h
   .exact⟨fun e=>wp_mono hI a _ _ s hq (h.1 e),fun e=>wp_mono hI b _ _ s hq (h.2 e)⟩
   .exact⟨wp_mono hI a _ _ s hq h.1,wp_mono hI b _ _ s hq h.2⟩
   .exact h
 | _,.block id c,Q,Q',s,hq,h=>by
   refine wp_mono hI c _ _ s (fun e s h=>?_) h;cases e<;>simp only[dO]at *<;>first|exact hq _ _ h|(split<;>rename_i e<;>simp only[e,uA,tE]at h<;>exact hq _ _ h)
 | _,.loop c,Q,Q',s,hq,h=>by
   unfold wp at *
   obtain⟨s0,h0,n,h⟩:=h;refine⟨s0,h0,n,?_⟩;clear h0
   induction n generalizing s0 with
   |zero=>exact h
   | succ n ih =>
     refine wp_mono hI c _ _ s0 (fun e s h=>?_) h;cases e<;>first|(obtain⟨s'',h1,h2⟩:=h;exact⟨s'',h1,ih _ h2⟩)|exact hq _ _ h
 |_,.exit id,_,_,_,hq,h=>hq _ _ h
 |_,.ret,_,_,_,hq,h=>hq _ _ h
 |_,.region _ ops D,_,_,_,hq,h=>h.imp (Na hI (fun s h=>hq _ _ h) _ _ _ _) fun⟨hd,l,o,e,ht,h⟩=>⟨hd,l,o,e,ht,Na hI (fun s h=>Gf hI (fun _ s h=>hq _ _ h) h) _ _ _ _ h⟩
 |_,.scope c,_,_,_,hq,h=>wp_mono hI c _ _ _ (fun e s h=>by cases e<;>first|exact hq _ _ h|exact h) h
 |_,.goto _,_,_,_,_,h=>h
 |_,.refuse _,_,_,_,_,h=>h
 |_,.rangeFunc ..,_,_,_,_,h=>h
def wp_loop{c:Code}{Q:Exit->St->Prop}  (hI:∀ f args (J J':PV->St->Prop) s,(∀ v s,J v s->J' v s)->I f args J s->I f args J' s)
 {ι:Type} (S:ι->St) (Inv:ι->Prop) (μ:ι->Nat) (i0:ι) (h0:Inv i0) (hs:Le.1 Le.2 s (S i0))
 (round:∀ i,Inv i->wp P G C I Le c (nG (fun s'=>∃ i',Inv i'/\μ i'<μ i/\Le.1 Le.2 s' (S i')) Q) (S i)):wp P G C I Le (.loop c) Q s:=by
 refine⟨S i0,hs,?_⟩
 have key:∀ n i,Inv i->μ i<n->Nat.rec (motive:=fun _=>St->Prop) (fun _=>False) (fun _ ih s=>wp P G C I Le c (nG (fun s'=>∃ s'',Le.1 Le.2 s' s''/\ih s'') Q) s) n (S i):=by
  intro n
  induction n with
  |zero=>intro i _ h;omega
  | succ n ih =>
    intro i hi hn;refine wp_mono hI c _ _ _ (fun e s' h=>?_) (round i hi);cases e<;>first|(obtain⟨i',h1,h2,h3⟩:=h;exact⟨_,h3,ih i' h1 zom⟩)|exact h
 exact⟨_,key _ i0 h0 (nC _)⟩
end
section
variable {P:Program} {G:Gl} {C:wK} {I:rP} {Le:LeT} {Q:Exit->St->Prop} {s:St}
def Nb(P:Program)(G:Gl)(C:wK)(I:rP)(Le:LeT)(c:Code)(Q:Exit->St->Prop)(s:St):Prop:=wp P G C I Le (.loop c) Q s
end
attribute [irreducible] tX
open Go.RowKit
inductive RD(w:World)(A:Nat->Prop):PV->Value->Prop
 |int (k:IntKind) (n:Int):RD w A (.int k n) (.int k n)
 |bool (b:Bool):RD w A (.bool b) (.bool b)
 |str (s:ByteArray):RD w A (.str s) (.string s)
 |agg (cs:List PV) (vs:Array Value) (hl:vs.size=cs.length) (h:∀ i d,cs[i]?=some d->RD w A d (vs.getD i undef)) (h1:∀ i,i<cs.length->(vs.getD i undef).oneCell'=true):RD w A (.agg cs) (.agg vs)
 |tup (cs:List PV) (vs:Array Value) (hl:vs.size=cs.length) (h:∀ i d,cs[i]?=some d->RD w A d (vs.getD i undef)):RD w A (.tup cs) (.tuple vs)
 |imm0 (a:Option Addr) (cap:Nat):RD w A (.imm []) (.slice a 0 cap)
 |imm (es:List PV) (sz b off cap:Nat) (val:Nat->Nat->Value) (hA:A b) (hcap:es.length<=cap) (hsz:∀ e∈es,e.cells.length=sz)
  (hc:∀ i c,i<es.length->c<sz->w.cell? ⟨b,off+i*sz+c,none⟩=some (val i c)/\(val i c).oneCell'=true)
  (h:∀ i e,es[i]?=some e->∀ c d,e.cells[c]?=some d->RD w A d (val i c)):RD w A (.imm es) (.slice (some ⟨b,off,none⟩) es.length cap)
 |cptr (e:PV) (off b o:Nat) (val:Nat->Value) (hA:A b) (hc:∀ c,c<e.cells.length->w.cell? ⟨b,o+c,none⟩=some (val c)/\(val c).oneCell'=true) (h:∀ c d,e.cells[c]?=some d->RD w A d (val c)):RD w A (.cptr e off) (.pointer (some ⟨b,o+off,none⟩))
 |func (fn:Fn) (first captured:List PV) (fs cs:Array Value) (hl:fs.size=first.length) (hl':cs.size=captured.length) (h:∀ i d,first[i]?=some d->RD w A d (fs.getD i undef)) (h':∀ i d,captured[i]?=some d->RD w A d (cs.getD i undef)):RD w A (.func fn first captured) (.func fn fs cs)
 |nilfunc:RD w A .nilfunc .nilFunc
 |raw (v:Value):RD w A (.raw v) v
variable {w':World}{cs:List PV}{r:Nat}{d:PV}{off:Nat}{u v:Value}
abbrev Ka:=Nat->Option (Nat×Nat×Nat)   -- a key's block in memory,its elements' size in cells,its capacity in elements
inductive RV(w:World)(A:Nat->Prop)(κ:Ka):PV->Value->Prop
 |data (d:PV) (v:Value) (h:RD w A d v):RV w A κ d v
 |agg (cs:List PV) (vs:Array Value) (hl:vs.size=cs.length) (h:∀ i d,cs[i]?=some d->RV w A κ d (vs.getD i undef)) (h1:∀ i,i<cs.length->(vs.getD i undef).oneCell'=true):RV w A κ (.agg cs) (.agg vs)
 |tup (cs:List PV) (vs:Array Value) (hl:vs.size=cs.length) (h:∀ i d,cs[i]?=some d->RV w A κ d (vs.getD i undef)):RV w A κ (.tup cs) (.tuple vs)
 |nilsl:RV w A κ .nilsl (.slice none 0 0)
 |own (r off len m sz cap:Nat) (a:Option Addr) (hk:κ r=some (m,sz,cap)) (hle:off+len<=cap) (ha:a=some ⟨m,off*sz,none⟩\/cap=off):RV w A κ (.own r off len) (.slice a len (cap-off))
 |ptr (r i off m sz cap:Nat) (hk:κ r=some (m,sz,cap)):RV w A κ (.ptr r i off) (.pointer (some ⟨m,i*sz+off,none⟩))
 |func (fn:Fn) (first captured:List PV) (fs cs:Array Value) (hl:fs.size=first.length) (hl':cs.size=captured.length) (h:∀ i d,first[i]?=some d->RV w A κ d (fs.getD i undef)) (h':∀ i d,captured[i]?=some d->RV w A κ d (cs.getD i undef)):RV w A κ (.func fn first captured) (.func fn fs cs)
 |mp (r m sz cap:Nat) (hk:κ r=some (m,sz,cap)) (hc:cap≠0):RV w A κ (.mp r) (.map (some m))
 |anyb (b:Bool):RV w A κ .anyb (.bool b)
 |any (v:Value):RV w A κ .any v
def RD.mono{w:World}{A A':Nat->Prop}(hA:∀ b,A b->A' b)(hc:∀ b o,A b->w'.cell? ⟨b,o,none⟩=w.cell? ⟨b,o,none⟩)   (h:RD w A d v):RD w' A' d v:=by
 induction h with
 |int k n=>exact .int k n
 |bool b=>exact .bool b
 |str s=>exact .str s
 |agg cs vs hl _ h1 ih=>exact .agg cs vs hl ih h1
 |tup cs vs hl _ ih=>exact .tup cs vs hl ih
 |imm0 a cap=>exact .imm0 a cap
 |imm es sz b off cap val hb hcap hsz hcell _ ih=>exact .imm es sz b off cap val (hA b hb) hcap hsz (fun i c hi hc'=>⟨by rw[hc b _ hb];exact(hcell i c hi hc').1,(hcell i c hi hc').2⟩) ih
 |cptr e off b o val hb h1 _ ih=>exact .cptr e off b o val (hA b hb) (fun c hc'=>⟨by rw[hc b _ hb];exact(h1 c hc').1,(h1 c hc').2⟩) ih
 |func fn f c fs cs hl hl' _ _ ih ih'=>exact .func fn f c fs cs hl hl' ih ih'
 |nilfunc=>exact .nilfunc
 |raw v=>exact .raw v
variable {κ':Ka}
def RV.mono{w:World}{A A':Nat->Prop}{κ:Ka}(hA:∀ b,A b->A' b)(hc:∀ b o,A b->w'.cell? ⟨b,o,none⟩=w.cell? ⟨b,o,none⟩)(hk:∀ r x,κ r=some x->κ' r=some x)
   (h:RV w A κ d v):RV w' A' κ' d v:=by
 induction h with
 |data d v h=>exact .data d v (h.mono hA hc)
 |agg cs vs hl _ h1 ih=>exact .agg cs vs hl ih h1
 |tup cs vs hl _ ih=>exact .tup cs vs hl ih
 |nilsl=>exact .nilsl
 |own r off len m sz cap a h1 h2 h3=>exact .own r off len m sz cap a (hk _ _ h1) h2 h3
 |ptr r i off m sz cap h1=>exact .ptr r i off m sz cap (hk _ _ h1)
 |func fn f c fs cs hl hl' _ _ ih ih'=>exact .func fn f c fs cs hl hl' ih ih'
 |mp r m sz cap h1 h2=>exact .mp r m sz cap (hk _ _ h1) h2
 |anyb b=>exact .anyb b
 |any v=>exact .any v
section
variable {w:World} {A:Nat->Prop} {κ:Ka}
def RV.agg_of_data   (h:RD w A (.agg cs) v):∃ vs,v=.agg vs/\vs.size=cs.length/\(∀ i d,cs[i]?=some d->RV w A κ d (vs.getD i undef))/\∀ i,i<cs.length->(vs.getD i undef).oneCell'=true:=by
 cases h with
 |agg _ vs hl h h1=>exact⟨vs,rfl,hl,fun i d hd=>.data _ _ (h i d hd),h1⟩
def RV.agg_inv   (h:RV w A κ (.agg cs) v):∃ vs,v=.agg vs/\vs.size=cs.length/\(∀ i d,cs[i]?=some d->RV w A κ d (vs.getD i undef))/\∀ i,i<cs.length->(vs.getD i undef).oneCell'=true:=by
 cases h with
 |data _ _ h=>exact RV.agg_of_data h
 |agg _ vs hl h h1=>exact⟨vs,rfl,hl,h,h1⟩
def RV.tup_inv   (h:RV w A κ (.tup cs) v):∃ vs,v=.tuple vs/\vs.size=cs.length/\∀ i d,cs[i]?=some d->RV w A κ d (vs.getD i undef):=by
 cases h with
 |data _ _ h=>cases h with|tup _ vs hl h=>exact⟨vs,rfl,hl,fun i d hd=>.data _ _ (h i d hd)⟩
 |tup _ vs hl h=>exact⟨vs,rfl,hl,h⟩
def RV.int_inv{k:IntKind}{n:Int}  (h:RV w A κ (.int k n) v):v=.int k n:=by
 cases h with|data _ _ h=>cases h;rfl
def RV.bool_inv{b:Bool}  (h:RV w A κ (.bool b) v):v=.bool b:=by
 cases h with|data _ _ h=>cases h;rfl
def RV.str_inv{s:ByteArray}  (h:RV w A κ (.str s) v):v=.string s:=by
 cases h with|data _ _ h=>cases h;rfl
def RV.anyb_inv  (h:RV w A κ .anyb v):∃ b,v=.bool b:=by
 cases h with
 |data _ _ h=>cases h
 |anyb b=>exact⟨b,rfl⟩
def RV.nilsl_inv  (h:RV w A κ .nilsl v):v=.slice none 0 0:=by
 cases h with
 |data _ _ h=>cases h
 |nilsl=>rfl
def RV.imm_inv{es:List PV}  (h:RV w A κ (.imm es) v):RD w A (.imm es) v:=by
 cases h with|data _ _ h=>exact h
def RV.own_inv{len:Nat}  (h:RV w A κ (.own r off len) v):∃ m sz cap a,v=.slice a len (cap-off)/\κ r=some (m,sz,cap)/\off+len<=cap/\(a=some ⟨m,off*sz,none⟩\/cap=off):=by
 cases h with
 |data _ _ h=>cases h
 |own _ _ _ m sz cap a h1 h2 h3=>exact⟨m,sz,cap,a,rfl,h1,h2,h3⟩
def RV.ptr_inv{i:Nat}  (h:RV w A κ (.ptr r i off) v):∃ m sz cap,v=.pointer (some ⟨m,i*sz+off,none⟩)/\κ r=some (m,sz,cap):=by
 cases h with
 |data _ _ h=>cases h
 |ptr _ _ _ m sz cap h1=>exact⟨m,sz,cap,rfl,h1⟩
def RV.mp_inv   (h:RV w A κ (.mp r) v):∃ m sz cap,v=.map (some m)/\κ r=some (m,sz,cap)/\cap≠0:=by
 cases h with
 |data _ _ h=>cases h
 |mp _ m sz cap h1 h2=>exact⟨m,sz,cap,rfl,h1,h2⟩
def RV.cptr_inv{e:PV}   (h:RV w A κ (.cptr e off) v):∃ b o,∃ val:Nat->Value,v=.pointer (some ⟨b,o+off,none⟩)/\A b/\(∀ c,c<e.cells.length->w.cell? ⟨b,o+c,none⟩=some (val c)/\(val c).oneCell'=true)/\∀ c d,e.cells[c]?=some d->RD w A d (val c):=by
 cases h with
 |data _ _ h=>cases h with|cptr _ _ b o val h1 h2 h3=>exact⟨b,o,val,rfl,h1,h2,h3⟩
def RV.func_inv{fn:Fn}{f c:List PV}  (h:RV w A κ (.func fn f c) v):∃ fs cs,v=.func fn fs cs/\fs.size=f.length/\cs.size=c.length/\(∀ i d,f[i]?=some d->RV w A κ d (fs.getD i undef))/\∀ i d,c[i]?=some d->RV w A κ d (cs.getD i undef):=by
 cases h with
 |data _ _ h=>cases h with|func _ _ _ fs cs h1 h2 h3 h4=>exact⟨fs,cs,rfl,h1,h2,fun i d hd=>.data _ _ (h3 i d hd),fun i d hd=>.data _ _ (h4 i d hd)⟩
 |func _ _ _ fs cs h1 h2 h3 h4=>exact⟨fs,cs,rfl,h1,h2,h3,h4⟩
def RV.nilfunc_inv  (h:RV w A κ .nilfunc v):v=.nilFunc:=by
 cases h with|data _ _ h=>cases h;rfl
def RV.raw_inv  (h:RV w A κ (.raw u) v):v=u:=by
 cases h with|data _ _ h=>cases h;rfl
def RV.imm_len{es:List PV}  (h:RV w A κ (.imm es) v):∃ a cap,v=.slice a es.length cap:=by
 cases h.imm_inv with
 |imm0 a cap=>exact⟨a,cap,rfl⟩
 |imm _ sz b off cap=>exact⟨_,cap,rfl⟩
def RVs(w:World)(A:Nat->Prop)(κ:Ka)(ds:List PV)(vs:List Value):Prop:=ds.length=vs.length/\∀ i d,ds[i]?=some d->RV w A κ d (vs.getD i undef)
def RV.cells   (h:RV w A κ d v)(hs:d.storable=true):RVs w A κ d.cells v.cells.toList/\∀ u∈v.cells.toList,u.oneCell'=true:=by
 have one:∀ (d:PV) (v:Value),d.cells=[d]->v.cells=#[v]->RV w A κ d v->v.oneCell'=true->RVs w A κ d.cells v.cells.toList/\∀ u∈v.cells.toList,u.oneCell'=true:=by
  intro d v e1 e2 h h1;rw[e1,e2];refine⟨⟨rfl,fun i x hx=>?_⟩,by simp[h1]⟩;cases i with
  |zero=>simp at hx;subst hx;exact h
  |succ i=>simp at hx
 have ag:∀ (cs:List PV) (vs:Array Value),vs.size=cs.length->(∀ i d,cs[i]?=some d->RV w A κ d (vs.getD i undef))->(∀ i,i<cs.length->(vs.getD i undef).oneCell'=true) ->
  RVs w A κ (PV.agg cs).cells (Value.agg vs).cells.toList/\∀ u∈(Value.agg vs).cells.toList,u.oneCell'=true:=by
  intro cs vs hl h h1;refine⟨⟨by simp[PV.cells,Value.cells,hl],fun i d hd=>?_⟩,fun u hu=>?_⟩
  .have:=h i d hd
   simpa [Value.cells,o8,List.getD]using this
  .simp only[Value.cells]at hu
   obtain⟨i,hi,rfl⟩:=uE hu;have hi':i<vs.size:=by simpa using hi
   have:=h1 i zom
   simpa [Array.getD,hi']using this
 cases h with
 | data _ _ h =>
   cases h with
   |int k n=>exact one _ _ rfl rfl (.data _ _ (.int k n)) rfl
   |bool b=>exact one _ _ rfl rfl (.data _ _ (.bool b)) rfl
   |str s=>exact one _ _ rfl rfl (.data _ _ (.str s)) rfl
   |agg cs vs hl h h1=>exact ag cs vs hl (fun i d hd=>.data _ _ (h i d hd)) h1
   |tup=>simp[PV.storable]at hs
   |imm0 a cap=>exact one _ _ rfl rfl (.data _ _ (.imm0 a cap)) rfl
   |imm es sz b off cap val h1 h2 h3 h4 h5=>exact one _ _ rfl rfl (.data _ _ (.imm es sz b off cap val h1 h2 h3 h4 h5)) rfl
   |cptr e off b o val h1 h2 h3=>exact one _ _ rfl rfl (.data _ _ (.cptr e off b o val h1 h2 h3)) rfl
   |func fn f c fs cs h1 h2 h3 h4=>exact one _ _ rfl rfl (.data _ _ (.func fn f c fs cs h1 h2 h3 h4)) rfl
   |nilfunc=>exact one _ _ rfl rfl (.data _ _ .nilfunc) rfl
   | raw v =>
     have hs:NW v=true:=hs;unfold NW at hs
     split at hs
     all_goals first|(cases hs;done)|exact one _ _ rfl rfl (.data _ _ (.raw _)) rfl
 |agg cs vs hl h h1=>exact ag cs vs hl h h1
 |tup=>simp[PV.storable]at hs
 |nilsl=>exact one _ _ rfl rfl .nilsl rfl
 |own r off len m sz cap a h1 h2 h3=>exact one _ _ rfl rfl (.own r off len m sz cap a h1 h2 h3) rfl
 |ptr r i off m sz cap h1=>exact one _ _ rfl rfl (.ptr r i off m sz cap h1) rfl
 |func fn f c fs cs h1 h2 h3 h4=>exact one _ _ rfl rfl (.func fn f c fs cs h1 h2 h3 h4) rfl
 |mp r m sz cap h1 h2=>exact one _ _ rfl rfl (.mp r m sz cap h1 h2) rfl
 |anyb=>simp[PV.storable]at hs
 |any=>simp[PV.storable]at hs
def Nc:∀ (cs:List PV) (l:List Value),Cj cs=some l->l.length=cs.length/\(∀ (i:Nat) (d:PV),cs[i]?=some d->d=PV.raw (l.getD i undef))/\∀ u∈l,u.oneCell'=true
 |[],l,h=>by cases h;exact⟨rfl,fun i d hd=>by simp at hd,fun u hu=>by cases hu⟩
 | c :: cs,l,h=>by
   unfold Cj at h
   split at h
   .rename_i e;cases e
   .rename_i t v cs' e
    cases e
    cases hl:Cj cs with
    |none=>rw[hl]at h;cases h
    | some l' =>
      rw[hl]at h;cases h
      obtain⟨h1,h2,h3⟩:=Nc cs l' hl;refine⟨by simp[h1],fun i d hd=>?_,fun u hu=>?_⟩
      .cases i with
       |zero=>simp at hd;subst hd;rfl
       |succ i=>simp at hd;have:=h2 i d hd;simpa using this
      .rcases yI.1 hu with rfl|hu
       .rfl
       .exact h3 u hu
   .cases h
def uOO   (h:Az d=some u):RV w A κ d u:=by
 unfold Az at h
 split at h
 .rename_i cs
  cases hl:Cj cs with
  |none=>rw[hl]at h;cases h
  | some l =>
    rw[hl]at h;cases h
    obtain⟨h1,h2,h3⟩:=Nc cs l hl;refine .agg cs l.toArray (by simp[h1]) (fun i d hd=>?_) (fun i hi=>?_)
    .rw[h2 i d hd]
     have:l.toArray.getD i undef=l.getD i undef:=by simp[o8,List.getD]
     rw[this];exact .data _ _ (.raw _)
    .have hil:i<l.length:=zom
     have:l.toArray.getD i undef=l[i]:=by simp[Array.getD,hil]
     rw[this];exact h3 _ (wA hil)
 .cases h
def uOP   (h:Az d=some u)(hx:RV w A κ d v):v=u:=by
 unfold Az at h
 split at h
 .rename_i cs
  cases hl:Cj cs with
  |none=>rw[hl]at h;cases h
  | some l =>
    rw[hl]at h;cases h
    obtain⟨h1,h2,h3⟩:=Nc cs l hl;obtain⟨vs,rfl,g1,g2,_⟩:=hx.agg_inv
    congr 1
    apply Array.ext
    .simp[g1,h1]
    .intro i i1 i2
     have hil:i<cs.length:=zom
     have hll:i<l.length:=zom
     have e1:=g2 i cs[i] (wN hil);rw[h2 i cs[i] (wN hil)]at e1;have e2:=e1.raw_inv;have a1:vs.getD i undef=vs[i]:=by simp[Array.getD,i1]
     have a2:l.getD i undef=l[i]:=by simp[List.getD,hll]
     rw[a1,a2]at e2
     simpa using e2
 .cases h
end
structure Env where
 w0:World
 w1:World
 B:Nat
 A0:Nat->Prop
 n0:Nat
 κ0:Ka
 K : Nat -> Prop := fun _ => False   -- blocks kept aq they are in 'kw',
 Z:Nat->Prop:=fun _=>False   -- those of them that nothing here stands on
 kw:World
def lies(w:World)(A:Nat->Prop)(κ:Ka)(c:Array Value)(o:Nat)(e:PV):Prop :=
 ∀ j d,e.cells[j]?=some d->∃ v,c[o+j]?=some v/\RV w A κ d v/\v.oneCell'=true
structure Kp(E:Env)(w:World)(A:Nat->Prop)(κ:Ka)(h:Hp)(z:Fz):Prop where
 own:∀ r b m sz cap,h r=some b->κ r=some (m,sz,cap)->cap≠0->z r=false->¬ E.K m
 kb:Below 0 E.kw w
 kk:∀ b,E.K b->b<w.heap.size/\w.heap[b]?=E.kw.heap[b]?
 zk:∀ b,E.Z b->E.K b/\¬ A b
def mpP(w:World)(m:Nat)(b:Blk):Prop:=b.els=[]/\b.sz=0/\b.agg=false/\w.heap[m]?=some (Obj.map #[] 0)
def dP{cap m:Nat}{w:World}{b:Blk}{X Y:Prop}(h:cap=0\/(mpP w m b/\X)\/Y)(hc:cap≠0)(hn:b.els=[]->b.sz≠0):Y:=(h.resolve_left hc).resolve_left fun e=>hn e.1.1 e.1.2.1
abbrev Told(E:Env)(w:World)(A:Nat->Prop)(κ:Ka)(zr:Bool)(r:Nat)(b:Blk):Prop:=∃ m cap,κ r=some (m,b.sz,cap)/\b.els.length<=cap/\(∀ e∈b.els,e.cells.length=b.sz/\e.isAgg=b.agg) /\
 (cap=0\/(mpP w m b/\E.B<=m/\(zr=false->¬ A m)/\(zr=true->A m))\/∃ c ty,(E.B<=m/\(b.sz=0->b.agg=true/\zty ty=true))/\w.heap[m]?=some (.cells c ty (0,0))/\c.size=cap*b.sz/\(∀ u∈c.toList,u.oneCell'=true)/\(∀ i e,b.els[i]?=some e->lies w A κ c (i*b.sz) e)/\(zr=false->¬ A m)/\(zr=true->A m))
structure HR(E:Env)(G:Gl)(w:World)(A:Nat->Prop)(κ:Ka)(h:Hp)(z:Fz):Prop where
 bel:Below E.B E.w0 w
 hB:E.B<=w.heap.size
 alt:∀ b,A b->b<w.heap.size
 a0:∀ b,E.A0 b->A b
 a1:∀ b,A b->E.A0 b\/E.B<=b
 acell:∀ b o,E.A0 b->w.cell? ⟨b,o,none⟩=E.w1.cell? ⟨b,o,none⟩
 k0:∀ r,r<E.n0->κ r=E.κ0 r
 glob:∀ g e,G g=some e->RV w A κ (.cptr e 0) (.pointer (some ⟨g,0,none⟩))
 klt:∀ r m sz cap,κ r=some (m,sz,cap)->cap=0\/m<w.heap.size
 kp:Kp E w A κ h z
 blk:∀ r b,h r=some b->κ r≠none->Told E w A κ (z r) r b
 excl:∀ r r' b b' m m' s s' c c',r≠r'->h r=some b->h r'=some b'->κ r=some (m,s,c)->κ r'=some (m',s',c')->c≠0->c'≠0->m≠m'
def lies.mono{w:World}{A A':Nat->Prop}{κ:Ka}(hA:∀ b,A b->A' b)(hc:∀ b o,A b->w'.cell? ⟨b,o,none⟩=w.cell? ⟨b,o,none⟩)(hk:∀ r x,κ r=some x->κ' r=some x){c:Array Value}{o:Nat}{e:PV}
 (h:lies w A κ c o e):lies w' A' κ' c o e:=fun j d hd=>let ⟨v,h1,h2,h3⟩:=h j d hd;⟨v,h1,h2.mono hA hc hk,h3⟩
open Go.RowKit
variable {r:Nat}{w':World}{m:Nat}{agg:Bool}{cap:Nat}{els:List PV}
def Nf(w:World)(o:Obj):(w.alloc o).heap[w.heap.size]?=some o:=by
 show(w.heap.push o)[w.heap.size]?=some o
 simp
def Jl(w:World)(A:Nat->Prop):∀ b o,A b->w.drew.cell? ⟨b,o,none⟩=w.cell? ⟨b,o,none⟩:=fun _ _ _=>rfl
def wL(κ:Ka)(r:Nat)(x:Nat×Nat×Nat):Ka:=fun j=>if j=r then some x else κ j
def vG(κ:Ka)(r:Nat)(x:Nat×Nat×Nat):wL κ r x r=some x:=by simp[wL]
def wH(κ:Ka){j:Nat}(x:Nat×Nat×Nat)(h:j≠r):wL κ r x j=κ j:=by simp[wL,h]
def qW{κ:Ka}  (x:Nat×Nat×Nat)(h:κ r=none):∀ j y,κ j=some y->wL κ r x j=some y:=by
 intro j y hj;by_cases e:j=r
 .subst e;rw[h]at hj;cases hj
 .rw[wH κ x e];exact hj
def cell?_of_heap{w:World}{b:Nat}(h:w'.heap[b]?=w.heap[b]?)(o:Nat):w'.cell? ⟨b,o,none⟩=w.cell? ⟨b,o,none⟩:=World.cell?_of_block (w:=w) h
section
variable {E:Env} {G:Gl} {w:World} {A:Nat->Prop} {κ:Ka} {h:Hp} {z:Fz}
def Kp.world(K:Kp E w A κ h z)  (hb:Below 0 w w')(hs:∀ b,E.K b->b<w.heap.size->w'.heap[b]?=w.heap[b]?):Kp E w' A κ h z :=
 ⟨K.own,K.kb.trans hb,fun b hK=>⟨w9 (K.kk b hK).1 hb.size,(hs b hK (K.kk b hK).1).trans (K.kk b hK).2⟩,K.zk⟩
def Kp.below(K:Kp E w A κ h z)  (hb:Below w.heap.size w w'):Kp E w' A κ h z :=
 K.world (hb.mono (z8 _)) (fun b _ h=>hb.block b h)
def Kp.put(K:Kp E w A κ h z){key sz:Nat}{b:Blk}(hx:cap≠0->z key=false->¬ E.K m):Kp E w A (wL κ key (m,sz,cap)) (hset h key (some b)) z :=
 ⟨fun r b' m' sz' cap' hr hk hc hz=>by
   by_cases e:r=key
   .subst e;rw[vG]at hk;cases hk;exact hx hc hz
   .rw[wH κ _ e]at hk
    simp only[hset,zB e]at hr
    exact K.own r b' m' sz' cap' hr hk hc hz,K.kb,K.kk,K.zk⟩
def Kp.drop(K:Kp E w A κ h z)(r:Nat):Kp E w A κ (hset h r none) z:=by
 have f:∀ p bp,hset h r none p=some bp->h p=some bp:=by
  intro p bp hp;by_cases e:p=r
  .simp[hset,e]at hp
  .simpa only[hset,zB e]using hp
 exact⟨fun r b m s c hr=>K.own r b m s c (f r b hr),K.kb,K.kk,K.zk⟩
def HR.keepsA(H:HR E G w A κ h z)  (hb:∀ b,b<w.heap.size->(∀ r b' m s c,h r=some b'->κ r=some (m,s,c)->c≠0->z r=false->m≠b)->w'.heap[b]?=w.heap[b]?):∀ b o,A b->w'.cell? ⟨b,o,none⟩=w.cell? ⟨b,o,none⟩:=by
 intro b o hA;refine cell?_of_heap (hb b (H.alt b hA) fun r b' m s c hr hk hc hz e=>?_) o;subst e;obtain⟨m',cap,h1,_,_,h4⟩:=H.blk r b' hr (by rw[hk];simp);rw[hk]at h1;cases h1
 rcases h4 with h4|h4|⟨_,_,_,_,_,_,_,h5,_⟩
 .exact hc h4
 .exact h4.2.2.1 hz hA
 .exact h5 hz hA
def HR.allocO(H:HR E G w A κ h z)(ob:Obj){key sz:Nat}   (hn:E.n0<=key)(hk:κ key=none)
 (ht:(∀ b,A b->b<w.heap.size)->Told E (w.alloc ob) A (wL κ key (w.heap.size,sz,cap)) (z key) key ⟨els,sz,agg⟩) :
 HR E G (w.alloc ob) A (wL κ key (w.heap.size,sz,cap)) (hset h key (some ⟨els,sz,agg⟩)) z:=by
 have hle:=qW (w.heap.size,sz,cap) hk;have hcell:∀ b o,A b->(w.alloc ob).cell? ⟨b,o,none⟩=w.cell? ⟨b,o,none⟩:=fun b o hA=>cell?_of_heap (Below.heap_alloc _ _ _ (H.alt b hA)) o
 have mono:∀ {d v},RV w A κ d v->RV (w.alloc ob) A (wL κ key (w.heap.size,sz,cap)) d v:=fun hv=>hv.mono (fun _ h=>h) hcell hle
 refine⟨H.bel.alloc H.hB _,by simp;exact GL H.hB,fun b hb=>by simp;exact GK (H.alt b hb),H.a0,H.a1,fun b o hb=>(hcell b o (H.a0 b hb)).trans (H.acell b o hb),fun r hr=>?_,fun g e hg=>mono (H.glob g e hg),fun r m s c' hr=>?_,(H.kp.below ((Below.refl _ w).alloc (zX _) _)).put (fun _ _ hK=>dH _ (H.kp.kk _ hK).1),fun r b hb hκ=>?_,?_⟩
 .rw[wH κ _ zom];exact H.k0 r hr
 .by_cases e:r=key
  .subst e;rw[vG]at hr;cases hr;right;simp
  .rw[wH κ _ e]at hr
   rcases H.klt r m s c' hr with h|h
   .exact zF h
   .right;simp;omega
 .by_cases e:r=key
  .subst e
   simp only[hset,uA]at hb;cases hb
   exact ht H.alt
  .simp only[hset,zB e]at hb
   obtain⟨m,cap',h2,h3,h4,h5⟩:=H.blk r b hb (by rw[wH κ _ e]at hκ;exact hκ);refine⟨m,cap',by rw[wH κ _ e];exact h2,h3,h4,?_⟩;rcases h5 with h5|h5|⟨c',ty',g1,g2,g3,g4,g5,g6,g7⟩
   .exact zF h5
   .exact zC (zF ⟨⟨h5.1.1,h5.1.2.1,h5.1.2.2.1,by rw[Below.heap_alloc _ _ _ (kH.1 h5.1.2.2.2).1];exact h5.1.2.2.2⟩,h5.2⟩)
   .have hm:m<w.heap.size:=(kH.1 g2).1
    exact zC (zC ⟨c',ty',g1,by rw[Below.heap_alloc _ _ _ hm];exact g2,g3,g4,fun i e he=>(g5 i e he).mono (fun _ h=>h) hcell hle,g6,g7⟩)
 .intro r r' b b' m m' s s' c1 c2 hne hr hr' hk1 hk2 hc1 hc2
  by_cases e:r=key
  .subst e
   rw[vG]at hk1;cases hk1;have e':r'≠r:=fun e=>hne e.symm
   rw[wH κ _ e']at hk2;rcases H.klt r' m' s' c2 hk2 with h|h
   .exact absurd h hc2
   .omega
  .rw[wH κ _ e]at hk1
   simp only[hset,zB e]at hr;by_cases e':r'=key
   .subst e'
    rw[vG]at hk2;cases hk2;rcases H.klt r m s c1 hk1 with h|h
    .exact absurd h hc1
    .omega
   .rw[wH κ _ e']at hk2
    simp only[hset,zB e']at hr';exact H.excl r r' b b' m m' s s' c1 c2 hne hr hr' hk1 hk2 hc1 hc2
def HR.alloc(H:HR E G w A κ h z){key sz:Nat}   {c:Array Value}{ty:TypeId}(hn:E.n0<=key)(hk:κ key=none)(hz:z key=false)
 (hc:c.size=cap*sz) (hl:els.length<=cap) (hu:∀ e∈els,e.cells.length=sz/\e.isAgg=agg) (h1:∀ u∈c.toList,u.oneCell'=true)
 (hlies:∀ i e,els[i]?=some e->lies w A κ c (i*sz) e) (hd:sz=0->agg=true/\zty ty=true) :
 HR E G (w.alloc (.cells c ty)) A (wL κ key (w.heap.size,sz,cap)) (hset h key (some ⟨els,sz,agg⟩)) z :=
 H.allocO _ hn hk fun alt=>⟨w.heap.size,cap,vG κ _ _,hl,hu,zC (zC ⟨c,ty,⟨H.hB,hd⟩,Nf _ _,hc,h1,fun i e he=>(hlies i e he).mono (fun _ h=>h) (fun b o hA=>cell?_of_heap (Below.heap_alloc _ _ _ (H.alt b hA)) o) (qW _ hk),fun _ hA=>absurd (alt _ hA) zom,fun hzt=>by rw[hz]at hzt;cases hzt⟩)⟩
def HR.newMap(H:HR E G w A κ h z){key:Nat}(hn:E.n0<=key)(hk:κ key=none)(hz:z key=false):HR E G (w.alloc (.map #[] 0)) A (wL κ key (w.heap.size,0,1)) (hset h key (some ⟨[],0,false⟩)) z :=
 H.allocO _ hn hk fun alt=>⟨w.heap.size,1,vG κ _ _,z8 _,fun e he=>(by cases he),zC (zF ⟨⟨rfl,rfl,rfl,Nf _ _⟩,H.hB,fun _ hA=>absurd (alt _ hA) zom,fun hzt=>by rw[hz]at hzt;cases hzt⟩)⟩
def HR.empty(H:HR E G w A κ h z){key sz:Nat}  (hn:E.n0<=key)(hk:κ key=none) :
 HR E G w A (wL κ key (0,sz,0)) (hset h key (some ⟨[],sz,agg⟩)) z:=by
 have hle:=qW (0,sz,0) hk;have mono:∀ {d v},RV w A κ d v->RV w A (wL κ key (0,sz,0)) d v:=fun hv=>hv.mono (fun _ h=>h) (fun _ _ _=>rfl) hle
 refine⟨H.bel,H.hB,H.alt,H.a0,H.a1,H.acell,fun r hr=>?_,fun g e hg=>mono (H.glob g e hg),fun r m s c' hr=>?_,H.kp.put (fun hc=>absurd rfl hc),fun r b hb hκ=>?_,?_⟩
 .rw[wH κ _ zom];exact H.k0 r hr
 .by_cases e:r=key
  .subst e;rw[vG]at hr;cases hr;left;rfl
  .rw[wH κ _ e]at hr;exact H.klt r m s c' hr
 .by_cases e:r=key
  .subst e
   simp only[hset,uA]at hb;cases hb
   exact⟨0,0,vG κ r _,zX _,fun e he=>(by cases he),zF rfl⟩
  .simp only[hset,zB e]at hb
   obtain⟨m,cap',h2,h3,h4,h5⟩:=H.blk r b hb (by rw[wH κ _ e]at hκ;exact hκ);refine⟨m,cap',by rw[wH κ _ e];exact h2,h3,h4,?_⟩;rcases h5 with h5|h5|⟨c',ty',g1,g2,g3,g4,g5,g6,g7⟩
   .exact zF h5
   .exact zC (zF h5)
   .exact zC (zC ⟨c',ty',g1,g2,g3,g4,fun i e he=>(g5 i e he).mono (fun _ h=>h) (fun _ _ _=>rfl) hle,g6,g7⟩)
 .intro r r' b b' m m' s s' c1 c2 hne hr hr' hk1 hk2 hc1 hc2
  by_cases e:r=key
  .subst e;rw[vG]at hk1;cases hk1;exact absurd rfl hc1
  .rw[wH κ _ e]at hk1
   simp only[hset,zB e]at hr;by_cases e':r'=key
   .subst e';rw[vG]at hk2;cases hk2;exact absurd rfl hc2
   .rw[wH κ _ e']at hk2
    simp only[hset,zB e']at hr';exact H.excl r r' b b' m m' s s' c1 c2 hne hr hr' hk1 hk2 hc1 hc2
def HR.drew(H:HR E G w A κ h z):HR E G w.drew A κ h z:=by
 have mono:∀ {d v},RV w A κ d v->RV w.drew A κ d v:=fun hv=>hv.mono (fun _ h=>h) (Jl w A) (fun _ _ h=>h)
 refine⟨H.bel.drew,H.hB,H.alt,H.a0,H.a1,H.acell,H.k0,fun g e hg=>mono (H.glob g e hg),H.klt,H.kp.below (Below.refl _ w).drew,fun r b hb hκ=>?_,H.excl⟩;obtain⟨m,cap',h2,h3,h4,h5⟩:=H.blk r b hb hκ;refine⟨m,cap',h2,h3,h4,?_⟩;rcases h5 with h5|h5|⟨c',ty',g1,g2,g3,g4,g5,g6,g7⟩
 .exact zF h5
 .exact zC (zF h5)
 .exact zC (zC ⟨c',ty',g1,g2,g3,g4,fun i e he=>(g5 i e he).mono (fun _ h=>h) (Jl w A) (fun _ _ h=>h),g6,g7⟩)
def Jm(H:HR E G w A κ h z){s:Nat}{b:Blk}(hr:h r=some b)(hk:κ r=some (m,s,cap))(hcap:cap≠0)(hz:z r=false)(c':Array Value) :
 ∀ b o,A b->(w.setRow m c').cell? ⟨b,o,none⟩=w.cell? ⟨b,o,none⟩ :=
 H.keepsA fun b _ hne=>setRow_other w m b c' (fun e=>hne r _ m s cap hr hk hcap hz e.symm)
def HR.write(H:HR E G w A κ h z){key sz:Nat}{b:Blk}  {c c':Array Value}{ty:TypeId}(hr:h r=some b)(hk:κ r=some (m,sz,cap))(hcap:cap≠0)(hz:z r=false)
 (hsz:sz=b.sz) (hm:w.heap[m]?=some (.cells c ty (0,0))) (hkey:key=r\/(h key=none/\κ key=none/\E.n0<=key/\z key=false))
 (hc:c'.size=c.size) (hl:els.length<=cap) (hu:∀ e∈els,e.cells.length=b.sz/\e.isAgg=b.agg) (h1:∀ u∈c'.toList,u.oneCell'=true)
 (hlies:∀ i e,els[i]?=some e->lies w A κ c' (i*b.sz) e) :
 HR E G (w.setRow m c') A (wL κ key (m,sz,cap)) (hset (hset h r none) key (some { b with els:=els })) z:=by
 subst hsz;obtain⟨m0,cap0,e1,e2,e3,e4⟩:=H.blk r b hr (by rw[hk];simp);rw[hk]at e1;cases e1;obtain⟨c0,ty0,g1,g2,g3,g4,g5,g6,g7⟩:=(e4.resolve_left hcap).resolve_left fun e=>by have:=e.1.2.2.2;rw[hm]at this;cases this
 rw[hm]at g2;cases g2;have hcell:=Jm H hr hk hcap hz c'
 have hle:∀ j y,κ j=some y->wL κ key (m,b.sz,cap) j=some y:=by
  rcases hkey with e|⟨_,e,_⟩
  .subst e
   intro j y hj;by_cases e:j=key
   .subst e;rw[hk]at hj;cases hj;exact vG ..
   .rw[wH κ _ e];exact hj
  .exact qW _ e
 have mono:∀ {d v},RV w A κ d v->RV (w.setRow m c') A (wL κ key (m,b.sz,cap)) d v:=fun hv=>hv.mono (fun _ h=>h) hcell hle
 have hmlt:m<w.heap.size:=(kH.1 hm).1
 have hzk:z key=false:=by
  rcases hkey with e|⟨_,_,_,e⟩
  .rw[e];exact hz
  .exact e
 refine⟨?_,by simp[H.hB],fun b hb=>by simp;exact H.alt b hb,H.a0,H.a1,fun b o hb=>(hcell b o (H.a0 b hb)).trans (H.acell b o hb),fun r' hr'=>?_,fun g e hg=>mono (H.glob g e hg),fun r' m' s' c1 hr'=>?_,?_,fun r' b' hb hκ=>?_,?_⟩
 .exact H.bel.trans ⟨rfl,rfl,rfl,zsm,fun k hk'=>setRow_other w m k c' zom⟩
 .rcases hkey with e|⟨_,_,e,_⟩
  .by_cases e':r'=key
   .subst e' e;rw[vG,<- H.k0 _ hr',hk]
   .rw[wH κ _ e'];exact H.k0 r' hr'
  .rw[wH κ _ zom];exact H.k0 r' hr'
 .by_cases e:r'=key
  .subst e;rw[vG]at hr';cases hr';right;simp[hmlt]
  .rw[wH κ _ e]at hr'
   rcases H.klt r' m' s' c1 hr' with h|h
   .exact zF h
   .right;simp[h]
 .have hS:¬ E.K m:=H.kp.own r b m _ cap hr hk hcap hz
  refine((H.kp.world (w':=w.setRow m c') ⟨rfl,rfl,rfl,zsm,fun k hk'=>by omega⟩ (fun b hb _=>setRow_other w m b c' (fun e=>hS (e ▸ hb)))).drop r).put (fun _ _=>hS)
 .by_cases e:r'=key
  .subst e
   simp only[hset,uA]at hb;cases hb
   exact⟨m,cap,vG κ _ _,hl,hu,zC (zC ⟨c',ty,g1,setRow_heap w m c c' ty (0,0) hm,by rw[hc];exact g3,h1,fun i e he=>(hlies i e he).mono (fun _ h=>h) hcell hle,fun _=>g6 hz,fun hzt=>by rw[hzk]at hzt;cases hzt⟩)⟩
  .simp only[hset,zB e]at hb
   by_cases er:r'=r
   .simp[er]at hb
   .simp only[zB er]at hb
    obtain⟨m',cap',h2,h3,h4,h5⟩:=H.blk r' b' hb (by rw[wH κ _ e]at hκ;exact hκ);refine⟨m',cap',by rw[wH κ _ e];exact h2,h3,h4,?_⟩;rcases h5 with h5|h5|⟨c1,ty',f1,f2,f3,f4,f5,f6,f7⟩
    .exact zF h5
    .exact zC (zF ⟨⟨h5.1.1,h5.1.2.1,h5.1.2.2.1,by rw[setRow_other w m m' c' fun e=>by have:=h5.1.2.2.2;rw[e,hm]at this;cases this];exact h5.1.2.2.2⟩,h5.2⟩)
    .by_cases hc0:cap'=0
     .exact zF hc0
     have hne:m'≠m:=H.excl r' r b' b m' m _ _ _ _ er hb hr h2 hk hc0 hcap;exact zC (zC ⟨c1,ty',f1,by rw[setRow_other w m m' c' hne];exact f2,f3,f4,fun i e he=>(f5 i e he).mono (fun _ h=>h) hcell hle,f6,f7⟩)
 .intro p q bp bq mp mq sp sq cp cq hne hp hq hkp hkq hcp hcq
  have side:∀ p bp mp sp cp,p≠key->hset (hset h r none) key (some { b with els:=els }) p=some bp->wL κ key (m,b.sz,cap) p=some (mp,sp,cp)->cp≠0->p≠r/\h p=some bp/\κ p=some (mp,sp,cp):=by
   intro p bp mp sp cp hpk hp hkp hcp;simp only[hset,zB hpk]at hp;rw[wH κ _ hpk]at hkp;by_cases e:p=r
   .simp[e]at hp
   .simp only[zB e]at hp;exact⟨e,hp,hkp⟩
  by_cases e:p=key
  .subst e
   rw[vG]at hkp;cases hkp;obtain⟨a1,a2,a3⟩:=side q bq mq sq cq (fun e=>hne e.symm) hq hkq hcq;exact(H.excl q r bq b mq m _ _ _ _ a1 a2 hr a3 hk hcq hcap).symm
  .obtain⟨a1,a2,a3⟩:=side p bp mp sp cp e hp hkp hcp
   by_cases e':q=key
   .subst e'
    rw[vG]at hkq;cases hkq;exact H.excl p r bp b mp m _ _ _ _ a1 a2 hr a3 hk hcp hcap
   .obtain⟨b1,b2,b3⟩:=side q bq mq sq cq e' hq hkq hcq
    exact H.excl p q bp bq mp mq _ _ _ _ hne a2 b2 a3 b3 hcp hcq
def HR.drop(H:HR E G w A κ h z)(r:Nat):HR E G w A κ (hset h r none) z:=by
 refine⟨H.bel,H.hB,H.alt,H.a0,H.a1,H.acell,H.k0,H.glob,H.klt,H.kp.drop r,fun r' b hb hκ=>?_,fun p q bp bq mp mq sp sq cp cq hne hp hq=>?_⟩
 .by_cases e:r'=r
  .simp[hset,e]at hb
  .simp only[hset,zB e]at hb;exact H.blk r' b hb hκ
 .have f:∀ p bp,hset h r none p=some bp->h p=some bp:=by
   intro p bp hp;by_cases e:p=r
   .simp[hset,e]at hp
   .simpa only[hset,zB e]using hp
  exact H.excl p q bp bq mp mq sp sq cp cq hne (f p bp hp) (f q bq hq)
def HR.stepW  (H:HR E G w A κ h z)(hb0:Below 0 w w')(hbel:Below E.B E.w0 w'){ex:Nat->Prop}(hpres:∀ b,b<w.heap.size->¬ ex b->w'.heap[b]?=w.heap[b]?)
 (hex:∀ b,ex b->¬ A b/\¬ E.K b/\E.B<=b)
 (hexk:∀ r b m s c,h r=some b->κ r=some (m,s,c)->c≠0->¬ ex m) {A':Nat->Prop} (hA':∀ b,A b->A' b) (hnew:∀ b,A' b->A b\/w.heap.size<=b\/ex b) (hAlt:∀ b,A' b->b<w'.heap.size) :
 HR E G w' A' κ h z:=by
 have hcell:∀ b o,A b->w'.cell? ⟨b,o,none⟩=w.cell? ⟨b,o,none⟩:=fun b o hA=>cell?_of_heap (hpres b (H.alt b hA) fun e=>(hex b e).1 hA) o
 have mono:∀ {d v},RV w A κ d v->RV w' A' κ d v:=fun hv=>hv.mono hA' hcell (fun _ _ h=>h)
 have hnot:∀ b,b<w.heap.size->¬ ex b->¬ A b->¬ A' b:=fun b h1 h2 h3 h4=>by
  rcases hnew b h4 with h|h|h
  .exact h3 h
  .omega
  .exact h2 h
 have hw:=H.kp.world hb0 (fun b hSK hlt=>hpres b hlt fun e=>by
  exact(hex b e).2.1 hSK)
 refine⟨hbel,wS H.hB hb0.size,hAlt,fun b hb=>hA' b (H.a0 b hb),fun b hb=>?_,fun b o hb=>(hcell b o (H.a0 b hb)).trans (H.acell b o hb),H.k0,fun g e hg=>mono (H.glob g e hg),fun r m sz cap hr=>?_,?_,fun r b hr hκ=>?_,H.excl⟩
 .rcases hnew b hb with h|h|h
  .exact H.a1 b h
  .exact zC (wS H.hB h)
  .exact zC (hex b h).2.2
 .rcases H.klt r m sz cap hr with h|h
  .exact zF h
  .exact zC (w9 h hb0.size)
 .refine⟨hw.own,hw.kb,hw.kk,fun b hb=>⟨(hw.zk b hb).1,?_⟩⟩
  .exact hnot b (H.kp.kk b (H.kp.zk b hb).1).1 (fun e=>(hex b e).2.1 (H.kp.zk b hb).1) (H.kp.zk b hb).2
 .obtain⟨m,cap,h1,h2,h3,h4⟩:=H.blk r b hr hκ
  refine⟨m,cap,h1,h2,h3,?_⟩;by_cases hc0:cap=0
  .exact zF hc0
  have hne:=hexk r b m b.sz cap hr h1 hc0;rcases h4.resolve_left hc0 with⟨⟨p1,p2,p3,g2⟩,g1,g6,g7⟩|⟨c,ty,g1,g2,g3,g4,g5,g6,g7⟩<;>have hm:=(kH.1 g2).1
  .exact zC (zF ⟨⟨p1,p2,p3,by rw[hpres m hm hne];exact g2⟩,g1,fun hz=>hnot m hm hne (g6 hz),fun hz=>hA' m (g7 hz)⟩)
  .exact zC (zC ⟨c,ty,g1,by rw[hpres m hm hne];exact g2,g3,g4,fun i e he=>(g5 i e he).mono hA' hcell (fun _ _ h=>h),fun hz=>hnot m hm hne (g6 hz),fun hz=>hA' m (g7 hz)⟩)
end
open Go.RowKit
variable {e:PV}{x:Operand}{ty:TypeId}{v:PV}{off:Nat}{h':Hp}{rd wr:List Nat}
def Sound(E:Env)(G:Gl)(w:World)(A:Nat->Prop)(κ:Ka)(z:Fz)(h':Hp)(key:Nat)(v:PV)(r:Result Next):Prop :=
 ∃ v' w' κ',(r=.ok (.value v') w'\/(r=.ok .skip w'/\v'=undef))/\HR E G w' A κ' h' z/\RV w' A κ' v v'/\(∀ r x,κ r=some x->κ' r=some x)/\(∀ r,r≠key->κ' r=κ r) /\
   (∀ b o,A b->w'.cell? ⟨b,o,none⟩=w.cell? ⟨b,o,none⟩)
def Sound.pure{E:Env}{G:Gl}{w:World}{A:Nat->Prop}{κ:Ka}{z:Fz}{h:Hp}{key:Nat}  {r:Result Next}{v':Value}(H:HR E G w A κ h z)(hr:r=.ok (.value v') w)(hv:RV w A κ v v') :
 Sound E G w A κ z h key v r:=⟨v',w,κ,zF hr,H,hv,fun _ _ h=>h,fun _ _=>rfl,fun _ _ _=>rfl⟩
def xC{c:Prop}[Decidable c]{x:Res}{y}(h:need c x=some y):c/\x=some y:=by
 unfold need at h
 split at h
 .exact⟨‹_›,h⟩
 .cases h
def OkOp(G:Gl)(w:World)(A:Nat->Prop)(κ:Ka)(t:Tm)(ρ:Operand->Value)(op:Op):Prop:=∀ x∈op.operands.toList,RV w A κ (ev G t x) (ρ x)
def BA(b o n:Nat):(⟨b,o,none⟩:Addr).add n=⟨b,o+n,none⟩:=by
 unfold Addr.add
 split
 .subst_vars;rfl
 .rfl
section
variable {P:Program}
def BB{t:TypeId}(h:(zK P t).size≠0):∃ i d,P.info? t=some i/\P.underlying t=some d/\i.size=(zK P t).size:=by
 unfold zK at h ⊢;simp only at h ⊢;cases hd:P.underlying t with
 |none=>simp[hd]at h
 | some d =>
   simp only[hd]at h ⊢;unfold Program.cellsOf at h ⊢;cases hi:P.info? t with
   |none=>simp[hi]at h
   |some i=>exact⟨i,d,rfl,rfl,zsm⟩
def BC{t:TypeId}(h:(zK P t).size≠0):P.cellsOf t=(zK P t).size:=by
 obtain⟨i,d,h1,h2,h3⟩:=BB h;unfold Program.cellsOf;simp[h1,h3]
def UG{t:TypeId}{d:TypeDesc}(hd:P.underlying t=some d):(isAgg t).run P=fun w=>.ok (zK P t).agg w:=by
 funext w
 have:(underlying t).run P w=.ok d w:=run_underlying hd w;simp only[isAgg,Sem.run_bind,this,Result.andThen_ok,zK,hd];cases d<;>rfl
def Ng{t:TypeId}(h:(zK P t).alen≠0):P.underlying t=some (.array (zK P t).alen (zK P t).elem):=by
 unfold zK at h ⊢;simp only at h ⊢;cases hd:P.underlying t with
 |none=>simp[hd]at h
 |some d=>cases d<;>simp[hd]at h ⊢
def aA{t:TypeId}(h:(zK P t).isSlice=true):P.underlying t=some (.slice (zK P t).elem):=by
 unfold zK at h ⊢;simp only at h ⊢;cases hd:P.underlying t with
 |none=>simp[hd]at h
 |some d=>cases d<;>simp[hd]at h ⊢
def Gg  {n:Nat}{agg:Bool}(h:part e off n agg=some v) :
 (agg=true/\∃ ds,v=.agg ds/\ds.length=n/\∀ j d,ds[j]?=some d->e.cells[off+j]?=some d)\/(agg=false/\n=1/\e.cells[off]?=some v):=by
 unfold part at h
 split at h
 .rename_i hc
  obtain⟨h1,h2,h3⟩:=hc;cases h
  subst h1;cases agg with
  | true =>
    left
    cases e<;>simp[PV.isAgg]at h3
    rename_i cs
    exact⟨rfl,cs,rfl,h2,fun j d hd=>by simpa [PV.cells]using hd⟩
  | false =>
    right
    have:e.cells=[e]:=by cases e<;>first|rfl|simp[PV.isAgg]at h3
    rw[this]at h2 ⊢;exact⟨rfl,h2.symm,rfl⟩
 .split at h
  .rename_i hle
   cases agg with
   | true =>
     simp at h
     left
     refine⟨rfl,_,h.symm,by simp;omega,fun j d hd=>?_⟩;rw[ED]at hd
     split at hd
     .rw[pM]at hd;exact hd
     .cases hd
   | false =>
     simp at h
     right
     exact⟨rfl,h.1,h.2⟩
  .cases h
variable {E:Env} {G:Gl} {w:World} {A:Nat->Prop} {κ:Ka} {h:Hp} {z:Fz} {t:Tm} {ρ:Operand->Value}
def UH    {m o:Nat}(hp:part e off (zK P ty).size (zK P ty).agg=some v)
 (hc:∀ j d,e.cells[j]?=some d->∃ u,w.cell? ⟨m,o+j,none⟩=some u/\RV w A κ d u/\u.oneCell'=true) (hz:(zK P ty).size≠0\/(zK P ty).agg=true) :
 ∃ v',(loadVar ty ⟨m,o+off,none⟩).run P w=.ok v' w/\RV w A κ v v':=by
 have hd:∃ d,P.underlying ty=some d:=by
  rcases hz with hz|hz
  .obtain⟨i,d,_,h,_⟩:=BB hz;exact⟨d,h⟩
  .unfold zK at hz;simp only at hz
   cases hd:P.underlying ty with
   |none=>simp[hd]at hz
   |some d=>exact⟨d,rfl⟩
 obtain⟨d,hd⟩:=hd;have hag:=UG hd;rcases Gg hp with⟨ha,ds,rfl,hl,hds⟩|⟨ha,hn,he⟩
 .by_cases hi:∃ i,P.info? ty=some i
  .obtain⟨i,hi⟩:=hi
   have hsz:(sizeOf ty).run P w=.ok (zK P ty).size w:=by
    simp[sizeOf,typeInfo,hi,zK,hd,Program.cellsOf]
   let f:Nat->Value:=fun j=>(w.cell? ⟨m,o+(off+j),none⟩).getD undef
   have hf:∀ j,j<ds.length->w.cell? (Addr.add ⟨m,o+off,none⟩ j)=some (f j)/\RV w A κ (ds.getD j .any) (f j)/\(f j).oneCell'=true:=by
    intro j hj;have hdj:ds[j]?=some (ds.getD j .any):=by simp[List.getD,wN hj]
    obtain⟨u,h1,h2,h3⟩:=hc _ _ (hds j _ hdj);have:f j=u:=by simp[f,h1]
    rw[this,BA,uV];exact⟨h1,h2,h3⟩
   refine⟨.agg ((List.range ds.length).map f).toArray,?_,?_⟩
   .simp only[loadVar,Sem.run_bind,hag,Result.andThen_ok,ha,uA,hsz,<- hl]
    rw[run_loadCells w _ ds.length f (fun j hj=>(hf j hj).1)];rfl
   .refine .agg _ _ zsm (fun j d hd=>?_) (fun j hj=>?_)
    .have hj:j<ds.length:=(xW.1 hd).1
     have:=(hf j hj).2.1;simp only[List.getD,hd,Option.getD_some]at this
     simpa [Array.getD,hj]using this
    .have:=(hf j hj).2.2
     simpa [Array.getD,hj]using this
  .exfalso
   unfold Program.underlying at hd;cases hi':P.info? ty with
   |none=>simp[hi']at hd
   |some i=>exact hi ⟨i,hi'⟩
 .obtain⟨u,h1,h2,h3⟩:=hc _ _ he
  refine⟨u,?_,h2⟩;simp only[loadVar,Sem.run_bind,hag,Result.andThen_ok,ha];simp[h1]
def Nh(v:Value):RV w A κ (Av v) v:=by
 unfold Av
 split
 .exact .data _ _ (.int _ _)
 .exact .data _ _ (.bool _)
 .exact .data _ _ (.str _)
 .exact .nilsl
 .exact .data _ _ .nilfunc
 .exact .data _ _ (.raw _)
 .exact .data _ _ (.raw _)
 .exact .data _ _ (.raw _)
 .exact .tup [] _ rfl (fun i d hd=>by simp at hd)
 .exact .func _ [] [] _ _ rfl rfl (fun i d hd=>by simp at hd) (fun i d hd=>by simp at hd)
 .exact .any _
def HR.read(H:HR E G w A κ h z){r:Nat}{b:Blk}(hr:h r=some b)(hκ:κ r≠none){j:Nat}  (he:b.els[j]?=some e) :
 ∃ m cap,κ r=some (m,b.sz,cap)/\j<cap/\∀ i d,e.cells[i]?=some d->∃ u,w.cell? ⟨m,j*b.sz+i,none⟩=some u/\RV w A κ d u/\u.oneCell'=true:=by
 obtain⟨m,cap,h1,h2,h3,h4⟩:=H.blk r b hr hκ;have hj:j<b.els.length:=(xW.1 he).1;refine⟨m,cap,h1,zom,fun i d hd=>?_⟩;obtain⟨c,ty,g1,g2,g3,g4,g5,g6,g7⟩:=dP h4 (by clear h4;omega) fun e=>by rw[e]at he;cases he
 obtain⟨v,f1,f2,f3⟩:=g5 j e he i d hd;refine⟨v,?_,f2,f3⟩
 simpa [World.cell?,g2]using f1
def map_some{α β:Type}{o:Option α}{f:α->β}{y:β}(h:o.map f=some y):∃ x,o=some x/\f x=y:=by
 cases o with
 |none=>cases h
 |some x=>exact⟨x,rfl,by simpa using h⟩
def uCZ{o:Oper}   {key:Nat}    (ho:o.op=.load ty x)(H:HR E G w A κ h z)(hx:RV w A κ (ev G t x) (ρ x))
 (he:zN P G z key (.load ty x) t h=some (v,h',rd,wr)):Sound E G w A κ z h' key v ((execOp ρ o).run P w):=by
 unfold zN at he;simp only at he
 have fin:∀ {m n:Nat} {e:PV} {off:Nat},ρ x=.pointer (some ⟨m,n+off,none⟩)->part e off (zK P ty).size (zK P ty).agg=some v ->
  (∀ j d,e.cells[j]?=some d->∃ u,w.cell? ⟨m,n+j,none⟩=some u/\RV w A κ d u/\u.oneCell'=true)->Sound E G w A κ z h key v ((execOp ρ o).run P w):=by
  intro m n e off hρ hp hc
  have hz:(zK P ty).size≠0\/(zK P ty).agg=true:=by
   rcases Gg hp with⟨h,_⟩|⟨_,h,_⟩
   .exact zC h
   .left;omega
  obtain⟨v',h1,h2⟩:=UH hp hc hz;refine Sound.pure H (v':=v') ?_ h2;simp[execOp,ho,hρ,Instr.loadAt,Instr.sureAddr,h1]
 split at he
 .rename_i r j off hev
  rw[hev]at hx;obtain⟨m,sz,cap,hρ,hk⟩:=hx.ptr_inv
  split at he
  .rename_i b hb
   split at he
   .rename_i e hel
    obtain⟨v0,hp,hv⟩:=map_some he;cases hv
    obtain⟨m',cap',hk',_,hc⟩:=H.read hb (by rw[hk];simp) hel;rw[hk]at hk';cases hk';exact fin hρ hp hc
   .cases he
  .cases he
 .rename_i e off hev
  rw[hev]at hx;obtain⟨b,n,val,hρ,hA,hc,hd⟩:=hx.cptr_inv;obtain⟨v0,hp,hv⟩:=map_some he;cases hv
  exact fin hρ hp fun j d hj=>⟨val j,(hc j (xW.1 hj).1).1,.data _ _ (hd j d hj),(hc j (xW.1 hj).1).2⟩
 .cases he
def Ni{s:TypeId}{f o ty n:Nat}(h:(zK P s).fields[f]?=some (o,ty,n)):∃ fs fd,P.underlying s=some (.struct fs)/\fs[f]?=some fd/\fd.offset=o/\fd.type=ty/\P.cellsOf ty=n:=by
 unfold zK at h;simp only at h;cases hd:P.underlying s with
 |none=>simp[hd]at h
 | some d =>
   cases d<;>simp[hd]at h
   rename_i fs
   obtain⟨fd,h1,h2,h3,h4⟩:=h;subst h3;exact⟨fs,fd,rfl,h1,h2,rfl,h4⟩
def EO  (hn:P.cellsOf ty≠0):(sizeOf ty).run P w=.ok (P.cellsOf ty) w:=by
 unfold Program.cellsOf at hn ⊢;cases hi:P.info? ty with
 |none=>simp[hi]at hn
 |some i=>simp[sizeOf,typeInfo,hi]
def vFA{o:Oper}{s:TypeId}  {f:Nat}{key:Nat}    (ho:o.op=.fieldAddr s x f)(H:HR E G w A κ h z)(hx:RV w A κ (ev G t x) (ρ x))
 (he:zN P G z key (.fieldAddr s x f) t h=some (v,h',rd,wr)):Sound E G w A κ z h' key v ((execOp ρ o).run P w):=by
 unfold zN at he;simp only at he
 have run:∀ {b n off ty k:Nat},(zK P s).fields[f]?=some (off,ty,k)->k≠0->ρ x=.pointer (some ⟨b,n,none⟩)->(execOp ρ o).run P w=.ok (.value (.pointer (some ⟨b,n+off,none⟩))) w:=by
  intro b n off ty k hf hk hρ;obtain⟨fs,fd,h1,h2,h3,h4,h5⟩:=Ni hf;subst h3 h4 h5;have hs:=EO (w:=w) hk;simp[execOp,ho,hρ,Instr.fieldAt,run_underlying h1,h2,Instr.sureAddr,fieldPlace,hs,hk,BA]
 split at he
 .rename_i off ty n r j o1 hf hev
  rw[hev]at hx;obtain⟨m,sz,cap,hρ,hk⟩:=hx.ptr_inv
  split at he
  .rename_i hn
   cases he
   refine Sound.pure H (run hf hn hρ) ?_;rw[uV];exact .ptr r j (o1+off) m sz cap hk
  .rename_i hn
   split at he
   .rename_i b hb
    obtain⟨⟨n1,n2,n3,n4,n5⟩,he⟩:=xC he;cases he
    subst n3 n4;obtain⟨fs,fd,h1,h2,h3,h4,h5⟩:=Ni hf;subst h3 h4 h5;obtain⟨m',cap',q1,q2,_,q3⟩:=H.blk r b hb (by rw[hk];simp);rw[hk]at q1;cases q1;have hcap:cap≠0:=fun e=>n2 (Td zom)
    obtain⟨c,ty,⟨_,g1⟩,g2,_⟩:=dP q3 hcap fun e=>absurd e n2
    obtain⟨_,g3⟩:=g1 n1;simp only[zfB,h1,h2,xO,Jg]at n5;obtain⟨⟨u1,u2,u3⟩,u4,u5⟩:=n5
    have hc:P.cellsOf ty=0:=by
     simp only[zty,kN,Jg]at g3;rcases g3 with e|e<;>rw[e]<;>assumption
    obtain⟨i0,hi0⟩:=JK.1 u3
    have hs0:(sizeOf fd.type).run P w=.ok 0 w:=by
     have:P.cellsOf fd.type=0:=zom
     unfold Program.cellsOf at this;rw[hi0]at this;simp[sizeOf,typeInfo,hi0];simpa using this
    have hsh:w.shape? m=some (ty,c.size):=by simp[World.shape?,g2]
    have hbyte:∀ o,(byteOf ⟨m,o,none⟩).run P w=.ok 0 w:=fun o=>by simp[byteOf,noView,viewAt,hsh,hc]
    rw[n1]at hρ;refine Sound.pure H (v':=.pointer (some ⟨m,0,none⟩)) ?_ ?_
    .simp[execOp,ho,hρ,Instr.fieldAt,run_underlying h1,h2,Instr.sureAddr,fieldPlace,hs0,partAt,hbyte,u1,u2]
    .have:=RV.ptr (w:=w) (A:=A) (κ:=κ) r 0 0 m b.sz cap hk
     simpa using this
   .cases he
 .rename_i off ty n e o1 hf hev
  rw[hev]at hx;obtain⟨b,n',val,hρ,hA,hc,hd⟩:=hx.cptr_inv;obtain⟨hn,he⟩:=xC he;cases he
  refine Sound.pure H (run hf hn hρ) ?_;rw[uV];exact .data _ _ (.cptr e (o1+off) b n' val hA hc hd)
 .cases he
def vE9{o:Oper}  {ix:Operand}{key:Nat}    (ho:o.op=.indexAddr ty x ix)(H:HR E G w A κ h z)(hx:RV w A κ (ev G t x) (ρ x))(hi:RV w A κ (ev G t ix) (ρ ix))
 (he:zN P G z key (.indexAddr ty x ix) t h=some (v,h',rd,wr)):Sound E G w A κ z h' key v ((execOp ρ o).run P w):=by
 unfold zN at he;simp only at he
 have run:∀ {b n len cap:Nat} {k:IntKind} {i:Int},(zK P ty).isSlice=true->0<=i->i<len->P.cellsOf (zK P ty).elem≠0->ρ x=.slice (some ⟨b,n,none⟩) len cap->ρ ix=.int k i ->
  (execOp ρ o).run P w=.ok (.value (.pointer (some ⟨b,n+i.toNat*P.cellsOf (zK P ty).elem,none⟩))) w:=by
  intro b n len cap k i hs h0 h1 hk hρ hρi;have hu:=aA hs;have hz:=EO (w:=w) hk;simp[execOp,ho,hρ,hρi,Instr.indexAt,asIntOf,run_underlying hu,h0,h1,hz,BA]
 have runA:∀ {b n:Nat} {k:IntKind} {i:Int},(zK P ty).alen≠0->0<=i->i<(zK P ty).alen->(zK P (zK P ty).elem).size≠0->ρ x=.pointer (some ⟨b,n,none⟩)->ρ ix=.int k i ->
  (execOp ρ o).run P w=.ok (.value (.pointer (some ⟨b,n+i.toNat*(zK P (zK P ty).elem).size,none⟩))) w:=by
  intro b n k i hs h0 h1 hk hρ hρi;have hu:=Ng hs;have hz0:=BC hk;have hz:=EO (P:=P) (w:=w) (ty:=(zK P ty).elem) (by rw[hz0];exact hk);rw[hz0]at hz;simp[execOp,ho,hρ,hρi,Instr.indexAt,Instr.sureAddr,asIntOf,run_underlying hu,h0,h1,hz,BA]
 split at he
 .rename_i es k n hev hevi
  rw[hev]at hx;rw[hevi]at hi;obtain⟨⟨hs,h0,h1⟩,he⟩:=xC he
  split at he
  .rename_i e hel
   obtain⟨hsz,he⟩:=xC he;cases he
   have hρi:=hi.int_inv;have hx':=hx.imm_inv;cases hρ:ρ x<;>rw[hρ]at hx'<;>try (cases hx';done)
   rename_i a len cap
   cases hx' with
   |imm0=>simp at hel
   | imm _ sz b off _ val hA _ hsz' hc hd =>
     have hin:n.toNat<es.length:=zom
     have hsz2:e.cells.length=sz:=hsz' e (wO hel);have hz0:=BC hsz.2;have:=run hs h0 h1 (by rw[hz0];exact hsz.2) hρ hρi;refine Sound.pure H this ?_;have e1:P.cellsOf (zK P ty).elem=sz:=zom
     rw[e1];exact .data _ _ (.cptr e 0 b (off+n.toNat*sz) (val n.toNat) hA (fun c hc'=>hc n.toNat c hin zom) (fun c d hcd=>hd n.toNat e hel c d hcd))
  .cases he
 .rename_i r off len k n hev hevi
  rw[hev]at hx;rw[hevi]at hi;obtain⟨⟨hs,h0,h1⟩,he⟩:=xC he
  split at he
  .rename_i b hb
   obtain⟨hsz,he⟩:=xC he;cases he
   have hρi:=hi.int_inv;obtain⟨m,sz,cap,a,hρ,hk,hle,ha⟩:=hx.own_inv;obtain⟨m',cap',hk',_,_,_⟩:=H.blk r b hb (by rw[hk];simp);rw[hk]at hk';cases hk';have hz0:=BC hsz.2;have ha':a=some ⟨m,off*b.sz,none⟩:=ha.resolve_right zom;subst ha';have:=run hs h0 h1 (by rw[hz0];exact hsz.2) hρ hρi;refine Sound.pure H this ?_;rw[hz0,<- hsz.1,<- w6];exact .ptr r (off+n.toNat) 0 m b.sz cap hk
  .cases he
 .rename_i e off k n hev hevi
  rw[hev]at hx;rw[hevi]at hi;obtain⟨⟨h0,h1,h2,h3⟩,he⟩:=xC he;cases he
  have hρi:=hi.int_inv;obtain⟨b,n',val,hρ,hA,hc,hd⟩:=hx.cptr_inv;refine Sound.pure H (runA h0 h1 h2 h3 hρ hρi) ?_;rw[uV];exact .data _ _ (.cptr e (off+n.toNat*(zK P (zK P ty).elem).size) b n' val hA hc hd)
 .rename_i r j off k n hev hevi
  rw[hev]at hx;rw[hevi]at hi;obtain⟨⟨h0,h1,h2,h3⟩,he⟩:=xC he;cases he
  have hρi:=hi.int_inv;obtain⟨m,sz,cap,hρ,hk⟩:=hx.ptr_inv;refine Sound.pure H (runA h0 h1 h2 h3 hρ hρi) ?_;rw[uV];exact .ptr r j (off+n.toNat*(zK P (zK P ty).elem).size) m sz cap hk
 .cases he
end
open Go.RowKit
variable {op:BinOp}{ty:TypeId}{u:Value}{off cap:Nat}{xt:TypeId}{lo:Option Operand}{x:Operand}{k:IntKind}{hi:Option Operand}{a:Int}{y:Operand}
section
variable {P:Program} {E:Env} {G:Gl} {w:World} {A:Nat->Prop} {κ:Ka} {h:Hp} {z:Fz} {t:Tm} {ρ:Operand->Value} {o:Oper} {key:Nat} {v:PV} {h':Hp} {rd wr:List Nat}
def UI  (ho:o.op=.move x\/o.op=.assign x)(H:HR E G w A κ h z)(hx:RV w A κ (ev G t x) (ρ x)):Sound E G w A κ z h key (ev G t x) ((execOp ρ o).run P w) :=
 Sound.pure H (by rcases ho with ho|ho<;>simp[execOp,ho]) hx
def uCY{c a b:Operand}(ho:o.op=.pick c a b)(H:HR E G w A κ h z)(hc:RV w A κ (ev G t c) (ρ c))(ha:RV w A κ (ev G t a) (ρ a))(hb:RV w A κ (ev G t b) (ρ b))
 (he:zN P G z key (.pick c a b) t h=some (v,h',rd,wr)):Sound E G w A κ z h' key v ((execOp ρ o).run P w):=by
 unfold zN at he;simp only at he
 split at he
 .rename_i q hev
  rw[hev]at hc;have hρ:=hc.bool_inv;cases he
  cases q
  .exact Sound.pure H (v':=ρ b) (by simp[execOp,ho,hρ,asBool]) (by simpa using hb)
  .exact Sound.pure H (v':=ρ a) (by simp[execOp,ho,hρ,asBool]) (by simpa using ha)
 .cases he
def vII  (ho:o.op=.nilCheck x)(H:HR E G w A κ h z)(hx:RV w A κ (ev G t x) (ρ x))
 (he:zN P G z key (.nilCheck x) t h=some (v,h',rd,wr)):Sound E G w A κ z h' key v ((execOp ρ o).run P w):=by
 unfold zN at he;simp only at he
 split at he
 .rename_i r i off hev
  rw[hev]at hx;obtain⟨m,sz,cap,hρ,hk⟩:=hx.ptr_inv;cases he
  exact Sound.pure H (v':=ρ x) (by simp[execOp,ho,hρ]) hx
 .rename_i e off hev
  rw[hev]at hx;obtain⟨b,n,val,hρ,_⟩:=hx.cptr_inv;cases he
  exact Sound.pure H (v':=ρ x) (by simp[execOp,ho,hρ]) hx
 .cases he
def uB2    {b:Int}{r:PV}(hr:arith op k a b=some r):∃ u,(binOp op xt (.int k a) (.int k b)).run P w=.ok u w/\RV w A κ r u:=by
 unfold arith at hr
 split at hr
 all_goals first|(cases hr;done)|skip
 all_goals cases hr
 all_goals first
  |exact⟨.int k _,by simp only[binOp,ne_eq,not_true_eq_false,tE];rfl,.data _ _ (.int _ _)⟩
  |exact⟨.bool _,by simp only[binOp,ne_eq,not_true_eq_false,tE];rfl,.data _ _ (.bool _)⟩
def vM0    {k':IntKind}{b:Int}:(eqGuard op xt x y (.int k a) (.int k' b)).run P w=.ok () w:=by
 unfold eqGuard
 split<;>simp
def UJ    {a b:Bool}:(eqGuard op xt x y (.bool a) (.bool b)).run P w=.ok () w:=by
 unfold eqGuard
 split<;>simp
def UK(d:Nat)  (hu:P.underlying xt=some .bool)(a b:Bool):(Op.equalIn (d+1) xt (.bool a) (.bool b)).run P w=.ok (a == b) w:=by
 unfold Op.equalIn;simp[run_underlying hu]
def UL (d:Nat) (xs ys:Array Value):∀ (fs:List Field) (k:Nat) (aq bs:List PV) (r:Bool),
 (fs.zipIdx k).all (fun (f, i) => f.name != "_" && f.offset == i && (match P.underlying f.type with | some (.int _) => true | _ => false)) = true →
 (∀ i v,aq[i]?=some v->∃ u,xs[k+i]?=some u/\RV w A κ v u)->(∀ i v,bs[i]?=some v->∃ u,ys[k+i]?=some u/\RV w A κ v u)->aq.length=fs.length->jS aq bs=some r ->
 (Op.eqFields (d+1) xs ys fs).run P w=.ok r w
 | [],k,aq,bs,r,_,_,_,hl,he=>by
   have:aq=[]:=Td (by simpa using hl);subst this;cases bs with
   |nil=>simp[jS]at he;subst he;rfl
   |cons b bs=>simp[jS]at he
 | f :: fs, k,aq,bs,r,hf,hx,hy,hl,he=>by
   cases aq with
   |nil=>simp at hl
   | cons a aq =>
     cases bs with
     |nil=>cases a<;>simp[jS]at he
     | cons b bs =>
       cases a with
       | int q n =>
         cases b with
         | int q' n' =>
           simp only[jS]at he
           split at he
           .rename_i hq
            subst hq;obtain⟨r',hr',rfl⟩:=pI.1 he;simp only[List.zipIdx_cons,List.all_cons,xO,Ap,ne_eq,Aq]at hf;obtain⟨⟨⟨hn,ho⟩,hu⟩,hrest⟩:=hf
            have hu':∃ k',P.underlying f.type=some (.int k'):=by
             split at hu
             .exact⟨_,‹_›⟩
             .cases hu
            obtain⟨k',hu'⟩:=hu';obtain⟨u,h1,h2⟩:=hx 0 _ rfl;obtain⟨u',h3,h4⟩:=hy 0 _ rfl;have:=h2.int_inv;subst this;have:=h4.int_inv;subst this
            have ih:=UL d xs ys fs (k+1) aq bs r' hrest (fun i v hv=>by have:=hx (i+1) v (by simpa using hv);rwa [show k+(i+1)=k+1+i by omega]at this)
             (fun i v hv=>by have:=hy (i+1) v (by simpa using hv);rwa [show k+(i+1)=k+1+i by omega]at this) (by simpa using hl) hr'
            have hpx:(Go.part f.type xs f.offset).run P w=.ok (.int q n) w:=by
             rw[ho];simp[Go.part,isAgg,run_underlying hu',show xs[k]?=some (.int q n) from h1]
            have hpy:(Go.part f.type ys f.offset).run P w=.ok (.int q n') w:=by
             rw[ho];simp[Go.part,isAgg,run_underlying hu',show ys[k]?=some (.int q n') from h3]
            simp only [Op.eqFields, zE (show f.name ≠ "_" from hn), Sem.run_bind, hpx, hpy, Result.andThen_ok, run_equalIn_int w d f.type q k' n n' hu'];by_cases hnn : (n == n') = true
            .simp[hnn,ih]
            .simp[hnn]
           .cases he
         |_=>simp[jS]at he
       |_=>simp[jS]at he
def vH4{t:TypeId}(h:(zK P t).eqInts=true):∃ fs,P.underlying t=some (.struct fs)/\(zK P t).fields.length=fs.size/\P.fieldsOf t=fs /\
 (fs.toList.zipIdx 0).all (fun (f, i) => f.name != "_" && f.offset == i && (match P.underlying f.type with | some (.int _) => true | _ => false)) = true ∧ P.stoodInHeld t = false ∧ P.eqGuardType P.depth t = false := by
 unfold zK at h ⊢;simp only at h ⊢;cases hd:P.underlying t with
 |none=>simp[hd]at h
 | some d =>
   cases d with
   | struct fs =>
     simp only[hd,xO,bV]at h;exact⟨fs,rfl,zsm,by simp[Program.fieldsOf,hd],h.1.1,h.1.2,h.2⟩
   |_=>simp[hd]at h
def UM  {aq bs:List PV}{u':Value}{r:Bool}(hc:(zK P xt).eqInts=true/\aq.length=(zK P xt).fields.length/\bs.length=(zK P xt).fields.length)(hx:RV w A κ (.agg aq) u)(hy:RV w A κ (.agg bs) u')(he:jS aq bs=some r) :
 ∃ xs ys,u=.agg xs/\u'=.agg ys/\(Op.equalIn 10000 xt (.agg xs) (.agg ys)).run P w=.ok r w/\P.eqGuardType P.depth xt=false:=by
 obtain⟨fs,h1,h2,h3,h4,h5,h6⟩:=vH4 hc.1;obtain⟨xs,rfl,hl,hx',_⟩:=hx.agg_inv;obtain⟨ys,rfl,hl',hy',_⟩:=hy.agg_inv;refine⟨xs,ys,rfl,rfl,?_,h6⟩;rw[show(10000:Nat)=9999+1 from rfl,run_equalIn_struct w 9999 xt xs ys (by rw[h3];exact h1) h5,h3]
 have get:∀ (cs:Array Value) (l:List PV),cs.size=l.length->(∀ i d,l[i]?=some d->RV w A κ d (cs.getD i undef))->∀ i v,l[i]?=some v->∃ u,cs[0+i]?=some u/\RV w A κ v u:=by
  intro cs l hl h i v hv;have hi:=(xW.1 hv).1;have hi':i<cs.size:=zom
  have:=h i v hv;rw[o8,CP hi',Option.getD_some]at this;exact⟨cs[i],by rw[z7,CP hi'],this⟩
 exact UL 9998 xs ys fs.toList 0 aq bs r h4 (get xs aq hl hx') (get ys bs hl' hy') (by rw[hc.2.1,h2];simp) he
def UN{v r:PV}  (hr:isNil v=some r)(hx:RV w A κ v u):∃ a l c,u=.slice a l c/\RV w A κ r (.bool a.isNone)/\RV w A κ (NY r) (.bool (!a.isNone)):=by
 unfold isNil at hr
 split at hr
 .cases hr
  have:=hx.nilsl_inv;subst this;exact⟨_,_,_,rfl,.data _ _ (.bool _),.data _ _ (.bool _)⟩
 .cases hr
  obtain⟨a,c,rfl⟩:=hx.imm_len;exact⟨_,_,_,rfl,.anyb _,.anyb _⟩
 .cases hr
  have:=hx.imm_inv;cases hu:u<;>rw[hu]at this<;>try (cases this;done)
  cases this with
  |imm _ sz b off cap _=>exact⟨_,_,_,rfl,.data _ _ (.bool _),.data _ _ (.bool _)⟩
 .cases hr
  obtain⟨m,sz,cap,a,rfl,_,hle,ha⟩:=hx.own_inv;refine⟨a,_,_,rfl,?_⟩
  split
  .exact⟨.anyb _,.anyb _⟩
  .have:=ha.resolve_right zom
   subst this;exact⟨.data _ _ (.bool _),.data _ _ (.bool _)⟩
 .cases hr
def UO{v:PV}{r:Bool}  (hr:Ji v=some r)(hx:RV w A κ v u):∃ a,u=.pointer a/\r=a.isNone:=by
 unfold Ji at hr
 split at hr
 .cases hr
  obtain⟨m,sz,cap,rfl,_⟩:=hx.ptr_inv;exact⟨_,rfl,rfl⟩
 .cases hr
  obtain⟨b,o,val,rfl,_⟩:=hx.cptr_inv;exact⟨_,rfl,rfl⟩
 .cases hr
  exact⟨none,hx.raw_inv,rfl⟩
 .cases hr
def UQ{t:TypeId}(h:(zK P t).isPtr=true):∃ e,P.underlying t=some (.pointer e):=by
 unfold zK at h;simp only at h;cases hd:P.underlying t with
 |none=>simp[hd]at h
 |some d=>cases d<;>simp[hd]at h ⊢
def UR{t:TypeId}(h:∃ e,P.underlying t=some (.pointer e))(a:Option Addr):(Op.equal t (.pointer a) (.pointer none)).run P w=.ok a.isNone w:=by
 obtain⟨e,h⟩:=h
 have key:∀ d,(Op.equalIn (d+1) t (.pointer a) (.pointer none)).run P w=.ok a.isNone w:=fun d=>by
  cases a<;>simp[Op.equalIn,run_underlying h]
 unfold Op.equal;rw[show Op.maxDepth=9999+1 from rfl];exact key 9999
def UT    {a b:Option Addr}:(eqGuard op xt x y (.pointer a) (.pointer b)).run P w=.ok () w:=by
 unfold eqGuard
 split<;>simp
def vG3    {t:TypeId}{v:Value}:(eqGuard op xt x y (.iface t v) .nilIface).run P w=.ok () w:=by
 unfold eqGuard
 split<;>simp
def vST{t tt:TypeId}{vv:Value}(h:∃ m,P.underlying t=some (.interface m)):(Op.equal t (.iface tt vv) .nilIface).run P w=.ok false w:=by
 obtain⟨e,h⟩:=h
 have key:∀ d,(Op.equalIn (d+1) t (.iface tt vv) .nilIface).run P w=.ok false w:=fun d=>by
  simp[Op.equalIn,run_underlying h]
 exact key _
def UU    {a b:Option Addr}{l c l' c':Nat}:(eqGuard op xt x y (.slice a l c) (.slice b l' c')).run P w=.ok () w:=by
 unfold eqGuard
 split<;>simp
def vUO  {yt:TypeId}  (ho:o.op=.binOp op xt x y yt)(H:HR E G w A κ h z)(hx:RV w A κ (ev G t x) (ρ x))(hy:RV w A κ (ev G t y) (ρ y))
 (he:zN P G z key (.binOp op xt x y yt) t h=some (v,h',rd,wr)):Sound E G w A κ z h' key v ((execOp ρ o).run P w):=by
 unfold zN at he;simp only at he
 split at he
 .rename_i k a k' b hev hev'
  rw[hev]at hx;rw[hev']at hy;have hρ:=hx.int_inv;have hρ':=hy.int_inv
  have run:∀ {u:Value},(binOp op xt (.int k a) (.int k' b)).run P w=.ok u w->(execOp ρ o).run P w=.ok (.value u) w:=by
   intro u hu;simp only[execOp,ho,hρ,hρ',Sem.run_bind,vM0,Result.andThen_ok,hu];rfl
  split at he
  .rename_i hk
   subst hk
   split at he
   .obtain⟨hb,he⟩:=xC he
    cases he
    exact Sound.pure H (run (by simp[binOp,Op.intDiv,hb])) (.data _ _ (.int _ _))
   .obtain⟨hb,he⟩:=xC he
    cases he
    exact Sound.pure H (run (by simp[binOp,Op.intDiv,hb])) (.data _ _ (.int _ _))
   .obtain⟨hb,he⟩:=xC he
    cases he
    have:¬ b<0:=zom
    exact Sound.pure H (run (by simp only[binOp,Op.shift,zB this];rfl)) (.data _ _ (.int _ _))
   .obtain⟨hb,he⟩:=xC he
    cases he
    have:¬ b<0:=zom
    exact Sound.pure H (run (by simp only[binOp,Op.shift,zB this];rfl)) (.data _ _ (.int _ _))
   .obtain⟨r,hr,hv⟩:=map_some he
    cases hv
    obtain⟨u,h1,h2⟩:=uB2 (P:=P) (w:=w) (A:=A) (κ:=κ) (xt:=xt) hr;exact Sound.pure H (run h1) h2
  .split at he
   .obtain⟨hb,he⟩:=xC he
    cases he
    have:¬ b<0:=zom
    exact Sound.pure H (run (by simp only[binOp,Op.shift,zB this];rfl)) (.data _ _ (.int _ _))
   .obtain⟨hb,he⟩:=xC he
    cases he
    have:¬ b<0:=zom
    exact Sound.pure H (run (by simp only[binOp,Op.shift,zB this];rfl)) (.data _ _ (.int _ _))
   .cases he
 .rename_i a b hev hev'
  rw[hev]at hx;rw[hev']at hy;have hρ:=hx.bool_inv;have hρ':=hy.bool_inv
  have hu:(zK P xt).isBool=true->P.underlying xt=some .bool:=by
   intro hb;unfold zK at hb;simp only at hb;cases hd:P.underlying xt with
   |none=>simp[hd]at hb
   |some d=>cases d<;>simp[hd]at hb ⊢
  split at he
  .obtain⟨hb,he⟩:=xC he
   cases he
   refine Sound.pure H (v':=.bool (a == b)) ?_ (.data _ _ (.bool _));simp only[execOp,ho,hρ,hρ',Sem.run_bind,UJ,Result.andThen_ok];have:=UK (P:=P) (w:=w) 9999 (hu hb) a b;simp only[binOp,Op.equal,Sem.run_bind,show Op.maxDepth=9999+1 from rfl,this,Result.andThen_ok];rfl
  .obtain⟨hb,he⟩:=xC he
   cases he
   refine Sound.pure H (v':=.bool (a != b)) ?_ (.data _ _ (.bool _));simp only[execOp,ho,hρ,hρ',Sem.run_bind,UJ,Result.andThen_ok];have:=UK (P:=P) (w:=w) 9999 (hu hb) a b;simp only[binOp,Op.equal,Sem.run_bind,show Op.maxDepth=9999+1 from rfl,this,Result.andThen_ok];rfl
  .cases he
 .rename_i aq bs hev hev'
  rw[hev]at hx;rw[hev']at hy
  split at he
  .obtain⟨hc,he⟩:=xC he
   obtain⟨r,hr,hv⟩:=map_some he;cases hv
   obtain⟨xs,ys,hρ,hρ',h1,h2⟩:=UM hc hx hy hr;refine Sound.pure H (v':=.bool r) ?_ (.data _ _ (.bool _));simp only[execOp,ho,hρ,hρ',Sem.run_bind,run_eqGuard_agg w _ xt x y xs ys h2,Result.andThen_ok,run_eql_struct,h1];rfl
  .obtain⟨hc,he⟩:=xC he
   obtain⟨r,hr,hv⟩:=map_some he;cases hv
   obtain⟨xs,ys,hρ,hρ',h1,h2⟩:=UM hc hx hy hr;refine Sound.pure H (v':=.bool (!r)) ?_ (.data _ _ (.bool _));simp only[execOp,ho,hρ,hρ',Sem.run_bind,run_eqGuard_agg w _ xt x y xs ys h2,Result.andThen_ok,run_neq_struct,h1];rfl
  .cases he
 .rename_i hev'
  rw[hev']at hy;have hρ':=hy.nilsl_inv
  split at he
  .obtain⟨hc,he⟩:=xC he
   obtain⟨r,hr,hv⟩:=map_some he;cases hv
   obtain⟨a,l,c,hρ,h1,h2⟩:=UN hr hx;refine Sound.pure H (v':=.bool a.isNone) ?_ h1;simp only[execOp,ho,hρ,hρ',Sem.run_bind,UU,Result.andThen_ok,binOp,run_equal_slice_nil w xt _ a l c (aA hc)];rfl
  .obtain⟨hc,he⟩:=xC he
   obtain⟨r,hr,hv⟩:=map_some he;cases hv
   obtain⟨a,l,c,hρ,h1,h2⟩:=UN hr hx;refine Sound.pure H (v':=.bool (!a.isNone)) ?_ h2;simp only[execOp,ho,hρ,hρ',Sem.run_bind,UU,Result.andThen_ok,run_neq_slice_nil w xt _ a l c (aA hc)];rfl
  .cases he
 .rename_i hev'
  rw[hev']at hy;have hρ':=hy.raw_inv
  split at he
  .obtain⟨hc,he⟩:=xC he
   obtain⟨r,hr,hv⟩:=map_some he;cases hv
   obtain⟨a,hρ,h1⟩:=UO hr hx;refine Sound.pure H (v':=.bool a.isNone) ?_ (by rw[h1];exact .data _ _ (.bool _));simp only[execOp,ho,hρ,hρ',Sem.run_bind,UT,Result.andThen_ok,binOp,UR (UQ hc)];rfl
  .obtain⟨hc,he⟩:=xC he
   obtain⟨r,hr,hv⟩:=map_some he;cases hv
   obtain⟨a,hρ,h1⟩:=UO hr hx;refine Sound.pure H (v':=.bool (!a.isNone)) ?_ (by rw[h1];exact .data _ _ (.bool _));simp only[execOp,ho,hρ,hρ',Sem.run_bind,UT,Result.andThen_ok,binOp,UR (UQ hc)];rfl
  .cases he
 .rename_i hev'
  rw[hev']at hy;have hρ':=hy.raw_inv
  split at he
  .obtain⟨hc,he⟩:=xC he
   obtain⟨r,hr,hv⟩:=map_some he;cases hv
   unfold UD at hr
   split at hr
   .rename_i tt vv hev2
    cases hr
    have hρ:=(show RV w A κ (.raw (.iface tt vv)) (ρ x) by rw[<- hev2];exact hx).raw_inv
    have hi:∃ m,P.underlying xt=some (.interface m):=by
     unfold UE at hc
     split at hc
     .exact⟨_,xU⟩
     .cases hc
    refine Sound.pure H (v':=.bool false) ?_ (.data _ _ (.bool _));simp only[execOp,ho,hρ,hρ',Sem.run_bind,vG3,Result.andThen_ok,binOp,vST hi];rfl
   .cases hr
  .cases he
 .cases he
def zKN   (ho:o.op=.makeInterface ty x)(H:HR E G w A κ h z)(hx:RV w A κ (ev G t x) (ρ x))
 (he:zN P G z key (.makeInterface ty x) t h=some (v,h',rd,wr)):Sound E G w A κ z h' key v ((execOp ρ o).run P w):=by
 unfold zN at he;dsimp only at he;obtain⟨hn,he⟩:=xC he;obtain⟨u,hu,hv⟩:=map_some he;cases hv
 have e:=uOP hu hx
 have hd:∃ fs,P.underlying ty=some (.struct fs):=by
  unfold zK at hn;simp only at hn;cases hd:P.underlying ty with
  |none=>simp[hd]at hn
  |some d=>cases d<;>simp[hd]at hn ⊢
 obtain⟨fs,hd⟩:=hd;refine Sound.pure H (v':=.iface ty u) ?_ (.data _ _ (.raw _));simp[execOp,ho,e,Instr.makeInterface,run_underlying hd]
def uCX{op:UnOp}   (ho:o.op=.unOp op xt x)(H:HR E G w A κ h z)(hx:RV w A κ (ev G t x) (ρ x))
 (he:zN P G z key (.unOp op xt x) t h=some (v,h',rd,wr)):Sound E G w A κ z h' key v ((execOp ρ o).run P w):=by
 unfold zN at he;simp only at he
 split at he
 .rename_i b hev
  rw[hev]at hx;have hρ:=hx.bool_inv;cases he
  exact Sound.pure H (v':=.bool (!b)) (by simp[execOp,ho,hρ,Op.unary]) (.data _ _ (.bool _))
 .rename_i k n hev
  rw[hev]at hx;have hρ:=hx.int_inv;cases he
  exact Sound.pure H (v':=.int k (k.wrap (0-n))) (by simp[execOp,ho,hρ,Op.unary,Op.intArith]) (.data _ _ (.int _ _))
 .cases he
def UV{s:TypeId}  (hk:(zK P s).kind=some k):P.underlying s=some (.int k):=by
 unfold zK at hk;simp only at hk;cases hd:P.underlying s with
 |none=>simp[hd]at hk
 |some d=>cases d<;>simp[hd]at hk ⊢;exact hk
def vLD{src dst:TypeId}  (ho:o.op=.convert src dst x)(H:HR E G w A κ h z)(hx:RV w A κ (ev G t x) (ρ x))
 (he:zN P G z key (.convert src dst x) t h=some (v,h',rd,wr)):Sound E G w A κ z h' key v ((execOp ρ o).run P w):=by
 unfold zN at he;simp only at he
 split at he
 .rename_i k0 k k1 n hs hd hev
  rw[hev]at hx;have hρ:=hx.int_inv;cases he
  refine Sound.pure H (v':=.int k (k.wrap n)) ?_ (.data _ _ (.int _ _));simp[execOp,ho,hρ,convert,run_underlying (UV hs),run_underlying (UV hd),Conv.intToInt]
 .cases he
def vLC  {i:Nat}(ho:o.op=.extract x i)(H:HR E G w A κ h z)(hx:RV w A κ (ev G t x) (ρ x))
 (he:zN P G z key (.extract x i) t h=some (v,h',rd,wr)):Sound E G w A κ z h' key v ((execOp ρ o).run P w):=by
 unfold zN at he;simp only at he
 split at he
 .rename_i vs hev
  rw[hev]at hx;obtain⟨us,hρ,hl,hh⟩:=hx.tup_inv;obtain⟨d,hd,hv⟩:=map_some he;cases hv
  have hi:i<us.size:=by have:=(xW.1 hd).1;omega
  refine Sound.pure H (v':=us.getD i undef) ?_ (hh i v hd);simp[execOp,ho,hρ,Instr.extract,hi,Array.getD]
 .cases he
def vIJ{fn:Fn}{first captured:Array Operand}(ho:o.op=.makeFunc fn first captured)(H:HR E G w A κ h z)(hx:∀ x∈(first++captured).toList,RV w A κ (ev G t x) (ρ x)) :
 Sound E G w A κ z h key (.func fn (first.toList.map (ev G t)) (captured.toList.map (ev G t))) ((execOp ρ o).run P w):=by
 refine Sound.pure H (v':=.func fn (first.map ρ) (captured.map ρ)) (by simp[execOp,ho,Instr.makeFunc]) (.func _ _ _ _ _ zsm zsm (fun i d hd=>?_) (fun i d hd=>?_))
 .simp only[uF,pI]at hd
  obtain⟨x,hx1,rfl⟩:=hd;have:=hx x (by simp[EB (by simpa using hx1:first[i]?=some x)]);have hi:i<first.size:=by have:=(xW.1 hx1).1;simpa using this
  have e:first[i]=x:=by have:=(xW.1 hx1).2;simpa using this
  simpa [Array.getD,hi,e]using this
 .simp only[uF,pI]at hd
  obtain⟨x,hx1,rfl⟩:=hd;have:=hx x (by simp[EB (by simpa using hx1:captured[i]?=some x)]);have hi:i<captured.size:=by have:=(xW.1 hx1).1;simpa using this
  have e:captured[i]=x:=by have:=(xW.1 hx1).2;simpa using this
  simpa [Array.getD,hi,e]using this
def UW  {cs:List PV}{vs:Array Value}  {v0:PV}{d:TypeDesc}(hp:part (.agg cs) off (zK P ty).size (zK P ty).agg=some v0)(hd:P.underlying ty=some d)
 (hsz:(sizeOf ty).run P w=.ok (zK P ty).size w) (hl:vs.size=cs.length) (hc:∀ i d,cs[i]?=some d->RV w A κ d (vs.getD i undef)) (h1:∀ i,i<cs.length->(vs.getD i undef).oneCell'=true) :
 ∃ u,(Go.part ty vs off).run P w=.ok u w/\RV w A κ v0 u:=by
 have hag:=UG hd;rcases Gg hp with⟨ha,ds,rfl,hl',hds⟩|⟨ha,hn,he⟩
 .have hin:∀ j,j<ds.length->off+j<vs.size:=fun j hj=>by
   have:=hds j ds[j] (wN hj);have:=(xW.1 this).1;simp at this;omega
  refine⟨.agg (vs.extract off (off+(zK P ty).size)),?_,.agg _ _ ?_ (fun j d hj=>?_) (fun j hj=>?_)⟩
  .simp[Go.part,hag,ha,hsz]
  .simp
   rcases EC ds.length with h0|h0
   .omega
   .have:=hin (ds.length-1) zom;omega
  .have hj':=(xW.1 hj).1
   have h2:=hc _ _ (hds j d hj);have h3:=hin j hj';have h4:j<min (off+(zK P ty).size) vs.size-off:=zom
   have e:(vs.extract off (off+(zK P ty).size)).getD j undef=vs.getD (off+j) undef:=by
    simp[Array.getD,h3,h4]
   rw[e];exact h2
  .have h3:=hin j hj
   have h4:j<min (off+(zK P ty).size) vs.size-off:=zom
   have e:(vs.extract off (off+(zK P ty).size)).getD j undef=vs.getD (off+j) undef:=by
    simp[Array.getD,h3,h4]
   rw[e];exact h1 _ zom
 .have h3:off<vs.size:=by have:=(xW.1 he).1;simp at this;omega
  refine⟨vs.getD off undef,?_,hc _ _ he⟩;simp[Go.part,hag,ha,h3,Array.getD]
def vUM{s:TypeId}  {f:Nat}(ho:o.op=.field s x f)(H:HR E G w A κ h z)(hx:RV w A κ (ev G t x) (ρ x))
 (he:zN P G z key (.field s x f) t h=some (v,h',rd,wr)):Sound E G w A κ z h' key v ((execOp ρ o).run P w):=by
 unfold zN at he;simp only at he
 split at he
 .rename_i off ty n cs hf hev
  rw[hev]at hx;obtain⟨vs,hρ,hl,hc,h1⟩:=hx.agg_inv;obtain⟨v0,hp,hv⟩:=map_some he;cases hv
  obtain⟨fs,fd,g1,g2,g3,g4,g5⟩:=Ni hf;subst g3 g4 g5
  have hz:(zK P fd.type).size≠0\/(zK P fd.type).agg=true:=by
   rcases Gg hp with⟨h,_⟩|⟨_,h,_⟩
   .exact zC h
   .left;omega
  have hd:∃ d i,P.underlying fd.type=some d/\P.info? fd.type=some i:=by
   rcases hz with hz|hz
   .obtain⟨i,d,h1,h,_⟩:=BB hz;exact⟨d,i,h,h1⟩
   .unfold zK at hz;simp only at hz
    cases hd:P.underlying fd.type with
    |none=>simp[hd]at hz
    | some d =>
      unfold Program.underlying at hd;cases hi:P.info? fd.type with
      |none=>simp[hi]at hd
      |some i=>exact⟨d,i,rfl,rfl⟩
  obtain⟨d,i,hd,hi⟩:=hd;have hsz:(sizeOf fd.type).run P w=.ok (zK P fd.type).size w:=by simp[sizeOf,typeInfo,hi,zK,hd,Program.cellsOf]
  obtain⟨u,q1,q2⟩:=UW (w:=w) hp hd hsz hl hc h1;refine Sound.pure H (v':=u) ?_ q2;simp[execOp,ho,hρ,Instr.field,run_underlying g1,g2,asAgg,q1]
 .cases he
def Jn  {i:Int}{y:Nat}{code:BoundsCode}(h0:0<=i)(h1:i<=y):(Instr.sliceBound (.int k i) y code).run P w=.ok i.toNat w:=by
 simp[Instr.sliceBound,asIntOf,h0,h1]
def zM6{len:Nat}  {b:Int}(hlo:lo=none/\a=0\/∃ x k,lo=some x/\ρ x=.int k a)(hhi:hi=none/\b=len\/∃ x k,hi=some x/\ρ x=.int k b)
 (h0:0<=a) (h1:a<=b) (h2:b<=cap):(Instr.sliceBounds true len cap (lo.map ρ) (hi.map ρ) none).run P w=.ok (a.toNat,b.toNat,cap) w:=by
 have hb:(0:Int)<=b:=zom
 have ha':a<=(b.toNat:Nat):=zom
 rcases hlo with⟨rfl,rfl⟩|⟨x,k,rfl,hx⟩<;>rcases hhi with⟨rfl,rfl⟩|⟨y,k',rfl,hy⟩
 .simp[Instr.sliceBounds]
 .simp[Instr.sliceBounds,hy,Jn hb h2]
 .simp at ha'
  simp[Instr.sliceBounds,hx,Jn h0 ha']
 .simp[Instr.sliceBounds,hx,hy,Jn hb h2,Jn h0 ha']
def UX   (hlo:(match lo with|none=>some 0|some o=>match ev G t o with|.int _ n=>some n|_=>none)=some a)(hr:∀ x,lo=some x->RV w A κ (ev G t x) (ρ x)) :
 lo=none/\a=0\/∃ x k,lo=some x/\ρ x=.int k a:=by
 cases lo with
 |none=>left;simp at hlo;exact⟨rfl,hlo.symm⟩
 | some x =>
   right
   simp only at hlo
   split at hlo
   .rename_i k n hev
    have:=hr x rfl;rw[hev]at this;cases hlo
    exact⟨x,k,rfl,this.int_inv⟩
   .cases hlo
def UY  {len:Nat}  (hhi:(match hi with|none=>some (len:Int)|some o=>match ev G t o with|.int _ n=>some n|_=>none)=some a)(hr:∀ x,hi=some x->RV w A κ (ev G t x) (ρ x)) :
 hi=none/\a=len\/∃ x k,hi=some x/\ρ x=.int k a:=by
 cases hi with
 |none=>left;simp at hhi;exact⟨rfl,hhi.symm⟩
 | some x =>
   right
   simp only at hhi
   split at hhi
   .rename_i k n hev
    have:=hr x rfl;rw[hev]at this;cases hhi
    exact⟨x,k,rfl,this.int_inv⟩
   .cases hhi
def RD.sub{es:List PV}{sz b:Nat}{val:Nat->Nat->Value}{i j:Nat}(hA:A b)(hcap:j-i<=cap)(hsz:∀ e∈es,e.cells.length=sz)
 (hc:∀ i c,i<es.length->c<sz->w.cell? ⟨b,off+i*sz+c,none⟩=some (val i c)/\(val i c).oneCell'=true)
 (h:∀ i e,es[i]?=some e->∀ c d,e.cells[c]?=some d->RD w A d (val i c)) (hj:j<=es.length) (hij:i<=j) :
 RD w A (.imm ((es.take j).drop i)) (.slice (some ⟨b,off+i*sz,none⟩) (j-i) cap):=by
 have hl:((es.take j).drop i).length=j-i:=by simp;omega
 rw[<- hl]
 have hget:∀ k,k<j-i->((es.take j).drop i)[k]?=es[i+k]?:=fun k hk=>by
  rw[pM,oP zom]
 refine .imm _ sz b (off+i*sz) cap (fun k c=>val (i+k) c) hA zom (fun e he=>hsz e (pK (gQ he))) (fun k c hk hc'=>?_) (fun k e hk c d hd=>?_)
 .have:=hc (i+k) c zom hc'
  rw[w6,<- uV]at this;exact this
 .have hk':=(xW.1 hk).1
  rw[hget k zom]at hk;exact h _ _ hk c d hd
def vUI    (ho:o.op=.slice ty x lo hi none)(H:HR E G w A κ h z)(hx:RV w A κ (ev G t x) (ρ x))(hlo:∀ y,lo=some y->RV w A κ (ev G t y) (ρ y))(hhi:∀ y,hi=some y->RV w A κ (ev G t y) (ρ y))
 (he:zN P G z key (.slice ty x lo hi none) t h=some (v,h',rd,wr)):Sound E G w A κ z h' key v ((execOp ρ o).run P w):=by
 unfold zN at he;simp only at he
 have run:∀ {ad:Option Addr} {len cap:Nat} {a b:Int},(zK P ty).isSlice=true->(P.cellsOf (zK P ty).elem≠0)->ρ x=.slice ad len cap ->
  (lo=none/\a=0\/∃ x k,lo=some x/\ρ x=.int k a)->(hi=none/\b=len\/∃ x k,hi=some x/\ρ x=.int k b)->0<=a->a<=b->b<=cap ->
  (execOp ρ o).run P w=.ok (.value (.slice (if cap=a.toNat then ad else ad.map (·.add (a.toNat*P.cellsOf (zK P ty).elem))) (b.toNat-a.toNat) (cap-a.toNat))) w:=by
  intro ad len cap a b hs hz hρ h1 h2 h3 h4 h5;have hu:=aA hs;have hb:=zM6 (P:=P) (w:=w) (ρ:=ρ) (len:=len) (cap:=cap) h1 h2 h3 h4 h5;have hsz:=EO (w:=w) hz;simp[execOp,ho,hρ,Instr.sliceAt,Instr.slice,run_underlying hu,hb,hsz]
 split at he
 .rename_i es hev
  rw[hev]at hx
  split at he
  .rename_i a b hla hhb
   have hla':=UX hla hlo;have hhb':=UY hhb hhi;obtain⟨⟨hs,hall,h0,h1,h2,hne⟩,he⟩:=xC he;cases he
   have hz:=BC hne;have hx':=hx.imm_inv;cases hρ:ρ x<;>rw[hρ]at hx'<;>try (cases hx';done)
   rename_i ad len cap
   cases hx' with
   | imm0 =>
     simp at h2;have e1:a=0:=zom
     have e2:b=0:=zom
     subst e1 e2;have:=run hs (by rw[hz];exact hne) hρ hla' hhb' (Int.le_refl 0) (Int.le_refl 0) zom;exact Sound.pure H this (.data _ _ (.imm0 _ _))
   | imm _ sz bk off _ val hA hcap hsz' hc hd =>
     have:=run hs (by rw[hz];exact hne) hρ hla' hhb' h0 h1 zom;refine Sound.pure H this (.data _ _ ?_);by_cases he0:es=[]
     .subst he0
      simp at h2;have e2:b.toNat-a.toNat=0:=zom
      rw[e2];have e3:(List.drop a.toNat (List.take b.toNat ([]:List PV)))=[]:=by simp
      rw[e3];exact .imm0 _ _
     have hzs:P.cellsOf (zK P ty).elem=sz:=by
      obtain⟨e,l,rfl⟩:=Tq he0;rw[hz,<- hall e zsm,hsz' e zsm]
     rw[hzs];have hsub:=RD.sub (w:=w) (A:=A) (cap:=cap-a.toNat) (i:=a.toNat) (j:=b.toNat) hA zom hsz' hc hd zom zom;by_cases hca:cap=a.toNat
     .have e2:b.toNat-a.toNat=0:=zom
      have e3:(List.drop a.toNat (List.take b.toNat es))=[]:=List.drop_eq_nil_of_le yE;rw[e2,e3];exact .imm0 _ _
     .rw[zB hca]
      simp only[Option.map_some,BA];exact hsub
  .cases he
 .rename_i r off len hev
  rw[hev]at hx
  split at he
  .rename_i a b hla hhb
   have hla':=UX hla hlo;have hhb':=UY hhb hhi
   split at he
   .rename_i k hk
    obtain⟨⟨hs,hsz,h0,h1,h2,hne⟩,he⟩:=xC he;cases he
    have hz:=BC hne;obtain⟨m,sz,cap,ad,hρ,hκ,hle,ha⟩:=hx.own_inv;obtain⟨m',cap',hκ',_⟩:=H.blk r k hk (by rw[hκ];simp);rw[hκ]at hκ';cases hκ';have:=run hs (by rw[hz];exact hne) hρ hla' hhb' h0 h1 zom;refine Sound.pure H this ?_;rw[hz,<- hsz,Nat.sub_sub];refine .own r (off+a.toNat) (b.toNat-a.toNat) m k.sz cap _ hκ zom ?_;by_cases hca:cap-off=a.toNat
    .right;omega
    .left
     rw[zB hca];rcases ha with rfl|ha
     .simp only[Option.map_some,BA,w6]
     .omega
   .cases he
  .cases he
 .cases he
end
open Go.RowKit
def Nj(off:Nat):∀ (l:List Value) (k:Nat) (cs:Array Value),off+k+l.length<=cs.size ->
 ((l.zipIdx k).foldl (fun cs (x:Value×Nat)=>cs.setIfInBounds (off+x.2) x.1) cs).size=cs.size /\
 ∀ p,((l.zipIdx k).foldl (fun cs (x:Value×Nat)=>cs.setIfInBounds (off+x.2) x.1) cs)[p]?=if off+k<=p/\p<off+k+l.length then l[p-(off+k)]? else cs[p]?
 |[],k,cs,_=>⟨rfl,fun p=>by simp;omega⟩
 | v :: l,k,cs,h=>by
   simp only[List.length_cons]at h;have ih:=Nj off l (k+1) (cs.setIfInBounds (off+k) v) yE;simp only[List.zipIdx_cons,List.foldl_cons];refine⟨by rw[ih.1];simp,fun p=>?_⟩;rw[ih.2 p];simp only[List.length_cons];by_cases hp:p=off+k
   .subst hp
    rw[zB zom,zE zom];have:off+k<cs.size:=zom
    simp[this]
   .by_cases hq:off+k<=p/\p<off+k+(l.length+1)
    .rw[zE zom,zE hq]
     have e:p-(off+k)=(p-(off+(k+1)))+1:=zom
     rw[e,List.getElem?_cons_succ]
    .rw[zB zom,zB hq]
     rw[Array.getElem?_setIfInBounds_ne zom]
variable {ty:TypeId}{d:PV}{u:Value}
section
variable {P:Program} {E:Env} {G:Gl} {w:World} {A:Nat->Prop} {κ:Ka} {h:Hp} {z:Fz} {t:Tm} {ρ:Operand->Value} {o:Oper} {key:Nat} {v:PV} {h':Hp} {rd wr:List Nat}
structure Cs(w:World)(A:Nat->Prop)(κ:Ka)(ds:List PV)(c:Array Value):Prop where
 len:c.size=ds.length
 rel:∀ (i:Nat) (d:PV),ds[i]?=some d->∃ v:Value,c[i]?=some v/\RV w A κ d v/\v.oneCell'=true
def Cs.all{ds:List PV}{c:Array Value}(h:Cs w A κ ds c):∀ u∈c.toList,u.oneCell'=true:=by
 intro u hu;obtain⟨i,hi,rfl⟩:=uE hu;have hi':i<c.size:=by simpa using hi
 obtain ⟨v, h1, _, h3⟩ := h.rel i (ds[i]'(by rw [<- h.len]; exact hi')) (wN _);rw [CP hi'] at h1;cases h1
 simpa using h3
def Cs.of  {v:Value}(h:RV w A κ d v)(hs:d.storable=true):Cs w A κ d.cells v.cells:=by
 obtain⟨⟨h1,h2⟩,h3⟩:=h.cells hs;refine⟨by simpa using h1.symm,fun i d' hd=>?_⟩;have hi:i<v.cells.size:=by have:=(xW.1 hd).1;simp at h1;omega
 refine⟨v.cells[i],CP hi,?_,h3 _ zsm⟩;have:=h2 i d' hd
 simpa [List.getD,hi]using this
def Cs.lies{d:PV}{c:Array Value}(h:Cs w A κ d.cells c):lies w A κ c 0 d:=fun j x hx=>by
 obtain⟨v,h1,h2,h3⟩:=h.rel j x hx;exact⟨v,by simpa using h1,h2,h3⟩
def uH5  {X:Prop}(hs:d.ne0=true)(h:d.cells.length=0):X:=by cases d<;>first|(simp[PV.cells]at h;done)|(rename_i cs;cases cs with|nil=>cases hs|cons=>cases h)
def UZ    (H:HR E G w A κ h z)(hn:E.n0<=key)(hk:κ key=none)(hz:z key=false)(hd:RV w A κ d u)(hs:d.storable=true)(hs0:d.ne0=true)
 (hr:(execOp ρ o).run P w=.ok (.value (.pointer (some ⟨w.heap.size,0,none⟩))) (w.alloc (.cells u.cells ty))) :
 Sound E G w A κ z (hset h key (some ⟨[d],d.cells.length,d.isAgg⟩)) key (.ptr key 0 0) ((execOp ρ o).run P w):=by
 have hc:=Cs.of hd hs
 refine⟨_,_,wL κ key (w.heap.size,d.cells.length,1),zF hr,H.alloc hn hk hz (by rw[hc.len];simp) zsm zsm hc.all (fun i e he=>?_) (fun e=>uH5 hs0 e),?_,qW _ hk,fun r hr=>wH κ _ hr,
  fun b o' hA=>cell?_of_heap (Below.heap_alloc _ _ _ (H.alt b hA)) o'⟩
 .cases i with
  |zero=>simp at he;subst he;simpa using hc.lies
  |succ i=>simp at he
 .have:=RV.ptr (w:=w.alloc (.cells u.cells ty)) (A:=A) (κ:=wL κ key (w.heap.size,d.cells.length,1)) key 0 0 w.heap.size d.cells.length 1 (vG ..)
  simpa using this
def BD{s:TypeId}(h:(zK P s).zok=true):∃ i u,P.info? s=some i/\i.zero=some u/\(zK P s).zero=dM u/\(zK P s).zero.storable=true/\∀ d∈(zK P s).zero.cells,d.storable=true:=by
 have hz:(zK P s).zero.storable=true/\∀ d∈(zK P s).zero.cells,d.storable=true:=by
  unfold zK at h ⊢;simp only[xO,xZ]at h ⊢;exact h
 unfold zK at hz ⊢;simp only at hz ⊢;cases hi:P.info? s with
 |none=>simp[hi,PV.storable]at hz
 | some i =>
   cases hu:i.zero with
   |none=>simp[hi,hu,PV.storable]at hz
   | some u =>
     simp only[hi,hu]at hz ⊢;exact⟨i,u,rfl,hu,rfl,hz⟩
def zNK  (hs:(Av u).storable=true):u.oneCell'=true:=by
 unfold Av at hs
 split at hs<;>first|rfl|(simp[PV.storable]at hs;done)|skip
def vLI(cs:Array Value)(h:∀ d∈(dM (.agg cs)).cells,d.storable=true):RV w A κ (dM (.agg cs)) (.agg cs):=by
 refine .agg _ cs zsm (fun i d hd=>?_) (fun i hi=>?_)
 .simp only[uF,pI]at hd
  obtain⟨x,hx,rfl⟩:=hd;have hi:i<cs.size:=by have:=(xW.1 hx).1;simpa using this
  have e:cs[i]=x:=by have:=(xW.1 hx).2;simpa using this
  have:=Nh (w:=w) (A:=A) (κ:=κ) x
  simpa [Array.getD,hi,e]using this
 .have hi':i<cs.size:=by simpa using hi
  have hs:(Av cs[i]).storable=true:=h _ (by simp only[dM,PV.cells_agg,zW];exact⟨cs[i],zsm,rfl⟩);have:=zNK hs
  simpa [Array.getD,hi']using this
def aB  (h:∀ d∈(dM u).cells,d.storable=true):RV w A κ (dM u) u:=by
 cases u
 case agg cs=>exact vLI cs h
 all_goals (unfold dM;exact Nh _)
def vUP  (ho:o.op=.alloc ty)(H:HR E G w A κ h z)(hn:E.n0<=key)(hk:κ key=none)(hz:z key=false)
 (he:zN P G z key (.alloc ty) t h=some (v,h',rd,wr)):Sound E G w A κ z h' key v ((execOp ρ o).run P w):=by
 unfold zN at he;simp only at he;obtain⟨hz0,he⟩:=xC he;cases he
 rw[xO]at hz0;obtain⟨hz0,hz9⟩:=hz0;obtain⟨i,u,h1,h2,h3,h4,h5⟩:=BD hz0;rw[h3]at h4 h5 hz9 ⊢;exact UZ (ty:=ty) H hn hk hz (aB h5) h4 hz9 (by simp[execOp,ho,Instr.alloc,zeroValue,typeInfo,h1,h2,newVar,newRow])
def uLP  {x:Operand}(ho:o.op=.box ty x)(H:HR E G w A κ h z)(hn:E.n0<=key)(hk:κ key=none)(hz:z key=false)(hx:RV w A κ (ev G t x) (ρ x))
 (he:zN P G z key (.box ty x) t h=some (v,h',rd,wr)):Sound E G w A κ z h' key v ((execOp ρ o).run P w):=by
 unfold zN at he;simp only at he
 split at he
 .rename_i hs
  cases he
  rw[xO]at hs;exact UZ (ty:=ty) H hn hk hz hx hs.1 hs.2 (by simp[execOp,ho,Instr.box,newVar,newRow])
 .split at he
  .rename_i hev
   obtain⟨hty,he⟩:=xC he;cases he
   rw[hev]at hx;obtain⟨vs,hρ,hl,_,_⟩:=hx.agg_inv;have h0:vs=#[]:=Array.eq_empty_of_size_eq_zero hl;subst h0
   refine⟨_,_,wL κ key (w.heap.size,0,1),zF (show(execOp ρ o).run P w=.ok (.value (.pointer (some ⟨w.heap.size,0,none⟩))) (w.alloc (.cells #[] ty)) by simp[execOp,ho,hρ,Instr.box,newVar,newRow,Value.cells]),H.alloc hn hk hz zsm zsm zsm (fun u hu=>by simp at hu) (fun i e he j d hj=>?_) (fun _=>⟨rfl,hty⟩),?_,qW _ hk,fun r hr=>wH κ _ hr,
    fun b o' hA=>cell?_of_heap (Below.heap_alloc _ _ _ (H.alt b hA)) o'⟩
   .cases i with
    |zero=>simp at he;subst he;simp at hj
    |succ i=>simp at he
   .have:=RV.ptr (w:=w.alloc (.cells #[] ty)) (A:=A) (κ:=wL κ key (w.heap.size,0,1)) key 0 0 w.heap.size 0 1 (vG ..)
    simpa using this
  .cases he
def Cs.over{ds:List PV}{c c':Array Value}  {off:Nat}  (hc:Cs w A κ ds c)(hd:Cs w A κ d.cells u.cells)(hle:off+d.cells.length<=ds.length)
 (hsz:c'.size=c.size) (hget:∀ p,c'[p]?=if off<=p/\p<off+u.cells.size then u.cells[p-off]? else c[p]?) :
 Cs w A κ (ds.take off++d.cells++ds.drop (off+d.cells.length)) c':=by
 refine⟨by simp[hsz,hc.len];omega,fun i x hx=>?_⟩;rw[hget];have hl:=hd.len;by_cases h1:i<off
 .rw[zB zom]
  rw[tV,o9 yE,oP h1]at hx;exact hc.rel i x hx
 .by_cases h2:i<off+d.cells.length
  .rw[zE zom]
   rw[tV,kG yE,o9 yE]at hx;have e:i-(List.take off ds).length=i-off:=by simp;omega
   rw[e]at hx;exact hd.rel _ x hx
  .rw[zB zom]
   rw[kG yE,pM]at hx;have e:off+d.cells.length+(i-(List.take off ds++d.cells).length)=i:=by simp;omega
   rw[e]at hx;exact hc.rel i x hx
def Nk(place:Nat->Option (Nat×Nat))(fs:List (Nat×Nat×Nat))(hp:∀ i f,fs[i]?=some f->place i=some (f.1,f.2.2)):∀ (parts:List (Nat×PV)) (us:List (Nat×Value)) (ds:List PV) (c:Array Value) (r:List PV),
 us.length=parts.length->(∀ (i:Nat) j d,parts[i]?=some (j,d)->∃ u,us[i]?=some (j,u)/\RV w A κ d u)->Cs w A κ ds c->Aw fs ds parts=some r ->
 ∃ c',Instr.fill place c us=some c'/\Cs w A κ r c'
 |[],[],ds,c,r,_,_,hc,h=>by simp[Aw]at h;subst h;exact⟨c,rfl,hc⟩
 |(j,d)::parts,[],_,_,_,hl,_,_,_=>by simp at hl
 |[],_::_,_,_,_,hl,_,_,_=>by simp at hl
 | (j,d)::parts,(j',u)::us,ds,c,r,hl,hr,hc,h=>by
   obtain⟨u',e,hd⟩:=hr 0 j d rfl;simp at e;obtain⟨rfl,rfl⟩:=e;simp only[Aw]at h
   split at h
   .cases h
   .rename_i off ty size hf
    split at h
    .rename_i hcond
     obtain⟨hs,hsz,hle⟩:=hcond;have hdc:=Cs.of hd hs;have hplace:place j'=some (off,size):=hp j' _ hf;have hu:u.cells.size=size:=by rw[hdc.len,hsz]
     have hle':off+u.cells.size<=c.size:=by rw[hc.len];omega
     have hfold:=Nj off u.cells.toList 0 c (by simpa using hle')
     have harr:u.cells.zipIdx.foldl (fun cs (x:Value×Nat)=>cs.setIfInBounds (off+x.2) x.1) c=(u.cells.toList.zipIdx 0).foldl (fun cs (x:Value×Nat)=>cs.setIfInBounds (off+x.2) x.1) c:=by
      rw[<- Array.foldl_toList];simp
     have hnext:Cs w A κ (ds.take off++d.cells++ds.drop (off+d.cells.length)) (u.cells.zipIdx.foldl (fun cs (x:Value×Nat)=>cs.setIfInBounds (off+x.2) x.1) c):=by
      refine hc.over hdc zom (by rw[harr];exact hfold.1) (fun p=>?_);rw[harr,hfold.2 p]
      simp
     rw[hsz]at hnext;obtain⟨c',h1,h2⟩:=Nk place fs hp parts us _ _ r (by simpa using hl) (fun i j d hi=>by have:=hr (i+1) j d (by simpa using hi);simpa using this) hnext h;refine⟨c',?_,h2⟩;simp only[Instr.fill,hplace];rw[zB yE];exact h1
    .cases h
def vUN  {parts:Array (Nat×Operand)}(ho:o.op=.build ty parts)(H:HR E G w A κ h z)(hx:OkOp G w A κ t ρ (.build ty parts))
 (he:zN P G z key (.build ty parts) t h=some (v,h',rd,wr)):Sound E G w A κ z h' key v ((execOp ρ o).run P w):=by
 unfold zN at he;simp only at he
 split at he
 .obtain⟨⟨hz0,hst⟩,he⟩:=xC he
  split at he
  .rename_i cs hfill
   cases he
   obtain⟨i,u,h1,h2,h3,h4,h5⟩:=BD hz0;have hzc:Cs w A κ (zK P ty).zero.cells u.cells:=by rw[h3]at h4 h5 ⊢;exact Cs.of (aB h5) h4
   have hst':∃ fs,P.underlying ty=some (.struct fs)/\∀ f∈fs.toList,(P.info? f.type).isSome=true:=by
    unfold zK at hst;simp only at hst;cases hd:P.underlying ty with
    |none=>simp only[hd]at hst;cases hst
    |some d=>cases d<;>simp only[hd,xZ]at hst<;>first|(cases hst;done)|exact⟨_,rfl,hst⟩
   obtain⟨fs,hu,hinfo⟩:=hst';have hflds:(zK P ty).fields=fs.toList.map fun f=>(f.offset,f.type,P.cellsOf f.type):=by unfold zK;simp only;rw[hu]
   have hpl:fs.toList.mapM (fun f=>(P.info? f.type).map fun i=>(f.offset,i.size))=some (fs.toList.map fun f=>(f.offset,P.cellsOf f.type)):=by
    generalize fs.toList=l at hinfo
    induction l with
    |nil=>rfl
    | cons f l ih =>
      have hf:=hinfo f zsm;obtain⟨i,hi⟩:=JK.1 hf;simp[List.mapM_cons,hi,ih (fun f hf=>hinfo f (by simp[hf])),Program.cellsOf]
   obtain⟨c',hc1,hc2⟩:=Nk (w:=w) (A:=A) (κ:=κ) (fun i=>(fs.toList.map fun f=>(f.offset,P.cellsOf f.type))[i]?) (zK P ty).fields (fun i f hi=>by
    rw[hflds]at hi;simp only[uF,pI]at hi ⊢;obtain⟨g,h1,rfl⟩:=hi
    exact⟨g,h1,rfl⟩)
    (parts.toList.map fun(j,x)=>(j,ev G t x)) (parts.toList.map fun(j,x)=>(j,ρ x)) _ _ cs zsm (fun i j d hi=>by
     simp only[uF,pI]at hi ⊢;obtain⟨⟨j0,x⟩,hx1,hx2⟩:=hi;cases hx2
     refine⟨ρ x,⟨(j0,x),hx1,rfl⟩,hx x ?_⟩;simp only[Op.operands,zW]
     exact⟨(j0,x),wO hx1,rfl⟩) hzc hfill
   have hb:P.built ty ((parts.map fun(i,x)=>(i,ρ x)).toList)=some c':=by
    unfold Program.built;simp only[h1,hu,h2,hpl]
    simpa using hc1
   have hrun:=run_build (P:=P) w ty (parts.map fun(i,x)=>(i,ρ x)) c' hb;refine Sound.pure H (v':=.agg c') (by simp[execOp,ho,hrun]) (.agg _ _ hc2.len (fun i d hd=>?_) (fun i hi=>?_))
   .obtain⟨v,g1,g2,_⟩:=hc2.rel i d hd
    simpa [o8,g1]using g2
   .obtain⟨v,g1,_,g3⟩:=hc2.rel i _ (wN hi)
    simpa [o8,g1]using g3
  .cases he
 .rename_i n hal
  obtain⟨⟨hz0,hkn⟩,he⟩:=xC he
  split at he
  .rename_i cs hfill
   cases he
   obtain⟨i,u,h1,h2,h3,h4,h5⟩:=BD hz0;have hzc:Cs w A κ (zK P ty).zero.cells u.cells:=by rw[h3]at h4 h5 ⊢;exact Cs.of (aB h5) h4
   have hu:=Ng (P:=P) (t:=ty) (by simpa using hal);obtain⟨ie,_,hie,_,hs0⟩:=BB hkn
   .obtain⟨c',hc1,hc2⟩:=Nk (w:=w) (A:=A) (κ:=κ) (fun i=>some (i*ie.size,ie.size)) ((List.range _).map fun j=>(j*(zK P (zK P ty).elem).size,(zK P ty).elem,(zK P (zK P ty).elem).size)) (fun i f hi=>by
     simp only[uF,pI]at hi;obtain⟨g,q1,rfl⟩:=hi;obtain⟨_,q2⟩:=xW.1 q1;simp at q2;subst q2
     simp[<- hs0])
     (parts.toList.map fun(j,x)=>(j,ev G t x)) (parts.toList.map fun(j,x)=>(j,ρ x)) _ _ cs zsm (fun i j d hi=>by
      simp only[uF,pI]at hi ⊢;obtain⟨⟨j0,x⟩,hx1,hx2⟩:=hi;cases hx2
      refine⟨ρ x,⟨(j0,x),hx1,rfl⟩,hx x ?_⟩;simp only[Op.operands,zW]
      exact⟨(j0,x),wO hx1,rfl⟩) hzc hfill
    have hb:P.built ty ((parts.map fun(i,x)=>(i,ρ x)).toList)=some c':=by
     unfold Program.built;simp only[h1,hu,h2,hie]
     simpa using hc1
    have hrun:=run_build (P:=P) w ty (parts.map fun(i,x)=>(i,ρ x)) c' hb;refine Sound.pure H (v':=.agg c') (by simp[execOp,ho,hrun]) (.agg _ _ hc2.len (fun i d hd=>?_) (fun i hi=>?_))
    .obtain⟨v,g1,g2,_⟩:=hc2.rel i d hd
     simpa [o8,g1]using g2
    .obtain⟨v,g1,_,g3⟩:=hc2.rel i _ (wN hi)
     simpa [o8,g1]using g3
  .cases he
def vUL  {x ix:Operand}(ho:o.op=.index ty x ix)(H:HR E G w A κ h z)(hx:RV w A κ (ev G t x) (ρ x))(hi:RV w A κ (ev G t ix) (ρ ix))
 (he:zN P G z key (.index ty x ix) t h=some (v,h',rd,wr)):Sound E G w A κ z h' key v ((execOp ρ o).run P w):=by
 unfold zN at he;simp only at he
 split at he
 .rename_i cs k n hev hevi
  rw[hev]at hx;rw[hevi]at hi;obtain⟨⟨h0,h1,h2,h3⟩,he⟩:=xC he;obtain⟨r,hr,hv⟩:=map_some he;cases hv
  have hρi:=hi.int_inv;have hu:=Ng (P:=P) (t:=ty) h0;have hz0:=BC h3;obtain⟨i,d,hi',hd,_⟩:=BB h3;have hsz:(sizeOf (zK P ty).elem).run P w=.ok (zK P (zK P ty).elem).size w:=by rw[<- hz0];exact EO (by rw[hz0];exact h3)
  obtain⟨vs,hρ,hl,hc,h1'⟩:=hx.agg_inv;obtain⟨u,q1,q2⟩:=UW (w:=w) hr hd hsz hl hc h1';refine Sound.pure H (v':=u) ?_ q2;simp[execOp,ho,hρ,hρi,Instr.index,asIntOf,run_underlying hu,h1,h2,hsz,q1]
 .rename_i s k n hev hevi
  rw[hev]at hx;rw[hevi]at hi;obtain⟨⟨h0,h1⟩,he⟩:=xC he;obtain⟨r,hr,hv⟩:=map_some he;cases hv
  have hρi:=hi.int_inv;have hρ:=hx.str_inv
  have hu:P.underlying ty=some .string:=by
   unfold zK at h0;simp only at h0;cases hd:P.underlying ty with
   |none=>simp[hd]at h0
   |some d=>cases d<;>simp[hd]at h0 ⊢
  refine Sound.pure H (v':=.int .u8 r.toNat) ?_ (.data _ _ (.int _ _));simp[execOp,ho,hρ,hρi,Instr.index,asIntOf,run_underlying hu,h1,hr]
 .cases he
end
open Go.RowKit
variable {ty:TypeId}{els:List PV}{agg:Bool}
section
variable {P:Program} {E:Env} {G:Gl} {w:World} {A:Nat->Prop} {κ:Ka} {h:Hp} {z:Fz} {t:Tm} {ρ:Operand->Value} {o:Oper} {key:Nat} {v:PV} {h':Hp} {rd wr:List Nat}
def Ua:Array.range 0=#[]:=by simp[Array.range_zero']
structure Es(w:World)(A:Nat->Prop)(κ:Ka)(els:List PV)(sz:Nat)(agg:Bool)(c:Array Value):Prop where
 len:c.size=els.length*sz
 uni:∀ e∈els,e.cells.length=sz/\e.isAgg=agg
 rel:∀ (i:Nat) e,els[i]?=some e->lies w A κ c (i*sz) e
 one:∀ u∈c.toList,u.oneCell'=true
def uFH(zc:Array Value)(n sz:Nat)(hz:zc.size=sz){i j:Nat}(hi:i<n)(hj:j<sz):((Array.range (n*sz)).map (zc[·%zc.size]!))[i*sz+j]?=zc[j]?:=by
 have h1:i*sz+j<n*sz:=by
  have:(i+1)*sz<=n*sz:=vK _ hi;rw[w6]at this;omega
 have h2:(i*sz+j)%sz=j:=by rw[bX,Mr,jQ hj]
 rw[Array.getElem?_map,Array.getElem?_range];simp only[h1,uA,Option.map_some,hz,h2];have:j<zc.size:=zom
 simp[this]
def Es.zeros{d:PV}{zc:Array Value}{n sz:Nat}  (hc:Cs w A κ d.cells zc)(hsz:d.cells.length=sz)(ha:d.isAgg=agg) :
 Es w A κ (List.replicate n d) sz agg ((Array.range (n*sz)).map (zc[·%zc.size]!)):=by
 have hz:zc.size=sz:=by rw[hc.len,hsz]
 have hmem:∀ i e,(List.replicate n d)[i]?=some e->i<n/\e=d:=fun i e he=>by
  rw[List.getElem?_replicate]at he
  split at he
  .exact⟨‹_›,(Ak he).symm⟩
  .cases he
 refine⟨zsm,fun e he=>by rw[Tv he];exact⟨hsz,ha⟩,fun i e he j x hx=>?_,fun u hu=>?_⟩
 .obtain⟨h1,rfl⟩:=hmem i e he
  have hj:j<sz:=by have:=(xW.1 hx).1;omega
  obtain⟨v,g1,g2,g3⟩:=hc.rel j x hx;exact⟨v,by rw[uFH zc n sz hz h1 hj];exact g1,g2,g3⟩
 .have hu':u∈(Array.range (n*sz)).map (zc[·%zc.size]!):=by simpa using hu
  rw[Array.mem_map]at hu';obtain⟨k,hk,rfl⟩:=hu';have hk':k<n*sz:=by simpa using hk
  have hs0:0<sz:=by rcases EC sz with h|h<;>simp_all
  have hlt:k%zc.size<zc.size:=nZ _ zom;have:=hc.all zc[k%zc.size] zsm
  simpa [hlt]using this
def Es.set  {sz:Nat}  {c c':Array Value}{d:PV}{u:Value}{i:Nat}(hc:Es w A κ els sz agg c)(hd:Cs w A κ d.cells u.cells)(hi:i<els.length)(hsz:d.cells.length=sz)(ha:d.isAgg=agg)
 (hs:c'.size=c.size) (hget:∀ p,c'[p]?=if i*sz<=p/\p<i*sz+u.cells.size then u.cells[p-i*sz]? else c[p]?):Es w A κ (els.set i d) sz agg c':=by
 have hul:u.cells.size=sz:=by rw[hd.len,hsz]
 refine⟨by simp[hs,hc.len],fun e he=>?_,fun k e he j x hx=>?_,fun x hx=>?_⟩
 .rcases bR he with h|h
  .exact hc.uni e h
  .subst h;exact⟨hsz,ha⟩
 .rw [GN]at he
  by_cases hk:i=k
  .subst hk
   simp only[uA,hi]at he;cases he
   obtain⟨v,g1,g2,g3⟩:=hd.rel j x hx;have hj:=(xW.1 hx).1;refine⟨v,?_,g2,g3⟩;rw[hget,zE zom]
   simpa using g1
  .rw[zB hk]at he
   obtain⟨v,g1,g2,g3⟩:=hc.rel k e he j x hx;have hj:=(xW.1 hx).1;have he':=(hc.uni e (wO he)).1;refine⟨v,?_,g2,g3⟩;rw[hget,zB]
   .exact g1
   .intro hh
    rcases NH hk with hlt|hlt
    .have:(i+1)*sz<=k*sz:=vK _ hlt
     rw[w6]at this;omega
    .have:(k+1)*sz<=i*sz:=vK _ hlt
     rw[w6]at this;omega
 .obtain⟨p,hp,rfl⟩:=uE hx
  have hp':p<c'.size:=by simpa using hp
  have h1:=hget p;rw[CP hp']at h1
  split at h1
  .have:=hd.all _ (ND.2 (EB h1.symm))
   simpa using this
  .have:=hc.one _ (ND.2 (EB h1.symm))
   simpa using this
def Ub(sz:Nat)(agg:Bool):∀ (parts:List (Nat×PV)) (us:List (Nat×Value)) (els:List PV) (c:Array Value) (r:List PV),
 us.length=parts.length->(∀ (i:Nat) j d,parts[i]?=some (j,d)->∃ u,us[i]?=some (j,u)/\RV w A κ d u)->Es w A κ els sz agg c->Ci sz agg els parts=some r ->
 ∃ c',Instr.fill (fun i=>some (i*sz,sz)) c us=some c'/\Es w A κ r sz agg c'/\r.length=els.length
 |[],[],els,c,r,_,_,hc,h=>by simp[Ci]at h;subst h;exact⟨c,rfl,hc,rfl⟩
 |(j,d)::parts,[],_,_,_,hl,_,_,_=>by simp at hl
 |[],_::_,_,_,_,hl,_,_,_=>by simp at hl
 | (j,d)::parts,(j',u)::us,els,c,r,hl,hr,hc,h=>by
   obtain⟨u',e,hd⟩:=hr 0 j d rfl;simp at e;obtain⟨rfl,rfl⟩:=e;simp only[Ci]at h
   split at h
   .rename_i hcond
    obtain⟨hs,hsz,ha,hi⟩:=hcond;have hdc:=Cs.of hd hs;have hu:u.cells.size=sz:=by rw[hdc.len,hsz]
    have hle':j'*sz+u.cells.size<=c.size:=by
     rw[hc.len,hu];have:(j'+1)*sz<=els.length*sz:=vK _ hi;rw[w6]at this;omega
    have hfold:=Nj (j'*sz) u.cells.toList 0 c (by simpa using hle')
    have harr:u.cells.zipIdx.foldl (fun cs (x:Value×Nat)=>cs.setIfInBounds (j'*sz+x.2) x.1) c=(u.cells.toList.zipIdx 0).foldl (fun cs (x:Value×Nat)=>cs.setIfInBounds (j'*sz+x.2) x.1) c:=by
     rw[<- Array.foldl_toList];simp
    have hnext:Es w A κ (els.set j' d) sz agg (u.cells.zipIdx.foldl (fun cs (x:Value×Nat)=>cs.setIfInBounds (j'*sz+x.2) x.1) c):=by
     refine hc.set hdc hi hsz ha (by rw[harr];exact hfold.1) (fun p=>?_);rw[harr,hfold.2 p]
     simp
    obtain⟨c',h1,h2,h3⟩:=Ub sz agg parts us _ _ r (by simpa using hl) (fun i j d hi=>by have:=hr (i+1) j d (by simpa using hi);simpa using this) hnext h;refine⟨c',?_,h2,by simpa using h3⟩;simp only[Instr.fill];rw[zB yE];exact h1
   .cases h
def Uc   {sz len:Nat}  {c:Array Value}(H:HR E G w A κ h z)(hn:E.n0<=key)(hk:κ key=none)(hz:z key=false)(hc:Es w A κ els sz agg c)(hl:els.length=len)(hp:sz≠0)
 (hr:(execOp ρ o).run P w=.ok (.value (.slice (some ⟨w.heap.size,0,none⟩) len len)) (w.alloc (.cells c ty))) :
 Sound E G w A κ z (hset h key (some ⟨els,sz,agg⟩)) key (.own key 0 len) ((execOp ρ o).run P w):=by
 subst hl
 refine⟨_,_,wL κ key (w.heap.size,sz,els.length),zF hr,H.alloc hn hk hz hc.len (zX _) hc.uni hc.one hc.rel (fun e=>absurd e hp),?_,qW _ hk,fun r hr=>wH κ _ hr,
  fun b o' hA=>cell?_of_heap (Below.heap_alloc _ _ _ (H.alt b hA)) o'⟩
 have:=RV.own (w:=w.alloc (.cells c ty)) (A:=A) (κ:=wL κ key (w.heap.size,sz,els.length)) key 0 els.length w.heap.size sz els.length (some ⟨w.heap.size,0,none⟩) (vG ..) zom (zF zsm)
 simpa using this
def Ud{s:TypeId}{i:TypeInfo}(h:P.info? s=some i):(zK P s).bytes=i.bytes:=by simp[zK,Program.bytesOf,h]
def zO1  {len:Nat}{parts:Array (Nat×Operand)}(ho:o.op=.buildSlice ty len parts)(H:HR E G w A κ h z)(hn:E.n0<=key)(hk:κ key=none)(hz:z key=false)(hx:OkOp G w A κ t ρ (.buildSlice ty len parts))
 (he:zN P G z key (.buildSlice ty len parts) t h=some (v,h',rd,wr)):Sound E G w A κ z h' key v ((execOp ρ o).run P w):=by
 unfold zN at he;simp only at he;obtain⟨⟨h24,hz0,hs,hzs,hza⟩,he⟩:=xC he
 split at he
 .rename_i els hfill
  cases he
  obtain⟨i,u,h1,h2,h3,h4,h5⟩:=BD hz0;have hzc:Cs w A κ (zK P (zK P ty).elem).zero.cells u.cells:=by rw[h3]at h4 h5 ⊢;exact Cs.of (aB h5) h4
  have hsz:i.size=(zK P (zK P ty).elem).size\/(zK P (zK P ty).elem).size=0:=by
   by_cases h0:(zK P (zK P ty).elem).size=0
   .exact zC h0
   .obtain⟨i',d,g1,_,g3⟩:=BB h0
    rw[h1]at g1;cases g1;exact zF g3
  have hpos:(zK P (zK P ty).elem).size≠0:=hza.2;have hsz':=hsz.resolve_right hpos;have hu:=aA hs
  obtain⟨c',hc1,hc2,hc3⟩:=Ub (w:=w) (A:=A) (κ:=κ) (zK P (zK P ty).elem).size (zK P (zK P ty).elem).agg (parts.toList.map fun(j,x)=>(j,ev G t x)) (parts.toList.map fun(j,x)=>(j,ρ x)) _ _ els zsm (fun i j d hi=>by
   simp only[uF,pI]at hi ⊢;obtain⟨⟨j0,x⟩,hx1,hx2⟩:=hi;cases hx2
   refine⟨ρ x,⟨(j0,x),hx1,rfl⟩,hx x ?_⟩;simp only[Op.operands,zW]
   exact⟨(j0,x),wO hx1,rfl⟩) (Es.zeros (n:=len) hzc hzs hza.1) hfill
  refine Uc (ty:=(zK P ty).elem) H hn hk hz hc2 (by simpa using hc3) xU ?_;have hparts:(parts.map fun(i,x)=>(i,ρ x)).toList=parts.toList.map fun(j,x)=>(j,ρ x):=by simp
  have h24':¬ (2^24<len*i.size):=by rw[hsz'];omega
  by_cases hl0:len*i.size=0
  .have hlen:len=0:=by
    rcases Nat.mul_eq_zero.1 hl0 with h|h
    .exact h
    .omega
   subst hlen;have hc1':Instr.fill (fun i=>some (i*(zK P (zK P ty).elem).size,(zK P (zK P ty).elem).size)) #[] (parts.toList.map fun x=>(x.1,ρ x.2))=some c':=by simpa [Ua]using hc1
   simp[execOp,ho,Instr.buildSlice,run_underlying hu,sizeOf,typeInfo,h1,hsz',newRow,Ua,hc1']
  .have hc1':=hc1
   rw[<- hsz']at hc1';simp[execOp,ho,Instr.buildSlice,run_underlying hu,sizeOf,typeInfo,zeroValue,h1,h2,h24',hl0,newRow];simp[hc1']
 .cases he
def vE8  {l c:Operand}(ho:o.op=.makeSlice ty l c)(H:HR E G w A κ h z)(hn:E.n0<=key)(hk:κ key=none)(hz:z key=false)(hl:RV w A κ (ev G t l) (ρ l))(hc:RV w A κ (ev G t c) (ρ c))
 (he:zN P G z key (.makeSlice ty l c) t h=some (v,h',rd,wr)):Sound E G w A κ z h' key v ((execOp ρ o).run P w):=by
 unfold zN at he;simp only at he
 split at he
 .rename_i n m hel hec
  rw[hel]at hl;rw[hec]at hc;obtain⟨⟨hnm,h0,h32,hby,hz0,hs,hzs,hza,hpos⟩,he'⟩:=xC he;cases he'
  subst hnm;obtain⟨i,u,h1,h2,h3,h4,h5⟩:=BD hz0;have hzc:Cs w A κ (zK P (zK P ty).elem).zero.cells u.cells:=by rw[h3]at h4 h5 ⊢;exact Cs.of (aB h5) h4
  obtain⟨i',d,g1,_,g3⟩:=BB hpos;rw[h1]at g1;cases g1;have hu:=aA hs
  have hb:(i.bytes:Int)*n<=281474976710656:=by
   rw[Ud h1]at hby;have:(i.bytes:Int)*n<=4096*2^32:=Int.mul_le_mul zom h32 h0 zom;omega
  have hrun:=run_make (P:=P) w ty _ i u hu h1 h2 .i64 .i64 n n h0 (Int.le_refl _) hb zom;refine Uc (ty:=(zK P ty).elem) (c:=madeCells u.cells (n.toNat*i.size)) H hn hk hz ?_ zsm xU (by simp[execOp,ho,hl.int_inv,hc.int_inv,hrun]);rw[g3];exact Es.zeros hzc hzs hza
 .cases he
def vK9{e v e':PV}{off:Nat}(h:splice e off v=some e'):e'.cells.length=e.cells.length/\e'.isAgg=e.isAgg/\off+v.cells.length<=e.cells.length /\
 ∀ p,e'.cells[p]?=if off<=p/\p<off+v.cells.length then v.cells[p-off]? else e.cells[p]?:=by
 unfold splice at h
 split at h
 .rename_i hc
  obtain⟨rfl,h2,h3⟩:=hc;cases h
  refine⟨h2.symm,h3.symm,zom,fun p=>?_⟩;by_cases hp:p<v.cells.length
  .rw[zE zom];rfl
  .rw[zB zom,CS zom,CS zom]
 .split at h
  .rename_i hc
   obtain⟨hle,ha⟩:=hc;cases h
   refine⟨by simp;omega,ha.symm,hle,fun p=>?_⟩;simp only[PV.cells_agg];by_cases h1:p<off
   .rw[zB zom,tV,o9 yE,oP h1]
   .by_cases h2:p<off+v.cells.length
    .rw[zE zom,tV,kG yE,o9 yE]
     congr 1;simp;omega
    .rw[zB zom,kG yE,pM]
     congr 1;simp;omega
  .cases h
def aC(c:Array Value)(vs:List Value)(o:Nat)(h:o+vs.length<=c.size)(p:Nat) :
 ((c.toList.take o++vs++c.toList.drop (o+vs.length)).toArray)[p]?=if o<=p/\p<o+vs.length then vs[p-o]? else c[p]?:=by
 rw[EA];by_cases h1:p<o
 .rw[zB zom,tV,o9 yE,oP h1];simp
 .by_cases h2:p<o+vs.length
  .rw[zE zom,tV,kG yE,o9 yE]
   congr 1;simp;omega
  .rw[zB zom,kG yE,pM]
   rw[<- CU]
   congr 1;simp;omega
def vUH  {x y:Operand} (ho:o.op=.store ty x y) (H:HR E G w A κ h z) (hx:RV w A κ (ev G t x) (ρ x)) (hy:RV w A κ (ev G t y) (ρ y))
 (he:zN P G z key (.store ty x y) t h=some (v,h',rd,wr)):Sound E G w A κ z h' key v ((execOp ρ o).run P w):=by
 unfold zN at he;simp only at he
 split at he
 .rename_i r j off hev
  rw[hev]at hx;obtain⟨m,sz,cap,hρ,hκ⟩:=hx.ptr_inv
  split at he
  .rename_i b hb
   split at he
   .rename_i e hel
    obtain⟨⟨hzr,hst,hsize⟩,he⟩:=xC he;obtain⟨e',hsp,he⟩:=map_some he;cases he
    obtain⟨s1,s2,s3,s4⟩:=vK9 hsp;have hyc:=Cs.of hy hst;obtain⟨m0,cap0,e1,e2,e3,e4⟩:=H.blk r b hb (by rw[hκ];simp);rw[hκ]at e1;cases e1;have hj:j<b.els.length:=(xW.1 hel).1;have hcap:cap≠0:=zom
    obtain⟨c,ty0,g1,g2,g3,g4,g5,g6,g7⟩:=dP e4 hcap fun e=>by rw[e]at hel;cases hel
    have hesz:=(e3 e (wO hel)).1;have hlen:(ρ y).cells.toList.length=(ev G t y).cells.length:=by simpa using hyc.len
    have hrange:j*b.sz+off+(ρ y).cells.toList.length<=c.size:=by
     have:(j+1)*b.sz<=cap*b.sz:=vK _ zom;rw[w6]at this;omega
    have hrow:=run_storeCells_at P m (j*b.sz+off) ty0 (ρ y).cells.toList 0 c w g2 (by simpa using hrange) hyc.all;simp only[Nat.add_zero]at hrow;have h0:=hsize.2
    have hsizeOf:(sizeOf ty).run P w=.ok (ρ y).cells.size w:=by
     have:=EO (P:=P) (w:=w) (ty:=ty) (by rw[BC h0];exact h0);rw[this,BC h0,<- hsize.1,hyc.len]
    have hseg:=aC c (ρ y).cells.toList (j*b.sz+off) hrange;have hlen':(c.toList.take (j*b.sz+off)++(ρ y).cells.toList++c.toList.drop (j*b.sz+off+(ρ y).cells.toList.length)).toArray.size=c.size:=by simp;simp at hrange;omega
    generalize (c.toList.take (j*b.sz+off)++(ρ y).cells.toList++c.toList.drop (j*b.sz+off+(ρ y).cells.toList.length)).toArray=c' at hrow hseg hlen'
    have hrun:(execOp ρ o).run P w=.ok .skip (w.setRow m c'):=by
     simp[execOp,ho,hρ,Instr.storeAt,Instr.sureAddr,storeVar,hsizeOf,hrow]
    have hz0:hset (hset h r none) r (some { b with els:=b.els.set j e' })=hset h r (some { b with els:=b.els.set j e' }):=by funext q;simp only[hset];split<;>rfl
    have hk0:wL κ r (m,b.sz,cap)=κ:=by funext q;simp only[wL];split<;>simp_all
    have HW:=H.write (key:=r) (els:=b.els.set j e') (c':=c') hb hκ hcap hzr rfl g2 (zF rfl) hlen' (by simpa using e2) (fun x hx=>by
     rcases bR hx with h|h
     .exact e3 x h
     .subst h;exact⟨by rw[s1,hesz],by rw[s2];exact(e3 e (wO hel)).2⟩)
     (fun x hx=>by
       obtain⟨p,hp,rfl⟩:=uE hx;have hp':p<c'.size:=by simpa using hp
       have h1:=hseg p;rw[CP hp']at h1
       split at h1
       .have:=hyc.all _ (wO h1.symm)
        simpa using this
       .have:=g4 _ (ND.2 (EB h1.symm))
        simpa using this)
     (fun i e0 he0 p x hxp=>by
       rw[GN]at he0;by_cases hi:j=i
       .subst hi
        simp only[uA,hj]at he0;cases he0
        have h4:=s4 p;rw[hxp]at h4;rw[hseg];by_cases hin:off<=p/\p<off+(ev G t y).cells.length
        .rw[zE hin]at h4
         obtain⟨u,f1,f2,f3⟩:=hyc.rel _ x h4.symm;refine⟨u,?_,f2,f3⟩;rw[zE zom];have:j*b.sz+p-(j*b.sz+off)=p-off:=zom
         rw[this];simpa using f1
        .rw[zB hin]at h4
         obtain⟨u,f1,f2,f3⟩:=g5 j e hel p x h4.symm;exact⟨u,by rw[zB zom];exact f1,f2,f3⟩
       .rw[zB hi]at he0
        obtain⟨u,f1,f2,f3⟩:=g5 i e0 he0 p x hxp;have hp:=(xW.1 hxp).1;have he0':=(e3 e0 (wO he0)).1;refine⟨u,?_,f2,f3⟩;rw[hseg,zB]
        .exact f1
        .intro hh
         rcases NH hi with hlt|hlt
         .have:(j+1)*b.sz<=i*b.sz:=vK _ hlt
          rw[w6]at this;omega
         .have:(i+1)*b.sz<=j*b.sz:=vK _ hlt
          rw[w6]at this;omega)
    rw[hz0,hk0]at HW;exact⟨undef,w.setRow m c',κ,zC ⟨hrun,rfl⟩,HW,.tup [] _ rfl (fun i d hd=>by simp at hd),fun _ _ h=>h,fun _ _=>rfl,Jm H hb hκ hcap hzr c'⟩
   .cases he
  .cases he
 .cases he
def Nl{n b:Nat}(hn:n<=2^32)(hb:b<=4096):n*b<=140737488355328:=by
 have:n*b<=2^32*4096:=gW hn hb;omega
def uCW{y:Operand}{es:List PV}{ks:List Nat}  {sz:Nat}(H:HR E G w A κ h z)(hy:RV w A κ (ev G t y) (ρ y))(hs:Ay h (ev G t y)=some (es,ks))(hsl:(zK P ty).isSlice=true)
 (hsz:∀ e∈es,e.cells.length=sz) (hpos:sz≠0) :
 ∃ news:List Value,Src P sz ty (ρ y) es.length news w/\∀ (i:Nat) e,es[i]?=some e->lies w A κ news.toArray (i*sz) e:=by
 have hu:=aA hsl
 have mk:∀ (ad:Option Addr) (cap:Nat),ρ y=.slice ad es.length cap->es=[]->∃ news:List Value,Src P sz ty (ρ y) es.length news w/\∀ (i:Nat) e,es[i]?=some e->lies w A κ news.toArray (i*sz) e:=by
  intro ad cap hρ he;subst he;refine⟨[],⟨.inl ⟨_,hu⟩,fun w'=>by rw[hρ];rfl,?_,?_,zsm,zsm⟩,zsm⟩
  .rw[hρ];cases ad<;>simp[Builtin.firstCells,loadCells,loadCellsFrom]
  .rw[hρ];cases ad<;>simp[Builtin.firstCells,loadCells,loadCellsFrom]
 have mk2:∀ (b o cap:Nat) (val:Nat->Nat->Value),ρ y=.slice (some ⟨b,o,none⟩) es.length cap ->
  (∀ i c,i<es.length->c<sz->w.cell? ⟨b,o+i*sz+c,none⟩=some (val i c)/\(val i c).oneCell'=true)->(∀ i e,es[i]?=some e->∀ c d,e.cells[c]?=some d->RV w A κ d (val i c)) ->
  ∃ news:List Value,Src P sz ty (ρ y) es.length news w/\∀ (i:Nat) e,es[i]?=some e->lies w A κ news.toArray (i*sz) e:=by
  intro b o cap val hρ hc hd;let f:Nat->Value:=fun p=>val (p/sz) (p%sz)
  have hget:∀ p,p<es.length*sz->w.cell? ⟨b,o+p,none⟩=some (f p)/\(f p).oneCell'=true:=by
   intro p hp;have h1:p/sz<es.length:=(Nat.div_lt_iff_lt_mul zom).2 hp;have h2:p%sz<sz:=nZ _ zom;have:=hc _ _ h1 h2;have e:o+p/sz*sz+p%sz=o+p:=by have:=EH p sz;rw[wC]at this;omega
   rw[e]at this;exact this
  let news:=(List.range (es.length*sz)).map f
  have hn:∀ p u,news[p]?=some u->p<es.length*sz/\u=f p:=by
   intro p u hp;simp only[news,uF,pI]at hp;obtain⟨q,hq,rfl⟩:=hp;have:=xW.1 hq;obtain⟨h1,h2⟩:=this;simp at h1 h2;subst h2;exact⟨h1,rfl⟩
  have hfirst:∀ w',w'.heap=w.heap->(Builtin.firstCells sz es.length (ρ y)).run P w'=.ok news.toArray w':=by
   intro w' hw;rw[hρ];refine run_firstCells_some (P:=P) w' sz es.length ⟨b,o,none⟩ es.length cap news (by simp[news]) fun p u hp=>?_
   obtain⟨h1,rfl⟩:=hn p u hp;rw[BA];have:=(hget p h1).1
   simpa [World.cell?,hw]using this
  refine⟨news,⟨.inl ⟨_,hu⟩,fun w'=>by rw[hρ];rfl,hfirst w rfl,hfirst w.drew rfl,by simp[news],fun u hu=>?_⟩,fun i e he j d hj=>?_⟩
  .obtain⟨p,hp,rfl⟩:=uE hu
   obtain⟨h1,h2⟩:=hn p _ (wN hp);rw[h2];exact(hget p h1).2
  .have hi:=(xW.1 he).1
   have hj':=(xW.1 hj).1;have hjs:j<sz:=by rw[hsz e (wO he)]at hj';exact hj'
   have hlt:i*sz+j<es.length*sz:=by
    have:(i+1)*sz<=es.length*sz:=vK _ hi;rw[w6]at this;omega
   have hf:f (i*sz+j)=val i j:=by
    simp only[f];rw[show(i*sz+j)/sz=i by rw[bX,Nat.add_mul_div_right _ _ zom,Cc hjs];omega,show(i*sz+j)%sz=j by rw[bX,Mr,jQ hjs]]
   refine⟨val i j,?_,hd i e he j d hj,(hc i j hi hjs).2⟩;simp[news,hlt,hf]
 unfold Ay at hs
 split at hs
 .rename_i es' hev
  cases hs
  rw[hev]at hy;have hy':=hy.imm_inv;cases hρ:ρ y<;>rw[hρ]at hy'<;>try (cases hy';done)
  rename_i ad len cap
  cases hy' with
  |imm0=>exact hρ ▸ mk ad cap hρ rfl
  | imm _ sz' b off _ val hA _ hsz' hc hd =>
    by_cases he:es=[]
    .subst he;exact hρ ▸ mk _ cap hρ rfl
    .have:sz'=sz:=by
      obtain⟨e,l,rfl⟩:=Tq he;rw[<- hsz e zsm,hsz' e zsm]
     subst this;exact hρ ▸ mk2 b off cap val hρ hc fun i e hi c d hcd=>.data _ _ (hd i e hi c d hcd)
 .rename_i hev
  cases hs
  rw[hev]at hy;exact mk none 0 hy.nilsl_inv rfl
 .rename_i r off len hev
  rw[hev]at hy;obtain⟨m,sz',cap,a,hρ,hκ,hle,ha⟩:=hy.own_inv
  split at hs
  .rename_i b hb
   split at hs
   .rename_i hlen
    cases hs
    have hl:((b.els.drop off).take len).length=len:=by simp;omega
    by_cases he:len=0
    .subst he
     exact mk a (cap-off) (by rw[hρ];simp) zsm
    .obtain⟨m0,cap0,e1,e2,e3,e4⟩:=H.blk r b hb (by rw[hκ];simp)
     rw[hκ]at e1;cases e1;obtain⟨c,ty0,g1,g2,g3,g4,g5,g6,g7⟩:=dP e4 (by clear e4;omega) fun e=>by rw[e]at hlen;simp at hlen;omega
     clear e4;have ha':=ha.resolve_right zom;have hget:∀ k,k<len->((b.els.drop off).take len)[k]?=b.els[off+k]?:=fun k hk=>by rw[oP hk,pM]
     have hbs:b.sz=sz:=by
      have h0:((b.els.drop off).take len)[0]?=some b.els[off]:=by rw[hget 0 zom];simp
      rw[<- hsz _ (wO h0),(e3 b.els[off] zsm).1]
     subst hbs;refine mk2 m (off*b.sz) (cap-off) (fun i j=>c.getD ((off+i)*b.sz+j) undef) (by rw[hρ,ha',hl]) (fun i j hi hj=>?_) (fun i e he j d hjd=>?_)
     .rw[hl]at hi
      have hlt:off+i<b.els.length:=zom
      have hcl:=(e3 b.els[off+i] zsm).1;obtain⟨u,f1,f2,f3⟩:=g5 (off+i) _ (wN hlt) j _ (wN zom);have e:off*b.sz+i*b.sz+j=(off+i)*b.sz+j:=by rw[w6]
      rw[e];have hgd:c.getD ((off+i)*b.sz+j) undef=u:=by simp[o8,f1]
      simp only[hgd];exact⟨by simp[World.cell?,g2,f1],f3⟩
     .have hi:=(xW.1 he).1
      rw[hl]at hi;rw[hget i hi]at he;obtain⟨u,f1,f2,f3⟩:=g5 (off+i) e he j d hjd;have hgd:c.getD ((off+i)*b.sz+j) undef=u:=by simp[o8,f1]
      simp only[hgd];exact f2
   .cases hs
  .cases hs
 .cases hs
end
open Go.RowKit Go.MapKept
variable {ty:TypeId}{h':Hp}
section
variable {P:Program} {E:Env} {G:Gl} {w:World} {A:Nat->Prop} {κ:Ka} {h:Hp} {z:Fz} {t:Tm} {ρ:Operand->Value} {o:Oper} {key:Nat}
def Ue  (h:Jj P ty=true):∃ k e i,P.underlying ty=some (.map k e)/\P.underlying k=some .string/\P.info? e=some i/\i.zero=some (.bool false):=by
 unfold Jj at h
 split at h
 .rename_i k e he
  split at h
  .rename_i hk hi
   cases hi':P.info? e with
   |none=>rw[hi']at hi;cases hi
   |some i=>rw[hi']at hi;exact⟨k,e,i,he,hk,hi',hi⟩
  .cases h
 .cases h
def vLB  (ho:o.op=.makeMap ty none)(H:HR E G w A κ h z)(hn:E.n0<=key)(hk:κ key=none)(hz:z key=false):Sound E G w A κ z (hset h key (some ⟨[],0,false⟩)) key (.mp key) ((execOp ρ o).run P w) :=
 ⟨.map (some w.heap.size),_,_,zF (by simp only[execOp,ho];rfl),H.newMap hn hk hz,.mp key _ _ _ (vG ..) zdd,qW _ hk,fun r hr=>wH κ _ hr,fun b o' hA=>cell?_of_heap (Below.heap_alloc _ _ _ (H.alt b hA)) o'⟩
def Uf(H:HR E G w A κ h z){r:Nat}{v:Value}(hx:RV w A κ (.mp r) v){b:Blk}(hr:h r=some b)(hs:b.sz=0)(ha:b.agg=false):∃ m cap,v=.map (some m)/\κ r=some (m,b.sz,cap)/\cap≠0/\w.heap[m]?=some (.map #[] 0)/\E.B<=m/\(z r=false->¬ A m):=by
 obtain⟨m,sz,cap,rfl,h1,h2⟩:=hx.mp_inv;obtain⟨m',cap',g1,_,_,g4⟩:=H.blk r b hr (by rw[h1];simp);rw[h1]at g1;cases g1;rcases g4.resolve_left h2 with⟨⟨_,_,_,g⟩,g2,g3,_⟩|⟨_,_,⟨_,g⟩,_⟩
 .exact⟨m,cap,rfl,h1,h2,g,g2,g3⟩
 .have:=(g hs).1;rw[ha]at this;cases this
def vRR  {x y:Operand}{v:PV}  {rd wr:List Nat}(ho:o.op=.lookup ty x y false)(H:HR E G w A κ h z)(hx:RV w A κ (ev G t x) (ρ x))(hy:RV w A κ (ev G t y) (ρ y))(he:zN P G z key o.op t h=some (v,h',rd,wr)) :
 Sound E G w A κ z h' key v ((execOp ρ o).run P w):=by
 rw[ho]at he;simp only[zN]at he
 split at he
 .rename_i r s e1 e2
  split at he
  .rename_i b hb
   obtain⟨⟨h1,h2,h3⟩,he⟩:=xC he;cases he
   rw[e1]at hx;rw[e2]at hy;obtain⟨m,cap,hv,_,_,hm,_⟩:=Uf H hx hb h2 h3;obtain⟨k,e,i,q1,q2,q3,q4⟩:=Ue h1;refine Sound.pure H (v':=.bool false) ?_ (.data _ _ (.bool _));have hk:IsKey .string (.string s):=trivial;have hz:∀ w,(zeroValue e).run P w=.ok (.bool false) w:=fun w=>by simp[zeroValue,typeInfo,q3,q4,Result.andThen]
   simp[execOp,ho,hv,hy.str_inv,Instr.lookup,run_underlying q1,MapKept.run_getObj_map hm,MapKept.run_checkKey q2 hk,MapKept.run_findKey (w:=w) q2 (show Instr.findNow .string (.string s) [] 0=some none from rfl),hz,Result.andThen]
  .cases he
 .cases he
def vE7  {x y u:Operand}{v:PV}  {rd wr:List Nat}(ho:o.op=.mapUpdate ty x y u)(H:HR E G w A κ h z)(hx:RV w A κ (ev G t x) (ρ x))(hy:RV w A κ (ev G t y) (ρ y))(hu:RV w A κ (ev G t u) (ρ u))(he:zN P G z key o.op t h=some (v,h',rd,wr)) :
 Sound E G w A κ z h' key v ((execOp ρ o).run P w):=by
 rw[ho]at he;simp only[zN]at he
 split at he
 .rename_i r s b0 e1 e2 e3
  split at he
  .rename_i b hb
   obtain⟨⟨h1,h2,h3,h4⟩,he⟩:=xC he;cases he
   rw[e1]at hx;rw[e2]at hy;rw[e3]at hu;obtain⟨m,cap,hv,hκ,hc,hm,hB,hA⟩:=Uf H hx hb h2 h3;obtain⟨k,e,i,q1,q2,q3,q4⟩:=Ue h1;let w':=w.putObj m (.map (#[].push { key:=.string s,val:=.bool b0,born:=0 }) (0+1))
   have oth:∀ b,b≠m->w'.heap[b]?=w.heap[b]?:=fun b hb=>World.putObj_heap_other hb
   have hcell:∀ b o,A b->w'.cell? ⟨b,o,none⟩=w.cell? ⟨b,o,none⟩:=fun b o hb=>cell?_of_heap (oth b fun e=>hA h4 (e ▸ hb)) o
   refine⟨undef,w',κ,zC ⟨?_,rfl⟩,?_,.data _ _ (.tup [] _ rfl fun i d hd=>by simp at hd),fun _ _ h=>h,fun _ _=>rfl,hcell⟩
   .have hk:IsKey .string (.string s):=trivial
    simp[execOp,ho,hv,hy.str_inv,hu.bool_inv,Instr.mapUpdate,run_underlying q1,MapKept.run_getObj_map hm,MapKept.run_checkKey q2 hk,MapKept.run_findKey (w:=w) q2 (show Instr.findNow .string (.string s) [] 0=some none from rfl),run_setObj_map _ hm,Result.andThen,w',World.putObj]
   .have hK:=H.kp.own r b m _ cap hb hκ hc h4
    refine(H.drop r).stepW (w':=w') (ex:=fun b=>b=m) ⟨rfl,rfl,rfl,by simp[w'],fun k hk=>by omega⟩ (H.bel.trans ⟨rfl,rfl,rfl,by simp[w'],fun k hk=>oth k zom⟩) (fun b _ hb=>oth b hb) (fun b e=>e ▸ ⟨hA h4,hK,hB⟩) (fun r' b' m' s' c' hr' hk' hc' e=>?_) (fun _ h=>h) (fun _ h=>zF h) fun b hb=>by simp[w'];exact H.alt b hb
    subst e;have hne:r'≠r:=fun e=>by simp[hset,e]at hr'
    simp only[hset,zB hne]at hr';exact H.excl r' r b' b m' m' _ _ _ _ hne hr' hb hk' hκ hc' hc rfl
  .cases he
 .cases he
end
open Go.RowKit
variable {x:Operand}{els:List PV}{y:Operand}{ty:TypeId}{agg:Bool}{u:Value}{ty2:TypeId}{olds news:List Value}
section
variable {P:Program} {E:Env} {G:Gl} {w:World} {A:Nat->Prop} {κ:Ka} {h:Hp} {z:Fz} {t:Tm} {ρ:Operand->Value} {o:Oper} {key:Nat} {v:PV} {h':Hp} {rd wr:List Nat}
def EP   (ho:o.op=.call { callee:=.builtin .append,args:=⟨[x,y]⟩,argTypes:=⟨[ty,ty2]⟩ })  {w':World}
 (hr:(Builtin.append_ #[ty,ty2] o.type #[ρ x,ρ y]).run P w=.ok u w'):(execOp ρ o).run P w=.ok (.value u) w':=by
 simp[execOp,ho,resolve,invoke,builtin,hr]
def Es.join{es:List PV}{sz:Nat}   {c:Array Value}(h1:Es w A κ els sz agg olds.toArray)(hl:news.length=es.length*sz)(hu:∀ e∈es,e.cells.length=sz/\e.isAgg=agg)
 (h2:∀ (i:Nat) e,es[i]?=some e->lies w A κ news.toArray (i*sz) e) (h3:∀ p,p<olds.length+news.length->c[p]?=(olds++news)[p]?) :
 (∀ e∈els++es,e.cells.length=sz/\e.isAgg=agg)/\∀ (i:Nat) e,(els++es)[i]?=some e->lies w A κ c (i*sz) e:=by
 have hol:olds.length=els.length*sz:=by simpa using h1.len
 refine⟨fun e he=>?_,fun i e he j d hj=>?_⟩
 .rcases y8.1 he with h|h
  .exact h1.uni e h
  .exact hu e h
 .by_cases hi:i<els.length
  .rw[o9 hi]at he
   obtain⟨v,f1,f2,f3⟩:=h1.rel i e he j d hj;have hlt:i*sz+j<olds.length:=by have:=(kH.1 f1).1;simpa using this
   refine⟨v,?_,f2,f3⟩;rw[h3 _ zom,o9 hlt]
   simpa using f1
  .rw[kG zom]at he
   obtain⟨v,f1,f2,f3⟩:=h2 _ e he j d hj;have hlt:(i-els.length)*sz+j<news.length:=by have:=(kH.1 f1).1;simpa using this
   have e1:i*sz+j=olds.length+((i-els.length)*sz+j):=by
    rw[hol,<- uV,<- w6];congr 2;omega
   refine⟨v,?_,f2,f3⟩;rw[e1,h3 _ zom,kG zom]
   simpa using f1
def Nn  {s:TypeId}(h3:(zK P s).zero=dM u)(h4:(zK P s).zero.storable=true)(h5:∀ d∈(zK P s).zero.cells,d.storable=true)(n:Nat) :
 ∀ x∈(Builtin.zeroCells u.cells n).toList,x.oneCell'=true:=by
 intro x hx;have hc:Cs default (fun _=>False) (fun _=>none) (zK P s).zero.cells u.cells:=by rw[h3]at h4 h5 ⊢;exact Cs.of (aB h5) h4
 have hx':x∈Builtin.zeroCells u.cells n:=by simpa using hx
 unfold Builtin.zeroCells at hx';rw[Array.mem_map]at hx';obtain⟨k,hk,rfl⟩:=hx';have hk':k<n*u.cells.size:=by simpa using hk
 have hs0:0<u.cells.size:=by rcases EC u.cells.size with h|h<;>simp_all
 have hlt:k%u.cells.size<u.cells.size:=nZ _ hs0;have:=hc.all u.cells[k%u.cells.size] zsm
 simpa [hlt]using this
def Nq  {es:List PV}  {i:TypeInfo}   {sCap len:Nat}(hp:i.size≠0)(H:HR E G w A κ h z)(hn:E.n0<=key)(hk:κ key=none)(hz:z key=false)
 (h3:(zK P ty).zero=dM u) (h4:(zK P ty).zero.storable=true) (h5:∀ d∈(zK P ty).zero.cells,d.storable=true) (hus:u.cells.size=i.size)
 (hE:Es w A κ els i.size agg olds.toArray) (hl:news.length=es.length*i.size) (hone:∀ x∈news,x.oneCell'=true) (hu:∀ e∈es,e.cells.length=i.size/\e.isAgg=agg)
 (h6:∀ (k:Nat) e,es[k]?=some e->lies w A κ news.toArray (k*i.size) e) (hlen:len=els.length)
 (hr : (execOp ρ o).run P w=.ok (.value (.slice (some ⟨w.heap.size,0,none⟩) (len+es.length) (grownCap w (len+es.length) sCap ty)))
     (w.drew.alloc (.cells ((olds++news).toArray++Builtin.zeroCells u.cells (grownCap w (len+es.length) sCap ty-(len+es.length))) ty))) :
 Sound E G w A κ z (hset h key (some ⟨els++es,i.size,agg⟩)) key (.own key 0 (len+es.length)) ((execOp ρ o).run P w):=by
 subst hlen;have hge:=grownCap_ge w (els.length+es.length) sCap ty;have hol:olds.length=els.length*i.size:=by simpa using hE.len
 generalize grownCap w (els.length+es.length) sCap ty=cap at hr hge
 have hj:=Es.join (c:=(olds++news).toArray++Builtin.zeroCells u.cells (cap-(els.length+es.length))) hE hl hu h6 (fun p hp=>by
  rw[Ms (by simpa using hp)];simp)
 have HD:=H.drew;have hzc:=Nn (P:=P) h3 h4 h5 (cap-(els.length+es.length))
 have hmono:∀ (k:Nat) e,(els++es)[k]?=some e->lies w.drew A κ ((olds++news).toArray++Builtin.zeroCells u.cells (cap-(els.length+es.length))) (k*i.size) e :=
  fun k e he=>(hj.2 k e he).mono (fun _ h=>h) (Jl w A) (fun _ _ h=>h)
 refine⟨_,_,wL κ key (w.heap.size,i.size,cap),zF hr,HD.alloc hn hk hz ?_ (by simpa using hge) hj.1 ?_ hmono (fun e=>absurd e hp),?_,qW _ hk,fun r hr=>wH κ _ hr,fun b o' hA=>?_⟩
 .simp only[Array.size_append,NN,xR,size_zeroCells,hol,hl,hus]
  rw[<- w6,<- w6]
  congr 1;omega
 .intro x hx
  simp only[GI,y8]at hx;rcases hx with(hx|hx)|hx
  .exact hE.one x (by simpa using hx)
  .exact hone x hx
  .exact hzc x hx
 .have:=RV.own (w:=w.drew.alloc (.cells ((olds++news).toArray++Builtin.zeroCells u.cells (cap-(els.length+es.length))) ty)) (A:=A) (κ:=wL κ key (w.heap.size,i.size,cap)) key 0 (els.length+es.length) w.heap.size i.size cap (some ⟨w.heap.size,0,none⟩) (vG ..) zom (zF zsm)
  simpa using this
 .exact cell?_of_heap (Below.heap_alloc w.drew _ _ (H.alt b hA)) o'
def EQ{w:World}{A:Nat->Prop}{κ:Ka}{key sz:Nat}(hk:κ key=some (0,sz,0))(a:Option Addr):RV w A κ (.own key 0 0) (.slice a 0 0):=by
 have:=RV.own (w:=w) (A:=A) (κ:=κ) key 0 0 0 sz 0 a hk zom (zC rfl)
 simpa using this
def Jo(P:Program){m o:Nat}  {vs:List Value}{c:Array Value}(hg:w.heap[m]?=some (.cells c ty (0,0)))(hle:o+vs.length<=c.size)(h1:∀ v∈vs,v.oneCell'=true) :
 w.setCells m o vs=w.setRow m (c.toList.take o++vs++c.toList.drop (o+vs.length)).toArray:=by
 have ha:=run_storeCells_at P m o ty vs 0 c w hg (by simpa using hle) h1;have hb:=run_storeCells_cells (P:=P) m o vs 0 w (fun j hj=>by simp[World.cell?,hg];omega) (fun j hj=>by simp[World.frozen?,hg]) h1;rw[ha]at hb;injection hb with _ hb
 simp only[Nat.add_zero]at hb;exact hb.symm
def vRS   (ho:o.op=.call { callee:=.builtin .append,args:=⟨[x,y]⟩,argTypes:=⟨[ty,ty2]⟩ }) (H:HR E G w A κ h z) (hn:E.n0<=key) (hk:κ key=none) (hz:z key=false) (hhk:h key=none)
 (hx:RV w A κ (ev G t x) (ρ x)) (hy:RV w A κ (ev G t y) (ρ y))
 (he:zN P G z key (.call { callee:=.builtin .append,args:=⟨[x,y]⟩,argTypes:=⟨[ty,ty2]⟩ }) t h=some (v,h',rd,wr)):Sound E G w A κ z h' key v ((execOp ρ o).run P w):=by
 unfold zN at he;simp only at he
 split at he
 .rename_i es ks hsrc
  obtain⟨⟨huni,hby,hz0,hs,hs2,hzl,hpos⟩,he⟩:=xC he;obtain⟨i,u,h1,h2,h3,h4,h5⟩:=BD hz0;obtain⟨i',d,g1,_,g3⟩:=BB hpos;rw[h1]at g1;cases g1;have hut:=aA hs;have hzc:Cs w A κ (zK P (zK P ty).elem).zero.cells u.cells:=by rw[h3]at h4 h5 ⊢;exact Cs.of (aB h5) h4
  have hus:u.cells.size=i.size:=by rw[hzc.len,hzl,g3]
  rw[Ud h1]at hby;rw[<- g3]at huni hpos he;obtain⟨news,hsr,hlies⟩:=uCW (ty:=ty2) H hy hsrc hs2 (fun e he=>(huni e he).1) hpos;have hE0:Es w A κ [] i.size (zK P (zK P ty).elem).agg ([]:List Value).toArray:=⟨zsm,fun e he=>(by cases he),fun i e he=>by simp at he,fun x hx=>by simp at hx⟩
  split at he
  .rename_i hev
   rw[hev]at hx;have hρ:=hx.nilsl_inv;obtain⟨h32,he⟩:=xC he;cases he
   by_cases hes:es.length=0
   .have he0:es=[]:=vZ.1 hes
    subst he0;refine⟨_,w,wL κ key (0,i.size,0),zF (EP ho (u:=.slice none 0 0) ?_),H.empty hn hk,by simpa using EQ (vG ..) none,qW _ hk,fun r hr=>wH κ _ hr,fun _ _ _=>rfl⟩;rw[hρ];have hl:=hsr.len w;have hc:=hsr.cells;simp only[List.length_nil]at hl hc;have hn0:news=[]:=vZ.1 (by rw[hsr.newsLen];simp);subst hn0;rcases hsr.kind with⟨e',hk'⟩|hk'<;>simp[Builtin.append_,run_underlying hut,run_underlying hk',sizeOf,typeInfo,h1,hl,hc]
   .have hg:=run_append_grow_src (P:=P) w ty ty2 o.type _ i u hut h1 h2 none 0 0 [] (by simp[Builtin.firstCells]) (ρ y) es.length news hsr zom zom (by
     rw[z7];exact growslice_fits zom (Nl h32 hby))
    rw[<- hρ]at hg;have:=Nq (ty:=(zK P ty).elem) (len:=0) (els:=[]) hpos H hn hk hz h3 h4 h5 hus hE0 hsr.newsLen hsr.one huni hlies rfl (EP ho hg)
    simpa using this
  .rename_i r off len hev
   rw[hev]at hx;obtain⟨m,sz,cap,a,hρ,hκ,hle,ha⟩:=hx.own_inv
   split at he
   .rename_i b hb
    obtain⟨⟨hoff,hlen,hbz,hba,hzr,hks,h32⟩,he'⟩:=xC he;cases he'
    subst hoff;obtain⟨m0,cap0,e1,e2,e3,e4⟩:=H.blk r b hb (by rw[hκ];simp);rw[hκ]at e1;cases e1;have hrk:r≠key:=fun e=>by rw[e,hk]at hκ;cases hκ
    have hh:hset (hset h r none) key (some ⟨b.els++es,i.size,(zK P (zK P ty).elem).agg⟩)=hset (hset h r none) key (some { b with els:=b.els++es }):=by rw[<- hbz,<- hba]
    simp only[Nat.sub_zero]at hρ;by_cases hc0:cap=0
    .subst hc0
     have hl0:len=0:=zom
     have hb0:b.els=[]:=vZ.1 zom;subst hl0;by_cases hes:es.length=0
     .have he0:es=[]:=vZ.1 hes
      subst he0;have HE:=(H.drop r).empty (sz:=i.size) (agg:=(zK P (zK P ty).elem).agg) hn hk;refine⟨_,w,wL κ key (0,i.size,0),zF (EP ho (u:=.slice a 0 0) ?_),by rw[hb0];exact HE,by simpa using EQ (vG ..) a,qW _ hk,fun r hr=>wH κ _ hr,fun _ _ _=>rfl⟩;rw[hρ];have hl:=hsr.len w;have hc:=hsr.cells;simp only[List.length_nil]at hl hc;have hn0:news=[]:=vZ.1 (by rw[hsr.newsLen];simp);subst hn0;rcases hsr.kind with⟨e',hk'⟩|hk'<;>cases a<;>simp[Builtin.append_,run_underlying hut,run_underlying hk',sizeOf,typeInfo,h1,hl,hc,storeCells]
     .have hg:=run_append_grow_src (P:=P) w ty ty2 o.type _ i u hut h1 h2 a 0 0 [] (by cases a<;>simp[Builtin.firstCells,loadCells,loadCellsFrom]) (ρ y) es.length news hsr zom zom (by
       rw[z7];exact growslice_fits zom (Nl zom hby))
      rw[<- hρ]at hg;have:=Nq (ty:=(zK P ty).elem) (len:=0) (els:=[]) hpos (H.drop r) hn hk hz h3 h4 h5 hus hE0 hsr.newsLen hsr.one huni hlies rfl (EP ho hg);rw[hb0]
      simpa using this
    .obtain⟨c,ty0,f1,f2,f3,f4,f5,f6,f7⟩:=dP e4 hc0 fun _=>by rw[hbz];exact hpos
     have ha':=ha.resolve_right hc0;subst ha';simp only[Ao]at hρ;have hcl:len*b.sz<=c.size:=by rw[f3];exact vK _ zom
     have hE:Es w A κ b.els i.size (zK P (zK P ty).elem).agg (c.toList.take (len*i.size)).toArray:=by
      rw[<- hbz,<- hba];refine⟨by simp;rw[<- hlen];omega,e3,fun k e hke j d hj=>?_,fun x hx=>f4 x (pK (by simpa using hx))⟩;obtain⟨v,q1,q2,q3⟩:=f5 k e hke j d hj;have hkl:=(xW.1 hke).1;have hjl:=(xW.1 hj).1;rw[(e3 e (wO hke)).1]at hjl;have:(k+1)*b.sz<=len*b.sz:=vK _ zom;rw[w6]at this;refine⟨v,?_,q2,q3⟩;rw[EA,oP zom]
      simpa using q1
     by_cases hroom:len+es.length<=cap
     .have hrange:len*i.size+news.length<=c.size:=by
       rw[hsr.newsLen,f3,hbz,<- w6];exact vK _ hroom
      have hg:=run_append_room_src (P:=P) w ty ty2 o.type _ i hut h1 m 0 len cap (ρ y) es.length news hsr hroom (fun j hj=>by simp[World.cell?,f2];omega) (fun j hj=>by simp[World.frozen?,f2]);rw[z7,Jo P f2 hrange hsr.one,<- hρ]at hg;have hseg:=aC c news (len*i.size) hrange;have hsz':(c.toList.take (len*i.size)++news++c.toList.drop (len*i.size+news.length)).toArray.size=c.size:=by simp;omega
      generalize hc':(c.toList.take (len*i.size)++news++c.toList.drop (len*i.size+news.length)).toArray=c' at hg hseg hsz'
      have hj:=Es.join (c:=c') hE hsr.newsLen huni hlies (fun p hp=>by
       rw[hseg];simp only[wG,Array.length_toList]at hp;rw[hbz]at hcl;have hmin:min (len*i.size) c.size=len*i.size:=zom
       rw[hmin]at hp;by_cases hlt:p<len*i.size
       .rw[zB zom,o9 yE,oP hlt];simp
       .rw[zE zom,kG yE]
        congr 1;simp;omega)
      rw[<- hbz,<- hba]at hj
      have HW:=H.write (key:=key) (els:=b.els++es) (c':=c') hb hκ hc0 hzr rfl f2 (zC ⟨hhk,hk,hn,hz⟩) hsz' yE hj.1 (fun x hx=>by
       rw[<- hc']at hx;simp only[y8]at hx;rcases hx with(hx|hx)|hx
       .exact f4 x (pK hx)
       .exact hsr.one x hx
       .exact f4 x (gQ hx)) hj.2
      rw[hh];refine⟨_,_,_,zF (EP ho hg),HW,?_,qW _ hk,fun r hr=>wH κ _ hr,Jm H hb hκ hc0 hzr c'⟩;have:=RV.own (w:=w.setRow m c') (A:=A) (κ:=wL κ key (m,b.sz,cap)) key 0 (len+es.length) m b.sz cap (some ⟨m,0,none⟩) (vG ..) zom (zF zsm)
      simpa using this
     .have holds:(Builtin.firstCells i.size len (.slice (some ⟨m,0,none⟩) len cap)).run P w.drew=.ok (c.toList.take (len*i.size)).toArray w.drew:=by
       refine run_firstCells_some (P:=P) w.drew i.size len ⟨m,0,none⟩ len cap _ (by simp;rw[<- hbz];omega) fun p x hp=>?_
       rw[BA,z7];have hpl:p<len*i.size:=by have:=(xW.1 hp).1;simp at this;omega
       rw[oP hpl]at hp;have hdm:w.drew.heap[m]?=some (.cells c ty0 (0,0)):=f2;simp only[World.cell?,hdm]
       simpa using hp
      have hg:=run_append_grow_src (P:=P) w ty ty2 o.type _ i u hut h1 h2 (some ⟨m,0,none⟩) len cap _ holds (ρ y) es.length news hsr zom zom (growslice_fits zom (Nl h32 hby));rw[<- hρ]at hg;have:=Nq (ty:=(zK P ty).elem) hpos (H.drop r) hn hk hz h3 h4 h5 hus hE hsr.newsLen hsr.one huni hlies hlen (EP ho hg);exact this
   .cases he
  .cases he
 .cases he
def uLO   (ho:o.op=.call { callee:=.builtin .len,args:=⟨[x]⟩,argTypes:=⟨[ty]⟩ })(H:HR E G w A κ h z)(hx:RV w A κ (ev G t x) (ρ x))
 (he:zN P G z key (.call { callee:=.builtin .len,args:=⟨[x]⟩,argTypes:=⟨[ty]⟩ }) t h=some (v,h',rd,wr)):Sound E G w A κ z h' key v ((execOp ρ o).run P w):=by
 unfold zN at he;simp only at he;obtain⟨hs,he⟩:=xC he;have hu:=aA hs
 have run:∀ {a:Option Addr} {n cap:Nat},ρ x=.slice a n cap->(execOp ρ o).run P w=.ok (.value (.int .i64 n)) w:=by
  intro a n cap hρ;simp[execOp,ho,resolve,invoke,builtin,Builtin.len_,run_underlying hu,hρ,goInt]
 split at he
 .rename_i es hev
  rw[hev]at hx;obtain⟨a,cap,hρ⟩:=hx.imm_len;cases he
  exact Sound.pure H (run hρ) (.data _ _ (.int _ _))
 .rename_i r off len hev
  rw[hev]at hx;obtain⟨m,sz,cap,a,hρ,_⟩:=hx.own_inv;cases he
  exact Sound.pure H (run hρ) (.data _ _ (.int _ _))
 .rename_i hev
  rw[hev]at hx;cases he
  exact Sound.pure H (run hx.nilsl_inv) (.data _ _ (.int _ _))
 .cases he
def uLN  {ts:Array TypeId}(ho:o.op=.call { callee:=.builtin .max,args:=⟨[x,y]⟩,argTypes:=ts })(H:HR E G w A κ h z)(hx:RV w A κ (ev G t x) (ρ x))(hy:RV w A κ (ev G t y) (ρ y))
 (he:zN P G z key (.call { callee:=.builtin .max,args:=⟨[x,y]⟩,argTypes:=ts }) t h=some (v,h',rd,wr)):Sound E G w A κ z h' key v ((execOp ρ o).run P w):=by
 unfold zN at he;simp only at he
 split at he
 .rename_i k a k' b hev hev'
  rw[hev]at hx;rw[hev']at hy;cases he
  exact Sound.pure H (v':=.int k (if b > a then b else a)) (by simp[execOp,ho,resolve,invoke,builtin,Builtin.max_,Builtin.max2,hx.int_inv,hy.int_inv]) (.data _ _ (.int _ _))
 .cases he
def uLM  {ts:Array TypeId}(ho:o.op=.call { callee:=.builtin .min,args:=⟨[x,y]⟩,argTypes:=ts })(H:HR E G w A κ h z)(hx:RV w A κ (ev G t x) (ρ x))(hy:RV w A κ (ev G t y) (ρ y))
 (he:zN P G z key (.call { callee:=.builtin .min,args:=⟨[x,y]⟩,argTypes:=ts }) t h=some (v,h',rd,wr)):Sound E G w A κ z h' key v ((execOp ρ o).run P w):=by
 unfold zN at he;simp only at he
 split at he
 .rename_i k a k' b hev hev'
  rw[hev]at hx;rw[hev']at hy;cases he
  exact Sound.pure H (v':=.int k (if b<a then b else a)) (by simp[execOp,ho,resolve,invoke,builtin,Builtin.min_,Builtin.min2,hx.int_inv,hy.int_inv]) (.data _ _ (.int _ _))
 .cases he
def vJZ(H:HR E G w A κ h z)(hn:E.n0<=key)(hk:κ key=none)(hz:z key=false)(hhk:h key=none)(hx:OkOp G w A κ t ρ o.op)
 (he:zN P G z key o.op t h=some (v,h',rd,wr)):Sound E G w A κ z h' key v ((execOp ρ o).run P w):=by
 generalize ho:o.op=op at hx he;cases op
 case move x=>unfold zN at he;cases he;exact UI (zF ho) H (hx x yQ)
 case assign x=>unfold zN at he;cases he;exact UI (zC ho) H (hx x yQ)
 case pick c a b=>exact uCY ho H (hx c yQ) (hx a yQ) (hx b yQ) he
 case alloc e=>exact vUP ho H hn hk hz he
 case box e x=>exact uLP ho H hn hk hz (hx x yQ) he
 case build ty parts=>exact vUN ho H hx he
 case buildSlice ty len parts=>exact zO1 ho H hn hk hz hx he
 case load ty x=>exact uCZ ho H (hx x yQ) he
 case store ty x y=>exact vUH ho H (hx x yQ) (hx y yQ) he
 case nilCheck x=>exact vII ho H (hx x yQ) he
 case binOp op xt x y yt=>exact vUO ho H (hx x yQ) (hx y yQ) he
 case unOp op xt x=>exact uCX ho H (hx x yQ) he
 case convert a b x=>exact vLD ho H (hx x yQ) he
 case makeFunc fn first captured =>
  unfold zN at he;cases he;exact vIJ ho H (fun x hm=>hx x (by simpa [Op.operands]using hm))
 case makeMap ty r =>
  cases r with
  |some _=>simp[zN]at he
  |none=>unfold zN at he;cases he;exact vLB ho H hn hk hz
 case lookup ty x y c =>
  cases c with
  |true=>simp[zN]at he
  |false=>exact vRR ho H (hx x yQ) (hx y yQ) (by rw[ho];exact he)
 case mapUpdate ty x y u=>exact vE7 ho H (hx x yQ) (hx y yQ) (hx u yQ) (by rw[ho];exact he)
 case makeInterface ty x=>exact zKN ho H (hx x yQ) he
 case makeSlice ty l c=>exact vE8 ho H hn hk hz (hx l yQ) (hx c yQ) he
 case slice ty x lo hi mx =>
  cases mx with
  |some m=>simp[zN]at he
  |none=>exact vUI ho H (hx x yQ) (fun y hy=>hx y (by simp[Op.operands,hy])) (fun y hy=>hx y (by simp[Op.operands,hy])) he
 case fieldAddr s x f=>exact vFA ho H (hx x yQ) he
 case field s x f=>exact vUM ho H (hx x yQ) he
 case indexAddr ty x ix=>exact vE9 ho H (hx x yQ) (hx ix yQ) he
 case index ty x ix=>exact vUL ho H (hx x yQ) (hx ix yQ) he
 case extract x i=>exact vLC ho H (hx x yQ) he
 case call c =>
  obtain⟨callee,⟨args⟩,⟨tys⟩⟩:=c;cases callee
  case value=>simp[zN]at he
  case invoke=>simp[zN]at he
  case builtin b =>
   cases b
   case len =>
    match args,tys,he,ho,hx with
    |[x],[ty],he,ho,hx=>exact uLO ho H (hx x oO) he
    |[],_,he,_,_=>simp[zN]at he
    |_::_::_,_,he,_,_=>simp[zN]at he
    |[_],[],he,_,_=>simp[zN]at he
    |[_],_::_::_,he,_,_=>simp[zN]at he
   case max =>
    match args,he,ho,hx with
    |[x,y],he,ho,hx=>exact uLN ho H (hx x oO) (hx y oO) he
    |[],he,_,_=>simp[zN]at he
    |[_],he,_,_=>simp[zN]at he
    |_::_::_::_,he,_,_=>simp[zN]at he
   case min =>
    match args,he,ho,hx with
    |[x,y],he,ho,hx=>exact uLM ho H (hx x oO) (hx y oO) he
    |[],he,_,_=>simp[zN]at he
    |[_],he,_,_=>simp[zN]at he
    |_::_::_::_,he,_,_=>simp[zN]at he
   case append =>
    match args,tys,he,ho,hx with
    |[x,y],[ty,ty2],he,ho,hx=>exact vRS ho H hn hk hz hhk (hx x oO) (hx y oO) he
    |[],_,he,_,_=>simp[zN]at he
    |[_],_,he,_,_=>simp[zN]at he
    |_::_::_::_,_,he,_,_=>simp[zN]at he
    |[_,_],[],he,_,_=>simp[zN]at he
    |[_,_],[_],he,_,_=>simp[zN]at he
    |[_,_],_::_::_::_,he,_,_=>simp[zN]at he
   all_goals (simp[zN]at he)
 all_goals (simp[zN]at he)
end
end Go.PI
