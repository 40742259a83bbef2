/-
  PI: what is handed to a call is data from then on ('frz'); contracts ('FnC'); what a call leaves.
-/
import Derived.WalkKit
import Derived.KernelRfl
import Derived.Laws.Cover3
import Derived.Deep.AppendSrc
set_option linter.unusedVariables false
set_option linter.unusedSimpArgs false
set_option linter.unnecessarySimpa false
set_option maxHeartbeats 0
namespace Go.PI
theorem rAB{p:Prop}(h:p:=by kernel_rfl):p:=h
theorem rAC{p:Prop}(h:p:=by assumption):p:=h
theorem rAD{p:Prop}(h:p:=by simp[Op.operands]):p:=h
theorem rAE{p:Prop}(h:p:=by simp; omega):p:=h
theorem rAF{p:Prop}(h:p:=by simp_all):p:=h
theorem rAG{p:Prop}(h:p:=by simp only[List.length_map]; omega):p:=h
theorem rAH{p:Prop}(h:p:=by simp[Op.operands,Call.operands]):p:=h
abbrev rAL:=@Nat.lt_succ_self
abbrev rAM:=@if_neg
abbrev rAN:=@List.length_map
abbrev rAO:=@Bool.and_eq_true
abbrev rAP:=@List.getElem?_eq_some_iff
abbrev rAQ:=@List.getElem?_eq_getElem
abbrev rAR:=@Nat.le_refl
abbrev rAS:=@List.mem_of_getElem?
abbrev rAT:=@getElem!_pos
abbrev rAU:=@if_pos
abbrev rAV:=@List.length_append
abbrev rAW:=@Or.inl
abbrev rAX:=@List.mem_append
abbrev rAY:=@decide_eq_true_eq
abbrev rAZ:=@List.length_eq_zero_iff
abbrev rA0:=@Or.inr
abbrev rA1:=@Bool.eq_iff_iff
abbrev rA2:=@List.take_succ_eq_append_getElem
abbrev rA3:=@congrArg
abbrev rA4:=@Nat.lt_of_lt_of_le
abbrev rA5:=@List.mem_map
abbrev rA6:=@Array.getElem?_eq_some_iff
abbrev rA7:=@Nat.zero_le
abbrev rA8:=@List.getElem_of_mem
abbrev rA9:=@Nat.mul_add
abbrev rBA:=@List.mem_cons
abbrev rBB:=@List.append_assoc
abbrev rBC:=@List.mem_cons_of_mem
abbrev rBD:=@decide_eq_false
abbrev rBE:=@List.map_append
abbrev rBF:=@Array.getD_eq_getD_getElem?
abbrev rBG:=@List.all_eq_true
abbrev rBH:=@List.map_congr_left
abbrev rBI:=@List.mem_singleton
abbrev rBJ:=@Option.map_eq_some_iff
abbrev rBK:=@Nat.mul_le_mul_right
abbrev rBL:=@Nat.mul_le_mul_left
abbrev rBM:=@List.map_cons
abbrev rBN:=@Nat.mul_comm
abbrev rBO:=@Nat.mul_assoc
abbrev rBP:=@List.getElem?_map
abbrev rBQ:=@List.append_nil
abbrev rBR:=@List.take_of_length_le
abbrev rBS:=@Option.some.injEq
abbrev rBT:=@List.drop_eq_getElem_cons
abbrev rBU:=@Nat.le_trans
abbrev rBV:=@List.mem_append_right
abbrev rBW:=@List.take_length
abbrev rBX:=@List.getElem?_append_left
abbrev rBY:=@List.getElem?_append_right
abbrev rBZ:=@Option.isSome_iff_exists
abbrev rB0:=@List.mem_append_left
abbrev rB1:=@List.length_take
abbrev rB2:=@Nat.mul_left_comm
abbrev rB3:=@List.getElem_mem
abbrev rB4:=@decide_eq_true
abbrev rB5:=@decide_eq_false_iff_not
abbrev rB6:=@Nat.add_mul
abbrev rB7:=@Nat.lt_or_eq_of_le
abbrev rB8:=@List.eq_of_mem_replicate
abbrev rB9:=@List.length_replicate
abbrev rCA:=@Nat.le_of_lt_succ
abbrev rCB:=@List.getElem?_take_of_lt
abbrev rCC:=@List.getD_eq_getElem?_getD
abbrev rCD:=@of_decide_eq_true
abbrev rCE:=@Bool.or_eq_true
abbrev rCF:=@Bool.false_eq_true
abbrev rCG:=@Classical.byContradiction
abbrev rCH:=@Nat.lt_succ_iff_lt_or_eq
abbrev rCI:=@if_true
abbrev rCJ:=@Array.toList_append
abbrev rCK:=@List.mem_of_mem_take
abbrev rCL:=@if_false
abbrev rCM:=@Bool.or_false
abbrev rCN:=@Nat.mod_eq_of_lt
abbrev rCO:=@List.length_drop
abbrev rCP:=@Nat.lt_or_ge
abbrev rCQ:=@List.map_map
abbrev rCR:=@List.getElem?_drop
abbrev rCS:=@Array.getElem?_eq_none
abbrev rCT:=@Nat.lt_of_mul_lt_mul_left
abbrev rCU:=@List.mem_or_eq_of_mem_set
abbrev rCV:=@Array.getElem?_eq_getElem
abbrev rCW:=@decide_eq_decide
abbrev rCX:=@List.not_mem_nil
abbrev rCY:=@List.any_eq_true
abbrev rCZ:=@List.getElem?_eq_none
abbrev rC0:=@List.filter_eq_nil_iff
abbrev rC1:=@List.drop_of_length_le
abbrev rC2:=@Nat.le_succ_of_le
abbrev rC3:=@Nat.le_succ
abbrev rC4:=@Nat.add_assoc
abbrev rC5:=@Nat.zero_add
abbrev rC6:=@List.take_append_drop
abbrev rC7:=@Bool.true_eq_false
abbrev rC8:=@List.any_eq_false
abbrev rC9:=@Bool.eq_false_iff
abbrev rDA:=@List.drop_set_of_lt
abbrev rDB:=@Nat.le_of_not_lt
abbrev rDC:=@decide_false
abbrev rDD:=@Nat.eq_zero_or_pos
abbrev rDE:=@Bool.or_true
abbrev rDF:=@Array.mem_of_getElem?
abbrev rDG:=@decide_true
abbrev rDH:=@Nat.pow_add
abbrev rDI:=@List.mem_of_mem_drop
abbrev rDJ:=@beq_iff_eq
abbrev rDK:=@Nat.mod_lt
abbrev rDL:=@Bool.true_or
abbrev rDM:=@Array.eq_empty_of_size_eq_zero
abbrev rDN:=@Nat.lt_irrefl
abbrev rDO:=@List.length_pos_iff
abbrev rDP:=@Bool.true_and
abbrev rDQ:=@Bool.and_true
abbrev rDR:=@Nat.div_eq_of_lt
abbrev rDS:=@List.ext_getElem
abbrev rDT:=@List.nodup_nil
abbrev rDU:=@List.drop_eq_nil_of_le
abbrev rDV:=@List.filter_append
abbrev rDW:=@Rat.add_zero
abbrev rDX:=@Nat.mul_ne_zero
abbrev rDY:=@Nat.div_le_self
abbrev rDZ:=@Int.sign_eq_neg_one_of_neg
abbrev rD0:=@Int.fdiv_eq_ediv_of_nonneg
abbrev rD1:=@Bool.or_eq_false_iff
abbrev rD2:=@List.getLast?_eq_getElem?
abbrev rD3:=@Nat.lt_of_not_le
abbrev rD4:=@List.getElem_map
abbrev rD5:=@Array.toList_map
abbrev rD6:=@Nat.pow_pos
abbrev rD7:=@List.take_set_of_le
abbrev rD8:=@Nat.succ_mul
abbrev rD9:=@Nat.le_of_lt
abbrev rEA:=@Rat.natCast_mul
abbrev rEB:=@Nat.lt_or_gt_of_ne
abbrev rEC:=@Nat.div_add_mod
abbrev rED:=@List.sum_append
abbrev rEE:=@List.nodup_cons
abbrev rEF:=@Rat.intCast_le_intCast
abbrev rEG:=@Int.sign_eq_one_of_pos
abbrev rEH:=@bne_iff_ne
abbrev rEI:=@Nat.lt_succ_of_lt
abbrev rEJ:=@List.getElem?_set
abbrev rEK:=@List.foldl_append
abbrev rEL:=@Bool.not_eq_true'
abbrev rEM:=@true_and
abbrev rEN:=@Rat.mul_nonneg
abbrev rEO:=@Int.natAbs_mul
abbrev rEP:=@Nat.add_comm
abbrev rEQ:=@List.map_nil
abbrev rER:=@List.mem_flatMap
abbrev rES:=@Nat.pow_le_pow_right
abbrev rET:=@Nat.add_mul_div_left
abbrev rEU:=@List.contains_eq_mem
abbrev rEV:=@List.map_id
abbrev rEW:=@List.length_set
abbrev rEX:=@Nat.add_mul_mod_self_right
abbrev rEY:=@Int.tmod_eq_emod_of_nonneg
abbrev rEZ:=@Int.tdiv_eq_ediv_of_nonneg
abbrev rE0:=@or_false
abbrev rE1:=@Rat.sub_eq_add_neg
abbrev rE2:=@Nat.zero_mul
abbrev rE3:=@Nat.lt_of_le_of_lt
abbrev rE4:=@List.getElem_range
abbrev rE5:=@Rat.mkRat_self
abbrev rE6:=@Nat.add_mul_mod_self_left
abbrev rE7:=@false_and
abbrev rE8:=@Int.lt_trichotomy
abbrev rE9:=@and_true
abbrev rFA:=@Nat.mul_one
abbrev rFB:=@List.filter_cons_of_neg
abbrev rFC:=@List.drop_length
abbrev rFD:=@List.length_eq_one_iff
abbrev rFE:=@Nat.min_eq_left
abbrev rFF:=@Nat.div_lt_of_lt_mul
abbrev rFG:=@Array.mem_toList_iff
abbrev rFH:=@Nat.mul_le_mul
abbrev rFI:=@Rat.mkRat_add_mkRat
abbrev rFJ:=@Int.le_refl
abbrev rFK:=@of_decide_eq_false
abbrev rFL:=@Nat.gcd_zero_right
abbrev rFM:=@List.pairwise_cons
abbrev rFN:=@List.getElem?_take
abbrev rFO:=@List.contains_cons
abbrev rFP:=@Array.foldl_toList
abbrev rFQ:=@Nat.eq_zero_of_gcd_eq_zero_right
abbrev rFR:=@Rat.not_lt
abbrev rFS:=@List.size_toArray
abbrev rFT:=@List.nodup_append
abbrev rFU:=@Array.getElem?_setIfInBounds_ne
abbrev rFV:=@List.any_map
abbrev rFW:=@Rat.mul_le_mul_of_nonneg_left
abbrev rFX:=@Nat.le_add_right
abbrev rFY:=@Nat.gcd_dvd_left
abbrev rFZ:=@List.take_append_of_le_length
abbrev rF0:=@Option.some.inj
abbrev rF1:=@Nat.two_pow_add_eq_or_of_lt
abbrev rF2:=@Nat.one_mul
abbrev rF3:=@Nat.mul_lt_mul_of_pos_right
abbrev rF4:=@List.take_left'
abbrev rF5:=@List.range_succ
abbrev rF6:=@List.cons.injEq
abbrev rF7:=@List.any_append
abbrev rF8:=@Int.sign_natCast_of_ne_zero
abbrev rF9:=@Int.neg_mul
abbrev rGA:=@Option.ne_none_iff_exists'
abbrev rGB:=@List.exists_cons_of_ne_nil
abbrev rGC:=@Array.getElem?_append_left
abbrev rGD:=@Option.isNone_iff_eq_none
abbrev rGE:=@List.pairwise_iff_getElem
abbrev rGF:=@List.mem_of_find?_eq_some
abbrev rGG:=@List.drop_zero
abbrev rGH:=@List.drop_drop
abbrev rGI:=@Decidable.byContradiction
abbrev rGJ:=@List.getElem_append_left
abbrev rGK:=@Array.setIfInBounds_comm
abbrev rGL:=@Array.getElem?_replicate
abbrev rGM:=@Rat.neg_mkRat
abbrev rGN:=@Prod.mk.injEq
abbrev rGO:=@Option.bind_eq_some_iff
abbrev rGP:=@Nat.mul_div_cancel_left
abbrev rGQ:=@List.getLast?_cons_cons
abbrev rGR:=@List.getElem?_replicate
abbrev rGS:=@List.filter_cons_of_pos
abbrev rGT:=@Nat.div_div_eq_div_mul
theorem rGU:True:=trivial
theorem zom{p:Prop}(h:p:=by omega):p:=h
theorem zdd{p:Prop}(h:p:=by decide):p:=h
theorem zsm{p:Prop}(h:p:=by simp):p:=h
inductive PV where
 | int (k:IntKind) (n:Int)
 | bool (b:Bool)
 | str (s:ByteArray)
 | agg (cs:List PV)
 | imm (es:List PV)
 | nilsl
 | own (r off len:Nat)
 | ptr (r i off:Nat)
 | cptr (e:PV) (off:Nat)
 | func (fn:Fn) (first captured:List PV)
 | nilfunc
 | raw (v:Value)
 | tup (vs:List PV)
 | anyb
 | any
 deriving Inhabited
def PV.cells:PV->List PV
 | .agg cs=>cs
 | v=>[v]
def PV.isAgg:PV->Bool
 | .agg _=>true
 | _=>false
@[simp] theorem PV.cells_agg (cs:List PV):(PV.agg cs).cells=cs:=rfl
@[simp] theorem PV.isAgg_agg (cs:List PV):(PV.agg cs).isAgg=true:=rfl
structure Blk where
 els:List PV
 sz:Nat
 agg:Bool
def vC7(i:Nat):Blk:=⟨[.int .i64 i],1,false⟩
abbrev Tm:=Nat->PV
abbrev Hp:=Nat->Option Blk
abbrev Fz:=Nat->Bool
abbrev Gl:=Nat->Option PV
def vF7(t:Tm)(d:Nat)(v:PV):Tm:=fun j=>if j=d then v else t j
def hset(h:Hp)(r:Nat)(b:Option Blk):Hp:=fun j=>if j=r then b else h j
def vCG(z:Fz)(ks:List Nat):Fz:=fun j=>ks.contains j || z j
structure St where
 t:Tm
 h:Hp
 z:Fz
 nx:Nat
def vD6:Value->PV
 | .int k n=>.int k n
 | .bool b=>.bool b
 | .string s=>.str s
 | .slice none 0 0=>.nilsl
 | .nilFunc=>.nilfunc
 | .tuple ⟨[]⟩=>.tup []
 | .func fn ⟨[]⟩ ⟨[]⟩=>.func fn [] []
 | _=>.any
def vEC:Value->PV
 | .agg cs=>.agg (cs.toList.map vD6)
 | v=>vD6 v
def ev(G:Gl)(t:Tm):Operand->PV
 | .tmp i=>t i
 | .const v=>vD6 v
 | .global g=>match G g with
   | some e=>.cptr e 0
   | none=>.any
 | .func f=>.func (.func f) [] []
structure TI where
 size:Nat
 bytes:Nat
 agg:Bool
 elem:Nat
 kind:Option IntKind
 fields:List (Nat×Nat×Nat)   -- offset,type,size
 zero:PV
 zok:Bool
 isSlice:Bool
 isStruct:Bool
 isBool:Bool
 isStr:Bool
 alen:Nat
 eqInts:Bool
 deriving Inhabited
def PV.storable:PV->Bool
 | .any | .anyb | .tup _ | .raw _=>false
 | _=>true
def vA6(P:Program)(t:TypeId):TI :=
 let d:=P.underlying t
 let z:PV:=match P.info? t with | some i=>(match i.zero with | some v=>vEC v | none=>.any) | none=>.any
 {
  size:=match d with | some _=>P.cellsOf t | none=>0
  bytes:=P.bytesOf t
  agg:=match d with | some (.struct _) | some (.array _ _)=>true | _=>false
  elem:=match d with | some (.slice e)=>e | some (.array _ e)=>e | _=>0
  kind:=match d with | some (.int k)=>some k | _=>none
  fields:=match d with | some (.struct fs)=>fs.toList.map fun f=>(f.offset,f.type,P.cellsOf f.type) | _=>[]
  zero:=z
  zok:=z.storable && z.cells.all PV.storable
  isSlice:=match d with | some (.slice _)=>true | _=>false
  isStruct:=match d with | some (.struct fs)=>fs.toList.all fun f=>(P.info? f.type).isSome | _=>false
  isBool:=match d with | some .bool=>true | _=>false
  isStr:=match d with | some .string=>true | _=>false
  alen:=match d with | some (.array n _)=>n | _=>0
  eqInts:=match d with
   | some (.struct fs) => fs.toList.zipIdx.all (fun (f, i) => f.name != "_" && f.offset == i && (match P.underlying f.type with | some (.int _) => true | _ => false)) && !P.stoodInHeld t && !P.eqGuardType P.depth t
   | _=>false }
def part(e:PV)(off n:Nat)(agg:Bool):Option PV :=
 if off=0/\e.cells.length=n/\e.isAgg=agg then some e
 else if off+n<=e.cells.length then
  (if agg then some (.agg ((e.cells.drop off).take n)) else if n=1 then e.cells[off]? else none)
 else none
def splice(e:PV)(off:Nat)(v:PV):Option PV :=
 if off=0/\e.cells.length=v.cells.length/\e.isAgg=v.isAgg then some v
 else if off+v.cells.length<=e.cells.length/\e.isAgg=true then some (.agg (e.cells.take off++v.cells++e.cells.drop (off+v.cells.length)))
 else none
abbrev Res:=Option (PV×Hp×List Nat×List Nat)   -- the value,the heap,the keys read,the keys written
def need(c:Prop)[Decidable c](x:Res):Res:=if c then x else none
def arith(op:BinOp)(k:IntKind)(x y:Int):Option PV :=
 match op with
 | .add=>some (.int k (k.wrap (x+y)))
 | .sub=>some (.int k (k.wrap (x - y)))
 | .mul=>some (.int k (k.wrap (x * y)))
 | .eql=>some (.bool (x == y))
 | .neq=>some (.bool (x != y))
 | .lss=>some (.bool (decide (x<y)))
 | .leq=>some (.bool (decide (x<=y)))
 | .gtr=>some (.bool (decide (x > y)))
 | .geq=>some (.bool (decide (x>=y)))
 | .and=>some (.int k (k.wrap (BitVec.ofInt k.bits x &&& BitVec.ofInt k.bits y).toNat))
 | .or=>some (.int k (k.wrap (BitVec.ofInt k.bits x ||| BitVec.ofInt k.bits y).toNat))
 | .xor=>some (.int k (k.wrap (BitVec.ofInt k.bits x ^^^ BitVec.ofInt k.bits y).toNat))
 | .andNot=>some (.int k (k.wrap (BitVec.ofInt k.bits x &&& ~~~BitVec.ofInt k.bits y).toNat))
 | _=>none
def vKQ(fs:List (Nat×Nat×Nat)):List PV->List (Nat×PV)->Option (List PV)
 | cells,[]=>some cells
 | cells,(i,v)::rest =>
   match fs[i]? with
   | none=>none
   | some (off,_,size) =>
     if v.storable=true/\v.cells.length=size/\off+size<=cells.length then vKQ fs (cells.take off++v.cells++cells.drop (off+size)) rest else none
def vNA(sz:Nat)(agg:Bool):List PV->List (Nat×PV)->Option (List PV)
 | els,[]=>some els
 | els,(i,v)::rest=>if v.storable=true/\v.cells.length=sz/\v.isAgg=agg/\i<els.length then vNA sz agg (els.set i v) rest else none
def vI2(h:Hp):PV->Option (List PV×List Nat)
 | .imm es=>some (es,[])
 | .nilsl=>some ([],[])
 | .own r off len=>match h r with
   | some b=>if off+len<=b.els.length then some ((b.els.drop off).take len,[r]) else none
   | none=>none
 | _=>none
def vC8:List PV->List PV->Option Bool
 | [],[]=>some true
 | .int k a::as,.int k' b::bs=>if k=k' then(vC8 as bs).map fun r=>(a == b) && r else none
 | _,_=>none
def isNil:PV->Option PV
 | .nilsl=>some (.bool true)
 | .imm []=>some .anyb
 | .imm (_::_)=>some (.bool false)
 | .own _ _ len=>some (if len=0 then .anyb else .bool false)
 | _=>none
def uPT:PV->PV
 | .bool b=>.bool (!b)
 | v=>v
def vA4 (P:Program) (G:Gl) (z:Fz) (key:Nat) (op:Op) (t:Tm) (h:Hp):Res :=
 match op with
 | .move x | .assign x=>some (ev G t x,h,[],[])
 | .pick c a b=>match ev G t c with
   | .bool v=>some (if v then ev G t a else ev G t b,h,[],[])
   | _=>none
 | .alloc e =>
   let i:=vA6 P e
   need (i.zok=true) (some (.ptr key 0 0,hset h key (some ⟨[i.zero],i.zero.cells.length,i.zero.isAgg⟩),[],[key]))
 | .box _ x =>
   let v:=ev G t x
   need (v.storable=true) (some (.ptr key 0 0,hset h key (some ⟨[v],v.cells.length,v.isAgg⟩),[],[key]))
 | .build ty parts =>
   let i:=vA6 P ty
   match i.alen with
   | 0=>need (i.zok=true/\i.isStruct=true) (match vKQ i.fields i.zero.cells (parts.toList.map fun(j,x)=>(j,ev G t x)) with
     | some cs=>some (.agg cs,h,[],[])
     | none=>none)
   | n=>need (i.zok=true/\(vA6 P i.elem).size≠0) (match vKQ ((List.range n).map fun j=>(j * (vA6 P i.elem).size,i.elem,(vA6 P i.elem).size)) i.zero.cells (parts.toList.map fun(j,x)=>(j,ev G t x)) with
     | some cs=>some (.agg cs,h,[],[])
     | none=>none)
 | .buildSlice ty len parts =>
   let e:=vA6 P (vA6 P ty).elem
   need (len * e.size<=2 ^ 24/\e.zok=true/\(vA6 P ty).isSlice=true/\e.zero.cells.length=e.size/\e.zero.isAgg=e.agg/\e.size≠0) <|
   (match vNA e.size e.agg (List.replicate len e.zero) (parts.toList.map fun(j,x)=>(j,ev G t x)) with
   | some els=>some (.own key 0 len,hset h key (some ⟨els,e.size,e.agg⟩),[],[key])
   | none=>none)
 | .load ty x =>
   let i:=vA6 P ty
   (match ev G t x with
   | .ptr r j off=>(match h r with
     | some b=>(match b.els[j]? with
       | some e=>(part e off i.size i.agg).map fun v=>(v,h,[r],[])
       | none=>none)
     | none=>none)
   | .cptr e off=>(part e off i.size i.agg).map fun v=>(v,h,[],[])
   | _=>none)
 | .store ty x y =>
   let v:=ev G t y
   (match ev G t x with
   | .ptr r j off=>(match h r with
     | some b=>(match b.els[j]? with
       | some e=>need (z r=false/\v.storable=true/\v.cells.length=(vA6 P ty).size/\(vA6 P ty).size≠0) <|
         (splice e off v).map fun e'=>(.tup [],hset h r (some { b with els:=b.els.set j e' }),[r],[r])
       | none=>none)
     | none=>none)
   | _=>none)
 | .nilCheck x=>(match ev G t x with
   | .ptr r i off=>some (.ptr r i off,h,[],[])
   | .cptr e off=>some (.cptr e off,h,[],[])
   | _=>none)
 | .binOp op xt x y _=>(match ev G t x,ev G t y with
   | .int k a,.int k' b =>
     if k=k' then
      (match op with
      | .quo=>need (b≠0) (some (.int k (k.wrap (a.tdiv b)),h,[],[]))
      | .rem=>need (b≠0) (some (.int k (a.tmod b),h,[],[]))
      | .shl=>need (0<=b) (some (.int k (k.wrap (a * 2 ^ (min b.toNat k.bits))),h,[],[]))
      | .shr=>need (0<=b) (some (.int k (a.fdiv (2 ^ (min b.toNat k.bits))),h,[],[]))
      | _=>(arith op k a b).map fun v=>(v,h,[],[]))
     else(match op with
      | .shl=>need (0<=b) (some (.int k (k.wrap (a * 2 ^ (min b.toNat k.bits))),h,[],[]))
      | .shr=>need (0<=b) (some (.int k (a.fdiv (2 ^ (min b.toNat k.bits))),h,[],[]))
      | _=>none)
   | .bool a,.bool b=>(match op with
     | .eql=>need ((vA6 P xt).isBool=true) (some (.bool (a == b),h,[],[]))
     | .neq=>need ((vA6 P xt).isBool=true) (some (.bool (a != b),h,[],[]))
     | _=>none)
   | .agg as,.agg bs=>(match op with
     | .eql=>need ((vA6 P xt).eqInts=true/\as.length=(vA6 P xt).fields.length/\bs.length=(vA6 P xt).fields.length) ((vC8 as bs).map fun r=>(.bool r,h,[],[]))
     | .neq=>need ((vA6 P xt).eqInts=true/\as.length=(vA6 P xt).fields.length/\bs.length=(vA6 P xt).fields.length) ((vC8 as bs).map fun r=>(.bool (!r),h,[],[]))
     | _=>none)
   | v,.nilsl=>(match op with
     | .eql=>need ((vA6 P xt).isSlice=true) ((isNil v).map fun r=>(r,h,[],[]))
     | .neq=>need ((vA6 P xt).isSlice=true) ((isNil v).map fun r=>(uPT r,h,[],[]))
     | _=>none)
   | _,_=>none)
 | .unOp op _ x=>(match op,ev G t x with
   | .not,.bool b=>some (.bool (!b),h,[],[])
   | .neg,.int k n=>some (.int k (k.wrap (0 - n)),h,[],[])
   | _,_=>none)
 | .convert src dst x=>(match (vA6 P src).kind,(vA6 P dst).kind,ev G t x with
   | some _,some k,.int _ n=>some (.int k (k.wrap n),h,[],[])
   | _,_,_=>none)
 | .makeFunc fn first captured=>some (.func fn (first.toList.map (ev G t)) (captured.toList.map (ev G t)),h,[],[])
 | .makeSlice ty l c =>
   let e:=vA6 P (vA6 P ty).elem
   (match ev G t l,ev G t c with
   | .int .i64 n,.int .i64 m=>need (n=m/\0<=n/\n<=2 ^ 32/\e.bytes<=4096/\e.zok=true/\(vA6 P ty).isSlice=true/\e.zero.cells.length=e.size/\e.zero.isAgg=e.agg/\e.size≠0) (some (.own key 0 n.toNat,hset h key (some ⟨List.replicate n.toNat e.zero,e.size,e.agg⟩),[],[key]))
   | _,_=>none)
 | .slice ty x lo hi none =>
   let lo':Option Int:=match lo with
    | none=>some 0
    | some o=>match ev G t o with | .int _ n=>some n | _=>none
   let size:=(vA6 P (vA6 P ty).elem).size
   (match ev G t x with
   | .imm es =>
     let hi':Option Int:=match hi with
      | none=>some es.length
      | some o=>match ev G t o with | .int _ n=>some n | _=>none
     (match lo',hi' with
     | some a,some b=>need ((vA6 P ty).isSlice=true/\(∀ e∈es,e.cells.length=size)/\0<=a/\a<=b/\b<=es.length/\size≠0) (some (.imm ((es.take b.toNat).drop a.toNat),h,[],[]))
     | _,_=>none)
   | .own r off len =>
     let hi':Option Int:=match hi with
      | none=>some len
      | some o=>match ev G t o with | .int _ n=>some n | _=>none
     (match lo',hi' with
     | some a,some b=>(match h r with
       | some k=>need ((vA6 P ty).isSlice=true/\k.sz=size/\0<=a/\a<=b/\b<=len/\size≠0) (some (.own r (off+a.toNat) (b.toNat - a.toNat),h,[r],[]))
       | none=>none)
     | _,_=>none)
   | _=>none)
 | .fieldAddr s x f=>(match (vA6 P s).fields[f]?,ev G t x with
   | some (o,_,n),.ptr r j off=>need (n≠0) (some (.ptr r j (off+o),h,[],[]))
   | some (o,_,n),.cptr e off=>need (n≠0) (some (.cptr e (off+o),h,[],[]))
   | _,_=>none)
 | .field s x f=>(match (vA6 P s).fields[f]?,ev G t x with
   | some (o,ty,_),.agg cs=>(part (.agg cs) o (vA6 P ty).size (vA6 P ty).agg).map fun v=>(v,h,[],[])
   | _,_=>none)
 | .indexAddr ty x ix =>
   let i:=vA6 P ty
   (match ev G t x,ev G t ix with
   | .imm es,.int _ n=>need (i.isSlice=true/\0<=n/\n<es.length) (match es[n.toNat]? with
     | some e=>need (e.cells.length=(vA6 P i.elem).size/\(vA6 P i.elem).size≠0) (some (.cptr e 0,h,[],[]))
     | none=>none)
   | .own r off len,.int _ n=>need (i.isSlice=true/\0<=n/\n<len) (match h r with
     | some b=>need (b.sz=(vA6 P i.elem).size/\(vA6 P i.elem).size≠0) (some (.ptr r (off+n.toNat) 0,h,[r],[]))
     | none=>none)
   | .cptr e off,.int _ n=>need (i.alen≠0/\0<=n/\n<i.alen/\(vA6 P i.elem).size≠0) (some (.cptr e (off+n.toNat * (vA6 P i.elem).size),h,[],[]))
   | .ptr r j off,.int _ n=>need (i.alen≠0/\0<=n/\n<i.alen/\(vA6 P i.elem).size≠0) (some (.ptr r j (off+n.toNat * (vA6 P i.elem).size),h,[],[]))
   | _,_=>none)
 | .index ty x ix =>
   let i:=vA6 P ty
   (match ev G t x,ev G t ix with
   | .agg cs,.int _ n=>need (i.alen≠0/\0<=n/\n<i.alen/\(vA6 P i.elem).size≠0) ((part (.agg cs) (n.toNat * (vA6 P i.elem).size) (vA6 P i.elem).size (vA6 P i.elem).agg).map fun v=>(v,h,[],[]))
   | .str s,.int _ n=>need (i.isStr=true/\0<=n) ((s[n.toNat]?).map fun b=>(.int .u8 b.toNat,h,[],[]))
   | _,_=>none)
 | .extract x i=>(match ev G t x with
   | .tup vs=>(vs[i]?).map fun v=>(v,h,[],[])
   | _=>none)
 | .call { callee:=.builtin .len,args:=⟨[x]⟩,argTypes:=⟨[ty]⟩ }=>need ((vA6 P ty).isSlice=true) (match ev G t x with
   | .imm es=>some (.int .i64 es.length,h,[],[])
   | .own _ _ len=>some (.int .i64 len,h,[],[])
   | .nilsl=>some (.int .i64 0,h,[],[])
   | _=>none)
 | .call { callee:=.builtin .max,args:=⟨[x,y]⟩,argTypes:=_ }=>(match ev G t x,ev G t y with
   | .int k a,.int _ b=>some (.int k (if b > a then b else a),h,[],[])
   | _,_=>none)
 | .call { callee:=.builtin .min,args:=⟨[x,y]⟩,argTypes:=_ }=>(match ev G t x,ev G t y with
   | .int k a,.int _ b=>some (.int k (if b<a then b else a),h,[],[])
   | _,_=>none)
 | .call { callee:=.builtin .append,args:=⟨[x,y]⟩,argTypes:=⟨[ty,ty2]⟩ } =>
   let e:=vA6 P (vA6 P ty).elem
   (match vI2 h (ev G t y) with
   | some (es,ks)=>need ((∀ e'∈es,e'.cells.length=e.size/\e'.isAgg=e.agg)/\e.bytes<=4096/\e.zok=true/\(vA6 P ty).isSlice=true/\(vA6 P ty2).isSlice=true/\e.zero.cells.length=e.size/\e.size≠0) (match ev G t x with
     | .nilsl=>need (es.length<=2 ^ 32) (some (.own key 0 es.length,hset h key (some ⟨es,e.size,e.agg⟩),ks,[key]))
     | .own r off len=>(match h r with
       | some b=>need (off=0/\len=b.els.length/\b.sz=e.size/\b.agg=e.agg/\z r=false/\ks.contains r=false/\len+es.length<=2 ^ 32)
        (some (.own key 0 (len+es.length),hset (hset h r none) key (some ⟨b.els++es,e.size,e.agg⟩),r::ks,[r,key]))
       | none=>none)
     | _=>none)
   | none=>none)
 | _=>none
def vB7(f:PV->Option (PV×List Nat)):List PV->Option (List PV×List Nat)
 | []=>some ([],[])
 | v::vs=>match f v,vB7 f vs with
   | some (d,ks),some (ds,ls)=>some (d::ds,ks++ls)
   | _,_=>none
def frz(h:Hp):Nat->PV->Option (PV×List Nat)
 | _,.int k n=>some (.int k n,[])
 | _,.bool b=>some (.bool b,[])
 | _,.str s=>some (.str s,[])
 | _,.imm es=>some (.imm es,[])
 | _,.nilsl=>some (.imm [],[])
 | _,.nilfunc=>some (.nilfunc,[])
 | _,.raw v=>some (.raw v,[])
 | _,.cptr e off=>some (.cptr e off,[])
 | n + 1,.ptr r i off=>match h r with
   | some b=>(match b.els[i]? with
     | some e=>(match frz h n e with
       | some (d,ks)=>some (.cptr d off,r::ks)
       | none=>none)
     | none=>none)
   | none=>none
 | n+1,.func fn f c=>match vB7 (frz h n) f,vB7 (frz h n) c with
   | some (fs,ks),some (cs,ls)=>some (.func fn fs cs,ks++ls)
   | _,_=>none
 | n+1,.agg cs=>match vB7 (frz h n) cs with
   | some (ds,ks)=>some (.agg ds,ks)
   | none=>none
 | n+1,.tup cs=>match vB7 (frz h n) cs with
   | some (ds,ks)=>some (.tup ds,ks)
   | none=>none
 | n + 1,.own r off len=>match h r with
   | some b=>if off+len<=b.els.length then(match vB7 (frz h n) ((b.els.drop off).take len) with
     | some (ds,ks)=>some (.imm ds,r::ks)
     | none=>none) else none
   | none=>none
 | _,_=>none
def cv1(h:Hp)(n:Nat)(q:Option Nat):PV->Option (PV×List Nat)
 | .nilsl=>some (.nilsl,[])
 | .own r off len=>if q=some r then some (.own 0 off len,[]) else frz h n (.own r off len)
 | .ptr r i off=>if q=some r then some (.ptr 0 i off,[]) else frz h n (.ptr r i off)
 | v=>frz h n v
def cv(h:Hp)(n:Nat)(q:Option Nat):PV->Option (PV×List Nat)
 | .agg cs=>match vB7 (cv1 h n q) cs with
   | some (ds,ks)=>some (.agg ds,ks)
   | none=>none
 | .func fn f c=>match vB7 (cv1 h n q) f,vB7 (cv1 h n q) c with
   | some (fs,ks),some (cs,ls)=>some (.func fn fs cs,ks++ls)
   | _,_=>none
 | v=>cv1 h n q v
def rk1(r:Nat):PV->PV
 | .own _ off len=>.own r off len
 | .ptr _ i off=>.ptr r i off
 | v=>v
def rk(r:Nat):PV->PV
 | .agg cs=>.agg (cs.map (rk1 r))
 | .tup cs=>.tup (cs.map (rk1 r))
 | v=>rk1 r v
def uFR:PV->PV
 | .own _ _ _=>.nilsl
 | v=>v
def rkn:PV->PV
 | .agg cs=>.agg (cs.map uFR)
 | .tup cs=>.tup (cs.map uFR)
 | v=>uFR v
def vCQ:PV->List PV
 | .agg cs=>cs
 | .tup cs=>cs
 | v=>[v]
def vD9(h:Hp):Option (Nat×Blk)->Hp
 | none=>h
 | some (r,_)=>hset h r none
def uAN:Option (Nat×Blk)->List Nat
 | none=>[]
 | some (r,_)=>[r]
def nr:Nat->PV->Bool
 | _,.int _ _ | _,.bool _ | _,.str _ | _,.imm _ | _,.nilsl | _,.cptr _ _ | _,.nilfunc | _,.raw _ | _,.anyb | _,.any=>true
 | n+1,.agg cs=>cs.all (nr n)
 | n+1,.tup cs=>cs.all (nr n)
 | n+1,.func _ f c=>f.all (nr n) && c.all (nr n)
 | _,_=>false
def nrs(b:Blk):Prop:=∀ e∈b.els,nr 3 e=true
def nmv(rs:List Nat):PV->PV
 | .own r off len=>.own (rs.getD r 0) off len
 | .ptr r i off=>.ptr (rs.getD r 0) i off
 | v=>v
def nmB(rs:List Nat)(b:Blk):Blk:=⟨b.els.map (nmv rs),b.sz,b.agg⟩
def okE(m:Nat):PV->Prop
 | .own r _ _=>r<m
 | .ptr r _ _=>r<m
 | v=>nr 3 v=true
def vE4(rs0:List Nat)(h:Hp):List Nat->List Blk->Hp
 | r::rs,b::bs=>vE4 rs0 (hset h r (some (nmB rs0 b))) rs bs
 | _,_=>h
def uF3(b1:Blk)(res:PV):Prop:=(∀ c∈vCQ res,c=.own 0 0 b1.els.length\/nr 3 c=true)/\.own 0 0 b1.els.length∈vCQ res
def vJ2(b1:Blk)(res:PV):Prop:=uF3 b1 res\/(res=.ptr 0 0 0/\b1.els≠[])
inductive CRes where
 | data (d:PV)
 | fresh (els:List PV) (sz:Nat) (agg:Bool)
 | gh (i j:Nat) (b:Bool)
 | seq (xs:List (List PV))
 | own (b0:Option Blk) (res:PV) (b1:Blk)
 | wrt (b0:Blk) (v:PV) (b1:Blk)
 | frm (bs:List Blk) (v:PV) (bs':List Blk)
def CRes.val(key:Nat):CRes->PV
 | .data d=>d
 | .fresh els _ _=>.own key 0 els.length
 | .gh _ _ b=>.bool b
 | .seq _=>.any
 | .own _ _ _=>.any
 | .wrt _ _ _=>.any
 | .frm _ _ _=>.any
def CRes.heap(key:Nat)(h:Hp):CRes->Hp
 | .data _=>h
 | .fresh els sz agg=>hset h key (some ⟨els,sz,agg⟩)
 | .gh _ j _=>hset h 0 (some (vC7 j))
 | .seq _=>h
 | .own _ _ _=>h
 | .wrt _ _ _=>h
 | .frm _ _ _=>h
def CRes.keys(key:Nat):CRes->List Nat
 | .data _=>[]
 | .fresh _ _ _=>[key]
 | .gh _ _ _=>[0]
 | .seq _=>[]
 | .own _ _ _=>[]
 | .wrt _ _ _=>[]
 | .frm _ _ _=>[]
def CRes.rds:CRes->List Nat
 | .gh _ _ _=>[0]
 | _=>[]
def CRes.isGh:CRes->Bool
 | .gh _ _ _=>true
 | _=>false
def CRes.ok(h:Hp):CRes->Prop
 | .gh i _ _=>h 0=some (vC7 i)
 | .seq _=>False
 | .own _ _ _=>False
 | .wrt _ _ _=>False
 | .frm _ _ _=>False
 | _=>True
structure FP where
 rd:List Nat
 wr:List Nat
 fz:List Nat
def FP.apart(a b:FP):Bool :=
 a.wr.all (fun k=>!b.rd.contains k && !b.wr.contains k && !b.fz.contains k) && b.wr.all (fun k=>!a.rd.contains k && !a.fz.contains k)
def put(s:St)(d:Option Nat)(v:PV):St :=
 match d with
 | some d=>{ s with t:=vF7 s.t d v }
 | none=>s
def vCZ(ops:List Oper):Nat->Oper->Nat->Bool
 | 0,_,_=>false
 | f+1,o,k=>o.after.any (fun e=>e.on == k && Region.binds .any e) || o.after.any fun e=>Region.binds .any e && (match ops[e.on]? with
   | some o'=>vCZ ops f o' k
   | none=>false)
def vCC(ops:List Oper)(o:Oper)(fp:FP)(acc:List (Nat×FP)):Bool :=
 acc.all fun(k,f)=>vCZ ops 4 o k || FP.apart f fp
abbrev LeT:=(Nat->St->St->Prop)×Nat
def uJ2(h:Hp)(z:Fz)(rs:List Nat)(bs bs':List Blk)(ds:List PV):Prop :=
 rs.Nodup/\bs.length=rs.length/\bs'.length=rs.length /\
 (∀ j b,bs[j]?=some b->h (rs.getD j 0)=some (nmB rs b)/\z (rs.getD j 0)=false/\(0<rs.getD j 0\/∀ i,nmB rs b≠vC7 i)) /\
 (∀ b∈bs,∀ e∈b.els,okE rs.length e)/\(∀ b∈bs',∀ e∈b.els,okE rs.length e)/\∀ d∈ds,okE rs.length d
abbrev vA8:=FuncId->List PV->CRes->Prop
abbrev vB1:=FuncId->List PV->(PV->St->Prop)->St->Prop
section
variable (P:Program) (G:Gl) (C:vA8) (I:vB1) (Le:LeT) (D:Bool)
def vFA(f:FuncId)(args:List PV)(dst:Option Nat)(K:FP->St->Prop)(s:St):Prop :=
 (∃ n ds ks r,vB7 (frz s.h n) args=some (ds,ks)/\C f ds r/\r.ok s.h /\
   K ⟨r.rds++ks,r.keys s.nx,ks⟩ (put { s with h:=r.heap s.nx s.h,z:=vCG s.z ks,nx:=s.nx+1 } dst (r.val s.nx))) \/
 (D=false/\I f args (fun v s'=>K ⟨[],[],[]⟩ (put { s' with t:=s.t } dst v)) s) \/
 (∃ n ds ks q res b1,vB7 (cv s.h n (q.map (·.1))) args=some (ds,ks)/\C f ds (.own (q.map (·.2)) res b1)/\(∀ r b,q=some (r,b)->s.h r=some b/\s.z r=false/\r∉ks/\nrs b) /\
   K ⟨uAN q++ks,uAN q++[s.nx],ks⟩ (put { s with h:=hset (vD9 s.h q) s.nx (some b1),z:=vCG s.z ks,nx:=s.nx+1 } dst (rk s.nx res))) \/
 (∃ n ds ks r b0 v b1,vB7 (cv s.h n (some r)) args=some (ds,ks)/\C f ds (.wrt b0 v b1)/\(s.h r=some b0/\s.z r=false/\r∉ks/\nrs b0/\(0<r\/b1=b0\/∀ i,b0≠vC7 i)) /\
   K ⟨r::ks,[r],ks⟩ (put { s with h:=hset s.h r (some b1),z:=vCG s.z ks,nx:=s.nx+1 } dst v)) \/
 (∃ ds rs bs v bs',args=ds.map (nmv rs)/\C f ds (.frm bs v bs')/\uJ2 s.h s.z rs bs bs' ds /\
   K ⟨rs,rs,[]⟩ (put { s with h:=vE4 rs s.h rs bs',z:=vCG s.z [],nx:=s.nx+1 } dst v))
def vLG(l:Nat)(args:List PV)(dst:Option Nat)(K:FP->St->Prop)(s:St):Prop :=
 ∃ n ds ks i j b,vB7 (frz s.h n) args=some (ds,ks)/\C l (.anyb::ds) (.gh i j b)/\s.h 0=some (vC7 i) /\
   K ⟨0::ks,[0],ks⟩ (put { s with h:=hset s.h 0 (some (vC7 j)),z:=vCG s.z ks,nx:=s.nx+1 } dst (.bool b))
def vE9(o:Oper)(K:FP->St->Prop)(s:St):Prop :=
 match o.op with
 | .call { callee:=.value g,args,argTypes:=_ } =>
   (match ev G s.t g with
   | .func (.func f) first captured=>vFA C I D f (first++args.toList.map (ev G s.t)++captured) o.dst K s
   | .func (.yield l) [] []=>vLG C l (args.toList.map (ev G s.t)) o.dst K s
   | _=>False)
 | op=>match vA4 P G s.z s.nx op s.t s.h with
   | some (v,h',rd,wr)=>K ⟨rd,wr,[]⟩ (put { s with h:=h',nx:=s.nx+1 } o.dst v)
   | none=>False
def wpOps(ops:List Oper):Nat->List (Nat×FP)->List Oper->(St->Prop)->St->Prop
 | _,_,[],K,s=>K s
 | i,acc,o::rest,K,s =>
   let run:=vE9 P G C I D o (fun fp s'=>(D=true->vCC ops o fp acc=true)/\wpOps ops (i+1) ((i,fp)::acc) rest K s') s
   let pass:=wpOps ops (i+1) acc rest K (put { s with nx:=s.nx+1 } o.dst (.tup []))
   match o.guard with
   | none=>run
   | some (j,want)=>match (ops[j]?).bind (·.dst) with
     | some d=>(match s.t d with
       | .bool b=>(b=want->run)/\(b=(!want)->pass)
       | .tup []=>pass
       | _=>False)
     | none=>False
end
def vDS(K:St->Prop)(Q:Exit->St->Prop):Exit->St->Prop
 | .normal,s=>K s
 | e,s=>Q e s
def vDO(Le:LeT)(K:St->Prop)(Q:Exit->St->Prop):Exit->St->Prop
 | .normal,s=>∃ s',Le.1 Le.2 s s'/\K s'
 | e,s=>Q e s
def vDH(id:Nat)(Q:Exit->St->Prop):Exit->St->Prop
 | .exit id',s=>if id'=id then Q .normal s else Q (.exit id') s
 | e,s=>Q e s
def vFQ:Tm->List Tmp->List PV->Tm
 | t,p::ps,x::xs=>vFQ (vF7 t p x) ps xs
 | t,_,_=>t
def vU6(Q:Exit->St->Prop)(t:Tm)(K:Nat->St->Prop)(LeR:St->St->Prop):Nat->Exit->St->Prop
 | 0,.ret,s=>Q .ret { s with t:=t }
 | 0,.exit id,s=>Q (.exit id) { s with t:=t }
 | k+1,.normal,s=>∃ s',LeR s s'/\K k s'
 | _,_,_=>False
def vCA:Op->Bool
 | .move _=>true
 | .load _ _=>true
 | .fieldAddr _ _ _=>true
 | .indexAddr _ _ _=>true
 | .unOp _ _ _=>true
 | _=>false
def vE3:Op->Bool
 | .call { callee:=.value _,args:=_,argTypes:=_ }=>true
 | _=>false
def vE6(o:Oper)(lo hi:Nat):Bool:=o.after.toList.any fun e=>Region.binds .any e && (Nat.ble lo e.on && Nat.ble (e.on+1) hi)
def vFL(c:Nat):Nat->List Oper->Bool
 | _,[]=>true
 | j,o::rest=>(match o.guard with
   | none=>true
   | some _=>false) && ((match Nat.ble (j+1) c with
     | true=>vCA o.op && (rest.take (c - j)).any (fun o'=>vE6 o' j (j+1))
     | false=>(match Nat.beq j c with
       | true=>vE3 o.op
       | false=>vCA o.op && vE6 o c j)) && vFL c (j+1) rest)
def vQD:Nat->List Oper->Option Nat
 | _,[]=>none
 | j,o::rest=>(match vE3 o.op with
   | true=>some j
   | false=>vQD (j+1) rest)
def calm(ops:List Oper):Bool:=match vQD 0 ops with
 | none=>false
 | some c=>vFL c 0 ops
def vDJ(D:Bool)(ops:List Oper):Bool:=match D with
 | false=>false
 | true=>(match calm ops with
   | true=>false
   | false=>true)
section
variable (P:Program) (G:Gl) (C:vA8) (I:vB1)
def vN9(Q:Exit->St->Prop):Exit->St->Prop
 | .goto _,_=>False
 | e,s=>Q e s
def wp:LeT->Code->(Exit->St->Prop)->St->Prop
 | _,.skip,Q,s=>Q .normal s
 | _,.label _,Q,s=>Q .normal s
 | Le,.scope c,Q,s=>wp Le c (vN9 Q) s
 | Le,.seq a b,Q,s=>wp Le a (vDO Le (wp Le b Q) Q) s
 | Le,.cond c a b,Q,s=>(match ev G s.t c with
   | .bool t=>(t=true->wp Le a Q s)/\(t=false->wp Le b Q s)
   | .anyb=>wp Le a Q s/\wp Le b Q s
   | _=>False)
 | Le,.block id c,Q,s=>wp Le c (vDH id Q) s
 | Le,.loop c,Q,s=>∃ s0,Le.1 Le.2 s s0/\∃ n,Nat.rec (motive:=fun _=>St->Prop) (fun _=>False) (fun _ ih s=>wp Le c (vDS (fun s'=>∃ s'',Le.1 Le.2 s' s''/\ih s'') Q) s) n s0
 | _,.exit id,Q,s=>Q (.exit id) s
 | _,.ret,Q,s=>Q .ret s
 | _,.region _ ops D,Q,s=>wpOps P G C I (vDJ D ops.toList) ops.toList 0 [] ops.toList (Q .normal) s
 | Le,.rangeFunc g ps assign body,Q,s1=>∃ s,Le.1 Le.2 s1 s/\(match ev G s.t g with
   | .func (.func f) [] captured=>∃ n ds ks xs k,vB7 (frz s.h n) captured=some (ds,ks)/\C f ds (.seq xs)/\(∀ x∈xs,x.length=ps.size) /\
    List.rec (motive:=fun _=>Nat->St->Prop) (fun _ s'=>Q .normal { s' with t:=s.t })
     (fun x _ ih k s'=>wp (Le.1,s.nx) assign (vDS (wp (Le.1,s.nx) body (vU6 Q s.t ih (Le.1 s.nx) k)) (fun _ _=>False)) { s' with t:=vFQ s.t ps.toList x })
     xs k { s with z:=vCG s.z ks }
   | _=>False)
 | _,_,_,_=>False
end
section
variable {P:Program} {G:Gl} {C:vA8} {I:vB1} {Le:LeT}
theorem zJ0{D:Bool}{o:Oper}{K K':FP->St->Prop}{s:St}(hI:∀ f args (J J':PV->St->Prop) s,(∀ v s,J v s->J' v s)->I f args J s->I f args J' s)
 (hk:∀ fp s,K fp s->K' fp s) (h:vE9 P G C I D o K s):vE9 P G C I D o K' s:=by
 unfold vE9 at *
 split at h
 .split at h
  .rename_i f first captured hg
   rcases h with⟨n,ds,ks,r,h1,h2,h4,h3⟩ | ⟨hd,h⟩ | ⟨n,ds,ks,q,res,b1,h1,h2,h4,h3⟩ | ⟨n,ds,ks,r,b0,v,b1,h1,h2,h4,h3⟩ | ⟨ds,rs,bs,v,bs',h1,h2,h4,h3⟩
   .exact rAW ⟨n,ds,ks,r,h1,h2,h4,hk _ _ h3⟩
   .exact rA0 (rAW ⟨hd,hI _ _ _ _ _ (fun v s h=>hk _ _ h) h⟩)
   .exact rA0 (rA0 (rAW ⟨n,ds,ks,q,res,b1,h1,h2,h4,hk _ _ h3⟩))
   .exact rA0 (rA0 (rA0 (rAW ⟨n,ds,ks,r,b0,v,b1,h1,h2,h4,hk _ _ h3⟩)))
   .exact rA0 (rA0 (rA0 (rA0 ⟨ds,rs,bs,v,bs',h1,h2,h4,hk _ _ h3⟩)))
  .obtain⟨n,ds,ks,i,j,b,h1,h2,h4,h3⟩:=h
   exact⟨n,ds,ks,i,j,b,h1,h2,h4,hk _ _ h3⟩
  .exact h
 .split at h
  .exact hk _ _ h
  .exact h
theorem zOZ{D:Bool}{ops:List Oper}{K K':St->Prop}(hI:∀ f args (J J':PV->St->Prop) s,(∀ v s,J v s->J' v s)->I f args J s->I f args J' s)
 (hk:∀ s,K s->K' s):∀ (l:List Oper) (i:Nat) (acc:List (Nat×FP)) (s:St),wpOps P G C I D ops i acc l K s->wpOps P G C I D ops i acc l K' s
 | [],_,_,_,h=>hk _ h
 | o :: rest,i,acc,s,h=>by
   have ih:=zOZ (D:=D) (ops:=ops) hI hk rest;unfold wpOps at h ⊢
   have run:vE9 P G C I D o (fun fp s'=>(D=true->vCC ops o fp acc=true)/\wpOps P G C I D ops (i+1) ((i,fp)::acc) rest K s') s ->
    vE9 P G C I D o (fun fp s'=>(D=true->vCC ops o fp acc=true)/\wpOps P G C I D ops (i+1) ((i,fp)::acc) rest K' s') s :=
    zJ0 hI fun fp s h=>⟨h.1,ih _ _ _ h.2⟩
   dsimp only at h ⊢
   split at h
   .exact run h
   .split at h
    .split at h
     .exact⟨fun e=>run (h.1 e),fun e=>ih _ _ _ (h.2 e)⟩
     .exact ih _ _ _ h
     .exact h
    .exact h
theorem wp_mono (hI:∀ f args (J J':PV->St->Prop) s,(∀ v s,J v s->J' v s)->I f args J s->I f args J' s) :
 ∀ {Le:LeT} (c:Code) (Q Q':Exit->St->Prop) (s:St),(∀ e s,Q e s->Q' e s)->wp P G C I Le c Q s->wp P G C I Le c Q' s
 | _,.skip,_,_,_,hq,h=>hq _ _ h
 | _,.label _,_,_,_,hq,h=>hq _ _ h
 | _,.seq a b,Q,Q',s,hq,h=>by
   refine wp_mono hI a _ _ s (fun e s h=>?_) h;cases e<;>first | exact hq _ _ h | (obtain⟨s',h1,h2⟩:=h; exact⟨s',h1,wp_mono hI b _ _ s' hq h2⟩)
 | _,.cond c a b,Q,Q',s,hq,h=>by
   unfold wp at *
   split at h
   .exact⟨fun e=>wp_mono hI a _ _ s hq (h.1 e),fun e=>wp_mono hI b _ _ s hq (h.2 e)⟩
   .exact⟨wp_mono hI a _ _ s hq h.1,wp_mono hI b _ _ s hq h.2⟩
   .exact h
 | _,.block id c,Q,Q',s,hq,h=>by
   refine wp_mono hI c _ _ s (fun e s h=>?_) h;cases e<;>simp only[vDH]at *<;>first | exact hq _ _ h | (split<;>rename_i e<;>simp only[e,rCI,rCL]at h<;>exact hq _ _ h)
 | _,.loop c,Q,Q',s,hq,h=>by
   unfold wp at *
   obtain⟨s0,h0,n,h⟩:=h;refine⟨s0,h0,n,?_⟩;clear h0
   induction n generalizing s0 with
   | zero=>exact h
   | succ n ih =>
     refine wp_mono hI c _ _ s0 (fun e s h=>?_) h;cases e<;>first | (obtain⟨s'',h1,h2⟩:=h; exact⟨s'',h1,ih _ h2⟩) | exact hq _ _ h
 | _,.exit id,_,_,_,hq,h=>hq _ _ h
 | _,.ret,_,_,_,hq,h=>hq _ _ h
 | _,.region _ ops D,_,_,_,hq,h=>zOZ hI (fun s h=>hq _ _ h) _ _ _ _ h
 | Le,.rangeFunc g ps assign body,Q,Q',s1,hq,h=>by
   unfold wp at *
   obtain⟨s,hs,h⟩:=h;refine⟨s,hs,?_⟩
   split at h
   .obtain⟨n,ds,ks,xs,k,h1,h2,h3,h4⟩:=h
    refine⟨n,ds,ks,xs,k,h1,h2,h3,?_⟩
    revert h4
    generalize ({ s with z:=vCG s.z ks }:St)=s0;clear h3 h2
    induction xs generalizing k s0 with
    | nil=>exact fun h4=>hq _ _ h4
    | cons x xs ih =>
      intro h4;refine wp_mono hI assign _ _ _ (fun e s1 h=>?_) h4;cases e<;>try exact h
      refine wp_mono hI body _ _ _ (fun e s2 h=>?_) h;cases k with
      | zero=>cases e<;>first | exact hq _ _ h | exact h
      | succ k =>
        cases e<;>first | exact h | skip
        obtain⟨s3,q1,q2⟩:=h;exact⟨s3,q1,ih k s3 q2⟩
   .exact h
 | _,.scope c,_,_,_,hq,h=>wp_mono hI c _ _ _ (fun e s h=>by cases e<;>first | exact hq _ _ h | exact h) h
 | _,.goto _,_,_,_,_,h=>h
 | _,.refuse _,_,_,_,_,h=>h
theorem wp_loop{c:Code}{Q:Exit->St->Prop}{s:St}(hI:∀ f args (J J':PV->St->Prop) s,(∀ v s,J v s->J' v s)->I f args J s->I f args J' s)
 {ι:Type} (S:ι->St) (Inv:ι->Prop) (μ:ι->Nat) (i0:ι) (h0:Inv i0) (hs:Le.1 Le.2 s (S i0))
 (round:∀ i,Inv i->wp P G C I Le c (vDS (fun s'=>∃ i',Inv i'/\μ i'<μ i/\Le.1 Le.2 s' (S i')) Q) (S i)):wp P G C I Le (.loop c) Q s:=by
 refine⟨S i0,hs,?_⟩
 have key:∀ n i,Inv i->μ i<n->Nat.rec (motive:=fun _=>St->Prop) (fun _=>False) (fun _ ih s=>wp P G C I Le c (vDS (fun s'=>∃ s'',Le.1 Le.2 s' s''/\ih s'') Q) s) n (S i):=by
  intro n
  induction n with
  | zero=>intro i _ h; omega
  | succ n ih =>
    intro i hi hn;refine wp_mono hI c _ _ _ (fun e s' h=>?_) (round i hi);cases e<;>first | (obtain⟨i',h1,h2,h3⟩:=h; exact⟨_,h3,ih i' h1 zom⟩) | exact h
 exact⟨_,key _ i0 h0 (rAL _)⟩
end
section
variable {P:Program} {G:Gl} {C:vA8} {I:vB1} {Le:LeT} {Q:Exit->St->Prop} {s:St}
def vIO(P:Program)(G:Gl)(C:vA8)(I:vB1)(Le:LeT)(c:Code)(Q:Exit->St->Prop)(s:St):Prop:=wp P G C I Le (.loop c) Q s
end
attribute [irreducible] vDO
open Go.RowKit
inductive RD(w:World)(A:Nat->Prop):PV->Value->Prop
 | int (k:IntKind) (n:Int):RD w A (.int k n) (.int k n)
 | bool (b:Bool):RD w A (.bool b) (.bool b)
 | str (s:ByteArray):RD w A (.str s) (.string s)
 | agg (cs:List PV) (vs:Array Value) (hl:vs.size=cs.length) (h:∀ i d,cs[i]?=some d->RD w A d (vs.getD i undef)) (h1:∀ i,i<cs.length->(vs.getD i undef).oneCell'=true):RD w A (.agg cs) (.agg vs)
 | tup (cs:List PV) (vs:Array Value) (hl:vs.size=cs.length) (h:∀ i d,cs[i]?=some d->RD w A d (vs.getD i undef)):RD w A (.tup cs) (.tuple vs)
 | imm0 (a:Option Addr) (cap:Nat):RD w A (.imm []) (.slice a 0 cap)
 | imm (es:List PV) (sz b off cap:Nat) (val:Nat->Nat->Value) (hA:A b) (hcap:es.length<=cap) (hsz:∀ e∈es,e.cells.length=sz)
  (hc:∀ i c,i<es.length->c<sz->w.cell? ⟨b,off+i * sz+c,none⟩=some (val i c)/\(val i c).oneCell'=true)
  (h:∀ i e,es[i]?=some e->∀ c d,e.cells[c]?=some d->RD w A d (val i c)):RD w A (.imm es) (.slice (some ⟨b,off,none⟩) es.length cap)
 | cptr (e:PV) (off b o:Nat) (val:Nat->Value) (hA:A b) (hc:∀ c,c<e.cells.length->w.cell? ⟨b,o+c,none⟩=some (val c)/\(val c).oneCell'=true) (h:∀ c d,e.cells[c]?=some d->RD w A d (val c)):RD w A (.cptr e off) (.pointer (some ⟨b,o+off,none⟩))
 | func (fn:Fn) (first captured:List PV) (fs cs:Array Value) (hl:fs.size=first.length) (hl':cs.size=captured.length) (h:∀ i d,first[i]?=some d->RD w A d (fs.getD i undef)) (h':∀ i d,captured[i]?=some d->RD w A d (cs.getD i undef)):RD w A (.func fn first captured) (.func fn fs cs)
 | nilfunc:RD w A .nilfunc .nilFunc
 | raw (v:Value):RD w A (.raw v) v
abbrev Ka:=Nat->Option (Nat×Nat×Nat)   -- a key's block in memory,its elements' size in cells,its capacity in elements
inductive RV(w:World)(A:Nat->Prop)(κ:Ka):PV->Value->Prop
 | data (d:PV) (v:Value) (h:RD w A d v):RV w A κ d v
 | agg (cs:List PV) (vs:Array Value) (hl:vs.size=cs.length) (h:∀ i d,cs[i]?=some d->RV w A κ d (vs.getD i undef)) (h1:∀ i,i<cs.length->(vs.getD i undef).oneCell'=true):RV w A κ (.agg cs) (.agg vs)
 | tup (cs:List PV) (vs:Array Value) (hl:vs.size=cs.length) (h:∀ i d,cs[i]?=some d->RV w A κ d (vs.getD i undef)):RV w A κ (.tup cs) (.tuple vs)
 | nilsl:RV w A κ .nilsl (.slice none 0 0)
 | own (r off len m sz cap:Nat) (a:Option Addr) (hk:κ r=some (m,sz,cap)) (hle:off+len<=cap) (ha:a=some ⟨m,off * sz,none⟩\/cap=off):RV w A κ (.own r off len) (.slice a len (cap - off))
 | ptr (r i off m sz cap:Nat) (hk:κ r=some (m,sz,cap)):RV w A κ (.ptr r i off) (.pointer (some ⟨m,i * sz+off,none⟩))
 | func (fn:Fn) (first captured:List PV) (fs cs:Array Value) (hl:fs.size=first.length) (hl':cs.size=captured.length) (h:∀ i d,first[i]?=some d->RV w A κ d (fs.getD i undef)) (h':∀ i d,captured[i]?=some d->RV w A κ d (cs.getD i undef)):RV w A κ (.func fn first captured) (.func fn fs cs)
 | anyb (b:Bool):RV w A κ .anyb (.bool b)
 | any (v:Value):RV w A κ .any v
theorem RD.mono{w w':World}{A A':Nat->Prop}(hA:∀ b,A b->A' b)(hc:∀ b o,A b->w'.cell? ⟨b,o,none⟩=w.cell? ⟨b,o,none⟩){d:PV}{v:Value}(h:RD w A d v):RD w' A' d v:=by
 induction h with
 | int k n=>exact .int k n
 | bool b=>exact .bool b
 | str s=>exact .str s
 | agg cs vs hl _ h1 ih=>exact .agg cs vs hl ih h1
 | tup cs vs hl _ ih=>exact .tup cs vs hl ih
 | imm0 a cap=>exact .imm0 a cap
 | imm es sz b off cap val hb hcap hsz hcell _ ih=>exact .imm es sz b off cap val (hA b hb) hcap hsz (fun i c hi hc'=>⟨by rw[hc b _ hb]; exact(hcell i c hi hc').1,(hcell i c hi hc').2⟩) ih
 | cptr e off b o val hb h1 _ ih=>exact .cptr e off b o val (hA b hb) (fun c hc'=>⟨by rw[hc b _ hb]; exact(h1 c hc').1,(h1 c hc').2⟩) ih
 | func fn f c fs cs hl hl' _ _ ih ih'=>exact .func fn f c fs cs hl hl' ih ih'
 | nilfunc=>exact .nilfunc
 | raw v=>exact .raw v
theorem RV.mono{w w':World}{A A':Nat->Prop}{κ κ':Ka}(hA:∀ b,A b->A' b)(hc:∀ b o,A b->w'.cell? ⟨b,o,none⟩=w.cell? ⟨b,o,none⟩)(hk:∀ r x,κ r=some x->κ' r=some x)
 {d:PV} {v:Value} (h:RV w A κ d v):RV w' A' κ' d v:=by
 induction h with
 | data d v h=>exact .data d v (h.mono hA hc)
 | agg cs vs hl _ h1 ih=>exact .agg cs vs hl ih h1
 | tup cs vs hl _ ih=>exact .tup cs vs hl ih
 | nilsl=>exact .nilsl
 | own r off len m sz cap a h1 h2 h3=>exact .own r off len m sz cap a (hk _ _ h1) h2 h3
 | ptr r i off m sz cap h1=>exact .ptr r i off m sz cap (hk _ _ h1)
 | func fn f c fs cs hl hl' _ _ ih ih'=>exact .func fn f c fs cs hl hl' ih ih'
 | anyb b=>exact .anyb b
 | any v=>exact .any v
section
variable {w:World} {A:Nat->Prop} {κ:Ka}
theorem RV.agg_of_data{cs:List PV}{v:Value}(h:RD w A (.agg cs) v):∃ vs,v=.agg vs/\vs.size=cs.length/\(∀ i d,cs[i]?=some d->RV w A κ d (vs.getD i undef))/\∀ i,i<cs.length->(vs.getD i undef).oneCell'=true:=by
 cases h with
 | agg _ vs hl h h1=>exact⟨vs,rfl,hl,fun i d hd=>.data _ _ (h i d hd),h1⟩
theorem RV.agg_inv{cs:List PV}{v:Value}(h:RV w A κ (.agg cs) v):∃ vs,v=.agg vs/\vs.size=cs.length/\(∀ i d,cs[i]?=some d->RV w A κ d (vs.getD i undef))/\∀ i,i<cs.length->(vs.getD i undef).oneCell'=true:=by
 cases h with
 | data _ _ h=>exact RV.agg_of_data h
 | agg _ vs hl h h1=>exact⟨vs,rfl,hl,h,h1⟩
theorem RV.tup_inv{cs:List PV}{v:Value}(h:RV w A κ (.tup cs) v):∃ vs,v=.tuple vs/\vs.size=cs.length/\∀ i d,cs[i]?=some d->RV w A κ d (vs.getD i undef):=by
 cases h with
 | data _ _ h=>cases h with | tup _ vs hl h=>exact⟨vs,rfl,hl,fun i d hd=>.data _ _ (h i d hd)⟩
 | tup _ vs hl h=>exact⟨vs,rfl,hl,h⟩
theorem RV.int_inv{k:IntKind}{n:Int}{v:Value}(h:RV w A κ (.int k n) v):v=.int k n:=by
 cases h with | data _ _ h=>cases h; rfl
theorem RV.bool_inv{b:Bool}{v:Value}(h:RV w A κ (.bool b) v):v=.bool b:=by
 cases h with | data _ _ h=>cases h; rfl
theorem RV.str_inv{s:ByteArray}{v:Value}(h:RV w A κ (.str s) v):v=.string s:=by
 cases h with | data _ _ h=>cases h; rfl
theorem RV.anyb_inv{v:Value}(h:RV w A κ .anyb v):∃ b,v=.bool b:=by
 cases h with
 | data _ _ h=>cases h
 | anyb b=>exact⟨b,rfl⟩
theorem RV.nilsl_inv{v:Value}(h:RV w A κ .nilsl v):v=.slice none 0 0:=by
 cases h with
 | data _ _ h=>cases h
 | nilsl=>rfl
theorem RV.imm_inv{es:List PV}{v:Value}(h:RV w A κ (.imm es) v):RD w A (.imm es) v:=by
 cases h with | data _ _ h=>exact h
theorem RV.own_inv{r off len:Nat}{v:Value}(h:RV w A κ (.own r off len) v):∃ m sz cap a,v=.slice a len (cap - off)/\κ r=some (m,sz,cap)/\off+len<=cap/\(a=some ⟨m,off * sz,none⟩\/cap=off):=by
 cases h with
 | data _ _ h=>cases h
 | own _ _ _ m sz cap a h1 h2 h3=>exact⟨m,sz,cap,a,rfl,h1,h2,h3⟩
theorem RV.ptr_inv{r i off:Nat}{v:Value}(h:RV w A κ (.ptr r i off) v):∃ m sz cap,v=.pointer (some ⟨m,i * sz+off,none⟩)/\κ r=some (m,sz,cap):=by
 cases h with
 | data _ _ h=>cases h
 | ptr _ _ _ m sz cap h1=>exact⟨m,sz,cap,rfl,h1⟩
theorem RV.cptr_inv{e:PV}{off:Nat}{v:Value}(h:RV w A κ (.cptr e off) v):∃ b o,∃ val:Nat->Value,v=.pointer (some ⟨b,o+off,none⟩)/\A b/\(∀ c,c<e.cells.length->w.cell? ⟨b,o+c,none⟩=some (val c)/\(val c).oneCell'=true)/\∀ c d,e.cells[c]?=some d->RD w A d (val c):=by
 cases h with
 | data _ _ h=>cases h with | cptr _ _ b o val h1 h2 h3=>exact⟨b,o,val,rfl,h1,h2,h3⟩
theorem RV.func_inv{fn:Fn}{f c:List PV}{v:Value}(h:RV w A κ (.func fn f c) v):∃ fs cs,v=.func fn fs cs/\fs.size=f.length/\cs.size=c.length/\(∀ i d,f[i]?=some d->RV w A κ d (fs.getD i undef))/\∀ i d,c[i]?=some d->RV w A κ d (cs.getD i undef):=by
 cases h with
 | data _ _ h=>cases h with | func _ _ _ fs cs h1 h2 h3 h4=>exact⟨fs,cs,rfl,h1,h2,fun i d hd=>.data _ _ (h3 i d hd),fun i d hd=>.data _ _ (h4 i d hd)⟩
 | func _ _ _ fs cs h1 h2 h3 h4=>exact⟨fs,cs,rfl,h1,h2,h3,h4⟩
theorem RV.nilfunc_inv{v:Value}(h:RV w A κ .nilfunc v):v=.nilFunc:=by
 cases h with | data _ _ h=>cases h; rfl
theorem RV.raw_inv{u v:Value}(h:RV w A κ (.raw u) v):v=u:=by
 cases h with | data _ _ h=>cases h; rfl
theorem RV.imm_len{es:List PV}{v:Value}(h:RV w A κ (.imm es) v):∃ a cap,v=.slice a es.length cap:=by
 cases h.imm_inv with
 | imm0 a cap=>exact⟨a,cap,rfl⟩
 | imm _ sz b off cap=>exact⟨_,cap,rfl⟩
def RVs(w:World)(A:Nat->Prop)(κ:Ka)(ds:List PV)(vs:List Value):Prop:=ds.length=vs.length/\∀ i d,ds[i]?=some d->RV w A κ d (vs.getD i undef)
theorem RV.cells{d:PV}{v:Value}(h:RV w A κ d v)(hs:d.storable=true):RVs w A κ d.cells v.cells.toList/\∀ u∈v.cells.toList,u.oneCell'=true:=by
 have one:∀ (d:PV) (v:Value),d.cells=[d]->v.cells=#[v]->RV w A κ d v->v.oneCell'=true->RVs w A κ d.cells v.cells.toList/\∀ u∈v.cells.toList,u.oneCell'=true:=by
  intro d v e1 e2 h h1;rw[e1,e2];refine⟨⟨rfl,fun i x hx=>?_⟩,by simp[h1]⟩;cases i with
  | zero=>simp at hx; subst hx; exact h
  | succ i=>simp at hx
 have ag:∀ (cs:List PV) (vs:Array Value),vs.size=cs.length->(∀ i d,cs[i]?=some d->RV w A κ d (vs.getD i undef))->(∀ i,i<cs.length->(vs.getD i undef).oneCell'=true) ->
  RVs w A κ (PV.agg cs).cells (Value.agg vs).cells.toList/\∀ u∈(Value.agg vs).cells.toList,u.oneCell'=true:=by
  intro cs vs hl h h1;refine⟨⟨by simp[PV.cells,Value.cells,hl],fun i d hd=>?_⟩,fun u hu=>?_⟩
  .have:=h i d hd
   simpa [Value.cells,rBF,List.getD]using this
  .simp only[Value.cells]at hu
   obtain⟨i,hi,rfl⟩:=rA8 hu;have hi':i<vs.size:=by simpa using hi
   have:=h1 i zom
   simpa [Array.getD,hi']using this
 cases h with
 | data _ _ h =>
   cases h with
   | int k n=>exact one _ _ rfl rfl (.data _ _ (.int k n)) rfl
   | bool b=>exact one _ _ rfl rfl (.data _ _ (.bool b)) rfl
   | str s=>exact one _ _ rfl rfl (.data _ _ (.str s)) rfl
   | agg cs vs hl h h1=>exact ag cs vs hl (fun i d hd=>.data _ _ (h i d hd)) h1
   | tup=>simp[PV.storable]at hs
   | imm0 a cap=>exact one _ _ rfl rfl (.data _ _ (.imm0 a cap)) rfl
   | imm es sz b off cap val h1 h2 h3 h4 h5=>exact one _ _ rfl rfl (.data _ _ (.imm es sz b off cap val h1 h2 h3 h4 h5)) rfl
   | cptr e off b o val h1 h2 h3=>exact one _ _ rfl rfl (.data _ _ (.cptr e off b o val h1 h2 h3)) rfl
   | func fn f c fs cs h1 h2 h3 h4=>exact one _ _ rfl rfl (.data _ _ (.func fn f c fs cs h1 h2 h3 h4)) rfl
   | nilfunc=>exact one _ _ rfl rfl (.data _ _ .nilfunc) rfl
   | raw=>simp[PV.storable]at hs
 | agg cs vs hl h h1=>exact ag cs vs hl h h1
 | tup=>simp[PV.storable]at hs
 | nilsl=>exact one _ _ rfl rfl .nilsl rfl
 | own r off len m sz cap a h1 h2 h3=>exact one _ _ rfl rfl (.own r off len m sz cap a h1 h2 h3) rfl
 | ptr r i off m sz cap h1=>exact one _ _ rfl rfl (.ptr r i off m sz cap h1) rfl
 | func fn f c fs cs h1 h2 h3 h4=>exact one _ _ rfl rfl (.func fn f c fs cs h1 h2 h3 h4) rfl
 | anyb=>simp[PV.storable]at hs
 | any=>simp[PV.storable]at hs
end
structure Env where
 w0:World
 w1:World
 B:Nat
 A0:Nat->Prop
 n0:Nat
 κ0:Ka
 S : Nat -> Prop := fun _ => False   -- blocks of one who ranges over this call: kept as they are in 'ws'
 Wr:Nat->Prop:=fun _=>False  -- those of them that a yield may write
 ws:World
 M:List Nat:=[]                 -- marks among the deferred calls,
 M0:List Nat:=[]                -- those that were there at the beginning
 K : Nat -> Prop := fun _ => False   -- blocks kept as they are in 'kw',
 Z:Nat->Prop:=fun _=>False   -- those of them that nothing here stands on
 kw:World
 gh:Bool:=false                 -- does the call yield?
 gi:Nat:=0                      -- how often it has
def Env.re(E F:Env):Env:={ E with w1:=F.w1,A0:=F.A0,n0:=F.n0,κ0:=F.κ0,M0:=F.M0,K:=F.K,Z:=F.Z,kw:=F.kw,B:=F.B,gh:=F.gh }
def lies(w:World)(A:Nat->Prop)(κ:Ka)(c:Array Value)(o:Nat)(e:PV):Prop :=
 ∀ j d,e.cells[j]?=some d->∃ v,c[o+j]?=some v/\RV w A κ d v/\v.oneCell'=true
def vEH:Obj->Bool
 | .cells ..=>false
 | _=>true
structure Kp(E:Env)(w:World)(A:Nat->Prop)(κ:Ka)(h:Hp)(z:Fz):Prop where
 base:Below 0 E.ws w
 keep:∀ b,E.S b->b<w.heap.size/\w.heap[b]?=E.ws.heap[b]?
 wr:∀ b,E.Wr b->E.S b/\¬ A b
 own:∀ r b m sz cap,h r=some b->κ r=some (m,sz,cap)->cap≠0->z r=false->¬ E.S m/\¬ E.K m
 mks:∀ D,D∈E.M->E.B<=D/\(¬ E.S D/\¬ A D)/\w.heap[D]?=some (.deferred (some []))
 nd:E.M.Nodup
 kb:Below 0 E.kw w
 kk:∀ b,E.K b->b<w.heap.size/\w.heap[b]?=E.kw.heap[b]?/\¬ E.Wr b
 zk:∀ b,E.Z b->E.K b/\¬ A b/\¬ E.S b
 mk0:∀ D,D∈E.M->D∈E.M0\/¬ E.K D
 gk:E.gh=true->0<E.n0/\κ 0=none/\∀ b,h 0=some b->b=vC7 E.gi
structure HR(E:Env)(G:Gl)(w:World)(A:Nat->Prop)(κ:Ka)(h:Hp)(z:Fz):Prop where
 bel:Below E.B E.w0 w
 hB:E.B<=w.heap.size
 alt:∀ b,A b->b<w.heap.size
 a0:∀ b,E.A0 b->A b
 a1:∀ b,A b->E.A0 b\/E.B<=b
 acell:∀ b o,E.A0 b->w.cell? ⟨b,o,none⟩=E.w1.cell? ⟨b,o,none⟩
 k0:∀ r,r<E.n0->κ r=E.κ0 r
 glob:∀ g e,G g=some e->RV w A κ (.cptr e 0) (.pointer (some ⟨g,0,none⟩))
 klt:∀ r m sz cap,κ r=some (m,sz,cap)->cap=0\/m<w.heap.size
 kp:Kp E w A κ h z
 blk:∀ r b,h r=some b->κ r≠none->∃ m cap,κ r=some (m,b.sz,cap)/\b.els.length<=cap/\(∀ e∈b.els,e.cells.length=b.sz/\e.isAgg=b.agg) /\
  (cap=0\/∃ c ty,E.B<=m/\w.heap[m]?=some (.cells c ty (0,0))/\c.size=cap * b.sz/\(∀ u∈c.toList,u.oneCell'=true)/\(∀ i e,b.els[i]?=some e->lies w A κ c (i * b.sz) e)/\(z r=false->¬ A m)/\(z r=true->A m))
 excl:∀ r r' b b' m m' s s' c c',r≠r'->h r=some b->h r'=some b'->κ r=some (m,s,c)->κ r'=some (m',s',c')->c≠0->c'≠0->m≠m'
theorem lies.mono{w w':World}{A A':Nat->Prop}{κ κ':Ka}(hA:∀ b,A b->A' b)(hc:∀ b o,A b->w'.cell? ⟨b,o,none⟩=w.cell? ⟨b,o,none⟩)(hk:∀ r x,κ r=some x->κ' r=some x){c:Array Value}{o:Nat}{e:PV}
 (h:lies w A κ c o e):lies w' A' κ' c o e:=fun j d hd=>let ⟨v,h1,h2,h3⟩:=h j d hd; ⟨v,h1,h2.mono hA hc hk,h3⟩
open Go.RowKit
theorem vLD(w:World)(o:Obj):(w.alloc o).heap[w.heap.size]?=some o:=by
 show(w.heap.push o)[w.heap.size]?=some o
 simp
theorem zGQ(w:World)(A:Nat->Prop):∀ b o,A b->w.drew.cell? ⟨b,o,none⟩=w.cell? ⟨b,o,none⟩:=fun _ _ _=>rfl
def vDM(κ:Ka)(r:Nat)(x:Nat×Nat×Nat):Ka:=fun j=>if j=r then some x else κ j
theorem zAZ(κ:Ka)(r:Nat)(x:Nat×Nat×Nat):vDM κ r x r=some x:=by simp[vDM]
theorem zAO(κ:Ka){r j:Nat}(x:Nat×Nat×Nat)(h:j≠r):vDM κ r x j=κ j:=by simp[vDM,h]
theorem zDH{κ:Ka}{r:Nat}(x:Nat×Nat×Nat)(h:κ r=none):∀ j y,κ j=some y->vDM κ r x j=some y:=by
 intro j y hj;by_cases e:j=r
 .subst e; rw[h]at hj; cases hj
 .rw[zAO κ x e]; exact hj
theorem cell?_of_heap{w w':World}{b:Nat}(h:w'.heap[b]?=w.heap[b]?)(o:Nat):w'.cell? ⟨b,o,none⟩=w.cell? ⟨b,o,none⟩:=World.cell?_of_block (w:=w) h
section
variable {E:Env} {G:Gl} {w:World} {A:Nat->Prop} {κ:Ka} {h:Hp} {z:Fz}
theorem Below.zero{w0 w w':World}(h:Below 0 w0 w)(k:Below 0 w w'):Below 0 w0 w':=h.trans k
theorem Kp.world(K:Kp E w A κ h z){w':World}(hb:Below 0 w w')(hs:∀ b,E.S b\/E.K b->b<w.heap.size->w'.heap[b]?=w.heap[b]?)(hm:∀ (D:Nat) (o:Obj),vEH o=true->w.heap[D]?=some o->w'.heap[D]?=w.heap[D]?):Kp E w' A κ h z :=
 ⟨K.base.trans hb,fun b hS=>⟨rA4 (K.keep b hS).1 hb.size,(hs b (rAW hS) (K.keep b hS).1).trans (K.keep b hS).2⟩,K.wr,K.own,
   fun D hD=>⟨(K.mks D hD).1,(K.mks D hD).2.1,(hm D _ rfl (K.mks D hD).2.2).trans (K.mks D hD).2.2⟩,K.nd,K.kb.trans hb,fun b hK=>⟨rA4 (K.kk b hK).1 hb.size,(hs b (rA0 hK) (K.kk b hK).1).trans (K.kk b hK).2.1,(K.kk b hK).2.2⟩,K.zk,K.mk0,K.gk⟩
theorem Kp.below(K:Kp E w A κ h z){w':World}(hb:Below w.heap.size w w'):Kp E w' A κ h z :=
 K.world (hb.mono (rA7 _)) (fun b _ h=>hb.block b h) (fun D o _ hD=>hb.block D (rA6.1 hD).1)
theorem Kp.put(K:Kp E w A κ h z){key m sz cap:Nat}{b:Blk}(hn:E.gh=true->key≠0)(hx:cap≠0->z key=false->¬ E.S m/\¬ E.K m):Kp E w A (vDM κ key (m,sz,cap)) (hset h key (some b)) z :=
 ⟨K.base,K.keep,K.wr,fun r b' m' sz' cap' hr hk hc hz=>by
   by_cases e:r=key
   .subst e; rw[zAZ]at hk; cases hk; exact hx hc hz
   .rw[zAO κ _ e]at hk
    simp only[hset,rAM e]at hr;exact K.own r b' m' sz' cap' hr hk hc hz,K.mks,K.nd,K.kb,K.kk,K.zk,K.mk0,fun hg=>by
   have h0:=(hn hg).symm;refine⟨(K.gk hg).1,by rw[zAO κ _ h0]; exact(K.gk hg).2.1,fun b' hb=>(K.gk hg).2.2 b' ?_⟩
   simpa only[hset,rAM h0]using hb⟩
theorem Kp.drop(K:Kp E w A κ h z)(r:Nat):Kp E w A κ (hset h r none) z:=by
 have f:∀ p bp,hset h r none p=some bp->h p=some bp:=by
  intro p bp hp;by_cases e:p=r
  .simp[hset,e]at hp
  .simpa only[hset,rAM e]using hp
 exact⟨K.base,K.keep,K.wr,fun r b m s c hr=>K.own r b m s c (f r b hr),K.mks,K.nd,K.kb,K.kk,K.zk,K.mk0,fun hg=>⟨(K.gk hg).1,(K.gk hg).2.1,fun b hb=>(K.gk hg).2.2 b (f 0 b hb)⟩⟩
theorem Kp.key(K:Kp E w A κ h z){key:Nat}(hn:E.n0<=key):E.gh=true->key≠0:=fun hg e=>by have:=(K.gk hg).1; omega
theorem HR.keepsA(H:HR E G w A κ h z){w':World}(hb:∀ b,b<w.heap.size->(∀ r b' m s c,h r=some b'->κ r=some (m,s,c)->c≠0->z r=false->m≠b)->w'.heap[b]?=w.heap[b]?):∀ b o,A b->w'.cell? ⟨b,o,none⟩=w.cell? ⟨b,o,none⟩:=by
 intro b o hA;refine cell?_of_heap (hb b (H.alt b hA) fun r b' m s c hr hk hc hz e=>?_) o;subst e;obtain⟨m',cap,h1,_,_,h4⟩:=H.blk r b' hr (by rw[hk]; simp);rw[hk]at h1;cases h1
 rcases h4 with h4 | ⟨_,_,_,_,_,_,_,h5,_⟩
 .exact hc h4
 .exact h5 hz hA
theorem HR.alloc(H:HR E G w A κ h z){key sz cap:Nat}{agg:Bool}{els:List PV}{c:Array Value}{ty:TypeId}(hn:E.n0<=key)(hk:κ key=none)(hz:z key=false)
 (hc:c.size=cap * sz) (hl:els.length<=cap) (hu:∀ e∈els,e.cells.length=sz/\e.isAgg=agg) (h1:∀ u∈c.toList,u.oneCell'=true)
 (hlies:∀ i e,els[i]?=some e->lies w A κ c (i * sz) e) :
 HR E G (w.alloc (.cells c ty)) A (vDM κ key (w.heap.size,sz,cap)) (hset h key (some ⟨els,sz,agg⟩)) z:=by
 have hle:=zDH (w.heap.size,sz,cap) hk;have hcell:∀ b o,A b->(w.alloc (.cells c ty)).cell? ⟨b,o,none⟩=w.cell? ⟨b,o,none⟩:=fun b o hA=>cell?_of_heap (Below.heap_alloc _ _ _ (H.alt b hA)) o
 have mono:∀ {d v},RV w A κ d v->RV (w.alloc (.cells c ty)) A (vDM κ key (w.heap.size,sz,cap)) d v:=fun hv=>hv.mono (fun _ h=>h) hcell hle
 refine⟨H.bel.alloc H.hB _,by simp; exact rC2 H.hB,fun b hb=>by simp; exact rEI (H.alt b hb),H.a0,H.a1,fun b o hb=>(hcell b o (H.a0 b hb)).trans (H.acell b o hb),fun r hr=>?_,fun g e hg=>mono (H.glob g e hg),fun r m s c' hr=>?_,(H.kp.below ((Below.refl _ w).alloc (rAR _) _)).put (H.kp.key hn) (fun _ _=>⟨fun hS=>rDN _ (H.kp.keep _ hS).1,fun hK=>rDN _ (H.kp.kk _ hK).1⟩),fun r b hb hκ=>?_,?_⟩
 .rw[zAO κ _ zom]; exact H.k0 r hr
 .by_cases e:r=key
  .subst e; rw[zAZ]at hr; cases hr; right; simp
  .rw[zAO κ _ e]at hr
   rcases H.klt r m s c' hr with h | h
   .exact rAW h
   .right; simp; omega
 .by_cases e:r=key
  .subst e
   simp only[hset,rCI]at hb;cases hb
   refine⟨w.heap.size,cap,zAZ κ r _,hl,hu,rA0 ⟨c,ty,H.hB,vLD _ _,hc,h1,fun i e he=>(hlies i e he).mono (fun _ h=>h) hcell hle,fun _ hA=>absurd (H.alt _ hA) zom,fun hzt=>by rw[hz]at hzt; cases hzt⟩⟩
  .simp only[hset,rAM e]at hb
   obtain⟨m,cap',h2,h3,h4,h5⟩:=H.blk r b hb (by rw[zAO κ _ e]at hκ; exact hκ);refine⟨m,cap',by rw[zAO κ _ e]; exact h2,h3,h4,?_⟩;rcases h5 with h5 | ⟨c',ty',g1,g2,g3,g4,g5,g6,g7⟩
   .exact rAW h5
   .have hm:m<w.heap.size:=(rA6.1 g2).1
    exact rA0 ⟨c',ty',g1,by rw[Below.heap_alloc _ _ _ hm]; exact g2,g3,g4,fun i e he=>(g5 i e he).mono (fun _ h=>h) hcell hle,g6,g7⟩
 .intro r r' b b' m m' s s' c1 c2 hne hr hr' hk1 hk2 hc1 hc2
  by_cases e:r=key
  .subst e
   rw[zAZ]at hk1; cases hk1;have e':r'≠r:=fun e=>hne e.symm
   rw[zAO κ _ e']at hk2;rcases H.klt r' m' s' c2 hk2 with h | h
   .exact absurd h hc2
   .omega
  .rw[zAO κ _ e]at hk1
   simp only[hset,rAM e]at hr;by_cases e':r'=key
   .subst e'
    rw[zAZ]at hk2; cases hk2;rcases H.klt r m s c1 hk1 with h | h
    .exact absurd h hc1
    .omega
   .rw[zAO κ _ e']at hk2
    simp only[hset,rAM e']at hr';exact H.excl r r' b b' m m' s s' c1 c2 hne hr hr' hk1 hk2 hc1 hc2
theorem HR.empty(H:HR E G w A κ h z){key sz:Nat}{agg:Bool}(hn:E.n0<=key)(hk:κ key=none) :
 HR E G w A (vDM κ key (0,sz,0)) (hset h key (some ⟨[],sz,agg⟩)) z:=by
 have hle:=zDH (0,sz,0) hk;have mono:∀ {d v},RV w A κ d v->RV w A (vDM κ key (0,sz,0)) d v:=fun hv=>hv.mono (fun _ h=>h) (fun _ _ _=>rfl) hle
 refine⟨H.bel,H.hB,H.alt,H.a0,H.a1,H.acell,fun r hr=>?_,fun g e hg=>mono (H.glob g e hg),fun r m s c' hr=>?_,H.kp.put (H.kp.key hn) (fun hc=>absurd rfl hc),fun r b hb hκ=>?_,?_⟩
 .rw[zAO κ _ zom]; exact H.k0 r hr
 .by_cases e:r=key
  .subst e; rw[zAZ]at hr; cases hr; left; rfl
  .rw[zAO κ _ e]at hr; exact H.klt r m s c' hr
 .by_cases e:r=key
  .subst e
   simp only[hset,rCI]at hb;cases hb
   exact⟨0,0,zAZ κ r _,rAR _,fun e he=>(by cases he),rAW rfl⟩
  .simp only[hset,rAM e]at hb
   obtain⟨m,cap',h2,h3,h4,h5⟩:=H.blk r b hb (by rw[zAO κ _ e]at hκ; exact hκ);refine⟨m,cap',by rw[zAO κ _ e]; exact h2,h3,h4,?_⟩;rcases h5 with h5 | ⟨c',ty',g1,g2,g3,g4,g5,g6,g7⟩
   .exact rAW h5
   .exact rA0 ⟨c',ty',g1,g2,g3,g4,fun i e he=>(g5 i e he).mono (fun _ h=>h) (fun _ _ _=>rfl) hle,g6,g7⟩
 .intro r r' b b' m m' s s' c1 c2 hne hr hr' hk1 hk2 hc1 hc2
  by_cases e:r=key
  .subst e; rw[zAZ]at hk1; cases hk1; exact absurd rfl hc1
  .rw[zAO κ _ e]at hk1
   simp only[hset,rAM e]at hr;by_cases e':r'=key
   .subst e'; rw[zAZ]at hk2; cases hk2; exact absurd rfl hc2
   .rw[zAO κ _ e']at hk2
    simp only[hset,rAM e']at hr';exact H.excl r r' b b' m m' s s' c1 c2 hne hr hr' hk1 hk2 hc1 hc2
theorem HR.drew(H:HR E G w A κ h z):HR E G w.drew A κ h z:=by
 have mono:∀ {d v},RV w A κ d v->RV w.drew A κ d v:=fun hv=>hv.mono (fun _ h=>h) (zGQ w A) (fun _ _ h=>h)
 refine⟨H.bel.drew,H.hB,H.alt,H.a0,H.a1,H.acell,H.k0,fun g e hg=>mono (H.glob g e hg),H.klt,H.kp.below (Below.refl _ w).drew,fun r b hb hκ=>?_,H.excl⟩;obtain⟨m,cap',h2,h3,h4,h5⟩:=H.blk r b hb hκ;refine⟨m,cap',h2,h3,h4,?_⟩;rcases h5 with h5 | ⟨c',ty',g1,g2,g3,g4,g5,g6,g7⟩
 .exact rAW h5
 .exact rA0 ⟨c',ty',g1,g2,g3,g4,fun i e he=>(g5 i e he).mono (fun _ h=>h) (zGQ w A) (fun _ _ h=>h),g6,g7⟩
theorem zHO(H:HR E G w A κ h z){r m s cap:Nat}{b:Blk}(hr:h r=some b)(hk:κ r=some (m,s,cap))(hcap:cap≠0)(hz:z r=false)(c':Array Value) :
 ∀ b o,A b->(w.setRow m c').cell? ⟨b,o,none⟩=w.cell? ⟨b,o,none⟩ :=
 H.keepsA fun b _ hne=>setRow_other w m b c' (fun e=>hne r _ m s cap hr hk hcap hz e.symm)
theorem HR.write(H:HR E G w A κ h z){r key m sz cap:Nat}{b:Blk}{els:List PV}{c c':Array Value}{ty:TypeId}(hr:h r=some b)(hk:κ r=some (m,sz,cap))(hcap:cap≠0)(hz:z r=false)
 (hsz:sz=b.sz) (hm:w.heap[m]?=some (.cells c ty (0,0))) (hkey:key=r\/(h key=none/\κ key=none/\E.n0<=key/\z key=false))
 (hc:c'.size=c.size) (hl:els.length<=cap) (hu:∀ e∈els,e.cells.length=b.sz/\e.isAgg=b.agg) (h1:∀ u∈c'.toList,u.oneCell'=true)
 (hlies:∀ i e,els[i]?=some e->lies w A κ c' (i * b.sz) e) :
 HR E G (w.setRow m c') A (vDM κ key (m,sz,cap)) (hset (hset h r none) key (some { b with els:=els })) z:=by
 subst hsz;obtain⟨m0,cap0,e1,e2,e3,e4⟩:=H.blk r b hr (by rw[hk]; simp);rw[hk]at e1; cases e1;obtain⟨c0,ty0,g1,g2,g3,g4,g5,g6,g7⟩:=e4.resolve_left hcap;rw[hm]at g2; cases g2;have hcell:=zHO H hr hk hcap hz c'
 have hle:∀ j y,κ j=some y->vDM κ key (m,b.sz,cap) j=some y:=by
  rcases hkey with e | ⟨_,e,_⟩
  .subst e
   intro j y hj;by_cases e:j=key
   .subst e; rw[hk]at hj; cases hj; exact zAZ ..
   .rw[zAO κ _ e]; exact hj
  .exact zDH _ e
 have mono:∀ {d v},RV w A κ d v->RV (w.setRow m c') A (vDM κ key (m,b.sz,cap)) d v:=fun hv=>hv.mono (fun _ h=>h) hcell hle
 have hmlt:m<w.heap.size:=(rA6.1 hm).1
 have hzk:z key=false:=by
  rcases hkey with e | ⟨_,_,_,e⟩
  .rw[e]; exact hz
  .exact e
 refine⟨?_,by simp[H.hB],fun b hb=>by simp; exact H.alt b hb,H.a0,H.a1,fun b o hb=>(hcell b o (H.a0 b hb)).trans (H.acell b o hb),fun r' hr'=>?_,fun g e hg=>mono (H.glob g e hg),fun r' m' s' c1 hr'=>?_,?_,fun r' b' hb hκ=>?_,?_⟩
 .exact H.bel.trans ⟨rfl,rfl,rfl,zsm,fun k hk'=>setRow_other w m k c' zom⟩
 .rcases hkey with e | ⟨_,_,e,_⟩
  .by_cases e':r'=key
   .subst e' e; rw[zAZ,<- H.k0 _ hr',hk]
   .rw[zAO κ _ e']; exact H.k0 r' hr'
  .rw[zAO κ _ zom]; exact H.k0 r' hr'
 .by_cases e:r'=key
  .subst e; rw[zAZ]at hr'; cases hr'; right; simp[hmlt]
  .rw[zAO κ _ e]at hr'
   rcases H.klt r' m' s' c1 hr' with h | h
   .exact rAW h
   .right; simp[h]
 .have hS:¬ E.S m/\¬ E.K m:=H.kp.own r b m _ cap hr hk hcap hz
  refine((H.kp.world (w':=w.setRow m c') ⟨rfl,rfl,rfl,zsm,fun k hk'=>by omega⟩ (fun b hb _=>setRow_other w m b c' (fun e=>hb.elim (fun hb=>hS.1 (e ▸ hb)) (fun hb=>hS.2 (e ▸ hb)))) (fun D o ho hD=>setRow_other w m D c' (fun e=>by rw[e,hm]at hD; cases hD; cases ho))).drop r).put (fun hg e=>?_) (fun _ _=>hS);rcases hkey with q | ⟨_,_,q,_⟩
  .rw[<- q,e,(H.kp.gk hg).2.1]at hk; cases hk
  .exact H.kp.key q hg e
 .by_cases e:r'=key
  .subst e
   simp only[hset,rCI]at hb;cases hb
   exact⟨m,cap,zAZ κ _ _,hl,hu,rA0 ⟨c',ty,g1,setRow_heap w m c c' ty (0,0) hm,by rw[hc]; exact g3,h1,fun i e he=>(hlies i e he).mono (fun _ h=>h) hcell hle,fun _=>g6 hz,fun hzt=>by rw[hzk]at hzt; cases hzt⟩⟩
  .simp only[hset,rAM e]at hb
   by_cases er:r'=r
   .simp[er]at hb
   .simp only[rAM er]at hb
    obtain⟨m',cap',h2,h3,h4,h5⟩:=H.blk r' b' hb (by rw[zAO κ _ e]at hκ; exact hκ);refine⟨m',cap',by rw[zAO κ _ e]; exact h2,h3,h4,?_⟩;rcases h5 with h5 | ⟨c1,ty',f1,f2,f3,f4,f5,f6,f7⟩
    .exact rAW h5
    .by_cases hc0:cap'=0
     .exact rAW hc0
     have hne:m'≠m:=H.excl r' r b' b m' m _ _ _ _ er hb hr h2 hk hc0 hcap;exact rA0 ⟨c1,ty',f1,by rw[setRow_other w m m' c' hne]; exact f2,f3,f4,fun i e he=>(f5 i e he).mono (fun _ h=>h) hcell hle,f6,f7⟩
 .intro p q bp bq mp mq sp sq cp cq hne hp hq hkp hkq hcp hcq
  have side:∀ p bp mp sp cp,p≠key->hset (hset h r none) key (some { b with els:=els }) p=some bp->vDM κ key (m,b.sz,cap) p=some (mp,sp,cp)->cp≠0->p≠r/\h p=some bp/\κ p=some (mp,sp,cp):=by
   intro p bp mp sp cp hpk hp hkp hcp;simp only[hset,rAM hpk]at hp;rw[zAO κ _ hpk]at hkp;by_cases e:p=r
   .simp[e]at hp
   .simp only[rAM e]at hp; exact⟨e,hp,hkp⟩
  by_cases e:p=key
  .subst e
   rw[zAZ]at hkp; cases hkp;obtain⟨a1,a2,a3⟩:=side q bq mq sq cq (fun e=>hne e.symm) hq hkq hcq;exact(H.excl q r bq b mq m _ _ _ _ a1 a2 hr a3 hk hcq hcap).symm
  .obtain⟨a1,a2,a3⟩:=side p bp mp sp cp e hp hkp hcp
   by_cases e':q=key
   .subst e'
    rw[zAZ]at hkq; cases hkq;exact H.excl p r bp b mp m _ _ _ _ a1 a2 hr a3 hk hcp hcap
   .obtain⟨b1,b2,b3⟩:=side q bq mq sq cq e' hq hkq hcq
    exact H.excl p q bp bq mp mq _ _ _ _ hne a2 b2 a3 b3 hcp hcq
theorem HR.drop(H:HR E G w A κ h z)(r:Nat):HR E G w A κ (hset h r none) z:=by
 refine⟨H.bel,H.hB,H.alt,H.a0,H.a1,H.acell,H.k0,H.glob,H.klt,H.kp.drop r,fun r' b hb hκ=>?_,fun p q bp bq mp mq sp sq cp cq hne hp hq=>?_⟩
 .by_cases e:r'=r
  .simp[hset,e]at hb
  .simp only[hset,rAM e]at hb; exact H.blk r' b hb hκ
 .have f:∀ p bp,hset h r none p=some bp->h p=some bp:=by
   intro p bp hp;by_cases e:p=r
   .simp[hset,e]at hp
   .simpa only[hset,rAM e]using hp
  exact H.excl p q bp bq mp mq sp sq cp cq hne (f p bp hp) (f q bq hq)
end
open Go.RowKit
def Sound(E:Env)(G:Gl)(w:World)(A:Nat->Prop)(κ:Ka)(z:Fz)(h':Hp)(key:Nat)(v:PV)(r:Result Next):Prop :=
 ∃ v' w' κ',(r=.ok (.value v') w'\/(r=.ok .skip w'/\v'=undef))/\HR E G w' A κ' h' z/\RV w' A κ' v v'/\(∀ r x,κ r=some x->κ' r=some x)/\(∀ r,r≠key->κ' r=κ r) /\
   (∀ b o,A b->w'.cell? ⟨b,o,none⟩=w.cell? ⟨b,o,none⟩)
theorem Sound.pure{E:Env}{G:Gl}{w:World}{A:Nat->Prop}{κ:Ka}{z:Fz}{h:Hp}{key:Nat}{v:PV}{r:Result Next}{v':Value}(H:HR E G w A κ h z)(hr:r=.ok (.value v') w)(hv:RV w A κ v v') :
 Sound E G w A κ z h key v r:=⟨v',w,κ,rAW hr,H,hv,fun _ _ h=>h,fun _ _=>rfl,fun _ _ _=>rfl⟩
theorem zAK{c:Prop}[Decidable c]{x:Res}{y}(h:need c x=some y):c/\x=some y:=by
 unfold need at h
 split at h
 .exact⟨‹_›,h⟩
 .cases h
def OkOp(G:Gl)(w:World)(A:Nat->Prop)(κ:Ka)(t:Tm)(ρ:Operand->Value)(op:Op):Prop:=∀ x∈op.operands.toList,RV w A κ (ev G t x) (ρ x)
theorem zML(b o n:Nat):(⟨b,o,none⟩:Addr).add n=⟨b,o+n,none⟩:=by
 unfold Addr.add
 split
 .subst_vars; rfl
 .rfl
section
variable {P:Program}
theorem zDV{t:TypeId}(h:(vA6 P t).size≠0):∃ i d,P.info? t=some i/\P.underlying t=some d/\i.size=(vA6 P t).size:=by
 unfold vA6 at h ⊢;simp only at h ⊢;cases hd:P.underlying t with
 | none=>simp[hd]at h
 | some d =>
   simp only[hd]at h ⊢;unfold Program.cellsOf at h ⊢;cases hi:P.info? t with
   | none=>simp[hi]at h
   | some i=>exact⟨i,d,rfl,rfl,zsm⟩
theorem zC3{t:TypeId}(h:(vA6 P t).size≠0):P.cellsOf t=(vA6 P t).size:=by
 obtain⟨i,d,h1,h2,h3⟩:=zDV h;unfold Program.cellsOf;simp[h1,h3]
theorem vIW{t:TypeId}{d:TypeDesc}(hd:P.underlying t=some d):(isAgg t).run P=fun w=>.ok (vA6 P t).agg w:=by
 funext w
 have:(underlying t).run P w=.ok d w:=run_underlying hd w;simp only[isAgg,Sem.run_bind,this,Result.andThen_ok,vA6,hd];cases d<;>rfl
theorem zI0{t:TypeId}(h:(vA6 P t).alen≠0):P.underlying t=some (.array (vA6 P t).alen (vA6 P t).elem):=by
 unfold vA6 at h ⊢;simp only at h ⊢;cases hd:P.underlying t with
 | none=>simp[hd]at h
 | some d=>cases d<;>simp[hd]at h ⊢
theorem zCO{t:TypeId}(h:(vA6 P t).isSlice=true):P.underlying t=some (.slice (vA6 P t).elem):=by
 unfold vA6 at h ⊢;simp only at h ⊢;cases hd:P.underlying t with
 | none=>simp[hd]at h
 | some d=>cases d<;>simp[hd]at h ⊢
theorem zHP{e v:PV}{off n:Nat}{agg:Bool}(h:part e off n agg=some v) :
 (agg=true/\∃ ds,v=.agg ds/\ds.length=n/\∀ j d,ds[j]?=some d->e.cells[off+j]?=some d)\/(agg=false/\n=1/\e.cells[off]?=some v):=by
 unfold part at h
 split at h
 .rename_i hc
  obtain⟨h1,h2,h3⟩:=hc;cases h
  subst h1;cases agg with
  | true =>
    left
    cases e<;>simp[PV.isAgg]at h3
    rename_i cs
    exact⟨rfl,cs,rfl,h2,fun j d hd=>by simpa [PV.cells]using hd⟩
  | false =>
    right
    have:e.cells=[e]:=by cases e<;>first | rfl | simp[PV.isAgg]at h3
    rw[this]at h2 ⊢;exact⟨rfl,h2.symm,rfl⟩
 .split at h
  .rename_i hle
   cases agg with
   | true =>
     simp at h
     left
     refine⟨rfl,_,h.symm,by simp; omega,fun j d hd=>?_⟩;rw[rFN]at hd
     split at hd
     .rw[rCR]at hd; exact hd
     .cases hd
   | false =>
     simp at h
     right
     exact⟨rfl,h.1,h.2⟩
  .cases h
variable {E:Env} {G:Gl} {w:World} {A:Nat->Prop} {κ:Ka} {h:Hp} {z:Fz} {t:Tm} {ρ:Operand->Value}
theorem zPP{e v:PV}{off:Nat}{ty:TypeId}{m o:Nat}(hp:part e off (vA6 P ty).size (vA6 P ty).agg=some v)
 (hc:∀ j d,e.cells[j]?=some d->∃ u,w.cell? ⟨m,o+j,none⟩=some u/\RV w A κ d u/\u.oneCell'=true) (hz:(vA6 P ty).size≠0\/(vA6 P ty).agg=true) :
 ∃ v',(loadVar ty ⟨m,o+off,none⟩).run P w=.ok v' w/\RV w A κ v v':=by
 have hd:∃ d,P.underlying ty=some d:=by
  rcases hz with hz | hz
  .obtain⟨i,d,_,h,_⟩:=zDV hz; exact⟨d,h⟩
  .unfold vA6 at hz; simp only at hz
   cases hd:P.underlying ty with
   | none=>simp[hd]at hz
   | some d=>exact⟨d,rfl⟩
 obtain⟨d,hd⟩:=hd;have hag:=vIW hd;rcases zHP hp with⟨ha,ds,rfl,hl,hds⟩ | ⟨ha,hn,he⟩
 .by_cases hi:∃ i,P.info? ty=some i
  .obtain⟨i,hi⟩:=hi
   have hsz:(sizeOf ty).run P w=.ok (vA6 P ty).size w:=by
    simp[sizeOf,typeInfo,hi,vA6,hd,Program.cellsOf]
   let f:Nat->Value:=fun j=>(w.cell? ⟨m,o+(off+j),none⟩).getD undef
   have hf:∀ j,j<ds.length->w.cell? (Addr.add ⟨m,o+off,none⟩ j)=some (f j)/\RV w A κ (ds.getD j .any) (f j)/\(f j).oneCell'=true:=by
    intro j hj;have hdj:ds[j]?=some (ds.getD j .any):=by simp[List.getD,rAQ hj]
    obtain⟨u,h1,h2,h3⟩:=hc _ _ (hds j _ hdj);have:f j=u:=by simp[f,h1]
    rw[this,zML,rC4];exact⟨h1,h2,h3⟩
   refine⟨.agg ((List.range ds.length).map f).toArray,?_,?_⟩
   .simp only[loadVar,Sem.run_bind,hag,Result.andThen_ok,ha,rCI,hsz,<- hl]
    rw[run_loadCells w _ ds.length f (fun j hj=>(hf j hj).1)];rfl
   .refine .agg _ _ zsm (fun j d hd=>?_) (fun j hj=>?_)
    .have hj:j<ds.length:=(rAP.1 hd).1
     have:=(hf j hj).2.1;simp only[List.getD,hd,Option.getD_some]at this
     simpa [Array.getD,hj]using this
    .have:=(hf j hj).2.2
     simpa [Array.getD,hj]using this
  .exfalso
   unfold Program.underlying at hd;cases hi':P.info? ty with
   | none=>simp[hi']at hd
   | some i=>exact hi ⟨i,hi'⟩
 .obtain⟨u,h1,h2,h3⟩:=hc _ _ he
  refine⟨u,?_,h2⟩;simp only[loadVar,Sem.run_bind,hag,Result.andThen_ok,ha];simp[h1]
theorem zLH(v:Value):RV w A κ (vD6 v) v:=by
 unfold vD6
 split
 .exact .data _ _ (.int _ _)
 .exact .data _ _ (.bool _)
 .exact .data _ _ (.str _)
 .exact .nilsl
 .exact .data _ _ .nilfunc
 .exact .tup [] _ rfl (fun i d hd=>by simp at hd)
 .exact .func _ [] [] _ _ rfl rfl (fun i d hd=>by simp at hd) (fun i d hd=>by simp at hd)
 .exact .any _
theorem HR.read(H:HR E G w A κ h z){r:Nat}{b:Blk}(hr:h r=some b)(hκ:κ r≠none){j:Nat}{e:PV}(he:b.els[j]?=some e) :
 ∃ m cap,κ r=some (m,b.sz,cap)/\j<cap/\∀ i d,e.cells[i]?=some d->∃ u,w.cell? ⟨m,j * b.sz+i,none⟩=some u/\RV w A κ d u/\u.oneCell'=true:=by
 obtain⟨m,cap,h1,h2,h3,h4⟩:=H.blk r b hr hκ;have hj:j<b.els.length:=(rAP.1 he).1;refine⟨m,cap,h1,zom,fun i d hd=>?_⟩;rcases h4 with h4 | ⟨c,ty,g1,g2,g3,g4,g5,g6,g7⟩
 .omega
 .obtain⟨v,f1,f2,f3⟩:=g5 j e he i d hd
  refine⟨v,?_,f2,f3⟩
  simpa [World.cell?,g2]using f1
theorem map_some{α β:Type}{o:Option α}{f:α->β}{y:β}(h:o.map f=some y):∃ x,o=some x/\f x=y:=by
 cases o with
 | none=>cases h
 | some x=>exact⟨x,rfl,by simpa using h⟩
theorem uBD{o:Oper}{ty:TypeId}{x:Operand}{key:Nat}{v:PV}{h':Hp}{rd wr:List Nat}(ho:o.op=.load ty x)(H:HR E G w A κ h z)(hx:RV w A κ (ev G t x) (ρ x))
 (he:vA4 P G z key (.load ty x) t h=some (v,h',rd,wr)):Sound E G w A κ z h' key v ((execOp ρ o).run P w):=by
 unfold vA4 at he;simp only at he
 have fin:∀ {m n:Nat} {e:PV} {off:Nat},ρ x=.pointer (some ⟨m,n+off,none⟩)->part e off (vA6 P ty).size (vA6 P ty).agg=some v ->
  (∀ j d,e.cells[j]?=some d->∃ u,w.cell? ⟨m,n+j,none⟩=some u/\RV w A κ d u/\u.oneCell'=true)->Sound E G w A κ z h key v ((execOp ρ o).run P w):=by
  intro m n e off hρ hp hc
  have hz:(vA6 P ty).size≠0\/(vA6 P ty).agg=true:=by
   rcases zHP hp with⟨h,_⟩ | ⟨_,h,_⟩
   .exact rA0 h
   .left; omega
  obtain⟨v',h1,h2⟩:=zPP hp hc hz;refine Sound.pure H (v':=v') ?_ h2;simp[execOp,ho,hρ,Instr.loadAt,Instr.sureAddr,h1]
 split at he
 .rename_i r j off hev
  rw[hev]at hx;obtain⟨m,sz,cap,hρ,hk⟩:=hx.ptr_inv
  split at he
  .rename_i b hb
   split at he
   .rename_i e hel
    obtain⟨v0,hp,hv⟩:=map_some he;cases hv
    obtain⟨m',cap',hk',_,hc⟩:=H.read hb (by rw[hk]; simp) hel;rw[hk]at hk'; cases hk';exact fin hρ hp hc
   .cases he
  .cases he
 .rename_i e off hev
  rw[hev]at hx;obtain⟨b,n,val,hρ,hA,hc,hd⟩:=hx.cptr_inv;obtain⟨v0,hp,hv⟩:=map_some he;cases hv
  exact fin hρ hp fun j d hj=>⟨val j,(hc j (rAP.1 hj).1).1,.data _ _ (hd j d hj),(hc j (rAP.1 hj).1).2⟩
 .cases he
theorem zL4{s:TypeId}{f o ty n:Nat}(h:(vA6 P s).fields[f]?=some (o,ty,n)):∃ fs fd,P.underlying s=some (.struct fs)/\fs[f]?=some fd/\fd.offset=o/\fd.type=ty/\P.cellsOf ty=n:=by
 unfold vA6 at h;simp only at h;cases hd:P.underlying s with
 | none=>simp[hd]at h
 | some d =>
   cases d<;>simp[hd]at h
   rename_i fs
   obtain⟨fd,h1,h2,h3,h4⟩:=h;subst h3;exact⟨fs,fd,rfl,h1,h2,rfl,h4⟩
theorem zE5{ty:TypeId}(hn:P.cellsOf ty≠0):(sizeOf ty).run P w=.ok (P.cellsOf ty) w:=by
 unfold Program.cellsOf at hn ⊢;cases hi:P.info? ty with
 | none=>simp[hi]at hn
 | some i=>simp[sizeOf,typeInfo,hi]
theorem vGQ{o:Oper}{s:TypeId}{x:Operand}{f:Nat}{key:Nat}{v:PV}{h':Hp}{rd wr:List Nat}(ho:o.op=.fieldAddr s x f)(H:HR E G w A κ h z)(hx:RV w A κ (ev G t x) (ρ x))
 (he:vA4 P G z key (.fieldAddr s x f) t h=some (v,h',rd,wr)):Sound E G w A κ z h' key v ((execOp ρ o).run P w):=by
 unfold vA4 at he;simp only at he
 have run:∀ {b n off ty k:Nat},(vA6 P s).fields[f]?=some (off,ty,k)->k≠0->ρ x=.pointer (some ⟨b,n,none⟩)->(execOp ρ o).run P w=.ok (.value (.pointer (some ⟨b,n+off,none⟩))) w:=by
  intro b n off ty k hf hk hρ;obtain⟨fs,fd,h1,h2,h3,h4,h5⟩:=zL4 hf;subst h3 h4 h5;have hs:=zE5 (w:=w) hk;simp[execOp,ho,hρ,Instr.fieldAt,run_underlying h1,h2,Instr.sureAddr,fieldPlace,hs,hk,zML]
 split at he
 .rename_i off ty n r j o1 hf hev
  rw[hev]at hx;obtain⟨m,sz,cap,hρ,hk⟩:=hx.ptr_inv;obtain⟨hn,he⟩:=zAK he;cases he
  refine Sound.pure H (run hf hn hρ) ?_;rw[rC4];exact .ptr r j (o1+off) m sz cap hk
 .rename_i off ty n e o1 hf hev
  rw[hev]at hx;obtain⟨b,n',val,hρ,hA,hc,hd⟩:=hx.cptr_inv;obtain⟨hn,he⟩:=zAK he;cases he
  refine Sound.pure H (run hf hn hρ) ?_;rw[rC4];exact .data _ _ (.cptr e (o1+off) b n' val hA hc hd)
 .cases he
theorem vGP{o:Oper}{ty:TypeId}{x ix:Operand}{key:Nat}{v:PV}{h':Hp}{rd wr:List Nat}(ho:o.op=.indexAddr ty x ix)(H:HR E G w A κ h z)(hx:RV w A κ (ev G t x) (ρ x))(hi:RV w A κ (ev G t ix) (ρ ix))
 (he:vA4 P G z key (.indexAddr ty x ix) t h=some (v,h',rd,wr)):Sound E G w A κ z h' key v ((execOp ρ o).run P w):=by
 unfold vA4 at he;simp only at he
 have run:∀ {b n len cap:Nat} {k:IntKind} {i:Int},(vA6 P ty).isSlice=true->0<=i->i<len->P.cellsOf (vA6 P ty).elem≠0->ρ x=.slice (some ⟨b,n,none⟩) len cap->ρ ix=.int k i ->
  (execOp ρ o).run P w=.ok (.value (.pointer (some ⟨b,n+i.toNat * P.cellsOf (vA6 P ty).elem,none⟩))) w:=by
  intro b n len cap k i hs h0 h1 hk hρ hρi;have hu:=zCO hs;have hz:=zE5 (w:=w) hk;simp[execOp,ho,hρ,hρi,Instr.indexAt,asIntOf,run_underlying hu,h0,h1,hz,zML]
 have runA:∀ {b n:Nat} {k:IntKind} {i:Int},(vA6 P ty).alen≠0->0<=i->i<(vA6 P ty).alen->(vA6 P (vA6 P ty).elem).size≠0->ρ x=.pointer (some ⟨b,n,none⟩)->ρ ix=.int k i ->
  (execOp ρ o).run P w=.ok (.value (.pointer (some ⟨b,n+i.toNat * (vA6 P (vA6 P ty).elem).size,none⟩))) w:=by
  intro b n k i hs h0 h1 hk hρ hρi;have hu:=zI0 hs;have hz0:=zC3 hk;have hz:=zE5 (P:=P) (w:=w) (ty:=(vA6 P ty).elem) (by rw[hz0]; exact hk);rw[hz0]at hz;simp[execOp,ho,hρ,hρi,Instr.indexAt,Instr.sureAddr,asIntOf,run_underlying hu,h0,h1,hz,zML]
 split at he
 .rename_i es k n hev hevi
  rw[hev]at hx; rw[hevi]at hi;obtain⟨⟨hs,h0,h1⟩,he⟩:=zAK he
  split at he
  .rename_i e hel
   obtain⟨hsz,he⟩:=zAK he;cases he
   have hρi:=hi.int_inv;have hx':=hx.imm_inv;cases hρ:ρ x<;>rw[hρ]at hx'<;>try (cases hx'; done)
   rename_i a len cap
   cases hx' with
   | imm0=>simp at hel
   | imm _ sz b off _ val hA _ hsz' hc hd =>
     have hin:n.toNat<es.length:=by omega
     have hsz2:e.cells.length=sz:=hsz' e (rAS hel);have hz0:=zC3 hsz.2;have:=run hs h0 h1 (by rw[hz0]; exact hsz.2) hρ hρi;refine Sound.pure H this ?_;have e1:P.cellsOf (vA6 P ty).elem=sz:=by omega
     rw[e1];exact .data _ _ (.cptr e 0 b (off+n.toNat * sz) (val n.toNat) hA (fun c hc'=>hc n.toNat c hin zom) (fun c d hcd=>hd n.toNat e hel c d hcd))
  .cases he
 .rename_i r off len k n hev hevi
  rw[hev]at hx; rw[hevi]at hi;obtain⟨⟨hs,h0,h1⟩,he⟩:=zAK he
  split at he
  .rename_i b hb
   obtain⟨hsz,he⟩:=zAK he;cases he
   have hρi:=hi.int_inv;obtain⟨m,sz,cap,a,hρ,hk,hle,ha⟩:=hx.own_inv;obtain⟨m',cap',hk',_,_,_⟩:=H.blk r b hb (by rw[hk]; simp);rw[hk]at hk'; cases hk';have hz0:=zC3 hsz.2;have ha':a=some ⟨m,off * b.sz,none⟩:=ha.resolve_right zom;subst ha';have:=run hs h0 h1 (by rw[hz0]; exact hsz.2) hρ hρi;refine Sound.pure H this ?_;rw[hz0,<- hsz.1,<- rB6];exact .ptr r (off+n.toNat) 0 m b.sz cap hk
  .cases he
 .rename_i e off k n hev hevi
  rw[hev]at hx; rw[hevi]at hi;obtain⟨⟨h0,h1,h2,h3⟩,he⟩:=zAK he;cases he
  have hρi:=hi.int_inv;obtain⟨b,n',val,hρ,hA,hc,hd⟩:=hx.cptr_inv;refine Sound.pure H (runA h0 h1 h2 h3 hρ hρi) ?_;rw[rC4];exact .data _ _ (.cptr e (off+n.toNat * (vA6 P (vA6 P ty).elem).size) b n' val hA hc hd)
 .rename_i r j off k n hev hevi
  rw[hev]at hx; rw[hevi]at hi;obtain⟨⟨h0,h1,h2,h3⟩,he⟩:=zAK he;cases he
  have hρi:=hi.int_inv;obtain⟨m,sz,cap,hρ,hk⟩:=hx.ptr_inv;refine Sound.pure H (runA h0 h1 h2 h3 hρ hρi) ?_;rw[rC4];exact .ptr r j (off+n.toNat * (vA6 P (vA6 P ty).elem).size) m sz cap hk
 .cases he
end
open Go.RowKit
section
variable {P:Program} {E:Env} {G:Gl} {w:World} {A:Nat->Prop} {κ:Ka} {h:Hp} {z:Fz} {t:Tm} {ρ:Operand->Value} {o:Oper} {key:Nat} {v:PV} {h':Hp} {rd wr:List Nat}
theorem vN5{x:Operand}(ho:o.op=.move x\/o.op=.assign x)(H:HR E G w A κ h z)(hx:RV w A κ (ev G t x) (ρ x)):Sound E G w A κ z h key (ev G t x) ((execOp ρ o).run P w) :=
 Sound.pure H (by rcases ho with ho | ho<;>simp[execOp,ho]) hx
theorem uBC{c a b:Operand}(ho:o.op=.pick c a b)(H:HR E G w A κ h z)(hc:RV w A κ (ev G t c) (ρ c))(ha:RV w A κ (ev G t a) (ρ a))(hb:RV w A κ (ev G t b) (ρ b))
 (he:vA4 P G z key (.pick c a b) t h=some (v,h',rd,wr)):Sound E G w A κ z h' key v ((execOp ρ o).run P w):=by
 unfold vA4 at he;simp only at he
 split at he
 .rename_i q hev
  rw[hev]at hc;have hρ:=hc.bool_inv;cases he
  cases q
  .exact Sound.pure H (v':=ρ b) (by simp[execOp,ho,hρ,asBool]) (by simpa using hb)
  .exact Sound.pure H (v':=ρ a) (by simp[execOp,ho,hρ,asBool]) (by simpa using ha)
 .cases he
theorem vI7{x:Operand}(ho:o.op=.nilCheck x)(H:HR E G w A κ h z)(hx:RV w A κ (ev G t x) (ρ x))
 (he:vA4 P G z key (.nilCheck x) t h=some (v,h',rd,wr)):Sound E G w A κ z h' key v ((execOp ρ o).run P w):=by
 unfold vA4 at he;simp only at he
 split at he
 .rename_i r i off hev
  rw[hev]at hx;obtain⟨m,sz,cap,hρ,hk⟩:=hx.ptr_inv;cases he
  exact Sound.pure H (v':=ρ x) (by simp[execOp,ho,hρ]) hx
 .rename_i e off hev
  rw[hev]at hx;obtain⟨b,n,val,hρ,_⟩:=hx.cptr_inv;cases he
  exact Sound.pure H (v':=ρ x) (by simp[execOp,ho,hρ]) hx
 .cases he
theorem uAC{op:BinOp}{xt:TypeId}{k:IntKind}{a b:Int}{r:PV}(hr:arith op k a b=some r):∃ u,(binOp op xt (.int k a) (.int k b)).run P w=.ok u w/\RV w A κ r u:=by
 unfold arith at hr
 split at hr
 all_goals first | (cases hr; done) | skip
 all_goals cases hr
 all_goals first
  | exact⟨.int k _,by simp only[binOp,ne_eq,not_true_eq_false,rCL]; rfl,.data _ _ (.int _ _)⟩
  | exact⟨.bool _,by simp only[binOp,ne_eq,not_true_eq_false,rCL]; rfl,.data _ _ (.bool _)⟩
theorem vNC{op:BinOp}{xt:TypeId}{x y:Operand}{k k':IntKind}{a b:Int}:(eqGuard op xt x y (.int k a) (.int k' b)).run P w=.ok () w:=by
 unfold eqGuard
 split<;>simp
theorem zME{op:BinOp}{xt:TypeId}{x y:Operand}{a b:Bool}:(eqGuard op xt x y (.bool a) (.bool b)).run P w=.ok () w:=by
 unfold eqGuard
 split<;>simp
theorem zMD(d:Nat){xt:TypeId}(hu:P.underlying xt=some .bool)(a b:Bool):(Op.equalIn (d+1) xt (.bool a) (.bool b)).run P w=.ok (a == b) w:=by
 unfold Op.equalIn;simp[run_underlying hu]
theorem zMF (d:Nat) (xs ys:Array Value):∀ (fs:List Field) (k:Nat) (as bs:List PV) (r:Bool),
 (fs.zipIdx k).all (fun (f, i) => f.name != "_" && f.offset == i && (match P.underlying f.type with | some (.int _) => true | _ => false)) = true →
 (∀ i v,as[i]?=some v->∃ u,xs[k+i]?=some u/\RV w A κ v u)->(∀ i v,bs[i]?=some v->∃ u,ys[k+i]?=some u/\RV w A κ v u)->as.length=fs.length->vC8 as bs=some r ->
 (Op.eqFields (d+1) xs ys fs).run P w=.ok r w
 | [],k,as,bs,r,_,_,_,hl,he=>by
   have:as=[]:=List.eq_nil_of_length_eq_zero (by simpa using hl);subst this;cases bs with
   | nil=>simp[vC8]at he; subst he; rfl
   | cons b bs=>simp[vC8]at he
 | f :: fs, k,as,bs,r,hf,hx,hy,hl,he=>by
   cases as with
   | nil=>simp at hl
   | cons a as =>
     cases bs with
     | nil=>cases a<;>simp[vC8]at he
     | cons b bs =>
       cases a with
       | int q n =>
         cases b with
         | int q' n' =>
           simp only[vC8]at he
           split at he
           .rename_i hq
            subst hq;obtain⟨r',hr',rfl⟩:=rBJ.1 he;simp only[List.zipIdx_cons,List.all_cons,rAO,rEH,ne_eq,rDJ]at hf;obtain⟨⟨⟨hn,ho⟩,hu⟩,hrest⟩:=hf
            have hu':∃ k',P.underlying f.type=some (.int k'):=by
             split at hu
             .exact⟨_,‹_›⟩
             .cases hu
            obtain⟨k',hu'⟩:=hu';obtain⟨u,h1,h2⟩:=hx 0 _ rfl;obtain⟨u',h3,h4⟩:=hy 0 _ rfl;have:=h2.int_inv; subst this;have:=h4.int_inv; subst this
            have ih:=zMF d xs ys fs (k+1) as bs r' hrest (fun i v hv=>by have:=hx (i+1) v (by simpa using hv); rwa [show k+(i+1)=k+1+i by omega]at this)
             (fun i v hv=>by have:=hy (i+1) v (by simpa using hv); rwa [show k+(i+1)=k+1+i by omega]at this) (by simpa using hl) hr'
            have hpx:(Go.part f.type xs f.offset).run P w=.ok (.int q n) w:=by
             rw[ho]; simp[Go.part,isAgg,run_underlying hu',show xs[k]?=some (.int q n) from h1]
            have hpy:(Go.part f.type ys f.offset).run P w=.ok (.int q n') w:=by
             rw[ho]; simp[Go.part,isAgg,run_underlying hu',show ys[k]?=some (.int q n') from h3]
            simp only [Op.eqFields, rAU (show f.name ≠ "_" from hn), Sem.run_bind, hpx, hpy, Result.andThen_ok, run_equalIn_int w d f.type q k' n n' hu'];by_cases hnn : (n == n') = true
            .simp[hnn,ih]
            .simp[hnn]
           .cases he
         | _=>simp[vC8]at he
       | _=>simp[vC8]at he
theorem vIV{t:TypeId}(h:(vA6 P t).eqInts=true):∃ fs,P.underlying t=some (.struct fs)/\(vA6 P t).fields.length=fs.size/\P.fieldsOf t=fs /\
 (fs.toList.zipIdx 0).all (fun (f, i) => f.name != "_" && f.offset == i && (match P.underlying f.type with | some (.int _) => true | _ => false)) = true ∧ P.stoodInHeld t = false ∧ P.eqGuardType P.depth t = false := by
 unfold vA6 at h ⊢;simp only at h ⊢;cases hd:P.underlying t with
 | none=>simp[hd]at h
 | some d =>
   cases d with
   | struct fs =>
     simp only[hd,rAO,rEL]at h;exact⟨fs,rfl,zsm,by simp[Program.fieldsOf,hd],h.1.1,h.1.2,h.2⟩
   | _=>simp[hd]at h
theorem vKV{xt:TypeId}{as bs:List PV}{u u':Value}{r:Bool}(hc:(vA6 P xt).eqInts=true/\as.length=(vA6 P xt).fields.length/\bs.length=(vA6 P xt).fields.length)(hx:RV w A κ (.agg as) u)(hy:RV w A κ (.agg bs) u')(he:vC8 as bs=some r) :
 ∃ xs ys,u=.agg xs/\u'=.agg ys/\(Op.equalIn 10000 xt (.agg xs) (.agg ys)).run P w=.ok r w/\P.eqGuardType P.depth xt=false:=by
 obtain⟨fs,h1,h2,h3,h4,h5,h6⟩:=vIV hc.1;obtain⟨xs,rfl,hl,hx',_⟩:=hx.agg_inv;obtain⟨ys,rfl,hl',hy',_⟩:=hy.agg_inv;refine⟨xs,ys,rfl,rfl,?_,h6⟩;rw[show(10000:Nat)=9999+1 from rfl,run_equalIn_struct w 9999 xt xs ys (by rw[h3]; exact h1) h5,h3]
 have get:∀ (cs:Array Value) (l:List PV),cs.size=l.length->(∀ i d,l[i]?=some d->RV w A κ d (cs.getD i undef))->∀ i v,l[i]?=some v->∃ u,cs[0+i]?=some u/\RV w A κ v u:=by
  intro cs l hl h i v hv;have hi:=(rAP.1 hv).1;have hi':i<cs.size:=by omega
  have:=h i v hv;rw[rBF,rCV hi',Option.getD_some]at this;exact⟨cs[i],by rw[rC5,rCV hi'],this⟩
 exact zMF 9998 xs ys fs.toList 0 as bs r h4 (get xs as hl hx') (get ys bs hl' hy') (by rw[hc.2.1,h2]; simp) he
theorem zPT{v r:PV}{u:Value}(hr:isNil v=some r)(hx:RV w A κ v u):∃ a l c,u=.slice a l c/\RV w A κ r (.bool a.isNone)/\RV w A κ (uPT r) (.bool (!a.isNone)):=by
 unfold isNil at hr
 split at hr
 .cases hr
  have:=hx.nilsl_inv; subst this;exact⟨_,_,_,rfl,.data _ _ (.bool _),.data _ _ (.bool _)⟩
 .cases hr
  obtain⟨a,c,rfl⟩:=hx.imm_len;exact⟨_,_,_,rfl,.anyb _,.anyb _⟩
 .cases hr
  have:=hx.imm_inv;cases hu:u<;>rw[hu]at this<;>try (cases this; done)
  cases this with
  | imm _ sz b off cap _=>exact⟨_,_,_,rfl,.data _ _ (.bool _),.data _ _ (.bool _)⟩
 .cases hr
  obtain⟨m,sz,cap,a,rfl,_,hle,ha⟩:=hx.own_inv;refine⟨a,_,_,rfl,?_⟩
  split
  .exact⟨.anyb _,.anyb _⟩
  .have:=ha.resolve_right zom
   subst this;exact⟨.data _ _ (.bool _),.data _ _ (.bool _)⟩
 .cases hr
theorem zKL{op:BinOp}{xt:TypeId}{x y:Operand}{a b:Option Addr}{l c l' c':Nat}:(eqGuard op xt x y (.slice a l c) (.slice b l' c')).run P w=.ok () w:=by
 unfold eqGuard
 split<;>simp
theorem vUQ{op:BinOp}{xt yt:TypeId}{x y:Operand}(ho:o.op=.binOp op xt x y yt)(H:HR E G w A κ h z)(hx:RV w A κ (ev G t x) (ρ x))(hy:RV w A κ (ev G t y) (ρ y))
 (he:vA4 P G z key (.binOp op xt x y yt) t h=some (v,h',rd,wr)):Sound E G w A κ z h' key v ((execOp ρ o).run P w):=by
 unfold vA4 at he;simp only at he
 split at he
 .rename_i k a k' b hev hev'
  rw[hev]at hx; rw[hev']at hy;have hρ:=hx.int_inv; have hρ':=hy.int_inv
  have run:∀ {u:Value},(binOp op xt (.int k a) (.int k' b)).run P w=.ok u w->(execOp ρ o).run P w=.ok (.value u) w:=by
   intro u hu;simp only[execOp,ho,hρ,hρ',Sem.run_bind,vNC,Result.andThen_ok,hu];rfl
  split at he
  .rename_i hk
   subst hk
   split at he
   .obtain⟨hb,he⟩:=zAK he
    cases he
    exact Sound.pure H (run (by simp[binOp,Op.intDiv,hb])) (.data _ _ (.int _ _))
   .obtain⟨hb,he⟩:=zAK he
    cases he
    exact Sound.pure H (run (by simp[binOp,Op.intDiv,hb])) (.data _ _ (.int _ _))
   .obtain⟨hb,he⟩:=zAK he
    cases he
    have:¬ b<0:=by omega
    exact Sound.pure H (run (by simp only[binOp,Op.shift,rAM this]; rfl)) (.data _ _ (.int _ _))
   .obtain⟨hb,he⟩:=zAK he
    cases he
    have:¬ b<0:=by omega
    exact Sound.pure H (run (by simp only[binOp,Op.shift,rAM this]; rfl)) (.data _ _ (.int _ _))
   .obtain⟨r,hr,hv⟩:=map_some he
    cases hv
    obtain⟨u,h1,h2⟩:=uAC (P:=P) (w:=w) (A:=A) (κ:=κ) (xt:=xt) hr;exact Sound.pure H (run h1) h2
  .split at he
   .obtain⟨hb,he⟩:=zAK he
    cases he
    have:¬ b<0:=by omega
    exact Sound.pure H (run (by simp only[binOp,Op.shift,rAM this]; rfl)) (.data _ _ (.int _ _))
   .obtain⟨hb,he⟩:=zAK he
    cases he
    have:¬ b<0:=by omega
    exact Sound.pure H (run (by simp only[binOp,Op.shift,rAM this]; rfl)) (.data _ _ (.int _ _))
   .cases he
 .rename_i a b hev hev'
  rw[hev]at hx; rw[hev']at hy;have hρ:=hx.bool_inv; have hρ':=hy.bool_inv
  have hu:(vA6 P xt).isBool=true->P.underlying xt=some .bool:=by
   intro hb;unfold vA6 at hb;simp only at hb;cases hd:P.underlying xt with
   | none=>simp[hd]at hb
   | some d=>cases d<;>simp[hd]at hb ⊢
  split at he
  .obtain⟨hb,he⟩:=zAK he
   cases he
   refine Sound.pure H (v':=.bool (a == b)) ?_ (.data _ _ (.bool _));simp only[execOp,ho,hρ,hρ',Sem.run_bind,zME,Result.andThen_ok];have:=zMD (P:=P) (w:=w) 9999 (hu hb) a b;simp only[binOp,Op.equal,Sem.run_bind,show Op.maxDepth=9999+1 from rfl,this,Result.andThen_ok];rfl
  .obtain⟨hb,he⟩:=zAK he
   cases he
   refine Sound.pure H (v':=.bool (a != b)) ?_ (.data _ _ (.bool _));simp only[execOp,ho,hρ,hρ',Sem.run_bind,zME,Result.andThen_ok];have:=zMD (P:=P) (w:=w) 9999 (hu hb) a b;simp only[binOp,Op.equal,Sem.run_bind,show Op.maxDepth=9999+1 from rfl,this,Result.andThen_ok];rfl
  .cases he
 .rename_i as bs hev hev'
  rw[hev]at hx; rw[hev']at hy
  split at he
  .obtain⟨hc,he⟩:=zAK he
   obtain⟨r,hr,hv⟩:=map_some he;cases hv
   obtain⟨xs,ys,hρ,hρ',h1,h2⟩:=vKV hc hx hy hr;refine Sound.pure H (v':=.bool r) ?_ (.data _ _ (.bool _));simp only[execOp,ho,hρ,hρ',Sem.run_bind,run_eqGuard_agg w _ xt x y xs ys h2,Result.andThen_ok,run_eql_struct,h1];rfl
  .obtain⟨hc,he⟩:=zAK he
   obtain⟨r,hr,hv⟩:=map_some he;cases hv
   obtain⟨xs,ys,hρ,hρ',h1,h2⟩:=vKV hc hx hy hr;refine Sound.pure H (v':=.bool (!r)) ?_ (.data _ _ (.bool _));simp only[execOp,ho,hρ,hρ',Sem.run_bind,run_eqGuard_agg w _ xt x y xs ys h2,Result.andThen_ok,run_neq_struct,h1];rfl
  .cases he
 .rename_i hev'
  rw[hev']at hy;have hρ':=hy.nilsl_inv
  split at he
  .obtain⟨hc,he⟩:=zAK he
   obtain⟨r,hr,hv⟩:=map_some he;cases hv
   obtain⟨a,l,c,hρ,h1,h2⟩:=zPT hr hx;refine Sound.pure H (v':=.bool a.isNone) ?_ h1;simp only[execOp,ho,hρ,hρ',Sem.run_bind,zKL,Result.andThen_ok,binOp,run_equal_slice_nil w xt _ a l c (zCO hc)];rfl
  .obtain⟨hc,he⟩:=zAK he
   obtain⟨r,hr,hv⟩:=map_some he;cases hv
   obtain⟨a,l,c,hρ,h1,h2⟩:=zPT hr hx;refine Sound.pure H (v':=.bool (!a.isNone)) ?_ h2;simp only[execOp,ho,hρ,hρ',Sem.run_bind,zKL,Result.andThen_ok,run_neq_slice_nil w xt _ a l c (zCO hc)];rfl
  .cases he
 .cases he
theorem uBB{op:UnOp}{xt:TypeId}{x:Operand}(ho:o.op=.unOp op xt x)(H:HR E G w A κ h z)(hx:RV w A κ (ev G t x) (ρ x))
 (he:vA4 P G z key (.unOp op xt x) t h=some (v,h',rd,wr)):Sound E G w A κ z h' key v ((execOp ρ o).run P w):=by
 unfold vA4 at he;simp only at he
 split at he
 .rename_i b hev
  rw[hev]at hx;have hρ:=hx.bool_inv;cases he
  exact Sound.pure H (v':=.bool (!b)) (by simp[execOp,ho,hρ,Op.unary]) (.data _ _ (.bool _))
 .rename_i k n hev
  rw[hev]at hx;have hρ:=hx.int_inv;cases he
  exact Sound.pure H (v':=.int k (k.wrap (0 - n))) (by simp[execOp,ho,hρ,Op.unary,Op.intArith]) (.data _ _ (.int _ _))
 .cases he
theorem zO4{s:TypeId}{k:IntKind}(hk:(vA6 P s).kind=some k):P.underlying s=some (.int k):=by
 unfold vA6 at hk;simp only at hk;cases hd:P.underlying s with
 | none=>simp[hd]at hk
 | some d=>cases d<;>simp[hd]at hk ⊢; exact hk
theorem vLW{src dst:TypeId}{x:Operand}(ho:o.op=.convert src dst x)(H:HR E G w A κ h z)(hx:RV w A κ (ev G t x) (ρ x))
 (he:vA4 P G z key (.convert src dst x) t h=some (v,h',rd,wr)):Sound E G w A κ z h' key v ((execOp ρ o).run P w):=by
 unfold vA4 at he;simp only at he
 split at he
 .rename_i k0 k k1 n hs hd hev
  rw[hev]at hx;have hρ:=hx.int_inv;cases he
  refine Sound.pure H (v':=.int k (k.wrap n)) ?_ (.data _ _ (.int _ _));simp[execOp,ho,hρ,convert,run_underlying (zO4 hs),run_underlying (zO4 hd),Conv.intToInt]
 .cases he
theorem vLV{x:Operand}{i:Nat}(ho:o.op=.extract x i)(H:HR E G w A κ h z)(hx:RV w A κ (ev G t x) (ρ x))
 (he:vA4 P G z key (.extract x i) t h=some (v,h',rd,wr)):Sound E G w A κ z h' key v ((execOp ρ o).run P w):=by
 unfold vA4 at he;simp only at he
 split at he
 .rename_i vs hev
  rw[hev]at hx;obtain⟨us,hρ,hl,hh⟩:=hx.tup_inv;obtain⟨d,hd,hv⟩:=map_some he;cases hv
  have hi:i<us.size:=by have:=(rAP.1 hd).1; omega
  refine Sound.pure H (v':=us.getD i undef) ?_ (hh i v hd);simp[execOp,ho,hρ,Instr.extract,hi,Array.getD]
 .cases he
theorem vI8{fn:Fn}{first captured:Array Operand}(ho:o.op=.makeFunc fn first captured)(H:HR E G w A κ h z)(hx:∀ x∈(first++captured).toList,RV w A κ (ev G t x) (ρ x)) :
 Sound E G w A κ z h key (.func fn (first.toList.map (ev G t)) (captured.toList.map (ev G t))) ((execOp ρ o).run P w):=by
 refine Sound.pure H (v':=.func fn (first.map ρ) (captured.map ρ)) (by simp[execOp,ho,Instr.makeFunc]) (.func _ _ _ _ _ zsm zsm (fun i d hd=>?_) (fun i d hd=>?_))
 .simp only[rBP,rBJ]at hd
  obtain⟨x,hx1,rfl⟩:=hd;have:=hx x (by simp[rDF (by simpa using hx1:first[i]?=some x)]);have hi:i<first.size:=by have:=(rAP.1 hx1).1; simpa using this
  have e:first[i]=x:=by have:=(rAP.1 hx1).2; simpa using this
  simpa [Array.getD,hi,e]using this
 .simp only[rBP,rBJ]at hd
  obtain⟨x,hx1,rfl⟩:=hd;have:=hx x (by simp[rDF (by simpa using hx1:captured[i]?=some x)]);have hi:i<captured.size:=by have:=(rAP.1 hx1).1; simpa using this
  have e:captured[i]=x:=by have:=(rAP.1 hx1).2; simpa using this
  simpa [Array.getD,hi,e]using this
theorem vOX{ty:TypeId}{cs:List PV}{vs:Array Value}{off:Nat}{v0:PV}{d:TypeDesc}(hp:part (.agg cs) off (vA6 P ty).size (vA6 P ty).agg=some v0)(hd:P.underlying ty=some d)
 (hsz:(sizeOf ty).run P w=.ok (vA6 P ty).size w) (hl:vs.size=cs.length) (hc:∀ i d,cs[i]?=some d->RV w A κ d (vs.getD i undef)) (h1:∀ i,i<cs.length->(vs.getD i undef).oneCell'=true) :
 ∃ u,(Go.part ty vs off).run P w=.ok u w/\RV w A κ v0 u:=by
 have hag:=vIW hd;rcases zHP hp with⟨ha,ds,rfl,hl',hds⟩ | ⟨ha,hn,he⟩
 .have hin:∀ j,j<ds.length->off+j<vs.size:=fun j hj=>by
   have:=hds j ds[j] (rAQ hj);have:=(rAP.1 this).1;simp at this; omega
  refine⟨.agg (vs.extract off (off+(vA6 P ty).size)),?_,.agg _ _ ?_ (fun j d hj=>?_) (fun j hj=>?_)⟩
  .simp[Go.part,hag,ha,hsz]
  .simp
   rcases rDD ds.length with h0 | h0
   .omega
   .have:=hin (ds.length - 1) zom; omega
  .have hj':=(rAP.1 hj).1
   have h2:=hc _ _ (hds j d hj);have h3:=hin j hj';have h4:j<min (off+(vA6 P ty).size) vs.size - off:=by omega
   have e:(vs.extract off (off+(vA6 P ty).size)).getD j undef=vs.getD (off+j) undef:=by
    simp[Array.getD,h3,h4]
   rw[e]; exact h2
  .have h3:=hin j hj
   have h4:j<min (off+(vA6 P ty).size) vs.size - off:=by omega
   have e:(vs.extract off (off+(vA6 P ty).size)).getD j undef=vs.getD (off+j) undef:=by
    simp[Array.getD,h3,h4]
   rw[e]; exact h1 _ zom
 .have h3:off<vs.size:=by have:=(rAP.1 he).1; simp at this; omega
  refine⟨vs.getD off undef,?_,hc _ _ he⟩;simp[Go.part,hag,ha,h3,Array.getD]
theorem vUO{s:TypeId}{x:Operand}{f:Nat}(ho:o.op=.field s x f)(H:HR E G w A κ h z)(hx:RV w A κ (ev G t x) (ρ x))
 (he:vA4 P G z key (.field s x f) t h=some (v,h',rd,wr)):Sound E G w A κ z h' key v ((execOp ρ o).run P w):=by
 unfold vA4 at he;simp only at he
 split at he
 .rename_i off ty n cs hf hev
  rw[hev]at hx;obtain⟨vs,hρ,hl,hc,h1⟩:=hx.agg_inv;obtain⟨v0,hp,hv⟩:=map_some he;cases hv
  obtain⟨fs,fd,g1,g2,g3,g4,g5⟩:=zL4 hf;subst g3 g4 g5
  have hz:(vA6 P fd.type).size≠0\/(vA6 P fd.type).agg=true:=by
   rcases zHP hp with⟨h,_⟩ | ⟨_,h,_⟩
   .exact rA0 h
   .left; omega
  have hd:∃ d i,P.underlying fd.type=some d/\P.info? fd.type=some i:=by
   rcases hz with hz | hz
   .obtain⟨i,d,h1,h,_⟩:=zDV hz; exact⟨d,i,h,h1⟩
   .unfold vA6 at hz; simp only at hz
    cases hd:P.underlying fd.type with
    | none=>simp[hd]at hz
    | some d =>
      unfold Program.underlying at hd;cases hi:P.info? fd.type with
      | none=>simp[hi]at hd
      | some i=>exact⟨d,i,rfl,rfl⟩
  obtain⟨d,i,hd,hi⟩:=hd;have hsz:(sizeOf fd.type).run P w=.ok (vA6 P fd.type).size w:=by simp[sizeOf,typeInfo,hi,vA6,hd,Program.cellsOf]
  obtain⟨u,q1,q2⟩:=vOX (w:=w) hp hd hsz hl hc h1;refine Sound.pure H (v':=u) ?_ q2;simp[execOp,ho,hρ,Instr.field,run_underlying g1,g2,asAgg,q1]
 .cases he
theorem zEG{k:IntKind}{i:Int}{y:Nat}{code:BoundsCode}(h0:0<=i)(h1:i<=y):(Instr.sliceBound (.int k i) y code).run P w=.ok i.toNat w:=by
 simp[Instr.sliceBound,asIntOf,h0,h1]
theorem zNJ{len cap:Nat}{lo hi:Option Operand}{a b:Int}(hlo:lo=none/\a=0\/∃ x k,lo=some x/\ρ x=.int k a)(hhi:hi=none/\b=len\/∃ x k,hi=some x/\ρ x=.int k b)
 (h0:0<=a) (h1:a<=b) (h2:b<=cap):(Instr.sliceBounds true len cap (lo.map ρ) (hi.map ρ) none).run P w=.ok (a.toNat,b.toNat,cap) w:=by
 have hb:(0:Int)<=b:=by omega
 have ha':a<=(b.toNat:Nat):=by omega
 rcases hlo with⟨rfl,rfl⟩ | ⟨x,k,rfl,hx⟩<;>rcases hhi with⟨rfl,rfl⟩ | ⟨y,k',rfl,hy⟩
 .simp[Instr.sliceBounds]
 .simp[Instr.sliceBounds,hy,zEG hb h2]
 .simp at ha'
  simp[Instr.sliceBounds,hx,zEG h0 ha']
 .simp[Instr.sliceBounds,hx,hy,zEG hb h2,zEG h0 ha']
theorem vXY{lo:Option Operand}{a:Int}(hlo:(match lo with | none=>some 0 | some o=>match ev G t o with | .int _ n=>some n | _=>none)=some a)(hr:∀ x,lo=some x->RV w A κ (ev G t x) (ρ x)) :
 lo=none/\a=0\/∃ x k,lo=some x/\ρ x=.int k a:=by
 cases lo with
 | none=>left; simp at hlo; exact⟨rfl,hlo.symm⟩
 | some x =>
   right
   simp only at hlo
   split at hlo
   .rename_i k n hev
    have:=hr x rfl;rw[hev]at this;cases hlo
    exact⟨x,k,rfl,this.int_inv⟩
   .cases hlo
theorem vYG{hi:Option Operand}{len:Nat}{a:Int}(hhi:(match hi with | none=>some (len:Int) | some o=>match ev G t o with | .int _ n=>some n | _=>none)=some a)(hr:∀ x,hi=some x->RV w A κ (ev G t x) (ρ x)) :
 hi=none/\a=len\/∃ x k,hi=some x/\ρ x=.int k a:=by
 cases hi with
 | none=>left; simp at hhi; exact⟨rfl,hhi.symm⟩
 | some x =>
   right
   simp only at hhi
   split at hhi
   .rename_i k n hev
    have:=hr x rfl;rw[hev]at this;cases hhi
    exact⟨x,k,rfl,this.int_inv⟩
   .cases hhi
theorem RD.sub{es:List PV}{sz b off cap:Nat}{val:Nat->Nat->Value}{i j:Nat}(hA:A b)(hcap:j - i<=cap)(hsz:∀ e∈es,e.cells.length=sz)
 (hc:∀ i c,i<es.length->c<sz->w.cell? ⟨b,off+i * sz+c,none⟩=some (val i c)/\(val i c).oneCell'=true)
 (h:∀ i e,es[i]?=some e->∀ c d,e.cells[c]?=some d->RD w A d (val i c)) (hj:j<=es.length) (hij:i<=j) :
 RD w A (.imm ((es.take j).drop i)) (.slice (some ⟨b,off+i * sz,none⟩) (j - i) cap):=by
 have hl:((es.take j).drop i).length=j - i:=by simp; omega
 rw[<- hl]
 have hget:∀ k,k<j - i->((es.take j).drop i)[k]?=es[i+k]?:=fun k hk=>by
  rw[rCR,rCB zom]
 refine .imm _ sz b (off+i * sz) cap (fun k c=>val (i+k) c) hA zom (fun e he=>hsz e (rCK (rDI he))) (fun k c hk hc'=>?_) (fun k e hk c d hd=>?_)
 .have:=hc (i+k) c zom hc'
  rw[rB6,<- rC4]at this;exact this
 .have hk':=(rAP.1 hk).1
  rw[hget k zom]at hk;exact h _ _ hk c d hd
theorem vUK{ty:TypeId}{x:Operand}{lo hi:Option Operand}(ho:o.op=.slice ty x lo hi none)(H:HR E G w A κ h z)(hx:RV w A κ (ev G t x) (ρ x))(hlo:∀ y,lo=some y->RV w A κ (ev G t y) (ρ y))(hhi:∀ y,hi=some y->RV w A κ (ev G t y) (ρ y))
 (he:vA4 P G z key (.slice ty x lo hi none) t h=some (v,h',rd,wr)):Sound E G w A κ z h' key v ((execOp ρ o).run P w):=by
 unfold vA4 at he;simp only at he
 have run:∀ {ad:Option Addr} {len cap:Nat} {a b:Int},(vA6 P ty).isSlice=true->(P.cellsOf (vA6 P ty).elem≠0)->ρ x=.slice ad len cap ->
  (lo=none/\a=0\/∃ x k,lo=some x/\ρ x=.int k a)->(hi=none/\b=len\/∃ x k,hi=some x/\ρ x=.int k b)->0<=a->a<=b->b<=cap ->
  (execOp ρ o).run P w=.ok (.value (.slice (if cap=a.toNat then ad else ad.map (·.add (a.toNat * P.cellsOf (vA6 P ty).elem))) (b.toNat - a.toNat) (cap - a.toNat))) w:=by
  intro ad len cap a b hs hz hρ h1 h2 h3 h4 h5;have hu:=zCO hs;have hb:=zNJ (P:=P) (w:=w) (ρ:=ρ) (len:=len) (cap:=cap) h1 h2 h3 h4 h5;have hsz:=zE5 (w:=w) hz;simp[execOp,ho,hρ,Instr.sliceAt,Instr.slice,run_underlying hu,hb,hsz]
 split at he
 .rename_i es hev
  rw[hev]at hx
  split at he
  .rename_i a b hla hhb
   have hla':=vXY hla hlo;have hhb':=vYG hhb hhi;obtain⟨⟨hs,hall,h0,h1,h2,hne⟩,he⟩:=zAK he;cases he
   have hz:=zC3 hne;have hx':=hx.imm_inv;cases hρ:ρ x<;>rw[hρ]at hx'<;>try (cases hx'; done)
   rename_i ad len cap
   cases hx' with
   | imm0 =>
     simp at h2;have e1:a=0:=by omega
     have e2:b=0:=by omega
     subst e1 e2;have:=run hs (by rw[hz]; exact hne) hρ hla' hhb' (rFJ 0) (rFJ 0) zom;exact Sound.pure H this (.data _ _ (.imm0 _ _))
   | imm _ sz bk off _ val hA hcap hsz' hc hd =>
     have:=run hs (by rw[hz]; exact hne) hρ hla' hhb' h0 h1 zom;refine Sound.pure H this (.data _ _ ?_);by_cases he0:es=[]
     .subst he0
      simp at h2;have e2:b.toNat - a.toNat=0:=by omega
      rw[e2];have e3:(List.drop a.toNat (List.take b.toNat ([]:List PV)))=[]:=by simp
      rw[e3];exact .imm0 _ _
     have hzs:P.cellsOf (vA6 P ty).elem=sz:=by
      obtain⟨e,l,rfl⟩:=rGB he0;rw[hz,<- hall e zsm,hsz' e zsm]
     rw[hzs];have hsub:=RD.sub (w:=w) (A:=A) (cap:=cap - a.toNat) (i:=a.toNat) (j:=b.toNat) hA zom hsz' hc hd zom zom;by_cases hca:cap=a.toNat
     .have e2:b.toNat - a.toNat=0:=by omega
      have e3:(List.drop a.toNat (List.take b.toNat es))=[]:=rDU rAE;rw[e2,e3];exact .imm0 _ _
     .rw[rAM hca]
      simp only[Option.map_some,zML];exact hsub
  .cases he
 .rename_i r off len hev
  rw[hev]at hx
  split at he
  .rename_i a b hla hhb
   have hla':=vXY hla hlo;have hhb':=vYG hhb hhi
   split at he
   .rename_i k hk
    obtain⟨⟨hs,hsz,h0,h1,h2,hne⟩,he⟩:=zAK he;cases he
    have hz:=zC3 hne;obtain⟨m,sz,cap,ad,hρ,hκ,hle,ha⟩:=hx.own_inv;obtain⟨m',cap',hκ',_⟩:=H.blk r k hk (by rw[hκ]; simp);rw[hκ]at hκ'; cases hκ';have:=run hs (by rw[hz]; exact hne) hρ hla' hhb' h0 h1 zom;refine Sound.pure H this ?_;rw[hz,<- hsz,Nat.sub_sub];refine .own r (off+a.toNat) (b.toNat - a.toNat) m k.sz cap _ hκ zom ?_;by_cases hca:cap - off=a.toNat
    .right; omega
    .left
     rw[rAM hca];rcases ha with rfl | ha
     .simp only[Option.map_some,zML,rB6]
     .omega
   .cases he
  .cases he
 .cases he
end
open Go.RowKit
theorem vH1(off:Nat):∀ (l:List Value) (k:Nat) (cs:Array Value),off+k+l.length<=cs.size ->
 ((l.zipIdx k).foldl (fun cs (x:Value×Nat)=>cs.setIfInBounds (off+x.2) x.1) cs).size=cs.size /\
 ∀ p,((l.zipIdx k).foldl (fun cs (x:Value×Nat)=>cs.setIfInBounds (off+x.2) x.1) cs)[p]?=if off+k<=p/\p<off+k+l.length then l[p - (off+k)]? else cs[p]?
 | [],k,cs,_=>⟨rfl,fun p=>by simp; omega⟩
 | v :: l,k,cs,h=>by
   simp only[List.length_cons]at h;have ih:=vH1 off l (k+1) (cs.setIfInBounds (off+k) v) rAE;simp only[List.zipIdx_cons,List.foldl_cons];refine⟨by rw[ih.1]; simp,fun p=>?_⟩;rw[ih.2 p];simp only[List.length_cons];by_cases hp:p=off+k
   .subst hp
    rw[rAM zom,rAU zom];have:off+k<cs.size:=by omega
    simp[this]
   .by_cases hq:off+k<=p/\p<off+k+(l.length+1)
    .rw[rAU zom,rAU hq]
     have e:p - (off+k)=(p - (off+(k+1)))+1:=by omega
     rw[e,List.getElem?_cons_succ]
    .rw[rAM zom,rAM hq]
     rw[rFU zom]
section
variable {P:Program} {E:Env} {G:Gl} {w:World} {A:Nat->Prop} {κ:Ka} {h:Hp} {z:Fz} {t:Tm} {ρ:Operand->Value} {o:Oper} {key:Nat} {v:PV} {h':Hp} {rd wr:List Nat}
structure Cs(w:World)(A:Nat->Prop)(κ:Ka)(ds:List PV)(c:Array Value):Prop where
 len:c.size=ds.length
 rel:∀ (i:Nat) (d:PV),ds[i]?=some d->∃ v:Value,c[i]?=some v/\RV w A κ d v/\v.oneCell'=true
theorem Cs.all{ds:List PV}{c:Array Value}(h:Cs w A κ ds c):∀ u∈c.toList,u.oneCell'=true:=by
 intro u hu;obtain⟨i,hi,rfl⟩:=rA8 hu;have hi':i<c.size:=by simpa using hi
 obtain ⟨v, h1, _, h3⟩ := h.rel i (ds[i]'(by rw [<- h.len]; exact hi')) (rAQ _);rw [rCV hi'] at h1;cases h1
 simpa using h3
theorem Cs.of{d:PV}{v:Value}(h:RV w A κ d v)(hs:d.storable=true):Cs w A κ d.cells v.cells:=by
 obtain⟨⟨h1,h2⟩,h3⟩:=h.cells hs;refine⟨by simpa using h1.symm,fun i d' hd=>?_⟩;have hi:i<v.cells.size:=by have:=(rAP.1 hd).1; simp at h1; omega
 refine⟨v.cells[i],rCV hi,?_,h3 _ zsm⟩;have:=h2 i d' hd
 simpa [List.getD,hi]using this
theorem Cs.lies{d:PV}{c:Array Value}(h:Cs w A κ d.cells c):lies w A κ c 0 d:=fun j x hx=>by
 obtain⟨v,h1,h2,h3⟩:=h.rel j x hx;exact⟨v,by simpa using h1,h2,h3⟩
theorem vUM{ty:TypeId}{d:PV}{u:Value}(H:HR E G w A κ h z)(hn:E.n0<=key)(hk:κ key=none)(hz:z key=false)(hd:RV w A κ d u)(hs:d.storable=true)
 (hr:(execOp ρ o).run P w=.ok (.value (.pointer (some ⟨w.heap.size,0,none⟩))) (w.alloc (.cells u.cells ty))) :
 Sound E G w A κ z (hset h key (some ⟨[d],d.cells.length,d.isAgg⟩)) key (.ptr key 0 0) ((execOp ρ o).run P w):=by
 have hc:=Cs.of hd hs
 refine⟨_,_,vDM κ key (w.heap.size,d.cells.length,1),rAW hr,H.alloc hn hk hz (by rw[hc.len]; simp) zsm zsm hc.all (fun i e he=>?_),?_,zDH _ hk,fun r hr=>zAO κ _ hr,
  fun b o' hA=>cell?_of_heap (Below.heap_alloc _ _ _ (H.alt b hA)) o'⟩
 .cases i with
  | zero=>simp at he; subst he; simpa using hc.lies
  | succ i=>simp at he
 .have:=RV.ptr (w:=w.alloc (.cells u.cells ty)) (A:=A) (κ:=vDM κ key (w.heap.size,d.cells.length,1)) key 0 0 w.heap.size d.cells.length 1 (zAZ ..)
  simpa using this
theorem zE4{s:TypeId}(h:(vA6 P s).zok=true):∃ i u,P.info? s=some i/\i.zero=some u/\(vA6 P s).zero=vEC u/\(vA6 P s).zero.storable=true/\∀ d∈(vA6 P s).zero.cells,d.storable=true:=by
 have hz:(vA6 P s).zero.storable=true/\∀ d∈(vA6 P s).zero.cells,d.storable=true:=by
  unfold vA6 at h ⊢;simp only[rAO,rBG]at h ⊢;exact h
 unfold vA6 at hz ⊢;simp only at hz ⊢;cases hi:P.info? s with
 | none=>simp[hi,PV.storable]at hz
 | some i =>
   cases hu:i.zero with
   | none=>simp[hi,hu,PV.storable]at hz
   | some u =>
     simp only[hi,hu]at hz ⊢;exact⟨i,u,rfl,hu,rfl,hz⟩
theorem zNR{u:Value}(hs:(vD6 u).storable=true):u.oneCell'=true:=by
 unfold vD6 at hs
 split at hs<;>first | rfl | (simp[PV.storable]at hs; done) | skip
theorem vLZ(cs:Array Value)(h:∀ d∈(vEC (.agg cs)).cells,d.storable=true):RV w A κ (vEC (.agg cs)) (.agg cs):=by
 refine .agg _ cs zsm (fun i d hd=>?_) (fun i hi=>?_)
 .simp only[rBP,rBJ]at hd
  obtain⟨x,hx,rfl⟩:=hd;have hi:i<cs.size:=by have:=(rAP.1 hx).1; simpa using this
  have e:cs[i]=x:=by have:=(rAP.1 hx).2; simpa using this
  have:=zLH (w:=w) (A:=A) (κ:=κ) x
  simpa [Array.getD,hi,e]using this
 .have hi':i<cs.size:=by simpa using hi
  have hs:(vD6 cs[i]).storable=true:=h _ (by simp only[vEC,PV.cells_agg,rA5]; exact⟨cs[i],zsm,rfl⟩);have:=zNR hs
  simpa [Array.getD,hi']using this
theorem zI3{u:Value}(h:∀ d∈(vEC u).cells,d.storable=true):RV w A κ (vEC u) u:=by
 cases u
 case agg cs=>exact vLZ cs h
 all_goals (unfold vEC; exact zLH _)
theorem vUR{ty:TypeId}(ho:o.op=.alloc ty)(H:HR E G w A κ h z)(hn:E.n0<=key)(hk:κ key=none)(hz:z key=false)
 (he:vA4 P G z key (.alloc ty) t h=some (v,h',rd,wr)):Sound E G w A κ z h' key v ((execOp ρ o).run P w):=by
 unfold vA4 at he;simp only at he;obtain⟨hz0,he⟩:=zAK he;cases he
 obtain⟨i,u,h1,h2,h3,h4,h5⟩:=zE4 hz0;rw[h3]at h4 h5 ⊢;exact vUM (ty:=ty) H hn hk hz (zI3 h5) h4 (by simp[execOp,ho,Instr.alloc,zeroValue,typeInfo,h1,h2,newVar,newRow])
theorem uHE{ty:TypeId}{x:Operand}(ho:o.op=.box ty x)(H:HR E G w A κ h z)(hn:E.n0<=key)(hk:κ key=none)(hz:z key=false)(hx:RV w A κ (ev G t x) (ρ x))
 (he:vA4 P G z key (.box ty x) t h=some (v,h',rd,wr)):Sound E G w A κ z h' key v ((execOp ρ o).run P w):=by
 unfold vA4 at he;simp only at he;obtain⟨hs,he⟩:=zAK he;cases he
 exact vUM (ty:=ty) H hn hk hz hx hs (by simp[execOp,ho,Instr.box,newVar,newRow])
theorem Cs.over{ds:List PV}{c c':Array Value}{d:PV}{off:Nat}{u:Value}(hc:Cs w A κ ds c)(hd:Cs w A κ d.cells u.cells)(hle:off+d.cells.length<=ds.length)
 (hsz:c'.size=c.size) (hget:∀ p,c'[p]?=if off<=p/\p<off+u.cells.size then u.cells[p - off]? else c[p]?) :
 Cs w A κ (ds.take off++d.cells++ds.drop (off+d.cells.length)) c':=by
 refine⟨by simp[hsz,hc.len]; omega,fun i x hx=>?_⟩;rw[hget];have hl:=hd.len;by_cases h1:i<off
 .rw[rAM zom]
  rw[rBB,rBX rAE,rCB h1]at hx;exact hc.rel i x hx
 .by_cases h2:i<off+d.cells.length
  .rw[rAU zom]
   rw[rBB,rBY rAE,rBX rAE]at hx;have e:i - (List.take off ds).length=i - off:=by simp; omega
   rw[e]at hx;exact hd.rel _ x hx
  .rw[rAM zom]
   rw[rBY rAE,rCR]at hx;have e:off+d.cells.length+(i - (List.take off ds++d.cells).length)=i:=by simp; omega
   rw[e]at hx;exact hc.rel i x hx
theorem zN5(place:Nat->Option (Nat×Nat))(fs:List (Nat×Nat×Nat))(hp:∀ i f,fs[i]?=some f->place i=some (f.1,f.2.2)):∀ (parts:List (Nat×PV)) (us:List (Nat×Value)) (ds:List PV) (c:Array Value) (r:List PV),
 us.length=parts.length->(∀ (i:Nat) j d,parts[i]?=some (j,d)->∃ u,us[i]?=some (j,u)/\RV w A κ d u)->Cs w A κ ds c->vKQ fs ds parts=some r ->
 ∃ c',Instr.fill place c us=some c'/\Cs w A κ r c'
 | [],[],ds,c,r,_,_,hc,h=>by simp[vKQ]at h; subst h; exact⟨c,rfl,hc⟩
 | (j,d)::parts,[],_,_,_,hl,_,_,_=>by simp at hl
 | [],_::_,_,_,_,hl,_,_,_=>by simp at hl
 | (j,d)::parts,(j',u)::us,ds,c,r,hl,hr,hc,h=>by
   obtain⟨u',e,hd⟩:=hr 0 j d rfl;simp at e;obtain⟨rfl,rfl⟩:=e;simp only[vKQ]at h
   split at h
   .cases h
   .rename_i off ty size hf
    split at h
    .rename_i hcond
     obtain⟨hs,hsz,hle⟩:=hcond;have hdc:=Cs.of hd hs;have hplace:place j'=some (off,size):=hp j' _ hf;have hu:u.cells.size=size:=by rw[hdc.len,hsz]
     have hle':off+u.cells.size<=c.size:=by rw[hc.len]; omega
     have hfold:=vH1 off u.cells.toList 0 c (by simpa using hle')
     have harr:u.cells.zipIdx.foldl (fun cs (x:Value×Nat)=>cs.setIfInBounds (off+x.2) x.1) c=(u.cells.toList.zipIdx 0).foldl (fun cs (x:Value×Nat)=>cs.setIfInBounds (off+x.2) x.1) c:=by
      rw[<- rFP]; simp
     have hnext:Cs w A κ (ds.take off++d.cells++ds.drop (off+d.cells.length)) (u.cells.zipIdx.foldl (fun cs (x:Value×Nat)=>cs.setIfInBounds (off+x.2) x.1) c):=by
      refine hc.over hdc zom (by rw[harr]; exact hfold.1) (fun p=>?_);rw[harr,hfold.2 p]
      simp
     rw[hsz]at hnext;obtain⟨c',h1,h2⟩:=zN5 place fs hp parts us _ _ r (by simpa using hl) (fun i j d hi=>by have:=hr (i+1) j d (by simpa using hi); simpa using this) hnext h;refine⟨c',?_,h2⟩;simp only[Instr.fill,hplace];rw[rAM rAE];exact h1
    .cases h
theorem vUP{ty:TypeId}{parts:Array (Nat×Operand)}(ho:o.op=.build ty parts)(H:HR E G w A κ h z)(hx:OkOp G w A κ t ρ (.build ty parts))
 (he:vA4 P G z key (.build ty parts) t h=some (v,h',rd,wr)):Sound E G w A κ z h' key v ((execOp ρ o).run P w):=by
 unfold vA4 at he;simp only at he
 split at he
 .obtain⟨⟨hz0,hst⟩,he⟩:=zAK he
  split at he
  .rename_i cs hfill
   cases he
   obtain⟨i,u,h1,h2,h3,h4,h5⟩:=zE4 hz0;have hzc:Cs w A κ (vA6 P ty).zero.cells u.cells:=by rw[h3]at h4 h5 ⊢; exact Cs.of (zI3 h5) h4
   have hst':∃ fs,P.underlying ty=some (.struct fs)/\∀ f∈fs.toList,(P.info? f.type).isSome=true:=by
    unfold vA6 at hst;simp only at hst;cases hd:P.underlying ty with
    | none=>simp only[hd]at hst; cases hst
    | some d=>cases d<;>simp only[hd,rBG]at hst<;>first | (cases hst; done) | exact⟨_,rfl,hst⟩
   obtain⟨fs,hu,hinfo⟩:=hst';have hflds:(vA6 P ty).fields=fs.toList.map fun f=>(f.offset,f.type,P.cellsOf f.type):=by unfold vA6; simp only; rw[hu]
   have hpl:fs.toList.mapM (fun f=>(P.info? f.type).map fun i=>(f.offset,i.size))=some (fs.toList.map fun f=>(f.offset,P.cellsOf f.type)):=by
    generalize fs.toList=l at hinfo
    induction l with
    | nil=>rfl
    | cons f l ih =>
      have hf:=hinfo f zsm;obtain⟨i,hi⟩:=rBZ.1 hf;simp[List.mapM_cons,hi,ih (fun f hf=>hinfo f (by simp[hf])),Program.cellsOf]
   obtain⟨c',hc1,hc2⟩:=zN5 (w:=w) (A:=A) (κ:=κ) (fun i=>(fs.toList.map fun f=>(f.offset,P.cellsOf f.type))[i]?) (vA6 P ty).fields (fun i f hi=>by
    rw[hflds]at hi;simp only[rBP,rBJ]at hi ⊢;obtain⟨g,h1,rfl⟩:=hi
    exact⟨g,h1,rfl⟩)
    (parts.toList.map fun(j,x)=>(j,ev G t x)) (parts.toList.map fun(j,x)=>(j,ρ x)) _ _ cs zsm (fun i j d hi=>by
     simp only[rBP,rBJ]at hi ⊢;obtain⟨⟨j0,x⟩,hx1,hx2⟩:=hi;cases hx2
     refine⟨ρ x,⟨(j0,x),hx1,rfl⟩,hx x ?_⟩;simp only[Op.operands,rA5]
     exact⟨(j0,x),rAS hx1,rfl⟩) hzc hfill
   have hb:P.built ty ((parts.map fun(i,x)=>(i,ρ x)).toList)=some c':=by
    unfold Program.built;simp only[h1,hu,h2,hpl]
    simpa using hc1
   have hrun:=run_build (P:=P) w ty (parts.map fun(i,x)=>(i,ρ x)) c' hb;refine Sound.pure H (v':=.agg c') (by simp[execOp,ho,hrun]) (.agg _ _ hc2.len (fun i d hd=>?_) (fun i hi=>?_))
   .obtain⟨v,g1,g2,_⟩:=hc2.rel i d hd
    simpa [rBF,g1]using g2
   .obtain⟨v,g1,_,g3⟩:=hc2.rel i _ (rAQ hi)
    simpa [rBF,g1]using g3
  .cases he
 .rename_i n hal
  obtain⟨⟨hz0,hkn⟩,he⟩:=zAK he
  split at he
  .rename_i cs hfill
   cases he
   obtain⟨i,u,h1,h2,h3,h4,h5⟩:=zE4 hz0;have hzc:Cs w A κ (vA6 P ty).zero.cells u.cells:=by rw[h3]at h4 h5 ⊢; exact Cs.of (zI3 h5) h4
   have hu:=zI0 (P:=P) (t:=ty) (by simpa using hal);obtain⟨ie,_,hie,_,hs0⟩:=zDV hkn
   .obtain⟨c',hc1,hc2⟩:=zN5 (w:=w) (A:=A) (κ:=κ) (fun i=>some (i * ie.size,ie.size)) ((List.range _).map fun j=>(j * (vA6 P (vA6 P ty).elem).size,(vA6 P ty).elem,(vA6 P (vA6 P ty).elem).size)) (fun i f hi=>by
     simp only[rBP,rBJ]at hi;obtain⟨g,q1,rfl⟩:=hi;obtain⟨_,q2⟩:=rAP.1 q1;simp at q2; subst q2
     simp[<- hs0])
     (parts.toList.map fun(j,x)=>(j,ev G t x)) (parts.toList.map fun(j,x)=>(j,ρ x)) _ _ cs zsm (fun i j d hi=>by
      simp only[rBP,rBJ]at hi ⊢;obtain⟨⟨j0,x⟩,hx1,hx2⟩:=hi;cases hx2
      refine⟨ρ x,⟨(j0,x),hx1,rfl⟩,hx x ?_⟩;simp only[Op.operands,rA5]
      exact⟨(j0,x),rAS hx1,rfl⟩) hzc hfill
    have hb:P.built ty ((parts.map fun(i,x)=>(i,ρ x)).toList)=some c':=by
     unfold Program.built;simp only[h1,hu,h2,hie]
     simpa using hc1
    have hrun:=run_build (P:=P) w ty (parts.map fun(i,x)=>(i,ρ x)) c' hb;refine Sound.pure H (v':=.agg c') (by simp[execOp,ho,hrun]) (.agg _ _ hc2.len (fun i d hd=>?_) (fun i hi=>?_))
    .obtain⟨v,g1,g2,_⟩:=hc2.rel i d hd
     simpa [rBF,g1]using g2
    .obtain⟨v,g1,_,g3⟩:=hc2.rel i _ (rAQ hi)
     simpa [rBF,g1]using g3
  .cases he
theorem vUN{ty:TypeId}{x ix:Operand}(ho:o.op=.index ty x ix)(H:HR E G w A κ h z)(hx:RV w A κ (ev G t x) (ρ x))(hi:RV w A κ (ev G t ix) (ρ ix))
 (he:vA4 P G z key (.index ty x ix) t h=some (v,h',rd,wr)):Sound E G w A κ z h' key v ((execOp ρ o).run P w):=by
 unfold vA4 at he;simp only at he
 split at he
 .rename_i cs k n hev hevi
  rw[hev]at hx; rw[hevi]at hi;obtain⟨⟨h0,h1,h2,h3⟩,he⟩:=zAK he;obtain⟨r,hr,hv⟩:=map_some he;cases hv
  have hρi:=hi.int_inv;have hu:=zI0 (P:=P) (t:=ty) h0;have hz0:=zC3 h3;obtain⟨i,d,hi',hd,_⟩:=zDV h3;have hsz:(sizeOf (vA6 P ty).elem).run P w=.ok (vA6 P (vA6 P ty).elem).size w:=by rw[<- hz0]; exact zE5 (by rw[hz0]; exact h3)
  obtain⟨vs,hρ,hl,hc,h1'⟩:=hx.agg_inv;obtain⟨u,q1,q2⟩:=vOX (w:=w) hr hd hsz hl hc h1';refine Sound.pure H (v':=u) ?_ q2;simp[execOp,ho,hρ,hρi,Instr.index,asIntOf,run_underlying hu,h1,h2,hsz,q1]
 .rename_i s k n hev hevi
  rw[hev]at hx; rw[hevi]at hi;obtain⟨⟨h0,h1⟩,he⟩:=zAK he;obtain⟨r,hr,hv⟩:=map_some he;cases hv
  have hρi:=hi.int_inv;have hρ:=hx.str_inv
  have hu:P.underlying ty=some .string:=by
   unfold vA6 at h0;simp only at h0;cases hd:P.underlying ty with
   | none=>simp[hd]at h0
   | some d=>cases d<;>simp[hd]at h0 ⊢
  refine Sound.pure H (v':=.int .u8 r.toNat) ?_ (.data _ _ (.int _ _));simp[execOp,ho,hρ,hρi,Instr.index,asIntOf,run_underlying hu,h1,hr]
 .cases he
end
open Go.RowKit
section
variable {P:Program} {E:Env} {G:Gl} {w:World} {A:Nat->Prop} {κ:Ka} {h:Hp} {z:Fz} {t:Tm} {ρ:Operand->Value} {o:Oper} {key:Nat} {v:PV} {h':Hp} {rd wr:List Nat}
theorem uFV:Array.range 0=#[]:=by simp[Array.range_zero']
structure Es(w:World)(A:Nat->Prop)(κ:Ka)(els:List PV)(sz:Nat)(agg:Bool)(c:Array Value):Prop where
 len:c.size=els.length * sz
 uni:∀ e∈els,e.cells.length=sz/\e.isAgg=agg
 rel:∀ (i:Nat) e,els[i]?=some e->lies w A κ c (i * sz) e
 one:∀ u∈c.toList,u.oneCell'=true
theorem uDO(zc:Array Value)(n sz:Nat)(hz:zc.size=sz){i j:Nat}(hi:i<n)(hj:j<sz):((Array.range (n * sz)).map (zc[· % zc.size]!))[i * sz+j]?=zc[j]?:=by
 have h1:i * sz+j<n * sz:=by
  have:(i+1) * sz<=n * sz:=rBK _ hi;rw[rB6]at this; omega
 have h2:(i * sz+j) % sz=j:=by rw[rEP,rEX,rCN hj]
 rw[Array.getElem?_map,Array.getElem?_range];simp only[h1,rCI,Option.map_some,hz,h2];have:j<zc.size:=by omega
 simp[this]
theorem Es.zeros{d:PV}{zc:Array Value}{n sz:Nat}{agg:Bool}(hc:Cs w A κ d.cells zc)(hsz:d.cells.length=sz)(ha:d.isAgg=agg) :
 Es w A κ (List.replicate n d) sz agg ((Array.range (n * sz)).map (zc[· % zc.size]!)):=by
 have hz:zc.size=sz:=by rw[hc.len,hsz]
 have hmem:∀ i e,(List.replicate n d)[i]?=some e->i<n/\e=d:=fun i e he=>by
  rw[rGR]at he
  split at he
  .exact⟨‹_›,(rF0 he).symm⟩
  .cases he
 refine⟨zsm,fun e he=>by rw[rB8 he]; exact⟨hsz,ha⟩,fun i e he j x hx=>?_,fun u hu=>?_⟩
 .obtain⟨h1,rfl⟩:=hmem i e he
  have hj:j<sz:=by have:=(rAP.1 hx).1; omega
  obtain⟨v,g1,g2,g3⟩:=hc.rel j x hx;exact⟨v,by rw[uDO zc n sz hz h1 hj]; exact g1,g2,g3⟩
 .have hu':u∈(Array.range (n * sz)).map (zc[· % zc.size]!):=by simpa using hu
  rw[Array.mem_map]at hu';obtain⟨k,hk,rfl⟩:=hu';have hk':k<n * sz:=by simpa using hk
  have hs0:0<sz:=by rcases rDD sz with h | h<;>simp_all
  have hlt:k % zc.size<zc.size:=rDK _ zom;have:=hc.all zc[k % zc.size] zsm
  simpa [hlt]using this
theorem Es.set{els:List PV}{sz:Nat}{agg:Bool}{c c':Array Value}{d:PV}{u:Value}{i:Nat}(hc:Es w A κ els sz agg c)(hd:Cs w A κ d.cells u.cells)(hi:i<els.length)(hsz:d.cells.length=sz)(ha:d.isAgg=agg)
 (hs:c'.size=c.size) (hget:∀ p,c'[p]?=if i * sz<=p/\p<i * sz+u.cells.size then u.cells[p - i * sz]? else c[p]?):Es w A κ (els.set i d) sz agg c':=by
 have hul:u.cells.size=sz:=by rw[hd.len,hsz]
 refine⟨by simp[hs,hc.len],fun e he=>?_,fun k e he j x hx=>?_,fun x hx=>?_⟩
 .rcases rCU he with h | h
  .exact hc.uni e h
  .subst h; exact⟨hsz,ha⟩
 .rw [rEJ]at he
  by_cases hk:i=k
  .subst hk
   simp only[rCI,hi]at he;cases he
   obtain⟨v,g1,g2,g3⟩:=hd.rel j x hx;have hj:=(rAP.1 hx).1;refine⟨v,?_,g2,g3⟩;rw[hget,rAU zom]
   simpa using g1
  .rw[rAM hk]at he
   obtain⟨v,g1,g2,g3⟩:=hc.rel k e he j x hx;have hj:=(rAP.1 hx).1;have he':=(hc.uni e (rAS he)).1;refine⟨v,?_,g2,g3⟩;rw[hget,rAM]
   .exact g1
   .intro hh
    rcases rEB hk with hlt | hlt
    .have:(i+1) * sz<=k * sz:=rBK _ hlt
     rw[rB6]at this; omega
    .have:(k+1) * sz<=i * sz:=rBK _ hlt
     rw[rB6]at this; omega
 .obtain⟨p,hp,rfl⟩:=rA8 hx
  have hp':p<c'.size:=by simpa using hp
  have h1:=hget p;rw[rCV hp']at h1
  split at h1
  .have:=hd.all _ (rFG.2 (rDF h1.symm))
   simpa using this
  .have:=hc.one _ (rFG.2 (rDF h1.symm))
   simpa using this
theorem zPW(sz:Nat)(agg:Bool):∀ (parts:List (Nat×PV)) (us:List (Nat×Value)) (els:List PV) (c:Array Value) (r:List PV),
 us.length=parts.length->(∀ (i:Nat) j d,parts[i]?=some (j,d)->∃ u,us[i]?=some (j,u)/\RV w A κ d u)->Es w A κ els sz agg c->vNA sz agg els parts=some r ->
 ∃ c',Instr.fill (fun i=>some (i * sz,sz)) c us=some c'/\Es w A κ r sz agg c'/\r.length=els.length
 | [],[],els,c,r,_,_,hc,h=>by simp[vNA]at h; subst h; exact⟨c,rfl,hc,rfl⟩
 | (j,d)::parts,[],_,_,_,hl,_,_,_=>by simp at hl
 | [],_::_,_,_,_,hl,_,_,_=>by simp at hl
 | (j,d)::parts,(j',u)::us,els,c,r,hl,hr,hc,h=>by
   obtain⟨u',e,hd⟩:=hr 0 j d rfl;simp at e;obtain⟨rfl,rfl⟩:=e;simp only[vNA]at h
   split at h
   .rename_i hcond
    obtain⟨hs,hsz,ha,hi⟩:=hcond;have hdc:=Cs.of hd hs;have hu:u.cells.size=sz:=by rw[hdc.len,hsz]
    have hle':j' * sz+u.cells.size<=c.size:=by
     rw[hc.len,hu];have:(j'+1) * sz<=els.length * sz:=rBK _ hi;rw[rB6]at this; omega
    have hfold:=vH1 (j' * sz) u.cells.toList 0 c (by simpa using hle')
    have harr:u.cells.zipIdx.foldl (fun cs (x:Value×Nat)=>cs.setIfInBounds (j' * sz+x.2) x.1) c=(u.cells.toList.zipIdx 0).foldl (fun cs (x:Value×Nat)=>cs.setIfInBounds (j' * sz+x.2) x.1) c:=by
     rw[<- rFP]; simp
    have hnext:Es w A κ (els.set j' d) sz agg (u.cells.zipIdx.foldl (fun cs (x:Value×Nat)=>cs.setIfInBounds (j' * sz+x.2) x.1) c):=by
     refine hc.set hdc hi hsz ha (by rw[harr]; exact hfold.1) (fun p=>?_);rw[harr,hfold.2 p]
     simp
    obtain⟨c',h1,h2,h3⟩:=zPW sz agg parts us _ _ r (by simpa using hl) (fun i j d hi=>by have:=hr (i+1) j d (by simpa using hi); simpa using this) hnext h;refine⟨c',?_,h2,by simpa using h3⟩;simp only[Instr.fill];rw[rAM rAE];exact h1
   .cases h
theorem vUL{ty:TypeId}{els:List PV}{sz len:Nat}{agg:Bool}{c:Array Value}(H:HR E G w A κ h z)(hn:E.n0<=key)(hk:κ key=none)(hz:z key=false)(hc:Es w A κ els sz agg c)(hl:els.length=len)
 (hr:(execOp ρ o).run P w=.ok (.value (.slice (some ⟨w.heap.size,0,none⟩) len len)) (w.alloc (.cells c ty))) :
 Sound E G w A κ z (hset h key (some ⟨els,sz,agg⟩)) key (.own key 0 len) ((execOp ρ o).run P w):=by
 subst hl
 refine⟨_,_,vDM κ key (w.heap.size,sz,els.length),rAW hr,H.alloc hn hk hz hc.len (rAR _) hc.uni hc.one hc.rel,?_,zDH _ hk,fun r hr=>zAO κ _ hr,
  fun b o' hA=>cell?_of_heap (Below.heap_alloc _ _ _ (H.alt b hA)) o'⟩
 have:=RV.own (w:=w.alloc (.cells c ty)) (A:=A) (κ:=vDM κ key (w.heap.size,sz,els.length)) key 0 els.length w.heap.size sz els.length (some ⟨w.heap.size,0,none⟩) (zAZ ..) zom (rAW zsm)
 simpa using this
theorem zNE{s:TypeId}{i:TypeInfo}(h:P.info? s=some i):(vA6 P s).bytes=i.bytes:=by simp[vA6,Program.bytesOf,h]
theorem zOV{ty:TypeId}{len:Nat}{parts:Array (Nat×Operand)}(ho:o.op=.buildSlice ty len parts)(H:HR E G w A κ h z)(hn:E.n0<=key)(hk:κ key=none)(hz:z key=false)(hx:OkOp G w A κ t ρ (.buildSlice ty len parts))
 (he:vA4 P G z key (.buildSlice ty len parts) t h=some (v,h',rd,wr)):Sound E G w A κ z h' key v ((execOp ρ o).run P w):=by
 unfold vA4 at he;simp only at he;obtain⟨⟨h24,hz0,hs,hzs,hza⟩,he⟩:=zAK he
 split at he
 .rename_i els hfill
  cases he
  obtain⟨i,u,h1,h2,h3,h4,h5⟩:=zE4 hz0;have hzc:Cs w A κ (vA6 P (vA6 P ty).elem).zero.cells u.cells:=by rw[h3]at h4 h5 ⊢; exact Cs.of (zI3 h5) h4
  have hsz:i.size=(vA6 P (vA6 P ty).elem).size\/(vA6 P (vA6 P ty).elem).size=0:=by
   by_cases h0:(vA6 P (vA6 P ty).elem).size=0
   .exact rA0 h0
   .obtain⟨i',d,g1,_,g3⟩:=zDV h0
    rw[h1]at g1; cases g1; exact rAW g3
  have hpos:(vA6 P (vA6 P ty).elem).size≠0:=hza.2;have hsz':=hsz.resolve_right hpos;have hu:=zCO hs
  obtain⟨c',hc1,hc2,hc3⟩:=zPW (w:=w) (A:=A) (κ:=κ) (vA6 P (vA6 P ty).elem).size (vA6 P (vA6 P ty).elem).agg (parts.toList.map fun(j,x)=>(j,ev G t x)) (parts.toList.map fun(j,x)=>(j,ρ x)) _ _ els zsm (fun i j d hi=>by
   simp only[rBP,rBJ]at hi ⊢;obtain⟨⟨j0,x⟩,hx1,hx2⟩:=hi;cases hx2
   refine⟨ρ x,⟨(j0,x),hx1,rfl⟩,hx x ?_⟩;simp only[Op.operands,rA5]
   exact⟨(j0,x),rAS hx1,rfl⟩) (Es.zeros (n:=len) hzc hzs hza.1) hfill
  refine vUL (ty:=(vA6 P ty).elem) H hn hk hz hc2 (by simpa using hc3) ?_;have hparts:(parts.map fun(i,x)=>(i,ρ x)).toList=parts.toList.map fun(j,x)=>(j,ρ x):=by simp
  have h24':¬ (2 ^ 24<len * i.size):=by rw[hsz']; omega
  by_cases hl0:len * i.size=0
  .have hlen:len=0:=by
    rcases Nat.mul_eq_zero.1 hl0 with h | h
    .exact h
    .omega
   subst hlen;have hc1':Instr.fill (fun i=>some (i * (vA6 P (vA6 P ty).elem).size,(vA6 P (vA6 P ty).elem).size)) #[] (parts.toList.map fun x=>(x.1,ρ x.2))=some c':=by simpa [uFV]using hc1
   simp[execOp,ho,Instr.buildSlice,run_underlying hu,sizeOf,typeInfo,h1,hsz',newRow,uFV,hc1']
  .have hc1':=hc1
   rw[<- hsz']at hc1';simp[execOp,ho,Instr.buildSlice,run_underlying hu,sizeOf,typeInfo,zeroValue,h1,h2,h24',hl0,newRow];simp[hc1']
 .cases he
theorem vGO{ty:TypeId}{l c:Operand}(ho:o.op=.makeSlice ty l c)(H:HR E G w A κ h z)(hn:E.n0<=key)(hk:κ key=none)(hz:z key=false)(hl:RV w A κ (ev G t l) (ρ l))(hc:RV w A κ (ev G t c) (ρ c))
 (he:vA4 P G z key (.makeSlice ty l c) t h=some (v,h',rd,wr)):Sound E G w A κ z h' key v ((execOp ρ o).run P w):=by
 unfold vA4 at he;simp only at he
 split at he
 .rename_i n m hel hec
  rw[hel]at hl; rw[hec]at hc;obtain⟨⟨hnm,h0,h32,hby,hz0,hs,hzs,hza,hpos⟩,he'⟩:=zAK he;cases he'
  subst hnm;obtain⟨i,u,h1,h2,h3,h4,h5⟩:=zE4 hz0;have hzc:Cs w A κ (vA6 P (vA6 P ty).elem).zero.cells u.cells:=by rw[h3]at h4 h5 ⊢; exact Cs.of (zI3 h5) h4
  obtain⟨i',d,g1,_,g3⟩:=zDV hpos;rw[h1]at g1; cases g1;have hu:=zCO hs
  have hb:(i.bytes:Int) * n<=281474976710656:=by
   rw[zNE h1]at hby;have:(i.bytes:Int) * n<=4096 * 2 ^ 32:=Int.mul_le_mul zom h32 h0 zom;omega
  have hrun:=run_make (P:=P) w ty _ i u hu h1 h2 .i64 .i64 n n h0 (rFJ _) hb zom;refine vUL (ty:=(vA6 P ty).elem) (c:=madeCells u.cells (n.toNat * i.size)) H hn hk hz ?_ zsm (by simp[execOp,ho,hl.int_inv,hc.int_inv,hrun]);rw[g3];exact Es.zeros hzc hzs hza
 .cases he
theorem vLT{e v e':PV}{off:Nat}(h:splice e off v=some e'):e'.cells.length=e.cells.length/\e'.isAgg=e.isAgg/\off+v.cells.length<=e.cells.length /\
 ∀ p,e'.cells[p]?=if off<=p/\p<off+v.cells.length then v.cells[p - off]? else e.cells[p]?:=by
 unfold splice at h
 split at h
 .rename_i hc
  obtain⟨rfl,h2,h3⟩:=hc;cases h
  refine⟨h2.symm,h3.symm,zom,fun p=>?_⟩;by_cases hp:p<v.cells.length
  .rw[rAU zom]; rfl
  .rw[rAM zom,rCZ zom,rCZ zom]
 .split at h
  .rename_i hc
   obtain⟨hle,ha⟩:=hc;cases h
   refine⟨by simp; omega,ha.symm,hle,fun p=>?_⟩;simp only[PV.cells_agg];by_cases h1:p<off
   .rw[rAM zom,rBB,rBX rAE,rCB h1]
   .by_cases h2:p<off+v.cells.length
    .rw[rAU zom,rBB,rBY rAE,rBX rAE]
     congr 1; simp; omega
    .rw[rAM zom,rBY rAE,rCR]
     congr 1; simp; omega
  .cases h
theorem vUX(c:Array Value)(vs:List Value)(o:Nat)(h:o+vs.length<=c.size)(p:Nat) :
 ((c.toList.take o++vs++c.toList.drop (o+vs.length)).toArray)[p]?=if o<=p/\p<o+vs.length then vs[p - o]? else c[p]?:=by
 rw[List.getElem?_toArray];by_cases h1:p<o
 .rw[rAM zom,rBB,rBX rAE,rCB h1]; simp
 .by_cases h2:p<o+vs.length
  .rw[rAU zom,rBB,rBY rAE,rBX rAE]
   congr 1; simp; omega
  .rw[rAM zom,rBY rAE,rCR]
   rw[<- Array.getElem?_toList]
   congr 1; simp; omega
theorem vUJ {ty:TypeId} {x y:Operand} (ho:o.op=.store ty x y) (H:HR E G w A κ h z) (hx:RV w A κ (ev G t x) (ρ x)) (hy:RV w A κ (ev G t y) (ρ y))
 (he:vA4 P G z key (.store ty x y) t h=some (v,h',rd,wr)):Sound E G w A κ z h' key v ((execOp ρ o).run P w):=by
 unfold vA4 at he;simp only at he
 split at he
 .rename_i r j off hev
  rw[hev]at hx;obtain⟨m,sz,cap,hρ,hκ⟩:=hx.ptr_inv
  split at he
  .rename_i b hb
   split at he
   .rename_i e hel
    obtain⟨⟨hzr,hst,hsize⟩,he⟩:=zAK he;obtain⟨e',hsp,he⟩:=map_some he;cases he
    obtain⟨s1,s2,s3,s4⟩:=vLT hsp;have hyc:=Cs.of hy hst;obtain⟨m0,cap0,e1,e2,e3,e4⟩:=H.blk r b hb (by rw[hκ]; simp);rw[hκ]at e1; cases e1;have hj:j<b.els.length:=(rAP.1 hel).1;have hcap:cap≠0:=by omega
    obtain⟨c,ty0,g1,g2,g3,g4,g5,g6,g7⟩:=e4.resolve_left hcap;have hesz:=(e3 e (rAS hel)).1;have hlen:(ρ y).cells.toList.length=(ev G t y).cells.length:=by simpa using hyc.len
    have hrange:j * b.sz+off+(ρ y).cells.toList.length<=c.size:=by
     have:(j+1) * b.sz<=cap * b.sz:=rBK _ zom;rw[rB6]at this;omega
    have hrow:=run_storeCells_at P m (j * b.sz+off) ty0 (ρ y).cells.toList 0 c w g2 (by simpa using hrange) hyc.all;simp only[Nat.add_zero]at hrow;have h0:=hsize.2
    have hsizeOf:(sizeOf ty).run P w=.ok (ρ y).cells.size w:=by
     have:=zE5 (P:=P) (w:=w) (ty:=ty) (by rw[zC3 h0]; exact h0);rw[this,zC3 h0,<- hsize.1,hyc.len]
    have hseg:=vUX c (ρ y).cells.toList (j * b.sz+off) hrange;have hlen':(c.toList.take (j * b.sz+off)++(ρ y).cells.toList++c.toList.drop (j * b.sz+off+(ρ y).cells.toList.length)).toArray.size=c.size:=by simp; simp at hrange; omega
    generalize (c.toList.take (j * b.sz+off)++(ρ y).cells.toList++c.toList.drop (j * b.sz+off+(ρ y).cells.toList.length)).toArray=c' at hrow hseg hlen'
    have hrun:(execOp ρ o).run P w=.ok .skip (w.setRow m c'):=by
     simp[execOp,ho,hρ,Instr.storeAt,Instr.sureAddr,storeVar,hsizeOf,hrow]
    have hz0:hset (hset h r none) r (some { b with els:=b.els.set j e' })=hset h r (some { b with els:=b.els.set j e' }):=by funext q; simp only[hset]; split<;>rfl
    have hk0:vDM κ r (m,b.sz,cap)=κ:=by funext q; simp only[vDM]; split<;>simp_all
    have HW:=H.write (key:=r) (els:=b.els.set j e') (c':=c') hb hκ hcap hzr rfl g2 (rAW rfl) hlen' (by simpa using e2) (fun x hx=>by
     rcases rCU hx with h | h
     .exact e3 x h
     .subst h; exact⟨by rw[s1,hesz],by rw[s2]; exact(e3 e (rAS hel)).2⟩)
     (fun x hx=>by
       obtain⟨p,hp,rfl⟩:=rA8 hx;have hp':p<c'.size:=by simpa using hp
       have h1:=hseg p;rw[rCV hp']at h1
       split at h1
       .have:=hyc.all _ (rAS h1.symm)
        simpa using this
       .have:=g4 _ (rFG.2 (rDF h1.symm))
        simpa using this)
     (fun i e0 he0 p x hxp=>by
       rw[rEJ]at he0;by_cases hi:j=i
       .subst hi
        simp only[rCI,hj]at he0;cases he0
        have h4:=s4 p;rw[hxp]at h4;rw[hseg];by_cases hin:off<=p/\p<off+(ev G t y).cells.length
        .rw[rAU hin]at h4
         obtain⟨u,f1,f2,f3⟩:=hyc.rel _ x h4.symm;refine⟨u,?_,f2,f3⟩;rw[rAU zom];have:j * b.sz+p - (j * b.sz+off)=p - off:=by omega
         rw[this]; simpa using f1
        .rw[rAM hin]at h4
         obtain⟨u,f1,f2,f3⟩:=g5 j e hel p x h4.symm;exact⟨u,by rw[rAM zom]; exact f1,f2,f3⟩
       .rw[rAM hi]at he0
        obtain⟨u,f1,f2,f3⟩:=g5 i e0 he0 p x hxp;have hp:=(rAP.1 hxp).1;have he0':=(e3 e0 (rAS he0)).1;refine⟨u,?_,f2,f3⟩;rw[hseg,rAM]
        .exact f1
        .intro hh
         rcases rEB hi with hlt | hlt
         .have:(j+1) * b.sz<=i * b.sz:=rBK _ hlt
          rw[rB6]at this; omega
         .have:(i+1) * b.sz<=j * b.sz:=rBK _ hlt
          rw[rB6]at this; omega)
    rw[hz0,hk0]at HW;exact⟨undef,w.setRow m c',κ,rA0 ⟨hrun,rfl⟩,HW,.tup [] _ rfl (fun i d hd=>by simp at hd),fun _ _ h=>h,fun _ _=>rfl,zHO H hb hκ hcap hzr c'⟩
   .cases he
  .cases he
 .cases he
theorem zOS{n b:Nat}(hn:n<=2 ^ 32)(hb:b<=4096):n * b<=140737488355328:=by
 have:n * b<=2 ^ 32 * 4096:=rFH hn hb;omega
theorem uBA{y:Operand}{es:List PV}{ks:List Nat}{ty:TypeId}{sz:Nat}(H:HR E G w A κ h z)(hy:RV w A κ (ev G t y) (ρ y))(hs:vI2 h (ev G t y)=some (es,ks))(hsl:(vA6 P ty).isSlice=true)
 (hsz:∀ e∈es,e.cells.length=sz) (hpos:sz≠0) :
 ∃ news:List Value,Src P sz ty (ρ y) es.length news w/\∀ (i:Nat) e,es[i]?=some e->lies w A κ news.toArray (i * sz) e:=by
 have hu:=zCO hsl
 have mk:∀ (ad:Option Addr) (cap:Nat),ρ y=.slice ad es.length cap->es=[]->∃ news:List Value,Src P sz ty (ρ y) es.length news w/\∀ (i:Nat) e,es[i]?=some e->lies w A κ news.toArray (i * sz) e:=by
  intro ad cap hρ he;subst he;refine⟨[],⟨.inl ⟨_,hu⟩,fun w'=>by rw[hρ]; rfl,?_,?_,zsm,zsm⟩,zsm⟩
  .rw[hρ]; cases ad<;>simp[Builtin.firstCells,loadCells,loadCellsFrom]
  .rw[hρ]; cases ad<;>simp[Builtin.firstCells,loadCells,loadCellsFrom]
 have mk2:∀ (b o cap:Nat) (val:Nat->Nat->Value),ρ y=.slice (some ⟨b,o,none⟩) es.length cap ->
  (∀ i c,i<es.length->c<sz->w.cell? ⟨b,o+i * sz+c,none⟩=some (val i c)/\(val i c).oneCell'=true)->(∀ i e,es[i]?=some e->∀ c d,e.cells[c]?=some d->RV w A κ d (val i c)) ->
  ∃ news:List Value,Src P sz ty (ρ y) es.length news w/\∀ (i:Nat) e,es[i]?=some e->lies w A κ news.toArray (i * sz) e:=by
  intro b o cap val hρ hc hd;let f:Nat->Value:=fun p=>val (p / sz) (p % sz)
  have hget:∀ p,p<es.length * sz->w.cell? ⟨b,o+p,none⟩=some (f p)/\(f p).oneCell'=true:=by
   intro p hp;have h1:p / sz<es.length:=(Nat.div_lt_iff_lt_mul zom).2 hp;have h2:p % sz<sz:=rDK _ zom;have:=hc _ _ h1 h2;have e:o+p / sz * sz+p % sz=o+p:=by have:=rEC p sz; rw[rBN]at this; omega
   rw[e]at this;exact this
  let news:=(List.range (es.length * sz)).map f
  have hn:∀ p u,news[p]?=some u->p<es.length * sz/\u=f p:=by
   intro p u hp;simp only[news,rBP,rBJ]at hp;obtain⟨q,hq,rfl⟩:=hp;have:=rAP.1 hq;obtain⟨h1,h2⟩:=this;simp at h1 h2;subst h2;exact⟨h1,rfl⟩
  have hfirst:∀ w',w'.heap=w.heap->(Builtin.firstCells sz es.length (ρ y)).run P w'=.ok news.toArray w':=by
   intro w' hw;rw[hρ];refine run_firstCells_some (P:=P) w' sz es.length ⟨b,o,none⟩ es.length cap news (by simp[news]) fun p u hp=>?_
   obtain⟨h1,rfl⟩:=hn p u hp;rw[zML];have:=(hget p h1).1
   simpa [World.cell?,hw]using this
  refine⟨news,⟨.inl ⟨_,hu⟩,fun w'=>by rw[hρ]; rfl,hfirst w rfl,hfirst w.drew rfl,by simp[news],fun u hu=>?_⟩,fun i e he j d hj=>?_⟩
  .obtain⟨p,hp,rfl⟩:=rA8 hu
   obtain⟨h1,h2⟩:=hn p _ (rAQ hp);rw[h2]; exact(hget p h1).2
  .have hi:=(rAP.1 he).1
   have hj':=(rAP.1 hj).1;have hjs:j<sz:=by rw[hsz e (rAS he)]at hj'; exact hj'
   have hlt:i * sz+j<es.length * sz:=by
    have:(i+1) * sz<=es.length * sz:=rBK _ hi;rw[rB6]at this; omega
   have hf:f (i * sz+j)=val i j:=by
    simp only[f];rw[show(i * sz+j) / sz=i by rw[rEP,Nat.add_mul_div_right _ _ zom,rDR hjs]; omega,show(i * sz+j) % sz=j by rw[rEP,rEX,rCN hjs]]
   refine⟨val i j,?_,hd i e he j d hj,(hc i j hi hjs).2⟩;simp[news,hlt,hf]
 unfold vI2 at hs
 split at hs
 .rename_i es' hev
  cases hs
  rw[hev]at hy;have hy':=hy.imm_inv;cases hρ:ρ y<;>rw[hρ]at hy'<;>try (cases hy'; done)
  rename_i ad len cap
  cases hy' with
  | imm0=>exact hρ ▸ mk ad cap hρ rfl
  | imm _ sz' b off _ val hA _ hsz' hc hd =>
    by_cases he:es=[]
    .subst he; exact hρ ▸ mk _ cap hρ rfl
    .have:sz'=sz:=by
      obtain⟨e,l,rfl⟩:=rGB he;rw[<- hsz e zsm,hsz' e zsm]
     subst this;exact hρ ▸ mk2 b off cap val hρ hc fun i e hi c d hcd=>.data _ _ (hd i e hi c d hcd)
 .rename_i hev
  cases hs
  rw[hev]at hy;exact mk none 0 hy.nilsl_inv rfl
 .rename_i r off len hev
  rw[hev]at hy;obtain⟨m,sz',cap,a,hρ,hκ,hle,ha⟩:=hy.own_inv
  split at hs
  .rename_i b hb
   split at hs
   .rename_i hlen
    cases hs
    have hl:((b.els.drop off).take len).length=len:=by simp; omega
    by_cases he:len=0
    .subst he
     exact mk a (cap - off) (by rw[hρ]; simp) zsm
    .obtain⟨m0,cap0,e1,e2,e3,e4⟩:=H.blk r b hb (by rw[hκ]; simp)
     rw[hκ]at e1; cases e1;obtain⟨c,ty0,g1,g2,g3,g4,g5,g6,g7⟩:=e4.resolve_left zom;have ha':=ha.resolve_right zom;have hget:∀ k,k<len->((b.els.drop off).take len)[k]?=b.els[off+k]?:=fun k hk=>by rw[rCB hk,rCR]
     have hbs:b.sz=sz:=by
      have h0:((b.els.drop off).take len)[0]?=some b.els[off]:=by rw[hget 0 zom]; simp
      rw[<- hsz _ (rAS h0),(e3 b.els[off] zsm).1]
     subst hbs;refine mk2 m (off * b.sz) (cap - off) (fun i j=>c.getD ((off+i) * b.sz+j) undef) (by rw[hρ,ha',hl]) (fun i j hi hj=>?_) (fun i e he j d hjd=>?_)
     .rw[hl]at hi
      have hlt:off+i<b.els.length:=by omega
      have hcl:=(e3 b.els[off+i] zsm).1;obtain⟨u,f1,f2,f3⟩:=g5 (off+i) _ (rAQ hlt) j _ (rAQ zom);have e:off * b.sz+i * b.sz+j=(off+i) * b.sz+j:=by rw[rB6]
      rw[e];have hgd:c.getD ((off+i) * b.sz+j) undef=u:=by simp[rBF,f1]
      simp only[hgd];exact⟨by simp[World.cell?,g2,f1],f3⟩
     .have hi:=(rAP.1 he).1
      rw[hl]at hi;rw[hget i hi]at he;obtain⟨u,f1,f2,f3⟩:=g5 (off+i) e he j d hjd;have hgd:c.getD ((off+i) * b.sz+j) undef=u:=by simp[rBF,f1]
      simp only[hgd];exact f2
   .cases hs
  .cases hs
 .cases hs
end
open Go.RowKit
section
variable {P:Program} {E:Env} {G:Gl} {w:World} {A:Nat->Prop} {κ:Ka} {h:Hp} {z:Fz} {t:Tm} {ρ:Operand->Value} {o:Oper} {key:Nat} {v:PV} {h':Hp} {rd wr:List Nat}
theorem zEC{x y:Operand}{ty ty2:TypeId}(ho:o.op=.call { callee:=.builtin .append,args:=⟨[x,y]⟩,argTypes:=⟨[ty,ty2]⟩ }){u:Value}{w':World}
 (hr:(Builtin.append_ #[ty,ty2] o.type #[ρ x,ρ y]).run P w=.ok u w'):(execOp ρ o).run P w=.ok (.value u) w':=by
 simp[execOp,ho,resolve,invoke,builtin,hr]
theorem Es.join{els es:List PV}{sz:Nat}{agg:Bool}{olds news:List Value}{c:Array Value}(h1:Es w A κ els sz agg olds.toArray)(hl:news.length=es.length * sz)(hu:∀ e∈es,e.cells.length=sz/\e.isAgg=agg)
 (h2:∀ (i:Nat) e,es[i]?=some e->lies w A κ news.toArray (i * sz) e) (h3:∀ p,p<olds.length+news.length->c[p]?=(olds++news)[p]?) :
 (∀ e∈els++es,e.cells.length=sz/\e.isAgg=agg)/\∀ (i:Nat) e,(els++es)[i]?=some e->lies w A κ c (i * sz) e:=by
 have hol:olds.length=els.length * sz:=by simpa using h1.len
 refine⟨fun e he=>?_,fun i e he j d hj=>?_⟩
 .rcases rAX.1 he with h | h
  .exact h1.uni e h
  .exact hu e h
 .by_cases hi:i<els.length
  .rw[rBX hi]at he
   obtain⟨v,f1,f2,f3⟩:=h1.rel i e he j d hj;have hlt:i * sz+j<olds.length:=by have:=(rA6.1 f1).1; simpa using this
   refine⟨v,?_,f2,f3⟩;rw[h3 _ zom,rBX hlt]
   simpa using f1
  .rw[rBY zom]at he
   obtain⟨v,f1,f2,f3⟩:=h2 _ e he j d hj;have hlt:(i - els.length) * sz+j<news.length:=by have:=(rA6.1 f1).1; simpa using this
   have e1:i * sz+j=olds.length+((i - els.length) * sz+j):=by
    rw[hol,<- rC4,<- rB6]; congr 2; omega
   refine⟨v,?_,f2,f3⟩;rw[e1,h3 _ zom,rBY zom]
   simpa using f1
theorem vGE{u:Value}{s:TypeId}(h3:(vA6 P s).zero=vEC u)(h4:(vA6 P s).zero.storable=true)(h5:∀ d∈(vA6 P s).zero.cells,d.storable=true)(n:Nat) :
 ∀ x∈(Builtin.zeroCells u.cells n).toList,x.oneCell'=true:=by
 intro x hx;have hc:Cs default (fun _=>False) (fun _=>none) (vA6 P s).zero.cells u.cells:=by rw[h3]at h4 h5 ⊢; exact Cs.of (zI3 h5) h4
 have hx':x∈Builtin.zeroCells u.cells n:=by simpa using hx
 unfold Builtin.zeroCells at hx';rw[Array.mem_map]at hx';obtain⟨k,hk,rfl⟩:=hx';have hk':k<n * u.cells.size:=by simpa using hk
 have hs0:0<u.cells.size:=by rcases rDD u.cells.size with h | h<;>simp_all
 have hlt:k % u.cells.size<u.cells.size:=rDK _ hs0;have:=hc.all u.cells[k % u.cells.size] zsm
 simpa [hlt]using this
theorem zNI{ty:TypeId}{els es:List PV}{agg:Bool}{i:TypeInfo}{u:Value}{olds news:List Value}{sCap len:Nat}(H:HR E G w A κ h z)(hn:E.n0<=key)(hk:κ key=none)(hz:z key=false)
 (h3:(vA6 P ty).zero=vEC u) (h4:(vA6 P ty).zero.storable=true) (h5:∀ d∈(vA6 P ty).zero.cells,d.storable=true) (hus:u.cells.size=i.size)
 (hE:Es w A κ els i.size agg olds.toArray) (hl:news.length=es.length * i.size) (hone:∀ x∈news,x.oneCell'=true) (hu:∀ e∈es,e.cells.length=i.size/\e.isAgg=agg)
 (h6:∀ (k:Nat) e,es[k]?=some e->lies w A κ news.toArray (k * i.size) e) (hlen:len=els.length)
 (hr : (execOp ρ o).run P w=.ok (.value (.slice (some ⟨w.heap.size,0,none⟩) (len+es.length) (grownCap w (len+es.length) sCap ty)))
     (w.drew.alloc (.cells ((olds++news).toArray++Builtin.zeroCells u.cells (grownCap w (len+es.length) sCap ty - (len+es.length))) ty))) :
 Sound E G w A κ z (hset h key (some ⟨els++es,i.size,agg⟩)) key (.own key 0 (len+es.length)) ((execOp ρ o).run P w):=by
 subst hlen;have hge:=grownCap_ge w (els.length+es.length) sCap ty;have hol:olds.length=els.length * i.size:=by simpa using hE.len
 generalize grownCap w (els.length+es.length) sCap ty=cap at hr hge
 have hj:=Es.join (c:=(olds++news).toArray++Builtin.zeroCells u.cells (cap - (els.length+es.length))) hE hl hu h6 (fun p hp=>by
  rw[rGC (by simpa using hp)]; simp)
 have HD:=H.drew;have hzc:=vGE (P:=P) h3 h4 h5 (cap - (els.length+es.length))
 have hmono:∀ (k:Nat) e,(els++es)[k]?=some e->lies w.drew A κ ((olds++news).toArray++Builtin.zeroCells u.cells (cap - (els.length+es.length))) (k * i.size) e :=
  fun k e he=>(hj.2 k e he).mono (fun _ h=>h) (zGQ w A) (fun _ _ h=>h)
 refine⟨_,_,vDM κ key (w.heap.size,i.size,cap),rAW hr,HD.alloc hn hk hz ?_ (by simpa using hge) hj.1 ?_ hmono,?_,zDH _ hk,fun r hr=>zAO κ _ hr,fun b o' hA=>?_⟩
 .simp only[Array.size_append,rFS,rAV,size_zeroCells,hol,hl,hus]
  rw[<- rB6,<- rB6]
  congr 1; omega
 .intro x hx
  simp only[rCJ,rAX]at hx;rcases hx with(hx | hx) | hx
  .exact hE.one x (by simpa using hx)
  .exact hone x hx
  .exact hzc x hx
 .have:=RV.own (w:=w.drew.alloc (.cells ((olds++news).toArray++Builtin.zeroCells u.cells (cap - (els.length+es.length))) ty)) (A:=A) (κ:=vDM κ key (w.heap.size,i.size,cap)) key 0 (els.length+es.length) w.heap.size i.size cap (some ⟨w.heap.size,0,none⟩) (zAZ ..) zom (rAW zsm)
  simpa using this
 .exact cell?_of_heap (Below.heap_alloc w.drew _ _ (H.alt b hA)) o'
theorem zEO{w:World}{A:Nat->Prop}{κ:Ka}{key sz:Nat}(hk:κ key=some (0,sz,0))(a:Option Addr):RV w A κ (.own key 0 0) (.slice a 0 0):=by
 have:=RV.own (w:=w) (A:=A) (κ:=κ) key 0 0 0 sz 0 a hk zom (rA0 rfl)
 simpa using this
theorem zJO(P:Program){m o:Nat}{ty:TypeId}{vs:List Value}{c:Array Value}(hg:w.heap[m]?=some (.cells c ty (0,0)))(hle:o+vs.length<=c.size)(h1:∀ v∈vs,v.oneCell'=true) :
 w.setCells m o vs=w.setRow m (c.toList.take o++vs++c.toList.drop (o+vs.length)).toArray:=by
 have ha:=run_storeCells_at P m o ty vs 0 c w hg (by simpa using hle) h1;have hb:=run_storeCells_cells (P:=P) m o vs 0 w (fun j hj=>by simp[World.cell?,hg]; omega) (fun j hj=>by simp[World.frozen?,hg]) h1;rw[ha]at hb;injection hb with _ hb
 simp only[Nat.add_zero]at hb;exact hb.symm
theorem vRG {x y:Operand} {ty ty2:TypeId} (ho:o.op=.call { callee:=.builtin .append,args:=⟨[x,y]⟩,argTypes:=⟨[ty,ty2]⟩ }) (H:HR E G w A κ h z) (hn:E.n0<=key) (hk:κ key=none) (hz:z key=false) (hhk:h key=none)
 (hx:RV w A κ (ev G t x) (ρ x)) (hy:RV w A κ (ev G t y) (ρ y))
 (he:vA4 P G z key (.call { callee:=.builtin .append,args:=⟨[x,y]⟩,argTypes:=⟨[ty,ty2]⟩ }) t h=some (v,h',rd,wr)):Sound E G w A κ z h' key v ((execOp ρ o).run P w):=by
 unfold vA4 at he;simp only at he
 split at he
 .rename_i es ks hsrc
  obtain⟨⟨huni,hby,hz0,hs,hs2,hzl,hpos⟩,he⟩:=zAK he;obtain⟨i,u,h1,h2,h3,h4,h5⟩:=zE4 hz0;obtain⟨i',d,g1,_,g3⟩:=zDV hpos;rw[h1]at g1; cases g1;have hut:=zCO hs;have hzc:Cs w A κ (vA6 P (vA6 P ty).elem).zero.cells u.cells:=by rw[h3]at h4 h5 ⊢; exact Cs.of (zI3 h5) h4
  have hus:u.cells.size=i.size:=by rw[hzc.len,hzl,g3]
  rw[zNE h1]at hby;rw[<- g3]at huni hpos he;obtain⟨news,hsr,hlies⟩:=uBA (ty:=ty2) H hy hsrc hs2 (fun e he=>(huni e he).1) hpos;have hE0:Es w A κ [] i.size (vA6 P (vA6 P ty).elem).agg ([]:List Value).toArray:=⟨zsm,fun e he=>(by cases he),fun i e he=>by simp at he,fun x hx=>by simp at hx⟩
  split at he
  .rename_i hev
   rw[hev]at hx;have hρ:=hx.nilsl_inv;obtain⟨h32,he⟩:=zAK he;cases he
   by_cases hes:es.length=0
   .have he0:es=[]:=rAZ.1 hes
    subst he0;refine⟨_,w,vDM κ key (0,i.size,0),rAW (zEC ho (u:=.slice none 0 0) ?_),H.empty hn hk,by simpa using zEO (zAZ ..) none,zDH _ hk,fun r hr=>zAO κ _ hr,fun _ _ _=>rfl⟩;rw[hρ];have hl:=hsr.len w;have hc:=hsr.cells;simp only[List.length_nil]at hl hc;have hn0:news=[]:=rAZ.1 (by rw[hsr.newsLen]; simp);subst hn0;rcases hsr.kind with⟨e',hk'⟩ | hk'<;>simp[Builtin.append_,run_underlying hut,run_underlying hk',sizeOf,typeInfo,h1,hl,hc]
   .have hg:=run_append_grow_src (P:=P) w ty ty2 o.type _ i u hut h1 h2 none 0 0 [] (by simp[Builtin.firstCells]) (ρ y) es.length news hsr zom zom (by
     rw[rC5]; exact growslice_fits zom (zOS h32 hby))
    rw[<- hρ]at hg;have:=zNI (ty:=(vA6 P ty).elem) (len:=0) (els:=[]) H hn hk hz h3 h4 h5 hus hE0 hsr.newsLen hsr.one huni hlies rfl (zEC ho hg)
    simpa using this
  .rename_i r off len hev
   rw[hev]at hx;obtain⟨m,sz,cap,a,hρ,hκ,hle,ha⟩:=hx.own_inv
   split at he
   .rename_i b hb
    obtain⟨⟨hoff,hlen,hbz,hba,hzr,hks,h32⟩,he'⟩:=zAK he;cases he'
    subst hoff;obtain⟨m0,cap0,e1,e2,e3,e4⟩:=H.blk r b hb (by rw[hκ]; simp);rw[hκ]at e1; cases e1;have hrk:r≠key:=fun e=>by rw[e,hk]at hκ; cases hκ
    have hh:hset (hset h r none) key (some ⟨b.els++es,i.size,(vA6 P (vA6 P ty).elem).agg⟩)=hset (hset h r none) key (some { b with els:=b.els++es }):=by rw[<- hbz,<- hba]
    simp only[Nat.sub_zero]at hρ;by_cases hc0:cap=0
    .subst hc0
     have hl0:len=0:=by omega
     have hb0:b.els=[]:=rAZ.1 zom;subst hl0;by_cases hes:es.length=0
     .have he0:es=[]:=rAZ.1 hes
      subst he0;have HE:=(H.drop r).empty (sz:=i.size) (agg:=(vA6 P (vA6 P ty).elem).agg) hn hk;refine⟨_,w,vDM κ key (0,i.size,0),rAW (zEC ho (u:=.slice a 0 0) ?_),by rw[hb0]; exact HE,by simpa using zEO (zAZ ..) a,zDH _ hk,fun r hr=>zAO κ _ hr,fun _ _ _=>rfl⟩;rw[hρ];have hl:=hsr.len w;have hc:=hsr.cells;simp only[List.length_nil]at hl hc;have hn0:news=[]:=rAZ.1 (by rw[hsr.newsLen]; simp);subst hn0;rcases hsr.kind with⟨e',hk'⟩ | hk'<;>cases a<;>simp[Builtin.append_,run_underlying hut,run_underlying hk',sizeOf,typeInfo,h1,hl,hc,storeCells]
     .have hg:=run_append_grow_src (P:=P) w ty ty2 o.type _ i u hut h1 h2 a 0 0 [] (by cases a<;>simp[Builtin.firstCells,loadCells,loadCellsFrom]) (ρ y) es.length news hsr zom zom (by
       rw[rC5]; exact growslice_fits zom (zOS zom hby))
      rw[<- hρ]at hg;have:=zNI (ty:=(vA6 P ty).elem) (len:=0) (els:=[]) (H.drop r) hn hk hz h3 h4 h5 hus hE0 hsr.newsLen hsr.one huni hlies rfl (zEC ho hg);rw[hb0]
      simpa using this
    .obtain⟨c,ty0,f1,f2,f3,f4,f5,f6,f7⟩:=e4.resolve_left hc0
     have ha':=ha.resolve_right hc0;subst ha';simp only[rE2]at hρ;have hcl:len * b.sz<=c.size:=by rw[f3]; exact rBK _ zom
     have hE:Es w A κ b.els i.size (vA6 P (vA6 P ty).elem).agg (c.toList.take (len * i.size)).toArray:=by
      rw[<- hbz,<- hba];refine⟨by simp; rw[<- hlen]; omega,e3,fun k e hke j d hj=>?_,fun x hx=>f4 x (rCK (by simpa using hx))⟩;obtain⟨v,q1,q2,q3⟩:=f5 k e hke j d hj;have hkl:=(rAP.1 hke).1;have hjl:=(rAP.1 hj).1;rw[(e3 e (rAS hke)).1]at hjl;have:(k+1) * b.sz<=len * b.sz:=rBK _ zom;rw[rB6]at this;refine⟨v,?_,q2,q3⟩;rw[List.getElem?_toArray,rCB zom]
      simpa using q1
     by_cases hroom:len+es.length<=cap
     .have hrange:len * i.size+news.length<=c.size:=by
       rw[hsr.newsLen,f3,hbz,<- rB6]; exact rBK _ hroom
      have hg:=run_append_room_src (P:=P) w ty ty2 o.type _ i hut h1 m 0 len cap (ρ y) es.length news hsr hroom (fun j hj=>by simp[World.cell?,f2]; omega) (fun j hj=>by simp[World.frozen?,f2]);rw[rC5,zJO P f2 hrange hsr.one,<- hρ]at hg;have hseg:=vUX c news (len * i.size) hrange;have hsz':(c.toList.take (len * i.size)++news++c.toList.drop (len * i.size+news.length)).toArray.size=c.size:=by simp; omega
      generalize hc':(c.toList.take (len * i.size)++news++c.toList.drop (len * i.size+news.length)).toArray=c' at hg hseg hsz'
      have hj:=Es.join (c:=c') hE hsr.newsLen huni hlies (fun p hp=>by
       rw[hseg];simp only[rB1,Array.length_toList]at hp;rw[hbz]at hcl;have hmin:min (len * i.size) c.size=len * i.size:=by omega
       rw[hmin]at hp;by_cases hlt:p<len * i.size
       .rw[rAM zom,rBX rAE,rCB hlt]; simp
       .rw[rAU zom,rBY rAE]
        congr 1; simp; omega)
      rw[<- hbz,<- hba]at hj
      have HW:=H.write (key:=key) (els:=b.els++es) (c':=c') hb hκ hc0 hzr rfl f2 (rA0 ⟨hhk,hk,hn,hz⟩) hsz' rAE hj.1 (fun x hx=>by
       rw[<- hc']at hx;simp only[rAX]at hx;rcases hx with(hx | hx) | hx
       .exact f4 x (rCK hx)
       .exact hsr.one x hx
       .exact f4 x (rDI hx)) hj.2
      rw[hh];refine⟨_,_,_,rAW (zEC ho hg),HW,?_,zDH _ hk,fun r hr=>zAO κ _ hr,zHO H hb hκ hc0 hzr c'⟩;have:=RV.own (w:=w.setRow m c') (A:=A) (κ:=vDM κ key (m,b.sz,cap)) key 0 (len+es.length) m b.sz cap (some ⟨m,0,none⟩) (zAZ ..) zom (rAW zsm)
      simpa using this
     .have holds:(Builtin.firstCells i.size len (.slice (some ⟨m,0,none⟩) len cap)).run P w.drew=.ok (c.toList.take (len * i.size)).toArray w.drew:=by
       refine run_firstCells_some (P:=P) w.drew i.size len ⟨m,0,none⟩ len cap _ (by simp; rw[<- hbz]; omega) fun p x hp=>?_
       rw[zML,rC5];have hpl:p<len * i.size:=by have:=(rAP.1 hp).1; simp at this; omega
       rw[rCB hpl]at hp;have hdm:w.drew.heap[m]?=some (.cells c ty0 (0,0)):=f2;simp only[World.cell?,hdm]
       simpa using hp
      have hg:=run_append_grow_src (P:=P) w ty ty2 o.type _ i u hut h1 h2 (some ⟨m,0,none⟩) len cap _ holds (ρ y) es.length news hsr zom zom (growslice_fits zom (zOS h32 hby));rw[<- hρ]at hg;have:=zNI (ty:=(vA6 P ty).elem) (H.drop r) hn hk hz h3 h4 h5 hus hE hsr.newsLen hsr.one huni hlies hlen (zEC ho hg);exact this
   .cases he
  .cases he
 .cases he
theorem uHD{x:Operand}{ty:TypeId}(ho:o.op=.call { callee:=.builtin .len,args:=⟨[x]⟩,argTypes:=⟨[ty]⟩ })(H:HR E G w A κ h z)(hx:RV w A κ (ev G t x) (ρ x))
 (he:vA4 P G z key (.call { callee:=.builtin .len,args:=⟨[x]⟩,argTypes:=⟨[ty]⟩ }) t h=some (v,h',rd,wr)):Sound E G w A κ z h' key v ((execOp ρ o).run P w):=by
 unfold vA4 at he;simp only at he;obtain⟨hs,he⟩:=zAK he;have hu:=zCO hs
 have run:∀ {a:Option Addr} {n cap:Nat},ρ x=.slice a n cap->(execOp ρ o).run P w=.ok (.value (.int .i64 n)) w:=by
  intro a n cap hρ;simp[execOp,ho,resolve,invoke,builtin,Builtin.len_,run_underlying hu,hρ,goInt]
 split at he
 .rename_i es hev
  rw[hev]at hx;obtain⟨a,cap,hρ⟩:=hx.imm_len;cases he
  exact Sound.pure H (run hρ) (.data _ _ (.int _ _))
 .rename_i r off len hev
  rw[hev]at hx;obtain⟨m,sz,cap,a,hρ,_⟩:=hx.own_inv;cases he
  exact Sound.pure H (run hρ) (.data _ _ (.int _ _))
 .rename_i hev
  rw[hev]at hx;cases he
  exact Sound.pure H (run hx.nilsl_inv) (.data _ _ (.int _ _))
 .cases he
theorem uHC{x y:Operand}{ts:Array TypeId}(ho:o.op=.call { callee:=.builtin .max,args:=⟨[x,y]⟩,argTypes:=ts })(H:HR E G w A κ h z)(hx:RV w A κ (ev G t x) (ρ x))(hy:RV w A κ (ev G t y) (ρ y))
 (he:vA4 P G z key (.call { callee:=.builtin .max,args:=⟨[x,y]⟩,argTypes:=ts }) t h=some (v,h',rd,wr)):Sound E G w A κ z h' key v ((execOp ρ o).run P w):=by
 unfold vA4 at he;simp only at he
 split at he
 .rename_i k a k' b hev hev'
  rw[hev]at hx; rw[hev']at hy;cases he
  exact Sound.pure H (v':=.int k (if b > a then b else a)) (by simp[execOp,ho,resolve,invoke,builtin,Builtin.max_,Builtin.max2,hx.int_inv,hy.int_inv]) (.data _ _ (.int _ _))
 .cases he
theorem uHB{x y:Operand}{ts:Array TypeId}(ho:o.op=.call { callee:=.builtin .min,args:=⟨[x,y]⟩,argTypes:=ts })(H:HR E G w A κ h z)(hx:RV w A κ (ev G t x) (ρ x))(hy:RV w A κ (ev G t y) (ρ y))
 (he:vA4 P G z key (.call { callee:=.builtin .min,args:=⟨[x,y]⟩,argTypes:=ts }) t h=some (v,h',rd,wr)):Sound E G w A κ z h' key v ((execOp ρ o).run P w):=by
 unfold vA4 at he;simp only at he
 split at he
 .rename_i k a k' b hev hev'
  rw[hev]at hx; rw[hev']at hy;cases he
  exact Sound.pure H (v':=.int k (if b<a then b else a)) (by simp[execOp,ho,resolve,invoke,builtin,Builtin.min_,Builtin.min2,hx.int_inv,hy.int_inv]) (.data _ _ (.int _ _))
 .cases he
theorem vKT(H:HR E G w A κ h z)(hn:E.n0<=key)(hk:κ key=none)(hz:z key=false)(hhk:h key=none)(hx:OkOp G w A κ t ρ o.op)
 (he:vA4 P G z key o.op t h=some (v,h',rd,wr)):Sound E G w A κ z h' key v ((execOp ρ o).run P w):=by
 generalize ho:o.op=op at hx he;cases op
 case move x=>unfold vA4 at he; cases he; exact vN5 (rAW ho) H (hx x rAD)
 case assign x=>unfold vA4 at he; cases he; exact vN5 (rA0 ho) H (hx x rAD)
 case pick c a b=>exact uBC ho H (hx c rAD) (hx a rAD) (hx b rAD) he
 case alloc e=>exact vUR ho H hn hk hz he
 case box e x=>exact uHE ho H hn hk hz (hx x rAD) he
 case build ty parts=>exact vUP ho H hx he
 case buildSlice ty len parts=>exact zOV ho H hn hk hz hx he
 case load ty x=>exact uBD ho H (hx x rAD) he
 case store ty x y=>exact vUJ ho H (hx x rAD) (hx y rAD) he
 case nilCheck x=>exact vI7 ho H (hx x rAD) he
 case binOp op xt x y yt=>exact vUQ ho H (hx x rAD) (hx y rAD) he
 case unOp op xt x=>exact uBB ho H (hx x rAD) he
 case convert a b x=>exact vLW ho H (hx x rAD) he
 case makeFunc fn first captured =>
  unfold vA4 at he; cases he;exact vI8 ho H (fun x hm=>hx x (by simpa [Op.operands]using hm))
 case makeSlice ty l c=>exact vGO ho H hn hk hz (hx l rAD) (hx c rAD) he
 case slice ty x lo hi mx =>
  cases mx with
  | some m=>simp[vA4]at he
  | none=>exact vUK ho H (hx x rAD) (fun y hy=>hx y (by simp[Op.operands,hy])) (fun y hy=>hx y (by simp[Op.operands,hy])) he
 case fieldAddr s x f=>exact vGQ ho H (hx x rAD) he
 case field s x f=>exact vUO ho H (hx x rAD) he
 case indexAddr ty x ix=>exact vGP ho H (hx x rAD) (hx ix rAD) he
 case index ty x ix=>exact vUN ho H (hx x rAD) (hx ix rAD) he
 case extract x i=>exact vLV ho H (hx x rAD) he
 case call c =>
  obtain⟨callee,⟨args⟩,⟨tys⟩⟩:=c;cases callee
  case value=>simp[vA4]at he
  case invoke=>simp[vA4]at he
  case builtin b =>
   cases b
   case len =>
    match args,tys,he,ho,hx with
    | [x],[ty],he,ho,hx=>exact uHD ho H (hx x rAH) he
    | [],_,he,_,_=>simp[vA4]at he
    | _::_::_,_,he,_,_=>simp[vA4]at he
    | [_],[],he,_,_=>simp[vA4]at he
    | [_],_::_::_,he,_,_=>simp[vA4]at he
   case max =>
    match args,he,ho,hx with
    | [x,y],he,ho,hx=>exact uHC ho H (hx x rAH) (hx y rAH) he
    | [],he,_,_=>simp[vA4]at he
    | [_],he,_,_=>simp[vA4]at he
    | _::_::_::_,he,_,_=>simp[vA4]at he
   case min =>
    match args,he,ho,hx with
    | [x,y],he,ho,hx=>exact uHB ho H (hx x rAH) (hx y rAH) he
    | [],he,_,_=>simp[vA4]at he
    | [_],he,_,_=>simp[vA4]at he
    | _::_::_::_,he,_,_=>simp[vA4]at he
   case append =>
    match args,tys,he,ho,hx with
    | [x,y],[ty,ty2],he,ho,hx=>exact vRG ho H hn hk hz hhk (hx x rAH) (hx y rAH) he
    | [],_,he,_,_=>simp[vA4]at he
    | [_],_,he,_,_=>simp[vA4]at he
    | _::_::_::_,_,he,_,_=>simp[vA4]at he
    | [_,_],[],he,_,_=>simp[vA4]at he
    | [_,_],[_],he,_,_=>simp[vA4]at he
    | [_,_],_::_::_::_,he,_,_=>simp[vA4]at he
   all_goals (simp[vA4]at he)
 all_goals (simp[vA4]at he)
end
open Go.RowKit
theorem zCD{f:PV->Option (PV×List Nat)}:∀ {l ds:List PV} {ks:List Nat},vB7 f l=some (ds,ks) ->
 ds.length=l.length/\∀ (i:Nat) d,ds[i]?=some d->∃ x ks',l[i]?=some x/\f x=some (d,ks')/\∀ k∈ks',k∈ks
 | [],ds,ks,h=>by simp[vB7]at h; obtain⟨rfl,rfl⟩:=h; exact⟨rfl,fun i d hd=>by simp at hd⟩
 | x::l,ds,ks,h=>by
   unfold vB7 at h
   split at h
   .rename_i d ks1 ds' ls h1 h2
    cases h
    obtain⟨g1,g2⟩:=zCD h2;refine⟨by simp[g1],fun i d' hd=>?_⟩;cases i with
    | zero=>simp at hd; subst hd; exact⟨x,ks1,rfl,h1,fun k hk=>rB0 _ hk⟩
    | succ i =>
      obtain⟨y,ks',e1,e2,e3⟩:=g2 i d' (by simpa using hd);exact⟨y,ks',by simpa using e1,e2,fun k hk=>rBV _ (e3 k hk)⟩
   .cases h
theorem zFI{h:Hp}:∀ {n:Nat} {e d:PV} {ks:List Nat},frz h n e=some (d,ks)->d.cells.length=e.cells.length/\d.isAgg=e.isAgg /\
 ∀ (j:Nat) x',d.cells[j]?=some x'->∃ m x ks',m<=n/\e.cells[j]?=some x/\frz h m x=some (x',ks')/\∀ k∈ks',k∈ks:=by
 intro n e d ks hf
 have one:∀ (e d:PV),e.cells=[e]->d.cells=[d]->e.isAgg=false->d.isAgg=false->frz h n e=some (d,ks)->d.cells.length=e.cells.length/\d.isAgg=e.isAgg /\
  ∀ (j:Nat) x',d.cells[j]?=some x'->∃ m x ks',m<=n/\e.cells[j]?=some x/\frz h m x=some (x',ks')/\∀ k∈ks',k∈ks:=by
  intro e d h1 h2 h3 h4 hf;rw[h1,h2,h3,h4];refine⟨rfl,rfl,fun j x' hj=>?_⟩;cases j with
  | zero=>simp at hj; subst hj; exact⟨n,e,ks,rAR _,rfl,hf,fun k hk=>hk⟩
  | succ j=>simp at hj
 have hf0:=hf;unfold frz at hf
 split at hf
 .cases hf; exact one _ _ rfl rfl rfl rfl hf0
 .cases hf; exact one _ _ rfl rfl rfl rfl hf0
 .cases hf; exact one _ _ rfl rfl rfl rfl hf0
 .cases hf; exact one _ _ rfl rfl rfl rfl hf0
 .cases hf; exact one _ _ rfl rfl rfl rfl hf0
 .cases hf; exact one _ _ rfl rfl rfl rfl hf0
 .cases hf; exact one _ _ rfl rfl rfl rfl hf0
 .cases hf; exact one _ _ rfl rfl rfl rfl hf0
 .split at hf
  .split at hf
   .split at hf
    .cases hf; exact one _ _ rfl rfl rfl rfl hf0
    .cases hf
   .cases hf
  .cases hf
 .split at hf
  .cases hf; exact one _ _ rfl rfl rfl rfl hf0
  .cases hf
 .rename_i n cs
  split at hf
  .rename_i ds ks' hm
   cases hf
   obtain⟨g1,g2⟩:=zCD hm;refine⟨g1,rfl,fun j x' hj=>?_⟩;obtain⟨x,ks',e1,e2,e3⟩:=g2 j x' hj;exact⟨n,x,ks',rC3 _,e1,e2,e3⟩
  .cases hf
 .split at hf
  .cases hf; exact one _ _ rfl rfl rfl rfl hf0
  .cases hf
 .rename_i n r off len
  split at hf
  .split at hf
   .split at hf
    .cases hf; exact one _ _ rfl rfl rfl rfl hf0
    .cases hf
   .cases hf
  .cases hf
 .cases hf
section
variable {E:Env} {G:Gl} {w:World} {A:Nat->Prop} {κ:Ka} {h:Hp} {z:Fz}
def vBQ(κ:Ka)(ks:List Nat)(b:Nat):Prop:=∃ r∈ks,∃ sz cap,κ r=some (b,sz,cap)/\cap≠0
theorem zFH (H:HR E G w A κ h z) {A':Nat->Prop} (hA:∀ b,A b->A' b):∀ (n:Nat) (d v:PV) (u:Value) (ks:List Nat),frz h n d=some (v,ks)->RV w A κ d u->(∀ b,vBQ κ ks b->A' b)->RD w A' v u:=by
 intro n
 induction n using Nat.strongRecOn with
 | _ n ih =>
   intro d v u ks hf hv hks;unfold frz at hf
   split at hf
   .cases hf; rw[hv.int_inv]; exact .int _ _
   .cases hf; rw[hv.bool_inv]; exact .bool _
   .cases hf; rw[hv.str_inv]; exact .str _
   .cases hf; exact hv.imm_inv.mono hA (fun _ _ _=>rfl)
   .cases hf; rw[hv.nilsl_inv]; exact .imm0 _ _
   .cases hf; rw[hv.nilfunc_inv]; exact .nilfunc
   .cases hf; rw[hv.raw_inv]; exact .raw _
   .cases hf
    obtain⟨b,o,val,rfl,h1,h2,h3⟩:=hv.cptr_inv;exact .cptr _ _ b o val (hA b h1) h2 (fun c d hd=>(h3 c d hd).mono hA (fun _ _ _=>rfl))
   .rename_i n r i off
    split at hf
    .rename_i b hb
     split at hf
     .rename_i e he
      split at hf
      .rename_i d' ks' hd'
       cases hf
       obtain⟨m,sz,cap,rfl,hκ⟩:=hv.ptr_inv;obtain⟨m0,cap0,e1,e2,e3,e4⟩:=H.blk r b hb (by rw[hκ]; simp);rw[hκ]at e1; cases e1;have hi:=(rAP.1 he).1;obtain⟨c,ty,f1,f2,f3,f4,f5,f6,f7⟩:=e4.resolve_left zom;have hAm:A' m:=hks m ⟨r,zsm,b.sz,cap,hκ,zom⟩;obtain⟨g1,_,hcel⟩:=zFI hd';refine .cptr d' off m (i * b.sz) (fun j=>c.getD (i * b.sz+j) undef) hAm (fun j hj=>?_) (fun j x' hx'=>?_)
       .obtain⟨u,q1,q2,q3⟩:=f5 i e he j _ (rAQ zom)
        have hgd:c.getD (i * b.sz+j) undef=u:=by simp[rBF,q1]
        simp only[hgd];exact⟨by simp[World.cell?,f2,q1],q3⟩
       .obtain⟨m',y,ks2,p1,p2,p3,p4⟩:=hcel j x' hx'
        obtain⟨u,t1,t2,t3⟩:=f5 i e he j y p2;have hgd:c.getD (i * b.sz+j) undef=u:=by simp[rBF,t1]
        simp only[hgd];exact ih m' zom y x' u ks2 p3 t2 (fun b ⟨r,hr,q⟩=>hks b ⟨r,rBC _ (p4 r hr),q⟩)
      .cases hf
     .cases hf
    .cases hf
   .rename_i n fn f c
    split at hf
    .rename_i fs ks1 cs ks2 hm1 hm2
     cases hf
     obtain⟨us,vs,rfl,h1,h2,h3,h4⟩:=hv.func_inv;obtain⟨g1,g2⟩:=zCD hm1;obtain⟨g3,g4⟩:=zCD hm2;refine .func fn fs cs us vs zom zom (fun i d hd=>?_) (fun i d hd=>?_)
     .obtain⟨x,ks',e1,e2,e3⟩:=g2 i d hd
      exact ih n (rAL _) x d _ ks' e2 (h3 i x e1) (fun b ⟨r,hr,q⟩=>hks b ⟨r,rB0 _ (e3 r hr),q⟩)
     .obtain⟨x,ks',e1,e2,e3⟩:=g4 i d hd
      exact ih n (rAL _) x d _ ks' e2 (h4 i x e1) (fun b ⟨r,hr,q⟩=>hks b ⟨r,rBV _ (e3 r hr),q⟩)
    .cases hf
   .rename_i n cs
    split at hf
    .rename_i ds ks' hm
     cases hf
     obtain⟨vs,rfl,h1,h2,h3⟩:=hv.agg_inv;obtain⟨g1,g2⟩:=zCD hm;refine .agg ds vs zom (fun i d hd=>?_) (fun i hi=>h3 i zom);obtain⟨x,ks',e1,e2,e3⟩:=g2 i d hd;exact ih n (rAL _) x d _ ks' e2 (h2 i x e1) (fun b ⟨r,hr,q⟩=>hks b ⟨r,e3 r hr,q⟩)
    .cases hf
   .rename_i n cs
    split at hf
    .rename_i ds ks' hm
     cases hf
     obtain⟨vs,rfl,h1,h2⟩:=hv.tup_inv;obtain⟨g1,g2⟩:=zCD hm;refine .tup ds vs zom (fun i d hd=>?_);obtain⟨x,ks',e1,e2,e3⟩:=g2 i d hd;exact ih n (rAL _) x d _ ks' e2 (h2 i x e1) (fun b ⟨r,hr,q⟩=>hks b ⟨r,e3 r hr,q⟩)
    .cases hf
   .rename_i n r off len
    split at hf
    .rename_i b hb
     split at hf
     .rename_i hle
      split at hf
      .rename_i ds ks' hm
       cases hf
       obtain⟨m,sz,cap,a,rfl,hκ,hcap,ha⟩:=hv.own_inv;obtain⟨g1,g2⟩:=zCD hm;have hlen:ds.length=len:=by rw[g1]; simp; omega
       by_cases hl0:len=0
       .have:ds=[]:=rAZ.1 zom
        subst this hl0;exact .imm0 _ _
       obtain⟨m0,cap0,e1,e2,e3,e4⟩:=H.blk r b hb (by rw[hκ]; simp);rw[hκ]at e1; cases e1;obtain⟨c,ty,f1,f2,f3,f4,f5,f6,f7⟩:=e4.resolve_left zom;have ha':=ha.resolve_right zom;subst ha';have hget:∀ i,i<len->((b.els.drop off).take len)[i]?=b.els[off+i]?:=fun i hi=>by rw[rCB hi,rCR]
       have hAm:A' m:=hks m ⟨r,zsm,b.sz,cap,hκ,zom⟩;rw[<- hlen];refine .imm ds b.sz m (off * b.sz) (cap - off) (fun i j=>c.getD ((off+i) * b.sz+j) undef) hAm zom (fun e he=>?_) (fun i j hi hj=>?_) (fun i e he j x' hx'=>?_)
       .obtain⟨i,hi,rfl⟩:=rA8 he
        obtain⟨x,ks1,q1,q2,q3⟩:=g2 i _ (rAQ hi);rw[hget i zom]at q1;rw[(zFI q2).1,(e3 x (rAS q1)).1]
       .have hlt:off+i<b.els.length:=by omega
        have hcl:=(e3 b.els[off+i] zsm).1;obtain⟨u,q1,q2,q3⟩:=f5 (off+i) _ (rAQ hlt) j _ (rAQ zom);have e:off * b.sz+i * b.sz+j=(off+i) * b.sz+j:=by rw[rB6]
        rw[e];have hgd:c.getD ((off+i) * b.sz+j) undef=u:=by simp[rBF,q1]
        simp only[hgd];exact⟨by simp[World.cell?,f2,q1],q3⟩
       .have hi:=(rAP.1 he).1
        obtain⟨x,ks1,q1,q2,q3⟩:=g2 i e he;rw[hget i zom]at q1;obtain⟨_,_,hcel⟩:=zFI q2;obtain⟨m',y,ks2,p1,p2,p3,p4⟩:=hcel j x' hx';obtain⟨u,t1,t2,t3⟩:=f5 (off+i) x q1 j y p2;have hgd:c.getD ((off+i) * b.sz+j) undef=u:=by simp[rBF,t1]
        simp only[hgd];exact ih m' zom y x' u ks2 p3 t2 (fun b ⟨r,hr,q⟩=>hks b ⟨r,rBC _ (q3 r (p4 r hr)),q⟩)
      .cases hf
     .cases hf
    .cases hf
   .cases hf
theorem zIH:∀ (n:Nat) (d v:PV) (ks:List Nat),frz h n d=some (v,ks)->∀ r∈ks,∃ b,h r=some b:=by
 intro n
 induction n with
 | zero =>
   intro d v ks hf r hr;cases d<;>simp[frz]at hf
   all_goals (rw[hf.2]at hr; cases hr)
 | succ n ih =>
   intro d v ks hf
   have hm':∀ (l ds:List PV) (ks:List Nat),vB7 (frz h n) l=some (ds,ks)->∀ r∈ks,∃ b,h r=some b:=by
    intro l
    induction l with
    | nil=>intro ds ks hm r hr; simp[vB7]at hm; rw[hm.2]at hr; cases hr
    | cons x l ihl =>
      intro ds ks hm r hr;unfold vB7 at hm
      split at hm
      .rename_i d ks1 ds' ls h1 h2
       cases hm
       rcases rAX.1 hr with hr | hr
       .exact ih _ _ _ h1 r hr
       .exact ihl _ _ h2 r hr
      .cases hm
   unfold frz at hf
   split at hf
   .cases hf; intro r hr; cases hr
   .cases hf; intro r hr; cases hr
   .cases hf; intro r hr; cases hr
   .cases hf; intro r hr; cases hr
   .cases hf; intro r hr; cases hr
   .cases hf; intro r hr; cases hr
   .cases hf; intro r hr; cases hr
   .cases hf; intro r hr; cases hr
   .rename_i n' r i off he
    cases he
    split at hf
    .rename_i b hb
     split at hf
     .split at hf
      .rename_i d' ks' hd'
       cases hf
       intro q hq;rcases rBA.1 hq with rfl | hq
       .exact⟨b,hb⟩
       .exact ih _ _ _ hd' q hq
      .cases hf
     .cases hf
    .cases hf
   .rename_i n' fn f c he
    cases he
    split at hf
    .rename_i fs ks1 cs ks2 hm1 hm2
     cases hf
     intro q hq;rcases rAX.1 hq with hq | hq
     .exact hm' _ _ _ hm1 q hq
     .exact hm' _ _ _ hm2 q hq
    .cases hf
   .rename_i n' cs he
    cases he
    split at hf
    .rename_i ds ks' hm
     cases hf
     exact hm' _ _ _ hm
    .cases hf
   .rename_i n' cs he
    cases he
    split at hf
    .rename_i ds ks' hm
     cases hf
     exact hm' _ _ _ hm
    .cases hf
   .rename_i n' r off len he
    cases he
    split at hf
    .rename_i b hb
     split at hf
     .split at hf
      .rename_i ds ks' hm
       cases hf
       intro q hq;rcases rBA.1 hq with rfl | hq
       .exact⟨b,hb⟩
       .exact hm' _ _ _ hm q hq
      .cases hf
     .cases hf
    .cases hf
   .cases hf
theorem zBY{n:Nat}:∀ {l ds:List PV} {ks:List Nat},vB7 (frz h n) l=some (ds,ks)->∀ r∈ks,∃ b,h r=some b
 | [],ds,ks,hm,r,hr=>by simp[vB7]at hm; rw[hm.2]at hr; cases hr
 | x :: l,ds,ks,hm,r,hr=>by
   unfold vB7 at hm
   split at hm
   .rename_i d ks1 ds' ls h1 h2
    cases hm
    rcases rAX.1 hr with hr | hr
    .exact zIH _ _ _ _ h1 r hr
    .exact zBY h2 r hr
   .cases hm
theorem HR.freeze(H:HR E G w A κ h z){ks:List Nat}(hk:∀ r∈ks,∃ b,h r=some b):HR E G w (fun b=>A b\/vBQ κ ks b) κ h (vCG z ks):=by
 have mono:∀ {d v},RV w A κ d v->RV w (fun b=>A b\/vBQ κ ks b) κ d v:=fun hv=>hv.mono (fun _ h=>rAW h) (fun _ _ _=>rfl) (fun _ _ h=>h)
 have real:∀ b,vBQ κ ks b->E.B<=b/\b<w.heap.size:=by
  rintro b ⟨r,hr,sz,cap,hκ,hc⟩
  obtain⟨bk,hb⟩:=hk r hr;obtain⟨m,cap',h1,h2,h3,h4⟩:=H.blk r bk hb (by rw[hκ]; simp);rw[hκ]at h1; cases h1;obtain⟨c,ty,g1,g2,_⟩:=h4.resolve_left hc;exact⟨g1,(rA6.1 g2).1⟩
 refine⟨H.bel,H.hB,fun b hb=>?_,fun b hb=>rAW (H.a0 b hb),fun b hb=>?_,H.acell,H.k0,fun g e hg=>mono (H.glob g e hg),H.klt,⟨H.kp.base,H.kp.keep,fun b hb=>⟨(H.kp.wr b hb).1,?_⟩,fun r b m sz cap hr hk hc hz=>?_,fun D hD=>⟨(H.kp.mks D hD).1,⟨(H.kp.mks D hD).2.1.1,?_⟩,(H.kp.mks D hD).2.2⟩,H.kp.nd,H.kp.kb,H.kp.kk,fun b hb=>⟨(H.kp.zk b hb).1,?_,(H.kp.zk b hb).2.2⟩,H.kp.mk0,H.kp.gk⟩,fun r b hb hκ=>?_,H.excl⟩
 .rcases hb with hb | hb
  .exact H.alt b hb
  .exact(real b hb).2
 .rcases hb with hb | hb
  .exact H.a1 b hb
  .exact rA0 (real b hb).1
 .rintro(hA | ⟨r,hr,sz,cap,hκ,hc⟩)
  .exact(H.kp.wr b hb).2 hA
  .obtain⟨bk,hbk⟩:=hk r hr
   cases hzr:z r with
   | false=>exact(H.kp.own r bk b sz cap hbk hκ hc hzr).1 (H.kp.wr b hb).1
   | true =>
     obtain⟨m,cap',h1,h2,h3,h4⟩:=H.blk r bk hbk (by rw[hκ]; simp);rw[hκ]at h1; cases h1;obtain⟨c,ty,g1,g2,g3,g4,g5,g6,g7⟩:=h4.resolve_left hc;exact(H.kp.wr _ hb).2 (g7 hzr)
 .simp only[vCG,rD1]at hz
  exact H.kp.own r b m sz cap hr hk hc hz.2
 .rintro(hA | ⟨r,hr,sz,cap,hκ,hc⟩)
  .exact(H.kp.mks D hD).2.1.2 hA
  .obtain⟨bk,hbk⟩:=hk r hr
   obtain⟨m,cap',h1,h2,h3,h4⟩:=H.blk r bk hbk (by rw[hκ]; simp);rw[hκ]at h1; cases h1;obtain⟨c,ty,g1,g2,_⟩:=h4.resolve_left hc;rw[(H.kp.mks _ hD).2.2]at g2; cases g2
 .rintro(hA | ⟨r,hr,sz,cap,hκ,hc⟩)
  .exact(H.kp.zk b hb).2.1 hA
  .obtain⟨bk,hbk⟩:=hk r hr
   cases hzr:z r with
   | false=>exact(H.kp.own r bk b sz cap hbk hκ hc hzr).2 (H.kp.zk b hb).1
   | true =>
     obtain⟨m,cap',h1,h2,h3,h4⟩:=H.blk r bk hbk (by rw[hκ]; simp);rw[hκ]at h1; cases h1;obtain⟨c,ty,g1,g2,g3,g4,g5,g6,g7⟩:=h4.resolve_left hc;exact(H.kp.zk _ hb).2.1 (g7 hzr)
 .obtain⟨m,cap,h1,h2,h3,h4⟩:=H.blk r b hb hκ
  refine⟨m,cap,h1,h2,h3,?_⟩;rcases h4 with h4 | ⟨c,ty,g1,g2,g3,g4,g5,g6,g7⟩
  .exact rAW h4
  by_cases hc:cap=0
  .exact rAW hc
  refine rA0 ⟨c,ty,g1,g2,g3,g4,fun i e he=>(g5 i e he).mono (fun _ h=>rAW h) (fun _ _ _=>rfl) (fun _ _ h=>h),fun hz=>?_,fun hz=>?_⟩
  .simp only[vCG,rD1]at hz
   rintro(hA | ⟨r',hr',sz',cap',hκ',hc'⟩)
   .exact g6 hz.2 hA
   .obtain⟨b',hb'⟩:=hk r' hr'
    have hne:r≠r':=fun e=>by subst e; have:=hz.1; simp at this; exact this hr'
    exact H.excl r r' b b' m m _ _ _ _ hne hb hb' h1 hκ' hc hc' rfl
  .simp only[vCG,rCE]at hz
   rcases hz with hz | hz
   .exact rA0 ⟨r,by simpa using hz,b.sz,cap,h1,hc⟩
   .exact rAW (g7 hz)
theorem HR.after(H:HR E G w A κ h z){w1:World}(hb:Below w.heap.size w w1){X:Nat->Prop}(hX:∀ b,X b->w.heap.size<=b/\b<w1.heap.size):HR E G w1 (fun b=>A b\/X b) κ h z:=by
 have hcell:∀ b o,A b->w1.cell? ⟨b,o,none⟩=w.cell? ⟨b,o,none⟩:=fun b o hA=>cell?_of_heap (hb.block b (H.alt b hA)) o
 have mono:∀ {d v},RV w A κ d v->RV w1 (fun b=>A b\/X b) κ d v:=fun hv=>hv.mono (fun _ h=>rAW h) hcell (fun _ _ h=>h)
 refine⟨H.bel.trans (hb.mono H.hB),rBU H.hB hb.size,fun b hb'=>?_,fun b hb=>rAW (H.a0 b hb),fun b hb'=>?_,fun b o hb'=>(hcell b o (H.a0 b hb')).trans (H.acell b o hb'),H.k0,fun g e hg=>mono (H.glob g e hg),fun r m sz cap hr=>?_,?_,fun r b hr hκ=>?_,H.excl⟩
 .rcases hb' with h | h
  .exact rA4 (H.alt b h) hb.size
  .exact(hX b h).2
 .rcases hb' with h | h
  .exact H.a1 b h
  .exact rA0 (rBU H.hB (hX b h).1)
 .rcases H.klt r m sz cap hr with h | h
  .exact rAW h
  .exact rA0 (rA4 h hb.size)
 .have K:=H.kp.below hb
  refine⟨K.base,K.keep,fun b hb=>⟨(K.wr b hb).1,?_⟩,K.own,fun D hD=>⟨(K.mks D hD).1,⟨(K.mks D hD).2.1.1,?_⟩,(K.mks D hD).2.2⟩,K.nd,K.kb,K.kk,fun b hb=>⟨(K.zk b hb).1,?_,(K.zk b hb).2.2⟩,K.mk0,K.gk⟩
  .rintro(h | h)
   .exact(K.wr b hb).2 h
   .have:=(H.kp.keep b (K.wr b hb).1).1; have:=(hX b h).1; omega
  .rintro(h | h)
   .exact(K.mks D hD).2.1.2 h
   .have:=(rA6.1 (H.kp.mks D hD).2.2).1; have:=(hX D h).1; omega
  .rintro(h | h)
   .exact(K.zk b hb).2.1 h
   .have:=(H.kp.kk b (K.zk b hb).1).1; have:=(hX b h).1; omega
 .obtain⟨m,cap,h1,h2,h3,h4⟩:=H.blk r b hr hκ
  refine⟨m,cap,h1,h2,h3,?_⟩;rcases h4 with h4 | ⟨c,ty,g1,g2,g3,g4,g5,g6,g7⟩
  .exact rAW h4
  .have hm:=(rA6.1 g2).1
   refine rA0 ⟨c,ty,g1,by rw[hb.block m hm]; exact g2,g3,g4,fun i e he=>(g5 i e he).mono (fun _ h=>rAW h) hcell (fun _ _ h=>h),fun hz=>?_,fun hz=>rAW (g7 hz)⟩
   rintro(h | h)
   .exact g6 hz h
   .have:=(hX m h).1; omega
theorem HR.adopt(H:HR E G w A κ h z){key sz cap m:Nat}{agg:Bool}{els:List PV}{c:Array Value}{ty:TypeId}(hn:E.n0<=key)(hk:κ key=none)(hz:z key=false)
 (hm:w.heap[m]?=some (.cells c ty (0,0))) (hB:E.B<=m) (hmS:¬ E.S m/\¬ E.K m) (hmA:¬ A m) (hnew:∀ r b m' s c',h r=some b->κ r=some (m',s,c')->c'≠0->m'≠m)
 (hc:c.size=cap * sz) (hl:els.length<=cap) (hu:∀ e∈els,e.cells.length=sz/\e.isAgg=agg) (h1:∀ u∈c.toList,u.oneCell'=true)
 (hlies:∀ i e,els[i]?=some e->lies w A κ c (i * sz) e) :
 HR E G w A (vDM κ key (m,sz,cap)) (hset h key (some ⟨els,sz,agg⟩)) z:=by
 have hle:=zDH (m,sz,cap) hk;have mono:∀ {d v},RV w A κ d v->RV w A (vDM κ key (m,sz,cap)) d v:=fun hv=>hv.mono (fun _ h=>h) (fun _ _ _=>rfl) hle
 have hmlt:=(rA6.1 hm).1;refine⟨H.bel,H.hB,H.alt,H.a0,H.a1,H.acell,fun r hr=>?_,fun g e hg=>mono (H.glob g e hg),fun r m' s c' hr=>?_,H.kp.put (H.kp.key hn) (fun _ _=>hmS),fun r b hb hκ=>?_,?_⟩
 .rw[zAO κ _ zom]; exact H.k0 r hr
 .by_cases e:r=key
  .subst e; rw[zAZ]at hr; cases hr; right; exact hmlt
  .rw[zAO κ _ e]at hr; exact H.klt r m' s c' hr
 .by_cases e:r=key
  .subst e
   simp only[hset,rCI]at hb;cases hb
   exact⟨m,cap,zAZ κ r _,hl,hu,rA0 ⟨c,ty,hB,hm,hc,h1,fun i e he=>(hlies i e he).mono (fun _ h=>h) (fun _ _ _=>rfl) hle,fun _=>hmA,fun hzt=>by rw[hz]at hzt; cases hzt⟩⟩
  .simp only[hset,rAM e]at hb
   obtain⟨m',cap',h2,h3,h4,h5⟩:=H.blk r b hb (by rw[zAO κ _ e]at hκ; exact hκ);refine⟨m',cap',by rw[zAO κ _ e]; exact h2,h3,h4,?_⟩;rcases h5 with h5 | ⟨c',ty',g1,g2,g3,g4,g5,g6,g7⟩
   .exact rAW h5
   .exact rA0 ⟨c',ty',g1,g2,g3,g4,fun i e he=>(g5 i e he).mono (fun _ h=>h) (fun _ _ _=>rfl) hle,g6,g7⟩
 .intro r r' b b' m1 m2 s s' c1 c2 hne hr hr' hk1 hk2 hc1 hc2
  by_cases e:r=key
  .subst e
   rw[zAZ]at hk1; cases hk1;have e':r'≠r:=fun e=>hne e.symm
   rw[zAO κ _ e']at hk2;simp only[hset,rAM e']at hr';exact(hnew r' b' m2 s' c2 hr' hk2 hc2).symm
  .rw[zAO κ _ e]at hk1
   simp only[hset,rAM e]at hr;by_cases e':r'=key
   .subst e'
    rw[zAZ]at hk2; cases hk2;exact hnew r b m1 s c1 hr hk1 hc1
   .rw[zAO κ _ e']at hk2
    simp only[hset,rAM e']at hr';exact H.excl r r' b b' m1 m2 s s' c1 c2 hne hr hr' hk1 hk2 hc1 hc2
end
def Gok(G:Gl)(w:World)(A:Nat->Prop):Prop:=∀ g e,G g=some e->RV w A (fun _=>none) (.cptr e 0) (.pointer (some ⟨g,0,none⟩))
section
variable {w:World} {A:Nat->Prop} {κ κ':Ka}
theorem RV.nr_any:∀ (n:Nat) (d:PV) (v:Value),nr n d=true->RV w A κ d v->RV w A κ' d v:=by
 intro n
 have leaf:∀ (d:PV) (v:Value),nr 0 d=true->RV w A κ d v->RV w A κ' d v:=by
  intro d v hd h;cases h with
  | data _ _ h=>exact .data _ _ h
  | nilsl=>exact .nilsl
  | any=>exact .any _
  | anyb=>exact .anyb _
  | agg=>simp[nr]at hd
  | tup=>simp[nr]at hd
  | own=>simp[nr]at hd
  | ptr=>simp[nr]at hd
  | func=>simp[nr]at hd
 induction n with
 | zero=>exact leaf
 | succ n ih =>
   intro d v hd h;cases d with
   | agg cs =>
     simp only[nr,rBG]at hd;obtain⟨vs,rfl,h1,h2,h3⟩:=h.agg_inv;exact .agg cs vs h1 (fun i d hi=>ih d _ (hd d (rAS hi)) (h2 i d hi)) h3
   | tup cs =>
     simp only[nr,rBG]at hd;obtain⟨vs,rfl,h1,h2⟩:=h.tup_inv;exact .tup cs vs h1 (fun i d hi=>ih d _ (hd d (rAS hi)) (h2 i d hi))
   | func fn f c =>
     simp only[nr,rAO,rBG]at hd;obtain⟨fs,cs,rfl,h1,h2,h3,h4⟩:=h.func_inv;exact .func fn f c fs cs h1 h2 (fun i d hi=>ih d _ (hd.1 d (rAS hi)) (h3 i d hi)) (fun i d hi=>ih d _ (hd.2 d (rAS hi)) (h4 i d hi))
   | own=>simp[nr]at hd
   | ptr=>simp[nr]at hd
   | _=>exact leaf _ v rfl h
end
def RDs(w:World)(A:Nat->Prop)(ds:List PV)(vs:List Value):Prop:=ds.length=vs.length/\∀ i d,ds[i]?=some d->RD w A d (vs.getD i undef)
def CRes.holds (w w':World) (A:Nat->Prop):CRes->Value->Prop
 | .data d,v=>RD w' (fun b=>A b\/(w.heap.size<=b/\b<w'.heap.size)) d v
 | .fresh els sz agg,v=>∃ a cap,v=.slice a els.length cap/\els.length<=cap/\(∀ e∈els,e.cells.length=sz/\e.isAgg=agg) /\
  (cap=0\/∃ m c ty,a=some ⟨m,0,none⟩/\w.heap.size<=m/\w'.heap[m]?=some (.cells c ty (0,0))/\c.size=cap * sz/\(∀ u∈c.toList,u.oneCell'=true) /\
    ∀ i e,els[i]?=some e->lies w' (fun b=>A b\/(w.heap.size<=b/\b<w'.heap.size/\b≠m)) (fun _=>none) c (i * sz) e)
 | .gh _ _ _,_=>False
 | .seq _,_=>False
 | .own _ _ _,_=>False
 | .wrt _ _ _,_=>False
 | .frm _ _ _,_=>False
def callable(P:Program)(f:FuncId):Bool :=
 match P.funcs[f]? with
 | some fn => fn.body.isSome && fn.name != "runtime.NumGoroutine"
 | none=>false
def Wd(ro:Option Nat):Fence:={ Fence.wide with round:=ro }
def vF2(P:Program)(l:Nat)(vs:Array Value)(w:World)(R:Ending->World->Prop):Prop :=
 ∃ f tmps assign body,(Instr.yield l vs).run P w=.ok (.round l f tmps assign body) w/\∀ ro n,RoundIn (Wd ro) n P l f tmps assign body w R
structure Cons(P:Program)(xs:List (List PV))(k:Nat) where
 l:Nat
 J:Nat->(Nat->Prop)->(Nat->Prop)->World->Prop
 lt:∀ {i S Wr W},J i S Wr W->(∀ b,S b->b<W.heap.size)/\∀ b,Wr b->S b
 stable:∀ {i S Wr W W'},J i S Wr W->Below 0 W W'->(∀ b,S b->W'.heap[b]?=W.heap[b]?)->J i S Wr W'
 yield:∀ {i S Wr W A ds vs},J i S Wr W->xs[i]?=some ds->i<=k->RDs W A ds vs->(∀ b,A b->b<W.heap.size/\¬ Wr b) ->
  vF2 P l vs.toArray W fun e W'=>∃ S' Wr',e=.returned (.bool (decide (i≠k)))/\J (i+1) S' Wr' W'/\Below 0 W W' /\
   (∀ b,b<W.heap.size->¬ Wr b->W'.heap[b]?=W.heap[b]?)/\(∀ b,Wr' b->Wr b\/W.heap.size<=b)/\∀ b,S' b->S b\/A b\/W.heap.size<=b
def uRI(P:Program)(G:Gl)(f:FuncId)(ds:List PV)(xs:List (List PV)):Prop :=
 ∀ (k:Nat) (Y:Cons P xs k) (w:World) (A S Wr:Nat->Prop) (vs:List Value),(∀ b,A b->b<w.heap.size/\¬ Wr b)->Gok G w A->RDs w A ds vs->Y.J 0 S Wr w ->
   Calls P f (#[.func (.yield Y.l) #[] #[]]++vs.toArray) w fun e w'=>∃ v S' Wr',e=.returned v/\Y.J (min xs.length (k+1)) S' Wr' w'
def vDA(nx:Nat)(κ:Ka)(h:Hp)(z:Fz):Prop:=∀ r,nx<=r->h r=none/\z r=false/\κ r=none
def FnH(P:Program)(G:Gl):vB1:=fun f args K s =>
 callable P f=true/\∀ (E:Env) (w:World) (A:Nat->Prop) (κ:Ka) (vs:List Value),E.n0=s.nx->E.κ0=κ->E.A0=A->E.w1=w->HR E G w A κ s.h s.z->vDA s.nx κ s.h s.z->RVs w A κ args vs ->
  Calls P f vs.toArray w fun e w'=>∃ v pv A' κ' s',e=.returned v/\HR E G w' A' κ' s'.h s'.z/\vDA s'.nx κ' s'.h s'.z/\s.nx<=s'.nx/\RV w' A' κ' pv v/\K pv s'
def vDG(b0:Option Blk):St:=⟨fun _=>.any,match b0 with
 | none=>fun _=>none
 | some b=>hset (fun _=>none) 0 (some b),fun _=>false,1⟩
def uMS(res:PV)(b1:Blk)(pv:PV)(s:St):Prop :=
 nrs b1/\vJ2 b1 res/\((∃ r,pv=rk r res/\s.h r=some b1/\s.z r=false)\/(pv=rkn res/\b1.els=[]))
def uNB(v:PV)(b1:Blk)(pv:PV)(s:St):Prop:=pv=v/\nr 3 v=true/\s.h 0=some b1/\s.z 0=false/\nrs b1
def vFP(bs:List Blk):St:=⟨fun _=>.any,fun j=>bs[j]?,fun _=>false,bs.length⟩
def vD4(v:PV)(bs':List Blk)(pv:PV)(s:St):Prop:=pv=v/\nr 3 v=true/\∀ j b,bs'[j]?=some b->s.h j=some b/\s.z j=false
def FnC (P:Program) (G:Gl):vA8:=fun f ds r =>
 callable P f=true/\match r with
  | .gh _ _ _=>False
  | .seq xs=>uRI P G f ds xs
  | .own b0 res b1=>FnH P G f ds (uMS res b1) (vDG b0)
  | .wrt b0 v b1=>FnH P G f ds (uNB v b1) (vDG (some b0))
  | .frm bs v bs'=>FnH P G f ds (vD4 v bs') (vFP bs)
  | r=>∀ (w:World) (A:Nat->Prop) (vs:List Value),(∀ b,A b->b<w.heap.size)->Gok G w A->RDs w A ds vs ->
    Calls P f vs.toArray w fun e w'=>∃ v,e=.returned v/\Below w.heap.size w w'/\r.holds w w' A v
end Go.PI
