/-
  What the tables say of each type, once: by the kernel. (Printed by a program.)
-/
import Derived.Test.YtbelmkceegmdjaaGreatDoorKPD
import Derived.Test.YtbelmkceegmdjaaGreatDoorChecked
set_option linter.unusedVariables false
set_option linter.unusedSimpArgs false
set_option maxHeartbeats 0
namespace Go.PI.Tryz
open Go.Proofs
abbrev vAA:TI:=⟨1,8,false,0,none,[],.nilfunc,true,false,false,false,false,0,false⟩
abbrev vAB:TI:=⟨1,8,false,0,some .i64,[],.int .i64 0,true,false,false,false,false,0,false⟩
abbrev vAC:TI:=⟨1,1,false,0,some .u8,[],.int .u8 0,true,false,false,false,false,0,false⟩
abbrev vAD:TI:=⟨4,24,true,0,none,[(0,2,1),(1,3,1),(2,4,1),(3,6,1)],.agg [.int .i64 0,.int .i64 0,.bool false,.int .u8 0],true,false,true,false,false,0,false⟩
abbrev vAE:TI:=⟨1,16,false,0,none,[],.str ByteArray.empty,true,false,false,false,true,0,false⟩
abbrev vAF:TI:=⟨1,8,false,0,some .u64,[],.int .u64 0,true,false,false,false,false,0,false⟩
abbrev vAG:TI:=⟨2,24,true,0,none,[(0,9,1),(1,12,1)],.agg [.str ByteArray.empty,.int .u64 0],true,false,true,false,false,0,false⟩
abbrev vAH:TI:=⟨1,8,false,0,none,[],.any,false,false,false,false,false,0,false⟩
abbrev vAI:TI:=⟨1,8,true,0,none,[(0,17,1)],.agg [.any],false,false,true,false,false,0,false⟩
abbrev vAJ:TI:=⟨1,4,false,0,some .i32,[],.int .i32 0,true,false,false,false,false,0,false⟩
abbrev vAK:TI:=⟨1,24,false,167,none,[],.nilsl,true,true,false,false,false,0,false⟩
abbrev vAL:TI:=⟨3,56,true,0,none,[(0,4,1),(1,24,1),(2,24,1)],.agg [.bool false,.nilsl,.nilsl],true,false,true,false,false,0,false⟩
abbrev vAM:TI:=⟨5,72,true,0,none,[(0,3,1),(1,3,1),(2,26,3)],.agg [.int .i64 0,.int .i64 0,.bool false,.nilsl,.nilsl],true,false,true,false,false,0,false⟩
abbrev vAN:TI:=⟨9,152,true,0,none,[(0,22,1),(1,28,5),(6,29,1),(7,4,1),(8,30,1)],.agg [.nilsl,.int .i64 0,.int .i64 0,.bool false,.nilsl,.nilsl,.nilsl,.bool false,.nilsl],true,false,true,false,false,0,false⟩
abbrev vAO:TI:=⟨3,56,true,0,none,[(0,3,1),(1,38,1),(2,38,1)],.agg [.int .i64 0,.nilsl,.nilsl],true,false,true,false,false,0,false⟩
abbrev vAP:TI:=⟨3,72,true,0,none,[(0,41,1),(1,41,1),(2,38,1)],.agg [.nilsl,.nilsl,.nilsl],true,false,true,false,false,0,false⟩
abbrev vAQ:TI:=⟨4,80,true,0,none,[(0,44,1),(1,26,3)],.agg [.nilsl,.bool false,.nilsl,.nilsl],true,false,true,false,false,0,false⟩
abbrev vAR:TI:=⟨10,208,true,0,none,[(0,40,3),(3,43,3),(6,46,4)],.agg [.int .i64 0,.nilsl,.nilsl,.nilsl,.nilsl,.nilsl,.nilsl,.bool false,.nilsl,.nilsl],true,false,true,false,false,0,false⟩
abbrev vAS:TI:=⟨1,0,false,0,none,[],.any,false,false,false,false,false,0,false⟩
abbrev vAT:TI:=⟨10,176,true,0,none,[(0,54,1),(1,32,9)],.agg [.nilsl,.nilsl,.int .i64 0,.int .i64 0,.bool false,.nilsl,.nilsl,.nilsl,.bool false,.nilsl],true,false,true,false,false,0,false⟩
abbrev vAU:TI:=⟨6,96,true,0,none,[(0,3,1),(1,4,1),(2,26,3),(5,30,1)],.agg [.int .i64 0,.bool false,.bool false,.nilsl,.nilsl,.nilsl],true,false,true,false,false,0,false⟩
abbrev vAV:TI:=⟨4,32,true,0,none,[(0,3,1),(1,3,1),(2,3,1),(3,3,1)],.agg [.int .i64 0,.int .i64 0,.int .i64 0,.int .i64 0],true,false,true,false,false,0,true⟩
abbrev vAW:TI:=⟨7,88,true,0,none,[(0,70,4),(4,26,3)],.agg [.int .i64 0,.int .i64 0,.int .i64 0,.int .i64 0,.bool false,.nilsl,.nilsl],true,false,true,false,false,0,false⟩
abbrev vAX:TI:=⟨12,256,true,0,none,[(0,48,10),(10,54,1),(11,22,1)],.agg [.int .i64 0,.nilsl,.nilsl,.nilsl,.nilsl,.nilsl,.nilsl,.bool false,.nilsl,.nilsl,.nilsl,.nilsl],true,false,true,false,false,0,false⟩
abbrev vAY:TI:=⟨2,16,true,0,none,[(0,3,1),(1,3,1)],.agg [.int .i64 0,.int .i64 0],true,false,true,false,false,0,true⟩
abbrev vAZ:TI:=⟨4,64,true,0,none,[(0,3,1),(1,26,3)],.agg [.int .i64 0,.bool false,.nilsl,.nilsl],true,false,true,false,false,0,false⟩
abbrev vA0:TI:=⟨2,32,true,0,none,[(0,4,1),(1,24,1)],.agg [.bool false,.nilsl],true,false,true,false,false,0,false⟩
abbrev vA1:TI:=⟨4,40,true,0,none,[(0,17,1),(1,17,1),(2,17,1),(3,9,1)],.agg [.any,.any,.any,.str ByteArray.empty],false,false,true,false,false,0,false⟩
abbrev vA2:TI:=⟨0,0,true,0,none,[(0,222,0)],.agg [],true,false,true,false,false,0,false⟩
abbrev vA3:TI:=⟨11,48,true,0,none,[(0,12,1),(1,12,1),(2,167,1),(3,226,1),(4,5,1),(5,5,1),(6,227,1),(7,228,1),(8,229,1),(9,230,1),(10,231,1)],.agg [.int .u64 0,.int .u64 0,.int .u32 0,.int .u8 0,.int .u8 0,.int .u8 0,.int .u8 0,.nilfunc,.any,.int .i32 0,.int .i32 0],false,false,true,false,false,0,false⟩
def tab:List TI:=[
 ⟨1,0,false,0,none,[],.tup [],false,false,false,false,false,0,false⟩,vAA,vAB,vAB,⟨1,1,false,0,none,[],.bool false,true,false,false,true,false,0,false⟩,vAC,vAC,vAD,vAD,vAE,vAE,vAE,vAF,vAG,vAG,vAH,vAH,vAH,vAI,vAI,⟨1,16,false,0,none,[],.any,false,false,false,false,false,0,false⟩,vAJ,⟨1,24,false,65,none,[],.nilsl,true,true,false,false,false,0,false⟩,vAK,vAK,vAL,vAL,vAM,vAM,⟨1,24,false,32,none,[],.nilsl,true,true,false,false,false,0,false⟩,⟨1,24,false,72,none,[],.nilsl,true,true,false,false,false,0,false⟩,vAN,vAN,vAA,vAA,vAA,vAA,vAA,⟨1,24,false,46,none,[],.nilsl,true,true,false,false,false,0,false⟩,vAO,vAO,⟨1,24,false,26,none,[],.nilsl,true,true,false,false,false,0,false⟩,vAP,vAP,⟨1,24,false,99,none,[],.nilsl,true,true,false,false,false,0,false⟩,vAQ,vAQ,vAR,vAR,vAA,vAB,vAS,vAA,vAA,⟨1,24,false,28,none,[],.nilsl,true,true,false,false,false,0,false⟩,vAS,vAA,vAA,⟨1,24,false,61,none,[],.nilsl,true,true,false,false,false,0,false⟩,vAA,vAT,vAT,vAS,vAA,vAU,vAU,vAA,vAA,vAA,vAV,vAV,vAW,vAW,vAA,vAA,vAA,vAA,⟨1,24,false,106,none,[],.nilsl,true,true,false,false,false,0,false⟩,vAH,vAA,vAH,vAA,vAA,vAA,vAA,vAX,vAX,vAA,vAA,vAS,vAA,vAA,vAS,vAA,vAA,vAA,vAY,vAY,vAZ,vAZ,vA0,vA0,vAA,vAA,vAS,vAA,⟨1,24,false,4,none,[],.nilsl,true,true,false,false,false,0,false⟩,vAA,⟨1,24,false,3,none,[],.nilsl,true,true,false,false,false,0,false⟩,vAA,vAA,vAA,vAA,vAA,vAA,vAA,vAA,vAX,vAX,vAA,vAA,vAA,vAA,vAA,⟨1,24,false,54,none,[],.nilsl,true,true,false,false,false,0,false⟩,vAA,vAA,vAA,vAA,vAA,vAA,vAA,vAA,vAA,vAA,vAA,vAA,vAA,vAA,vAA,vAF,vAA,⟨2,16,true,3,none,[],.agg [.int .i64 0,.int .i64 0],true,false,false,false,false,2,false⟩,vAA,vAA,vAA,vAA,vAA,vAA,vAA,vAA,vAS,vAA,vAA,vAA,vAA,vAA,vAA,vAA,vAA,vAA,vAA,vAA,vAA,vAA,vAA,vAA,⟨1,4,false,0,some .u32,[],.int .u32 0,true,false,false,false,false,0,false⟩,vAF,vAA,vAA,vAA,vAS,vAA,vAA,vAA,vAA,vAA,vAA,vAA,vAA,vAS,vAA,vAA,vAA,vAS,vAA,vAA,vAA,vAA,vAA,vAA,vAA,vAA,vAA,⟨4,32,true,3,none,[],.agg [.int .i64 0,.int .i64 0,.int .i64 0,.int .i64 0],true,false,false,false,false,4,false⟩,vAA,vAA,vAA,vAA,vAA,vAS,vAA,vAA,vAA,⟨5,40,true,3,none,[],.agg [.int .i64 0,.int .i64 0,.int .i64 0,.int .i64 0,.int .i64 0],true,false,false,false,false,5,false⟩,vAS,vAA,vAS,vAA,vAA,vAA,vAA,vAS,vAA,vAA,vAA,vAA,vAA,vAA,vA1,vA1,⟨0,0,true,16,none,[],.agg [],true,false,false,false,false,0,false⟩,vA2,vA2,vAA,vAC,vAC,vAA,vAH,vAJ,vAJ,vA3,vA3,vAH]
theorem uQ6:∀ i x,nth tab i=some x->vA6 Tryz.prog i=x:=uL3 rAB
abbrev T:Ti:=nth tab
abbrev hT:=uQ6
end Go.PI.Tryz
