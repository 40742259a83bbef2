/-
  What the tables say of each type, once: by the kernel. (Printed by a program.)
-/
import Derived.Test.YtdgckinmcnjheaaGreatCPD
import Derived.Test.YtdgckinmcnjheaaGreatChecked
set_option linter.unusedVariables false
set_option linter.unusedSimpArgs false
set_option linter.unnecessarySimpa false
namespace Go.PI.Tryz
open Go.Proofs
abbrev vAA : TI := ⟨1, 8, false, 0, none, [], .nilfunc, true, false, false, false, false, 0, false⟩
abbrev vAB : TI := ⟨1, 8, false, 0, some .i64, [], .int .i64 0, true, false, false, false, false, 0, false⟩
abbrev vAC : TI := ⟨1, 1, false, 0, some .u8, [], .int .u8 0, true, false, false, false, false, 0, false⟩
abbrev vAD : TI := ⟨4, 24, true, 0, none, [(0, 2, 1), (1, 3, 1), (2, 4, 1), (3, 6, 1)], .agg [.int .i64 0, .int .i64 0, .bool false, .int .u8 0], true, false, true, false, false, 0, false⟩
abbrev vAE : TI := ⟨1, 16, false, 0, none, [], .str ByteArray.empty, true, false, false, false, true, 0, false⟩
abbrev vAF : TI := ⟨1, 8, false, 0, some .u64, [], .int .u64 0, true, false, false, false, false, 0, false⟩
abbrev vAG : TI := ⟨2, 24, true, 0, none, [(0, 9, 1), (1, 12, 1)], .agg [.str ByteArray.empty, .int .u64 0], true, false, true, false, false, 0, false⟩
abbrev vAH : TI := ⟨1, 8, false, 0, none, [], .any, false, false, false, false, false, 0, false⟩
abbrev vAI : TI := ⟨1, 8, true, 0, none, [(0, 17, 1)], .agg [.any], false, false, true, false, false, 0, false⟩
abbrev vAJ : TI := ⟨1, 4, false, 0, some .i32, [], .int .i32 0, true, false, false, false, false, 0, false⟩
abbrev vAK : TI := ⟨3, 56, true, 0, none, [(0, 3, 1), (1, 25, 1), (2, 25, 1)], .agg [.int .i64 0, .nilsl, .nilsl], true, false, true, false, false, 0, false⟩
abbrev vAL : TI := ⟨3, 72, true, 0, none, [(0, 28, 1), (1, 28, 1), (2, 25, 1)], .agg [.nilsl, .nilsl, .nilsl], true, false, true, false, false, 0, false⟩
abbrev vAM : TI := ⟨1, 24, false, 84, none, [], .nilsl, true, true, false, false, false, 0, false⟩
abbrev vAN : TI := ⟨3, 56, true, 0, none, [(0, 4, 1), (1, 33, 1), (2, 33, 1)], .agg [.bool false, .nilsl, .nilsl], true, false, true, false, false, 0, false⟩
abbrev vAO : TI := ⟨4, 80, true, 0, none, [(0, 31, 1), (1, 35, 3)], .agg [.nilsl, .bool false, .nilsl, .nilsl], true, false, true, false, false, 0, false⟩
abbrev vAP : TI := ⟨10, 208, true, 0, none, [(0, 27, 3), (3, 30, 3), (6, 37, 4)], .agg [.int .i64 0, .nilsl, .nilsl, .nilsl, .nilsl, .nilsl, .nilsl, .bool false, .nilsl, .nilsl], true, false, true, false, false, 0, false⟩
abbrev vAQ : TI := ⟨1, 0, false, 0, none, [], .any, false, false, false, false, false, 0, false⟩
abbrev vAR : TI := ⟨2, 32, true, 0, none, [(0, 4, 1), (1, 33, 1)], .agg [.bool false, .nilsl], true, false, true, false, false, 0, false⟩
abbrev vAS : TI := ⟨4, 64, true, 0, none, [(0, 3, 1), (1, 35, 3)], .agg [.int .i64 0, .bool false, .nilsl, .nilsl], true, false, true, false, false, 0, false⟩
abbrev vAT : TI := ⟨6, 112, true, 0, none, [(0, 3, 1), (1, 25, 1), (2, 37, 4)], .agg [.int .i64 0, .nilsl, .nilsl, .bool false, .nilsl, .nilsl], true, false, true, false, false, 0, false⟩
abbrev vAU : TI := ⟨2, 32, true, 0, none, [(0, 22, 1), (1, 3, 1)], .agg [.nilsl, .int .i64 0], true, false, true, false, false, 0, false⟩
abbrev vAV : TI := ⟨2, 32, true, 0, none, [(0, 99, 1), (1, 64, 1)], .agg [.nilsl, .int .u64 0], true, false, true, false, false, 0, false⟩
abbrev vAW : TI := ⟨4, 40, true, 0, none, [(0, 17, 1), (1, 17, 1), (2, 17, 1), (3, 9, 1)], .agg [.any, .any, .any, .str ByteArray.empty], false, false, true, false, false, 0, false⟩
abbrev vAX : TI := ⟨0, 0, true, 0, none, [(0, 197, 0)], .agg [], true, false, true, false, false, 0, false⟩
abbrev vAY : TI := ⟨11, 48, true, 0, none, [(0, 12, 1), (1, 12, 1), (2, 84, 1), (3, 201, 1), (4, 5, 1), (5, 5, 1), (6, 202, 1), (7, 203, 1), (8, 204, 1), (9, 205, 1), (10, 206, 1)], .agg [.int .u64 0, .int .u64 0, .int .u32 0, .int .u8 0, .int .u8 0, .int .u8 0, .int .u8 0, .nilfunc, .any, .int .i32 0, .int .i32 0], false, false, true, false, false, 0, false⟩
def tab : List TI := [
 ⟨1, 0, false, 0, none, [], .tup [], false, false, false, false, false, 0, false⟩,vAA,vAB,vAB,⟨1, 1, false, 0, none, [], .bool false, true, false, false, true, false, 0, false⟩,vAC,vAC,vAD,vAD,vAE,vAE,vAE,vAF,vAG,vAG,vAH,vAH,vAH,vAI,vAI,⟨1, 16, false, 0, none, [], .any, false, false, false, false, false, 0, false⟩,vAJ,⟨1, 24, false, 5, none, [], .nilsl, true, true, false, false, false, 0, false⟩,⟨1, 24, false, 43, none, [], .nilsl, true, true, false, false, false, 0, false⟩,vAA,⟨1, 24, false, 37, none, [], .nilsl, true, true, false, false, false, 0, false⟩,vAK,vAK,⟨1, 24, false, 35, none, [], .nilsl, true, true, false, false, false, 0, false⟩,vAL,vAL,⟨1, 24, false, 94, none, [], .nilsl, true, true, false, false, false, 0, false⟩,vAM,vAM,vAN,vAN,vAO,vAO,vAP,vAP,vAA,vAA,vAA,⟨1, 1, false, 0, some .i8, [], .int .i8 0, true, false, false, false, false, 0, false⟩,vAA,vAA,vAB,vAQ,vAA,vAA,vAA,vAA,vAA,vAQ,vAA,vAA,vAA,vAQ,vAA,vAQ,vAA,vAA,vAA,vAA,vAF,vAA,vAA,vAA,vAA,vAA,vAA,vAA,vAA,vAH,vAA,vAR,vAR,vAA,vAA,vAQ,vAA,vAA,vAA,vAA,⟨1, 4, false, 0, some .u32, [], .int .u32 0, true, false, false, false, false, 0, false⟩,vAA,vAA,vAA,⟨1, 24, false, 28, none, [], .nilsl, true, true, false, false, false, 0, false⟩,vAQ,vAA,vAA,vAA,vAS,vAS,⟨1, 24, false, 99, none, [], .nilsl, true, true, false, false, false, 0, false⟩,vAA,vAQ,vAA,⟨1, 24, false, 3, none, [], .nilsl, true, true, false, false, false, 0, false⟩,vAQ,vAA,vAA,vAA,vAT,vAT,vAA,vAA,vAA,vAA,vAA,vAA,vAA,vAU,vAU,vAA,vAA,vAA,vAA,vAA,vAA,vAA,vAA,vAA,vAA,vAA,vAA,vAQ,vAA,vAA,vAQ,vAA,vAA,vAA,vAA,vAA,vAA,vAQ,vAA,⟨1, 24, false, 143, none, [], .nilsl, true, true, false, false, false, 0, false⟩,vAQ,vAA,vAV,vAV,⟨1, 24, false, 4, none, [], .nilsl, true, true, false, false, false, 0, false⟩,vAA,vAQ,vAA,vAA,vAA,vAA,vAA,vAF,vAQ,vAA,vAQ,vAA,vAA,vAA,vAA,vAQ,vAA,vAA,vAA,vAA,vAQ,vAA,vAA,vAA,vAA,vAA,vAA,vAA,vAA,⟨4, 32, true, 3, none, [], .agg [.int .i64 0, .int .i64 0, .int .i64 0, .int .i64 0], true, false, false, false, false, 4, false⟩,vAQ,vAA,vAA,vAA,vAA,vAA,vAA,vAA,vAQ,vAA,vAA,vAQ,vAA,vAA,vAA,vAA,vAA,vAQ,vAA,vAA,vAW,vAW,⟨0, 0, true, 16, none, [], .agg [], true, false, false, false, false, 0, false⟩,vAX,vAX,vAA,vAC,vAC,vAA,vAH,vAJ,vAJ,vAY,vAY,vAH]
theorem uKK : ∀ i x, nth tab i = some x → vA1 Tryz.prog i = x := uGF (by kernel_rfl)
abbrev T : Ti := nth tab
abbrev hT := uKK
end Go.PI.Tryz
