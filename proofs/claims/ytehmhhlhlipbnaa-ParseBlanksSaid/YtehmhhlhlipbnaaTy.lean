/-
  Sizes, zeros and fields of the types.
-/
import Derived.Test.YtehmhhlhlipbnaaProg
import Derived.Test.YtehmhhlhlipbnaaVj
import Derived.KernelRfl
set_option autoImplicit false
namespace Go.Proofs.Ytehmhhlhlipbnaa.Ty
open Go.VI
theorem csz3 : csz Try.prog 3 = some 1 := by kernel_rfl
theorem byt3 : byt Try.prog 3 = some 8 := by kernel_rfl
theorem agg3 : isAggB Try.prog 3 = some false := by kernel_rfl
theorem zero3 : zeroOf Try.prog 3 = some (.int .i64 (0)) := by kernel_rfl
theorem csz4 : csz Try.prog 4 = some 1 := by kernel_rfl
theorem agg4 : isAggB Try.prog 4 = some false := by kernel_rfl
theorem zero4 : zeroOf Try.prog 4 = some (.bool false) := by kernel_rfl
theorem csz5 : csz Try.prog 5 = some 1 := by kernel_rfl
theorem byt5 : byt Try.prog 5 = some 1 := by kernel_rfl
theorem agg5 : isAggB Try.prog 5 = some false := by kernel_rfl
theorem zero5 : zeroOf Try.prog 5 = some (.int .u8 (0)) := by kernel_rfl
theorem csz9 : csz Try.prog 9 = some 1 := by kernel_rfl
theorem byt9 : byt Try.prog 9 = some 16 := by kernel_rfl
theorem agg9 : isAggB Try.prog 9 = some false := by kernel_rfl
theorem zero9 : zeroOf Try.prog 9 = some (.str []) := by kernel_rfl
theorem agg22 : isAggB Try.prog 22 = some false := by kernel_rfl
theorem csz31 : csz Try.prog 31 = some 1 := by kernel_rfl
theorem agg31 : isAggB Try.prog 31 = some false := by kernel_rfl
theorem agg32 : isAggB Try.prog 32 = some false := by kernel_rfl
theorem csz34 : csz Try.prog 34 = some 2 := by kernel_rfl
theorem agg34 : isAggB Try.prog 34 = some true := by kernel_rfl
theorem zero34 : zeroOf Try.prog 34 = some (.agg [.int .i64 (0), .int .i64 (0)]) := by kernel_rfl
theorem pl34 : placesOf Try.prog 34 = some [(0, 1), (1, 1)] := by kernel_rfl
theorem fo34_1 : fieldOff Try.prog 34 1 = some 1 := by kernel_rfl
theorem agg39 : isAggB Try.prog 39 = some false := by kernel_rfl
theorem agg43 : isAggB Try.prog 43 = some false := by kernel_rfl
theorem csz47 : csz Try.prog 47 = some 4 := by kernel_rfl
theorem byt47 : byt Try.prog 47 = some 32 := by kernel_rfl
theorem agg47 : isAggB Try.prog 47 = some true := by kernel_rfl
theorem zero47 : zeroOf Try.prog 47 = some (.agg [.int .i64 (0), .int .i64 (0), .int .i64 (0), .int .i64 (0)]) := by kernel_rfl
theorem pl47 : placesOf Try.prog 47 = some [(0, 1), (1, 1), (2, 1), (3, 1)] := by kernel_rfl
theorem fo47_0 : fieldOff Try.prog 47 0 = some 0 := by kernel_rfl
theorem fo47_1 : fieldOff Try.prog 47 1 = some 1 := by kernel_rfl
theorem fo47_2 : fieldOff Try.prog 47 2 = some 2 := by kernel_rfl
theorem fo47_3 : fieldOff Try.prog 47 3 = some 3 := by kernel_rfl
theorem csz51 : csz Try.prog 51 = some 5 := by kernel_rfl
theorem byt51 : byt Try.prog 51 = some 64 := by kernel_rfl
theorem agg51 : isAggB Try.prog 51 = some true := by kernel_rfl
theorem zero51 : zeroOf Try.prog 51 = some (.agg [.int .i64 (0), .int .i64 (0), .nils, .str [], .int .i64 (0)]) := by kernel_rfl
theorem pl51 : placesOf Try.prog 51 = some [(0, 1), (1, 1), (2, 1), (3, 1), (4, 1)] := by kernel_rfl
theorem fo51_0 : fieldOff Try.prog 51 0 = some 0 := by kernel_rfl
theorem fo51_1 : fieldOff Try.prog 51 1 = some 1 := by kernel_rfl
theorem fo51_2 : fieldOff Try.prog 51 2 = some 2 := by kernel_rfl
theorem fo51_3 : fieldOff Try.prog 51 3 = some 3 := by kernel_rfl
theorem fo51_4 : fieldOff Try.prog 51 4 = some 4 := by kernel_rfl
theorem zero58 : zeroOf Try.prog 58 = some (.agg [.nils, .nils, .int .i64 (0), .nils]) := by kernel_rfl
theorem pl58 : placesOf Try.prog 58 = some [(0, 1), (1, 1), (2, 1), (3, 1)] := by kernel_rfl
theorem fo58_0 : fieldOff Try.prog 58 0 = some 0 := by kernel_rfl
theorem fo58_1 : fieldOff Try.prog 58 1 = some 1 := by kernel_rfl
theorem fo58_2 : fieldOff Try.prog 58 2 = some 2 := by kernel_rfl
theorem fo58_3 : fieldOff Try.prog 58 3 = some 3 := by kernel_rfl
theorem csz69 : csz Try.prog 69 = some 1 := by kernel_rfl
theorem zero69 : zeroOf Try.prog 69 = some (.agg [.int .i64 (0)]) := by kernel_rfl
theorem pl69 : placesOf Try.prog 69 = some [(0, 1)] := by kernel_rfl
theorem fo69_0 : fieldOff Try.prog 69 0 = some 0 := by kernel_rfl
theorem csz93 : csz Try.prog 93 = some 2 := by kernel_rfl
theorem agg93 : isAggB Try.prog 93 = some true := by kernel_rfl
theorem zero93 : zeroOf Try.prog 93 = some (.agg [.str [], .int .i64 (0)]) := by kernel_rfl
theorem pl93 : placesOf Try.prog 93 = some [(0, 1), (1, 1)] := by kernel_rfl
theorem fo93_0 : fieldOff Try.prog 93 0 = some 0 := by kernel_rfl
theorem fo93_1 : fieldOff Try.prog 93 1 = some 1 := by kernel_rfl
end Go.Proofs.Ytehmhhlhlipbnaa.Ty
