/-
  Sizes, zeros and fields of the types.
-/
import Derived.Test.YtpdphdbphhaekaaDoorProg
import Derived.Test.YtpdphdbphhaekaaDoorVj
import Derived.KernelRfl
set_option autoImplicit false
namespace Go.Proofs.YtpdphdbphhaekaaDoor.Ty
open Go.VI
theorem csz0 : csz Tryd.prog 0 = some 1 := by kernel_rfl
theorem byt0 : byt Tryd.prog 0 = some 0 := by kernel_rfl
theorem agg0 : isAggB Tryd.prog 0 = some false := by kernel_rfl
theorem zero0 : zeroOf Tryd.prog 0 = some (.tup []) := by kernel_rfl
theorem csz1 : csz Tryd.prog 1 = some 1 := by kernel_rfl
theorem byt1 : byt Tryd.prog 1 = some 8 := by kernel_rfl
theorem agg1 : isAggB Tryd.prog 1 = some false := by kernel_rfl
theorem zero1 : zeroOf Tryd.prog 1 = some (.nilf) := by kernel_rfl
theorem csz2 : csz Tryd.prog 2 = some 1 := by kernel_rfl
theorem byt2 : byt Tryd.prog 2 = some 8 := by kernel_rfl
theorem agg2 : isAggB Tryd.prog 2 = some false := by kernel_rfl
theorem zero2 : zeroOf Tryd.prog 2 = some (.int .i64 (0)) := by kernel_rfl
theorem csz3 : csz Tryd.prog 3 = some 1 := by kernel_rfl
theorem byt3 : byt Tryd.prog 3 = some 8 := by kernel_rfl
theorem agg3 : isAggB Tryd.prog 3 = some false := by kernel_rfl
theorem zero3 : zeroOf Tryd.prog 3 = some (.int .i64 (0)) := by kernel_rfl
theorem csz4 : csz Tryd.prog 4 = some 1 := by kernel_rfl
theorem byt4 : byt Tryd.prog 4 = some 1 := by kernel_rfl
theorem agg4 : isAggB Tryd.prog 4 = some false := by kernel_rfl
theorem zero4 : zeroOf Tryd.prog 4 = some (.bool false) := by kernel_rfl
theorem csz5 : csz Tryd.prog 5 = some 1 := by kernel_rfl
theorem byt5 : byt Tryd.prog 5 = some 1 := by kernel_rfl
theorem agg5 : isAggB Tryd.prog 5 = some false := by kernel_rfl
theorem zero5 : zeroOf Tryd.prog 5 = some (.int .u8 (0)) := by kernel_rfl
theorem csz6 : csz Tryd.prog 6 = some 1 := by kernel_rfl
theorem byt6 : byt Tryd.prog 6 = some 1 := by kernel_rfl
theorem agg6 : isAggB Tryd.prog 6 = some false := by kernel_rfl
theorem zero6 : zeroOf Tryd.prog 6 = some (.int .u8 (0)) := by kernel_rfl
theorem csz7 : csz Tryd.prog 7 = some 4 := by kernel_rfl
theorem byt7 : byt Tryd.prog 7 = some 24 := by kernel_rfl
theorem agg7 : isAggB Tryd.prog 7 = some true := by kernel_rfl
theorem zero7 : zeroOf Tryd.prog 7 = some (.agg [.int .i64 (0), .int .i64 (0), .bool false, .int .u8 (0)]) := by kernel_rfl
theorem pl7 : placesOf Tryd.prog 7 = some [(0, 1), (1, 1), (2, 1), (3, 1)] := by kernel_rfl
theorem fo7_0 : fieldOff Tryd.prog 7 0 = some 0 := by kernel_rfl
theorem fo7_1 : fieldOff Tryd.prog 7 1 = some 1 := by kernel_rfl
theorem fo7_2 : fieldOff Tryd.prog 7 2 = some 2 := by kernel_rfl
theorem fo7_3 : fieldOff Tryd.prog 7 3 = some 3 := by kernel_rfl
theorem csz8 : csz Tryd.prog 8 = some 4 := by kernel_rfl
theorem byt8 : byt Tryd.prog 8 = some 24 := by kernel_rfl
theorem agg8 : isAggB Tryd.prog 8 = some true := by kernel_rfl
theorem zero8 : zeroOf Tryd.prog 8 = some (.agg [.int .i64 (0), .int .i64 (0), .bool false, .int .u8 (0)]) := by kernel_rfl
theorem pl8 : placesOf Tryd.prog 8 = some [(0, 1), (1, 1), (2, 1), (3, 1)] := by kernel_rfl
theorem fo8_0 : fieldOff Tryd.prog 8 0 = some 0 := by kernel_rfl
theorem fo8_1 : fieldOff Tryd.prog 8 1 = some 1 := by kernel_rfl
theorem fo8_2 : fieldOff Tryd.prog 8 2 = some 2 := by kernel_rfl
theorem fo8_3 : fieldOff Tryd.prog 8 3 = some 3 := by kernel_rfl
theorem csz9 : csz Tryd.prog 9 = some 1 := by kernel_rfl
theorem byt9 : byt Tryd.prog 9 = some 16 := by kernel_rfl
theorem agg9 : isAggB Tryd.prog 9 = some false := by kernel_rfl
theorem zero9 : zeroOf Tryd.prog 9 = some (.str []) := by kernel_rfl
theorem csz10 : csz Tryd.prog 10 = some 1 := by kernel_rfl
theorem byt10 : byt Tryd.prog 10 = some 16 := by kernel_rfl
theorem agg10 : isAggB Tryd.prog 10 = some false := by kernel_rfl
theorem zero10 : zeroOf Tryd.prog 10 = some (.str []) := by kernel_rfl
theorem csz11 : csz Tryd.prog 11 = some 1 := by kernel_rfl
theorem byt11 : byt Tryd.prog 11 = some 16 := by kernel_rfl
theorem agg11 : isAggB Tryd.prog 11 = some false := by kernel_rfl
theorem zero11 : zeroOf Tryd.prog 11 = some (.str []) := by kernel_rfl
theorem csz12 : csz Tryd.prog 12 = some 1 := by kernel_rfl
theorem byt12 : byt Tryd.prog 12 = some 8 := by kernel_rfl
theorem agg12 : isAggB Tryd.prog 12 = some false := by kernel_rfl
theorem zero12 : zeroOf Tryd.prog 12 = some (.int .u64 (0)) := by kernel_rfl
theorem csz13 : csz Tryd.prog 13 = some 2 := by kernel_rfl
theorem byt13 : byt Tryd.prog 13 = some 24 := by kernel_rfl
theorem agg13 : isAggB Tryd.prog 13 = some true := by kernel_rfl
theorem zero13 : zeroOf Tryd.prog 13 = some (.agg [.str [], .int .u64 (0)]) := by kernel_rfl
theorem pl13 : placesOf Tryd.prog 13 = some [(0, 1), (1, 1)] := by kernel_rfl
theorem fo13_0 : fieldOff Tryd.prog 13 0 = some 0 := by kernel_rfl
theorem fo13_1 : fieldOff Tryd.prog 13 1 = some 1 := by kernel_rfl
theorem csz14 : csz Tryd.prog 14 = some 2 := by kernel_rfl
theorem byt14 : byt Tryd.prog 14 = some 24 := by kernel_rfl
theorem agg14 : isAggB Tryd.prog 14 = some true := by kernel_rfl
theorem zero14 : zeroOf Tryd.prog 14 = some (.agg [.str [], .int .u64 (0)]) := by kernel_rfl
theorem pl14 : placesOf Tryd.prog 14 = some [(0, 1), (1, 1)] := by kernel_rfl
theorem fo14_0 : fieldOff Tryd.prog 14 0 = some 0 := by kernel_rfl
theorem fo14_1 : fieldOff Tryd.prog 14 1 = some 1 := by kernel_rfl
theorem csz15 : csz Tryd.prog 15 = some 1 := by kernel_rfl
theorem byt15 : byt Tryd.prog 15 = some 8 := by kernel_rfl
theorem agg15 : isAggB Tryd.prog 15 = some false := by kernel_rfl
theorem zero15 : zeroOf Tryd.prog 15 = some (.nilp) := by kernel_rfl
theorem csz16 : csz Tryd.prog 16 = some 1 := by kernel_rfl
theorem byt16 : byt Tryd.prog 16 = some 8 := by kernel_rfl
theorem agg16 : isAggB Tryd.prog 16 = some false := by kernel_rfl
theorem zero16 : zeroOf Tryd.prog 16 = some (.nilp) := by kernel_rfl
theorem csz17 : csz Tryd.prog 17 = some 1 := by kernel_rfl
theorem byt17 : byt Tryd.prog 17 = some 8 := by kernel_rfl
theorem agg17 : isAggB Tryd.prog 17 = some false := by kernel_rfl
theorem zero17 : zeroOf Tryd.prog 17 = some (.nilp) := by kernel_rfl
theorem csz18 : csz Tryd.prog 18 = some 1 := by kernel_rfl
theorem byt18 : byt Tryd.prog 18 = some 8 := by kernel_rfl
theorem agg18 : isAggB Tryd.prog 18 = some true := by kernel_rfl
theorem zero18 : zeroOf Tryd.prog 18 = some (.agg [.nilp]) := by kernel_rfl
theorem pl18 : placesOf Tryd.prog 18 = some [(0, 1)] := by kernel_rfl
theorem fo18_0 : fieldOff Tryd.prog 18 0 = some 0 := by kernel_rfl
theorem csz19 : csz Tryd.prog 19 = some 1 := by kernel_rfl
theorem byt19 : byt Tryd.prog 19 = some 8 := by kernel_rfl
theorem agg19 : isAggB Tryd.prog 19 = some true := by kernel_rfl
theorem zero19 : zeroOf Tryd.prog 19 = some (.agg [.nilp]) := by kernel_rfl
theorem pl19 : placesOf Tryd.prog 19 = some [(0, 1)] := by kernel_rfl
theorem fo19_0 : fieldOff Tryd.prog 19 0 = some 0 := by kernel_rfl
theorem csz20 : csz Tryd.prog 20 = some 1 := by kernel_rfl
theorem byt20 : byt Tryd.prog 20 = some 16 := by kernel_rfl
theorem agg20 : isAggB Tryd.prog 20 = some false := by kernel_rfl
theorem zero20 : zeroOf Tryd.prog 20 = some (.nili) := by kernel_rfl
theorem csz21 : csz Tryd.prog 21 = some 1 := by kernel_rfl
theorem byt21 : byt Tryd.prog 21 = some 4 := by kernel_rfl
theorem agg21 : isAggB Tryd.prog 21 = some false := by kernel_rfl
theorem zero21 : zeroOf Tryd.prog 21 = some (.int .i32 (0)) := by kernel_rfl
theorem csz22 : csz Tryd.prog 22 = some 1 := by kernel_rfl
theorem byt22 : byt Tryd.prog 22 = some 24 := by kernel_rfl
theorem agg22 : isAggB Tryd.prog 22 = some false := by kernel_rfl
theorem zero22 : zeroOf Tryd.prog 22 = some (.nils) := by kernel_rfl
theorem csz23 : csz Tryd.prog 23 = some 5 := by kernel_rfl
theorem byt23 : byt Tryd.prog 23 = some 64 := by kernel_rfl
theorem agg23 : isAggB Tryd.prog 23 = some true := by kernel_rfl
theorem zero23 : zeroOf Tryd.prog 23 = some (.agg [.int .i64 (0), .int .i64 (0), .nils, .str [], .int .i64 (0)]) := by kernel_rfl
theorem pl23 : placesOf Tryd.prog 23 = some [(0, 1), (1, 1), (2, 1), (3, 1), (4, 1)] := by kernel_rfl
theorem fo23_0 : fieldOff Tryd.prog 23 0 = some 0 := by kernel_rfl
theorem fo23_1 : fieldOff Tryd.prog 23 1 = some 1 := by kernel_rfl
theorem fo23_2 : fieldOff Tryd.prog 23 2 = some 2 := by kernel_rfl
theorem fo23_3 : fieldOff Tryd.prog 23 3 = some 3 := by kernel_rfl
theorem fo23_4 : fieldOff Tryd.prog 23 4 = some 4 := by kernel_rfl
theorem csz24 : csz Tryd.prog 24 = some 5 := by kernel_rfl
theorem byt24 : byt Tryd.prog 24 = some 64 := by kernel_rfl
theorem agg24 : isAggB Tryd.prog 24 = some true := by kernel_rfl
theorem zero24 : zeroOf Tryd.prog 24 = some (.agg [.int .i64 (0), .int .i64 (0), .nils, .str [], .int .i64 (0)]) := by kernel_rfl
theorem pl24 : placesOf Tryd.prog 24 = some [(0, 1), (1, 1), (2, 1), (3, 1), (4, 1)] := by kernel_rfl
theorem fo24_0 : fieldOff Tryd.prog 24 0 = some 0 := by kernel_rfl
theorem fo24_1 : fieldOff Tryd.prog 24 1 = some 1 := by kernel_rfl
theorem fo24_2 : fieldOff Tryd.prog 24 2 = some 2 := by kernel_rfl
theorem fo24_3 : fieldOff Tryd.prog 24 3 = some 3 := by kernel_rfl
theorem fo24_4 : fieldOff Tryd.prog 24 4 = some 4 := by kernel_rfl
theorem csz25 : csz Tryd.prog 25 = some 1 := by kernel_rfl
theorem byt25 : byt Tryd.prog 25 = some 8 := by kernel_rfl
theorem agg25 : isAggB Tryd.prog 25 = some false := by kernel_rfl
theorem zero25 : zeroOf Tryd.prog 25 = some (.nilf) := by kernel_rfl
theorem csz26 : csz Tryd.prog 26 = some 1 := by kernel_rfl
theorem byt26 : byt Tryd.prog 26 = some 8 := by kernel_rfl
theorem agg26 : isAggB Tryd.prog 26 = some false := by kernel_rfl
theorem zero26 : zeroOf Tryd.prog 26 = some (.nilf) := by kernel_rfl
theorem csz27 : csz Tryd.prog 27 = some 1 := by kernel_rfl
theorem byt27 : byt Tryd.prog 27 = some 8 := by kernel_rfl
theorem agg27 : isAggB Tryd.prog 27 = some false := by kernel_rfl
theorem zero27 : zeroOf Tryd.prog 27 = some (.nilf) := by kernel_rfl
theorem csz28 : csz Tryd.prog 28 = some 1 := by kernel_rfl
theorem byt28 : byt Tryd.prog 28 = some 24 := by kernel_rfl
theorem agg28 : isAggB Tryd.prog 28 = some false := by kernel_rfl
theorem zero28 : zeroOf Tryd.prog 28 = some (.nils) := by kernel_rfl
theorem csz29 : csz Tryd.prog 29 = some 1 := by kernel_rfl
theorem byt29 : byt Tryd.prog 29 = some 8 := by kernel_rfl
theorem agg29 : isAggB Tryd.prog 29 = some false := by kernel_rfl
theorem zero29 : zeroOf Tryd.prog 29 = some (.nilf) := by kernel_rfl
theorem csz30 : csz Tryd.prog 30 = some 1 := by kernel_rfl
theorem byt30 : byt Tryd.prog 30 = some 8 := by kernel_rfl
theorem agg30 : isAggB Tryd.prog 30 = some false := by kernel_rfl
theorem zero30 : zeroOf Tryd.prog 30 = some (.int .i64 (0)) := by kernel_rfl
theorem csz31 : csz Tryd.prog 31 = some 1 := by kernel_rfl
theorem byt31 : byt Tryd.prog 31 = some 0 := by kernel_rfl
theorem agg31 : isAggB Tryd.prog 31 = some false := by kernel_rfl
theorem zero31 : zeroOf Tryd.prog 31 = some (.tup [.str [], .int .i64 (0)]) := by kernel_rfl
theorem csz32 : csz Tryd.prog 32 = some 1 := by kernel_rfl
theorem byt32 : byt Tryd.prog 32 = some 8 := by kernel_rfl
theorem agg32 : isAggB Tryd.prog 32 = some false := by kernel_rfl
theorem zero32 : zeroOf Tryd.prog 32 = some (.nilf) := by kernel_rfl
theorem csz33 : csz Tryd.prog 33 = some 1 := by kernel_rfl
theorem byt33 : byt Tryd.prog 33 = some 8 := by kernel_rfl
theorem agg33 : isAggB Tryd.prog 33 = some false := by kernel_rfl
theorem zero33 : zeroOf Tryd.prog 33 = some (.nilf) := by kernel_rfl
theorem csz34 : csz Tryd.prog 34 = some 1 := by kernel_rfl
theorem byt34 : byt Tryd.prog 34 = some 8 := by kernel_rfl
theorem agg34 : isAggB Tryd.prog 34 = some false := by kernel_rfl
theorem zero34 : zeroOf Tryd.prog 34 = some (.nilf) := by kernel_rfl
theorem csz35 : csz Tryd.prog 35 = some 1 := by kernel_rfl
theorem byt35 : byt Tryd.prog 35 = some 0 := by kernel_rfl
theorem agg35 : isAggB Tryd.prog 35 = some false := by kernel_rfl
theorem zero35 : zeroOf Tryd.prog 35 = some (.tup [.int .i64 (0), .int .i64 (0)]) := by kernel_rfl
theorem csz36 : csz Tryd.prog 36 = some 1 := by kernel_rfl
theorem byt36 : byt Tryd.prog 36 = some 8 := by kernel_rfl
theorem agg36 : isAggB Tryd.prog 36 = some false := by kernel_rfl
theorem zero36 : zeroOf Tryd.prog 36 = some (.nilf) := by kernel_rfl
theorem csz37 : csz Tryd.prog 37 = some 1 := by kernel_rfl
theorem byt37 : byt Tryd.prog 37 = some 8 := by kernel_rfl
theorem agg37 : isAggB Tryd.prog 37 = some false := by kernel_rfl
theorem zero37 : zeroOf Tryd.prog 37 = some (.nilf) := by kernel_rfl
theorem csz38 : csz Tryd.prog 38 = some 1 := by kernel_rfl
theorem byt38 : byt Tryd.prog 38 = some 24 := by kernel_rfl
theorem agg38 : isAggB Tryd.prog 38 = some false := by kernel_rfl
theorem zero38 : zeroOf Tryd.prog 38 = some (.nils) := by kernel_rfl
theorem csz39 : csz Tryd.prog 39 = some 1 := by kernel_rfl
theorem byt39 : byt Tryd.prog 39 = some 24 := by kernel_rfl
theorem agg39 : isAggB Tryd.prog 39 = some false := by kernel_rfl
theorem zero39 : zeroOf Tryd.prog 39 = some (.nils) := by kernel_rfl
theorem csz40 : csz Tryd.prog 40 = some 2 := by kernel_rfl
theorem byt40 : byt Tryd.prog 40 = some 16 := by kernel_rfl
theorem agg40 : isAggB Tryd.prog 40 = some true := by kernel_rfl
theorem zero40 : zeroOf Tryd.prog 40 = some (.agg [.int .i64 (0), .int .i64 (0)]) := by kernel_rfl
theorem pl40 : placesOf Tryd.prog 40 = some [(0, 1), (1, 1)] := by kernel_rfl
theorem fo40_0 : fieldOff Tryd.prog 40 0 = some 0 := by kernel_rfl
theorem fo40_1 : fieldOff Tryd.prog 40 1 = some 1 := by kernel_rfl
theorem csz41 : csz Tryd.prog 41 = some 2 := by kernel_rfl
theorem byt41 : byt Tryd.prog 41 = some 16 := by kernel_rfl
theorem agg41 : isAggB Tryd.prog 41 = some true := by kernel_rfl
theorem zero41 : zeroOf Tryd.prog 41 = some (.agg [.int .i64 (0), .int .i64 (0)]) := by kernel_rfl
theorem pl41 : placesOf Tryd.prog 41 = some [(0, 1), (1, 1)] := by kernel_rfl
theorem fo41_0 : fieldOff Tryd.prog 41 0 = some 0 := by kernel_rfl
theorem fo41_1 : fieldOff Tryd.prog 41 1 = some 1 := by kernel_rfl
theorem csz42 : csz Tryd.prog 42 = some 1 := by kernel_rfl
theorem byt42 : byt Tryd.prog 42 = some 0 := by kernel_rfl
theorem agg42 : isAggB Tryd.prog 42 = some false := by kernel_rfl
theorem csz43 : csz Tryd.prog 43 = some 1 := by kernel_rfl
theorem byt43 : byt Tryd.prog 43 = some 8 := by kernel_rfl
theorem agg43 : isAggB Tryd.prog 43 = some false := by kernel_rfl
theorem zero43 : zeroOf Tryd.prog 43 = some (.nilf) := by kernel_rfl
theorem csz44 : csz Tryd.prog 44 = some 1 := by kernel_rfl
theorem byt44 : byt Tryd.prog 44 = some 24 := by kernel_rfl
theorem agg44 : isAggB Tryd.prog 44 = some false := by kernel_rfl
theorem zero44 : zeroOf Tryd.prog 44 = some (.nils) := by kernel_rfl
theorem csz45 : csz Tryd.prog 45 = some 4 := by kernel_rfl
theorem byt45 : byt Tryd.prog 45 = some 32 := by kernel_rfl
theorem agg45 : isAggB Tryd.prog 45 = some true := by kernel_rfl
theorem zero45 : zeroOf Tryd.prog 45 = some (.agg [.int .i64 (0), .int .i64 (0), .int .i64 (0), .int .i64 (0)]) := by kernel_rfl
theorem pl45 : placesOf Tryd.prog 45 = some [(0, 1), (1, 1), (2, 1), (3, 1)] := by kernel_rfl
theorem fo45_0 : fieldOff Tryd.prog 45 0 = some 0 := by kernel_rfl
theorem fo45_1 : fieldOff Tryd.prog 45 1 = some 1 := by kernel_rfl
theorem fo45_2 : fieldOff Tryd.prog 45 2 = some 2 := by kernel_rfl
theorem fo45_3 : fieldOff Tryd.prog 45 3 = some 3 := by kernel_rfl
theorem csz46 : csz Tryd.prog 46 = some 4 := by kernel_rfl
theorem byt46 : byt Tryd.prog 46 = some 32 := by kernel_rfl
theorem agg46 : isAggB Tryd.prog 46 = some true := by kernel_rfl
theorem zero46 : zeroOf Tryd.prog 46 = some (.agg [.int .i64 (0), .int .i64 (0), .int .i64 (0), .int .i64 (0)]) := by kernel_rfl
theorem pl46 : placesOf Tryd.prog 46 = some [(0, 1), (1, 1), (2, 1), (3, 1)] := by kernel_rfl
theorem fo46_0 : fieldOff Tryd.prog 46 0 = some 0 := by kernel_rfl
theorem fo46_1 : fieldOff Tryd.prog 46 1 = some 1 := by kernel_rfl
theorem fo46_2 : fieldOff Tryd.prog 46 2 = some 2 := by kernel_rfl
theorem fo46_3 : fieldOff Tryd.prog 46 3 = some 3 := by kernel_rfl
theorem csz47 : csz Tryd.prog 47 = some 1 := by kernel_rfl
theorem byt47 : byt Tryd.prog 47 = some 8 := by kernel_rfl
theorem agg47 : isAggB Tryd.prog 47 = some false := by kernel_rfl
theorem zero47 : zeroOf Tryd.prog 47 = some (.nilf) := by kernel_rfl
theorem csz48 : csz Tryd.prog 48 = some 1 := by kernel_rfl
theorem byt48 : byt Tryd.prog 48 = some 8 := by kernel_rfl
theorem agg48 : isAggB Tryd.prog 48 = some false := by kernel_rfl
theorem zero48 : zeroOf Tryd.prog 48 = some (.nilf) := by kernel_rfl
theorem csz49 : csz Tryd.prog 49 = some 1 := by kernel_rfl
theorem byt49 : byt Tryd.prog 49 = some 8 := by kernel_rfl
theorem agg49 : isAggB Tryd.prog 49 = some false := by kernel_rfl
theorem zero49 : zeroOf Tryd.prog 49 = some (.nilf) := by kernel_rfl
theorem csz50 : csz Tryd.prog 50 = some 1 := by kernel_rfl
theorem byt50 : byt Tryd.prog 50 = some 8 := by kernel_rfl
theorem agg50 : isAggB Tryd.prog 50 = some false := by kernel_rfl
theorem zero50 : zeroOf Tryd.prog 50 = some (.nilf) := by kernel_rfl
theorem csz51 : csz Tryd.prog 51 = some 1 := by kernel_rfl
theorem byt51 : byt Tryd.prog 51 = some 8 := by kernel_rfl
theorem agg51 : isAggB Tryd.prog 51 = some false := by kernel_rfl
theorem zero51 : zeroOf Tryd.prog 51 = some (.nilp) := by kernel_rfl
theorem csz52 : csz Tryd.prog 52 = some 1 := by kernel_rfl
theorem byt52 : byt Tryd.prog 52 = some 24 := by kernel_rfl
theorem agg52 : isAggB Tryd.prog 52 = some false := by kernel_rfl
theorem zero52 : zeroOf Tryd.prog 52 = some (.nils) := by kernel_rfl
theorem csz53 : csz Tryd.prog 53 = some 2 := by kernel_rfl
theorem byt53 : byt Tryd.prog 53 = some 48 := by kernel_rfl
theorem agg53 : isAggB Tryd.prog 53 = some true := by kernel_rfl
theorem zero53 : zeroOf Tryd.prog 53 = some (.agg [.nils, .nils]) := by kernel_rfl
theorem pl53 : placesOf Tryd.prog 53 = some [(0, 1), (1, 1)] := by kernel_rfl
theorem fo53_0 : fieldOff Tryd.prog 53 0 = some 0 := by kernel_rfl
theorem fo53_1 : fieldOff Tryd.prog 53 1 = some 1 := by kernel_rfl
theorem csz54 : csz Tryd.prog 54 = some 2 := by kernel_rfl
theorem byt54 : byt Tryd.prog 54 = some 48 := by kernel_rfl
theorem agg54 : isAggB Tryd.prog 54 = some true := by kernel_rfl
theorem zero54 : zeroOf Tryd.prog 54 = some (.agg [.nils, .nils]) := by kernel_rfl
theorem pl54 : placesOf Tryd.prog 54 = some [(0, 1), (1, 1)] := by kernel_rfl
theorem fo54_0 : fieldOff Tryd.prog 54 0 = some 0 := by kernel_rfl
theorem fo54_1 : fieldOff Tryd.prog 54 1 = some 1 := by kernel_rfl
theorem csz55 : csz Tryd.prog 55 = some 1 := by kernel_rfl
theorem byt55 : byt Tryd.prog 55 = some 8 := by kernel_rfl
theorem agg55 : isAggB Tryd.prog 55 = some false := by kernel_rfl
theorem zero55 : zeroOf Tryd.prog 55 = some (.nilf) := by kernel_rfl
theorem csz56 : csz Tryd.prog 56 = some 1 := by kernel_rfl
theorem byt56 : byt Tryd.prog 56 = some 8 := by kernel_rfl
theorem agg56 : isAggB Tryd.prog 56 = some false := by kernel_rfl
theorem zero56 : zeroOf Tryd.prog 56 = some (.nilf) := by kernel_rfl
theorem csz57 : csz Tryd.prog 57 = some 1 := by kernel_rfl
theorem byt57 : byt Tryd.prog 57 = some 8 := by kernel_rfl
theorem agg57 : isAggB Tryd.prog 57 = some false := by kernel_rfl
theorem zero57 : zeroOf Tryd.prog 57 = some (.nilf) := by kernel_rfl
theorem csz58 : csz Tryd.prog 58 = some 1 := by kernel_rfl
theorem byt58 : byt Tryd.prog 58 = some 8 := by kernel_rfl
theorem agg58 : isAggB Tryd.prog 58 = some false := by kernel_rfl
theorem zero58 : zeroOf Tryd.prog 58 = some (.nilf) := by kernel_rfl
theorem csz59 : csz Tryd.prog 59 = some 1 := by kernel_rfl
theorem byt59 : byt Tryd.prog 59 = some 8 := by kernel_rfl
theorem agg59 : isAggB Tryd.prog 59 = some false := by kernel_rfl
theorem zero59 : zeroOf Tryd.prog 59 = some (.nilf) := by kernel_rfl
theorem csz60 : csz Tryd.prog 60 = some 1 := by kernel_rfl
theorem byt60 : byt Tryd.prog 60 = some 8 := by kernel_rfl
theorem agg60 : isAggB Tryd.prog 60 = some false := by kernel_rfl
theorem zero60 : zeroOf Tryd.prog 60 = some (.nilf) := by kernel_rfl
theorem csz61 : csz Tryd.prog 61 = some 1 := by kernel_rfl
theorem byt61 : byt Tryd.prog 61 = some 8 := by kernel_rfl
theorem agg61 : isAggB Tryd.prog 61 = some false := by kernel_rfl
theorem zero61 : zeroOf Tryd.prog 61 = some (.nilf) := by kernel_rfl
theorem csz62 : csz Tryd.prog 62 = some 1 := by kernel_rfl
theorem byt62 : byt Tryd.prog 62 = some 0 := by kernel_rfl
theorem agg62 : isAggB Tryd.prog 62 = some false := by kernel_rfl
theorem csz63 : csz Tryd.prog 63 = some 1 := by kernel_rfl
theorem byt63 : byt Tryd.prog 63 = some 8 := by kernel_rfl
theorem agg63 : isAggB Tryd.prog 63 = some false := by kernel_rfl
theorem zero63 : zeroOf Tryd.prog 63 = some (.nilf) := by kernel_rfl
theorem csz64 : csz Tryd.prog 64 = some 1 := by kernel_rfl
theorem byt64 : byt Tryd.prog 64 = some 8 := by kernel_rfl
theorem agg64 : isAggB Tryd.prog 64 = some false := by kernel_rfl
theorem zero64 : zeroOf Tryd.prog 64 = some (.nilf) := by kernel_rfl
theorem csz65 : csz Tryd.prog 65 = some 1 := by kernel_rfl
theorem byt65 : byt Tryd.prog 65 = some 8 := by kernel_rfl
theorem agg65 : isAggB Tryd.prog 65 = some false := by kernel_rfl
theorem zero65 : zeroOf Tryd.prog 65 = some (.nilp) := by kernel_rfl
theorem csz66 : csz Tryd.prog 66 = some 2 := by kernel_rfl
theorem byt66 : byt Tryd.prog 66 = some 32 := by kernel_rfl
theorem agg66 : isAggB Tryd.prog 66 = some true := by kernel_rfl
theorem zero66 : zeroOf Tryd.prog 66 = some (.agg [.nilp, .nils]) := by kernel_rfl
theorem pl66 : placesOf Tryd.prog 66 = some [(0, 1), (1, 1)] := by kernel_rfl
theorem fo66_0 : fieldOff Tryd.prog 66 0 = some 0 := by kernel_rfl
theorem fo66_1 : fieldOff Tryd.prog 66 1 = some 1 := by kernel_rfl
theorem csz67 : csz Tryd.prog 67 = some 2 := by kernel_rfl
theorem byt67 : byt Tryd.prog 67 = some 32 := by kernel_rfl
theorem agg67 : isAggB Tryd.prog 67 = some true := by kernel_rfl
theorem zero67 : zeroOf Tryd.prog 67 = some (.agg [.nilp, .nils]) := by kernel_rfl
theorem pl67 : placesOf Tryd.prog 67 = some [(0, 1), (1, 1)] := by kernel_rfl
theorem fo67_0 : fieldOff Tryd.prog 67 0 = some 0 := by kernel_rfl
theorem fo67_1 : fieldOff Tryd.prog 67 1 = some 1 := by kernel_rfl
theorem csz68 : csz Tryd.prog 68 = some 1 := by kernel_rfl
theorem byt68 : byt Tryd.prog 68 = some 16 := by kernel_rfl
theorem agg68 : isAggB Tryd.prog 68 = some false := by kernel_rfl
theorem zero68 : zeroOf Tryd.prog 68 = some (.nili) := by kernel_rfl
theorem csz69 : csz Tryd.prog 69 = some 1 := by kernel_rfl
theorem byt69 : byt Tryd.prog 69 = some 16 := by kernel_rfl
theorem agg69 : isAggB Tryd.prog 69 = some false := by kernel_rfl
theorem zero69 : zeroOf Tryd.prog 69 = some (.nili) := by kernel_rfl
theorem csz70 : csz Tryd.prog 70 = some 1 := by kernel_rfl
theorem byt70 : byt Tryd.prog 70 = some 0 := by kernel_rfl
theorem agg70 : isAggB Tryd.prog 70 = some false := by kernel_rfl
theorem zero70 : zeroOf Tryd.prog 70 = some (.tup [.int .i64 (0), .nili]) := by kernel_rfl
theorem csz71 : csz Tryd.prog 71 = some 1 := by kernel_rfl
theorem byt71 : byt Tryd.prog 71 = some 8 := by kernel_rfl
theorem agg71 : isAggB Tryd.prog 71 = some false := by kernel_rfl
theorem zero71 : zeroOf Tryd.prog 71 = some (.nilf) := by kernel_rfl
theorem csz72 : csz Tryd.prog 72 = some 1 := by kernel_rfl
theorem byt72 : byt Tryd.prog 72 = some 8 := by kernel_rfl
theorem agg72 : isAggB Tryd.prog 72 = some false := by kernel_rfl
theorem zero72 : zeroOf Tryd.prog 72 = some (.nilf) := by kernel_rfl
theorem csz73 : csz Tryd.prog 73 = some 1 := by kernel_rfl
theorem byt73 : byt Tryd.prog 73 = some 8 := by kernel_rfl
theorem agg73 : isAggB Tryd.prog 73 = some false := by kernel_rfl
theorem zero73 : zeroOf Tryd.prog 73 = some (.nilf) := by kernel_rfl
theorem csz74 : csz Tryd.prog 74 = some 1 := by kernel_rfl
theorem byt74 : byt Tryd.prog 74 = some 0 := by kernel_rfl
theorem agg74 : isAggB Tryd.prog 74 = some false := by kernel_rfl
theorem zero74 : zeroOf Tryd.prog 74 = some (.tup [.int .i64 (0), .int .i64 (0), .int .i64 (0)]) := by kernel_rfl
theorem csz75 : csz Tryd.prog 75 = some 1 := by kernel_rfl
theorem byt75 : byt Tryd.prog 75 = some 8 := by kernel_rfl
theorem agg75 : isAggB Tryd.prog 75 = some false := by kernel_rfl
theorem zero75 : zeroOf Tryd.prog 75 = some (.nilf) := by kernel_rfl
theorem csz76 : csz Tryd.prog 76 = some 1 := by kernel_rfl
theorem byt76 : byt Tryd.prog 76 = some 8 := by kernel_rfl
theorem agg76 : isAggB Tryd.prog 76 = some false := by kernel_rfl
theorem zero76 : zeroOf Tryd.prog 76 = some (.nilf) := by kernel_rfl
theorem csz77 : csz Tryd.prog 77 = some 1 := by kernel_rfl
theorem byt77 : byt Tryd.prog 77 = some 8 := by kernel_rfl
theorem agg77 : isAggB Tryd.prog 77 = some false := by kernel_rfl
theorem zero77 : zeroOf Tryd.prog 77 = some (.nilf) := by kernel_rfl
theorem csz78 : csz Tryd.prog 78 = some 1 := by kernel_rfl
theorem byt78 : byt Tryd.prog 78 = some 8 := by kernel_rfl
theorem agg78 : isAggB Tryd.prog 78 = some false := by kernel_rfl
theorem zero78 : zeroOf Tryd.prog 78 = some (.nilf) := by kernel_rfl
theorem csz79 : csz Tryd.prog 79 = some 1 := by kernel_rfl
theorem byt79 : byt Tryd.prog 79 = some 8 := by kernel_rfl
theorem agg79 : isAggB Tryd.prog 79 = some false := by kernel_rfl
theorem zero79 : zeroOf Tryd.prog 79 = some (.nilf) := by kernel_rfl
theorem csz80 : csz Tryd.prog 80 = some 1 := by kernel_rfl
theorem byt80 : byt Tryd.prog 80 = some 8 := by kernel_rfl
theorem agg80 : isAggB Tryd.prog 80 = some false := by kernel_rfl
theorem zero80 : zeroOf Tryd.prog 80 = some (.nilf) := by kernel_rfl
theorem csz81 : csz Tryd.prog 81 = some 1 := by kernel_rfl
theorem byt81 : byt Tryd.prog 81 = some 8 := by kernel_rfl
theorem agg81 : isAggB Tryd.prog 81 = some false := by kernel_rfl
theorem zero81 : zeroOf Tryd.prog 81 = some (.nilf) := by kernel_rfl
theorem csz82 : csz Tryd.prog 82 = some 1 := by kernel_rfl
theorem byt82 : byt Tryd.prog 82 = some 8 := by kernel_rfl
theorem agg82 : isAggB Tryd.prog 82 = some false := by kernel_rfl
theorem zero82 : zeroOf Tryd.prog 82 = some (.nilp) := by kernel_rfl
theorem csz83 : csz Tryd.prog 83 = some 1 := by kernel_rfl
theorem byt83 : byt Tryd.prog 83 = some 8 := by kernel_rfl
theorem agg83 : isAggB Tryd.prog 83 = some false := by kernel_rfl
theorem zero83 : zeroOf Tryd.prog 83 = some (.nilf) := by kernel_rfl
theorem csz84 : csz Tryd.prog 84 = some 1 := by kernel_rfl
theorem byt84 : byt Tryd.prog 84 = some 8 := by kernel_rfl
theorem agg84 : isAggB Tryd.prog 84 = some false := by kernel_rfl
theorem zero84 : zeroOf Tryd.prog 84 = some (.nilp) := by kernel_rfl
theorem csz85 : csz Tryd.prog 85 = some 1 := by kernel_rfl
theorem byt85 : byt Tryd.prog 85 = some 8 := by kernel_rfl
theorem agg85 : isAggB Tryd.prog 85 = some false := by kernel_rfl
theorem zero85 : zeroOf Tryd.prog 85 = some (.nilf) := by kernel_rfl
theorem csz86 : csz Tryd.prog 86 = some 1 := by kernel_rfl
theorem byt86 : byt Tryd.prog 86 = some 8 := by kernel_rfl
theorem agg86 : isAggB Tryd.prog 86 = some false := by kernel_rfl
theorem zero86 : zeroOf Tryd.prog 86 = some (.nilf) := by kernel_rfl
theorem csz87 : csz Tryd.prog 87 = some 27 := by kernel_rfl
theorem byt87 : byt Tryd.prog 87 = some 432 := by kernel_rfl
theorem agg87 : isAggB Tryd.prog 87 = some true := by kernel_rfl
theorem zero87 : zeroOf Tryd.prog 87 = some (.agg [.str [], .str [], .str [], .str [], .str [], .str [], .str [], .str [], .str [], .str [], .str [], .str [], .str [], .str [], .str [], .str [], .str [], .str [], .str [], .str [], .str [], .str [], .str [], .str [], .str [], .str [], .str []]) := by kernel_rfl
theorem csz88 : csz Tryd.prog 88 = some 1 := by kernel_rfl
theorem byt88 : byt Tryd.prog 88 = some 8 := by kernel_rfl
theorem agg88 : isAggB Tryd.prog 88 = some false := by kernel_rfl
theorem zero88 : zeroOf Tryd.prog 88 = some (.nilf) := by kernel_rfl
theorem csz89 : csz Tryd.prog 89 = some 1 := by kernel_rfl
theorem byt89 : byt Tryd.prog 89 = some 8 := by kernel_rfl
theorem agg89 : isAggB Tryd.prog 89 = some false := by kernel_rfl
theorem zero89 : zeroOf Tryd.prog 89 = some (.nilf) := by kernel_rfl
theorem csz90 : csz Tryd.prog 90 = some 21 := by kernel_rfl
theorem byt90 : byt Tryd.prog 90 = some 336 := by kernel_rfl
theorem agg90 : isAggB Tryd.prog 90 = some true := by kernel_rfl
theorem zero90 : zeroOf Tryd.prog 90 = some (.agg [.str [], .str [], .str [], .str [], .str [], .str [], .str [], .str [], .str [], .str [], .str [], .str [], .str [], .str [], .str [], .str [], .str [], .str [], .str [], .str [], .str []]) := by kernel_rfl
theorem csz91 : csz Tryd.prog 91 = some 1 := by kernel_rfl
theorem byt91 : byt Tryd.prog 91 = some 8 := by kernel_rfl
theorem agg91 : isAggB Tryd.prog 91 = some false := by kernel_rfl
theorem zero91 : zeroOf Tryd.prog 91 = some (.nilf) := by kernel_rfl
theorem csz92 : csz Tryd.prog 92 = some 24 := by kernel_rfl
theorem byt92 : byt Tryd.prog 92 = some 24 := by kernel_rfl
theorem agg92 : isAggB Tryd.prog 92 = some true := by kernel_rfl
theorem zero92 : zeroOf Tryd.prog 92 = some (.agg [.int .u8 (0), .int .u8 (0), .int .u8 (0), .int .u8 (0), .int .u8 (0), .int .u8 (0), .int .u8 (0), .int .u8 (0), .int .u8 (0), .int .u8 (0), .int .u8 (0), .int .u8 (0), .int .u8 (0), .int .u8 (0), .int .u8 (0), .int .u8 (0), .int .u8 (0), .int .u8 (0), .int .u8 (0), .int .u8 (0), .int .u8 (0), .int .u8 (0), .int .u8 (0), .int .u8 (0)]) := by kernel_rfl
theorem csz93 : csz Tryd.prog 93 = some 1 := by kernel_rfl
theorem byt93 : byt Tryd.prog 93 = some 8 := by kernel_rfl
theorem agg93 : isAggB Tryd.prog 93 = some false := by kernel_rfl
theorem zero93 : zeroOf Tryd.prog 93 = some (.int .u64 (0)) := by kernel_rfl
theorem csz94 : csz Tryd.prog 94 = some 1 := by kernel_rfl
theorem byt94 : byt Tryd.prog 94 = some 8 := by kernel_rfl
theorem agg94 : isAggB Tryd.prog 94 = some false := by kernel_rfl
theorem zero94 : zeroOf Tryd.prog 94 = some (.nilf) := by kernel_rfl
theorem csz95 : csz Tryd.prog 95 = some 1 := by kernel_rfl
theorem byt95 : byt Tryd.prog 95 = some 8 := by kernel_rfl
theorem agg95 : isAggB Tryd.prog 95 = some false := by kernel_rfl
theorem zero95 : zeroOf Tryd.prog 95 = some (.nilf) := by kernel_rfl
theorem csz96 : csz Tryd.prog 96 = some 1 := by kernel_rfl
theorem byt96 : byt Tryd.prog 96 = some 0 := by kernel_rfl
theorem agg96 : isAggB Tryd.prog 96 = some false := by kernel_rfl
theorem zero96 : zeroOf Tryd.prog 96 = some (.tup [.nils, .str []]) := by kernel_rfl
theorem csz97 : csz Tryd.prog 97 = some 1 := by kernel_rfl
theorem byt97 : byt Tryd.prog 97 = some 8 := by kernel_rfl
theorem agg97 : isAggB Tryd.prog 97 = some false := by kernel_rfl
theorem zero97 : zeroOf Tryd.prog 97 = some (.nilf) := by kernel_rfl
theorem csz98 : csz Tryd.prog 98 = some 1 := by kernel_rfl
theorem byt98 : byt Tryd.prog 98 = some 8 := by kernel_rfl
theorem agg98 : isAggB Tryd.prog 98 = some false := by kernel_rfl
theorem zero98 : zeroOf Tryd.prog 98 = some (.nilf) := by kernel_rfl
theorem csz99 : csz Tryd.prog 99 = some 1 := by kernel_rfl
theorem byt99 : byt Tryd.prog 99 = some 8 := by kernel_rfl
theorem agg99 : isAggB Tryd.prog 99 = some false := by kernel_rfl
theorem zero99 : zeroOf Tryd.prog 99 = some (.nilf) := by kernel_rfl
theorem csz100 : csz Tryd.prog 100 = some 20 := by kernel_rfl
theorem byt100 : byt Tryd.prog 100 = some 160 := by kernel_rfl
theorem agg100 : isAggB Tryd.prog 100 = some true := by kernel_rfl
theorem zero100 : zeroOf Tryd.prog 100 = some (.agg [.int .u64 (0), .int .u64 (0), .int .u64 (0), .int .u64 (0), .int .u64 (0), .int .u64 (0), .int .u64 (0), .int .u64 (0), .int .u64 (0), .int .u64 (0), .int .u64 (0), .int .u64 (0), .int .u64 (0), .int .u64 (0), .int .u64 (0), .int .u64 (0), .int .u64 (0), .int .u64 (0), .int .u64 (0), .int .u64 (0)]) := by kernel_rfl
theorem csz101 : csz Tryd.prog 101 = some 1 := by kernel_rfl
theorem byt101 : byt Tryd.prog 101 = some 4 := by kernel_rfl
theorem agg101 : isAggB Tryd.prog 101 = some false := by kernel_rfl
theorem zero101 : zeroOf Tryd.prog 101 = some (.int .u32 (0)) := by kernel_rfl
theorem csz102 : csz Tryd.prog 102 = some 65 := by kernel_rfl
theorem byt102 : byt Tryd.prog 102 = some 65 := by kernel_rfl
theorem agg102 : isAggB Tryd.prog 102 = some true := by kernel_rfl
theorem zero102 : zeroOf Tryd.prog 102 = some (.agg [.int .u8 (0), .int .u8 (0), .int .u8 (0), .int .u8 (0), .int .u8 (0), .int .u8 (0), .int .u8 (0), .int .u8 (0), .int .u8 (0), .int .u8 (0), .int .u8 (0), .int .u8 (0), .int .u8 (0), .int .u8 (0), .int .u8 (0), .int .u8 (0), .int .u8 (0), .int .u8 (0), .int .u8 (0), .int .u8 (0), .int .u8 (0), .int .u8 (0), .int .u8 (0), .int .u8 (0), .int .u8 (0), .int .u8 (0), .int .u8 (0), .int .u8 (0), .int .u8 (0), .int .u8 (0), .int .u8 (0), .int .u8 (0), .int .u8 (0), .int .u8 (0), .int .u8 (0), .int .u8 (0), .int .u8 (0), .int .u8 (0), .int .u8 (0), .int .u8 (0), .int .u8 (0), .int .u8 (0), .int .u8 (0), .int .u8 (0), .int .u8 (0), .int .u8 (0), .int .u8 (0), .int .u8 (0), .int .u8 (0), .int .u8 (0), .int .u8 (0), .int .u8 (0), .int .u8 (0), .int .u8 (0), .int .u8 (0), .int .u8 (0), .int .u8 (0), .int .u8 (0), .int .u8 (0), .int .u8 (0), .int .u8 (0), .int .u8 (0), .int .u8 (0), .int .u8 (0), .int .u8 (0)]) := by kernel_rfl
theorem csz103 : csz Tryd.prog 103 = some 1 := by kernel_rfl
theorem byt103 : byt Tryd.prog 103 = some 8 := by kernel_rfl
theorem agg103 : isAggB Tryd.prog 103 = some false := by kernel_rfl
theorem zero103 : zeroOf Tryd.prog 103 = some (.int .u64 (0)) := by kernel_rfl
theorem csz104 : csz Tryd.prog 104 = some 1 := by kernel_rfl
theorem byt104 : byt Tryd.prog 104 = some 8 := by kernel_rfl
theorem agg104 : isAggB Tryd.prog 104 = some false := by kernel_rfl
theorem zero104 : zeroOf Tryd.prog 104 = some (.nilf) := by kernel_rfl
theorem csz105 : csz Tryd.prog 105 = some 1 := by kernel_rfl
theorem byt105 : byt Tryd.prog 105 = some 8 := by kernel_rfl
theorem agg105 : isAggB Tryd.prog 105 = some false := by kernel_rfl
theorem zero105 : zeroOf Tryd.prog 105 = some (.nilf) := by kernel_rfl
theorem csz106 : csz Tryd.prog 106 = some 32 := by kernel_rfl
theorem byt106 : byt Tryd.prog 106 = some 32 := by kernel_rfl
theorem agg106 : isAggB Tryd.prog 106 = some true := by kernel_rfl
theorem zero106 : zeroOf Tryd.prog 106 = some (.agg [.int .u8 (0), .int .u8 (0), .int .u8 (0), .int .u8 (0), .int .u8 (0), .int .u8 (0), .int .u8 (0), .int .u8 (0), .int .u8 (0), .int .u8 (0), .int .u8 (0), .int .u8 (0), .int .u8 (0), .int .u8 (0), .int .u8 (0), .int .u8 (0), .int .u8 (0), .int .u8 (0), .int .u8 (0), .int .u8 (0), .int .u8 (0), .int .u8 (0), .int .u8 (0), .int .u8 (0), .int .u8 (0), .int .u8 (0), .int .u8 (0), .int .u8 (0), .int .u8 (0), .int .u8 (0), .int .u8 (0), .int .u8 (0)]) := by kernel_rfl
theorem csz107 : csz Tryd.prog 107 = some 64 := by kernel_rfl
theorem byt107 : byt Tryd.prog 107 = some 64 := by kernel_rfl
theorem agg107 : isAggB Tryd.prog 107 = some true := by kernel_rfl
theorem zero107 : zeroOf Tryd.prog 107 = some (.agg [.int .u8 (0), .int .u8 (0), .int .u8 (0), .int .u8 (0), .int .u8 (0), .int .u8 (0), .int .u8 (0), .int .u8 (0), .int .u8 (0), .int .u8 (0), .int .u8 (0), .int .u8 (0), .int .u8 (0), .int .u8 (0), .int .u8 (0), .int .u8 (0), .int .u8 (0), .int .u8 (0), .int .u8 (0), .int .u8 (0), .int .u8 (0), .int .u8 (0), .int .u8 (0), .int .u8 (0), .int .u8 (0), .int .u8 (0), .int .u8 (0), .int .u8 (0), .int .u8 (0), .int .u8 (0), .int .u8 (0), .int .u8 (0), .int .u8 (0), .int .u8 (0), .int .u8 (0), .int .u8 (0), .int .u8 (0), .int .u8 (0), .int .u8 (0), .int .u8 (0), .int .u8 (0), .int .u8 (0), .int .u8 (0), .int .u8 (0), .int .u8 (0), .int .u8 (0), .int .u8 (0), .int .u8 (0), .int .u8 (0), .int .u8 (0), .int .u8 (0), .int .u8 (0), .int .u8 (0), .int .u8 (0), .int .u8 (0), .int .u8 (0), .int .u8 (0), .int .u8 (0), .int .u8 (0), .int .u8 (0), .int .u8 (0), .int .u8 (0), .int .u8 (0), .int .u8 (0)]) := by kernel_rfl
theorem csz108 : csz Tryd.prog 108 = some 4 := by kernel_rfl
theorem byt108 : byt Tryd.prog 108 = some 40 := by kernel_rfl
theorem agg108 : isAggB Tryd.prog 108 = some true := by kernel_rfl
theorem zero108 : zeroOf Tryd.prog 108 = some (.agg [.nilp, .nilp, .nilp, .str []]) := by kernel_rfl
theorem pl108 : placesOf Tryd.prog 108 = some [(0, 1), (1, 1), (2, 1), (3, 1)] := by kernel_rfl
theorem fo108_0 : fieldOff Tryd.prog 108 0 = some 0 := by kernel_rfl
theorem fo108_1 : fieldOff Tryd.prog 108 1 = some 1 := by kernel_rfl
theorem fo108_2 : fieldOff Tryd.prog 108 2 = some 2 := by kernel_rfl
theorem fo108_3 : fieldOff Tryd.prog 108 3 = some 3 := by kernel_rfl
theorem csz109 : csz Tryd.prog 109 = some 4 := by kernel_rfl
theorem byt109 : byt Tryd.prog 109 = some 40 := by kernel_rfl
theorem agg109 : isAggB Tryd.prog 109 = some true := by kernel_rfl
theorem zero109 : zeroOf Tryd.prog 109 = some (.agg [.nilp, .nilp, .nilp, .str []]) := by kernel_rfl
theorem pl109 : placesOf Tryd.prog 109 = some [(0, 1), (1, 1), (2, 1), (3, 1)] := by kernel_rfl
theorem fo109_0 : fieldOff Tryd.prog 109 0 = some 0 := by kernel_rfl
theorem fo109_1 : fieldOff Tryd.prog 109 1 = some 1 := by kernel_rfl
theorem fo109_2 : fieldOff Tryd.prog 109 2 = some 2 := by kernel_rfl
theorem fo109_3 : fieldOff Tryd.prog 109 3 = some 3 := by kernel_rfl
theorem csz110 : csz Tryd.prog 110 = some 0 := by kernel_rfl
theorem byt110 : byt Tryd.prog 110 = some 0 := by kernel_rfl
theorem agg110 : isAggB Tryd.prog 110 = some true := by kernel_rfl
theorem zero110 : zeroOf Tryd.prog 110 = some (.agg []) := by kernel_rfl
theorem csz111 : csz Tryd.prog 111 = some 0 := by kernel_rfl
theorem byt111 : byt Tryd.prog 111 = some 0 := by kernel_rfl
theorem agg111 : isAggB Tryd.prog 111 = some true := by kernel_rfl
theorem zero111 : zeroOf Tryd.prog 111 = some (.agg []) := by kernel_rfl
theorem pl111 : placesOf Tryd.prog 111 = some [(0, 0)] := by kernel_rfl
theorem csz112 : csz Tryd.prog 112 = some 0 := by kernel_rfl
theorem byt112 : byt Tryd.prog 112 = some 0 := by kernel_rfl
theorem agg112 : isAggB Tryd.prog 112 = some true := by kernel_rfl
theorem zero112 : zeroOf Tryd.prog 112 = some (.agg []) := by kernel_rfl
theorem pl112 : placesOf Tryd.prog 112 = some [(0, 0)] := by kernel_rfl
theorem csz113 : csz Tryd.prog 113 = some 1 := by kernel_rfl
theorem byt113 : byt Tryd.prog 113 = some 8 := by kernel_rfl
theorem agg113 : isAggB Tryd.prog 113 = some false := by kernel_rfl
theorem zero113 : zeroOf Tryd.prog 113 = some (.nilf) := by kernel_rfl
theorem csz114 : csz Tryd.prog 114 = some 1 := by kernel_rfl
theorem byt114 : byt Tryd.prog 114 = some 1 := by kernel_rfl
theorem agg114 : isAggB Tryd.prog 114 = some false := by kernel_rfl
theorem zero114 : zeroOf Tryd.prog 114 = some (.int .u8 (0)) := by kernel_rfl
theorem csz115 : csz Tryd.prog 115 = some 1 := by kernel_rfl
theorem byt115 : byt Tryd.prog 115 = some 1 := by kernel_rfl
theorem agg115 : isAggB Tryd.prog 115 = some false := by kernel_rfl
theorem zero115 : zeroOf Tryd.prog 115 = some (.int .u8 (0)) := by kernel_rfl
theorem csz116 : csz Tryd.prog 116 = some 1 := by kernel_rfl
theorem byt116 : byt Tryd.prog 116 = some 8 := by kernel_rfl
theorem agg116 : isAggB Tryd.prog 116 = some false := by kernel_rfl
theorem zero116 : zeroOf Tryd.prog 116 = some (.nilf) := by kernel_rfl
theorem csz117 : csz Tryd.prog 117 = some 1 := by kernel_rfl
theorem byt117 : byt Tryd.prog 117 = some 4 := by kernel_rfl
theorem agg117 : isAggB Tryd.prog 117 = some false := by kernel_rfl
theorem zero117 : zeroOf Tryd.prog 117 = some (.int .i32 (0)) := by kernel_rfl
theorem csz118 : csz Tryd.prog 118 = some 1 := by kernel_rfl
theorem byt118 : byt Tryd.prog 118 = some 4 := by kernel_rfl
theorem agg118 : isAggB Tryd.prog 118 = some false := by kernel_rfl
theorem zero118 : zeroOf Tryd.prog 118 = some (.int .i32 (0)) := by kernel_rfl
theorem csz119 : csz Tryd.prog 119 = some 11 := by kernel_rfl
theorem byt119 : byt Tryd.prog 119 = some 48 := by kernel_rfl
theorem agg119 : isAggB Tryd.prog 119 = some true := by kernel_rfl
theorem zero119 : zeroOf Tryd.prog 119 = some (.agg [.int .u64 (0), .int .u64 (0), .int .u32 (0), .int .u8 (0), .int .u8 (0), .int .u8 (0), .int .u8 (0), .nilf, .nilp, .int .i32 (0), .int .i32 (0)]) := by kernel_rfl
theorem pl119 : placesOf Tryd.prog 119 = some [(0, 1), (1, 1), (2, 1), (3, 1), (4, 1), (5, 1), (6, 1), (7, 1), (8, 1), (9, 1), (10, 1)] := by kernel_rfl
theorem fo119_0 : fieldOff Tryd.prog 119 0 = some 0 := by kernel_rfl
theorem fo119_1 : fieldOff Tryd.prog 119 1 = some 1 := by kernel_rfl
theorem fo119_2 : fieldOff Tryd.prog 119 2 = some 2 := by kernel_rfl
theorem fo119_3 : fieldOff Tryd.prog 119 3 = some 3 := by kernel_rfl
theorem fo119_4 : fieldOff Tryd.prog 119 4 = some 4 := by kernel_rfl
theorem fo119_5 : fieldOff Tryd.prog 119 5 = some 5 := by kernel_rfl
theorem fo119_6 : fieldOff Tryd.prog 119 6 = some 6 := by kernel_rfl
theorem fo119_7 : fieldOff Tryd.prog 119 7 = some 7 := by kernel_rfl
theorem fo119_8 : fieldOff Tryd.prog 119 8 = some 8 := by kernel_rfl
theorem fo119_9 : fieldOff Tryd.prog 119 9 = some 9 := by kernel_rfl
theorem fo119_10 : fieldOff Tryd.prog 119 10 = some 10 := by kernel_rfl
theorem csz120 : csz Tryd.prog 120 = some 11 := by kernel_rfl
theorem byt120 : byt Tryd.prog 120 = some 48 := by kernel_rfl
theorem agg120 : isAggB Tryd.prog 120 = some true := by kernel_rfl
theorem zero120 : zeroOf Tryd.prog 120 = some (.agg [.int .u64 (0), .int .u64 (0), .int .u32 (0), .int .u8 (0), .int .u8 (0), .int .u8 (0), .int .u8 (0), .nilf, .nilp, .int .i32 (0), .int .i32 (0)]) := by kernel_rfl
theorem pl120 : placesOf Tryd.prog 120 = some [(0, 1), (1, 1), (2, 1), (3, 1), (4, 1), (5, 1), (6, 1), (7, 1), (8, 1), (9, 1), (10, 1)] := by kernel_rfl
theorem fo120_0 : fieldOff Tryd.prog 120 0 = some 0 := by kernel_rfl
theorem fo120_1 : fieldOff Tryd.prog 120 1 = some 1 := by kernel_rfl
theorem fo120_2 : fieldOff Tryd.prog 120 2 = some 2 := by kernel_rfl
theorem fo120_3 : fieldOff Tryd.prog 120 3 = some 3 := by kernel_rfl
theorem fo120_4 : fieldOff Tryd.prog 120 4 = some 4 := by kernel_rfl
theorem fo120_5 : fieldOff Tryd.prog 120 5 = some 5 := by kernel_rfl
theorem fo120_6 : fieldOff Tryd.prog 120 6 = some 6 := by kernel_rfl
theorem fo120_7 : fieldOff Tryd.prog 120 7 = some 7 := by kernel_rfl
theorem fo120_8 : fieldOff Tryd.prog 120 8 = some 8 := by kernel_rfl
theorem fo120_9 : fieldOff Tryd.prog 120 9 = some 9 := by kernel_rfl
theorem fo120_10 : fieldOff Tryd.prog 120 10 = some 10 := by kernel_rfl
end Go.Proofs.YtpdphdbphhaekaaDoor.Ty
