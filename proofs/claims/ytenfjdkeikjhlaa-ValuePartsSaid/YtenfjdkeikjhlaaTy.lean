/-
  Sizes, zeros and fields of the types.
-/
import Derived.Test.YtenfjdkeikjhlaaProg
import Derived.Test.YtenfjdkeikjhlaaVj
import Derived.KernelRfl
set_option autoImplicit false
namespace Go.Proofs.Ytenfjdkeikjhlaa.Ty
open Go.VI
theorem csz0 : csz Try.prog 0 = some 1 := by kernel_rfl
theorem byt0 : byt Try.prog 0 = some 0 := by kernel_rfl
theorem agg0 : isAggB Try.prog 0 = some false := by kernel_rfl
theorem zero0 : zeroOf Try.prog 0 = some (.tup []) := by kernel_rfl
theorem csz1 : csz Try.prog 1 = some 1 := by kernel_rfl
theorem byt1 : byt Try.prog 1 = some 8 := by kernel_rfl
theorem agg1 : isAggB Try.prog 1 = some false := by kernel_rfl
theorem zero1 : zeroOf Try.prog 1 = some (.nilf) := by kernel_rfl
theorem csz2 : csz Try.prog 2 = some 1 := by kernel_rfl
theorem byt2 : byt Try.prog 2 = some 8 := by kernel_rfl
theorem agg2 : isAggB Try.prog 2 = some false := by kernel_rfl
theorem zero2 : zeroOf Try.prog 2 = some (.int .i64 (0)) := by kernel_rfl
theorem csz3 : csz Try.prog 3 = some 1 := by kernel_rfl
theorem byt3 : byt Try.prog 3 = some 8 := by kernel_rfl
theorem agg3 : isAggB Try.prog 3 = some false := by kernel_rfl
theorem zero3 : zeroOf Try.prog 3 = some (.int .i64 (0)) := by kernel_rfl
theorem csz4 : csz Try.prog 4 = some 1 := by kernel_rfl
theorem byt4 : byt Try.prog 4 = some 1 := by kernel_rfl
theorem agg4 : isAggB Try.prog 4 = some false := by kernel_rfl
theorem zero4 : zeroOf Try.prog 4 = some (.bool false) := by kernel_rfl
theorem csz5 : csz Try.prog 5 = some 1 := by kernel_rfl
theorem byt5 : byt Try.prog 5 = some 1 := by kernel_rfl
theorem agg5 : isAggB Try.prog 5 = some false := by kernel_rfl
theorem zero5 : zeroOf Try.prog 5 = some (.int .u8 (0)) := by kernel_rfl
theorem csz6 : csz Try.prog 6 = some 1 := by kernel_rfl
theorem byt6 : byt Try.prog 6 = some 1 := by kernel_rfl
theorem agg6 : isAggB Try.prog 6 = some false := by kernel_rfl
theorem zero6 : zeroOf Try.prog 6 = some (.int .u8 (0)) := by kernel_rfl
theorem csz7 : csz Try.prog 7 = some 4 := by kernel_rfl
theorem byt7 : byt Try.prog 7 = some 24 := by kernel_rfl
theorem agg7 : isAggB Try.prog 7 = some true := by kernel_rfl
theorem zero7 : zeroOf Try.prog 7 = some (.agg [.int .i64 (0), .int .i64 (0), .bool false, .int .u8 (0)]) := by kernel_rfl
theorem pl7 : placesOf Try.prog 7 = some [(0, 1), (1, 1), (2, 1), (3, 1)] := by kernel_rfl
theorem fo7_0 : fieldOff Try.prog 7 0 = some 0 := by kernel_rfl
theorem fo7_1 : fieldOff Try.prog 7 1 = some 1 := by kernel_rfl
theorem fo7_2 : fieldOff Try.prog 7 2 = some 2 := by kernel_rfl
theorem fo7_3 : fieldOff Try.prog 7 3 = some 3 := by kernel_rfl
theorem csz8 : csz Try.prog 8 = some 4 := by kernel_rfl
theorem byt8 : byt Try.prog 8 = some 24 := by kernel_rfl
theorem agg8 : isAggB Try.prog 8 = some true := by kernel_rfl
theorem zero8 : zeroOf Try.prog 8 = some (.agg [.int .i64 (0), .int .i64 (0), .bool false, .int .u8 (0)]) := by kernel_rfl
theorem pl8 : placesOf Try.prog 8 = some [(0, 1), (1, 1), (2, 1), (3, 1)] := by kernel_rfl
theorem fo8_0 : fieldOff Try.prog 8 0 = some 0 := by kernel_rfl
theorem fo8_1 : fieldOff Try.prog 8 1 = some 1 := by kernel_rfl
theorem fo8_2 : fieldOff Try.prog 8 2 = some 2 := by kernel_rfl
theorem fo8_3 : fieldOff Try.prog 8 3 = some 3 := by kernel_rfl
theorem csz9 : csz Try.prog 9 = some 1 := by kernel_rfl
theorem byt9 : byt Try.prog 9 = some 16 := by kernel_rfl
theorem agg9 : isAggB Try.prog 9 = some false := by kernel_rfl
theorem zero9 : zeroOf Try.prog 9 = some (.str []) := by kernel_rfl
theorem csz10 : csz Try.prog 10 = some 1 := by kernel_rfl
theorem byt10 : byt Try.prog 10 = some 16 := by kernel_rfl
theorem agg10 : isAggB Try.prog 10 = some false := by kernel_rfl
theorem zero10 : zeroOf Try.prog 10 = some (.str []) := by kernel_rfl
theorem csz11 : csz Try.prog 11 = some 1 := by kernel_rfl
theorem byt11 : byt Try.prog 11 = some 16 := by kernel_rfl
theorem agg11 : isAggB Try.prog 11 = some false := by kernel_rfl
theorem zero11 : zeroOf Try.prog 11 = some (.str []) := by kernel_rfl
theorem csz12 : csz Try.prog 12 = some 1 := by kernel_rfl
theorem byt12 : byt Try.prog 12 = some 8 := by kernel_rfl
theorem agg12 : isAggB Try.prog 12 = some false := by kernel_rfl
theorem zero12 : zeroOf Try.prog 12 = some (.int .u64 (0)) := by kernel_rfl
theorem csz13 : csz Try.prog 13 = some 2 := by kernel_rfl
theorem byt13 : byt Try.prog 13 = some 24 := by kernel_rfl
theorem agg13 : isAggB Try.prog 13 = some true := by kernel_rfl
theorem zero13 : zeroOf Try.prog 13 = some (.agg [.str [], .int .u64 (0)]) := by kernel_rfl
theorem pl13 : placesOf Try.prog 13 = some [(0, 1), (1, 1)] := by kernel_rfl
theorem fo13_0 : fieldOff Try.prog 13 0 = some 0 := by kernel_rfl
theorem fo13_1 : fieldOff Try.prog 13 1 = some 1 := by kernel_rfl
theorem csz14 : csz Try.prog 14 = some 2 := by kernel_rfl
theorem byt14 : byt Try.prog 14 = some 24 := by kernel_rfl
theorem agg14 : isAggB Try.prog 14 = some true := by kernel_rfl
theorem zero14 : zeroOf Try.prog 14 = some (.agg [.str [], .int .u64 (0)]) := by kernel_rfl
theorem pl14 : placesOf Try.prog 14 = some [(0, 1), (1, 1)] := by kernel_rfl
theorem fo14_0 : fieldOff Try.prog 14 0 = some 0 := by kernel_rfl
theorem fo14_1 : fieldOff Try.prog 14 1 = some 1 := by kernel_rfl
theorem csz15 : csz Try.prog 15 = some 1 := by kernel_rfl
theorem byt15 : byt Try.prog 15 = some 8 := by kernel_rfl
theorem agg15 : isAggB Try.prog 15 = some false := by kernel_rfl
theorem zero15 : zeroOf Try.prog 15 = some (.nilp) := by kernel_rfl
theorem csz16 : csz Try.prog 16 = some 1 := by kernel_rfl
theorem byt16 : byt Try.prog 16 = some 8 := by kernel_rfl
theorem agg16 : isAggB Try.prog 16 = some false := by kernel_rfl
theorem zero16 : zeroOf Try.prog 16 = some (.nilp) := by kernel_rfl
theorem csz17 : csz Try.prog 17 = some 1 := by kernel_rfl
theorem byt17 : byt Try.prog 17 = some 8 := by kernel_rfl
theorem agg17 : isAggB Try.prog 17 = some false := by kernel_rfl
theorem zero17 : zeroOf Try.prog 17 = some (.nilp) := by kernel_rfl
theorem csz18 : csz Try.prog 18 = some 1 := by kernel_rfl
theorem byt18 : byt Try.prog 18 = some 8 := by kernel_rfl
theorem agg18 : isAggB Try.prog 18 = some true := by kernel_rfl
theorem zero18 : zeroOf Try.prog 18 = some (.agg [.nilp]) := by kernel_rfl
theorem pl18 : placesOf Try.prog 18 = some [(0, 1)] := by kernel_rfl
theorem fo18_0 : fieldOff Try.prog 18 0 = some 0 := by kernel_rfl
theorem csz19 : csz Try.prog 19 = some 1 := by kernel_rfl
theorem byt19 : byt Try.prog 19 = some 8 := by kernel_rfl
theorem agg19 : isAggB Try.prog 19 = some true := by kernel_rfl
theorem zero19 : zeroOf Try.prog 19 = some (.agg [.nilp]) := by kernel_rfl
theorem pl19 : placesOf Try.prog 19 = some [(0, 1)] := by kernel_rfl
theorem fo19_0 : fieldOff Try.prog 19 0 = some 0 := by kernel_rfl
theorem csz20 : csz Try.prog 20 = some 1 := by kernel_rfl
theorem byt20 : byt Try.prog 20 = some 16 := by kernel_rfl
theorem agg20 : isAggB Try.prog 20 = some false := by kernel_rfl
theorem zero20 : zeroOf Try.prog 20 = some (.nili) := by kernel_rfl
theorem csz21 : csz Try.prog 21 = some 1 := by kernel_rfl
theorem byt21 : byt Try.prog 21 = some 4 := by kernel_rfl
theorem agg21 : isAggB Try.prog 21 = some false := by kernel_rfl
theorem zero21 : zeroOf Try.prog 21 = some (.int .i32 (0)) := by kernel_rfl
theorem csz22 : csz Try.prog 22 = some 1 := by kernel_rfl
theorem byt22 : byt Try.prog 22 = some 24 := by kernel_rfl
theorem agg22 : isAggB Try.prog 22 = some false := by kernel_rfl
theorem zero22 : zeroOf Try.prog 22 = some (.nils) := by kernel_rfl
theorem csz23 : csz Try.prog 23 = some 3 := by kernel_rfl
theorem byt23 : byt Try.prog 23 = some 40 := by kernel_rfl
theorem agg23 : isAggB Try.prog 23 = some true := by kernel_rfl
theorem zero23 : zeroOf Try.prog 23 = some (.agg [.int .i64 (0), .int .i64 (0), .nils]) := by kernel_rfl
theorem pl23 : placesOf Try.prog 23 = some [(0, 1), (1, 1), (2, 1)] := by kernel_rfl
theorem fo23_0 : fieldOff Try.prog 23 0 = some 0 := by kernel_rfl
theorem fo23_1 : fieldOff Try.prog 23 1 = some 1 := by kernel_rfl
theorem fo23_2 : fieldOff Try.prog 23 2 = some 2 := by kernel_rfl
theorem csz24 : csz Try.prog 24 = some 3 := by kernel_rfl
theorem byt24 : byt Try.prog 24 = some 40 := by kernel_rfl
theorem agg24 : isAggB Try.prog 24 = some true := by kernel_rfl
theorem zero24 : zeroOf Try.prog 24 = some (.agg [.int .i64 (0), .int .i64 (0), .nils]) := by kernel_rfl
theorem pl24 : placesOf Try.prog 24 = some [(0, 1), (1, 1), (2, 1)] := by kernel_rfl
theorem fo24_0 : fieldOff Try.prog 24 0 = some 0 := by kernel_rfl
theorem fo24_1 : fieldOff Try.prog 24 1 = some 1 := by kernel_rfl
theorem fo24_2 : fieldOff Try.prog 24 2 = some 2 := by kernel_rfl
theorem csz25 : csz Try.prog 25 = some 1 := by kernel_rfl
theorem byt25 : byt Try.prog 25 = some 8 := by kernel_rfl
theorem agg25 : isAggB Try.prog 25 = some false := by kernel_rfl
theorem zero25 : zeroOf Try.prog 25 = some (.nilf) := by kernel_rfl
theorem csz26 : csz Try.prog 26 = some 1 := by kernel_rfl
theorem byt26 : byt Try.prog 26 = some 8 := by kernel_rfl
theorem agg26 : isAggB Try.prog 26 = some false := by kernel_rfl
theorem zero26 : zeroOf Try.prog 26 = some (.nilf) := by kernel_rfl
theorem csz27 : csz Try.prog 27 = some 1 := by kernel_rfl
theorem byt27 : byt Try.prog 27 = some 8 := by kernel_rfl
theorem agg27 : isAggB Try.prog 27 = some false := by kernel_rfl
theorem zero27 : zeroOf Try.prog 27 = some (.nilf) := by kernel_rfl
theorem csz28 : csz Try.prog 28 = some 1 := by kernel_rfl
theorem byt28 : byt Try.prog 28 = some 24 := by kernel_rfl
theorem agg28 : isAggB Try.prog 28 = some false := by kernel_rfl
theorem zero28 : zeroOf Try.prog 28 = some (.nils) := by kernel_rfl
theorem csz29 : csz Try.prog 29 = some 1 := by kernel_rfl
theorem byt29 : byt Try.prog 29 = some 8 := by kernel_rfl
theorem agg29 : isAggB Try.prog 29 = some false := by kernel_rfl
theorem zero29 : zeroOf Try.prog 29 = some (.nilf) := by kernel_rfl
theorem csz30 : csz Try.prog 30 = some 1 := by kernel_rfl
theorem byt30 : byt Try.prog 30 = some 8 := by kernel_rfl
theorem agg30 : isAggB Try.prog 30 = some false := by kernel_rfl
theorem zero30 : zeroOf Try.prog 30 = some (.nilf) := by kernel_rfl
theorem csz31 : csz Try.prog 31 = some 1 := by kernel_rfl
theorem byt31 : byt Try.prog 31 = some 8 := by kernel_rfl
theorem agg31 : isAggB Try.prog 31 = some false := by kernel_rfl
theorem zero31 : zeroOf Try.prog 31 = some (.nilf) := by kernel_rfl
theorem csz32 : csz Try.prog 32 = some 1 := by kernel_rfl
theorem byt32 : byt Try.prog 32 = some 8 := by kernel_rfl
theorem agg32 : isAggB Try.prog 32 = some false := by kernel_rfl
theorem zero32 : zeroOf Try.prog 32 = some (.nilf) := by kernel_rfl
theorem csz33 : csz Try.prog 33 = some 1 := by kernel_rfl
theorem byt33 : byt Try.prog 33 = some 8 := by kernel_rfl
theorem agg33 : isAggB Try.prog 33 = some false := by kernel_rfl
theorem zero33 : zeroOf Try.prog 33 = some (.nilf) := by kernel_rfl
theorem csz34 : csz Try.prog 34 = some 1 := by kernel_rfl
theorem byt34 : byt Try.prog 34 = some 0 := by kernel_rfl
theorem agg34 : isAggB Try.prog 34 = some false := by kernel_rfl
theorem csz35 : csz Try.prog 35 = some 1 := by kernel_rfl
theorem byt35 : byt Try.prog 35 = some 8 := by kernel_rfl
theorem agg35 : isAggB Try.prog 35 = some false := by kernel_rfl
theorem zero35 : zeroOf Try.prog 35 = some (.nilf) := by kernel_rfl
theorem csz36 : csz Try.prog 36 = some 1 := by kernel_rfl
theorem byt36 : byt Try.prog 36 = some 8 := by kernel_rfl
theorem agg36 : isAggB Try.prog 36 = some false := by kernel_rfl
theorem zero36 : zeroOf Try.prog 36 = some (.nilf) := by kernel_rfl
theorem csz37 : csz Try.prog 37 = some 1 := by kernel_rfl
theorem byt37 : byt Try.prog 37 = some 8 := by kernel_rfl
theorem agg37 : isAggB Try.prog 37 = some false := by kernel_rfl
theorem zero37 : zeroOf Try.prog 37 = some (.nilf) := by kernel_rfl
theorem csz38 : csz Try.prog 38 = some 1 := by kernel_rfl
theorem byt38 : byt Try.prog 38 = some 8 := by kernel_rfl
theorem agg38 : isAggB Try.prog 38 = some false := by kernel_rfl
theorem zero38 : zeroOf Try.prog 38 = some (.nilf) := by kernel_rfl
theorem csz39 : csz Try.prog 39 = some 1 := by kernel_rfl
theorem byt39 : byt Try.prog 39 = some 8 := by kernel_rfl
theorem agg39 : isAggB Try.prog 39 = some false := by kernel_rfl
theorem zero39 : zeroOf Try.prog 39 = some (.nilp) := by kernel_rfl
theorem csz40 : csz Try.prog 40 = some 2 := by kernel_rfl
theorem byt40 : byt Try.prog 40 = some 48 := by kernel_rfl
theorem agg40 : isAggB Try.prog 40 = some true := by kernel_rfl
theorem zero40 : zeroOf Try.prog 40 = some (.agg [.nils, .nils]) := by kernel_rfl
theorem pl40 : placesOf Try.prog 40 = some [(0, 1), (1, 1)] := by kernel_rfl
theorem fo40_0 : fieldOff Try.prog 40 0 = some 0 := by kernel_rfl
theorem fo40_1 : fieldOff Try.prog 40 1 = some 1 := by kernel_rfl
theorem csz41 : csz Try.prog 41 = some 2 := by kernel_rfl
theorem byt41 : byt Try.prog 41 = some 48 := by kernel_rfl
theorem agg41 : isAggB Try.prog 41 = some true := by kernel_rfl
theorem zero41 : zeroOf Try.prog 41 = some (.agg [.nils, .nils]) := by kernel_rfl
theorem pl41 : placesOf Try.prog 41 = some [(0, 1), (1, 1)] := by kernel_rfl
theorem fo41_0 : fieldOff Try.prog 41 0 = some 0 := by kernel_rfl
theorem fo41_1 : fieldOff Try.prog 41 1 = some 1 := by kernel_rfl
theorem csz42 : csz Try.prog 42 = some 1 := by kernel_rfl
theorem byt42 : byt Try.prog 42 = some 0 := by kernel_rfl
theorem agg42 : isAggB Try.prog 42 = some false := by kernel_rfl
theorem csz43 : csz Try.prog 43 = some 1 := by kernel_rfl
theorem byt43 : byt Try.prog 43 = some 8 := by kernel_rfl
theorem agg43 : isAggB Try.prog 43 = some false := by kernel_rfl
theorem zero43 : zeroOf Try.prog 43 = some (.nilf) := by kernel_rfl
theorem csz44 : csz Try.prog 44 = some 1 := by kernel_rfl
theorem byt44 : byt Try.prog 44 = some 8 := by kernel_rfl
theorem agg44 : isAggB Try.prog 44 = some false := by kernel_rfl
theorem zero44 : zeroOf Try.prog 44 = some (.nilf) := by kernel_rfl
theorem csz45 : csz Try.prog 45 = some 1 := by kernel_rfl
theorem byt45 : byt Try.prog 45 = some 8 := by kernel_rfl
theorem agg45 : isAggB Try.prog 45 = some false := by kernel_rfl
theorem zero45 : zeroOf Try.prog 45 = some (.nilf) := by kernel_rfl
theorem csz46 : csz Try.prog 46 = some 1 := by kernel_rfl
theorem byt46 : byt Try.prog 46 = some 8 := by kernel_rfl
theorem agg46 : isAggB Try.prog 46 = some false := by kernel_rfl
theorem zero46 : zeroOf Try.prog 46 = some (.nilf) := by kernel_rfl
theorem csz47 : csz Try.prog 47 = some 1 := by kernel_rfl
theorem byt47 : byt Try.prog 47 = some 8 := by kernel_rfl
theorem agg47 : isAggB Try.prog 47 = some false := by kernel_rfl
theorem zero47 : zeroOf Try.prog 47 = some (.nilf) := by kernel_rfl
theorem csz48 : csz Try.prog 48 = some 1 := by kernel_rfl
theorem byt48 : byt Try.prog 48 = some 8 := by kernel_rfl
theorem agg48 : isAggB Try.prog 48 = some false := by kernel_rfl
theorem zero48 : zeroOf Try.prog 48 = some (.nilf) := by kernel_rfl
theorem csz49 : csz Try.prog 49 = some 1 := by kernel_rfl
theorem byt49 : byt Try.prog 49 = some 8 := by kernel_rfl
theorem agg49 : isAggB Try.prog 49 = some false := by kernel_rfl
theorem zero49 : zeroOf Try.prog 49 = some (.nilf) := by kernel_rfl
theorem csz50 : csz Try.prog 50 = some 1 := by kernel_rfl
theorem byt50 : byt Try.prog 50 = some 24 := by kernel_rfl
theorem agg50 : isAggB Try.prog 50 = some false := by kernel_rfl
theorem zero50 : zeroOf Try.prog 50 = some (.nils) := by kernel_rfl
theorem csz51 : csz Try.prog 51 = some 1 := by kernel_rfl
theorem byt51 : byt Try.prog 51 = some 8 := by kernel_rfl
theorem agg51 : isAggB Try.prog 51 = some false := by kernel_rfl
theorem zero51 : zeroOf Try.prog 51 = some (.nilf) := by kernel_rfl
theorem csz52 : csz Try.prog 52 = some 1 := by kernel_rfl
theorem byt52 : byt Try.prog 52 = some 8 := by kernel_rfl
theorem agg52 : isAggB Try.prog 52 = some false := by kernel_rfl
theorem zero52 : zeroOf Try.prog 52 = some (.nilf) := by kernel_rfl
theorem csz53 : csz Try.prog 53 = some 1 := by kernel_rfl
theorem byt53 : byt Try.prog 53 = some 8 := by kernel_rfl
theorem agg53 : isAggB Try.prog 53 = some false := by kernel_rfl
theorem zero53 : zeroOf Try.prog 53 = some (.nilf) := by kernel_rfl
theorem csz54 : csz Try.prog 54 = some 1 := by kernel_rfl
theorem byt54 : byt Try.prog 54 = some 8 := by kernel_rfl
theorem agg54 : isAggB Try.prog 54 = some false := by kernel_rfl
theorem zero54 : zeroOf Try.prog 54 = some (.nilf) := by kernel_rfl
theorem csz55 : csz Try.prog 55 = some 1 := by kernel_rfl
theorem byt55 : byt Try.prog 55 = some 8 := by kernel_rfl
theorem agg55 : isAggB Try.prog 55 = some false := by kernel_rfl
theorem zero55 : zeroOf Try.prog 55 = some (.nilf) := by kernel_rfl
theorem csz56 : csz Try.prog 56 = some 1 := by kernel_rfl
theorem byt56 : byt Try.prog 56 = some 8 := by kernel_rfl
theorem agg56 : isAggB Try.prog 56 = some false := by kernel_rfl
theorem zero56 : zeroOf Try.prog 56 = some (.nilf) := by kernel_rfl
theorem csz57 : csz Try.prog 57 = some 1 := by kernel_rfl
theorem byt57 : byt Try.prog 57 = some 8 := by kernel_rfl
theorem agg57 : isAggB Try.prog 57 = some false := by kernel_rfl
theorem zero57 : zeroOf Try.prog 57 = some (.nilp) := by kernel_rfl
theorem csz58 : csz Try.prog 58 = some 1 := by kernel_rfl
theorem byt58 : byt Try.prog 58 = some 8 := by kernel_rfl
theorem agg58 : isAggB Try.prog 58 = some false := by kernel_rfl
theorem zero58 : zeroOf Try.prog 58 = some (.nilf) := by kernel_rfl
theorem csz59 : csz Try.prog 59 = some 1 := by kernel_rfl
theorem byt59 : byt Try.prog 59 = some 8 := by kernel_rfl
theorem agg59 : isAggB Try.prog 59 = some false := by kernel_rfl
theorem zero59 : zeroOf Try.prog 59 = some (.nilf) := by kernel_rfl
theorem csz60 : csz Try.prog 60 = some 1 := by kernel_rfl
theorem byt60 : byt Try.prog 60 = some 0 := by kernel_rfl
theorem agg60 : isAggB Try.prog 60 = some false := by kernel_rfl
theorem zero60 : zeroOf Try.prog 60 = some (.tup [.nils, .nils]) := by kernel_rfl
theorem csz61 : csz Try.prog 61 = some 1 := by kernel_rfl
theorem byt61 : byt Try.prog 61 = some 8 := by kernel_rfl
theorem agg61 : isAggB Try.prog 61 = some false := by kernel_rfl
theorem zero61 : zeroOf Try.prog 61 = some (.nilf) := by kernel_rfl
theorem csz62 : csz Try.prog 62 = some 1 := by kernel_rfl
theorem byt62 : byt Try.prog 62 = some 8 := by kernel_rfl
theorem agg62 : isAggB Try.prog 62 = some false := by kernel_rfl
theorem zero62 : zeroOf Try.prog 62 = some (.nilf) := by kernel_rfl
theorem csz63 : csz Try.prog 63 = some 1 := by kernel_rfl
theorem byt63 : byt Try.prog 63 = some 8 := by kernel_rfl
theorem agg63 : isAggB Try.prog 63 = some false := by kernel_rfl
theorem zero63 : zeroOf Try.prog 63 = some (.nilf) := by kernel_rfl
theorem csz64 : csz Try.prog 64 = some 1 := by kernel_rfl
theorem byt64 : byt Try.prog 64 = some 8 := by kernel_rfl
theorem agg64 : isAggB Try.prog 64 = some false := by kernel_rfl
theorem zero64 : zeroOf Try.prog 64 = some (.int .u64 (0)) := by kernel_rfl
theorem csz65 : csz Try.prog 65 = some 1 := by kernel_rfl
theorem byt65 : byt Try.prog 65 = some 8 := by kernel_rfl
theorem agg65 : isAggB Try.prog 65 = some false := by kernel_rfl
theorem zero65 : zeroOf Try.prog 65 = some (.nilf) := by kernel_rfl
theorem csz66 : csz Try.prog 66 = some 1 := by kernel_rfl
theorem byt66 : byt Try.prog 66 = some 8 := by kernel_rfl
theorem agg66 : isAggB Try.prog 66 = some false := by kernel_rfl
theorem zero66 : zeroOf Try.prog 66 = some (.int .i64 (0)) := by kernel_rfl
theorem csz67 : csz Try.prog 67 = some 1 := by kernel_rfl
theorem byt67 : byt Try.prog 67 = some 0 := by kernel_rfl
theorem agg67 : isAggB Try.prog 67 = some false := by kernel_rfl
theorem zero67 : zeroOf Try.prog 67 = some (.tup [.int .i64 (0), .int .i64 (0)]) := by kernel_rfl
theorem csz68 : csz Try.prog 68 = some 1 := by kernel_rfl
theorem byt68 : byt Try.prog 68 = some 8 := by kernel_rfl
theorem agg68 : isAggB Try.prog 68 = some false := by kernel_rfl
theorem zero68 : zeroOf Try.prog 68 = some (.nilf) := by kernel_rfl
theorem csz69 : csz Try.prog 69 = some 1 := by kernel_rfl
theorem byt69 : byt Try.prog 69 = some 8 := by kernel_rfl
theorem agg69 : isAggB Try.prog 69 = some false := by kernel_rfl
theorem zero69 : zeroOf Try.prog 69 = some (.nilf) := by kernel_rfl
theorem csz70 : csz Try.prog 70 = some 1 := by kernel_rfl
theorem byt70 : byt Try.prog 70 = some 8 := by kernel_rfl
theorem agg70 : isAggB Try.prog 70 = some false := by kernel_rfl
theorem zero70 : zeroOf Try.prog 70 = some (.nilf) := by kernel_rfl
theorem csz71 : csz Try.prog 71 = some 1 := by kernel_rfl
theorem byt71 : byt Try.prog 71 = some 0 := by kernel_rfl
theorem agg71 : isAggB Try.prog 71 = some false := by kernel_rfl
theorem zero71 : zeroOf Try.prog 71 = some (.tup [.int .i64 (0), .bool false]) := by kernel_rfl
theorem csz72 : csz Try.prog 72 = some 1 := by kernel_rfl
theorem byt72 : byt Try.prog 72 = some 8 := by kernel_rfl
theorem agg72 : isAggB Try.prog 72 = some false := by kernel_rfl
theorem zero72 : zeroOf Try.prog 72 = some (.nilf) := by kernel_rfl
theorem csz73 : csz Try.prog 73 = some 1 := by kernel_rfl
theorem byt73 : byt Try.prog 73 = some 8 := by kernel_rfl
theorem agg73 : isAggB Try.prog 73 = some false := by kernel_rfl
theorem zero73 : zeroOf Try.prog 73 = some (.nilf) := by kernel_rfl
theorem csz74 : csz Try.prog 74 = some 1 := by kernel_rfl
theorem byt74 : byt Try.prog 74 = some 4 := by kernel_rfl
theorem agg74 : isAggB Try.prog 74 = some false := by kernel_rfl
theorem zero74 : zeroOf Try.prog 74 = some (.int .u32 (0)) := by kernel_rfl
theorem csz75 : csz Try.prog 75 = some 1 := by kernel_rfl
theorem byt75 : byt Try.prog 75 = some 8 := by kernel_rfl
theorem agg75 : isAggB Try.prog 75 = some false := by kernel_rfl
theorem zero75 : zeroOf Try.prog 75 = some (.nilf) := by kernel_rfl
theorem csz76 : csz Try.prog 76 = some 1 := by kernel_rfl
theorem byt76 : byt Try.prog 76 = some 8 := by kernel_rfl
theorem agg76 : isAggB Try.prog 76 = some false := by kernel_rfl
theorem zero76 : zeroOf Try.prog 76 = some (.int .u64 (0)) := by kernel_rfl
theorem csz77 : csz Try.prog 77 = some 1 := by kernel_rfl
theorem byt77 : byt Try.prog 77 = some 8 := by kernel_rfl
theorem agg77 : isAggB Try.prog 77 = some false := by kernel_rfl
theorem zero77 : zeroOf Try.prog 77 = some (.int .u64 (0)) := by kernel_rfl
theorem csz78 : csz Try.prog 78 = some 1 := by kernel_rfl
theorem byt78 : byt Try.prog 78 = some 8 := by kernel_rfl
theorem agg78 : isAggB Try.prog 78 = some false := by kernel_rfl
theorem zero78 : zeroOf Try.prog 78 = some (.nilf) := by kernel_rfl
theorem csz79 : csz Try.prog 79 = some 1 := by kernel_rfl
theorem byt79 : byt Try.prog 79 = some 8 := by kernel_rfl
theorem agg79 : isAggB Try.prog 79 = some false := by kernel_rfl
theorem zero79 : zeroOf Try.prog 79 = some (.nilf) := by kernel_rfl
theorem csz80 : csz Try.prog 80 = some 1 := by kernel_rfl
theorem byt80 : byt Try.prog 80 = some 8 := by kernel_rfl
theorem agg80 : isAggB Try.prog 80 = some false := by kernel_rfl
theorem zero80 : zeroOf Try.prog 80 = some (.nilf) := by kernel_rfl
theorem csz81 : csz Try.prog 81 = some 1 := by kernel_rfl
theorem byt81 : byt Try.prog 81 = some 8 := by kernel_rfl
theorem agg81 : isAggB Try.prog 81 = some false := by kernel_rfl
theorem zero81 : zeroOf Try.prog 81 = some (.nilp) := by kernel_rfl
theorem csz82 : csz Try.prog 82 = some 1 := by kernel_rfl
theorem byt82 : byt Try.prog 82 = some 8 := by kernel_rfl
theorem agg82 : isAggB Try.prog 82 = some false := by kernel_rfl
theorem zero82 : zeroOf Try.prog 82 = some (.nilf) := by kernel_rfl
theorem csz83 : csz Try.prog 83 = some 1 := by kernel_rfl
theorem byt83 : byt Try.prog 83 = some 8 := by kernel_rfl
theorem agg83 : isAggB Try.prog 83 = some false := by kernel_rfl
theorem zero83 : zeroOf Try.prog 83 = some (.nilf) := by kernel_rfl
theorem csz84 : csz Try.prog 84 = some 1 := by kernel_rfl
theorem byt84 : byt Try.prog 84 = some 8 := by kernel_rfl
theorem agg84 : isAggB Try.prog 84 = some false := by kernel_rfl
theorem zero84 : zeroOf Try.prog 84 = some (.nilp) := by kernel_rfl
theorem csz85 : csz Try.prog 85 = some 1 := by kernel_rfl
theorem byt85 : byt Try.prog 85 = some 0 := by kernel_rfl
theorem agg85 : isAggB Try.prog 85 = some false := by kernel_rfl
theorem zero85 : zeroOf Try.prog 85 = some (.tup [.int .i64 (0), .int .i64 (0)]) := by kernel_rfl
theorem csz86 : csz Try.prog 86 = some 1 := by kernel_rfl
theorem byt86 : byt Try.prog 86 = some 8 := by kernel_rfl
theorem agg86 : isAggB Try.prog 86 = some false := by kernel_rfl
theorem zero86 : zeroOf Try.prog 86 = some (.nilf) := by kernel_rfl
theorem csz87 : csz Try.prog 87 = some 1 := by kernel_rfl
theorem byt87 : byt Try.prog 87 = some 8 := by kernel_rfl
theorem agg87 : isAggB Try.prog 87 = some false := by kernel_rfl
theorem zero87 : zeroOf Try.prog 87 = some (.nilf) := by kernel_rfl
theorem csz88 : csz Try.prog 88 = some 4 := by kernel_rfl
theorem byt88 : byt Try.prog 88 = some 40 := by kernel_rfl
theorem agg88 : isAggB Try.prog 88 = some true := by kernel_rfl
theorem zero88 : zeroOf Try.prog 88 = some (.agg [.nilp, .nilp, .nilp, .str []]) := by kernel_rfl
theorem pl88 : placesOf Try.prog 88 = some [(0, 1), (1, 1), (2, 1), (3, 1)] := by kernel_rfl
theorem fo88_0 : fieldOff Try.prog 88 0 = some 0 := by kernel_rfl
theorem fo88_1 : fieldOff Try.prog 88 1 = some 1 := by kernel_rfl
theorem fo88_2 : fieldOff Try.prog 88 2 = some 2 := by kernel_rfl
theorem fo88_3 : fieldOff Try.prog 88 3 = some 3 := by kernel_rfl
theorem csz89 : csz Try.prog 89 = some 4 := by kernel_rfl
theorem byt89 : byt Try.prog 89 = some 40 := by kernel_rfl
theorem agg89 : isAggB Try.prog 89 = some true := by kernel_rfl
theorem zero89 : zeroOf Try.prog 89 = some (.agg [.nilp, .nilp, .nilp, .str []]) := by kernel_rfl
theorem pl89 : placesOf Try.prog 89 = some [(0, 1), (1, 1), (2, 1), (3, 1)] := by kernel_rfl
theorem fo89_0 : fieldOff Try.prog 89 0 = some 0 := by kernel_rfl
theorem fo89_1 : fieldOff Try.prog 89 1 = some 1 := by kernel_rfl
theorem fo89_2 : fieldOff Try.prog 89 2 = some 2 := by kernel_rfl
theorem fo89_3 : fieldOff Try.prog 89 3 = some 3 := by kernel_rfl
theorem csz90 : csz Try.prog 90 = some 0 := by kernel_rfl
theorem byt90 : byt Try.prog 90 = some 0 := by kernel_rfl
theorem agg90 : isAggB Try.prog 90 = some true := by kernel_rfl
theorem zero90 : zeroOf Try.prog 90 = some (.agg []) := by kernel_rfl
theorem csz91 : csz Try.prog 91 = some 0 := by kernel_rfl
theorem byt91 : byt Try.prog 91 = some 0 := by kernel_rfl
theorem agg91 : isAggB Try.prog 91 = some true := by kernel_rfl
theorem zero91 : zeroOf Try.prog 91 = some (.agg []) := by kernel_rfl
theorem pl91 : placesOf Try.prog 91 = some [(0, 0)] := by kernel_rfl
theorem csz92 : csz Try.prog 92 = some 0 := by kernel_rfl
theorem byt92 : byt Try.prog 92 = some 0 := by kernel_rfl
theorem agg92 : isAggB Try.prog 92 = some true := by kernel_rfl
theorem zero92 : zeroOf Try.prog 92 = some (.agg []) := by kernel_rfl
theorem pl92 : placesOf Try.prog 92 = some [(0, 0)] := by kernel_rfl
theorem csz93 : csz Try.prog 93 = some 1 := by kernel_rfl
theorem byt93 : byt Try.prog 93 = some 8 := by kernel_rfl
theorem agg93 : isAggB Try.prog 93 = some false := by kernel_rfl
theorem zero93 : zeroOf Try.prog 93 = some (.nilf) := by kernel_rfl
theorem csz94 : csz Try.prog 94 = some 1 := by kernel_rfl
theorem byt94 : byt Try.prog 94 = some 1 := by kernel_rfl
theorem agg94 : isAggB Try.prog 94 = some false := by kernel_rfl
theorem zero94 : zeroOf Try.prog 94 = some (.int .u8 (0)) := by kernel_rfl
theorem csz95 : csz Try.prog 95 = some 1 := by kernel_rfl
theorem byt95 : byt Try.prog 95 = some 1 := by kernel_rfl
theorem agg95 : isAggB Try.prog 95 = some false := by kernel_rfl
theorem zero95 : zeroOf Try.prog 95 = some (.int .u8 (0)) := by kernel_rfl
theorem csz96 : csz Try.prog 96 = some 1 := by kernel_rfl
theorem byt96 : byt Try.prog 96 = some 8 := by kernel_rfl
theorem agg96 : isAggB Try.prog 96 = some false := by kernel_rfl
theorem zero96 : zeroOf Try.prog 96 = some (.nilf) := by kernel_rfl
theorem csz97 : csz Try.prog 97 = some 1 := by kernel_rfl
theorem byt97 : byt Try.prog 97 = some 8 := by kernel_rfl
theorem agg97 : isAggB Try.prog 97 = some false := by kernel_rfl
theorem zero97 : zeroOf Try.prog 97 = some (.nilp) := by kernel_rfl
theorem csz98 : csz Try.prog 98 = some 1 := by kernel_rfl
theorem byt98 : byt Try.prog 98 = some 4 := by kernel_rfl
theorem agg98 : isAggB Try.prog 98 = some false := by kernel_rfl
theorem zero98 : zeroOf Try.prog 98 = some (.int .i32 (0)) := by kernel_rfl
theorem csz99 : csz Try.prog 99 = some 1 := by kernel_rfl
theorem byt99 : byt Try.prog 99 = some 4 := by kernel_rfl
theorem agg99 : isAggB Try.prog 99 = some false := by kernel_rfl
theorem zero99 : zeroOf Try.prog 99 = some (.int .i32 (0)) := by kernel_rfl
theorem csz100 : csz Try.prog 100 = some 11 := by kernel_rfl
theorem byt100 : byt Try.prog 100 = some 48 := by kernel_rfl
theorem agg100 : isAggB Try.prog 100 = some true := by kernel_rfl
theorem zero100 : zeroOf Try.prog 100 = some (.agg [.int .u64 (0), .int .u64 (0), .int .u32 (0), .int .u8 (0), .int .u8 (0), .int .u8 (0), .int .u8 (0), .nilf, .nilp, .int .i32 (0), .int .i32 (0)]) := by kernel_rfl
theorem pl100 : placesOf Try.prog 100 = some [(0, 1), (1, 1), (2, 1), (3, 1), (4, 1), (5, 1), (6, 1), (7, 1), (8, 1), (9, 1), (10, 1)] := by kernel_rfl
theorem fo100_0 : fieldOff Try.prog 100 0 = some 0 := by kernel_rfl
theorem fo100_1 : fieldOff Try.prog 100 1 = some 1 := by kernel_rfl
theorem fo100_2 : fieldOff Try.prog 100 2 = some 2 := by kernel_rfl
theorem fo100_3 : fieldOff Try.prog 100 3 = some 3 := by kernel_rfl
theorem fo100_4 : fieldOff Try.prog 100 4 = some 4 := by kernel_rfl
theorem fo100_5 : fieldOff Try.prog 100 5 = some 5 := by kernel_rfl
theorem fo100_6 : fieldOff Try.prog 100 6 = some 6 := by kernel_rfl
theorem fo100_7 : fieldOff Try.prog 100 7 = some 7 := by kernel_rfl
theorem fo100_8 : fieldOff Try.prog 100 8 = some 8 := by kernel_rfl
theorem fo100_9 : fieldOff Try.prog 100 9 = some 9 := by kernel_rfl
theorem fo100_10 : fieldOff Try.prog 100 10 = some 10 := by kernel_rfl
theorem csz101 : csz Try.prog 101 = some 11 := by kernel_rfl
theorem byt101 : byt Try.prog 101 = some 48 := by kernel_rfl
theorem agg101 : isAggB Try.prog 101 = some true := by kernel_rfl
theorem zero101 : zeroOf Try.prog 101 = some (.agg [.int .u64 (0), .int .u64 (0), .int .u32 (0), .int .u8 (0), .int .u8 (0), .int .u8 (0), .int .u8 (0), .nilf, .nilp, .int .i32 (0), .int .i32 (0)]) := by kernel_rfl
theorem pl101 : placesOf Try.prog 101 = some [(0, 1), (1, 1), (2, 1), (3, 1), (4, 1), (5, 1), (6, 1), (7, 1), (8, 1), (9, 1), (10, 1)] := by kernel_rfl
theorem fo101_0 : fieldOff Try.prog 101 0 = some 0 := by kernel_rfl
theorem fo101_1 : fieldOff Try.prog 101 1 = some 1 := by kernel_rfl
theorem fo101_2 : fieldOff Try.prog 101 2 = some 2 := by kernel_rfl
theorem fo101_3 : fieldOff Try.prog 101 3 = some 3 := by kernel_rfl
theorem fo101_4 : fieldOff Try.prog 101 4 = some 4 := by kernel_rfl
theorem fo101_5 : fieldOff Try.prog 101 5 = some 5 := by kernel_rfl
theorem fo101_6 : fieldOff Try.prog 101 6 = some 6 := by kernel_rfl
theorem fo101_7 : fieldOff Try.prog 101 7 = some 7 := by kernel_rfl
theorem fo101_8 : fieldOff Try.prog 101 8 = some 8 := by kernel_rfl
theorem fo101_9 : fieldOff Try.prog 101 9 = some 9 := by kernel_rfl
theorem fo101_10 : fieldOff Try.prog 101 10 = some 10 := by kernel_rfl
theorem csz102 : csz Try.prog 102 = some 1 := by kernel_rfl
theorem byt102 : byt Try.prog 102 = some 8 := by kernel_rfl
theorem agg102 : isAggB Try.prog 102 = some false := by kernel_rfl
theorem zero102 : zeroOf Try.prog 102 = some (.nilp) := by kernel_rfl
end Go.Proofs.Ytenfjdkeikjhlaa.Ty
