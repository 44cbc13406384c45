/-
  Own library, part 3: an abstract reading of values and a calculus over it; contracts of functions; plain lemmas.
-/
import Derived.Test.YtfniceomhfebhaaGreatProg
import Derived.KernelRfl
import Derived.Sort.Grow
import Derived.Shelf.Small.Bits
import Derived.Shelf.Strconv.Itoa0
import Derived.Shelf.Sort.Plain
import Derived.Ground.Names2Prog
import Derived.Shelf.Slices.SearchI
import Derived.Shelf.Slices.In.SortNone
import Derived.Shelf.Slices.Empties
import Derived.Ground.SlsfProg
import Derived.Shelf.SlSortCmp.WholeK
import Derived.Test.YtfniceomhfebhaaGreatMb

/-
  What the calculus asks about this seat's types: closed facts, printed by tyfacts.py.
-/
set_option maxRecDepth 100000
namespace Go.Proofs.YtfniceomhfebhaaGreat.Ty
open Go Go.Ev Go.Proofs
@[go_sem] theorem sz1 : szOf Tryz.prog 1 = some 1 := eqS (by kernel_rfl)
@[go_sem] theorem ag1 : aggOf Tryz.prog 1 = some false := eqS (by kernel_rfl)
@[go_sem] theorem ze1 : zeroOf Tryz.prog 1 = some (.sc .nilFunc) := eqS (by kernel_rfl)
@[go_sem] theorem co1 : concreteT Tryz.prog 1 = true := eqS (by kernel_rfl)
@[go_sem] theorem sl1 : sliceOf Tryz.prog 1 = none := eqS (by kernel_rfl)
@[go_sem] theorem sz2 : szOf Tryz.prog 2 = some 1 := eqS (by kernel_rfl)
@[go_sem] theorem ag2 : aggOf Tryz.prog 2 = some false := eqS (by kernel_rfl)
@[go_sem] theorem ze2 : zeroOf Tryz.prog 2 = some (.sc (.int .i64 0)) := eqS (by kernel_rfl)
@[go_sem] theorem co2 : concreteT Tryz.prog 2 = true := eqS (by kernel_rfl)
@[go_sem] theorem sl2 : sliceOf Tryz.prog 2 = none := eqS (by kernel_rfl)
@[go_sem] theorem un2 : Tryz.prog.underlying 2 = some (.int .i64) := eqS (by kernel_rfl)
@[go_sem] theorem sz3 : szOf Tryz.prog 3 = some 1 := eqS (by kernel_rfl)
@[go_sem] theorem ag3 : aggOf Tryz.prog 3 = some false := eqS (by kernel_rfl)
@[go_sem] theorem ze3 : zeroOf Tryz.prog 3 = some (.sc (.int .i64 0)) := eqS (by kernel_rfl)
@[go_sem] theorem co3 : concreteT Tryz.prog 3 = true := eqS (by kernel_rfl)
@[go_sem] theorem sl3 : sliceOf Tryz.prog 3 = none := eqS (by kernel_rfl)
@[go_sem] theorem un3 : Tryz.prog.underlying 3 = some (.int .i64) := eqS (by kernel_rfl)
@[go_sem] theorem sz4 : szOf Tryz.prog 4 = some 1 := eqS (by kernel_rfl)
@[go_sem] theorem ag4 : aggOf Tryz.prog 4 = some false := eqS (by kernel_rfl)
@[go_sem] theorem ze4 : zeroOf Tryz.prog 4 = some (.sc (.bool false)) := eqS (by kernel_rfl)
@[go_sem] theorem co4 : concreteT Tryz.prog 4 = true := eqS (by kernel_rfl)
@[go_sem] theorem sl4 : sliceOf Tryz.prog 4 = none := eqS (by kernel_rfl)
@[go_sem] theorem un4 : Tryz.prog.underlying 4 = some .bool := eqS (by kernel_rfl)
@[go_sem] theorem bo4 : isBoolT Tryz.prog 4 = true := eqS (by kernel_rfl)
@[go_sem] theorem sz5 : szOf Tryz.prog 5 = some 1 := eqS (by kernel_rfl)
@[go_sem] theorem ag5 : aggOf Tryz.prog 5 = some false := eqS (by kernel_rfl)
@[go_sem] theorem ze5 : zeroOf Tryz.prog 5 = some (.sc (.int .u8 0)) := eqS (by kernel_rfl)
@[go_sem] theorem co5 : concreteT Tryz.prog 5 = true := eqS (by kernel_rfl)
@[go_sem] theorem sl5 : sliceOf Tryz.prog 5 = none := eqS (by kernel_rfl)
@[go_sem] theorem un5 : Tryz.prog.underlying 5 = some (.int .u8) := eqS (by kernel_rfl)
@[go_sem] theorem sz6 : szOf Tryz.prog 6 = some 1 := eqS (by kernel_rfl)
@[go_sem] theorem ag6 : aggOf Tryz.prog 6 = some false := eqS (by kernel_rfl)
@[go_sem] theorem ze6 : zeroOf Tryz.prog 6 = some (.sc (.int .u8 0)) := eqS (by kernel_rfl)
@[go_sem] theorem co6 : concreteT Tryz.prog 6 = true := eqS (by kernel_rfl)
@[go_sem] theorem sl6 : sliceOf Tryz.prog 6 = none := eqS (by kernel_rfl)
@[go_sem] theorem un6 : Tryz.prog.underlying 6 = some (.int .u8) := eqS (by kernel_rfl)
@[go_sem] theorem sz7 : szOf Tryz.prog 7 = some 4 := eqS (by kernel_rfl)
@[go_sem] theorem ag7 : aggOf Tryz.prog 7 = some true := eqS (by kernel_rfl)
@[go_sem] theorem ze7 : zeroOf Tryz.prog 7 = some (.agg [.sc (.int .i64 0), .sc (.int .i64 0), .sc (.bool false), .sc (.int .u8 0)]) := eqS (by kernel_rfl)
@[go_sem] theorem co7 : concreteT Tryz.prog 7 = true := eqS (by kernel_rfl)
@[go_sem] theorem sl7 : sliceOf Tryz.prog 7 = none := eqS (by kernel_rfl)
@[go_sem] theorem pl7 : placeOf Tryz.prog 7 = some (plc [(0, 1), (1, 1), (2, 1), (3, 1)]) := eqS (by kernel_rfl)
@[go_sem] theorem fl7_0 : fldOf Tryz.prog 7 0 = some (0, 2, 1) := eqS (by kernel_rfl)
@[go_sem] theorem fl7_1 : fldOf Tryz.prog 7 1 = some (1, 3, 1) := eqS (by kernel_rfl)
@[go_sem] theorem fl7_2 : fldOf Tryz.prog 7 2 = some (2, 4, 1) := eqS (by kernel_rfl)
@[go_sem] theorem fl7_3 : fldOf Tryz.prog 7 3 = some (3, 6, 1) := eqS (by kernel_rfl)
@[go_sem] theorem zo7 : zerosOk Tryz.prog 7 = true := eqS (by kernel_rfl)
@[go_sem] theorem sz8 : szOf Tryz.prog 8 = some 4 := eqS (by kernel_rfl)
@[go_sem] theorem ag8 : aggOf Tryz.prog 8 = some true := eqS (by kernel_rfl)
@[go_sem] theorem ze8 : zeroOf Tryz.prog 8 = some (.agg [.sc (.int .i64 0), .sc (.int .i64 0), .sc (.bool false), .sc (.int .u8 0)]) := eqS (by kernel_rfl)
@[go_sem] theorem co8 : concreteT Tryz.prog 8 = true := eqS (by kernel_rfl)
@[go_sem] theorem sl8 : sliceOf Tryz.prog 8 = none := eqS (by kernel_rfl)
@[go_sem] theorem pl8 : placeOf Tryz.prog 8 = some (plc [(0, 1), (1, 1), (2, 1), (3, 1)]) := eqS (by kernel_rfl)
@[go_sem] theorem fl8_0 : fldOf Tryz.prog 8 0 = some (0, 2, 1) := eqS (by kernel_rfl)
@[go_sem] theorem fl8_1 : fldOf Tryz.prog 8 1 = some (1, 3, 1) := eqS (by kernel_rfl)
@[go_sem] theorem fl8_2 : fldOf Tryz.prog 8 2 = some (2, 4, 1) := eqS (by kernel_rfl)
@[go_sem] theorem fl8_3 : fldOf Tryz.prog 8 3 = some (3, 6, 1) := eqS (by kernel_rfl)
@[go_sem] theorem zo8 : zerosOk Tryz.prog 8 = true := eqS (by kernel_rfl)
@[go_sem] theorem sz9 : szOf Tryz.prog 9 = some 1 := eqS (by kernel_rfl)
@[go_sem] theorem ag9 : aggOf Tryz.prog 9 = some false := eqS (by kernel_rfl)
@[go_sem] theorem ze9 : zeroOf Tryz.prog 9 = some (.sc (.string ⟨#[]⟩)) := eqS (by kernel_rfl)
@[go_sem] theorem co9 : concreteT Tryz.prog 9 = true := eqS (by kernel_rfl)
@[go_sem] theorem sl9 : sliceOf Tryz.prog 9 = none := eqS (by kernel_rfl)
@[go_sem] theorem un9 : Tryz.prog.underlying 9 = some .string := eqS (by kernel_rfl)
@[go_sem] theorem sz10 : szOf Tryz.prog 10 = some 1 := eqS (by kernel_rfl)
@[go_sem] theorem ag10 : aggOf Tryz.prog 10 = some false := eqS (by kernel_rfl)
@[go_sem] theorem ze10 : zeroOf Tryz.prog 10 = some (.sc (.string ⟨#[]⟩)) := eqS (by kernel_rfl)
@[go_sem] theorem co10 : concreteT Tryz.prog 10 = true := eqS (by kernel_rfl)
@[go_sem] theorem sl10 : sliceOf Tryz.prog 10 = none := eqS (by kernel_rfl)
@[go_sem] theorem un10 : Tryz.prog.underlying 10 = some .string := eqS (by kernel_rfl)
@[go_sem] theorem sz11 : szOf Tryz.prog 11 = some 1 := eqS (by kernel_rfl)
@[go_sem] theorem ag11 : aggOf Tryz.prog 11 = some false := eqS (by kernel_rfl)
@[go_sem] theorem ze11 : zeroOf Tryz.prog 11 = some (.sc (.string ⟨#[]⟩)) := eqS (by kernel_rfl)
@[go_sem] theorem co11 : concreteT Tryz.prog 11 = true := eqS (by kernel_rfl)
@[go_sem] theorem sl11 : sliceOf Tryz.prog 11 = none := eqS (by kernel_rfl)
@[go_sem] theorem un11 : Tryz.prog.underlying 11 = some .string := eqS (by kernel_rfl)
@[go_sem] theorem sz12 : szOf Tryz.prog 12 = some 1 := eqS (by kernel_rfl)
@[go_sem] theorem ag12 : aggOf Tryz.prog 12 = some false := eqS (by kernel_rfl)
@[go_sem] theorem ze12 : zeroOf Tryz.prog 12 = some (.sc (.int .u64 0)) := eqS (by kernel_rfl)
@[go_sem] theorem co12 : concreteT Tryz.prog 12 = true := eqS (by kernel_rfl)
@[go_sem] theorem sl12 : sliceOf Tryz.prog 12 = none := eqS (by kernel_rfl)
@[go_sem] theorem un12 : Tryz.prog.underlying 12 = some (.int .u64) := eqS (by kernel_rfl)
@[go_sem] theorem sz13 : szOf Tryz.prog 13 = some 2 := eqS (by kernel_rfl)
@[go_sem] theorem ag13 : aggOf Tryz.prog 13 = some true := eqS (by kernel_rfl)
@[go_sem] theorem ze13 : zeroOf Tryz.prog 13 = some (.agg [.sc (.string ⟨#[]⟩), .sc (.int .u64 0)]) := eqS (by kernel_rfl)
@[go_sem] theorem co13 : concreteT Tryz.prog 13 = true := eqS (by kernel_rfl)
@[go_sem] theorem sl13 : sliceOf Tryz.prog 13 = none := eqS (by kernel_rfl)
@[go_sem] theorem pl13 : placeOf Tryz.prog 13 = some (plc [(0, 1), (1, 1)]) := eqS (by kernel_rfl)
@[go_sem] theorem fl13_0 : fldOf Tryz.prog 13 0 = some (0, 9, 1) := eqS (by kernel_rfl)
@[go_sem] theorem fl13_1 : fldOf Tryz.prog 13 1 = some (1, 12, 1) := eqS (by kernel_rfl)
@[go_sem] theorem zo13 : zerosOk Tryz.prog 13 = true := eqS (by kernel_rfl)
@[go_sem] theorem sz14 : szOf Tryz.prog 14 = some 2 := eqS (by kernel_rfl)
@[go_sem] theorem ag14 : aggOf Tryz.prog 14 = some true := eqS (by kernel_rfl)
@[go_sem] theorem ze14 : zeroOf Tryz.prog 14 = some (.agg [.sc (.string ⟨#[]⟩), .sc (.int .u64 0)]) := eqS (by kernel_rfl)
@[go_sem] theorem co14 : concreteT Tryz.prog 14 = true := eqS (by kernel_rfl)
@[go_sem] theorem sl14 : sliceOf Tryz.prog 14 = none := eqS (by kernel_rfl)
@[go_sem] theorem pl14 : placeOf Tryz.prog 14 = some (plc [(0, 1), (1, 1)]) := eqS (by kernel_rfl)
@[go_sem] theorem fl14_0 : fldOf Tryz.prog 14 0 = some (0, 9, 1) := eqS (by kernel_rfl)
@[go_sem] theorem fl14_1 : fldOf Tryz.prog 14 1 = some (1, 12, 1) := eqS (by kernel_rfl)
@[go_sem] theorem zo14 : zerosOk Tryz.prog 14 = true := eqS (by kernel_rfl)
@[go_sem] theorem sz15 : szOf Tryz.prog 15 = some 1 := eqS (by kernel_rfl)
@[go_sem] theorem ag15 : aggOf Tryz.prog 15 = some false := eqS (by kernel_rfl)
@[go_sem] theorem ze15 : zeroOf Tryz.prog 15 = some (.sc (.pointer none)) := eqS (by kernel_rfl)
@[go_sem] theorem co15 : concreteT Tryz.prog 15 = true := eqS (by kernel_rfl)
@[go_sem] theorem sl15 : sliceOf Tryz.prog 15 = none := eqS (by kernel_rfl)
@[go_sem] theorem sz16 : szOf Tryz.prog 16 = some 1 := eqS (by kernel_rfl)
@[go_sem] theorem ag16 : aggOf Tryz.prog 16 = some false := eqS (by kernel_rfl)
@[go_sem] theorem ze16 : zeroOf Tryz.prog 16 = some (.sc (.pointer none)) := eqS (by kernel_rfl)
@[go_sem] theorem co16 : concreteT Tryz.prog 16 = true := eqS (by kernel_rfl)
@[go_sem] theorem sl16 : sliceOf Tryz.prog 16 = none := eqS (by kernel_rfl)
@[go_sem] theorem sz17 : szOf Tryz.prog 17 = some 1 := eqS (by kernel_rfl)
@[go_sem] theorem ag17 : aggOf Tryz.prog 17 = some false := eqS (by kernel_rfl)
@[go_sem] theorem ze17 : zeroOf Tryz.prog 17 = some (.sc (.pointer none)) := eqS (by kernel_rfl)
@[go_sem] theorem co17 : concreteT Tryz.prog 17 = true := eqS (by kernel_rfl)
@[go_sem] theorem sl17 : sliceOf Tryz.prog 17 = none := eqS (by kernel_rfl)
@[go_sem] theorem sz18 : szOf Tryz.prog 18 = some 1 := eqS (by kernel_rfl)
@[go_sem] theorem ag18 : aggOf Tryz.prog 18 = some true := eqS (by kernel_rfl)
@[go_sem] theorem ze18 : zeroOf Tryz.prog 18 = some (.agg [.sc (.pointer none)]) := eqS (by kernel_rfl)
@[go_sem] theorem co18 : concreteT Tryz.prog 18 = true := eqS (by kernel_rfl)
@[go_sem] theorem sl18 : sliceOf Tryz.prog 18 = none := eqS (by kernel_rfl)
@[go_sem] theorem pl18 : placeOf Tryz.prog 18 = some (plc [(0, 1)]) := eqS (by kernel_rfl)
@[go_sem] theorem fl18_0 : fldOf Tryz.prog 18 0 = some (0, 17, 1) := eqS (by kernel_rfl)
@[go_sem] theorem zo18 : zerosOk Tryz.prog 18 = true := eqS (by kernel_rfl)
@[go_sem] theorem sz19 : szOf Tryz.prog 19 = some 1 := eqS (by kernel_rfl)
@[go_sem] theorem ag19 : aggOf Tryz.prog 19 = some true := eqS (by kernel_rfl)
@[go_sem] theorem ze19 : zeroOf Tryz.prog 19 = some (.agg [.sc (.pointer none)]) := eqS (by kernel_rfl)
@[go_sem] theorem co19 : concreteT Tryz.prog 19 = true := eqS (by kernel_rfl)
@[go_sem] theorem sl19 : sliceOf Tryz.prog 19 = none := eqS (by kernel_rfl)
@[go_sem] theorem pl19 : placeOf Tryz.prog 19 = some (plc [(0, 1)]) := eqS (by kernel_rfl)
@[go_sem] theorem fl19_0 : fldOf Tryz.prog 19 0 = some (0, 17, 1) := eqS (by kernel_rfl)
@[go_sem] theorem zo19 : zerosOk Tryz.prog 19 = true := eqS (by kernel_rfl)
@[go_sem] theorem sz20 : szOf Tryz.prog 20 = some 1 := eqS (by kernel_rfl)
@[go_sem] theorem ag20 : aggOf Tryz.prog 20 = some false := eqS (by kernel_rfl)
@[go_sem] theorem ze20 : zeroOf Tryz.prog 20 = some (.sc .nilIface) := eqS (by kernel_rfl)
@[go_sem] theorem co20 : concreteT Tryz.prog 20 = false := eqS (by kernel_rfl)
@[go_sem] theorem sl20 : sliceOf Tryz.prog 20 = none := eqS (by kernel_rfl)
@[go_sem] theorem if20 : isIfaceT Tryz.prog 20 = true := eqS (by kernel_rfl)
@[go_sem] theorem sz21 : szOf Tryz.prog 21 = some 1 := eqS (by kernel_rfl)
@[go_sem] theorem ag21 : aggOf Tryz.prog 21 = some false := eqS (by kernel_rfl)
@[go_sem] theorem ze21 : zeroOf Tryz.prog 21 = some (.sc (.int .i32 0)) := eqS (by kernel_rfl)
@[go_sem] theorem co21 : concreteT Tryz.prog 21 = true := eqS (by kernel_rfl)
@[go_sem] theorem sl21 : sliceOf Tryz.prog 21 = none := eqS (by kernel_rfl)
@[go_sem] theorem un21 : Tryz.prog.underlying 21 = some (.int .i32) := eqS (by kernel_rfl)
@[go_sem] theorem sz22 : szOf Tryz.prog 22 = some 1 := eqS (by kernel_rfl)
@[go_sem] theorem ag22 : aggOf Tryz.prog 22 = some false := eqS (by kernel_rfl)
@[go_sem] theorem ze22 : zeroOf Tryz.prog 22 = some (.lst true []) := eqS (by kernel_rfl)
@[go_sem] theorem co22 : concreteT Tryz.prog 22 = true := eqS (by kernel_rfl)
@[go_sem] theorem sl22 : sliceOf Tryz.prog 22 = some (60, 2, 24) := eqS (by kernel_rfl)
@[go_sem] theorem sz23 : szOf Tryz.prog 23 = some 1 := eqS (by kernel_rfl)
@[go_sem] theorem ag23 : aggOf Tryz.prog 23 = some false := eqS (by kernel_rfl)
@[go_sem] theorem ze23 : zeroOf Tryz.prog 23 = some (.lst true []) := eqS (by kernel_rfl)
@[go_sem] theorem co23 : concreteT Tryz.prog 23 = true := eqS (by kernel_rfl)
@[go_sem] theorem sl23 : sliceOf Tryz.prog 23 = some (62, 3, 48) := eqS (by kernel_rfl)
@[go_sem] theorem sz24 : szOf Tryz.prog 24 = some 1 := eqS (by kernel_rfl)
@[go_sem] theorem ag24 : aggOf Tryz.prog 24 = some false := eqS (by kernel_rfl)
@[go_sem] theorem ze24 : zeroOf Tryz.prog 24 = some (.lst true []) := eqS (by kernel_rfl)
@[go_sem] theorem co24 : concreteT Tryz.prog 24 = true := eqS (by kernel_rfl)
@[go_sem] theorem sl24 : sliceOf Tryz.prog 24 = some (196, 7, 104) := eqS (by kernel_rfl)
@[go_sem] theorem sz25 : szOf Tryz.prog 25 = some 1 := eqS (by kernel_rfl)
@[go_sem] theorem ag25 : aggOf Tryz.prog 25 = some false := eqS (by kernel_rfl)
@[go_sem] theorem ze25 : zeroOf Tryz.prog 25 = some (.lst true []) := eqS (by kernel_rfl)
@[go_sem] theorem co25 : concreteT Tryz.prog 25 = true := eqS (by kernel_rfl)
@[go_sem] theorem sl25 : sliceOf Tryz.prog 25 = some (198, 6, 80) := eqS (by kernel_rfl)
@[go_sem] theorem sz26 : szOf Tryz.prog 26 = some 4 := eqS (by kernel_rfl)
@[go_sem] theorem ag26 : aggOf Tryz.prog 26 = some true := eqS (by kernel_rfl)
@[go_sem] theorem ze26 : zeroOf Tryz.prog 26 = some (.agg [.lst true [], .lst true [], .lst true [], .lst true []]) := eqS (by kernel_rfl)
@[go_sem] theorem co26 : concreteT Tryz.prog 26 = true := eqS (by kernel_rfl)
@[go_sem] theorem sl26 : sliceOf Tryz.prog 26 = none := eqS (by kernel_rfl)
@[go_sem] theorem pl26 : placeOf Tryz.prog 26 = some (plc [(0, 1), (1, 1), (2, 1), (3, 1)]) := eqS (by kernel_rfl)
@[go_sem] theorem fl26_0 : fldOf Tryz.prog 26 0 = some (0, 22, 1) := eqS (by kernel_rfl)
@[go_sem] theorem fl26_1 : fldOf Tryz.prog 26 1 = some (1, 23, 1) := eqS (by kernel_rfl)
@[go_sem] theorem fl26_2 : fldOf Tryz.prog 26 2 = some (2, 24, 1) := eqS (by kernel_rfl)
@[go_sem] theorem fl26_3 : fldOf Tryz.prog 26 3 = some (3, 25, 1) := eqS (by kernel_rfl)
@[go_sem] theorem zo26 : zerosOk Tryz.prog 26 = true := eqS (by kernel_rfl)
@[go_sem] theorem sz27 : szOf Tryz.prog 27 = some 4 := eqS (by kernel_rfl)
@[go_sem] theorem ag27 : aggOf Tryz.prog 27 = some true := eqS (by kernel_rfl)
@[go_sem] theorem ze27 : zeroOf Tryz.prog 27 = some (.agg [.lst true [], .lst true [], .lst true [], .lst true []]) := eqS (by kernel_rfl)
@[go_sem] theorem co27 : concreteT Tryz.prog 27 = true := eqS (by kernel_rfl)
@[go_sem] theorem sl27 : sliceOf Tryz.prog 27 = none := eqS (by kernel_rfl)
@[go_sem] theorem pl27 : placeOf Tryz.prog 27 = some (plc [(0, 1), (1, 1), (2, 1), (3, 1)]) := eqS (by kernel_rfl)
@[go_sem] theorem fl27_0 : fldOf Tryz.prog 27 0 = some (0, 22, 1) := eqS (by kernel_rfl)
@[go_sem] theorem fl27_1 : fldOf Tryz.prog 27 1 = some (1, 23, 1) := eqS (by kernel_rfl)
@[go_sem] theorem fl27_2 : fldOf Tryz.prog 27 2 = some (2, 24, 1) := eqS (by kernel_rfl)
@[go_sem] theorem fl27_3 : fldOf Tryz.prog 27 3 = some (3, 25, 1) := eqS (by kernel_rfl)
@[go_sem] theorem zo27 : zerosOk Tryz.prog 27 = true := eqS (by kernel_rfl)
@[go_sem] theorem sz28 : szOf Tryz.prog 28 = some 1 := eqS (by kernel_rfl)
@[go_sem] theorem ag28 : aggOf Tryz.prog 28 = some false := eqS (by kernel_rfl)
@[go_sem] theorem ze28 : zeroOf Tryz.prog 28 = some (.lst true []) := eqS (by kernel_rfl)
@[go_sem] theorem co28 : concreteT Tryz.prog 28 = true := eqS (by kernel_rfl)
@[go_sem] theorem sl28 : sliceOf Tryz.prog 28 = some (66, 4, 64) := eqS (by kernel_rfl)
@[go_sem] theorem sz29 : szOf Tryz.prog 29 = some 1 := eqS (by kernel_rfl)
@[go_sem] theorem ag29 : aggOf Tryz.prog 29 = some false := eqS (by kernel_rfl)
@[go_sem] theorem ze29 : zeroOf Tryz.prog 29 = some (.lst true []) := eqS (by kernel_rfl)
@[go_sem] theorem co29 : concreteT Tryz.prog 29 = true := eqS (by kernel_rfl)
@[go_sem] theorem sl29 : sliceOf Tryz.prog 29 = some (3, 1, 8) := eqS (by kernel_rfl)
@[go_sem] theorem sz30 : szOf Tryz.prog 30 = some 2 := eqS (by kernel_rfl)
@[go_sem] theorem ag30 : aggOf Tryz.prog 30 = some true := eqS (by kernel_rfl)
@[go_sem] theorem ze30 : zeroOf Tryz.prog 30 = some (.agg [.lst true [], .sc (.int .i64 0)]) := eqS (by kernel_rfl)
@[go_sem] theorem co30 : concreteT Tryz.prog 30 = true := eqS (by kernel_rfl)
@[go_sem] theorem sl30 : sliceOf Tryz.prog 30 = none := eqS (by kernel_rfl)
@[go_sem] theorem pl30 : placeOf Tryz.prog 30 = some (plc [(0, 1), (1, 1)]) := eqS (by kernel_rfl)
@[go_sem] theorem fl30_0 : fldOf Tryz.prog 30 0 = some (0, 29, 1) := eqS (by kernel_rfl)
@[go_sem] theorem fl30_1 : fldOf Tryz.prog 30 1 = some (1, 3, 1) := eqS (by kernel_rfl)
@[go_sem] theorem zo30 : zerosOk Tryz.prog 30 = true := eqS (by kernel_rfl)
@[go_sem] theorem sz31 : szOf Tryz.prog 31 = some 2 := eqS (by kernel_rfl)
@[go_sem] theorem ag31 : aggOf Tryz.prog 31 = some true := eqS (by kernel_rfl)
@[go_sem] theorem ze31 : zeroOf Tryz.prog 31 = some (.agg [.lst true [], .sc (.int .i64 0)]) := eqS (by kernel_rfl)
@[go_sem] theorem co31 : concreteT Tryz.prog 31 = true := eqS (by kernel_rfl)
@[go_sem] theorem sl31 : sliceOf Tryz.prog 31 = none := eqS (by kernel_rfl)
@[go_sem] theorem pl31 : placeOf Tryz.prog 31 = some (plc [(0, 1), (1, 1)]) := eqS (by kernel_rfl)
@[go_sem] theorem fl31_0 : fldOf Tryz.prog 31 0 = some (0, 29, 1) := eqS (by kernel_rfl)
@[go_sem] theorem fl31_1 : fldOf Tryz.prog 31 1 = some (1, 3, 1) := eqS (by kernel_rfl)
@[go_sem] theorem zo31 : zerosOk Tryz.prog 31 = true := eqS (by kernel_rfl)
@[go_sem] theorem sz32 : szOf Tryz.prog 32 = some 1 := eqS (by kernel_rfl)
@[go_sem] theorem ag32 : aggOf Tryz.prog 32 = some false := eqS (by kernel_rfl)
@[go_sem] theorem ze32 : zeroOf Tryz.prog 32 = some (.lst true []) := eqS (by kernel_rfl)
@[go_sem] theorem co32 : concreteT Tryz.prog 32 = true := eqS (by kernel_rfl)
@[go_sem] theorem sl32 : sliceOf Tryz.prog 32 = some (69, 1, 24) := eqS (by kernel_rfl)
@[go_sem] theorem sz33 : szOf Tryz.prog 33 = some 4 := eqS (by kernel_rfl)
@[go_sem] theorem ag33 : aggOf Tryz.prog 33 = some true := eqS (by kernel_rfl)
@[go_sem] theorem ze33 : zeroOf Tryz.prog 33 = some (.agg [.lst true [], .sc (.int .i64 0), .lst true [], .sc (.int .i64 0)]) := eqS (by kernel_rfl)
@[go_sem] theorem co33 : concreteT Tryz.prog 33 = true := eqS (by kernel_rfl)
@[go_sem] theorem sl33 : sliceOf Tryz.prog 33 = none := eqS (by kernel_rfl)
@[go_sem] theorem pl33 : placeOf Tryz.prog 33 = some (plc [(0, 2), (2, 1), (3, 1)]) := eqS (by kernel_rfl)
@[go_sem] theorem fl33_0 : fldOf Tryz.prog 33 0 = some (0, 31, 2) := eqS (by kernel_rfl)
@[go_sem] theorem fl33_1 : fldOf Tryz.prog 33 1 = some (2, 32, 1) := eqS (by kernel_rfl)
@[go_sem] theorem fl33_2 : fldOf Tryz.prog 33 2 = some (3, 3, 1) := eqS (by kernel_rfl)
@[go_sem] theorem zo33 : zerosOk Tryz.prog 33 = true := eqS (by kernel_rfl)
@[go_sem] theorem sz34 : szOf Tryz.prog 34 = some 4 := eqS (by kernel_rfl)
@[go_sem] theorem ag34 : aggOf Tryz.prog 34 = some true := eqS (by kernel_rfl)
@[go_sem] theorem ze34 : zeroOf Tryz.prog 34 = some (.agg [.lst true [], .sc (.int .i64 0), .lst true [], .sc (.int .i64 0)]) := eqS (by kernel_rfl)
@[go_sem] theorem co34 : concreteT Tryz.prog 34 = true := eqS (by kernel_rfl)
@[go_sem] theorem sl34 : sliceOf Tryz.prog 34 = none := eqS (by kernel_rfl)
@[go_sem] theorem pl34 : placeOf Tryz.prog 34 = some (plc [(0, 2), (2, 1), (3, 1)]) := eqS (by kernel_rfl)
@[go_sem] theorem fl34_0 : fldOf Tryz.prog 34 0 = some (0, 31, 2) := eqS (by kernel_rfl)
@[go_sem] theorem fl34_1 : fldOf Tryz.prog 34 1 = some (2, 32, 1) := eqS (by kernel_rfl)
@[go_sem] theorem fl34_2 : fldOf Tryz.prog 34 2 = some (3, 3, 1) := eqS (by kernel_rfl)
@[go_sem] theorem zo34 : zerosOk Tryz.prog 34 = true := eqS (by kernel_rfl)
@[go_sem] theorem sz35 : szOf Tryz.prog 35 = some 1 := eqS (by kernel_rfl)
@[go_sem] theorem ag35 : aggOf Tryz.prog 35 = some false := eqS (by kernel_rfl)
@[go_sem] theorem ze35 : zeroOf Tryz.prog 35 = some (.sc .nilFunc) := eqS (by kernel_rfl)
@[go_sem] theorem co35 : concreteT Tryz.prog 35 = true := eqS (by kernel_rfl)
@[go_sem] theorem sl35 : sliceOf Tryz.prog 35 = none := eqS (by kernel_rfl)
@[go_sem] theorem sz36 : szOf Tryz.prog 36 = some 1 := eqS (by kernel_rfl)
@[go_sem] theorem ag36 : aggOf Tryz.prog 36 = some false := eqS (by kernel_rfl)
@[go_sem] theorem ze36 : zeroOf Tryz.prog 36 = some (.sc .nilFunc) := eqS (by kernel_rfl)
@[go_sem] theorem co36 : concreteT Tryz.prog 36 = true := eqS (by kernel_rfl)
@[go_sem] theorem sl36 : sliceOf Tryz.prog 36 = none := eqS (by kernel_rfl)
@[go_sem] theorem sz37 : szOf Tryz.prog 37 = some 1 := eqS (by kernel_rfl)
@[go_sem] theorem ag37 : aggOf Tryz.prog 37 = some false := eqS (by kernel_rfl)
@[go_sem] theorem ze37 : zeroOf Tryz.prog 37 = some (.sc .nilFunc) := eqS (by kernel_rfl)
@[go_sem] theorem co37 : concreteT Tryz.prog 37 = true := eqS (by kernel_rfl)
@[go_sem] theorem sl37 : sliceOf Tryz.prog 37 = none := eqS (by kernel_rfl)
@[go_sem] theorem sz38 : szOf Tryz.prog 38 = some 1 := eqS (by kernel_rfl)
@[go_sem] theorem ag38 : aggOf Tryz.prog 38 = some false := eqS (by kernel_rfl)
@[go_sem] theorem ze38 : zeroOf Tryz.prog 38 = some (.sc .nilFunc) := eqS (by kernel_rfl)
@[go_sem] theorem co38 : concreteT Tryz.prog 38 = true := eqS (by kernel_rfl)
@[go_sem] theorem sl38 : sliceOf Tryz.prog 38 = none := eqS (by kernel_rfl)
@[go_sem] theorem sz39 : szOf Tryz.prog 39 = some 1 := eqS (by kernel_rfl)
@[go_sem] theorem ag39 : aggOf Tryz.prog 39 = some false := eqS (by kernel_rfl)
@[go_sem] theorem ze39 : zeroOf Tryz.prog 39 = some (.sc .nilFunc) := eqS (by kernel_rfl)
@[go_sem] theorem co39 : concreteT Tryz.prog 39 = true := eqS (by kernel_rfl)
@[go_sem] theorem sl39 : sliceOf Tryz.prog 39 = none := eqS (by kernel_rfl)
@[go_sem] theorem sz40 : szOf Tryz.prog 40 = some 1 := eqS (by kernel_rfl)
@[go_sem] theorem ag40 : aggOf Tryz.prog 40 = some false := eqS (by kernel_rfl)
@[go_sem] theorem ze40 : zeroOf Tryz.prog 40 = some (.lst true []) := eqS (by kernel_rfl)
@[go_sem] theorem co40 : concreteT Tryz.prog 40 = true := eqS (by kernel_rfl)
@[go_sem] theorem sl40 : sliceOf Tryz.prog 40 = some (34, 4, 64) := eqS (by kernel_rfl)
@[go_sem] theorem sz41 : szOf Tryz.prog 41 = some 1 := eqS (by kernel_rfl)
@[go_sem] theorem ag41 : aggOf Tryz.prog 41 = some false := eqS (by kernel_rfl)
@[go_sem] theorem ze41 : zeroOf Tryz.prog 41 = some (.sc .nilFunc) := eqS (by kernel_rfl)
@[go_sem] theorem co41 : concreteT Tryz.prog 41 = true := eqS (by kernel_rfl)
@[go_sem] theorem sl41 : sliceOf Tryz.prog 41 = none := eqS (by kernel_rfl)
@[go_sem] theorem sz42 : szOf Tryz.prog 42 = some 1 := eqS (by kernel_rfl)
@[go_sem] theorem ag42 : aggOf Tryz.prog 42 = some false := eqS (by kernel_rfl)
@[go_sem] theorem ze42 : zeroOf Tryz.prog 42 = some (.sc .nilFunc) := eqS (by kernel_rfl)
@[go_sem] theorem co42 : concreteT Tryz.prog 42 = true := eqS (by kernel_rfl)
@[go_sem] theorem sl42 : sliceOf Tryz.prog 42 = none := eqS (by kernel_rfl)
@[go_sem] theorem sz43 : szOf Tryz.prog 43 = some 1 := eqS (by kernel_rfl)
@[go_sem] theorem ag43 : aggOf Tryz.prog 43 = some false := eqS (by kernel_rfl)
@[go_sem] theorem ze43 : zeroOf Tryz.prog 43 = some (.lst true []) := eqS (by kernel_rfl)
@[go_sem] theorem co43 : concreteT Tryz.prog 43 = true := eqS (by kernel_rfl)
@[go_sem] theorem sl43 : sliceOf Tryz.prog 43 = some (29, 1, 24) := eqS (by kernel_rfl)
@[go_sem] theorem sz44 : szOf Tryz.prog 44 = some 1 := eqS (by kernel_rfl)
@[go_sem] theorem ag44 : aggOf Tryz.prog 44 = some false := eqS (by kernel_rfl)
@[go_sem] theorem ze44 : zeroOf Tryz.prog 44 = some (.sc .nilFunc) := eqS (by kernel_rfl)
@[go_sem] theorem co44 : concreteT Tryz.prog 44 = true := eqS (by kernel_rfl)
@[go_sem] theorem sl44 : sliceOf Tryz.prog 44 = none := eqS (by kernel_rfl)
@[go_sem] theorem sz45 : szOf Tryz.prog 45 = some 1 := eqS (by kernel_rfl)
@[go_sem] theorem ag45 : aggOf Tryz.prog 45 = some false := eqS (by kernel_rfl)
@[go_sem] theorem ze45 : zeroOf Tryz.prog 45 = some (.sc (.int .u16 0)) := eqS (by kernel_rfl)
@[go_sem] theorem co45 : concreteT Tryz.prog 45 = true := eqS (by kernel_rfl)
@[go_sem] theorem sl45 : sliceOf Tryz.prog 45 = none := eqS (by kernel_rfl)
@[go_sem] theorem un45 : Tryz.prog.underlying 45 = some (.int .u16) := eqS (by kernel_rfl)
@[go_sem] theorem sz46 : szOf Tryz.prog 46 = some 1 := eqS (by kernel_rfl)
@[go_sem] theorem ag46 : aggOf Tryz.prog 46 = some false := eqS (by kernel_rfl)
@[go_sem] theorem ze46 : zeroOf Tryz.prog 46 = some (.sc .nilFunc) := eqS (by kernel_rfl)
@[go_sem] theorem co46 : concreteT Tryz.prog 46 = true := eqS (by kernel_rfl)
@[go_sem] theorem sl46 : sliceOf Tryz.prog 46 = none := eqS (by kernel_rfl)
@[go_sem] theorem sz47 : szOf Tryz.prog 47 = some 1 := eqS (by kernel_rfl)
@[go_sem] theorem ag47 : aggOf Tryz.prog 47 = some false := eqS (by kernel_rfl)
@[go_sem] theorem ze47 : zeroOf Tryz.prog 47 = some (.sc .nilFunc) := eqS (by kernel_rfl)
@[go_sem] theorem co47 : concreteT Tryz.prog 47 = true := eqS (by kernel_rfl)
@[go_sem] theorem sl47 : sliceOf Tryz.prog 47 = none := eqS (by kernel_rfl)
@[go_sem] theorem sz48 : szOf Tryz.prog 48 = some 1 := eqS (by kernel_rfl)
@[go_sem] theorem ag48 : aggOf Tryz.prog 48 = some false := eqS (by kernel_rfl)
@[go_sem] theorem ze48 : zeroOf Tryz.prog 48 = some (.sc .nilFunc) := eqS (by kernel_rfl)
@[go_sem] theorem co48 : concreteT Tryz.prog 48 = true := eqS (by kernel_rfl)
@[go_sem] theorem sl48 : sliceOf Tryz.prog 48 = none := eqS (by kernel_rfl)
@[go_sem] theorem sz49 : szOf Tryz.prog 49 = some 1 := eqS (by kernel_rfl)
@[go_sem] theorem ag49 : aggOf Tryz.prog 49 = some false := eqS (by kernel_rfl)
@[go_sem] theorem ze49 : zeroOf Tryz.prog 49 = some (.sc .nilFunc) := eqS (by kernel_rfl)
@[go_sem] theorem co49 : concreteT Tryz.prog 49 = true := eqS (by kernel_rfl)
@[go_sem] theorem sl49 : sliceOf Tryz.prog 49 = none := eqS (by kernel_rfl)
@[go_sem] theorem sz50 : szOf Tryz.prog 50 = some 1 := eqS (by kernel_rfl)
@[go_sem] theorem ag50 : aggOf Tryz.prog 50 = some false := eqS (by kernel_rfl)
@[go_sem] theorem ze50 : zeroOf Tryz.prog 50 = some (.sc .nilFunc) := eqS (by kernel_rfl)
@[go_sem] theorem co50 : concreteT Tryz.prog 50 = true := eqS (by kernel_rfl)
@[go_sem] theorem sl50 : sliceOf Tryz.prog 50 = none := eqS (by kernel_rfl)
@[go_sem] theorem sz51 : szOf Tryz.prog 51 = some 1 := eqS (by kernel_rfl)
@[go_sem] theorem ag51 : aggOf Tryz.prog 51 = some false := eqS (by kernel_rfl)
@[go_sem] theorem ze51 : zeroOf Tryz.prog 51 = some (.sc .nilFunc) := eqS (by kernel_rfl)
@[go_sem] theorem co51 : concreteT Tryz.prog 51 = true := eqS (by kernel_rfl)
@[go_sem] theorem sl51 : sliceOf Tryz.prog 51 = none := eqS (by kernel_rfl)
@[go_sem] theorem sz52 : szOf Tryz.prog 52 = some 1 := eqS (by kernel_rfl)
@[go_sem] theorem ag52 : aggOf Tryz.prog 52 = some false := eqS (by kernel_rfl)
@[go_sem] theorem ze52 : zeroOf Tryz.prog 52 = some (.sc .nilFunc) := eqS (by kernel_rfl)
@[go_sem] theorem co52 : concreteT Tryz.prog 52 = true := eqS (by kernel_rfl)
@[go_sem] theorem sl52 : sliceOf Tryz.prog 52 = none := eqS (by kernel_rfl)
@[go_sem] theorem sz53 : szOf Tryz.prog 53 = some 1 := eqS (by kernel_rfl)
@[go_sem] theorem ag53 : aggOf Tryz.prog 53 = some false := eqS (by kernel_rfl)
@[go_sem] theorem ze53 : zeroOf Tryz.prog 53 = some (.sc .nilFunc) := eqS (by kernel_rfl)
@[go_sem] theorem co53 : concreteT Tryz.prog 53 = true := eqS (by kernel_rfl)
@[go_sem] theorem sl53 : sliceOf Tryz.prog 53 = none := eqS (by kernel_rfl)
@[go_sem] theorem sz54 : szOf Tryz.prog 54 = some 1 := eqS (by kernel_rfl)
@[go_sem] theorem ag54 : aggOf Tryz.prog 54 = some false := eqS (by kernel_rfl)
@[go_sem] theorem ze54 : zeroOf Tryz.prog 54 = some (.sc .nilFunc) := eqS (by kernel_rfl)
@[go_sem] theorem co54 : concreteT Tryz.prog 54 = true := eqS (by kernel_rfl)
@[go_sem] theorem sl54 : sliceOf Tryz.prog 54 = none := eqS (by kernel_rfl)
@[go_sem] theorem sz55 : szOf Tryz.prog 55 = some 1 := eqS (by kernel_rfl)
@[go_sem] theorem ag55 : aggOf Tryz.prog 55 = some false := eqS (by kernel_rfl)
@[go_sem] theorem ze55 : zeroOf Tryz.prog 55 = some (.sc .nilFunc) := eqS (by kernel_rfl)
@[go_sem] theorem co55 : concreteT Tryz.prog 55 = true := eqS (by kernel_rfl)
@[go_sem] theorem sl55 : sliceOf Tryz.prog 55 = none := eqS (by kernel_rfl)
@[go_sem] theorem sz56 : szOf Tryz.prog 56 = some 1 := eqS (by kernel_rfl)
@[go_sem] theorem ag56 : aggOf Tryz.prog 56 = some false := eqS (by kernel_rfl)
@[go_sem] theorem ze56 : zeroOf Tryz.prog 56 = some (.sc .nilFunc) := eqS (by kernel_rfl)
@[go_sem] theorem co56 : concreteT Tryz.prog 56 = true := eqS (by kernel_rfl)
@[go_sem] theorem sl56 : sliceOf Tryz.prog 56 = none := eqS (by kernel_rfl)
@[go_sem] theorem sz57 : szOf Tryz.prog 57 = some 1 := eqS (by kernel_rfl)
@[go_sem] theorem ag57 : aggOf Tryz.prog 57 = some false := eqS (by kernel_rfl)
@[go_sem] theorem ze57 : zeroOf Tryz.prog 57 = some (.sc .nilFunc) := eqS (by kernel_rfl)
@[go_sem] theorem co57 : concreteT Tryz.prog 57 = true := eqS (by kernel_rfl)
@[go_sem] theorem sl57 : sliceOf Tryz.prog 57 = none := eqS (by kernel_rfl)
@[go_sem] theorem sz58 : szOf Tryz.prog 58 = some 1 := eqS (by kernel_rfl)
@[go_sem] theorem ag58 : aggOf Tryz.prog 58 = some false := eqS (by kernel_rfl)
@[go_sem] theorem ze58 : zeroOf Tryz.prog 58 = some (.sc .nilFunc) := eqS (by kernel_rfl)
@[go_sem] theorem co58 : concreteT Tryz.prog 58 = true := eqS (by kernel_rfl)
@[go_sem] theorem sl58 : sliceOf Tryz.prog 58 = none := eqS (by kernel_rfl)
@[go_sem] theorem sz59 : szOf Tryz.prog 59 = some 2 := eqS (by kernel_rfl)
@[go_sem] theorem ag59 : aggOf Tryz.prog 59 = some true := eqS (by kernel_rfl)
@[go_sem] theorem ze59 : zeroOf Tryz.prog 59 = some (.agg [.sc (.string ⟨#[]⟩), .sc (.bool false)]) := eqS (by kernel_rfl)
@[go_sem] theorem co59 : concreteT Tryz.prog 59 = true := eqS (by kernel_rfl)
@[go_sem] theorem sl59 : sliceOf Tryz.prog 59 = none := eqS (by kernel_rfl)
@[go_sem] theorem pl59 : placeOf Tryz.prog 59 = some (plc [(0, 1), (1, 1)]) := eqS (by kernel_rfl)
@[go_sem] theorem fl59_0 : fldOf Tryz.prog 59 0 = some (0, 9, 1) := eqS (by kernel_rfl)
@[go_sem] theorem fl59_1 : fldOf Tryz.prog 59 1 = some (1, 4, 1) := eqS (by kernel_rfl)
@[go_sem] theorem zo59 : zerosOk Tryz.prog 59 = true := eqS (by kernel_rfl)
@[go_sem] theorem sz60 : szOf Tryz.prog 60 = some 2 := eqS (by kernel_rfl)
@[go_sem] theorem ag60 : aggOf Tryz.prog 60 = some true := eqS (by kernel_rfl)
@[go_sem] theorem ze60 : zeroOf Tryz.prog 60 = some (.agg [.sc (.string ⟨#[]⟩), .sc (.bool false)]) := eqS (by kernel_rfl)
@[go_sem] theorem co60 : concreteT Tryz.prog 60 = true := eqS (by kernel_rfl)
@[go_sem] theorem sl60 : sliceOf Tryz.prog 60 = none := eqS (by kernel_rfl)
@[go_sem] theorem pl60 : placeOf Tryz.prog 60 = some (plc [(0, 1), (1, 1)]) := eqS (by kernel_rfl)
@[go_sem] theorem fl60_0 : fldOf Tryz.prog 60 0 = some (0, 9, 1) := eqS (by kernel_rfl)
@[go_sem] theorem fl60_1 : fldOf Tryz.prog 60 1 = some (1, 4, 1) := eqS (by kernel_rfl)
@[go_sem] theorem zo60 : zerosOk Tryz.prog 60 = true := eqS (by kernel_rfl)
@[go_sem] theorem sz61 : szOf Tryz.prog 61 = some 3 := eqS (by kernel_rfl)
@[go_sem] theorem ag61 : aggOf Tryz.prog 61 = some true := eqS (by kernel_rfl)
@[go_sem] theorem ze61 : zeroOf Tryz.prog 61 = some (.agg [.sc (.string ⟨#[]⟩), .lst true [], .sc (.bool false)]) := eqS (by kernel_rfl)
@[go_sem] theorem co61 : concreteT Tryz.prog 61 = true := eqS (by kernel_rfl)
@[go_sem] theorem sl61 : sliceOf Tryz.prog 61 = none := eqS (by kernel_rfl)
@[go_sem] theorem pl61 : placeOf Tryz.prog 61 = some (plc [(0, 1), (1, 1), (2, 1)]) := eqS (by kernel_rfl)
@[go_sem] theorem fl61_0 : fldOf Tryz.prog 61 0 = some (0, 9, 1) := eqS (by kernel_rfl)
@[go_sem] theorem fl61_1 : fldOf Tryz.prog 61 1 = some (1, 29, 1) := eqS (by kernel_rfl)
@[go_sem] theorem fl61_2 : fldOf Tryz.prog 61 2 = some (2, 4, 1) := eqS (by kernel_rfl)
@[go_sem] theorem zo61 : zerosOk Tryz.prog 61 = true := eqS (by kernel_rfl)
@[go_sem] theorem sz62 : szOf Tryz.prog 62 = some 3 := eqS (by kernel_rfl)
@[go_sem] theorem ag62 : aggOf Tryz.prog 62 = some true := eqS (by kernel_rfl)
@[go_sem] theorem ze62 : zeroOf Tryz.prog 62 = some (.agg [.sc (.string ⟨#[]⟩), .lst true [], .sc (.bool false)]) := eqS (by kernel_rfl)
@[go_sem] theorem co62 : concreteT Tryz.prog 62 = true := eqS (by kernel_rfl)
@[go_sem] theorem sl62 : sliceOf Tryz.prog 62 = none := eqS (by kernel_rfl)
@[go_sem] theorem pl62 : placeOf Tryz.prog 62 = some (plc [(0, 1), (1, 1), (2, 1)]) := eqS (by kernel_rfl)
@[go_sem] theorem fl62_0 : fldOf Tryz.prog 62 0 = some (0, 9, 1) := eqS (by kernel_rfl)
@[go_sem] theorem fl62_1 : fldOf Tryz.prog 62 1 = some (1, 29, 1) := eqS (by kernel_rfl)
@[go_sem] theorem fl62_2 : fldOf Tryz.prog 62 2 = some (2, 4, 1) := eqS (by kernel_rfl)
@[go_sem] theorem zo62 : zerosOk Tryz.prog 62 = true := eqS (by kernel_rfl)
@[go_sem] theorem sz63 : szOf Tryz.prog 63 = some 2 := eqS (by kernel_rfl)
@[go_sem] theorem ag63 : aggOf Tryz.prog 63 = some true := eqS (by kernel_rfl)
@[go_sem] theorem ze63 : zeroOf Tryz.prog 63 = some (.agg [.sc (.int .i64 0), .lst true []]) := eqS (by kernel_rfl)
@[go_sem] theorem co63 : concreteT Tryz.prog 63 = true := eqS (by kernel_rfl)
@[go_sem] theorem sl63 : sliceOf Tryz.prog 63 = none := eqS (by kernel_rfl)
@[go_sem] theorem pl63 : placeOf Tryz.prog 63 = some (plc [(0, 1), (1, 1)]) := eqS (by kernel_rfl)
@[go_sem] theorem fl63_0 : fldOf Tryz.prog 63 0 = some (0, 3, 1) := eqS (by kernel_rfl)
@[go_sem] theorem fl63_1 : fldOf Tryz.prog 63 1 = some (1, 29, 1) := eqS (by kernel_rfl)
@[go_sem] theorem zo63 : zerosOk Tryz.prog 63 = true := eqS (by kernel_rfl)
@[go_sem] theorem sz64 : szOf Tryz.prog 64 = some 2 := eqS (by kernel_rfl)
@[go_sem] theorem ag64 : aggOf Tryz.prog 64 = some true := eqS (by kernel_rfl)
@[go_sem] theorem ze64 : zeroOf Tryz.prog 64 = some (.agg [.sc (.int .i64 0), .lst true []]) := eqS (by kernel_rfl)
@[go_sem] theorem co64 : concreteT Tryz.prog 64 = true := eqS (by kernel_rfl)
@[go_sem] theorem sl64 : sliceOf Tryz.prog 64 = none := eqS (by kernel_rfl)
@[go_sem] theorem pl64 : placeOf Tryz.prog 64 = some (plc [(0, 1), (1, 1)]) := eqS (by kernel_rfl)
@[go_sem] theorem fl64_0 : fldOf Tryz.prog 64 0 = some (0, 3, 1) := eqS (by kernel_rfl)
@[go_sem] theorem fl64_1 : fldOf Tryz.prog 64 1 = some (1, 29, 1) := eqS (by kernel_rfl)
@[go_sem] theorem zo64 : zerosOk Tryz.prog 64 = true := eqS (by kernel_rfl)
@[go_sem] theorem sz65 : szOf Tryz.prog 65 = some 4 := eqS (by kernel_rfl)
@[go_sem] theorem ag65 : aggOf Tryz.prog 65 = some true := eqS (by kernel_rfl)
@[go_sem] theorem ze65 : zeroOf Tryz.prog 65 = some (.agg [.sc (.int .i64 0), .lst true [], .sc (.int .i64 0), .lst true []]) := eqS (by kernel_rfl)
@[go_sem] theorem co65 : concreteT Tryz.prog 65 = true := eqS (by kernel_rfl)
@[go_sem] theorem sl65 : sliceOf Tryz.prog 65 = none := eqS (by kernel_rfl)
@[go_sem] theorem pl65 : placeOf Tryz.prog 65 = some (plc [(0, 2), (2, 2)]) := eqS (by kernel_rfl)
@[go_sem] theorem fl65_0 : fldOf Tryz.prog 65 0 = some (0, 64, 2) := eqS (by kernel_rfl)
@[go_sem] theorem fl65_1 : fldOf Tryz.prog 65 1 = some (2, 64, 2) := eqS (by kernel_rfl)
@[go_sem] theorem zo65 : zerosOk Tryz.prog 65 = true := eqS (by kernel_rfl)
@[go_sem] theorem sz66 : szOf Tryz.prog 66 = some 4 := eqS (by kernel_rfl)
@[go_sem] theorem ag66 : aggOf Tryz.prog 66 = some true := eqS (by kernel_rfl)
@[go_sem] theorem ze66 : zeroOf Tryz.prog 66 = some (.agg [.sc (.int .i64 0), .lst true [], .sc (.int .i64 0), .lst true []]) := eqS (by kernel_rfl)
@[go_sem] theorem co66 : concreteT Tryz.prog 66 = true := eqS (by kernel_rfl)
@[go_sem] theorem sl66 : sliceOf Tryz.prog 66 = none := eqS (by kernel_rfl)
@[go_sem] theorem pl66 : placeOf Tryz.prog 66 = some (plc [(0, 2), (2, 2)]) := eqS (by kernel_rfl)
@[go_sem] theorem fl66_0 : fldOf Tryz.prog 66 0 = some (0, 64, 2) := eqS (by kernel_rfl)
@[go_sem] theorem fl66_1 : fldOf Tryz.prog 66 1 = some (2, 64, 2) := eqS (by kernel_rfl)
@[go_sem] theorem zo66 : zerosOk Tryz.prog 66 = true := eqS (by kernel_rfl)
@[go_sem] theorem sz67 : szOf Tryz.prog 67 = some 1 := eqS (by kernel_rfl)
@[go_sem] theorem ag67 : aggOf Tryz.prog 67 = some false := eqS (by kernel_rfl)
@[go_sem] theorem ze67 : zeroOf Tryz.prog 67 = some (.sc .nilFunc) := eqS (by kernel_rfl)
@[go_sem] theorem co67 : concreteT Tryz.prog 67 = true := eqS (by kernel_rfl)
@[go_sem] theorem sl67 : sliceOf Tryz.prog 67 = none := eqS (by kernel_rfl)
@[go_sem] theorem sz68 : szOf Tryz.prog 68 = some 1 := eqS (by kernel_rfl)
@[go_sem] theorem ag68 : aggOf Tryz.prog 68 = some false := eqS (by kernel_rfl)
@[go_sem] theorem ze68 : zeroOf Tryz.prog 68 = some (.sc .nilFunc) := eqS (by kernel_rfl)
@[go_sem] theorem co68 : concreteT Tryz.prog 68 = true := eqS (by kernel_rfl)
@[go_sem] theorem sl68 : sliceOf Tryz.prog 68 = none := eqS (by kernel_rfl)
@[go_sem] theorem sz69 : szOf Tryz.prog 69 = some 1 := eqS (by kernel_rfl)
@[go_sem] theorem ag69 : aggOf Tryz.prog 69 = some false := eqS (by kernel_rfl)
@[go_sem] theorem ze69 : zeroOf Tryz.prog 69 = some (.lst true []) := eqS (by kernel_rfl)
@[go_sem] theorem co69 : concreteT Tryz.prog 69 = true := eqS (by kernel_rfl)
@[go_sem] theorem sl69 : sliceOf Tryz.prog 69 = some (64, 2, 32) := eqS (by kernel_rfl)
@[go_sem] theorem sz70 : szOf Tryz.prog 70 = some 1 := eqS (by kernel_rfl)
@[go_sem] theorem ag70 : aggOf Tryz.prog 70 = some false := eqS (by kernel_rfl)
@[go_sem] theorem ze70 : zeroOf Tryz.prog 70 = some (.sc .nilFunc) := eqS (by kernel_rfl)
@[go_sem] theorem co70 : concreteT Tryz.prog 70 = true := eqS (by kernel_rfl)
@[go_sem] theorem sl70 : sliceOf Tryz.prog 70 = none := eqS (by kernel_rfl)
@[go_sem] theorem sz71 : szOf Tryz.prog 71 = some 1 := eqS (by kernel_rfl)
@[go_sem] theorem ag71 : aggOf Tryz.prog 71 = some false := eqS (by kernel_rfl)
@[go_sem] theorem ze71 : zeroOf Tryz.prog 71 = some (.sc .nilFunc) := eqS (by kernel_rfl)
@[go_sem] theorem co71 : concreteT Tryz.prog 71 = true := eqS (by kernel_rfl)
@[go_sem] theorem sl71 : sliceOf Tryz.prog 71 = none := eqS (by kernel_rfl)
@[go_sem] theorem sz72 : szOf Tryz.prog 72 = some 1 := eqS (by kernel_rfl)
@[go_sem] theorem ag72 : aggOf Tryz.prog 72 = some false := eqS (by kernel_rfl)
@[go_sem] theorem ze72 : zeroOf Tryz.prog 72 = some (.sc .nilFunc) := eqS (by kernel_rfl)
@[go_sem] theorem co72 : concreteT Tryz.prog 72 = true := eqS (by kernel_rfl)
@[go_sem] theorem sl72 : sliceOf Tryz.prog 72 = none := eqS (by kernel_rfl)
@[go_sem] theorem sz73 : szOf Tryz.prog 73 = some 1 := eqS (by kernel_rfl)
@[go_sem] theorem ag73 : aggOf Tryz.prog 73 = some false := eqS (by kernel_rfl)
@[go_sem] theorem ze73 : zeroOf Tryz.prog 73 = some (.sc .nilFunc) := eqS (by kernel_rfl)
@[go_sem] theorem co73 : concreteT Tryz.prog 73 = true := eqS (by kernel_rfl)
@[go_sem] theorem sl73 : sliceOf Tryz.prog 73 = none := eqS (by kernel_rfl)
@[go_sem] theorem sz74 : szOf Tryz.prog 74 = some 1 := eqS (by kernel_rfl)
@[go_sem] theorem ag74 : aggOf Tryz.prog 74 = some false := eqS (by kernel_rfl)
@[go_sem] theorem ze74 : zeroOf Tryz.prog 74 = some (.sc .nilFunc) := eqS (by kernel_rfl)
@[go_sem] theorem co74 : concreteT Tryz.prog 74 = true := eqS (by kernel_rfl)
@[go_sem] theorem sl74 : sliceOf Tryz.prog 74 = none := eqS (by kernel_rfl)
@[go_sem] theorem sz75 : szOf Tryz.prog 75 = some 1 := eqS (by kernel_rfl)
@[go_sem] theorem ag75 : aggOf Tryz.prog 75 = some false := eqS (by kernel_rfl)
@[go_sem] theorem ze75 : zeroOf Tryz.prog 75 = some (.sc .nilFunc) := eqS (by kernel_rfl)
@[go_sem] theorem co75 : concreteT Tryz.prog 75 = true := eqS (by kernel_rfl)
@[go_sem] theorem sl75 : sliceOf Tryz.prog 75 = none := eqS (by kernel_rfl)
@[go_sem] theorem sz76 : szOf Tryz.prog 76 = some 1 := eqS (by kernel_rfl)
@[go_sem] theorem ag76 : aggOf Tryz.prog 76 = some false := eqS (by kernel_rfl)
@[go_sem] theorem ze76 : zeroOf Tryz.prog 76 = some (.sc .nilFunc) := eqS (by kernel_rfl)
@[go_sem] theorem co76 : concreteT Tryz.prog 76 = true := eqS (by kernel_rfl)
@[go_sem] theorem sl76 : sliceOf Tryz.prog 76 = none := eqS (by kernel_rfl)
@[go_sem] theorem sz77 : szOf Tryz.prog 77 = some 1 := eqS (by kernel_rfl)
@[go_sem] theorem ag77 : aggOf Tryz.prog 77 = some false := eqS (by kernel_rfl)
@[go_sem] theorem ze77 : zeroOf Tryz.prog 77 = some (.sc .nilFunc) := eqS (by kernel_rfl)
@[go_sem] theorem co77 : concreteT Tryz.prog 77 = true := eqS (by kernel_rfl)
@[go_sem] theorem sl77 : sliceOf Tryz.prog 77 = none := eqS (by kernel_rfl)
@[go_sem] theorem sz78 : szOf Tryz.prog 78 = some 1 := eqS (by kernel_rfl)
@[go_sem] theorem ag78 : aggOf Tryz.prog 78 = some false := eqS (by kernel_rfl)
@[go_sem] theorem ze78 : zeroOf Tryz.prog 78 = some (.sc .nilFunc) := eqS (by kernel_rfl)
@[go_sem] theorem co78 : concreteT Tryz.prog 78 = true := eqS (by kernel_rfl)
@[go_sem] theorem sl78 : sliceOf Tryz.prog 78 = none := eqS (by kernel_rfl)
@[go_sem] theorem sz79 : szOf Tryz.prog 79 = some 1 := eqS (by kernel_rfl)
@[go_sem] theorem ag79 : aggOf Tryz.prog 79 = some false := eqS (by kernel_rfl)
@[go_sem] theorem ze79 : zeroOf Tryz.prog 79 = some (.sc .nilFunc) := eqS (by kernel_rfl)
@[go_sem] theorem co79 : concreteT Tryz.prog 79 = true := eqS (by kernel_rfl)
@[go_sem] theorem sl79 : sliceOf Tryz.prog 79 = none := eqS (by kernel_rfl)
@[go_sem] theorem sz80 : szOf Tryz.prog 80 = some 1 := eqS (by kernel_rfl)
@[go_sem] theorem ag80 : aggOf Tryz.prog 80 = some false := eqS (by kernel_rfl)
@[go_sem] theorem ze80 : zeroOf Tryz.prog 80 = some (.sc .nilFunc) := eqS (by kernel_rfl)
@[go_sem] theorem co80 : concreteT Tryz.prog 80 = true := eqS (by kernel_rfl)
@[go_sem] theorem sl80 : sliceOf Tryz.prog 80 = none := eqS (by kernel_rfl)
@[go_sem] theorem sz81 : szOf Tryz.prog 81 = some 1 := eqS (by kernel_rfl)
@[go_sem] theorem ag81 : aggOf Tryz.prog 81 = some false := eqS (by kernel_rfl)
@[go_sem] theorem ze81 : zeroOf Tryz.prog 81 = some (.sc .nilFunc) := eqS (by kernel_rfl)
@[go_sem] theorem co81 : concreteT Tryz.prog 81 = true := eqS (by kernel_rfl)
@[go_sem] theorem sl81 : sliceOf Tryz.prog 81 = none := eqS (by kernel_rfl)
@[go_sem] theorem sz82 : szOf Tryz.prog 82 = some 1 := eqS (by kernel_rfl)
@[go_sem] theorem ag82 : aggOf Tryz.prog 82 = some false := eqS (by kernel_rfl)
@[go_sem] theorem ze82 : zeroOf Tryz.prog 82 = some (.sc .nilFunc) := eqS (by kernel_rfl)
@[go_sem] theorem co82 : concreteT Tryz.prog 82 = true := eqS (by kernel_rfl)
@[go_sem] theorem sl82 : sliceOf Tryz.prog 82 = none := eqS (by kernel_rfl)
@[go_sem] theorem sz83 : szOf Tryz.prog 83 = some 1 := eqS (by kernel_rfl)
@[go_sem] theorem ag83 : aggOf Tryz.prog 83 = some false := eqS (by kernel_rfl)
@[go_sem] theorem ze83 : zeroOf Tryz.prog 83 = some (.sc .nilFunc) := eqS (by kernel_rfl)
@[go_sem] theorem co83 : concreteT Tryz.prog 83 = true := eqS (by kernel_rfl)
@[go_sem] theorem sl83 : sliceOf Tryz.prog 83 = none := eqS (by kernel_rfl)
@[go_sem] theorem sz84 : szOf Tryz.prog 84 = some 1 := eqS (by kernel_rfl)
@[go_sem] theorem ag84 : aggOf Tryz.prog 84 = some false := eqS (by kernel_rfl)
@[go_sem] theorem ze84 : zeroOf Tryz.prog 84 = some (.sc .nilFunc) := eqS (by kernel_rfl)
@[go_sem] theorem co84 : concreteT Tryz.prog 84 = true := eqS (by kernel_rfl)
@[go_sem] theorem sl84 : sliceOf Tryz.prog 84 = none := eqS (by kernel_rfl)
@[go_sem] theorem sz85 : szOf Tryz.prog 85 = some 1 := eqS (by kernel_rfl)
@[go_sem] theorem ag85 : aggOf Tryz.prog 85 = some false := eqS (by kernel_rfl)
@[go_sem] theorem ze85 : zeroOf Tryz.prog 85 = some (.lst true []) := eqS (by kernel_rfl)
@[go_sem] theorem co85 : concreteT Tryz.prog 85 = true := eqS (by kernel_rfl)
@[go_sem] theorem sl85 : sliceOf Tryz.prog 85 = some (91, 2, 16) := eqS (by kernel_rfl)
@[go_sem] theorem sz86 : szOf Tryz.prog 86 = some 1 := eqS (by kernel_rfl)
@[go_sem] theorem ag86 : aggOf Tryz.prog 86 = some false := eqS (by kernel_rfl)
@[go_sem] theorem ze86 : zeroOf Tryz.prog 86 = some (.sc .nilFunc) := eqS (by kernel_rfl)
@[go_sem] theorem co86 : concreteT Tryz.prog 86 = true := eqS (by kernel_rfl)
@[go_sem] theorem sl86 : sliceOf Tryz.prog 86 = none := eqS (by kernel_rfl)
@[go_sem] theorem sz88 : szOf Tryz.prog 88 = some 1 := eqS (by kernel_rfl)
@[go_sem] theorem ag88 : aggOf Tryz.prog 88 = some false := eqS (by kernel_rfl)
@[go_sem] theorem ze88 : zeroOf Tryz.prog 88 = some (.sc .nilFunc) := eqS (by kernel_rfl)
@[go_sem] theorem co88 : concreteT Tryz.prog 88 = true := eqS (by kernel_rfl)
@[go_sem] theorem sl88 : sliceOf Tryz.prog 88 = none := eqS (by kernel_rfl)
@[go_sem] theorem sz89 : szOf Tryz.prog 89 = some 1 := eqS (by kernel_rfl)
@[go_sem] theorem ag89 : aggOf Tryz.prog 89 = some false := eqS (by kernel_rfl)
@[go_sem] theorem ze89 : zeroOf Tryz.prog 89 = some (.sc .nilFunc) := eqS (by kernel_rfl)
@[go_sem] theorem co89 : concreteT Tryz.prog 89 = true := eqS (by kernel_rfl)
@[go_sem] theorem sl89 : sliceOf Tryz.prog 89 = none := eqS (by kernel_rfl)
@[go_sem] theorem sz90 : szOf Tryz.prog 90 = some 1 := eqS (by kernel_rfl)
@[go_sem] theorem ag90 : aggOf Tryz.prog 90 = some false := eqS (by kernel_rfl)
@[go_sem] theorem ze90 : zeroOf Tryz.prog 90 = some (.sc .nilFunc) := eqS (by kernel_rfl)
@[go_sem] theorem co90 : concreteT Tryz.prog 90 = true := eqS (by kernel_rfl)
@[go_sem] theorem sl90 : sliceOf Tryz.prog 90 = none := eqS (by kernel_rfl)
@[go_sem] theorem sz91 : szOf Tryz.prog 91 = some 2 := eqS (by kernel_rfl)
@[go_sem] theorem ag91 : aggOf Tryz.prog 91 = some true := eqS (by kernel_rfl)
@[go_sem] theorem ze91 : zeroOf Tryz.prog 91 = some (.agg [.sc (.int .i64 0), .sc (.int .i64 0)]) := eqS (by kernel_rfl)
@[go_sem] theorem co91 : concreteT Tryz.prog 91 = true := eqS (by kernel_rfl)
@[go_sem] theorem sl91 : sliceOf Tryz.prog 91 = none := eqS (by kernel_rfl)
@[go_sem] theorem ar91 : arrOf Tryz.prog 91 = some (2, 3, 1) := eqS (by kernel_rfl)
@[go_sem] theorem pl91 : placeOf Tryz.prog 91 = some (plA 1) := eqS (by kernel_rfl)
@[go_sem] theorem ia91 : intArr Tryz.prog 91 = some 2 := eqS (by kernel_rfl)
@[go_sem] theorem un91 : Tryz.prog.underlying 91 = some (.array 2 3) := eqS (by kernel_rfl)
@[go_sem] theorem zo91 : zerosOk Tryz.prog 91 = true := eqS (by kernel_rfl)
@[go_sem] theorem sz92 : szOf Tryz.prog 92 = some 1 := eqS (by kernel_rfl)
@[go_sem] theorem ag92 : aggOf Tryz.prog 92 = some false := eqS (by kernel_rfl)
@[go_sem] theorem ze92 : zeroOf Tryz.prog 92 = some (.sc .nilFunc) := eqS (by kernel_rfl)
@[go_sem] theorem co92 : concreteT Tryz.prog 92 = true := eqS (by kernel_rfl)
@[go_sem] theorem sl92 : sliceOf Tryz.prog 92 = none := eqS (by kernel_rfl)
@[go_sem] theorem sz93 : szOf Tryz.prog 93 = some 1 := eqS (by kernel_rfl)
@[go_sem] theorem ag93 : aggOf Tryz.prog 93 = some false := eqS (by kernel_rfl)
@[go_sem] theorem ze93 : zeroOf Tryz.prog 93 = some (.sc .nilFunc) := eqS (by kernel_rfl)
@[go_sem] theorem co93 : concreteT Tryz.prog 93 = true := eqS (by kernel_rfl)
@[go_sem] theorem sl93 : sliceOf Tryz.prog 93 = none := eqS (by kernel_rfl)
@[go_sem] theorem sz94 : szOf Tryz.prog 94 = some 1 := eqS (by kernel_rfl)
@[go_sem] theorem ag94 : aggOf Tryz.prog 94 = some false := eqS (by kernel_rfl)
@[go_sem] theorem ze94 : zeroOf Tryz.prog 94 = some (.sc .nilFunc) := eqS (by kernel_rfl)
@[go_sem] theorem co94 : concreteT Tryz.prog 94 = true := eqS (by kernel_rfl)
@[go_sem] theorem sl94 : sliceOf Tryz.prog 94 = none := eqS (by kernel_rfl)
@[go_sem] theorem sz95 : szOf Tryz.prog 95 = some 1 := eqS (by kernel_rfl)
@[go_sem] theorem ag95 : aggOf Tryz.prog 95 = some false := eqS (by kernel_rfl)
@[go_sem] theorem ze95 : zeroOf Tryz.prog 95 = some (.sc .nilFunc) := eqS (by kernel_rfl)
@[go_sem] theorem co95 : concreteT Tryz.prog 95 = true := eqS (by kernel_rfl)
@[go_sem] theorem sl95 : sliceOf Tryz.prog 95 = none := eqS (by kernel_rfl)
@[go_sem] theorem sz96 : szOf Tryz.prog 96 = some 1 := eqS (by kernel_rfl)
@[go_sem] theorem ag96 : aggOf Tryz.prog 96 = some false := eqS (by kernel_rfl)
@[go_sem] theorem ze96 : zeroOf Tryz.prog 96 = some (.sc .nilFunc) := eqS (by kernel_rfl)
@[go_sem] theorem co96 : concreteT Tryz.prog 96 = true := eqS (by kernel_rfl)
@[go_sem] theorem sl96 : sliceOf Tryz.prog 96 = none := eqS (by kernel_rfl)
@[go_sem] theorem sz97 : szOf Tryz.prog 97 = some 1 := eqS (by kernel_rfl)
@[go_sem] theorem ag97 : aggOf Tryz.prog 97 = some false := eqS (by kernel_rfl)
@[go_sem] theorem ze97 : zeroOf Tryz.prog 97 = some (.sc .nilFunc) := eqS (by kernel_rfl)
@[go_sem] theorem co97 : concreteT Tryz.prog 97 = true := eqS (by kernel_rfl)
@[go_sem] theorem sl97 : sliceOf Tryz.prog 97 = none := eqS (by kernel_rfl)
@[go_sem] theorem sz98 : szOf Tryz.prog 98 = some 1 := eqS (by kernel_rfl)
@[go_sem] theorem ag98 : aggOf Tryz.prog 98 = some false := eqS (by kernel_rfl)
@[go_sem] theorem ze98 : zeroOf Tryz.prog 98 = some (.sc .nilFunc) := eqS (by kernel_rfl)
@[go_sem] theorem co98 : concreteT Tryz.prog 98 = true := eqS (by kernel_rfl)
@[go_sem] theorem sl98 : sliceOf Tryz.prog 98 = none := eqS (by kernel_rfl)
@[go_sem] theorem sz99 : szOf Tryz.prog 99 = some 1 := eqS (by kernel_rfl)
@[go_sem] theorem ag99 : aggOf Tryz.prog 99 = some false := eqS (by kernel_rfl)
@[go_sem] theorem ze99 : zeroOf Tryz.prog 99 = some (.sc .nilFunc) := eqS (by kernel_rfl)
@[go_sem] theorem co99 : concreteT Tryz.prog 99 = true := eqS (by kernel_rfl)
@[go_sem] theorem sl99 : sliceOf Tryz.prog 99 = none := eqS (by kernel_rfl)
@[go_sem] theorem sz100 : szOf Tryz.prog 100 = some 1 := eqS (by kernel_rfl)
@[go_sem] theorem ag100 : aggOf Tryz.prog 100 = some false := eqS (by kernel_rfl)
@[go_sem] theorem ze100 : zeroOf Tryz.prog 100 = some (.sc .nilFunc) := eqS (by kernel_rfl)
@[go_sem] theorem co100 : concreteT Tryz.prog 100 = true := eqS (by kernel_rfl)
@[go_sem] theorem sl100 : sliceOf Tryz.prog 100 = none := eqS (by kernel_rfl)
@[go_sem] theorem sz101 : szOf Tryz.prog 101 = some 1 := eqS (by kernel_rfl)
@[go_sem] theorem ag101 : aggOf Tryz.prog 101 = some false := eqS (by kernel_rfl)
@[go_sem] theorem ze101 : zeroOf Tryz.prog 101 = some (.sc .nilFunc) := eqS (by kernel_rfl)
@[go_sem] theorem co101 : concreteT Tryz.prog 101 = true := eqS (by kernel_rfl)
@[go_sem] theorem sl101 : sliceOf Tryz.prog 101 = none := eqS (by kernel_rfl)
@[go_sem] theorem sz102 : szOf Tryz.prog 102 = some 1 := eqS (by kernel_rfl)
@[go_sem] theorem ag102 : aggOf Tryz.prog 102 = some false := eqS (by kernel_rfl)
@[go_sem] theorem ze102 : zeroOf Tryz.prog 102 = some (.sc .nilFunc) := eqS (by kernel_rfl)
@[go_sem] theorem co102 : concreteT Tryz.prog 102 = true := eqS (by kernel_rfl)
@[go_sem] theorem sl102 : sliceOf Tryz.prog 102 = none := eqS (by kernel_rfl)
@[go_sem] theorem sz103 : szOf Tryz.prog 103 = some 1 := eqS (by kernel_rfl)
@[go_sem] theorem ag103 : aggOf Tryz.prog 103 = some false := eqS (by kernel_rfl)
@[go_sem] theorem ze103 : zeroOf Tryz.prog 103 = some (.sc .nilFunc) := eqS (by kernel_rfl)
@[go_sem] theorem co103 : concreteT Tryz.prog 103 = true := eqS (by kernel_rfl)
@[go_sem] theorem sl103 : sliceOf Tryz.prog 103 = none := eqS (by kernel_rfl)
@[go_sem] theorem sz104 : szOf Tryz.prog 104 = some 1 := eqS (by kernel_rfl)
@[go_sem] theorem ag104 : aggOf Tryz.prog 104 = some false := eqS (by kernel_rfl)
@[go_sem] theorem ze104 : zeroOf Tryz.prog 104 = some (.sc .nilFunc) := eqS (by kernel_rfl)
@[go_sem] theorem co104 : concreteT Tryz.prog 104 = true := eqS (by kernel_rfl)
@[go_sem] theorem sl104 : sliceOf Tryz.prog 104 = none := eqS (by kernel_rfl)
@[go_sem] theorem sz105 : szOf Tryz.prog 105 = some 1 := eqS (by kernel_rfl)
@[go_sem] theorem ag105 : aggOf Tryz.prog 105 = some false := eqS (by kernel_rfl)
@[go_sem] theorem ze105 : zeroOf Tryz.prog 105 = some (.sc .nilFunc) := eqS (by kernel_rfl)
@[go_sem] theorem co105 : concreteT Tryz.prog 105 = true := eqS (by kernel_rfl)
@[go_sem] theorem sl105 : sliceOf Tryz.prog 105 = none := eqS (by kernel_rfl)
@[go_sem] theorem sz106 : szOf Tryz.prog 106 = some 1 := eqS (by kernel_rfl)
@[go_sem] theorem ag106 : aggOf Tryz.prog 106 = some false := eqS (by kernel_rfl)
@[go_sem] theorem ze106 : zeroOf Tryz.prog 106 = some (.sc .nilFunc) := eqS (by kernel_rfl)
@[go_sem] theorem co106 : concreteT Tryz.prog 106 = true := eqS (by kernel_rfl)
@[go_sem] theorem sl106 : sliceOf Tryz.prog 106 = none := eqS (by kernel_rfl)
@[go_sem] theorem sz107 : szOf Tryz.prog 107 = some 1 := eqS (by kernel_rfl)
@[go_sem] theorem ag107 : aggOf Tryz.prog 107 = some false := eqS (by kernel_rfl)
@[go_sem] theorem ze107 : zeroOf Tryz.prog 107 = some (.sc .nilFunc) := eqS (by kernel_rfl)
@[go_sem] theorem co107 : concreteT Tryz.prog 107 = true := eqS (by kernel_rfl)
@[go_sem] theorem sl107 : sliceOf Tryz.prog 107 = none := eqS (by kernel_rfl)
@[go_sem] theorem sz108 : szOf Tryz.prog 108 = some 1 := eqS (by kernel_rfl)
@[go_sem] theorem ag108 : aggOf Tryz.prog 108 = some false := eqS (by kernel_rfl)
@[go_sem] theorem ze108 : zeroOf Tryz.prog 108 = some (.sc (.int .u64 0)) := eqS (by kernel_rfl)
@[go_sem] theorem co108 : concreteT Tryz.prog 108 = true := eqS (by kernel_rfl)
@[go_sem] theorem sl108 : sliceOf Tryz.prog 108 = none := eqS (by kernel_rfl)
@[go_sem] theorem un108 : Tryz.prog.underlying 108 = some (.int .u64) := eqS (by kernel_rfl)
@[go_sem] theorem sz109 : szOf Tryz.prog 109 = some 1 := eqS (by kernel_rfl)
@[go_sem] theorem ag109 : aggOf Tryz.prog 109 = some false := eqS (by kernel_rfl)
@[go_sem] theorem ze109 : zeroOf Tryz.prog 109 = some (.sc .nilFunc) := eqS (by kernel_rfl)
@[go_sem] theorem co109 : concreteT Tryz.prog 109 = true := eqS (by kernel_rfl)
@[go_sem] theorem sl109 : sliceOf Tryz.prog 109 = none := eqS (by kernel_rfl)
@[go_sem] theorem sz110 : szOf Tryz.prog 110 = some 1 := eqS (by kernel_rfl)
@[go_sem] theorem ag110 : aggOf Tryz.prog 110 = some false := eqS (by kernel_rfl)
@[go_sem] theorem ze110 : zeroOf Tryz.prog 110 = some (.sc .nilFunc) := eqS (by kernel_rfl)
@[go_sem] theorem co110 : concreteT Tryz.prog 110 = true := eqS (by kernel_rfl)
@[go_sem] theorem sl110 : sliceOf Tryz.prog 110 = none := eqS (by kernel_rfl)
@[go_sem] theorem sz112 : szOf Tryz.prog 112 = some 1 := eqS (by kernel_rfl)
@[go_sem] theorem ag112 : aggOf Tryz.prog 112 = some false := eqS (by kernel_rfl)
@[go_sem] theorem ze112 : zeroOf Tryz.prog 112 = some (.sc .nilFunc) := eqS (by kernel_rfl)
@[go_sem] theorem co112 : concreteT Tryz.prog 112 = true := eqS (by kernel_rfl)
@[go_sem] theorem sl112 : sliceOf Tryz.prog 112 = none := eqS (by kernel_rfl)
@[go_sem] theorem sz113 : szOf Tryz.prog 113 = some 1 := eqS (by kernel_rfl)
@[go_sem] theorem ag113 : aggOf Tryz.prog 113 = some false := eqS (by kernel_rfl)
@[go_sem] theorem ze113 : zeroOf Tryz.prog 113 = some (.sc (.pointer none)) := eqS (by kernel_rfl)
@[go_sem] theorem co113 : concreteT Tryz.prog 113 = true := eqS (by kernel_rfl)
@[go_sem] theorem sl113 : sliceOf Tryz.prog 113 = none := eqS (by kernel_rfl)
@[go_sem] theorem sz114 : szOf Tryz.prog 114 = some 1 := eqS (by kernel_rfl)
@[go_sem] theorem ag114 : aggOf Tryz.prog 114 = some false := eqS (by kernel_rfl)
@[go_sem] theorem ze114 : zeroOf Tryz.prog 114 = some (.sc .nilFunc) := eqS (by kernel_rfl)
@[go_sem] theorem co114 : concreteT Tryz.prog 114 = true := eqS (by kernel_rfl)
@[go_sem] theorem sl114 : sliceOf Tryz.prog 114 = none := eqS (by kernel_rfl)
@[go_sem] theorem sz115 : szOf Tryz.prog 115 = some 1 := eqS (by kernel_rfl)
@[go_sem] theorem ag115 : aggOf Tryz.prog 115 = some false := eqS (by kernel_rfl)
@[go_sem] theorem ze115 : zeroOf Tryz.prog 115 = some (.lst true []) := eqS (by kernel_rfl)
@[go_sem] theorem co115 : concreteT Tryz.prog 115 = true := eqS (by kernel_rfl)
@[go_sem] theorem sl115 : sliceOf Tryz.prog 115 = some (43, 1, 24) := eqS (by kernel_rfl)
@[go_sem] theorem sz116 : szOf Tryz.prog 116 = some 1 := eqS (by kernel_rfl)
@[go_sem] theorem ag116 : aggOf Tryz.prog 116 = some false := eqS (by kernel_rfl)
@[go_sem] theorem ze116 : zeroOf Tryz.prog 116 = some (.lst true []) := eqS (by kernel_rfl)
@[go_sem] theorem co116 : concreteT Tryz.prog 116 = true := eqS (by kernel_rfl)
@[go_sem] theorem sl116 : sliceOf Tryz.prog 116 = some (119, 1, 8) := eqS (by kernel_rfl)
@[go_sem] theorem sz117 : szOf Tryz.prog 117 = some 6 := eqS (by kernel_rfl)
@[go_sem] theorem ag117 : aggOf Tryz.prog 117 = some true := eqS (by kernel_rfl)
@[go_sem] theorem ze117 : zeroOf Tryz.prog 117 = some (.agg [.lst true [], .sc (.int .i64 0), .lst true [], .lst true [], .lst true [], .lst true []]) := eqS (by kernel_rfl)
@[go_sem] theorem co117 : concreteT Tryz.prog 117 = true := eqS (by kernel_rfl)
@[go_sem] theorem sl117 : sliceOf Tryz.prog 117 = none := eqS (by kernel_rfl)
@[go_sem] theorem pl117 : placeOf Tryz.prog 117 = some (plc [(0, 2), (2, 1), (3, 1), (4, 1), (5, 1)]) := eqS (by kernel_rfl)
@[go_sem] theorem fl117_0 : fldOf Tryz.prog 117 0 = some (0, 31, 2) := eqS (by kernel_rfl)
@[go_sem] theorem fl117_1 : fldOf Tryz.prog 117 1 = some (2, 29, 1) := eqS (by kernel_rfl)
@[go_sem] theorem fl117_2 : fldOf Tryz.prog 117 2 = some (3, 69, 1) := eqS (by kernel_rfl)
@[go_sem] theorem fl117_3 : fldOf Tryz.prog 117 3 = some (4, 115, 1) := eqS (by kernel_rfl)
@[go_sem] theorem fl117_4 : fldOf Tryz.prog 117 4 = some (5, 116, 1) := eqS (by kernel_rfl)
@[go_sem] theorem zo117 : zerosOk Tryz.prog 117 = true := eqS (by kernel_rfl)
@[go_sem] theorem sz118 : szOf Tryz.prog 118 = some 6 := eqS (by kernel_rfl)
@[go_sem] theorem ag118 : aggOf Tryz.prog 118 = some true := eqS (by kernel_rfl)
@[go_sem] theorem ze118 : zeroOf Tryz.prog 118 = some (.agg [.lst true [], .sc (.int .i64 0), .lst true [], .lst true [], .lst true [], .lst true []]) := eqS (by kernel_rfl)
@[go_sem] theorem co118 : concreteT Tryz.prog 118 = true := eqS (by kernel_rfl)
@[go_sem] theorem sl118 : sliceOf Tryz.prog 118 = none := eqS (by kernel_rfl)
@[go_sem] theorem pl118 : placeOf Tryz.prog 118 = some (plc [(0, 2), (2, 1), (3, 1), (4, 1), (5, 1)]) := eqS (by kernel_rfl)
@[go_sem] theorem fl118_0 : fldOf Tryz.prog 118 0 = some (0, 31, 2) := eqS (by kernel_rfl)
@[go_sem] theorem fl118_1 : fldOf Tryz.prog 118 1 = some (2, 29, 1) := eqS (by kernel_rfl)
@[go_sem] theorem fl118_2 : fldOf Tryz.prog 118 2 = some (3, 69, 1) := eqS (by kernel_rfl)
@[go_sem] theorem fl118_3 : fldOf Tryz.prog 118 3 = some (4, 115, 1) := eqS (by kernel_rfl)
@[go_sem] theorem fl118_4 : fldOf Tryz.prog 118 4 = some (5, 116, 1) := eqS (by kernel_rfl)
@[go_sem] theorem zo118 : zerosOk Tryz.prog 118 = true := eqS (by kernel_rfl)
@[go_sem] theorem sz119 : szOf Tryz.prog 119 = some 1 := eqS (by kernel_rfl)
@[go_sem] theorem ag119 : aggOf Tryz.prog 119 = some false := eqS (by kernel_rfl)
@[go_sem] theorem ze119 : zeroOf Tryz.prog 119 = some (.sc (.map none)) := eqS (by kernel_rfl)
@[go_sem] theorem co119 : concreteT Tryz.prog 119 = true := eqS (by kernel_rfl)
@[go_sem] theorem sl119 : sliceOf Tryz.prog 119 = none := eqS (by kernel_rfl)
@[go_sem] theorem mt119 : mapT Tryz.prog 119 = some (3, 4) := eqS (by kernel_rfl)
@[go_sem] theorem sz120 : szOf Tryz.prog 120 = some 1 := eqS (by kernel_rfl)
@[go_sem] theorem ag120 : aggOf Tryz.prog 120 = some false := eqS (by kernel_rfl)
@[go_sem] theorem ze120 : zeroOf Tryz.prog 120 = some (.sc .nilFunc) := eqS (by kernel_rfl)
@[go_sem] theorem co120 : concreteT Tryz.prog 120 = true := eqS (by kernel_rfl)
@[go_sem] theorem sl120 : sliceOf Tryz.prog 120 = none := eqS (by kernel_rfl)
@[go_sem] theorem sz121 : szOf Tryz.prog 121 = some 1 := eqS (by kernel_rfl)
@[go_sem] theorem ag121 : aggOf Tryz.prog 121 = some false := eqS (by kernel_rfl)
@[go_sem] theorem ze121 : zeroOf Tryz.prog 121 = some (.sc .nilFunc) := eqS (by kernel_rfl)
@[go_sem] theorem co121 : concreteT Tryz.prog 121 = true := eqS (by kernel_rfl)
@[go_sem] theorem sl121 : sliceOf Tryz.prog 121 = none := eqS (by kernel_rfl)
@[go_sem] theorem sz122 : szOf Tryz.prog 122 = some 1 := eqS (by kernel_rfl)
@[go_sem] theorem ag122 : aggOf Tryz.prog 122 = some false := eqS (by kernel_rfl)
@[go_sem] theorem ze122 : zeroOf Tryz.prog 122 = some (.sc .nilFunc) := eqS (by kernel_rfl)
@[go_sem] theorem co122 : concreteT Tryz.prog 122 = true := eqS (by kernel_rfl)
@[go_sem] theorem sl122 : sliceOf Tryz.prog 122 = none := eqS (by kernel_rfl)
@[go_sem] theorem sz123 : szOf Tryz.prog 123 = some 1 := eqS (by kernel_rfl)
@[go_sem] theorem ag123 : aggOf Tryz.prog 123 = some false := eqS (by kernel_rfl)
@[go_sem] theorem ze123 : zeroOf Tryz.prog 123 = some (.sc .nilFunc) := eqS (by kernel_rfl)
@[go_sem] theorem co123 : concreteT Tryz.prog 123 = true := eqS (by kernel_rfl)
@[go_sem] theorem sl123 : sliceOf Tryz.prog 123 = none := eqS (by kernel_rfl)
@[go_sem] theorem sz124 : szOf Tryz.prog 124 = some 1 := eqS (by kernel_rfl)
@[go_sem] theorem ag124 : aggOf Tryz.prog 124 = some false := eqS (by kernel_rfl)
@[go_sem] theorem ze124 : zeroOf Tryz.prog 124 = some (.sc .nilFunc) := eqS (by kernel_rfl)
@[go_sem] theorem co124 : concreteT Tryz.prog 124 = true := eqS (by kernel_rfl)
@[go_sem] theorem sl124 : sliceOf Tryz.prog 124 = none := eqS (by kernel_rfl)
@[go_sem] theorem sz125 : szOf Tryz.prog 125 = some 1 := eqS (by kernel_rfl)
@[go_sem] theorem ag125 : aggOf Tryz.prog 125 = some false := eqS (by kernel_rfl)
@[go_sem] theorem ze125 : zeroOf Tryz.prog 125 = some (.sc .nilFunc) := eqS (by kernel_rfl)
@[go_sem] theorem co125 : concreteT Tryz.prog 125 = true := eqS (by kernel_rfl)
@[go_sem] theorem sl125 : sliceOf Tryz.prog 125 = none := eqS (by kernel_rfl)
@[go_sem] theorem sz126 : szOf Tryz.prog 126 = some 1 := eqS (by kernel_rfl)
@[go_sem] theorem ag126 : aggOf Tryz.prog 126 = some false := eqS (by kernel_rfl)
@[go_sem] theorem ze126 : zeroOf Tryz.prog 126 = some (.sc .nilFunc) := eqS (by kernel_rfl)
@[go_sem] theorem co126 : concreteT Tryz.prog 126 = true := eqS (by kernel_rfl)
@[go_sem] theorem sl126 : sliceOf Tryz.prog 126 = none := eqS (by kernel_rfl)
@[go_sem] theorem sz127 : szOf Tryz.prog 127 = some 1 := eqS (by kernel_rfl)
@[go_sem] theorem ag127 : aggOf Tryz.prog 127 = some false := eqS (by kernel_rfl)
@[go_sem] theorem ze127 : zeroOf Tryz.prog 127 = some (.sc .nilFunc) := eqS (by kernel_rfl)
@[go_sem] theorem co127 : concreteT Tryz.prog 127 = true := eqS (by kernel_rfl)
@[go_sem] theorem sl127 : sliceOf Tryz.prog 127 = none := eqS (by kernel_rfl)
@[go_sem] theorem sz128 : szOf Tryz.prog 128 = some 1 := eqS (by kernel_rfl)
@[go_sem] theorem ag128 : aggOf Tryz.prog 128 = some false := eqS (by kernel_rfl)
@[go_sem] theorem ze128 : zeroOf Tryz.prog 128 = some (.sc .nilFunc) := eqS (by kernel_rfl)
@[go_sem] theorem co128 : concreteT Tryz.prog 128 = true := eqS (by kernel_rfl)
@[go_sem] theorem sl128 : sliceOf Tryz.prog 128 = none := eqS (by kernel_rfl)
@[go_sem] theorem sz129 : szOf Tryz.prog 129 = some 1 := eqS (by kernel_rfl)
@[go_sem] theorem ag129 : aggOf Tryz.prog 129 = some false := eqS (by kernel_rfl)
@[go_sem] theorem ze129 : zeroOf Tryz.prog 129 = some (.sc .nilFunc) := eqS (by kernel_rfl)
@[go_sem] theorem co129 : concreteT Tryz.prog 129 = true := eqS (by kernel_rfl)
@[go_sem] theorem sl129 : sliceOf Tryz.prog 129 = none := eqS (by kernel_rfl)
@[go_sem] theorem sz130 : szOf Tryz.prog 130 = some 1 := eqS (by kernel_rfl)
@[go_sem] theorem ag130 : aggOf Tryz.prog 130 = some false := eqS (by kernel_rfl)
@[go_sem] theorem ze130 : zeroOf Tryz.prog 130 = some (.sc .nilFunc) := eqS (by kernel_rfl)
@[go_sem] theorem co130 : concreteT Tryz.prog 130 = true := eqS (by kernel_rfl)
@[go_sem] theorem sl130 : sliceOf Tryz.prog 130 = none := eqS (by kernel_rfl)
@[go_sem] theorem sz131 : szOf Tryz.prog 131 = some 1 := eqS (by kernel_rfl)
@[go_sem] theorem ag131 : aggOf Tryz.prog 131 = some false := eqS (by kernel_rfl)
@[go_sem] theorem ze131 : zeroOf Tryz.prog 131 = some (.sc .nilFunc) := eqS (by kernel_rfl)
@[go_sem] theorem co131 : concreteT Tryz.prog 131 = true := eqS (by kernel_rfl)
@[go_sem] theorem sl131 : sliceOf Tryz.prog 131 = none := eqS (by kernel_rfl)
@[go_sem] theorem sz132 : szOf Tryz.prog 132 = some 1 := eqS (by kernel_rfl)
@[go_sem] theorem ag132 : aggOf Tryz.prog 132 = some false := eqS (by kernel_rfl)
@[go_sem] theorem ze132 : zeroOf Tryz.prog 132 = some (.sc .nilFunc) := eqS (by kernel_rfl)
@[go_sem] theorem co132 : concreteT Tryz.prog 132 = true := eqS (by kernel_rfl)
@[go_sem] theorem sl132 : sliceOf Tryz.prog 132 = none := eqS (by kernel_rfl)
@[go_sem] theorem sz133 : szOf Tryz.prog 133 = some 1 := eqS (by kernel_rfl)
@[go_sem] theorem ag133 : aggOf Tryz.prog 133 = some false := eqS (by kernel_rfl)
@[go_sem] theorem ze133 : zeroOf Tryz.prog 133 = some (.lst true []) := eqS (by kernel_rfl)
@[go_sem] theorem co133 : concreteT Tryz.prog 133 = true := eqS (by kernel_rfl)
@[go_sem] theorem sl133 : sliceOf Tryz.prog 133 = some (136, 1, 8) := eqS (by kernel_rfl)
@[go_sem] theorem sz134 : szOf Tryz.prog 134 = some 1 := eqS (by kernel_rfl)
@[go_sem] theorem ag134 : aggOf Tryz.prog 134 = some false := eqS (by kernel_rfl)
@[go_sem] theorem ze134 : zeroOf Tryz.prog 134 = some (.sc .nilFunc) := eqS (by kernel_rfl)
@[go_sem] theorem co134 : concreteT Tryz.prog 134 = true := eqS (by kernel_rfl)
@[go_sem] theorem sl134 : sliceOf Tryz.prog 134 = none := eqS (by kernel_rfl)
@[go_sem] theorem sz135 : szOf Tryz.prog 135 = some 1 := eqS (by kernel_rfl)
@[go_sem] theorem ag135 : aggOf Tryz.prog 135 = some false := eqS (by kernel_rfl)
@[go_sem] theorem ze135 : zeroOf Tryz.prog 135 = some (.sc .nilFunc) := eqS (by kernel_rfl)
@[go_sem] theorem co135 : concreteT Tryz.prog 135 = true := eqS (by kernel_rfl)
@[go_sem] theorem sl135 : sliceOf Tryz.prog 135 = none := eqS (by kernel_rfl)
@[go_sem] theorem sz136 : szOf Tryz.prog 136 = some 1 := eqS (by kernel_rfl)
@[go_sem] theorem ag136 : aggOf Tryz.prog 136 = some false := eqS (by kernel_rfl)
@[go_sem] theorem ze136 : zeroOf Tryz.prog 136 = some (.sc (.map none)) := eqS (by kernel_rfl)
@[go_sem] theorem co136 : concreteT Tryz.prog 136 = true := eqS (by kernel_rfl)
@[go_sem] theorem sl136 : sliceOf Tryz.prog 136 = none := eqS (by kernel_rfl)
@[go_sem] theorem mt136 : mapT Tryz.prog 136 = some (157, 3) := eqS (by kernel_rfl)
@[go_sem] theorem sz137 : szOf Tryz.prog 137 = some 1 := eqS (by kernel_rfl)
@[go_sem] theorem ag137 : aggOf Tryz.prog 137 = some false := eqS (by kernel_rfl)
@[go_sem] theorem ze137 : zeroOf Tryz.prog 137 = some (.sc .nilFunc) := eqS (by kernel_rfl)
@[go_sem] theorem co137 : concreteT Tryz.prog 137 = true := eqS (by kernel_rfl)
@[go_sem] theorem sl137 : sliceOf Tryz.prog 137 = none := eqS (by kernel_rfl)
@[go_sem] theorem sz138 : szOf Tryz.prog 138 = some 1 := eqS (by kernel_rfl)
@[go_sem] theorem ag138 : aggOf Tryz.prog 138 = some false := eqS (by kernel_rfl)
@[go_sem] theorem ze138 : zeroOf Tryz.prog 138 = some (.sc .nilFunc) := eqS (by kernel_rfl)
@[go_sem] theorem co138 : concreteT Tryz.prog 138 = true := eqS (by kernel_rfl)
@[go_sem] theorem sl138 : sliceOf Tryz.prog 138 = none := eqS (by kernel_rfl)
@[go_sem] theorem sz139 : szOf Tryz.prog 139 = some 1 := eqS (by kernel_rfl)
@[go_sem] theorem ag139 : aggOf Tryz.prog 139 = some false := eqS (by kernel_rfl)
@[go_sem] theorem ze139 : zeroOf Tryz.prog 139 = some (.sc .nilFunc) := eqS (by kernel_rfl)
@[go_sem] theorem co139 : concreteT Tryz.prog 139 = true := eqS (by kernel_rfl)
@[go_sem] theorem sl139 : sliceOf Tryz.prog 139 = none := eqS (by kernel_rfl)
@[go_sem] theorem sz140 : szOf Tryz.prog 140 = some 1 := eqS (by kernel_rfl)
@[go_sem] theorem ag140 : aggOf Tryz.prog 140 = some false := eqS (by kernel_rfl)
@[go_sem] theorem ze140 : zeroOf Tryz.prog 140 = some (.sc .nilFunc) := eqS (by kernel_rfl)
@[go_sem] theorem co140 : concreteT Tryz.prog 140 = true := eqS (by kernel_rfl)
@[go_sem] theorem sl140 : sliceOf Tryz.prog 140 = none := eqS (by kernel_rfl)
@[go_sem] theorem sz141 : szOf Tryz.prog 141 = some 1 := eqS (by kernel_rfl)
@[go_sem] theorem ag141 : aggOf Tryz.prog 141 = some false := eqS (by kernel_rfl)
@[go_sem] theorem ze141 : zeroOf Tryz.prog 141 = some (.sc .nilFunc) := eqS (by kernel_rfl)
@[go_sem] theorem co141 : concreteT Tryz.prog 141 = true := eqS (by kernel_rfl)
@[go_sem] theorem sl141 : sliceOf Tryz.prog 141 = none := eqS (by kernel_rfl)
@[go_sem] theorem sz142 : szOf Tryz.prog 142 = some 2 := eqS (by kernel_rfl)
@[go_sem] theorem ag142 : aggOf Tryz.prog 142 = some true := eqS (by kernel_rfl)
@[go_sem] theorem ze142 : zeroOf Tryz.prog 142 = some (.agg [.lst true [], .sc (.int .i64 0)]) := eqS (by kernel_rfl)
@[go_sem] theorem co142 : concreteT Tryz.prog 142 = true := eqS (by kernel_rfl)
@[go_sem] theorem sl142 : sliceOf Tryz.prog 142 = none := eqS (by kernel_rfl)
@[go_sem] theorem pl142 : placeOf Tryz.prog 142 = some (plc [(0, 1), (1, 1)]) := eqS (by kernel_rfl)
@[go_sem] theorem fl142_0 : fldOf Tryz.prog 142 0 = some (0, 29, 1) := eqS (by kernel_rfl)
@[go_sem] theorem fl142_1 : fldOf Tryz.prog 142 1 = some (1, 3, 1) := eqS (by kernel_rfl)
@[go_sem] theorem zo142 : zerosOk Tryz.prog 142 = true := eqS (by kernel_rfl)
@[go_sem] theorem sz143 : szOf Tryz.prog 143 = some 2 := eqS (by kernel_rfl)
@[go_sem] theorem ag143 : aggOf Tryz.prog 143 = some true := eqS (by kernel_rfl)
@[go_sem] theorem ze143 : zeroOf Tryz.prog 143 = some (.agg [.lst true [], .sc (.int .i64 0)]) := eqS (by kernel_rfl)
@[go_sem] theorem co143 : concreteT Tryz.prog 143 = true := eqS (by kernel_rfl)
@[go_sem] theorem sl143 : sliceOf Tryz.prog 143 = none := eqS (by kernel_rfl)
@[go_sem] theorem pl143 : placeOf Tryz.prog 143 = some (plc [(0, 1), (1, 1)]) := eqS (by kernel_rfl)
@[go_sem] theorem fl143_0 : fldOf Tryz.prog 143 0 = some (0, 29, 1) := eqS (by kernel_rfl)
@[go_sem] theorem fl143_1 : fldOf Tryz.prog 143 1 = some (1, 3, 1) := eqS (by kernel_rfl)
@[go_sem] theorem zo143 : zerosOk Tryz.prog 143 = true := eqS (by kernel_rfl)
@[go_sem] theorem sz144 : szOf Tryz.prog 144 = some 1 := eqS (by kernel_rfl)
@[go_sem] theorem ag144 : aggOf Tryz.prog 144 = some false := eqS (by kernel_rfl)
@[go_sem] theorem ze144 : zeroOf Tryz.prog 144 = some (.sc .nilFunc) := eqS (by kernel_rfl)
@[go_sem] theorem co144 : concreteT Tryz.prog 144 = true := eqS (by kernel_rfl)
@[go_sem] theorem sl144 : sliceOf Tryz.prog 144 = none := eqS (by kernel_rfl)
@[go_sem] theorem sz145 : szOf Tryz.prog 145 = some 1 := eqS (by kernel_rfl)
@[go_sem] theorem ag145 : aggOf Tryz.prog 145 = some false := eqS (by kernel_rfl)
@[go_sem] theorem ze145 : zeroOf Tryz.prog 145 = some (.sc .nilFunc) := eqS (by kernel_rfl)
@[go_sem] theorem co145 : concreteT Tryz.prog 145 = true := eqS (by kernel_rfl)
@[go_sem] theorem sl145 : sliceOf Tryz.prog 145 = none := eqS (by kernel_rfl)
@[go_sem] theorem sz146 : szOf Tryz.prog 146 = some 1 := eqS (by kernel_rfl)
@[go_sem] theorem ag146 : aggOf Tryz.prog 146 = some false := eqS (by kernel_rfl)
@[go_sem] theorem ze146 : zeroOf Tryz.prog 146 = some (.sc (.int .i64 0)) := eqS (by kernel_rfl)
@[go_sem] theorem co146 : concreteT Tryz.prog 146 = true := eqS (by kernel_rfl)
@[go_sem] theorem sl146 : sliceOf Tryz.prog 146 = none := eqS (by kernel_rfl)
@[go_sem] theorem un146 : Tryz.prog.underlying 146 = some (.int .i64) := eqS (by kernel_rfl)
@[go_sem] theorem sz148 : szOf Tryz.prog 148 = some 1 := eqS (by kernel_rfl)
@[go_sem] theorem ag148 : aggOf Tryz.prog 148 = some false := eqS (by kernel_rfl)
@[go_sem] theorem ze148 : zeroOf Tryz.prog 148 = some (.sc .nilFunc) := eqS (by kernel_rfl)
@[go_sem] theorem co148 : concreteT Tryz.prog 148 = true := eqS (by kernel_rfl)
@[go_sem] theorem sl148 : sliceOf Tryz.prog 148 = none := eqS (by kernel_rfl)
@[go_sem] theorem sz149 : szOf Tryz.prog 149 = some 1 := eqS (by kernel_rfl)
@[go_sem] theorem ag149 : aggOf Tryz.prog 149 = some false := eqS (by kernel_rfl)
@[go_sem] theorem ze149 : zeroOf Tryz.prog 149 = some (.sc .nilFunc) := eqS (by kernel_rfl)
@[go_sem] theorem co149 : concreteT Tryz.prog 149 = true := eqS (by kernel_rfl)
@[go_sem] theorem sl149 : sliceOf Tryz.prog 149 = none := eqS (by kernel_rfl)
@[go_sem] theorem sz150 : szOf Tryz.prog 150 = some 1 := eqS (by kernel_rfl)
@[go_sem] theorem ag150 : aggOf Tryz.prog 150 = some false := eqS (by kernel_rfl)
@[go_sem] theorem ze150 : zeroOf Tryz.prog 150 = some (.sc .nilFunc) := eqS (by kernel_rfl)
@[go_sem] theorem co150 : concreteT Tryz.prog 150 = true := eqS (by kernel_rfl)
@[go_sem] theorem sl150 : sliceOf Tryz.prog 150 = none := eqS (by kernel_rfl)
@[go_sem] theorem sz151 : szOf Tryz.prog 151 = some 1 := eqS (by kernel_rfl)
@[go_sem] theorem ag151 : aggOf Tryz.prog 151 = some false := eqS (by kernel_rfl)
@[go_sem] theorem ze151 : zeroOf Tryz.prog 151 = some (.sc .nilFunc) := eqS (by kernel_rfl)
@[go_sem] theorem co151 : concreteT Tryz.prog 151 = true := eqS (by kernel_rfl)
@[go_sem] theorem sl151 : sliceOf Tryz.prog 151 = none := eqS (by kernel_rfl)
@[go_sem] theorem sz152 : szOf Tryz.prog 152 = some 1 := eqS (by kernel_rfl)
@[go_sem] theorem ag152 : aggOf Tryz.prog 152 = some false := eqS (by kernel_rfl)
@[go_sem] theorem ze152 : zeroOf Tryz.prog 152 = some (.sc .nilFunc) := eqS (by kernel_rfl)
@[go_sem] theorem co152 : concreteT Tryz.prog 152 = true := eqS (by kernel_rfl)
@[go_sem] theorem sl152 : sliceOf Tryz.prog 152 = none := eqS (by kernel_rfl)
@[go_sem] theorem sz153 : szOf Tryz.prog 153 = some 1 := eqS (by kernel_rfl)
@[go_sem] theorem ag153 : aggOf Tryz.prog 153 = some false := eqS (by kernel_rfl)
@[go_sem] theorem ze153 : zeroOf Tryz.prog 153 = some (.sc (.int .u32 0)) := eqS (by kernel_rfl)
@[go_sem] theorem co153 : concreteT Tryz.prog 153 = true := eqS (by kernel_rfl)
@[go_sem] theorem sl153 : sliceOf Tryz.prog 153 = none := eqS (by kernel_rfl)
@[go_sem] theorem un153 : Tryz.prog.underlying 153 = some (.int .u32) := eqS (by kernel_rfl)
@[go_sem] theorem sz154 : szOf Tryz.prog 154 = some 1 := eqS (by kernel_rfl)
@[go_sem] theorem ag154 : aggOf Tryz.prog 154 = some false := eqS (by kernel_rfl)
@[go_sem] theorem ze154 : zeroOf Tryz.prog 154 = some (.sc .nilFunc) := eqS (by kernel_rfl)
@[go_sem] theorem co154 : concreteT Tryz.prog 154 = true := eqS (by kernel_rfl)
@[go_sem] theorem sl154 : sliceOf Tryz.prog 154 = none := eqS (by kernel_rfl)
@[go_sem] theorem sz155 : szOf Tryz.prog 155 = some 1 := eqS (by kernel_rfl)
@[go_sem] theorem ag155 : aggOf Tryz.prog 155 = some false := eqS (by kernel_rfl)
@[go_sem] theorem ze155 : zeroOf Tryz.prog 155 = some (.sc (.int .u64 0)) := eqS (by kernel_rfl)
@[go_sem] theorem co155 : concreteT Tryz.prog 155 = true := eqS (by kernel_rfl)
@[go_sem] theorem sl155 : sliceOf Tryz.prog 155 = none := eqS (by kernel_rfl)
@[go_sem] theorem un155 : Tryz.prog.underlying 155 = some (.int .u64) := eqS (by kernel_rfl)
@[go_sem] theorem sz156 : szOf Tryz.prog 156 = some 4 := eqS (by kernel_rfl)
@[go_sem] theorem ag156 : aggOf Tryz.prog 156 = some true := eqS (by kernel_rfl)
@[go_sem] theorem ze156 : zeroOf Tryz.prog 156 = some (.agg [.sc (.int .i64 0), .sc (.int .i64 0), .sc (.int .i64 0), .sc (.int .i64 0)]) := eqS (by kernel_rfl)
@[go_sem] theorem co156 : concreteT Tryz.prog 156 = true := eqS (by kernel_rfl)
@[go_sem] theorem sl156 : sliceOf Tryz.prog 156 = none := eqS (by kernel_rfl)
@[go_sem] theorem ar156 : arrOf Tryz.prog 156 = some (4, 3, 1) := eqS (by kernel_rfl)
@[go_sem] theorem pl156 : placeOf Tryz.prog 156 = some (plA 1) := eqS (by kernel_rfl)
@[go_sem] theorem ia156 : intArr Tryz.prog 156 = some 4 := eqS (by kernel_rfl)
@[go_sem] theorem un156 : Tryz.prog.underlying 156 = some (.array 4 3) := eqS (by kernel_rfl)
@[go_sem] theorem zo156 : zerosOk Tryz.prog 156 = true := eqS (by kernel_rfl)
@[go_sem] theorem sz157 : szOf Tryz.prog 157 = some 4 := eqS (by kernel_rfl)
@[go_sem] theorem ag157 : aggOf Tryz.prog 157 = some true := eqS (by kernel_rfl)
@[go_sem] theorem ze157 : zeroOf Tryz.prog 157 = some (.agg [.sc (.int .i64 0), .sc (.int .i64 0), .sc (.int .i64 0), .sc (.int .i64 0)]) := eqS (by kernel_rfl)
@[go_sem] theorem co157 : concreteT Tryz.prog 157 = true := eqS (by kernel_rfl)
@[go_sem] theorem sl157 : sliceOf Tryz.prog 157 = none := eqS (by kernel_rfl)
@[go_sem] theorem ar157 : arrOf Tryz.prog 157 = some (4, 3, 1) := eqS (by kernel_rfl)
@[go_sem] theorem pl157 : placeOf Tryz.prog 157 = some (plA 1) := eqS (by kernel_rfl)
@[go_sem] theorem ia157 : intArr Tryz.prog 157 = some 4 := eqS (by kernel_rfl)
@[go_sem] theorem un157 : Tryz.prog.underlying 157 = some (.array 4 3) := eqS (by kernel_rfl)
@[go_sem] theorem zo157 : zerosOk Tryz.prog 157 = true := eqS (by kernel_rfl)
@[go_sem] theorem sz158 : szOf Tryz.prog 158 = some 1 := eqS (by kernel_rfl)
@[go_sem] theorem ag158 : aggOf Tryz.prog 158 = some false := eqS (by kernel_rfl)
@[go_sem] theorem ze158 : zeroOf Tryz.prog 158 = some (.sc .nilFunc) := eqS (by kernel_rfl)
@[go_sem] theorem co158 : concreteT Tryz.prog 158 = true := eqS (by kernel_rfl)
@[go_sem] theorem sl158 : sliceOf Tryz.prog 158 = none := eqS (by kernel_rfl)
@[go_sem] theorem sz159 : szOf Tryz.prog 159 = some 1 := eqS (by kernel_rfl)
@[go_sem] theorem ag159 : aggOf Tryz.prog 159 = some false := eqS (by kernel_rfl)
@[go_sem] theorem ze159 : zeroOf Tryz.prog 159 = some (.sc (.int .u64 0)) := eqS (by kernel_rfl)
@[go_sem] theorem co159 : concreteT Tryz.prog 159 = true := eqS (by kernel_rfl)
@[go_sem] theorem sl159 : sliceOf Tryz.prog 159 = none := eqS (by kernel_rfl)
@[go_sem] theorem un159 : Tryz.prog.underlying 159 = some (.int .u64) := eqS (by kernel_rfl)
@[go_sem] theorem sz160 : szOf Tryz.prog 160 = some 1 := eqS (by kernel_rfl)
@[go_sem] theorem ag160 : aggOf Tryz.prog 160 = some false := eqS (by kernel_rfl)
@[go_sem] theorem ze160 : zeroOf Tryz.prog 160 = some (.sc .nilFunc) := eqS (by kernel_rfl)
@[go_sem] theorem co160 : concreteT Tryz.prog 160 = true := eqS (by kernel_rfl)
@[go_sem] theorem sl160 : sliceOf Tryz.prog 160 = none := eqS (by kernel_rfl)
@[go_sem] theorem sz161 : szOf Tryz.prog 161 = some 1 := eqS (by kernel_rfl)
@[go_sem] theorem ag161 : aggOf Tryz.prog 161 = some false := eqS (by kernel_rfl)
@[go_sem] theorem ze161 : zeroOf Tryz.prog 161 = some (.sc .nilFunc) := eqS (by kernel_rfl)
@[go_sem] theorem co161 : concreteT Tryz.prog 161 = true := eqS (by kernel_rfl)
@[go_sem] theorem sl161 : sliceOf Tryz.prog 161 = none := eqS (by kernel_rfl)
@[go_sem] theorem sz162 : szOf Tryz.prog 162 = some 1 := eqS (by kernel_rfl)
@[go_sem] theorem ag162 : aggOf Tryz.prog 162 = some false := eqS (by kernel_rfl)
@[go_sem] theorem ze162 : zeroOf Tryz.prog 162 = some (.sc .nilFunc) := eqS (by kernel_rfl)
@[go_sem] theorem co162 : concreteT Tryz.prog 162 = true := eqS (by kernel_rfl)
@[go_sem] theorem sl162 : sliceOf Tryz.prog 162 = none := eqS (by kernel_rfl)
@[go_sem] theorem sz163 : szOf Tryz.prog 163 = some 1 := eqS (by kernel_rfl)
@[go_sem] theorem ag163 : aggOf Tryz.prog 163 = some false := eqS (by kernel_rfl)
@[go_sem] theorem ze163 : zeroOf Tryz.prog 163 = some (.sc (.pointer none)) := eqS (by kernel_rfl)
@[go_sem] theorem co163 : concreteT Tryz.prog 163 = true := eqS (by kernel_rfl)
@[go_sem] theorem sl163 : sliceOf Tryz.prog 163 = none := eqS (by kernel_rfl)
@[go_sem] theorem sz164 : szOf Tryz.prog 164 = some 1 := eqS (by kernel_rfl)
@[go_sem] theorem ag164 : aggOf Tryz.prog 164 = some false := eqS (by kernel_rfl)
@[go_sem] theorem ze164 : zeroOf Tryz.prog 164 = some (.sc .nilFunc) := eqS (by kernel_rfl)
@[go_sem] theorem co164 : concreteT Tryz.prog 164 = true := eqS (by kernel_rfl)
@[go_sem] theorem sl164 : sliceOf Tryz.prog 164 = none := eqS (by kernel_rfl)
@[go_sem] theorem sz165 : szOf Tryz.prog 165 = some 1 := eqS (by kernel_rfl)
@[go_sem] theorem ag165 : aggOf Tryz.prog 165 = some false := eqS (by kernel_rfl)
@[go_sem] theorem ze165 : zeroOf Tryz.prog 165 = some (.sc .nilFunc) := eqS (by kernel_rfl)
@[go_sem] theorem co165 : concreteT Tryz.prog 165 = true := eqS (by kernel_rfl)
@[go_sem] theorem sl165 : sliceOf Tryz.prog 165 = none := eqS (by kernel_rfl)
@[go_sem] theorem sz166 : szOf Tryz.prog 166 = some 1 := eqS (by kernel_rfl)
@[go_sem] theorem ag166 : aggOf Tryz.prog 166 = some false := eqS (by kernel_rfl)
@[go_sem] theorem ze166 : zeroOf Tryz.prog 166 = some (.sc .nilFunc) := eqS (by kernel_rfl)
@[go_sem] theorem co166 : concreteT Tryz.prog 166 = true := eqS (by kernel_rfl)
@[go_sem] theorem sl166 : sliceOf Tryz.prog 166 = none := eqS (by kernel_rfl)
@[go_sem] theorem sz167 : szOf Tryz.prog 167 = some 1 := eqS (by kernel_rfl)
@[go_sem] theorem ag167 : aggOf Tryz.prog 167 = some false := eqS (by kernel_rfl)
@[go_sem] theorem ze167 : zeroOf Tryz.prog 167 = some (.sc .nilFunc) := eqS (by kernel_rfl)
@[go_sem] theorem co167 : concreteT Tryz.prog 167 = true := eqS (by kernel_rfl)
@[go_sem] theorem sl167 : sliceOf Tryz.prog 167 = none := eqS (by kernel_rfl)
@[go_sem] theorem sz168 : szOf Tryz.prog 168 = some 1 := eqS (by kernel_rfl)
@[go_sem] theorem ag168 : aggOf Tryz.prog 168 = some false := eqS (by kernel_rfl)
@[go_sem] theorem ze168 : zeroOf Tryz.prog 168 = some (.sc .nilFunc) := eqS (by kernel_rfl)
@[go_sem] theorem co168 : concreteT Tryz.prog 168 = true := eqS (by kernel_rfl)
@[go_sem] theorem sl168 : sliceOf Tryz.prog 168 = none := eqS (by kernel_rfl)
@[go_sem] theorem sz169 : szOf Tryz.prog 169 = some 1 := eqS (by kernel_rfl)
@[go_sem] theorem ag169 : aggOf Tryz.prog 169 = some false := eqS (by kernel_rfl)
@[go_sem] theorem ze169 : zeroOf Tryz.prog 169 = some (.sc .nilFunc) := eqS (by kernel_rfl)
@[go_sem] theorem co169 : concreteT Tryz.prog 169 = true := eqS (by kernel_rfl)
@[go_sem] theorem sl169 : sliceOf Tryz.prog 169 = none := eqS (by kernel_rfl)
@[go_sem] theorem sz170 : szOf Tryz.prog 170 = some 1 := eqS (by kernel_rfl)
@[go_sem] theorem ag170 : aggOf Tryz.prog 170 = some false := eqS (by kernel_rfl)
@[go_sem] theorem ze170 : zeroOf Tryz.prog 170 = some (.sc (.pointer none)) := eqS (by kernel_rfl)
@[go_sem] theorem co170 : concreteT Tryz.prog 170 = true := eqS (by kernel_rfl)
@[go_sem] theorem sl170 : sliceOf Tryz.prog 170 = none := eqS (by kernel_rfl)
@[go_sem] theorem sz172 : szOf Tryz.prog 172 = some 1 := eqS (by kernel_rfl)
@[go_sem] theorem ag172 : aggOf Tryz.prog 172 = some false := eqS (by kernel_rfl)
@[go_sem] theorem ze172 : zeroOf Tryz.prog 172 = some (.sc .nilFunc) := eqS (by kernel_rfl)
@[go_sem] theorem co172 : concreteT Tryz.prog 172 = true := eqS (by kernel_rfl)
@[go_sem] theorem sl172 : sliceOf Tryz.prog 172 = none := eqS (by kernel_rfl)
@[go_sem] theorem sz173 : szOf Tryz.prog 173 = some 1 := eqS (by kernel_rfl)
@[go_sem] theorem ag173 : aggOf Tryz.prog 173 = some false := eqS (by kernel_rfl)
@[go_sem] theorem ze173 : zeroOf Tryz.prog 173 = some (.sc .nilFunc) := eqS (by kernel_rfl)
@[go_sem] theorem co173 : concreteT Tryz.prog 173 = true := eqS (by kernel_rfl)
@[go_sem] theorem sl173 : sliceOf Tryz.prog 173 = none := eqS (by kernel_rfl)
@[go_sem] theorem sz174 : szOf Tryz.prog 174 = some 1 := eqS (by kernel_rfl)
@[go_sem] theorem ag174 : aggOf Tryz.prog 174 = some false := eqS (by kernel_rfl)
@[go_sem] theorem ze174 : zeroOf Tryz.prog 174 = some (.sc .nilFunc) := eqS (by kernel_rfl)
@[go_sem] theorem co174 : concreteT Tryz.prog 174 = true := eqS (by kernel_rfl)
@[go_sem] theorem sl174 : sliceOf Tryz.prog 174 = none := eqS (by kernel_rfl)
@[go_sem] theorem sz175 : szOf Tryz.prog 175 = some 1 := eqS (by kernel_rfl)
@[go_sem] theorem ag175 : aggOf Tryz.prog 175 = some false := eqS (by kernel_rfl)
@[go_sem] theorem ze175 : zeroOf Tryz.prog 175 = some (.sc .nilFunc) := eqS (by kernel_rfl)
@[go_sem] theorem co175 : concreteT Tryz.prog 175 = true := eqS (by kernel_rfl)
@[go_sem] theorem sl175 : sliceOf Tryz.prog 175 = none := eqS (by kernel_rfl)
@[go_sem] theorem sz176 : szOf Tryz.prog 176 = some 1 := eqS (by kernel_rfl)
@[go_sem] theorem ag176 : aggOf Tryz.prog 176 = some false := eqS (by kernel_rfl)
@[go_sem] theorem ze176 : zeroOf Tryz.prog 176 = some (.sc .nilFunc) := eqS (by kernel_rfl)
@[go_sem] theorem co176 : concreteT Tryz.prog 176 = true := eqS (by kernel_rfl)
@[go_sem] theorem sl176 : sliceOf Tryz.prog 176 = none := eqS (by kernel_rfl)
@[go_sem] theorem sz177 : szOf Tryz.prog 177 = some 4 := eqS (by kernel_rfl)
@[go_sem] theorem ag177 : aggOf Tryz.prog 177 = some true := eqS (by kernel_rfl)
@[go_sem] theorem ze177 : zeroOf Tryz.prog 177 = some (.agg [.sc (.pointer none), .sc (.pointer none), .sc (.pointer none), .sc (.string ⟨#[]⟩)]) := eqS (by kernel_rfl)
@[go_sem] theorem co177 : concreteT Tryz.prog 177 = true := eqS (by kernel_rfl)
@[go_sem] theorem sl177 : sliceOf Tryz.prog 177 = none := eqS (by kernel_rfl)
@[go_sem] theorem pl177 : placeOf Tryz.prog 177 = some (plc [(0, 1), (1, 1), (2, 1), (3, 1)]) := eqS (by kernel_rfl)
@[go_sem] theorem fl177_0 : fldOf Tryz.prog 177 0 = some (0, 17, 1) := eqS (by kernel_rfl)
@[go_sem] theorem fl177_1 : fldOf Tryz.prog 177 1 = some (1, 17, 1) := eqS (by kernel_rfl)
@[go_sem] theorem fl177_2 : fldOf Tryz.prog 177 2 = some (2, 17, 1) := eqS (by kernel_rfl)
@[go_sem] theorem fl177_3 : fldOf Tryz.prog 177 3 = some (3, 9, 1) := eqS (by kernel_rfl)
@[go_sem] theorem zo177 : zerosOk Tryz.prog 177 = true := eqS (by kernel_rfl)
@[go_sem] theorem sz178 : szOf Tryz.prog 178 = some 4 := eqS (by kernel_rfl)
@[go_sem] theorem ag178 : aggOf Tryz.prog 178 = some true := eqS (by kernel_rfl)
@[go_sem] theorem ze178 : zeroOf Tryz.prog 178 = some (.agg [.sc (.pointer none), .sc (.pointer none), .sc (.pointer none), .sc (.string ⟨#[]⟩)]) := eqS (by kernel_rfl)
@[go_sem] theorem co178 : concreteT Tryz.prog 178 = true := eqS (by kernel_rfl)
@[go_sem] theorem sl178 : sliceOf Tryz.prog 178 = none := eqS (by kernel_rfl)
@[go_sem] theorem pl178 : placeOf Tryz.prog 178 = some (plc [(0, 1), (1, 1), (2, 1), (3, 1)]) := eqS (by kernel_rfl)
@[go_sem] theorem fl178_0 : fldOf Tryz.prog 178 0 = some (0, 17, 1) := eqS (by kernel_rfl)
@[go_sem] theorem fl178_1 : fldOf Tryz.prog 178 1 = some (1, 17, 1) := eqS (by kernel_rfl)
@[go_sem] theorem fl178_2 : fldOf Tryz.prog 178 2 = some (2, 17, 1) := eqS (by kernel_rfl)
@[go_sem] theorem fl178_3 : fldOf Tryz.prog 178 3 = some (3, 9, 1) := eqS (by kernel_rfl)
@[go_sem] theorem zo178 : zerosOk Tryz.prog 178 = true := eqS (by kernel_rfl)
@[go_sem] theorem sz179 : szOf Tryz.prog 179 = some 0 := eqS (by kernel_rfl)
@[go_sem] theorem ag179 : aggOf Tryz.prog 179 = some true := eqS (by kernel_rfl)
@[go_sem] theorem ze179 : zeroOf Tryz.prog 179 = some (.agg []) := eqS (by kernel_rfl)
@[go_sem] theorem co179 : concreteT Tryz.prog 179 = true := eqS (by kernel_rfl)
@[go_sem] theorem sl179 : sliceOf Tryz.prog 179 = none := eqS (by kernel_rfl)
@[go_sem] theorem ar179 : arrOf Tryz.prog 179 = some (0, 16, 1) := eqS (by kernel_rfl)
@[go_sem] theorem pl179 : placeOf Tryz.prog 179 = some (plA 1) := eqS (by kernel_rfl)
@[go_sem] theorem un179 : Tryz.prog.underlying 179 = some (.array 0 16) := eqS (by kernel_rfl)
@[go_sem] theorem zo179 : zerosOk Tryz.prog 179 = true := eqS (by kernel_rfl)
@[go_sem] theorem sz180 : szOf Tryz.prog 180 = some 0 := eqS (by kernel_rfl)
@[go_sem] theorem ag180 : aggOf Tryz.prog 180 = some true := eqS (by kernel_rfl)
@[go_sem] theorem ze180 : zeroOf Tryz.prog 180 = some (.agg []) := eqS (by kernel_rfl)
@[go_sem] theorem co180 : concreteT Tryz.prog 180 = true := eqS (by kernel_rfl)
@[go_sem] theorem sl180 : sliceOf Tryz.prog 180 = none := eqS (by kernel_rfl)
@[go_sem] theorem pl180 : placeOf Tryz.prog 180 = some (plc [(0, 0)]) := eqS (by kernel_rfl)
@[go_sem] theorem zo180 : zerosOk Tryz.prog 180 = true := eqS (by kernel_rfl)
@[go_sem] theorem sz181 : szOf Tryz.prog 181 = some 0 := eqS (by kernel_rfl)
@[go_sem] theorem ag181 : aggOf Tryz.prog 181 = some true := eqS (by kernel_rfl)
@[go_sem] theorem ze181 : zeroOf Tryz.prog 181 = some (.agg []) := eqS (by kernel_rfl)
@[go_sem] theorem co181 : concreteT Tryz.prog 181 = true := eqS (by kernel_rfl)
@[go_sem] theorem sl181 : sliceOf Tryz.prog 181 = none := eqS (by kernel_rfl)
@[go_sem] theorem pl181 : placeOf Tryz.prog 181 = some (plc [(0, 0)]) := eqS (by kernel_rfl)
@[go_sem] theorem zo181 : zerosOk Tryz.prog 181 = true := eqS (by kernel_rfl)
@[go_sem] theorem sz182 : szOf Tryz.prog 182 = some 1 := eqS (by kernel_rfl)
@[go_sem] theorem ag182 : aggOf Tryz.prog 182 = some false := eqS (by kernel_rfl)
@[go_sem] theorem ze182 : zeroOf Tryz.prog 182 = some (.sc .nilFunc) := eqS (by kernel_rfl)
@[go_sem] theorem co182 : concreteT Tryz.prog 182 = true := eqS (by kernel_rfl)
@[go_sem] theorem sl182 : sliceOf Tryz.prog 182 = none := eqS (by kernel_rfl)
@[go_sem] theorem sz183 : szOf Tryz.prog 183 = some 1 := eqS (by kernel_rfl)
@[go_sem] theorem ag183 : aggOf Tryz.prog 183 = some false := eqS (by kernel_rfl)
@[go_sem] theorem ze183 : zeroOf Tryz.prog 183 = some (.sc (.int .u8 0)) := eqS (by kernel_rfl)
@[go_sem] theorem co183 : concreteT Tryz.prog 183 = true := eqS (by kernel_rfl)
@[go_sem] theorem sl183 : sliceOf Tryz.prog 183 = none := eqS (by kernel_rfl)
@[go_sem] theorem un183 : Tryz.prog.underlying 183 = some (.int .u8) := eqS (by kernel_rfl)
@[go_sem] theorem sz184 : szOf Tryz.prog 184 = some 1 := eqS (by kernel_rfl)
@[go_sem] theorem ag184 : aggOf Tryz.prog 184 = some false := eqS (by kernel_rfl)
@[go_sem] theorem ze184 : zeroOf Tryz.prog 184 = some (.sc (.int .u8 0)) := eqS (by kernel_rfl)
@[go_sem] theorem co184 : concreteT Tryz.prog 184 = true := eqS (by kernel_rfl)
@[go_sem] theorem sl184 : sliceOf Tryz.prog 184 = none := eqS (by kernel_rfl)
@[go_sem] theorem un184 : Tryz.prog.underlying 184 = some (.int .u8) := eqS (by kernel_rfl)
@[go_sem] theorem sz185 : szOf Tryz.prog 185 = some 1 := eqS (by kernel_rfl)
@[go_sem] theorem ag185 : aggOf Tryz.prog 185 = some false := eqS (by kernel_rfl)
@[go_sem] theorem ze185 : zeroOf Tryz.prog 185 = some (.sc .nilFunc) := eqS (by kernel_rfl)
@[go_sem] theorem co185 : concreteT Tryz.prog 185 = true := eqS (by kernel_rfl)
@[go_sem] theorem sl185 : sliceOf Tryz.prog 185 = none := eqS (by kernel_rfl)
@[go_sem] theorem sz186 : szOf Tryz.prog 186 = some 1 := eqS (by kernel_rfl)
@[go_sem] theorem ag186 : aggOf Tryz.prog 186 = some false := eqS (by kernel_rfl)
@[go_sem] theorem ze186 : zeroOf Tryz.prog 186 = some (.sc (.pointer none)) := eqS (by kernel_rfl)
@[go_sem] theorem co186 : concreteT Tryz.prog 186 = true := eqS (by kernel_rfl)
@[go_sem] theorem sl186 : sliceOf Tryz.prog 186 = none := eqS (by kernel_rfl)
@[go_sem] theorem sz187 : szOf Tryz.prog 187 = some 1 := eqS (by kernel_rfl)
@[go_sem] theorem ag187 : aggOf Tryz.prog 187 = some false := eqS (by kernel_rfl)
@[go_sem] theorem ze187 : zeroOf Tryz.prog 187 = some (.sc (.int .i32 0)) := eqS (by kernel_rfl)
@[go_sem] theorem co187 : concreteT Tryz.prog 187 = true := eqS (by kernel_rfl)
@[go_sem] theorem sl187 : sliceOf Tryz.prog 187 = none := eqS (by kernel_rfl)
@[go_sem] theorem un187 : Tryz.prog.underlying 187 = some (.int .i32) := eqS (by kernel_rfl)
@[go_sem] theorem sz188 : szOf Tryz.prog 188 = some 1 := eqS (by kernel_rfl)
@[go_sem] theorem ag188 : aggOf Tryz.prog 188 = some false := eqS (by kernel_rfl)
@[go_sem] theorem ze188 : zeroOf Tryz.prog 188 = some (.sc (.int .i32 0)) := eqS (by kernel_rfl)
@[go_sem] theorem co188 : concreteT Tryz.prog 188 = true := eqS (by kernel_rfl)
@[go_sem] theorem sl188 : sliceOf Tryz.prog 188 = none := eqS (by kernel_rfl)
@[go_sem] theorem un188 : Tryz.prog.underlying 188 = some (.int .i32) := eqS (by kernel_rfl)
@[go_sem] theorem sz189 : szOf Tryz.prog 189 = some 11 := eqS (by kernel_rfl)
@[go_sem] theorem ag189 : aggOf Tryz.prog 189 = some true := eqS (by kernel_rfl)
@[go_sem] theorem ze189 : zeroOf Tryz.prog 189 = some (.agg [.sc (.int .u64 0), .sc (.int .u64 0), .sc (.int .u32 0), .sc (.int .u8 0), .sc (.int .u8 0), .sc (.int .u8 0), .sc (.int .u8 0), .sc .nilFunc, .sc (.pointer none), .sc (.int .i32 0), .sc (.int .i32 0)]) := eqS (by kernel_rfl)
@[go_sem] theorem co189 : concreteT Tryz.prog 189 = true := eqS (by kernel_rfl)
@[go_sem] theorem sl189 : sliceOf Tryz.prog 189 = none := eqS (by kernel_rfl)
@[go_sem] theorem pl189 : placeOf Tryz.prog 189 = some (plc [(0, 1), (1, 1), (2, 1), (3, 1), (4, 1), (5, 1), (6, 1), (7, 1), (8, 1), (9, 1), (10, 1)]) := eqS (by kernel_rfl)
@[go_sem] theorem fl189_0 : fldOf Tryz.prog 189 0 = some (0, 12, 1) := eqS (by kernel_rfl)
@[go_sem] theorem fl189_1 : fldOf Tryz.prog 189 1 = some (1, 12, 1) := eqS (by kernel_rfl)
@[go_sem] theorem fl189_2 : fldOf Tryz.prog 189 2 = some (2, 153, 1) := eqS (by kernel_rfl)
@[go_sem] theorem fl189_3 : fldOf Tryz.prog 189 3 = some (3, 183, 1) := eqS (by kernel_rfl)
@[go_sem] theorem fl189_4 : fldOf Tryz.prog 189 4 = some (4, 5, 1) := eqS (by kernel_rfl)
@[go_sem] theorem fl189_5 : fldOf Tryz.prog 189 5 = some (5, 5, 1) := eqS (by kernel_rfl)
@[go_sem] theorem fl189_6 : fldOf Tryz.prog 189 6 = some (6, 184, 1) := eqS (by kernel_rfl)
@[go_sem] theorem fl189_7 : fldOf Tryz.prog 189 7 = some (7, 185, 1) := eqS (by kernel_rfl)
@[go_sem] theorem fl189_8 : fldOf Tryz.prog 189 8 = some (8, 186, 1) := eqS (by kernel_rfl)
@[go_sem] theorem fl189_9 : fldOf Tryz.prog 189 9 = some (9, 187, 1) := eqS (by kernel_rfl)
@[go_sem] theorem fl189_10 : fldOf Tryz.prog 189 10 = some (10, 188, 1) := eqS (by kernel_rfl)
@[go_sem] theorem zo189 : zerosOk Tryz.prog 189 = true := eqS (by kernel_rfl)
@[go_sem] theorem sz190 : szOf Tryz.prog 190 = some 11 := eqS (by kernel_rfl)
@[go_sem] theorem ag190 : aggOf Tryz.prog 190 = some true := eqS (by kernel_rfl)
@[go_sem] theorem ze190 : zeroOf Tryz.prog 190 = some (.agg [.sc (.int .u64 0), .sc (.int .u64 0), .sc (.int .u32 0), .sc (.int .u8 0), .sc (.int .u8 0), .sc (.int .u8 0), .sc (.int .u8 0), .sc .nilFunc, .sc (.pointer none), .sc (.int .i32 0), .sc (.int .i32 0)]) := eqS (by kernel_rfl)
@[go_sem] theorem co190 : concreteT Tryz.prog 190 = true := eqS (by kernel_rfl)
@[go_sem] theorem sl190 : sliceOf Tryz.prog 190 = none := eqS (by kernel_rfl)
@[go_sem] theorem pl190 : placeOf Tryz.prog 190 = some (plc [(0, 1), (1, 1), (2, 1), (3, 1), (4, 1), (5, 1), (6, 1), (7, 1), (8, 1), (9, 1), (10, 1)]) := eqS (by kernel_rfl)
@[go_sem] theorem fl190_0 : fldOf Tryz.prog 190 0 = some (0, 12, 1) := eqS (by kernel_rfl)
@[go_sem] theorem fl190_1 : fldOf Tryz.prog 190 1 = some (1, 12, 1) := eqS (by kernel_rfl)
@[go_sem] theorem fl190_2 : fldOf Tryz.prog 190 2 = some (2, 153, 1) := eqS (by kernel_rfl)
@[go_sem] theorem fl190_3 : fldOf Tryz.prog 190 3 = some (3, 183, 1) := eqS (by kernel_rfl)
@[go_sem] theorem fl190_4 : fldOf Tryz.prog 190 4 = some (4, 5, 1) := eqS (by kernel_rfl)
@[go_sem] theorem fl190_5 : fldOf Tryz.prog 190 5 = some (5, 5, 1) := eqS (by kernel_rfl)
@[go_sem] theorem fl190_6 : fldOf Tryz.prog 190 6 = some (6, 184, 1) := eqS (by kernel_rfl)
@[go_sem] theorem fl190_7 : fldOf Tryz.prog 190 7 = some (7, 185, 1) := eqS (by kernel_rfl)
@[go_sem] theorem fl190_8 : fldOf Tryz.prog 190 8 = some (8, 186, 1) := eqS (by kernel_rfl)
@[go_sem] theorem fl190_9 : fldOf Tryz.prog 190 9 = some (9, 187, 1) := eqS (by kernel_rfl)
@[go_sem] theorem fl190_10 : fldOf Tryz.prog 190 10 = some (10, 188, 1) := eqS (by kernel_rfl)
@[go_sem] theorem zo190 : zerosOk Tryz.prog 190 = true := eqS (by kernel_rfl)
@[go_sem] theorem sz191 : szOf Tryz.prog 191 = some 1 := eqS (by kernel_rfl)
@[go_sem] theorem ag191 : aggOf Tryz.prog 191 = some false := eqS (by kernel_rfl)
@[go_sem] theorem ze191 : zeroOf Tryz.prog 191 = some (.lst true []) := eqS (by kernel_rfl)
@[go_sem] theorem co191 : concreteT Tryz.prog 191 = true := eqS (by kernel_rfl)
@[go_sem] theorem sl191 : sliceOf Tryz.prog 191 = some (201, 2, 24) := eqS (by kernel_rfl)
@[go_sem] theorem sz192 : szOf Tryz.prog 192 = some 1 := eqS (by kernel_rfl)
@[go_sem] theorem ag192 : aggOf Tryz.prog 192 = some false := eqS (by kernel_rfl)
@[go_sem] theorem ze192 : zeroOf Tryz.prog 192 = some (.lst true []) := eqS (by kernel_rfl)
@[go_sem] theorem co192 : concreteT Tryz.prog 192 = true := eqS (by kernel_rfl)
@[go_sem] theorem sl192 : sliceOf Tryz.prog 192 = some (194, 5, 64) := eqS (by kernel_rfl)
@[go_sem] theorem sz193 : szOf Tryz.prog 193 = some 5 := eqS (by kernel_rfl)
@[go_sem] theorem ag193 : aggOf Tryz.prog 193 = some true := eqS (by kernel_rfl)
@[go_sem] theorem ze193 : zeroOf Tryz.prog 193 = some (.agg [.sc (.int .i64 0), .sc (.string ⟨#[]⟩), .sc (.int .i64 0), .lst true [], .sc (.int .i64 0)]) := eqS (by kernel_rfl)
@[go_sem] theorem co193 : concreteT Tryz.prog 193 = true := eqS (by kernel_rfl)
@[go_sem] theorem sl193 : sliceOf Tryz.prog 193 = none := eqS (by kernel_rfl)
@[go_sem] theorem pl193 : placeOf Tryz.prog 193 = some (plc [(0, 1), (1, 1), (2, 1), (3, 1), (4, 1)]) := eqS (by kernel_rfl)
@[go_sem] theorem fl193_0 : fldOf Tryz.prog 193 0 = some (0, 3, 1) := eqS (by kernel_rfl)
@[go_sem] theorem fl193_1 : fldOf Tryz.prog 193 1 = some (1, 9, 1) := eqS (by kernel_rfl)
@[go_sem] theorem fl193_2 : fldOf Tryz.prog 193 2 = some (2, 3, 1) := eqS (by kernel_rfl)
@[go_sem] theorem fl193_3 : fldOf Tryz.prog 193 3 = some (3, 192, 1) := eqS (by kernel_rfl)
@[go_sem] theorem fl193_4 : fldOf Tryz.prog 193 4 = some (4, 3, 1) := eqS (by kernel_rfl)
@[go_sem] theorem zo193 : zerosOk Tryz.prog 193 = true := eqS (by kernel_rfl)
@[go_sem] theorem sz194 : szOf Tryz.prog 194 = some 5 := eqS (by kernel_rfl)
@[go_sem] theorem ag194 : aggOf Tryz.prog 194 = some true := eqS (by kernel_rfl)
@[go_sem] theorem ze194 : zeroOf Tryz.prog 194 = some (.agg [.sc (.int .i64 0), .sc (.string ⟨#[]⟩), .sc (.int .i64 0), .lst true [], .sc (.int .i64 0)]) := eqS (by kernel_rfl)
@[go_sem] theorem co194 : concreteT Tryz.prog 194 = true := eqS (by kernel_rfl)
@[go_sem] theorem sl194 : sliceOf Tryz.prog 194 = none := eqS (by kernel_rfl)
@[go_sem] theorem pl194 : placeOf Tryz.prog 194 = some (plc [(0, 1), (1, 1), (2, 1), (3, 1), (4, 1)]) := eqS (by kernel_rfl)
@[go_sem] theorem fl194_0 : fldOf Tryz.prog 194 0 = some (0, 3, 1) := eqS (by kernel_rfl)
@[go_sem] theorem fl194_1 : fldOf Tryz.prog 194 1 = some (1, 9, 1) := eqS (by kernel_rfl)
@[go_sem] theorem fl194_2 : fldOf Tryz.prog 194 2 = some (2, 3, 1) := eqS (by kernel_rfl)
@[go_sem] theorem fl194_3 : fldOf Tryz.prog 194 3 = some (3, 192, 1) := eqS (by kernel_rfl)
@[go_sem] theorem fl194_4 : fldOf Tryz.prog 194 4 = some (4, 3, 1) := eqS (by kernel_rfl)
@[go_sem] theorem zo194 : zerosOk Tryz.prog 194 = true := eqS (by kernel_rfl)
@[go_sem] theorem sz195 : szOf Tryz.prog 195 = some 7 := eqS (by kernel_rfl)
@[go_sem] theorem ag195 : aggOf Tryz.prog 195 = some true := eqS (by kernel_rfl)
@[go_sem] theorem ze195 : zeroOf Tryz.prog 195 = some (.agg [.sc (.string ⟨#[]⟩), .lst true [], .sc (.int .i64 0), .sc (.string ⟨#[]⟩), .sc (.int .i64 0), .lst true [], .sc (.int .i64 0)]) := eqS (by kernel_rfl)
@[go_sem] theorem co195 : concreteT Tryz.prog 195 = true := eqS (by kernel_rfl)
@[go_sem] theorem sl195 : sliceOf Tryz.prog 195 = none := eqS (by kernel_rfl)
@[go_sem] theorem pl195 : placeOf Tryz.prog 195 = some (plc [(0, 1), (1, 1), (2, 5)]) := eqS (by kernel_rfl)
@[go_sem] theorem fl195_0 : fldOf Tryz.prog 195 0 = some (0, 9, 1) := eqS (by kernel_rfl)
@[go_sem] theorem fl195_1 : fldOf Tryz.prog 195 1 = some (1, 191, 1) := eqS (by kernel_rfl)
@[go_sem] theorem fl195_2 : fldOf Tryz.prog 195 2 = some (2, 194, 5) := eqS (by kernel_rfl)
@[go_sem] theorem zo195 : zerosOk Tryz.prog 195 = true := eqS (by kernel_rfl)
@[go_sem] theorem sz196 : szOf Tryz.prog 196 = some 7 := eqS (by kernel_rfl)
@[go_sem] theorem ag196 : aggOf Tryz.prog 196 = some true := eqS (by kernel_rfl)
@[go_sem] theorem ze196 : zeroOf Tryz.prog 196 = some (.agg [.sc (.string ⟨#[]⟩), .lst true [], .sc (.int .i64 0), .sc (.string ⟨#[]⟩), .sc (.int .i64 0), .lst true [], .sc (.int .i64 0)]) := eqS (by kernel_rfl)
@[go_sem] theorem co196 : concreteT Tryz.prog 196 = true := eqS (by kernel_rfl)
@[go_sem] theorem sl196 : sliceOf Tryz.prog 196 = none := eqS (by kernel_rfl)
@[go_sem] theorem pl196 : placeOf Tryz.prog 196 = some (plc [(0, 1), (1, 1), (2, 5)]) := eqS (by kernel_rfl)
@[go_sem] theorem fl196_0 : fldOf Tryz.prog 196 0 = some (0, 9, 1) := eqS (by kernel_rfl)
@[go_sem] theorem fl196_1 : fldOf Tryz.prog 196 1 = some (1, 191, 1) := eqS (by kernel_rfl)
@[go_sem] theorem fl196_2 : fldOf Tryz.prog 196 2 = some (2, 194, 5) := eqS (by kernel_rfl)
@[go_sem] theorem zo196 : zerosOk Tryz.prog 196 = true := eqS (by kernel_rfl)
@[go_sem] theorem sz197 : szOf Tryz.prog 197 = some 6 := eqS (by kernel_rfl)
@[go_sem] theorem ag197 : aggOf Tryz.prog 197 = some true := eqS (by kernel_rfl)
@[go_sem] theorem ze197 : zeroOf Tryz.prog 197 = some (.agg [.sc (.string ⟨#[]⟩), .sc (.int .i64 0), .sc (.string ⟨#[]⟩), .sc (.int .i64 0), .lst true [], .sc (.int .i64 0)]) := eqS (by kernel_rfl)
@[go_sem] theorem co197 : concreteT Tryz.prog 197 = true := eqS (by kernel_rfl)
@[go_sem] theorem sl197 : sliceOf Tryz.prog 197 = none := eqS (by kernel_rfl)
@[go_sem] theorem pl197 : placeOf Tryz.prog 197 = some (plc [(0, 1), (1, 5)]) := eqS (by kernel_rfl)
@[go_sem] theorem fl197_0 : fldOf Tryz.prog 197 0 = some (0, 9, 1) := eqS (by kernel_rfl)
@[go_sem] theorem fl197_1 : fldOf Tryz.prog 197 1 = some (1, 194, 5) := eqS (by kernel_rfl)
@[go_sem] theorem zo197 : zerosOk Tryz.prog 197 = true := eqS (by kernel_rfl)
@[go_sem] theorem sz198 : szOf Tryz.prog 198 = some 6 := eqS (by kernel_rfl)
@[go_sem] theorem ag198 : aggOf Tryz.prog 198 = some true := eqS (by kernel_rfl)
@[go_sem] theorem ze198 : zeroOf Tryz.prog 198 = some (.agg [.sc (.string ⟨#[]⟩), .sc (.int .i64 0), .sc (.string ⟨#[]⟩), .sc (.int .i64 0), .lst true [], .sc (.int .i64 0)]) := eqS (by kernel_rfl)
@[go_sem] theorem co198 : concreteT Tryz.prog 198 = true := eqS (by kernel_rfl)
@[go_sem] theorem sl198 : sliceOf Tryz.prog 198 = none := eqS (by kernel_rfl)
@[go_sem] theorem pl198 : placeOf Tryz.prog 198 = some (plc [(0, 1), (1, 5)]) := eqS (by kernel_rfl)
@[go_sem] theorem fl198_0 : fldOf Tryz.prog 198 0 = some (0, 9, 1) := eqS (by kernel_rfl)
@[go_sem] theorem fl198_1 : fldOf Tryz.prog 198 1 = some (1, 194, 5) := eqS (by kernel_rfl)
@[go_sem] theorem zo198 : zerosOk Tryz.prog 198 = true := eqS (by kernel_rfl)
@[go_sem] theorem sz199 : szOf Tryz.prog 199 = some 1 := eqS (by kernel_rfl)
@[go_sem] theorem ag199 : aggOf Tryz.prog 199 = some false := eqS (by kernel_rfl)
@[go_sem] theorem ze199 : zeroOf Tryz.prog 199 = some (.sc (.pointer none)) := eqS (by kernel_rfl)
@[go_sem] theorem co199 : concreteT Tryz.prog 199 = true := eqS (by kernel_rfl)
@[go_sem] theorem sl199 : sliceOf Tryz.prog 199 = none := eqS (by kernel_rfl)
@[go_sem] theorem sz200 : szOf Tryz.prog 200 = some 2 := eqS (by kernel_rfl)
@[go_sem] theorem ag200 : aggOf Tryz.prog 200 = some true := eqS (by kernel_rfl)
@[go_sem] theorem ze200 : zeroOf Tryz.prog 200 = some (.agg [.sc (.string ⟨#[]⟩), .sc (.int .i64 0)]) := eqS (by kernel_rfl)
@[go_sem] theorem co200 : concreteT Tryz.prog 200 = true := eqS (by kernel_rfl)
@[go_sem] theorem sl200 : sliceOf Tryz.prog 200 = none := eqS (by kernel_rfl)
@[go_sem] theorem pl200 : placeOf Tryz.prog 200 = some (plc [(0, 1), (1, 1)]) := eqS (by kernel_rfl)
@[go_sem] theorem fl200_0 : fldOf Tryz.prog 200 0 = some (0, 9, 1) := eqS (by kernel_rfl)
@[go_sem] theorem fl200_1 : fldOf Tryz.prog 200 1 = some (1, 3, 1) := eqS (by kernel_rfl)
@[go_sem] theorem zo200 : zerosOk Tryz.prog 200 = true := eqS (by kernel_rfl)
@[go_sem] theorem sz201 : szOf Tryz.prog 201 = some 2 := eqS (by kernel_rfl)
@[go_sem] theorem ag201 : aggOf Tryz.prog 201 = some true := eqS (by kernel_rfl)
@[go_sem] theorem ze201 : zeroOf Tryz.prog 201 = some (.agg [.sc (.string ⟨#[]⟩), .sc (.int .i64 0)]) := eqS (by kernel_rfl)
@[go_sem] theorem co201 : concreteT Tryz.prog 201 = true := eqS (by kernel_rfl)
@[go_sem] theorem sl201 : sliceOf Tryz.prog 201 = none := eqS (by kernel_rfl)
@[go_sem] theorem pl201 : placeOf Tryz.prog 201 = some (plc [(0, 1), (1, 1)]) := eqS (by kernel_rfl)
@[go_sem] theorem fl201_0 : fldOf Tryz.prog 201 0 = some (0, 9, 1) := eqS (by kernel_rfl)
@[go_sem] theorem fl201_1 : fldOf Tryz.prog 201 1 = some (1, 3, 1) := eqS (by kernel_rfl)
@[go_sem] theorem zo201 : zerosOk Tryz.prog 201 = true := eqS (by kernel_rfl)
end Go.Proofs.YtfniceomhfebhaaGreat.Ty

/-
  The claim's data as abstract values, and the shapes of loops.
-/
set_option linter.unusedVariables false
set_option linter.unusedSimpArgs false
namespace Go.Ev
open Go

abbrev rI (n : Int) : List AV := [.sc (.int .i64 n)]
abbrev lI (xs : List Int) : AV := .lst false (xs.map rI)
abbrev rL (xs : List Int) : List AV := [lI xs]
abbrev lL (xs : List (List Int)) : AV := .lst false (xs.map rL)

structure Rl where
  ar : Int
  ts : List Int
  deriving DecidableEq
structure Sc where
  atoms : List Int
  steps : Int
structure Fld where
  name : ByteArray
  sorts : List Int
  var : Bool
structure Sp where
  sorts : List (ByteArray × Bool)
  fields : List Fld
  preds : List (List AV)
  facts : List (List AV)
  hp : HF (.lst false preds)
  hf : HF (.lst false facts)
structure Bd where
  lo : Rl
  up : Rl
  deriving DecidableEq

abbrev cRel (r : Rl) : List AV := [aI r.ar, lI r.ts]
abbrev eRel (r : Rl) : AV := .agg (cRel r)
abbrev lRel (rs : List Rl) : AV := .lst false (rs.map cRel)
abbrev eSc (s : Sc) : AV := .agg [lI s.atoms, aI s.steps]
abbrev cSort (s : ByteArray × Bool) : List AV := [.sc (.string s.1), aB s.2]
abbrev cField (f : Fld) : List AV := [.sc (.string f.name), lI f.sorts, aB f.var]
abbrev eField (f : Fld) : AV := .agg (cField f)
abbrev eSp (s : Sp) : AV := .agg [.lst false (s.sorts.map cSort), .lst false (s.fields.map cField), .lst false s.preds, .lst false s.facts]
abbrev cBd (b : Bd) : List AV := [aI b.lo.ar, lI b.lo.ts, aI b.up.ar, lI b.up.ts]
abbrev lBd (b : List Bd) : AV := .lst false (b.map cBd)

theorem hf_lI (xs : List Int) : HF (lI xs) := HF.lst fun r hr c hc => by
  obtain ⟨n, _, rfl⟩ := List.mem_map.1 hr
  simp at hc; subst hc; exact HF.sc _
theorem hf_lL (xs : List (List Int)) : HF (lL xs) := HF.lst fun r hr c hc => by
  obtain ⟨n, _, rfl⟩ := List.mem_map.1 hr
  simp at hc; subst hc; exact hf_lI _
theorem hf_cRel (r : Rl) : ∀ c, c ∈ cRel r → HF c := by
  intro c hc
  simp at hc
  rcases hc with rfl | rfl
  · exact HF.sc _
  · exact hf_lI _
theorem hf_eRel (r : Rl) : HF (eRel r) := HF.agg (hf_cRel r)
theorem hf_lRel (rs : List Rl) : HF (lRel rs) := HF.lst fun r hr c hc => by
  obtain ⟨n, _, rfl⟩ := List.mem_map.1 hr
  exact hf_cRel n c hc
theorem hf_eSc (s : Sc) : HF (eSc s) := HF.agg fun c hc => by
  simp at hc
  rcases hc with rfl | rfl
  · exact hf_lI _
  · exact HF.sc _
theorem hf_cField (f : Fld) : ∀ c, c ∈ cField f → HF c := by
  intro c hc
  simp at hc
  rcases hc with rfl | rfl | rfl
  · exact HF.sc _
  · exact hf_lI _
  · exact HF.sc _
theorem hf_eField (f : Fld) : HF (eField f) := HF.agg (hf_cField f)
theorem hf_eSp (s : Sp) : HF (eSp s) := HF.agg fun c hc => by
  simp at hc
  rcases hc with rfl | rfl | rfl | rfl
  · refine HF.lst fun r hr c hc => ?_
    obtain ⟨n, _, rfl⟩ := List.mem_map.1 hr
    simp at hc
    rcases hc with rfl | rfl <;> exact HF.sc _
  · refine HF.lst fun r hr c hc => ?_
    obtain ⟨n, _, rfl⟩ := List.mem_map.1 hr
    exact hf_cField n c hc
  · exact s.hp
  · exact s.hf
theorem hf_lBd (b : List Bd) : HF (lBd b) := HF.lst fun r hr c hc => by
  obtain ⟨n, _, rfl⟩ := List.mem_map.1 hr
  simp at hc
  rcases hc with rfl | rfl | rfl | rfl
  · exact HF.sc _
  · exact hf_lI _
  · exact HF.sc _
  · exact hf_lI _

@[go_sem] theorem ieq (a b : Int) : (a == b) = decide (a = b) := eqS rfl
@[go_sem] theorem ine (a b : Int) : (a != b) = !decide (a = b) := eqS rfl

@[go_sem] theorem natEq (a b : Nat) : ((a : Int) = (b : Int)) = (a = b) := propext ⟨Int.ofNat_inj.1, fun h => by rw [h]⟩

/-- a condition that simp leaves alone -/
inductive Tag (p : St → Prop) : Type where
  | mk : Tag p
def Keep (p : St → Prop) (_ : Tag p) (st : St) : Prop := p st
theorem Keep.loop {p : Nat → St → Prop} {st : St} {n : Nat} (m : Nat) (hm : m < n) (h : p m st) : ∃ m, m < n ∧ Keep (p m) .mk st := ⟨m, hm, h⟩
theorem LoopGo.keep {P : Program} {pl : Pol} {body : Code} {Q : AExit → St → Prop} {st : St} (I : Nat → St → Prop) (n : Nat) (h : I n st) (k : ∀ n st, I n st → awp P pl body (loopQ (fun n => Keep (I n) .mk) n Q) st) : LoopGo P pl body Q st := .intro (fun n => Keep (I n) .mk) n h k

theorem rows_rI (xs : List Int) : rowsWf 1 (xs.map rI) := fun r hr => by
  obtain ⟨n, _, rfl⟩ := List.mem_map.1 hr
  exact ⟨rfl, rfl⟩
theorem rows_rL (xs : List (List Int)) : rowsWf 1 (xs.map rL) := fun r hr => by
  obtain ⟨n, _, rfl⟩ := List.mem_map.1 hr
  exact ⟨rfl, rfl⟩
theorem rows_cRel (xs : List Rl) : rowsWf 2 (xs.map cRel) := fun r hr => by
  obtain ⟨n, _, rfl⟩ := List.mem_map.1 hr
  exact ⟨rfl, rfl⟩

/-- a slice that the function has built by append, in blocks from lo on -/
def OwnF (lo : Nat) (mu : Mu) (sz : Nat) (av : AV) (xs : List (List AV)) : Prop := Own mu sz av xs ∧ (∀ b s o l, av = .sl b s o l → lo ≤ b) ∧ lo ≤ mu.length
theorem OwnF.one {lo : Nat} {mu : Mu} {sz : Nat} {av : AV} {xs : List (List AV)} (h : OwnF lo mu sz av xs) : av.one = true := by
  rcases h.1 with rfl | ⟨b, rfl, _⟩ <;> rfl
theorem OwnF.cells {lo : Nat} {mu : Mu} {sz : Nat} {av : AV} {xs : List (List AV)} (h : OwnF lo mu sz av xs) : av.cells = [av] := by
  rcases h.1 with rfl | ⟨b, rfl, _⟩ <;> rfl
theorem OwnF.nil {lo : Nat} {mu : Mu} {sz : Nat} (h : lo ≤ mu.length) : OwnF lo mu sz (.lst true []) [] := ⟨.inl rfl, fun _ _ _ _ e => by simp at e, h⟩
theorem OwnF.lit {lo : Nat} {mu : Mu} {sz : Nat} (xs : List (List AV)) (h : lo ≤ mu.length) : OwnF lo mu sz (.lst true xs) xs := ⟨.inl rfl, fun _ _ _ _ e => by simp at e, h⟩
theorem OwnF.set {lo : Nat} {mu : Mu} {sz : Nat} {av : AV} {xs : List (List AV)} {i : Nat} {c : Cell} (h : OwnF lo mu sz av xs) (hi : i < lo) : OwnF lo (mu.set i c) sz av xs := by
  obtain ⟨ho, hb, hl⟩ := h
  refine ⟨?_, hb, by simpa using hl⟩
  rcases ho with rfl | ⟨b, rfl, hc⟩
  · exact .inl rfl
  · have := hb _ _ _ _ rfl
    exact .inr ⟨b, rfl, by rw [List.getElem?_set_ne (by omega)]; exact hc⟩
theorem OwnF.le {lo lo' : Nat} {mu : Mu} {sz : Nat} {av : AV} {xs : List (List AV)} (h : OwnF lo mu sz av xs) (hi : lo' ≤ lo) : OwnF lo' mu sz av xs :=
  ⟨h.1, fun b s o l e => Nat.le_trans hi (h.2.1 b s o l e), Nat.le_trans hi h.2.2⟩
theorem AppendStep0.ownF {P : Program} {lo : Nat} {mu : Mu} {t t' e sz bt : Nat} {s x : AV} {xs ys : List (List AV)} {zv : AV} {K : AV → Mu → Prop} (hs : sliceOf P t = some (e, sz, bt)) (hs' : (sliceOf P t').isSome = true) (hz : zeroOf P e = some zv)
    (hz1 : zv.cells.length = sz) (hz2 : zv.cells.all AV.one = true) (hz0 : sz ≠ 0) (hb : bt ≤ 16384) (ho : OwnF lo mu sz s xs) (hx : rowsOf mu x = some ys) (wx : rowsWf sz xs) (wy : rowsWf sz ys) (hl : xs.length + ys.length ≤ 4294967296)
    (k : ∀ av mu', OwnF lo mu' sz av (xs ++ ys) → (∀ i, i < lo → mu'[i]? = mu[i]?) → K av mu') : AppendStep0 P mu #[t, t'] s x K := by
  obtain ⟨ho, hlo, hlm⟩ := ho
  refine ⟨t, t', e, sz, bt, ys, rfl, hs, hs', ⟨zv, hz, hz1, hz2⟩, hz0, hb, hx, wy, ?_⟩
  rcases ho with rfl | ⟨b, rfl, hc⟩
  · refine .inl ⟨xs, rfl, wx, hl, fun h => ?_, fun h => ?_⟩
    · subst h
      exact k _ _ ⟨.inl (by simp), fun _ _ _ _ e => by simp at e, hlm⟩ (fun _ _ => rfl)
    · refine k _ _ ⟨.inr ⟨mu.length, by simp, by simp⟩, fun b s o l e => ?_, by simp; omega⟩ (fun i hi => ?_)
      · injection e; omega
      · rw [List.getElem?_append_left (by omega)]
  · have hfl := flatten_len wx.ok
    have hbl := hlo _ _ _ _ rfl
    refine .inr ⟨b, xs.length, xs.flatten, rfl, hc, by omega, hl, ?_⟩
    have htk : xs.flatten.take (xs.length * sz) = xs.flatten := List.take_of_length_le (by omega)
    refine k _ _ ⟨.inr ⟨mu.length, by simp, ?_⟩, fun b s o l e => ?_, by simp; omega⟩ (fun i hi => ?_)
    · rw [htk, List.getElem?_append_right (by simp)]; simp
    · injection e; omega
    · rw [List.getElem?_append_left (by simp; omega)]
      rw [List.getElem?_set_ne (by omega)]
theorem AppendStep.ownF {P : Program} {lo : Nat} {mu : Mu} {t t' e sz bt : Nat} {s x : AV} {xs ys : List (List AV)} {zv : AV} {K : AV → Mu → Prop} (hs : sliceOf P t = some (e, sz, bt)) (hs' : (sliceOf P t').isSome = true) (hz : zeroOf P e = some zv)
    (hz1 : zv.cells.length = sz) (hz2 : zv.cells.all AV.one = true) (hz0 : sz ≠ 0) (hb : bt ≤ 16384) (ho : OwnF lo mu sz s xs) (hx : rowsOf mu x = some ys) (wx : rowsWf sz xs) (wy : rowsWf sz ys) (hl : xs.length + ys.length ≤ 4294967296)
    (k : ∀ av mu', OwnF lo mu' sz av (xs ++ ys) → (∀ i, i < lo → mu'[i]? = mu[i]?) → K av mu') : AppendStep P mu #[t, t'] s x K :=
  .inl (AppendStep0.ownF hs hs' hz hz1 hz2 hz0 hb ho hx wx wy hl k)
theorem AppendStep.ints {P : Program} {lo : Nat} {mu : Mu} {t t' e bt : Nat} {s x : AV} {xs ys : List Int} {z : Int} {K : AV → Mu → Prop} (hs : sliceOf P t = some (e, 1, bt)) (hs' : (sliceOf P t').isSome = true) (hz : zeroOf P e = some (aI z))
    (hb : bt ≤ 16384) (ho : OwnF lo mu 1 s (xs.map rI)) (hx : rowsOf mu x = some (ys.map rI)) (hl : xs.length + ys.length ≤ 4294967296)
    (k : ∀ av mu', OwnF lo mu' 1 av ((xs ++ ys).map rI) → (∀ i, i < lo → mu'[i]? = mu[i]?) → K av mu') : AppendStep P mu #[t, t'] s x K :=
  AppendStep.ownF hs hs' hz rfl rfl (by omega) hb ho hx (rows_rI _) (rows_rI _) (by simpa using hl) (fun av mu' h1 h2 => k av mu' (by rw [List.map_append]; exact h1) h2)
theorem low_eq {lo : Nat} {low rest mu' : Mu} (hlo : low.length = lo) (hl : lo ≤ mu'.length) (h : ∀ i, i < lo → mu'[i]? = (low ++ rest)[i]?) : mu' = low ++ mu'.drop lo := by
  have : mu'.take lo = low := by
    apply List.ext_getElem?
    intro i
    by_cases hi : i < lo
    · rw [List.getElem?_take_of_lt hi, h i hi, List.getElem?_append_left (by omega)]
    · rw [List.getElem?_eq_none (by simp; omega), List.getElem?_eq_none (by omega)]
  rw [← this, List.take_append_drop]
/-- .. the blocks below are written out -/
theorem AppendStep.intsL {P : Program} {low rest : Mu} {t t' e bt : Nat} {s x : AV} {xs ys : List Int} {z : Int} {K : AV → Mu → Prop} (hs : sliceOf P t = some (e, 1, bt)) (hs' : (sliceOf P t').isSome = true) (hz : zeroOf P e = some (aI z))
    (hb : bt ≤ 16384) (ho : OwnF low.length (low ++ rest) 1 s (xs.map rI)) (hx : rowsOf (low ++ rest) x = some (ys.map rI)) (hl : xs.length + ys.length ≤ 4294967296)
    (k : ∀ av rest', OwnF low.length (low ++ rest') 1 av ((xs ++ ys).map rI) → K av (low ++ rest')) : AppendStep P (low ++ rest) #[t, t'] s x K :=
  AppendStep.ints hs hs' hz hb ho hx hl fun av mu' h1 h2 => by
    have := low_eq rfl h1.2.2 h2
    rw [this] at h1 ⊢
    exact k _ _ h1
theorem OwnF.low {low low' rest : Mu} {sz : Nat} {av : AV} {xs : List (List AV)} (h : OwnF low.length (low ++ rest) sz av xs) (hl : low'.length = low.length) : OwnF low'.length (low' ++ rest) sz av xs := by
  obtain ⟨ho, hb, _⟩ := h
  refine ⟨?_, by rw [hl]; exact hb, by simp⟩
  rcases ho with rfl | ⟨b, rfl, hc⟩
  · exact .inl rfl
  · have := hb _ _ _ _ rfl
    refine .inr ⟨b, rfl, ?_⟩
    rw [List.getElem?_append_right (by omega)] at hc ⊢
    rw [hl]; exact hc
theorem OwnF.rdI {lo : Nat} {mu : Mu} {av : AV} {xs : List Int} (h : OwnF lo mu 1 av (xs.map rI)) : Rd mu av (lI xs) :=
  h.1.rd (rows_rI xs).ok fun r hr c hc => by
    obtain ⟨n, _, rfl⟩ := List.mem_map.1 hr
    simp at hc; subst hc; exact HF.sc _
theorem Rd.rel {mu : Mu} {av : AV} {r : Rl} (h : Rd mu av (lI r.ts)) : Rd mu (.agg [aI r.ar, av]) (eRel r) := by
  refine .agg _ _ rfl (fun k x y hx hy => ?_)
  match k with
  | 0 => simp at hx hy; subst hx; subst hy; exact .hf _ (HF.sc _)
  | 1 => simp at hx hy; subst hx; subst hy; exact h
  | k + 2 => simp at hx

theorem cutM_at (b : Nat) (mu : Mu) : (cutM (fun j => j == b) mu 0)[b]? = mu[b]? := by
  rw [cutM_get]; cases mu[b]? <;> simp
theorem cutM_off {b i : Nat} (h : i ≠ b) (mu : Mu) : (cutM (fun j => !(j == b)) mu 0)[i]? = mu[i]? := by
  rw [cutM_get]; cases mu[i]? <;> simp [h]
/-- .. a slice that was built by append -/
theorem FzQ.own {Q : AExit → St → Prop} {lo i d sz : Nat} {av : AV} {xs : List (List AV)} {st : St} (hd : st.tm d = av) (ho : OwnF lo st.mu sz av xs) (wf : rowsWf sz xs) (hf : ∀ r, r ∈ xs → ∀ c, c ∈ r → HF c)
    (k : ∀ mu' full, mu'.length = st.mu.length → (∀ j, j < lo → mu'[j]? = st.mu[j]?) → Q (.exit i) (st.put (some d) (.lst full xs) mu')) : FzQ Q (.exit i) st := by
  rcases ho.1 with h | ⟨b, h, hc⟩
  · refine FzQ.one (b := st.mu.length) (d := d) (x := .lst true xs) ?_ (k _ _ (cutM_len _ _ _) fun j hj => cutM_off (by have := ho.2.2; omega) _)
    rw [hd, h]
    exact .hf _ (HF.lst hf)
  · refine FzQ.one (b := b) (d := d) (x := .lst false xs) ?_ (k _ _ (cutM_len _ _ _) fun j hj => cutM_off (by have := ho.2.1 _ _ _ _ h; omega) _)
    rw [hd]
    exact Own.rd (.inr ⟨b, h, by rw [cutM_at]; exact hc⟩) wf.ok hf

/-- the elements below n all pass -/
def allN (p : Nat → Bool) : Nat → Bool
  | 0 => true
  | n + 1 => allN p n && p n
theorem allN_succ (p : Nat → Bool) (n : Nat) : allN p (n + 1) = (allN p n && p n) := rfl
theorem allN_iff {p : Nat → Bool} {n : Nat} : allN p n = true ↔ ∀ i, i < n → p i = true := by
  induction n with
  | zero => simp [allN]
  | succ n ih =>
    simp only [allN, Bool.and_eq_true, ih]
    refine ⟨fun h i hi => ?_, fun h => ⟨fun i hi => h i (by omega), h n (by omega)⟩⟩
    rcases Nat.lt_succ_iff_lt_or_eq.1 hi with h1 | h1
    · exact h.1 i h1
    · subst h1; exact h.2
theorem allN_false {p : Nat → Bool} {n k : Nat} (hk : k < n) (h : p k = false) : allN p n = false := by
  rw [← Bool.not_eq_true, allN_iff]
  intro h'
  have := h' k hk
  simp [h] at this

/-- a fold over the numbers below n -/
def foldN {α : Type} (f : Nat → α → α) (a : α) : Nat → α
  | 0 => a
  | n + 1 => f n (foldN f a n)
theorem foldN_zero {α : Type} (f : Nat → α → α) (a : α) : foldN f a 0 = a := rfl
theorem foldN_succ {α : Type} (f : Nat → α → α) (a : α) (n : Nat) : foldN f a (n + 1) = f n (foldN f a n) := rfl

/-- an element, or 0 -/
def gI (xs : List Int) (i : Nat) : Int := (xs[i]?).getD 0
theorem gI_eq {xs : List Int} {i : Nat} (h : i < xs.length) : gI xs i = xs[i] := by simp [gI, h]
def gL (xs : List (List Int)) (i : Nat) : List Int := (xs[i]?).getD []
def sumI (xs : List Int) : Int := xs.foldr (· + ·) 0
theorem sumI_append (a b : List Int) : sumI (a ++ b) = sumI a + sumI b := by
  induction a with
  | nil => simp [sumI]
  | cons x a ih => simp only [sumI, List.cons_append, List.foldr_cons] at *; omega
theorem sumI_take_succ (l : List Int) (k : Nat) (h : k < l.length) : sumI (l.take (k + 1)) = sumI (l.take k) + l[k] := by
  rw [List.take_add_one, List.getElem?_eq_getElem h, sumI_append]; simp [sumI]
theorem sumI_bounds (l : List Int) (m : Int) (h : ∀ a, a ∈ l → 0 ≤ a ∧ a ≤ m) : 0 ≤ sumI l ∧ sumI l ≤ m * l.length := by
  induction l with
  | nil => simp [sumI]
  | cons x l ih =>
    have h1 := h x (by simp)
    have h2 := ih (fun a ha => h a (by simp [ha]))
    simp only [sumI, List.foldr_cons, List.length_cons] at *
    have : m * ((l.length + 1 : Nat) : Int) = m * l.length + m := by rw [Int.natCast_succ, Int.mul_add]; simp
    omega
/-- a scope of a few small sorts -/
def GSc (s : Sc) : Prop := s.atoms.length ≤ 4 ∧ ∀ a, a ∈ s.atoms → 0 ≤ a ∧ a ≤ 5
theorem GSc.sum {s : Sc} (h : GSc s) (k : Nat) : 0 ≤ sumI (s.atoms.take k) ∧ sumI (s.atoms.take k) ≤ 20 := by
  have := sumI_bounds (s.atoms.take k) 5 (fun a ha => h.2 a (List.mem_of_mem_take ha))
  have h1 := h.1
  have h2 := List.length_take_le k s.atoms
  simp only [List.length_take] at *
  omega
theorem GSc.get {s : Sc} (h : GSc s) {k : Nat} (hk : k < s.atoms.length) : 0 ≤ s.atoms[k] ∧ s.atoms[k] ≤ 5 := h.2 _ (List.getElem_mem hk)
end Go.Ev

/-
  The data of the claims of this seat: what an argument reads as.
-/
set_option linter.unusedVariables false
set_option linter.unusedSimpArgs false
namespace Go.Ev
open Go
theorem ShF.cons' {P : Program} {N o o' : Nat} {t : TypeId} {fs : List (TypeId × Nat)} {α β : Type} {c : α → List AV} {ok : α → Prop} {c' : β → List AV} {ok' : β → Prop} (ho : o + P.cellsOf t = o') (h : ShU P N t c ok) (k : ShF P N o' fs c' ok') :
    ShF P N o ((t, o) :: fs) (fun x : α × β => c x.1 ++ c' x.2) (fun x => ok x.1 ∧ ok' x.2) := by
  subst ho; exact .cons h k
abbrev okI (n : Int) : Prop := -9223372036854775808 ≤ n ∧ n ≤ 9223372036854775807
abbrev okU16 (n : Int) : Prop := 0 ≤ n ∧ n ≤ 65535
abbrev okL (xs : List Int) : Prop := xs.length ≤ maxLen ∧ ∀ x, x ∈ xs → okI x
structure okRl (r : Rl) : Prop where
  ar : okI r.ar
  ts : okL r.ts
structure okSc (s : Sc) : Prop where
  atoms : okL s.atoms
  steps : okI s.steps
structure okFld (f : Fld) : Prop where
  name : f.name.size ≤ maxLen
  sorts : okL f.sorts
structure okSp (s : Sp) : Prop where
  ns : s.sorts.length ≤ maxLen
  sorts : ∀ x, x ∈ s.sorts → x.1.size ≤ maxLen
  nf : s.fields.length ≤ maxLen
  fields : ∀ f, f ∈ s.fields → okFld f
structure okBd (b : Bd) : Prop where
  lo : okRl b.lo
  up : okRl b.up
instance : Inhabited Rl := ⟨⟨0, []⟩⟩
instance : Inhabited Bd := ⟨⟨default, default⟩⟩
instance : Inhabited Fld := ⟨⟨⟨#[]⟩, [], false⟩⟩
end Go.Ev
namespace Go.Proofs.YtfniceomhfebhaaGreat.D
open Go Go.Ev Go.Proofs

theorem unInt : Tryz.prog.underlying 3 = some (.int .i64) := by kernel_rfl
theorem unBool : Tryz.prog.underlying 4 = some .bool := by kernel_rfl
theorem unString : Tryz.prog.underlying 9 = some .string := by kernel_rfl
theorem unInts : Tryz.prog.underlying 29 = some (.slice 3) := by kernel_rfl
theorem unBounds : Tryz.prog.underlying 28 = some (.slice 66) := by kernel_rfl

theorem shInt (N : Nat) : ShU Tryz.prog N 3 (fun n : Int => [aI n]) okI :=
  (ShU.int unInt N).map (fun n => n) (fun _ => rfl) (fun n h => by
    simp [Lit.wf, IntKind.min, IntKind.max, IntKind.signed, IntKind.bits] at h
    exact h)
theorem shBool (N : Nat) : ShU Tryz.prog N 4 (fun b : Bool => [aB b]) (fun _ => True) := ShU.bool unBool N
theorem shString (N : Nat) : ShU Tryz.prog N 9 (fun s : ByteArray => [.sc (.string s)]) (fun s => s.size ≤ maxLen) := ShU.string unString N
theorem shInts (N : Nat) : ShU Tryz.prog N 29 (fun xs : List Int => [lI xs]) okL :=
  (ShU.slice unInts (shInt N) (fun _ _ => by kernel_rfl) (Nat.lt_of_lt_of_eq Nat.zero_lt_one (by kernel_rfl))).le (by omega)
theorem shRel (N : Nat) : ShU Tryz.prog N 64 cRel okRl :=
  ((ShU.struct (fs := [(3, 0), (29, 1)]) (by kernel_rfl) (.cons' (o' := 1) (by kernel_rfl) (shInt N) (.cons' (o' := 2) (by kernel_rfl) (shInts N) (.nil 2))) (by kernel_rfl)).map
    (fun x => (⟨x.1, x.2.1⟩ : Rl)) (fun _ => rfl) (fun x h => ⟨h.1, h.2.1⟩)).le (by omega)
theorem shBound (N : Nat) : ShU Tryz.prog N 66 cBd okBd :=
  ((ShU.struct (fs := [(64, 0), (64, 2)]) (by kernel_rfl) (.cons' (o' := 2) (by kernel_rfl) (shRel N) (.cons' (o' := 4) (by kernel_rfl) (shRel N) (.nil 4))) (by kernel_rfl)).map
    (fun x => (⟨x.1, x.2.1⟩ : Bd)) (fun _ => rfl) (fun x h => ⟨h.1, h.2.1⟩)).le (by omega)
theorem shBounds (N : Nat) : ShU Tryz.prog N 28 (fun b : List Bd => [lBd b]) (fun b => b.length ≤ maxLen ∧ ∀ x, x ∈ b → okBd x) :=
  (ShU.slice unBounds (shBound N) (fun _ _ => by kernel_rfl) (Nat.lt_of_lt_of_eq (show 0 < 4 by omega) (by kernel_rfl))).le (by omega)
theorem shScope (N : Nat) : ShU Tryz.prog N 31 (fun s : Sc => [lI s.atoms, aI s.steps]) okSc :=
  ((ShU.struct (fs := [(29, 0), (3, 1)]) (by kernel_rfl) (.cons' (o' := 1) (by kernel_rfl) (shInts N) (.cons' (o' := 2) (by kernel_rfl) (shInt N) (.nil 2))) (by kernel_rfl)).map
    (fun x => (⟨x.1, x.2.1⟩ : Sc)) (fun _ => rfl) (fun x h => ⟨h.1, h.2.1⟩)).le (by omega)
theorem shField (N : Nat) : ShU Tryz.prog N 62 cField okFld :=
  ((ShU.struct (fs := [(9, 0), (29, 1), (4, 2)]) (by kernel_rfl) (.cons' (o' := 1) (by kernel_rfl) (shString N) (.cons' (o' := 2) (by kernel_rfl) (shInts N) (.cons' (o' := 3) (by kernel_rfl) (shBool N) (.nil 3)))) (by kernel_rfl)).map
    (fun x => (⟨x.1, x.2.1, x.2.2.1⟩ : Fld)) (fun _ => rfl) (fun x h => ⟨h.1, h.2.1⟩)).le (by omega)
theorem shSort (N : Nat) : ShU Tryz.prog N 60 cSort (fun s => s.1.size ≤ maxLen) :=
  ((ShU.struct (fs := [(9, 0), (4, 1)]) (by kernel_rfl) (.cons' (o' := 1) (by kernel_rfl) (shString N) (.cons' (o' := 2) (by kernel_rfl) (shBool N) (.nil 2))) (by kernel_rfl)).map
    (fun x => ((x.1, x.2.1) : ByteArray × Bool)) (fun _ => rfl) (fun x h => h.1)).le (by omega)
theorem unSorts : Tryz.prog.underlying 22 = some (.slice 60) := by kernel_rfl
theorem unFields : Tryz.prog.underlying 23 = some (.slice 62) := by kernel_rfl
theorem unNodes : Tryz.prog.underlying 192 = some (.slice 194) := by kernel_rfl
theorem unParams : Tryz.prog.underlying 191 = some (.slice 201) := by kernel_rfl
theorem unPreds : Tryz.prog.underlying 24 = some (.slice 196) := by kernel_rfl
theorem unFacts : Tryz.prog.underlying 25 = some (.slice 198) := by kernel_rfl

theorem oInt (N : Nat) : ShU Tryz.prog N 3 (fun xs : List AV => xs) (Opq 1) := (shInt N).opq 1 fun n _ => .sc _
theorem oString (N : Nat) : ShU Tryz.prog N 9 (fun xs : List AV => xs) (Opq 1) := (shString N).opq 1 fun n _ => .sc _
theorem oNode : ∀ N : Nat, ShU Tryz.prog N 194 (fun xs : List AV => xs) (Opq 5)
  | 0 => fun n hn => absurd hn (by omega)
  | N + 1 =>
    have ks : ShU Tryz.prog N 192 (fun xs : List AV => xs) (Opq 1) := (ShU.opqSlice unNodes (k := 5) (oNode N) (by kernel_rfl) (Nat.lt_of_lt_of_eq (show 0 < 5 by omega) (by kernel_rfl))).le (by omega)
    (ShU.struct (fs := [(3, 0), (9, 1), (3, 2), (192, 3), (3, 4)]) (by kernel_rfl)
      (.cons' (o' := 1) (by kernel_rfl) (oInt N) (.cons' (o' := 2) (by kernel_rfl) (oString N) (.cons' (o' := 3) (by kernel_rfl) (oInt N) (.cons' (o' := 4) (by kernel_rfl) ks (.cons' (o' := 5) (by kernel_rfl) (oInt N) (.nil 5)))))) (by kernel_rfl)).opq 5
      fun x h => .app h.1 (.app h.2.1 (.app h.2.2.1 (.app h.2.2.2.1 (.app h.2.2.2.2.1 .nil))))
theorem oParam (N : Nat) : ShU Tryz.prog N 201 (fun xs : List AV => xs) (Opq 2) :=
  ((ShU.struct (fs := [(9, 0), (3, 1)]) (by kernel_rfl) (.cons' (o' := 1) (by kernel_rfl) (oString N) (.cons' (o' := 2) (by kernel_rfl) (oInt N) (.nil 2))) (by kernel_rfl)).opq 2
    fun x h => .app h.1 (.app h.2.1 .nil)).le (by omega)
theorem oParams (N : Nat) : ShU Tryz.prog N 191 (fun xs : List AV => xs) (Opq 1) := (ShU.opqSlice unParams (k := 2) (oParam N) (by kernel_rfl) (Nat.lt_of_lt_of_eq (show 0 < 2 by omega) (by kernel_rfl))).le (by omega)
theorem oPred (N : Nat) : ShU Tryz.prog N 196 (fun xs : List AV => xs) (Opq 7) :=
  ((ShU.struct (fs := [(9, 0), (191, 1), (194, 2)]) (by kernel_rfl) (.cons' (o' := 1) (by kernel_rfl) (oString N) (.cons' (o' := 2) (by kernel_rfl) (oParams N) (.cons' (o' := 7) (by kernel_rfl) (oNode N) (.nil 7)))) (by kernel_rfl)).opq 7
    fun x h => .app h.1 (.app h.2.1 (.app h.2.2.1 .nil))).le (by omega)
theorem oFact (N : Nat) : ShU Tryz.prog N 198 (fun xs : List AV => xs) (Opq 6) :=
  ((ShU.struct (fs := [(9, 0), (194, 1)]) (by kernel_rfl) (.cons' (o' := 1) (by kernel_rfl) (oString N) (.cons' (o' := 6) (by kernel_rfl) (oNode N) (.nil 6))) (by kernel_rfl)).opq 6
    fun x h => .app h.1 (.app h.2.1 .nil)).le (by omega)

/-- a specification: sorts and fields are looked into -/
theorem shSpec (N : Nat) : ShU Tryz.prog N 27 (fun s : Sp => [.lst false (s.sorts.map cSort), .lst false (s.fields.map cField), .lst false s.preds, .lst false s.facts]) okSp := by
  have s1 := (ShU.slice unSorts (shSort N) (fun _ _ => by kernel_rfl) (Nat.lt_of_lt_of_eq (show 0 < 2 by omega) (by kernel_rfl))).le (M := N) (by omega)
  have s2 := (ShU.slice unFields (shField N) (fun _ _ => by kernel_rfl) (Nat.lt_of_lt_of_eq (show 0 < 3 by omega) (by kernel_rfl))).le (M := N) (by omega)
  have s3 := (ShU.slice (α := List AV) unPreds (oPred N) (fun a h => h.1.trans (by kernel_rfl)) (Nat.lt_of_lt_of_eq (show 0 < 7 by omega) (by kernel_rfl))).le (M := N) (by omega)
  have s4 := (ShU.slice (α := List AV) unFacts (oFact N) (fun a h => h.1.trans (by kernel_rfl)) (Nat.lt_of_lt_of_eq (show 0 < 6 by omega) (by kernel_rfl))).le (M := N) (by omega)
  have st := ShU.struct (t := 27) (fs := [(22, 0), (23, 1), (24, 2), (25, 3)]) (by kernel_rfl) (.cons' (o' := 1) (by kernel_rfl) s1 (.cons' (o' := 2) (by kernel_rfl) s2 (.cons' (o' := 3) (by kernel_rfl) s3 (.cons' (o' := 4) (by kernel_rfl) s4 (.nil 4))))) (by kernel_rfl)
  intro n hn H enc w cs x h
  obtain ⟨⟨a, b, c, d, _⟩, ⟨h1, h2, h3, h4, _⟩, hr⟩ := st n (by omega) H enc w cs x h
  refine ⟨⟨a, b, c, d, HF.lst fun r hr => (h3.2 r hr).2, HF.lst fun r hr => (h4.2 r hr).2⟩, ⟨h1.1, h1.2, h2.1, h2.2⟩, ?_⟩
  simpa using hr
end Go.Proofs.YtfniceomhfebhaaGreat.D

/-
  From a contract of a law to its row.
-/
set_option linter.unusedVariables false
set_option linter.unusedSimpArgs false
namespace Go.Ev
open Go Go.RowKit Go.ChangeShapes Go.WideShapes

/-- an argument's reading -/
def ArgSh (P : Program) (t : TypeId) {α : Type} (c : α → AV) (ok : α → Prop) : Prop :=
  ∀ (H : Type) (enc : TypeId × Value → H) (w : World) (r : Reach) (b : Nat) (v : Value) (d : DataW H) (ps : List MemPlace), Value.okWide P w r b t v → DataW.Trod enc P w 0 (fun _ => true) true t v d ps →
    ∃ a, ok a ∧ VRel ⟨(· < w.heap.size), []⟩ w.heap (c a) v
theorem ArgSh.struct {P : Program} {t : TypeId} {α : Type} {c : α → List AV} {ok : α → Prop} (ht : (structOf P t).isSome = true) (h : ∀ N, ShU P N t c ok) : ArgSh P t (fun a => .agg (c a)) ok := by
  intro H enc w r b v d ps h1 h2
  unfold structOf at ht
  split at ht
  · rename_i fs hu; exact ShU.argS h hu h1 h2
  · simp at ht
theorem ArgSh.slice {P : Program} {t e : TypeId} {α : Type} {c : α → AV} {ok : α → Prop} (ht : P.underlying t = some (.slice e)) (h : ∀ N, ShU P N t (fun a => [c a]) ok) : ArgSh P t c ok :=
  fun H enc w r b v d ps h1 h2 => ShU.arg1 h (one_slice_ty ht) h1 h2
theorem ArgSh.int {P : Program} {t : TypeId} {k : IntKind} {α : Type} {c : α → AV} {ok : α → Prop} (ht : P.underlying t = some (.int k)) (h : ∀ N, ShU P N t (fun a => [c a]) ok) : ArgSh P t c ok :=
  fun H enc w r b v d ps h1 h2 => ShU.arg1 h (one_int_ty ht) h1 h2
theorem ArgSh.string {P : Program} {t : TypeId} {α : Type} {c : α → AV} {ok : α → Prop} (ht : P.underlying t = some .string) (h : ∀ N, ShU P N t (fun a => [c a]) ok) : ArgSh P t c ok :=
  fun H enc w r b v d ps h1 h2 => ShU.arg1 h (one_string_ty ht) h1 h2
theorem ArgSh.bool {P : Program} {t : TypeId} {α : Type} {c : α → AV} {ok : α → Prop} (ht : P.underlying t = some .bool) (h : ∀ N, ShU P N t (fun a => [c a]) ok) : ArgSh P t c ok :=
  fun H enc w r b v d ps h1 h2 => ShU.arg1 h (one_bool_ty ht) h1 h2

inductive ArgF (P : Program) : List TypeId → {α : Type} → (α → List AV) → (α → Prop) → Prop where
  | nil : ArgF P [] (fun _ : Unit => []) (fun _ => True)
  | cons {t : TypeId} {ts : List TypeId} {α β : Type} {c : α → AV} {ok : α → Prop} {c' : β → List AV} {ok' : β → Prop} (h : ArgSh P t c ok) (k : ArgF P ts c' ok') : ArgF P (t :: ts) (fun x : α × β => c x.1 :: c' x.2) (fun x => ok x.1 ∧ ok' x.2)

theorem ArgF.read {P : Program} {ts : List TypeId} {α : Type} {c : α → List AV} {ok : α → Prop} (h : ArgF P ts c ok) {H : Type} {enc : TypeId × Value → H} {w : World} {r : Reach} {b : Nat} :
    ∀ {vs : List Value} {ds : List (DataW H)} {ps : List MemPlace}, DataW.TrodAll enc P w 0 (fun _ => true) true ts vs ds ps → (∀ (j : Nat) t v, ts[j]? = some t → vs[j]? = some v → Value.okWide P w r b t v) →
    ∃ a, ok a ∧ ds.length = ts.length ∧ vs.length = (c a).length ∧ ∀ (k : Nat) x, (c a)[k]? = some x → VRel ⟨(· < w.heap.size), []⟩ w.heap x (vs.getD k undef) := by
  induction h with
  | nil =>
    intro vs ds ps ht _
    obtain ⟨rfl, rfl, rfl⟩ := trodAll_nil ht
    exact ⟨(), trivial, rfl, rfl, by simp⟩
  | @cons t ts α β c ok c' ok' h k ih =>
    intro vs ds ps ht hk
    obtain ⟨v, vs', d, ds', p, q, rfl, rfl, rfl, h1, h2⟩ := trodAll_cons ht
    obtain ⟨a, ha, hr⟩ := h H enc w r b v d p (hk 0 t v rfl rfl) h1
    obtain ⟨a', ha', hdl, hl, hg⟩ := ih h2 (fun j t v => hk (j + 1) t v)
    refine ⟨(a, a'), ⟨ha, ha'⟩, by simp [hdl], by simp [hl], fun k x hx => ?_⟩
    cases k with
    | zero => simp at hx; subst hx; simpa using hr
    | succ k =>
      simp only [List.getElem?_cons_succ] at hx
      simpa [List.getD_eq_getElem?_getD] using hg k x hx

theorem trodAll_stays {P : Program} (hl : laidOutB P = true) {H : Type} {enc : TypeId × Value → H} {W W' : World} {sp : Nat → Bool} : ∀ {ts : List TypeId} {vs : List Value} {ds : List (DataW H)} {ps : List MemPlace},
    (∀ t, t ∈ ts → P.readableRec t = true ∧ t < P.types.size) → DataW.TrodAll enc P W 0 (fun _ => true) true ts vs ds ps → (∀ p ∈ ps, W.sameAt W' p) → (∀ p ∈ ps, sp p.block = true) → DataW.TrodAll enc P W' 0 sp true ts vs ds ps
  | [], vs, ds, ps, _, h, _, _ => by
    obtain ⟨rfl, rfl, rfl⟩ := trodAll_nil h
    exact trodAll_mk0
  | t :: ts, vs, ds, ps, hr, h, h1, h2 => by
    obtain ⟨v, vs', d, ds', p, q, rfl, rfl, rfl, g1, g2⟩ := trodAll_cons h
    have ht := hr t (by simp)
    exact trodAll_cons_mk (WideElems.Trod_stays hl ht.1 ht.2 g1 (fun x hx => h1 x (by simp [hx])) (fun x hx => h2 x (by simp [hx])))
      (trodAll_stays hl (fun t ht => hr t (by simp [ht])) g2 (fun x hx => h1 x (by simp [hx])) (fun x hx => h2 x (by simp [hx])))

/-- what a row says of a law, out of its contract -/
theorem law_row {P : Program} {f : FuncId} {fn : Func} {s : ChangeSpec} {ts : List TypeId} {tb : TypeId} {α : Type} {c : α → List AV} {ok : α → Prop} (hp : fn.params = ts.toArray) (hF : ArgF P ts c ok) (hv : s.vars = [])
    (hfn : ∀ (H : Type) (ds : List (DataW H)), ds.length = ts.length → s.fn H ds = { results := [.lit (.bool true)], args := ds }) (hr : fn.resultTypes = #[tb]) (htb : P.underlying tb = some .bool)
    (hl : laidOutB P = true) (hrr : (ts.all fun t => P.readableRec t && decide (t < P.types.size)) = true) (hS : ∀ a, ok a → SoundP P f (c a) (aB true))
    (H : Type) (enc : TypeId × Value → H) (W : World) (base : Nat) (args : Array Value) (ds gs : List (DataW H)) (before : List MemPlace)
    (hval : ∀ (j : Nat) t v, fn.params[j]? = some t → args[j]? = some v → Value.okWide P W .any base t v) (hW : DataW.Whole enc P fn.params.toList s.vars false W args.toList ds gs before) :
    Calls P f args W fun e W' => ∃ v, e = .returned v ∧ s.post enc P fn false true false false W args v W' := by
  have hW' := hW
  obtain ⟨p, q, hA, hV, hpq, hfz, _⟩ := hW
  rw [hv] at hV
  obtain ⟨hg, hq⟩ := trodVars_none hV
  subst hg; subst hq
  rw [List.append_nil] at hpq
  subst hpq
  rw [hp] at hA hval
  obtain ⟨a, ha, hdl, hvl, hvg⟩ := hF.read (r := .any) (b := base) hA (fun j t v h1 h2 => hval j t v (by simpa using h1) (by simpa using h2))
  have hlt : ∀ x, x ∈ before → x.block < W.heap.size := fun x hx => hA.lt x hx
  obtain ⟨_, hcall⟩ := hS a ha
  refine (hcall (· < W.heap.size) W args (fun _ h => h) ⟨by simpa using hvl, fun k x hk => ?_⟩).mono fun e W' ⟨imm', v, he, _, _, hb, hrv⟩ => ?_
  · have := hvg k x hk
    simpa [Array.getD_eq_getD_getElem?, List.getD_eq_getElem?_getD] using this
  · have hvb : v = .bool true := by cases hrv; rfl
    subst hvb
    refine ⟨_, he, ds, [], before, [], before, [], hW', ?_, ?_, ?_, World.keptBut_mono (fun x hx => ⟨hx, .inr (.inl hx)⟩) (hb.frame (· ∈ before)), fun h => by cases h⟩
    all_goals try rw [List.append_nil]
    all_goals try rw [hfn H ds hdl]
    · rw [hr]
      exact trodAll_cons_mk (p' := []) (shut_bool htb true) trodAll_mk0
    · rw [hp]
      refine trodAll_stays hl (fun t ht => ?_) hA (fun x hx => hb.same (hlt x hx)) (fun x hx => by simpa using hlt x hx)
      have := List.all_eq_true.1 hrr t ht
      simpa using this
    · rw [hv]; rfl
end Go.Ev

set_option linter.unusedVariables false
set_option linter.unusedSimpArgs false
set_option maxRecDepth 100000
namespace Go.Proofs.YtfniceomhfebhaaGreat.C1
open Go Go.Ev Go.Proofs

theorem atoms07 (sc : Sc) (g : GSc sc) : SoundP Tryz.prog 41 [eSc sc] (aI (sumI sc.atoms)) := by
  refine SoundP.of_sound (Sound.of_awp Tryz.call41 Tryz.func41 rfl (Nat.le_of_ble_eq_true (by kernel_rfl)) (by kernel_rfl) (pl := {}) ?_)
  simp [go_sem]
  refine LoopGo.up sc.atoms.length (fun k st => st.tm 1 = .ip [lI sc.atoms, aI sc.steps] ∧ st.tm 3 = aI (sumI (sc.atoms.take k)) ∧ st.tm 4 = aI k ∧ st.mu = []) ?_ ?_
  · simp [go_sem, sumI]
  rintro k st hk ⟨h1, h3, h4, hm⟩
  have hl := g.1
  simp [go_sem, h1, h3, h4, hm]
  refine BrS.intro (fun hlt => ?_) (fun hge => ?_)
  · have hlt : k < sc.atoms.length := by simpa using hlt
    have hs := sumI_take_succ sc.atoms k hlt
    have hb' := g.sum (k + 1)
    rw [hs] at hb'
    simp [go_sem, h1, h3, h4, hm, hlt]
    exact ⟨by rw [hs, wrap_i64 (by omega) (by omega)], wrap_i64 (by omega) (by omega)⟩
  · have hge : k = sc.atoms.length := by simp at hge; omega
    subst hge
    simp [go_sem, h1, h3, h4, hm]
    exact .hf _ (HF.sc _)

/-- the sort of an atom -/
def sortIn : List Int → Int → Int → Int
  | [], _, _ => -1
  | a :: l, x, i => if x < a then i else sortIn l (x - a) (i + 1)
def sortAt (sc : Sc) (x : Int) : Int := sortIn sc.atoms x 0
theorem sortIn_drop (l : List Int) (k : Nat) (x i : Int) (h : k < l.length) : sortIn (l.drop k) x i = if x < l[k] then i else sortIn (l.drop (k + 1)) (x - l[k]) (i + 1) := by
  rw [List.drop_eq_getElem_cons h, sortIn]

theorem sort07 (sc : Sc) (g : GSc sc) (x : Int) (hx : -1000000 ≤ x ∧ x ≤ 1000000) : SoundP Tryz.prog 95 [eSc sc, aI x] (aI (sortAt sc x)) := by
  refine SoundP.of_sound (Sound.of_awp Tryz.call95 Tryz.func95 rfl (Nat.le_of_ble_eq_true (by kernel_rfl)) (by kernel_rfl) (pl := {}) ?_)
  simp [go_sem]
  refine LoopGo.up sc.atoms.length (fun k st => st.tm 2 = .ip [lI sc.atoms, aI sc.steps] ∧ st.tm 5 = aI k ∧ st.mu = [] ∧ ∃ y, st.tm 1 = aI y ∧ sortIn (sc.atoms.drop k) y k = sortAt sc x ∧ y + 5 * k ≥ x ∧ y ≤ x) ?_ ?_
  · simp [go_sem, sortAt]
  rintro k st hk ⟨h1, h3, hm, y, h4, hy, hy1, hy2⟩
  have hl := g.1
  simp [go_sem, h1, h3, h4, hm]
  refine BrS.intro (fun hlt => ?_) (fun hge => ?_)
  · have hlt : k < sc.atoms.length := by simpa using hlt
    have hg := g.get hlt
    rw [sortIn_drop _ _ _ _ hlt] at hy
    simp [go_sem, h1, h3, h4, hm, hlt]
    refine BrS.intro (fun hb => ?_) (fun hb => ?_)
    · simp [go_sem, h1, h3, h4, hm, hlt]
      simp at hb
      rw [if_pos hb] at hy
      rw [← hy]
      exact .hf _ (HF.sc _)
    · simp [go_sem, h1, h3, h4, hm, hlt]
      simp at hb
      rw [if_neg (by omega)] at hy
      rw [wrap_i64 (by omega) (by omega), wrap_i64 (by omega) (by omega)]
      exact ⟨rfl, hy, by omega, by omega⟩
  · have hge : k = sc.atoms.length := by simp at hge; omega
    subst hge
    simp [go_sem, h1, h3, h4, hm]
    simp [sortIn] at hy
    rw [← hy]
    exact .hf _ (HF.sc _)

theorem ints07 (a b : List Int) (ha : a.length ≤ 9223372036854775807) : SoundP Tryz.prog 32 [lI a, lI b] (aB (decide (a = b))) := by
  refine SoundP.of_sound (Sound.of_awp Tryz.call32 Tryz.func32 rfl (Nat.le_of_ble_eq_true (by kernel_rfl)) (by kernel_rfl) (pl := {}) ?_)
  simp [go_sem]
  refine BrS.intro (fun hn => ?_) (fun hn => ?_)
  · simp at hn
    simp [go_sem]
    rw [decide_eq_false (by rintro rfl; exact hn rfl)]
    exact .hf _ (HF.sc _)
  simp at hn
  have hn : a.length = b.length := by omega
  simp [go_sem]
  refine LoopGo.up a.length (fun k st => st.tm 0 = lI a ∧ st.tm 1 = lI b ∧ st.tm 5 = aI k ∧ st.mu = [] ∧ ∀ (i : Nat) (h : i < a.length) (h' : i < b.length), i < k → a[i] = b[i]) ?_ ?_
  · simp [go_sem]
  rintro k st hk ⟨h0, h1, h5, hm, he⟩
  simp [go_sem, h0, h1, h5, hm]
  refine BrS.intro (fun hlt => ?_) (fun hge => ?_)
  · have hlt : k < a.length := by simpa using hlt
    have hlt' : k < b.length := by omega
    simp [go_sem, h0, h1, h5, hm, hlt]
    refine DrawGo.intro (by kernel_rfl) ?_
    simp [go_sem, h0, h1, h5, hm, hlt, hlt']
    refine BrS.intro (fun hb => ?_) (fun hb => ?_)
    · simp [go_sem, h0, h1, h5, hm, hlt]
      rw [decide_eq_false (by rintro rfl; simp at hb)]
      exact .hf _ (HF.sc _)
    · simp [go_sem, h0, h1, h5, hm, hlt]
      refine ⟨wrap_i64 (by omega) (by omega), fun i h h' hi => ?_⟩
      rcases Nat.lt_succ_iff_lt_or_eq.1 hi with h2 | h2
      · exact he i h h' h2
      · subst h2; simpa using hb
  · have hge : k = a.length := by simp at hge; omega
    subst hge
    simp [go_sem, h0, h1, h5, hm]
    rw [decide_eq_true (List.ext_getElem hn fun i h h' => he i h h' h)]
    exact .hf _ (HF.sc _)
end Go.Proofs.YtfniceomhfebhaaGreat.C1

set_option linter.unusedVariables false
set_option linter.unusedSimpArgs false
set_option maxRecDepth 100000
namespace Go.Proofs.YtfniceomhfebhaaGreat.C2
open Go Go.Ev Go.Proofs C1

def scopeOk (sp : Sp) (sc : Sc) : Bool := decide (sc.atoms.length = sp.sorts.length) && decide (sp.sorts.length ≤ 4) && decide (1 ≤ sc.steps) && decide (sc.steps ≤ 4) && sc.atoms.all (fun a => decide (1 ≤ a) && decide (a ≤ 5)) && decide (sumI sc.atoms ≤ 12)

theorem scope07 (sp : Sp) (sc : Sc) (ha : sc.atoms.length ≤ 9223372036854775807) : SoundP Tryz.prog 65 [eSp sp, eSc sc] (aB (scopeOk sp sc)) := by
  refine SoundP.of_sound (Sound.of_awp Tryz.call65 Tryz.func65 rfl (Nat.le_of_ble_eq_true (by kernel_rfl)) (by kernel_rfl) (pl := {}) ?_)
  by_cases h1 : sc.atoms.length = sp.sorts.length
  case neg =>
    simp [go_sem, h1, scopeOk]
    exact .hf _ (HF.sc _)
  by_cases h2 : (4 : Int) < sp.sorts.length
  case pos =>
    simp [go_sem, h1, h2, scopeOk, show ¬ sp.sorts.length ≤ 4 by omega]
    exact .hf _ (HF.sc _)
  by_cases h3 : sc.steps < 1
  case pos =>
    simp [go_sem, h1, h2, h3, scopeOk, show ¬ 1 ≤ sc.steps by omega]
    exact .hf _ (HF.sc _)
  by_cases h4 : 4 < sc.steps
  case pos =>
    simp [go_sem, h1, h2, h3, h4, scopeOk, show ¬ sc.steps ≤ 4 by omega]
    exact .hf _ (HF.sc _)
  simp [go_sem, h1, h2, h3, h4]
  refine LoopGo.up sc.atoms.length (fun k st => st.tm 3 = .ip [lI sc.atoms, aI sc.steps] ∧ st.tm 5 = aI k ∧ st.mu = [] ∧ ∀ (i : Nat) (h : i < sc.atoms.length), i < k → 1 ≤ sc.atoms[i] ∧ sc.atoms[i] ≤ 5) ?_ ?_
  · simp [go_sem]
  rintro k st hk ⟨e3, e5, hm, he⟩
  by_cases hlt : k < sc.atoms.length
  · by_cases hb : sc.atoms[k] < 1 ∨ 5 < sc.atoms[k]
    · have : sc.atoms.all (fun a => decide (1 ≤ a) && decide (a ≤ 5)) = false := by
        rw [← Bool.not_eq_true, List.all_eq_true]
        intro hall
        have := hall _ (List.getElem_mem hlt)
        simp at this
        omega
      have : scopeOk sp sc = false := by simp only [scopeOk, this, Bool.and_false, Bool.false_and]
      rw [this]
      by_cases hb1 : sc.atoms[k] < 1
      · simp [go_sem, e3, e5, hm, hlt, hb1]
        exact .hf _ (HF.sc _)
      · simp [go_sem, e3, e5, hm, hlt, hb1, show 5 < sc.atoms[k] by omega]
        exact .hf _ (HF.sc _)
    · simp [go_sem, e3, e5, hm, hlt, show ¬ sc.atoms[k] < 1 by omega, show ¬ 5 < sc.atoms[k] by omega]
      refine ⟨wrap_i64 (by omega) (by omega), fun i h hi => ?_⟩
      rcases Nat.lt_succ_iff_lt_or_eq.1 hi with h2 | h2
      · exact he i h h2
      · subst h2; exact ⟨by omega, by omega⟩
  · have hge : k = sc.atoms.length := by omega
    subst hge
    have hall : sc.atoms.all (fun a => decide (1 ≤ a) && decide (a ≤ 5)) = true := by
      rw [List.all_eq_true]
      intro a ha
      obtain ⟨i, hi, rfl⟩ := List.getElem_of_mem ha
      have := he i hi hi
      simp; omega
    have g : GSc sc := ⟨by omega, fun a ha => by
      have := List.all_eq_true.1 hall a ha
      simp at this; omega⟩
    simp [go_sem, e3, e5, hm]
    refine CallStep.pure (atoms07 sc g) (.cons (.hf (hf_eSc sc)) .nil) ?_
    simp [go_sem, e3, e5, hm]
    simp only [scopeOk, h1, hall, show sp.sorts.length ≤ 4 by omega, show 1 ≤ sc.steps by omega, show sc.steps ≤ 4 by omega]
    simp
    exact .hf _ (HF.sc _)

/-- the columns of a tuple, from the last one on -/
def colsOk (sc : Sc) (n : Int) : List Int → Int → Bool
  | [], _ => true
  | s :: l, x => decide (sortAt sc (x % n) = s) && colsOk sc n l (x / n)
theorem colsOk_drop (sc : Sc) (n : Int) (l : List Int) (k : Nat) (x : Int) (h : k < l.length) : colsOk sc n (l.drop k) x = (decide (sortAt sc (x % n) = l[k]) && colsOk sc n (l.drop (k + 1)) (x / n)) := by
  rw [List.drop_eq_getElem_cons h, colsOk]
/-- a number, divided again and again -/
def divN (n x : Int) : Nat → Int
  | 0 => x
  | j + 1 => divN n x j / n
theorem divN_ok {n x m : Int} (hn : 1 ≤ n) (h0 : 0 ≤ x) (hm : x ≤ m) : ∀ j, 0 ≤ divN n x j ∧ divN n x j ≤ m
  | 0 => ⟨h0, hm⟩
  | j + 1 => by
    have ih := divN_ok hn h0 hm j
    have d0 : 0 ≤ divN n x j / n := Int.ediv_nonneg ih.1 (by omega)
    have d1 : divN n x j / n ≤ divN n x j := Int.ediv_le_self n ih.1
    exact ⟨d0, Int.le_trans d1 ih.2⟩
def withinOk (sc : Sc) (sorts : List Int) (r : Rl) : Bool := r.ts.all (fun t => colsOk sc (max 1 (sumI sc.atoms)) sorts.reverse t)

theorem within07 (sc : Sc) (g : GSc sc) (sorts : List Int) (hs : sorts.length ≤ 1000) (r : Rl) (hl : r.ts.length ≤ 9223372036854775807) (hr : ∀ t, t ∈ r.ts → 0 ≤ t ∧ t ≤ 1000000) :
    SoundP Tryz.prog 68 [eSc sc, lI sorts, eRel r] (aB (withinOk sc sorts r)) := by
  refine SoundP.of_sound (Sound.of_awp Tryz.call68 Tryz.func68 rfl (Nat.le_of_ble_eq_true (by kernel_rfl)) (by kernel_rfl) (pl := {}) ?_)
  simp [go_sem]
  refine CallStep.pure (atoms07 sc g) (.cons (.hf (hf_eSc sc)) .nil) ?_
  simp [go_sem]
  have hsum := g.sum sc.atoms.length
  rw [List.take_length] at hsum
  generalize hn : max 1 (sumI sc.atoms) = n
  have hn1 : 1 ≤ n ∧ n ≤ 20 := by omega
  refine LoopGo.up r.ts.length (fun k st => st.tm 3 = .ip [lI sc.atoms, aI sc.steps] ∧ st.tm 5 = .ip [aI r.ar, lI r.ts] ∧ st.tm 1 = lI sorts ∧ st.tm 7 = aI n ∧ st.tm 8 = aI k ∧ st.mu = [] ∧ ∀ (i : Nat) (h : i < r.ts.length), i < k → colsOk sc n sorts.reverse r.ts[i] = true) ?_ ?_
  · simp [go_sem]
    omega
  rintro k st hk ⟨e3, e5, e1, e7, e8, hm, he⟩
  by_cases hlt : k < r.ts.length
  · have hrk := hr _ (List.getElem_mem hlt)
    simp [go_sem, e3, e5, e1, e7, e8, hm, hlt]
    refine LoopGo.up sorts.length (fun j st => st.tm 3 = .ip [lI sc.atoms, aI sc.steps] ∧ st.tm 5 = .ip [aI r.ar, lI r.ts] ∧ st.tm 1 = lI sorts ∧ st.tm 7 = aI n ∧ st.tm 8 = aI k ∧ st.mu = [] ∧
      st.tm 9 = aI (divN n r.ts[k] j) ∧ st.tm 10 = aI (sorts.length - 1 - j) ∧ colsOk sc n (sorts.reverse.drop j) (divN n r.ts[k] j) = colsOk sc n sorts.reverse r.ts[k]) ?_ ?_
    · simp [go_sem, e3, e5, e1, e7, e8, hm, divN]
      exact wrap_i64 (by omega) (by omega)
    rintro j st hj ⟨f3, f5, f1, f7, f8, fm, f9, f10, hy⟩
    have hyb := divN_ok hn1.1 hrk.1 hrk.2 j
    have hyb' := divN_ok hn1.1 hrk.1 hrk.2 (j + 1)
    rw [divN] at hyb'
    generalize hye : divN n r.ts[k] j = y at *
    generalize hc : (sorts.length : Int) - 1 - j = c at *
    by_cases hjl : j < sorts.length
    · have hjl' : j < sorts.reverse.length := by simpa using hjl
      rw [colsOk_drop _ _ _ _ _ hjl'] at hy
      have hyd : y.tdiv n = y / n := Int.tdiv_eq_ediv_of_nonneg hyb.1
      have hym : y.tmod n = y % n := Int.tmod_eq_emod_of_nonneg hyb.1
      have m0 := Int.emod_nonneg y (show n ≠ 0 by omega)
      have m1 := Int.emod_lt_of_pos y (show 0 < n by omega)
      have hc0 : 0 ≤ c := by omega
      have hc1 : c < sorts.length := by omega
      have hcl : c.toNat = sorts.length - 1 - j := by omega
      have hcl' : sorts.length - 1 - j < sorts.length := by omega
      have hrev : sorts.reverse[j] = sorts[sorts.length - 1 - j] := by simp
      rw [hrev] at hy
      simp [go_sem, f3, f5, f1, f7, f8, f9, f10, fm, hc0]
      refine DrawGo.intro (by kernel_rfl) ?_
      simp [go_sem, f3, f5, f1, f7, f8, f9, f10, fm, show n ≠ 0 by omega, hym]
      refine CallStep.pure (sort07 sc g (y % n) (by omega)) (.cons (.hf (hf_eSc sc)) (.cons (.hf (HF.sc _)) .nil)) ?_
      by_cases hs : sortAt sc (y % n) = sorts[sorts.length - 1 - j]
      · simp [go_sem, f3, f5, f1, f7, f8, f9, f10, fm, hc0, hc1, hcl, hcl', hs, show n ≠ 0 by omega, hyd]
        refine ⟨hjl, ?_, ?_, ?_⟩
        · rw [divN, hye, wrap_i64 (by omega) (by omega)]
        · rw [wrap_i64 (by omega) (by omega)]; omega
        · rw [divN, hye]; simpa [hs] using hy
      · simp [go_sem, f3, f5, f1, f7, f8, f9, f10, fm, hc0, hc1, hcl, hcl', hs]
        have : withinOk sc sorts r = false := by
          rw [withinOk, ← Bool.not_eq_true, List.all_eq_true, hn]
          intro hall
          have := hall _ (List.getElem_mem hlt)
          rw [← hy] at this
          simp [hs] at this
        rw [this]
        exact .hf _ (HF.sc _)
    · have hje : j = sorts.length := by omega
      subst hje
      simp [go_sem, f3, f5, f1, f7, f8, f9, f10, fm, show ¬ 0 ≤ c by omega]
      refine ⟨hlt, wrap_i64 (by omega) (by omega), fun i h hi => ?_⟩
      rcases Nat.lt_succ_iff_lt_or_eq.1 hi with h2 | h2
      · exact he i h h2
      · subst h2
        rw [← hy, List.drop_of_length_le (by simp), colsOk]
  · have hge : k = r.ts.length := by omega
    subst hge
    simp [go_sem, e3, e5, e1, e7, e8, hm]
    have : withinOk sc sorts r = true := by
      rw [withinOk, List.all_eq_true, hn]
      intro t ht
      obtain ⟨i, hi, rfl⟩ := List.getElem_of_mem ht
      exact he i hi hi
    rw [this]
    exact .hf _ (HF.sc _)
end Go.Proofs.YtfniceomhfebhaaGreat.C2

set_option linter.unusedVariables false
set_option linter.unusedSimpArgs false
set_option maxRecDepth 100000
namespace Go.Proofs.YtfniceomhfebhaaGreat.C3
open Go Go.Ev Go.Proofs C1

theorem pow_ok {n : Int} (h0 : 0 ≤ n) (h1 : n ≤ 20) : ∀ i : Nat, i ≤ 3 → 0 ≤ n ^ i ∧ n ^ i ≤ 8000 := by
  have a1 : 0 ≤ n * n := Int.mul_nonneg h0 h0
  have a2 : n * n ≤ 20 * 20 := Int.mul_le_mul h1 h1 h0 (by omega)
  have a3 : 0 ≤ n * n * n := Int.mul_nonneg a1 h0
  have a4 : n * n * n ≤ 20 * 20 * 20 := Int.mul_le_mul a2 h1 h0 (by omega)
  intro i hi
  match i, hi with
  | 0, _ => rw [Int.pow_zero]; omega
  | 1, _ => rw [Int.pow_succ, Int.pow_zero]; omega
  | 2, _ => rw [Int.pow_succ, Int.pow_succ, Int.pow_zero, Int.one_mul]; omega
  | 3, _ => rw [Int.pow_succ, Int.pow_succ, Int.pow_succ, Int.pow_zero, Int.one_mul]; omega
def powN (k : Int) : Nat := (min k 3).toNat
def powI (n k : Int) : Int := n ^ powN k

theorem power06 (n k : Int) (h0 : 0 ≤ n) (h1 : n ≤ 20) : SoundP Tryz.prog 94 [aI n, aI k] (aI (powI n k)) := by
  refine SoundP.of_sound (Sound.of_awp Tryz.call94 Tryz.func94 rfl (Nat.le_of_ble_eq_true (by kernel_rfl)) (by kernel_rfl) (pl := {}) ?_)
  simp [go_sem]
  refine LoopGo.up (powN k) (fun i st => st.tm 0 = aI n ∧ st.tm 1 = aI k ∧ st.tm 5 = aI (n ^ i) ∧ st.tm 6 = aI i ∧ st.mu = []) ?_ ?_
  · simp [go_sem]
  rintro i st hi ⟨e0, e1, e5, e6, hm⟩
  by_cases hlt : i < powN k
  · have ha : (i : Int) < k := by unfold powN at hlt; omega
    have hb : (i : Int) < 3 := by unfold powN at hlt; omega
    have hp := pow_ok h0 h1 (i + 1) (by omega)
    rw [Int.pow_succ] at hp
    simp [go_sem, e0, e1, e5, e6, hm, ha, hb]
    refine ⟨hlt, ?_, wrap_i64 (by omega) (by omega)⟩
    rw [Int.pow_succ, wrap_i64 (by omega) (by omega)]
  · have hge : i = powN k := by omega
    by_cases ha : (i : Int) < k
    · have hb : ¬ (i : Int) < 3 := by unfold powN at hlt; omega
      simp [go_sem, e0, e1, e5, e6, hm, ha, hb]
      rw [powI, hge]
      exact .hf _ (HF.sc _)
    · simp [go_sem, e0, e1, e5, e6, hm, ha]
      rw [powI, hge]
      exact .hf _ (HF.sc _)

def sorted (l : List Int) : Prop := l.Pairwise (· < ·)
instance (l : List Int) : Decidable (sorted l) := inferInstanceAs (Decidable (l.Pairwise (· < ·)))
theorem sorted_of {l : List Int} (h : ∀ (i : Nat) (h : i + 1 < l.length), l[i] < l[i + 1]) : sorted l := by
  unfold sorted
  induction l with
  | nil => exact .nil
  | cons a l ih =>
    have ih := ih fun i hi => by
      have := h (i + 1) (by simpa using hi)
      rw [List.getElem_cons_succ, List.getElem_cons_succ] at this
      exact this
    refine List.pairwise_cons.2 ⟨?_, ih⟩
    cases l with
    | nil => simp
    | cons b l =>
      have h0 := h 0 (by simp)
      simp at h0
      intro c hc
      rcases List.mem_cons.1 hc with rfl | hc
      · exact h0
      · have := (List.pairwise_cons.1 ih).1 c hc
        omega
theorem sorted_get {l : List Int} (h : sorted l) {i j : Nat} (hij : i < j) (hj : j < l.length) : l[i]'(by omega) < l[j] := List.pairwise_iff_getElem.1 h i j (by omega) hj hij

def validOk (n : Int) (r : Rl) : Bool := decide (0 ≤ n) && decide (n ≤ 12) && decide (1 ≤ r.ar) && decide (r.ar ≤ 3) && r.ts.all (fun t => decide (0 ≤ t) && decide (t < powI n r.ar)) && decide (sorted r.ts)

theorem valid06 (n : Int) (r : Rl) (hl : r.ts.length ≤ 9223372036854775807) : SoundP Tryz.prog 67 [aI n, eRel r] (aB (validOk n r)) := by
  refine SoundP.of_sound (Sound.of_awp Tryz.call67 Tryz.func67 rfl (Nat.le_of_ble_eq_true (by kernel_rfl)) (by kernel_rfl) (pl := {}) ?_)
  by_cases h1 : n < 0
  case pos =>
    simp [go_sem, h1, validOk, show ¬ 0 ≤ n by omega]
    exact .hf _ (HF.sc _)
  by_cases h2 : 12 < n
  case pos =>
    simp [go_sem, h1, h2, validOk, show ¬ n ≤ 12 by omega]
    exact .hf _ (HF.sc _)
  by_cases h3 : r.ar < 1
  case pos =>
    simp [go_sem, h1, h2, h3, validOk, show ¬ 1 ≤ r.ar by omega]
    exact .hf _ (HF.sc _)
  by_cases h4 : 3 < r.ar
  case pos =>
    simp [go_sem, h1, h2, h3, h4, validOk, show ¬ r.ar ≤ 3 by omega]
    exact .hf _ (HF.sc _)
  simp [go_sem, h1, h2, h3, h4]
  refine LoopGo.up r.ts.length (fun k st => st.tm 0 = aI n ∧ st.tm 3 = .ip [aI r.ar, lI r.ts] ∧ st.tm 5 = aI k ∧ st.mu = [] ∧ ∀ (i : Nat) (h : i < r.ts.length), i < k → 0 ≤ r.ts[i] ∧ r.ts[i] < powI n r.ar ∧ (0 < i → r.ts[i - 1] < r.ts[i])) ?_ ?_
  · simp [go_sem]
  rintro k st hk ⟨e0, e3, e5, hm, he⟩
  by_cases hlt : k < r.ts.length
  · have bad1 : ¬ (0 ≤ r.ts[k] ∧ r.ts[k] < powI n r.ar) → validOk n r = false := by
      intro hb
      have : r.ts.all (fun t => decide (0 ≤ t) && decide (t < powI n r.ar)) = false := by
        rw [← Bool.not_eq_true, List.all_eq_true]
        intro hall
        have := hall _ (List.getElem_mem hlt)
        simp at this
        exact hb this
      simp only [validOk, this, Bool.and_false, Bool.false_and]
    have bad2 : 0 < k → ¬ (r.ts[k - 1] < r.ts[k]) → validOk n r = false := by
      intro hk hb
      have : ¬ sorted r.ts := fun h => hb (sorted_get h (by omega) hlt)
      simp only [validOk, this, decide_false, Bool.and_false, Bool.false_and]
    have hw : 0 < k → IntKind.i64.wrap ((k : Int) - 1) = ((k - 1 : Nat) : Int) := fun h => by rw [wrap_i64 (by omega) (by omega)]; omega
    have next : 0 ≤ r.ts[k] → r.ts[k] < powI n r.ar → (0 < k → r.ts[k - 1] < r.ts[k]) → k < r.ts.length ∧ IntKind.i64.wrap ((k : Int) + 1) = (k : Int) + 1 ∧ ∀ (i : Nat) (h : i < r.ts.length), i < k + 1 → 0 ≤ r.ts[i] ∧ r.ts[i] < powI n r.ar ∧ (0 < i → r.ts[i - 1] < r.ts[i]) := by
      intro n1 n2 n3
      refine ⟨hlt, wrap_i64 (by omega) (by omega), fun i h hi => ?_⟩
      rcases Nat.lt_succ_iff_lt_or_eq.1 hi with h2 | h2
      · exact he i h h2
      · subst h2; exact ⟨n1, n2, n3⟩
    simp [go_sem, e0, e3, e5, hm, hlt]
    refine DrawGo.intro (by kernel_rfl) ?_
    simp [go_sem, e0, e3, e5, hm, hlt]
    by_cases ha : r.ts[k] < 0
    · simp [go_sem, e0, e3, e5, hm, hlt, ha]
      rw [bad1 (by omega)]
      exact .hf _ (HF.sc _)
    simp [go_sem, e0, e3, e5, hm, hlt, ha]
    refine CallStep.pure (power06 n r.ar (by omega) (by omega)) (.cons (.hf (HF.sc _)) (.cons (.hf (HF.sc _)) .nil)) ?_
    by_cases hb : powI n r.ar ≤ r.ts[k]
    · simp [go_sem, e0, e3, e5, hm, hlt, ha, hb]
      rw [bad1 (by omega)]
      exact .hf _ (HF.sc _)
    by_cases hk0 : 0 < k
    · have hw := hw hk0
      have hk1 : k - 1 < r.ts.length := by omega
      by_cases hc : r.ts[k] ≤ r.ts[k - 1]
      · simp [go_sem, e0, e3, e5, hm, hlt, ha, hb, hk0, hw, hk1, hc]
        rw [bad2 hk0 (by omega)]
        exact .hf _ (HF.sc _)
      · simp [go_sem, e0, e3, e5, hm, hlt, ha, hb, hk0, hw, hk1, hc]
        exact (next (by omega) (by omega) (fun _ => by omega)).2
    · simp [go_sem, e0, e3, e5, hm, hlt, ha, hb, hk0]
      exact (next (by omega) (by omega) (fun _ => by omega)).2
  · have hge : k = r.ts.length := by omega
    subst hge
    have hall : r.ts.all (fun t => decide (0 ≤ t) && decide (t < powI n r.ar)) = true := by
      rw [List.all_eq_true]
      intro t ht
      obtain ⟨i, hi, rfl⟩ := List.getElem_of_mem ht
      have := he i hi hi
      simp; omega
    have hso : sorted r.ts := sorted_of fun i hi => by simpa using (he (i + 1) hi hi).2.2 (by omega)
    simp [go_sem, e0, e3, e5, hm]
    simp only [validOk, hall, hso, show 0 ≤ n by omega, show n ≤ 12 by omega, show 1 ≤ r.ar by omega, show r.ar ≤ 3 by omega]
    exact .hf _ (HF.sc _)

theorem has06 (r : Rl) (x : Int) (hl : r.ts.length ≤ 1000000000) (hs : sorted r.ts) : SoundP Tryz.prog 44 [eRel r, aI x] (aB (decide (x ∈ r.ts))) := by
  refine SoundP.of_sound (Sound.of_awp Tryz.call44 Tryz.func44 rfl (Nat.le_of_ble_eq_true (by kernel_rfl)) (by kernel_rfl) (pl := {}) ?_)
  simp [go_sem]
  refine LoopGo.keep (fun n st => ∃ lo hi : Nat, n = hi - lo ∧ st.tm 1 = aI x ∧ st.tm 2 = .ip [aI r.ar, lI r.ts] ∧ st.tm 5 = aI lo ∧ st.tm 6 = aI hi ∧ st.mu = [] ∧ lo ≤ hi ∧ hi ≤ r.ts.length ∧ (∀ (i : Nat) (h : i < r.ts.length), i < lo → r.ts[i] < x) ∧ (∀ (i : Nat) (h : i < r.ts.length), hi ≤ i → x ≤ r.ts[i])) r.ts.length ?_ ?_
  · exact ⟨0, r.ts.length, by omega, by simp [go_sem], by simp [go_sem], by simp [go_sem], by simp [go_sem], by simp [go_sem], by omega, by omega, fun i h h' => by omega, fun i h h' => by omega⟩
  rintro n st ⟨lo, hi, hn, e1, e2, e5, e6, hm, hlh, hhl, hlo, hhi⟩
  by_cases hlt : lo < hi
  · have hw : IntKind.i64.wrap (IntKind.i64.wrap ((lo : Int) + hi) / 2) = (((lo + hi) / 2 : Nat) : Int) := by
      rw [wrap_i64 (n := (lo : Int) + hi) (by omega) (by omega), wrap_i64 (by omega) (by omega)]; omega
    have htd : (IntKind.i64.wrap ((lo : Int) + hi)).tdiv 2 = IntKind.i64.wrap ((lo : Int) + hi) / 2 := Int.tdiv_eq_ediv_of_nonneg (by rw [wrap_i64 (by omega) (by omega)]; omega)
    have hmid : (lo + hi) / 2 < r.ts.length := by omega
    generalize hmd : (lo + hi) / 2 = mid at *
    by_cases hb : r.ts[mid] < x
    · simp [go_sem, e1, e2, e5, e6, hm, hlt, htd, hw, hmid, hb]
      refine Keep.loop (hi - (mid + 1)) (by omega) ⟨mid + 1, hi, rfl, by simp [go_sem, e1], by simp [go_sem, e2], ?_, by simp [go_sem, e6], by simp [go_sem, hm], by omega, by omega, fun i h h' => ?_, hhi⟩
      · simp [go_sem]
        exact wrap_i64 (by omega) (by omega)
      · rcases Nat.lt_or_ge i mid with h3 | h3
        · exact Int.lt_trans (sorted_get hs h3 hmid) hb
        · have : i = mid := by omega
          subst this; exact hb
    · simp [go_sem, e1, e2, e5, e6, hm, hlt, htd, hw, hmid, hb]
      refine Keep.loop (mid - lo) (by omega) ⟨lo, mid, rfl, by simp [go_sem, e1], by simp [go_sem, e2], by simp [go_sem, e5], by simp [go_sem], by simp [go_sem, hm], by omega, by omega, hlo, fun i h h' => ?_⟩
      rcases Nat.lt_or_ge mid i with h3 | h3
      · have := sorted_get hs h3 h; omega
      · have : i = mid := by omega
        subst this; omega
  · have hge : hi = lo := by omega
    subst hge
    by_cases hin : hi < r.ts.length
    · by_cases he : r.ts[hi] = x
      · simp [go_sem, e1, e2, e5, e6, hm, hin, he]
        have : x ∈ r.ts := he ▸ List.getElem_mem hin
        simp [this]
        exact .hf _ (HF.sc _)
      · simp [go_sem, e1, e2, e5, e6, hm, hin, he]
        have : ¬ x ∈ r.ts := fun h => by
          obtain ⟨i, hi', rfl⟩ := List.getElem_of_mem h
          rcases Nat.lt_or_ge i hi with h3 | h3
          · have := hlo i hi' h3; omega
          · rcases Nat.lt_or_ge hi i with h4 | h4
            · have := sorted_get hs h4 hi'
              have := hhi hi hin (by omega)
              omega
            · have : i = hi := by omega
              subst this; exact he rfl
        simp [this]
        exact .hf _ (HF.sc _)
    · simp [go_sem, e1, e2, e5, e6, hm, hin]
      have : ¬ x ∈ r.ts := fun h => by
        obtain ⟨i, hi', rfl⟩ := List.getElem_of_mem h
        have := hlo i hi' (by omega); omega
      simp [this]
      exact .hf _ (HF.sc _)

theorem diff06 (a b : Rl) (hl : a.ts.length ≤ 1000000000) (hlb : b.ts.length ≤ 1000000000) (hs : sorted b.ts) : SoundP Tryz.prog 96 [eRel a, eRel b] (eRel ⟨a.ar, a.ts.filter (fun t => decide (¬ t ∈ b.ts))⟩) := by
  refine SoundP.of_sound (Sound.of_awp Tryz.call96 Tryz.func96 rfl (Nat.le_of_ble_eq_true (by kernel_rfl)) (by kernel_rfl) (pl := {}) ?_)
  simp [go_sem]
  refine LoopGo.keep (fun m st => ∃ k av rest, m = a.ts.length - k ∧ k ≤ a.ts.length ∧ st.tm 2 = .ip [aI a.ar, lI a.ts] ∧ st.tm 3 = .ip [aI b.ar, lI b.ts] ∧ st.tm 4 = .ptr 0 0 ∧ st.tm 5 = .ptr 1 0 ∧ st.tm 6 = aI (k : Nat) ∧
    st.mu = [.arr [aI 0, .lst true []], .arr [aI a.ar, av]] ++ rest ∧ OwnF 2 ([.dead, .dead] ++ rest) 1 av (((a.ts.take k).filter (fun t => decide (¬ t ∈ b.ts))).map rI)) a.ts.length ?_ ?_
  · exact ⟨0, .lst true [], [], by omega, by omega, by simp [go_sem], by simp [go_sem], by simp [go_sem], by simp [go_sem], by simp [go_sem], by simp [go_sem], by simpa using OwnF.nil (by simp)⟩
  rintro m st ⟨k, av, rest, rfl, hk, e2, e3, e4, e5, e6, hm, ho⟩
  have ho := ho.low (low := [.dead, .dead]) (low' := [.arr [aI 0, .lst true []], .arr [aI a.ar, av]]) rfl
  by_cases hlt : k < a.ts.length
  · simp [go_sem, e2, e3, e4, e5, e6, hlt]
    refine DrawGo.intro (by kernel_rfl) ?_
    simp [go_sem, e2, e3, e4, e5, e6, hlt]
    refine CallStep.pure (has06 b a.ts[k] hlb hs) (.cons (.hf (hf_eRel b)) (.cons (.hf (HF.sc _)) .nil)) ?_
    have htk : a.ts.take (k + 1) = a.ts.take k ++ [a.ts[k]] := by rw [List.take_add_one, List.getElem?_eq_getElem hlt]; rfl
    by_cases hb : a.ts[k] ∈ b.ts
    · simp [go_sem, e2, e3, e4, e5, e6, hlt, hb]
      refine Keep.loop (a.ts.length - (k + 1)) (by omega) ⟨k + 1, av, rest, rfl, by omega, by simp [go_sem, e2], by simp [go_sem, e3], by simp [go_sem, e4], by simp [go_sem, e5], ?_, by simp [go_sem, hm], ?_⟩
      · simp [go_sem]; exact wrap_i64 (by omega) (by omega)
      · rw [htk, List.filter_append]; simpa [go_sem, hb] using ho.low (low' := [.dead, .dead]) rfl
    · simp [go_sem, e2, e3, e4, e5, e6, hlt, hb]
      refine DrawGo.intro (by kernel_rfl) ?_
      simp [go_sem, e2, e3, e4, e5, e6, hlt, hb, hm]
      refine AppendStep.intsL (low := [.arr [aI 0, .lst true []], .arr [aI a.ar, av]]) (e := 3) (bt := 8) (z := 0) (xs := (a.ts.take k).filter (fun t => decide (¬ t ∈ b.ts))) (ys := [a.ts[k]]) (by simp [go_sem]) (by simp [go_sem]) (by simp [go_sem]) (by omega) ho (by simp [rowsOf]) ?_ ?_
      · have := List.length_filter_le (fun t => decide (¬ t ∈ b.ts)) (a.ts.take k)
        have := List.length_take_le k a.ts
        have h3 : [a.ts[k]].length = 1 := rfl
        omega
      intro av' rest' ho'
      simp [go_sem, e2, e3, e4, e5, e6, hlt, hb, ho'.cells, ho'.one]
      refine Keep.loop (a.ts.length - (k + 1)) (by omega) ⟨k + 1, av', rest', rfl, by omega, by simp [go_sem, e2], by simp [go_sem, e3], by simp [go_sem, e4], by simp [go_sem, e5], ?_, by simp [go_sem], ?_⟩
      · simp [go_sem]; exact wrap_i64 (by omega) (by omega)
      · rw [htk, List.filter_append]
        simpa [go_sem, hb] using ho'.low (low' := [.dead, .dead]) rfl
  · have hge : k = a.ts.length := by omega
    subst hge
    simp [go_sem, e2, e3, e4, e5, e6, hm, ho.one]
    rw [List.take_length] at ho
    simp at ho
    exact Rd.rel (r := ⟨a.ar, a.ts.filter (fun t => !decide (t ∈ b.ts))⟩) (ho.low (low := [.arr [aI 0, .lst true []], .arr [aI a.ar, av]]) (low' := [.arr [aI a.ar, av], .arr [aI a.ar, av]]) rfl).rdI
end Go.Proofs.YtfniceomhfebhaaGreat.C3

set_option linter.unusedVariables false
set_option linter.unusedSimpArgs false
set_option maxRecDepth 100000
namespace Go.Proofs.YtfniceomhfebhaaGreat.C4
open Go Go.Ev Go.Proofs C1 C2 C3

theorem all_iff_get {α : Type} {l : List α} {p : α → Bool} : l.all p = true ↔ ∀ (i : Nat) (h : i < l.length), p l[i] = true := by
  rw [List.all_eq_true]
  refine ⟨fun h i hi => h _ (List.getElem_mem hi), fun h a ha => ?_⟩
  obtain ⟨i, hi, rfl⟩ := List.getElem_of_mem ha
  exact h i hi
theorem all_bad {α : Type} {l : List α} {p : α → Bool} {i : Nat} (h : i < l.length) (hp : p l[i] = false) : l.all p = false := by
  rw [← Bool.not_eq_true, all_iff_get]
  intro h'
  have := h' i h
  simp [hp] at this

def inOk (a b : Rl) : Bool := a.ts.all (fun t => decide (t ∈ b.ts))

theorem in06 (a b : Rl) (hl : a.ts.length ≤ 1000000000) (hlb : b.ts.length ≤ 1000000000) (hs : sorted b.ts) : SoundP Tryz.prog 69 [eRel a, eRel b] (aB (inOk a b)) := by
  refine SoundP.of_sound (Sound.of_awp Tryz.call69 Tryz.func69 rfl (Nat.le_of_ble_eq_true (by kernel_rfl)) (by kernel_rfl) (pl := {}) ?_)
  simp [go_sem]
  refine CallStep.pure (diff06 a b hl hlb hs) (.cons (.hf (hf_eRel a)) (.cons (.hf (hf_eRel b)) .nil)) ?_
  simp [go_sem]
  have e : inOk a b = decide (∀ t, t ∈ a.ts → t ∈ b.ts) := by
    rw [Bool.eq_iff_iff]; simp [inOk]
  rw [e]
  exact .hf _ (HF.sc _)

def fieldOk (sp : Sp) (f : Fld) : Bool := f.sorts.all (fun s => decide (0 ≤ s) && decide (s < sp.sorts.length)) && decide (1 ≤ f.sorts.length) && decide (f.sorts.length ≤ 3)

def sideOk (sc : Sc) (f : Fld) (r : Rl) : Bool := decide (r.ar = f.sorts.length) && decide (r.ts.length ≤ 2000) && validOk (sumI sc.atoms) r && withinOk sc f.sorts r

theorem valid_small {n : Int} {r : Rl} (h : validOk n r = true) : ∀ t, t ∈ r.ts → 0 ≤ t ∧ t ≤ 1000000 := by
  intro t ht
  simp only [validOk, Bool.and_eq_true, decide_eq_true_eq, List.all_eq_true] at h
  obtain ⟨⟨⟨⟨⟨h1, h2⟩, h3⟩, h4⟩, h5⟩, _⟩ := h
  have h6 := h5 t ht
  have h7 := pow_ok h1 (by omega) (powN r.ar) (by unfold powN; omega)
  unfold powI at h6
  omega

end Go.Proofs.YtfniceomhfebhaaGreat.C4

set_option linter.unusedVariables false
set_option linter.unusedSimpArgs false
set_option maxRecDepth 100000
namespace Go.Proofs.YtfniceomhfebhaaGreat.C5
open Go Go.Ev Go.Proofs C1 C2 C3 C4

abbrev rP (p : Int × Int) : List AV := [aI p.1, aI p.2]
abbrev lP (ps : List (Int × Int)) : AV := .lst false (ps.map rP)
theorem hf_lP (xs : List (Int × Int)) : HF (lP xs) := HF.lst fun r hr c hc => by
  obtain ⟨n, _, rfl⟩ := List.mem_map.1 hr
  simp at hc
  rcases hc with rfl | rfl <;> exact HF.sc _

def fit1 (sp : Sp) (sc : Sc) (b : Bd) (f : Fld) : Bool := fieldOk sp f && sideOk sc f b.lo && sideOk sc f b.up && inOk b.lo b.up
def fitsOk (sp : Sp) (sc : Sc) (bs : List Bd) (most : Int) : Bool :=
  decide (sc.atoms.length ≤ 4) && scopeOk sp sc && decide (sumI sc.atoms ≤ most) && decide (bs.length = sp.fields.length) && decide (bs.length ≤ 6) && (bs.zip sp.fields).all fun p => fit1 sp sc p.1 p.2

theorem scopeOk_g {sp : Sp} {sc : Sc} (h : scopeOk sp sc = true) : GSc sc := by
  simp only [scopeOk, Bool.and_eq_true, decide_eq_true_eq, List.all_eq_true] at h
  obtain ⟨⟨⟨⟨⟨h1, h2⟩, h3⟩, h4⟩, h5⟩, _⟩ := h
  exact ⟨by omega, fun a ha => by have := h5 a ha; omega⟩
end Go.Proofs.YtfniceomhfebhaaGreat.C5

set_option linter.unusedVariables false
set_option linter.unusedSimpArgs false
set_option maxRecDepth 100000
namespace Go.Proofs.YtfniceomhfebhaaGreat.C6
open Go Go.Ev Go.Proofs C1 C2 C3 C4 C5

def fix1 (sp : Sp) (sc : Sc) (x : Nat) (px : Int) : Bool :=
  !(decide (0 ≤ sortAt sc x) && decide (sortAt sc x < sp.sorts.length) && ((sp.sorts[(sortAt sc x).toNat]?).map (·.2)).getD false && decide (px ≠ x))
def fixesOk (sp : Sp) (sc : Sc) (p : List Int) : Bool := allN (fun x => fix1 sp sc x (gI p x)) p.length

def swap1 (x y i : Int) : Int := if i = x then y else if i = y then x else i
def swapL (x y : Int) (n : Nat) : List Int := (List.range n).map fun i : Nat => swap1 x y i
end Go.Proofs.YtfniceomhfebhaaGreat.C6

set_option linter.unusedVariables false
set_option linter.unusedSimpArgs false
set_option maxRecDepth 100000
namespace Go.Proofs.YtfniceomhfebhaaGreat.C7
open Go Go.Ev Go.Proofs C1 C2 C3 C4 C5 C6

/-- the last k digits -/
def digN (n r : Int) : Nat → List Int
  | 0 => []
  | k + 1 => divN n r k % n :: digN n r k
def digits (n ar r : Int) : List Int := digN (max 1 n) r (powN ar)
theorem digN_len (n r : Int) : ∀ k, (digN n r k).length = k
  | 0 => rfl
  | k + 1 => by simp [digN, digN_len n r k]
theorem digN_mem {n r : Int} (hn : 1 ≤ n) : ∀ k d, d ∈ digN n r k → 0 ≤ d ∧ d < n
  | 0, d, h => by simp [digN] at h
  | k + 1, d, h => by
    rcases List.mem_cons.1 h with rfl | h
    · exact ⟨Int.emod_nonneg _ (by omega), Int.emod_lt_of_pos _ (by omega)⟩
    · exact digN_mem hn k d h

/-- a partition's classes of n atoms -/
structure GW (n : Int) (class_ : List Int) : Prop where
  pos : 1 ≤ n
  len : n ≤ class_.length
  val : ∀ c, c ∈ class_ → 0 ≤ c ∧ c ≤ 100
structure GR (r : Rl) : Prop where
  len : r.ts.length ≤ 1000000000
  val : ∀ t, t ∈ r.ts → 0 ≤ t ∧ t ≤ 1000000
end Go.Proofs.YtfniceomhfebhaaGreat.C7

set_option linter.unusedVariables false
set_option linter.unusedSimpArgs false
set_option maxRecDepth 100000
namespace Go.Proofs.YtfniceomhfebhaaGreat.C8
open Go Go.Ev Go.Proofs C1 C2 C3 C4 C5 C6 C7

end Go.Proofs.YtfniceomhfebhaaGreat.C8

set_option linter.unusedVariables false
set_option linter.unusedSimpArgs false
set_option maxRecDepth 100000
namespace Go.Proofs.YtfniceomhfebhaaGreat.C9
open Go Go.Ev Go.Proofs C1 C2 C3 C7

theorem sumU (sc : Sc) (g : GSc sc) : SoundP Tryz.prog 123 [lI sc.atoms] (aI (sumI sc.atoms)) := by
  refine SoundP.of_sound (Sound.of_awp Tryz.call123 Tryz.func123 rfl (Nat.le_of_ble_eq_true (by kernel_rfl)) (by kernel_rfl) (pl := {}) ?_)
  simp [go_sem]
  refine LoopGo.up sc.atoms.length (fun k st => st.tm 6 = lI sc.atoms ∧ st.tm 7 = aI sc.atoms.length ∧ st.tm 3 = aI (sumI (sc.atoms.take k)) ∧ st.tm 8 = aI k ∧ st.mu = []) ?_ ?_
  · simp [go_sem, sumI]
  rintro k st hk ⟨e6, e7, e3, e8, hm⟩
  have hl := g.1
  by_cases hlt : k < sc.atoms.length
  · have hs := sumI_take_succ sc.atoms k hlt
    have hb' := g.sum (k + 1)
    rw [hs] at hb'
    simp [go_sem, e6, e7, e3, e8, hm, hlt]
    exact ⟨by rw [hs, wrap_i64 (by omega) (by omega)], wrap_i64 (by omega) (by omega)⟩
  · have hge : k = sc.atoms.length := by omega
    subst hge
    simp [go_sem, e6, e7, e3, e8, hm]
    exact .hf _ (HF.sc _)

theorem atomsU (sc : Sc) (g : GSc sc) : SoundP Tryz.prog 100 [eSc sc] (aI (sumI sc.atoms)) := by
  refine SoundP.of_sound (Sound.of_awp Tryz.call100 Tryz.func100 rfl (Nat.le_of_ble_eq_true (by kernel_rfl)) (by kernel_rfl) (pl := {}) ?_)
  simp [go_sem]
  refine CallStep.pure (sumU sc g) (.cons (.hf (hf_lI _)) .nil) ?_
  simp [go_sem]
  exact .hf _ (HF.sc _)

theorem withinU (n a b : Int) : SoundP Tryz.prog 106 [aI n, aI a, aI b] (aB (decide (a ≤ n) && decide (n ≤ b))) := by
  refine SoundP.of_sound (Sound.of_awp Tryz.call106 Tryz.func106 rfl (Nat.le_of_ble_eq_true (by kernel_rfl)) (by kernel_rfl) (pl := {}) ?_)
  by_cases h1 : a ≤ n
  · simp [go_sem, h1]
    exact .hf _ (HF.sc _)
  · simp [go_sem, h1]
    exact .hf _ (HF.sc _)

def sortU (sc : Sc) (x : Int) : Int := if x < 0 then -1 else sortAt sc x
theorem sortOfU (sc : Sc) (g : GSc sc) (x : Int) (hx : -1000000 ≤ x ∧ x ≤ 1000000) : SoundP Tryz.prog 102 [eSc sc, aI x] (aI (sortU sc x)) := by
  refine SoundP.of_sound (Sound.of_awp Tryz.call102 Tryz.func102 rfl (Nat.le_of_ble_eq_true (by kernel_rfl)) (by kernel_rfl) (pl := {}) ?_)
  unfold sortU
  by_cases hneg : x < 0
  · simp [go_sem, hneg]
    exact .hf _ (HF.sc _)
  simp [go_sem, hneg]
  refine LoopGo.up sc.atoms.length (fun k st => st.tm 10 = lI sc.atoms ∧ st.tm 11 = aI sc.atoms.length ∧ st.tm 12 = aI k ∧ st.mu = [] ∧ ∃ y, st.tm 1 = aI y ∧ sortIn (sc.atoms.drop k) y k = sortAt sc x ∧ y + 5 * k ≥ x ∧ y ≤ x) ?_ ?_
  · simp [go_sem, sortAt]
  rintro k st hk ⟨e10, e11, e12, hm, y, h4, hy, hy1, hy2⟩
  have hl := g.1
  by_cases hlt : k < sc.atoms.length
  · have hg := g.get hlt
    rw [sortIn_drop _ _ _ _ hlt] at hy
    by_cases hb : y < sc.atoms[k]
    · simp [go_sem, e10, e11, e12, h4, hm, hlt, hb]
      rw [if_pos hb] at hy
      rw [← hy]
      exact .hf _ (HF.sc _)
    · simp [go_sem, e10, e11, e12, h4, hm, hlt, hb]
      rw [if_neg hb] at hy
      rw [wrap_i64 (by omega) (by omega), wrap_i64 (by omega) (by omega)]
      exact ⟨rfl, hy, by omega, by omega⟩
  · have hge : k = sc.atoms.length := by omega
    subst hge
    simp [go_sem, e10, e11, e12, h4, hm]
    simp [sortIn] at hy
    rw [← hy]
    exact .hf _ (HF.sc _)

def bR : Nat → Int
  | 0 => 0
  | k + 1 => bR k * 20 + 20
theorem bR_ok : ∀ k, k ≤ 3 → bR k ≤ 100000
  | 0, _ => by decide
  | 1, _ => by decide
  | 2, _ => by decide
  | 3, _ => by decide
def rankF (n : Int) (tuple : List Int) : Int := tuple.foldl (fun o t => o * n + t) 0
theorem rankF_succ (n : Int) (tuple : List Int) (k : Nat) (h : k < tuple.length) : rankF n (tuple.take (k + 1)) = rankF n (tuple.take k) * n + tuple[k] := by
  rw [List.take_add_one, List.getElem?_eq_getElem h, rankF, rankF, List.foldl_append]; rfl

theorem rankU (sc : Sc) (g : GSc sc) (tuple : List Int) (ht : tuple.length ≤ 3) (hd : ∀ d, d ∈ tuple → 0 ≤ d ∧ d < sumI sc.atoms) : SoundP Tryz.prog 109 [eSc sc, lI tuple] (aI (rankF (sumI sc.atoms) tuple)) := by
  refine SoundP.of_sound (Sound.of_awp Tryz.call109 Tryz.func109 rfl (Nat.le_of_ble_eq_true (by kernel_rfl)) (by kernel_rfl) (pl := {}) ?_)
  simp [go_sem, show ¬ (3 : Int) < tuple.length by omega]
  refine CallStep.pure (atomsU sc g) (.cons (.hf (hf_eSc sc)) .nil) ?_
  have hsum := g.sum sc.atoms.length
  rw [List.take_length] at hsum
  generalize sumI sc.atoms = n at *
  simp [go_sem]
  refine LoopGo.up tuple.length (fun k st => st.tm 5 = aI n ∧ st.tm 14 = lI tuple ∧ st.tm 15 = aI tuple.length ∧ st.tm 6 = aI (rankF n (tuple.take k)) ∧ st.tm 16 = aI k ∧ st.mu = [] ∧ 0 ≤ rankF n (tuple.take k) ∧ rankF n (tuple.take k) ≤ bR k) ?_ ?_
  · simp [go_sem, rankF, bR]
  rintro k st hk ⟨e5, e14, e15, e6, e16, hm, hr0, hr1⟩
  by_cases hlt : k < tuple.length
  · have hdk := hd _ (List.getElem_mem hlt)
    have hs := rankF_succ n tuple k hlt
    have hb := bR_ok k (by omega)
    have hbs : bR (k + 1) = bR k * 20 + 20 := rfl
    generalize hre : rankF n (tuple.take k) = r at *
    have m0 : 0 ≤ r * n := Int.mul_nonneg hr0 (by omega)
    have m1 : r * n ≤ bR k * 20 := Int.mul_le_mul hr1 (by omega) (by omega) (by omega)
    have hw : IntKind.i64.wrap (n - 1) = n - 1 := wrap_i64 (by omega) (by omega)
    simp [go_sem, e5, e14, e15, e6, e16, hm, hlt, hw]
    refine CallStep.pure (withinU tuple[k] 0 (n - 1)) (.cons (.hf (HF.sc _)) (.cons (.hf (HF.sc _)) (.cons (.hf (HF.sc _)) .nil))) ?_
    simp [go_sem, e5, e14, e15, e6, e16, hm, hlt, hdk.1, show tuple[k] ≤ n - 1 by omega]
    rw [hs, wrap_i64 (n := r * n) (by omega) (by omega), wrap_i64 (n := r * n + tuple[k]) (by omega) (by omega), wrap_i64 (n := (k : Int) + 1) (by omega) (by omega)]
    exact ⟨rfl, rfl, by omega, by omega⟩
  · have hge : k = tuple.length := by omega
    subst hge
    simp [go_sem, e5, e14, e15, e6, e16, hm]
    exact .hf _ (HF.sc _)

theorem flat_rI (xs : List Int) : (xs.map rI).flatten = xs.map aI := by
  induction xs with
  | nil => rfl
  | cons x xs ih => simp [ih]
theorem divN_eq (n r : Int) (hn : 1 ≤ n) : ∀ k, divN n r k = r / n ^ k
  | 0 => by simp [divN]
  | k + 1 => by
    rw [divN, divN_eq n r hn k, Int.pow_succ, Int.ediv_ediv_of_nonneg]
    exact Int.pow_nonneg (by omega)
theorem divN_zero {n r : Int} (hn : 1 ≤ n) {k : Nat} (h0 : 0 ≤ r) (h : r < n ^ k) : divN n r k = 0 := by
  rw [divN_eq n r hn, Int.ediv_eq_zero_of_lt h0 h]
end Go.Proofs.YtfniceomhfebhaaGreat.C9

set_option linter.unusedVariables false
set_option linter.unusedSimpArgs false
set_option maxRecDepth 100000
namespace Go.Proofs.YtfniceomhfebhaaGreat.C10
open Go Go.Ev Go.Proofs C1 C2 C3 C7 C9

theorem OwnF.ofCells {lo b n : Nat} {mu : Mu} {xs : List Int} (hb : lo ≤ b) (hc : mu[b]? = some (.arr (xs.map aI))) (hn : xs.length = n) : OwnF lo mu 1 (.sl b 1 0 n) (xs.map rI) := by
  have hl : b < mu.length := (List.getElem?_eq_some_iff.1 hc).1
  refine ⟨.inr ⟨b, by simp [hn], by rw [hc, flat_rI]⟩, fun b' s o l e => ?_, by omega⟩
  injection e; omega

theorem replicate_set (m : Nat) (z v : AV) (l : List AV) : (List.replicate (m + 1) z ++ l).set m v = List.replicate m z ++ v :: l := by
  induction m with
  | zero => rfl
  | succ m ih =>
    rw [List.replicate_succ, List.cons_append, List.set_cons_succ, ih]; rfl

theorem tupleU (sc : Sc) (g : GSc sc) (h1 : 1 ≤ sumI sc.atoms) (ar : Nat) (har : ar ≤ 3) (r : Int) (h0 : 0 ≤ r) (hr : r < sumI sc.atoms ^ ar) : SoundP Tryz.prog 80 [eSc sc, aI ar, aI r] (lI (digN (sumI sc.atoms) r ar)) := by
  refine SoundP.of_sound (Sound.of_awp Tryz.call80 Tryz.func80 rfl (Nat.le_of_ble_eq_true (by kernel_rfl)) (by kernel_rfl) (pl := {}) ?_)
  simp [go_sem]
  refine CallStep.pure (withinU ar 0 3) (.cons (.hf (HF.sc _)) (.cons (.hf (HF.sc _)) (.cons (.hf (HF.sc _)) .nil))) ?_
  simp [go_sem, show (0 : Int) ≤ ar by omega, show (ar : Int) ≤ 3 by omega, show ¬ r < 0 by omega]
  refine CallStep.pure (atomsU sc g) (.cons (.hf (hf_eSc sc)) .nil) ?_
  have hsum := g.sum sc.atoms.length
  rw [List.take_length] at hsum
  generalize hn : sumI sc.atoms = n at *
  have hpw := pow_ok (n := n) (by omega) (by omega) ar har
  have hn0 : n ≠ 0 := by omega
  simp [go_sem, show (0 : Int) ≤ ar by omega, show (ar : Int) ≤ 4294967296 by omega]
  refine LoopGo.up ar (fun j st => st.tm 7 = aI n ∧ st.tm 8 = .sl 0 1 0 ar ∧ st.tm 2 = aI (divN n r j) ∧ st.tm 9 = aI (ar - 1 - j) ∧ st.mu = [.arr (List.replicate (ar - j) (aI 0) ++ (digN n r j).map aI)]) ?_ ?_
  · simp [go_sem, divN, digN]
    exact wrap_i64 (by omega) (by omega)
  rintro j st hj ⟨e7, e8, e2, e9, hm⟩
  have hd := divN_ok (n := n) (m := 8000) h1 h0 (by omega) j
  by_cases hlt : j < ar
  · have hd' := divN_ok (n := n) (m := 8000) h1 h0 (by omega) (j + 1)
    have hq : (divN n r j).tdiv n = divN n r (j + 1) := by rw [divN, Int.tdiv_eq_ediv_of_nonneg hd.1]
    have hmd : (divN n r j).tmod n = divN n r j % n := Int.tmod_eq_emod_of_nonneg hd.1
    have hrep : List.replicate (ar - j) (aI 0) = List.replicate ((ar - (j + 1)) + 1) (aI 0) := by congr 1; omega
    have hset := replicate_set (ar - (j + 1)) (aI 0) (aI (divN n r j % n)) ((digN n r j).map aI)
    rw [← hrep] at hset
    have hlen : (List.replicate (ar - j) (aI 0) ++ (digN n r j).map aI).length = ar := by simp [digN_len]; omega
    have hwc : IntKind.i64.wrap ((ar : Int) - 1 - j - 1) = (ar : Int) - 1 - (j + 1 : Nat) := by rw [wrap_i64 (by omega) (by omega)]; omega
    have hwq : IntKind.i64.wrap (divN n r (j + 1)) = divN n r (j + 1) := wrap_i64 (by omega) (by omega)
    generalize hcs : List.replicate (ar - j) (aI 0) ++ (digN n r j).map aI = cells at *
    have hc0 : 0 ≤ (ar : Int) - 1 - j := by omega
    have hc1 : (ar : Int) - 1 - j < ar := by omega
    have hcn : ((ar : Int) - 1 - j).toNat = ar - (j + 1) := by omega
    generalize (ar : Int) - 1 - j = c at *
    simp [go_sem, e7, e8, e2, e9, hm, hc0, hc1, hcn, hn0, hmd, hq, hwq, show ar - (j + 1) + 1 ≤ cells.length by omega, hset]
    refine ⟨hlt, ?_, ?_⟩
    · rw [hwc]; omega
    · rw [digN]; rfl
  · have hge : j = ar := by omega
    subst hge
    have hz := divN_zero h1 h0 hr
    have hc0 : ¬ (0 : Int) ≤ (j : Int) - 1 - j := by omega
    generalize (j : Int) - 1 - j = c at *
    rw [hz] at e2
    simp [go_sem, e7, e8, e2, e9, hm, hc0]
    refine (OwnF.ofCells (lo := 0) (xs := digN n r j) (Nat.zero_le _) ?_ (digN_len n r j)).rdI
    simp
end Go.Proofs.YtfniceomhfebhaaGreat.C10

set_option linter.unusedVariables false
set_option linter.unusedSimpArgs false
set_option maxRecDepth 100000
namespace Go.Proofs.YtfniceomhfebhaaGreat.C11
open Go Go.Ev Go.Proofs C1 C2 C3 C7 C9 C10

/-- a function value that computes g on the arguments that pass p -/
def FnOk (P : Program) (fv : AV) {α : Type} (enc : α → AV) (ok : α → Prop) (g : α → AV) : Prop :=
  HF fv ∧ ∃ fid first caps, fv = .fn (.func fid) first caps ∧ ∀ x, ok x → ∃ args', WKs (first ++ [enc x] ++ caps) args' ∧ SoundP P fid args' (g x)
theorem FnOk.call {P : Program} {fv : AV} {α : Type} {enc : α → AV} {ok : α → Prop} {g : α → AV} (h : FnOk P fv enc ok g) {x : α} (hx : ok x) {det : Bool} {mu : Mu} {K Kp : AV → Mu → Prop} (k : K (g x) mu) : CallStep P det mu fv [enc x] K Kp := by
  obtain ⟨_, fid, first, caps, rfl, h⟩ := h
  obtain ⟨args', h1, h2⟩ := h x hx
  exact .inl ⟨g x, .inl ⟨fid, first, caps, args', rfl, h2, .inl h1⟩, k⟩
theorem FnOk.fn {P : Program} {fv : AV} {α : Type} {enc : α → AV} {ok : α → Prop} {g : α → AV} (h : FnOk P fv enc ok g) : ∃ f a b, fv = .fn f a b := by
  obtain ⟨_, fid, first, caps, rfl, h⟩ := h
  exact ⟨_, _, _, rfl⟩

def composeL (p q : List Int) : List Int := q.map fun x => gI p x.toNat
end Go.Proofs.YtfniceomhfebhaaGreat.C11

set_option linter.unusedVariables false
set_option linter.unusedSimpArgs false
set_option maxRecDepth 100000
namespace Go.Proofs.YtfniceomhfebhaaGreat.C12
open Go Go.Ev Go.Proofs C1 C2 C3 C4 C7 C9 C10 C11

/-- the place of the first element that passes, or -1 -/
def firstIn {α : Type} (p : α → Bool) : List α → Int → Int
  | [], _ => -1
  | x :: l, i => if p x = true then i else firstIn p l (i + 1)
theorem firstIn_drop {α : Type} (p : α → Bool) (l : List α) (k : Nat) (i : Int) (h : k < l.length) : firstIn p (l.drop k) i = if p l[k] = true then i else firstIn p (l.drop (k + 1)) (i + 1) := by
  rw [List.drop_eq_getElem_cons h, firstIn]
theorem firstIn_any {α : Type} (p : α → Bool) : ∀ (l : List α) (i : Int), 0 ≤ i → decide (0 ≤ firstIn p l i) = l.any p
  | [], i, h => by simp [firstIn]
  | x :: l, i, h => by
    rw [firstIn, List.any_cons]
    cases hp : p x with
    | true => simp [h]
    | false => simpa using firstIn_any p l (i + 1) (by omega)

theorem indexI (xs : List Int) (y : Int) (hl : xs.length ≤ 1000000000) : SoundP Tryz.prog 107 [lI xs, aI y] (aI (firstIn (fun x => decide (x = y)) xs 0)) := by
  refine SoundP.of_sound (Sound.of_awp Tryz.call107 Tryz.func107 rfl (Nat.le_of_ble_eq_true (by kernel_rfl)) (by kernel_rfl) (pl := {}) ?_)
  simp [go_sem]
  refine LoopGo.up xs.length (fun k st => st.tm 0 = lI xs ∧ st.tm 1 = aI y ∧ st.tm 7 = aI xs.length ∧ st.tm 8 = aI k ∧ st.mu = [] ∧ firstIn (fun x => decide (x = y)) (xs.drop k) k = firstIn (fun x => decide (x = y)) xs 0) ?_ ?_
  · simp [go_sem]
  rintro k st hk ⟨e0, e1, e7, e8, hm, hi⟩
  by_cases hlt : k < xs.length
  · rw [firstIn_drop _ _ _ _ hlt] at hi
    by_cases hx : xs[k] = y
    · rw [if_pos (by simpa using hx)] at hi
      subst hx
      simp [go_sem, e0, e1, e7, e8, hm, hlt]
      rw [← hi]
      exact .hf _ (HF.sc _)
    · rw [if_neg (by simpa using hx)] at hi
      have hx' : ¬ y = xs[k] := fun h => hx h.symm
      simp [go_sem, e0, e1, e7, e8, hm, hlt, hx']
      exact ⟨wrap_i64 (by omega) (by omega), hi⟩
  · have hge : k = xs.length := by omega
    subst hge
    rw [List.drop_length] at hi
    simp [go_sem, e0, e1, e7, e8, hm]
    rw [← hi]
    exact .hf _ (HF.sc _)

theorem containsI (xs : List Int) (y : Int) (hl : xs.length ≤ 1000000000) : SoundP Tryz.prog 83 [lI xs, aI y] (aB (decide (y ∈ xs))) := by
  refine SoundP.of_sound (Sound.of_awp Tryz.call83 Tryz.func83 rfl (Nat.le_of_ble_eq_true (by kernel_rfl)) (by kernel_rfl) (pl := {}) ?_)
  simp [go_sem]
  refine CallStep.pure (indexI xs y hl) (.cons (.hf (hf_lI _)) (.cons (.hf (HF.sc _)) .nil)) ?_
  have e : decide (y ∈ xs) = decide (0 ≤ firstIn (fun x => decide (x = y)) xs 0) := by
    rw [firstIn_any _ _ _ (by omega), Bool.eq_iff_iff, List.any_eq_true]
    simp
  rw [e]
  simp [go_sem]
  exact .hf _ (HF.sc _)

end Go.Proofs.YtfniceomhfebhaaGreat.C12

set_option linter.unusedVariables false
set_option linter.unusedSimpArgs false
set_option maxRecDepth 100000
namespace Go.Proofs.YtfniceomhfebhaaGreat.C13
open Go Go.Ev Go.Proofs C1 C2 C3 C4 C7 C9 C10 C11 C12

/-- the rank of the image of a tuple, column by column -/
def imgN (p : List Int) (n r : Int) : Nat → Int
  | 0 => 0
  | k + 1 => imgN p n r k + gI p (divN n r k % n).toNat * n ^ k
structure GP (p : List Int) : Prop where
  pos : 1 ≤ p.length
  len : p.length ≤ 20
  val : ∀ x, x ∈ p → 0 ≤ x ∧ x ≤ 20
theorem imgN_ok {p : List Int} (g : GP p) (r : Int) (h0 : 0 ≤ r) (h1 : r ≤ 1000000) : ∀ k, k ≤ 3 → 0 ≤ imgN p p.length r k ∧ imgN p p.length r k ≤ 160000 * k
  | 0, _ => by simp [imgN]
  | k + 1, hk => by
    have ih := imgN_ok g r h0 h1 k (by omega)
    have hp := g.pos
    have hl := g.len
    have hd := divN_ok (n := p.length) (by omega) h0 h1 k
    have m0 := Int.emod_nonneg (divN p.length r k) (show (p.length : Int) ≠ 0 by omega)
    have m1 := Int.emod_lt_of_pos (divN p.length r k) (show 0 < (p.length : Int) by omega)
    have hn : (divN p.length r k % p.length).toNat < p.length := by omega
    have hv := g.val _ (List.getElem_mem hn)
    have hpw := pow_ok (n := p.length) (by omega) (by omega) k (by omega)
    rw [imgN, gI_eq hn]
    have a0 := Int.mul_nonneg hv.1 hpw.1
    have a1 : p[(divN p.length r k % p.length).toNat] * (p.length : Int) ^ k ≤ 20 * 8000 := Int.mul_le_mul hv.2 hpw.2 hpw.1 (by omega)
    omega

theorem permRank (p : List Int) (g : GP p) (ar : Nat) (har : ar ≤ 3) (r : Int) (h0 : 0 ≤ r) (h1 : r ≤ 1000000) : SoundP Tryz.prog 110 [.agg [lI p, aI ar], aI r] (aI (imgN p p.length r ar)) := by
  refine SoundP.of_sound (Sound.of_awp Tryz.call110 Tryz.func110 rfl (Nat.le_of_ble_eq_true (by kernel_rfl)) (by kernel_rfl) (pl := {}) ?_)
  simp [go_sem]
  refine LoopGo.up ar (fun k st => st.tm 2 = .ip [lI p, aI ar] ∧ st.tm 5 = aI p.length ∧ st.tm 6 = aI (imgN p p.length r k) ∧ st.tm 7 = aI ((p.length : Int) ^ k) ∧ st.tm 1 = aI (divN p.length r k) ∧ st.tm 12 = aI ar ∧ st.tm 13 = aI k ∧ st.mu = []) ?_ ?_
  · simp [go_sem, imgN, divN]
  rintro k st hk ⟨e2, e5, e6, e7, e1, e12, e13, hm⟩
  by_cases hlt : k < ar
  · have hp := g.pos
    have hl := g.len
    have hd := divN_ok (n := p.length) (by omega) h0 h1 k
    have hd' := divN_ok (n := p.length) (by omega) h0 h1 (k + 1)
    have m0 := Int.emod_nonneg (divN p.length r k) (show (p.length : Int) ≠ 0 by omega)
    have m1 := Int.emod_lt_of_pos (divN p.length r k) (show 0 < (p.length : Int) by omega)
    have hn : (divN p.length r k % p.length).toNat < p.length := by omega
    have hv := g.val _ (List.getElem_mem hn)
    have hpw := pow_ok (n := p.length) (by omega) (by omega) k (by omega)
    have hpw' := pow_ok (n := p.length) (by omega) (by omega) (k + 1) (by omega)
    have i0 := imgN_ok g r h0 h1 k (by omega)
    have i1 := imgN_ok g r h0 h1 (k + 1) (by omega)
    have hq : (divN p.length r k).tdiv p.length = divN p.length r (k + 1) := by rw [divN, Int.tdiv_eq_ediv_of_nonneg hd.1]
    have hmd : (divN p.length r k).tmod p.length = divN p.length r k % p.length := Int.tmod_eq_emod_of_nonneg hd.1
    have hp0 : ¬ p.length = 0 := by omega
    have a0 := Int.mul_nonneg hv.1 hpw.1
    have a1 : p[(divN p.length r k % p.length).toNat] * (p.length : Int) ^ k ≤ 20 * 8000 := Int.mul_le_mul hv.2 hpw.2 hpw.1 (by omega)
    have himg : imgN p p.length r (k + 1) = imgN p p.length r k + p[(divN p.length r k % p.length).toNat] * (p.length : Int) ^ k := by rw [imgN, gI_eq hn]
    have hsc : (p.length : Int) ^ (k + 1) = (p.length : Int) ^ k * p.length := Int.pow_succ _ _
    have hw1 : IntKind.i64.wrap (p[(divN p.length r k % p.length).toNat] * (p.length : Int) ^ k) = p[(divN p.length r k % p.length).toNat] * (p.length : Int) ^ k := wrap_i64 (by omega) (by omega)
    have hw2 : IntKind.i64.wrap (imgN p p.length r k + p[(divN p.length r k % p.length).toNat] * (p.length : Int) ^ k) = imgN p p.length r (k + 1) := by rw [← himg]; exact wrap_i64 (by omega) (by omega)
    have hw3 : IntKind.i64.wrap ((p.length : Int) ^ k * p.length) = (p.length : Int) ^ (k + 1) := by rw [← hsc]; exact wrap_i64 (by omega) (by omega)
    have hw4 : IntKind.i64.wrap (divN p.length r (k + 1)) = divN p.length r (k + 1) := wrap_i64 (by omega) (by omega)
    generalize hme : divN p.length r k % (p.length : Int) = md at *
    simp [go_sem, e2, e5, e6, e7, e1, e12, e13, hm, hlt]
    refine DrawGo.intro (by kernel_rfl) ?_
    simp [go_sem, e2, e5, e6, e7, e1, e12, e13, hm, hlt, hp0, hmd, m0, m1, hn, hw1, hw2, hq, hw3, hw4]
    exact wrap_i64 (by omega) (by omega)
  · have hge : k = ar := by omega
    subst hge
    simp [go_sem, e2, e5, e6, e7, e1, e12, e13, hm]
    exact .hf _ (HF.sc _)
end Go.Proofs.YtfniceomhfebhaaGreat.C13

set_option linter.unusedVariables false
set_option linter.unusedSimpArgs false
set_option maxRecDepth 100000
namespace Go.Proofs.YtfniceomhfebhaaGreat.C14
open Go Go.Ev Go.Proofs C1 C2 C3 C4 C7 C9 C10 C11 C12

theorem equalI (a b : List Int) (ha : a.length ≤ 9223372036854775807) : SoundP Tryz.prog 62 [lI a, lI b] (aB (decide (a = b))) := by
  refine SoundP.of_sound (Sound.of_awp Tryz.call62 Tryz.func62 rfl (Nat.le_of_ble_eq_true (by kernel_rfl)) (by kernel_rfl) (pl := {}) ?_)
  by_cases hn : a.length = b.length
  case neg =>
    simp [go_sem, hn]
    rw [decide_eq_false (by rintro rfl; exact hn rfl)]
    exact .hf _ (HF.sc _)
  simp [go_sem, hn]
  refine LoopGo.up a.length (fun k st => st.tm 0 = lI a ∧ st.tm 1 = lI b ∧ st.tm 12 = aI a.length ∧ st.tm 13 = aI k ∧ st.mu = [] ∧ ∀ (i : Nat) (h : i < a.length) (h' : i < b.length), i < k → a[i] = b[i]) ?_ ?_
  · simp [go_sem, hn]
  rintro k st hk ⟨h0, h1, h12, h13, hm, he⟩
  by_cases hlt : k < a.length
  · have hlt' : k < b.length := by omega
    simp [go_sem, h0, h1, h12, h13, hm, hlt]
    try refine DrawGo.intro (by kernel_rfl) ?_
    by_cases hb : a[k] = b[k]
    · simp [go_sem, h0, h1, h12, h13, hm, hlt, hlt', hb]
      refine ⟨wrap_i64 (by omega) (by omega), fun i h h' hi => ?_⟩
      rcases Nat.lt_succ_iff_lt_or_eq.1 hi with h2 | h2
      · exact he i h h' h2
      · subst h2; exact hb
    · simp [go_sem, h0, h1, h12, h13, hm, hlt, hlt', hb]
      rw [decide_eq_false (by rintro rfl; simp at hb)]
      exact .hf _ (HF.sc _)
  · have hge : k = a.length := by omega
    subst hge
    simp [go_sem, h0, h1, h12, h13, hm]
    rw [decide_eq_true (List.ext_getElem hn fun i h h' => he i h h' h)]
    exact .hf _ (HF.sc _)

theorem equalR (a b : Rl) (hl : a.ts.length ≤ 9223372036854775807) : SoundP Tryz.prog 93 [eRel a, eRel b] (aB (decide (a = b))) := by
  have hab : (a = b) = (a.ar = b.ar ∧ a.ts = b.ts) := by cases a; cases b; simp
  refine SoundP.of_sound (Sound.of_awp Tryz.call93 Tryz.func93 rfl (Nat.le_of_ble_eq_true (by kernel_rfl)) (by kernel_rfl) (pl := {}) ?_)
  by_cases h1 : a.ar = b.ar
  case neg =>
    simp [go_sem, h1, hab]
    exact .hf _ (HF.sc _)
  simp [go_sem, h1]
  refine CallStep.pure (equalI a.ts b.ts hl) (.cons (.hf (hf_lI _)) (.cons (.hf (hf_lI _)) .nil)) ?_
  simp [go_sem, h1, hab]
  exact .hf _ (HF.sc _)

def relsOf (bs : List Bd) : List Rl := bs.flatMap fun b => [b.lo, b.up]
theorem relsOf_len (bs : List Bd) : (relsOf bs).length = 2 * bs.length := by
  induction bs with
  | nil => rfl
  | cons b bs ih => simp only [relsOf, List.flatMap_cons, List.length_append, List.length_cons, List.length_nil] at *; omega
theorem OwnF.push {lo : Nat} {mu : Mu} {sz : Nat} {av : AV} {xs : List (List AV)} (h : OwnF lo mu sz av xs) (c : List Cell) : OwnF lo (mu ++ c) sz av xs := by
  obtain ⟨ho, hb, hl⟩ := h
  refine ⟨?_, hb, by simp; omega⟩
  rcases ho with rfl | ⟨b, rfl, hc⟩
  · exact .inl rfl
  · have : b < mu.length := (List.getElem?_eq_some_iff.1 hc).1
    exact .inr ⟨b, rfl, by rw [List.getElem?_append_left this]; exact hc⟩
theorem OwnF.rdR {lo : Nat} {mu : Mu} {av : AV} {xs : List Rl} (h : OwnF lo mu 2 av (xs.map cRel)) : Rd mu av (lRel xs) :=
  h.1.rd (rows_cRel xs).ok fun r hr c hc => by
    obtain ⟨n, _, rfl⟩ := List.mem_map.1 hr
    exact hf_cRel n c hc

theorem relationsL (bs : List Bd) (hl : bs.length ≤ 1000000) : SoundP Tryz.prog 79 [lBd bs] (lRel (relsOf bs)) := by
  refine SoundP.of_sound (Sound.of_awp Tryz.call79 Tryz.func79 rfl (Nat.le_of_ble_eq_true (by kernel_rfl)) (by kernel_rfl) (pl := {}) ?_)
  simp [go_sem]
  refine LoopGo.keep (fun m st => ∃ k av, m = bs.length - k ∧ k ≤ bs.length ∧ st.tm 3 = av ∧ st.tm 6 = lBd bs ∧ st.tm 7 = aI bs.length ∧ st.tm 8 = aI (k : Nat) ∧ OwnF 0 st.mu 2 av ((relsOf (bs.take k)).map cRel)) bs.length ?_ ?_
  · refine ⟨0, _, by omega, by omega, rfl, by simp [go_sem], by simp [go_sem], by simp [go_sem], ?_⟩
    simp [go_sem, relsOf]
    exact OwnF.nil (by omega)
  rintro m st ⟨k, av, rfl, hk, e3, e6, e7, e8, ho⟩
  by_cases hlt : k < bs.length
  · have htk : bs.take (k + 1) = bs.take k ++ [bs[k]] := by rw [List.take_add_one, List.getElem?_eq_getElem hlt]; rfl
    simp [go_sem, e3, e6, e7, e8, hlt]
    have hrl : relsOf (bs.take (k + 1)) = relsOf (bs.take k) ++ [bs[k].lo, bs[k].up] := by rw [htk, relsOf, List.flatMap_append]; rfl
    have hlen : (relsOf (bs.take k)).length = 2 * k := by rw [relsOf_len, List.length_take]; omega
    refine AppendStep.ownF (lo := 0) (e := 64) (sz := 2) (bt := 32) (zv := .agg [aI 0, .lst true []]) (xs := (relsOf (bs.take k)).map cRel) (ys := [cRel bs[k].lo, cRel bs[k].up]) (by simp [go_sem]) (by simp [go_sem]) (by simp [go_sem]) rfl rfl (by omega) (by omega) (OwnF.push ho _) (by simp [rowsOf]) (rows_cRel _) (rows_cRel [bs[k].lo, bs[k].up]) (by simp [hlen]; omega) ?_
    intro av' mu' ho' _
    have hcat : (relsOf (bs.take k)).map cRel ++ [cRel bs[k].lo, cRel bs[k].up] = (relsOf (bs.take (k + 1))).map cRel := by rw [hrl, List.map_append]; rfl
    rw [hcat] at ho'
    simp [go_sem, e3, e6, e7, e8, hlt]
    refine Keep.loop (bs.length - (k + 1)) (by omega) ⟨k + 1, av', rfl, by omega, by simp [go_sem], by simp [go_sem, e6], by simp [go_sem, e7], ?_, ho'⟩
    simp [go_sem]; exact wrap_i64 (by omega) (by omega)
  · have hge : k = bs.length := by omega
    subst hge
    simp [go_sem, e3, e6, e7, e8]
    rw [List.take_length] at ho
    exact OwnF.rdR ho
end Go.Proofs.YtfniceomhfebhaaGreat.C14

set_option linter.unusedVariables false
set_option linter.unusedSimpArgs false
set_option maxRecDepth 100000
namespace Go.Proofs.YtfniceomhfebhaaGreat.C15
open Go Go.Ev Go.Proofs C1 C2 C3 C4 C7 C9 C10 C11 C12

def ordAt (sp : Sp) (s : Int) : Bool := ((sp.sorts[s.toNat]?).map (·.2)).getD false
def alike0 (sp : Sp) (sc : Sc) (x y : Int) : Bool := decide (sortU sc x = sortU sc y) && !ordAt sp (sortU sc x)

theorem stable1 (sp : Sp) (sc : Sc) (g : GSc sc) (x y : Int) (hx : -1000000 ≤ x ∧ x ≤ 1000000) (hy : -1000000 ≤ y ∧ y ≤ 1000000) (hs : 0 ≤ sortU sc x ∧ sortU sc x < sp.sorts.length) :
    SoundP Tryz.prog 101 [aI x, aI y, .ip [lI sc.atoms, aI sc.steps], .ip [.lst false (sp.sorts.map cSort), .lst false (sp.fields.map cField), .lst false sp.preds, .lst false sp.facts]] (aB (alike0 sp sc x y)) := by
  refine SoundP.of_sound (Sound.of_awp Tryz.call101 Tryz.func101 rfl (Nat.le_of_ble_eq_true (by kernel_rfl)) (by kernel_rfl) (pl := {}) ?_)
  simp [go_sem]
  refine CallStep.pure (sortOfU sc g x hx) (.cons (.hf (hf_eSc sc)) (.cons (.hf (HF.sc _)) .nil)) ?_
  simp [go_sem]
  refine CallStep.pure (sortOfU sc g y hy) (.cons (.hf (hf_eSc sc)) (.cons (.hf (HF.sc _)) .nil)) ?_
  unfold alike0
  generalize sortU sc x = u at *
  generalize sortU sc y = v at *
  have hn : u.toNat < sp.sorts.length := by omega
  by_cases h : u = v
  · subst h
    simp [go_sem, hs.1, hs.2, hn, ordAt]
    exact .hf _ (HF.sc _)
  · simp [go_sem, h]
    exact .hf _ (HF.sc _)

def invN (p : List Int) (k : Nat) : List Int := foldN (fun i l => l.set (gI p i).toNat (i : Int)) (List.replicate p.length 0) k
theorem invN_len (p : List Int) : ∀ k, (invN p k).length = p.length
  | 0 => by simp [invN, foldN]
  | k + 1 => by
    have := invN_len p k
    simp only [invN, foldN_succ, List.length_set] at *
    exact this
def invL (p : List Int) : List Int := invN p p.length

end Go.Proofs.YtfniceomhfebhaaGreat.C15

set_option linter.unusedVariables false
set_option linter.unusedSimpArgs false
set_option maxRecDepth 100000
namespace Go.Proofs.YtfniceomhfebhaaGreat.C16
open Go Go.Ev Go.Proofs C1 C2 C3 C4 C7 C9 C10 C11 C12 C15

/-- a function value that answers for pairs -/
def FnOk2 (P : Program) (fv : AV) (ok : Nat → Nat → Prop) (al : Nat → Nat → Bool) : Prop :=
  HF fv ∧ ∃ fid caps, fv = .fn (.func fid) [] caps ∧ ∀ x y, ok x y → ∃ args', WKs ([aI x, aI y] ++ caps) args' ∧ SoundP P fid args' (aB (al x y))
theorem FnOk2.call {P : Program} {fv : AV} {ok : Nat → Nat → Prop} {al : Nat → Nat → Bool} (h : FnOk2 P fv ok al) {x y : Nat} (hx : ok x y) {det : Bool} {mu : Mu} {K Kp : AV → Mu → Prop} (k : K (aB (al x y)) mu) : CallStep P det mu fv [aI x, aI y] K Kp := by
  obtain ⟨_, fid, caps, rfl, h⟩ := h
  obtain ⟨args', h1, h2⟩ := h x y hx
  exact CallStep.clo h2 h1 k

/-- the least y below x, from y on, of x's class and alike -/
def mate (cls : List Int) (al : Nat → Nat → Bool) (x : Nat) : Nat → Option Nat
  | 0 => none
  | y + 1 => match mate cls al x y with
    | some z => some z
    | none => if gI cls x = gI cls y ∧ al x y = true then some y else none
def splitN (cls : List Int) (al : Nat → Nat → Bool) : Nat → List Int × Int
  | 0 => ([], 0)
  | x + 1 => match mate cls al x x with
    | some y => ((splitN cls al x).1 ++ [gI (splitN cls al x).1 y], (splitN cls al x).2)
    | none => ((splitN cls al x).1 ++ [(splitN cls al x).2], (splitN cls al x).2 + 1)
theorem mate_lt (cls : List Int) (al : Nat → Nat → Bool) (x : Nat) : ∀ y z, mate cls al x y = some z → z < y
  | 0, z, h => by simp [mate] at h
  | y + 1, z, h => by
    rw [mate] at h
    cases hm : mate cls al x y with
    | some w =>
      rw [hm] at h
      simp only [Option.some.injEq] at h
      subst h
      have := mate_lt cls al x y w hm
      omega
    | none =>
      rw [hm] at h
      simp only at h
      split at h
      · simp only [Option.some.injEq] at h; omega
      · simp at h
theorem splitN_ok (cls : List Int) (al : Nat → Nat → Bool) : ∀ x, (splitN cls al x).1.length = x ∧ 0 ≤ (splitN cls al x).2 ∧ (splitN cls al x).2 ≤ x ∧ ∀ c, c ∈ (splitN cls al x).1 → 0 ≤ c ∧ c < (splitN cls al x).2
  | 0 => by simp [splitN]
  | x + 1 => by
    obtain ⟨h1, h2, h3, h4⟩ := splitN_ok cls al x
    rw [splitN]
    cases hm : mate cls al x x with
    | some y =>
      have hy : y < (splitN cls al x).1.length := by rw [h1]; exact mate_lt cls al x x y hm
      simp only
      refine ⟨by simp [h1], h2, by omega, fun c hc => ?_⟩
      rcases List.mem_append.1 hc with hc | hc
      · exact h4 c hc
      · rw [List.mem_singleton] at hc
        rw [hc, gI_eq hy]
        exact h4 _ (List.getElem_mem hy)
    | none =>
      simp only
      refine ⟨by simp [h1], by omega, by omega, fun c hc => ?_⟩
      rcases List.mem_append.1 hc with hc | hc
      · have := h4 c hc; omega
      · rw [List.mem_singleton] at hc
        omega

theorem take1_drop {l : List AV} {i : Nat} {a : AV} (h : l[i]? = some a) : (l.drop i).take 1 = [a] := by
  obtain ⟨hi, e⟩ := List.getElem?_eq_some_iff.1 h
  rw [List.drop_eq_getElem_cons hi, List.take_succ_cons, e, List.take_zero]
theorem Rd.tup2 {mu : Mu} {a b x y : AV} (h1 : Rd mu a x) (h2 : Rd mu b y) : Rd mu (.tup [a, b]) (.tup [x, y]) := by
  refine .tup _ _ rfl (fun k u v hu hv => ?_)
  match k with
  | 0 => simp at hu hv; subst hu; subst hv; exact h1
  | 1 => simp at hu hv; subst hu; subst hv; exact h2
  | k + 2 => simp at hu

theorem split_ok (cls : List Int) (fv : AV) (al : Nat → Nat → Bool) (hl : cls.length ≤ 1000000) (hf : FnOk2 Tryz.prog fv (fun x y => y < x ∧ x < cls.length) al) :
    SoundP Tryz.prog 99 [lI cls, fv] (.tup [lI (splitN cls al cls.length).1, aI (splitN cls al cls.length).2]) := by
  refine SoundP.of_sound (Sound.of_awp Tryz.call99 Tryz.func99 rfl (Nat.le_of_ble_eq_true (by kernel_rfl)) (by kernel_rfl) (pl := {}) ?_)
  simp [go_sem, show (cls.length : Int) ≤ 4294967296 by omega]
  refine LoopGo.up cls.length (fun x st => st.tm 0 = lI cls ∧ st.tm 1 = fv ∧ st.tm 6 = .sl 0 1 0 cls.length ∧ st.tm 7 = aI (splitN cls al x).2 ∧ st.tm 14 = aI cls.length ∧ st.tm 15 = aI x ∧ st.mu = [.arr (((splitN cls al x).1 ++ List.replicate (cls.length - x) 0).map aI)]) ?_ ?_
  · simp [go_sem, splitN]
  rintro x st hx ⟨e0, e1, e6, e7, e14, e15, hm⟩
  obtain ⟨hol, hn0, hnx, hoc⟩ := splitN_ok cls al x
  have hsn : splitN cls al (x + 1) = match mate cls al x x with
    | some y => ((splitN cls al x).1 ++ [gI (splitN cls al x).1 y], (splitN cls al x).2)
    | none => ((splitN cls al x).1 ++ [(splitN cls al x).2], (splitN cls al x).2 + 1) := rfl
  by_cases hlt : x < cls.length
  · have hrep : List.replicate (cls.length - x) (0 : Int) = 0 :: List.replicate (cls.length - (x + 1)) 0 := by
      rw [← List.replicate_succ]; congr 1; omega
    rw [hrep] at hm
    generalize hzs : List.replicate (cls.length - (x + 1)) (0 : Int) = zs at *
    have hzl : zs.length = cls.length - (x + 1) := by rw [← hzs]; simp
    generalize (splitN cls al x).1 = o at *
    generalize (splitN cls al x).2 = nn at *
    have hset : ∀ v w : Int, ((o ++ v :: zs).map aI).set x (aI w) = (o ++ w :: zs).map aI := by
      intro v w
      rw [← List.map_set, ← hol, List.set_append_right _ _ (Nat.le_refl _)]; simp
    have hlen : ∀ v : Int, ((o ++ v :: zs).map aI).length = cls.length := by intro v; simp; omega
    have hgx : ∀ v : Int, ((o ++ v :: zs).map aI)[x]? = some (aI v) := by intro v; rw [List.getElem?_map, List.getElem?_append_right (by omega), hol]; simp
    have hs0 := hset 0 (-1)
    have hl0 := hlen 0
    generalize hc0 : (o ++ 0 :: zs).map aI = c0 at *
    simp [go_sem, e0, e1, e6, e7, e14, e15, hm, hlt, hl0, hs0, show x + 1 ≤ cls.length by omega]
    refine LoopGo.up x (fun y st => st.tm 0 = lI cls ∧ st.tm 1 = fv ∧ st.tm 6 = .sl 0 1 0 cls.length ∧ st.tm 7 = aI nn ∧ st.tm 8 = aI x ∧ st.tm 14 = aI cls.length ∧ st.tm 15 = aI x ∧ st.tm 21 = aI x ∧ st.tm 22 = aI y ∧ st.mu = [.arr ((o ++ -1 :: zs).map aI)] ∧ mate cls al x y = none) ?_ ?_
    · simp [go_sem, e0, e1, e6, e7, e14, e15, mate]
    rintro y st hy ⟨f0, f1, f6, f7, f8, f14, f15, f21, f22, fm, hmt⟩
    have hmn : mate cls al x (y + 1) = if gI cls x = gI cls y ∧ al x y = true then some y else none := by rw [mate, hmt]
    by_cases hyl : y < x
    · have hyc : y < cls.length := by omega
      have hyo : y < o.length := by omega
      rw [gI_eq hlt, gI_eq hyc] at hmn
      have w1 : IntKind.i64.wrap ((y : Int) + 1) = (y : Int) + 1 := wrap_i64 (by omega) (by omega)
      have hg1 : (((o ++ -1 :: zs).map aI).drop y).take 1 = [aI o[y]] := by
        apply take1_drop
        rw [List.getElem?_map, List.getElem?_append_left hyo, List.getElem?_eq_getElem hyo]; rfl
      have hs1 := hset (-1) o[y]
      have hl1 := hlen (-1)
      generalize hc1 : (o ++ -1 :: zs).map aI = c1 at *
      by_cases hq : cls[x] = cls[y]
      · simp [go_sem, f0, f1, f6, f7, f8, f14, f15, f21, f22, fm, hyl]
        refine DrawGo.intro (by kernel_rfl) ?_
        simp [go_sem, f0, f1, f6, f7, f8, f14, f15, f21, f22, fm, hyl, hlt, hyc, hq]
        refine FnOk2.call hf ⟨hyl, hlt⟩ ?_
        by_cases ha : al x y = true
        · have hl2 := hlen o[y]
          have hg2 := take1_drop (hgx o[y])
          have hoy := (hoc _ (List.getElem_mem hyo)).1
          have hmx : mate cls al x x = some y := by
            have hm1 : mate cls al x (y + 1) = some y := by rw [hmn]; simp [hq, ha]
            have up : ∀ d, mate cls al x (y + 1 + d) = some y := by
              intro d
              induction d with
              | zero => exact hm1
              | succ d ih => rw [← Nat.add_assoc, mate, ih]
            have := up (x - (y + 1))
            rwa [show y + 1 + (x - (y + 1)) = x by omega] at this
          rw [hmx] at hsn
          simp only [gI_eq hyo] at hsn
          have hcat : (splitN cls al (x + 1)).1 ++ List.replicate (cls.length - (x + 1)) (0 : Int) = o ++ o[y] :: zs := by rw [hsn, hzs]; simp
          have w2 : IntKind.i64.wrap ((x : Int) + 1) = (x : Int) + 1 := wrap_i64 (by omega) (by omega)
          generalize hc2 : (o ++ o[y] :: zs).map aI = c2 at *
          simp [go_sem, f0, f1, f6, f7, f8, f14, f15, f21, f22, fm, hyl, hlt, hyc, hq, ha, hg1, hs1, hl1, hl2, hg2, show y + 1 ≤ cls.length by omega, show x + 1 ≤ cls.length by omega, show ¬ o[y] < 0 by omega]
          refine ⟨by rw [hsn], w2, ?_⟩
          rw [← hc2, ← hcat]; simp
        · simp only [Bool.not_eq_true] at ha
          simp [go_sem, f0, f1, f6, f7, f8, f14, f15, f21, f22, fm, hyl, hlt, hyc, hq, ha]
          refine ⟨w1, ?_⟩
          rw [hmn]; simp [ha]
      · simp [go_sem, f0, f1, f6, f7, f8, f14, f15, f21, f22, fm, hyl]
        refine DrawGo.intro (by kernel_rfl) ?_
        simp [go_sem, f0, f1, f6, f7, f8, f14, f15, f21, f22, fm, hyl, hlt, hyc, hq]
        refine ⟨w1, ?_⟩
        rw [hmn]; simp [hq]
    · have hyx : y = x := by omega
      subst hyx
      have hg := take1_drop (hgx (-1))
      have hs1 := hset (-1) nn
      have hl1 := hlen (-1)
      rw [hmt] at hsn
      generalize hc1 : (o ++ -1 :: zs).map aI = c1 at *
      simp [go_sem, f0, f1, f6, f7, f8, f14, f15, f21, f22, fm, hlt, hg, hs1, hl1, show y + 1 ≤ cls.length by omega]
      refine ⟨?_, wrap_i64 (by omega) (by omega), ?_⟩
      · rw [hsn]; exact wrap_i64 (by omega) (by omega)
      · have hzs' : (zs.map aI) = List.replicate (cls.length - (y + 1)) (aI 0) := by rw [← hzs]; simp
        rw [hsn, ← hzs']; simp
  · have hge : x = cls.length := by omega
    subst hge
    simp [go_sem, e0, e1, e6, e7, e14, e15, hm]
    simp at hm
    exact Rd.tup2 (OwnF.ofCells (lo := 0) (xs := (splitN cls al cls.length).1) (Nat.zero_le _) rfl hol).rdI (.hf _ (HF.sc _))
end Go.Proofs.YtfniceomhfebhaaGreat.C16

set_option linter.unusedVariables false
set_option linter.unusedSimpArgs false
set_option maxRecDepth 100000
namespace Go.Proofs.YtfniceomhfebhaaGreat.C17
open Go Go.Ev Go.Proofs C1 C2 C3 C4 C7 C9 C10 C11 C12 C15

/-- a word and how often it occurs -/
abbrev Sig := List (List Int × Int)
abbrev aW (w : List Int) : AV := .agg (w.map aI)
abbrev eE (p : List Int × Int) : AV × AV := (aW p.1, aI p.2)
abbrev eM (m : Sig) : AV := .im (m.map eE)
def SigOk (m : Sig) : Prop := ∀ p, p ∈ m → p.1.length = 4
/-- the place of a word -/
def placeW (w : List Int) : Sig → Nat → Option Nat
  | [], _ => none
  | p :: m, i => if w = p.1 then some i else placeW w m (i + 1)
def lookS (m : Sig) (w : List Int) : Int := match placeW w m 0 with | some i => ((m[i]?).map (·.2)).getD 0 | none => 0

theorem aEqs_ints : ∀ (a b : List Int), a.length = b.length → aEqs (a.map aI) (b.map aI) = some (decide (a = b))
  | [], [], _ => rfl
  | x :: a, y :: b, h => by
    have ih := aEqs_ints a b (by simpa using h)
    simp only [List.map_cons, aEqs, ih]
    simp
    try by_cases hx : x = y <;> simp [hx]
  | [], _ :: _, h => by simp at h
  | _ :: _, [], h => by simp at h
theorem keyEq_sig (a b : List Int) (ha : a.length = 4) (hb : b.length = 4) : keyEq Tryz.prog 157 (aW a) (aW b) = some (decide (a = b)) := by
  simp [go_sem, ha, hb]
  rw [← aEqs_ints a b (by omega)]
theorem findA_sig (w : List Int) (hw : w.length = 4) : ∀ (m : Sig) (i : Nat), SigOk m → findA Tryz.prog 157 (aW w) (m.map eE) i = some (placeW w m i)
  | [], i, _ => rfl
  | p :: m, i, h => by
    have hp := h p (by simp)
    have ih := findA_sig w hw m (i + 1) (fun q hq => h q (by simp [hq]))
    rw [List.map_cons, findA, keyEq_sig w p.1 hw hp, placeW]
    by_cases e : w = p.1
    · simp [e]
    · simp [e, ih]
theorem nodup_le : ∀ (n : Nat) (l : List Nat), l.Nodup → (∀ i, i ∈ l → i < n) → l.length ≤ n
  | 0, l, _, h => by
    cases l with
    | nil => simp
    | cons a l => exact absurd (h a (by simp)) (by omega)
  | n + 1, l, hn, h => by
    have ih := nodup_le n (l.erase n) (hn.erase n) (fun i hi => by
      have h1 := h i (List.mem_of_mem_erase hi)
      have h2 : i ≠ n := fun e => by
        subst e
        exact (List.Nodup.not_mem_erase hn) hi
      omega)
    have := List.length_erase_le (a := n) (l := l)
    by_cases hm : n ∈ l
    · rw [List.length_erase_of_mem hm] at ih; omega
    · rw [List.erase_of_not_mem hm] at ih; omega

def sigEq (a b : Sig) : Bool := decide (a.length = b.length) && a.all fun p => decide (lookS b p.1 = p.2)

theorem equalM (a b : Sig) (ha : SigOk a) (hb : SigOk b) (hla : a.length ≤ 1000000) : SoundP Tryz.prog 105 [eM a, eM b] (aB (sigEq a b)) := by
  refine SoundP.of_sound (Sound.of_awp Tryz.call105 Tryz.func105 rfl (Nat.le_of_ble_eq_true (by kernel_rfl)) (by kernel_rfl) (pl := {}) ?_)
  by_cases hn : a.length = b.length
  case neg =>
    simp [go_sem, hn, sigEq]
    exact .hf _ (HF.sc _)
  simp [go_sem, hn]
  refine LoopGo.keep (fun m st => ∃ seen rest, m = a.length - seen.length ∧ st.tm 1 = eM b ∧ st.tm 13 = .ptr 0 0 ∧ st.mu = .it (a.map eE) seen :: rest ∧ seen.Nodup ∧ (∀ i, i ∈ seen → i < a.length) ∧ ∀ (i : Nat) (h : i < a.length), i ∈ seen → lookS b a[i].1 = a[i].2) a.length ?_ ?_
  · exact ⟨[], [], by simp, by simp [go_sem], by simp [go_sem], by simp [go_sem], by simp, by simp, by simp⟩
  rintro m st ⟨seen, rest, rfl, e1, e13, hm, hnd, hlt, hok⟩
  have hsl := nodup_le a.length seen hnd hlt
  simp [go_sem, e1, e13, hm]
  refine ⟨0, a.map eE, seen, rfl, by simp, fun i e hi hns => ?_, fun hall => ?_⟩
  · have hil : i < a.length := by
      have := (List.getElem?_eq_some_iff.1 hi).1
      simpa using this
    have he : e = eE a[i] := by
      rw [List.getElem?_map, List.getElem?_eq_getElem hil] at hi
      simpa using hi.symm
    subst he
    have hw : a[i].1.length = 4 := ha _ (List.getElem_mem hil)
    have hfa := findA_sig a[i].1 hw b 0 hb
    have hbad : lookS b a[i].1 ≠ a[i].2 → sigEq a b = false := fun h => by
      have := all_bad (l := a) (i := i) (p := fun p => decide (lookS b p.1 = p.2)) hil (by simpa using h)
      simp only [sigEq, this, Bool.and_false]
    have hlk : lookS b a[i].1 = match placeW a[i].1 b 0 with | some j => ((b[j]?).map (·.2)).getD 0 | none => 0 := rfl
    have hoki : lookS b a[i].1 = a[i].2 → ∀ (j : Nat) (h : j < a.length), j ∈ seen ++ [i] → lookS b a[j].1 = a[j].2 := by
      intro h j hj hjm
      rcases List.mem_append.1 hjm with h1 | h1
      · exact hok j hj h1
      · rw [List.mem_singleton] at h1; subst h1; exact h
    have hnd1 : (seen ++ [i]).Nodup := by
      rw [List.nodup_append]
      refine ⟨hnd, by simp, fun x hx y hy => ?_⟩
      rw [List.mem_singleton] at hy
      subst hy
      exact fun e => hns (e ▸ hx)
    have hlt1 : ∀ j, j ∈ seen ++ [i] → j < a.length := by
      intro j hj
      rcases List.mem_append.1 hj with h1 | h1
      · exact hlt j h1
      · rw [List.mem_singleton] at h1; omega
    have hlen1 : a.length - (seen ++ [i]).length < a.length - seen.length := by
      have := nodup_le a.length _ hnd1 hlt1
      simp at this ⊢
      omega
    generalize hai : a[i] = p at *
    obtain ⟨w, c⟩ := p
    obtain ⟨w0, w1, w2, w3, rfl⟩ : ∃ w0 w1 w2 w3, w = [w0, w1, w2, w3] := by
      match w, hw with
      | [w0, w1, w2, w3], _ => exact ⟨_, _, _, _, rfl⟩
    have hpl : ∀ j, placeW [w0, w1, w2, w3] b 0 = some j → j < b.length := by
      intro j hj
      have : ∀ (m : Sig) (k j : Nat), placeW [w0, w1, w2, w3] m k = some j → j < k + m.length := by
        intro m
        induction m with
        | nil => intro k j h; simp [placeW] at h
        | cons q m ih =>
          intro k j h
          rw [placeW] at h
          split at h
          · simp only [Option.some.injEq] at h; simp; omega
          · have := ih (k + 1) j h; simp; omega
      simpa using this b 0 j hj
    have hfa : findA Tryz.prog 157 (.agg [aI w0, aI w1, aI w2, aI w3]) (b.map eE) 0 = some (placeW [w0, w1, w2, w3] b 0) := hfa
    cases hpw : placeW [w0, w1, w2, w3] b 0 with
    | none =>
      rw [hpw] at hfa hlk
      by_cases hc : lookS b [w0, w1, w2, w3] = c
      · have hok1 := hoki hc
        rw [hlk] at hc
        simp [go_sem, e1, e13, hm, hil, hns, hfa, hai, hc]
        exact Keep.loop (a.length - (seen ++ [i]).length) hlen1 ⟨seen ++ [i], _, rfl, by simp [go_sem, e1], by simp [go_sem, e13], by simp [go_sem]; rfl, hnd1, hlt1, hok1⟩
      · have hb' := hbad hc
        rw [hlk] at hc
        simp [go_sem, e1, e13, hm, hil, hns, hfa, hai, hc]
        rw [hb']
        exact .hf _ (HF.sc _)
    | some j =>
      have hj := hpl j hpw
      rw [hpw] at hfa hlk
      simp only [List.getElem?_eq_getElem hj, Option.map_some, Option.getD_some] at hlk
      by_cases hc : lookS b [w0, w1, w2, w3] = c
      · have hok1 := hoki hc
        rw [hlk] at hc
        simp [go_sem, e1, e13, hm, hil, hns, hfa, hai, hj, hc]
        exact Keep.loop (a.length - (seen ++ [i]).length) hlen1 ⟨seen ++ [i], _, rfl, by simp [go_sem, e1], by simp [go_sem, e13], by simp [go_sem]; rfl, hnd1, hlt1, hok1⟩
      · have hb' := hbad hc
        rw [hlk] at hc
        simp [go_sem, e1, e13, hm, hil, hns, hfa, hai, hj, hc]
        rw [hb']
        exact .hf _ (HF.sc _)
  · simp [go_sem, e1, e13, hm]
    have : sigEq a b = true := by
      have := (all_iff_get (l := a) (p := fun p => decide (lookS b p.1 = p.2))).2 fun i hi => by
        simpa using hok i hi (hall i (by simpa using hi))
      simp only [sigEq, this, hn]
      rfl
    rw [this]
    exact .hf _ (HF.sc _)
end Go.Proofs.YtfniceomhfebhaaGreat.C17

set_option linter.unusedVariables false
set_option linter.unusedSimpArgs false
set_option maxRecDepth 100000
namespace Go.Proofs.YtfniceomhfebhaaGreat.C18
open Go Go.Ev Go.Proofs C1 C2 C3 C4 C7 C9 C10 C11 C12 C15 C17

abbrev lSig (ms : List Sig) : AV := .lst false (ms.map fun m => [eM m])
theorem hf_eM (m : Sig) : HF (eM m) := HF.im fun p hp => by
  obtain ⟨q, _, rfl⟩ := List.mem_map.1 hp
  exact ⟨HF.agg fun c hc => by
    obtain ⟨n, _, rfl⟩ := List.mem_map.1 hc
    exact HF.sc _, HF.sc _⟩
theorem hf_lSig (ms : List Sig) : HF (lSig ms) := HF.lst fun r hr c hc => by
  obtain ⟨n, _, rfl⟩ := List.mem_map.1 hr
  simp at hc; subst hc; exact hf_eM _

theorem stable2 (ms : List Sig) (x y : Nat) (hx : x < ms.length) (hy : y < ms.length) (hok : ∀ m, m ∈ ms → SigOk m ∧ m.length ≤ 1000000) :
    SoundP Tryz.prog 104 [aI x, aI y, .ip [lSig ms]] (aB (sigEq ms[x] ms[y])) := by
  refine SoundP.of_sound (Sound.of_awp Tryz.call104 Tryz.func104 rfl (Nat.le_of_ble_eq_true (by kernel_rfl)) (by kernel_rfl) (pl := {}) ?_)
  simp [go_sem]
  refine DrawGo.intro (by kernel_rfl) ?_
  have h1 := hok _ (List.getElem_mem hx)
  have h2 := hok _ (List.getElem_mem hy)
  simp [go_sem, hx, hy]
  refine CallStep.pure (equalM ms[x] ms[y] h1.1 h2.1 h1.2) (.cons (.hf (hf_eM _)) (.cons (.hf (hf_eM _)) .nil)) ?_
  simp [go_sem]
  exact .hf _ (HF.sc _)
end Go.Proofs.YtfniceomhfebhaaGreat.C18

set_option linter.unusedVariables false
set_option linter.unusedSimpArgs false
set_option maxRecDepth 100000
namespace Go.Proofs.YtfniceomhfebhaaGreat.C19
open Go Go.Ev Go.Proofs C1 C2 C3

def maxF : List Int → Int
  | [] => 0
  | x :: l => l.foldl max x
theorem maxF_succ (x : Int) (l : List Int) (k : Nat) (h : k < l.length) : (l.take (k + 1)).foldl max x = max ((l.take k).foldl max x) l[k] := by
  rw [List.take_add_one, List.getElem?_eq_getElem h, List.foldl_append]; rfl

theorem maxI (x : Int) (l : List Int) (hl : l.length ≤ 1000000) : SoundP Tryz.prog 108 [lI (x :: l)] (aI (maxF (x :: l))) := by
  refine SoundP.of_sound (Sound.of_awp Tryz.call108 Tryz.func108 rfl (Nat.le_of_ble_eq_true (by kernel_rfl)) (by kernel_rfl) (pl := {}) ?_)
  simp [go_sem, show ¬ ((l.length : Int) + 1 < 1) by omega]
  refine LoopGo.up l.length (fun k st => st.tm 0 = lI (x :: l) ∧ st.tm 3 = aI ((l.take k).foldl max x) ∧ st.tm 4 = aI (k + 1 : Nat) ∧ st.mu = []) ?_ ?_
  · simp [go_sem]
  rintro k st hk ⟨e0, e3, e4, hm⟩
  by_cases hlt : k < l.length
  · have hs := maxF_succ x l k hlt
    generalize (l.take k).foldl max x = m at *
    by_cases h : l[k] > m
    · have hmx : max m l[k] = l[k] := by omega
      simp [go_sem, e0, e3, e4, hm, hlt, h, show (0 : Int) ≤ (k : Int) + 1 by omega]
      rw [hs, hmx]
      exact ⟨rfl, wrap_i64 (by omega) (by omega)⟩
    · have hmx : max m l[k] = m := by omega
      have h' : ¬ m < l[k] := by omega
      simp [go_sem, e0, e3, e4, hm, hlt, h', show (0 : Int) ≤ (k : Int) + 1 by omega]
      rw [hs, hmx]
      exact ⟨rfl, wrap_i64 (by omega) (by omega)⟩
  · have hge : k = l.length := by omega
    subst hge
    simp [go_sem, e0, e3, e4, hm]
    exact .hf _ (HF.sc _)
end Go.Proofs.YtfniceomhfebhaaGreat.C19

/-
  Contracts of the library's shelf as contracts of the calculus.
-/
set_option linter.unusedVariables false
set_option linter.unusedSimpArgs false
namespace Go.Ev
open Go Go.RowKit

theorem Stp.ahead {G : Gh} {mu : Mu} {w : World} (s : Sim G mu w.heap) (n : Nat) : Stp G mu w G mu (Sort.ahead w n) :=
  ⟨.refl G, s, fun _ _ _ => rfl, Nat.le_refl _, fun _ h => .inl h, fun _ h => .inl h, rfl, rfl, rfl, Nat.le_add_right _ _⟩

theorem grow_get (w : World) (os : Array Obj) (b : Nat) (h : b < w.heap.size) : (Sort.grow w os).heap[b]? = w.heap[b]? := by
  show (w.heap ++ os)[b]? = _
  rw [Array.getElem?_append_left h]

theorem Stp.grow {G : Gh} {mu : Mu} {w : World} (s : Sim G mu w.heap) (os : Array Obj) : Stp G mu w G mu (Sort.grow w os) := by
  have hsz : w.heap.size ≤ (Sort.grow w os).heap.size := by show _ ≤ (w.heap ++ os).size; simp
  have he : Ext G w.heap (Sort.grow w os).heap := ⟨hsz, fun b hb => grow_get w os b (s.imm b hb)⟩
  refine ⟨.refl G, ⟨s.len, fun b hb => Nat.lt_of_lt_of_le (s.imm b hb) hsz, ?_, s.live, s.inj⟩, fun b hb _ => grow_get w os b hb, hsz, fun b h => .inl h, fun b h => .inl h, rfl, rfl, rfl, Nat.le_refl _⟩
  intro i c blk tot hc hd hk
  obtain ⟨o, h1, h2⟩ := s.obj i c blk tot hc hd hk
  exact ⟨o, by rw [grow_get w os blk (Array.getElem?_eq_some_iff.1 h1).1]; exact h1, h2.mono (.refl G) he⟩

def srtI (zs : List Int) : List Int := zs.mergeSort fun x y => decide (x ≤ y)
theorem srtI_len (zs : List Int) : (srtI zs).length = zs.length := List.length_mergeSort ..

/-- the library's sort, in a block of the call's own -/
theorem sort_sound {P : Program} {f : FuncId} (hcal : Callable P f)
    (hsort : ∀ (blk off cap : Nat) (zs : List Int) (w : World), Sort.Holds (Value.int .i64) w blk off zs.toArray → blk < w.heap.size → zs.length < 4611686018427387904 →
      Calls P f #[.slice (some ⟨blk, off, none⟩) zs.length cap] w fun e w' => e = .returned (.tuple #[]) ∧ ∃ n os, w' = Sort.grow (Sort.putRow (Value.int .i64) (Sort.ahead w n) blk off (zs.mergeSort fun x y => decide (x ≤ y)).toArray) os)
    {mu : Mu} {b off : Nat} {cells : List AV} {zs : List Int} (hc : mu[b]? = some (.arr cells)) (hz : ∀ (k : Nat) (n : Int), zs[k]? = some n → cells[off + k]? = some (.sc (.int .i64 n))) (hl : zs.length < 4611686018427387904) (hoff : off + zs.length ≤ cells.length) :
    Sound P f [.sl b 1 off zs.length] mu fun e m => e = .ret (.tup []) ∧ m = mu.set b (.arr (putCells cells off ((srtI zs).map fun n => .sc (.int .i64 n)))) := by
  refine ⟨hcal, fun G w vs s ra => ?_⟩
  obtain ⟨v, rfl, rv⟩ := ra.one_inv
  cases rv with
  | sl _ _ _ _ blk tot cap hb ht hlc =>
  obtain ⟨arr, e0, h1, h2, h3, h4⟩ := s.arr b cells blk tot hc hb
  have hcell : ∀ (k : Nat) (n : Int), zs[k]? = some n → arr[off + k]? = some (.int .i64 n) := by
    intro k n hk
    have hx := hz k n hk
    have hr := (h4 _ _ hx).2
    have hlt : off + k < cells.length := (List.getElem?_eq_some_iff.1 hx).1
    have hlt' : off + k < arr.size := by omega
    have : arr.getD (off + k) undef = .int .i64 n := by generalize arr.getD (off + k) undef = u at hr; cases hr; rfl
    rw [Array.getD_eq_getD_getElem?, Array.getElem?_eq_getElem hlt'] at this
    rw [Array.getElem?_eq_getElem hlt']
    exact congrArg some this
  have hH : Sort.Holds (Value.int .i64) w blk off zs.toArray := by
    intro j hj
    have hj' : j < zs.length := by simpa using hj
    refine ⟨?_, ?_⟩
    · have := hcell j zs[j] (List.getElem?_eq_getElem hj')
      simp only [World.cell?, h1, Option.isSome_none, Bool.false_eq_true, if_false, this]
      rw [getElem!_pos zs.toArray j hj]; rfl
    · simp only [World.frozen?, h1]
      simp
  have hblk : blk < w.heap.size := (Array.getElem?_eq_some_iff.1 h1).1
  refine (hsort blk off cap zs w hH hblk hl).mono fun e w' ⟨he, n, os, hw⟩ => ?_
  have hsl := srtI_len zs
  -- the written row
  have hput : (Sort.putRow (Value.int .i64) (Sort.ahead w n) blk off (srtI zs).toArray).heap[blk]? = some (.cells (Sort.putCells (Value.int .i64) off (srtI zs).toArray arr) e0 (0, 0)) := by
    show (w.heap.modify blk (Sort.onCells _))[blk]? = _
    rw [Array.getElem?_modify, if_pos rfl, h1]; rfl
  have hoth : ∀ k, k ≠ blk → (Sort.putRow (Value.int .i64) (Sort.ahead w n) blk off (srtI zs).toArray).heap[k]? = w.heap[k]? := by
    intro k hk
    show (w.heap.modify blk (Sort.onCells _))[k]? = _
    rw [Array.getElem?_modify, if_neg (fun e => hk e.symm)]
  have st1 : Stp G mu w G (mu.set b (.arr (putCells cells off ((srtI zs).map fun n => .sc (.int .i64 n))))) (Sort.putRow (Value.int .i64) (Sort.ahead w n) blk off (srtI zs).toArray) := by
    refine Stp.write (hdr := Nat.le_add_right _ _) s b (.arr cells) _ blk tot _ hc (by simp) (by simp) hb (by simp) hput hoth rfl rfl rfl ?_
    have hfit : off + ((srtI zs).map fun n => AV.sc (.int .i64 n)).length ≤ cells.length := by simp [hsl]; exact hoff
    refine ⟨_, e0, rfl, by simp [Sort.putCells, h2], by rw [putCells_eq _ _ _ hfit]; simp; omega, fun j y hj => ?_⟩
    rw [putCells_eq _ _ _ hfit, List.append_assoc] at hj
    have hjl : j < arr.size := by
      have := (List.getElem?_eq_some_iff.1 hj).1
      simp [hsl] at this; omega
    have hpc : (Sort.putCells (Value.int .i64) off (srtI zs).toArray arr).getD j undef = if off ≤ j ∧ j < off + (srtI zs).toArray.size then (Value.int .i64) (srtI zs).toArray[j - off]! else arr[j] := by
      rw [Array.getD_eq_getD_getElem?, Sort.putCells, Array.getElem?_mapIdx, Array.getElem?_eq_getElem hjl]; rfl
    rw [hpc]
    have hcl : (cells.take off).length = off := by simp; omega
    by_cases hj1 : j < off
    · rw [List.getElem?_append_left (by omega), List.getElem?_take, if_pos hj1] at hj
      rw [if_neg (by omega)]
      have := h4 j y hj
      rw [Array.getD_eq_getD_getElem?, Array.getElem?_eq_getElem hjl] at this
      exact this
    · rw [List.getElem?_append_right (by omega), hcl] at hj
      by_cases hj2 : j - off < (srtI zs).length
      · rw [List.getElem?_append_left (by simpa using hj2), List.getElem?_map, List.getElem?_eq_getElem hj2] at hj
        simp only [Option.map_some, Option.some.injEq] at hj
        subst hj
        rw [if_pos (by simp; omega)]
        refine ⟨rfl, ?_⟩
        rw [getElem!_pos (srtI zs).toArray (j - off) (by simpa using hj2)]
        exact .sc _ rfl
      · rw [List.getElem?_append_right (by simp; omega), List.getElem?_drop] at hj
        rw [if_neg (by simp; omega)]
        have e1 : off + ((srtI zs).map fun n => AV.sc (.int .i64 n)).length + (j - off - ((srtI zs).map fun n => AV.sc (.int .i64 n)).length) = j := by simp at hj2 ⊢; omega
        rw [e1] at hj
        have := h4 j y hj
        rw [Array.getD_eq_getD_getElem?, Array.getElem?_eq_getElem hjl] at this
        exact this
  have st2 := st1.trans s (Stp.grow st1.sim os)
  rw [show (srtI zs).toArray = (zs.mergeSort fun x y => decide (x ≤ y)).toArray from rfl] at st2
  rw [← hw] at st2
  exact ⟨G, _, st2, .inl ⟨_, _, ⟨rfl, rfl⟩, he, .tup [] #[] rfl (by simp)⟩⟩
end Go.Ev

/-
  DERIVED: THE SHELF's CONTRACTS AT THIS DUMP, IN PLAIN WORDS (tools/lay-plain.mjs out of 'TryzShelf.lean', which tools/lay-shelf.mjs wrote): THE SAME DECLARATIONS UNDER THE SAME NAMES: 'import', 'namespace', 'open', 'def', 'theorem' AND NOTHING ELSE: no command of the shelf's: FOR A HAND-IN. Each laying: the table of numbers ('.._ren') and one theorem, a field a fact of the dump's own or the kernel's comparison; each contract: ONE APPLICATION.
-/
namespace Go.Proofs
open Go.Shelf
def Tryz.laysSF_ren : Go.Shelf.Ren := ⟨fun | 6 => 59 | 15 => 91 | 14 => 90 | 28 => 121 | 29 => 122 | 20 => 113 | 21 => 114 | 22 => 115 | 23 => 116 | 24 => 117 | 25 => 118 | 26 => 119 | 27 => 120 | 46 => 125 | 47 => 126 | 48 => 127 | 49 => 128 | 50 => 129 | 57 => 138 | n => n, fun | 22 => 40 | 24 => 34 | 25 => 71 | 3 => 3 | 39 => 108 | 0 => 0 | 53 => 153 | 55 => 155 | 4 => 4 | 46 => 147 | 45 => 146 | 50 => 87 | 5 => 5 | 9 => 9 | 66 => 159 | 70 => 163 | 76 => 170 | 77 => 171 | n => n, fun | n => n⟩
theorem Tryz.laysSF : Go.Proofs.SlLaysF0.n6 Tryz.prog Tryz.laysSF_ren := {
  mixed := by kernel_rfl
  f6 := ⟨Tryz.f59.name, by decide, Tryz.func59.trans (congrArg some (by kernel_rfl))⟩
  f14 := ⟨Tryz.f90.name, by decide, Tryz.func90.trans (congrArg some (by kernel_rfl))⟩
  f15 := Tryz.func91.trans (congrArg some (by kernel_rfl))
  f20 := ⟨Tryz.f113.name, by decide, Tryz.func113.trans (congrArg some (by kernel_rfl))⟩
  f21 := ⟨Tryz.f114.name, by decide, Tryz.func114.trans (congrArg some (by kernel_rfl))⟩
  f22 := ⟨Tryz.f115.name, by decide, Tryz.func115.trans (congrArg some (by kernel_rfl))⟩
  f23 := ⟨Tryz.f116.name, by decide, Tryz.func116.trans (congrArg some (by kernel_rfl))⟩
  f24 := ⟨Tryz.f117.name, by decide, Tryz.func117.trans (congrArg some (by kernel_rfl))⟩
  f25 := ⟨Tryz.f118.name, by decide, Tryz.func118.trans (congrArg some (by kernel_rfl))⟩
  f26 := ⟨Tryz.f119.name, by decide, Tryz.func119.trans (congrArg some (by kernel_rfl))⟩
  f27 := ⟨Tryz.f120.name, by decide, Tryz.func120.trans (congrArg some (by kernel_rfl))⟩
  f28 := Tryz.func121.trans (congrArg some (by kernel_rfl))
  f29 := Tryz.func122.trans (congrArg some (by kernel_rfl))
  f46 := ⟨Tryz.f125.name, by decide, Tryz.func125.trans (congrArg some (by kernel_rfl))⟩
  f47 := Tryz.func126.trans (congrArg some (by kernel_rfl))
  f48 := Tryz.func127.trans (congrArg some (by kernel_rfl))
  f49 := ⟨Tryz.f128.name, by decide, Tryz.func128.trans (congrArg some (by kernel_rfl))⟩
  f50 := ⟨Tryz.f129.name, by decide, Tryz.func129.trans (congrArg some (by kernel_rfl))⟩
  f57 := ⟨Tryz.f138.name, by decide, Tryz.func138.trans (congrArg some (by kernel_rfl))⟩
  t0 := Tryz.underlying0
  a0 := Tryz.isAgg0
  z0 := Tryz.sizeOf0
  v0 := Tryz.zeroValue0
  t3 := Tryz.underlying3
  a3 := Tryz.isAgg3
  z3 := Tryz.sizeOf3
  v3 := Tryz.zeroValue3
  t4 := Tryz.underlying4
  a4 := Tryz.isAgg4
  z4 := Tryz.sizeOf4
  v4 := Tryz.zeroValue4
  t5 := Tryz.underlying5
  a5 := Tryz.isAgg5
  z5 := Tryz.sizeOf5
  v5 := Tryz.zeroValue5
  t9 := Tryz.underlying9
  a9 := Tryz.isAgg9
  z9 := Tryz.sizeOf9
  v9 := Tryz.zeroValue9
  t22 := Tryz.underlying40
  a22 := Tryz.isAgg40
  z22 := Tryz.sizeOf40
  v22 := Tryz.zeroValue40
  t25 := Tryz.underlying71
  a25 := Tryz.isAgg71
  z25 := Tryz.sizeOf71
  v25 := Tryz.zeroValue71
  t39 := Tryz.underlying108
  a39 := Tryz.isAgg108
  z39 := Tryz.sizeOf108
  v39 := Tryz.zeroValue108
  t45 := Tryz.underlying146
  a45 := Tryz.isAgg146
  z45 := Tryz.sizeOf146
  v45 := Tryz.zeroValue146
  t46 := Tryz.underlying147
  a46 := Tryz.isAgg147
  z46 := Tryz.sizeOf147
  v46 := Tryz.zeroValue147
  t50 := Tryz.underlying87
  a50 := Tryz.isAgg87
  z50 := Tryz.sizeOf87
  v50 := Tryz.zeroValue87
  t53 := Tryz.underlying153
  a53 := Tryz.isAgg153
  z53 := Tryz.sizeOf153
  v53 := Tryz.zeroValue153
  t55 := Tryz.underlying155
  a55 := Tryz.isAgg155
  z55 := Tryz.sizeOf155
  v55 := Tryz.zeroValue155
  t66 := Tryz.underlying159
  a66 := Tryz.isAgg159
  z66 := Tryz.sizeOf159
  v66 := Tryz.zeroValue159
  t70 := Tryz.underlying163
  a70 := Tryz.isAgg163
  z70 := Tryz.sizeOf163
  v70 := Tryz.zeroValue163
  t76 := Tryz.underlying170
  a76 := Tryz.isAgg170
  z76 := Tryz.sizeOf170
  v76 := Tryz.zeroValue170
  t77 := Tryz.underlying171
  a77 := Tryz.isAgg171
  z77 := Tryz.sizeOf171
  v77 := Tryz.zeroValue171 }
def Tryz.lays189_ren : Go.Shelf.Ren := ⟨fun | 189 => 112 | 125 => 91 | 257 => 124 | 128 => 121 | 129 => 122 | 294 => 130 | 295 => 131 | 296 => 132 | 297 => 133 | 298 => 134 | 299 => 135 | 216 => 75 | 300 => 136 | 301 => 137 | 328 => 139 | 329 => 126 | 330 => 127 | 331 => 140 | 332 => 141 | 215 => 77 | 343 => 142 | n => n, fun | 28 => 29 | 3 => 3 | 46 => 108 | 0 => 0 | 51 => 153 | 53 => 155 | 4 => 4 | 183 => 147 | 182 => 146 | 131 => 87 | 5 => 5 | 9 => 9 | 218 => 159 | 222 => 163 | 228 => 170 | 229 => 171 | n => n, fun | n => n⟩
theorem Tryz.lays189 : Go.Proofs.Lays.n189 Tryz.prog Tryz.lays189_ren := {
  mixed := by kernel_rfl
  f125 := Tryz.func91.trans (congrArg some (by kernel_rfl))
  f128 := Tryz.func121.trans (congrArg some (by kernel_rfl))
  f129 := Tryz.func122.trans (congrArg some (by kernel_rfl))
  f189 := Tryz.func112.trans (congrArg some (by kernel_rfl))
  f215 := Tryz.func77.trans (congrArg some (by kernel_rfl))
  f216 := Tryz.func75.trans (congrArg some (by kernel_rfl))
  f257 := Tryz.func124.trans (congrArg some (by kernel_rfl))
  f294 := Tryz.func130.trans (congrArg some (by kernel_rfl))
  f295 := Tryz.func131.trans (congrArg some (by kernel_rfl))
  f296 := Tryz.func132.trans (congrArg some (by kernel_rfl))
  f297 := Tryz.func133.trans (congrArg some (by kernel_rfl))
  f298 := Tryz.func134.trans (congrArg some (by kernel_rfl))
  f299 := Tryz.func135.trans (congrArg some (by kernel_rfl))
  f300 := Tryz.func136.trans (congrArg some (by kernel_rfl))
  f301 := Tryz.func137.trans (congrArg some (by kernel_rfl))
  f328 := Tryz.func139.trans (congrArg some (by kernel_rfl))
  f329 := Tryz.func126.trans (congrArg some (by kernel_rfl))
  f330 := Tryz.func127.trans (congrArg some (by kernel_rfl))
  f331 := Tryz.func140.trans (congrArg some (by kernel_rfl))
  f332 := Tryz.func141.trans (congrArg some (by kernel_rfl))
  f343 := Tryz.func142.trans (congrArg some (by kernel_rfl))
  t0 := Tryz.underlying0
  a0 := Tryz.isAgg0
  z0 := Tryz.sizeOf0
  v0 := Tryz.zeroValue0
  t3 := Tryz.underlying3
  a3 := Tryz.isAgg3
  z3 := Tryz.sizeOf3
  v3 := Tryz.zeroValue3
  t4 := Tryz.underlying4
  a4 := Tryz.isAgg4
  z4 := Tryz.sizeOf4
  v4 := Tryz.zeroValue4
  t5 := Tryz.underlying5
  a5 := Tryz.isAgg5
  z5 := Tryz.sizeOf5
  v5 := Tryz.zeroValue5
  t9 := Tryz.underlying9
  a9 := Tryz.isAgg9
  z9 := Tryz.sizeOf9
  v9 := Tryz.zeroValue9
  t28 := Tryz.underlying29
  a28 := Tryz.isAgg29
  z28 := Tryz.sizeOf29
  v28 := Tryz.zeroValue29
  t46 := Tryz.underlying108
  a46 := Tryz.isAgg108
  z46 := Tryz.sizeOf108
  v46 := Tryz.zeroValue108
  t51 := Tryz.underlying153
  a51 := Tryz.isAgg153
  z51 := Tryz.sizeOf153
  v51 := Tryz.zeroValue153
  t53 := Tryz.underlying155
  a53 := Tryz.isAgg155
  z53 := Tryz.sizeOf155
  v53 := Tryz.zeroValue155
  t131 := Tryz.underlying87
  a131 := Tryz.isAgg87
  z131 := Tryz.sizeOf87
  v131 := Tryz.zeroValue87
  t182 := Tryz.underlying146
  a182 := Tryz.isAgg146
  z182 := Tryz.sizeOf146
  v182 := Tryz.zeroValue146
  t183 := Tryz.underlying147
  a183 := Tryz.isAgg147
  z183 := Tryz.sizeOf147
  v183 := Tryz.zeroValue147
  t218 := Tryz.underlying159
  a218 := Tryz.isAgg159
  z218 := Tryz.sizeOf159
  v218 := Tryz.zeroValue159
  t222 := Tryz.underlying163
  a222 := Tryz.isAgg163
  z222 := Tryz.sizeOf163
  v222 := Tryz.zeroValue163
  t228 := Tryz.underlying170
  a228 := Tryz.isAgg170
  z228 := Tryz.sizeOf170
  v228 := Tryz.zeroValue170
  t229 := Tryz.underlying171
  a229 := Tryz.isAgg171
  z229 := Tryz.sizeOf171
  v229 := Tryz.zeroValue171 }
open Go.Sort Go.RowKit in
theorem Tryz.slices_Sort_int (blk off cap : Nat) (zs : List Int) (w : World) (hH : Holds (Value.int .i64) w blk off zs.toArray) (hblk : blk < w.heap.size) (hsz : zs.length < 4611686018427387904) :
    Calls Tryz.prog 112 #[.slice (some ⟨blk, off, none⟩) zs.length cap] w fun e w' =>
      e = .returned (.tuple #[]) ∧ ∃ n os, w' = grow (putRow (Value.int .i64) (Sort.ahead w n) blk off (zs.mergeSort fun x y => decide (x ≤ y)).toArray) os := Any.slices_Sort_int Tryz.lays189 blk off cap zs w hH hblk hsz
open Go.RowKit Go.Lib in
open Go.RowKit Go.Lib in
open Go.RowKit Go.Lib in
def Tryz.laysNm225_ren : Go.Shelf.Ren := ⟨fun | 25 => 52 | 31 => 75 | 32 => 76 | 37 => 77 | n => n, fun | 22 => 29 | 3 => 3 | 4 => 4 | 40 => 108 | 0 => 0 | n => n, fun | n => n⟩
theorem Tryz.laysNm225 : Go.Proofs.Lays2.n25 Tryz.prog Tryz.laysNm225_ren := {
  mixed := by kernel_rfl
  f25 := Tryz.func52.trans (congrArg some (by kernel_rfl))
  f31 := Tryz.func75.trans (congrArg some (by kernel_rfl))
  f32 := Tryz.func76.trans (congrArg some (by kernel_rfl))
  f37 := Tryz.func77.trans (congrArg some (by kernel_rfl))
  t0 := Tryz.underlying0
  a0 := Tryz.isAgg0
  z0 := Tryz.sizeOf0
  v0 := Tryz.zeroValue0
  t3 := Tryz.underlying3
  a3 := Tryz.isAgg3
  z3 := Tryz.sizeOf3
  v3 := Tryz.zeroValue3
  t4 := Tryz.underlying4
  a4 := Tryz.isAgg4
  z4 := Tryz.sizeOf4
  v4 := Tryz.zeroValue4
  t22 := Tryz.underlying29
  a22 := Tryz.isAgg29
  z22 := Tryz.sizeOf29
  v22 := Tryz.zeroValue29
  t40 := Tryz.underlying108
  a40 := Tryz.isAgg108
  z40 := Tryz.sizeOf108
  v40 := Tryz.zeroValue108 }
open Go.RowKit Go.Lib in
/-- slices.BinarySearch at []int: "BinarySearch searches for target in a sorted slice and returns the earliest position where target is found, or the position where target would appear in the sort order; it also returns a bool saying whether the target is really found in the slice. The slice must be sorted in increasing order.": OF A SORTED SLICE IT RETURNS how many elements are less than the target, and whether the target is among the elements; the world is as it was but for the count of draws. 'zs': what the cells behind the slice's address hold; 'zs.take n': its elements. (Of a slice that is not sorted: no contract here.) (LAID: no walk: one application.) -/
theorem Tryz.slices_BinarySearch_int (b off n c : Nat) (zs : List Int) (x : Int) (w : World) (hz : n ≤ zs.length) (hbig : n < 4611686018427387904) (hc : ∀ j, j < zs.length → w.cell? ⟨b, off + j, none⟩ = some (.int .i64 (zs.getD j 0))) (hs : (zs.take n).Pairwise (· ≤ ·)) :
    Calls Tryz.prog 52 #[.slice (some ⟨b, off, none⟩) n c, .int .i64 x] w fun e w' => e = .returned (.tuple #[.int .i64 ((zs.take n).countP (· < x) : Nat), .bool ((zs.take n).contains x)]) ∧ ∃ q, w' = w.drewN q := Any.slices_BinarySearch_int Tryz.laysNm225 b off n c zs x w hz hbig hc hs
open Go.RowKit Go.Sort in
open Go.RowKit Go.Lib in
/-- slices.BinarySearch at []int of no element: position 0, not found; the world is as it was. (LAID: no walk: one application.) -/
theorem Tryz.slices_BinarySearch_int_empty (a : Option Addr) (c : Nat) (x : Int) (w : World) :
    Calls Tryz.prog 52 #[.slice a 0 c, .int .i64 x] w fun e w' => e = .returned (.tuple #[.int .i64 0, .bool false]) ∧ w' = w := Any.slices_BinarySearch_int_empty Tryz.laysNm225 a c x w
end Go.Proofs

set_option linter.unusedVariables false
set_option linter.unusedSimpArgs false
set_option maxRecDepth 100000
namespace Go.Proofs.YtfniceomhfebhaaGreat.C20
open Go Go.Ev Go.Proofs C1 C2 C3 C4 C7 C9 C10 C11 C12

theorem flat_one (l : List AV) : (l.map fun c => [c]).flatten = l := by
  induction l with
  | nil => rfl
  | cons x l ih => simp only [List.map_cons, List.flatten_cons, ih]; rfl
end Go.Proofs.YtfniceomhfebhaaGreat.C20

set_option linter.unusedVariables false
set_option linter.unusedSimpArgs false
set_option maxRecDepth 100000
namespace Go.Proofs.YtfniceomhfebhaaGreat.C21
open Go Go.Ev Go.Proofs C1 C2 C3 C4 C7 C9 C10 C11 C12 C20

/-- the sorts of the atoms of the first sorts -/
def sortsN (atoms : List Int) (k : Nat) : List Int := foldN (fun i l => l ++ List.replicate (gI atoms i).toNat (i : Int)) [] k
def sortsL (sc : Sc) : List Int := sortsN sc.atoms sc.atoms.length
end Go.Proofs.YtfniceomhfebhaaGreat.C21

set_option linter.unusedVariables false
set_option linter.unusedSimpArgs false
set_option maxRecDepth 100000
namespace Go.Proofs.YtfniceomhfebhaaGreat.C22
open Go Go.Ev Go.Proofs C1 C2 C3 C4 C7 C9 C10 C11 C12 C16 C20 C21

def okP (so p : List Int) (i : Nat) : Bool := decide (0 ≤ gI p i) && decide (gI p i < p.length) && decide (gI so (gI p i).toNat = gI so i)
/-- how often each number is met -/
def cntN (p : List Int) (k : Nat) : List Int := foldN (fun i l => l.set (gI p i).toNat (gI l (gI p i).toNat + 1)) (List.replicate p.length 0) k
theorem cntN_len (p : List Int) : ∀ k, (cntN p k).length = p.length
  | 0 => by simp [cntN, foldN]
  | k + 1 => by
    have := cntN_len p k
    simp only [cntN, foldN_succ, List.length_set] at *
    exact this
def validP (sc : Sc) (p : List Int) : Bool := decide ((p.length : Int) = sumI sc.atoms) && allN (okP (sortsL sc) p) p.length && decide (¬ (0 : Int) ∈ cntN p p.length)

end Go.Proofs.YtfniceomhfebhaaGreat.C22

set_option linter.unusedVariables false
set_option linter.unusedSimpArgs false
set_option maxRecDepth 100000
namespace Go.Proofs.YtfniceomhfebhaaGreat.C23
open Go Go.Ev Go.Proofs C1 C2 C3 C4 C7 C9 C10 C11 C12 C13 C14 C16 C20 C21 C22

/-- append to a block of the call's own -/
theorem AppendStep.intsS {P : Program} {lo : Nat} {mu : Mu} {t t' e bt : Nat} {b : Nat} {x : AV} {xs ys : List Int} {z : Int} {K : AV → Mu → Prop} (hs : sliceOf P t = some (e, 1, bt)) (hs' : (sliceOf P t').isSome = true) (hz : zeroOf P e = some (aI z))
    (hb : bt ≤ 16384) {n : Nat} (hn : xs.length = n) (hlo : lo ≤ b) (hc : mu[b]? = some (.arr (xs.map aI))) (hx : rowsOf mu x = some (ys.map rI)) (hl : xs.length + ys.length ≤ 4294967296)
    (k : ∀ b' mu', lo ≤ b' → mu'[b']? = some (.arr ((xs ++ ys).map aI)) → (∀ i, i < lo → mu'[i]? = mu[i]?) → K (.sl b' 1 0 (n + ys.length)) mu') : AppendStep P mu #[t, t'] (.sl b 1 0 n) x K := by
  subst hn
  have hbl : b < mu.length := (List.getElem?_eq_some_iff.1 hc).1
  refine .inl ⟨t, t', e, 1, bt, ys.map rI, rfl, hs, hs', ⟨_, hz, rfl, rfl⟩, by omega, hb, hx, rows_rI ys, .inr ⟨b, xs.length, _, rfl, hc, by simp, by simpa using hl, ?_⟩⟩
  have e1 : (xs.map aI).take (xs.length * 1) ++ (ys.map rI).flatten = (xs ++ ys).map aI := by
    rw [flat_rI, List.take_of_length_le (by simp), List.map_append]
  have e2 : xs.length + (ys.map rI).length = xs.length + ys.length := by simp
  rw [e1, e2]
  refine k _ _ (by omega) ?_ (fun i hi => ?_)
  · rw [List.getElem?_append_right (by simp)]; simp
  · rw [List.getElem?_append_left (by simp; omega), List.getElem?_set_ne (by omega)]

/-- mapped, as one that hands over memory -/
theorem mappedE (mu : Mu) (xs : List Int) (fv : AV) (g : Int → Int) (hf : FnOk Tryz.prog fv (fun x => aI x) (· ∈ xs) (fun x => aI (g x))) (hl : xs.length ≤ 1000000000) :
    Sound Tryz.prog 111 [lI xs, fv] mu fun e m => ∃ b, e = .ret (.sl b 1 0 xs.length) ∧ mu.length ≤ b ∧ m[b]? = some (.arr ((xs.map g).map aI)) ∧ ∀ i, i < mu.length → m[i]? = mu[i]? := by
  refine Sound.of_awp Tryz.call111 Tryz.func111 rfl (Nat.le_of_ble_eq_true (by kernel_rfl)) (by kernel_rfl) (pl := {}) ?_
  simp [go_sem, show (xs.length : Int) ≤ 4294967296 by omega]
  refine LoopGo.keep (fun m st => ∃ k b, m = xs.length - k ∧ k ≤ xs.length ∧ st.tm 1 = fv ∧ st.tm 5 = .sl b 1 0 k ∧ st.tm 11 = lI xs ∧ st.tm 12 = aI xs.length ∧ st.tm 13 = aI (k : Nat) ∧ mu.length ≤ b ∧ st.mu[b]? = some (.arr (((xs.take k).map g).map aI)) ∧ ∀ i, i < mu.length → st.mu[i]? = mu[i]?) xs.length ?_ ?_
  · refine ⟨0, mu.length, by omega, by omega, by simp [go_sem], by simp [go_sem], by simp [go_sem], by simp [go_sem], by simp [go_sem], by omega, by simp [go_sem], fun i hi => ?_⟩
    simp only [put_mu, go_sem]
    rw [List.getElem?_append_left hi]
  rintro m st ⟨k, b, rfl, hk, e1, e5, e11, e12, e13, hlo, hc, hsame⟩
  by_cases hlt : k < xs.length
  · have htk : xs.take (k + 1) = xs.take k ++ [xs[k]] := by rw [List.take_add_one, List.getElem?_eq_getElem hlt]; rfl
    simp [go_sem, e1, e5, e11, e12, e13, hlt]
    refine FnOk.call (enc := fun x => aI x) hf (List.getElem_mem hlt) ?_
    simp [go_sem, e1, e5, e11, e12, e13, hlt]
    have hkl : ((xs.take k).map g).length = k := by simp; omega
    refine AppendStep.intsS (lo := mu.length) (e := 3) (bt := 8) (z := 0) (xs := (xs.take k).map g) (ys := [g xs[k]]) (by simp [go_sem]) (by simp [go_sem]) (by simp [go_sem]) (by omega) hkl hlo hc (by simp [rowsOf]) (by simp; omega) ?_
    intro b' mu' hlo' hc' hs'
    have hcat : (xs.take k).map g ++ [g xs[k]] = (xs.take (k + 1)).map g := by rw [htk, List.map_append]; rfl
    rw [hcat] at hc'
    simp [go_sem, e1, e5, e11, e12, e13, hlt]
    refine Keep.loop (xs.length - (k + 1)) (by omega) ⟨k + 1, b', rfl, by omega, by simp [go_sem, e1], by simp [go_sem], by simp [go_sem, e11], by simp [go_sem, e12], ?_, hlo', by simpa [go_sem] using hc', fun i hi => ?_⟩
    · simp [go_sem]; exact wrap_i64 (by omega) (by omega)
    · simp [go_sem]; rw [hs' i hi, hsame i hi]
  · have hge : k = xs.length := by omega
    subst hge
    simp [go_sem, e1, e5, e11, e12, e13]
    rw [List.take_length] at hc
    exact ⟨hlo, by simpa using hc, hsame⟩

theorem sortE {mu : Mu} {b : Nat} {zs : List Int} (hc : mu[b]? = some (.arr (zs.map aI))) (hl : zs.length ≤ 1000000000) :
    Sound Tryz.prog 112 [.sl b 1 0 zs.length] mu fun e m => e = .ret (.tup []) ∧ m = mu.set b (.arr ((srtI zs).map aI)) := by
  have := sort_sound (P := Tryz.prog) Tryz.call112 (fun blk off cap zs w h1 h2 h3 => Tryz.slices_Sort_int blk off cap zs w h1 h2 h3) (mu := mu) (b := b) (off := 0) (cells := zs.map aI) (zs := zs) hc
    (fun k n h => by rw [Nat.zero_add, List.getElem?_map, h]; rfl) (by omega) (by simp)
  have e : putCells (zs.map aI) 0 ((srtI zs).map fun n => .sc (.int .i64 n)) = (srtI zs).map aI := by
    rw [putCells_eq _ _ _ (by simp [srtI_len])]
    simp [srtI_len]
  rw [e] at this
  exact this

/-- the image of a relation -/
def relImg (p : List Int) (r : Rl) : Rl := ⟨r.ar, srtI (r.ts.map fun t => imgN p p.length t r.ar.toNat)⟩

theorem relPg (sc : Sc) (p : List Int) (r : Rl) (g : ∀ t, t ∈ r.ts → GP p) (h0 : 0 ≤ r.ar) (h3 : r.ar ≤ 3) (hl : r.ts.length ≤ 1000000000) (hr : ∀ t, t ∈ r.ts → 0 ≤ t ∧ t ≤ 1000000) : SoundP Tryz.prog 89 [eSc sc, lI p, eRel r] (eRel (relImg p r)) := by
  refine SoundP.of_sound (Sound.of_awp Tryz.call89 Tryz.func89 rfl (Nat.le_of_ble_eq_true (by kernel_rfl)) (by kernel_rfl) (pl := {}) ?_)
  obtain ⟨ar, ts⟩ := r
  obtain ⟨n, rfl⟩ := Int.eq_ofNat_of_zero_le h0
  have hn : n ≤ 3 := by simp at h3; omega
  have ha : HF (.agg [lI p, aI n]) := HF.agg fun c hc => by
    simp at hc
    rcases hc with rfl | rfl
    · exact hf_lI p
    · exact HF.sc _
  have hfv : HF (.fn (.func 110) [.agg [lI p, aI n]] []) := HF.fn (fun c hc => by
    simp at hc; subst hc; exact ha) (fun c hc => by simp at hc)
  have hf : FnOk Tryz.prog (.fn (.func 110) [.agg [lI p, aI n]] []) (fun x => aI x) (· ∈ ts) (fun x => aI (imgN p p.length x n)) :=
    ⟨hfv, _, _, _, rfl, fun x hx => ⟨[.agg [lI p, aI n], aI x], .cons (.hf ha) (.cons (.hf (HF.sc _)) .nil), permRank p (g x hx) n hn x (hr x hx).1 (hr x hx).2⟩⟩
  simp [go_sem]
  refine CallStep.eff (caps := []) (mappedE _ ts _ (fun x => imgN p p.length x n) hf hl) ?_ (by rintro r m ⟨b, h, _⟩; cases h)
  rintro _ m ⟨b, hb, hlo, hc, hs⟩
  cases hb
  simp [go_sem]
  have hml : (ts.map fun x => imgN p p.length x n).length = ts.length := by simp
  have hse := sortE (mu := m) (b := b) (zs := ts.map fun x => imgN p p.length x n) hc (by simpa using hl)
  rw [hml] at hse
  refine CallStep.eff (caps := []) hse ?_ (by rintro r m ⟨h, _⟩; cases h)
  rintro _ m' ⟨hr', rfl⟩
  cases hr'
  have h0 := hs 0 (by simp)
  have hb0 : b ≠ 0 := by simp at hlo; omega
  have hm0 : (m.set b (.arr ((srtI (ts.map fun x => imgN p p.length x n)).map aI)))[0]? = some (.arr [aI 0, .lst true []]) := by
    rw [List.getElem?_set_ne hb0, h0]; rfl
  have hbl : b < m.length := (List.getElem?_eq_some_iff.1 hc).1
  have hmb : (m.set b (.arr ((srtI (ts.map fun x => imgN p p.length x n)).map aI)))[b]? = some (.arr ((srtI (ts.map fun x => imgN p p.length x n)).map aI)) := by
    rw [List.getElem?_set_self hbl]
  generalize m.set b (.arr ((srtI (ts.map fun x => imgN p p.length x n)).map aI)) = m2 at *
  simp [go_sem, hm0]
  have hm0' : (m2.set 0 (Cell.arr [AV.sc (Value.int IntKind.i64 ↑n), AV.sl b 1 0 ts.length]))[0]? = some (Cell.arr [AV.sc (Value.int IntKind.i64 ↑n), AV.sl b 1 0 ts.length]) := by
    rw [List.getElem?_set_self (List.getElem?_eq_some_iff.1 hm0).1]
  have hmb' : (m2.set 0 (Cell.arr [AV.sc (Value.int IntKind.i64 ↑n), AV.sl b 1 0 ts.length]))[b]? = some (.arr ((srtI (ts.map fun x => imgN p p.length x n)).map aI)) := by
    rw [List.getElem?_set_ne (fun h => hb0 h.symm)]; exact hmb
  generalize m2.set 0 (Cell.arr [AV.sc (Value.int IntKind.i64 ↑n), AV.sl b 1 0 ts.length]) = m3 at *
  rw [hm0']
  simp [go_sem]
  have hrd := (OwnF.ofCells (lo := 0) (mu := m3) (b := b) (n := ts.length) (xs := srtI (ts.map fun x => imgN p p.length x n)) (Nat.zero_le _) hmb' (by simp [srtI_len])).rdI
  exact Rd.rel (r := relImg p ⟨n, ts⟩) hrd
end Go.Proofs.YtfniceomhfebhaaGreat.C23

set_option linter.unusedVariables false
set_option linter.unusedSimpArgs false
set_option maxRecDepth 100000
namespace Go.Proofs.YtfniceomhfebhaaGreat.C24
open Go Go.Ev Go.Proofs C1 C2 C3 C4 C7 C9 C10 C11 C12 C13 C14 C16 C20 C21 C22 C23

/-- a relation over n atoms -/
structure GRel (n : Int) (r : Rl) : Prop where
  ar1 : 1 ≤ r.ar
  ar3 : r.ar ≤ 3
  len : r.ts.length ≤ 2000
  val : ∀ t, t ∈ r.ts → 0 ≤ t ∧ t < n ^ r.ar.toNat
  srt : sorted r.ts
/-- a universe -/
structure GU (sc : Sc) : Prop where
  g : GSc sc
  n0 : 0 ≤ sumI sc.atoms
  n12 : sumI sc.atoms ≤ 12
structure GBs (n : Int) (bs : List Bd) : Prop where
  len : bs.length ≤ 6
  rel : ∀ b, b ∈ bs → GRel n b.lo ∧ GRel n b.up
theorem GRel.small {n : Int} {r : Rl} (h0 : 0 ≤ n) (h : GRel n r) (hn : n ≤ 20) : ∀ t, t ∈ r.ts → 0 ≤ t ∧ t ≤ 8000 ∧ 1 ≤ n := by
  intro t ht
  have hv := h.val t ht
  have := h.ar1
  have := h.ar3
  have hp := pow_ok h0 hn r.ar.toNat (by omega)
  refine ⟨hv.1, by omega, ?_⟩
  refine Decidable.byContradiction fun hc => ?_
  have : n = 0 := by omega
  subst this
  rw [Int.zero_pow (by omega)] at hv
  omega

theorem GBs.rels {n : Int} {bs : List Bd} (g : GBs n bs) : (relsOf bs).length ≤ 12 ∧ ∀ r, r ∈ relsOf bs → GRel n r := by
  refine ⟨by rw [relsOf_len]; have := g.len; omega, fun r hr => ?_⟩
  obtain ⟨b, hb, hr⟩ := List.mem_flatMap.1 hr
  have := g.rel b hb
  simp at hr
  rcases hr with rfl | rfl
  · exact this.1
  · exact this.2

def symB (sc : Sc) (bs : List Bd) (p : List Int) : Bool := validP sc p && (relsOf bs).all fun r => decide (r = relImg p r)

end Go.Proofs.YtfniceomhfebhaaGreat.C24

set_option linter.unusedVariables false
set_option linter.unusedSimpArgs false
set_option maxRecDepth 100000
namespace Go.Proofs.YtfniceomhfebhaaGreat.C25
open Go Go.Ev Go.Proofs C1 C2 C3 C4 C7 C9 C10 C11 C12 C16 C17 C18 C20 C22 C24

def bump (m : Sig) (w : List Int) : Sig := match placeW w m 0 with | some i => m.set i (w, lookS m w + 1) | none => m ++ [(w, 1)]
def gS (ms : List Sig) (i : Nat) : Sig := (ms[i]?).getD []
theorem gS_eq {ms : List Sig} {i : Nat} (h : i < ms.length) : gS ms i = ms[i] := by simp [gS, h]
def gR (rs : List Rl) (i : Nat) : Rl := (rs[i]?).getD ⟨0, []⟩
theorem gR_eq {rs : List Rl} {i : Nat} (h : i < rs.length) : gR rs i = rs[i] := by simp [gR, h]
def wordN (i : Int) (cls : List Int) (x : Int) (tup : List Int) (j : Nat) : List Int := foldN (fun c w => if gI tup c = x then w else w.set (c + 1) (gI cls (gI tup c).toNat + 1)) [i, 0, 0, 0] j
def tupStep (i : Int) (cls tup : List Int) (ms : List Sig) (k : Nat) : List Sig :=
  if firstIn (fun y => decide (y = gI tup k)) tup 0 < k then ms else ms.set (gI tup k).toNat (bump (gS ms (gI tup k).toNat) (wordN i cls (gI tup k) tup tup.length))
def tupN (i : Int) (cls tup : List Int) (ms : List Sig) (k : Nat) : List Sig := foldN (fun k ms => tupStep i cls tup ms k) ms k
def relN (n : Int) (i : Int) (cls : List Int) (r : Rl) (ms : List Sig) (j : Nat) : List Sig := foldN (fun j ms => tupN i cls (digN n (gI r.ts j) r.ar.toNat) ms r.ar.toNat) ms j
def sigsN (n : Int) (cls : List Int) (rs : List Rl) (i : Nat) : List Sig := foldN (fun i ms => relN n i cls (gR rs i) ms (gR rs i).ts.length) (List.replicate cls.length []) i
def sigsOf (n : Int) (cls : List Int) (rs : List Rl) : List Sig := sigsN n cls rs rs.length

structure SigB (B : Nat) (m : Sig) : Prop where
  ok : ∀ p, p ∈ m → p.1.length = 4 ∧ 0 ≤ p.2 ∧ p.2 ≤ B
  len : m.length ≤ B
theorem SigB.le {B C : Nat} {m : Sig} (h : SigB B m) (hc : B ≤ C) : SigB C m := ⟨fun p hp => by have := h.ok p hp; omega, by have := h.len; omega⟩
theorem placeW_lt (w : List Int) : ∀ (m : Sig) (k j : Nat), placeW w m k = some j → k ≤ j ∧ j < k + m.length
  | [], k, j, h => by simp [placeW] at h
  | q :: m, k, j, h => by
    rw [placeW] at h
    split at h
    · simp only [Option.some.injEq] at h; simp; omega
    · have := placeW_lt w m (k + 1) j h; simp; omega
theorem look_bound {B : Nat} {m : Sig} (h : SigB B m) (w : List Int) : 0 ≤ lookS m w ∧ lookS m w ≤ B := by
  unfold lookS
  split
  · rename_i i hi
    have := (placeW_lt w m 0 i hi).2
    have hl : i < m.length := by omega
    rw [List.getElem?_eq_getElem hl]
    have := h.ok _ (List.getElem_mem hl)
    exact this.2
  · omega
theorem SigB.bump {B : Nat} {m : Sig} (h : SigB B m) {w : List Int} (hw : w.length = 4) : SigB (B + 1) (bump m w) := by
  have hb := look_bound h w
  unfold C25.bump
  split
  · rename_i i hi
    refine ⟨fun p hp => ?_, by have := h.len; simp; omega⟩
    rcases List.mem_or_eq_of_mem_set hp with hp | hp
    · have := h.ok p hp; omega
    · subst hp; exact ⟨hw, by simp; omega, by simp; omega⟩
  · refine ⟨fun p hp => ?_, by have := h.len; simp; omega⟩
    rcases List.mem_append.1 hp with hp | hp
    · have := h.ok p hp; omega
    · simp at hp; subst hp; exact ⟨hw, by simp, by simp; omega⟩
def SigsB (B : Nat) (ms : List Sig) : Prop := ∀ m, m ∈ ms → SigB B m
theorem wordN_len (i : Int) (cls : List Int) (x : Int) (tup : List Int) : ∀ j, (wordN i cls x tup j).length = 4
  | 0 => rfl
  | j + 1 => by
    have := wordN_len i cls x tup j
    rw [wordN, foldN_succ, ← wordN]
    split
    · exact this
    · simpa using this
theorem gS_B {B : Nat} {ms : List Sig} (h : SigsB B ms) (i : Nat) : SigB B (gS ms i) := by
  by_cases hi : i < ms.length
  · rw [gS_eq hi]; exact h _ (List.getElem_mem hi)
  · rw [gS, List.getElem?_eq_none (by omega)]; exact ⟨by simp, by simp⟩
theorem SigsB.step {B : Nat} {ms : List Sig} (h : SigsB B ms) (i : Int) (cls tup : List Int) (k : Nat) : SigsB (B + 1) (tupStep i cls tup ms k) := by
  unfold tupStep
  split
  · exact fun m hm => (h m hm).le (by omega)
  · intro m hm
    rcases List.mem_or_eq_of_mem_set hm with hm | hm
    · exact (h m hm).le (by omega)
    · subst hm; exact (gS_B h _).bump (wordN_len _ _ _ _ _)
theorem SigsB.tupN {B : Nat} {ms : List Sig} (h : SigsB B ms) (i : Int) (cls tup : List Int) : ∀ k, SigsB (B + k) (tupN i cls tup ms k)
  | 0 => h
  | k + 1 => by
    have := (SigsB.tupN h i cls tup k).step i cls tup k
    exact this
theorem SigsB.relN {B : Nat} {ms : List Sig} (h : SigsB B ms) (n i : Int) (cls : List Int) (r : Rl) (har : r.ar.toNat ≤ 3) : ∀ j, SigsB (B + 3 * j) (relN n i cls r ms j)
  | 0 => h
  | j + 1 => by
    have := (SigsB.relN h n i cls r har j).tupN i cls (digN n (gI r.ts j) r.ar.toNat) r.ar.toNat
    exact fun m hm => (this m hm).le (by omega)
theorem SigsB.sigsN (n : Int) (cls : List Int) (rs : List Rl) (hr : ∀ r, r ∈ rs → GRel n r) : ∀ i, SigsB (6000 * i) (sigsN n cls rs i)
  | 0 => fun m hm => by
    rw [C25.sigsN, foldN_zero] at hm
    rw [List.eq_of_mem_replicate hm]
    exact ⟨by simp, by simp⟩
  | i + 1 => by
    have hg : (gR rs i).ar.toNat ≤ 3 ∧ (gR rs i).ts.length ≤ 2000 := by
      by_cases hi : i < rs.length
      · rw [gR_eq hi]; have := hr _ (List.getElem_mem hi); have h1 := this.ar3; exact ⟨by omega, this.len⟩
      · rw [gR, List.getElem?_eq_none (by omega)]; simp
    have := (SigsB.sigsN n cls rs hr i).relN n i cls (gR rs i) hg.1 (gR rs i).ts.length
    exact fun m hm => (this m hm).le (by omega)
theorem sigsOf_ok {n : Int} {cls : List Int} {rs : List Rl} (hr : ∀ r, r ∈ rs → GRel n r) (hl : rs.length ≤ 100) : ∀ m, m ∈ sigsOf n cls rs → SigOk m ∧ m.length ≤ 1000000 := fun m hm => by
  have := SigsB.sigsN n cls rs hr rs.length m hm
  exact ⟨fun p hp => (this.ok p hp).1, by have := this.len; omega⟩

/-- the memory: the row of maps, the maps -/
structure SM (n : Nat) (mu : Mu) (ms : List Sig) : Prop where
  ptr : mu[0]? = some (.arr ((List.range n).map fun i => .mp (1 + i)))
  len : ms.length = n
  mp : ∀ (x : Nat) (h : x < ms.length), mu[1 + x]? = some (.mp (ms[x].map eE))
theorem SM.lt {n : Nat} {mu : Mu} {ms : List Sig} (s : SM n mu ms) : n < mu.length := by
  cases n with
  | zero => exact (List.getElem?_eq_some_iff.1 s.ptr).1
  | succ n => have := (List.getElem?_eq_some_iff.1 (s.mp n (by rw [s.len]; omega))).1; omega
theorem SM.push {n : Nat} {mu : Mu} {ms : List Sig} (s : SM n mu ms) (c : Cell) : SM n (mu ++ [c]) ms := by
  have hl := s.lt
  exact ⟨by rw [List.getElem?_append_left (by omega)]; exact s.ptr, s.len, fun x h => by rw [List.getElem?_append_left (by have := s.len; omega)]; exact s.mp x h⟩
theorem SM.hi {n L : Nat} {mu : Mu} {ms : List Sig} (s : SM n mu ms) (hL : n < L) (c : Cell) : SM n (mu.set L c) ms :=
  ⟨by rw [List.getElem?_set_ne (by omega)]; exact s.ptr, s.len, fun x h => by rw [List.getElem?_set_ne (by have := s.len; omega)]; exact s.mp x h⟩
theorem SM.upd {n x : Nat} {mu : Mu} {ms : List Sig} (s : SM n mu ms) (hx : x < n) (m : Sig) : SM n (mu.set (1 + x) (.mp (m.map eE))) (ms.set x m) := by
  have hl := s.lt
  refine ⟨by rw [List.getElem?_set_ne (by omega)]; exact s.ptr, by simp [s.len], fun y h => ?_⟩
  simp only [List.length_set] at h
  by_cases e : x = y
  · subst e
    rw [List.getElem?_set_self (by omega), List.getElem_set_self]
  · rw [List.getElem?_set_ne (by omega), List.getElem_set_ne e]; exact s.mp y h
theorem flat_eM (l : List Sig) : (l.map fun m => [eM m]).flatten = l.map eM := by
  induction l with
  | nil => rfl
  | cons a l ih => simp only [List.map_cons, List.flatten_cons, ih]; rfl
theorem SM.rd {n : Nat} {mu : Mu} {ms : List Sig} (s : SM n mu ms) : Rd mu (.sl 0 1 0 n) (lSig ms) := by
  have hlen := s.len
  refine .sl 0 1 0 n _ _ s.ptr (by simp) (by simp [hlen]) (fun r hr => ?_) (fun k x y hx hy => ?_)
  · obtain ⟨m, _, rfl⟩ := List.mem_map.1 hr; rfl
  · rw [Nat.zero_add, List.getElem?_map] at hx
    rw [flat_eM, List.getElem?_map] at hy
    cases hq : ms[k]? with
    | none => rw [hq] at hy; simp at hy
    | some m =>
      rw [hq] at hy; simp at hy; subst hy
      have hk : k < ms.length := (List.getElem?_eq_some_iff.1 hq).1
      rw [List.getElem?_range (by omega)] at hx
      simp at hx; subst hx
      have hmp := s.mp k hk
      have hmk : ms[k] = m := by rw [List.getElem?_eq_getElem hk] at hq; exact Option.some.inj hq
      rw [hmk] at hmp
      refine .mp (1 + k) (m.map eE) (m.map eE) hmp rfl (fun j a b ha hb => ?_) (fun j a b ha hb => ?_)
      · rw [ha] at hb; cases hb
        obtain ⟨q, _, rfl⟩ := List.mem_map.1 (List.mem_of_getElem? ha)
        exact .hf _ (HF.agg fun c hc => by
          obtain ⟨i, _, rfl⟩ := List.mem_map.1 hc
          exact HF.sc _)
      · rw [ha] at hb; cases hb
        obtain ⟨q, _, rfl⟩ := List.mem_map.1 (List.mem_of_getElem? ha)
        exact .hf _ (HF.sc _)
end Go.Proofs.YtfniceomhfebhaaGreat.C25
