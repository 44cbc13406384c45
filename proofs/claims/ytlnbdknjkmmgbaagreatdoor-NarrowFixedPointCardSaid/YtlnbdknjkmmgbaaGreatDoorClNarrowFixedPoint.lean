/-
  Proved: the tied card of armaturelaw10.NarrowFixedPoint: for every specification, scope, bounds and formula, the law returns true and leaves its arguments as they were. Conditions: the card's own (the tables of internal/strconv and math/bits are as the program's text lays them; loops end).
-/
import Derived.Test.YtlnbdknjkmmgbaaGreatDoorRows
import Derived.Test.YtlnbdknjkmmgbaaGreatDoorTie
import Derived.Test.YtlnbdknjkmmgbaaGreatDoorCards
import Derived.SevenTiedAt
import Derived.Test.YtlnbdknjkmmgbaaGreatDoorMh
set_option linter.unusedVariables false
set_option linter.unusedSimpArgs false
set_option maxRecDepth 100000
open Go renaming TypeId->j1,Value->us
open Go.Proofs.Tryz renaming prog->qb
open List renaming append_nil->zZ
namespace Go.Proofs.YtlnbdknjkmmgbaaGreatDoor
open Go Go.Ev Go.Proofs Tryz
namespace ZNarrowFixedPoint
open Go.EvW DL P1 Y1 YF Go.RowKit Go.ChangeShapes Go.WideShapes
theorem law(g:TS)(i:Sc)(j:List Bd)(l:Nd)(o:DT.okTA g)(t:True)(C:True)(I:True):qd qb 4 [eTS g,eSc i,lBd j,eNd l] (aB true):=
 W71.qpI g (fun x p=>Nat.le_trans (o.so x p) (Nat.le_of_ble_eq_true rfl)) i j l
set_option maxRecDepth 100000 in
theorem lifted(os:Os)(g:os.Started)(H:Type)(enc:j1×us->H) :
  ReturnsInHanded {} checked os 4 .any (fun w args=>(Rows.narrowFixedPointSpec.pre enc qb f4 [] false w args/\laidMetH qb tabL w)/\sizedMet enc qb f4 (OpenSpec.ofChange Rows.narrowFixedPointSpec) false w args) (Rows.narrowFixedPointSpec.post enc qb f4 false true false false):=by
 refine returnsInHanded_of_change_and (C:=checked) (X:=fun w _=>laidMetH qb tabL w) (fun _ _ _ J h=>h.of_heap J) own g zKr func4
  (ChangeSpec.witness_shaped (enc:=enc) (C:=checked) (os:=os) (X:=fun w _=>laidMetH qb tabL w) false (World.doorLaid qb 4000 os) #[.agg #[.slice none 0 0,.slice none 0 0,.slice none 0 0,.slice none 0 0],.agg #[.slice none 0 0,.int .i64 0],.slice none 0 0,.agg #[.int .i64 0,.string ⟨#[]⟩,.int .i64 0,.slice none 0 0,.int .i64 0]] 8 rfl (World.shaped_of_RefB zKr zKr) zKr zKr zKr (qpK os _)) ?_
 intro W base args o P i l I _ t R _;exact qkO (ts:=[27,30,31,34]) (tb:=4) zKr (.cons DT.aSpec (.cons DP.qpP (.cons HX.qpO (.cons DT.aNode .nil)))) rfl
  (fun H o h=>by match o,h with | [_,_,_,_],U=>rfl) zKr DT.mU laid zKr (fun a h=>law a.1 a.2.1 a.2.2.1 a.2.2.2.1 h.1 h.2.1 h.2.2.1 h.2.2.2.1) H enc W base args o P i l I (by
   obtain⟨p,q,hA,hV,_⟩:=I;obtain⟨rfl,_⟩:=trodVars_none hV;have j:(DataW.weightsEach qb ([27,30,31,34]++[]) (o++[])).all (·<=reachBytes)=true:=t;rw[zZ,zZ]at j;exact j) (qpJ R)
end ZNarrowFixedPoint
namespace ZFNarrowFixedPoint
open Go.RowKit Go.ChangeShapes Go.WideShapes
theorem c0:(Rows.narrowFixedPointRow.wf (OpenSpec.ofChange Rows.narrowFixedPointSpec))=true:=by kernel_rfl
theorem c1:(laidOutB checked.prog)=true:=by kernel_rfl
theorem c2:(mapsRowed checked.prog)=true:=by kernel_rfl
theorem c3:(f4.params.all (checked.prog.readableRec ·))=true:=by kernel_rfl
theorem c4:(namedTie checked.prog Rows.narrowFixedPointRow.named Rows.narrowFixedPointSpec.vars)=true:=by kernel_rfl
theorem c5:((Rows.narrowFixedPointRow.stops == []))=true:=by kernel_rfl
theorem c6:((checked.prog.stops == []))=true:=by kernel_rfl
theorem c7:((Rows.narrowFixedPointRow.knobs == []))=true:=by kernel_rfl
theorem c8:((checked.prog.stopKnobs == []))=true:=by kernel_rfl
theorem c9:((Rows.narrowFixedPointRow.inPlace == checked.prog.inPlace 4))=true:=by kernel_rfl
theorem c10:((Rows.narrowFixedPointRow.unfollowed == checked.prog.unfollowed 4))=true:=by kernel_rfl
theorem c11:((Rows.narrowFixedPointRow.recurses == checked.prog.recurses 4))=true:=by kernel_rfl
theorem c12:((Rows.narrowFixedPointRow.named == checked.prog.varsNamed 4))=true:=by kernel_rfl
theorem c13:((Rows.narrowFixedPointRow.maps == (f4.params.toList++Rows.narrowFixedPointSpec.plain.varTypes checked.prog).any (checked.prog.mapsRec ·)))=true:=by kernel_rfl
theorem c14:((Rows.narrowFixedPointRow.ifaces == (f4.params.toList++Rows.narrowFixedPointSpec.plain.varTypes checked.prog).any (checked.prog.ifacesRec ·)))=true:=by kernel_rfl
theorem c15:((Rows.narrowFixedPointRow.mapsOut == checked.prog.mapsAmong f4.resultTypes.toList))=true:=by kernel_rfl
theorem c16:((Rows.narrowFixedPointRow.loops == (f4.params.toList++Rows.narrowFixedPointSpec.plain.varTypes checked.prog).any (checked.prog.loopsFrom ·)))=true:=by kernel_rfl
theorem c17:((Rows.narrowFixedPointRow.wideKeys == (f4.params.toList++Rows.narrowFixedPointSpec.plain.varTypes checked.prog++f4.resultTypes.toList).any (checked.prog.wideKeysFrom ·)))=true:=by kernel_rfl
theorem c18:(Rows.narrowFixedPointSpec.vars.all (checked.prog.varReadable ·))=true:=by kernel_rfl
theorem c19:(f4.resultTypes.all (fun t=>checked.prog.readableRec t&&decide (t<checked.prog.types.size)))=true:=by kernel_rfl
theorem c20:((Rows.narrowFixedPointRow.ifacesOut == f4.resultTypes.toList.any (checked.prog.ifacesRec ·)))=true:=by kernel_rfl
theorem c21:((Rows.narrowFixedPointRow.loopsOut == f4.resultTypes.toList.any (checked.prog.loopsFrom ·)))=true:=by kernel_rfl
theorem c22:((Rows.narrowFixedPointRow.plainKeys == checked.prog.plainKeys))=true:=by kernel_rfl
theorem c23:(Rows.narrowFixedPointRow.shortTexts.isNone)=true:=by kernel_rfl
theorem c24:(checked.prog.stopsHeard)=true:=by kernel_rfl
theorem c25:(checked.prog.mayEnter)=true:=by kernel_rfl
theorem c26:((Rows.narrowFixedPointRow.lifted == checked.prog.liftsFinal))=true:=by kernel_rfl
theorem c27:((checked.prog.make == some Rows.narrowFixedPointRow.make))=true:=by kernel_rfl
theorem c28:((Rows.narrowFixedPointRow.kinds == (if Rows.narrowFixedPointRow.domain.isEmpty then [] else f4.params.toList.map fun t=>match checked.prog.underlying t with|some (.int k)=>some k|_=>none)))=true:=by kernel_rfl
theorem c29:((Rows.narrowFixedPointRow.pinned == Rows.narrowFixedPointRow.pinnedBy))=true:=by kernel_rfl
theorem c30:((Rows.narrowFixedPointRow.veiled == (f4.params.toList++Rows.narrowFixedPointSpec.plain.varTypes checked.prog++f4.resultTypes.toList).any (checked.prog.veiledRec ·)))=true:=by kernel_rfl
theorem c31:(Rows.narrowFixedPointRow.veiledFits checked.prog f4.params.toList (f4.params.toList++Rows.narrowFixedPointSpec.plain.varTypes checked.prog++f4.resultTypes.toList))=true:=by kernel_rfl
end ZFNarrowFixedPoint
namespace ZNarrowFixedPoint
open Go.RowKit Go.ChangeShapes Go.WideShapes
theorem zK{a b:Bool}(g:a=true)(i:b=true):(a&&b)=true:=by rw[g,i];rfl
set_option maxRecDepth 100000 in
theorem closed:joinedFacts checked.prog 4 f4 Rows.narrowFixedPointSpec Rows.narrowFixedPointRow=true:=by
 unfold joinedFacts;exact zK (zK (zK (zK (zK (zK (zK (zK (zK (zK (zK (zK (zK (zK (zK (zK (zK (zK (zK (zK (zK (zK (zK (zK (zK (zK (zK (zK (zK (zK (zK ZFNarrowFixedPoint.c0 ZFNarrowFixedPoint.c1) ZFNarrowFixedPoint.c2) ZFNarrowFixedPoint.c3) ZFNarrowFixedPoint.c4) ZFNarrowFixedPoint.c5) ZFNarrowFixedPoint.c6) ZFNarrowFixedPoint.c7) ZFNarrowFixedPoint.c8) ZFNarrowFixedPoint.c9) ZFNarrowFixedPoint.c10) ZFNarrowFixedPoint.c11) ZFNarrowFixedPoint.c12) ZFNarrowFixedPoint.c13) ZFNarrowFixedPoint.c14) ZFNarrowFixedPoint.c15) ZFNarrowFixedPoint.c16) ZFNarrowFixedPoint.c17) ZFNarrowFixedPoint.c18) ZFNarrowFixedPoint.c19) ZFNarrowFixedPoint.c20) ZFNarrowFixedPoint.c21) ZFNarrowFixedPoint.c22) ZFNarrowFixedPoint.c23) ZFNarrowFixedPoint.c24) ZFNarrowFixedPoint.c25) ZFNarrowFixedPoint.c26) ZFNarrowFixedPoint.c27) ZFNarrowFixedPoint.c28) ZFNarrowFixedPoint.c29) ZFNarrowFixedPoint.c30) ZFNarrowFixedPoint.c31
theorem said:Rows.NarrowFixedPointSaid:=
 OpenClaim.holds_of_wide 4 f4 rfl rfl rfl rfl rfl rfl rfl ⟨rfl,rfl,rfl,rfl,rfl⟩ rfl rfl rfl rfl rfl zKr func4 closed
  (of_decide_eq_true zKr) (by unfold Func.isWrapper;first | (rw[if_pos (by decide +kernel)];kernel_rfl) | (rw[if_neg (by decide +kernel)];exact⟨rfl,rfl⟩))
  (fun os g H i _=>lifted os g H i)
end ZNarrowFixedPoint
namespace ZNarrowFixedPoint
open Go.RowKit Go.ChangeShapes Go.WideShapes
theorem holds:Rows.NarrowFixedPointCardSaid:=
  Claim7.holds_tied_plain_at .later [] [.data, .data, .data] true (true, "e74759a34abab90f5338648c23fc83ddca6a057db2994f63fc7879947551c7ba") true
    said (fun _ h=>by cases h) (by as_aux_lemma=>kernel_rfl) (fun _ h=>by cases h) narrowFixedPoint_row_tie rfl ⟨rfl,rfl⟩ (by as_aux_lemma=>kernel_rfl) rfl
    (fun f fn hf i=>by
      obtain rfl : f = 4 := Option.some.inj ((show qb.funcNamed "armature/armaturelaw10.NarrowFixedPoint" = some 4 by kernel_rfl).symm.trans hf) |>.symm
      obtain rfl:fn=f4:=(Option.some.inj (func4.symm.trans i)).symm;exact⟨zKr,fun j t l=>by
        have o:f4.params=[27,30,31,34].toArray:=zKr;rw[o]at l;have p:t∈[27,30,31,34]:=by simpa using Array.mem_of_getElem? l
        have g:([27,30,31,34].all fun u=>!qb.wantsStandIn u)=true:=zKr;exact(show qb.wantsStandIn t=false by simpa using List.all_eq_true.1 g t p)⟩)
    (by as_aux_lemma=>kernel_rfl)
end ZNarrowFixedPoint
end Go.Proofs.YtlnbdknjkmmgbaaGreatDoor
