/-
  Proved: the tied card of armaturelaw10.NarrowMonotone: for every specification, scope, bounds and formula, the law returns true and leaves its arguments as they were. Conditions: the card's own (the tables of internal/strconv and math/bits are as the program's text lays them; loops end).
-/
import Derived.Test.YtlnbdknjkmmgbaaGreatDoorRows
import Derived.Test.YtlnbdknjkmmgbaaGreatDoorTie
import Derived.Test.YtlnbdknjkmmgbaaGreatDoorCards
import Derived.SevenTiedAt
import Derived.Test.YtlnbdknjkmmgbaaGreatDoorMi
set_option linter.unusedVariables false
set_option linter.unusedSimpArgs false
set_option maxRecDepth 100000
open Go renaming TypeId->qd,Value->qq
open Go.Proofs.Tryz renaming prog->qc
open List renaming append_nil->yg
namespace Go.Proofs.YtlnbdknjkmmgbaaGreatDoor
open Go Go.Ev Go.Proofs Tryz
namespace ZNarrowMonotone
open Go.EvW DL P1 Y1 YF Go.RowKit Go.ChangeShapes Go.WideShapes
theorem law(g:TS)(i:Sc)(j:List Bd)(l:Nd)(o:Nd)(p:List Bool)(t:List Bool)(C:DT.okTA g)(J:True)(P:True)(R:True)(T:True)(U:True)(h6:True):qg qc 5 [eTS g,eSc i,lBd j,eNd l,eNd o,EO.lB p,EO.lB t] (aB true):=
 W72.qs1 g (fun x I=>Nat.le_trans (C.so x I) (Nat.le_of_ble_eq_true rfl)) i j l o p t
set_option maxRecDepth 100000 in
theorem lifted(os:Os)(g:os.Started)(H:Type)(enc:qd×qq->H) :
  ReturnsInHanded {} checked os 5 .any (fun w args=>(Rows.narrowMonotoneSpec.pre enc qc f5 [] false w args/\laidMetH qc tabL w)/\sizedMet enc qc f5 (OpenSpec.ofChange Rows.narrowMonotoneSpec) false w args) (Rows.narrowMonotoneSpec.post enc qc f5 false true false false):=by
 refine returnsInHanded_of_change_and (C:=checked) (X:=fun w _=>laidMetH qc tabL w) (fun _ _ _ J h=>h.of_heap J) own g zKr func5
  (ChangeSpec.witness_shaped (enc:=enc) (C:=checked) (os:=os) (X:=fun w _=>laidMetH qc tabL w) false (World.doorLaid qc 4000 os) #[.agg #[.slice none 0 0,.slice none 0 0,.slice none 0 0,.slice none 0 0],.agg #[.slice none 0 0,.int .i64 0],.slice none 0 0,.agg #[.int .i64 0,.string ⟨#[]⟩,.int .i64 0,.slice none 0 0,.int .i64 0],.agg #[.int .i64 0,.string ⟨#[]⟩,.int .i64 0,.slice none 0 0,.int .i64 0],.slice none 0 0,.slice none 0 0] 8 rfl (World.shaped_of_RefB zKr zKr) zKr zKr zKr (qs3 os _)) ?_
 intro W base args o P i l I _ t R _;exact qnP (ts:=[27,30,31,34,34,55,55]) (tb:=4) zKr (.cons DT.aSpec (.cons DP.qs8 (.cons HX.qs7 (.cons DT.aNode (.cons DT.aNode (.cons DR.aBl (.cons DR.aBl .nil))))))) rfl
  (fun H o h=>by match o,h with | [_,_,_,_,_,_,_],U=>rfl) zKr DT.qcQ laid zKr (fun a h=>law a.1 a.2.1 a.2.2.1 a.2.2.2.1 a.2.2.2.2.1 a.2.2.2.2.2.1 a.2.2.2.2.2.2.1 h.1 h.2.1 h.2.2.1 h.2.2.2.1 h.2.2.2.2.1 h.2.2.2.2.2.1 h.2.2.2.2.2.2.1) H enc W base args o P i l I (by
   obtain⟨p,q,hA,hV,_⟩:=I;obtain⟨rfl,_⟩:=trodVars_none hV;have j:(DataW.weightsEach qc ([27,30,31,34,34,55,55]++[]) (o++[])).all (·<=reachBytes)=true:=t;rw[yg,yg]at j;exact j) (qs2 R)
end ZNarrowMonotone
namespace ZFNarrowMonotone
open Go.RowKit Go.ChangeShapes Go.WideShapes
theorem c0:(Rows.narrowMonotoneRow.wf (OpenSpec.ofChange Rows.narrowMonotoneSpec))=true:=by kernel_rfl
theorem c1:(laidOutB checked.prog)=true:=by kernel_rfl
theorem c2:(mapsRowed checked.prog)=true:=by kernel_rfl
theorem c3:(f5.params.all (checked.prog.readableRec ·))=true:=by kernel_rfl
theorem c4:(namedTie checked.prog Rows.narrowMonotoneRow.named Rows.narrowMonotoneSpec.vars)=true:=by kernel_rfl
theorem c5:((Rows.narrowMonotoneRow.stops == []))=true:=by kernel_rfl
theorem c6:((checked.prog.stops == []))=true:=by kernel_rfl
theorem c7:((Rows.narrowMonotoneRow.knobs == []))=true:=by kernel_rfl
theorem c8:((checked.prog.stopKnobs == []))=true:=by kernel_rfl
theorem c9:((Rows.narrowMonotoneRow.inPlace == checked.prog.inPlace 5))=true:=by kernel_rfl
theorem c10:((Rows.narrowMonotoneRow.unfollowed == checked.prog.unfollowed 5))=true:=by kernel_rfl
theorem c11:((Rows.narrowMonotoneRow.recurses == checked.prog.recurses 5))=true:=by kernel_rfl
theorem c12:((Rows.narrowMonotoneRow.named == checked.prog.varsNamed 5))=true:=by kernel_rfl
theorem c13:((Rows.narrowMonotoneRow.maps == (f5.params.toList++Rows.narrowMonotoneSpec.plain.varTypes checked.prog).any (checked.prog.mapsRec ·)))=true:=by kernel_rfl
theorem c14:((Rows.narrowMonotoneRow.ifaces == (f5.params.toList++Rows.narrowMonotoneSpec.plain.varTypes checked.prog).any (checked.prog.ifacesRec ·)))=true:=by kernel_rfl
theorem c15:((Rows.narrowMonotoneRow.mapsOut == checked.prog.mapsAmong f5.resultTypes.toList))=true:=by kernel_rfl
theorem c16:((Rows.narrowMonotoneRow.loops == (f5.params.toList++Rows.narrowMonotoneSpec.plain.varTypes checked.prog).any (checked.prog.loopsFrom ·)))=true:=by kernel_rfl
theorem c17:((Rows.narrowMonotoneRow.wideKeys == (f5.params.toList++Rows.narrowMonotoneSpec.plain.varTypes checked.prog++f5.resultTypes.toList).any (checked.prog.wideKeysFrom ·)))=true:=by kernel_rfl
theorem c18:(Rows.narrowMonotoneSpec.vars.all (checked.prog.varReadable ·))=true:=by kernel_rfl
theorem c19:(f5.resultTypes.all (fun t=>checked.prog.readableRec t&&decide (t<checked.prog.types.size)))=true:=by kernel_rfl
theorem c20:((Rows.narrowMonotoneRow.ifacesOut == f5.resultTypes.toList.any (checked.prog.ifacesRec ·)))=true:=by kernel_rfl
theorem c21:((Rows.narrowMonotoneRow.loopsOut == f5.resultTypes.toList.any (checked.prog.loopsFrom ·)))=true:=by kernel_rfl
theorem c22:((Rows.narrowMonotoneRow.plainKeys == checked.prog.plainKeys))=true:=by kernel_rfl
theorem c23:(Rows.narrowMonotoneRow.shortTexts.isNone)=true:=by kernel_rfl
theorem c24:(checked.prog.stopsHeard)=true:=by kernel_rfl
theorem c25:(checked.prog.mayEnter)=true:=by kernel_rfl
theorem c26:((Rows.narrowMonotoneRow.lifted == checked.prog.liftsFinal))=true:=by kernel_rfl
theorem c27:((checked.prog.make == some Rows.narrowMonotoneRow.make))=true:=by kernel_rfl
theorem c28:((Rows.narrowMonotoneRow.kinds == (if Rows.narrowMonotoneRow.domain.isEmpty then [] else f5.params.toList.map fun t=>match checked.prog.underlying t with|some (.int k)=>some k|_=>none)))=true:=by kernel_rfl
theorem c29:((Rows.narrowMonotoneRow.pinned == Rows.narrowMonotoneRow.pinnedBy))=true:=by kernel_rfl
theorem c30:((Rows.narrowMonotoneRow.veiled == (f5.params.toList++Rows.narrowMonotoneSpec.plain.varTypes checked.prog++f5.resultTypes.toList).any (checked.prog.veiledRec ·)))=true:=by kernel_rfl
theorem c31:(Rows.narrowMonotoneRow.veiledFits checked.prog f5.params.toList (f5.params.toList++Rows.narrowMonotoneSpec.plain.varTypes checked.prog++f5.resultTypes.toList))=true:=by kernel_rfl
end ZFNarrowMonotone
namespace ZNarrowMonotone
open Go.RowKit Go.ChangeShapes Go.WideShapes
theorem yb{a b:Bool}(g:a=true)(i:b=true):(a&&b)=true:=by rw[g,i];rfl
set_option maxRecDepth 100000 in
theorem closed:joinedFacts checked.prog 5 f5 Rows.narrowMonotoneSpec Rows.narrowMonotoneRow=true:=by
 unfold joinedFacts;exact yb (yb (yb (yb (yb (yb (yb (yb (yb (yb (yb (yb (yb (yb (yb (yb (yb (yb (yb (yb (yb (yb (yb (yb (yb (yb (yb (yb (yb (yb (yb ZFNarrowMonotone.c0 ZFNarrowMonotone.c1) ZFNarrowMonotone.c2) ZFNarrowMonotone.c3) ZFNarrowMonotone.c4) ZFNarrowMonotone.c5) ZFNarrowMonotone.c6) ZFNarrowMonotone.c7) ZFNarrowMonotone.c8) ZFNarrowMonotone.c9) ZFNarrowMonotone.c10) ZFNarrowMonotone.c11) ZFNarrowMonotone.c12) ZFNarrowMonotone.c13) ZFNarrowMonotone.c14) ZFNarrowMonotone.c15) ZFNarrowMonotone.c16) ZFNarrowMonotone.c17) ZFNarrowMonotone.c18) ZFNarrowMonotone.c19) ZFNarrowMonotone.c20) ZFNarrowMonotone.c21) ZFNarrowMonotone.c22) ZFNarrowMonotone.c23) ZFNarrowMonotone.c24) ZFNarrowMonotone.c25) ZFNarrowMonotone.c26) ZFNarrowMonotone.c27) ZFNarrowMonotone.c28) ZFNarrowMonotone.c29) ZFNarrowMonotone.c30) ZFNarrowMonotone.c31
theorem said:Rows.NarrowMonotoneSaid:=
 OpenClaim.holds_of_wide 5 f5 rfl rfl rfl rfl rfl rfl rfl ⟨rfl,rfl,rfl,rfl,rfl⟩ rfl rfl rfl rfl rfl zKr func5 closed
  (of_decide_eq_true zKr) (by unfold Func.isWrapper;first | (rw[if_pos (by decide +kernel)];kernel_rfl) | (rw[if_neg (by decide +kernel)];exact⟨rfl,rfl⟩))
  (fun os g H i _=>lifted os g H i)
end ZNarrowMonotone
namespace ZNarrowMonotone
open Go.RowKit Go.ChangeShapes Go.WideShapes
theorem holds:Rows.NarrowMonotoneCardSaid:=
  Claim7.holds_tied_plain_at .later [] [.data, .data, .data] true (true, "e74759a34abab90f5338648c23fc83ddca6a057db2994f63fc7879947551c7ba") true
    said (fun _ h=>by cases h) (by as_aux_lemma=>kernel_rfl) (fun _ h=>by cases h) narrowMonotone_row_tie rfl ⟨rfl,rfl⟩ (by as_aux_lemma=>kernel_rfl) rfl
    (fun f fn hf i=>by
      obtain rfl : f = 5 := Option.some.inj ((show qc.funcNamed "armature/armaturelaw10.NarrowMonotone" = some 5 by kernel_rfl).symm.trans hf) |>.symm
      obtain rfl:fn=f5:=(Option.some.inj (func5.symm.trans i)).symm;exact⟨zKr,fun j t l=>by
        have o:f5.params=[27,30,31,34,34,55,55].toArray:=zKr;rw[o]at l;have p:t∈[27,30,31,34,34,55,55]:=by simpa using Array.mem_of_getElem? l
        have g:([27,30,31,34,34,55,55].all fun u=>!qc.wantsStandIn u)=true:=zKr;exact(show qc.wantsStandIn t=false by simpa using List.all_eq_true.1 g t p)⟩)
    (by as_aux_lemma=>kernel_rfl)
end ZNarrowMonotone
end Go.Proofs.YtlnbdknjkmmgbaaGreatDoor
