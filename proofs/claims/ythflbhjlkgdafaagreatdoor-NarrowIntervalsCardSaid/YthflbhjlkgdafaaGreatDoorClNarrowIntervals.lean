/-
  Proved: the tied card of armaturelaw10.NarrowIntervals: for every specification, scope, bounds, expression, list of parameters, choice of free tuples, state and atom, the law returns true and leaves its arguments as they were. Conditions: the card's own (the tables of internal/strconv and math/bits are as the program's text lays them; loops end).
-/
import Derived.Test.YthflbhjlkgdafaaGreatDoorRows
import Derived.Test.YthflbhjlkgdafaaGreatDoorTie
import Derived.Test.YthflbhjlkgdafaaGreatDoorCards
import Derived.SevenTiedAt
import Derived.Test.YthflbhjlkgdafaaGreatDoorMi
set_option linter.unusedVariables false
set_option linter.unusedSimpArgs false
set_option maxRecDepth 100000
open Go renaming TypeId->qd,Value->qf
open Go.Proofs.Tryz renaming prog->qg
open List renaming append_nil->ye
namespace Go.Proofs.YthflbhjlkgdafaaGreatDoor
open Go Go.Ev Go.Proofs Tryz
namespace ZNarrowIntervals
open Go.EvW DL P1 Y1 YF Go.RowKit Go.ChangeShapes Go.WideShapes
theorem law(j:TS)(o:Sc)(p:List Bd)(t:Nd)(l:List (dC×Int))(C:List Bool)(g:Int)(i:Int)(I:DT.okTA j)(T:True)(U:True)(h3:True)(h4:l.length<=140737488351232)(h5:True)(J:(0<=g/\g<=255))(P:(0<=i/\i<=255)):qj qg 3 [eTS j,eSc o,lBd p,eNd t,lPm l,EO.lB C,.sc (.int .u8 g),.sc (.int .u8 i)] (aB true):=
 W74.qtJ j (fun x R=>Nat.le_trans (I.so x R) (Nat.le_of_ble_eq_true rfl)) o p t l C g J i P
set_option maxRecDepth 100000 in
theorem lifted(os:Os)(g:os.Started)(H:Type)(enc:qd×qf->H) :
  ReturnsInHanded {} checked os 3 .any (fun w args=>(Rows.narrowIntervalsSpec.pre enc qg f3 [] false w args/\laidMetH qg tabL w)/\sizedMet enc qg f3 (OpenSpec.ofChange Rows.narrowIntervalsSpec) false w args) (Rows.narrowIntervalsSpec.post enc qg f3 false true false false):=by
 refine returnsInHanded_of_change_and (C:=checked) (X:=fun w _=>laidMetH qg tabL w) (fun _ _ _ J h=>h.of_heap J) own g zKr func3
  (ChangeSpec.witness_shaped (enc:=enc) (C:=checked) (os:=os) (X:=fun w _=>laidMetH qg tabL w) false (World.doorLaid qg 4000 os) #[.agg #[.slice none 0 0,.slice none 0 0,.slice none 0 0,.slice none 0 0],.agg #[.slice none 0 0,.int .i64 0],.slice none 0 0,.agg #[.int .i64 0,.string ⟨#[]⟩,.int .i64 0,.slice none 0 0,.int .i64 0],.slice none 0 0,.slice none 0 0,.int .u8 0,.int .u8 0] 8 rfl (World.shaped_of_RefB zKr zKr) zKr zKr zKr (qtL os _)) ?_
 intro W base args o P i l I _ t R _;exact qoR (ts:=[27,30,31,34,35,36,5,5]) (tb:=4) zKr (.cons DT.aSpec (.cons DP.qtQ (.cons HX.qtP (.cons DT.aNode (.cons DT.qo7 (.cons DR.aBl (.cons DT.aU8 (.cons DT.aU8 .nil)))))))) rfl
  (fun H o h=>by match o,h with | [_,_,_,_,_,_,_,_],U=>rfl) zKr DT.qc3 laid zKr (fun a h=>law a.1 a.2.1 a.2.2.1 a.2.2.2.1 a.2.2.2.2.1 a.2.2.2.2.2.1 a.2.2.2.2.2.2.1 a.2.2.2.2.2.2.2.1 h.1 h.2.1 h.2.2.1 h.2.2.2.1 h.2.2.2.2.1 h.2.2.2.2.2.1 h.2.2.2.2.2.2.1 h.2.2.2.2.2.2.2.1) H enc W base args o P i l I (by
   obtain⟨p,q,hA,hV,_⟩:=I;obtain⟨rfl,_⟩:=trodVars_none hV;have j:(DataW.weightsEach qg ([27,30,31,34,35,36,5,5]++[]) (o++[])).all (·<=reachBytes)=true:=t;rw[ye,ye]at j;exact j) (qtK R)
end ZNarrowIntervals
namespace ZFNarrowIntervals
open Go.RowKit Go.ChangeShapes Go.WideShapes
theorem c0:(Rows.narrowIntervalsRow.wf (OpenSpec.ofChange Rows.narrowIntervalsSpec))=true:=by kernel_rfl
theorem c1:(laidOutB checked.prog)=true:=by kernel_rfl
theorem c2:(mapsRowed checked.prog)=true:=by kernel_rfl
theorem c3:(f3.params.all (checked.prog.readableRec ·))=true:=by kernel_rfl
theorem c4:(namedTie checked.prog Rows.narrowIntervalsRow.named Rows.narrowIntervalsSpec.vars)=true:=by kernel_rfl
theorem c5:((Rows.narrowIntervalsRow.stops == []))=true:=by kernel_rfl
theorem c6:((checked.prog.stops == []))=true:=by kernel_rfl
theorem c7:((Rows.narrowIntervalsRow.knobs == []))=true:=by kernel_rfl
theorem c8:((checked.prog.stopKnobs == []))=true:=by kernel_rfl
theorem c9:((Rows.narrowIntervalsRow.inPlace == checked.prog.inPlace 3))=true:=by kernel_rfl
theorem c10:((Rows.narrowIntervalsRow.unfollowed == checked.prog.unfollowed 3))=true:=by kernel_rfl
theorem c11:((Rows.narrowIntervalsRow.recurses == checked.prog.recurses 3))=true:=by kernel_rfl
theorem c12:((Rows.narrowIntervalsRow.named == checked.prog.varsNamed 3))=true:=by kernel_rfl
theorem c13:((Rows.narrowIntervalsRow.maps == (f3.params.toList++Rows.narrowIntervalsSpec.plain.varTypes checked.prog).any (checked.prog.mapsRec ·)))=true:=by kernel_rfl
theorem c14:((Rows.narrowIntervalsRow.ifaces == (f3.params.toList++Rows.narrowIntervalsSpec.plain.varTypes checked.prog).any (checked.prog.ifacesRec ·)))=true:=by kernel_rfl
theorem c15:((Rows.narrowIntervalsRow.mapsOut == checked.prog.mapsAmong f3.resultTypes.toList))=true:=by kernel_rfl
theorem c16:((Rows.narrowIntervalsRow.loops == (f3.params.toList++Rows.narrowIntervalsSpec.plain.varTypes checked.prog).any (checked.prog.loopsFrom ·)))=true:=by kernel_rfl
theorem c17:((Rows.narrowIntervalsRow.wideKeys == (f3.params.toList++Rows.narrowIntervalsSpec.plain.varTypes checked.prog++f3.resultTypes.toList).any (checked.prog.wideKeysFrom ·)))=true:=by kernel_rfl
theorem c18:(Rows.narrowIntervalsSpec.vars.all (checked.prog.varReadable ·))=true:=by kernel_rfl
theorem c19:(f3.resultTypes.all (fun t=>checked.prog.readableRec t&&decide (t<checked.prog.types.size)))=true:=by kernel_rfl
theorem c20:((Rows.narrowIntervalsRow.ifacesOut == f3.resultTypes.toList.any (checked.prog.ifacesRec ·)))=true:=by kernel_rfl
theorem c21:((Rows.narrowIntervalsRow.loopsOut == f3.resultTypes.toList.any (checked.prog.loopsFrom ·)))=true:=by kernel_rfl
theorem c22:((Rows.narrowIntervalsRow.plainKeys == checked.prog.plainKeys))=true:=by kernel_rfl
theorem c23:(Rows.narrowIntervalsRow.shortTexts.isNone)=true:=by kernel_rfl
theorem c24:(checked.prog.stopsHeard)=true:=by kernel_rfl
theorem c25:(checked.prog.mayEnter)=true:=by kernel_rfl
theorem c26:((Rows.narrowIntervalsRow.lifted == checked.prog.liftsFinal))=true:=by kernel_rfl
theorem c27:((checked.prog.make == some Rows.narrowIntervalsRow.make))=true:=by kernel_rfl
theorem c28:((Rows.narrowIntervalsRow.kinds == (if Rows.narrowIntervalsRow.domain.isEmpty then [] else f3.params.toList.map fun t=>match checked.prog.underlying t with|some (.int k)=>some k|_=>none)))=true:=by kernel_rfl
theorem c29:((Rows.narrowIntervalsRow.pinned == Rows.narrowIntervalsRow.pinnedBy))=true:=by kernel_rfl
theorem c30:((Rows.narrowIntervalsRow.veiled == (f3.params.toList++Rows.narrowIntervalsSpec.plain.varTypes checked.prog++f3.resultTypes.toList).any (checked.prog.veiledRec ·)))=true:=by kernel_rfl
theorem c31:(Rows.narrowIntervalsRow.veiledFits checked.prog f3.params.toList (f3.params.toList++Rows.narrowIntervalsSpec.plain.varTypes checked.prog++f3.resultTypes.toList))=true:=by kernel_rfl
end ZFNarrowIntervals
namespace ZNarrowIntervals
open Go.RowKit Go.ChangeShapes Go.WideShapes
theorem yk{a b:Bool}(g:a=true)(i:b=true):(a&&b)=true:=by rw[g,i];rfl
set_option maxRecDepth 100000 in
theorem closed:joinedFacts checked.prog 3 f3 Rows.narrowIntervalsSpec Rows.narrowIntervalsRow=true:=by
 unfold joinedFacts;exact yk (yk (yk (yk (yk (yk (yk (yk (yk (yk (yk (yk (yk (yk (yk (yk (yk (yk (yk (yk (yk (yk (yk (yk (yk (yk (yk (yk (yk (yk (yk ZFNarrowIntervals.c0 ZFNarrowIntervals.c1) ZFNarrowIntervals.c2) ZFNarrowIntervals.c3) ZFNarrowIntervals.c4) ZFNarrowIntervals.c5) ZFNarrowIntervals.c6) ZFNarrowIntervals.c7) ZFNarrowIntervals.c8) ZFNarrowIntervals.c9) ZFNarrowIntervals.c10) ZFNarrowIntervals.c11) ZFNarrowIntervals.c12) ZFNarrowIntervals.c13) ZFNarrowIntervals.c14) ZFNarrowIntervals.c15) ZFNarrowIntervals.c16) ZFNarrowIntervals.c17) ZFNarrowIntervals.c18) ZFNarrowIntervals.c19) ZFNarrowIntervals.c20) ZFNarrowIntervals.c21) ZFNarrowIntervals.c22) ZFNarrowIntervals.c23) ZFNarrowIntervals.c24) ZFNarrowIntervals.c25) ZFNarrowIntervals.c26) ZFNarrowIntervals.c27) ZFNarrowIntervals.c28) ZFNarrowIntervals.c29) ZFNarrowIntervals.c30) ZFNarrowIntervals.c31
theorem said:Rows.NarrowIntervalsSaid:=
 OpenClaim.holds_of_wide 3 f3 rfl rfl rfl rfl rfl rfl rfl ⟨rfl,rfl,rfl,rfl,rfl⟩ rfl rfl rfl rfl rfl zKr func3 closed
  (of_decide_eq_true zKr) (by unfold Func.isWrapper;first | (rw[if_pos (by decide +kernel)];kernel_rfl) | (rw[if_neg (by decide +kernel)];exact⟨rfl,rfl⟩))
  (fun os g H i _=>lifted os g H i)
end ZNarrowIntervals
namespace ZNarrowIntervals
open Go.RowKit Go.ChangeShapes Go.WideShapes
theorem holds:Rows.NarrowIntervalsCardSaid:=
  Claim7.holds_tied_plain_at .later [] [.data, .data, .data] true (true, "fce7fcd8ab49a882f558782c1a545849715c4f9b90f7a2e0f69fd069adfb51d1") true
    said (fun _ h=>by cases h) (by as_aux_lemma=>kernel_rfl) (fun _ h=>by cases h) narrowIntervals_row_tie rfl ⟨rfl,rfl⟩ (by as_aux_lemma=>kernel_rfl) rfl
    (fun f fn hf i=>by
      obtain rfl : f = 3 := Option.some.inj ((show qg.funcNamed "armature/armaturelaw10.NarrowIntervals" = some 3 by kernel_rfl).symm.trans hf) |>.symm
      obtain rfl:fn=f3:=(Option.some.inj (func3.symm.trans i)).symm;exact⟨zKr,fun j t l=>by
        have o:f3.params=[27,30,31,34,35,36,5,5].toArray:=zKr;rw[o]at l;have p:t∈[27,30,31,34,35,36,5,5]:=by simpa using Array.mem_of_getElem? l
        have g:([27,30,31,34,35,36,5,5].all fun u=>!qg.wantsStandIn u)=true:=zKr;exact(show qg.wantsStandIn t=false by simpa using List.all_eq_true.1 g t p)⟩)
    (by as_aux_lemma=>kernel_rfl)
end ZNarrowIntervals
end Go.Proofs.YthflbhjlkgdafaaGreatDoor
