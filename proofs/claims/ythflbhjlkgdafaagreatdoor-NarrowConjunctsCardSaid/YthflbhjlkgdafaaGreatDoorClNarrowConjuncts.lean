/-
  Proved: the tied card of armaturelaw10.NarrowConjuncts: for every specification, scope, bounds, formula, choice of free tuples and state, the law returns true and leaves its arguments as they were. Conditions: the card's own (the tables of internal/strconv and math/bits are as the program's text lays them; loops end).
-/
import Derived.Test.YthflbhjlkgdafaaGreatDoorRows
import Derived.Test.YthflbhjlkgdafaaGreatDoorTie
import Derived.Test.YthflbhjlkgdafaaGreatDoorCards
import Derived.SevenTiedAt
import Derived.Test.YthflbhjlkgdafaaGreatDoorMi
set_option linter.unusedVariables false
set_option linter.unusedSimpArgs false
set_option maxRecDepth 100000
open Go renaming TypeId->qe,Value->yc
open Go.Proofs.Tryz renaming prog->qd
open List renaming append_nil->zV
namespace Go.Proofs.YthflbhjlkgdafaaGreatDoor
open Go Go.Ev Go.Proofs Tryz
namespace ZNarrowConjuncts
open Go.EvW DL P1 Y1 YF Go.RowKit Go.ChangeShapes Go.WideShapes
theorem law(i:TS)(j:Sc)(l:List Bd)(o:Nd)(p:List Bool)(g:Int)(t:DT.okTA i)(J:True)(P:True)(R:True)(T:True)(C:(0<=g/\g<=255)):qh qd 4 [eTS i,eSc j,lBd l,eNd o,EO.lB p,.sc (.int .u8 g)] (aB true):=
 W75.qsB i (fun x I=>Nat.le_trans (t.so x I) (Nat.le_of_ble_eq_true rfl)) j l o p g C
set_option maxRecDepth 100000 in
theorem lifted(os:Os)(g:os.Started)(H:Type)(enc:qe×yc->H) :
  ReturnsInHanded {} checked os 4 .any (fun w args=>(Rows.narrowConjunctsSpec.pre enc qd f4 [] false w args/\laidMetH qd tabL w)/\sizedMet enc qd f4 (OpenSpec.ofChange Rows.narrowConjunctsSpec) false w args) (Rows.narrowConjunctsSpec.post enc qd f4 false true false false):=by
 refine returnsInHanded_of_change_and (C:=checked) (X:=fun w _=>laidMetH qd tabL w) (fun _ _ _ J h=>h.of_heap J) own g zKr func4
  (ChangeSpec.witness_shaped (enc:=enc) (C:=checked) (os:=os) (X:=fun w _=>laidMetH qd tabL w) false (World.doorLaid qd 4000 os) #[.agg #[.slice none 0 0,.slice none 0 0,.slice none 0 0,.slice none 0 0],.agg #[.slice none 0 0,.int .i64 0],.slice none 0 0,.agg #[.int .i64 0,.string ⟨#[]⟩,.int .i64 0,.slice none 0 0,.int .i64 0],.slice none 0 0,.int .u8 0] 8 rfl (World.shaped_of_RefB zKr zKr) zKr zKr zKr (qsD os _)) ?_
 intro W base args o P i l I _ t R _;exact qnL (ts:=[27,30,31,34,36,5]) (tb:=4) zKr (.cons DT.aSpec (.cons DP.qsI (.cons HX.qsH (.cons DT.aNode (.cons DR.aBl (.cons DT.aU8 .nil)))))) rfl
  (fun H o h=>by match o,h with | [_,_,_,_,_,_],U=>rfl) zKr DT.qcF laid zKr (fun a h=>law a.1 a.2.1 a.2.2.1 a.2.2.2.1 a.2.2.2.2.1 a.2.2.2.2.2.1 h.1 h.2.1 h.2.2.1 h.2.2.2.1 h.2.2.2.2.1 h.2.2.2.2.2.1) H enc W base args o P i l I (by
   obtain⟨p,q,hA,hV,_⟩:=I;obtain⟨rfl,_⟩:=trodVars_none hV;have j:(DataW.weightsEach qd ([27,30,31,34,36,5]++[]) (o++[])).all (·<=reachBytes)=true:=t;rw[zV,zV]at j;exact j) (qsC R)
end ZNarrowConjuncts
namespace ZFNarrowConjuncts
open Go.RowKit Go.ChangeShapes Go.WideShapes
theorem c0:(Rows.narrowConjunctsRow.wf (OpenSpec.ofChange Rows.narrowConjunctsSpec))=true:=by kernel_rfl
theorem c1:(laidOutB checked.prog)=true:=by kernel_rfl
theorem c2:(mapsRowed checked.prog)=true:=by kernel_rfl
theorem c3:(f4.params.all (checked.prog.readableRec ·))=true:=by kernel_rfl
theorem c4:(namedTie checked.prog Rows.narrowConjunctsRow.named Rows.narrowConjunctsSpec.vars)=true:=by kernel_rfl
theorem c5:((Rows.narrowConjunctsRow.stops == []))=true:=by kernel_rfl
theorem c6:((checked.prog.stops == []))=true:=by kernel_rfl
theorem c7:((Rows.narrowConjunctsRow.knobs == []))=true:=by kernel_rfl
theorem c8:((checked.prog.stopKnobs == []))=true:=by kernel_rfl
theorem c9:((Rows.narrowConjunctsRow.inPlace == checked.prog.inPlace 4))=true:=by kernel_rfl
theorem c10:((Rows.narrowConjunctsRow.unfollowed == checked.prog.unfollowed 4))=true:=by kernel_rfl
theorem c11:((Rows.narrowConjunctsRow.recurses == checked.prog.recurses 4))=true:=by kernel_rfl
theorem c12:((Rows.narrowConjunctsRow.named == checked.prog.varsNamed 4))=true:=by kernel_rfl
theorem c13:((Rows.narrowConjunctsRow.maps == (f4.params.toList++Rows.narrowConjunctsSpec.plain.varTypes checked.prog).any (checked.prog.mapsRec ·)))=true:=by kernel_rfl
theorem c14:((Rows.narrowConjunctsRow.ifaces == (f4.params.toList++Rows.narrowConjunctsSpec.plain.varTypes checked.prog).any (checked.prog.ifacesRec ·)))=true:=by kernel_rfl
theorem c15:((Rows.narrowConjunctsRow.mapsOut == checked.prog.mapsAmong f4.resultTypes.toList))=true:=by kernel_rfl
theorem c16:((Rows.narrowConjunctsRow.loops == (f4.params.toList++Rows.narrowConjunctsSpec.plain.varTypes checked.prog).any (checked.prog.loopsFrom ·)))=true:=by kernel_rfl
theorem c17:((Rows.narrowConjunctsRow.wideKeys == (f4.params.toList++Rows.narrowConjunctsSpec.plain.varTypes checked.prog++f4.resultTypes.toList).any (checked.prog.wideKeysFrom ·)))=true:=by kernel_rfl
theorem c18:(Rows.narrowConjunctsSpec.vars.all (checked.prog.varReadable ·))=true:=by kernel_rfl
theorem c19:(f4.resultTypes.all (fun t=>checked.prog.readableRec t&&decide (t<checked.prog.types.size)))=true:=by kernel_rfl
theorem c20:((Rows.narrowConjunctsRow.ifacesOut == f4.resultTypes.toList.any (checked.prog.ifacesRec ·)))=true:=by kernel_rfl
theorem c21:((Rows.narrowConjunctsRow.loopsOut == f4.resultTypes.toList.any (checked.prog.loopsFrom ·)))=true:=by kernel_rfl
theorem c22:((Rows.narrowConjunctsRow.plainKeys == checked.prog.plainKeys))=true:=by kernel_rfl
theorem c23:(Rows.narrowConjunctsRow.shortTexts.isNone)=true:=by kernel_rfl
theorem c24:(checked.prog.stopsHeard)=true:=by kernel_rfl
theorem c25:(checked.prog.mayEnter)=true:=by kernel_rfl
theorem c26:((Rows.narrowConjunctsRow.lifted == checked.prog.liftsFinal))=true:=by kernel_rfl
theorem c27:((checked.prog.make == some Rows.narrowConjunctsRow.make))=true:=by kernel_rfl
theorem c28:((Rows.narrowConjunctsRow.kinds == (if Rows.narrowConjunctsRow.domain.isEmpty then [] else f4.params.toList.map fun t=>match checked.prog.underlying t with|some (.int k)=>some k|_=>none)))=true:=by kernel_rfl
theorem c29:((Rows.narrowConjunctsRow.pinned == Rows.narrowConjunctsRow.pinnedBy))=true:=by kernel_rfl
theorem c30:((Rows.narrowConjunctsRow.veiled == (f4.params.toList++Rows.narrowConjunctsSpec.plain.varTypes checked.prog++f4.resultTypes.toList).any (checked.prog.veiledRec ·)))=true:=by kernel_rfl
theorem c31:(Rows.narrowConjunctsRow.veiledFits checked.prog f4.params.toList (f4.params.toList++Rows.narrowConjunctsSpec.plain.varTypes checked.prog++f4.resultTypes.toList))=true:=by kernel_rfl
end ZFNarrowConjuncts
namespace ZNarrowConjuncts
open Go.RowKit Go.ChangeShapes Go.WideShapes
theorem z6{a b:Bool}(g:a=true)(i:b=true):(a&&b)=true:=by rw[g,i];rfl
set_option maxRecDepth 100000 in
theorem closed:joinedFacts checked.prog 4 f4 Rows.narrowConjunctsSpec Rows.narrowConjunctsRow=true:=by
 unfold joinedFacts;exact z6 (z6 (z6 (z6 (z6 (z6 (z6 (z6 (z6 (z6 (z6 (z6 (z6 (z6 (z6 (z6 (z6 (z6 (z6 (z6 (z6 (z6 (z6 (z6 (z6 (z6 (z6 (z6 (z6 (z6 (z6 ZFNarrowConjuncts.c0 ZFNarrowConjuncts.c1) ZFNarrowConjuncts.c2) ZFNarrowConjuncts.c3) ZFNarrowConjuncts.c4) ZFNarrowConjuncts.c5) ZFNarrowConjuncts.c6) ZFNarrowConjuncts.c7) ZFNarrowConjuncts.c8) ZFNarrowConjuncts.c9) ZFNarrowConjuncts.c10) ZFNarrowConjuncts.c11) ZFNarrowConjuncts.c12) ZFNarrowConjuncts.c13) ZFNarrowConjuncts.c14) ZFNarrowConjuncts.c15) ZFNarrowConjuncts.c16) ZFNarrowConjuncts.c17) ZFNarrowConjuncts.c18) ZFNarrowConjuncts.c19) ZFNarrowConjuncts.c20) ZFNarrowConjuncts.c21) ZFNarrowConjuncts.c22) ZFNarrowConjuncts.c23) ZFNarrowConjuncts.c24) ZFNarrowConjuncts.c25) ZFNarrowConjuncts.c26) ZFNarrowConjuncts.c27) ZFNarrowConjuncts.c28) ZFNarrowConjuncts.c29) ZFNarrowConjuncts.c30) ZFNarrowConjuncts.c31
theorem said:Rows.NarrowConjunctsSaid:=
 OpenClaim.holds_of_wide 4 f4 rfl rfl rfl rfl rfl rfl rfl ⟨rfl,rfl,rfl,rfl,rfl⟩ rfl rfl rfl rfl rfl zKr func4 closed
  (of_decide_eq_true zKr) (by unfold Func.isWrapper;first | (rw[if_pos (by decide +kernel)];kernel_rfl) | (rw[if_neg (by decide +kernel)];exact⟨rfl,rfl⟩))
  (fun os g H i _=>lifted os g H i)
end ZNarrowConjuncts
namespace ZNarrowConjuncts
open Go.RowKit Go.ChangeShapes Go.WideShapes
theorem holds:Rows.NarrowConjunctsCardSaid:=
  Claim7.holds_tied_plain_at .later [] [.data, .data, .data] true (true, "fce7fcd8ab49a882f558782c1a545849715c4f9b90f7a2e0f69fd069adfb51d1") true
    said (fun _ h=>by cases h) (by as_aux_lemma=>kernel_rfl) (fun _ h=>by cases h) narrowConjuncts_row_tie rfl ⟨rfl,rfl⟩ (by as_aux_lemma=>kernel_rfl) rfl
    (fun f fn hf i=>by
      obtain rfl : f = 4 := Option.some.inj ((show qd.funcNamed "armature/armaturelaw10.NarrowConjuncts" = some 4 by kernel_rfl).symm.trans hf) |>.symm
      obtain rfl:fn=f4:=(Option.some.inj (func4.symm.trans i)).symm;exact⟨zKr,fun j t l=>by
        have o:f4.params=[27,30,31,34,36,5].toArray:=zKr;rw[o]at l;have p:t∈[27,30,31,34,36,5]:=by simpa using Array.mem_of_getElem? l
        have g:([27,30,31,34,36,5].all fun u=>!qd.wantsStandIn u)=true:=zKr;exact(show qd.wantsStandIn t=false by simpa using List.all_eq_true.1 g t p)⟩)
    (by as_aux_lemma=>kernel_rfl)
end ZNarrowConjuncts
end Go.Proofs.YthflbhjlkgdafaaGreatDoor
