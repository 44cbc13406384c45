/-
  Proved: the tied card of armaturelaw08.EvalOperators: for every specification, model, state, environment and two trees, the law returns true and leaves its arguments as they were. Conditions: the card's own (the tables of internal/strconv and math/bits are as the program's text lays them; loops end).
-/
import Derived.Test.YtkglmpmlfjogkaaGreatDoorRows
import Derived.Test.YtkglmpmlfjogkaaGreatDoorTie
import Derived.Test.YtkglmpmlfjogkaaGreatDoorCards
import Derived.SevenTiedAt
import Derived.Test.YtkglmpmlfjogkaaGreatDoorMh
set_option linter.unusedVariables false
set_option linter.unusedSimpArgs false
set_option maxRecDepth 100000
open Go.Proofs.Tryz renaming prog->qd
open List renaming append_nil->zx
namespace Go.Proofs.YtkglmpmlfjogkaaGreatDoor
open Go Go.Ev Go.Proofs Tryz
namespace ZEvalOperators
open Go.EvW DL P1 Y1 YF E3 Go.RowKit Go.ChangeShapes Go.WideShapes
theorem law(x0:TS)(x1:Md)(x2:Int)(x3:List (ByteArray×Int))(x4:Nd)(x5:Nd)(h0:DT.okTA x0)(h1:True)(h2:DT.okI x2)(h3:x3.length<=140737488351232)(h4:True)(h5:True):qi qd 5 [eTS x0,eMd x1,aI x2,lPm x3,eNd x4,eNd x5] (aB true):=
 FN.qjR x0 (fun x hx=>Nat.le_trans (h0.so x hx) (Nat.le_of_ble_eq_true rfl)) x1 x2 x3 x4 x5
set_option maxRecDepth 100000 in
theorem lifted(os:Os)(started:os.Started)(H:Type)(enc:TypeId×Value->H) :
  ReturnsInHanded {} checked os 5 .any (fun w args=>(Rows.evalOperatorsSpec.pre enc qd f5 [] false w args/\laidMetH qd tabL w)/\sizedMet enc qd f5 (OpenSpec.ofChange Rows.evalOperatorsSpec) false w args) (Rows.evalOperatorsSpec.post enc qd f5 false true false false):=by
 refine returnsInHanded_of_change_and (C:=checked) (X:=fun w _=>laidMetH qd tabL w) (fun _ _ _ hh h=>h.of_heap hh) own started (by kernel_rfl) func5
  (ChangeSpec.witness_shaped (enc:=enc) (C:=checked) (os:=os) (X:=fun w _=>laidMetH qd tabL w) false (World.doorLaid qd 4000 os) #[.agg #[.slice none 0 0,.slice none 0 0,.slice none 0 0,.slice none 0 0],.agg #[.slice none 0 0,.int .i64 0,.slice none 0 0,.int .i64 0],.int .i64 0,.slice none 0 0,.agg #[.int .i64 0,.string ⟨#[]⟩,.int .i64 0,.slice none 0 0,.int .i64 0],.agg #[.int .i64 0,.string ⟨#[]⟩,.int .i64 0,.slice none 0 0,.int .i64 0]] 8 rfl (World.shaped_of_RefB (by kernel_rfl) (by kernel_rfl)) (by kernel_rfl) (by kernel_rfl) (by kernel_rfl) (mc os _)) ?_
 intro W base args ds gs before hval hW _ hwt hL _;exact gz (ts:=[27,33,3,34,37,37]) (tb:=4) (by kernel_rfl) (.cons DT.gE (.cons DM.mf (.cons DM.aInt (.cons DM.mg (.cons DT.WU (.cons DT.WU .nil)))))) rfl
  (fun H ds h=>by match ds,h with | [_,_,_,_,_,_],h10=>rfl) (by kernel_rfl) DT.WS laid (by kernel_rfl) (fun a h=>law a.1 a.2.1 a.2.2.1 a.2.2.2.1 a.2.2.2.2.1 a.2.2.2.2.2.1 h.1 h.2.1 h.2.2.1 h.2.2.2.1 h.2.2.2.2.1 h.2.2.2.2.2.1) H enc W base args ds gs before hval hW (by
   obtain⟨p,q,hA,hV,_⟩:=hW;obtain⟨rfl,_⟩:=trodVars_none hV;have hwt':(DataW.weightsEach qd ([27,33,3,34,37,37]++[]) (ds++[])).all (·<=reachBytes)=true:=hwt;rw[zx,zx]at hwt';exact hwt') (n9 hL)
end ZEvalOperators
namespace ZFEvalOperators
open Go.RowKit Go.ChangeShapes Go.WideShapes
theorem c0:(Rows.evalOperatorsRow.wf (OpenSpec.ofChange Rows.evalOperatorsSpec))=true:=by kernel_rfl
theorem c1:(laidOutB checked.prog)=true:=by kernel_rfl
theorem c2:(mapsRowed checked.prog)=true:=by kernel_rfl
theorem c3:(f5.params.all (checked.prog.readableRec ·))=true:=by kernel_rfl
theorem c4:(namedTie checked.prog Rows.evalOperatorsRow.named Rows.evalOperatorsSpec.vars)=true:=by kernel_rfl
theorem c5:((Rows.evalOperatorsRow.stops == []))=true:=by kernel_rfl
theorem c6:((checked.prog.stops == []))=true:=by kernel_rfl
theorem c7:((Rows.evalOperatorsRow.knobs == []))=true:=by kernel_rfl
theorem c8:((checked.prog.stopKnobs == []))=true:=by kernel_rfl
theorem c9:((Rows.evalOperatorsRow.inPlace == checked.prog.inPlace 5))=true:=by kernel_rfl
theorem c10:((Rows.evalOperatorsRow.unfollowed == checked.prog.unfollowed 5))=true:=by kernel_rfl
theorem c11:((Rows.evalOperatorsRow.recurses == checked.prog.recurses 5))=true:=by kernel_rfl
theorem c12:((Rows.evalOperatorsRow.named == checked.prog.varsNamed 5))=true:=by kernel_rfl
theorem c13:((Rows.evalOperatorsRow.maps == (f5.params.toList++Rows.evalOperatorsSpec.plain.varTypes checked.prog).any (checked.prog.mapsRec ·)))=true:=by kernel_rfl
theorem c14:((Rows.evalOperatorsRow.ifaces == (f5.params.toList++Rows.evalOperatorsSpec.plain.varTypes checked.prog).any (checked.prog.ifacesRec ·)))=true:=by kernel_rfl
theorem c15:((Rows.evalOperatorsRow.mapsOut == checked.prog.mapsAmong f5.resultTypes.toList))=true:=by kernel_rfl
theorem c16:((Rows.evalOperatorsRow.loops == (f5.params.toList++Rows.evalOperatorsSpec.plain.varTypes checked.prog).any (checked.prog.loopsFrom ·)))=true:=by kernel_rfl
theorem c17:((Rows.evalOperatorsRow.wideKeys == (f5.params.toList++Rows.evalOperatorsSpec.plain.varTypes checked.prog++f5.resultTypes.toList).any (checked.prog.wideKeysFrom ·)))=true:=by kernel_rfl
theorem c18:(Rows.evalOperatorsSpec.vars.all (checked.prog.varReadable ·))=true:=by kernel_rfl
theorem c19:(f5.resultTypes.all (fun t=>checked.prog.readableRec t&&decide (t<checked.prog.types.size)))=true:=by kernel_rfl
theorem c20:((Rows.evalOperatorsRow.ifacesOut == f5.resultTypes.toList.any (checked.prog.ifacesRec ·)))=true:=by kernel_rfl
theorem c21:((Rows.evalOperatorsRow.loopsOut == f5.resultTypes.toList.any (checked.prog.loopsFrom ·)))=true:=by kernel_rfl
theorem c22:((Rows.evalOperatorsRow.plainKeys == checked.prog.plainKeys))=true:=by kernel_rfl
theorem c23:(Rows.evalOperatorsRow.shortTexts.isNone)=true:=by kernel_rfl
theorem c24:(checked.prog.stopsHeard)=true:=by kernel_rfl
theorem c25:(checked.prog.mayEnter)=true:=by kernel_rfl
theorem c26:((Rows.evalOperatorsRow.lifted == checked.prog.liftsFinal))=true:=by kernel_rfl
theorem c27:((checked.prog.make == some Rows.evalOperatorsRow.make))=true:=by kernel_rfl
theorem c28:((Rows.evalOperatorsRow.kinds == (if Rows.evalOperatorsRow.domain.isEmpty then [] else f5.params.toList.map fun t=>match checked.prog.underlying t with|some (.int k)=>some k|_=>none)))=true:=by kernel_rfl
theorem c29:((Rows.evalOperatorsRow.pinned == Rows.evalOperatorsRow.pinnedBy))=true:=by kernel_rfl
theorem c30:((Rows.evalOperatorsRow.veiled == (f5.params.toList++Rows.evalOperatorsSpec.plain.varTypes checked.prog++f5.resultTypes.toList).any (checked.prog.veiledRec ·)))=true:=by kernel_rfl
theorem c31:(Rows.evalOperatorsRow.veiledFits checked.prog f5.params.toList (f5.params.toList++Rows.evalOperatorsSpec.plain.varTypes checked.prog++f5.resultTypes.toList))=true:=by kernel_rfl
end ZFEvalOperators
namespace ZEvalOperators
open Go.RowKit Go.ChangeShapes Go.WideShapes
theorem qR{a b:Bool}(ha:a=true)(hb:b=true):(a&&b)=true:=by rw[ha,hb];rfl
set_option maxRecDepth 100000 in
theorem closed:joinedFacts checked.prog 5 f5 Rows.evalOperatorsSpec Rows.evalOperatorsRow=true:=by
 unfold joinedFacts;exact qR (qR (qR (qR (qR (qR (qR (qR (qR (qR (qR (qR (qR (qR (qR (qR (qR (qR (qR (qR (qR (qR (qR (qR (qR (qR (qR (qR (qR (qR (qR ZFEvalOperators.c0 ZFEvalOperators.c1) ZFEvalOperators.c2) ZFEvalOperators.c3) ZFEvalOperators.c4) ZFEvalOperators.c5) ZFEvalOperators.c6) ZFEvalOperators.c7) ZFEvalOperators.c8) ZFEvalOperators.c9) ZFEvalOperators.c10) ZFEvalOperators.c11) ZFEvalOperators.c12) ZFEvalOperators.c13) ZFEvalOperators.c14) ZFEvalOperators.c15) ZFEvalOperators.c16) ZFEvalOperators.c17) ZFEvalOperators.c18) ZFEvalOperators.c19) ZFEvalOperators.c20) ZFEvalOperators.c21) ZFEvalOperators.c22) ZFEvalOperators.c23) ZFEvalOperators.c24) ZFEvalOperators.c25) ZFEvalOperators.c26) ZFEvalOperators.c27) ZFEvalOperators.c28) ZFEvalOperators.c29) ZFEvalOperators.c30) ZFEvalOperators.c31
theorem said:Rows.EvalOperatorsSaid:=
 OpenClaim.holds_of_wide 5 f5 rfl rfl rfl rfl rfl rfl rfl ⟨rfl,rfl,rfl,rfl,rfl⟩ rfl rfl rfl rfl rfl (by kernel_rfl) func5 closed
  (of_decide_eq_true (by kernel_rfl)) (by unfold Func.isWrapper;first | (rw[if_pos (by decide +kernel)];kernel_rfl) | (rw[if_neg (by decide +kernel)];exact⟨rfl,rfl⟩))
  (fun os started H enc _=>lifted os started H enc)
end ZEvalOperators
namespace ZEvalOperators
open Go.RowKit Go.ChangeShapes Go.WideShapes
theorem holds:Rows.EvalOperatorsCardSaid:=
  Claim7.holds_tied_plain_at .later [] [.data, .data, .data] true (true, "5fbf5663ab50c5cc799bffbab6649c51b4439a6b44ea6d97a50a7235153630a6") true
    said (fun _ h=>by cases h) (by as_aux_lemma=>kernel_rfl) (fun _ h=>by cases h) evalOperators_row_tie rfl ⟨rfl,rfl⟩ (by as_aux_lemma=>kernel_rfl) rfl
    (fun f fn hf hfn=>by
      obtain rfl : f = 5 := Option.some.inj ((show qd.funcNamed "armature/armaturelaw08.EvalOperators" = some 5 by kernel_rfl).symm.trans hf) |>.symm
      obtain rfl:fn=f5:=(Option.some.inj (func5.symm.trans hfn)).symm;exact⟨by kernel_rfl,fun j t ht=>by
        have hp:f5.params=[27,33,3,34,37,37].toArray:=by kernel_rfl
        rw[hp]at ht;have hm:t∈[27,33,3,34,37,37]:=by simpa using Array.mem_of_getElem? ht
        have hall:([27,33,3,34,37,37].all fun u=>!qd.wantsStandIn u)=true:=by kernel_rfl
        exact(show qd.wantsStandIn t=false by simpa using List.all_eq_true.1 hall t hm)⟩)
    (by as_aux_lemma=>kernel_rfl)
end ZEvalOperators
end Go.Proofs.YtkglmpmlfjogkaaGreatDoor
