/-
  Proved: the tied card of armaturelaw08.EvalTraces: for every specification, model, environment and tree, the law returns true and leaves its arguments as they were. Conditions: the card's own (the tables of internal/strconv and math/bits are as the program's text lays them; loops end).
-/
import Derived.Test.YtkglmpmlfjogkaaGreatDoorRows
import Derived.Test.YtkglmpmlfjogkaaGreatDoorTie
import Derived.Test.YtkglmpmlfjogkaaGreatDoorCards
import Derived.SevenTiedAt
import Derived.Test.YtkglmpmlfjogkaaGreatDoorMh
set_option linter.unusedVariables false
set_option linter.unusedSimpArgs false
set_option maxRecDepth 100000
open Go.Proofs.Tryz renaming prog->qd
open List renaming append_nil->zx
namespace Go.Proofs.YtkglmpmlfjogkaaGreatDoor
open Go Go.Ev Go.Proofs Tryz
namespace ZEvalTraces
open Go.EvW DL P1 Y1 YF E3 Go.RowKit Go.ChangeShapes Go.WideShapes
theorem law(x0:TS)(x1:Md)(x2:List (ByteArray×Int))(x3:Nd)(h0:DT.okTA x0)(h1:True)(h2:x2.length<=140737488351232)(h3:True):qi qd 10 [eTS x0,eMd x1,lPm x2,eNd x3] (aB true):=
 FT.qkI x0 (fun x hx=>Nat.le_trans (h0.so x hx) (Nat.le_of_ble_eq_true rfl)) x1 x2 x3
set_option maxRecDepth 100000 in
theorem lifted(os:Os)(started:os.Started)(H:Type)(enc:TypeId×Value->H) :
  ReturnsInHanded {} checked os 10 .any (fun w args=>(Rows.evalTracesSpec.pre enc qd f10 [] false w args/\laidMetH qd tabL w)/\sizedMet enc qd f10 (OpenSpec.ofChange Rows.evalTracesSpec) false w args) (Rows.evalTracesSpec.post enc qd f10 false true false false):=by
 refine returnsInHanded_of_change_and (C:=checked) (X:=fun w _=>laidMetH qd tabL w) (fun _ _ _ hh h=>h.of_heap hh) own started (by kernel_rfl) func10
  (ChangeSpec.witness_shaped (enc:=enc) (C:=checked) (os:=os) (X:=fun w _=>laidMetH qd tabL w) false (World.doorLaid qd 4000 os) #[.agg #[.slice none 0 0,.slice none 0 0,.slice none 0 0,.slice none 0 0],.agg #[.slice none 0 0,.int .i64 0,.slice none 0 0,.int .i64 0],.slice none 0 0,.agg #[.int .i64 0,.string ⟨#[]⟩,.int .i64 0,.slice none 0 0,.int .i64 0]] 8 rfl (World.shaped_of_RefB (by kernel_rfl) (by kernel_rfl)) (by kernel_rfl) (by kernel_rfl) (by kernel_rfl) (mc os _)) ?_
 intro W base args ds gs before hval hW _ hwt hL _;exact gz (ts:=[27,33,34,37]) (tb:=4) (by kernel_rfl) (.cons DT.gE (.cons DM.mf (.cons DM.mg (.cons DT.WU .nil)))) rfl
  (fun H ds h=>by match ds,h with | [_,_,_,_],h10=>rfl) (by kernel_rfl) DT.WS laid (by kernel_rfl) (fun a h=>law a.1 a.2.1 a.2.2.1 a.2.2.2.1 h.1 h.2.1 h.2.2.1 h.2.2.2.1) H enc W base args ds gs before hval hW (by
   obtain⟨p,q,hA,hV,_⟩:=hW;obtain⟨rfl,_⟩:=trodVars_none hV;have hwt':(DataW.weightsEach qd ([27,33,34,37]++[]) (ds++[])).all (·<=reachBytes)=true:=hwt;rw[zx,zx]at hwt';exact hwt') (n9 hL)
end ZEvalTraces
namespace ZFEvalTraces
open Go.RowKit Go.ChangeShapes Go.WideShapes
theorem c0:(Rows.evalTracesRow.wf (OpenSpec.ofChange Rows.evalTracesSpec))=true:=by kernel_rfl
theorem c1:(laidOutB checked.prog)=true:=by kernel_rfl
theorem c2:(mapsRowed checked.prog)=true:=by kernel_rfl
theorem c3:(f10.params.all (checked.prog.readableRec ·))=true:=by kernel_rfl
theorem c4:(namedTie checked.prog Rows.evalTracesRow.named Rows.evalTracesSpec.vars)=true:=by kernel_rfl
theorem c5:((Rows.evalTracesRow.stops == []))=true:=by kernel_rfl
theorem c6:((checked.prog.stops == []))=true:=by kernel_rfl
theorem c7:((Rows.evalTracesRow.knobs == []))=true:=by kernel_rfl
theorem c8:((checked.prog.stopKnobs == []))=true:=by kernel_rfl
theorem c9:((Rows.evalTracesRow.inPlace == checked.prog.inPlace 10))=true:=by kernel_rfl
theorem c10:((Rows.evalTracesRow.unfollowed == checked.prog.unfollowed 10))=true:=by kernel_rfl
theorem c11:((Rows.evalTracesRow.recurses == checked.prog.recurses 10))=true:=by kernel_rfl
theorem c12:((Rows.evalTracesRow.named == checked.prog.varsNamed 10))=true:=by kernel_rfl
theorem c13:((Rows.evalTracesRow.maps == (f10.params.toList++Rows.evalTracesSpec.plain.varTypes checked.prog).any (checked.prog.mapsRec ·)))=true:=by kernel_rfl
theorem c14:((Rows.evalTracesRow.ifaces == (f10.params.toList++Rows.evalTracesSpec.plain.varTypes checked.prog).any (checked.prog.ifacesRec ·)))=true:=by kernel_rfl
theorem c15:((Rows.evalTracesRow.mapsOut == checked.prog.mapsAmong f10.resultTypes.toList))=true:=by kernel_rfl
theorem c16:((Rows.evalTracesRow.loops == (f10.params.toList++Rows.evalTracesSpec.plain.varTypes checked.prog).any (checked.prog.loopsFrom ·)))=true:=by kernel_rfl
theorem c17:((Rows.evalTracesRow.wideKeys == (f10.params.toList++Rows.evalTracesSpec.plain.varTypes checked.prog++f10.resultTypes.toList).any (checked.prog.wideKeysFrom ·)))=true:=by kernel_rfl
theorem c18:(Rows.evalTracesSpec.vars.all (checked.prog.varReadable ·))=true:=by kernel_rfl
theorem c19:(f10.resultTypes.all (fun t=>checked.prog.readableRec t&&decide (t<checked.prog.types.size)))=true:=by kernel_rfl
theorem c20:((Rows.evalTracesRow.ifacesOut == f10.resultTypes.toList.any (checked.prog.ifacesRec ·)))=true:=by kernel_rfl
theorem c21:((Rows.evalTracesRow.loopsOut == f10.resultTypes.toList.any (checked.prog.loopsFrom ·)))=true:=by kernel_rfl
theorem c22:((Rows.evalTracesRow.plainKeys == checked.prog.plainKeys))=true:=by kernel_rfl
theorem c23:(Rows.evalTracesRow.shortTexts.isNone)=true:=by kernel_rfl
theorem c24:(checked.prog.stopsHeard)=true:=by kernel_rfl
theorem c25:(checked.prog.mayEnter)=true:=by kernel_rfl
theorem c26:((Rows.evalTracesRow.lifted == checked.prog.liftsFinal))=true:=by kernel_rfl
theorem c27:((checked.prog.make == some Rows.evalTracesRow.make))=true:=by kernel_rfl
theorem c28:((Rows.evalTracesRow.kinds == (if Rows.evalTracesRow.domain.isEmpty then [] else f10.params.toList.map fun t=>match checked.prog.underlying t with|some (.int k)=>some k|_=>none)))=true:=by kernel_rfl
theorem c29:((Rows.evalTracesRow.pinned == Rows.evalTracesRow.pinnedBy))=true:=by kernel_rfl
theorem c30:((Rows.evalTracesRow.veiled == (f10.params.toList++Rows.evalTracesSpec.plain.varTypes checked.prog++f10.resultTypes.toList).any (checked.prog.veiledRec ·)))=true:=by kernel_rfl
theorem c31:(Rows.evalTracesRow.veiledFits checked.prog f10.params.toList (f10.params.toList++Rows.evalTracesSpec.plain.varTypes checked.prog++f10.resultTypes.toList))=true:=by kernel_rfl
end ZFEvalTraces
namespace ZEvalTraces
open Go.RowKit Go.ChangeShapes Go.WideShapes
theorem qR{a b:Bool}(ha:a=true)(hb:b=true):(a&&b)=true:=by rw[ha,hb];rfl
set_option maxRecDepth 100000 in
theorem closed:joinedFacts checked.prog 10 f10 Rows.evalTracesSpec Rows.evalTracesRow=true:=by
 unfold joinedFacts;exact qR (qR (qR (qR (qR (qR (qR (qR (qR (qR (qR (qR (qR (qR (qR (qR (qR (qR (qR (qR (qR (qR (qR (qR (qR (qR (qR (qR (qR (qR (qR ZFEvalTraces.c0 ZFEvalTraces.c1) ZFEvalTraces.c2) ZFEvalTraces.c3) ZFEvalTraces.c4) ZFEvalTraces.c5) ZFEvalTraces.c6) ZFEvalTraces.c7) ZFEvalTraces.c8) ZFEvalTraces.c9) ZFEvalTraces.c10) ZFEvalTraces.c11) ZFEvalTraces.c12) ZFEvalTraces.c13) ZFEvalTraces.c14) ZFEvalTraces.c15) ZFEvalTraces.c16) ZFEvalTraces.c17) ZFEvalTraces.c18) ZFEvalTraces.c19) ZFEvalTraces.c20) ZFEvalTraces.c21) ZFEvalTraces.c22) ZFEvalTraces.c23) ZFEvalTraces.c24) ZFEvalTraces.c25) ZFEvalTraces.c26) ZFEvalTraces.c27) ZFEvalTraces.c28) ZFEvalTraces.c29) ZFEvalTraces.c30) ZFEvalTraces.c31
theorem said:Rows.EvalTracesSaid:=
 OpenClaim.holds_of_wide 10 f10 rfl rfl rfl rfl rfl rfl rfl ⟨rfl,rfl,rfl,rfl,rfl⟩ rfl rfl rfl rfl rfl (by kernel_rfl) func10 closed
  (of_decide_eq_true (by kernel_rfl)) (by unfold Func.isWrapper;first | (rw[if_pos (by decide +kernel)];kernel_rfl) | (rw[if_neg (by decide +kernel)];exact⟨rfl,rfl⟩))
  (fun os started H enc _=>lifted os started H enc)
end ZEvalTraces
namespace ZEvalTraces
open Go.RowKit Go.ChangeShapes Go.WideShapes
theorem holds:Rows.EvalTracesCardSaid:=
  Claim7.holds_tied_plain_at .later [] [.data, .data, .data] true (true, "5fbf5663ab50c5cc799bffbab6649c51b4439a6b44ea6d97a50a7235153630a6") true
    said (fun _ h=>by cases h) (by as_aux_lemma=>kernel_rfl) (fun _ h=>by cases h) evalTraces_row_tie rfl ⟨rfl,rfl⟩ (by as_aux_lemma=>kernel_rfl) rfl
    (fun f fn hf hfn=>by
      obtain rfl : f = 10 := Option.some.inj ((show qd.funcNamed "armature/armaturelaw08.EvalTraces" = some 10 by kernel_rfl).symm.trans hf) |>.symm
      obtain rfl:fn=f10:=(Option.some.inj (func10.symm.trans hfn)).symm;exact⟨by kernel_rfl,fun j t ht=>by
        have hp:f10.params=[27,33,34,37].toArray:=by kernel_rfl
        rw[hp]at ht;have hm:t∈[27,33,34,37]:=by simpa using Array.mem_of_getElem? ht
        have hall:([27,33,34,37].all fun u=>!qd.wantsStandIn u)=true:=by kernel_rfl
        exact(show qd.wantsStandIn t=false by simpa using List.all_eq_true.1 hall t hm)⟩)
    (by as_aux_lemma=>kernel_rfl)
end ZEvalTraces
end Go.Proofs.YtkglmpmlfjogkaaGreatDoor
