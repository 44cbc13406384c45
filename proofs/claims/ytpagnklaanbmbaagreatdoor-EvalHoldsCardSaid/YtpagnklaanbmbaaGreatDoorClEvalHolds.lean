/-
  Proved: the tied card of armaturelaw08.EvalHolds: for every specification, model and trees f, g, the law returns true and leaves its arguments as they were. Conditions: the card's own (the tables of internal/strconv and math/bits are as the program's text lays them; loops end).
-/
import Derived.Test.YtpagnklaanbmbaaGreatDoorRows
import Derived.Test.YtpagnklaanbmbaaGreatDoorTie
import Derived.Test.YtpagnklaanbmbaaGreatDoorCards
import Derived.SevenTiedAt
import Derived.Test.YtpagnklaanbmbaaGreatDoorMh
set_option linter.unusedVariables false
set_option linter.unusedSimpArgs false
set_option maxRecDepth 100000
open Go renaming TypeId->j2,Value->uk
open Go.Proofs.Tryz renaming prog->qb
open List renaming append_nil->zV
namespace Go.Proofs.YtpagnklaanbmbaaGreatDoor
open Go Go.Ev Go.Proofs Tryz
namespace ZEvalHolds
open Go.EvW DL P1 Y1 YF E3 Go.RowKit Go.ChangeShapes Go.WideShapes
theorem law(g:TS)(i:Md)(j:Nd)(l:Nd)(o:DT.okTA g)(p:True)(r:True)(t:True):qd qb 3 [eTS g,eMd i,eNd j,eNd l] (aB true):=
 W50.qoV g (fun x hx=>Nat.le_trans (o.so x hx) (Nat.le_of_ble_eq_true rfl)) i j l
set_option maxRecDepth 100000 in
theorem lifted(os:Os)(g:os.Started)(H:Type)(enc:j2×uk->H) :
  ReturnsInHanded {} checked os 3 .any (fun w args=>(Rows.evalHoldsSpec.pre enc qb f3 [] false w args/\laidMetH qb tabL w)/\sizedMet enc qb f3 (OpenSpec.ofChange Rows.evalHoldsSpec) false w args) (Rows.evalHoldsSpec.post enc qb f3 false true false false):=by
 refine returnsInHanded_of_change_and (C:=checked) (X:=fun w _=>laidMetH qb tabL w) (fun _ _ _ I h=>h.of_heap I) own g zKr func3
  (ChangeSpec.witness_shaped (enc:=enc) (C:=checked) (os:=os) (X:=fun w _=>laidMetH qb tabL w) false (World.doorLaid qb 4000 os) #[.agg #[.slice none 0 0,.slice none 0 0,.slice none 0 0,.slice none 0 0],.agg #[.slice none 0 0,.int .i64 0,.slice none 0 0,.int .i64 0],.agg #[.int .i64 0,.string ⟨#[]⟩,.int .i64 0,.slice none 0 0,.int .i64 0],.agg #[.int .i64 0,.string ⟨#[]⟩,.int .i64 0,.slice none 0 0,.int .i64 0]] 8 rfl (World.shaped_of_RefB zKr zKr) zKr zKr zKr (qoX os _)) ?_
 intro W base args o J i l t _ r P _;exact qkP (ts:=[27,33,36,36]) (tb:=4) zKr (.cons DT.aSpec (.cons DM.qo4 (.cons DT.mQ (.cons DT.mQ .nil)))) rfl
  (fun H o h=>by match o,h with | [_,_,_,_],T=>rfl) zKr DT.mO laid zKr (fun a h=>law a.1 a.2.1 a.2.2.1 a.2.2.2.1 h.1 h.2.1 h.2.2.1 h.2.2.2.1) H enc W base args o J i l t (by
   obtain⟨p,q,hA,hV,_⟩:=t;obtain⟨rfl,_⟩:=trodVars_none hV;have j:(DataW.weightsEach qb ([27,33,36,36]++[]) (o++[])).all (·<=reachBytes)=true:=r;rw[zV,zV]at j;exact j) (qoW P)
end ZEvalHolds
namespace ZFEvalHolds
open Go.RowKit Go.ChangeShapes Go.WideShapes
theorem c0:(Rows.evalHoldsRow.wf (OpenSpec.ofChange Rows.evalHoldsSpec))=true:=by kernel_rfl
theorem c1:(laidOutB checked.prog)=true:=by kernel_rfl
theorem c2:(mapsRowed checked.prog)=true:=by kernel_rfl
theorem c3:(f3.params.all (checked.prog.readableRec ·))=true:=by kernel_rfl
theorem c4:(namedTie checked.prog Rows.evalHoldsRow.named Rows.evalHoldsSpec.vars)=true:=by kernel_rfl
theorem c5:((Rows.evalHoldsRow.stops == []))=true:=by kernel_rfl
theorem c6:((checked.prog.stops == []))=true:=by kernel_rfl
theorem c7:((Rows.evalHoldsRow.knobs == []))=true:=by kernel_rfl
theorem c8:((checked.prog.stopKnobs == []))=true:=by kernel_rfl
theorem c9:((Rows.evalHoldsRow.inPlace == checked.prog.inPlace 3))=true:=by kernel_rfl
theorem c10:((Rows.evalHoldsRow.unfollowed == checked.prog.unfollowed 3))=true:=by kernel_rfl
theorem c11:((Rows.evalHoldsRow.recurses == checked.prog.recurses 3))=true:=by kernel_rfl
theorem c12:((Rows.evalHoldsRow.named == checked.prog.varsNamed 3))=true:=by kernel_rfl
theorem c13:((Rows.evalHoldsRow.maps == (f3.params.toList++Rows.evalHoldsSpec.plain.varTypes checked.prog).any (checked.prog.mapsRec ·)))=true:=by kernel_rfl
theorem c14:((Rows.evalHoldsRow.ifaces == (f3.params.toList++Rows.evalHoldsSpec.plain.varTypes checked.prog).any (checked.prog.ifacesRec ·)))=true:=by kernel_rfl
theorem c15:((Rows.evalHoldsRow.mapsOut == checked.prog.mapsAmong f3.resultTypes.toList))=true:=by kernel_rfl
theorem c16:((Rows.evalHoldsRow.loops == (f3.params.toList++Rows.evalHoldsSpec.plain.varTypes checked.prog).any (checked.prog.loopsFrom ·)))=true:=by kernel_rfl
theorem c17:((Rows.evalHoldsRow.wideKeys == (f3.params.toList++Rows.evalHoldsSpec.plain.varTypes checked.prog++f3.resultTypes.toList).any (checked.prog.wideKeysFrom ·)))=true:=by kernel_rfl
theorem c18:(Rows.evalHoldsSpec.vars.all (checked.prog.varReadable ·))=true:=by kernel_rfl
theorem c19:(f3.resultTypes.all (fun t=>checked.prog.readableRec t&&decide (t<checked.prog.types.size)))=true:=by kernel_rfl
theorem c20:((Rows.evalHoldsRow.ifacesOut == f3.resultTypes.toList.any (checked.prog.ifacesRec ·)))=true:=by kernel_rfl
theorem c21:((Rows.evalHoldsRow.loopsOut == f3.resultTypes.toList.any (checked.prog.loopsFrom ·)))=true:=by kernel_rfl
theorem c22:((Rows.evalHoldsRow.plainKeys == checked.prog.plainKeys))=true:=by kernel_rfl
theorem c23:(Rows.evalHoldsRow.shortTexts.isNone)=true:=by kernel_rfl
theorem c24:(checked.prog.stopsHeard)=true:=by kernel_rfl
theorem c25:(checked.prog.mayEnter)=true:=by kernel_rfl
theorem c26:((Rows.evalHoldsRow.lifted == checked.prog.liftsFinal))=true:=by kernel_rfl
theorem c27:((checked.prog.make == some Rows.evalHoldsRow.make))=true:=by kernel_rfl
theorem c28:((Rows.evalHoldsRow.kinds == (if Rows.evalHoldsRow.domain.isEmpty then [] else f3.params.toList.map fun t=>match checked.prog.underlying t with|some (.int k)=>some k|_=>none)))=true:=by kernel_rfl
theorem c29:((Rows.evalHoldsRow.pinned == Rows.evalHoldsRow.pinnedBy))=true:=by kernel_rfl
theorem c30:((Rows.evalHoldsRow.veiled == (f3.params.toList++Rows.evalHoldsSpec.plain.varTypes checked.prog++f3.resultTypes.toList).any (checked.prog.veiledRec ·)))=true:=by kernel_rfl
theorem c31:(Rows.evalHoldsRow.veiledFits checked.prog f3.params.toList (f3.params.toList++Rows.evalHoldsSpec.plain.varTypes checked.prog++f3.resultTypes.toList))=true:=by kernel_rfl
end ZFEvalHolds
namespace ZEvalHolds
open Go.RowKit Go.ChangeShapes Go.WideShapes
theorem zU{a b:Bool}(g:a=true)(i:b=true):(a&&b)=true:=by rw[g,i];rfl
set_option maxRecDepth 100000 in
theorem closed:joinedFacts checked.prog 3 f3 Rows.evalHoldsSpec Rows.evalHoldsRow=true:=by
 unfold joinedFacts;exact zU (zU (zU (zU (zU (zU (zU (zU (zU (zU (zU (zU (zU (zU (zU (zU (zU (zU (zU (zU (zU (zU (zU (zU (zU (zU (zU (zU (zU (zU (zU ZFEvalHolds.c0 ZFEvalHolds.c1) ZFEvalHolds.c2) ZFEvalHolds.c3) ZFEvalHolds.c4) ZFEvalHolds.c5) ZFEvalHolds.c6) ZFEvalHolds.c7) ZFEvalHolds.c8) ZFEvalHolds.c9) ZFEvalHolds.c10) ZFEvalHolds.c11) ZFEvalHolds.c12) ZFEvalHolds.c13) ZFEvalHolds.c14) ZFEvalHolds.c15) ZFEvalHolds.c16) ZFEvalHolds.c17) ZFEvalHolds.c18) ZFEvalHolds.c19) ZFEvalHolds.c20) ZFEvalHolds.c21) ZFEvalHolds.c22) ZFEvalHolds.c23) ZFEvalHolds.c24) ZFEvalHolds.c25) ZFEvalHolds.c26) ZFEvalHolds.c27) ZFEvalHolds.c28) ZFEvalHolds.c29) ZFEvalHolds.c30) ZFEvalHolds.c31
theorem said:Rows.EvalHoldsSaid:=
 OpenClaim.holds_of_wide 3 f3 rfl rfl rfl rfl rfl rfl rfl ⟨rfl,rfl,rfl,rfl,rfl⟩ rfl rfl rfl rfl rfl zKr func3 closed
  (of_decide_eq_true zKr) (by unfold Func.isWrapper;first | (rw[if_pos (by decide +kernel)];kernel_rfl) | (rw[if_neg (by decide +kernel)];exact⟨rfl,rfl⟩))
  (fun os g H i _=>lifted os g H i)
end ZEvalHolds
namespace ZEvalHolds
open Go.RowKit Go.ChangeShapes Go.WideShapes
theorem holds:Rows.EvalHoldsCardSaid:=
  Claim7.holds_tied_plain_at .later [] [.data, .data, .data] true (true, "1a2676f0e17447b42968421c8e856efc95c12b1532f8335980a47d7b590e03a9") true
    said (fun _ h=>by cases h) (by as_aux_lemma=>kernel_rfl) (fun _ h=>by cases h) evalHolds_row_tie rfl ⟨rfl,rfl⟩ (by as_aux_lemma=>kernel_rfl) rfl
    (fun f fn hf i=>by
      obtain rfl : f = 3 := Option.some.inj ((show qb.funcNamed "armature/armaturelaw08.EvalHolds" = some 3 by kernel_rfl).symm.trans hf) |>.symm
      obtain rfl:fn=f3:=(Option.some.inj (func3.symm.trans i)).symm;exact⟨zKr,fun j t l=>by
        have hp:f3.params=[27,33,36,36].toArray:=zKr;rw[hp]at l;have o:t∈[27,33,36,36]:=by simpa using Array.mem_of_getElem? l
        have g:([27,33,36,36].all fun u=>!qb.wantsStandIn u)=true:=zKr;exact(show qb.wantsStandIn t=false by simpa using List.all_eq_true.1 g t o)⟩)
    (by as_aux_lemma=>kernel_rfl)
end ZEvalHolds
end Go.Proofs.YtpagnklaanbmbaaGreatDoor
