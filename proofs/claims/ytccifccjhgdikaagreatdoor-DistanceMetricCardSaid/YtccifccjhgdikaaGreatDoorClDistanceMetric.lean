/-
  Proved: the tied card of armaturelaw29.DistanceMetric: for any models that choices of tuples describe, the distance is 0 exactly if they are equal, does not depend on their order, and satisfies the triangle inequality (the law returns true and leaves its arguments as they were). Conditions: the tables of internal/strconv and math/bits are as the program lays them; loops end.
-/
import Derived.Test.YtccifccjhgdikaaGreatDoorRows
import Derived.Test.YtccifccjhgdikaaGreatDoorTie
import Derived.Test.YtccifccjhgdikaaGreatDoorCards
import Derived.SevenTiedAt
import Derived.Test.YtccifccjhgdikaaGreatDoorMe
set_option linter.unusedVariables false
set_option linter.unusedSimpArgs false
set_option maxRecDepth 100000
open Go.Proofs.Tryz renaming prog->qa
open List renaming append_nil->y5
namespace Go.Proofs.YtccifccjhgdikaaGreatDoor
open Go Go.Ev Go.Proofs Tryz
namespace ZDistanceMetric
open Go.EvW DL Go.RowKit Go.ChangeShapes Go.WideShapes
theorem law(x0:DN.Zy)(x1:List (List Bool))(x2:List (List Bool))(x3:Int×Int)(h0:(DT.okTA x0.1/\(0<=x0.2.2.2.2.2/\x0.2.2.2.2.2<=255)))(h1:True)(h2:True)(h3:((0<=x3.1/\x3.1<=255)/\(0<=x3.2/\x3.2<=255))):qf qa 3 [.agg (DN.cCs x0),GS.lBB x1,GS.lBB x2,.agg [W41.u8 x3.1,W41.u8 x3.2]] (aB true):=
 W41.Ke x0.1 x0.2.1 x0.2.2.1 x0.2.2.2.1 x0.2.2.2.2.1 x1 x2 x0.2.2.2.2.2 x3.1 x3.2 h0.2 h3.1 h3.2
set_option maxRecDepth 100000 in
theorem lifted(os:Os)(started:os.Started)(H:Type)(enc:TypeId×Value->H) :
  ReturnsInHanded {} checked os 3 .any (fun w args=>(Rows.distanceMetricSpec.pre enc qa f3 [] false w args/\laidMetH qa tabL w)/\sizedMet enc qa f3 (OpenSpec.ofChange Rows.distanceMetricSpec) false w args) (Rows.distanceMetricSpec.post enc qa f3 false true false false):=by
 refine returnsInHanded_of_change_and (C:=checked) (X:=fun w _=>laidMetH qa tabL w) (fun _ _ _ hh h=>h.of_heap hh) own started (by kernel_rfl) func3
  (ChangeSpec.witness_shaped (enc:=enc) (C:=checked) (os:=os) (X:=fun w _=>laidMetH qa tabL w) false (World.doorLaid qa 4000 os) #[.agg #[.slice none 0 0,.slice none 0 0,.slice none 0 0,.slice none 0 0,.slice none 0 0,.int .i64 0,.slice none 0 0,.int .i64 0,.string ⟨#[]⟩,.int .i64 0,.slice none 0 0,.int .i64 0,.slice none 0 0,.int .u8 0],.slice none 0 0,.slice none 0 0,.agg #[.int .u8 0,.int .u8 0]] 8 rfl (World.shaped_of_RefB (by kernel_rfl) (by kernel_rfl)) (by kernel_rfl) (by kernel_rfl) (by kernel_rfl) (KE os _)) ?_
 intro W base args ds gs before hval hW _ hwt hL _;exact Kk (ts:=[38,36,36,39]) (tb:=4) (by kernel_rfl) (.cons DN.aCase (.cons DN.aBB (.cons DN.aBB (.cons DN.aTwo .nil)))) rfl
  (fun H ds h=>by match ds,h with | [_,_,_,_],h10=>rfl) (by kernel_rfl) DT.Vw laid (by kernel_rfl) (fun a h=>law a.1 a.2.1 a.2.2.1 a.2.2.2.1 h.1 h.2.1 h.2.2.1 h.2.2.2.1) H enc W base args ds gs before hval hW (by
   obtain⟨p,q,hA,hV,_⟩:=hW;obtain⟨rfl,_⟩:=trodVars_none hV;have hwt':(DataW.weightsEach qa ([38,36,36,39]++[]) (ds++[])).all (·<=reachBytes)=true:=hwt;rw[y5,y5]at hwt';exact hwt') (KD hL)
end ZDistanceMetric
namespace ZFDistanceMetric
open Go.RowKit Go.ChangeShapes Go.WideShapes
theorem c0:(Rows.distanceMetricRow.wf (OpenSpec.ofChange Rows.distanceMetricSpec))=true:=by kernel_rfl
theorem c1:(laidOutB checked.prog)=true:=by kernel_rfl
theorem c2:(mapsRowed checked.prog)=true:=by kernel_rfl
theorem c3:(f3.params.all (checked.prog.readableRec ·))=true:=by kernel_rfl
theorem c4:(namedTie checked.prog Rows.distanceMetricRow.named Rows.distanceMetricSpec.vars)=true:=by kernel_rfl
theorem c5:((Rows.distanceMetricRow.stops == []))=true:=by kernel_rfl
theorem c6:((checked.prog.stops == []))=true:=by kernel_rfl
theorem c7:((Rows.distanceMetricRow.knobs == []))=true:=by kernel_rfl
theorem c8:((checked.prog.stopKnobs == []))=true:=by kernel_rfl
theorem c9:((Rows.distanceMetricRow.inPlace == checked.prog.inPlace 3))=true:=by kernel_rfl
theorem c10:((Rows.distanceMetricRow.unfollowed == checked.prog.unfollowed 3))=true:=by kernel_rfl
theorem c11:((Rows.distanceMetricRow.recurses == checked.prog.recurses 3))=true:=by kernel_rfl
theorem c12:((Rows.distanceMetricRow.named == checked.prog.varsNamed 3))=true:=by kernel_rfl
theorem c13:((Rows.distanceMetricRow.maps == (f3.params.toList++Rows.distanceMetricSpec.plain.varTypes checked.prog).any (checked.prog.mapsRec ·)))=true:=by kernel_rfl
theorem c14:((Rows.distanceMetricRow.ifaces == (f3.params.toList++Rows.distanceMetricSpec.plain.varTypes checked.prog).any (checked.prog.ifacesRec ·)))=true:=by kernel_rfl
theorem c15:((Rows.distanceMetricRow.mapsOut == checked.prog.mapsAmong f3.resultTypes.toList))=true:=by kernel_rfl
theorem c16:((Rows.distanceMetricRow.loops == (f3.params.toList++Rows.distanceMetricSpec.plain.varTypes checked.prog).any (checked.prog.loopsFrom ·)))=true:=by kernel_rfl
theorem c17:((Rows.distanceMetricRow.wideKeys == (f3.params.toList++Rows.distanceMetricSpec.plain.varTypes checked.prog++f3.resultTypes.toList).any (checked.prog.wideKeysFrom ·)))=true:=by kernel_rfl
theorem c18:(Rows.distanceMetricSpec.vars.all (checked.prog.varReadable ·))=true:=by kernel_rfl
theorem c19:(f3.resultTypes.all (fun t=>checked.prog.readableRec t&&decide (t<checked.prog.types.size)))=true:=by kernel_rfl
theorem c20:((Rows.distanceMetricRow.ifacesOut == f3.resultTypes.toList.any (checked.prog.ifacesRec ·)))=true:=by kernel_rfl
theorem c21:((Rows.distanceMetricRow.loopsOut == f3.resultTypes.toList.any (checked.prog.loopsFrom ·)))=true:=by kernel_rfl
theorem c22:((Rows.distanceMetricRow.plainKeys == checked.prog.plainKeys))=true:=by kernel_rfl
theorem c23:(Rows.distanceMetricRow.shortTexts.isNone)=true:=by kernel_rfl
theorem c24:(checked.prog.stopsHeard)=true:=by kernel_rfl
theorem c25:(checked.prog.mayEnter)=true:=by kernel_rfl
theorem c26:((Rows.distanceMetricRow.lifted == checked.prog.liftsFinal))=true:=by kernel_rfl
theorem c27:((checked.prog.make == some Rows.distanceMetricRow.make))=true:=by kernel_rfl
theorem c28:((Rows.distanceMetricRow.kinds == (if Rows.distanceMetricRow.domain.isEmpty then [] else f3.params.toList.map fun t=>match checked.prog.underlying t with|some (.int k)=>some k|_=>none)))=true:=by kernel_rfl
theorem c29:((Rows.distanceMetricRow.pinned == Rows.distanceMetricRow.pinnedBy))=true:=by kernel_rfl
theorem c30:((Rows.distanceMetricRow.veiled == (f3.params.toList++Rows.distanceMetricSpec.plain.varTypes checked.prog++f3.resultTypes.toList).any (checked.prog.veiledRec ·)))=true:=by kernel_rfl
theorem c31:(Rows.distanceMetricRow.veiledFits checked.prog f3.params.toList (f3.params.toList++Rows.distanceMetricSpec.plain.varTypes checked.prog++f3.resultTypes.toList))=true:=by kernel_rfl
end ZFDistanceMetric
namespace ZDistanceMetric
open Go.RowKit Go.ChangeShapes Go.WideShapes
theorem qQ{a b:Bool}(ha:a=true)(hb:b=true):(a&&b)=true:=by rw[ha,hb];rfl
set_option maxRecDepth 100000 in
theorem closed:joinedFacts checked.prog 3 f3 Rows.distanceMetricSpec Rows.distanceMetricRow=true:=by
 unfold joinedFacts;exact qQ (qQ (qQ (qQ (qQ (qQ (qQ (qQ (qQ (qQ (qQ (qQ (qQ (qQ (qQ (qQ (qQ (qQ (qQ (qQ (qQ (qQ (qQ (qQ (qQ (qQ (qQ (qQ (qQ (qQ (qQ ZFDistanceMetric.c0 ZFDistanceMetric.c1) ZFDistanceMetric.c2) ZFDistanceMetric.c3) ZFDistanceMetric.c4) ZFDistanceMetric.c5) ZFDistanceMetric.c6) ZFDistanceMetric.c7) ZFDistanceMetric.c8) ZFDistanceMetric.c9) ZFDistanceMetric.c10) ZFDistanceMetric.c11) ZFDistanceMetric.c12) ZFDistanceMetric.c13) ZFDistanceMetric.c14) ZFDistanceMetric.c15) ZFDistanceMetric.c16) ZFDistanceMetric.c17) ZFDistanceMetric.c18) ZFDistanceMetric.c19) ZFDistanceMetric.c20) ZFDistanceMetric.c21) ZFDistanceMetric.c22) ZFDistanceMetric.c23) ZFDistanceMetric.c24) ZFDistanceMetric.c25) ZFDistanceMetric.c26) ZFDistanceMetric.c27) ZFDistanceMetric.c28) ZFDistanceMetric.c29) ZFDistanceMetric.c30) ZFDistanceMetric.c31
theorem said:Rows.DistanceMetricSaid:=
 OpenClaim.holds_of_wide 3 f3 rfl rfl rfl rfl rfl rfl rfl ⟨rfl,rfl,rfl,rfl,rfl⟩ rfl rfl rfl rfl rfl (by kernel_rfl) func3 closed
  (of_decide_eq_true (by kernel_rfl)) (by unfold Func.isWrapper;first | (rw[if_pos (by decide +kernel)];kernel_rfl) | (rw[if_neg (by decide +kernel)];exact⟨rfl,rfl⟩))
  (fun os started H enc _=>lifted os started H enc)
end ZDistanceMetric
namespace ZDistanceMetric
open Go.RowKit Go.ChangeShapes Go.WideShapes
theorem holds:Rows.DistanceMetricCardSaid:=
  Claim7.holds_tied_plain_at .later [] [.data, .data, .data] true (true, "9471819056fe044445507d1242805fcb44375a7f88161c0b332360a34536d578") true
    said (fun _ h=>by cases h) (by as_aux_lemma=>kernel_rfl) (fun _ h=>by cases h) distanceMetric_row_tie rfl ⟨rfl,rfl⟩ (by as_aux_lemma=>kernel_rfl) rfl
    (fun f fn hf hfn=>by
      obtain rfl : f = 3 := Option.some.inj ((show qa.funcNamed "armature/armaturelaw29.DistanceMetric" = some 3 by kernel_rfl).symm.trans hf) |>.symm
      obtain rfl:fn=f3:=(Option.some.inj (func3.symm.trans hfn)).symm;exact⟨by kernel_rfl,fun j t ht=>by
        have hp:f3.params=[38,36,36,39].toArray:=by kernel_rfl
        rw[hp]at ht;have hm:t∈[38,36,36,39]:=by simpa using Array.mem_of_getElem? ht
        have hall:([38,36,36,39].all fun u=>!qa.wantsStandIn u)=true:=by kernel_rfl
        exact(show qa.wantsStandIn t=false by simpa using List.all_eq_true.1 hall t hm)⟩)
    (by as_aux_lemma=>kernel_rfl)
end ZDistanceMetric
end Go.Proofs.YtccifccjhgdikaaGreatDoor
