/-
  Proved: Rows.DistanceMonotoneSaid.
-/
import Derived.Test.YtipbakanneogpaaGreatDoorRows
import Derived.Test.YtipbakanneogpaaGreatDoorTie
import Derived.Test.YtipbakanneogpaaGreatDoorCards
import Derived.SevenTiedAt
import Derived.Test.YtipbakanneogpaaGreatDoorMi
set_option linter.unusedVariables false
set_option linter.unusedSimpArgs false
set_option maxRecDepth 100000
open Go renaming TypeId->qc,Value->qf
open Go.Proofs.Tryz renaming prog->qe
open List renaming append_nil->zO
namespace Go.Proofs.YtipbakanneogpaaGreatDoor
open Go Go.Ev Go.Proofs Tryz
namespace ZDistanceMonotone
open Go.EvW DL Y1 Go.RowKit Go.ChangeShapes Go.WideShapes
theorem law(g:DN.WS)(j:Nd)(i:DO.okCs g)(o:True):qi qe 5 [.agg (DN.cCs g),eNd j] (aB true):=
 W49.monoW g.1 (fun x l=>Nat.le_trans (i.1.so x l) (Nat.le_of_ble_eq_true rfl)) g.2.1 g.2.2.1 i.2.1 g.2.2.2.1 g.2.2.2.2.1 g.2.2.2.2.2 i.2.2 j
set_option maxRecDepth 100000 in
theorem lifted(os:Os)(g:os.Started)(H:Type)(enc:qc×qf->H) :
  ReturnsInHanded {} checked os 5 .any (fun w args=>(Rows.distanceMonotoneSpec.pre enc qe f5 [] false w args/\laidMetH qe tabL w)/\sizedMet enc qe f5 (OpenSpec.ofChange Rows.distanceMonotoneSpec) false w args) (Rows.distanceMonotoneSpec.post enc qe f5 false true false false):=by
 refine returnsInHanded_of_change_and (C:=checked) (X:=fun w _=>laidMetH qe tabL w) (fun _ _ _ I h=>h.of_heap I) own g zKr func5
  (ChangeSpec.witness_shaped (enc:=enc) (C:=checked) (os:=os) (X:=fun w _=>laidMetH qe tabL w) false (World.doorLaid qe 4000 os) #[.agg #[.slice none 0 0,.slice none 0 0,.slice none 0 0,.slice none 0 0,.slice none 0 0,.int .i64 0,.slice none 0 0,.int .i64 0,.string ⟨#[]⟩,.int .i64 0,.slice none 0 0,.int .i64 0,.slice none 0 0,.int .u8 0],.agg #[.int .i64 0,.string ⟨#[]⟩,.int .i64 0,.slice none 0 0,.int .i64 0]] 8 rfl (World.shaped_of_RefB zKr zKr) zKr zKr zKr (quG os _)) ?_
 intro W base args o J i l t _ r P _;exact qpN (ts:=[38,35]) (tb:=4) zKr (.cons DO.quM (.cons DT.aNode .nil)) rfl
  (fun H o h=>by match o,h with | [_,_],T=>rfl) zKr DT.qc7 laid zKr (fun a h=>law a.1 a.2.1 h.1 h.2.1) H enc W base args o J i l t (by
   obtain⟨p,q,hA,hV,_⟩:=t;obtain⟨rfl,_⟩:=trodVars_none hV;have j:(DataW.weightsEach qe ([38,35]++[]) (o++[])).all (·<=reachBytes)=true:=r;rw[zO,zO]at j;exact j) (quF P)
end ZDistanceMonotone
namespace ZFDistanceMonotone
open Go.RowKit Go.ChangeShapes Go.WideShapes
theorem c0:(Rows.distanceMonotoneRow.wf (OpenSpec.ofChange Rows.distanceMonotoneSpec))=true:=by kernel_rfl
theorem c1:(laidOutB checked.prog)=true:=by kernel_rfl
theorem c2:(mapsRowed checked.prog)=true:=by kernel_rfl
theorem c3:(f5.params.all (checked.prog.readableRec ·))=true:=by kernel_rfl
theorem c4:(namedTie checked.prog Rows.distanceMonotoneRow.named Rows.distanceMonotoneSpec.vars)=true:=by kernel_rfl
theorem c5:((Rows.distanceMonotoneRow.stops == []))=true:=by kernel_rfl
theorem c6:((checked.prog.stops == []))=true:=by kernel_rfl
theorem c7:((Rows.distanceMonotoneRow.knobs == []))=true:=by kernel_rfl
theorem c8:((checked.prog.stopKnobs == []))=true:=by kernel_rfl
theorem c9:((Rows.distanceMonotoneRow.inPlace == checked.prog.inPlace 5))=true:=by kernel_rfl
theorem c10:((Rows.distanceMonotoneRow.unfollowed == checked.prog.unfollowed 5))=true:=by kernel_rfl
theorem c11:((Rows.distanceMonotoneRow.recurses == checked.prog.recurses 5))=true:=by kernel_rfl
theorem c12:((Rows.distanceMonotoneRow.named == checked.prog.varsNamed 5))=true:=by kernel_rfl
theorem c13:((Rows.distanceMonotoneRow.maps == (f5.params.toList++Rows.distanceMonotoneSpec.plain.varTypes checked.prog).any (checked.prog.mapsRec ·)))=true:=by kernel_rfl
theorem c14:((Rows.distanceMonotoneRow.ifaces == (f5.params.toList++Rows.distanceMonotoneSpec.plain.varTypes checked.prog).any (checked.prog.ifacesRec ·)))=true:=by kernel_rfl
theorem c15:((Rows.distanceMonotoneRow.mapsOut == checked.prog.mapsAmong f5.resultTypes.toList))=true:=by kernel_rfl
theorem c16:((Rows.distanceMonotoneRow.loops == (f5.params.toList++Rows.distanceMonotoneSpec.plain.varTypes checked.prog).any (checked.prog.loopsFrom ·)))=true:=by kernel_rfl
theorem c17:((Rows.distanceMonotoneRow.wideKeys == (f5.params.toList++Rows.distanceMonotoneSpec.plain.varTypes checked.prog++f5.resultTypes.toList).any (checked.prog.wideKeysFrom ·)))=true:=by kernel_rfl
theorem c18:(Rows.distanceMonotoneSpec.vars.all (checked.prog.varReadable ·))=true:=by kernel_rfl
theorem c19:(f5.resultTypes.all (fun t=>checked.prog.readableRec t&&decide (t<checked.prog.types.size)))=true:=by kernel_rfl
theorem c20:((Rows.distanceMonotoneRow.ifacesOut == f5.resultTypes.toList.any (checked.prog.ifacesRec ·)))=true:=by kernel_rfl
theorem c21:((Rows.distanceMonotoneRow.loopsOut == f5.resultTypes.toList.any (checked.prog.loopsFrom ·)))=true:=by kernel_rfl
theorem c22:((Rows.distanceMonotoneRow.plainKeys == checked.prog.plainKeys))=true:=by kernel_rfl
theorem c23:(Rows.distanceMonotoneRow.shortTexts.isNone)=true:=by kernel_rfl
theorem c24:(checked.prog.stopsHeard)=true:=by kernel_rfl
theorem c25:(checked.prog.mayEnter)=true:=by kernel_rfl
theorem c26:((Rows.distanceMonotoneRow.lifted == checked.prog.liftsFinal))=true:=by kernel_rfl
theorem c27:((checked.prog.make == some Rows.distanceMonotoneRow.make))=true:=by kernel_rfl
theorem c28:((Rows.distanceMonotoneRow.kinds == (if Rows.distanceMonotoneRow.domain.isEmpty then [] else f5.params.toList.map fun t=>match checked.prog.underlying t with|some (.int k)=>some k|_=>none)))=true:=by kernel_rfl
theorem c29:((Rows.distanceMonotoneRow.pinned == Rows.distanceMonotoneRow.pinnedBy))=true:=by kernel_rfl
theorem c30:((Rows.distanceMonotoneRow.veiled == (f5.params.toList++Rows.distanceMonotoneSpec.plain.varTypes checked.prog++f5.resultTypes.toList).any (checked.prog.veiledRec ·)))=true:=by kernel_rfl
theorem c31:(Rows.distanceMonotoneRow.veiledFits checked.prog f5.params.toList (f5.params.toList++Rows.distanceMonotoneSpec.plain.varTypes checked.prog++f5.resultTypes.toList))=true:=by kernel_rfl
end ZFDistanceMonotone
namespace ZDistanceMonotone
open Go.RowKit Go.ChangeShapes Go.WideShapes
theorem yh{a b:Bool}(g:a=true)(i:b=true):(a&&b)=true:=by rw[g,i];rfl
set_option maxRecDepth 100000 in
theorem closed:joinedFacts checked.prog 5 f5 Rows.distanceMonotoneSpec Rows.distanceMonotoneRow=true:=by
 unfold joinedFacts;exact yh (yh (yh (yh (yh (yh (yh (yh (yh (yh (yh (yh (yh (yh (yh (yh (yh (yh (yh (yh (yh (yh (yh (yh (yh (yh (yh (yh (yh (yh (yh ZFDistanceMonotone.c0 ZFDistanceMonotone.c1) ZFDistanceMonotone.c2) ZFDistanceMonotone.c3) ZFDistanceMonotone.c4) ZFDistanceMonotone.c5) ZFDistanceMonotone.c6) ZFDistanceMonotone.c7) ZFDistanceMonotone.c8) ZFDistanceMonotone.c9) ZFDistanceMonotone.c10) ZFDistanceMonotone.c11) ZFDistanceMonotone.c12) ZFDistanceMonotone.c13) ZFDistanceMonotone.c14) ZFDistanceMonotone.c15) ZFDistanceMonotone.c16) ZFDistanceMonotone.c17) ZFDistanceMonotone.c18) ZFDistanceMonotone.c19) ZFDistanceMonotone.c20) ZFDistanceMonotone.c21) ZFDistanceMonotone.c22) ZFDistanceMonotone.c23) ZFDistanceMonotone.c24) ZFDistanceMonotone.c25) ZFDistanceMonotone.c26) ZFDistanceMonotone.c27) ZFDistanceMonotone.c28) ZFDistanceMonotone.c29) ZFDistanceMonotone.c30) ZFDistanceMonotone.c31
theorem said:Rows.DistanceMonotoneSaid:=
 OpenClaim.holds_of_wide 5 f5 rfl rfl rfl rfl rfl rfl rfl ⟨rfl,rfl,rfl,rfl,rfl⟩ rfl rfl rfl rfl rfl zKr func5 closed
  (of_decide_eq_true zKr) (by unfold Func.isWrapper;first | (rw[if_pos (by decide +kernel)];kernel_rfl) | (rw[if_neg (by decide +kernel)];exact⟨rfl,rfl⟩))
  (fun os g H i _=>lifted os g H i)
end ZDistanceMonotone
namespace ZDistanceMonotone
open Go.RowKit Go.ChangeShapes Go.WideShapes
theorem holds:Rows.DistanceMonotoneCardSaid:=
  Claim7.holds_tied_plain_at .later [] [.data, .data, .data] true (true, "6d56fcdda9a8f6eed0d81ff1dbc44f7b717adace3abf74ea1c64bb471ff0308e") true
    said (fun _ h=>by cases h) (by as_aux_lemma=>kernel_rfl) (fun _ h=>by cases h) distanceMonotone_row_tie rfl ⟨rfl,rfl⟩ (by as_aux_lemma=>kernel_rfl) rfl
    (fun f fn hf i=>by
      obtain rfl : f = 5 := Option.some.inj ((show qe.funcNamed "armature/armaturelaw29.DistanceMonotone" = some 5 by kernel_rfl).symm.trans hf) |>.symm
      obtain rfl:fn=f5:=(Option.some.inj (func5.symm.trans i)).symm;exact⟨zKr,fun j t l=>by
        have o:f5.params=[38,35].toArray:=zKr;rw[o]at l;have p:t∈[38,35]:=by simpa using Array.mem_of_getElem? l
        have g:([38,35].all fun u=>!qe.wantsStandIn u)=true:=zKr;exact(show qe.wantsStandIn t=false by simpa using List.all_eq_true.1 g t p)⟩)
    (by as_aux_lemma=>kernel_rfl)
end ZDistanceMonotone
end Go.Proofs.YtipbakanneogpaaGreatDoor
