/-
  Proved: Rows.DistanceExtremesSaid.
-/
import Derived.Test.YtipbakanneogpaaGreatDoorRows
import Derived.Test.YtipbakanneogpaaGreatDoorTie
import Derived.Test.YtipbakanneogpaaGreatDoorCards
import Derived.SevenTiedAt
import Derived.Test.YtipbakanneogpaaGreatDoorMi
set_option linter.unusedVariables false
set_option linter.unusedSimpArgs false
set_option maxRecDepth 100000
open Go renaming TypeId->qc,Value->qf
open Go.Proofs.Tryz renaming prog->qe
open List renaming append_nil->zO
namespace Go.Proofs.YtipbakanneogpaaGreatDoor
open Go Go.Ev Go.Proofs Tryz
namespace ZDistanceExtremes
open Go.EvW DL Go.RowKit Go.ChangeShapes Go.WideShapes
theorem law(g:DN.Wv)(i:DO.okCs g):qi qe 4 [.agg (DN.cCs g)] (aB true):=
 W48.extrW g.1 (fun x j=>Nat.le_trans (i.1.so x j) (Nat.le_of_ble_eq_true rfl)) g.2.1 g.2.2.1 i.2.1 g.2.2.2.1 g.2.2.2.2.1 g.2.2.2.2.2 i.2.2
set_option maxRecDepth 100000 in
theorem lifted(os:Os)(g:os.Started)(H:Type)(enc:qc×qf->H) :
  ReturnsInHanded {} checked os 4 .any (fun w args=>(Rows.distanceExtremesSpec.pre enc qe f4 [] false w args/\laidMetH qe tabL w)/\sizedMet enc qe f4 (OpenSpec.ofChange Rows.distanceExtremesSpec) false w args) (Rows.distanceExtremesSpec.post enc qe f4 false true false false):=by
 refine returnsInHanded_of_change_and (C:=checked) (X:=fun w _=>laidMetH qe tabL w) (fun _ _ _ I h=>h.of_heap I) own g zKr func4
  (ChangeSpec.witness_shaped (enc:=enc) (C:=checked) (os:=os) (X:=fun w _=>laidMetH qe tabL w) false (World.doorLaid qe 4000 os) #[.agg #[.slice none 0 0,.slice none 0 0,.slice none 0 0,.slice none 0 0,.slice none 0 0,.int .i64 0,.slice none 0 0,.int .i64 0,.string ⟨#[]⟩,.int .i64 0,.slice none 0 0,.int .i64 0,.slice none 0 0,.int .u8 0]] 8 rfl (World.shaped_of_RefB zKr zKr) zKr zKr zKr (qtF os _)) ?_
 intro W base args o J i l t _ r P _;exact qo2 (ts:=[38]) (tb:=4) zKr (.cons DO.qtL .nil) rfl
  (fun H o h=>by match o,h with | [_],T=>rfl) zKr DT.qcI laid zKr (fun a h=>law a.1 h.1) H enc W base args o J i l t (by
   obtain⟨p,q,hA,hV,_⟩:=t;obtain⟨rfl,_⟩:=trodVars_none hV;have j:(DataW.weightsEach qe ([38]++[]) (o++[])).all (·<=reachBytes)=true:=r;rw[zO,zO]at j;exact j) (qtE P)
end ZDistanceExtremes
namespace ZFDistanceExtremes
open Go.RowKit Go.ChangeShapes Go.WideShapes
theorem c0:(Rows.distanceExtremesRow.wf (OpenSpec.ofChange Rows.distanceExtremesSpec))=true:=by kernel_rfl
theorem c1:(laidOutB checked.prog)=true:=by kernel_rfl
theorem c2:(mapsRowed checked.prog)=true:=by kernel_rfl
theorem c3:(f4.params.all (checked.prog.readableRec ·))=true:=by kernel_rfl
theorem c4:(namedTie checked.prog Rows.distanceExtremesRow.named Rows.distanceExtremesSpec.vars)=true:=by kernel_rfl
theorem c5:((Rows.distanceExtremesRow.stops == []))=true:=by kernel_rfl
theorem c6:((checked.prog.stops == []))=true:=by kernel_rfl
theorem c7:((Rows.distanceExtremesRow.knobs == []))=true:=by kernel_rfl
theorem c8:((checked.prog.stopKnobs == []))=true:=by kernel_rfl
theorem c9:((Rows.distanceExtremesRow.inPlace == checked.prog.inPlace 4))=true:=by kernel_rfl
theorem c10:((Rows.distanceExtremesRow.unfollowed == checked.prog.unfollowed 4))=true:=by kernel_rfl
theorem c11:((Rows.distanceExtremesRow.recurses == checked.prog.recurses 4))=true:=by kernel_rfl
theorem c12:((Rows.distanceExtremesRow.named == checked.prog.varsNamed 4))=true:=by kernel_rfl
theorem c13:((Rows.distanceExtremesRow.maps == (f4.params.toList++Rows.distanceExtremesSpec.plain.varTypes checked.prog).any (checked.prog.mapsRec ·)))=true:=by kernel_rfl
theorem c14:((Rows.distanceExtremesRow.ifaces == (f4.params.toList++Rows.distanceExtremesSpec.plain.varTypes checked.prog).any (checked.prog.ifacesRec ·)))=true:=by kernel_rfl
theorem c15:((Rows.distanceExtremesRow.mapsOut == checked.prog.mapsAmong f4.resultTypes.toList))=true:=by kernel_rfl
theorem c16:((Rows.distanceExtremesRow.loops == (f4.params.toList++Rows.distanceExtremesSpec.plain.varTypes checked.prog).any (checked.prog.loopsFrom ·)))=true:=by kernel_rfl
theorem c17:((Rows.distanceExtremesRow.wideKeys == (f4.params.toList++Rows.distanceExtremesSpec.plain.varTypes checked.prog++f4.resultTypes.toList).any (checked.prog.wideKeysFrom ·)))=true:=by kernel_rfl
theorem c18:(Rows.distanceExtremesSpec.vars.all (checked.prog.varReadable ·))=true:=by kernel_rfl
theorem c19:(f4.resultTypes.all (fun t=>checked.prog.readableRec t&&decide (t<checked.prog.types.size)))=true:=by kernel_rfl
theorem c20:((Rows.distanceExtremesRow.ifacesOut == f4.resultTypes.toList.any (checked.prog.ifacesRec ·)))=true:=by kernel_rfl
theorem c21:((Rows.distanceExtremesRow.loopsOut == f4.resultTypes.toList.any (checked.prog.loopsFrom ·)))=true:=by kernel_rfl
theorem c22:((Rows.distanceExtremesRow.plainKeys == checked.prog.plainKeys))=true:=by kernel_rfl
theorem c23:(Rows.distanceExtremesRow.shortTexts.isNone)=true:=by kernel_rfl
theorem c24:(checked.prog.stopsHeard)=true:=by kernel_rfl
theorem c25:(checked.prog.mayEnter)=true:=by kernel_rfl
theorem c26:((Rows.distanceExtremesRow.lifted == checked.prog.liftsFinal))=true:=by kernel_rfl
theorem c27:((checked.prog.make == some Rows.distanceExtremesRow.make))=true:=by kernel_rfl
theorem c28:((Rows.distanceExtremesRow.kinds == (if Rows.distanceExtremesRow.domain.isEmpty then [] else f4.params.toList.map fun t=>match checked.prog.underlying t with|some (.int k)=>some k|_=>none)))=true:=by kernel_rfl
theorem c29:((Rows.distanceExtremesRow.pinned == Rows.distanceExtremesRow.pinnedBy))=true:=by kernel_rfl
theorem c30:((Rows.distanceExtremesRow.veiled == (f4.params.toList++Rows.distanceExtremesSpec.plain.varTypes checked.prog++f4.resultTypes.toList).any (checked.prog.veiledRec ·)))=true:=by kernel_rfl
theorem c31:(Rows.distanceExtremesRow.veiledFits checked.prog f4.params.toList (f4.params.toList++Rows.distanceExtremesSpec.plain.varTypes checked.prog++f4.resultTypes.toList))=true:=by kernel_rfl
end ZFDistanceExtremes
namespace ZDistanceExtremes
open Go.RowKit Go.ChangeShapes Go.WideShapes
theorem ya{a b:Bool}(g:a=true)(i:b=true):(a&&b)=true:=by rw[g,i];rfl
set_option maxRecDepth 100000 in
theorem closed:joinedFacts checked.prog 4 f4 Rows.distanceExtremesSpec Rows.distanceExtremesRow=true:=by
 unfold joinedFacts;exact ya (ya (ya (ya (ya (ya (ya (ya (ya (ya (ya (ya (ya (ya (ya (ya (ya (ya (ya (ya (ya (ya (ya (ya (ya (ya (ya (ya (ya (ya (ya ZFDistanceExtremes.c0 ZFDistanceExtremes.c1) ZFDistanceExtremes.c2) ZFDistanceExtremes.c3) ZFDistanceExtremes.c4) ZFDistanceExtremes.c5) ZFDistanceExtremes.c6) ZFDistanceExtremes.c7) ZFDistanceExtremes.c8) ZFDistanceExtremes.c9) ZFDistanceExtremes.c10) ZFDistanceExtremes.c11) ZFDistanceExtremes.c12) ZFDistanceExtremes.c13) ZFDistanceExtremes.c14) ZFDistanceExtremes.c15) ZFDistanceExtremes.c16) ZFDistanceExtremes.c17) ZFDistanceExtremes.c18) ZFDistanceExtremes.c19) ZFDistanceExtremes.c20) ZFDistanceExtremes.c21) ZFDistanceExtremes.c22) ZFDistanceExtremes.c23) ZFDistanceExtremes.c24) ZFDistanceExtremes.c25) ZFDistanceExtremes.c26) ZFDistanceExtremes.c27) ZFDistanceExtremes.c28) ZFDistanceExtremes.c29) ZFDistanceExtremes.c30) ZFDistanceExtremes.c31
theorem said:Rows.DistanceExtremesSaid:=
 OpenClaim.holds_of_wide 4 f4 rfl rfl rfl rfl rfl rfl rfl ⟨rfl,rfl,rfl,rfl,rfl⟩ rfl rfl rfl rfl rfl zKr func4 closed
  (of_decide_eq_true zKr) (by unfold Func.isWrapper;first | (rw[if_pos (by decide +kernel)];kernel_rfl) | (rw[if_neg (by decide +kernel)];exact⟨rfl,rfl⟩))
  (fun os g H i _=>lifted os g H i)
end ZDistanceExtremes
namespace ZDistanceExtremes
open Go.RowKit Go.ChangeShapes Go.WideShapes
theorem holds:Rows.DistanceExtremesCardSaid:=
  Claim7.holds_tied_plain_at .later [] [.data, .data, .data] true (true, "6d56fcdda9a8f6eed0d81ff1dbc44f7b717adace3abf74ea1c64bb471ff0308e") true
    said (fun _ h=>by cases h) (by as_aux_lemma=>kernel_rfl) (fun _ h=>by cases h) distanceExtremes_row_tie rfl ⟨rfl,rfl⟩ (by as_aux_lemma=>kernel_rfl) rfl
    (fun f fn hf i=>by
      obtain rfl : f = 4 := Option.some.inj ((show qe.funcNamed "armature/armaturelaw29.DistanceExtremes" = some 4 by kernel_rfl).symm.trans hf) |>.symm
      obtain rfl:fn=f4:=(Option.some.inj (func4.symm.trans i)).symm;exact⟨zKr,fun j t l=>by
        have o:f4.params=[38].toArray:=zKr;rw[o]at l;have p:t∈[38]:=by simpa using Array.mem_of_getElem? l
        have g:([38].all fun u=>!qe.wantsStandIn u)=true:=zKr;exact(show qe.wantsStandIn t=false by simpa using List.all_eq_true.1 g t p)⟩)
    (by as_aux_lemma=>kernel_rfl)
end ZDistanceExtremes
end Go.Proofs.YtipbakanneogpaaGreatDoor
