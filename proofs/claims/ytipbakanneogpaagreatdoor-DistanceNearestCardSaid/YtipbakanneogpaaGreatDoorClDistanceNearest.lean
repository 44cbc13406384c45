/-
  Proved: the tied card of armaturelaw29.DistanceNearest: for every case, the law returns true and leaves its arguments as they were. Conditions: the card's own (the tables of internal/strconv and math/bits are as the program's text lays them; loops end).
-/
import Derived.Test.YtipbakanneogpaaGreatDoorRows
import Derived.Test.YtipbakanneogpaaGreatDoorTie
import Derived.Test.YtipbakanneogpaaGreatDoorCards
import Derived.SevenTiedAt
import Derived.Test.YtipbakanneogpaaGreatDoorMi
set_option linter.unusedVariables false
set_option linter.unusedSimpArgs false
set_option maxRecDepth 100000
open Go renaming TypeId->qd,Value->qg
open Go.Proofs.Tryz renaming prog->qb
open List renaming append_nil->zJ
namespace Go.Proofs.YtipbakanneogpaaGreatDoor
open Go Go.Ev Go.Proofs Tryz
namespace ZDistanceNearest
open Go.EvW DL Go.RowKit Go.ChangeShapes Go.WideShapes
theorem law(g:DN.Wv)(i:DO.okCs g):qh qb 3 [.agg (DN.cCs g)] (aB true):=
 W47.qtQ g.1 (fun x j=>Nat.le_trans (i.1.so x j) (Nat.le_of_ble_eq_true rfl)) g.2.1 g.2.2.1 i.2.1 g.2.2.2.1 g.2.2.2.2.1 g.2.2.2.2.2 i.2.2
set_option maxRecDepth 100000 in
theorem lifted(os:Os)(g:os.Started)(H:Type)(enc:qd×qg->H) :
  ReturnsInHanded {} checked os 3 .any (fun w args=>(Rows.distanceNearestSpec.pre enc qb f3 [] false w args/\laidMetH qb tabL w)/\sizedMet enc qb f3 (OpenSpec.ofChange Rows.distanceNearestSpec) false w args) (Rows.distanceNearestSpec.post enc qb f3 false true false false):=by
 refine returnsInHanded_of_change_and (C:=checked) (X:=fun w _=>laidMetH qb tabL w) (fun _ _ _ I h=>h.of_heap I) own g zKr func3
  (ChangeSpec.witness_shaped (enc:=enc) (C:=checked) (os:=os) (X:=fun w _=>laidMetH qb tabL w) false (World.doorLaid qb 4000 os) #[.agg #[.slice none 0 0,.slice none 0 0,.slice none 0 0,.slice none 0 0,.slice none 0 0,.int .i64 0,.slice none 0 0,.int .i64 0,.string ⟨#[]⟩,.int .i64 0,.slice none 0 0,.int .i64 0,.slice none 0 0,.int .u8 0]] 8 rfl (World.shaped_of_RefB zKr zKr) zKr zKr zKr (qtS os _)) ?_
 intro W base args o J i l t _ r P _;exact qpB (ts:=[38]) (tb:=4) zKr (.cons DO.qtY .nil) rfl
  (fun H o h=>by match o,h with | [_],T=>rfl) zKr DT.qcQ laid zKr (fun a h=>law a.1 h.1) H enc W base args o J i l t (by
   obtain⟨p,q,hA,hV,_⟩:=t;obtain⟨rfl,_⟩:=trodVars_none hV;have j:(DataW.weightsEach qb ([38]++[]) (o++[])).all (·<=reachBytes)=true:=r;rw[zJ,zJ]at j;exact j) (qtR P)
end ZDistanceNearest
namespace ZFDistanceNearest
open Go.RowKit Go.ChangeShapes Go.WideShapes
theorem c0:(Rows.distanceNearestRow.wf (OpenSpec.ofChange Rows.distanceNearestSpec))=true:=by kernel_rfl
theorem c1:(laidOutB checked.prog)=true:=by kernel_rfl
theorem c2:(mapsRowed checked.prog)=true:=by kernel_rfl
theorem c3:(f3.params.all (checked.prog.readableRec ·))=true:=by kernel_rfl
theorem c4:(namedTie checked.prog Rows.distanceNearestRow.named Rows.distanceNearestSpec.vars)=true:=by kernel_rfl
theorem c5:((Rows.distanceNearestRow.stops == []))=true:=by kernel_rfl
theorem c6:((checked.prog.stops == []))=true:=by kernel_rfl
theorem c7:((Rows.distanceNearestRow.knobs == []))=true:=by kernel_rfl
theorem c8:((checked.prog.stopKnobs == []))=true:=by kernel_rfl
theorem c9:((Rows.distanceNearestRow.inPlace == checked.prog.inPlace 3))=true:=by kernel_rfl
theorem c10:((Rows.distanceNearestRow.unfollowed == checked.prog.unfollowed 3))=true:=by kernel_rfl
theorem c11:((Rows.distanceNearestRow.recurses == checked.prog.recurses 3))=true:=by kernel_rfl
theorem c12:((Rows.distanceNearestRow.named == checked.prog.varsNamed 3))=true:=by kernel_rfl
theorem c13:((Rows.distanceNearestRow.maps == (f3.params.toList++Rows.distanceNearestSpec.plain.varTypes checked.prog).any (checked.prog.mapsRec ·)))=true:=by kernel_rfl
theorem c14:((Rows.distanceNearestRow.ifaces == (f3.params.toList++Rows.distanceNearestSpec.plain.varTypes checked.prog).any (checked.prog.ifacesRec ·)))=true:=by kernel_rfl
theorem c15:((Rows.distanceNearestRow.mapsOut == checked.prog.mapsAmong f3.resultTypes.toList))=true:=by kernel_rfl
theorem c16:((Rows.distanceNearestRow.loops == (f3.params.toList++Rows.distanceNearestSpec.plain.varTypes checked.prog).any (checked.prog.loopsFrom ·)))=true:=by kernel_rfl
theorem c17:((Rows.distanceNearestRow.wideKeys == (f3.params.toList++Rows.distanceNearestSpec.plain.varTypes checked.prog++f3.resultTypes.toList).any (checked.prog.wideKeysFrom ·)))=true:=by kernel_rfl
theorem c18:(Rows.distanceNearestSpec.vars.all (checked.prog.varReadable ·))=true:=by kernel_rfl
theorem c19:(f3.resultTypes.all (fun t=>checked.prog.readableRec t&&decide (t<checked.prog.types.size)))=true:=by kernel_rfl
theorem c20:((Rows.distanceNearestRow.ifacesOut == f3.resultTypes.toList.any (checked.prog.ifacesRec ·)))=true:=by kernel_rfl
theorem c21:((Rows.distanceNearestRow.loopsOut == f3.resultTypes.toList.any (checked.prog.loopsFrom ·)))=true:=by kernel_rfl
theorem c22:((Rows.distanceNearestRow.plainKeys == checked.prog.plainKeys))=true:=by kernel_rfl
theorem c23:(Rows.distanceNearestRow.shortTexts.isNone)=true:=by kernel_rfl
theorem c24:(checked.prog.stopsHeard)=true:=by kernel_rfl
theorem c25:(checked.prog.mayEnter)=true:=by kernel_rfl
theorem c26:((Rows.distanceNearestRow.lifted == checked.prog.liftsFinal))=true:=by kernel_rfl
theorem c27:((checked.prog.make == some Rows.distanceNearestRow.make))=true:=by kernel_rfl
theorem c28:((Rows.distanceNearestRow.kinds == (if Rows.distanceNearestRow.domain.isEmpty then [] else f3.params.toList.map fun t=>match checked.prog.underlying t with|some (.int k)=>some k|_=>none)))=true:=by kernel_rfl
theorem c29:((Rows.distanceNearestRow.pinned == Rows.distanceNearestRow.pinnedBy))=true:=by kernel_rfl
theorem c30:((Rows.distanceNearestRow.veiled == (f3.params.toList++Rows.distanceNearestSpec.plain.varTypes checked.prog++f3.resultTypes.toList).any (checked.prog.veiledRec ·)))=true:=by kernel_rfl
theorem c31:(Rows.distanceNearestRow.veiledFits checked.prog f3.params.toList (f3.params.toList++Rows.distanceNearestSpec.plain.varTypes checked.prog++f3.resultTypes.toList))=true:=by kernel_rfl
end ZFDistanceNearest
namespace ZDistanceNearest
open Go.RowKit Go.ChangeShapes Go.WideShapes
theorem z6{a b:Bool}(g:a=true)(i:b=true):(a&&b)=true:=by rw[g,i];rfl
set_option maxRecDepth 100000 in
theorem closed:joinedFacts checked.prog 3 f3 Rows.distanceNearestSpec Rows.distanceNearestRow=true:=by
 unfold joinedFacts;exact z6 (z6 (z6 (z6 (z6 (z6 (z6 (z6 (z6 (z6 (z6 (z6 (z6 (z6 (z6 (z6 (z6 (z6 (z6 (z6 (z6 (z6 (z6 (z6 (z6 (z6 (z6 (z6 (z6 (z6 (z6 ZFDistanceNearest.c0 ZFDistanceNearest.c1) ZFDistanceNearest.c2) ZFDistanceNearest.c3) ZFDistanceNearest.c4) ZFDistanceNearest.c5) ZFDistanceNearest.c6) ZFDistanceNearest.c7) ZFDistanceNearest.c8) ZFDistanceNearest.c9) ZFDistanceNearest.c10) ZFDistanceNearest.c11) ZFDistanceNearest.c12) ZFDistanceNearest.c13) ZFDistanceNearest.c14) ZFDistanceNearest.c15) ZFDistanceNearest.c16) ZFDistanceNearest.c17) ZFDistanceNearest.c18) ZFDistanceNearest.c19) ZFDistanceNearest.c20) ZFDistanceNearest.c21) ZFDistanceNearest.c22) ZFDistanceNearest.c23) ZFDistanceNearest.c24) ZFDistanceNearest.c25) ZFDistanceNearest.c26) ZFDistanceNearest.c27) ZFDistanceNearest.c28) ZFDistanceNearest.c29) ZFDistanceNearest.c30) ZFDistanceNearest.c31
theorem said:Rows.DistanceNearestSaid:=
 OpenClaim.holds_of_wide 3 f3 rfl rfl rfl rfl rfl rfl rfl ⟨rfl,rfl,rfl,rfl,rfl⟩ rfl rfl rfl rfl rfl zKr func3 closed
  (of_decide_eq_true zKr) (by unfold Func.isWrapper;first | (rw[if_pos (by decide +kernel)];kernel_rfl) | (rw[if_neg (by decide +kernel)];exact⟨rfl,rfl⟩))
  (fun os g H i _=>lifted os g H i)
end ZDistanceNearest
namespace ZDistanceNearest
open Go.RowKit Go.ChangeShapes Go.WideShapes
theorem holds:Rows.DistanceNearestCardSaid:=
  Claim7.holds_tied_plain_at .later [] [.data, .data, .data] true (true, "6d56fcdda9a8f6eed0d81ff1dbc44f7b717adace3abf74ea1c64bb471ff0308e") true
    said (fun _ h=>by cases h) (by as_aux_lemma=>kernel_rfl) (fun _ h=>by cases h) distanceNearest_row_tie rfl ⟨rfl,rfl⟩ (by as_aux_lemma=>kernel_rfl) rfl
    (fun f fn hf i=>by
      obtain rfl : f = 3 := Option.some.inj ((show qb.funcNamed "armature/armaturelaw29.DistanceNearest" = some 3 by kernel_rfl).symm.trans hf) |>.symm
      obtain rfl:fn=f3:=(Option.some.inj (func3.symm.trans i)).symm;exact⟨zKr,fun j t l=>by
        have o:f3.params=[38].toArray:=zKr;rw[o]at l;have p:t∈[38]:=by simpa using Array.mem_of_getElem? l
        have g:([38].all fun u=>!qb.wantsStandIn u)=true:=zKr;exact(show qb.wantsStandIn t=false by simpa using List.all_eq_true.1 g t p)⟩)
    (by as_aux_lemma=>kernel_rfl)
end ZDistanceNearest
end Go.Proofs.YtipbakanneogpaaGreatDoor
