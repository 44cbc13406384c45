/-
  Proved: the tied card of armaturelaw25.BruteModels: for every case, the law returns true and leaves its arguments as they were. Conditions: the card's own (the tables of internal/strconv and math/bits are as the program's text lays them; loops end).
-/
import Derived.Test.YtfednihcpihlgaaGreatDoorRows
import Derived.Test.YtfednihcpihlgaaGreatDoorTie
import Derived.Test.YtfednihcpihlgaaGreatDoorCards
import Derived.SevenTiedAt
import Derived.Test.YtfednihcpihlgaaGreatDoorMi
set_option linter.unusedVariables false
set_option linter.unusedSimpArgs false
set_option maxRecDepth 100000
open Go renaming TypeId->qd,Value->qy
open Go.Proofs.Tryz renaming prog->qc
open List renaming append_nil->zF
namespace Go.Proofs.YtfednihcpihlgaaGreatDoor
open Go Go.Ev Go.Proofs Tryz
namespace ZBruteModels
open Go.EvW DL Go.RowKit Go.ChangeShapes Go.WideShapes
theorem law(g:DN.VD)(i:DO.okCs g):qg qc 3 [.agg (DN.cCs g)] (aB true):=
 W44.qs9 g.1 (fun x hx=>Nat.le_trans (i.1.so x hx) (Nat.le_of_ble_eq_true rfl)) g.2.1 g.2.2.1 i.2.1 g.2.2.2.1 g.2.2.2.2.1 g.2.2.2.2.2 i.2.2
set_option maxRecDepth 100000 in
theorem lifted(os:Os)(g:os.Started)(H:Type)(enc:qd×qy->H) :
  ReturnsInHanded {} checked os 3 .any (fun w args=>(Rows.bruteModelsSpec.pre enc qc f3 [] false w args/\laidMetH qc tabL w)/\sizedMet enc qc f3 (OpenSpec.ofChange Rows.bruteModelsSpec) false w args) (Rows.bruteModelsSpec.post enc qc f3 false true false false):=by
 refine returnsInHanded_of_change_and (C:=checked) (X:=fun w _=>laidMetH qc tabL w) (fun _ _ _ I h=>h.of_heap I) own g zKr func3
  (ChangeSpec.witness_shaped (enc:=enc) (C:=checked) (os:=os) (X:=fun w _=>laidMetH qc tabL w) false (World.doorLaid qc 4000 os) #[.agg #[.slice none 0 0,.slice none 0 0,.slice none 0 0,.slice none 0 0,.slice none 0 0,.int .i64 0,.slice none 0 0,.int .i64 0,.string ⟨#[]⟩,.int .i64 0,.slice none 0 0,.int .i64 0,.slice none 0 0,.int .u8 0]] 8 rfl (World.shaped_of_RefB zKr zKr) zKr zKr zKr (qe9 os _)) ?_
 intro W base args o J i l t _ r P _;exact qb5 (ts:=[38]) (tb:=4) zKr (.cons DO.qfC .nil) rfl
  (fun H o h=>by match o,h with | [_],T=>rfl) zKr DT.K0 laid zKr (fun a h=>law a.1 h.1) H enc W base args o J i l t (by
   obtain⟨p,q,hA,hV,_⟩:=t;obtain⟨rfl,_⟩:=trodVars_none hV;have j:(DataW.weightsEach qc ([38]++[]) (o++[])).all (·<=reachBytes)=true:=r;rw[zF,zF]at j;exact j) (qe8 P)
end ZBruteModels
namespace ZFBruteModels
open Go.RowKit Go.ChangeShapes Go.WideShapes
theorem c0:(Rows.bruteModelsRow.wf (OpenSpec.ofChange Rows.bruteModelsSpec))=true:=by kernel_rfl
theorem c1:(laidOutB checked.prog)=true:=by kernel_rfl
theorem c2:(mapsRowed checked.prog)=true:=by kernel_rfl
theorem c3:(f3.params.all (checked.prog.readableRec ·))=true:=by kernel_rfl
theorem c4:(namedTie checked.prog Rows.bruteModelsRow.named Rows.bruteModelsSpec.vars)=true:=by kernel_rfl
theorem c5:((Rows.bruteModelsRow.stops == []))=true:=by kernel_rfl
theorem c6:((checked.prog.stops == []))=true:=by kernel_rfl
theorem c7:((Rows.bruteModelsRow.knobs == []))=true:=by kernel_rfl
theorem c8:((checked.prog.stopKnobs == []))=true:=by kernel_rfl
theorem c9:((Rows.bruteModelsRow.inPlace == checked.prog.inPlace 3))=true:=by kernel_rfl
theorem c10:((Rows.bruteModelsRow.unfollowed == checked.prog.unfollowed 3))=true:=by kernel_rfl
theorem c11:((Rows.bruteModelsRow.recurses == checked.prog.recurses 3))=true:=by kernel_rfl
theorem c12:((Rows.bruteModelsRow.named == checked.prog.varsNamed 3))=true:=by kernel_rfl
theorem c13:((Rows.bruteModelsRow.maps == (f3.params.toList++Rows.bruteModelsSpec.plain.varTypes checked.prog).any (checked.prog.mapsRec ·)))=true:=by kernel_rfl
theorem c14:((Rows.bruteModelsRow.ifaces == (f3.params.toList++Rows.bruteModelsSpec.plain.varTypes checked.prog).any (checked.prog.ifacesRec ·)))=true:=by kernel_rfl
theorem c15:((Rows.bruteModelsRow.mapsOut == checked.prog.mapsAmong f3.resultTypes.toList))=true:=by kernel_rfl
theorem c16:((Rows.bruteModelsRow.loops == (f3.params.toList++Rows.bruteModelsSpec.plain.varTypes checked.prog).any (checked.prog.loopsFrom ·)))=true:=by kernel_rfl
theorem c17:((Rows.bruteModelsRow.wideKeys == (f3.params.toList++Rows.bruteModelsSpec.plain.varTypes checked.prog++f3.resultTypes.toList).any (checked.prog.wideKeysFrom ·)))=true:=by kernel_rfl
theorem c18:(Rows.bruteModelsSpec.vars.all (checked.prog.varReadable ·))=true:=by kernel_rfl
theorem c19:(f3.resultTypes.all (fun t=>checked.prog.readableRec t&&decide (t<checked.prog.types.size)))=true:=by kernel_rfl
theorem c20:((Rows.bruteModelsRow.ifacesOut == f3.resultTypes.toList.any (checked.prog.ifacesRec ·)))=true:=by kernel_rfl
theorem c21:((Rows.bruteModelsRow.loopsOut == f3.resultTypes.toList.any (checked.prog.loopsFrom ·)))=true:=by kernel_rfl
theorem c22:((Rows.bruteModelsRow.plainKeys == checked.prog.plainKeys))=true:=by kernel_rfl
theorem c23:(Rows.bruteModelsRow.shortTexts.isNone)=true:=by kernel_rfl
theorem c24:(checked.prog.stopsHeard)=true:=by kernel_rfl
theorem c25:(checked.prog.mayEnter)=true:=by kernel_rfl
theorem c26:((Rows.bruteModelsRow.lifted == checked.prog.liftsFinal))=true:=by kernel_rfl
theorem c27:((checked.prog.make == some Rows.bruteModelsRow.make))=true:=by kernel_rfl
theorem c28:((Rows.bruteModelsRow.kinds == (if Rows.bruteModelsRow.domain.isEmpty then [] else f3.params.toList.map fun t=>match checked.prog.underlying t with|some (.int k)=>some k|_=>none)))=true:=by kernel_rfl
theorem c29:((Rows.bruteModelsRow.pinned == Rows.bruteModelsRow.pinnedBy))=true:=by kernel_rfl
theorem c30:((Rows.bruteModelsRow.veiled == (f3.params.toList++Rows.bruteModelsSpec.plain.varTypes checked.prog++f3.resultTypes.toList).any (checked.prog.veiledRec ·)))=true:=by kernel_rfl
theorem c31:(Rows.bruteModelsRow.veiledFits checked.prog f3.params.toList (f3.params.toList++Rows.bruteModelsSpec.plain.varTypes checked.prog++f3.resultTypes.toList))=true:=by kernel_rfl
end ZFBruteModels
namespace ZBruteModels
open Go.RowKit Go.ChangeShapes Go.WideShapes
theorem qS{a b:Bool}(g:a=true)(i:b=true):(a&&b)=true:=by rw[g,i];rfl
set_option maxRecDepth 100000 in
theorem closed:joinedFacts checked.prog 3 f3 Rows.bruteModelsSpec Rows.bruteModelsRow=true:=by
 unfold joinedFacts;exact qS (qS (qS (qS (qS (qS (qS (qS (qS (qS (qS (qS (qS (qS (qS (qS (qS (qS (qS (qS (qS (qS (qS (qS (qS (qS (qS (qS (qS (qS (qS ZFBruteModels.c0 ZFBruteModels.c1) ZFBruteModels.c2) ZFBruteModels.c3) ZFBruteModels.c4) ZFBruteModels.c5) ZFBruteModels.c6) ZFBruteModels.c7) ZFBruteModels.c8) ZFBruteModels.c9) ZFBruteModels.c10) ZFBruteModels.c11) ZFBruteModels.c12) ZFBruteModels.c13) ZFBruteModels.c14) ZFBruteModels.c15) ZFBruteModels.c16) ZFBruteModels.c17) ZFBruteModels.c18) ZFBruteModels.c19) ZFBruteModels.c20) ZFBruteModels.c21) ZFBruteModels.c22) ZFBruteModels.c23) ZFBruteModels.c24) ZFBruteModels.c25) ZFBruteModels.c26) ZFBruteModels.c27) ZFBruteModels.c28) ZFBruteModels.c29) ZFBruteModels.c30) ZFBruteModels.c31
theorem said:Rows.BruteModelsSaid:=
 OpenClaim.holds_of_wide 3 f3 rfl rfl rfl rfl rfl rfl rfl ⟨rfl,rfl,rfl,rfl,rfl⟩ rfl rfl rfl rfl rfl zKr func3 closed
  (of_decide_eq_true zKr) (by unfold Func.isWrapper;first | (rw[if_pos (by decide +kernel)];kernel_rfl) | (rw[if_neg (by decide +kernel)];exact⟨rfl,rfl⟩))
  (fun os g H i _=>lifted os g H i)
end ZBruteModels
namespace ZBruteModels
open Go.RowKit Go.ChangeShapes Go.WideShapes
theorem holds:Rows.BruteModelsCardSaid:=
  Claim7.holds_tied_plain_at .later [] [.data, .data, .data] true (true, "d0a7141ef7ca3c49d104e067030ee016426d034dfebcb74517ee2ba4d78f85c6") true
    said (fun _ h=>by cases h) (by as_aux_lemma=>kernel_rfl) (fun _ h=>by cases h) bruteModels_row_tie rfl ⟨rfl,rfl⟩ (by as_aux_lemma=>kernel_rfl) rfl
    (fun f fn hf i=>by
      obtain rfl : f = 3 := Option.some.inj ((show qc.funcNamed "armature/armaturelaw25.BruteModels" = some 3 by kernel_rfl).symm.trans hf) |>.symm
      obtain rfl:fn=f3:=(Option.some.inj (func3.symm.trans i)).symm;exact⟨zKr,fun j t l=>by
        have hp:f3.params=[38].toArray:=zKr;rw[hp]at l;have o:t∈[38]:=by simpa using Array.mem_of_getElem? l
        have g:([38].all fun u=>!qc.wantsStandIn u)=true:=zKr;exact(show qc.wantsStandIn t=false by simpa using List.all_eq_true.1 g t o)⟩)
    (by as_aux_lemma=>kernel_rfl)
end ZBruteModels
end Go.Proofs.YtfednihcpihlgaaGreatDoor
