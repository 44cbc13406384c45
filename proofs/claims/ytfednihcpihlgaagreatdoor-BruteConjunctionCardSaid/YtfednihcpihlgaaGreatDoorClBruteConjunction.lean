/-
  Proved: the tied card of armaturelaw25.BruteConjunction: for every case and tree, the law returns true and leaves its arguments as they were. Conditions: the card's own (the tables of internal/strconv and math/bits are as the program's text lays them; loops end).
-/
import Derived.Test.YtfednihcpihlgaaGreatDoorRows
import Derived.Test.YtfednihcpihlgaaGreatDoorTie
import Derived.Test.YtfednihcpihlgaaGreatDoorCards
import Derived.SevenTiedAt
import Derived.Test.YtfednihcpihlgaaGreatDoorMi
set_option linter.unusedVariables false
set_option linter.unusedSimpArgs false
set_option maxRecDepth 100000
open Go renaming TypeId->qd,Value->qy
open Go.Proofs.Tryz renaming prog->qc
open List renaming append_nil->zF
namespace Go.Proofs.YtfednihcpihlgaaGreatDoor
open Go Go.Ev Go.Proofs Tryz
namespace ZBruteConjunction
open Go.EvW DL Y1 Go.RowKit Go.ChangeShapes Go.WideShapes
theorem law(g:DN.VD)(j:Nd)(i:DO.okCs g)(l:True):qg qc 4 [.agg (DN.cCs g),eNd j] (aB true):=
 W45.conjW g.1 (fun x hx=>Nat.le_trans (i.1.so x hx) (Nat.le_of_ble_eq_true rfl)) g.2.1 g.2.2.1 i.2.1 g.2.2.2.1 g.2.2.2.2.1 g.2.2.2.2.2 i.2.2 j
set_option maxRecDepth 100000 in
theorem lifted(os:Os)(g:os.Started)(H:Type)(enc:qd×qy->H) :
  ReturnsInHanded {} checked os 4 .any (fun w args=>(Rows.bruteConjunctionSpec.pre enc qc f4 [] false w args/\laidMetH qc tabL w)/\sizedMet enc qc f4 (OpenSpec.ofChange Rows.bruteConjunctionSpec) false w args) (Rows.bruteConjunctionSpec.post enc qc f4 false true false false):=by
 refine returnsInHanded_of_change_and (C:=checked) (X:=fun w _=>laidMetH qc tabL w) (fun _ _ _ I h=>h.of_heap I) own g zKr func4
  (ChangeSpec.witness_shaped (enc:=enc) (C:=checked) (os:=os) (X:=fun w _=>laidMetH qc tabL w) false (World.doorLaid qc 4000 os) #[.agg #[.slice none 0 0,.slice none 0 0,.slice none 0 0,.slice none 0 0,.slice none 0 0,.int .i64 0,.slice none 0 0,.int .i64 0,.string ⟨#[]⟩,.int .i64 0,.slice none 0 0,.int .i64 0,.slice none 0 0,.int .u8 0],.agg #[.int .i64 0,.string ⟨#[]⟩,.int .i64 0,.slice none 0 0,.int .i64 0]] 8 rfl (World.shaped_of_RefB zKr zKr) zKr zKr zKr (qe9 os _)) ?_
 intro W base args o J i l t _ r P _;exact qb5 (ts:=[38,35]) (tb:=4) zKr (.cons DO.qfC (.cons DT.aNode .nil)) rfl
  (fun H o h=>by match o,h with | [_,_],T=>rfl) zKr DT.K0 laid zKr (fun a h=>law a.1 a.2.1 h.1 h.2.1) H enc W base args o J i l t (by
   obtain⟨p,q,hA,hV,_⟩:=t;obtain⟨rfl,_⟩:=trodVars_none hV;have j:(DataW.weightsEach qc ([38,35]++[]) (o++[])).all (·<=reachBytes)=true:=r;rw[zF,zF]at j;exact j) (qe8 P)
end ZBruteConjunction
namespace ZFBruteConjunction
open Go.RowKit Go.ChangeShapes Go.WideShapes
theorem c0:(Rows.bruteConjunctionRow.wf (OpenSpec.ofChange Rows.bruteConjunctionSpec))=true:=by kernel_rfl
theorem c1:(laidOutB checked.prog)=true:=by kernel_rfl
theorem c2:(mapsRowed checked.prog)=true:=by kernel_rfl
theorem c3:(f4.params.all (checked.prog.readableRec ·))=true:=by kernel_rfl
theorem c4:(namedTie checked.prog Rows.bruteConjunctionRow.named Rows.bruteConjunctionSpec.vars)=true:=by kernel_rfl
theorem c5:((Rows.bruteConjunctionRow.stops == []))=true:=by kernel_rfl
theorem c6:((checked.prog.stops == []))=true:=by kernel_rfl
theorem c7:((Rows.bruteConjunctionRow.knobs == []))=true:=by kernel_rfl
theorem c8:((checked.prog.stopKnobs == []))=true:=by kernel_rfl
theorem c9:((Rows.bruteConjunctionRow.inPlace == checked.prog.inPlace 4))=true:=by kernel_rfl
theorem c10:((Rows.bruteConjunctionRow.unfollowed == checked.prog.unfollowed 4))=true:=by kernel_rfl
theorem c11:((Rows.bruteConjunctionRow.recurses == checked.prog.recurses 4))=true:=by kernel_rfl
theorem c12:((Rows.bruteConjunctionRow.named == checked.prog.varsNamed 4))=true:=by kernel_rfl
theorem c13:((Rows.bruteConjunctionRow.maps == (f4.params.toList++Rows.bruteConjunctionSpec.plain.varTypes checked.prog).any (checked.prog.mapsRec ·)))=true:=by kernel_rfl
theorem c14:((Rows.bruteConjunctionRow.ifaces == (f4.params.toList++Rows.bruteConjunctionSpec.plain.varTypes checked.prog).any (checked.prog.ifacesRec ·)))=true:=by kernel_rfl
theorem c15:((Rows.bruteConjunctionRow.mapsOut == checked.prog.mapsAmong f4.resultTypes.toList))=true:=by kernel_rfl
theorem c16:((Rows.bruteConjunctionRow.loops == (f4.params.toList++Rows.bruteConjunctionSpec.plain.varTypes checked.prog).any (checked.prog.loopsFrom ·)))=true:=by kernel_rfl
theorem c17:((Rows.bruteConjunctionRow.wideKeys == (f4.params.toList++Rows.bruteConjunctionSpec.plain.varTypes checked.prog++f4.resultTypes.toList).any (checked.prog.wideKeysFrom ·)))=true:=by kernel_rfl
theorem c18:(Rows.bruteConjunctionSpec.vars.all (checked.prog.varReadable ·))=true:=by kernel_rfl
theorem c19:(f4.resultTypes.all (fun t=>checked.prog.readableRec t&&decide (t<checked.prog.types.size)))=true:=by kernel_rfl
theorem c20:((Rows.bruteConjunctionRow.ifacesOut == f4.resultTypes.toList.any (checked.prog.ifacesRec ·)))=true:=by kernel_rfl
theorem c21:((Rows.bruteConjunctionRow.loopsOut == f4.resultTypes.toList.any (checked.prog.loopsFrom ·)))=true:=by kernel_rfl
theorem c22:((Rows.bruteConjunctionRow.plainKeys == checked.prog.plainKeys))=true:=by kernel_rfl
theorem c23:(Rows.bruteConjunctionRow.shortTexts.isNone)=true:=by kernel_rfl
theorem c24:(checked.prog.stopsHeard)=true:=by kernel_rfl
theorem c25:(checked.prog.mayEnter)=true:=by kernel_rfl
theorem c26:((Rows.bruteConjunctionRow.lifted == checked.prog.liftsFinal))=true:=by kernel_rfl
theorem c27:((checked.prog.make == some Rows.bruteConjunctionRow.make))=true:=by kernel_rfl
theorem c28:((Rows.bruteConjunctionRow.kinds == (if Rows.bruteConjunctionRow.domain.isEmpty then [] else f4.params.toList.map fun t=>match checked.prog.underlying t with|some (.int k)=>some k|_=>none)))=true:=by kernel_rfl
theorem c29:((Rows.bruteConjunctionRow.pinned == Rows.bruteConjunctionRow.pinnedBy))=true:=by kernel_rfl
theorem c30:((Rows.bruteConjunctionRow.veiled == (f4.params.toList++Rows.bruteConjunctionSpec.plain.varTypes checked.prog++f4.resultTypes.toList).any (checked.prog.veiledRec ·)))=true:=by kernel_rfl
theorem c31:(Rows.bruteConjunctionRow.veiledFits checked.prog f4.params.toList (f4.params.toList++Rows.bruteConjunctionSpec.plain.varTypes checked.prog++f4.resultTypes.toList))=true:=by kernel_rfl
end ZFBruteConjunction
namespace ZBruteConjunction
open Go.RowKit Go.ChangeShapes Go.WideShapes
theorem qS{a b:Bool}(g:a=true)(i:b=true):(a&&b)=true:=by rw[g,i];rfl
set_option maxRecDepth 100000 in
theorem closed:joinedFacts checked.prog 4 f4 Rows.bruteConjunctionSpec Rows.bruteConjunctionRow=true:=by
 unfold joinedFacts;exact qS (qS (qS (qS (qS (qS (qS (qS (qS (qS (qS (qS (qS (qS (qS (qS (qS (qS (qS (qS (qS (qS (qS (qS (qS (qS (qS (qS (qS (qS (qS ZFBruteConjunction.c0 ZFBruteConjunction.c1) ZFBruteConjunction.c2) ZFBruteConjunction.c3) ZFBruteConjunction.c4) ZFBruteConjunction.c5) ZFBruteConjunction.c6) ZFBruteConjunction.c7) ZFBruteConjunction.c8) ZFBruteConjunction.c9) ZFBruteConjunction.c10) ZFBruteConjunction.c11) ZFBruteConjunction.c12) ZFBruteConjunction.c13) ZFBruteConjunction.c14) ZFBruteConjunction.c15) ZFBruteConjunction.c16) ZFBruteConjunction.c17) ZFBruteConjunction.c18) ZFBruteConjunction.c19) ZFBruteConjunction.c20) ZFBruteConjunction.c21) ZFBruteConjunction.c22) ZFBruteConjunction.c23) ZFBruteConjunction.c24) ZFBruteConjunction.c25) ZFBruteConjunction.c26) ZFBruteConjunction.c27) ZFBruteConjunction.c28) ZFBruteConjunction.c29) ZFBruteConjunction.c30) ZFBruteConjunction.c31
theorem said:Rows.BruteConjunctionSaid:=
 OpenClaim.holds_of_wide 4 f4 rfl rfl rfl rfl rfl rfl rfl ⟨rfl,rfl,rfl,rfl,rfl⟩ rfl rfl rfl rfl rfl zKr func4 closed
  (of_decide_eq_true zKr) (by unfold Func.isWrapper;first | (rw[if_pos (by decide +kernel)];kernel_rfl) | (rw[if_neg (by decide +kernel)];exact⟨rfl,rfl⟩))
  (fun os g H i _=>lifted os g H i)
end ZBruteConjunction
namespace ZBruteConjunction
open Go.RowKit Go.ChangeShapes Go.WideShapes
theorem holds:Rows.BruteConjunctionCardSaid:=
  Claim7.holds_tied_plain_at .later [] [.data, .data, .data] true (true, "d0a7141ef7ca3c49d104e067030ee016426d034dfebcb74517ee2ba4d78f85c6") true
    said (fun _ h=>by cases h) (by as_aux_lemma=>kernel_rfl) (fun _ h=>by cases h) bruteConjunction_row_tie rfl ⟨rfl,rfl⟩ (by as_aux_lemma=>kernel_rfl) rfl
    (fun f fn hf i=>by
      obtain rfl : f = 4 := Option.some.inj ((show qc.funcNamed "armature/armaturelaw25.BruteConjunction" = some 4 by kernel_rfl).symm.trans hf) |>.symm
      obtain rfl:fn=f4:=(Option.some.inj (func4.symm.trans i)).symm;exact⟨zKr,fun j t l=>by
        have hp:f4.params=[38,35].toArray:=zKr;rw[hp]at l;have o:t∈[38,35]:=by simpa using Array.mem_of_getElem? l
        have g:([38,35].all fun u=>!qc.wantsStandIn u)=true:=zKr;exact(show qc.wantsStandIn t=false by simpa using List.all_eq_true.1 g t o)⟩)
    (by as_aux_lemma=>kernel_rfl)
end ZBruteConjunction
end Go.Proofs.YtfednihcpihlgaaGreatDoor
