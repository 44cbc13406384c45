/-
  Proved: the tied card of armaturelaw33.RepairDiff: for every specification, bounds and two models, the law returns true and leaves its arguments as they were. Conditions: the card's own (the tables of internal/strconv and math/bits are as the program's text lays them; loops end).
-/
import Derived.Test.YthkdjhkmlmjkbaaGreatDoorRows
import Derived.Test.YthkdjhkmlmjkbaaGreatDoorTie
import Derived.Test.YthkdjhkmlmjkbaaGreatDoorCards
import Derived.SevenTiedAt
import Derived.Test.YthkdjhkmlmjkbaaGreatDoorMf
set_option linter.unusedVariables false
set_option linter.unusedSimpArgs false
set_option maxRecDepth 100000
open Go renaming TypeId->j1,Value->j3
open Go.Proofs.Tryz renaming prog->qb
open List renaming append_nil->zA
namespace Go.Proofs.YthkdjhkmlmjkbaaGreatDoor
open Go Go.Ev Go.Proofs Tryz
namespace ZRepairDiff
open Go.EvW DL P1 YF E3 Go.RowKit Go.ChangeShapes Go.WideShapes
theorem law(g:TS)(i:List Bd)(j:Md)(l:Md)(o:DT.okTA g)(r:True)(t:True)(C:True):qd qb 6 [eTS g,lBd i,eMd j,eMd l] (aB true):=
 W62.diffW g (fun x p=>Nat.le_trans (o.so x p) (Nat.le_of_ble_eq_true rfl)) i j l
set_option maxRecDepth 100000 in
theorem lifted(os:Os)(g:os.Started)(H:Type)(enc:j1×j3->H) :
  ReturnsInHanded {} checked os 6 .any (fun w args=>(Rows.repairDiffSpec.pre enc qb f6 [] false w args/\laidMetH qb tabL w)/\sizedMet enc qb f6 (OpenSpec.ofChange Rows.repairDiffSpec) false w args) (Rows.repairDiffSpec.post enc qb f6 false true false false):=by
 refine returnsInHanded_of_change_and (C:=checked) (X:=fun w _=>laidMetH qb tabL w) (fun _ _ _ I h=>h.of_heap I) own g zKr func6
  (ChangeSpec.witness_shaped (enc:=enc) (C:=checked) (os:=os) (X:=fun w _=>laidMetH qb tabL w) false (World.doorLaid qb 4000 os) #[.agg #[.slice none 0 0,.slice none 0 0,.slice none 0 0,.slice none 0 0],.slice none 0 0,.agg #[.slice none 0 0,.int .i64 0,.slice none 0 0,.int .i64 0],.agg #[.slice none 0 0,.int .i64 0,.slice none 0 0,.int .i64 0]] 8 rfl (World.shaped_of_RefB zKr zKr) zKr zKr zKr (Ja os _)) ?_
 intro W base args o J i l t _ r P _;exact Um (ts:=[27,40,43,43]) (tb:=4) zKr (.cons DT.Yx (.cons HX.Jb (.cons DM.Zo (.cons DM.Zo .nil)))) rfl
  (fun H o h=>by match o,h with | [_,_,_,_],T=>rfl) zKr DT.Zc laid zKr (fun a h=>law a.1 a.2.1 a.2.2.1 a.2.2.2.1 h.1 h.2.1 h.2.2.1 h.2.2.2.1) H enc W base args o J i l t (by
   obtain⟨p,q,hA,U,_⟩:=t;obtain⟨rfl,_⟩:=trodVars_none U;have j:(DataW.weightsEach qb ([27,40,43,43]++[]) (o++[])).all (·<=reachBytes)=true:=r;rw[zA,zA]at j;exact j) (Y0 P)
end ZRepairDiff
namespace ZFRepairDiff
open Go.RowKit Go.ChangeShapes Go.WideShapes
theorem c0:(Rows.repairDiffRow.wf (OpenSpec.ofChange Rows.repairDiffSpec))=true:=by kernel_rfl
theorem c1:(laidOutB checked.prog)=true:=by kernel_rfl
theorem c2:(mapsRowed checked.prog)=true:=by kernel_rfl
theorem c3:(f6.params.all (checked.prog.readableRec ·))=true:=by kernel_rfl
theorem c4:(namedTie checked.prog Rows.repairDiffRow.named Rows.repairDiffSpec.vars)=true:=by kernel_rfl
theorem c5:((Rows.repairDiffRow.stops == []))=true:=by kernel_rfl
theorem c6:((checked.prog.stops == []))=true:=by kernel_rfl
theorem c7:((Rows.repairDiffRow.knobs == []))=true:=by kernel_rfl
theorem c8:((checked.prog.stopKnobs == []))=true:=by kernel_rfl
theorem c9:((Rows.repairDiffRow.inPlace == checked.prog.inPlace 6))=true:=by kernel_rfl
theorem c10:((Rows.repairDiffRow.unfollowed == checked.prog.unfollowed 6))=true:=by kernel_rfl
theorem c11:((Rows.repairDiffRow.recurses == checked.prog.recurses 6))=true:=by kernel_rfl
theorem c12:((Rows.repairDiffRow.named == checked.prog.varsNamed 6))=true:=by kernel_rfl
theorem c13:((Rows.repairDiffRow.maps == (f6.params.toList++Rows.repairDiffSpec.plain.varTypes checked.prog).any (checked.prog.mapsRec ·)))=true:=by kernel_rfl
theorem c14:((Rows.repairDiffRow.ifaces == (f6.params.toList++Rows.repairDiffSpec.plain.varTypes checked.prog).any (checked.prog.ifacesRec ·)))=true:=by kernel_rfl
theorem c15:((Rows.repairDiffRow.mapsOut == checked.prog.mapsAmong f6.resultTypes.toList))=true:=by kernel_rfl
theorem c16:((Rows.repairDiffRow.loops == (f6.params.toList++Rows.repairDiffSpec.plain.varTypes checked.prog).any (checked.prog.loopsFrom ·)))=true:=by kernel_rfl
theorem c17:((Rows.repairDiffRow.wideKeys == (f6.params.toList++Rows.repairDiffSpec.plain.varTypes checked.prog++f6.resultTypes.toList).any (checked.prog.wideKeysFrom ·)))=true:=by kernel_rfl
theorem c18:(Rows.repairDiffSpec.vars.all (checked.prog.varReadable ·))=true:=by kernel_rfl
theorem c19:(f6.resultTypes.all (fun t=>checked.prog.readableRec t&&decide (t<checked.prog.types.size)))=true:=by kernel_rfl
theorem c20:((Rows.repairDiffRow.ifacesOut == f6.resultTypes.toList.any (checked.prog.ifacesRec ·)))=true:=by kernel_rfl
theorem c21:((Rows.repairDiffRow.loopsOut == f6.resultTypes.toList.any (checked.prog.loopsFrom ·)))=true:=by kernel_rfl
theorem c22:((Rows.repairDiffRow.plainKeys == checked.prog.plainKeys))=true:=by kernel_rfl
theorem c23:(Rows.repairDiffRow.shortTexts.isNone)=true:=by kernel_rfl
theorem c24:(checked.prog.stopsHeard)=true:=by kernel_rfl
theorem c25:(checked.prog.mayEnter)=true:=by kernel_rfl
theorem c26:((Rows.repairDiffRow.lifted == checked.prog.liftsFinal))=true:=by kernel_rfl
theorem c27:((checked.prog.make == some Rows.repairDiffRow.make))=true:=by kernel_rfl
theorem c28:((Rows.repairDiffRow.kinds == (if Rows.repairDiffRow.domain.isEmpty then [] else f6.params.toList.map fun t=>match checked.prog.underlying t with|some (.int k)=>some k|_=>none)))=true:=by kernel_rfl
theorem c29:((Rows.repairDiffRow.pinned == Rows.repairDiffRow.pinnedBy))=true:=by kernel_rfl
theorem c30:((Rows.repairDiffRow.veiled == (f6.params.toList++Rows.repairDiffSpec.plain.varTypes checked.prog++f6.resultTypes.toList).any (checked.prog.veiledRec ·)))=true:=by kernel_rfl
theorem c31:(Rows.repairDiffRow.veiledFits checked.prog f6.params.toList (f6.params.toList++Rows.repairDiffSpec.plain.varTypes checked.prog++f6.resultTypes.toList))=true:=by kernel_rfl
end ZFRepairDiff
namespace ZRepairDiff
open Go.RowKit Go.ChangeShapes Go.WideShapes
theorem qg{a b:Bool}(g:a=true)(i:b=true):(a&&b)=true:=by rw[g,i];rfl
set_option maxRecDepth 100000 in
theorem closed:joinedFacts checked.prog 6 f6 Rows.repairDiffSpec Rows.repairDiffRow=true:=by
 unfold joinedFacts;exact qg (qg (qg (qg (qg (qg (qg (qg (qg (qg (qg (qg (qg (qg (qg (qg (qg (qg (qg (qg (qg (qg (qg (qg (qg (qg (qg (qg (qg (qg (qg ZFRepairDiff.c0 ZFRepairDiff.c1) ZFRepairDiff.c2) ZFRepairDiff.c3) ZFRepairDiff.c4) ZFRepairDiff.c5) ZFRepairDiff.c6) ZFRepairDiff.c7) ZFRepairDiff.c8) ZFRepairDiff.c9) ZFRepairDiff.c10) ZFRepairDiff.c11) ZFRepairDiff.c12) ZFRepairDiff.c13) ZFRepairDiff.c14) ZFRepairDiff.c15) ZFRepairDiff.c16) ZFRepairDiff.c17) ZFRepairDiff.c18) ZFRepairDiff.c19) ZFRepairDiff.c20) ZFRepairDiff.c21) ZFRepairDiff.c22) ZFRepairDiff.c23) ZFRepairDiff.c24) ZFRepairDiff.c25) ZFRepairDiff.c26) ZFRepairDiff.c27) ZFRepairDiff.c28) ZFRepairDiff.c29) ZFRepairDiff.c30) ZFRepairDiff.c31
theorem said:Rows.RepairDiffSaid:=
 OpenClaim.holds_of_wide 6 f6 rfl rfl rfl rfl rfl rfl rfl ⟨rfl,rfl,rfl,rfl,rfl⟩ rfl rfl rfl rfl rfl zKr func6 closed
  (of_decide_eq_true zKr) (by unfold Func.isWrapper;first | (rw[if_pos (by decide +kernel)];kernel_rfl) | (rw[if_neg (by decide +kernel)];exact⟨rfl,rfl⟩))
  (fun os g H i _=>lifted os g H i)
end ZRepairDiff
namespace ZRepairDiff
open Go.RowKit Go.ChangeShapes Go.WideShapes
theorem holds:Rows.RepairDiffCardSaid:=
  Claim7.holds_tied_plain_at .later [] [.data, .data, .data] true (true, "4519e52442cf6c7a25f5359dc4d46a5105d9691e8a8523250a68182af80a7024") true
    said (fun _ h=>by cases h) (by as_aux_lemma=>kernel_rfl) (fun _ h=>by cases h) repairDiff_row_tie rfl ⟨rfl,rfl⟩ (by as_aux_lemma=>kernel_rfl) rfl
    (fun f fn hf i=>by
      obtain rfl : f = 6 := Option.some.inj ((show qb.funcNamed "armature/armaturelaw33.RepairDiff" = some 6 by kernel_rfl).symm.trans hf) |>.symm
      obtain rfl:fn=f6:=(Option.some.inj (func6.symm.trans i)).symm;exact⟨zKr,fun j t l=>by
        have o:f6.params=[27,40,43,43].toArray:=zKr;rw[o]at l;have p:t∈[27,40,43,43]:=by simpa using Array.mem_of_getElem? l
        have g:([27,40,43,43].all fun u=>!qb.wantsStandIn u)=true:=zKr;exact(show qb.wantsStandIn t=false by simpa using List.all_eq_true.1 g t p)⟩)
    (by as_aux_lemma=>kernel_rfl)
end ZRepairDiff
end Go.Proofs.YthkdjhkmlmjkbaaGreatDoor
