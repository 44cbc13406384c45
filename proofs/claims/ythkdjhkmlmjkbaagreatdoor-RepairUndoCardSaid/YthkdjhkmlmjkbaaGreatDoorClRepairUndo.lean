/-
  Proved: the tied card of armaturelaw33.RepairUndo: for every specification, bounds, model and list of edits, the law returns true and leaves its arguments as they were. Conditions: the card's own (the tables of internal/strconv and math/bits are as the program's text lays them; loops end).
-/
import Derived.Test.YthkdjhkmlmjkbaaGreatDoorRows
import Derived.Test.YthkdjhkmlmjkbaaGreatDoorTie
import Derived.Test.YthkdjhkmlmjkbaaGreatDoorCards
import Derived.SevenTiedAt
import Derived.Test.YthkdjhkmlmjkbaaGreatDoorMf
set_option linter.unusedVariables false
set_option linter.unusedSimpArgs false
set_option maxRecDepth 100000
open Go renaming TypeId->j1,Value->j3
open Go.Proofs.Tryz renaming prog->qb
open List renaming append_nil->zA
namespace Go.Proofs.YthkdjhkmlmjkbaaGreatDoor
open Go Go.Ev Go.Proofs Tryz
namespace ZRepairUndo
open Go.EvW DL P1 YF E3 Go.RowKit Go.ChangeShapes Go.WideShapes
theorem law(g:TS)(i:List Bd)(j:Md)(l:List GB.Ed)(o:DT.okTA g)(r:True)(t:True)(C:True):qd qb 7 [eTS g,lBd i,eMd j,HF1.lEd l] (aB true):=
 W63.undoW g (fun x p=>Nat.le_trans (o.so x p) (Nat.le_of_ble_eq_true rfl)) i j l
set_option maxRecDepth 100000 in
theorem lifted(os:Os)(g:os.Started)(H:Type)(enc:j1×j3->H) :
  ReturnsInHanded {} checked os 7 .any (fun w args=>(Rows.repairUndoSpec.pre enc qb f7 [] false w args/\laidMetH qb tabL w)/\sizedMet enc qb f7 (OpenSpec.ofChange Rows.repairUndoSpec) false w args) (Rows.repairUndoSpec.post enc qb f7 false true false false):=by
 refine returnsInHanded_of_change_and (C:=checked) (X:=fun w _=>laidMetH qb tabL w) (fun _ _ _ I h=>h.of_heap I) own g zKr func7
  (ChangeSpec.witness_shaped (enc:=enc) (C:=checked) (os:=os) (X:=fun w _=>laidMetH qb tabL w) false (World.doorLaid qb 4000 os) #[.agg #[.slice none 0 0,.slice none 0 0,.slice none 0 0,.slice none 0 0],.slice none 0 0,.agg #[.slice none 0 0,.int .i64 0,.slice none 0 0,.int .i64 0],.slice none 0 0] 8 rfl (World.shaped_of_RefB zKr zKr) zKr zKr zKr (Ja os _)) ?_
 intro W base args o J i l t _ r P _;exact Um (ts:=[27,40,43,48]) (tb:=4) zKr (.cons DT.Yx (.cons HX.Jb (.cons DM.Zo (.cons HX.Jc .nil)))) rfl
  (fun H o h=>by match o,h with | [_,_,_,_],T=>rfl) zKr DT.Zc laid zKr (fun a h=>law a.1 a.2.1 a.2.2.1 a.2.2.2.1 h.1 h.2.1 h.2.2.1 h.2.2.2.1) H enc W base args o J i l t (by
   obtain⟨p,q,hA,U,_⟩:=t;obtain⟨rfl,_⟩:=trodVars_none U;have j:(DataW.weightsEach qb ([27,40,43,48]++[]) (o++[])).all (·<=reachBytes)=true:=r;rw[zA,zA]at j;exact j) (Y0 P)
end ZRepairUndo
namespace ZFRepairUndo
open Go.RowKit Go.ChangeShapes Go.WideShapes
theorem c0:(Rows.repairUndoRow.wf (OpenSpec.ofChange Rows.repairUndoSpec))=true:=by kernel_rfl
theorem c1:(laidOutB checked.prog)=true:=by kernel_rfl
theorem c2:(mapsRowed checked.prog)=true:=by kernel_rfl
theorem c3:(f7.params.all (checked.prog.readableRec ·))=true:=by kernel_rfl
theorem c4:(namedTie checked.prog Rows.repairUndoRow.named Rows.repairUndoSpec.vars)=true:=by kernel_rfl
theorem c5:((Rows.repairUndoRow.stops == []))=true:=by kernel_rfl
theorem c6:((checked.prog.stops == []))=true:=by kernel_rfl
theorem c7:((Rows.repairUndoRow.knobs == []))=true:=by kernel_rfl
theorem c8:((checked.prog.stopKnobs == []))=true:=by kernel_rfl
theorem c9:((Rows.repairUndoRow.inPlace == checked.prog.inPlace 7))=true:=by kernel_rfl
theorem c10:((Rows.repairUndoRow.unfollowed == checked.prog.unfollowed 7))=true:=by kernel_rfl
theorem c11:((Rows.repairUndoRow.recurses == checked.prog.recurses 7))=true:=by kernel_rfl
theorem c12:((Rows.repairUndoRow.named == checked.prog.varsNamed 7))=true:=by kernel_rfl
theorem c13:((Rows.repairUndoRow.maps == (f7.params.toList++Rows.repairUndoSpec.plain.varTypes checked.prog).any (checked.prog.mapsRec ·)))=true:=by kernel_rfl
theorem c14:((Rows.repairUndoRow.ifaces == (f7.params.toList++Rows.repairUndoSpec.plain.varTypes checked.prog).any (checked.prog.ifacesRec ·)))=true:=by kernel_rfl
theorem c15:((Rows.repairUndoRow.mapsOut == checked.prog.mapsAmong f7.resultTypes.toList))=true:=by kernel_rfl
theorem c16:((Rows.repairUndoRow.loops == (f7.params.toList++Rows.repairUndoSpec.plain.varTypes checked.prog).any (checked.prog.loopsFrom ·)))=true:=by kernel_rfl
theorem c17:((Rows.repairUndoRow.wideKeys == (f7.params.toList++Rows.repairUndoSpec.plain.varTypes checked.prog++f7.resultTypes.toList).any (checked.prog.wideKeysFrom ·)))=true:=by kernel_rfl
theorem c18:(Rows.repairUndoSpec.vars.all (checked.prog.varReadable ·))=true:=by kernel_rfl
theorem c19:(f7.resultTypes.all (fun t=>checked.prog.readableRec t&&decide (t<checked.prog.types.size)))=true:=by kernel_rfl
theorem c20:((Rows.repairUndoRow.ifacesOut == f7.resultTypes.toList.any (checked.prog.ifacesRec ·)))=true:=by kernel_rfl
theorem c21:((Rows.repairUndoRow.loopsOut == f7.resultTypes.toList.any (checked.prog.loopsFrom ·)))=true:=by kernel_rfl
theorem c22:((Rows.repairUndoRow.plainKeys == checked.prog.plainKeys))=true:=by kernel_rfl
theorem c23:(Rows.repairUndoRow.shortTexts.isNone)=true:=by kernel_rfl
theorem c24:(checked.prog.stopsHeard)=true:=by kernel_rfl
theorem c25:(checked.prog.mayEnter)=true:=by kernel_rfl
theorem c26:((Rows.repairUndoRow.lifted == checked.prog.liftsFinal))=true:=by kernel_rfl
theorem c27:((checked.prog.make == some Rows.repairUndoRow.make))=true:=by kernel_rfl
theorem c28:((Rows.repairUndoRow.kinds == (if Rows.repairUndoRow.domain.isEmpty then [] else f7.params.toList.map fun t=>match checked.prog.underlying t with|some (.int k)=>some k|_=>none)))=true:=by kernel_rfl
theorem c29:((Rows.repairUndoRow.pinned == Rows.repairUndoRow.pinnedBy))=true:=by kernel_rfl
theorem c30:((Rows.repairUndoRow.veiled == (f7.params.toList++Rows.repairUndoSpec.plain.varTypes checked.prog++f7.resultTypes.toList).any (checked.prog.veiledRec ·)))=true:=by kernel_rfl
theorem c31:(Rows.repairUndoRow.veiledFits checked.prog f7.params.toList (f7.params.toList++Rows.repairUndoSpec.plain.varTypes checked.prog++f7.resultTypes.toList))=true:=by kernel_rfl
end ZFRepairUndo
namespace ZRepairUndo
open Go.RowKit Go.ChangeShapes Go.WideShapes
theorem qg{a b:Bool}(g:a=true)(i:b=true):(a&&b)=true:=by rw[g,i];rfl
set_option maxRecDepth 100000 in
theorem closed:joinedFacts checked.prog 7 f7 Rows.repairUndoSpec Rows.repairUndoRow=true:=by
 unfold joinedFacts;exact qg (qg (qg (qg (qg (qg (qg (qg (qg (qg (qg (qg (qg (qg (qg (qg (qg (qg (qg (qg (qg (qg (qg (qg (qg (qg (qg (qg (qg (qg (qg ZFRepairUndo.c0 ZFRepairUndo.c1) ZFRepairUndo.c2) ZFRepairUndo.c3) ZFRepairUndo.c4) ZFRepairUndo.c5) ZFRepairUndo.c6) ZFRepairUndo.c7) ZFRepairUndo.c8) ZFRepairUndo.c9) ZFRepairUndo.c10) ZFRepairUndo.c11) ZFRepairUndo.c12) ZFRepairUndo.c13) ZFRepairUndo.c14) ZFRepairUndo.c15) ZFRepairUndo.c16) ZFRepairUndo.c17) ZFRepairUndo.c18) ZFRepairUndo.c19) ZFRepairUndo.c20) ZFRepairUndo.c21) ZFRepairUndo.c22) ZFRepairUndo.c23) ZFRepairUndo.c24) ZFRepairUndo.c25) ZFRepairUndo.c26) ZFRepairUndo.c27) ZFRepairUndo.c28) ZFRepairUndo.c29) ZFRepairUndo.c30) ZFRepairUndo.c31
theorem said:Rows.RepairUndoSaid:=
 OpenClaim.holds_of_wide 7 f7 rfl rfl rfl rfl rfl rfl rfl ⟨rfl,rfl,rfl,rfl,rfl⟩ rfl rfl rfl rfl rfl zKr func7 closed
  (of_decide_eq_true zKr) (by unfold Func.isWrapper;first | (rw[if_pos (by decide +kernel)];kernel_rfl) | (rw[if_neg (by decide +kernel)];exact⟨rfl,rfl⟩))
  (fun os g H i _=>lifted os g H i)
end ZRepairUndo
namespace ZRepairUndo
open Go.RowKit Go.ChangeShapes Go.WideShapes
theorem holds:Rows.RepairUndoCardSaid:=
  Claim7.holds_tied_plain_at .later [] [.data, .data, .data] true (true, "4519e52442cf6c7a25f5359dc4d46a5105d9691e8a8523250a68182af80a7024") true
    said (fun _ h=>by cases h) (by as_aux_lemma=>kernel_rfl) (fun _ h=>by cases h) repairUndo_row_tie rfl ⟨rfl,rfl⟩ (by as_aux_lemma=>kernel_rfl) rfl
    (fun f fn hf i=>by
      obtain rfl : f = 7 := Option.some.inj ((show qb.funcNamed "armature/armaturelaw33.RepairUndo" = some 7 by kernel_rfl).symm.trans hf) |>.symm
      obtain rfl:fn=f7:=(Option.some.inj (func7.symm.trans i)).symm;exact⟨zKr,fun j t l=>by
        have o:f7.params=[27,40,43,48].toArray:=zKr;rw[o]at l;have p:t∈[27,40,43,48]:=by simpa using Array.mem_of_getElem? l
        have g:([27,40,43,48].all fun u=>!qb.wantsStandIn u)=true:=zKr;exact(show qb.wantsStandIn t=false by simpa using List.all_eq_true.1 g t p)⟩)
    (by as_aux_lemma=>kernel_rfl)
end ZRepairUndo
end Go.Proofs.YthkdjhkmlmjkbaaGreatDoor
