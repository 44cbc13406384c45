/-
  Proved: the tied card of armaturelaw33.RepairEdits: for every specification, bounds, model and list of edits, the law returns true and leaves its arguments as they were. Conditions: the card's own (the tables of internal/strconv and math/bits are as the program's text lays them; loops end).
-/
import Derived.Test.YthkdjhkmlmjkbaaGreatDoorRows
import Derived.Test.YthkdjhkmlmjkbaaGreatDoorTie
import Derived.Test.YthkdjhkmlmjkbaaGreatDoorCards
import Derived.SevenTiedAt
import Derived.Test.YthkdjhkmlmjkbaaGreatDoorMf
set_option linter.unusedVariables false
set_option linter.unusedSimpArgs false
set_option maxRecDepth 100000
open Go renaming TypeId->j1,Value->j3
open Go.Proofs.Tryz renaming prog->qb
open List renaming append_nil->zA
namespace Go.Proofs.YthkdjhkmlmjkbaaGreatDoor
open Go Go.Ev Go.Proofs Tryz
namespace ZRepairEdits
open Go.EvW DL P1 YF E3 Go.RowKit Go.ChangeShapes Go.WideShapes
theorem law(g:TS)(i:List Bd)(j:Md)(l:List GB.Ed)(o:DT.okTA g)(r:True)(t:True)(C:True):qd qb 4 [eTS g,lBd i,eMd j,HF1.lEd l] (aB true):=
 W60.qfV g (fun x p=>Nat.le_trans (o.so x p) (Nat.le_of_ble_eq_true rfl)) i j l
set_option maxRecDepth 100000 in
theorem lifted(os:Os)(g:os.Started)(H:Type)(enc:j1×j3->H) :
  ReturnsInHanded {} checked os 4 .any (fun w args=>(Rows.repairEditsSpec.pre enc qb f4 [] false w args/\laidMetH qb tabL w)/\sizedMet enc qb f4 (OpenSpec.ofChange Rows.repairEditsSpec) false w args) (Rows.repairEditsSpec.post enc qb f4 false true false false):=by
 refine returnsInHanded_of_change_and (C:=checked) (X:=fun w _=>laidMetH qb tabL w) (fun _ _ _ I h=>h.of_heap I) own g zKr func4
  (ChangeSpec.witness_shaped (enc:=enc) (C:=checked) (os:=os) (X:=fun w _=>laidMetH qb tabL w) false (World.doorLaid qb 4000 os) #[.agg #[.slice none 0 0,.slice none 0 0,.slice none 0 0,.slice none 0 0],.slice none 0 0,.agg #[.slice none 0 0,.int .i64 0,.slice none 0 0,.int .i64 0],.slice none 0 0] 8 rfl (World.shaped_of_RefB zKr zKr) zKr zKr zKr (Ja os _)) ?_
 intro W base args o J i l t _ r P _;exact Um (ts:=[27,40,43,48]) (tb:=4) zKr (.cons DT.Yx (.cons HX.Jb (.cons DM.Zo (.cons HX.Jc .nil)))) rfl
  (fun H o h=>by match o,h with | [_,_,_,_],T=>rfl) zKr DT.Zc laid zKr (fun a h=>law a.1 a.2.1 a.2.2.1 a.2.2.2.1 h.1 h.2.1 h.2.2.1 h.2.2.2.1) H enc W base args o J i l t (by
   obtain⟨p,q,hA,U,_⟩:=t;obtain⟨rfl,_⟩:=trodVars_none U;have j:(DataW.weightsEach qb ([27,40,43,48]++[]) (o++[])).all (·<=reachBytes)=true:=r;rw[zA,zA]at j;exact j) (Y0 P)
end ZRepairEdits
namespace ZFRepairEdits
open Go.RowKit Go.ChangeShapes Go.WideShapes
theorem c0:(Rows.repairEditsRow.wf (OpenSpec.ofChange Rows.repairEditsSpec))=true:=by kernel_rfl
theorem c1:(laidOutB checked.prog)=true:=by kernel_rfl
theorem c2:(mapsRowed checked.prog)=true:=by kernel_rfl
theorem c3:(f4.params.all (checked.prog.readableRec ·))=true:=by kernel_rfl
theorem c4:(namedTie checked.prog Rows.repairEditsRow.named Rows.repairEditsSpec.vars)=true:=by kernel_rfl
theorem c5:((Rows.repairEditsRow.stops == []))=true:=by kernel_rfl
theorem c6:((checked.prog.stops == []))=true:=by kernel_rfl
theorem c7:((Rows.repairEditsRow.knobs == []))=true:=by kernel_rfl
theorem c8:((checked.prog.stopKnobs == []))=true:=by kernel_rfl
theorem c9:((Rows.repairEditsRow.inPlace == checked.prog.inPlace 4))=true:=by kernel_rfl
theorem c10:((Rows.repairEditsRow.unfollowed == checked.prog.unfollowed 4))=true:=by kernel_rfl
theorem c11:((Rows.repairEditsRow.recurses == checked.prog.recurses 4))=true:=by kernel_rfl
theorem c12:((Rows.repairEditsRow.named == checked.prog.varsNamed 4))=true:=by kernel_rfl
theorem c13:((Rows.repairEditsRow.maps == (f4.params.toList++Rows.repairEditsSpec.plain.varTypes checked.prog).any (checked.prog.mapsRec ·)))=true:=by kernel_rfl
theorem c14:((Rows.repairEditsRow.ifaces == (f4.params.toList++Rows.repairEditsSpec.plain.varTypes checked.prog).any (checked.prog.ifacesRec ·)))=true:=by kernel_rfl
theorem c15:((Rows.repairEditsRow.mapsOut == checked.prog.mapsAmong f4.resultTypes.toList))=true:=by kernel_rfl
theorem c16:((Rows.repairEditsRow.loops == (f4.params.toList++Rows.repairEditsSpec.plain.varTypes checked.prog).any (checked.prog.loopsFrom ·)))=true:=by kernel_rfl
theorem c17:((Rows.repairEditsRow.wideKeys == (f4.params.toList++Rows.repairEditsSpec.plain.varTypes checked.prog++f4.resultTypes.toList).any (checked.prog.wideKeysFrom ·)))=true:=by kernel_rfl
theorem c18:(Rows.repairEditsSpec.vars.all (checked.prog.varReadable ·))=true:=by kernel_rfl
theorem c19:(f4.resultTypes.all (fun t=>checked.prog.readableRec t&&decide (t<checked.prog.types.size)))=true:=by kernel_rfl
theorem c20:((Rows.repairEditsRow.ifacesOut == f4.resultTypes.toList.any (checked.prog.ifacesRec ·)))=true:=by kernel_rfl
theorem c21:((Rows.repairEditsRow.loopsOut == f4.resultTypes.toList.any (checked.prog.loopsFrom ·)))=true:=by kernel_rfl
theorem c22:((Rows.repairEditsRow.plainKeys == checked.prog.plainKeys))=true:=by kernel_rfl
theorem c23:(Rows.repairEditsRow.shortTexts.isNone)=true:=by kernel_rfl
theorem c24:(checked.prog.stopsHeard)=true:=by kernel_rfl
theorem c25:(checked.prog.mayEnter)=true:=by kernel_rfl
theorem c26:((Rows.repairEditsRow.lifted == checked.prog.liftsFinal))=true:=by kernel_rfl
theorem c27:((checked.prog.make == some Rows.repairEditsRow.make))=true:=by kernel_rfl
theorem c28:((Rows.repairEditsRow.kinds == (if Rows.repairEditsRow.domain.isEmpty then [] else f4.params.toList.map fun t=>match checked.prog.underlying t with|some (.int k)=>some k|_=>none)))=true:=by kernel_rfl
theorem c29:((Rows.repairEditsRow.pinned == Rows.repairEditsRow.pinnedBy))=true:=by kernel_rfl
theorem c30:((Rows.repairEditsRow.veiled == (f4.params.toList++Rows.repairEditsSpec.plain.varTypes checked.prog++f4.resultTypes.toList).any (checked.prog.veiledRec ·)))=true:=by kernel_rfl
theorem c31:(Rows.repairEditsRow.veiledFits checked.prog f4.params.toList (f4.params.toList++Rows.repairEditsSpec.plain.varTypes checked.prog++f4.resultTypes.toList))=true:=by kernel_rfl
end ZFRepairEdits
namespace ZRepairEdits
open Go.RowKit Go.ChangeShapes Go.WideShapes
theorem qg{a b:Bool}(g:a=true)(i:b=true):(a&&b)=true:=by rw[g,i];rfl
set_option maxRecDepth 100000 in
theorem closed:joinedFacts checked.prog 4 f4 Rows.repairEditsSpec Rows.repairEditsRow=true:=by
 unfold joinedFacts;exact qg (qg (qg (qg (qg (qg (qg (qg (qg (qg (qg (qg (qg (qg (qg (qg (qg (qg (qg (qg (qg (qg (qg (qg (qg (qg (qg (qg (qg (qg (qg ZFRepairEdits.c0 ZFRepairEdits.c1) ZFRepairEdits.c2) ZFRepairEdits.c3) ZFRepairEdits.c4) ZFRepairEdits.c5) ZFRepairEdits.c6) ZFRepairEdits.c7) ZFRepairEdits.c8) ZFRepairEdits.c9) ZFRepairEdits.c10) ZFRepairEdits.c11) ZFRepairEdits.c12) ZFRepairEdits.c13) ZFRepairEdits.c14) ZFRepairEdits.c15) ZFRepairEdits.c16) ZFRepairEdits.c17) ZFRepairEdits.c18) ZFRepairEdits.c19) ZFRepairEdits.c20) ZFRepairEdits.c21) ZFRepairEdits.c22) ZFRepairEdits.c23) ZFRepairEdits.c24) ZFRepairEdits.c25) ZFRepairEdits.c26) ZFRepairEdits.c27) ZFRepairEdits.c28) ZFRepairEdits.c29) ZFRepairEdits.c30) ZFRepairEdits.c31
theorem said:Rows.RepairEditsSaid:=
 OpenClaim.holds_of_wide 4 f4 rfl rfl rfl rfl rfl rfl rfl ⟨rfl,rfl,rfl,rfl,rfl⟩ rfl rfl rfl rfl rfl zKr func4 closed
  (of_decide_eq_true zKr) (by unfold Func.isWrapper;first | (rw[if_pos (by decide +kernel)];kernel_rfl) | (rw[if_neg (by decide +kernel)];exact⟨rfl,rfl⟩))
  (fun os g H i _=>lifted os g H i)
end ZRepairEdits
namespace ZRepairEdits
open Go.RowKit Go.ChangeShapes Go.WideShapes
theorem holds:Rows.RepairEditsCardSaid:=
  Claim7.holds_tied_plain_at .later [] [.data, .data, .data] true (true, "4519e52442cf6c7a25f5359dc4d46a5105d9691e8a8523250a68182af80a7024") true
    said (fun _ h=>by cases h) (by as_aux_lemma=>kernel_rfl) (fun _ h=>by cases h) repairEdits_row_tie rfl ⟨rfl,rfl⟩ (by as_aux_lemma=>kernel_rfl) rfl
    (fun f fn hf i=>by
      obtain rfl : f = 4 := Option.some.inj ((show qb.funcNamed "armature/armaturelaw33.RepairEdits" = some 4 by kernel_rfl).symm.trans hf) |>.symm
      obtain rfl:fn=f4:=(Option.some.inj (func4.symm.trans i)).symm;exact⟨zKr,fun j t l=>by
        have o:f4.params=[27,40,43,48].toArray:=zKr;rw[o]at l;have p:t∈[27,40,43,48]:=by simpa using Array.mem_of_getElem? l
        have g:([27,40,43,48].all fun u=>!qb.wantsStandIn u)=true:=zKr;exact(show qb.wantsStandIn t=false by simpa using List.all_eq_true.1 g t p)⟩)
    (by as_aux_lemma=>kernel_rfl)
end ZRepairEdits
end Go.Proofs.YthkdjhkmlmjkbaaGreatDoor
