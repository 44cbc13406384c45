/-
  Proved: the tied card of armaturetop.TopDiffDistance: for every case, further picks and loop, the law returns true and leaves its arguments as they were. Conditions: the card's own (the tables of internal/strconv and math/bits are as the program's text lays them; loops end).
-/
import Derived.Test.YthkdjhkmlmjkbaaGreatDoorRows
import Derived.Test.YthkdjhkmlmjkbaaGreatDoorTie
import Derived.Test.YthkdjhkmlmjkbaaGreatDoorCards
import Derived.SevenTiedAt
import Derived.Test.YthkdjhkmlmjkbaaGreatDoorMg
set_option linter.unusedVariables false
set_option linter.unusedSimpArgs false
set_option maxRecDepth 100000
open Go renaming TypeId->qd,Value->qg
open Go.Proofs.Tryz renaming prog->qc
open List renaming append_nil->yj
namespace Go.Proofs.YthkdjhkmlmjkbaaGreatDoor
open Go Go.Ev Go.Proofs Tryz
namespace ZTopDiffDistance
open Go.EvW DL Go.RowKit Go.ChangeShapes Go.WideShapes
theorem law(g:DN.V1)(l:List (List Bool))(i:Int)(j:DO.okCs g)(r:True)(o:(0<=i/\i<=255)):qh qc 3 [.agg (DN.cCs g),GS.lBB l,.sc (.int .u8 i)] (aB true):=
 W70.qnE g.1 (fun x p=>Nat.le_trans (j.1.so x p) (Nat.le_of_ble_eq_true rfl)) g.2.1 g.2.2.1 j.2.1 g.2.2.2.1 g.2.2.2.2.1 g.2.2.2.2.2 j.2.2 l i o
set_option maxRecDepth 100000 in
theorem lifted(os:Os)(g:os.Started)(H:Type)(enc:qd×qg->H) :
  ReturnsInHanded {} checked os 3 .any (fun w args=>(Rows.topDiffDistanceSpec.pre enc qc f3 [] false w args/\laidMetH qc tabL w)/\sizedMet enc qc f3 (OpenSpec.ofChange Rows.topDiffDistanceSpec) false w args) (Rows.topDiffDistanceSpec.post enc qc f3 false true false false):=by
 refine returnsInHanded_of_change_and (C:=checked) (X:=fun w _=>laidMetH qc tabL w) (fun _ _ _ I h=>h.of_heap I) own g zKr func3
  (ChangeSpec.witness_shaped (enc:=enc) (C:=checked) (os:=os) (X:=fun w _=>laidMetH qc tabL w) false (World.doorLaid qc 4000 os) #[.agg #[.slice none 0 0,.slice none 0 0,.slice none 0 0,.slice none 0 0,.slice none 0 0,.int .i64 0,.slice none 0 0,.int .i64 0,.string ⟨#[]⟩,.int .i64 0,.slice none 0 0,.int .i64 0,.slice none 0 0,.int .u8 0],.slice none 0 0,.int .u8 0] 8 rfl (World.shaped_of_RefB zKr zKr) zKr zKr zKr (qnG os _)) ?_
 intro W base args o J i l t _ r P _;exact qi8 (ts:=[38,36,5]) (tb:=4) zKr (.cons DO.qnM (.cons DN.aBB (.cons DT.aU8 .nil))) rfl
  (fun H o h=>by match o,h with | [_,_,_],T=>rfl) zKr DT.nY laid zKr (fun a h=>law a.1 a.2.1 a.2.2.1 h.1 h.2.1 h.2.2.1) H enc W base args o J i l t (by
   obtain⟨p,q,hA,hV,_⟩:=t;obtain⟨rfl,_⟩:=trodVars_none hV;have j:(DataW.weightsEach qc ([38,36,5]++[]) (o++[])).all (·<=reachBytes)=true:=r;rw[yj,yj]at j;exact j) (qnF P)
end ZTopDiffDistance
namespace ZFTopDiffDistance
open Go.RowKit Go.ChangeShapes Go.WideShapes
theorem c0:(Rows.topDiffDistanceRow.wf (OpenSpec.ofChange Rows.topDiffDistanceSpec))=true:=by kernel_rfl
theorem c1:(laidOutB checked.prog)=true:=by kernel_rfl
theorem c2:(mapsRowed checked.prog)=true:=by kernel_rfl
theorem c3:(f3.params.all (checked.prog.readableRec ·))=true:=by kernel_rfl
theorem c4:(namedTie checked.prog Rows.topDiffDistanceRow.named Rows.topDiffDistanceSpec.vars)=true:=by kernel_rfl
theorem c5:((Rows.topDiffDistanceRow.stops == []))=true:=by kernel_rfl
theorem c6:((checked.prog.stops == []))=true:=by kernel_rfl
theorem c7:((Rows.topDiffDistanceRow.knobs == []))=true:=by kernel_rfl
theorem c8:((checked.prog.stopKnobs == []))=true:=by kernel_rfl
theorem c9:((Rows.topDiffDistanceRow.inPlace == checked.prog.inPlace 3))=true:=by kernel_rfl
theorem c10:((Rows.topDiffDistanceRow.unfollowed == checked.prog.unfollowed 3))=true:=by kernel_rfl
theorem c11:((Rows.topDiffDistanceRow.recurses == checked.prog.recurses 3))=true:=by kernel_rfl
theorem c12:((Rows.topDiffDistanceRow.named == checked.prog.varsNamed 3))=true:=by kernel_rfl
theorem c13:((Rows.topDiffDistanceRow.maps == (f3.params.toList++Rows.topDiffDistanceSpec.plain.varTypes checked.prog).any (checked.prog.mapsRec ·)))=true:=by kernel_rfl
theorem c14:((Rows.topDiffDistanceRow.ifaces == (f3.params.toList++Rows.topDiffDistanceSpec.plain.varTypes checked.prog).any (checked.prog.ifacesRec ·)))=true:=by kernel_rfl
theorem c15:((Rows.topDiffDistanceRow.mapsOut == checked.prog.mapsAmong f3.resultTypes.toList))=true:=by kernel_rfl
theorem c16:((Rows.topDiffDistanceRow.loops == (f3.params.toList++Rows.topDiffDistanceSpec.plain.varTypes checked.prog).any (checked.prog.loopsFrom ·)))=true:=by kernel_rfl
theorem c17:((Rows.topDiffDistanceRow.wideKeys == (f3.params.toList++Rows.topDiffDistanceSpec.plain.varTypes checked.prog++f3.resultTypes.toList).any (checked.prog.wideKeysFrom ·)))=true:=by kernel_rfl
theorem c18:(Rows.topDiffDistanceSpec.vars.all (checked.prog.varReadable ·))=true:=by kernel_rfl
theorem c19:(f3.resultTypes.all (fun t=>checked.prog.readableRec t&&decide (t<checked.prog.types.size)))=true:=by kernel_rfl
theorem c20:((Rows.topDiffDistanceRow.ifacesOut == f3.resultTypes.toList.any (checked.prog.ifacesRec ·)))=true:=by kernel_rfl
theorem c21:((Rows.topDiffDistanceRow.loopsOut == f3.resultTypes.toList.any (checked.prog.loopsFrom ·)))=true:=by kernel_rfl
theorem c22:((Rows.topDiffDistanceRow.plainKeys == checked.prog.plainKeys))=true:=by kernel_rfl
theorem c23:(Rows.topDiffDistanceRow.shortTexts.isNone)=true:=by kernel_rfl
theorem c24:(checked.prog.stopsHeard)=true:=by kernel_rfl
theorem c25:(checked.prog.mayEnter)=true:=by kernel_rfl
theorem c26:((Rows.topDiffDistanceRow.lifted == checked.prog.liftsFinal))=true:=by kernel_rfl
theorem c27:((checked.prog.make == some Rows.topDiffDistanceRow.make))=true:=by kernel_rfl
theorem c28:((Rows.topDiffDistanceRow.kinds == (if Rows.topDiffDistanceRow.domain.isEmpty then [] else f3.params.toList.map fun t=>match checked.prog.underlying t with|some (.int k)=>some k|_=>none)))=true:=by kernel_rfl
theorem c29:((Rows.topDiffDistanceRow.pinned == Rows.topDiffDistanceRow.pinnedBy))=true:=by kernel_rfl
theorem c30:((Rows.topDiffDistanceRow.veiled == (f3.params.toList++Rows.topDiffDistanceSpec.plain.varTypes checked.prog++f3.resultTypes.toList).any (checked.prog.veiledRec ·)))=true:=by kernel_rfl
theorem c31:(Rows.topDiffDistanceRow.veiledFits checked.prog f3.params.toList (f3.params.toList++Rows.topDiffDistanceSpec.plain.varTypes checked.prog++f3.resultTypes.toList))=true:=by kernel_rfl
end ZFTopDiffDistance
namespace ZTopDiffDistance
open Go.RowKit Go.ChangeShapes Go.WideShapes
theorem zu{a b:Bool}(g:a=true)(i:b=true):(a&&b)=true:=by rw[g,i];rfl
set_option maxRecDepth 100000 in
theorem closed:joinedFacts checked.prog 3 f3 Rows.topDiffDistanceSpec Rows.topDiffDistanceRow=true:=by
 unfold joinedFacts;exact zu (zu (zu (zu (zu (zu (zu (zu (zu (zu (zu (zu (zu (zu (zu (zu (zu (zu (zu (zu (zu (zu (zu (zu (zu (zu (zu (zu (zu (zu (zu ZFTopDiffDistance.c0 ZFTopDiffDistance.c1) ZFTopDiffDistance.c2) ZFTopDiffDistance.c3) ZFTopDiffDistance.c4) ZFTopDiffDistance.c5) ZFTopDiffDistance.c6) ZFTopDiffDistance.c7) ZFTopDiffDistance.c8) ZFTopDiffDistance.c9) ZFTopDiffDistance.c10) ZFTopDiffDistance.c11) ZFTopDiffDistance.c12) ZFTopDiffDistance.c13) ZFTopDiffDistance.c14) ZFTopDiffDistance.c15) ZFTopDiffDistance.c16) ZFTopDiffDistance.c17) ZFTopDiffDistance.c18) ZFTopDiffDistance.c19) ZFTopDiffDistance.c20) ZFTopDiffDistance.c21) ZFTopDiffDistance.c22) ZFTopDiffDistance.c23) ZFTopDiffDistance.c24) ZFTopDiffDistance.c25) ZFTopDiffDistance.c26) ZFTopDiffDistance.c27) ZFTopDiffDistance.c28) ZFTopDiffDistance.c29) ZFTopDiffDistance.c30) ZFTopDiffDistance.c31
theorem said:Rows.TopDiffDistanceSaid:=
 OpenClaim.holds_of_wide 3 f3 rfl rfl rfl rfl rfl rfl rfl ⟨rfl,rfl,rfl,rfl,rfl⟩ rfl rfl rfl rfl rfl zKr func3 closed
  (of_decide_eq_true zKr) (by unfold Func.isWrapper;first | (rw[if_pos (by decide +kernel)];kernel_rfl) | (rw[if_neg (by decide +kernel)];exact⟨rfl,rfl⟩))
  (fun os g H i _=>lifted os g H i)
end ZTopDiffDistance
namespace ZTopDiffDistance
open Go.RowKit Go.ChangeShapes Go.WideShapes
theorem holds:Rows.TopDiffDistanceCardSaid:=
  Claim7.holds_tied_plain_at .later [] [.data, .data, .data] true (true, "4519e52442cf6c7a25f5359dc4d46a5105d9691e8a8523250a68182af80a7024") true
    said (fun _ h=>by cases h) (by as_aux_lemma=>kernel_rfl) (fun _ h=>by cases h) topDiffDistance_row_tie rfl ⟨rfl,rfl⟩ (by as_aux_lemma=>kernel_rfl) rfl
    (fun f fn hf i=>by
      obtain rfl : f = 3 := Option.some.inj ((show qc.funcNamed "armature/armaturetop.TopDiffDistance" = some 3 by kernel_rfl).symm.trans hf) |>.symm
      obtain rfl:fn=f3:=(Option.some.inj (func3.symm.trans i)).symm;exact⟨zKr,fun j t l=>by
        have o:f3.params=[38,36,5].toArray:=zKr;rw[o]at l;have p:t∈[38,36,5]:=by simpa using Array.mem_of_getElem? l
        have g:([38,36,5].all fun u=>!qc.wantsStandIn u)=true:=zKr;exact(show qc.wantsStandIn t=false by simpa using List.all_eq_true.1 g t p)⟩)
    (by as_aux_lemma=>kernel_rfl)
end ZTopDiffDistance
end Go.Proofs.YthkdjhkmlmjkbaaGreatDoor
