/-
  Proved: the tied card of armaturelaw25.BruteOrder: for every case, further picks and loops, the law returns true and leaves its arguments as they were. Conditions: the card's own (the tables of internal/strconv and math/bits are as the program's text lays them; loops end).
-/
import Derived.Test.YtahmfpfdgiemoaaGreatDoorRows
import Derived.Test.YtahmfpfdgiemoaaGreatDoorTie
import Derived.Test.YtahmfpfdgiemoaaGreatDoorCards
import Derived.SevenTiedAt
import Derived.Test.YtahmfpfdgiemoaaGreatDoorMi
set_option linter.unusedVariables false
set_option linter.unusedSimpArgs false
set_option maxRecDepth 100000
open Go renaming TypeId->qc,Value->qe
open Go.Proofs.Tryz renaming prog->qg
open List renaming append_nil->zN
namespace Go.Proofs.YtahmfpfdgiemoaaGreatDoor
open Go Go.Ev Go.Proofs Tryz
namespace ZBruteOrder
open Go.EvW DL Go.RowKit Go.ChangeShapes Go.WideShapes
theorem law(g:DN.Wh)(l:List (List Bool))(o:List (List Bool))(i:Int×Int)(j:DO.okCs g)(t:True)(C:True)(p:((0<=i.1/\i.1<=255)/\(0<=i.2/\i.2<=255))):qj qg 3 [.agg (DN.cCs g),GS.lBB l,GS.lBB o,.agg [W41.u8 i.1,W41.u8 i.2]] (aB true):=
 W43.qsN g.1 (fun x r=>Nat.le_trans (j.1.so x r) (Nat.le_of_ble_eq_true rfl)) g.2.1 g.2.2.1 j.2.1 g.2.2.2.1 g.2.2.2.2.1 g.2.2.2.2.2 j.2.2 l o i.1 i.2 p.1 p.2
set_option maxRecDepth 100000 in
theorem lifted(os:Os)(g:os.Started)(H:Type)(enc:qc×qe->H) :
  ReturnsInHanded {} checked os 3 .any (fun w args=>(Rows.bruteOrderSpec.pre enc qg f3 [] false w args/\laidMetH qg tabL w)/\sizedMet enc qg f3 (OpenSpec.ofChange Rows.bruteOrderSpec) false w args) (Rows.bruteOrderSpec.post enc qg f3 false true false false):=by
 refine returnsInHanded_of_change_and (C:=checked) (X:=fun w _=>laidMetH qg tabL w) (fun _ _ _ I h=>h.of_heap I) own g zKr func3
  (ChangeSpec.witness_shaped (enc:=enc) (C:=checked) (os:=os) (X:=fun w _=>laidMetH qg tabL w) false (World.doorLaid qg 4000 os) #[.agg #[.slice none 0 0,.slice none 0 0,.slice none 0 0,.slice none 0 0,.slice none 0 0,.int .i64 0,.slice none 0 0,.int .i64 0,.string ⟨#[]⟩,.int .i64 0,.slice none 0 0,.int .i64 0,.slice none 0 0,.int .u8 0],.slice none 0 0,.slice none 0 0,.agg #[.int .u8 0,.int .u8 0]] 8 rfl (World.shaped_of_RefB zKr zKr) zKr zKr zKr (qsP os _)) ?_
 intro W base args o J i l t _ r P _;exact qn6 (ts:=[38,36,36,39]) (tb:=4) zKr (.cons DO.qsW (.cons DN.aBB (.cons DN.aBB (.cons DN.aTwo .nil)))) rfl
  (fun H o h=>by match o,h with | [_,_,_,_],T=>rfl) zKr DT.qbL laid zKr (fun a h=>law a.1 a.2.1 a.2.2.1 a.2.2.2.1 h.1 h.2.1 h.2.2.1 h.2.2.2.1) H enc W base args o J i l t (by
   obtain⟨p,q,hA,hV,_⟩:=t;obtain⟨rfl,_⟩:=trodVars_none hV;have j:(DataW.weightsEach qg ([38,36,36,39]++[]) (o++[])).all (·<=reachBytes)=true:=r;rw[zN,zN]at j;exact j) (qsO P)
end ZBruteOrder
namespace ZFBruteOrder
open Go.RowKit Go.ChangeShapes Go.WideShapes
theorem c0:(Rows.bruteOrderRow.wf (OpenSpec.ofChange Rows.bruteOrderSpec))=true:=by kernel_rfl
theorem c1:(laidOutB checked.prog)=true:=by kernel_rfl
theorem c2:(mapsRowed checked.prog)=true:=by kernel_rfl
theorem c3:(f3.params.all (checked.prog.readableRec ·))=true:=by kernel_rfl
theorem c4:(namedTie checked.prog Rows.bruteOrderRow.named Rows.bruteOrderSpec.vars)=true:=by kernel_rfl
theorem c5:((Rows.bruteOrderRow.stops == []))=true:=by kernel_rfl
theorem c6:((checked.prog.stops == []))=true:=by kernel_rfl
theorem c7:((Rows.bruteOrderRow.knobs == []))=true:=by kernel_rfl
theorem c8:((checked.prog.stopKnobs == []))=true:=by kernel_rfl
theorem c9:((Rows.bruteOrderRow.inPlace == checked.prog.inPlace 3))=true:=by kernel_rfl
theorem c10:((Rows.bruteOrderRow.unfollowed == checked.prog.unfollowed 3))=true:=by kernel_rfl
theorem c11:((Rows.bruteOrderRow.recurses == checked.prog.recurses 3))=true:=by kernel_rfl
theorem c12:((Rows.bruteOrderRow.named == checked.prog.varsNamed 3))=true:=by kernel_rfl
theorem c13:((Rows.bruteOrderRow.maps == (f3.params.toList++Rows.bruteOrderSpec.plain.varTypes checked.prog).any (checked.prog.mapsRec ·)))=true:=by kernel_rfl
theorem c14:((Rows.bruteOrderRow.ifaces == (f3.params.toList++Rows.bruteOrderSpec.plain.varTypes checked.prog).any (checked.prog.ifacesRec ·)))=true:=by kernel_rfl
theorem c15:((Rows.bruteOrderRow.mapsOut == checked.prog.mapsAmong f3.resultTypes.toList))=true:=by kernel_rfl
theorem c16:((Rows.bruteOrderRow.loops == (f3.params.toList++Rows.bruteOrderSpec.plain.varTypes checked.prog).any (checked.prog.loopsFrom ·)))=true:=by kernel_rfl
theorem c17:((Rows.bruteOrderRow.wideKeys == (f3.params.toList++Rows.bruteOrderSpec.plain.varTypes checked.prog++f3.resultTypes.toList).any (checked.prog.wideKeysFrom ·)))=true:=by kernel_rfl
theorem c18:(Rows.bruteOrderSpec.vars.all (checked.prog.varReadable ·))=true:=by kernel_rfl
theorem c19:(f3.resultTypes.all (fun t=>checked.prog.readableRec t&&decide (t<checked.prog.types.size)))=true:=by kernel_rfl
theorem c20:((Rows.bruteOrderRow.ifacesOut == f3.resultTypes.toList.any (checked.prog.ifacesRec ·)))=true:=by kernel_rfl
theorem c21:((Rows.bruteOrderRow.loopsOut == f3.resultTypes.toList.any (checked.prog.loopsFrom ·)))=true:=by kernel_rfl
theorem c22:((Rows.bruteOrderRow.plainKeys == checked.prog.plainKeys))=true:=by kernel_rfl
theorem c23:(Rows.bruteOrderRow.shortTexts.isNone)=true:=by kernel_rfl
theorem c24:(checked.prog.stopsHeard)=true:=by kernel_rfl
theorem c25:(checked.prog.mayEnter)=true:=by kernel_rfl
theorem c26:((Rows.bruteOrderRow.lifted == checked.prog.liftsFinal))=true:=by kernel_rfl
theorem c27:((checked.prog.make == some Rows.bruteOrderRow.make))=true:=by kernel_rfl
theorem c28:((Rows.bruteOrderRow.kinds == (if Rows.bruteOrderRow.domain.isEmpty then [] else f3.params.toList.map fun t=>match checked.prog.underlying t with|some (.int k)=>some k|_=>none)))=true:=by kernel_rfl
theorem c29:((Rows.bruteOrderRow.pinned == Rows.bruteOrderRow.pinnedBy))=true:=by kernel_rfl
theorem c30:((Rows.bruteOrderRow.veiled == (f3.params.toList++Rows.bruteOrderSpec.plain.varTypes checked.prog++f3.resultTypes.toList).any (checked.prog.veiledRec ·)))=true:=by kernel_rfl
theorem c31:(Rows.bruteOrderRow.veiledFits checked.prog f3.params.toList (f3.params.toList++Rows.bruteOrderSpec.plain.varTypes checked.prog++f3.resultTypes.toList))=true:=by kernel_rfl
end ZFBruteOrder
namespace ZBruteOrder
open Go.RowKit Go.ChangeShapes Go.WideShapes
theorem zZ{a b:Bool}(g:a=true)(i:b=true):(a&&b)=true:=by rw[g,i];rfl
set_option maxRecDepth 100000 in
theorem closed:joinedFacts checked.prog 3 f3 Rows.bruteOrderSpec Rows.bruteOrderRow=true:=by
 unfold joinedFacts;exact zZ (zZ (zZ (zZ (zZ (zZ (zZ (zZ (zZ (zZ (zZ (zZ (zZ (zZ (zZ (zZ (zZ (zZ (zZ (zZ (zZ (zZ (zZ (zZ (zZ (zZ (zZ (zZ (zZ (zZ (zZ ZFBruteOrder.c0 ZFBruteOrder.c1) ZFBruteOrder.c2) ZFBruteOrder.c3) ZFBruteOrder.c4) ZFBruteOrder.c5) ZFBruteOrder.c6) ZFBruteOrder.c7) ZFBruteOrder.c8) ZFBruteOrder.c9) ZFBruteOrder.c10) ZFBruteOrder.c11) ZFBruteOrder.c12) ZFBruteOrder.c13) ZFBruteOrder.c14) ZFBruteOrder.c15) ZFBruteOrder.c16) ZFBruteOrder.c17) ZFBruteOrder.c18) ZFBruteOrder.c19) ZFBruteOrder.c20) ZFBruteOrder.c21) ZFBruteOrder.c22) ZFBruteOrder.c23) ZFBruteOrder.c24) ZFBruteOrder.c25) ZFBruteOrder.c26) ZFBruteOrder.c27) ZFBruteOrder.c28) ZFBruteOrder.c29) ZFBruteOrder.c30) ZFBruteOrder.c31
theorem said:Rows.BruteOrderSaid:=
 OpenClaim.holds_of_wide 3 f3 rfl rfl rfl rfl rfl rfl rfl ⟨rfl,rfl,rfl,rfl,rfl⟩ rfl rfl rfl rfl rfl zKr func3 closed
  (of_decide_eq_true zKr) (by unfold Func.isWrapper;first | (rw[if_pos (by decide +kernel)];kernel_rfl) | (rw[if_neg (by decide +kernel)];exact⟨rfl,rfl⟩))
  (fun os g H i _=>lifted os g H i)
end ZBruteOrder
namespace ZBruteOrder
open Go.RowKit Go.ChangeShapes Go.WideShapes
theorem holds:Rows.BruteOrderCardSaid:=
  Claim7.holds_tied_plain_at .later [] [.data, .data, .data] true (true, "1343b9d6e998a3f2d00a034edd9f9788541f27490fda10ebdc22fb916c391e0a") true
    said (fun _ h=>by cases h) (by as_aux_lemma=>kernel_rfl) (fun _ h=>by cases h) bruteOrder_row_tie rfl ⟨rfl,rfl⟩ (by as_aux_lemma=>kernel_rfl) rfl
    (fun f fn hf i=>by
      obtain rfl : f = 3 := Option.some.inj ((show qg.funcNamed "armature/armaturelaw25.BruteOrder" = some 3 by kernel_rfl).symm.trans hf) |>.symm
      obtain rfl:fn=f3:=(Option.some.inj (func3.symm.trans i)).symm;exact⟨zKr,fun j t l=>by
        have o:f3.params=[38,36,36,39].toArray:=zKr;rw[o]at l;have p:t∈[38,36,36,39]:=by simpa using Array.mem_of_getElem? l
        have g:([38,36,36,39].all fun u=>!qg.wantsStandIn u)=true:=zKr;exact(show qg.wantsStandIn t=false by simpa using List.all_eq_true.1 g t p)⟩)
    (by as_aux_lemma=>kernel_rfl)
end ZBruteOrder
end Go.Proofs.YtahmfpfdgiemoaaGreatDoor
