/-
  Proved: the tied card of the second form of armaturelaw33.RepairComposes: for every specification, bounds, model and two lists of edits, where what is read is of bulk at most 1048576, the law returns true and leaves its arguments as they were. Conditions: that bound and the card's own (the tables of internal/strconv and math/bits are as the program's text lays them; loops end).
-/
import Derived.Test.YthkdjhkmlmjkbaaGreatDoorRows
import Derived.Test.YthkdjhkmlmjkbaaGreatDoorTie
import Derived.Test.YthkdjhkmlmjkbaaGreatDoorCards
import Derived.Deep.DeepHandedRow
import Derived.Deep.DeepWitnessRowRef
import Derived.SevenTiedAt
import Derived.Test.YthkdjhkmlmjkbaaGreatDoorMf
set_option linter.unusedVariables false
set_option linter.unusedSimpArgs false
set_option maxRecDepth 100000
open Go renaming Value->j3,TypeId->j1
open Go.Proofs.Tryz renaming prog->qb
open List renaming append_nil->zA
namespace Go.Proofs.YthkdjhkmlmjkbaaGreatDoor
open Go Go.Ev Go.Proofs Tryz
namespace ZRepairComposesUpto
open DL P1 YF E3 Go.RowKit Go.ChangeShapes Go.WideShapes
theorem law(g:TS)(l:List Bd)(o:Md)(i j:List GB.Ed)(p:DT.okTA g)(h:i.length+j.length<=4294967296):qd qb 5 [eTS g,lBd l,eMd o,HF1.lEd i,HF1.lEd j] (aB true):=
 W61.qfZ g (fun x r=>Nat.le_trans (p.so x r) (Nat.le_of_ble_eq_true rfl)) l o i j h
theorem qf2(os:Os)(args:Array j3):laidMetH qb tabL ((World.doorLaid qb 4000 os).forCall (fun _ _=>0) ⟨#[],args,[]⟩).memory:=Ja os args
abbrev UM:Array j3:=#[.agg #[.slice none 0 0,.slice none 0 0,.slice none 0 0,.slice none 0 0],.slice none 0 0,.agg #[.slice none 0 0,.int .i64 0,.slice none 0 0,.int .i64 0],.slice none 0 0,.slice none 0 0]
theorem reads(os:Os){H:Type}(enc:j1×j3->H):∃ g,DataW.whole enc qb ((World.doorLaid qb 4000 os).forCall (fun _ _=>0) ⟨#[],UM,[]⟩).memory f5.params.toList Rows.repairComposesSpec.vars false UM.toList 8=some ([.agg [.nil,.nil,.nil,.nil],.nil,.agg [.agg [.nil,.lit (.int .i64 0)],.nil,.lit (.int .i64 0)],.nil,.nil],[],g):=
 ⟨[],zKr⟩
set_option maxRecDepth 100000 in
theorem lifted(os:Os)(g:os.Started)(H:Type)(enc:j1×j3->H)(F:Stop.Interp) :
  ReturnsInHanded {} checked os 5 .any ((Rows.OpenSpec.upto Rows.repairComposesSpec).preRow enc qb f5 Rows.repairComposesUptoRow.domain false Rows.repairComposesUptoRow.laid) (((Rows.OpenSpec.upto Rows.repairComposesSpec).at F).post enc qb f5 false true false false):=by
 obtain⟨I,hx⟩:=reads os enc;refine returnsInHanded_of_row (C:=checked) (s:=Rows.OpenSpec.upto Rows.repairComposesSpec) own g zKr func5
  (witness_row_atRef (enc:=enc) (C:=checked) false (World.doorLaid qb 4000 os) UM rfl zKr zKr zKr
   (OpenSpec.preRow_of_cond 8 hx zKr (fun k J=>by cases J;kernel_rfl) zKr (qf2 os _))) ?_
 intro W base args o gs i r P _ l T hL _ _;have J:=l _ rfl;have t:Rows.uptoBulkAll (o++gs)<=1048576:=of_decide_eq_true J;refine HZ.qf0 (s:=Rows.repairComposesSpec) (ts:=[27,40,43,48,48]) (tb:=4) (ok2:=fun a=>a.2.2.2.1.length+a.2.2.2.2.1.length<=4294967296) zKr (.cons DT.Yx (.cons HX.Jb (.cons DM.Zo (.cons HX.Jc (.cons HX.Jc .nil))))) rfl
  (fun H o h=>by match o,h with | [_,_,_,_,_],a1=>rfl) zKr DT.Zc laid zKr (fun a h h2=>law a.1 a.2.1 a.2.2.1 a.2.2.2.1 a.2.2.2.2.1 h.1 h2) H enc W base args o gs i r P (by
   obtain⟨p,q,hA,U,_⟩:=P;obtain⟨rfl,_⟩:=trodVars_none U;have j:(DataW.weightsEach qb ([27,40,43,48,48]++[]) (o++[])).all (·<=reachBytes)=true:=T;rw[zA,zA]at j;exact j) (fun a hv=>?_) (Y0 hL)
 obtain⟨p,q,hA,U,_⟩:=P;obtain⟨rfl,_⟩:=trodVars_none U;rw[zA]at t;have a0:DataW.TrodAll enc qb W 0 (fun _=>true) true [27,40,43,48,48] args.toList o p:=hA;obtain⟨v0,a2,d0,a3,p0,q0,e0,rfl,_,_,r0⟩:=trodAll_cons a0;obtain⟨v1,a4,d1,a5,p1,q1,rfl,rfl,_,_,r1⟩:=trodAll_cons r0;obtain⟨v2,a6,d2,a7,p2,q2,rfl,rfl,_,_,r2⟩:=trodAll_cons r1;obtain⟨v3,a8,d3,a9,p3,q3,rfl,rfl,_,h3,r3⟩:=trodAll_cons r2;obtain⟨v4,aa,d4,ab,p4,q4,rfl,rfl,_,h4,r4⟩:=trodAll_cons r3;rw[e0]at hv;have l3:=HZ.pm h3 (hv 3 _ rfl);have l4:=HZ.pm h4 (hv 4 _ rfl);simp only[Rows.uptoBulkAll]at t;show a.2.2.2.1.length+a.2.2.2.2.1.length<=_;omega
end ZRepairComposesUpto
namespace ZFRepairComposesUpto
open Go.RowKit Go.ChangeShapes Go.WideShapes
theorem c0:(Rows.repairComposesUptoRow.wf (OpenSpec.ofChange Rows.repairComposesSpec))=true:=by kernel_rfl
theorem c1:(laidOutB checked.prog)=true:=by kernel_rfl
theorem c2:(mapsRowed checked.prog)=true:=by kernel_rfl
theorem c3:(f5.params.all (checked.prog.readableRec ·))=true:=by kernel_rfl
theorem c4:(namedTie checked.prog Rows.repairComposesUptoRow.named Rows.repairComposesSpec.vars)=true:=by kernel_rfl
theorem c5:((Rows.repairComposesUptoRow.stops == []))=true:=by kernel_rfl
theorem c6:((checked.prog.stops == []))=true:=by kernel_rfl
theorem c7:((Rows.repairComposesUptoRow.knobs == []))=true:=by kernel_rfl
theorem c8:((checked.prog.stopKnobs == []))=true:=by kernel_rfl
theorem c9:((Rows.repairComposesUptoRow.inPlace == checked.prog.inPlace 5))=true:=by kernel_rfl
theorem c10:((Rows.repairComposesUptoRow.unfollowed == checked.prog.unfollowed 5))=true:=by kernel_rfl
theorem c11:((Rows.repairComposesUptoRow.recurses == checked.prog.recurses 5))=true:=by kernel_rfl
theorem c12:((Rows.repairComposesUptoRow.named == checked.prog.varsNamed 5))=true:=by kernel_rfl
theorem c13:((Rows.repairComposesUptoRow.maps == (f5.params.toList++Rows.repairComposesSpec.plain.varTypes checked.prog).any (checked.prog.mapsRec ·)))=true:=by kernel_rfl
theorem c14:((Rows.repairComposesUptoRow.ifaces == (f5.params.toList++Rows.repairComposesSpec.plain.varTypes checked.prog).any (checked.prog.ifacesRec ·)))=true:=by kernel_rfl
theorem c15:((Rows.repairComposesUptoRow.mapsOut == checked.prog.mapsAmong f5.resultTypes.toList))=true:=by kernel_rfl
theorem c16:((Rows.repairComposesUptoRow.loops == (f5.params.toList++Rows.repairComposesSpec.plain.varTypes checked.prog).any (checked.prog.loopsFrom ·)))=true:=by kernel_rfl
theorem c17:((Rows.repairComposesUptoRow.wideKeys == (f5.params.toList++Rows.repairComposesSpec.plain.varTypes checked.prog++f5.resultTypes.toList).any (checked.prog.wideKeysFrom ·)))=true:=by kernel_rfl
theorem c18:(Rows.repairComposesSpec.vars.all (checked.prog.varReadable ·))=true:=by kernel_rfl
theorem c19:(f5.resultTypes.all (fun t=>checked.prog.readableRec t&&decide (t<checked.prog.types.size)))=true:=by kernel_rfl
theorem c20:((Rows.repairComposesUptoRow.ifacesOut == f5.resultTypes.toList.any (checked.prog.ifacesRec ·)))=true:=by kernel_rfl
theorem c21:((Rows.repairComposesUptoRow.loopsOut == f5.resultTypes.toList.any (checked.prog.loopsFrom ·)))=true:=by kernel_rfl
theorem c22:((Rows.repairComposesUptoRow.plainKeys == checked.prog.plainKeys))=true:=by kernel_rfl
theorem c23:(Rows.repairComposesUptoRow.shortTexts.isNone)=true:=by kernel_rfl
theorem c24:(checked.prog.stopsHeard)=true:=by kernel_rfl
theorem c25:(checked.prog.mayEnter)=true:=by kernel_rfl
theorem c26:((Rows.repairComposesUptoRow.lifted == checked.prog.liftsFinal))=true:=by kernel_rfl
theorem c27:((checked.prog.make == some Rows.repairComposesUptoRow.make))=true:=by kernel_rfl
theorem c28:((Rows.repairComposesUptoRow.kinds == (if Rows.repairComposesUptoRow.domain.isEmpty then [] else f5.params.toList.map fun t=>match checked.prog.underlying t with|some (.int k)=>some k|_=>none)))=true:=by kernel_rfl
theorem c29:((Rows.repairComposesUptoRow.pinned == Rows.repairComposesUptoRow.pinnedBy))=true:=by kernel_rfl
theorem c30:((Rows.repairComposesUptoRow.veiled == (f5.params.toList++Rows.repairComposesSpec.plain.varTypes checked.prog++f5.resultTypes.toList).any (checked.prog.veiledRec ·)))=true:=by kernel_rfl
theorem c31:(Rows.repairComposesUptoRow.veiledFits checked.prog f5.params.toList (f5.params.toList++Rows.repairComposesSpec.plain.varTypes checked.prog++f5.resultTypes.toList))=true:=by kernel_rfl
end ZFRepairComposesUpto
namespace ZRepairComposesUpto
open Go.RowKit Go.ChangeShapes Go.WideShapes
theorem qg{a b:Bool}(g:a=true)(i:b=true):(a&&b)=true:=by rw[g,i];rfl
set_option maxRecDepth 100000 in
theorem closed:joinedFacts checked.prog 5 f5 Rows.repairComposesSpec Rows.repairComposesUptoRow=true:=by
 unfold joinedFacts;exact qg (qg (qg (qg (qg (qg (qg (qg (qg (qg (qg (qg (qg (qg (qg (qg (qg (qg (qg (qg (qg (qg (qg (qg (qg (qg (qg (qg (qg (qg (qg ZFRepairComposesUpto.c0 ZFRepairComposesUpto.c1) ZFRepairComposesUpto.c2) ZFRepairComposesUpto.c3) ZFRepairComposesUpto.c4) ZFRepairComposesUpto.c5) ZFRepairComposesUpto.c6) ZFRepairComposesUpto.c7) ZFRepairComposesUpto.c8) ZFRepairComposesUpto.c9) ZFRepairComposesUpto.c10) ZFRepairComposesUpto.c11) ZFRepairComposesUpto.c12) ZFRepairComposesUpto.c13) ZFRepairComposesUpto.c14) ZFRepairComposesUpto.c15) ZFRepairComposesUpto.c16) ZFRepairComposesUpto.c17) ZFRepairComposesUpto.c18) ZFRepairComposesUpto.c19) ZFRepairComposesUpto.c20) ZFRepairComposesUpto.c21) ZFRepairComposesUpto.c22) ZFRepairComposesUpto.c23) ZFRepairComposesUpto.c24) ZFRepairComposesUpto.c25) ZFRepairComposesUpto.c26) ZFRepairComposesUpto.c27) ZFRepairComposesUpto.c28) ZFRepairComposesUpto.c29) ZFRepairComposesUpto.c30) ZFRepairComposesUpto.c31
set_option maxRecDepth 100000 in
theorem said:Rows.RepairComposesUptoSaid:=
 OpenClaim.holds_of_cond 5 f5 rfl rfl rfl rfl rfl rfl rfl ⟨rfl,rfl,rfl,rfl,rfl⟩ rfl rfl rfl rfl rfl zKr func5 closed
  (of_decide_eq_true zKr) (by unfold Func.isWrapper;first | (rw[if_pos (by decide +kernel)];kernel_rfl) | (rw[if_neg (by decide +kernel)];exact⟨rfl,rfl⟩))
  (fun os g H i _ F=>by rw[OpenClaim.pre_eq_preRow];exact lifted os g H i F)
end ZRepairComposesUpto
namespace ZRepairComposesUpto
open Go.RowKit Go.ChangeShapes Go.WideShapes
theorem holds:Rows.RepairComposesUptoCardSaid:=
  Claim7.holds_tied_plain_at .later [] [.data, .data, .data] true (true, "4519e52442cf6c7a25f5359dc4d46a5105d9691e8a8523250a68182af80a7024") true
    said (fun _ h=>by cases h) (by as_aux_lemma=>kernel_rfl) (fun _ h=>by cases h) repairComposesUpto_row_tie rfl ⟨rfl,rfl⟩ (by as_aux_lemma=>kernel_rfl) rfl
    (fun f fn hf i=>by
      obtain rfl : f = 5 := Option.some.inj ((show qb.funcNamed "armature/armaturelaw33.RepairComposes" = some 5 by kernel_rfl).symm.trans hf) |>.symm
      obtain rfl:fn=f5:=(Option.some.inj (func5.symm.trans i)).symm;exact⟨zKr,fun j t l=>by
        have o:f5.params=[27,40,43,48,48].toArray:=zKr;rw[o]at l;have p:t∈[27,40,43,48,48]:=by simpa using Array.mem_of_getElem? l
        have g:([27,40,43,48,48].all fun u=>!qb.wantsStandIn u)=true:=zKr;exact(show qb.wantsStandIn t=false by simpa using List.all_eq_true.1 g t p)⟩)
    (by as_aux_lemma=>kernel_rfl)
end ZRepairComposesUpto
end Go.Proofs.YthkdjhkmlmjkbaaGreatDoor
