/-
  Proved: the tied card of armaturelaw25.BruteInstances: for every case, the law returns true and leaves its arguments as they were. Conditions: the card's own (the tables of internal/strconv and math/bits are as the program's text lays them; loops end).
-/
import Derived.Test.YtahmfpfdgiemoaaGreatDoorRows
import Derived.Test.YtahmfpfdgiemoaaGreatDoorTie
import Derived.Test.YtahmfpfdgiemoaaGreatDoorCards
import Derived.SevenTiedAt
import Derived.Test.YtahmfpfdgiemoaaGreatDoorMg
set_option linter.unusedVariables false
set_option linter.unusedSimpArgs false
set_option maxRecDepth 100000
open Go renaming TypeId->j1,Value->j3
open Go.Proofs.Tryz renaming prog->qb
open List renaming append_nil->zL
namespace Go.Proofs.YtahmfpfdgiemoaaGreatDoor
open Go Go.Ev Go.Proofs Tryz
namespace ZBruteInstances
open Go.EvW DL Go.RowKit Go.ChangeShapes Go.WideShapes
theorem law(g:DN.VP)(i:DO.okCs g):qd qb 7 [.agg (DN.cCs g)] (aB true):=
 W52.qk8 g.1 (fun x j=>Nat.le_trans (i.1.so x j) (Nat.le_of_ble_eq_true rfl)) g.2.1 g.2.2.1 i.2.1 g.2.2.2.1 g.2.2.2.2.1 g.2.2.2.2.2 i.2.2
set_option maxRecDepth 100000 in
theorem lifted(os:Os)(g:os.Started)(H:Type)(enc:j1×j3->H) :
  ReturnsInHanded {} checked os 7 .any (fun w args=>(Rows.bruteInstancesSpec.pre enc qb f7 [] false w args/\laidMetH qb tabL w)/\sizedMet enc qb f7 (OpenSpec.ofChange Rows.bruteInstancesSpec) false w args) (Rows.bruteInstancesSpec.post enc qb f7 false true false false):=by
 refine returnsInHanded_of_change_and (C:=checked) (X:=fun w _=>laidMetH qb tabL w) (fun _ _ _ I h=>h.of_heap I) own g zKr func7
  (ChangeSpec.witness_shaped (enc:=enc) (C:=checked) (os:=os) (X:=fun w _=>laidMetH qb tabL w) false (World.doorLaid qb 4000 os) #[.agg #[.slice none 0 0,.slice none 0 0,.slice none 0 0,.slice none 0 0,.slice none 0 0,.int .i64 0,.slice none 0 0,.int .i64 0,.string ⟨#[]⟩,.int .i64 0,.slice none 0 0,.int .i64 0,.slice none 0 0,.int .u8 0]] 8 rfl (World.shaped_of_RefB zKr zKr) zKr zKr zKr (qlA os _)) ?_
 intro W base args o P i l t _ r R _;exact qhE (ts:=[38]) (tb:=4) zKr (.cons DO.qlG .nil) rfl
  (fun H o h=>by match o,h with | [_],T=>rfl) zKr DT.gT laid zKr (fun a h=>law a.1 h.1) H enc W base args o P i l t (by
   obtain⟨p,q,hA,hV,_⟩:=t;obtain⟨rfl,_⟩:=trodVars_none hV;have j:(DataW.weightsEach qb ([38]++[]) (o++[])).all (·<=reachBytes)=true:=r;rw[zL,zL]at j;exact j) (qk9 R)
end ZBruteInstances
namespace ZFBruteInstances
open Go.RowKit Go.ChangeShapes Go.WideShapes
theorem c0:(Rows.bruteInstancesRow.wf (OpenSpec.ofChange Rows.bruteInstancesSpec))=true:=by kernel_rfl
theorem c1:(laidOutB checked.prog)=true:=by kernel_rfl
theorem c2:(mapsRowed checked.prog)=true:=by kernel_rfl
theorem c3:(f7.params.all (checked.prog.readableRec ·))=true:=by kernel_rfl
theorem c4:(namedTie checked.prog Rows.bruteInstancesRow.named Rows.bruteInstancesSpec.vars)=true:=by kernel_rfl
theorem c5:((Rows.bruteInstancesRow.stops == []))=true:=by kernel_rfl
theorem c6:((checked.prog.stops == []))=true:=by kernel_rfl
theorem c7:((Rows.bruteInstancesRow.knobs == []))=true:=by kernel_rfl
theorem c8:((checked.prog.stopKnobs == []))=true:=by kernel_rfl
theorem c9:((Rows.bruteInstancesRow.inPlace == checked.prog.inPlace 7))=true:=by kernel_rfl
theorem c10:((Rows.bruteInstancesRow.unfollowed == checked.prog.unfollowed 7))=true:=by kernel_rfl
theorem c11:((Rows.bruteInstancesRow.recurses == checked.prog.recurses 7))=true:=by kernel_rfl
theorem c12:((Rows.bruteInstancesRow.named == checked.prog.varsNamed 7))=true:=by kernel_rfl
theorem c13:((Rows.bruteInstancesRow.maps == (f7.params.toList++Rows.bruteInstancesSpec.plain.varTypes checked.prog).any (checked.prog.mapsRec ·)))=true:=by kernel_rfl
theorem c14:((Rows.bruteInstancesRow.ifaces == (f7.params.toList++Rows.bruteInstancesSpec.plain.varTypes checked.prog).any (checked.prog.ifacesRec ·)))=true:=by kernel_rfl
theorem c15:((Rows.bruteInstancesRow.mapsOut == checked.prog.mapsAmong f7.resultTypes.toList))=true:=by kernel_rfl
theorem c16:((Rows.bruteInstancesRow.loops == (f7.params.toList++Rows.bruteInstancesSpec.plain.varTypes checked.prog).any (checked.prog.loopsFrom ·)))=true:=by kernel_rfl
theorem c17:((Rows.bruteInstancesRow.wideKeys == (f7.params.toList++Rows.bruteInstancesSpec.plain.varTypes checked.prog++f7.resultTypes.toList).any (checked.prog.wideKeysFrom ·)))=true:=by kernel_rfl
theorem c18:(Rows.bruteInstancesSpec.vars.all (checked.prog.varReadable ·))=true:=by kernel_rfl
theorem c19:(f7.resultTypes.all (fun t=>checked.prog.readableRec t&&decide (t<checked.prog.types.size)))=true:=by kernel_rfl
theorem c20:((Rows.bruteInstancesRow.ifacesOut == f7.resultTypes.toList.any (checked.prog.ifacesRec ·)))=true:=by kernel_rfl
theorem c21:((Rows.bruteInstancesRow.loopsOut == f7.resultTypes.toList.any (checked.prog.loopsFrom ·)))=true:=by kernel_rfl
theorem c22:((Rows.bruteInstancesRow.plainKeys == checked.prog.plainKeys))=true:=by kernel_rfl
theorem c23:(Rows.bruteInstancesRow.shortTexts.isNone)=true:=by kernel_rfl
theorem c24:(checked.prog.stopsHeard)=true:=by kernel_rfl
theorem c25:(checked.prog.mayEnter)=true:=by kernel_rfl
theorem c26:((Rows.bruteInstancesRow.lifted == checked.prog.liftsFinal))=true:=by kernel_rfl
theorem c27:((checked.prog.make == some Rows.bruteInstancesRow.make))=true:=by kernel_rfl
theorem c28:((Rows.bruteInstancesRow.kinds == (if Rows.bruteInstancesRow.domain.isEmpty then [] else f7.params.toList.map fun t=>match checked.prog.underlying t with|some (.int k)=>some k|_=>none)))=true:=by kernel_rfl
theorem c29:((Rows.bruteInstancesRow.pinned == Rows.bruteInstancesRow.pinnedBy))=true:=by kernel_rfl
theorem c30:((Rows.bruteInstancesRow.veiled == (f7.params.toList++Rows.bruteInstancesSpec.plain.varTypes checked.prog++f7.resultTypes.toList).any (checked.prog.veiledRec ·)))=true:=by kernel_rfl
theorem c31:(Rows.bruteInstancesRow.veiledFits checked.prog f7.params.toList (f7.params.toList++Rows.bruteInstancesSpec.plain.varTypes checked.prog++f7.resultTypes.toList))=true:=by kernel_rfl
end ZFBruteInstances
namespace ZBruteInstances
open Go.RowKit Go.ChangeShapes Go.WideShapes
theorem zw{a b:Bool}(g:a=true)(i:b=true):(a&&b)=true:=by rw[g,i];rfl
set_option maxRecDepth 100000 in
theorem closed:joinedFacts checked.prog 7 f7 Rows.bruteInstancesSpec Rows.bruteInstancesRow=true:=by
 unfold joinedFacts;exact zw (zw (zw (zw (zw (zw (zw (zw (zw (zw (zw (zw (zw (zw (zw (zw (zw (zw (zw (zw (zw (zw (zw (zw (zw (zw (zw (zw (zw (zw (zw ZFBruteInstances.c0 ZFBruteInstances.c1) ZFBruteInstances.c2) ZFBruteInstances.c3) ZFBruteInstances.c4) ZFBruteInstances.c5) ZFBruteInstances.c6) ZFBruteInstances.c7) ZFBruteInstances.c8) ZFBruteInstances.c9) ZFBruteInstances.c10) ZFBruteInstances.c11) ZFBruteInstances.c12) ZFBruteInstances.c13) ZFBruteInstances.c14) ZFBruteInstances.c15) ZFBruteInstances.c16) ZFBruteInstances.c17) ZFBruteInstances.c18) ZFBruteInstances.c19) ZFBruteInstances.c20) ZFBruteInstances.c21) ZFBruteInstances.c22) ZFBruteInstances.c23) ZFBruteInstances.c24) ZFBruteInstances.c25) ZFBruteInstances.c26) ZFBruteInstances.c27) ZFBruteInstances.c28) ZFBruteInstances.c29) ZFBruteInstances.c30) ZFBruteInstances.c31
theorem said:Rows.BruteInstancesSaid:=
 OpenClaim.holds_of_wide 7 f7 rfl rfl rfl rfl rfl rfl rfl ⟨rfl,rfl,rfl,rfl,rfl⟩ rfl rfl rfl rfl rfl zKr func7 closed
  (of_decide_eq_true zKr) (by unfold Func.isWrapper;first | (rw[if_pos (by decide +kernel)];kernel_rfl) | (rw[if_neg (by decide +kernel)];exact⟨rfl,rfl⟩))
  (fun os g H i _=>lifted os g H i)
end ZBruteInstances
namespace ZBruteInstances
open Go.RowKit Go.ChangeShapes Go.WideShapes
theorem holds:Rows.BruteInstancesCardSaid:=
  Claim7.holds_tied_plain_at .later [] [.data, .data, .data] true (true, "1343b9d6e998a3f2d00a034edd9f9788541f27490fda10ebdc22fb916c391e0a") true
    said (fun _ h=>by cases h) (by as_aux_lemma=>kernel_rfl) (fun _ h=>by cases h) bruteInstances_row_tie rfl ⟨rfl,rfl⟩ (by as_aux_lemma=>kernel_rfl) rfl
    (fun f fn hf i=>by
      obtain rfl : f = 7 := Option.some.inj ((show qb.funcNamed "armature/armaturelaw25.BruteInstances" = some 7 by kernel_rfl).symm.trans hf) |>.symm
      obtain rfl:fn=f7:=(Option.some.inj (func7.symm.trans i)).symm;exact⟨zKr,fun j t l=>by
        have o:f7.params=[38].toArray:=zKr;rw[o]at l;have p:t∈[38]:=by simpa using Array.mem_of_getElem? l
        have g:([38].all fun u=>!qb.wantsStandIn u)=true:=zKr;exact(show qb.wantsStandIn t=false by simpa using List.all_eq_true.1 g t p)⟩)
    (by as_aux_lemma=>kernel_rfl)
end ZBruteInstances
end Go.Proofs.YtahmfpfdgiemoaaGreatDoor
