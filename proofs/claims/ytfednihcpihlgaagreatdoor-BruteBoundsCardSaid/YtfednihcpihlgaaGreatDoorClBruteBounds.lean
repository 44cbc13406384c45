/-
  Proved: the tied card of armaturelaw25.BruteBounds: for every case and raw data of second bounds, the law returns true and leaves its arguments as they were. Conditions: the card's own (the tables of internal/strconv and math/bits are as the program's text lays them; loops end).
-/
import Derived.Test.YtfednihcpihlgaaGreatDoorRows
import Derived.Test.YtfednihcpihlgaaGreatDoorTie
import Derived.Test.YtfednihcpihlgaaGreatDoorCards
import Derived.SevenTiedAt
import Derived.Test.YtfednihcpihlgaaGreatDoorMi
set_option linter.unusedVariables false
set_option linter.unusedSimpArgs false
set_option maxRecDepth 100000
open Go renaming TypeId->j1,Value->j3
open Go.Proofs.Tryz renaming prog->qb
open List renaming append_nil->zF
namespace Go.Proofs.YtfednihcpihlgaaGreatDoor
open Go Go.Ev Go.Proofs Tryz
namespace ZBruteBounds
open Go.EvW DL Go.RowKit Go.ChangeShapes Go.WideShapes
theorem law(g:DN.Wh)(i:List (List Int))(j:DO.okCs g)(l:DO.Wi i):qd qb 5 [.agg (DN.cCs g),W41.lRaw i] (aB true):=
 W46.qsS g.1 (fun x o=>Nat.le_trans (j.1.so x o) (Nat.le_of_ble_eq_true rfl)) g.2.1 g.2.2.1 j.2.1 g.2.2.2.1 g.2.2.2.2.1 g.2.2.2.2.2 j.2.2 i l
set_option maxRecDepth 100000 in
theorem lifted(os:Os)(g:os.Started)(H:Type)(enc:j1×j3->H) :
  ReturnsInHanded {} checked os 5 .any (fun w args=>(Rows.bruteBoundsSpec.pre enc qb f5 [] false w args/\laidMetH qb tabL w)/\sizedMet enc qb f5 (OpenSpec.ofChange Rows.bruteBoundsSpec) false w args) (Rows.bruteBoundsSpec.post enc qb f5 false true false false):=by
 refine returnsInHanded_of_change_and (C:=checked) (X:=fun w _=>laidMetH qb tabL w) (fun _ _ _ I h=>h.of_heap I) own g zKr func5
  (ChangeSpec.witness_shaped (enc:=enc) (C:=checked) (os:=os) (X:=fun w _=>laidMetH qb tabL w) false (World.doorLaid qb 4000 os) #[.agg #[.slice none 0 0,.slice none 0 0,.slice none 0 0,.slice none 0 0,.slice none 0 0,.int .i64 0,.slice none 0 0,.int .i64 0,.string ⟨#[]⟩,.int .i64 0,.slice none 0 0,.int .i64 0,.slice none 0 0,.int .u8 0],.slice none 0 0] 8 rfl (World.shaped_of_RefB zKr zKr) zKr zKr zKr (qsU os _)) ?_
 intro W base args o J i l t _ r P _;exact qn5 (ts:=[38,32]) (tb:=4) zKr (.cons DO.qsZ (.cons DO.aRaw .nil)) rfl
  (fun H o h=>by match o,h with | [_,_],T=>rfl) zKr DT.qbL laid zKr (fun a h=>law a.1 a.2.1 h.1 h.2.1) H enc W base args o J i l t (by
   obtain⟨p,q,hA,hV,_⟩:=t;obtain⟨rfl,_⟩:=trodVars_none hV;have j:(DataW.weightsEach qb ([38,32]++[]) (o++[])).all (·<=reachBytes)=true:=r;rw[zF,zF]at j;exact j) (qsT P)
end ZBruteBounds
namespace ZFBruteBounds
open Go.RowKit Go.ChangeShapes Go.WideShapes
theorem c0:(Rows.bruteBoundsRow.wf (OpenSpec.ofChange Rows.bruteBoundsSpec))=true:=by kernel_rfl
theorem c1:(laidOutB checked.prog)=true:=by kernel_rfl
theorem c2:(mapsRowed checked.prog)=true:=by kernel_rfl
theorem c3:(f5.params.all (checked.prog.readableRec ·))=true:=by kernel_rfl
theorem c4:(namedTie checked.prog Rows.bruteBoundsRow.named Rows.bruteBoundsSpec.vars)=true:=by kernel_rfl
theorem c5:((Rows.bruteBoundsRow.stops == []))=true:=by kernel_rfl
theorem c6:((checked.prog.stops == []))=true:=by kernel_rfl
theorem c7:((Rows.bruteBoundsRow.knobs == []))=true:=by kernel_rfl
theorem c8:((checked.prog.stopKnobs == []))=true:=by kernel_rfl
theorem c9:((Rows.bruteBoundsRow.inPlace == checked.prog.inPlace 5))=true:=by kernel_rfl
theorem c10:((Rows.bruteBoundsRow.unfollowed == checked.prog.unfollowed 5))=true:=by kernel_rfl
theorem c11:((Rows.bruteBoundsRow.recurses == checked.prog.recurses 5))=true:=by kernel_rfl
theorem c12:((Rows.bruteBoundsRow.named == checked.prog.varsNamed 5))=true:=by kernel_rfl
theorem c13:((Rows.bruteBoundsRow.maps == (f5.params.toList++Rows.bruteBoundsSpec.plain.varTypes checked.prog).any (checked.prog.mapsRec ·)))=true:=by kernel_rfl
theorem c14:((Rows.bruteBoundsRow.ifaces == (f5.params.toList++Rows.bruteBoundsSpec.plain.varTypes checked.prog).any (checked.prog.ifacesRec ·)))=true:=by kernel_rfl
theorem c15:((Rows.bruteBoundsRow.mapsOut == checked.prog.mapsAmong f5.resultTypes.toList))=true:=by kernel_rfl
theorem c16:((Rows.bruteBoundsRow.loops == (f5.params.toList++Rows.bruteBoundsSpec.plain.varTypes checked.prog).any (checked.prog.loopsFrom ·)))=true:=by kernel_rfl
theorem c17:((Rows.bruteBoundsRow.wideKeys == (f5.params.toList++Rows.bruteBoundsSpec.plain.varTypes checked.prog++f5.resultTypes.toList).any (checked.prog.wideKeysFrom ·)))=true:=by kernel_rfl
theorem c18:(Rows.bruteBoundsSpec.vars.all (checked.prog.varReadable ·))=true:=by kernel_rfl
theorem c19:(f5.resultTypes.all (fun t=>checked.prog.readableRec t&&decide (t<checked.prog.types.size)))=true:=by kernel_rfl
theorem c20:((Rows.bruteBoundsRow.ifacesOut == f5.resultTypes.toList.any (checked.prog.ifacesRec ·)))=true:=by kernel_rfl
theorem c21:((Rows.bruteBoundsRow.loopsOut == f5.resultTypes.toList.any (checked.prog.loopsFrom ·)))=true:=by kernel_rfl
theorem c22:((Rows.bruteBoundsRow.plainKeys == checked.prog.plainKeys))=true:=by kernel_rfl
theorem c23:(Rows.bruteBoundsRow.shortTexts.isNone)=true:=by kernel_rfl
theorem c24:(checked.prog.stopsHeard)=true:=by kernel_rfl
theorem c25:(checked.prog.mayEnter)=true:=by kernel_rfl
theorem c26:((Rows.bruteBoundsRow.lifted == checked.prog.liftsFinal))=true:=by kernel_rfl
theorem c27:((checked.prog.make == some Rows.bruteBoundsRow.make))=true:=by kernel_rfl
theorem c28:((Rows.bruteBoundsRow.kinds == (if Rows.bruteBoundsRow.domain.isEmpty then [] else f5.params.toList.map fun t=>match checked.prog.underlying t with|some (.int k)=>some k|_=>none)))=true:=by kernel_rfl
theorem c29:((Rows.bruteBoundsRow.pinned == Rows.bruteBoundsRow.pinnedBy))=true:=by kernel_rfl
theorem c30:((Rows.bruteBoundsRow.veiled == (f5.params.toList++Rows.bruteBoundsSpec.plain.varTypes checked.prog++f5.resultTypes.toList).any (checked.prog.veiledRec ·)))=true:=by kernel_rfl
theorem c31:(Rows.bruteBoundsRow.veiledFits checked.prog f5.params.toList (f5.params.toList++Rows.bruteBoundsSpec.plain.varTypes checked.prog++f5.resultTypes.toList))=true:=by kernel_rfl
end ZFBruteBounds
namespace ZBruteBounds
open Go.RowKit Go.ChangeShapes Go.WideShapes
theorem zV{a b:Bool}(g:a=true)(i:b=true):(a&&b)=true:=by rw[g,i];rfl
set_option maxRecDepth 100000 in
theorem closed:joinedFacts checked.prog 5 f5 Rows.bruteBoundsSpec Rows.bruteBoundsRow=true:=by
 unfold joinedFacts;exact zV (zV (zV (zV (zV (zV (zV (zV (zV (zV (zV (zV (zV (zV (zV (zV (zV (zV (zV (zV (zV (zV (zV (zV (zV (zV (zV (zV (zV (zV (zV ZFBruteBounds.c0 ZFBruteBounds.c1) ZFBruteBounds.c2) ZFBruteBounds.c3) ZFBruteBounds.c4) ZFBruteBounds.c5) ZFBruteBounds.c6) ZFBruteBounds.c7) ZFBruteBounds.c8) ZFBruteBounds.c9) ZFBruteBounds.c10) ZFBruteBounds.c11) ZFBruteBounds.c12) ZFBruteBounds.c13) ZFBruteBounds.c14) ZFBruteBounds.c15) ZFBruteBounds.c16) ZFBruteBounds.c17) ZFBruteBounds.c18) ZFBruteBounds.c19) ZFBruteBounds.c20) ZFBruteBounds.c21) ZFBruteBounds.c22) ZFBruteBounds.c23) ZFBruteBounds.c24) ZFBruteBounds.c25) ZFBruteBounds.c26) ZFBruteBounds.c27) ZFBruteBounds.c28) ZFBruteBounds.c29) ZFBruteBounds.c30) ZFBruteBounds.c31
theorem said:Rows.BruteBoundsSaid:=
 OpenClaim.holds_of_wide 5 f5 rfl rfl rfl rfl rfl rfl rfl ⟨rfl,rfl,rfl,rfl,rfl⟩ rfl rfl rfl rfl rfl zKr func5 closed
  (of_decide_eq_true zKr) (by unfold Func.isWrapper;first | (rw[if_pos (by decide +kernel)];kernel_rfl) | (rw[if_neg (by decide +kernel)];exact⟨rfl,rfl⟩))
  (fun os g H i _=>lifted os g H i)
end ZBruteBounds
namespace ZBruteBounds
open Go.RowKit Go.ChangeShapes Go.WideShapes
theorem holds:Rows.BruteBoundsCardSaid:=
  Claim7.holds_tied_plain_at .later [] [.data, .data, .data] true (true, "d0a7141ef7ca3c49d104e067030ee016426d034dfebcb74517ee2ba4d78f85c6") true
    said (fun _ h=>by cases h) (by as_aux_lemma=>kernel_rfl) (fun _ h=>by cases h) bruteBounds_row_tie rfl ⟨rfl,rfl⟩ (by as_aux_lemma=>kernel_rfl) rfl
    (fun f fn hf i=>by
      obtain rfl : f = 5 := Option.some.inj ((show qb.funcNamed "armature/armaturelaw25.BruteBounds" = some 5 by kernel_rfl).symm.trans hf) |>.symm
      obtain rfl:fn=f5:=(Option.some.inj (func5.symm.trans i)).symm;exact⟨zKr,fun j t l=>by
        have o:f5.params=[38,32].toArray:=zKr;rw[o]at l;have p:t∈[38,32]:=by simpa using Array.mem_of_getElem? l
        have g:([38,32].all fun u=>!qb.wantsStandIn u)=true:=zKr;exact(show qb.wantsStandIn t=false by simpa using List.all_eq_true.1 g t p)⟩)
    (by as_aux_lemma=>kernel_rfl)
end ZBruteBounds
end Go.Proofs.YtfednihcpihlgaaGreatDoor
