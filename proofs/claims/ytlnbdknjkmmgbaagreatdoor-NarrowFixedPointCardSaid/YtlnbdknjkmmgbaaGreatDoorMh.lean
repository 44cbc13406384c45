/-
  Own library, part 8: an abstract reading of values and a calculus over it; contracts of functions; plain lemmas.
-/
import Derived.Test.YtlnbdknjkmmgbaaGreatDoorRows
import Derived.LaidMore
import Derived.MakeChecks
import Derived.WalkKit
import Derived.JoinedCond
import Derived.Test.YtlnbdknjkmmgbaaGreatDoorMg
set_option linter.unusedVariables false
set_option linter.unusedSimpArgs false
set_option maxRecDepth 100000
open Go renaming Program->qf,FuncId->xa,Oper->xe,Operand->wg,undef->xc,Value->us,World->uk
open Go.Proofs.Tryz renaming prog->qb
open List renaming getElem?_eq_some_iff->qg,mem_map->qn,range->qp,getElem_mem->qq,getElem?_set_self->qv,getElem?_append_left->qB,getElem?_eq_getElem->qC,not_mem_nil->qG,mem_append->qL,mem_of_getElem?->qN,mem_singleton->qO,mem_cons_of_mem->qP,all_eq_true->qR,mem_cons_self->qX,drop_eq_getElem_cons->qY,length_append->qZ,map_cons->zc,getElem?_set_ne->zA,drop_length->zF,map_append->z6,length_map->yB,getD_eq_getElem?_getD->yI,mem_iff_getElem->ui,getD_cons_zero->KS
open Nat renaming le_refl->qh,le_of_ble_eq_true->vq
open Go.IntKind renaming i64->qj
open Bool renaming and_eq_true->qx
namespace Go.Proofs.YtlnbdknjkmmgbaaGreatDoor
open Go Go.Ev Go.Proofs Tryz
namespace O4
open Y1 Y10 P1 E4 EO EP EW F6 GF KA KC O0 O2 O3
abbrev cVb(e:tV×Bd):List AV:=aS e.1 :: cBd e.2
theorem qoE(nm l e):Qc nm (l++[e])=if e.1=nm then some e.2 else Qc nm l:=by simp[Qc,List.foldl_append]
abbrev cZ4:List AV:=[aI 0,.lst true [],aI 0,.lst true []]
theorem qcB{bs:List Bd}{i}(h):((bs.map cBd).flatten.drop (i*4)).take 4=cBd bs[i]:=by
 induction bs generalizing i with
 |nil=>simp at h
 |cons b bs g =>
  cases i with
  |zero=>simp[cBd]
  |succ i =>
   have e:(i+1)*4=4+i*4:=zOm;rw[zc,List.flatten_cons,e,<-List.drop_drop];have:(cBd b++(bs.map cBd).flatten).drop 4=(bs.map cBd).flatten:=by
    rw[show (4:Nat)=(cBd b).length from rfl,List.drop_left]
   rw[this,g (zUs h)];rfl
structure NmOk (ts:TS) (sc:Sc) (bs:List Bd):Prop where
 S:ScN ts sc
 h12:sumI sc.sC<=12
 bl:bs.length=ts.sA.length
 nf:ts.sA.length<=1000000
 sz:∀ x,x∈ts.sS->x.1.size<=4611686018427387904
theorem nameM{ts sc bs ch bv p mu}(hN:NsR mu p ts sc bs ch bv)(W:NmOk ts sc bs)(full env)(he:env.length<=1000000)(nm) :
  zX qb 80 [.ptr p 0,.lst full (env.map cVb),aS nm] mu (eBd (zt ⟨ts,sc,bs⟩ env nm)):=by
 have b0:ts.sS.length=sc.sC.length:=W.S.ns;have ak:sc.sC.length<=1000:=zW1 W.S.g.1;have au:∀ l,(mu++l)[p]?=some (.arr (cNs ts sc bv (sumI sc.sC) ch)):=fun l=>zm hN.st l
 have b1:=(qg.1 hN.st).1;refine zX.of ?_;refine qSW call80 func80 rfl {} ?_;have az:∀ b:Bd,Rd (cutM (fun i=>decide (mu.length<=i)) mu 0) (eBd b) (eBd b):=fun b => .hf _ (zJ b)
 generalize hR:zt ⟨ts,sc,bs⟩ env nm=R;simp[go_sem];have w0:qj.wrap ((env.length:Int)-1)=(env.length:Int)-1:=zWr;refine fZ env.length (fun k U=>U.tm 0 = .ptr p 0/\U.tm 1 = .lst full (env.map cVb)/\U.tm 2=aS nm/\U.tm 6 = .ptr mu.length 0/\U.tm 7=aI ((env.length:Int)-1-k)/\U.mu=mu++[.arr cZ4]/\Qc nm (env.take (env.length-k))=Qc nm env) ?_ ?_
 .exact ⟨zSi,zSi,zSi,zSi,zS1 w0,zSi,zSp⟩
 rintro k U hk ⟨e0,e1,I,P,e7,hm,hl⟩;by_cases o:k<env.length
 .obtain ⟨J,hJ,af⟩:∃ J,env.length-k=J+1/\J<env.length:=⟨env.length-k-1,zOm,zOm⟩
  have a7:U.tm 7=aI (J:Int):=by rw[e7];congr 2;omega
  have w1:qj.wrap ((J:Int)-1)=(env.length:Int)-1-((k+1:Nat):Int):=by rw[zWr];omega
  rw[hJ,jy af,qoE]at hl;by_cases hx:env[J].1=nm
  .rw [if_pos hx]at hl
   have a8:R=env[J].2:=by rw[<-hR,zt,<-hl]
   simp[go_sem,jj,e1,I,P,a7,af,hx,hm];subst a8;exact⟨MuLe.app (MuLe.refl _) _,.hf _ (zJ _)⟩
  .rw [if_neg hx]at hl
   simp[go_sem,jj,e1,I,a7,af,hx,w1]
   try refine⟨o,aK ?_⟩
   try refine aK ?_
   refine⟨zS1 e0,zS1 e1,zS1 I,zS1 P,zSi,zS1 hm,by rw[show env.length-(k+1)=J by omega];exact hl⟩
 have a9:k=env.length:=zOm;subst a9;rw[Nat.sub_self,List.take_zero]at hl;have a7:U.tm 7=aI (-1):=by rw[e7];congr 2;omega
 have aa:(match jA nm ts.sA bs with|some b=>b|none=>Qd sc nm 0 ts.sS)=R:=by
  rw[<-hR,zt,<-hl];rfl
 simp[go_sem,e0,a7,hm,au];clear hl hR;refine fZ ts.sA.length (fun k U=>U.tm 0 = .ptr p 0/\U.tm 2=aS nm/\U.tm 6 = .ptr mu.length 0/\U.tm 35 = .lst false (ts.sA.map yT)/\U.tm 36=aI ts.sA.length/\U.tm 37=aI k/\U.mu[mu.length]?=some (.arr cZ4)/\MuLe mu U.mu/\jA nm (ts.sA.drop k) (bs.drop k)=jA nm ts.sA bs) ?_ ?_
 .exact ⟨zS1 e0,zS1 I,zS1 P,zSi,zSi,zSi,zSi,by simpa[go_sem] using MuLe.app (MuLe.refl mu) _,zSp⟩
 clear e0 e1 I P e7 a7 hm;rintro k U hk ⟨e0,I,P,a4,a2,a5,hz,t,hf⟩;by_cases o:k<ts.sA.length
 .have ab:k<bs.length:=by rw[W.bl];exact o
  have w1:qj.wrap ((k:Int)+1)=(k:Int)+1:=by have:=W.nf;exact zWr
  rw[qY o,qY ab,jA]at hf;have hM:∀ c:Cell,(U.mu++[c])[p]?=some (.arr (cNs ts sc bv (sumI sc.sC) ch)):=fun c=>zm (t _ _ hN.st) _
  have hZ:∀ c:Cell,(U.mu++[c])[mu.length]?=some (.arr cZ4):=fun c=>zm hz _
  have al:=(qg.1 hz).1;have C:∀ x c,((U.mu++[x]).set mu.length c)[mu.length]?=some c:=fun x c=>qv zSo
  by_cases hx:ts.sA[k].name=nm
  .rw [if_pos hx]at hf
   have a8:R=bs[k]:=by rw[<-aa,<-hf]
   have T:∀ x c,MuLe mu ((U.mu++[x]).set mu.length c):=fun x c b y hb=>by
    have an:=(qg.1 hb).1;rw[zGl];exact zm (t _ _ hb) _
   have av:=hN.bv;subst a8;rcases av with rfl|rfl|⟨b,rfl,hc⟩
   .simp [go_sem,jj,e0,I,P,a4,a2,a5,o,ab,hx,hM,hZ,C]
    exact⟨T _ _,.hf _ (zJ _)⟩
   .simp [go_sem,jj,e0,I,P,a4,a2,a5,o,ab,hx,hM,hZ,C]
    exact⟨T _ _,.hf _ (zJ _)⟩
   .have hC:∀ c:Cell,(U.mu++[c])[b]?=some (.arr (bs.map cBd).flatten):=fun c=>zm (t _ _ hc) _
    have ao:=qcB ab;have aw:k*4+4<=(bs.map cBd).flatten.length:=by rw[yD (sz:=4) (JK bs).ok,yB];omega
    have ak:(bs.map cBd).length=bs.length:=zSp;rw[ak]at hM;generalize (bs.map cBd).flatten=Y at *
    simp[go_sem,jj,e0,I,P,a4,a2,a5,o,ab,hx,hM,hZ,C,hC,aw,ao];exact⟨T _ _,.hf _ (zJ _)⟩
  .rw [if_neg hx]at hf
   simp[go_sem,jj,I,a4,a2,a5,o,hx,w1]
   try refine⟨o,aK ?_⟩
   try refine aK ?_
   refine⟨zS1 e0,zS1 I,zS1 P,zS1 a4,zS1 a2,zSi,by simpa[go_sem] using zm hz _,by simpa[go_sem] using MuLe.app t _,hf⟩
 have a9:k=ts.sA.length:=zOm;subst a9;have ag:jA nm ts.sA bs=none:=by rw[<-hf,zF];rfl
 rw[ag]at aa;replace aa:Qd sc nm 0 ts.sS=R:=aa;have aq:U.mu[p]?=some (.arr (cNs ts sc bv (sumI sc.sC) ch)):=t _ _ hN.st;simp[go_sem,e0,a2,a5,aq];refine fZ ts.sS.length (fun k U=>U.tm 0 = .ptr p 0/\U.tm 2=aS nm/\U.tm 6 = .ptr mu.length 0/\U.tm 58 = .lst false (ts.sS.map YI)/\U.tm 59=aI ts.sS.length/\U.tm 60=aI k/\U.mu[mu.length]?=some (.arr cZ4)/\MuLe mu U.mu/\Qd sc nm k (ts.sS.drop k)=R) ?_ ?_
 .exact ⟨zS1 e0,zS1 I,zS1 P,zSi,zSi,zSi,zVs hz,zVs t,zUs aa⟩
 clear e0 I P a4 a2 a5 hz t hf o hk aq;rintro k U hk ⟨e0,I,P,a3,a0,a6,hz,t,hf⟩;have al:=(qg.1 hz).1;by_cases o:k<ts.sS.length
 .have ax:k<sc.sC.length:=by omega
  have w1:=zWk k;have ar:=W.sz _ (qq o);rw[qY o,Qd]at hf;have hM:∀ c:Cell,(U.mu++[c])[p]?=some (.arr (cNs ts sc bv (sumI sc.sC) ch)):=fun c=>zm (t _ _ hN.st) _
  have hZ:∀ c:Cell,(U.mu++[c])[mu.length]?=some (.arr cZ4):=fun c=>zm hz _
  have C:∀ x c,((U.mu++[x]).set mu.length c)[mu.length]?=some c:=fun x c=>qv zSo
  have T:∀ x c,MuLe mu ((U.mu++[x]).set mu.length c):=fun x c b y hb=>by
   have an:=(qg.1 hb).1;rw[zGl];exact zm (t _ _ hb) _
  generalize ad:ts.sS[k]=so at *
  obtain⟨sn,sb⟩:=so;have ah:sn.size<=9223372036854775801:=by simp at ar;omega
  have ai:sn.size<=9223372036854775802:=by simp at ar;omega
  simp only at hf;by_cases h1:sn=nm
  .rw [if_pos h1]at hf
   have cF:=W0 sc W.S.g (fun a ha=>zW1 (W.S.a1 a ha)) [(k:Int)] (fun s hs=>by rw[qO]at hs;omega) zSp zSp;rw[qiE]at cF;have ht:(qp (gI sc.sC k).toNat).map (fun j:Nat=>sumI (sc.sC.take k)+j)=ZY sc k:=rfl;rw[ht]at cF;simp[go_sem,jj,e0,I,P,a3,a0,a6,o,ad,h1,hM,hZ];refine fB cF (.zk (zp sc) (.cons (aV [(k:Int)]) .nil)) ?_;refine tR (Yi ⟨1,ZY sc k⟩) (.zk (qt _) .nil) ?_;simp[go_sem,P,hZ,C];subst hf;exact⟨T _ _,.hf _ (zJ (exR ⟨1,ZY sc k⟩))⟩
  rw[if_neg h1]at hf;cases sb with
  |false =>
   simp at hf;simp[go_sem,jj,I,a3,a0,a6,o,ad,h1,w1]
   try refine⟨o,aK ?_⟩
   try refine aK ?_
   refine⟨zS1 e0,zS1 I,zS1 P,zS1 a3,zS1 a0,zSi,by simpa[go_sem] using zm hz _,by simpa[go_sem] using MuLe.app t _,hf⟩
  |true =>
  simp only[true_and]at hf;by_cases h2:sn++jv=nm
  .rw [if_pos h2]at hf
   have ae:sn++(⟨#[95,102,105,114,115,116]⟩:tV)=nm:=h2;simp[go_sem,jj,e0,I,P,a3,a0,a6,o,ad,h1,ah,ai,ae,hM,hZ];refine fB (WV sc W.S.g k zOm) (.zk (zp sc) (.zs .nil)) ?_;refine tR (Yi ⟨1,[sumI (sc.sC.take k)]⟩) (.cons (WK.aggs (.zs (.cons (aV [sumI (sc.sC.take k)]) .nil))) .nil) ?_;simp[go_sem,P,hZ,C];subst hf;exact⟨T _ _,.hf _ (zJ (exR ⟨1,[sumI (sc.sC.take k)]⟩))⟩
  rw[if_neg h2]at hf;have ae:¬sn++(⟨#[95,102,105,114,115,116]⟩:tV)=nm:=h2;by_cases h3:sn++jQ=nm
  .rw [if_pos h3]at hf
   have aj:sn++(⟨#[95,110,101,120,116]⟩:tV)=nm:=h3;have ay:∀ c:Cell,NsR (U.mu++[c]) p ts sc bs ch bv:=fun c=>(hN.le t).le (MuLe.push _ c)
   simp[go_sem,jj,e0,I,P,a3,a0,a6,o,ad,h1,ah,ai,ae,aj,hM,hZ];refine fW (qn9 ts sc W.S W.h12 bs ch (sumI sc.sC) k ax) ⟨(ay _).rd,.hf _ (HF.sc _),trivial⟩ ?_;simp[go_sem];refine tR (Yi ⟨2,Zl sc k⟩) (.zk (qt _) .nil) ?_;simp[go_sem,P,hZ,C];subst hf;exact⟨T _ _,.hf _ (zJ (exR ⟨2,Zl sc k⟩))⟩
  rw[if_neg h3]at hf;have aj:¬sn++(⟨#[95,110,101,120,116]⟩:tV)=nm:=h3;simp[go_sem,jj,I,a3,a0,a6,o,ad,h1,ah,ai,ae,aj,w1]
  try refine⟨o,aK ?_⟩
  try refine aK ?_
  refine⟨zS1 e0,zS1 I,zS1 P,zS1 a3,zS1 a0,zSi,by simpa[go_sem] using zm hz _,by simpa[go_sem] using MuLe.app t _,hf⟩
 .have a9:k=ts.sS.length:=by omega
  subst a9;have a8:R=bd0:=by rw[<-hf,zF];rfl
  have C:∀ c,(U.mu.set mu.length c)[mu.length]?=some c:=fun c=>qv al
  have T:∀ c,MuLe mu (U.mu.set mu.length c):=fun c b y hb=>by
   have an:=(qg.1 hb).1;rw[zGl];exact t _ _ hb
  simp[go_sem,P,a0,a6,hz,C];subst a8;exact⟨T _,Rd.aggs ⟨.hf _ (HF.sc _),.wk _ true _ (.hf _ (HF.lst fun r hr=>by simp at hr)),.hf _ (HF.sc _),.wk _ true _ (.hf _ (HF.lst fun r hr=>by simp at hr)),trivial⟩⟩
end O4
namespace O5
open P1 E1 E2 E3 EQ ET EY F3 GF KA KB O0 O2 O4
variable {ts:TS} {sc:Sc} {bs:List Bd} {ch:Bool} {bv:AV} {p:Nat} {mu:Mu}
theorem qoF(i:NsR mu p ts sc bs ch bv)(W:NmOk ts sc bs)(r)(j:GR (sumI sc.sC) r)(o:r.ar=2):zX qb 85 [eRel r,.ip [.ptr p 0]] mu (eRel (trR (sumI sc.sC) r)):=by
 have g:∀ l,(mu++l)[p]?=some (.arr (cNs ts sc bv (sumI sc.sC) ch)):=fun l=>zm i.st l
 refine zX.of ?_;refine qSW call85 func85 rfl {} ?_;simp[go_sem];refine tN zKr ?_;simp[go_sem,g];refine fB (WY _ W.S.n0 W.h12 r j o) (.zs (.zk (qt r) .nil)) ?_;exact⟨MuLe.app (MuLe.refl _) _,.hf _ (qt _)⟩
theorem closM(i:NsR mu p ts sc bs ch bv)(W:NmOk ts sc bs)(r)(j:GR (sumI sc.sC) r)(o:r.ar=2):zX qb 87 [eRel r,.ip [.ptr p 0]] mu (eRel (clR (sumI sc.sC) 200 r)):=by
 have g:∀ l,(mu++l)[p]?=some (.arr (cNs ts sc bv (sumI sc.sC) ch)):=fun l=>zm i.st l
 refine zX.of ?_;refine qSW call87 func87 rfl {} ?_;simp[go_sem];refine tN zKr ?_;simp[go_sem,g];refine fB (gU _ W.S.n0 W.h12 r j o) (.zs (.zk (qt r) .nil)) ?_;exact⟨MuLe.app (MuLe.refl _) _,.hf _ (qt _)⟩
theorem reflM(o:NsR mu p ts sc bs ch bv)(W:NmOk ts sc bs)(r)(i:GR (sumI sc.sC) r)(j:r.ar=2):zX qb 89 [eRel r,.ip [.ptr p 0]] mu (eRel (unR (clR (sumI sc.sC) 200 r) (idR (sumI sc.sC)))):=by
 have g:∀ l,(mu++l)[p]?=some (.arr (cNs ts sc bv (sumI sc.sC) ch)):=fun l=>zm o.st l
 have g1:=aP W.S.n0 200 i j;have t:=GR.iden W.S.n0;have C:=g1.1.len W.S.n0 (zW1 W.h12);have I:=t.len W.S.n0 (zW1 W.h12);refine zX.of ?_;refine qSW call89 func89 rfl {} ?_;simp[go_sem];refine tN zKr ?_;simp[go_sem,g];refine tR (gU _ W.S.n0 W.h12 r i j) (.zs (.zk (qt r) .nil)) ?_;simp[go_sem,g];refine fB (gV _ W.S.n0 W.h12) (.zs .nil) ?_;refine fB (jz _ _ zOm zOm) (.zk (qt _) (.zk (qt _) .nil)) ?_;exact⟨MuLe.app (MuLe.refl _) _,.hf _ (qt _)⟩
theorem joinM(i:NsR mu p ts sc bs ch bv)(W:NmOk ts sc bs)(a b)(j:GR (sumI sc.sC) a)(o:GR (sumI sc.sC) b)(t:a.ar+b.ar<=5->a.ts.length*b.ts.length<=1000000):zX qb 94 [eRel a,eRel b,.ip [.ptr p 0]] mu (eRel (vE (vV (sumI sc.sC) a b))):=by
 have g:∀ l,(mu++l)[p]?=some (.arr (cNs ts sc bv (sumI sc.sC) ch)):=fun l=>zm i.st l
 have C:=uD _ W.S.n0 W.h12 a b j o t;refine zX.of ?_;refine qSW call94 func94 rfl {} ?_;simp[go_sem];refine tN zKr ?_;simp[go_sem,g];refine tR C (.zs (.zk (qt a) (.zk (qt b) .nil))) ?_;cases I:vV (sumI sc.sC) a b with
 |ok r =>
  simp[go_sem];refine fB (Uw r 0) (.zk (qt r) (.zs .nil)) ?_;exact⟨MuLe.app (MuLe.refl _) _,.hf _ (qt r)⟩
 |error e =>
  simp[go_sem];refine fB (Uw ⟨0,[]⟩ e) (.zk (qt _) (.zs .nil)) ?_;exact⟨MuLe.app (MuLe.refl _) _,.hf _ (qt rl0)⟩
theorem prodM(i:NsR mu p ts sc bs ch bv)(W:NmOk ts sc bs)(a b)(j:GR (sumI sc.sC) a)(o:GR (sumI sc.sC) b):zX qb 97 [eRel a,eRel b,.ip [.ptr p 0]] mu (eRel (vE (wB (sumI sc.sC) a b))):=by
 have g:∀ l,(mu++l)[p]?=some (.arr (cNs ts sc bv (sumI sc.sC) ch)):=fun l=>zm i.st l
 have t:=WC _ W.S.n0 W.h12 a b j o;refine zX.of ?_;refine qSW call97 func97 rfl {} ?_;simp[go_sem];refine tN zKr ?_;simp[go_sem,g];refine tR t (.zs (.zk (qt a) (.zk (qt b) .nil))) ?_;cases C:wB (sumI sc.sC) a b with
 |ok r =>
  simp[go_sem];refine fB (Uw r 0) (.zk (qt r) (.zs .nil)) ?_;exact⟨MuLe.app (MuLe.refl _) _,.hf _ (qt r)⟩
 |error e =>
  simp[go_sem];refine fB (Uw ⟨0,[]⟩ e) (.zk (qt _) (.zs .nil)) ?_;exact⟨MuLe.app (MuLe.refl _) _,.hf _ (qt rl0)⟩
theorem unM{b x}(C:mu[b]?=some (.arr (cBd x))){I}{f:Rl->Rl}(hf:Qm qb mu I eRel (fun r=>r=x.lo\/r=x.up) (fun r=>eRel (f r))) :
  zX qb 84 [I,.ptr b 0] mu (eBd ⟨f x.lo,f x.up⟩):=by
 have R:∀ m,MuLe mu m->m[b]?=some (.arr (cBd x)):=fun m h=>h _ _ C
 refine zX.of ?_;refine qSW call84 func84 rfl {} ?_;have g:∀ l,(mu++l)[b]?=some (.arr (cBd x)):=fun l=>zm C l
 simp[go_sem];refine fG [0,1,2,4,5,6,3,7,8,9] [(0,0,[]),(1,0,[]),(2,0,[]),(4,0,[]),(5,0,[]),(6,0,[]),(3,1,[6]),(7,1,[]),(8,0,[]),(9,1,[])] zKr zKr zSi ?_;simp[go_sem,g];refine Qm.call (enc:=eRel) hf (.inl rfl) (MuLe.app (MuLe.refl _) _) fun U o=>?_
 have i:=o _ _ (g _);simp[go_sem,i];refine Qm.call (enc:=eRel) hf (.inr rfl) ((MuLe.app (MuLe.refl _) _).trans o) fun T J=>?_
 have P:=J _ _ (o mu.length (.arr cZ4) zSp);have t:=(qg.1 P).1;have j:∀ c,(T.set mu.length c)[mu.length]?=some c:=fun c=>qv t
 simp[go_sem,P,j];exact⟨MuLe.setN (((MuLe.app (MuLe.refl _) _).trans o).trans J) (qh _) _,.hf _ (zJ ⟨f x.lo,f x.up⟩)⟩
theorem biM{b c x y}(T:mu[b]?=some (.arr (cBd x)))(U:mu[c]?=some (.arr (cBd y))){J f}(hf:wK qb mu J eRel (fun r s=>(r=x.lo/\s=y.lo)\/(r=x.up/\s=y.up)) (fun r s=>eRel (f r s))) :
  zX qb 91 [J,.ptr b 0,.ptr c 0] mu (eBd (map2 f x y)):=by
 refine zX.of ?_;refine qSW call91 func91 rfl {} ?_;have g:∀ l,(mu++l)[b]?=some (.arr (cBd x)):=fun l=>zm T l
 have i:∀ l,(mu++l)[c]?=some (.arr (cBd y)):=fun l=>zm U l
 simp[go_sem];refine fG [0,1,2,3,4,6,7,8,9,10,5,11,12,13] [(0,0,[]),(1,0,[]),(2,0,[]),(3,0,[]),(4,0,[]),(6,0,[]),(7,0,[]),(8,0,[]),(9,0,[]),(10,0,[]),(5,1,[8,10]),(11,1,[]),(12,0,[]),(13,1,[])] zKr zKr zSi ?_;simp[go_sem,g,i];refine wK.call (enc:=eRel) hf (.inl ⟨rfl,rfl⟩) (MuLe.app (MuLe.refl _) _) fun m1 j=>?_
 have o:=j _ _ (g _);have p:=j _ _ (i _);simp[go_sem,o,p];refine wK.call (enc:=eRel) hf (.inr ⟨rfl,rfl⟩) ((MuLe.app (MuLe.refl _) _).trans j) fun m2 P=>?_
 have R:=P _ _ (j mu.length (.arr cZ4) zSp);have I:=(qg.1 R).1;have t:∀ c,(m2.set mu.length c)[mu.length]?=some c:=fun c=>qv I
 simp[go_sem,R,t];exact⟨MuLe.setN (((MuLe.app (MuLe.refl _) _).trans j).trans P) (qh _) _,.hf _ (zJ (map2 f x y))⟩
end O5
set_option maxHeartbeats 1000000
namespace O6
open Y1 P1 E1 E2 E3 E4 EQ ER EY F3 F6 GF KA KB O0 O2 O3 O4 O5
variable {ts:TS} {sc:Sc} {bs:List Bd}
def IvM(ts:TS)(sc:Sc)(bs:List Bd)(env:List (tV×Bd))(n:Nd):Prop:=∀(I:Mu)(p:Nat)(g:Bool)(i:AV)(full:Bool),NsR I p ts sc bs g i->zX qb 41 [.ptr p 0,.lst full (env.map cVb),eNd n] I (eBd (ivl ⟨ts,sc,bs⟩ env n))
theorem Ux(W:NmOk ts sc bs)(env)(he:env.length<=1000000)(n)(ho:n.op=1\/(n.op=2)\/n.op=3\/n.op=4):IvM ts sc bs env n:=by
 intro I p t T full U;have C:∀ l,(I++l)[p]?=some (.arr (cNs ts sc T (sumI sc.sC) t)):=fun l=>zm U.st l
 have i:∀ l,NsR (I++l) p ts sc bs t T:=fun l=>U.le (MuLe.app (MuLe.refl _) l)
 have hz:∀ c:Cell,(I++[c])[I.length]?=some c:=fun c=>zSp
 have J:=jU ⟨ts,sc,bs⟩ env n;rw[J];refine zX.of ?_;refine qSW call41 func41 rfl {} ?_;generalize o:opI ⟨ts,sc,bs⟩ env n.op n.name n.n (n.sD.map (ivl ⟨ts,sc,bs⟩ env))=R;have a0:∀ c d:Cell,((I++[c]).set I.length d)[I.length]?=some d:=fun c d=>qv zSp
 rcases ho with h|h|h|h
 .have g:R=zt ⟨ts,sc,bs⟩ env n.name:=by rw[<-o,h];rfl
  subst g;simp[go_sem,h];refine qc.mem (nameM (i _) W full env he n.name) fun m1 h1=>?_
  have j:=h1 _ _ (hz (.arr cZ4));have P:∀ c,(m1.set I.length c)[I.length]?=some c:=fun c=>qv (qg.1 j).1
  simp[go_sem,j,P];exact⟨MuLe.setN ((MuLe.app (MuLe.refl _) _).trans h1) (qh _) _,.hf _ (zJ (zt ⟨ts,sc,bs⟩ env n.name))⟩
 .have g:R=exR ⟨n.n,[]⟩:=by rw[<-o,h];rfl
  subst g;simp[go_sem,h];refine fB (Yi ⟨n.n,[]⟩) (.cons (WK.aggs (.zs (.cons (WK.lst fun r hr=>absurd hr qG) .nil))) .nil) ?_;exact⟨MuLe.app (MuLe.refl _) _,.hf _ (zJ (exR ⟨n.n,[]⟩))⟩
 .have g:R=exR (KA.allN (sumI sc.sC) 1):=by rw[<-o,h];rfl
  subst g;simp[go_sem,h];refine fW (allF ts sc bs t (sumI sc.sC) W.S.n0 W.h12 1 zOm zOm) ⟨(i _).rd,.hf _ (HF.sc _),trivial⟩ ?_;simp[go_sem];refine fB (Yi (KA.allN (sumI sc.sC) 1)) (.zk (qt _) .nil) ?_;exact⟨MuLe.app (MuLe.refl _) _,.hf _ (zJ (exR (KA.allN (sumI sc.sC) 1)))⟩
 .have g:R=exR (idR (sumI sc.sC)):=by rw[<-o,h];rfl
  subst g;simp[go_sem,h,C];refine fB (gV _ W.S.n0 W.h12) (.zs .nil) ?_;refine fB (Yi (idR (sumI sc.sC))) (.zk (qt _) .nil) ?_;exact⟨MuLe.app (MuLe.refl _) _,.hf _ (zJ (exR (idR (sumI sc.sC))))⟩
theorem qcC(W:NmOk ts sc bs)(env n x a)(hk:n.sD=[x])(ho:n.op=5\/(11<=n.op/\n.op<=13))(o:okI (sumI sc.sC) a (ivl ⟨ts,sc,bs⟩ env x))(t:11<=n.op->a=2)(ih:IvM ts sc bs env x):IvM ts sc bs env n:=by
 intro I p ch bv full hN;have a6:∀ l,(I++l)[p]?=some (.arr (cNs ts sc bv (sumI sc.sC) ch)):=fun l=>zm hN.st l
 have a1:∀ l,NsR (I++l) p ts sc bs ch bv:=fun l=>hN.le (MuLe.app (MuLe.refl _) l)
 have a4:=jU ⟨ts,sc,bs⟩ env n;rw[a4];refine zX.of ?_;refine qSW call41 func41 rfl {} ?_;have n1:¬n.op=1:=zOm;have n2:¬n.op=2:=zOm;have n3:¬n.op=3:=zOm;have n4:¬n.op=4:=zOm;generalize hR:opI ⟨ts,sc,bs⟩ env n.op n.name n.n (n.sD.map (ivl ⟨ts,sc,bs⟩ env))=R;rw[hk]at hR;generalize hX:ivl ⟨ts,sc,bs⟩ env x=X at *
 have hz:∀ c:Cell,(I++[c])[I.length]?=some c:=fun c=>zSp
 simp[go_sem,n1,n2,n3,n4,hk];refine fG [0,1,2,3,4,5,6,7,8] [(0,0,[]),(1,0,[]),(2,0,[]),(3,0,[]),(4,0,[]),(5,0,[]),(6,1,[]),(7,2,[0,3,5]),(8,1,[])] zKr zKr zSi ?_;simp[go_sem,hk];have ih:=ih _ _ _ _ full (a1 [.arr cZ4]);rw[hX]at ih;refine qc.mem ih fun J h1=>?_
 have a3:=h1 _ _ (hz (.arr cZ4));have a0:=(a1 _).le h1;have P:∀ l,(J++l)[I.length]?=some (.arr cZ4):=fun l=>zm a3 l
 have a7:=(qg.1 a3).1;have a5:∀ x c:Cell,((J++[x]).set I.length c)[I.length]?=some c:=fun x c=>qv zSo
 have j:MuLe I J:=(MuLe.app (MuLe.refl _) _).trans h1;rcases (show n.op=5\/n.op=11\/n.op=12\/n.op=13 by omega) with h|h|h|h
 .have i:R=X:=by rw[<-hR,h,zc,hX];rfl
  subst i;simp[go_sem,hk,h,P,a5];exact⟨MuLe.setN (MuLe.app j _) (qh _) _,.hf _ (zJ _)⟩
 .have i:R=⟨trR (sumI sc.sC) X.lo,trR (sumI sc.sC) X.up⟩:=by rw[<-hR,h,zc,hX];rfl
  subst i;have T:a=2:=t zOm;have hf:Qm qb (J++[.arr (cBd X)]) (.fn (.func 85) [] [.ip [.ptr p 0]]) eRel (fun r=>r=X.lo\/r=X.up) (fun r=>eRel (trR (sumI sc.sC) r)):=
   ⟨_,_,rfl,fun r U m hm=>qoF ((a0.le (MuLe.app (MuLe.refl _) _)).le hm) W r (by rcases U with rfl|rfl;exact o.lo;exact o.up) (by rcases U with rfl|rfl;exact o.la.trans T;exact o.ua.trans T)⟩
  simp[go_sem,hk,h];refine qc.mem (unM (b:=J.length) (x:=X) zSp hf) fun m2 t=>?_
  have g:=t _ _ (P [.arr (cBd X)]);have C:∀ c,(m2.set I.length c)[I.length]?=some c:=fun c=>qv (qg.1 g).1
  simp[go_sem,g,C];exact⟨MuLe.setN ((j.trans (MuLe.app (MuLe.refl _) _)).trans t) (qh _) _,.hf _ (zJ ⟨trR (sumI sc.sC) X.lo,trR (sumI sc.sC) X.up⟩)⟩
 .have i:R=⟨clR (sumI sc.sC) 200 X.lo,clR (sumI sc.sC) 200 X.up⟩:=by rw[<-hR,h,zc,hX];rfl
  subst i;have T:a=2:=t zOm;have hf:Qm qb (J++[.arr (cBd X)]) (.fn (.func 87) [] [.ip [.ptr p 0]]) eRel (fun r=>r=X.lo\/r=X.up) (fun r=>eRel (clR (sumI sc.sC) 200 r)):=
   ⟨_,_,rfl,fun r U m hm=>closM ((a0.le (MuLe.app (MuLe.refl _) _)).le hm) W r (by rcases U with rfl|rfl;exact o.lo;exact o.up) (by rcases U with rfl|rfl;exact o.la.trans T;exact o.ua.trans T)⟩
  simp[go_sem,hk,h];refine qc.mem (unM (b:=J.length) (x:=X) zSp hf) fun m2 t=>?_
  have g:=t _ _ (P [.arr (cBd X)]);have C:∀ c,(m2.set I.length c)[I.length]?=some c:=fun c=>qv (qg.1 g).1
  simp[go_sem,g,C];exact⟨MuLe.setN ((j.trans (MuLe.app (MuLe.refl _) _)).trans t) (qh _) _,.hf _ (zJ ⟨clR (sumI sc.sC) 200 X.lo,clR (sumI sc.sC) 200 X.up⟩)⟩
 .have i:R=⟨unR (clR (sumI sc.sC) 200 X.lo) (idR (sumI sc.sC)),unR (clR (sumI sc.sC) 200 X.up) (idR (sumI sc.sC))⟩:=by rw[<-hR,h,zc,hX];rfl
  subst i;have T:a=2:=t zOm;have hf:Qm qb (J++[.arr (cBd X)]) (.fn (.func 89) [] [.ip [.ptr p 0]]) eRel (fun r=>r=X.lo\/r=X.up) (fun r=>eRel (unR (clR (sumI sc.sC) 200 r) (idR (sumI sc.sC)))):=
   ⟨_,_,rfl,fun r U m hm=>reflM ((a0.le (MuLe.app (MuLe.refl _) _)).le hm) W r (by rcases U with rfl|rfl;exact o.lo;exact o.up) (by rcases U with rfl|rfl;exact o.la.trans T;exact o.ua.trans T)⟩
  simp[go_sem,hk,h];refine qc.mem (unM (b:=J.length) (x:=X) zSp hf) fun m2 t=>?_
  have g:=t _ _ (P [.arr (cBd X)]);have C:∀ c,(m2.set I.length c)[I.length]?=some c:=fun c=>qv (qg.1 g).1
  simp[go_sem,g,C];exact⟨MuLe.setN ((j.trans (MuLe.app (MuLe.refl _) _)).trans t) (qh _) _,.hf _ (zJ ⟨unR (clR (sumI sc.sC) 200 X.lo) (idR (sumI sc.sC)),unR (clR (sumI sc.sC) 200 X.up) (idR (sumI sc.sC))⟩)⟩
theorem qoG(W:NmOk ts sc bs)(env n x f)(o:n.sD=[x,f])(h:n.op=15)(t:IvM ts sc bs env x):IvM ts sc bs env n:=by
 intro I p ch bv full hN;have a1:∀ l,(I++l)[p]?=some (.arr (cNs ts sc bv (sumI sc.sC) ch)):=fun l=>zm hN.st l
 have g:∀ l,NsR (I++l) p ts sc bs ch bv:=fun l=>hN.le (MuLe.app (MuLe.refl _) l)
 have C:=jU ⟨ts,sc,bs⟩ env n;rw[C];refine zX.of ?_;refine qSW call41 func41 rfl {} ?_;have n1:¬n.op=1:=zOm;have n2:¬n.op=2:=zOm;have n3:¬n.op=3:=zOm;have n4:¬n.op=4:=zOm;generalize hR:opI ⟨ts,sc,bs⟩ env n.op n.name n.n (n.sD.map (ivl ⟨ts,sc,bs⟩ env))=R;rw[o]at hR;generalize hX:ivl ⟨ts,sc,bs⟩ env x=X at *
 have hz:∀ c:Cell,(I++[c])[I.length]?=some c:=fun c=>zSp
 simp[go_sem,n1,n2,n3,n4,o];refine fG [0,1,2,3,4,5,6,7,8] [(0,0,[]),(1,0,[]),(2,0,[]),(3,0,[]),(4,0,[]),(5,0,[]),(6,1,[]),(7,2,[0,3,5]),(8,1,[])] zKr zKr zSi ?_;simp[go_sem,o];have t:=t _ _ _ _ full (g [.arr cZ4]);rw[hX]at t;refine qc.mem t fun J P=>?_
 have i:=P _ _ (hz (.arr cZ4));have a2:=(g _).le P;have T:∀ l,(J++l)[I.length]?=some (.arr cZ4):=fun l=>zm i l
 have a3:=(qg.1 i).1;have U:∀ x c:Cell,((J++[x]).set I.length c)[I.length]?=some c:=fun x c=>qv zSo
 have j:MuLe I J:=(MuLe.app (MuLe.refl _) _).trans P;have a0:R=⟨⟨1,[]⟩,X.up⟩:=by rw[<-hR,h,zc,hX];rfl
 subst a0;simp[go_sem,o,h,T,U];exact⟨MuLe.setN (MuLe.app j _) (qh _) _,Rd.aggs ⟨.hf _ (HF.sc _),.wk _ true _ (.hf _ (HF.lst fun r hr=>by simp at hr)),.hf _ (HF.sc _),.hf _ (zy _),trivial⟩⟩
theorem Kq(W:NmOk ts sc bs)(env n x y a b)(hk:n.sD=[x,y])(ho:(6<=n.op/\n.op<=10)\/n.op=14)(hx:okI (sumI sc.sC) a (ivl ⟨ts,sc,bs⟩ env x))(hy:okI (sumI sc.sC) b (ivl ⟨ts,sc,bs⟩ env y))(ih:IvM ts sc bs env x)(aa:IvM ts sc bs env y):IvM ts sc bs env n:=by
 intro I p ch bv full hN;have aj:∀ l,(I++l)[p]?=some (.arr (cNs ts sc bv (sumI sc.sC) ch)):=fun l=>zm hN.st l
 have a2:∀ l,NsR (I++l) p ts sc bs ch bv:=fun l=>hN.le (MuLe.app (MuLe.refl _) l)
 have ab:=jU ⟨ts,sc,bs⟩ env n;rw[ab];refine zX.of ?_;refine qSW call41 func41 rfl {} ?_;have n1:¬n.op=1:=zOm;have n2:¬n.op=2:=zOm;have n3:¬n.op=3:=zOm;have n4:¬n.op=4:=zOm;generalize hR:opI ⟨ts,sc,bs⟩ env n.op n.name n.n (n.sD.map (ivl ⟨ts,sc,bs⟩ env))=R;rw[hk]at hR;have a3:=fun (I:Mu) (ch:Bool) (bv:AV) (h:NsR I p ts sc bs ch bv)=>aa _ _ _ _ full h
 generalize hX:ivl ⟨ts,sc,bs⟩ env x=X at *
 generalize hY:ivl ⟨ts,sc,bs⟩ env y=Y at *
 have hz:∀ c:Cell,(I++[c])[I.length]?=some c:=fun c=>zSp
 simp[go_sem,n1,n2,n3,n4,hk];refine fG [0,1,2,3,4,5,6,7,8] [(0,0,[]),(1,0,[]),(2,0,[]),(3,0,[]),(4,0,[]),(5,0,[]),(6,1,[]),(7,2,[0,3,5]),(8,1,[])] zKr zKr zSi ?_;simp[go_sem,hk];have ih:=ih _ _ _ _ full (a2 [.arr cZ4]);rw[hX]at ih;refine qc.mem ih fun m1 h1=>?_
 have a4:=h1 _ _ (hz (.arr cZ4));have a5:=(a2 _).le h1;have ad:∀ l,(m1++l)[I.length]?=some (.arr cZ4):=fun l=>zm a4 l
 have ak:=(qg.1 a4).1;have al:∀ x c:Cell,((m1++[x]).set I.length c)[I.length]?=some c:=fun x c=>qv zSo
 have a6:MuLe I m1:=(MuLe.app (MuLe.refl _) _).trans h1;have n5:¬n.op=5:=zOm;have ae:¬n.op=11:=zOm;have af:¬n.op=12:=zOm;have ag:¬n.op=13:=zOm;have ah:¬n.op=15:=zOm;simp[go_sem,hk,n5,ae,af,ag,ah];refine fG [0,1,2,3,4,5,6,7,8] [(0,0,[]),(1,0,[]),(2,0,[]),(3,0,[]),(4,0,[]),(5,0,[]),(6,1,[]),(7,2,[0,3,5]),(8,1,[])] zKr zKr zSi ?_;simp[go_sem,hk];refine qc.mem (a3 _ _ _ (a5.le (MuLe.app (MuLe.refl _) [.arr (cBd X)]))) fun J h2=>?_
 have a0:J[m1.length]?=some (.arr (cBd X)):=h2 _ _ zSp;have a7:=h2 _ _ (ad [.arr (cBd X)]);have a1:=(a5.le (MuLe.app (MuLe.refl _) [.arr (cBd X)])).le h2;have T:∀ l,(J++l)[I.length]?=some (.arr cZ4):=fun l=>zm a7 l
 have U:∀ l,(J++l)[m1.length]?=some (.arr (cBd X)):=fun l=>zm a0 l
 have ai:=(qg.1 a7).1;have a8:∀ x c:Cell,((J++[x]).set I.length c)[I.length]?=some c:=fun x c=>qv zSo
 have o:MuLe I J:=(a6.trans (MuLe.app (MuLe.refl _) _)).trans h2;have x1:=hx.lo.len W.S.n0 (zW1 W.h12);have x2:=hx.up.len W.S.n0 (zW1 W.h12);have y1:=hy.lo.len W.S.n0 (zW1 W.h12);have y2:=hy.up.len W.S.n0 (zW1 W.h12);have t:∀ r s:Rl,(r=X.lo/\s=Y.lo)\/(r=X.up/\s=Y.up)->GR (sumI sc.sC) r/\GR (sumI sc.sC) s:=fun r s h=>by
  rcases h with ⟨rfl,rfl⟩|⟨rfl,rfl⟩
  .exact ⟨hx.lo,hy.lo⟩
  .exact ⟨hx.up,hy.up⟩
 have P:∀ r s:Rl,GR (sumI sc.sC) r->GR (sumI sc.sC) s->r.ts.length<=8000/\s.ts.length<=8000:=fun r s g1 g2=>⟨g1.len W.S.n0 (zW1 W.h12),g2.len W.S.n0 (zW1 W.h12)⟩
 rcases (show n.op=6\/n.op=7\/n.op=9\/n.op=10\/n.op=8\/n.op=14 by omega) with h|h|h|h|h|h
 .have i:R=map2 (fun r s=>unR r s) X Y:=by rw[<-hR,h,zc,zc,hX,hY];rfl
  subst i;have hf:wK qb (J++[.arr (cBd Y)]) (.fn (.func 90) [] []) eRel (fun r s=>(r=X.lo/\s=Y.lo)\/(r=X.up/\s=Y.up)) (fun r s=>eRel (unR r s)):=
   ⟨_,_,rfl,fun r s hr m hm=>by
    obtain⟨g1,g2⟩:=t r s hr;exact cL m (jz r s (zW1 (P r s g1 g2)) (zW1 (P r s g1 g2))) (.zk (qt r) (.zk (qt s) .nil))⟩
  simp[go_sem,hk,h];refine qc.mem (biM (b:=m1.length) (c:=J.length) (x:=X) (y:=Y) (zm a0 _) zSp hf) fun m3 h3=>?_
  have j:=h3 _ _ (T [.arr (cBd Y)]);have C:∀ c,(m3.set I.length c)[I.length]?=some c:=fun c=>qv (qg.1 j).1
  simp[go_sem,j,C];exact⟨MuLe.setN ((o.trans (MuLe.app (MuLe.refl _) _)).trans h3) (qh _) _,.hf _ (zJ (map2 (fun r s=>unR r s) X Y))⟩
 .have i:R=map2 (fun r s=>inR r s) X Y:=by rw[<-hR,h,zc,zc,hX,hY];rfl
  subst i;have hf:wK qb (J++[.arr (cBd Y)]) (.fn (.func 92) [] []) eRel (fun r s=>(r=X.lo/\s=Y.lo)\/(r=X.up/\s=Y.up)) (fun r s=>eRel (inR r s)):=
   ⟨_,_,rfl,fun r s hr m hm=>by
    obtain⟨g1,g2⟩:=t r s hr;exact cL m (Jg r s (zW1 (P r s g1 g2)) (zW1 (P r s g1 g2))) (.zk (qt r) (.zk (qt s) .nil))⟩
  simp[go_sem,hk,h];refine qc.mem (biM (b:=m1.length) (c:=J.length) (x:=X) (y:=Y) (zm a0 _) zSp hf) fun m3 h3=>?_
  have j:=h3 _ _ (T [.arr (cBd Y)]);have C:∀ c,(m3.set I.length c)[I.length]?=some c:=fun c=>qv (qg.1 j).1
  simp[go_sem,j,C];exact⟨MuLe.setN ((o.trans (MuLe.app (MuLe.refl _) _)).trans h3) (qh _) _,.hf _ (zJ (map2 (fun r s=>inR r s) X Y))⟩
 .have i:R=map2 (fun r s=>vE (vV (sumI sc.sC) r s)) X Y:=by rw[<-hR,h,zc,zc,hX,hY];rfl
  subst i;have hf:wK qb (J++[.arr (cBd Y)]) (.fn (.func 94) [] [.ip [.ptr p 0]]) eRel (fun r s=>(r=X.lo/\s=Y.lo)\/(r=X.up/\s=Y.up)) (fun r s=>eRel (vE (vV (sumI sc.sC) r s))):=
   ⟨_,_,rfl,fun r s hr m hm=>by
    obtain⟨g1,g2⟩:=t r s hr;exact joinM ((a1.le (MuLe.app (MuLe.refl _) _)).le hm) W r s g1 g2 (aY W.S.n0 W.h12 g1 g2)⟩
  simp[go_sem,hk,h];refine qc.mem (biM (b:=m1.length) (c:=J.length) (x:=X) (y:=Y) (zm a0 _) zSp hf) fun m3 h3=>?_
  have j:=h3 _ _ (T [.arr (cBd Y)]);have C:∀ c,(m3.set I.length c)[I.length]?=some c:=fun c=>qv (qg.1 j).1
  simp[go_sem,j,C];exact⟨MuLe.setN ((o.trans (MuLe.app (MuLe.refl _) _)).trans h3) (qh _) _,.hf _ (zJ (map2 (fun r s=>vE (vV (sumI sc.sC) r s)) X Y))⟩
 .have i:R=map2 (fun r s=>vE (wB (sumI sc.sC) r s)) X Y:=by rw[<-hR,h,zc,zc,hX,hY];rfl
  subst i;have hf:wK qb (J++[.arr (cBd Y)]) (.fn (.func 97) [] [.ip [.ptr p 0]]) eRel (fun r s=>(r=X.lo/\s=Y.lo)\/(r=X.up/\s=Y.up)) (fun r s=>eRel (vE (wB (sumI sc.sC) r s))):=
   ⟨_,_,rfl,fun r s hr m hm=>by
    obtain⟨g1,g2⟩:=t r s hr;exact prodM ((a1.le (MuLe.app (MuLe.refl _) _)).le hm) W r s g1 g2⟩
  simp[go_sem,hk,h];refine qc.mem (biM (b:=m1.length) (c:=J.length) (x:=X) (y:=Y) (zm a0 _) zSp hf) fun m3 h3=>?_
  have j:=h3 _ _ (T [.arr (cBd Y)]);have C:∀ c,(m3.set I.length c)[I.length]?=some c:=fun c=>qv (qg.1 j).1
  simp[go_sem,j,C];exact⟨MuLe.setN ((o.trans (MuLe.app (MuLe.refl _) _)).trans h3) (qh _) _,.hf _ (zJ (map2 (fun r s=>vE (wB (sumI sc.sC) r s)) X Y))⟩
 .have i:R=⟨diR X.lo Y.up,diR X.up Y.lo⟩:=by rw[<-hR,h,zc,zc,hX,hY];rfl
  subst i;simp[go_sem,hk,h];refine tN zKr ?_;simp[go_sem,U];refine tR (ZV X.lo Y.up zOm zOm) (.zk (qt _) (.zk (qt _) .nil)) ?_;simp[go_sem,U];refine tR (ZV X.up Y.lo zOm zOm) (.zk (qt _) (.zk (qt _) .nil)) ?_;simp[go_sem,T,a8];exact⟨MuLe.setN (MuLe.app o _) (qh _) _,.hf _ (zJ ⟨diR X.lo Y.up,diR X.up Y.lo⟩)⟩
 .have i:R=⟨unR Y.lo (vZ (sumI sc.sC) X.lo Y.up),unR Y.up (vZ (sumI sc.sC) X.up Y.lo)⟩:=by rw[<-hR,h,zc,zc,hX,hY];rfl
  subst i;have a9:NsR (J++[.arr (cBd Y)]) p ts sc bs ch bv:=a1.le (MuLe.app (MuLe.refl _) _);have k1:=(aQ (b:=Y.up) hx.lo).len W.S.n0 (zW1 W.h12);have k2:=(aQ (b:=Y.lo) hx.up).len W.S.n0 (zW1 W.h12);simp[go_sem,hk,h];refine tN zKr ?_;simp[go_sem,U];refine fW (qcA ts sc W.S.g W.S.n0 W.h12 bs ch (sumI sc.sC) X.lo Y.up hx.lo hy.up) ⟨a9.rd,.hf _ (qt _),.hf _ (qt _),trivial⟩ ?_;simp[go_sem,U];refine tR (jz Y.lo _ zOm zOm) (.zk (qt _) (.zk (qt _) .nil)) ?_;simp[go_sem,U];refine fW (qcA ts sc W.S.g W.S.n0 W.h12 bs ch (sumI sc.sC) X.up Y.lo hx.up hy.lo) ⟨a9.rd,.hf _ (qt _),.hf _ (qt _),trivial⟩ ?_;simp[go_sem,U];refine tR (jz Y.up _ zOm zOm) (.zk (qt _) (.zk (qt _) .nil)) ?_;simp[go_sem,T,a8];exact⟨MuLe.setN (MuLe.app o _) (qh _) _,.hf _ (zJ ⟨unR Y.lo (vZ (sumI sc.sC) X.lo Y.up),unR Y.up (vZ (sumI sc.sC) X.up Y.lo)⟩)⟩
theorem qoH(W:NmOk ts sc bs)(env)(t:env.length<=1000000){A}(I:∀ nm a,A nm=some a->okI (sumI sc.sC) a (zt ⟨ts,sc,bs⟩ env nm)){n a}(h:ArN A n a):IvM ts sc bs env n:=by
 have ok:∀{x:Nd}{b:Int},ArN A x b->okI (sumI sc.sC) b (ivl ⟨ts,sc,bs⟩ env x):=fun o=>nH (σ:=⟨ts,sc,bs⟩) W.S.n0 I o
 induction h with
 |name g h=>exact Ux W env t _ (.inl g)
 |none g h=>exact Ux W env t _ (.inr (.inl g))
 |univ g=>exact Ux W env t _ (.inr (.inr (.inl g)))
 |iden g=>exact Ux W env t _ (.inr (.inr (.inr g)))
 |prime g j h C=>exact qcC W env _ _ _ j (.inl g) (ok h) (fun h=>zOm) C
 |bin g j h C=>exact qcC W env _ _ _ j (.inr g) (ok h) (fun _=>rfl) C
 |alike g j o p i l=>exact Kq W env _ _ _ _ _ j zOm (ok o) (ok p) i l
 |join g j o p h i l=>exact Kq W env _ _ _ _ _ j zOm (ok o) (ok p) i l
 |prod g j o p h i l=>exact Kq W env _ _ _ _ _ j zOm (ok o) (ok p) i l
 |compr g j o i=>exact qoG W env _ _ _ j g i
end O6
set_option maxHeartbeats 1000000
namespace O7
open P1 E1 E2 EO EQ ER EY F3 KA KB O0 O4 KE
section
variable {bv:AV}{bs:List Bd}{mu:Mu}{p:Nat}{ts:TS}
abbrev cfV:AV := .ifc 183 (.agg [])
theorem qoI:HF cfV:=HF.ifc (HF.agg fun c g=>by simp at g)
theorem chkC(ok):ju qb 191 [aB ok] (if ok then .ret (.tup []) else .pan cfV):=by
 refine jK.of_sound ?_;refine qSW call191 func191 rfl {} ?_;cases ok
 .simp [go_sem]
  exact⟨_,_,⟨rfl,rfl⟩,.hf _ qoI⟩
 .simp [go_sem]
  exact .hf _ (HF.tup zSp)
structure NsW (mu:Mu) (p:Nat) (bv:AV) (ts:TS) (sc:Sc) (bs:List Bd) (ch:Bool):Prop where
 st:mu[p]?=some (.arr (cNs ts sc bv (sumI sc.sC) ch))
 ow:(bv = .lst true []/\bs=[])\/∃ q,bv = .sl q 4 0 bs.length/\mu[q]?=some (.arr (bs.map cBd).flatten)/\q≠p
theorem NsW.r{sc g}(h:NsW mu p bv ts sc bs g):NsR mu p ts sc bs g bv:=⟨h.st,by
 rcases h.ow with ⟨rfl,rfl⟩|⟨q,rfl,i,_⟩
 .exact .inr (.inl rfl)
 .exact .inr (.inr ⟨q,zSp,i⟩)⟩
theorem NsW.le{mu' sc g}(h:NsW mu p bv ts sc bs g)(i:MuLe mu mu'):NsW mu' p bv ts sc bs g:=⟨i _ _ h.st,by
 rcases h.ow with h|⟨q,j,l,o⟩
 .exact .inl h
 .exact .inr ⟨q,j,i _ _ l,o⟩⟩
def But2(p:Nat)(bv:AV)(mu m:Mu):Prop:=mu.length<=m.length/\∀ i,i<mu.length->i≠p->qw bv≠some i->m[i]?=mu[i]?
theorem But2.trans{a b c}(h:But2 p bv a b)(k:But2 p bv b c):But2 p bv a c:=⟨Nat.le_trans h.1 k.1,fun i g j l=>by
 rw[k.2 i (Nat.lt_of_lt_of_le g h.1) j l];exact h.2 i g j l⟩
theorem tT{a b}(h:MuLe a b):But2 p bv a b:=⟨MuLe.len h,fun i g _ _=>by
 rw[h i a[i] (qC g),qC g]⟩
structure EndN (p:Nat) (bv:AV) (ts:TS) (sc:Sc) (mu:Mu) (r:Br) (e:AEnd) (m:Mu):Prop where
 but:But2 p bv mu m
 fin:match r with
  |some (bs,ch)=>e = .ret (.tup [])/\NsW m p bv ts sc bs ch
  |none=>e = .pan cfV
theorem qoJ{sc ch}(hN:NsW mu p bv ts sc bs ch)(i)(I:i<bs.length)(P Q){a}(h0:0<=sumI sc.sC)(a7:sumI sc.sC<=12)(hb:okI (sumI sc.sC) a bs[i])(hP:GR (sumI sc.sC) P)(pa:P.ar=a)(a2:GR (sumI sc.sC) Q) :
  qr qb 242 [.ptr p 0,aI i,eRel P,eRel Q] mu (EndN p bv ts sc mu (Qe i P Q bs ch)):=by
 have l1:=hb.lo.len h0 zOm;have l2:=hb.up.len h0 zOm;have l3:=hP.len h0 zOm;have l4:=a2.len h0 zOm;have l5:=(aC hb.lo hP (by rw[hb.la,pa])).len h0 zOm;have l6:(inR bs[i].up Q).ts.length<=8000:=Nat.le_trans (List.length_filter_le _ _) l2;obtain⟨J,a3⟩:=hN;rcases a3 with ⟨rfl,rfl⟩|⟨q,rfl,hq,T⟩
 .simp at I
 have a0:=qcB I;have o:i*4+4<=(bs.map cBd).flatten.length:=by rw[yD (sz:=4) (JK bs).ok,yB];omega
 generalize hR:Qe i P Q bs ch=R;generalize hY:(bs.map cBd).flatten=Y at *
 refine qSW call242 func242 rfl {} ?_;have t:(Y.drop (i*4)).take 2=cRel bs[i].lo:=by
  have:=congrArg (List.take 2) a0;rw[List.take_take]at this;exact this
 have C:(Y.drop (i*4+2)).take 2=cRel bs[i].up:=by
  have:=congrArg (List.drop 2) a0;rw[List.drop_take,List.drop_drop]at this;exact this
 have e0:i*4+2<=Y.length:=zOm;have hS:∀ l,(mu++l)[p]?=some (.arr (cNs ts sc (.sl q 4 0 bs.length) (sumI sc.sC) ch)):=fun l=>zm J l
 have hQ:∀ l,(mu++l)[q]?=some (.arr Y):=fun l=>zm hq l
 simp[go_sem];refine fG [0,1,2,3,4,5,6,7,8,10,11,12,13,14,15,16,17,18,9,19,20,21,22] [(0,0,[]),(1,0,[]),(2,0,[]),(3,0,[]),(4,0,[]),(5,0,[]),(6,0,[]),(7,0,[]),(8,0,[]),(10,0,[]),(11,0,[]),(12,0,[]),(13,0,[]),(14,0,[]),(15,0,[]),(16,0,[]),(17,0,[]),(18,0,[]),(9,1,[13,17,18]),(19,1,[]),(20,0,[]),(21,2,[3,7,8,13,17,18]),(22,1,[])] zKr zKr zSi ?_;simp[go_sem,J,hq,I,t,C,e0,o];refine tR (jz bs[i].lo P zOm zOm) (.zk (qt _) (.zk (qt _) .nil)) ?_;simp[go_sem,J,hq,I,t,C,e0,o];refine tR (Jg bs[i].up Q zOm zOm) (.zk (qt _) (.zk (qt _) .nil)) ?_;simp[go_sem,J,hq,I,t,C,e0,o,hS,hQ];have g:R=if sub1 (unR bs[i].lo P) (inR bs[i].up Q)=true then (if unR bs[i].lo P=bs[i].lo/\inR bs[i].up Q=bs[i].up then some (bs,ch) else some (bs.set i ⟨unR bs[i].lo P,inR bs[i].up Q⟩,true)) else none:=by
  rw[<-hR];unfold Qe;simp only[yI,qC I,Option.getD_some]
 have cI:=inU (unR bs[i].lo P) (inR bs[i].up Q) zOm zOm;have a4:=E4.gD (unR bs[i].lo P) bs[i].lo zOm;have a5:=E4.gD (inR bs[i].up Q) bs[i].up zOm;change qd qb 55 _ (aB (sub1 (unR bs[i].lo P) (inR bs[i].up Q))) at cI;generalize unR bs[i].lo P=L at *
 generalize inR bs[i].up Q=U at *
 refine tR cI (.zk (qt _) (.zk (qt _) .nil)) ?_;cases hs:sub1 L U with
 |false =>
  rw[hs,if_neg zSp]at g;subst g;simp[go_sem];refine fQ (chkC false) (.zs .nil) ?_;simp[go_sem];exact⟨tT (MuLe.app (MuLe.refl _) _),rfl⟩
 |true =>
 rw[hs,if_pos rfl]at g;simp[go_sem];refine tX (chkC true) (.zs .nil) (fun r e=>?_) (fun r e=>by cases e);cases e;simp[go_sem];refine tN zKr ?_;simp[go_sem,I,t,C,e0,o,hS,hQ];refine tR a4 (.zk (qt _) (.zk (qt _) .nil)) ?_;have a8:=(qg.1 J).1;have a9:=(qg.1 hq).1;have a1:∀ x c:Cell,((mu++[x]).set q c)[p]?=some (.arr (cNs ts sc (.sl q 4 0 bs.length) (sumI sc.sC) ch)):=fun x c=>by rw[zA T];exact hS _
 have a6:((bs.set i ⟨L,U⟩).map cBd).flatten=putCells Y (i*4) (cBd ⟨L,U⟩):=by
  rw[<-hY,List.map_set,kc (bs.map cBd) i (cBd ⟨L,U⟩) (JK bs).ok rfl (zUs I)]
 have fin:∀ x d:Cell,d = .arr (cNs ts sc (.sl q 4 0 bs.length) (sumI sc.sC) true)->EndN p (.sl q 4 0 bs.length) ts sc mu (some (bs.set i ⟨L,U⟩,true)) (.ret (.tup [])) (((mu++[x]).set q (.arr (putCells Y (i*4) (cBd ⟨L,U⟩)))).set p d):=fun x d hd=>by
  subst hd;refine⟨⟨zSp,fun j hj h1 h2=>?_⟩,rfl,?_,.inr ⟨q,by rw[List.length_set],?_,T⟩⟩
  .rw [zA (fun e=>h1 e.symm),zA (fun e=>h2 (by rw[<-e];rfl)),qB hj]
  .rw [qv zSo]
  .rw [zA (fun e=>T e.symm),qv zSo,a6]
 by_cases c1:L=bs[i].lo
 .have aa:=c1
  simp[go_sem,c1,I,t,C,e0,o,hS,hQ];refine tR a5 (.zk (qt _) (.zk (qt _) .nil)) ?_;by_cases c2:U=bs[i].up
  .rw [if_pos ⟨c1,c2⟩]at g
   subst g;simp[go_sem,c2];exact⟨tT (MuLe.app (MuLe.refl _) _),rfl,hS _,.inr ⟨q,rfl,hY ▸ hQ _,T⟩⟩
  rw[if_neg (fun h=>c2 h.2)]at g;simp[go_sem,c2];rw[<-c1]at *
  refine tN zKr ?_;simp[go_sem,I,o,hS,hQ,a1];subst g;have:=fin (.arr (cBd ⟨L,U⟩)) _ rfl;simpa[putCells] using this
 .rw [if_neg (fun h=>c1 h.1)]at g
  simp[go_sem,c1,I,t,C,e0,o,hS,hQ];refine tN zKr ?_;simp[go_sem,I,o,hS,hQ,a1];subst g;have:=fin (.arr (cBd ⟨L,U⟩)) _ rfl;simpa[putCells] using this
end
end O7
set_option maxHeartbeats 1000000
namespace O9
open Y1 Y9 Y10 P1 YF E1 E2 E4 EO ER ET EY F3 F6 KA KB O0 O2 O4 KE O6 O7
section
variable {bv:AV}{A:tV->Option Int}{a:Int}{mu:Mu}{p:Nat}{ts:TS}
theorem Kr{n}(h:ArN A n a)(l:n.op=6\/n.op=7\/n.op=8):∃ x y,n.sD=[x,y]/\ArN A x a/\ArN A y a:=by
 cases h with
 |alike _ g i j=>exact⟨_,_,g,i,j⟩
 |_=>omega
theorem qoK{n}(h:ArN A n a)(j:n.op=11):a=2/\∃ x,n.sD=[x]/\ArN A x 2:=by
 cases h with
 |bin _ g i=>exact⟨rfl,_,g,i⟩
 |_=>omega
theorem qoL{n}(h:ArN A n a)(i:n.op=1):A n.name=some a:=by
 cases h with
 |name _ g=>exact g
 |_=>omega
structure NwC (ts:TS) (sc:Sc):Prop where
 W:NwS ts sc
 nf:ts.sA.length<=1000000
 sz:∀ x,x∈ts.sS->x.1.size<=4611686018427387904
theorem NwC.nm{sc}(C:NwC ts sc){bs}(h:BdS ts (sumI sc.sC) bs):NmOk ts sc bs:=⟨C.W.s,C.W.h12,h.b.1,C.nf,C.sz⟩
theorem NwC.iv{sc}(C:NwC ts sc){bs}(h:BdS ts (sumI sc.sC) bs){n a}(g:ArN (arT ts) n a):IvM ts sc bs [] n:=qoH (C.nm h) [] zSp (C.W.nm h) g
theorem EndN.of{sc M r e m}(h:But2 p bv mu M)(k:EndN p bv ts sc M r e m):EndN p bv ts sc mu r e m:=⟨h.trans k.but,k.fin⟩
theorem EndN.ret{sc r v m}(k:EndN p bv ts sc mu r (.ret v) m):∃ bs g,r=some (bs,g)/\v = .tup []/\But2 p bv mu m/\NsW m p bv ts sc bs g:=by
 obtain⟨i,h⟩:=k;cases r with
 |none=>cases h
 |some q =>
  obtain⟨bs,g⟩:=q;obtain⟨e,h⟩:=h;cases e;exact⟨bs,g,rfl,rfl,i,h⟩
theorem EndN.pan{sc r v m}(k:EndN p bv ts sc mu r (.pan v) m):r=none/\v=cfV/\But2 p bv mu m:=by
 obtain⟨g,h⟩:=k;cases r with
 |none=>cases h;exact⟨rfl,rfl,g⟩
 |some q=>obtain⟨t,i⟩:=q;cases h.1
theorem nar1U(f n):qd qb 241 [.agg (yT f),.ip (cNd n)] (aB (decide (f.name=n.name))):=by
 refine qSV call241 func241 rfl ?_;simp[go_sem,jj];exact .zsc _
def WWs:List AV->List AV->Prop
 | [],[]=>True
 |x :: p,y :: j=>(x=y\/WK x y)/\WWs p j
 |_,_=>False
theorem WWs.get:∀{xs ys},WWs xs ys->ys.length=xs.length/\∀(k:Nat) x y,xs[k]?=some x->ys[k]?=some y->x=y\/WK x y
 | [],[],_=>⟨rfl,fun k x y h=>by simp at h⟩
 |x :: xs,y :: ys,h=>by
  obtain⟨j,l⟩:=h;obtain⟨o,p⟩:=WWs.get l;refine⟨zP1 o,fun k a b g i=>?_⟩;cases k with
  |zero=>simp at g i;subst g;subst i;exact j
  |succ k=>exact p k a b (zUs g) (zUs i)
 | [],_ :: _,h=>h.elim
 |_ :: _,[],h=>h.elim
theorem tK{P f args args' R}(p:WWs args args')(h:qr P f args' mu R):qr P f args mu R:=by
 obtain⟨g,t⟩:=p.get;refine⟨h.1,fun G w C s i=>h.2 G w C s ⟨by rw[g];exact i.1,fun k y j=>?_⟩⟩;have l:k<args.length:=by rw[<-g];exact(qg.1 j).1
 have o:=i.2 k args[k] (qC l);rcases t k _ y (qC l) j with e|e
 .rw [<-e];exact o
 .exact VRel.mono (G:=⟨G.imm,[]⟩) (G':=G) ⟨fun b h=>h,fun b x h=>by simp at h⟩ (Ext.refl _ _) (e G w.heap _ o)
theorem Ks{n x y m}(g:n.sD=[x,y])(i:szN n<=m+1):szN x<=m/\szN y<=m:=by
 have j:=q9 (n:=n) (k:=x) (by rw[g];simp);have l:=q9 (n:=n) (k:=y) (by rw[g];simp);omega
def NarM(ts:TS)(sc:Sc)(n:Nd)(a:Int):Prop:=∀(I:Mu)(p:Nat)(i:AV)(t:List Bd)(j g:Bool)(P Q:Rl),NsW I p i ts sc t j->BdS ts (sumI sc.sC) t->GR (sumI sc.sC) P->P.ar=a->GR (sumI sc.sC) Q->Q.ar=a ->
 qr qb 193 [.ptr p 0,eNd n,eRel P,eRel Q,aB g] I (EndN p i ts sc I (narN ts sc g n P Q t j))
theorem narM{sc}(C:NwC ts sc):∀ m n a,szN n<=m->ArN (arT ts) n a->NarM ts sc n a
 | 0,n,a,hm,_=>by obtain⟨op,nm,i,ks,q⟩:=n;simp[szN]at hm
 |m+1,n,a,hm,hn=>by
  intro I p bv t ch g P Q hN hb hP pa hQ qa;have h0:=C.W.s.n0;have a3:=C.W.h12;have hI:=C.W.ok hb hn;have cI:=C.iv hb hn;have l1:=hI.lo.len h0 zOm;have l2:=hI.up.len h0 zOm;have l3:=hP.len h0 zOm;have l4:=hQ.len h0 zOm;generalize j:narN ts sc g n P Q t ch=R;rw[Jo]at j;have ai:=fun (I:Mu) (bv:AV) (h:NsR I p ts sc t ch bv)=>cI _ _ _ _ true h
  generalize hX:ivl ⟨ts,sc,t⟩ [] n=X at *
  refine qSW call193 func193 rfl {} ?_;simp[go_sem];refine qc.mem (ai _ _ hN.r) fun m1 h1=>?_
  have ab:=hN.le h1;simp[go_sem];have cA:=inU P X.up zOm zOm;have cB:=inU X.lo Q zOm zOm;change qd qb 55 _ (aB (sub1 P X.up)) at cA;change qd qb 55 _ (aB (sub1 X.lo Q)) at cB;refine tR cA (.zk (qt _) (.zk (qt _) .nil)) ?_;have a5:EndN p bv ts sc I none (.pan cfV) (m1++[.arr (cBd X)]):=⟨tT (h1.trans (MuLe.app (MuLe.refl _) _)),rfl⟩;cases a6:sub1 P X.up with
  |false =>
   rw[a6,if_neg zSp]at j;subst j;simp[go_sem];refine fQ (chkC false) (.zs .nil) ?_;simp[go_sem];exact a5
  |true =>
  simp[go_sem];refine tR cB (.zk (qt _) (.zk (qt _) .nil)) ?_;cases ad:sub1 X.lo Q with
  |false =>
   rw[a6,ad,if_neg zSp]at j;subst j;simp[go_sem];refine fQ (chkC false) (.zs .nil) ?_;simp[go_sem];exact a5
  |true =>
  simp only[a6,ad,Bool.and_self,if_true]at j;simp[go_sem];refine tX (chkC true) (.zs .nil) (fun r e=>?_) (fun r e=>by cases e);cases e;have ae:=hI.lo.ar1;have a7:=hI.lo.ar3;have aj:NsW (m1++[.arr (cBd X)]) p bv ts sc t ch:=ab.le (MuLe.app (MuLe.refl _) _);simp[go_sem];refine fW (allF ts sc t ch (sumI sc.sC) h0 a3 X.lo.ar zOm a7) ⟨aj.r.rd,.hf _ (HF.sc _),trivial⟩ ?_;simp[go_sem];have hM:NsW (m1++[.arr (cBd X),.arr (cRel (KA.allN (sumI sc.sC) X.lo.ar))]) p bv ts sc t ch:=ab.le (MuLe.app (MuLe.refl _) _);have hA:(m1++[.arr (cBd X),.arr (cRel (KA.allN (sumI sc.sC) X.lo.ar))])[m1.length+1]?=some (.arr (cRel (KA.allN (sumI sc.sC) X.lo.ar))):=zSp;have l:But2 p bv I (m1++[.arr (cBd X),.arr (cRel (KA.allN (sumI sc.sC) X.lo.ar))]):=tT (h1.trans (MuLe.app (MuLe.refl _) _));have T:=Z2 (n:=sumI sc.sC) (a:=X.lo.ar) h0 ae a7;generalize KA.allN (sumI sc.sC) X.lo.ar=AL at *
  generalize az:(m1++[Cell.arr (cBd X),.arr (cRel AL)])=M at *
  have af:I.length<=m1.length+1:=zW1 (MuLe.len h1);have ag:∀ i,I.length<=i->i≠p/\qw bv≠some i:=fun i hi=>by
   have hp:=(qg.1 hN.st).1;refine⟨zOm,fun e=>?_⟩;rcases hN.ow with ⟨rfl,_⟩|⟨q,rfl,hq,_⟩
   .cases e
   .cases e
    have:=(qg.1 hq).1;omega
  generalize m1.length+1=bA at *
  have keep:∀{m2:Mu}{i:Nat}{c:Cell},But2 p bv M m2->I.length<=i->M[i]?=some c->m2[i]?=some c:=fun {m2 i c} hb hi hc=>by
   obtain⟨f1,f2⟩:=ag i hi;rw[hb.2 i (qg.1 hc).1 f1 f2];exact hc
  by_cases o1:n.op=1
  .rw [if_pos o1]at j
   have hC:HF (.ip (cNd n)):=HF.ip (yK n);have hF:HF (.fn (.func 241) [] [.ip (cNd n)]):=HF.fn (fun c hc=>by simp at hc) (fun c hc=>by simp at hc;subst hc;exact hC);have cX:=idxFl false ts.sA (.fn (.func 241) [] [.ip (cNd n)]) (fun f=>decide (f.name=n.name)) ⟨_,[],_,rfl,fun f hf=>⟨[.agg (yT f),.ip (cNd n)],nar1U f n,.zk (HF.agg (Wr f)) (.zk hC .nil)⟩⟩ (zW1 C.nf);simp[go_sem,o1,hM.st];refine tR cX (.zk (Zf _) (.zk hF .nil)) ?_;cases hi:idxF ts.sA n.name with
   |none =>
    have a8:idxI ts.sA (fun f=>decide (f.name=n.name)) = -1:=by unfold idxI;rw[show ts.sA.findIdx? (fun f=>decide (f.name=n.name))=none from hi]
    rw[hi]at j;replace j:some (t,ch)=R:=j;subst j;rw[a8];simp[go_sem];exact⟨l,rfl,hM⟩
   |some i =>
    have a8:idxI ts.sA (fun f=>decide (f.name=n.name))=i:=by unfold idxI;rw[show ts.sA.findIdx? (fun f=>decide (f.name=n.name))=some i from hi]
    obtain⟨ak,al,a9,ea⟩:=mh C.W hb (qoL hn o1) hi;rw[hi]at j;simp only[yI,List.getElem?_map,qC a9,Option.map_some,Option.getD_some]at j;rw[a8];have hf:=qoJ hM i ak P Q h0 a3 al hP pa hQ;cases g with
    |true =>
     rw[Bool.true_or,if_pos rfl]at j;rw[j]at hf;simp[go_sem];refine fL hf (fun r m h=>?_) (fun r m h=>?_)
     .obtain ⟨an,ao,_,U,_,_⟩:=EndN.ret h
      subst U;simp[go_sem];exact EndN.of l h
     .simp [go_sem]
      exact EndN.of l h
    |false =>
     rw[Bool.false_or]at j;cases hv:ts.sA[i].var with
     |true =>
      rw[hv]at j;replace j:some (t,ch)=R:=j;subst j;simp[go_sem,hM.st,a9,hv];exact⟨l,rfl,hM⟩
     |false =>
      rw[hv,Bool.not_false,if_pos rfl]at j;rw[j]at hf;simp[go_sem,hM.st,a9,hv];refine fL hf (fun r m h=>?_) (fun r m h=>?_)
      .obtain ⟨an,ao,_,U,_,_⟩:=EndN.ret h
       subst U;simp[go_sem];exact EndN.of l h
      .simp [go_sem]
       exact EndN.of l h
  rw[if_neg o1]at j;by_cases o6:n.op=6
  .rw [if_pos o6]at j
   obtain⟨x,y,J,hx,hy⟩:=Kr hn (.inl o6);rw[J,V1]at j;have s1:=Ks J hm;have aq:=C.W.ok hb hx;have au:=C.W.ok hb hy;have ix:=C.iv hb hx;have iy:=C.iv hb hy;have lx:=aq.up.len h0 zOm;have ly:=au.up.len h0 zOm;have dP:∀ z:Rl,(⟨P.ar,(diR P z).ts⟩:Rl)=diR P z:=fun z=>rfl
   simp only[zc,List.map_nil,KS,List.getD_cons_succ,dP]at j;have fx:=fun (I:Mu) (bv:AV) (h:NsR I p ts sc t ch bv)=>ix _ _ _ _ true h
   have fy:=fun (I:Mu) (bv:AV) (h:NsR I p ts sc t ch bv)=>iy _ _ _ _ true h
   generalize b0:ivl ⟨ts,sc,t⟩ [] x=XA at *
   generalize b2:ivl ⟨ts,sc,t⟩ [] y=XB at *
   simp[go_sem,o1,o6,J];refine fG [0,1,2,3,4,7,8,9,10,11,5,6,12,13,14,15,16,17] [(0,0,[]),(1,0,[]),(2,0,[]),(3,0,[]),(4,0,[]),(7,0,[]),(8,0,[]),(9,0,[]),(10,0,[]),(11,0,[]),(5,1,[9,11]),(6,0,[]),(12,1,[]),(13,0,[]),(14,2,[2,4,9,11]),(15,2,[2,4,9,11]),(16,1,[]),(17,1,[])] zKr zKr zSi ?_;simp[go_sem,J];refine qc.mem (fx _ _ hM.r) fun m3 h3=>?_
   simp[go_sem,J];refine qc.mem (fy _ _ (hM.le h3).r) fun m4 h4=>?_
   simp[go_sem,J];have av:NsW (m4++[.arr (cRel XA.up),.arr (cRel XB.up)]) p bv ts sc t ch:=((hM.le h3).le h4).le (MuLe.app (MuLe.refl _) _);have aa:But2 p bv I (m4++[.arr (cRel XA.up),.arr (cRel XB.up)]):=l.trans (tT ((h3.trans h4).trans (MuLe.app (MuLe.refl _) _)));have ga:(m4++[Cell.arr (cRel XA.up),Cell.arr (cRel XB.up)])[m4.length]?=some (.arr (cRel XA.up)):=zSp;have gb:(m4++[Cell.arr (cRel XA.up),Cell.arr (cRel XB.up)])[m4.length+1]?=some (.arr (cRel XB.up)):=zSp;have aw:I.length<=m4.length:=by have:=l.1;have:=MuLe.len h3;have:=MuLe.len h4;omega
   generalize b3:(m4++[Cell.arr (cRel XA.up),Cell.arr (cRel XB.up)])=M5 at *
   generalize m4.length=ba at *
   have c1:=narM C m x a s1.1 hx M5 p bv t ch g (diR P XB.up) Q av hb (cS hP) pa hQ qa;have st1:=fun (b1:List Bd) (k1:Bool) (e:narN ts sc g x (diR P XB.up) Q t ch=some (b1,k1))=>(vC C.W hx g _ Q t b1 ch k1 hb (cS hP) pa hQ qa e).v
   refine fG [0,1,2,3,4,5,6,8,9,7,10] [(0,0,[]),(1,0,[]),(2,0,[]),(3,0,[]),(4,0,[]),(5,0,[]),(6,0,[]),(8,0,[]),(9,0,[]),(7,1,[2,4,8]),(10,1,[])] zKr zKr zSi ?_;simp[go_sem,J,gb];refine tR (ZV P XB.up zOm zOm) (.zk (qt _) (.zk (qt _) .nil)) ?_;simp[go_sem,J,gb];refine fL c1 (fun r m6 h=>?_) (fun r m6 h=>?_)
   .obtain ⟨b1,k1,e1,U,o,a0⟩:=EndN.ret h
    subst U;rw[e1]at j;replace j:narN ts sc g y (diR P XA.up) Q b1 k1=R:=j;have ah:m6[ba]?=some (.arr (cRel XA.up)):=by
     obtain⟨f1,f2⟩:=ag ba aw;rw[o.2 ba (qg.1 ga).1 f1 f2];exact ga
    have c2:=narM C m y a s1.2 hy m6 p bv b1 k1 g (diR P XA.up) Q a0 (st1 b1 k1 e1) (cS hP) pa hQ qa;simp[go_sem];refine fG [0,1,2,3,4,5,6,8,9,7,10] [(0,0,[]),(1,0,[]),(2,0,[]),(3,0,[]),(4,0,[]),(5,0,[]),(6,0,[]),(8,0,[]),(9,0,[]),(7,1,[2,4,8]),(10,1,[])] zKr zKr zSi ?_;simp[go_sem,J,ah];refine tR (ZV P XA.up zOm zOm) (.zk (qt _) (.zk (qt _) .nil)) ?_;simp[go_sem,J,ah];refine fL c2 (fun r m7 h=>?_) (fun r m7 h=>?_)
    .obtain ⟨_,_,_,U,_,_⟩:=EndN.ret h
     subst U;rw[j]at h;simp[go_sem];exact EndN.of (aa.trans o) h
    .rw [j]at h
     simp[go_sem];exact EndN.of (aa.trans o) h
   .obtain ⟨e1,U,o⟩:=EndN.pan h
    rw[e1]at j;subst j;subst U;simp[go_sem];exact⟨aa.trans o,rfl⟩
  rw[if_neg o6]at j;by_cases o7:n.op=7
  .rw [if_pos o7]at j
   obtain⟨x,y,J,hx,hy⟩:=Kr hn (.inr (.inl o7));rw[J,V1]at j;have s1:=Ks J hm;have c1:=narM C m x a s1.1 hx M p bv t ch g P AL hM hb hP pa T.1 (T.2.trans hI.la);have st1:=fun (b1:List Bd) (k1:Bool) (e:narN ts sc g x P AL t ch=some (b1,k1))=>(vC C.W hx g P AL t b1 ch k1 hb hP pa T.1 (T.2.trans hI.la) e).v
   simp[go_sem,o1,o6,o7,J];refine fG [0,1,2,3,4,5,6,7,8] [(0,0,[]),(1,0,[]),(2,0,[]),(3,0,[]),(4,0,[]),(5,0,[]),(6,0,[]),(7,0,[]),(8,1,[])] zKr zKr zSi ?_;simp[go_sem,J,hA];refine fL c1 (fun r m2 h=>?_) (fun r m2 h=>?_)
   .obtain ⟨b1,k1,e1,U,o,a0⟩:=EndN.ret h
    subst U;rw[e1]at j;replace j:narN ts sc g y P AL b1 k1=R:=j;have a4:=keep o af hA;have c2:=narM C m y a s1.2 hy m2 p bv b1 k1 g P AL a0 (st1 b1 k1 e1) hP pa T.1 (T.2.trans hI.la);simp[go_sem];refine fG [0,1,2,3,4,5,6,7,8] [(0,0,[]),(1,0,[]),(2,0,[]),(3,0,[]),(4,0,[]),(5,0,[]),(6,0,[]),(7,0,[]),(8,1,[])] zKr zKr zSi ?_;simp[go_sem,J,a4];refine fL c2 (fun r m3 h=>?_) (fun r m3 h=>?_)
    .obtain ⟨_,_,_,U,_,_⟩:=EndN.ret h
     subst U;rw[j]at h;simp[go_sem];exact EndN.of (l.trans o) h
    .rw [j]at h
     simp[go_sem];exact EndN.of (l.trans o) h
   .obtain ⟨e1,U,o⟩:=EndN.pan h
    rw[e1]at j;subst j;subst U;simp[go_sem];exact⟨l.trans o,rfl⟩
  rw[if_neg o7]at j;by_cases o8:n.op=8
  .rw [if_pos o8]at j
   obtain⟨x,y,J,hx,hy⟩:=Kr hn (.inr (.inr o8));rw[J,mj]at j;have s1:=Ks J hm;have c1:=narM C m x a s1.1 hx M p bv t ch g P AL hM hb hP pa T.1 (T.2.trans hI.la);have st1:=fun (b1:List Bd) (k1:Bool) (e:narN ts sc g x P AL t ch=some (b1,k1))=>(vC C.W hx g P AL t b1 ch k1 hb hP pa T.1 (T.2.trans hI.la) e).v
   have l7:=T.1.len h0 zOm;simp[go_sem,o1,o6,o7,o8,J];refine fG [0,1,2,3,4,5,6,7,8] [(0,0,[]),(1,0,[]),(2,0,[]),(3,0,[]),(4,0,[]),(5,0,[]),(6,0,[]),(7,0,[]),(8,1,[])] zKr zKr zSi ?_;simp[go_sem,J,hA];refine fL c1 (fun r m2 h=>?_) (fun r m2 h=>?_)
   .obtain ⟨b1,k1,e1,U,o,a0⟩:=EndN.ret h
    subst U;rw[e1]at j;replace j:narN ts sc g y ⟨X.lo.ar,[]⟩ (diR AL P) b1 k1=R:=j;have a4:=keep o af hA;have c2:=narM C m y a s1.2 hy m2 p bv b1 k1 g ⟨X.lo.ar,[]⟩ (diR AL P) a0 (st1 b1 k1 e1) (GR.nil ae a7) hI.la (cS T.1) (T.2.trans hI.la);simp[go_sem];refine fG [0,1,2,3,4,5,6,7,8,9,11,10,12] [(0,0,[]),(1,0,[]),(2,0,[]),(3,0,[]),(4,0,[]),(5,0,[]),(6,0,[]),(7,0,[]),(8,0,[]),(9,0,[]),(11,0,[]),(10,1,[2,4,6]),(12,1,[])] zKr zKr zSi ?_;simp[go_sem,J,a4];refine tR (ZV AL P zOm zOm) (.zk (qt _) (.zk (qt _) .nil)) ?_;have ax:=tK (args:=[.ptr p 0,eNd y,.agg [aI AL.ar,.lst true []],eRel (diR AL P),aB g]) (args':=[.ptr p 0,eNd y,eRel ⟨X.lo.ar,[]⟩,eRel (diR AL P),aB g]) ⟨.inl rfl,.inl rfl,.inr (WK.aggs (.cons (by rw[T.2];exact .hf (HF.sc _)) (.cons (WK.lst fun r hr=>absurd hr qG) .nil))),.inl rfl,.inl rfl,trivial⟩ c2;simp[go_sem,J,a4];refine fL ax (fun r m7 h=>?_) (fun r m7 h=>?_)
    .obtain ⟨_,_,_,U,_,_⟩:=EndN.ret h
     subst U;rw[j]at h;simp[go_sem];exact EndN.of (l.trans o) h
    .rw [j]at h
     simp[go_sem];exact EndN.of (l.trans o) h
   .obtain ⟨e1,U,o⟩:=EndN.pan h
    rw[e1]at j;subst j;subst U;simp[go_sem];exact⟨l.trans o,rfl⟩
  rw[if_neg o8]at j;by_cases a1:n.op=11
  .rw [if_pos a1]at j
   obtain⟨a2,x,J,hx⟩:=qoK hn a1;rw[J,narT]at j;have s1:szN x<=m:=by have:=q9 (n:=n) (k:=x) (by rw[J];simp);omega
   have cP:=WY _ h0 a3 P hP (pa.trans a2);have cQ:=WY _ h0 a3 Q hQ (qa.trans a2);have c1:=narM C m x 2 s1 hx M p bv t ch g (trR (sumI sc.sC) P) (trR (sumI sc.sC) Q) hM hb (GR.trans h0 hP (pa.trans a2)) rfl (GR.trans h0 hQ (qa.trans a2)) rfl;simp[go_sem,o1,o6,o7,o8,a1,J];refine fG [0,1,2,3,4,5,6,7,8,9,11,12,13,14,15,17,10,16,18] [(0,0,[]),(1,0,[]),(2,0,[]),(3,0,[]),(4,0,[]),(5,0,[]),(6,0,[]),(7,0,[]),(8,0,[]),(9,0,[]),(11,0,[]),(12,0,[]),(13,0,[]),(14,0,[]),(15,0,[]),(17,0,[]),(10,1,[2,4,14,15]),(16,1,[2,4]),(18,1,[])] zKr zKr zSi ?_;simp[go_sem,J,hM.st];refine tR cP (.zs (.zk (qt _) .nil)) ?_;simp[go_sem,J,hM.st];refine tR cQ (.zs (.zk (qt _) .nil)) ?_;simp[go_sem,J,hM.st];refine fL c1 (fun r m3 h=>?_) (fun r m3 h=>?_)
   .obtain ⟨_,_,_,U,_,_⟩:=EndN.ret h
    subst U;rw[j]at h;simp[go_sem];exact EndN.of l h
   .rw [j]at h
    simp[go_sem];exact EndN.of l h
  rw[if_neg a1]at j;subst j;simp[go_sem,o1,o6,o7,o8,a1];exact⟨l,rfl,hM⟩
end
end O9
namespace KF
open Y1 P1 E1 E2 KA KB KD KE
def TyK(A:tV->Option Int)(m:Nd):Prop:=
 (m.op=34\/m.op=35\/m.op=36\/m.op=37->∃ k a,m.sD=[k]/\ArN A k a)/\(m.op=32\/m.op=33->∃ k g a,m.sD=[k,g]/\ArN A k a/\ArN A g a)
def TyC(A:tV->Option Int)(n:Nd):Prop:=TyK A n/\(n.op=40->∃ m,n.sD=[m]/\TyK A m)
variable {ts:TS} {sc:Sc}
theorem z_ok{n a}(g:1<=a)(i:a<=3):GR n (⟨a,[]⟩:Rl)/\(⟨a,[]⟩:Rl).ar=a:=⟨GR.nil g i,rfl⟩
theorem Kt(W:NwS ts sc){n a}(l:ArN (arT ts) n a)(g bs i c c')(j:BdS ts (sumI sc.sC) bs)(h:uM ts sc g n bs c=some (i,c')):jV ts (sumI sc.sC) bs i c c':=by
 have I:=W.ok j l;unfold uM at h;simp only at h;split at h
 .cases h
 split at h
 .rw [I.ua]at h
  have o:=Z2 (a:=a) W.s.n0 (by rw[<-I.la];exact I.lo.ar1) (by rw[<-I.la];exact I.lo.ar3);exact vC W l g _ _ bs i c c' j I.up I.ua o.1 o.2 h
 .cases h;exact .id j
theorem qcD(W:NwS ts sc){n a}(l:ArN (arT ts) n a)(g bs i c c')(j:BdS ts (sumI sc.sC) bs)(h:uN ts sc g n bs c=some (i,c')):jV ts (sumI sc.sC) bs i c c':=by
 have I:=W.ok j l;unfold uN at h;simp only at h;split at h
 .cases h
 split at h
 .rw [I.la]at h
  have o:=z_ok (n:=sumI sc.sC) (a:=a) (by rw[<-I.la];exact I.lo.ar1) (by rw[<-I.la];exact I.lo.ar3);exact vC W l g _ _ bs i c c' j o.1 o.2 I.lo I.la h
 .cases h;exact .id j
theorem qoM(W:NwS ts sc){n a}(l:ArN (arT ts) n a)(g bs i c c')(o:BdS ts (sumI sc.sC) bs)(h:noN ts sc g n bs c=some (i,c')):jV ts (sumI sc.sC) bs i c c':=by
 have I:=W.ok o l;unfold noN at h;simp only at h;rw[I.la]at h;have j:=z_ok (n:=sumI sc.sC) (a:=a) (by rw[<-I.la];exact I.lo.ar1) (by rw[<-I.la];exact I.lo.ar3);exact vC W l g _ _ bs i c c' o j.1 j.2 j.1 j.2 h
inductive Cst where
 |skip
 |bad
 |no (k:Nd)
 |some (k:Nd)
 |lone (k:Nd)
 |one (k:Nd)
 |sub (e:Bool) (k k':Nd)
def cstN(n:Nd):Cst:=
 let no:=decide (n.op=40)
 let m:=if n.op=40 then kidN n 0 else n
 let k:=kidN m 0
 if (no=true/\m.op=34)\/(no=false/\m.op=35) then .no k
 else if (no=true/\m.op=35)\/(no=false/\m.op=34) then .some k
 else if no=true then .skip
 else if m.op=31 then .bad
 else if m.op=36 then .one k
 else if m.op=37 then .lone k
 else if m.op=32\/m.op=33 then .sub (decide (m.op=33)) k (kidN m 1)
 else .skip
def runC(ts:TS)(sc:Sc)(g:Bool)(q:Cst)(bs:List Bd)(c:Bool):Br:=match q with
 | .skip=>Option.some (bs,c)
 | .bad=>Option.none
 | .no k=>noN ts sc g k bs c
 | .some k=>uM ts sc g k bs c
 | .lone k=>uN ts sc g k bs c
 | .one k=>brB (uM ts sc g k bs c) fun bs c=>uN ts sc g k bs c
 | .sub e k i =>
  let x:=ivl ⟨ts,sc,bs⟩ [] k
  let y:=ivl ⟨ts,sc,bs⟩ [] i
  let all:=allN (sumI sc.sC) x.lo.ar
  brB (narN ts sc g k (if e then y.lo else ⟨all.ar,[]⟩) y.up bs c) fun bs c=>narN ts sc g i x.lo (if e then x.up else all) bs c
theorem qcE(g n bs c):ub ts sc g n bs c=runC ts sc g (cstN n) bs c:=by
 unfold ub cstN;simp only
 repeat' split
 all_goals first
  |rfl
  | (simp only[runC];grind)
  |omega
  |grind [runC]
def TyQ(A:tV->Option Int):Cst->Prop
 | .skip=>True
 | .bad=>True
 | .no k=>∃ a,ArN A k a
 | .some k=>∃ a,ArN A k a
 | .lone k=>∃ a,ArN A k a
 | .one k=>∃ a,ArN A k a
 | .sub _ k g=>∃ a,ArN A k a/\ArN A g a
theorem qcF{A n}(h:TyC A n):TyQ A (cstN n):=by
 obtain⟨⟨p,t⟩,C⟩:=h;unfold cstN;simp only;by_cases j:n.op=40
 .obtain ⟨m,I,l,P⟩:=C j
  have e:kidN n 0=m:=by simp[kidN,I]
  simp only[j,if_true,e,decide_true,true_and,Bool.true_eq_false,false_and,or_false];split
  .rename_i o
   obtain⟨k,a,g,i⟩:=l zOm;exact⟨a,by simpa[kidN,g] using i⟩
  split
  .rename_i o
   obtain⟨k,a,g,i⟩:=l zOm;exact⟨a,by simpa[kidN,g] using i⟩
  trivial
 .simp only[j,if_false,decide_false,Bool.false_eq_true,false_and,false_or,true_and]
  have one:(n.op=34\/n.op=35\/n.op=36\/n.op=37)->∃ a,ArN A (kidN n 0) a:=fun o=>by
   obtain⟨k,a,g,i⟩:=p o;exact⟨a,by simpa[kidN,g] using i⟩
  split
  .exact one zOm
  split
  .exact one zOm
  split
  .trivial
  split
  .exact one zOm
  split
  .exact one zOm
  split
  .rename_i o
   obtain⟨k,R,a,g,i,J⟩:=t o;exact⟨a,by simpa[kidN,g] using i,by simpa[kidN,g] using J⟩
  trivial
theorem qcG(W:NwS ts sc){q}(p:TyQ (arT ts) q)(g bs i c c')(l:BdS ts (sumI sc.sC) bs)(h:runC ts sc g q bs c=some (i,c')):jV ts (sumI sc.sC) bs i c c':=by
 cases q with
 |skip=>cases h;exact .id l
 |bad=>cases h
 |no k=>obtain⟨a,j⟩:=p;exact qoM W j g bs i c c' l h
 |some k=>obtain⟨a,j⟩:=p;exact Kt W j g bs i c c' l h
 |lone k=>obtain⟨a,j⟩:=p;exact qcD W j g bs i c c' l h
 |one k =>
  obtain⟨a,j⟩:=p;obtain⟨d,e,t,C⟩:=Z3 h;have s:=Kt W j g bs d c e l t;exact s.trans (qcD W j g d i e c' s.v C)
 |sub eq k T =>
  obtain⟨a,j,o⟩:=p;obtain⟨d,e,t,C⟩:=Z3 h;have I:=W.ok l j;have J:=W.ok l o;have P:=Z2 (a:=a) W.s.n0 (by rw[<-I.la];exact I.lo.ar1) (by rw[<-I.la];exact I.lo.ar3);have R:=z_ok (n:=sumI sc.sC) (a:=a) P.1.ar1 P.1.ar3;rw[I.la]at t C;cases eq with
  |true =>
   have s:=vC W j g _ _ bs d c e l J.lo J.la J.up J.ua t;exact s.trans (vC W o g _ _ d i e c' s.v I.lo I.la I.up I.ua C)
  |false =>
   have s:=vC W j g _ _ bs d c e l R.1 R.2 J.up J.ua t;exact s.trans (vC W o g _ _ d i e c' s.v I.lo I.la P.1 P.2 C)
def TyL(A:tV->Option Int)(l:List Nd):Prop:=∀ n,n∈l->∀ g,TyC A (yH n g).1
theorem Uy(W:NwS ts sc):∀ l,TyL (arT ts) l->∀ bs g c c',BdS ts (sumI sc.sC) bs->uc ts sc l bs c=some (g,c')->jV ts (sumI sc.sC) bs g c c'
 | [],_,bs,g,c,c',i,h=>by cases h;exact .id i
 |n :: l,j,bs,g,c,c',i,h=>by
  rw[uc]at h;obtain⟨d,e,o,p⟩:=Z3 h;rw[qcE]at o;have s:=qcG W (qcF (j n zSp _)) _ bs d c e i o;exact s.trans (Uy W l (fun x t=>j x (zP1 t)) d g e c' s.v p)
theorem qcH(W:NwS ts sc){l}(j:TyL (arT ts) l):∀ f bs x,BdS ts (sumI sc.sC) bs->fixN ts sc l f bs=some x->BdS ts (sumI sc.sC) x/\TgL x bs
 | 0,bs,x,g,h=>by cases h;exact⟨g,TgL.rfl' _⟩
 |f+1,bs,x,g,h=>by
  rw[fixN]at h;cases i:uc ts sc l bs false with
  |none=>rw[i]at h;cases h
  |some r =>
   obtain⟨b',c⟩:=r;rw[i]at h;have s:=Uy W l j bs b' false c g i;cases c with
   |true =>
    obtain⟨o,p⟩:=qcH W j f b' x s.v h;exact⟨o,p.trans s.t⟩
   |false=>cases h;exact⟨s.v,s.t⟩
theorem qcI(W:NwS ts sc){l}(i:TyL (arT ts) l):∀ f bs x,BdS ts (sumI sc.sC) bs->gapL bs<f->fixN ts sc l f bs=some x->uc ts sc l x false=some (x,false)
 | 0,bs,x,j,o,h=>zOm
 |f+1,bs,x,j,o,h=>by
  rw[fixN]at h;cases g:uc ts sc l bs false with
  |none=>rw[g]at h;cases h
  |some r =>
   obtain⟨b',c⟩:=r;rw[g]at h;have s:=Uy W l i bs b' false c j g;cases c with
   |true =>
    have:=s.d rfl;exact qcI W i f b' x s.v (by
     rcases this with h|h
     .cases h
     .omega) h
   |false =>
    cases h;obtain⟨e,_⟩:=s.c rfl;rw[e]at g⊢;exact g
end KF
set_option maxHeartbeats 1000000
namespace OA
open Y1 Y9 P1 E4 F6 KA KB O0 O2 KE KF O7 O9
variable {ts:TS} {sc:Sc}
theorem Zs(C:NwC ts sc){n a}(g:ArN (arT ts) n a):NarM ts sc n a:=narM C (szN n) n a (qh _) g
theorem noM(C:NwC ts sc){n a}(o:ArN (arT ts) n a){mu p bv bs i}(g)(U:NsW mu p bv ts sc bs i)(t:BdS ts (sumI sc.sC) bs) :
  qr qb 189 [.ptr p 0,eNd n,aB g] mu (EndN p bv ts sc mu (noN ts sc g n bs i)):=by
 have l:=C.W.ok t o;have cI:=C.iv t o;have I:=fun (mu:Mu) (bv:AV) (h:NsR mu p ts sc bs i bv)=>cI _ _ _ _ true h
 generalize hR:noN ts sc g n bs i=R;unfold noN at hR;generalize hX:ivl ⟨ts,sc,bs⟩ [] n=X at *
 have J:=l.lo.ar1;have P:=l.lo.ar3;have hZ:=z_ok (n:=sumI sc.sC) J P;refine qSW call189 func189 rfl {} ?_;simp[go_sem];refine qc.mem (I _ _ U.r) fun m1 h1=>?_
 have hM:NsW (m1++[.arr [aI X.lo.ar,.lst true []]]) p bv ts sc bs i:=(U.le h1).le (MuLe.app (MuLe.refl _) _);have j:But2 p bv mu (m1++[.arr [aI X.lo.ar,.lst true []]]):=tT (h1.trans (MuLe.app (MuLe.refl _) _));have c1:=Zs C o _ p bv bs i g ⟨X.lo.ar,[]⟩ ⟨X.lo.ar,[]⟩ hM t hZ.1 l.la hZ.1 l.la;have wz:WK (.agg [aI X.lo.ar,.lst true []]) (eRel ⟨X.lo.ar,[]⟩):=WK.aggs (.zs (.cons (WK.lst fun r hr=>absurd hr qG) .nil));have c2:=tK (args:=[.ptr p 0,eNd n,.agg [aI X.lo.ar,.lst true []],.agg [aI X.lo.ar,.lst true []],aB g]) (args':=[.ptr p 0,eNd n,eRel ⟨X.lo.ar,[]⟩,eRel ⟨X.lo.ar,[]⟩,aB g]) ⟨.inl rfl,.inl rfl,.inr wz,.inr wz,.inl rfl,trivial⟩ c1;rw[hR]at c2;simp[go_sem];refine fL c2 (fun r m h=>?_) (fun r m h=>?_)
 .obtain ⟨_,_,_,e2,_,_⟩:=EndN.ret h
  subst e2;simp[go_sem];exact EndN.of j h
 .simp [go_sem]
  exact EndN.of j h
theorem Ku(C:NwC ts sc){n a}(J:ArN (arT ts) n a){mu p bv bs l}(g)(hN:NsW mu p bv ts sc bs l)(P:BdS ts (sumI sc.sC) bs) :
  qr qb 190 [.ptr p 0,eNd n,aB g] mu (EndN p bv ts sc mu (uM ts sc g n bs l)):=by
 have h0:=C.W.s.n0;have T:=C.W.h12;have o:=C.W.ok P J;have cI:=C.iv P J;have U:=fun (mu:Mu) (bv:AV) (h:NsR mu p ts sc bs l bv)=>cI _ _ _ _ true h
 generalize j:uM ts sc g n bs l=R;unfold uM at j;generalize hX:ivl ⟨ts,sc,bs⟩ [] n=X at *
 have a0:=o.up.ar1;have t:=o.up.ar3;have I:=Z2 (n:=sumI sc.sC) (a:=X.up.ar) h0 a0 t;refine qSW call190 func190 rfl {} ?_;simp[go_sem];refine qc.mem (U _ _ hN.r) fun m1 h1=>?_
 have hM:NsW (m1++[.arr (cBd X)]) p bv ts sc bs l:=(hN.le h1).le (MuLe.app (MuLe.refl _) _);have i:But2 p bv mu (m1++[.arr (cBd X)]):=tT (h1.trans (MuLe.app (MuLe.refl _) _));by_cases l0:X.up.ts.length=0
 .rw [if_pos l0]at j
  subst j;simp[go_sem,l0];refine fQ (chkC false) (.zs .nil) ?_;simp[go_sem];exact⟨i,rfl⟩
 rw[if_neg l0]at j;have a1:0<X.up.ts.length:=zOm;simp[go_sem,a1];refine tX (chkC true) (.zs .nil) (fun r e=>?_) (fun r e=>by cases e);cases e;by_cases l1:X.up.ts.length=1
 .rw [if_pos l1]at j
  have c1:=Zs C J _ p bv bs l g X.up (KA.allN (sumI sc.sC) X.up.ar) hM P o.up o.ua I.1 (I.2.trans o.ua);rw[j]at c1;simp[go_sem,l1];refine fG [0,1,2,3,4,5,6,7,9,8,10] [(0,0,[]),(1,0,[]),(2,0,[]),(3,0,[]),(4,0,[]),(5,0,[]),(6,0,[]),(7,0,[]),(9,0,[]),(8,1,[1,3]),(10,1,[])] zKr zKr zSi ?_;simp[go_sem];refine fW (allF ts sc bs l (sumI sc.sC) h0 T X.up.ar zOm t) ⟨hM.r.rd,.hf _ (HF.sc _),trivial⟩ ?_;simp[go_sem];refine fL c1 (fun r m h=>?_) (fun r m h=>?_)
  .obtain ⟨_,_,_,e2,_,_⟩:=EndN.ret h
   subst e2;simp[go_sem];exact EndN.of i h
  .simp [go_sem]
   exact EndN.of i h
 .rw [if_neg l1]at j
  subst j;have l2:¬(X.up.ts.length:Int)=1:=zOm;simp[go_sem,l2];exact⟨i,rfl,hM⟩
theorem qcJ(C:NwC ts sc){n a}(I:ArN (arT ts) n a){mu p bv bs o}(g)(hN:NsW mu p bv ts sc bs o)(J:BdS ts (sumI sc.sC) bs) :
  qr qb 192 [.ptr p 0,eNd n,aB g] mu (EndN p bv ts sc mu (uN ts sc g n bs o)):=by
 have t:=C.W.ok J I;have cI:=C.iv J I;have P:=fun (mu:Mu) (bv:AV) (h:NsR mu p ts sc bs o bv)=>cI _ _ _ _ true h
 generalize j:uN ts sc g n bs o=R;unfold uN at j;generalize hX:ivl ⟨ts,sc,bs⟩ [] n=X at *
 have hZ:=z_ok (n:=sumI sc.sC) t.lo.ar1 t.lo.ar3;refine qSW call192 func192 rfl {} ?_;simp[go_sem];refine qc.mem (P _ _ hN.r) fun m1 h1=>?_
 have hM:NsW (m1++[.arr (cBd X)]) p bv ts sc bs o:=(hN.le h1).le (MuLe.app (MuLe.refl _) _);have i:But2 p bv mu (m1++[.arr (cBd X)]):=tT (h1.trans (MuLe.app (MuLe.refl _) _));by_cases l0:1<X.lo.ts.length
 .rw [if_pos l0]at j
  subst j;have l:¬(X.lo.ts.length:Int)<2:=zOm;simp[go_sem,l];refine fQ (chkC false) (.zs .nil) ?_;simp[go_sem];exact⟨i,rfl⟩
 rw[if_neg l0]at j;have l:(X.lo.ts.length:Int)<2:=zOm;simp[go_sem,l];refine tX (chkC true) (.zs .nil) (fun r e=>?_) (fun r e=>by cases e);cases e;by_cases T:X.lo.ts.length=1
 .rw [if_pos T]at j
  have c1:=Zs C I _ p bv bs o g ⟨X.lo.ar,[]⟩ X.lo hM J hZ.1 t.la t.lo t.la;have wz:WK (.agg [aI X.lo.ar,.lst true []]) (eRel ⟨X.lo.ar,[]⟩):=WK.aggs (.zs (.cons (WK.lst fun r hr=>absurd hr qG) .nil));have c2:=tK (args:=[.ptr p 0,eNd n,.agg [aI X.lo.ar,.lst true []],eRel X.lo,aB g]) (args':=[.ptr p 0,eNd n,eRel ⟨X.lo.ar,[]⟩,eRel X.lo,aB g]) ⟨.inl rfl,.inl rfl,.inr wz,.inl rfl,.inl rfl,trivial⟩ c1;rw[j]at c2;simp[go_sem,T];refine fL c2 (fun r m h=>?_) (fun r m h=>?_)
  .obtain ⟨_,_,_,e2,_,_⟩:=EndN.ret h
   subst e2;simp[go_sem];exact EndN.of i h
  .simp [go_sem]
   exact EndN.of i h
 .rw [if_neg T]at j
  subst j;have l2:¬(X.lo.ts.length:Int)=1:=zOm;simp[go_sem,l2];exact⟨i,rfl,hM⟩
end OA
set_option maxHeartbeats 1000000
namespace OB
open Y1 P1 E1 E2 E4 EO EY F3 F6 KA KB O0 O2 KE KF O7 O9 OA
variable {ts:TS} {sc:Sc}
theorem qoN(C:NwC ts sc){n}(hT:TyC (arT ts) n)(P:n.op=40){mu p bv bs t}(g)(hN:NsW mu p bv ts sc bs t)(hb:BdS ts (sumI sc.sC) bs) :
  qr qb 120 [.ptr p 0,eNd n,aB g] mu (EndN p bv ts sc mu (ub ts sc g n bs t)):=by
 obtain⟨m,hk,hm,_⟩:=hT.2 P;generalize l:ub ts sc g n bs t=R;have e:kidN n 0=m:=by simp[kidN,hk]
 unfold ub at l;simp only[P,if_true,e,decide_true,true_and,Bool.true_eq_false,false_and,or_false]at l;refine qSW call120 func120 rfl { mt:=[4] } ?_;have T:mu.length<(mu++[Cell.arr (cNd n)]).length:=zSp;have U:NsW ((mu++[Cell.arr (cNd n)]).set mu.length (.arr (cNd m))) p bv ts sc bs t:=hN.le (MuLe.setN (MuLe.app (MuLe.refl _) _) (qh _) _);have i:But2 p bv mu ((mu++[Cell.arr (cNd n)]).set mu.length (.arr (cNd m))):=tT (MuLe.setN (MuLe.app (MuLe.refl _) _) (qh _) _);have I:((mu++[Cell.arr (cNd n)]).set mu.length (.arr (cNd m)))[mu.length]?=some (.arr (cNd m)):=qv T;generalize a0:(mu++[Cell.arr (cNd n)]).set mu.length (.arr (cNd m))=M at *
 have hd:cNd m++List.drop 5 (cNd n)=cNd m:=by cases n;simp[cNd]
 simp[go_sem,P,hk,hd,a0,I];by_cases o:m.op=34
 .obtain ⟨k,a,j,ha⟩:=hm zOm
  rw[if_pos o,show kidN m 0=k by simp[kidN,j]]at l;simp[go_sem,o,j,I];have c:=noM C ha g U hb;rw[l]at c;refine fL c (fun r m h=>?_) (fun r m h=>?_)
  .obtain ⟨_,_,_,e2,_,_⟩:=EndN.ret h
   subst e2;simp[go_sem];exact EndN.of i h
  .simp [go_sem]
   exact EndN.of i h
 by_cases J:m.op=35
 .obtain ⟨k,a,j,ha⟩:=hm zOm
  rw[if_neg o,if_pos J,show kidN m 0=k by simp[kidN,j]]at l;simp[go_sem,o,J,j,I];have c:=Ku C ha g U hb;rw[l]at c;refine fL c (fun r m h=>?_) (fun r m h=>?_)
  .obtain ⟨_,_,_,e2,_,_⟩:=EndN.ret h
   subst e2;simp[go_sem];exact EndN.of i h
  .simp [go_sem]
   exact EndN.of i h
 rw[if_neg o,if_neg J]at l;subst l;simp[go_sem,o,J,I];exact⟨i,rfl,U⟩
theorem qoO(C:NwC ts sc){n}(hT:TyK (arT ts) n)(ho:¬n.op=40){mu p bv bs ch}(g)(hN:NsW mu p bv ts sc bs ch)(hb:BdS ts (sumI sc.sC) bs) :
  qr qb 120 [.ptr p 0,eNd n,aB g] mu (EndN p bv ts sc mu (ub ts sc g n bs ch)):=by
 have h0:=C.W.s.n0;have ah:=C.W.h12;generalize t:ub ts sc g n bs ch=R;unfold ub at t;simp only[ho,if_false,decide_false,Bool.false_eq_true,false_and,false_or,true_and]at t;refine qSW call120 func120 rfl { mt:=[4] } ?_;have hM:NsW (mu++[Cell.arr (cNd n)]) p bv ts sc bs ch:=hN.le (MuLe.app (MuLe.refl _) _);have J:But2 p bv mu (mu++[Cell.arr (cNd n)]):=tT (MuLe.app (MuLe.refl _) _);have hz:(mu++[Cell.arr (cNd n)])[mu.length]?=some (.arr (cNd n)):=zSp;have aq:p≠mu.length:=by have:=(qg.1 hN.st).1;omega
 have au:qw bv≠some mu.length:=fun e=>by
  rcases hN.ow with ⟨rfl,_⟩|⟨q,rfl,hq,_⟩
  .cases e
  .cases e
   have:=(qg.1 hq).1;omega
 have aj:∀ i,mu.length<=i->i≠p/\qw bv≠some i:=fun i hi=>by
  have hp:=(qg.1 hN.st).1;refine⟨zOm,fun e=>?_⟩;rcases hN.ow with ⟨rfl,_⟩|⟨q,rfl,hq,_⟩
  .cases e
  .cases e
   have:=(qg.1 hq).1;omega
 generalize ak:mu++[Cell.arr (cNd n)]=M at *
 have keep:∀{m1 m2:Mu}{i:Nat}{c:Cell},But2 p bv m1 m2->mu.length<=i->m1[i]?=some c->m2[i]?=some c:=fun {m1 m2 i c} hb hi hc=>by
  obtain⟨f1,f2⟩:=aj i hi;rw[hb.2 i (qg.1 hc).1 f1 f2];exact hc
 simp[go_sem,ho,ak,hz];by_cases o5:n.op=35
 .obtain ⟨k,a,j,ha⟩:=hT.1 zOm
  rw[if_pos o5,show kidN n 0=k by simp[kidN,j]]at t;simp[go_sem,o5,j,hz];have c:=noM C ha g hM hb;rw[t]at c;refine fL c (fun r m h=>?_) (fun r m h=>?_)
  .obtain ⟨_,_,_,P,_,_⟩:=EndN.ret h
   subst P;simp[go_sem];exact EndN.of J h
  .simp [go_sem]
   exact EndN.of J h
 rw[if_neg o5]at t;by_cases o4:n.op=34
 .obtain ⟨k,a,j,ha⟩:=hT.1 zOm
  rw[if_pos o4,show kidN n 0=k by simp[kidN,j]]at t;simp[go_sem,o4,o5,j,hz];have c:=Ku C ha g hM hb;rw[t]at c;refine fL c (fun r m h=>?_) (fun r m h=>?_)
  .obtain ⟨_,_,_,P,_,_⟩:=EndN.ret h
   subst P;simp[go_sem];exact EndN.of J h
  .simp [go_sem]
   exact EndN.of J h
 rw[if_neg o4]at t;by_cases o1:n.op=31
 .rw [if_pos o1]at t
  subst t;simp[go_sem,o1,o4,o5,hz];refine fQ (chkC false) (.zs .nil) ?_;simp[go_sem];exact⟨J,rfl⟩
 rw[if_neg o1]at t;by_cases o6:n.op=36
 .obtain ⟨k,a,j,ha⟩:=hT.1 zOm
  rw[if_pos o6,show kidN n 0=k by simp[kidN,j]]at t;simp[go_sem,o1,o4,o5,o6,j,hz];have c:=Ku C ha g hM hb;have U:=fun (b1:List Bd) (k1:Bool) (e:uM ts sc g k bs ch=some (b1,k1))=>(Kt C.W ha g bs b1 ch k1 hb e).v
  refine fL c (fun r m h=>?_) (fun r m h=>?_)
  .obtain ⟨b1,k1,e1,P,I,a3⟩:=EndN.ret h
   subst P;rw[e1]at t;replace t:uN ts sc g k b1 k1=R:=t;have al:=keep I (qh _) hz;have c2:=qcJ C ha g a3 (U b1 k1 e1);rw[t]at c2;simp[go_sem,j,al];refine fL c2 (fun r m h=>?_) (fun r m h=>?_)
   .obtain ⟨_,_,_,P,_,_⟩:=EndN.ret h
    subst P;simp[go_sem];exact EndN.of (J.trans I) h
   .simp [go_sem]
    exact EndN.of (J.trans I) h
  .obtain ⟨e1,P,I⟩:=EndN.pan h
   rw[e1]at t;subst t;subst P;simp[go_sem];exact⟨J.trans I,rfl⟩
 rw[if_neg o6]at t;by_cases o7:n.op=37
 .obtain ⟨k,a,j,ha⟩:=hT.1 zOm
  rw[if_pos o7,show kidN n 0=k by simp[kidN,j]]at t;simp[go_sem,o1,o4,o5,o6,o7,j,hz];have c:=qcJ C ha g hM hb;rw[t]at c;refine fL c (fun r m h=>?_) (fun r m h=>?_)
  .obtain ⟨_,_,_,P,_,_⟩:=EndN.ret h
   subst P;simp[go_sem];exact EndN.of J h
  .simp [go_sem]
   exact EndN.of J h
 rw[if_neg o7]at t;by_cases a9:n.op=32\/n.op=33
 .rw [if_pos a9]at t
  obtain⟨k,k',a,j,ha,aa⟩:=hT.2 a9;rw[show kidN n 0=k by simp[kidN,j],show kidN n 1=k' by simp[kidN,j]]at t;have hI:=C.W.ok hb ha;have hJ:=C.W.ok hb aa;have cI:=C.iv hb ha;have cJ:=C.iv hb aa;have fx:=fun (mu:Mu) (bv:AV) (h:NsR mu p ts sc bs ch bv)=>cI _ _ _ _ true h
  have fy:=fun (mu:Mu) (bv:AV) (h:NsR mu p ts sc bs ch bv)=>cJ _ _ _ _ true h
  generalize hX:ivl ⟨ts,sc,bs⟩ [] k=X at *
  generalize hY:ivl ⟨ts,sc,bs⟩ [] k'=Y at *
  have ai:=hI.lo.ar1;have ab:=hI.lo.ar3;have a0:=Z2 (n:=sumI sc.sC) (a:=X.lo.ar) h0 ai ab;have hZ:=z_ok (n:=sumI sc.sC) ai ab;rcases a9 with o2|o3
  .simp only[o2,if_true]at t
   simp[go_sem,o1,o2,o4,o5,o6,o7,j,hz];refine fG [0,1,2,3,4,6,7,8,9,10,5,11,12,13,14,15] [(0,0,[]),(1,0,[]),(2,0,[]),(3,0,[]),(4,0,[]),(6,0,[]),(7,0,[]),(8,0,[]),(9,0,[]),(10,0,[]),(5,1,[8,10]),(11,1,[]),(12,2,[2,4,8,10]),(13,2,[2,4,8,10]),(14,1,[]),(15,1,[])] zKr zKr zSi ?_;simp[go_sem,j,hz];refine qc.mem (fx _ _ hM.r) fun m3 h3=>?_
   have a4:=h3 _ _ hz;simp[go_sem,j,a4];refine qc.mem (fy _ _ (hM.le h3).r) fun T h4=>?_
   have a5:=h4 _ _ a4;have a6:=(hM.le h3).le h4;have a7:But2 p bv mu T:=J.trans (tT (h3.trans h4));have ad:mu.length<=T.length:=a7.1;have a1:∀ l,(T++l)[mu.length]?=some (.arr (cNd n)):=fun l=>zm a5 l
   simp[go_sem,j,a5,a1];refine fW (allF ts sc bs ch (sumI sc.sC) h0 ah X.lo.ar zOm ab) ⟨(a6.le (MuLe.app (MuLe.refl _) _)).r.rd,.hf _ (HF.sc _),trivial⟩ ?_;simp[go_sem,a1,o2];refine fG [0,1,2,3,4,6,5,7] [(0,0,[]),(1,0,[]),(2,0,[]),(3,0,[]),(4,0,[]),(6,0,[]),(5,1,[2]),(7,1,[])] zKr zKr zSi ?_;simp[go_sem];generalize av:KA.allN (sumI sc.sC) X.lo.ar=o at *
   have ae:NsW (T++[.arr [aI X.lo.ar,lI X.lo.ts,aI o.ar,lI o.ts],.arr [aI o.ar,.lst true [],aI Y.up.ar,lI Y.up.ts],.arr [aI o.ar,lI o.ts]]) p bv ts sc bs ch:=a6.le (MuLe.app (MuLe.refl _) _);have a2:But2 p bv mu (T++[.arr [aI X.lo.ar,lI X.lo.ts,aI o.ar,lI o.ts],.arr [aI o.ar,.lst true [],aI Y.up.ar,lI Y.up.ts],.arr [aI o.ar,lI o.ts]]):=a7.trans (tT (MuLe.app (MuLe.refl _) _));have a8:=a1 [.arr [aI X.lo.ar,lI X.lo.ts,aI o.ar,lI o.ts],.arr [aI o.ar,.lst true [],aI Y.up.ar,lI Y.up.ts],.arr [aI o.ar,lI o.ts]];have gx:(T++[Cell.arr [aI X.lo.ar,lI X.lo.ts,aI o.ar,lI o.ts],.arr [aI o.ar,.lst true [],aI Y.up.ar,lI Y.up.ts],.arr [aI o.ar,lI o.ts]])[T.length]?=some (.arr [aI X.lo.ar,lI X.lo.ts,aI o.ar,lI o.ts]):=zSp;have gy:(T++[Cell.arr [aI X.lo.ar,lI X.lo.ts,aI o.ar,lI o.ts],.arr [aI o.ar,.lst true [],aI Y.up.ar,lI Y.up.ts],.arr [aI o.ar,lI o.ts]])[T.length+1]?=some (.arr [aI o.ar,.lst true [],aI Y.up.ar,lI Y.up.ts]):=zSp;generalize an:(T++[Cell.arr [aI X.lo.ar,lI X.lo.ts,aI o.ar,lI o.ts],.arr [aI o.ar,.lst true [],aI Y.up.ar,lI Y.up.ts],.arr [aI o.ar,lI o.ts]])=M7 at *
   generalize T.length=bx at *
   have c0:=Zs C ha M7 p bv bs ch g ⟨o.ar,[]⟩ Y.up ae hb (GR.nil a0.1.ar1 a0.1.ar3) (a0.2.trans hI.la) hJ.up hJ.ua;have wz:WK (.agg [aI o.ar,.lst true []]) (eRel ⟨o.ar,[]⟩):=WK.aggs (.zs (.cons (WK.lst fun r hr=>absurd hr qG) .nil));have c1:=tK (args:=[.ptr p 0,eNd k,.agg [aI o.ar,.lst true []],eRel Y.up,aB g]) (args':=[.ptr p 0,eNd k,eRel ⟨o.ar,[]⟩,eRel Y.up,aB g]) ⟨.inl rfl,.inl rfl,.inr wz,.inl rfl,.inl rfl,trivial⟩ c0;have U:=fun (b1:List Bd) (k1:Bool) (e:narN ts sc g k ⟨o.ar,[]⟩ Y.up bs ch=some (b1,k1))=>(vC C.W ha g _ _ bs b1 ch k1 hb (GR.nil a0.1.ar1 a0.1.ar3) (a0.2.trans hI.la) hJ.up hJ.ua e).v
   refine fG [0,1,2,3,4,5,6,7,8,9,10] [(0,0,[]),(1,0,[]),(2,0,[]),(3,0,[]),(4,0,[]),(5,0,[]),(6,0,[]),(7,0,[]),(8,0,[]),(9,0,[]),(10,1,[])] zKr zKr zSi ?_;simp[go_sem,j,a8,gx,gy];refine fL c1 (fun r m h=>?_) (fun r m h=>?_)
   .obtain ⟨b1,k1,e1,P,I,a3⟩:=EndN.ret h
    subst P;rw[e1]at t;replace t:narN ts sc g k' X.lo o b1 k1=R:=t;have af:=keep I (qh _) a8;have ag:=keep I ad gx;have c2:=Zs C aa m p bv b1 k1 g X.lo o a3 (U b1 k1 e1) hI.lo hI.la a0.1 (a0.2.trans hI.la);rw[t]at c2;simp[go_sem];refine fG [0,1,2,3,4,5,6,7,8,9,10] [(0,0,[]),(1,0,[]),(2,0,[]),(3,0,[]),(4,0,[]),(5,0,[]),(6,0,[]),(7,0,[]),(8,0,[]),(9,0,[]),(10,1,[])] zKr zKr zSi ?_;simp[go_sem,j,af,ag];refine fL c2 (fun r m h=>?_) (fun r m h=>?_)
    .obtain ⟨_,_,_,P,_,_⟩:=EndN.ret h
     subst P;simp[go_sem];exact EndN.of (a2.trans I) h
    .simp [go_sem]
     exact EndN.of (a2.trans I) h
   .obtain ⟨e1,P,I⟩:=EndN.pan h
    rw[e1]at t;subst t;subst P;simp[go_sem];exact⟨a2.trans I,rfl⟩
  .have o2:¬n.op=32:=by omega
   simp only[o2,if_false]at t;simp[go_sem,o1,o2,o3,o4,o5,o6,o7,j,hz];refine fG [0,1,2,3,4,6,7,8,9,10,5,11,12,13,14,15] [(0,0,[]),(1,0,[]),(2,0,[]),(3,0,[]),(4,0,[]),(6,0,[]),(7,0,[]),(8,0,[]),(9,0,[]),(10,0,[]),(5,1,[8,10]),(11,1,[]),(12,2,[2,4,8,10]),(13,2,[2,4,8,10]),(14,1,[]),(15,1,[])] zKr zKr zSi ?_;simp[go_sem,j,hz];refine qc.mem (fx _ _ hM.r) fun m3 h3=>?_
   have a4:=h3 _ _ hz;simp[go_sem,j,a4];refine qc.mem (fy _ _ (hM.le h3).r) fun T h4=>?_
   have a5:=h4 _ _ a4;have a6:=(hM.le h3).le h4;have a7:But2 p bv mu T:=J.trans (tT (h3.trans h4));have ad:mu.length<=T.length:=a7.1;have a1:∀ l,(T++l)[mu.length]?=some (.arr (cNd n)):=fun l=>zm a5 l
   simp[go_sem,j,a5,a1];refine fW (allF ts sc bs ch (sumI sc.sC) h0 ah X.lo.ar zOm ab) ⟨(a6.le (MuLe.app (MuLe.refl _) _)).r.rd,.hf _ (HF.sc _),trivial⟩ ?_;simp[go_sem,a1,o3];have ae:NsW (T++[.arr (cBd X),.arr (cBd Y),.arr (cRel (KA.allN (sumI sc.sC) X.lo.ar))]) p bv ts sc bs ch:=a6.le (MuLe.app (MuLe.refl _) _);have a2:But2 p bv mu (T++[.arr (cBd X),.arr (cBd Y),.arr (cRel (KA.allN (sumI sc.sC) X.lo.ar))]):=a7.trans (tT (MuLe.app (MuLe.refl _) _));have a8:=a1 [.arr (cBd X),.arr (cBd Y),.arr (cRel (KA.allN (sumI sc.sC) X.lo.ar))];have gx:(T++[Cell.arr (cBd X),.arr (cBd Y),.arr (cRel (KA.allN (sumI sc.sC) X.lo.ar))])[T.length]?=some (.arr (cBd X)):=zSp;have gy:(T++[Cell.arr (cBd X),.arr (cBd Y),.arr (cRel (KA.allN (sumI sc.sC) X.lo.ar))])[T.length+1]?=some (.arr (cBd Y)):=zSp;generalize an:(T++[Cell.arr (cBd X),.arr (cBd Y),.arr (cRel (KA.allN (sumI sc.sC) X.lo.ar))])=M7 at *
   generalize T.length=bx at *
   have c1:=Zs C ha M7 p bv bs ch g Y.lo Y.up ae hb hJ.lo hJ.la hJ.up hJ.ua;have U:=fun (b1:List Bd) (k1:Bool) (e:narN ts sc g k Y.lo Y.up bs ch=some (b1,k1))=>(vC C.W ha g _ _ bs b1 ch k1 hb hJ.lo hJ.la hJ.up hJ.ua e).v
   refine fG [0,1,2,3,4,5,6,7,8,9,10] [(0,0,[]),(1,0,[]),(2,0,[]),(3,0,[]),(4,0,[]),(5,0,[]),(6,0,[]),(7,0,[]),(8,0,[]),(9,0,[]),(10,1,[])] zKr zKr zSi ?_;simp[go_sem,j,a8,gx,gy];refine fL c1 (fun r m h=>?_) (fun r m h=>?_)
   .obtain ⟨b1,k1,e1,P,I,a3⟩:=EndN.ret h
    subst P;rw[e1]at t;replace t:narN ts sc g k' X.lo X.up b1 k1=R:=t;have af:=keep I (qh _) a8;have ag:=keep I ad gx;have c2:=Zs C aa m p bv b1 k1 g X.lo X.up a3 (U b1 k1 e1) hI.lo hI.la hI.up hI.ua;rw[t]at c2;simp[go_sem];refine fG [0,1,2,3,4,5,6,7,8,9,10] [(0,0,[]),(1,0,[]),(2,0,[]),(3,0,[]),(4,0,[]),(5,0,[]),(6,0,[]),(7,0,[]),(8,0,[]),(9,0,[]),(10,1,[])] zKr zKr zSi ?_;simp[go_sem,j,af,ag];refine fL c2 (fun r m h=>?_) (fun r m h=>?_)
    .obtain ⟨_,_,_,P,_,_⟩:=EndN.ret h
     subst P;simp[go_sem];exact EndN.of (a2.trans I) h
    .simp [go_sem]
     exact EndN.of (a2.trans I) h
   .obtain ⟨e1,P,I⟩:=EndN.pan h
    rw[e1]at t;subst t;subst P;simp[go_sem];exact⟨a2.trans I,rfl⟩
 rw[if_neg a9]at t;subst t;have o2:¬n.op=32:=zOm;have o3:¬n.op=33:=zOm;simp[go_sem,o1,o2,o3,o4,o5,o6,o7,hz];exact⟨J,rfl,hM⟩
theorem qoP(C:NwC ts sc){n}(i:TyC (arT ts) n){mu p bv bs j}(g)(l:NsW mu p bv ts sc bs j)(o:BdS ts (sumI sc.sC) bs) :
  qr qb 120 [.ptr p 0,eNd n,aB g] mu (EndN p bv ts sc mu (ub ts sc g n bs j)):=by
 by_cases t:n.op=40
 .exact qoN C i t g l o
 .exact qoO C i.1 t g l o
end OB
set_option maxHeartbeats 1000000
namespace OC
open Go.RowKit Y1 Y9 P1 YF EO KA O0 KE KF O7 O9 OB
section
variable {args:List AV}
theorem tA{P f fn id o o2 g pl mu m R}(a5:yu P f)(hf:P.funcs[f]?=some fn)
  (hb:fn.body=some (.seq (.region id #[o,o2] false) g)) (ho:∃ d ty pos af,o={ dst:=d,op := .call { callee := .builtin .recover,args:=#[],argTypes:=af },type:=ty,pos:=pos,after:=#[],guard:=none })
  {x} (ag:∃ d ty pos ah,o2={ dst:=d,op := .assign x,type:=ty,pos:=pos,after:=ah,guard:=none })
  (hn:args.length<=fn.ntmps) (hd:dOkC fn.ntmps (.seq (.region id #[o,o2] false) g)=true) (hr:noRF g=true)
  (h:awp P pl g (uz P fn.results.toList fun e l=>∃ r,e = .ret r/\R l) (((st0 args mu).put o.dst (m.getD (.sc .nilIface)) mu).put o2.dst (((st0 args mu).put o.dst (m.getD (.sc .nilIface)) mu).ev x) mu)):yj P f args mu m R:=by
 obtain⟨od,a6,T,a0,rfl⟩:=ho;obtain⟨pd,a7,a1,a8,rfl⟩:=ag;refine⟨a5,fun G w vs u s ra hm=>?_⟩;refine callsDIn_of_wpSIn hf hb trivial fun j cs hc=>?_
 have r0:Rel Ro.bare G mu w fn.ntmps G (st0 args mu) { tmps:=vs++Array.replicate (fn.ntmps-vs.size) xc,defers:=[] } w:=fM s ra hn;simp only[dOkC,qx]at hd;have ai:dOk fn.ntmps od=true:=by grind
 have aj:dOk fn.ntmps pd=true:=by grind
 refine wpSIn_seq (wpSIn_region ?_);have aa:∀ ev:wg->us,(execOp ev { dst:=od,op := .call { callee := .builtin .recover,args:=#[],argTypes:=a0 },type:=a6,pos:=T,after:=#[],guard:=none }).run P w = .ok .recover w:=by
  simp_all[execOp,resolve,invoke,builtin]
 have a3:∀ ev:wg->us,(execOp ev { dst:=pd,op := .assign x,type:=a7,pos:=a1,after:=a8,guard:=none }).run P w = .ok (.value (ev x)) w:=by
  intro ev;simp_all[execOp]
 have go:∀(a4:List Frame)(v:us)(J:FrameMode),a4={ j with mode:=J } :: cs->settle J = .returning->VRel G w.heap (m.getD (.sc .nilIface)) v ->
   wpOpsSIn Fence.wide 0 P #[{ dst:=od,op := .call { callee := .builtin .recover,args:=#[],argTypes:=a0 },type:=a6,pos:=T,after:=#[],guard:=none },{ dst:=pd,op := .assign x,type:=a7,pos:=a1,after:=a8,guard:=none }] (Exit.thenS (g.wpSIn Fence.wide 0 P (bodyPostS P fn j cs fun e J w'=>∃ v G' l,e = .returned v/\settle J = .returning/\Stp G mu w G' l w'/\R l)) (bodyPostS P fn j cs fun e J w'=>∃ v G' l,e = .returned v/\settle J = .returning/\Stp G mu w G' l w'/\R l)) [1]
    (({ tmps:=vs++Array.replicate (fn.ntmps-vs.size) xc,defers:=[] }:Act).put od v) a4 w:=by
  intro a4 v J ad a2 hv;have r1:=r0.put s (Stp.refl s) hv ai;have ak:=r1.ev x;simp only[wpOpsSIn];refine⟨fun _ _=>trivial,?_⟩;simp only[Region.wanted,List.getElem_toArray,List.getElem_cons_succ,List.getElem_cons_zero,if_true];rw[a3];refine wpSIn_of_wpIn rfl ?_;refine Vq (pl:=pl) (n:=fn.ntmps) g (ro:=Ro.bare) s _ _ _ _ w G ?_ (r1.put s (Stp.refl s) ak aj) hd.2 (.inr hr) h;intro ae e U a w' G' hq r he;cases ae<;>cases e<;>simp only[ERel]at he
  .obtain ⟨z,hz,z',_,hR⟩:=hq
   obtain⟨u2,k1,k2⟩:=Q0 (fn:=fn) r hz;exact⟨r.bare,J,ad,u2,k1,u2,G',U.mu,rfl,a2,r.stp,hR⟩
  .exact hq.elim
  .obtain ⟨z,hz,z',_,hR⟩:=hq
   obtain⟨u2,k1,k2⟩:=Q0 (fn:=fn) r hz;exact⟨r.bare,J,ad,u2,k1,u2,G',U.mu,rfl,a2,r.stp,hR⟩
  .obtain ⟨z,hz,_⟩:=hq
   grind
 simp only[List.size_toArray,List.length_cons,List.length_nil,qp,qp.loop];rw[wpOpsSIn];refine⟨fun _ _=>trivial,?_⟩;simp only[Region.wanted,List.getElem_toArray,List.getElem_cons_succ,List.getElem_cons_zero,if_true];rw[aa];cases m with
 |none =>
  have hu:u = .returning:=hm;have C:recoverD (j :: cs)=none:=by simp[recoverD,hc,hu]
  rw[C];exact go _ .nilIface .returning (by rw[<-hu,<-hc]) rfl (.sc _ rfl)
 |some x =>
  obtain⟨v,hu,hv⟩:=hm;have C:recoverD (j :: cs)=some (v,{ j with mode := .panicking [{ v,recovered:=true }] } :: cs):=by simp[recoverD,hc,hu]
  rw[C];exact go _ v (.panicking [{ v,recovered:=true }]) rfl rfl hv
theorem tC{P f fn id ops c pl mu R}(g:yu P f)(hf:P.funcs[f]?=some fn)
  (I:fn.body=some (.seq (.region id ops false) (.scope c))) (J:args.length<=fn.ntmps) (j:dOkC fn.ntmps (.seq (.region id ops false) (.scope c))=true)
  (h:awpS P pl false ops ops.toList (fun st=>awpD P pl fn.results.toList R c st) (fun v st=>R (.pan v) st.mu) (st0 args mu)):qr P f args mu R:=by
 refine⟨g,fun G w t s T=>?_⟩;refine(callsIn_wide (n:=0)).1 (callsIn_of_wp_marks hf I trivial ?_);have U:Rel Ro.bare G mu w fn.ntmps G (st0 args mu) { tmps:=t++Array.replicate (fn.ntmps-t.size) xc,defers:=[] } w:=fM s T J;simp only[dOkC,qx]at j;have l:(ops.toList.all fun o=>dOk fn.ntmps o.dst)=true:=j.1;refine wpIn_seq (wpIn_region_list ?_);refine Vg s ?_ ?_ ops.toList (st0 args mu) _ w G U l h
 .intro st a w G p r
  exact pn (wpIn_mono (pB (pl:=pl) s c st a w G r j.2 p) (fun e a w h=>by cases e<;>first|exact h|exact h.elim))
 .intro v st a w G u p r hv
  show LeavesInM _ _ _ _ _ _ _ _ _;rw[r.bare];exact⟨G,st.mu,r.stp,.inr ⟨v,u,p,rfl,hv⟩⟩
theorem cfN(mu b x)(i:mu[b]?=some (.arr [x])):yj qb 119 [.ptr b 0] mu none fun mu'=>mu'=mu:=by
 refine tA call119 func119 rfl ⟨_,_,_,_,rfl⟩ ⟨_,_,_,_,rfl⟩ (vq zKr) zKr zKr (pl:={}) ?_;simp[go_sem]
theorem cfP(mu b x)(i:mu[b]?=some (.arr [x])):yj qb 119 [.ptr b 0] mu (some cfV) fun mu'=>∃ c,mu'=mu.set b (.arr [aB false])++[c]:=by
 refine tA call119 func119 rfl ⟨_,_,_,_,rfl⟩ ⟨_,_,_,_,rfl⟩ (vq zKr) zKr zKr (pl:={}) ?_;have j:b<mu.length:=(qg.1 i).1;have l:∀ c:Cell,(mu++[c])[b]?=some (.arr [x]):=fun c=>by rw[qB j,i]
 have o:∀ c d:Cell,(mu++[c]).set b d=mu.set b d++[c]:=fun c d=>List.set_append_left b d j
 simp[go_sem,l,o]
inductive Al:Nd->Prop where
 |leaf {n:Nd}:n.op≠48->Al n
 |step {n k:Nd} {ks:List Nd}:n.op=48->n.sD=k :: ks->Al k->Al n
theorem qoQ{n}(h:n.op≠48)(g):yH n g=(n,g):=by
 obtain⟨op,nm,i,ks,p⟩:=n;rw[yH];exact if_neg h
theorem qoR{n k ks}(h:n.op=48)(j:n.sD=k :: ks)(g):yH n g=yH k true:=by
 obtain⟨op,nm,i,l,p⟩:=n;cases j;rw[yH,VX];exact if_pos h
structure EndF (p:Nat) (bv:AV) (ts:TS) (sc:Sc) (mu:Mu) (r:Option (List Bd)) (e:AEnd) (m:Mu):Prop where
 but:But2 p bv mu m
 fin:match r with
  |some bs=>e = .ret (aB true)/\∃ ch,NsW m p bv ts sc bs ch
  |none=>e = .ret (aB false)
variable {ts:TS} {sc:Sc}
structure FxO (ts:TS) (sc:Sc) (l:List Nd) (full:Bool) (p:Nat) (bv:AV) (mu:Mu) (R:Option (List Bd)) (bs1:List Bd) (ch1:Bool) (n:Nat) (st:St):Prop where
 e0:st.tm 0 = .ptr p 0
 e1:st.tm 1 = .lst full (l.map cNd)
 e4:st.tm 4 = .ptr mu.length 0
 hN:NsW st.mu p bv ts sc bs1 ch1
 hB:But2 p bv mu st.mu
 hz:st.mu[mu.length]?=some (.arr [aB false])
 hb:BdS ts (sumI sc.sC) bs1
 hg:gapL bs1<=n
 hR:fixN ts sc l (n+1) bs1=R
def FxOE(ts:TS)(sc:Sc)(l:List Nd)(full:Bool)(p:Nat)(bv:AV)(mu:Mu)(R:Option (List Bd))(n:Nat)(st:St):Prop:=∃ g i,FxO ts sc l full p bv mu R g i n st
structure FxM (ts:TS) (sc:Sc) (l:List Nd) (full:Bool) (p:Nat) (bv:AV) (mu:Mu) (R:Br) (k:Nat) (bs1:List Bd) (ch1:Bool) (n:Nat) (st:St):Prop where
 e0:st.tm 0 = .ptr p 0
 e1:st.tm 1 = .lst full (l.map cNd)
 e4:st.tm 4 = .ptr mu.length 0
 e12:st.tm 12 = .lst full (l.map cNd)
 e13:st.tm 13=aI l.length
 e14:st.tm 14=aI k
 hN:NsW st.mu p bv ts sc bs1 ch1
 hB:But2 p bv mu st.mu
 hz:st.mu[mu.length]?=some (.arr [aB false])
 hb:BdS ts (sumI sc.sC) bs1
 hk:n+k=l.length
 hR:uc ts sc (l.drop k) bs1 ch1=R
def FxME(ts:TS)(sc:Sc)(l:List Nd)(full:Bool)(p:Nat)(bv:AV)(mu:Mu)(R:Br)(n:Nat)(st:St):Prop:=∃ k g i,FxM ts sc l full p bv mu R k g i n st
structure FxS (l:List Nd) (full:Bool) (p:Nat) (b:Nat) (M:Mu) (n:Nd) (g:Bool) (k:Nat) (cur:Nd) (cg:Bool) (m:Nat) (st:St):Prop where
 e0:st.tm 0 = .ptr p 0
 e1:st.tm 1 = .lst full (l.map cNd)
 e4:st.tm 4 = .ptr b 0
 e6:st.tm 6 = .ptr M.length 0
 e7:st.tm 7=aB cg
 e12:st.tm 12 = .lst full (l.map cNd)
 e13:st.tm 13=aI l.length
 e14:st.tm 14=aI k
 hm:MuLe M st.mu
 hc:st.mu[M.length]?=some (.arr (cNd cur))
 ha:Al cur
 hs:yH cur cg=yH n g
 hn:szN cur<=m
def FxSE(l:List Nd)(full:Bool)(p b:Nat)(M:Mu)(n:Nd)(g:Bool)(k m:Nat)(st:St):Prop:=∃ cur i,FxS l full p b M n g k cur i m st
theorem fixM(C:NwC ts sc){l}(hl:TyL (arT ts) l)(ha:∀ n,n∈l->Al n)(bk:l.length<=1000000000){mu p bv bs ch full}(hN:NsW mu p bv ts sc bs ch)(hb:BdS ts (sumI sc.sC) bs) :
  qr qb 49 [.ptr p 0,.lst full (l.map cNd)] mu (EndF p bv ts sc mu (fixN ts sc l (gapL bs+1) bs)):=by
 generalize hR:fixN ts sc l (gapL bs+1) bs=R;have a5:mu.length≠p/\qw bv≠some mu.length:=by
  have hp:=(qg.1 hN.st).1;refine⟨zOm,fun e=>?_⟩;rcases hN.ow with ⟨rfl,_⟩|⟨q,rfl,hq,_⟩
  .cases e
  .cases e
   have:=(qg.1 hq).1;omega
 refine tC call49 func49 rfl (vq zKr) zKr (pl:={}) ?_;simp[go_sem];refine tY (g:=119) (first:=[]) (caps:=[.ptr mu.length 0]) zSi call119 ?_;simp[go_sem];refine tM (FxOE ts sc l full p bv mu R) (gapL bs) ?_ ?_
 .exact ⟨bs,ch,⟨zSi,zSi,zSi,hN.le (MuLe.app (MuLe.refl _) _),tT (MuLe.app (MuLe.refl _) _),zSi,hb,qh _,hR⟩⟩
 rintro n U ⟨a4,bl,e0,e1,e4,aj,ak,al,ax,bm,o⟩;rw[fixN]at o;have I:=aj.st;have ay:=(qg.1 I).1;have aa:p≠mu.length:=fun e=>by rw[e,al]at I;simp at I
 have an:NsW (U.mu.set p (.arr (cNs ts sc bv (sumI sc.sC) false))) p bv ts sc a4 false:=by
  refine⟨qv ay,?_⟩;rcases aj.ow with h|⟨q,h1,h2,h3⟩
  .exact .inl h
  .exact .inr ⟨q,h1,by rw[zA (fun e=>h3 e.symm)];exact h2,h3⟩
 have ao:But2 p bv mu (U.mu.set p (.arr (cNs ts sc bv (sumI sc.sC) false))):=⟨by simp;exact ak.1,fun i hi h1 h2=>by rw[zA (fun e=>h1 e.symm)];exact ak.2 i hi h1 h2⟩;have aq:(U.mu.set p (.arr (cNs ts sc bv (sumI sc.sC) false)))[mu.length]?=some (.arr [aB false]):=by rw[zA aa];exact al
 generalize ar:uc ts sc l a4 false=RR at o;have step:=fun (b':List Bd) (c':Bool) (h:uc ts sc l a4 false=some (b',c'))=>Uy C.W l hl a4 b' false c' ax h
 simp[go_sem,e0,e1,e4,I];generalize b3:U.mu.set p (.arr [lSo ts.sS,lFl ts.sA,lPd ts.sT,lFa ts.sP,lI sc.sC,aI sc.sN,bv,aI (sumI sc.sC),AV.sc (Value.bool false)])=Mf;have b4:U.mu.set p (.arr (cNs ts sc bv (sumI sc.sC) false))=Mf:=b3;rw[b4]at an ao aq;refine tM (FxME ts sc l full p bv mu RR) l.length ?_ ?_
 .exact ⟨0,a4,false,⟨zS1 e0,zS1 e1,zS1 e4,zSi,zSi,zSi,zVs an,zVs ao,zVs aq,ax,zOm,zUs ar⟩⟩
 clear I ay aa an ao aq e0 e1 e4 aj ak al;rintro j st2 ⟨k,a0,a6,e0,e1,e4,J,P,T,a7,ab,a8,au,bn,t⟩;by_cases ad:k<l.length
 .rw [qY ad,uc]at t
  have I:=a7.st;have b5:=ha _ (qq ad);have b6:=hl _ (qq ad);generalize b7:l[k]=nn at *
  have az:MuLe st2.mu (st2.mu++[.arr (cNd nn)]):=MuLe.app (MuLe.refl _) _;have b0:=az _ _ I;simp[go_sem,e0,e1,e4,J,P,T,ad,b7,b0];refine tM (FxSE l full p mu.length st2.mu nn (decide (sc.sN=1)) k) (szN nn) ?_ ?_
  .exact ⟨nn,decide (sc.sN=1),⟨zS1 e0,zS1 e1,zS1 e4,zSi,zSi,zS1 J,zS1 P,zS1 T,zVs az,zSi,b5,rfl,qh _⟩⟩
  clear e0 e1 e4 J P T;rintro m st3 ⟨cur,cg,e0,e1,e4,e6,e7,J,P,T,ae,av,b8,af,bo⟩;by_cases a9:cur.op=48
  .cases b8 with
   |leaf h=>exact absurd a9 h
   | @step _ kk ks _ aw b9 =>
   have bq:szN kk<szN cur:=q9 (by rw[aw];simp);have bb:=(qg.1 av).1;rw[qoR a9 aw]at af;have hd:cNd kk++List.drop 5 (cNd cur)=cNd kk:=by cases cur;simp[cNd]
   simp[go_sem,e0,e1,e4,e6,e7,J,P,T,av,a9,aw,hd];refine⟨szN kk,zOm,⟨kk,true,⟨zS1 e0,zS1 e1,zS1 e4,zS1 e6,zSi,zS1 J,zS1 P,zS1 T,by simpa[go_sem] using MuLe.setN ae (qh _) _,zS1 bb,b9,af,qh _⟩⟩⟩
  .rw [qoQ a9]at af
   have bc:=a7.le ae;have w1:=zWk k;have ty:=b6 (decide (sc.sN=1));rw[<-af]at ty t;have ag:=ab.trans (tT (p:=p) (bv:=bv) ae);have ah:=ae _ _ a8;have c:=qoP C ty cg bc au;have sp:=fun (b':List Bd) (c':Bool) (h:ub ts sc cg cur a0 a6=some (b',c'))=>qcG C.W (qcF ty) cg a0 b' a6 c' au (by rw[<-qcE];exact h)
   simp only at t;simp[go_sem,e0,e1,e4,e6,e7,J,P,T,av,a9];refine fL c (fun r m h=>?_) (fun r m h=>?_)
   .obtain ⟨b1,k1,a1,a2,a3,be⟩:=EndN.ret h
    subst a2;rw[a1]at t;have ai:m[mu.length]?=some (.arr [aB false]):=by
     rw[a3.2 _ (qg.1 ah).1 a5.1 a5.2];exact ah
    simp[go_sem,e0,e1,e4,e6,e7,J,P,T,w1];exact⟨l.length-(k+1),zOm,⟨k+1,b1,k1,⟨zS1 e0,zS1 e1,zS1 e4,zS1 J,zS1 P,zSi,zVs be,by simpa[go_sem] using ag.trans a3,zVs ai,(sp b1 k1 a1).v,zOm,t⟩⟩⟩
   .obtain ⟨a1,a2,a3⟩:=EndN.pan h
    rw[a1]at t;replace t:none=RR:=t;rw[<-t]at o;replace o:none=R:=o;subst o;subst a2;have ai:m[mu.length]?=some (.arr [aB false]):=by
     rw[a3.2 _ (qg.1 ah).1 a5.1 a5.2];exact ah
    have b2:=(qg.1 ai).1;simp[go_sem];refine yj.mono (cfP _ mu.length (aB false) ai) ?_;rintro _ ⟨c,rfl⟩;have hg:(m.set mu.length (.arr [aB false])++[c])[mu.length]?=some (.arr [aB false]):=by rw[qB (zUs b2)];exact qv b2
    rw[e4];simp[go_sem,hg];refine⟨⟨by have:=(ag.trans a3).1;simp;omega,fun i hi h1 h2=>?_⟩,rfl⟩;rw[qB (by have:=(ag.trans a3).1;simp;omega),zGl];exact(ag.trans a3).2 i hi h1 h2
 .have bg:k=l.length:=by omega
  subst bg;rw[zF]at t;replace t:some (a0,a6)=RR:=t;have I:=a7.st;have aa:p≠mu.length:=fun e=>by rw[e,a8]at I;simp at I
  have bh:=(qg.1 a8).1;rw[<-t]at o ar;have sp:=step a0 a6 ar;simp[go_sem,e0,e1,e4,J,P,T,I];cases a6 with
  |true =>
   replace o:fixN ts sc l n a0=R:=o;have bj:gapL a0<gapL a4:=by
    rcases sp.d rfl with h|h
    .cases h
    .exact h
   obtain⟨n',rfl⟩:∃ n',n=n'+1:=⟨n-1,zOm⟩;simp[go_sem];exact⟨n',zOm,a0,true,⟨zS1 e0,zS1 e1,zS1 e4,zVs a7,zVs ab,zVs a8,au,zOm,o⟩⟩
  |false =>
   replace o:some a0=R:=o;subst o;simp[go_sem,e0,e1,e4,a8];have hg:(st2.mu.set mu.length (.arr [aB true]))[mu.length]?=some (.arr [aB true]):=qv bh;refine yj.mono (cfN _ mu.length (aB true) hg) ?_;rintro _ rfl;simp[go_sem,hg];refine⟨⟨by simp;exact ab.1,fun i hi h1 h2=>?_⟩,rfl,false,?_,?_⟩
   .rw [zGl]
    exact ab.2 i hi h1 h2
   .rw [zA (fun e=>aa e.symm)]
    exact I
   .rcases a7.ow with h|⟨q,h1,h2,h3⟩
    .exact .inl h
    .exact .inr ⟨q,h1,by rw[zA (fun e=>a5.2 (by rw[h1,e];rfl))];exact h2,h3⟩
end
end OC
namespace KG
open Y1 Y9 Y10 P1 P2 PF PE KA KB KE KF
section
variable {c:Ck}
def Fm(c:Ck)(n:Nd):Prop:=WfN n/\kd n.op=102/\∃ b g,exam c [] b n = .ok g
theorem qoS{op}(h:kd op=102):30<=op/\op<=51:=by
 unfold kd at h;split at h
 .omega
 split at h
 .omega
 split at h
 .omega
 .omega
theorem Kv{n}(h:Fm c n)(p:n.op≠45/\n.op≠46/\n.op≠47):∃ b l i,qK c [] b n.sD = .ok l/\zn c.ts.sS.length n.op n.n n.pos l = .ok i:=by
 obtain⟨t,o,b,i,g⟩:=h;have C:=qoS o;rw[yn]at g;split at g
 .cases g
 rw[zIn,zIn,zIn]at g;cases j:qK c [] (b||decide (n.op=12)||decide (n.op=13)) n.sD with
 |error e=>rw[j]at g;cases g
 |ok l=>rw[j]at g;exact⟨_,l,i,j,g⟩
theorem JL{n}(h:Fm c n)(i:n.op≠45/\n.op≠46/\n.op≠47){k}(g:k∈n.sD)(j:kd k.op=102):Fm c k:=by
 obtain⟨b,l,t,o,_⟩:=Kv h i;obtain⟨a,p⟩:=Uj o k g;exact⟨h.1.kid g,j,b,a,p⟩
theorem qcK(i:okCk c){n}(h:Fm c n):TyK (arS c []) n:=by
 have j:ScOk c.ts.sS.length []:=fun v hv=>absurd hv qG
 refine⟨fun o=>?_,fun o=>?_⟩
 .obtain ⟨b,l,ko,t,_⟩:=Kv h zOm
  obtain⟨k,g,C⟩:=Jm (a:=101) h.1 (by unfold shp;rw[zIn,if_pos zOm]);rw[g]at t;obtain⟨q,rfl,I⟩:=exL1 t;have J:=h.1.kid (k:=k) (by rw[g];simp);obtain⟨a,rfl,_⟩:=jc i _ k [] b q (qh _) J j I C;exact⟨k,a.ar,g,VZ i _ k [] b a (qh _) J j I C⟩
 .obtain ⟨b,l,ko,t,p⟩:=Kv h zOm
  obtain⟨k,U,g,C,P⟩:=VY (a:=101) (b:=101) h.1 (by unfold shp;rw[zIn,zIn,if_pos zOm]);rw[g]at t;obtain⟨q,q',rfl,I,R⟩:=exL2 t;have J:=h.1.kid (k:=k) (by rw[g];simp);have T:=h.1.kid (k:=U) (by rw[g];simp);obtain⟨a,rfl,_⟩:=jc i _ k [] b q (qh _) J j I C;obtain⟨a',rfl,_⟩:=jc i _ U [] b q' (qh _) T j R P;have e:a.ar=a'.ar:=by
   unfold zn at p;rw[zIn,zIn,zIn]at p;simp only at p;rw[if_pos zOm]at p;split at p
   .assumption
   .cases p
  exact⟨k,U,a.ar,g,VZ i _ k [] b a (qh _) J j I C,by rw[e];exact VZ i _ U [] b a' (qh _) T j R P⟩
theorem qcL(g:okCk c){n}(h:Fm c n):TyC (arS c []) n:=by
 refine⟨qcK g h,fun o=>?_⟩;obtain⟨m,i,km⟩:=Jm (a:=102) h.1 (by unfold shp;rw[zIn,zIn,zIn,zIn,zIn,if_pos zOm]);exact⟨m,i,qcK g (JL h zOm (by rw[i];simp) km)⟩
theorem Kw:∀ m n g,szN n<=m->Fm c n->Fm c (yH n g).1/\(yH n g).1.op≠48
 | 0,n,g,l,_=>by obtain⟨op,nm,i,ks,p⟩:=n;simp[szN]at l
 |m+1,n,g,l,h=>by
  by_cases o:n.op=48
  .obtain ⟨k,j,t⟩:=Jm (a:=102) h.1 (by unfold shp;rw[zIn,zIn,zIn,zIn,zIn,if_pos zOm])
   have e:yH n g=yH k true:=by
    obtain⟨op,nm,i,ks,p⟩:=n;simp only[Nd.op,Nd.sD]at o j;rw[yH,if_pos o,j,VX]
   rw[e];have:=q9 (n:=n) (k:=k) (by rw[j];simp);exact Kw m k true zOm (JL h zOm (by rw[j];simp) t)
  .have e:yH n g=(n,g):=by
    obtain⟨op,nm,i,ks,p⟩:=n;simp only[Nd.op]at o;rw[yH,if_neg o]
   rw[e];exact⟨h,o⟩
theorem qoT(n):conj n=if n.op=41 then (n.sD.map conj).getD 0 []++(n.sD.map conj).getD 1 [] else if n.op=48 then ((n.sD.map conj).getD 0 []).map (vB n.pos) else [n]:=by
 obtain⟨op,nm,i,ks,p⟩:=n;have:∀ ks:List Nd,vY ks=ks.map conj:=fun ks=>by
  induction ks with
  |nil=>rfl
  |cons k ks g=>rw[vY,g];rfl
 rw[conj,this];rfl
def FmA(c:Ck)(n:Nd):Prop:=Fm c n\/(n.op=48/\∃ k,n.sD=[k]/\Fm c k)
theorem qoU(j:okCk c){n}(h:FmA c n)(g):TyC (arS c []) (yH n g).1:=by
 rcases h with h|⟨o,k,l,h⟩
 .exact qcL j (Kw _ n g (qh _) h).1
 .have e:yH n g=yH k true:=by
   obtain⟨op,nm,i,ks,p⟩:=n;simp only[Nd.op,Nd.sD]at o l;rw[yH,if_pos o,l,VX]
  rw[e];exact qcL j (Kw _ k true (qh _) h).1
theorem Uz:∀ m n,szN n<=m->Fm c n->∀ x,x∈conj n->FmA c x
 | 0,n,t,_=>by obtain⟨op,nm,i,ks,p⟩:=n;simp[szN]at t
 |m+1,n,t,h=>fun x g=>by
  rw[qoT]at g;split at g
  .rename_i o
   obtain⟨a,b,j,l,C⟩:=VY (a:=102) (b:=102) h.1 (by unfold shp;rw[zIn,zIn,zIn,zIn,zIn,zIn,if_pos zOm]);rw[j]at g;have I:=q9 (n:=n) (k:=a) (by rw[j];simp);have T:=q9 (n:=n) (k:=b) (by rw[j];simp);simp only[zc,List.map_nil,KS,List.getD_cons_succ]at g;rcases qL.1 g with g|g
   .exact Uz m a zOm (JL h zOm (by rw[j];simp) l) x g
   .exact Uz m b zOm (JL h zOm (by rw[j];simp) C) x g
  split at g
  .rename_i o
   obtain⟨a,j,l⟩:=Jm (a:=102) h.1 (by unfold shp;rw[zIn,zIn,zIn,zIn,zIn,if_pos zOm]);rw[j]at g;have I:=q9 (n:=n) (k:=a) (by rw[j];simp);simp only[zc,List.map_nil,KS]at g;obtain⟨y,J,rfl⟩:=qn.1 g;have hf:=Uz m a zOm (JL h zOm (by rw[j];simp) l) y J;unfold vB;split
   .exact hf
   .rename_i P
    rcases hf with hf|⟨R,_⟩
    .exact .inr ⟨rfl,y,rfl,hf⟩
    .exact absurd R P
  .simp at g;subst g;exact .inl h
theorem qoV{ts}(h:okTS ts){n}(l:WfN n)(o:(ym ts [] n).1=0):TyL (arT ts) (conj n):=fun x p g=>by
 have i:okCk (mkCk ts ts.sT.length):=jS h (qh _);obtain⟨j,t,C⟩:=Jv o;exact qoU i (Uz _ n (qh _) ⟨l,XJ l j,false,t,C⟩ x p) g
end
end KG
namespace KT
end KT
namespace KH
end KH
namespace KI
open E3
variable {x:Mo} {N:Nat}
end KI
namespace KJ
open E3
variable {x:Mo} {N:Nat}
end KJ
namespace KL
open E3
variable {x:Mo} {N:Nat}
end KL
namespace KM
open P1
variable {ts:TS} {sc:Sc} {A:tV->Option Int}
end KM
namespace KN
open P1
variable {ts:TS} {sc:Sc} {A:tV->Option Int}
end KN
namespace KO
end KO
namespace KR
open Y1 Y9 P1 PF YZ YG KA KD KE KF KG Y16 Q4 Q6
section
variable {bs x:List Bd}{ts:TS}
def yV(ts:TS):List Nd->Except Int (List Nd)
 | [] => .ok []
 |n :: l=>if (za ts n).2=0 then (match yV ts l with
   | .ok r => .ok (conj (za ts n).1++r)
   | .error e => .error e) else .error (za ts n).2
def fixL(ts:TS)(sc:Sc)(bs:List Bd)(n:Nd):Except Int (List Bd):=match yV ts (ts.sP.map Prod.snd++[n]) with
 | .error e => .error e
 | .ok l=>match fixN ts sc l (gapL bs+1) bs with
  |none => .error 100
  |some x => .ok x
structure FitK (ts:TS) (sc:Sc) (bs:List Bd):Prop where
 h:okTS ts
 v:∀ p,p∈ts.sT->qV p.body=true
 f:∀ p,p∈ts.sP->qV p.2=true
 k:yG ts=[]
 w:NwS ts sc
 b:BdS ts (sumI sc.sC) bs
theorem qcM(h:okTS ts)(C:∀ p,p∈ts.sT->qV p.body=true)(I:yG ts=[]){n x}(o:qV n=true)(g:za ts n=(x,0)):qV x=true/\(ym ts [] x).1=0/\∀ y,y∈preN x->y.op≠47:=by
 have l:(ym ts [] n).1=0:=by
  unfold za at g;split at g
  .rename_i i
   exact absurd (congrArg Prod.snd g) i
  .rename_i i;simpa using i
 have t:∀{x:Nd},anyN (fun n=>decide (n.op=47)) x=false->∀ y,y∈preN x->y.op≠47:=fun {x} j y J e=>by
  rw[Jt _ _ x (qh _),List.any_eq_false]at j;simpa[e] using j y J
 cases j:anyN (fun n=>decide (n.op=47)) n with
 |true =>
  obtain⟨a,b,c,d⟩:=qaS h C I o l j g;exact⟨a,by rw[c],t b⟩
 |false =>
  have:x=n:=by
   unfold za at g;rw[if_neg (zUs l),if_pos j]at g;cases g;rfl
  subst this;exact⟨o,l,t j⟩
theorem UA(h:okTS ts)(i:∀ p,p∈ts.sT->qV p.body=true)(j:yG ts=[]):∀(a){l},(∀ n,n∈a->qV n=true)->yV ts a = .ok l->TyL (arT ts) l
 | [],l,_,e=>by cases e;exact fun n t=>absurd t qG
 |n :: a,l,o,e=>by
  rw[yV]at e;split at e
  .rename_i C
   split at e
   .rename_i r I
    cases e;have J:=UA h i j a (fun x g=>o x (qP _ g)) I;obtain⟨P,R,_⟩:=qcM h i j (o n (qX ..)) (Prod.ext rfl C:za ts n=((za ts n).1,0));have:=qoV h (jd P) R;exact fun x g=>(qL.1 g).elim (this x) (J x)
   .cases e
  .cases e
theorem UB{sc}(F:FitK ts sc bs){n}(i:qV n=true):∀ x,x∈ts.sP.map Prod.snd++[n]->qV x=true:=fun x g=>by
 rcases qL.1 g with g|g
 .obtain ⟨p,j,rfl⟩:=qn.1 g;exact F.f p j
 .rw [qO]at g;subst g;exact i
theorem qcN{sc n}(h:fixL ts sc bs n = .ok x):∃ l,yV ts (ts.sP.map Prod.snd++[n]) = .ok l/\fixN ts sc l (gapL bs+1) bs=some x:=by
 unfold fixL at h;split at h
 .cases h
 .rename_i l g
  split at h
  .cases h
  .rename_i y i
   cases h;exact⟨l,g,i⟩
theorem qoW{sc}(F:FitK ts sc bs){n}(g:qV n=true)(h:fixL ts sc bs n = .ok x):BdS ts (sumI sc.sC) x/\TgL x bs:=by
 obtain⟨l,i,hf⟩:=qcN h;exact qcH F.w (UA F.h F.v F.k _ (UB F g) i) _ bs x F.b hf
theorem qoX{sc}(F:FitK ts sc bs){n}(i:qV n=true)(h:fixL ts sc bs n = .ok x):fixL ts sc x n = .ok x:=by
 obtain⟨l,g,hf⟩:=qcN h;have j:=UA F.h F.v F.k _ (UB F i) g;have:=qcI F.w j _ bs x F.b zOm hf;unfold fixL;rw[g];simp only;rw[fixN,this]
end
end KR
set_option maxHeartbeats 1000000
namespace OE
open Y1 Y9 P1 P2 PF YE YF E1 EO F4 GR KA O0 O8 OC OD IB YG Y16 Q4
theorem JM:∀ m n,szN n<=m->WfN n->((conj n).length:Int)<=cntT n
 | 0,n,p,_=>by obtain⟨op,nm,i,ks,q⟩:=n;simp[szN]at p
 |m+1,n,p,j=>by
  by_cases l:n.op=41
  .obtain ⟨a,b,g⟩:=shp2 j l
   have t:=q9 (n:=n) (k:=a) (by rw[g];simp);have I:=q9 (n:=n) (k:=b) (by rw[g];simp);have C:=JM m a zOm (j.kid (by rw[g];simp));have J:=JM m b zOm (j.kid (by rw[g];simp));rw[OD.Kj l g,qZ,Jr,g];simp only[yy];omega
  by_cases o:n.op=48
  .obtain ⟨a,g⟩:=shp1 j o
   have t:=q9 (n:=n) (k:=a) (by rw[g];simp);have C:=JM m a zOm (j.kid (by rw[g];simp));rw[Kk o g,yB,Jr,g];simp only[yy];omega
  rw[Kl l o];have:=V7 n;simpa using this
def Lst(mu:Mu)(i:Nat)(l:List Nd):Prop:=∃ g,mu[i]?=some (.arr [g])/\Own mu 5 g (l.map cNd)/\qw g≠some i
def addL(ts:TS)(n:Nd)(l:List Nd):List Nd:=if (za ts n).2=0 then l++conj (za ts n).1 else l
theorem addM{ts}(S:SpD ts)(hk:yG ts=[]){n}(hn:qV n=true){mu C l}(hl:l.length<=1000000000)(h:Lst mu C l) :
  qr qb 46 [eNd n,.ip (cTS ts),.ptr C 0] mu fun e m=>e = .ret (aI (za ts n).2)/\Lst m C (addL ts n l):=by
 have ci:=inlC S hk hn;have hv:=fun J=>Kh S hk hn J
 unfold addL;generalize za ts n=q at *
 obtain⟨x,e⟩:=q;obtain⟨lv,hb,ho,P⟩:=h;have a1:=(qg.1 hb).1;refine qSW call46 func46 rfl {} ?_;simp[go_sem];refine tR ci (.zk (zl ts) (.zk (qz n) .nil)) ?_;have g:(mu++[Cell.arr (cNd x)])[C]?=some (.arr [lv]):=by rw[qB a1];exact hb
 have R:Own (mu++[Cell.arr (cNd x)]) 5 lv (l.map cNd):=by
  rcases ho with h|⟨b,h1,h2⟩
  .exact .inl h
  .exact .inr ⟨b,h1,by rw[qB (qg.1 h2).1];exact h2⟩
 by_cases J:e=0
 .have I:=hv J
  have hc:=JM _ x (qh _) (jd I);have h4:cntT x<=400:=(ue.1 I).2.2.1;have cj:=JI _ x (qh _) (jd I) zOm;simp only[J,if_true]at *
  simp[go_sem];refine fG [0,1,2,3,4] [(0,0,[]),(1,0,[]),(2,1,[0]),(3,1,[]),(4,1,[])] zKr zKr zSi ?_;simp[go_sem,g];refine tR cj (.zk (qz x) .nil) ?_;simp[go_sem,g];refine aH (sz:=5) (e:=34) (bt:=64) (zv := .agg [aI 0,aS ⟨#[]⟩,aI 0,.lst true [],aI 0]) (xs:=l.map cNd) (ys:=(conj x).map cNd) zSi zSi zSi rfl rfl zOm zOm R (by simp[qE]) (Y1.ZO _) (Y1.ZO _) zSo ?_;intro T o i a2 a3 a4;rw[<-z6]at i;have U:o[C]?=some (.arr [lv]):=by rw[a2 C zSo P];exact g
  have a0:=(qg.1 U).1;have t:qw T≠some C:=fun e=>by have:=a3 _ e;simp at this;omega
  simp[go_sem,U,Own.one i,Own.cells i];refine⟨T,qv a0,?_,t⟩;rcases i with h|⟨b,h1,h2⟩
  .exact .inl h
  .exact .inr ⟨b,h1,by rw[zA (fun e=>t (by rw[h1,e];rfl))];exact h2⟩
 .simp [go_sem,J]
  exact⟨lv,g,R,P⟩
end OE
set_option maxHeartbeats 1000000
namespace OF
open Y1 Y9 P1 P2 PF YE YF EO F4 GR KA KR O0 O7 O8 OC OD IB YG KE Y16 Q4 EQ ER O4 O9 OE
section
variable {ts:TS}
theorem tP{P mu}{t g e sz bt:Nat}{full ys zv K}(p:qF P t=some (e,sz,bt))(i:(qF P g).isSome=true)(C:qy P e=some zv)
  (j:zv.cells.length=sz) (l:zv.cells.all AV.one=true) (o:sz≠0) (I:bt<=16384) (J:qW sz ys) (R:ys.length<=4294967296) (T:ys=[]->K (.lst true []) mu) (k:ys≠[]->K (.sl mu.length sz 0 ys.length) (mu++[.arr ys.flatten])):qu P mu #[t,g] (.lst true []) (.lst full ys) K:=by
 refine .inl ⟨t,g,e,sz,bt,ys,rfl,p,i,⟨zv,C,j,l⟩,o,I,by simp[qE],J,.inl ⟨[],rfl,fun r U=>by simp at U,zUs R,fun h=>?_,fun h=>?_⟩⟩
 .exact T h
 .have:=k h
  simpa using this
def CloB(mu m:Mu)(bv:AV)(bs:List Bd):Prop:=MuLe mu m/\((bv = .lst true []/\bs=[])\/∃ q,bv = .sl q 4 0 bs.length/\m[q]?=some (.arr (bs.map cBd).flatten)/\mu.length<=q)
theorem qoY(mu bs)(i:bs.length<=1000000000):qr qb 48 [lBd bs] mu fun e m=>∃ bv,e = .ret bv/\CloB mu m bv bs:=by
 refine qSW call48 func48 rfl {} ?_;have g:=JK bs;cases bs with
 |nil =>
  simp[go_sem,lBd];refine⟨⟨MuLe.refl _,.inl ⟨rfl,rfl⟩⟩,?_⟩;refine tP (sz:=4) (e:=42) (bt:=64) (zv := .agg cZ4) (ys:=[]) zSi zSi zSi rfl rfl zOm zOm g zSp (fun _=>?_) (fun h=>absurd rfl h);simp[go_sem];exact⟨MuLe.refl _,.inl ⟨rfl,rfl⟩⟩
 |cons x l =>
  simp[go_sem,lBd];refine tP (sz:=4) (e:=42) (bt:=64) (zv := .agg cZ4) (ys:=(x :: l).map cBd) zSi zSi zSi rfl rfl zOm zOm g (by simp at i⊢;omega) (fun h=>by cases h) (fun _=>?_);simp[go_sem];exact⟨MuLe.app (MuLe.refl _) _,.inr ⟨mu.length,zSp,zSp,qh _⟩⟩
def appR(l:List Nd):Except Int (List Nd)->Except Int (List Nd)
 | .ok r => .ok (l++r)
 | .error e => .error e
theorem qcO(x):appR [] x=x:=by cases x<;>rfl
theorem qcP(ts l n k):appR l (yV ts (n :: k))=if (za ts n).2=0 then appR (OE.addL ts n l) (yV ts k) else .error (za ts n).2:=by
 rw[yV];by_cases h:(za ts n).2=0
 .rw [if_pos h,if_pos h]
  unfold OE.addL;rw[if_pos h];cases yV ts k with
  |ok r=>simp[appR]
  |error e=>rfl
 .rw [if_neg h,if_neg h];rfl
theorem qcQ(S:SpD ts)(i:yG ts=[]){n}(j:qV n=true)(l):(OE.addL ts n l).length<=l.length+400:=by
 unfold OE.addL;split
 .rename_i o
  have g:=Kh S i j o;have p:=JM _ _ (qh _) (jd g);have t:cntT (za ts n).1<=400:=(ue.1 g).2.2.1;rw[qZ];omega
 .omega
theorem qcR:∀ m n,szN n<=m->WfN n->Al n
 | 0,n,j,_=>by obtain⟨op,nm,i,ks,q⟩:=n;simp[szN]at j
 |m+1,n,j,l=>by
  by_cases o:n.op=48
  .obtain ⟨a,g⟩:=shp1 l o
   have p:=q9 (n:=n) (k:=a) (by rw[g];simp);exact .step o g (qcR m a zOm (l.kid (by rw[g];simp)))
  .exact .leaf o
theorem UC:∀ m n,szN n<=m->WfN n->∀ y,y∈conj n->Al y
 | 0,n,t,_=>by obtain⟨op,nm,i,ks,q⟩:=n;simp[szN]at t
 |m+1,n,t,j=>fun y l=>by
  by_cases o:n.op=41
  .obtain ⟨a,b,g⟩:=shp2 j o
   have I:=q9 (n:=n) (k:=a) (by rw[g];simp);have P:=q9 (n:=n) (k:=b) (by rw[g];simp);rw[OD.Kj o g]at l;rcases qL.1 l with h|h
   .exact UC m a zOm (j.kid (by rw[g];simp)) y h
   .exact UC m b zOm (j.kid (by rw[g];simp)) y h
  by_cases p:n.op=48
  .obtain ⟨a,g⟩:=shp1 j p
   have I:=q9 (n:=n) (k:=a) (by rw[g];simp);rw[Kk p g]at l;obtain⟨z,J,rfl⟩:=qn.1 l;have C:=UC m a zOm (j.kid (by rw[g];simp)) z J;unfold vB;split
   .exact C
   .exact .step rfl rfl C
  .rw [Kl o p,qO]at l
   subst l;exact qcR _ _ (qh _) j
theorem qcS(h:okTS ts)(i:∀ p,p∈ts.sT->qV p.body=true)(j:yG ts=[]):∀(a){l},(∀ n,n∈a->qV n=true)->yV ts a = .ok l->∀ y,y∈l->Al y
 | [],l,_,e=>by cases e;exact fun n t=>absurd t qG
 |n :: a,l,o,e=>by
  rw[yV]at e;split at e
  .rename_i C
   split at e
   .rename_i r I
    cases e;have J:=qcS h i j a (fun x g=>o x (qP _ g)) I;obtain⟨P,R,_⟩:=qcM h i j (o n (qX ..)) (Prod.ext rfl C:za ts n=((za ts n).1,0));exact fun x g=>(qL.1 g).elim (UC _ _ (qh _) (jd P) x) (J x)
   .cases e
  .cases e
def outF:Except Int (List Bd)->AV
 | .ok x => .tup [lBd x,aI 0]
 | .error e => .tup [lBd [],aI e]
theorem Rd.tups{mu xs ys}(h:Rds mu xs ys):Rd mu (.tup xs) (.tup ys) := .tup _ _ h.get.1 h.get.2
theorem Kx(mu e):Rd mu (.tup [.lst true [],aI e]) (outF (.error e)):=Rd.tups ⟨.wk _ true _ (.hf _ (HF.lst fun r g=>by simp at g)),.hf _ (HF.sc _),trivial⟩
theorem qoZ{sc bs}(C:NwC ts sc)(F:FitK ts sc bs)(S:SpD ts){n}(hn:qV n=true):qd qb 16 [eTS ts,eSc sc,lBd bs,eNd n] (outF (fixL ts sc bs n)):=by
 have hF:fixL ts sc bs n=(match appR [] (yV ts (ts.sP.map Prod.snd++[n])) with
  | .error e => .error e
  | .ok l=>match fixN ts sc l (gapL bs+1) bs with
   |none => .error 100
   |some x => .ok x):=by rw[qcO];rfl
 have a6:appR [] (yV ts (ts.sP.map Prod.snd++[n]))=yV ts (ts.sP.map Prod.snd++[n]):=qcO _;rw[hF];generalize hR:appR [] (yV ts (ts.sP.map Prod.snd++[n]))=R;have aw:ts.sP.length<=1000000:=zW1 S.h.nfa;refine qSQ call16 func16 rfl { mt:=[46] } ?_;simp[go_sem];refine fZ ts.sP.length (fun k U=>U.tm 2=lBd bs/\U.tm 4 = .ip (cTS ts)/\U.tm 5 = .ip [lI sc.sC,aI sc.sN]/\U.tm 7 = .ip (cNd n)/\U.tm 10 = .ptr 0 0/\U.tm 11 = .fn (.func 46) [] [.ip (cTS ts),.ptr 0 0]/\U.tm 19=lFa ts.sP/\U.tm 20=aI ts.sP.length/\U.tm 21=aI k
  /\ ∃ l,Lst U.mu 0 l/\l.length<=400*k/\appR l (yV ts ((ts.sP.map Prod.snd).drop k++[n]))=R) ?_ ?_
 .refine ⟨zSi,zSi,zSi,zSi,zSi,zSi,zSi,zSi,zSi,[],⟨.lst true [],zSi,.inl rfl,by simp[qw]⟩,zSp,hR⟩
 rintro k U ax ⟨e2,e4,e5,e7,p,J,T,a0,a1,l,hL,ay,j⟩;have ag:∀ c:Cell,Lst (U.mu++[c]) 0 l:=fun c=>by
  obtain⟨lv,o,I,h3⟩:=hL;refine⟨lv,by rw[qB (qg.1 o).1];exact o,?_,h3⟩;rcases I with h|⟨b,h4,h5⟩
  .exact .inl h
  .exact .inr ⟨b,h4,by rw[qB (qg.1 h5).1];exact h5⟩
 by_cases a2:k<ts.sP.length
 .have w1:=zWk k
  have a7:k<(ts.sP.map Prod.snd).length:=zUs a2;rw[qY a7,List.cons_append,qcP]at j;have hv:=F.f _ (qq a2);simp only[List.getElem_map]at j;generalize hf:ts.sP[k]=f at *
  obtain⟨fn,fb⟩:=f;simp only at hv j;have ca:=addM S F.k hv zOm (ag (.arr (cFa (fn,fb))));have al:=qcQ S F.k hv l;simp[go_sem,e2,e4,e5,e7,p,J,T,a0,a1,a2,hf];refine fX ca (fun r m h=>?_) (fun r m h=>by cases h.1);obtain⟨o,I⟩:=h;cases o;by_cases he:(za ts fb).2=0
  .rw [if_pos he]at j
   simp[go_sem,e2,e4,e5,e7,p,J,T,a0,a1,he,w1]
   try refine⟨a2,aK ?_⟩
   try refine aK ?_
   refine⟨zS1 e2,zS1 e4,zS1 e5,by simp[go_sem,e7],zS1 p,zS1 J,zS1 T,zS1 a0,zSi,OE.addL ts fb l,zVs I,zOm,j⟩
  .rw [if_neg he]at j
   subst j;simp[go_sem,he];exact Kx _ _
 .have ah:k=ts.sP.length:=by omega
  subst ah;rw[List.drop_of_length_le zSp,List.nil_append,qcP]at j;have ca:=addM S F.k hn zOm hL;have al:=qcQ S F.k hn l;simp[go_sem,e2,e4,e5,e7,p,J,T,a0,a1];refine fX ca (fun r m h=>?_) (fun r m h=>by cases h.1);obtain⟨o,I⟩:=h;cases o;by_cases he:(za ts n).2=0
  .rw [if_pos he]at j
   rw[yV]at j;simp only[appR,List.append_nil]at j;subst j;simp[go_sem,e2,e4,e5,e7,p,J,T,a0,a1,he];have ty:=UA F.h F.v F.k _ (UB F hn) (a6.symm.trans hR);have ai:=qcS F.h F.v F.k _ (UB F hn) (a6.symm.trans hR);generalize OE.addL ts n l=L at *
   refine fG [0,1,2,4,3,5,6,7,8] [(0,0,[]),(1,0,[]),(2,0,[]),(4,0,[]),(3,1,[0,1,4]),(5,1,[0,1]),(6,0,[]),(7,1,[]),(8,0,[])] zKr zKr zSi ?_;simp[go_sem,e2,e4,e5,e7,p];refine fL (qoY m bs (zW2 C.nf F.b.b.1)) (fun r m3 h=>?_) (fun r m3 h=>by obtain⟨_,h,_⟩:=h;cases h);obtain⟨bv,o,a4,a3⟩:=h;cases o;simp[go_sem,e2,e4,e5,e7,p];refine tR (Zk sc C.W.s.g) (.zk (zp _) .nil) ?_;have aj:r.cells=[r]:=by rcases a3 with ⟨h,_⟩|⟨q,h,_⟩<;>rw[h]<;>rfl
   have ak:r.one=true:=by rcases a3 with ⟨h,_⟩|⟨q,h,_⟩<;>rw[h]<;>rfl
   obtain⟨lv,an,ho,az⟩:=I;have ao:=a4 _ _ an;have a5:∀ c:Cell,(m3++[c])[0]?=some (.arr [lv]):=fun c=>zm ao [c]
   have a8:∀(c:Cell)(h:0<(m3++[c]).length),(m3++[c])[0] = .arr [lv]:=fun c h=>by
    have:=a5 c;rw[qC h]at this;exact Option.some.inj this
   simp[go_sem,e2,e4,e5,e7,p,aj,ak,a5,a8];have hN:NsW (m3++[.arr (cNs ts sc r (sumI sc.sC) false)]) m3.length r ts sc bs false:=⟨zSp,by
    rcases a3 with h|⟨q,h,hq,hl⟩
    .exact .inl h
    .exact .inr ⟨q,h,zm hq _,by have:=(qg.1 hq).1;omega⟩⟩
   have a9:Own (m3++[.arr (cNs ts sc r (sumI sc.sC) false)]) 5 lv (L.map cNd):=by
    rcases ho with h|⟨b,o,I⟩
    .exact .inl h
    .exact .inr ⟨b,o,zm (a4 _ _ I) _⟩
   have aq:∀ b,qw lv=some b->b<m.length:=fun b e=>by
    rcases ho with h|⟨b',o,I⟩
    .rw [h]at e;cases e
    .rw [o]at e;cases e;exact(qg.1 I).1
   have ar:∀ b,qw r=some b->m.length<=b:=fun b e=>by
    rcases a3 with ⟨h,_⟩|⟨q,h,_,hl⟩
    .rw [h]at e;cases e
    .rw [h]at e;cases e;exact hl
   have b0:=MuLe.len a4;generalize aa:(m3++[Cell.arr [lSo ts.sS,lFl ts.sA,lPd ts.sT,lFa ts.sP,lI sc.sC,aI sc.sN,r,AV.sc (Value.int qj (sumI sc.sC)),AV.sc (Value.bool false)]])=M;have ab:m3++[Cell.arr (cNs ts sc r (sumI sc.sC) false)]=M:=aa;rw[ab]at hN a9;clear aa ab a5 a8;generalize m3.length=P at *
   let gv:Nat->Bool:=fun i=>!(decide (i=P)||decide (qw r=some i))
   have au:NsW (cutM (fun i=>!gv i) M 0) P r ts sc bs false:=by
    refine⟨?_,?_⟩
    .rw [vw,hN.st];simp[gv]
    .rcases hN.ow with h|⟨q,o,I,h3⟩
     .exact .inl h
     .exact .inr ⟨q,o,by rw[vw,I];simp[gv,o,qw],h3⟩
   have ad:Own (cutM gv M 0) 5 lv (L.map cNd):=by
    rcases a9 with h|⟨b,o,I⟩
    .exact .inl h
    .refine .inr ⟨b,o,?_⟩
     have b1:=aq b (by rw[o];rfl);rw[vw,I];have g1:b≠P:=zOm;have g2:qw r≠some b:=fun e=>zW1 (ar b e)
     simp[gv,g1,g2]
   have cf:=fixM C ty ai zOm (full:=false) au F.b;have cz:=qr.freeze (args:=[.ptr P 0,lv]) (args1:=[.ptr P 0,.lst false (L.map cNd)]) gv ⟨.inl rfl,.inr (Own.rd ad (Y1.ZO L).ok fun r hr c hc=>by
     obtain⟨x,_,rfl⟩:=qn.1 hr;exact yK x c hc),trivial⟩ cf
   generalize fixN ts sc L (gapL bs+1) bs=FX at *
   refine fL cz (fun r2 m4 h=>?_) (fun r2 m4 h=>?_)
   .obtain ⟨ae,t⟩:=h
    cases FX with
    |none =>
     cases t;simp[go_sem];exact Kx _ _
    |some x =>
     obtain⟨o,ch,af⟩:=t;cases o;simp[go_sem,af.st];exact Rd.tups ⟨af.r.bv.rd,.hf _ (HF.sc _),trivial⟩
   .obtain ⟨ae,t⟩:=h
    cases FX with
    |none=>cases t
    |some x=>cases t.1
  .rw [if_neg he]at j
   subst j;simp[go_sem,he];exact Kx _ _
end
end OF
namespace GY
end GY
namespace GZ
end GZ
namespace GX
end GX
namespace HA
end HA
namespace HB
end HB
namespace HC
end HC
namespace HD
end HD
namespace HE
end HE
namespace HF1
open GB
theorem qo0{a b:Ed}:a=b↔a.kind=b.kind/\a.state=b.state/\a.field=b.field/\a.tup=b.tup:=by
 cases a;cases b;simp
instance:DecidableEq Ed:=fun a b=>decidable_of_iff _ qo0.symm
end HF1
namespace HG
end HG
namespace HH
end HH
namespace HI
theorem qo1{J:Type}{p}{l:List J}{k}(h:k<l.length)(g:p l[k]=false):l.all p=false:=by
 cases e:l.all p with
 |false=>rfl
 |true=>rw[qR.1 e _ (qq h)]at g;cases g
theorem qo2{J:Type}{p}{l:List J}(h:∀(i)(g:i<l.length),p l[i]=true):l.all p=true:=qR.2 fun x j=>by
 obtain⟨i,g,rfl⟩:=ui.1 j;exact h i g
end HI
namespace HJ
open YF P1 E1 E4 G5 HI
theorem Ky{n r}(h:jb n r=true):zr r.ts:=by
 unfold jb at h;simp only[qx,decide_eq_true_eq]at h;exact h.2
def vB9(ts:TS)(sc:Sc)(f:Fld)(b:Bd):Bool:=decide (b.lo.ar=f.sS.length)&&(decide (b.up.ar=f.sS.length)&&(jb (sumI sc.sC) b.lo&&(jb (sumI sc.sC) b.up&&(inOk b.lo b.up&&inOk b.up ⟨f.sS.length,yo sc f.sS⟩))))
theorem qo3(ts:TS)(sc bs)(g:GSc sc)(R:0<ts.sA.length->0<sumI sc.sC)(a2:ts.sA.length<=1000000)(hf:∀ f,f∈ts.sA->1<=f.sS.length/\f.sS.length<=3/\(∀ s,s∈f.sS->0<=s/\s<sc.sC.length)/\(yo sc f.sS).length<=8000/\zr (yo sc f.sS))
  (hb:∀ b,b∈bs->b.lo.ts.length<=1000000/\b.up.ts.length<=1000000):qd qb 34 [eTS ts,eSc sc,lBd bs] (aB (decide (bs.length=ts.sA.length)&&(ts.sA.zip bs).all fun p=>vB9 ts sc p.1 p.2)):=by
 refine qSV call34 func34 rfl ?_;by_cases T:bs.length=ts.sA.length
 case neg =>
  have a3:¬(bs.length:Int)=ts.sA.length:=zOm;simp[go_sem,T];exact .zsc _
 rw[decide_eq_true T,Bool.true_and];simp[go_sem,T];refine fB (Xc sc g) (.zk (zp _) .nil) ?_;refine fZ bs.length (fun k U=>U.tm 2=lBd bs/\U.tm 3 = .ip (cTS ts)/\U.tm 4 = .ip [lI sc.sC,aI sc.sN]/\U.tm 7=aI (sumI sc.sC)/\U.tm 8=aI k/\∀(i:Nat)(h:i<k)(h1:i<ts.sA.length)(h2:i<bs.length),vB9 ts sc ts.sA[i] bs[i]=true) ?_ ?_
 .exact ⟨zSi,zSi,zSi,zSi,zSi,fun i h=>absurd h (Nat.not_lt_zero i)⟩
 rintro k U hk ⟨o,t,C,e7,I,P⟩;by_cases j:k<bs.length
 .have l:k<ts.sA.length:=by omega
  have hp:=R zOm;have w1:=zWk k;obtain⟨f1,f2,f3,f4,f5⟩:=hf _ (qq l);obtain⟨b1,b2⟩:=hb _ (qq j);have J:vB9 ts sc ts.sA[k] bs[k]=false->((ts.sA.zip bs).all fun p=>vB9 ts sc p.1 p.2)=false:=fun h=>qo1 (k:=k) zSo (zUs h)
  by_cases c1:bs[k].lo.ar=ts.sA[k].sS.length
  case neg =>
   rw[J (by unfold vB9;rw[decide_eq_false c1];rfl)];simp[go_sem,o,t,C,e7,I,j,l,c1];exact .zsc _
  by_cases c2:bs[k].up.ar=ts.sA[k].sS.length
  case neg =>
   rw[J (by unfold vB9;rw[decide_eq_false c2];simp)];simp[go_sem,o,t,C,e7,I,j,l,c1,c2];exact .zsc _
  simp[go_sem,o,t,C,e7,I,j,l,c1,c2];refine tR (gC (sumI sc.sC) bs[k].lo zOm) (.zs (.cons (by rw[<-c1];exact .hf (qt _)) .nil)) ?_;cases c3:jb (sumI sc.sC) bs[k].lo with
  |false =>
   rw[J (by unfold vB9;rw[c3];simp)];simp[go_sem,o,t,C,e7,I,j,l,c1,c2,c3];exact .zsc _
  |true =>
   simp[go_sem,o,t,C,e7,I,j,l,c1,c2,c3];refine tR (gC (sumI sc.sC) bs[k].up zOm) (.zs (.cons (by rw[<-c2];exact .hf (qt _)) .nil)) ?_;cases c4:jb (sumI sc.sC) bs[k].up with
   |false =>
    rw[J (by unfold vB9;rw[c4];simp)];simp[go_sem,o,t,C,e7,I,j,l,c1,c2,c3,c4];exact .zsc _
   |true =>
    simp[go_sem,o,t,C,e7,I,j,l,c1,c2,c3,c4];refine tN zKr ?_;simp[go_sem,o,t,C,e7,I,j,l,c1,c2,c3,c4];refine tR (in06 bs[k].lo bs[k].up zOm zOm (Ky c4)) (.cons (by rw[<-c1];exact .hf (qt _)) (.cons (by rw[<-c2];exact .hf (qt _)) .nil)) ?_;cases c5:inOk bs[k].lo bs[k].up with
    |false =>
     rw[J (by unfold vB9;rw[c5];simp)];simp[go_sem,o,t,C,e7,I,j,l,c1,c2,c3,c4,c5];exact .zsc _
    |true =>
     simp[go_sem,o,t,C,e7,I,j,l,c1,c2,c3,c4,c5];refine tR (qjC sc g hp ts.sA[k].sS f1 f2 f3) (.zk (zp _) (.zk (zy _) .nil)) ?_;simp[go_sem,o,t,C,e7,I,j,l,c1,c2,c3,c4,c5];refine tR (in06 bs[k].up ⟨ts.sA[k].sS.length,yo sc ts.sA[k].sS⟩ zOm (by simp only;omega) f5) (.cons (by rw[<-c2];exact .hf (qt _)) (.zk (qt _) .nil)) ?_;cases c6:inOk bs[k].up ⟨ts.sA[k].sS.length,yo sc ts.sA[k].sS⟩ with
     |false =>
      rw[J (by unfold vB9;rw[c6];simp)];simp[go_sem,o,t,C,e7,I,j,l,c1,c2,c3,c4,c5,c6];exact .zsc _
     |true =>
      have a0:vB9 ts sc ts.sA[k] bs[k]=true:=by unfold vB9;rw[c3,c4,c5,c6,decide_eq_true c1,decide_eq_true c2];rfl
      simp[go_sem,o,t,C,e7,I,j,l,c1,c2,c3,c4,c5,c6,w1]
      try refine⟨j,aK ?_⟩
      try refine aK ?_
      refine⟨zS1 o,zS1 t,zS1 C,by simp[go_sem,e7],zSi,fun i hi h1 h2=>?_⟩;by_cases h:i<k
      .exact P i h h1 h2
      .have:i=k:=by omega
       subst this;exact a0
 .have a1:((ts.sA.zip bs).all fun p=>vB9 ts sc p.1 p.2)=true:=qo2 fun i hi=>by
   simp only[List.length_zip]at hi;simp only[List.getElem_zip];exact P i zOm zOm zOm
  rw[a1];simp[go_sem,o,I,show ¬k<bs.length from j];exact .zsc _
end HJ
namespace KV
open G5 P1 E1 E2 GR GW KB KD KE
section
variable {ts:TS}
theorem qcT{sc}(F:Fit9 ts sc){f}(hf:f∈ts.sA){r:Rl}(g:r.ar=f.sS.length)(i:zr r.ts)(j:∀ t,t∈r.ts->t∈yo sc f.sS):GR (sumI sc.sC) r:=by
 have l:=F.f1 f hf;refine⟨zOm,zOm,fun t h=>?_,i⟩;obtain⟨a,b⟩:=nU sc _ t (j t h);rw[g,uG zOm zOm];have e:((f.sS.length:Int)).toNat=f.sS.length:=zOm;rw[e];have:0<=sumI sc.sC ^ f.sS.length:=Int.pow_nonneg (zW1 F.p);omega
theorem qo4{sc bs}(F:Fit9 ts sc)(B:BndV ts sc bs):BdS ts (sumI sc.sC) bs:=
 ⟨⟨B.len,fun i h g=>by
  obtain⟨a,b⟩:=B.lo i h g;have j:=B.so _ (qq h);have hf:=qq g;exact⟨qcT F hf a j.1 fun t l=>B.full i h g t (B.sub _ (qq h) t l),qcT F hf b j.2 (B.full i h g),a,b⟩⟩,fun x o=>B.sub x o⟩
theorem qo5{sc bs x}(B:BndV ts sc bs)(X:BdS ts (sumI sc.sC) x)(h:TgL x bs):BndV ts sc x:=
 ⟨X.b.1,fun i j l=>by have o:=X.b.2 i j l;exact⟨o.la,o.ua⟩,fun b g=>by
  obtain⟨i,p,rfl⟩:=List.getElem_of_mem g;have o:=X.b.2 i p (by rw[<-X.b.1];exact p);exact⟨o.lo.srt,o.up.srt⟩,fun b g=>X.s b g,fun i j l t C=>by
  have g:i<bs.length:=by rw[<-h.1];exact j
  exact B.full i g l t ((h.2 i j g).up t C)⟩
end
end KV
set_option maxHeartbeats 1000000
namespace OK
open Y1 P1 YF E1 GR KR O0 IB E9 KE Y16 Q2 Q4 Q8 FE O9 G5 GQ GW HJ OJ KV OF IF
def vBs(ts:TS)(sc:Sc)(bs:List Bd):Bool:=decide (bs.length=ts.sA.length)&&(ts.sA.zip bs).all fun p=>vB9 ts sc p.1 p.2
theorem Yj{n}(h:jN n=true):qV n=true:=by
 unfold jN at h;simp only[qx]at h;exact h.2
theorem JN{ts sc bs n}(P:uU ts sc bs n)(o:∀ x,x∈ts.sS->x.1.size<=4611686018427387904):SpD ts:=by
 have j:=P.sh;simp only[shpB,qx,qR]at j;have i:∀ p,p∈ts.sT->qV p.body=true/\p.params.length<=4:=fun p g=>by
  have:=P.tp p g;simp only[prT,qx,decide_eq_true_eq]at this;exact⟨Yj this.1,this.2⟩
 have l:∀ f,f∈ts.sP->qV f.2=true:=fun f hf=>Yj (P.tf f hf)
 refine⟨⟨P.so,zW1 P.fl,zW1 P.pr,zW1 P.fa,o,fun f hf=>?_,fun p g=>?_⟩,fun p g=>jd (i p g).1,fun f hf=>jd (l f hf),fun p g=>(i p g).1,l⟩
 .have:=j.1 f hf
  simp only[fldB,qx,decide_eq_true_eq,qR]at this;exact⟨this.1.1,this.1.2,this.2⟩
 .refine ⟨zW1 ((i p g).2),fun x t=>?_⟩
  have:=j.2 p g;simp only[prB,qR,srt1,qx,decide_eq_true_eq]at this;exact this x t
def f10(ts:TS)(sc:Sc)(bs:List Bd)(n:Nd):Bool:=JH ts sc bs n (yG ts) (jk (spOf ts) sc) (vBs ts sc bs) (wkN 5 4 n) (qb7 ts 5 4 n)
theorem W7(ts)(i:∀ x,x∈ts.sS->x.1.size<=4611686018427387904)(sc bs n):qd qb 7 [eTS ts,eSc sc,lBd bs,eNd n] (aB (f10 ts sc bs n)):=by
 refine qn2 ts sc bs n _ _ _ _ _ (fun P=>(JN P i).chk) (fun P=>qiG (spOf ts) sc (zW1 P.at4)) (fun h=>gW sc (Ji h)) (fun P p l T C=>?_) (fun P=>Ke 5 4 zOm zOm _ n (qh _) (jd (Yj P.tn)).small) (fun P p=>qnZ (JN P i) p 5 4 zOm zOm (Yj P.tn));have g:=Ji l;have S:=JN P i;simp only[jk,qx,decide_eq_true_eq,qR]at l;obtain⟨⟨⟨⟨⟨j,U⟩,a3⟩,a4⟩,I⟩,a6⟩:=l;have j:sc.sC.length=ts.sS.length:=j;refine qo3 ts sc bs g (fun t=>?_) (zW1 P.fl) (fun f hf=>?_) fun b J=>?_
 .have hf:=(S.h.fl _ (qq t)).2.2 _ (qq (n:=0) (zW1 ((S.h.fl _ (qq t)).1)))
  have o:sc.sC≠[]:=fun e=>by rw[e]at j;simp at j;omega
  have:=Xg o fun a R=>(I a R).1
  omega
 .obtain ⟨f1,f2,f3⟩:=S.h.fl f hf
  exact⟨f1,f2,fun s i=>zW1 (f3 s i),nV sc g f.sS f2,nN _ _ _⟩
 .have:=qR.1 C b J
  simp only[sz1,qx,decide_eq_true_eq]at this;omega
structure F10 (ts:TS) (sc:Sc) (bs:List Bd) (n:Nd):Prop where
 P:uU ts sc bs n
 S:SpD ts
 k:yG ts=[]
 so:jk (spOf ts) sc=true
 a5:sumI sc.sC<=5
 vb:vBs ts sc bs=true
 hn:qV n=true
theorem qo6{ts sc bs n}(t:∀ x,x∈ts.sS->x.1.size<=4611686018427387904)(h:f10 ts sc bs n=true):F10 ts sc bs n:=by
 simp only[f10,JH,qx,decide_eq_true_eq,qR]at h;obtain⟨C,I,J,R,T,U,p,h8,h9,g,i,j,l,a0,o,a1,a2⟩:=h;have P:uU ts sc bs n:=⟨C,I,J,R,T,U,p,h8,h9,g⟩;exact⟨P,JN P t,List.length_eq_zero_iff.1 i,j,l,o,Yj p⟩
namespace F10
variable {ts:TS} {sc:Sc} {bs:List Bd} {n:Nd}
theorem sz(F:F10 ts sc bs n):nO sc=true/\ts.sS.length=sc.sC.length:=by
 have h:=F.so;simp only[jk,qx,decide_eq_true_eq,qR]at h;obtain⟨⟨⟨⟨⟨g,i⟩,j⟩,l⟩,o⟩,p⟩:=h;have g:sc.sC.length=ts.sS.length:=g;have i:ts.sS.length<=4:=i;refine⟨?_,g.symm⟩;simp only[nO,qx,decide_eq_true_eq,qR];exact⟨zOm,j,l,o,p⟩
theorem bnd(F:F10 ts sc bs n):BndV ts sc bs:=by
 have h:=F.vb;simp only[vBs,qx,decide_eq_true_eq,qR]at h;obtain⟨J,h⟩:=h;have p:∀(i:Nat)(g:i<bs.length)(l:i<ts.sA.length),vB9 ts sc ts.sA[i] bs[i]=true:=fun i g l=>by
  have P:i<(ts.sA.zip bs).length:=zSo;have:=h _ (qq P);simpa using this
 have I:∀ b,b∈bs->∃ f,f∈ts.sA/\vB9 ts sc f b=true:=fun b o=>by
  obtain⟨i,g,rfl⟩:=ui.1 o;exact⟨_,qq zOm,p i g zOm⟩
 refine⟨J,fun i g l=>?_,fun b o=>?_,fun b o t C=>?_,fun i g l t C=>?_⟩
 .have:=p i g l
  simp only[vB9,qx,decide_eq_true_eq]at this;exact⟨this.1,this.2.1⟩
 .obtain ⟨f,_,j⟩:=I b o
  simp only[vB9,qx,decide_eq_true_eq]at j;exact⟨Ky j.2.2.1,Ky j.2.2.2.1⟩
 .obtain ⟨f,_,j⟩:=I b o
  simp only[vB9,qx,decide_eq_true_eq]at j;have:=j.2.2.2.2.1;simp only[inOk,qR,decide_eq_true_eq]at this;exact this t C
 .have:=p i g l
  simp only[vB9,qx,decide_eq_true_eq]at this;have:=this.2.2.2.2.2;simp only[inOk,qR,decide_eq_true_eq]at this;exact this t C
theorem nws(F:F10 ts sc bs n):NwS ts sc:=by
 obtain⟨z,e⟩:=F.sz;have h:=F.so;simp only[jk,qx,decide_eq_true_eq,qR]at h;exact⟨⟨Ji F.so,e,fun a g=>(h.1.2 a g).1⟩,zW1 F.a5⟩
theorem nwc(F:F10 ts sc bs n):NwC ts sc:=⟨F.nws,zW1 F.P.fl,F.S.h.sl⟩
theorem fit9(F:F10 ts sc bs n)(i:0<ts.sA.length):Fit9 ts sc:=by
 obtain⟨z,e⟩:=F.sz;have h:=F.so;simp only[jk,qx,decide_eq_true_eq,qR]at h;obtain⟨⟨⟨⟨⟨C,I⟩,j⟩,l⟩,o⟩,J⟩:=h;have hf:=F.S.h.fl _ (qq i);have R:=hf.2.2 _ (qq (n:=0) zOm);have g:sc.sC≠[]:=fun q=>by
  rw[q]at e;have e:ts.sS.length=0:=e;omega
 have T:=Xg g fun a p=>(o a p).1
 exact⟨Ji F.so,zOm,zW1 F.P.fl,e,j,l,fun f hf=>⟨(F.S.h.fl f hf).1,(F.S.h.fl f hf).2.1⟩,fun f hf s t=>by rw[<-e];exact(F.S.h.fl f hf).2.2 s t⟩
theorem bds(F:F10 ts sc bs n):BdS ts (sumI sc.sC) bs:=by
 by_cases g:0<ts.sA.length
 .exact qo4 (F.fit9 g) F.bnd
 .have j:=F.bnd.len
  have l:bs=[]:=List.length_eq_zero_iff.1 zOm;subst l;exact⟨⟨j,fun i h=>by simp at h⟩,fun x o=>by simp at o⟩
theorem fk(F:F10 ts sc bs n):FitK ts sc bs:=⟨F.S.h,F.S.hv,F.S.hf,F.k,F.nws,F.bds⟩
theorem fixU(F:F10 ts sc bs n){o}(g:qV o=true){b}(i:BdS ts (sumI sc.sC) b):qd qb 16 [eTS ts,eSc sc,lBd b,eNd o] (outF (fixL ts sc b o)):=
 qoZ F.nwc ⟨F.S.h,F.S.hv,F.S.hf,F.k,F.nws,i⟩ F.S g
end F10
end OK
set_option maxHeartbeats 1000000
namespace OL
open Y1 P1 YF EO GF O0 OC E9 O9 GW OK
theorem qo7(ts sc bs)(g:GSc sc)(h0:ts.sA.length=0)(C:bs.length=ts.sA.length):qd qb 19 [eTS ts,eSc sc,lBd bs] (aB true):=by
 have T:ts.sA.length<=6:=zOm;have P:∀ i,i<ts.sA.length->False:=fun i h=>zOm
 have j:HF (.ip [lI sc.sC,aI sc.sN]):=HF.ip fun c o=>by simp at o;rcases o with rfl|rfl;exact zy _;exact HF.sc _
 have p:HF (.ip [aI (sumI sc.sC)]):=HF.ip fun c o=>by grind [HF.sc]
 have I:HF (.fn (.func 53) [] [.ip [aI (sumI sc.sC)],.ip [lI sc.sC,aI sc.sN]]):=HF.fn (fun c o=>by simp at o) (fun c o=>by simp at o;rcases o with rfl|rfl;exact p;exact j);have l:=nW ts.sA bs C zOm _ _ _ rfl I fun i U h2=>⟨_,by simpa using WKs.zk (pz _) (.zk (zJ _) (.zk p (.zk j .nil))),(P i U).elim⟩
 refine qSU call19 func19 rfl ?_;refine fB (Zk sc g) (.zk (zp sc) .nil) ?_;refine fL (qr.freeze (args1:=[.lst false (ts.sA.map yT),lBd bs,.fn (.func 53) [] [.ip [aI (sumI sc.sC)],.ip [lI sc.sC,aI sc.sN]]]) (fun _=>true) ⟨.inl rfl,.inl rfl,.inr ?_,trivial⟩ (qd.toSound _ l (.zk (Zf ts.sA) (.zk (jJ _) (.zk I .nil))))) ?_ ?_
 .refine .fn _ _ _ _ _ rfl rfl (fun k x y t J=>by simp at t) (fun k x y t J=>?_)
  match k with
  | 0=>simp at t J;subst t;subst J;exact ER.Rd.ip1 (x:=aI (sumI sc.sC)) (by simp[cutM]) (.hf _ (HF.sc _))
  | 1=>simp at t J;subst t;subst J;exact .hf _ j
  |k+2=>simp at t
 .rintro r m ⟨h,rfl⟩
  cases h;simp[go_sem];exact .zsc _
 grind
theorem qo8{ts sc bs n}(F:F10 ts sc bs n){b}(g:BndV ts sc b):qd qb 19 [eTS ts,eSc sc,lBd b] (aB true):=by
 by_cases i:0<ts.sA.length
 .exact qjG ts sc b (F.fit9 i) (zW1 F.a5) g
 .exact qo7 ts sc b (Ji F.so) zOm g.len
end OL
set_option maxHeartbeats 1000000
namespace OG
open YM YF P1 P2 Y1 Y2 Y5 Y6 Y7 Y9 Y10 Y11 Y13 Y14 YV YW
theorem ins1(mu av i)(n:Nat)(t:n<=1):qr qb 214 [av,aI 0,aI n,i] mu fun e m=>e = .ret (.tup [])/\m=mu:=by
 refine qSW call214 func214 rfl {} ?_;have j:qj.wrap 1=1:=rfl;have g:¬(1:Int)<n:=zOm;simp[go_sem,j,g];refine tM (fun _ U=>U.tm 0=av/\U.tm 2=aI n/\U.tm 8=aI 1/\U.mu=mu) 0 ?_ ?_
 .simp [go_sem]
 rintro k U ⟨C,l,o,p⟩;simp[go_sem,l,o,g,p]
theorem pdq1(mu av g j)(n:Nat)(l:n<=1):qr qb 147 [av,aI 0,aI n,j,g] mu fun e m=>e = .ret (.tup [])/\m=mu:=by
 refine qSW call147 func147 rfl {} ?_;simp[go_sem];refine tM (fun _ U=>U.tm 0=av/\U.tm 1=aI 0/\U.tm 2=aI n/\U.tm 4=g/\U.mu=mu) 0 ?_ ?_
 .simp [go_sem]
 rintro k U ⟨o,p,t,C,I⟩;have J:qj.wrap (n:Int)=n:=zWr;have P:(n:Int)<=12:=zOm;simp[go_sem,o,p,t,C,J,P,I];refine fL (ins1 mu av g n l) ?_ ?_
 .rintro r m ⟨i,rfl⟩
  cases i;simp[go_sem]
 .rintro r m ⟨i,_⟩
  cases i
theorem len64(n:Nat)(o:n<=1):qd qb 223 [.sc (.int .u64 n)] (aI n):=by
 refine qSV call223 func223 rfl ?_;have g:n=0\/n=1:=zOm;have i:Lib.len8tab.data[(IntKind.u8.wrap 0).toNat]?=some 0:=zKr;have q1:Lib.len8tab.data[(IntKind.u8.wrap 1).toNat]?=some 1:=zKr;have j:qj.wrap 0=0:=rfl;have l:qj.wrap 1=1:=rfl;rcases g with rfl|rfl
 .simp [go_sem,i,j]
  exact .zsc _
 .simp [go_sem,q1,l]
  exact .zsc _
theorem len1(n:Nat)(g:n<=1):qd qb 148 [.sc (.int .u64 n)] (aI n):=by
 refine qSU call148 func148 rfl ?_;refine fB (len64 n g) (.zs .nil) ?_;exact .zsc _
theorem qo9(mu av j n)(i:n<=1)(o:(av = .lst true []/\n=0)\/∃ b,av = .sl b 1 0 n):qr qb 74 [av,j] mu fun e m=>e = .ret (.tup [])/\m=mu:=by
 have e:lenA qb mu 86 av=some (aI n):=by
  rcases o with ⟨rfl,rfl⟩|⟨b,rfl⟩<;>simp[go_sem]
 have p:IntKind.u64.wrap (n:Int)=n:=by
  have t:n=0\/n=1:=zOm;rcases t with rfl|rfl<;>rfl
 refine qSW call74 func74 rfl {} ?_;rcases o with ⟨rfl,rfl⟩|⟨b,rfl⟩
 .have l:IntKind.u64.wrap 0=0:=rfl
  simp[go_sem,l];refine fB (len1 0 i) (.zs .nil) ?_;refine fL (pdq1 mu _ j _ 0 i) ?_ ?_
  .rintro r m ⟨g,rfl⟩
   cases g;simp[go_sem]
  .rintro r m ⟨g,_⟩
   cases g
 .simp [go_sem,p]
  refine fB (len1 n i) (.zs .nil) ?_;refine fL (pdq1 mu _ j _ n i) ?_ ?_
  .rintro r m ⟨g,rfl⟩
   cases g;simp[go_sem]
  .rintro r m ⟨g,_⟩
   cases g
theorem qpA{mu av i L}(j:Own mu 1 av (L.map rL))(p:∀ zs,av = .lst true zs->zs=[])(l:L.length<=1) :
  qr qb 74 [av,i] mu fun e mu'=>e = .ret (.tup [])/\∃ L',L'.Perm L/\L'.Pairwise (fun x y=>¬cmpL y x<0)/\Rd mu' av (lL L'):=by
 have g:Rd mu av (lL L):=j.rd (qfZ _).ok fun r g c o=>by
   obtain⟨q,_,rfl⟩:=qn.1 g;rw[qO]at o;subst o;exact zy q
 have t:L.Pairwise (fun x y=>¬cmpL y x<0):=by
  match L,l with
  | [],_=>exact .nil
  | [x],_=>exact List.pairwise_singleton _ _
 refine qr.monoR (qo9 mu av i L.length l ?_) ?_
 .rcases j with h|⟨b,h,_⟩
  .have:=p _ h
   have C:L=[]:=by simpa using this
   subst C;exact .inl ⟨h,rfl⟩
  .exact .inr ⟨b,zUs h⟩
 .rintro e m ⟨rfl,rfl⟩
  exact⟨rfl,L,.refl _,t,g⟩
theorem qpB(ts)(h:okTS ts)(hp:∀ p,p∈ts.sT->WfN p.body)(n)(hw:WfN n)(env)(he:w7 ts.sS.length env)(a7:∀ k,exam (mkCk ts ts.sT.length) (zq env) false n = .ok (some k)->k.ts.length<=1):qd qb 37 [eTS ts,lPm env,eNd n] (.tup [lL (Qb ts env n).1,aI (Qb ts env n).2]):=by
 refine qSV call37 func37 rfl ?_;by_cases a0:20<=n.op
 .simp [go_sem,a0,Qb]
  exact nj [] 43
 .simp [go_sem,a0]
  have b0:WKs [.ip (cTS ts),.ip [lPm env],.ip (cNd n)] [.ip (cTS ts),.ip [lPm env],.ip (cNd n)] := .zk (HF.ip (VF ts)) (.zk (HF.ip (by simp;exact uF env)) (.zk (HF.ip (yK n)) .nil));have h1:=qiO ts h hp n hw env he (mu:=[.arr (cKo none)]++[.dead]) (b:=0) rfl;have ae:=jc (jS h (qh ts.sT.length)) (szN n) n (zq env) false;refine fL (Wu (mu:=[.arr (cKo none)]) h1 ?_) ?_ ?_
  .intro v m I
   split at I
   .exact absurd I.1 zSp
   .cases I.1;exact⟨_,_,rfl⟩
  .rintro r m ⟨m',x,⟨l,rfl⟩,⟨r',I,hr⟩|⟨er,p,I,hr⟩⟩
   .cases hr
    split at I
    .rename_i ko hE
     obtain⟨_,rfl⟩:=I;have af:kd n.op=101:=qiN hw a0;obtain⟨k,rfl,hk⟩:=ae ko (qh _) hw (Jk he) hE af;have a2:Qb ts env n=(W6 k,0):=by
      unfold Qb;rw[if_neg a0,hE]
     rw[a2];simp[go_sem];refine qi.seen k.ts.length (fun seen U=>U.tm 8 = .ptr 0 0/\U.tm 27 = .ptr (l.length+3) 0/\U.mu[0]?=some (.arr (cKd k))/\U.mu[l.length+3]?=some (.it (eT k.ts) seen) /\
      OwnF (l.length+4) U.mu 1 (U.tm 10) (seen.map fun i=>rL (rowT k (k.ts.getD i [])))/\∀ zs,U.tm 10 = .lst true zs->zs=[]) ?_ ?_
     .refine ⟨zSi,zSi,zSi,zSi,?_,fun zs e=>?_⟩
      .simp [go_sem]
       exact OwnF.nil zSp
      .simp [go_sem]at e
       exact e
     .rintro seen U a8 g ⟨e8,a1,m0,mi,ho,ag⟩
      have a3:l.length+3<U.mu.length:=(qg.1 mi).1;have b2:seen.length<=k.ts.length:=Wz _ _ a8 g;have b3:=aJ hk h.ns;simp[go_sem,e8,a1];refine⟨l.length+3,eT k.ts,seen,rfl,mi,fun i e J a9=>?_,fun a4=>?_⟩
      .obtain ⟨t,ht,rfl⟩:=wU J
       have ah:=hk.okK.len t (qN ht);have ai:i<k.ts.length:=(qg.1 ht).1;have aa:∀(c:Cell)(lc:List Cell),((U.mu.set (l.length+3) c)++lc)[0]?=some (.arr (cKd k)):=fun c lc=>by
        rw[qB zSo,zGl];exact m0
       obtain⟨P,x1,x2,rfl⟩:∃ P x1 x2,t=[P,x1,x2]:=by
        match t,ah with
        | [P,x1,x2],_=>exact⟨_,_,_,rfl⟩
       have hq:∀(c c2:Cell),((U.mu.set (l.length+3) c)++[c2])[U.mu.length]?=some c2:=fun c c2=>by
        rw[List.getElem?_append_right zSp];simp
       simp[go_sem,-getElem?_pos,hq,List.getElem?_cons_zero,List.getElem?_cons_succ,e8,a1,J,a3,a9,mi,aa];have b4:=hk.ar;obtain⟨a,ha⟩:∃ a:Nat,k.ar=a:=⟨k.ar.toNat,zOm⟩;have b5:a<=3:=zOm;rw[ha,if_pos zOm];simp[go_sem];generalize hM:U.mu.set (l.length+3) (Cell.it (eT k.ts) (seen++[i]))++[Cell.arr [AV.sc (Value.int IntKind.i8 P),AV.sc (Value.int IntKind.i8 x1),AV.sc (Value.int IntKind.i8 x2)]]=M at *
       have b6:M.length=U.mu.length+1:=by rw[<-hM];simp
       have aj:M[U.mu.length]?=some (.arr [AV.sc (Value.int IntKind.i8 P),AV.sc (Value.int IntKind.i8 x1),AV.sc (Value.int IntKind.i8 x2)]):=by rw[<-hM];exact hq _ _
       refine fZ a (fun j s=>s.tm 8 = .ptr 0 0/\s.tm 27 = .ptr (l.length+3) 0/\s.tm 10=U.tm 10/\s.tm 34 = .sl U.mu.length 0 0 a/\s.tm 35=aI a/\s.tm 36=aI j/\(∀ i,i<M.length->s.mu[i]?=M[i]?)/\OwnF M.length s.mu 1 (s.tm 12) (([P,x1,x2].take j).map rI)) ?_ ?_
       .refine ⟨zS1 e8,zS1 a1,zSi,zSi,zSi,zSi,zSi,?_⟩
        simp[go_sem];exact OwnF.nil (qh _)
       .rintro j s hj ⟨f8,f27,f10,f34,f35,f36,fm,fo⟩
        have fq:s.mu[U.mu.length]?=some (.arr [AV.sc (Value.int IntKind.i8 P),AV.sc (Value.int IntKind.i8 x1),AV.sc (Value.int IntKind.i8 x2)]):=by rw[fm _ zOm];exact aj
        by_cases ak:j=a
        .subst ak
         have g1:=fo.cells;have g2:=fo.one;simp[go_sem,f8,f27,f10,f34,f35,f36,g1,g2];have ab:(([P,x1,x2]:List Int).take j)=rowT k (k.ts.getD i []):=by
          rw[yI,ht];simp[rowT,ha]
         rw[ab]at fo;have R:∀ i,i<M.length->(cutM (fun i=>!decide (M.length<=i)) s.mu 0)[i]?=M[i]?:=fun i J=>by
          rw[vw,<-fm i J];simp only[Nat.zero_add,show ¬M.length<=i by omega,decide_false,Bool.not_false,if_true];cases s.mu[i]?<;>rfl
         have al:OwnF (l.length+4) (cutM (fun i=>!decide (M.length<=i)) s.mu 0) 1 (U.tm 10) (seen.map fun i=>rL (rowT k (k.ts.getD i []))):=by
          obtain⟨o1,o2,o3⟩:=ho;refine⟨?_,o2,by rw[vy];have:=fo.2.2;omega⟩;rcases o1 with o1|⟨b,o1,hc⟩
          .exact .inl o1
          .have b7:=o2 _ _ _ _ o1
           have an:=(qg.1 hc).1;refine .inr ⟨b,o1,?_⟩;rw[R b zOm,<-hM,qB (zUs an),zGl];exact hc
         have ao:Rd (cutM (fun i=>decide (M.length<=i)) s.mu 0) (s.tm 12) (lI (rowT k (k.ts.getD i []))):=VS fo (wt _).ok fun r hr c hc=>by
          obtain⟨q,_,rfl⟩:=qn.1 hr;rw[qO]at hc;subst hc;exact HF.sc _
         refine qiP (x' := .lst true [[lI (rowT k (k.ts.getD i []))]]) (fun i=>decide (M.length<=i)) (lo:=l.length+4) (e:=28) (sz:=1) (bt:=24) (zv := .lst true []) (xs:=seen.map fun i=>rL (rowT k (k.ts.getD i []))) (ys:=[rL (rowT k (k.ts.getD i []))]) zSi zSi zSi rfl rfl zOm zOm (qiQ ao) al (by simp[qE]) (nq _ _) (nq (fun i=>rowT k (k.ts.getD i [])) [i]) zSo zSp ?_;intro av o T C;simp[go_sem,f8,f27,f10,f34,f35,f36];refine⟨i,ai,a9,aK ?_⟩;refine⟨zS1 f8,zS1 f27,?_,?_,?_,fun zs e=>by simp[go_sem]at e⟩
         .simp only[qH]
          rw[C 0 zOm,R 0 zOm,<-hM];exact aa _ _
         .simp only[qH]
          rw[C _ zOm,R _ zOm,<-hM,qB (zUs a3),qv a3]
         .rw [z6]
          simpa[go_sem] using T
        .have g:j<a:=by omega
         have w1:=zWk j;have aq:j=0\/j=1\/j=2:=zOm;have z1:qj.wrap 1=1:=rfl;have z2:qj.wrap 2=2:=rfl;have z3:qj.wrap 3=3:=rfl;have a5:∀ x,x∈[P,x1,x2]->0<=x/\x<128:=aL hk h.ns (qN ht);have v0:=a5 P zSp;have v1:=a5 x1 zSp;have v2:=a5 x2 zSp;have u0:qj.wrap P=P:=zWr;have u1:qj.wrap x1=x1:=zWr;have u2:qj.wrap x2=x2:=zWr;rcases aq with rfl|rfl|rfl
         .have c:(0:Int)<a:=by omega
          simp[go_sem,f8,f27,f10,f34,f35,f36,g,fq,w1,u0,u1,u2,c];refine qu.ints (lo:=M.length) (e:=3) (bt:=8) (z:=0) (xs:=[]) (ys:=[P]) zSi zSi zSi zOm (zUs fo) (by simp[qE]) zSp ?_;intro av o T C;simp[go_sem,f8,f27,f10,f34,f35,f36,z1,z2,z3];refine⟨g,aK ?_⟩;exact⟨zS1 f8,zS1 f27,by simp[go_sem,f10],zS1 f34,zS1 f35,zSi,fun i J=>by simp only[qH];rw[C i J];exact fm i J,zVs T⟩
         .have c:(1:Int)<a:=by omega
          simp[go_sem,f8,f27,f10,f34,f35,f36,g,fq,w1,u0,u1,u2,c];refine qu.ints (lo:=M.length) (e:=3) (bt:=8) (z:=0) (xs:=[P]) (ys:=[x1]) zSi zSi zSi zOm (zUs fo) (by simp[qE]) zSp ?_;intro av o T C;simp[go_sem,f8,f27,f10,f34,f35,f36,z1,z2,z3];refine⟨g,aK ?_⟩;exact⟨zS1 f8,zS1 f27,by simp[go_sem,f10],zS1 f34,zS1 f35,zSi,fun i J=>by simp only[qH];rw[C i J];exact fm i J,zVs T⟩
         .have c:(2:Int)<a:=by omega
          simp[go_sem,f8,f27,f10,f34,f35,f36,g,fq,w1,u0,u1,u2,c];refine qu.ints (lo:=M.length) (e:=3) (bt:=8) (z:=0) (xs:=[P,x1]) (ys:=[x2]) zSi zSi zSi zOm (zUs fo) (by simp[qE]) zSp ?_;intro av o T C;simp[go_sem,f8,f27,f10,f34,f35,f36,z1,z2,z3];refine⟨g,aK ?_⟩;exact⟨zS1 f8,zS1 f27,by simp[go_sem,f10],zS1 f34,zS1 f35,zSi,fun i J=>by simp only[qH];rw[C i J];exact fm i J,zVs T⟩
      .simp [go_sem,e8,a1]
       have a6:(seen.map fun i=>rowT k (k.ts.getD i [])).Perm (k.ts.map (rowT k)):=qiS (rowT k) a8 g fun i J=>a4 i (zUs J)
       have b1:∀ x,x∈(seen.map fun i=>rowT k (k.ts.getD i []))->x.length<=3:=fun x hx=>by
        obtain⟨i,_,rfl⟩:=qn.1 hx;have:=hk.ar;simp only[rowT,List.length_take];omega
       generalize hL:(seen.map fun i=>rowT k (k.ts.getD i []))=L at *
       have au:OwnF (l.length+4) U.mu 1 (U.tm 10) (L.map rL):=by
        rw[<-hL,List.map_map];exact ho
       have b8:L.length<=64:=by rw[<-hL,yB];omega
       refine fL (qpA au.1 ag (by rw[<-hL,yB];have:=a7 k hE;omega)) ?_ ?_
       .rintro r m ⟨e,L',aw,ax,ad⟩
        cases e;have ay:L'=W6 k:=VJ (aw.trans a6) ax;rw[ay]at ad;simp[go_sem];exact qiR ad 0
       .rintro r m ⟨e,_⟩;cases e
    .exact absurd I.1 zSp
   .cases hr
    split at I
    .exact absurd I.1 zSp
    .rename_i d hE
     obtain⟨I,rfl⟩:=I;cases I;have az:d.1≠0:=Qa _ (szN n) n _ _ _ (qh _) hE;have a2:Qb ts env n=([],d.1):=by
      unfold Qb;rw[if_neg a0,hE]
     rw[a2];simp[go_sem,az];refine fD ?_;exact nj _ _
  .rintro r m ⟨m',x,⟨l,rfl⟩,⟨r',I,hr⟩|⟨er,p,I,hr⟩⟩<;>cases hr
end OG
set_option maxHeartbeats 1000000
namespace OH
open Y1 Y9 P1 YF EO GF KA O0 KB KE Q6 ER O4 O9 Y6 OF
theorem qcU(p):∀ ks,jT p ks=ks.any (anyN p)
 | []=>rfl
 |k :: ks=>by rw[jT,qcU p ks];rfl
abbrev wL:Nd->Bool:=anyN fun n=>decide (n.op=47)
theorem qcV:∀ m n,szN n<=m->Small n->qd qb 38 [eNd n] (aB (wL n))
 | 0,n,l,_=>by obtain⟨op,nm,i,ks,p⟩:=n;simp[szN]at l
 |m+1,n,l,o=>by
  have J:=o.len;have t:HF (.lst false (n.sD.map cNd)):=HF.lst fun r C c g=>by
   obtain⟨k,_,rfl⟩:=qn.1 C;exact yK k c g
  have hf:HF (.fn (.func 38) [] []):=HF.fn (fun c g=>by simp at g) (fun c g=>by simp at g);have I:=pT false n.sD (.fn (.func 38) [] []) wL ⟨_,[],[],rfl,fun k j=>⟨[eNd k],qcV m k (zW1 (q9 j)) (o.kid j),.zk (qz k) .nil⟩⟩ hf t zOm;have e:wL n=(decide (n.op=47)||n.sD.any wL):=by
   rw[wL,Jl,qcU]
  rw[e];refine qSV call38 func38 rfl ?_;by_cases h:n.op=47
  .simp [go_sem,h]
   exact .zsc _
  .simp [go_sem,h]
   refine fB I (.zk t (.zk hf .nil)) ?_;exact .zsc _
def outU(e:Int)(c:Bool)(b:Bd):AV:=if e≠0 then .tup [eBd bd0,aI e] else if c=true then .tup [eBd bd0,aI 45] else .tup [eBd b,aI 0]
theorem qcW(mu e):Rd mu (.tup [.agg cZ4,aI e]) (.tup [eBd bd0,aI e]):=OF.Rd.tups ⟨Rd.aggs ⟨.hf _ (HF.sc _),.wk _ true _ (.hf _ (HF.lst fun r g=>by simp at g)),.hf _ (HF.sc _),.wk _ true _ (.hf _ (HF.lst fun r g=>by simp at g)),trivial⟩,.hf _ (HF.sc _),trivial⟩
variable {ts:TS} {sc:Sc} {bs:List Bd}
theorem qpC(C:NwC ts sc)(hb:BdS ts (sumI sc.sC) bs){n}(hs:Small n){X e}(hT:qd qb 37 [eTS ts,lPm [],eNd n] (.tup [X,aI e]))(ht:e=0->wL n=false->∃ a,ArN (arT ts) n a) :
  qd qb 9 [eTS ts,eSc sc,lBd bs,lPm [],eNd n] (outU e (wL n) (ivl ⟨ts,sc,bs⟩ [] n)):=by
 unfold outU;refine qSQ call9 func9 rfl { mt:=[58] } ?_;simp[go_sem];refine tR hT (.zk (zl ts) (.zk (uF _) (.zk (qz n) .nil))) ?_;by_cases t:e=0
 .subst t
  simp[go_sem];refine tR (qcV _ n (qh _) hs) (.zk (qz n) .nil) ?_;cases hc:wL n with
  |true =>
   simp[go_sem];exact qcW _ _
  |false =>
   obtain⟨a,ha⟩:=ht rfl hc;have cI:=C.iv hb ha;generalize hX:ivl ⟨ts,sc,bs⟩ [] n=Y at *
   simp[go_sem];refine tM (fun _ U=>U.tm 2=lBd bs/\U.tm 5 = .ip (cTS ts)/\U.tm 6 = .ip [lI sc.sC,aI sc.sN]/\U.tm 9 = .ip (cNd n)/\U.tm 10 = .ptr 0 0/\U.tm 14 = .lst true []/\U.tm 33=aI 0/\U.tm 34=aI 0/\U.mu=[.arr cZ4]) 0 ?_ ?_
   .simp [go_sem]
   rintro k U ⟨I,J,P,R,i,j,o,p,hm⟩;simp[go_sem,o,p];refine fG [0,1,2,3,4,5,6,7] [(0,0,[]),(1,0,[]),(2,0,[]),(3,0,[]),(4,1,[0,1]),(5,0,[]),(6,1,[]),(7,0,[])] zKr zKr zSi ?_;simp[go_sem,I,J,P,R,i,j];refine tR (Zk sc C.W.s.g) (.zk (zp _) .nil) ?_;simp[go_sem,I,J,P,R,i,j,hm];have l:=cI [.arr cZ4,.arr (cNs ts sc (lBd bs) (sumI sc.sC) false)] 1 false (lBd bs) true ⟨rfl,.inl rfl⟩;rw[hX]at l;refine qc.mem l fun m1 h1=>?_
   have hz:=h1 0 _ rfl;obtain⟨T,rfl⟩:=pI hz;simp[go_sem,i];exact OF.Rd.tups ⟨.hf _ (zJ Y),.hf _ (HF.sc _),trivial⟩
 .simp [go_sem,t]
  exact qcW _ _
end OH
namespace IC
end IC
namespace ID
end ID
namespace IE
end IE
namespace IK
open P1
namespace Cx
variable {ts:TS} {sc:Sc} {b:List Bd} {N:Nat}
end Cx
namespace Cx
variable {ts:TS} {sc:Sc} {b:List Bd} {N:Nat}
end Cx
namespace Cx
variable {ts:TS} {sc:Sc} {b:List Bd} {N:Nat}
end Cx
end IK
namespace IL
open P1
variable {ts:TS} {sc:Sc} {b:List Bd} {N:Nat}
end IL
namespace IM
open P1
variable {ts:TS} {sc:Sc} {b:List Bd} {N:Nat}
end IM
set_option maxHeartbeats 1000000
namespace ON
open YF P1 EO EP EQ F4 G5 GP GR LA
theorem qpD(ts sc)(F:Fit9 ts sc):qd qb 26 [eTS ts,eSc sc] (lBd (defB ts sc)):=by
 have a0:=F.nf;refine qSU call26 func26 rfl ?_;refine fZ ts.sA.length (fun k U=>U.tm 2 = .ip (cTS ts)/\U.tm 3 = .ip [lI sc.sC,aI sc.sN]/\U.tm 9 = .lst false (ts.sA.map yT)/\U.tm 10=aI ts.sA.length/\U.tm 11=aI k/\Own U.mu 4 (U.tm 5) ((ts.sA.take k).map (rowD sc))) ?_ ?_
 .exact ⟨zSi,zSi,zSi,zSi,zSi,.inl zSi⟩
 rintro k U hk ⟨e2,e3,e9,I,t,J⟩;by_cases i:k<ts.sA.length
 .have w1:=zWk k
  have l:=qq i;have C:=EW.W0 sc F.g (fun a ha=>(F.g.2 a ha).1) ts.sA[k].sS (F.fs _ l) (F.f1 _ l).1 (F.f1 _ l).2;rw[qjI sc F.g F.p _ (F.f1 _ l).2 (F.fs _ l)]at C;simp[go_sem,e9,I,t,i];refine tN zKr ?_;simp[go_sem,e2,e3,t,i];refine fB C (.zk (zp _) (.zk (zy _) .nil)) ?_;refine aH (e:=42) (sz:=4) (bt:=64) (zv := .agg [aI 0,.lst true [],aI 0,.lst true []]) (xs:=(ts.sA.take k).map (rowD sc)) (ys:=[rowD sc ts.sA[k]]) zSi zSi zSi rfl rfl zOm zOm (Own.push J _) (by simp[qE,rowD]) (Xh sc _) (Xh sc [_]) zSo ?_;intro a1 o P _ _ _;simp[go_sem,t,i,w1];refine aK ⟨zS1 e2,zS1 e3,zS1 e9,zS1 I,zSi,?_⟩;rw[jy i,z6];simpa[go_sem] using P
 .have R:k=ts.sA.length:=by omega
  subst R;rw[List.take_length]at J;simp[go_sem,I,t];have:=aZ (g:=fun f=>cBd ⟨⟨f.sS.length,[]⟩,⟨f.sS.length,yo sc f.sS⟩⟩) J (Xh sc _).ok (fun r T=>by
   obtain⟨n,_,rfl⟩:=qn.1 T;rfl) fun f _=>⟨.hf _ (HF.sc _),.wk _ true _ (.hf _ (HF.lst fun r T=>by simp at T)),.hf _ (HF.sc _),.hf _ (zy _),trivial⟩
  show Rd _ _ (.lst false ((defB ts sc).map cBd));rw[defB,List.map_map];exact this
end ON
set_option maxHeartbeats 1000000
namespace OM
open Y1 P1 YF E4 GF KA KR O0 E9 Y16 Q4 PD QL ER F6 OI OJ OF OK Y6 Y11 YW QB
def tsN:TS:=⟨[(⟨#[65]⟩,false)],[⟨⟨#[102]⟩,[0],false⟩,⟨⟨#[103]⟩,[0],false⟩],[],[]⟩
def scN:Sc:=⟨[2],1⟩
abbrev rE:Rl:=⟨1,[]⟩
abbrev rF:Rl:=⟨1,[0,1]⟩
def bsN:List Bd:=[⟨rE,rF⟩,⟨rE,rF⟩]
def nm(b:tV):Nd := .mk 1 b 0 [] 0
def nd(op:Int)(ks:List Nd):Nd := .mk op ⟨#[]⟩ 0 ks 0
abbrev fN:Nd:=nm ⟨#[102]⟩
abbrev gN:Nd:=nm ⟨#[103]⟩
abbrev aN:Nd:=nm ⟨#[65]⟩
def q1:Nd:=nd 35 [fN]
def q2:Nd:=nd 41 [nd 33 [fN,aN],nd 35 [nd 8 [gN,fN]]]
def q3:Nd:=nd 41 [nd 34 [fN],nd 35 [fN]]
def q4:Nd:=nd 34 [nm ⟨#[104]⟩]
def q5:Nd:=nd 32 [nd 6 [fN,gN],nd 8 [aN,gN]]
def q6:Nd:=nd 48 [nd 41 [nd 34 [fN],nd 48 [nd 35 [gN]]]]
def q7:Nd:=nd 6 [fN,aN]
theorem v1:fixL tsN scN bsN q1 = .ok [⟨rE,rE⟩,⟨rE,rF⟩]:=by kernel_rfl
theorem v2:fixL tsN scN bsN q2 = .ok [⟨rF,rF⟩,⟨rE,rF⟩]:=by kernel_rfl
theorem v3:fixL tsN scN bsN q3 = .error 100:=by kernel_rfl
theorem v4:fixL tsN scN bsN q4 = .error 40:=by kernel_rfl
theorem v5:fixL tsN scN bsN q5 = .ok bsN:=by kernel_rfl
theorem v6:conj q6=[nd 48 [nd 34 [fN]],nd 48 [nd 35 [gN]]]:=by kernel_rfl
theorem v7:ivl ⟨tsN,scN,bsN⟩ [] q7=⟨rF,rF⟩:=by kernel_rfl
theorem v8:[q1,q2,q3,q4,q5,q6,q7].all qV=true:=by kernel_rfl
theorem v9:yG tsN=[]:=by kernel_rfl
theorem v10:jk (spOf tsN) scN=true:=by kernel_rfl
theorem v11:vBs tsN scN bsN=true:=by kernel_rfl
theorem v12:jN q1=true/\shpB tsN=true:=⟨zKr,zKr⟩
theorem szN0:∀ x,x∈tsN.sS->x.1.size<=4611686018427387904:=by
 intro x g;simp only[tsN,qO]at g;subst g;decide
theorem qcX:uU tsN scN bsN q1:=⟨zDe,zDe,zDe,zDe,zDe,zDe,v12.1,fun p g=>by simp[tsN]at g,fun p g=>by simp[tsN]at g,v12.2⟩
theorem F0:F10 tsN scN bsN q1:=⟨qcX,JN qcX szN0,v9,v10,zDe,v11,Yj v12.1⟩
theorem val{q}(h:q∈[q1,q2,q3,q4,q5,q6,q7]):qV q=true:=qR.1 v8 q h
theorem fix1:qd qb 16 [eTS tsN,eSc scN,lBd bsN,eNd q1] (.tup [lBd [⟨rE,rE⟩,⟨rE,rF⟩],aI 0]):=by
 have h:=F0.fixU (val (q:=q1) zSp) F0.bds
 rwa[v1]at h
theorem fix2:qd qb 16 [eTS tsN,eSc scN,lBd bsN,eNd q2] (.tup [lBd [⟨rF,rF⟩,⟨rE,rF⟩],aI 0]):=by
 have h:=F0.fixU (val (q:=q2) zSp) F0.bds
 rwa[v2]at h
theorem fix3:qd qb 16 [eTS tsN,eSc scN,lBd bsN,eNd q3] (.tup [lBd [],aI 100]):=by
 have h:=F0.fixU (val (q:=q3) zSp) F0.bds
 rwa[v3]at h
theorem fix4:qd qb 16 [eTS tsN,eSc scN,lBd bsN,eNd q4] (.tup [lBd [],aI 40]):=by
 have h:=F0.fixU (val (q:=q4) zSp) F0.bds
 rwa[v4]at h
theorem fix5:qd qb 16 [eTS tsN,eSc scN,lBd bsN,eNd q5] (.tup [lBd bsN,aI 0]):=by
 have h:=F0.fixU (val (q:=q5) zSp) F0.bds
 rwa[v5]at h
theorem con6:qd qb 13 [eNd q6] (lNd [nd 48 [nd 34 [fN]],nd 48 [nd 35 [gN]]]):=by
 have h:=OD.JI _ q6 (qh _) (jd (val (q:=q6) zSp)) (by rw[v6];decide)
 rwa[v6]at h
theorem e7:exam (mkCk tsN tsN.sT.length) (zq []) false q7 = .ok (some ⟨1,[[0,0,0]]⟩):=by kernel_rfl
theorem up7:qd qb 9 [eTS tsN,eSc scN,lBd bsN,lPm [],eNd q7] (.tup [eBd ⟨rF,rF⟩,aI 0]):=by
 have i:=jd (val (q:=q7) zSp);have j:=OG.qpB tsN F0.S.h (fun p l=>by simp[tsN]at l) q7 i [] ⟨zSp,zSp⟩ (fun k g=>by rw[e7]at g;cases g;decide);have g:(Qb tsN [] q7).2=0:=zKr;rw[g]at j;have o:OH.wL q7=false:=zKr;have h:=OH.qpC F0.nwc F0.bds i.small j (fun _ _=>⟨1,.alike (.inl rfl) rfl (.name rfl zKr) (.name rfl zKr)⟩);rw[o,v7]at h;exact h
theorem uJ(b):qd qb 25 [aS b] (eNd (nm b)):=by
 refine qSU call25 func25 rfl ?_;exact Rd.aggs ⟨.hf _ (HF.sc _),.hf _ (HF.sc _),.hf _ (HF.sc _),.wk _ true _ (.hf _ (HF.lst fun r g=>by simp at g)),.hf _ (HF.sc _),trivial⟩
theorem je(op ks):qd qb 21 [aI op,lNd ks] (eNd (nd op ks)):=by
 refine qSU call21 func21 rfl ?_;have g:eNd (nd op ks) = .agg [aI op,aS ⟨#[]⟩,aI 0,lNd ks,aI 0]:=by rw[eNd,yw];rfl
 rw[g];exact Rd.aggs ⟨.hf _ (HF.sc _),.hf _ (HF.sc _),.hf _ (HF.sc _),.hf _ (YK ks),.hf _ (HF.sc _),trivial⟩
theorem wl{full}(ks):WK (.lst full (ks.map cNd)) (lNd ks):=WK.lst fun r g c i=>by
 obtain⟨k,_,rfl⟩:=qn.1 g;exact yK k c i
theorem wts:WK (.agg [.lst true [[aS ⟨#[65]⟩,aB false]],.lst true [[aS ⟨#[102]⟩,.lst true [[aI 0]],aB false],[aS ⟨#[103]⟩,.lst true [[aI 0]],aB false]],.lst true [],.lst true []]) (eTS tsN):=
 WK.aggs (.cons (Qj ⟨.zs (.zs .nil),trivial⟩) (.cons (Qj ⟨.zs (.cons (WK.ints [0]) (.zs .nil)),.zs (.cons (WK.ints [0]) (.zs .nil)),trivial⟩) (.cons (Qj (by trivial)) (.cons (Qj (by trivial)) .nil))))
theorem wsc:WK (.agg [.lst true [[aI 2]],aI 1]) (eSc scN):=WK.aggs (.cons (WK.ints [2]) (.zs .nil))
theorem wrow:WKs [aI 1,.lst true [],aI 1,.lst true [[aI 0],[aI 1]]] (cBd ⟨rE,rF⟩) := .zs (.cons (WK.ints []) (.zs (.cons (WK.ints [0,1]) .nil)))
theorem wbs:WK (.lst true [[aI 1,.lst true [],aI 1,.lst true [[aI 0],[aI 1]]],[aI 1,.lst true [],aI 1,.lst true [[aI 0],[aI 1]]]]) (lBd bsN):=Qj ⟨wrow,wrow,trivial⟩
theorem w4(q):WKs [.agg [.lst true [[aS ⟨#[65]⟩,aB false]],.lst true [[aS ⟨#[102]⟩,.lst true [[aI 0]],aB false],[aS ⟨#[103]⟩,.lst true [[aI 0]],aB false]],.lst true [],.lst true []],.agg [.lst true [[aI 2]],aI 1],.lst true [[aI 1,.lst true [],aI 1,.lst true [[aI 0],[aI 1]]],[aI 1,.lst true [],aI 1,.lst true [[aI 0],[aI 1]]]],eNd q] [eTS tsN,eSc scN,lBd bsN,eNd q] := .cons wts (.cons wsc (.cons wbs (.zk (qz q) .nil)))
theorem w2{full}(op ks):WKs [aI op,.lst full (ks.map cNd)] [aI op,lNd ks] := .zs (.cons (wl ks) .nil)
theorem w5(q):WKs [.agg [.lst true [[aS ⟨#[65]⟩,aB false]],.lst true [[aS ⟨#[102]⟩,.lst true [[aI 0]],aB false],[aS ⟨#[103]⟩,.lst true [[aI 0]],aB false]],.lst true [],.lst true []],.agg [.lst true [[aI 2]],aI 1],.lst true [[aI 1,.lst true [],aI 1,.lst true [[aI 0],[aI 1]]],[aI 1,.lst true [],aI 1,.lst true [[aI 0],[aI 1]]]],.lst true [],eNd q] [eTS tsN,eSc scN,lBd bsN,lPm [],eNd q] := .cons wts (.cons wsc (.cons wbs (.cons (Qj (by trivial)) (.zk (qz q) .nil))))
theorem wrowE:WKs [aI 1,.lst true [],aI 1,.lst true []] (cBd ⟨rE,rE⟩) := .zs (.cons (WK.ints []) (.zs (.cons (WK.ints []) .nil)))
theorem qcY:WKs [aI 1,.lst true [[aI 0],[aI 1]],aI 1,.lst true [[aI 0],[aI 1]]] (cBd ⟨rF,rF⟩) := .zs (.cons (WK.ints [0,1]) (.zs (.cons (WK.ints [0,1]) .nil)))
theorem Kz(a)(h:a.length<=10)(g:∀ x,x∈a->x.lo.ts.length<=10/\x.up.ts.length<=10):qd qb 18 [lBd a,lBd a] (aB true):=by
 have:=qbV a a zOm (fun x i=>zW1 (g x i))
 rwa[decide_eq_true rfl]at this
theorem insF:qd qb 27 [eBd ⟨rF,rF⟩,eBd ⟨rF,rF⟩] (aB true):=
 qbU ⟨rF,rF⟩ ⟨rF,rF⟩ ⟨⟨zDe,zDe⟩,zDe,zDe⟩ ⟨⟨zDe,zDe⟩,zDe,zDe⟩
theorem headN(j:∃ b,b[0]?.map (fun x=>x.up.ar)=some 1/\qd qb 26 [eTS tsN,eSc scN] (lBd b)):qd qb 6 [] (aB true):=by
 refine qSU call6 func6 rfl ?_;refine fB (uJ ⟨#[102]⟩) (.zs .nil) ?_;refine fB (uJ ⟨#[103]⟩) (.zs .nil) ?_;refine fG [0,1,2,3,4,5,6,7,8,9,10,11] [(0,0,[]),(1,0,[]),(2,0,[]),(3,0,[]),(4,0,[]),(5,1,[0,1]),(6,1,[]),(7,0,[]),(8,0,[]),(9,0,[]),(10,0,[]),(11,0,[])] zKr zKr zSi ?_;simp[go_sem];refine fB (je 35 [fN]) (w2 35 [fN]) ?_;refine fB fix1 (w4 q1) ?_;refine fG [0,1,2,3,7,8,9,4,5,6,10,11,12,13,14,15,16,17,18,19,20] [(0,0,[]),(1,0,[]),(2,0,[]),(3,0,[]),(7,0,[]),(8,0,[]),(9,0,[]),(4,1,[0,1,3,7,8]),(5,0,[]),(6,1,[0,1,7,8]),(10,1,[0,1]),(11,0,[]),(12,1,[0,1]),(13,0,[]),(14,1,[0,1]),(15,1,[]),(16,0,[]),(17,0,[]),(18,0,[]),(19,0,[]),(20,0,[])] zKr zKr zSi ?_;simp[go_sem];refine fB (uJ ⟨#[65]⟩) (.zs .nil) ?_;refine fB (je 33 [fN,aN]) (w2 33 [fN,aN]) ?_;refine fB (je 8 [gN,fN]) (w2 8 [gN,fN]) ?_;refine fB (je 35 [nd 8 [gN,fN]]) (w2 35 [nd 8 [gN,fN]]) ?_;refine fB (je 41 [nd 33 [fN,aN],nd 35 [nd 8 [gN,fN]]]) (w2 41 [nd 33 [fN,aN],nd 35 [nd 8 [gN,fN]]]) ?_;refine fB fix2 (w4 q2) ?_;refine fG [0,1,2,3,4,6,7,5,8,9,10,11,12,13,14,15,16] [(0,0,[]),(1,0,[]),(2,0,[]),(3,0,[]),(4,0,[]),(6,0,[]),(7,0,[]),(5,1,[0,1,6]),(8,1,[0,1]),(9,0,[]),(10,1,[0,1]),(11,1,[]),(12,0,[]),(13,0,[]),(14,0,[]),(15,0,[]),(16,0,[])] zKr zKr zSi ?_;simp[go_sem];refine fB (je 34 [fN]) (w2 34 [fN]) ?_;refine fB (je 35 [fN]) (w2 35 [fN]) ?_;refine fB (je 41 [nd 34 [fN],nd 35 [fN]]) (w2 41 [nd 34 [fN],nd 35 [fN]]) ?_;refine fB fix3 (w4 q3) ?_;refine fG [0,1,2,3,4,5,6,7,8,9,10,11] [(0,0,[]),(1,0,[]),(2,0,[]),(3,1,[0,1]),(4,0,[]),(5,1,[0,1]),(6,1,[]),(7,0,[]),(8,0,[]),(9,0,[]),(10,0,[]),(11,0,[])] zKr zKr zSi ?_;simp[go_sem];refine fB (uJ ⟨#[104]⟩) (.zs .nil) ?_;refine fB (je 34 [nm ⟨#[104]⟩]) (w2 34 [nm ⟨#[104]⟩]) ?_;refine fB fix4 (w4 q4) ?_;refine fG [0,1,2,3,4,5,6,7,8,9,10,13,11,12] [(0,0,[]),(1,0,[]),(2,0,[]),(3,0,[]),(4,1,[0,1,3]),(5,0,[]),(6,1,[0,1]),(7,1,[]),(8,0,[]),(9,0,[]),(10,0,[]),(13,0,[]),(11,2,[0,1,3]),(12,1,[])] zKr zKr zSi ?_;simp[go_sem];refine fB (uJ ⟨#[65]⟩) (.zs .nil) ?_;refine fB (je 6 [fN,aN]) (w2 6 [fN,aN]) ?_;refine fB up7 (w5 q7) ?_;refine fG [0,1,3,4,2,5,6,7,8,9,10,11,12,13] [(0,0,[]),(1,0,[]),(3,0,[]),(4,0,[]),(2,1,[3]),(5,1,[]),(6,0,[]),(7,1,[]),(8,0,[]),(9,1,[]),(10,0,[]),(11,1,[]),(12,1,[]),(13,0,[])] zKr zKr zSi ?_;simp[go_sem];refine fB (je 34 [fN]) (w2 34 [fN]) ?_;refine fB (je 35 [gN]) (w2 35 [gN]) ?_;refine fB (je 48 [nd 35 [gN]]) (w2 48 [nd 35 [gN]]) ?_;refine fB (je 41 [nd 34 [fN],nd 48 [nd 35 [gN]]]) (w2 41 [nd 34 [fN],nd 48 [nd 35 [gN]]]) ?_;refine fB (je 48 [nd 41 [nd 34 [fN],nd 48 [nd 35 [gN]]]]) (w2 48 [nd 41 [nd 34 [fN],nd 48 [nd 35 [gN]]]]) ?_;refine fB con6 (.zk (qz q6) .nil) ?_
 refine fG [0,1,2,3,4,5,8,6,7,9,10,11,12,13,14,15,16,17,18] [(0,0,[]),(1,0,[]),(2,0,[]),(3,0,[]),(4,0,[]),(5,0,[]),(8,0,[]),(6,1,[0,1,8]),(7,1,[0,1,8]),(9,0,[]),(10,1,[0,1]),(11,0,[]),(12,1,[0,1]),(13,1,[]),(14,0,[]),(15,0,[]),(16,0,[]),(17,0,[]),(18,0,[])] zKr zKr zSi ?_;simp[go_sem];refine fB (je 6 [fN,gN]) (w2 6 [fN,gN]) ?_;refine fB (uJ ⟨#[65]⟩) (.zs .nil) ?_;refine fB (je 8 [aN,gN]) (w2 8 [aN,gN]) ?_;refine fB (je 32 [nd 6 [fN,gN],nd 8 [aN,gN]]) (w2 32 [nd 6 [fN,gN],nd 8 [aN,gN]]) ?_;refine fB fix5 (w4 q5) ?_;obtain⟨b,g,i⟩:=j
 match b,g with
 |x :: I,g =>
 have l:x.up.ar=1:=zUs g;refine tR i (.cons wts (.cons wsc .nil)) ?_;simp[go_sem,l];refine fD ?_;refine fB (Kz [⟨rE,rE⟩,⟨rE,rF⟩] zDe zDe) (.zk (jJ _) (.cons (Qj ⟨wrowE,wrow,trivial⟩) .nil)) ?_;refine fB (Kz [⟨rF,rF⟩,⟨rE,rF⟩] zDe zDe) (.zk (jJ _) (.cons (Qj ⟨qcY,wrow,trivial⟩) .nil)) ?_;refine tR insF (.zk (zJ ⟨rF,rF⟩) (.cons (WK.aggs qcY) .nil)) ?_;have o:(nd 48 [nd 34 [fN]]).op=48:=rfl;have p:(nd 48 [nd 35 [gN]]).op=48:=rfl;have t:(nd 48 [nd 35 [gN]]).sD=[nd 35 [gN]]:=rfl;have C:(nd 35 [gN]).op=35:=rfl;simp[go_sem,o,p,t,C];refine fB (Kz bsN zDe zDe) (.zk (jJ _) (.cons wbs .nil)) ?_;exact .zsc _
theorem headU:qd qb 6 [] (aB true):=
 headN ⟨GP.defB tsN scN,zKr,ON.qpD tsN scN (F0.fit9 zDe)⟩
end OM
set_option maxHeartbeats 1000000
namespace W71
open Y1 P1 P2 PA YF E1 KR O0 KD KE Q1 Q2 OI KV OF OK OL
section
variable {ts:TS}
theorem qcZ:∀(l){e},yV ts l = .error e->e≠0
 | [],e,h=>by cases h
 |n :: l,e,h=>by
  rw[yV]at h;split at h
  .split at h
   .cases h
   .rename_i j i
    cases h;exact qcZ l i
  .rename_i g
   cases h;exact g
theorem qpE{sc bs n e}(h:fixL ts sc bs n = .error e):e≠0:=by
 unfold fixL at h;split at h
 .rename_i i g
  cases h;exact qcZ _ g
 .split at h
  .cases h;decide
  .cases h
theorem UD{n b}(g:BdS ts n b)(j:0<=n)(o:n<=12):∀ x,x∈b->BdOk x:=fun x p=>by
 obtain⟨i,l,rfl⟩:=ui.1 p;have:=g.b.2 i l (by rw[<-g.b.1];exact l);have t:=this.lo.len j zOm;have C:=this.up.len j zOm;exact⟨⟨zOm,this.lo.srt⟩,zOm,this.up.srt⟩
theorem qpF{a b}(h:Tg a b):OI.insB a b=true:=by
 simp only[OI.insB,qx,decide_eq_true_eq,inOk,qR];exact⟨h.la,fun t g=>h.lo t g,fun t g=>h.up t g⟩
theorem qpG{a b}(h:TgL a b):tigB a b=true:=by
 simp only[tigB,qx,decide_eq_true_eq,qR];refine⟨h.1,fun p g=>?_⟩;obtain⟨i,j,rfl⟩:=ui.1 g;simp only[List.length_zip]at j;rw[List.getElem_zip];exact qpF (h.2 i zOm zOm)
theorem qpH(ts)(j:∀ x,x∈ts.sS->x.1.size<=4611686018427387904)(sc bs n)(C:qd qb 6 [] (aB true)) :
  qd qb 4 [eTS ts,eSc sc,lBd bs,eNd n] (aB true):=by
 refine qSU call4 func4 rfl ?_;refine fB C .nil ?_;refine tR (W7 ts j sc bs n) (.zk (zl ts) (.zk (zp sc) (.zk (jJ bs) (.zk (qz n) .nil)))) ?_;cases hf:f10 ts sc bs n with
 |false =>
  simp[go_sem];exact .zsc _
 |true =>
 have F:=qo6 j hf;simp[go_sem];refine tR (nu n.op) (.zs .nil) ?_;by_cases l:kd n.op=102
 case neg =>
  simp[go_sem,l];exact .zsc _
 have wf:∀ b:List Bd,WKs [eTS ts,eSc sc,lBd b,eNd n] [eTS ts,eSc sc,lBd b,eNd n]:=fun b => .zk (zl ts) (.zk (zp sc) (.zk (jJ b) (.zk (qz n) .nil)))
 simp[go_sem,l];refine tR (F.fixU F.hn F.bds) (wf bs) ?_;cases i:fixL ts sc bs n with
 |error e =>
  have I:=qpE i;simp[go_sem,outF,I];exact .zsc _
 |ok x =>
 obtain⟨bx,o⟩:=qoW F.fk F.hn i;have hid:=qoX F.fk F.hn i;have g:=F.nws.s.n0;have J:=qo8 F (qo5 F.bnd bx o);have p:=qnQ x bs (zW2 bx.b.1 F.P.fl) (UD bx g F.nws.h12) (UD F.bds g F.nws.h12);have R:=qbV x x (zW2 bx.b.1 F.P.fl) (fun b t=>⟨(UD bx g F.nws.h12 b t).1.1,(UD bx g F.nws.h12 b t).2.1⟩);have T:tigB x bs=true:=qpG o;rw[T]at p;simp[go_sem,outF];refine fB J (.zk (zl ts) (.zk (zp sc) (.zk (jJ x) .nil))) ?_;refine fB p (.zk (jJ x) (.zk (jJ bs) .nil)) ?_;refine tR (F.fixU F.hn bx) (wf x) ?_;rw[hid];simp[go_sem,outF];refine fB R (.zk (jJ x) (.zk (jJ x) .nil)) ?_;exact .zsc _
theorem qpI(ts)(g:∀ x,x∈ts.sS->x.1.size<=4611686018427387904)(sc bs n):qd qb 4 [eTS ts,eSc sc,lBd bs,eNd n] (aB true):=qpH ts g sc bs n OM.headU
end
end W71
namespace DL
open Go.EvW Go.RowKit Go.ChangeShapes Go.WideShapes
theorem own:ownKnob qb.godebug=none:=by kernel_rfl
theorem laid:laidOutB qb=true:=by kernel_rfl
abbrev tabL : List (String × DataW Unit) := [("math/bits.deBruijn32tab", Rows.laid_math_bits_deBruijn32tab), ("math/bits.deBruijn64tab", Rows.laid_math_bits_deBruijn64tab), ("internal/strconv.uint64pow10", Rows.laid_internal_strconv_uint64pow10)]
def pows:List Int:=[1,10,100,1000,10000,100000,1000000,10000000,100000000,1000000000,10000000000,100000000000,1000000000000,10000000000000,100000000000000,1000000000000000,10000000000000000,100000000000000000,1000000000000000000,10000000000000000000]
theorem gPow : qb.globalNamed "internal/strconv.uint64pow10" = some 0 := by kernel_rfl
theorem tPow:(qb.globals[0]?).map (·.type)=some 336:=by kernel_rfl
theorem uPow:qb.underlying 336=some (.array 20 281):=by kernel_rfl
theorem uU64:qb.underlying 281=some (.int .u64):=by kernel_rfl
theorem qpJ{W}(h:laidMetH qb tabL W):Qs (·<W.heap.size) W.heap:=by
  rw[MakeChecks.laidMetH_plain _ _ _ zKr]at h;obtain⟨ps,I,_⟩:=h
  obtain ⟨g, t, l, o, p, J, R, T, U⟩ := mT I ("internal/strconv.uint64pow10", Rows.laid_internal_strconv_uint64pow10) zSp
  obtain rfl:=Option.some.inj (gPow.symm.trans J);obtain rfl:=Option.some.inj (tPow.symm.trans R);have hc:l.toList=pows.map fun i => .int .u64 i:=qkP uPow uU64 zKr zKr (ns:=pows) U
  obtain⟨e,fr,C⟩:=qkQ gPow T;intro x j;have j:x∈[(0,pows.map fun i=>Value.int .u64 i)]:=j;rw[qO]at j;subst j;refine⟨(Array.getElem?_eq_some_iff.1 C).1,e,fr,?_⟩;show W.heap[0]?=_;rw[C];have:l=(pows.map fun i=>Value.int .u64 i).toArray:=by rw[<-hc]
  rw[this]
theorem qpK(os args):laidMetH qb tabL ((World.doorLaid qb 4000 os).forCall (fun _ _=>0) ⟨#[],args,[]⟩).memory:=
 laidMetH_of_parts3 (fuel:=8) (laidMet_of_run' 8 zKr zKr) zKr zKr
end DL
namespace DM
open Go.EvW E3 DT
instance:Inhabited Rl:=⟨⟨0,[]⟩⟩
instance:Inhabited Sc:=⟨⟨[],0⟩⟩
instance:Inhabited Md:=⟨⟨default,[],0⟩⟩
theorem qc0(N):ShU qb N 40 cRel (fun _=>True):=
 ((ShU.struct (fs:=[(3,0),(28,1)]) zKr (.cons' (o':=1) zKr (Zp N) (.cons' (o':=2) zKr (Xx N) (.nil 2))) zKr).map
  (fun x=>(⟨x.1,x.2.1⟩:Rl)) (fun _=>rfl) (fun x h=>trivial)).le zOm
theorem qpL(N):ShU qb N 30 (fun s:Sc=>[lI s.sC,aI s.sN]) (fun _=>True):=
 ((ShU.struct (fs:=[(28,0),(3,1)]) zKr (.cons' (o':=1) zKr (Xx N) (.cons' (o':=2) zKr (Zp N) (.nil 2))) zKr).map
  (fun x=>(⟨x.1,x.2.1⟩:Sc)) (fun _=>rfl) (fun x h=>trivial)).le zOm
end DM
namespace HX
open Go.EvW DM GB
instance:Inhabited Bd:=⟨⟨default,default⟩⟩
instance:Inhabited Ed:=⟨⟨0,0,0,0⟩⟩
theorem qc1:qb.underlying 31=some (.slice 42):=by kernel_rfl
theorem qpM(N):ShU qb N 42 cBd (fun _=>True):=
 ((ShU.struct (fs:=[(40,0),(40,2)]) zKr (.cons' (o':=2) zKr (qc0 N) (.cons' (o':=4) zKr (qc0 N) (.nil 4))) zKr).map
  (fun x=>(⟨x.1,x.2.1⟩:Bd)) (fun _=>rfl) (fun x h=>trivial)).le zOm
theorem qpN(N):ShU qb N 31 (fun b:List Bd=>[lBd b]) (fun _=>True):=
 ((ShU.slice qc1 (qpM N) (fun _ _=>zKr) (Nat.lt_of_lt_of_eq (show 0<4 by omega) zKr) zKr).le zOm).map (fun l=>l) (fun _=>rfl) fun _ _=>trivial
theorem qpO:vo qb 31 lBd (fun _=>True):=vo.slice qc1 qpN
end HX
namespace DP
open Go.EvW DM
theorem qpP:vo qb 30 (fun s:Sc=>eSc s) (fun _=>True):=vo.struct zKr qpL
end DP
end Go.Proofs.YtlnbdknjkmmgbaaGreatDoor
