/-
  Own library, part 8: an abstract reading of values and a calculus over it; contracts of functions; plain lemmas.
-/
import Derived.Test.YthflbhjlkgdafaaGreatDoorMg
set_option linter.unusedVariables false
set_option linter.unusedSimpArgs false
set_option maxRecDepth 100000
set_option maxHeartbeats 1000000
open Go renaming Program->qc,FuncId->j1,undef->uk,Oper->va,Operand->yj,Value->yc
open Go.Proofs.Tryz renaming prog->qd
open List renaming getElem?_eq_some_iff->qj,mem_map->qn,range->qr,getElem_mem->qv,getElem?_eq_getElem->qw,mem_cons->qx,getElem?_set_self->qH,getElem?_append_left->qI,mem_append->qJ,replicate->qM,not_mem_nil->qN,mem_singleton->qQ,mem_cons_of_mem->qU,all_eq_true->qY,take_length->q8,map_cons->zd,drop_eq_getElem_cons->ze,length_append->zf,map_append->zh,mem_cons_self->zj,getD_eq_getElem?_getD->zr,length_map->zX,drop_length->zY,getElem?_set_ne->z7,length_cons->yp,mem_filter->jM,getElem?_cons_succ->vK,take_succ_eq_append_getElem->uV,drop_eq_nil_of_le->Wp
open Nat renaming le_refl->qk,le_of_ble_eq_true->j0
open Go.IntKind renaming i64->qm
open Bool renaming and_eq_true->qB
namespace Go.Ev
theorem awp.cut{P pl l j g C i Q st}(J)
  (h:awp P pl l (seqQ (awp P pl j (seqQ (Keep J .mk) (vU i (seqQ (awp P pl C Q) Q)))) Q) st)
  (o:∀ st,J st->awp P pl g (vU i (seqQ (awp P pl C Q) Q)) st):awp P pl (.seq l (.seq (.block i (.seq j g)) C)) Q st:=by
 refine awp.mono l (Q:=seqQ (awp P pl j (seqQ (Keep J .mk) (vU i (seqQ (awp P pl C Q) Q)))) Q) h (fun e st h=>?_);cases e with
 |normal =>
  refine awp.mono j (Q:=seqQ (Keep J .mk) (vU i (seqQ (awp P pl C Q) Q))) h (fun e st h=>?_);cases e with
  |normal=>exact o st h
  |exit i=>exact h
  |ret=>exact h
  |pan v=>exact h
 |exit i=>exact h
 |ret=>exact h
 |pan v=>exact h
theorem qqN{K:St->Prop}(J){st}(h:FzQ (fun _=>J) (.exit 0) st)(k:∀ st2,J st2->K st2):FzQ (fun _ st=>K st) (.exit 0) st:=by
 obtain⟨g,f,q,j⟩:=h;exact⟨g,f,q,k _ j⟩
end Go.Ev
namespace Go.Proofs.YthflbhjlkgdafaaGreatDoor
open Go Go.Ev Go.Proofs Tryz
namespace RA
open YF Y9 Y10 Y1 YX YA YB YC P1 P2 PA QD QE QK QX QY QZ
section
variable {av:AV}{es:List (dA×Bool)}{l:List dA}
theorem four{C:Type}{l}{a b c d:C}(g:l[0]?=some a)(i:l[1]?=some b)(j:l[2]?=some c)(o:l[3]?=some d):∃ r,l=a :: b :: c :: d :: r:=by
 match l,g,i,j,o with
 |_ :: _ :: _ :: _ :: r,g,i,j,o =>
  grind
def resK(n:Nd)(g:List Nd)(z:Int):Except ISt ((dA×List Nd×Int)×ISt)->XO
 | .error s=>(s,nd0,0)
 | .ok ((nm,ks,m),s)=>(s,.mk n.op nm n.n (g++ks) n.pos,z+m)
structure AtK (ts:TS) (l:List dA) (es:List (dA×Bool)) (n:Nd) (body:Bool) (s:ISt) (k:Nat) (sc2:List Sb) (env2:IEnv) (nm2:dA) (s3:ISt) (acc:List Nd) (av:AV) (z:Int) (st:St):Prop where
 e3:st.tm 3=aB body
 e4:st.tm 4 = .ptr 0 0
 e6:st.tm 6 = .ip (cNd n)
 e8:st.tm 8 = .ptr 1 0
 e9:st.tm 9 = .ptr 2 0
 e11:st.tm 11 = .ptr 3 0
 e12:st.tm 12=aI z
 e13:st.tm 13=aI k
 m0:st.mu[0]?=some (.arr (cWk ts l s3))
 m1:st.mu[1]?=some (.arr zWc)
 m2:st.mu[2]?=some (.arr [aI 0,aS ⟨#[]⟩,aI 0,.lst true [],aI 0])
 m3:st.mu[3]?=some (.arr [aI n.op,aS nm2,aI n.n,av,aI n.pos])
 ho:OwnF 4 st.mu 5 av (acc.map cNd)
 so:ScOf ts body sc2 env2
 en:zU env2
 al:acc.length=k
 l0:0<=s3.last
 c0:s.sM+1<=s3.sM
 c1:s3.sM<=4000
 z1:0<=z
 z2:z<=1+4000*(k:Int)
theorem AtK.same{ts n body s k j i o J p z st g}(A:AtK ts l es n body s k j i o J p av z st)
  (P:g.tm 3=aB body) (R:g.tm 4 = .ptr 0 0) (T:g.tm 6 = .ip (cNd n)) (U:g.tm 8 = .ptr 1 0) (e9:g.tm 9 = .ptr 2 0) (t:g.tm 11 = .ptr 3 0) (C:g.tm 12=aI z) (I:g.tm 13=aI k) (em:g.mu=st.mu):AtK ts l es n body s k j i o J p av z g:=
 ⟨P,R,T,U,e9,t,C,I,by rw[em];exact A.m0,by rw[em];exact A.m1,by rw[em];exact A.m2,by rw[em];exact A.m3,by rw[em];exact A.ho,A.so,A.en,A.al,A.l0,A.c0,A.c1,A.z1,A.z2⟩
theorem qeD{g lo sz mu mu' xs}(h:OwnF g mu sz av xs)(i:∀ b s o q,av = .sl b s o q->b<lo)(p:g<=mu'.length)(t:∀ j,g<=j->j<lo->mu'[j]?=mu[j]?):OwnF g mu' sz av xs:=by
 obtain⟨C,l,_⟩:=h;refine⟨?_,l,p⟩;rcases C with rfl|⟨b,rfl,I⟩
 .exact .inl rfl
 .exact .inr ⟨b,rfl,by rw[t b (l b _ _ _ rfl) (i b _ _ _ rfl)];exact I⟩
theorem AtK.keep{ts n body s k p i t U C z st g}(A:AtK ts l es n body s k p i t U C av z st)
  (e3:g.tm 3=aB body) (e4:g.tm 4 = .ptr 0 0) (e6:g.tm 6 = .ip (cNd n)) (e8:g.tm 8 = .ptr 1 0) (e9:g.tm 9 = .ptr 2 0) (J:g.tm 11 = .ptr 3 0) (P:g.tm 12=aI z) (R:g.tm 13=aI k) (lo) (h4:4<=lo) (T:∀ b s o q,av = .sl b s o q->b<lo) (hl:4<=g.mu.length) (I:∀ j,j<lo->g.mu[j]?=st.mu[j]?):AtK ts l es n body s k p i t U C av z g:=
 ⟨e3,e4,e6,e8,e9,J,P,R,by rw[I 0 zOm];exact A.m0,by rw[I 1 zOm];exact A.m1,by rw[I 2 zOm];exact A.m2,by rw[I 3 zOm];exact A.m3,qeD A.ho T hl (fun j _=>I j),A.so,A.en,A.al,A.l0,A.c0,A.c1,A.z1,A.z2⟩
theorem qqO{mu lo s x}{xs ys:List Sb}{K}(g:OwnF lo mu 9 s (xs.map cSb))(j:qy mu x=some (ys.map cSb))(p:xs.length+ys.length<=100000)(l:∀ av mu',OwnF lo mu' 9 av ((xs++ys).map cSb)->(∀ i,i<lo->mu'[i]?=mu[i]?)->K av mu') :
  qu qd mu #[274,274] s x K:=by
 refine qu.ownF (lo:=lo) (e:=281) (sz:=9) (bt:=112) (zv := .agg [aS ⟨#[]⟩,aS ⟨#[]⟩,aB false,aI 0,aS ⟨#[]⟩,aI 0,.lst true [],aI 0,aI 0]) (xs:=xs.map cSb) (ys:=ys.map cSb) zSi zSi zSi rfl rfl zOm zOm g j (Jk xs) (Jk ys) zSo ?_;intro av mu' h o;exact l av mu' (by rw[zh];exact h) o
theorem expK(ts)(h:okTS ts)(l es)(t:Tn l es)(hl:l.length<=400000)(hF:qE ts es<=200000)(b4:Free ts es)(hb:∀ p,p∈ts.sT->WfN p.body/\vq ts p.body)(f)(ih:∀ env sc n body s,Pre ts es f env sc n body s->ExpW ts l es f sc n body s)
  (env) (sc) (n) (body) (s) (p:Pre ts es (f+1) env sc n body s) (hc:s.sM+1<=4000) (h1:¬n.op=1) (h47:¬n.op=47):ExpW ts l es (f+1) sc n body s:=by
 have dh:=p.st.c0;have di:=p.st.c1;have dj:=p.wf.len;obtain⟨E',hE⟩:∃ E':List Sb->Nd->ISt->XO,E'=fun sc k s=>expR ts es f sc k body s:=⟨_,rfl⟩
 obtain⟨R',bg⟩:∃ R':List Sb->dA->ISt->(List Sb×dA)×ISt,R'=fun sc nm s=>renR ts es sc nm body s:=⟨_,rfl⟩
 have bh:∀ k,k∈n.sD->∀ P I sk,StOk (qE ts es) sk->s.sM+1<=sk.sM->zU P->ScOf ts body I P->(I.length:Int)<=sk.sM+8->qh qd 156 [eWk ts l sk,lSb I,eNd k,aB body] (eXO ts l (E' I k sk)):=fun k hk P I sk b5 ch b6 bi bj=>by
  rw[hE];exact ih P I k body sk ⟨zW1 p.fu,b5,b6,p.wf.kid hk,p.cl.kid hk,bi,bj⟩
 have bk:∀ k,k∈n.sD->∀ P I sk,StOk (qE ts es) sk->s.sM+1<=sk.sM->zU P->ScOf ts body I P->4000<(E' I k sk).1.sM\/(¬ 4000<(E' I k sk).1.sM/\Gos (qE ts es) sk (E' I k sk).1 (E' I k sk).2.2):=fun k hk P I sk b5 ch b6 bi=>by
  have ho:=Jj ts es b4 hb f P I k body sk (zW1 p.fu) b5 b6 (p.wf.kid hk) (p.cl.kid hk) bi;have cj:E' I k sk=expR ts es f I k body sk:=by rw[hE]
  rw[cj];cases hx:expI ts es f P k body sk with
  |error d=>rw[hx]at ho;exact .inl ho.1
  |ok r =>
   obtain⟨⟨m,y⟩,t⟩:=r;rw[hx]at ho;obtain⟨e1,e2,e3⟩:=ho;have g:=Zo ts b4 f b5 b6 hx;rw[e2,e3];exact .inr ⟨zW1 g.c1,g⟩
 obtain⟨ax,b9⟩:∃ ax,ax=resK n [] 1 (ux E' R' (binB n.op) 0 sc n.name n.sD (payS 1 s)):=⟨_,rfl⟩;have bb:expR ts es (f+1) sc n body s=ax:=by
  simp only[expR];rw[if_pos hc,if_neg h1,if_neg h47,b9,hE,bg];cases ux (fun sc k s=>expR ts es f sc k body s) (fun sc nm s=>renR ts es sc nm body s) (binB n.op) 0 sc n.name n.sD (payS 1 s) with
  |error e=>rfl
  |ok r=>rfl
 unfold ExpW;rw[bb];clear hE bb ih;have bc:StOk (qE ts es) (payS 1 s):=(Y0 p.st zOm hc).ok p.st;have w1:qm.wrap (s.sM+1)=s.sM+1:=zWr;have bj:¬ 4000<s.sM+1:=zOm;have ck:=jc n;refine qSQ call156 func156 rfl { mt:=[4] } ?_;simp[go_sem,w1,bj,h1,h47,ck];refine aP n.sD.length (fun k U=>∃(full:Bool) (I:List Sb) (P:IEnv) (a9:dA) (s2:ISt) (ad:List Nd) (av:AV) (z:Int),U.tm 1 = .lst full (I.map cSb)/\AtK ts l es n body s k I P a9 s2 ad av z U/\(I.length:Int)+(if k<=1 then 1 else 0)<=s2.sM+8/\dueN (qE ts es) (binB n.op) k<=pot (qE ts es) s2/\(k<=1->a9=n.name)/\resK n ad z (ux E' R' (binB n.op) k I a9 (n.sD.drop k) s2)=ax) ?_ ?_
 .refine ⟨false,sc,env,n.name,payS 1 s,[],.lst true [],1,zSi,⟨zSi,zSi,by simp[go_sem,jc n],zSi,zSi,zSi,zSi,zSi,by simp[go_sem];exact⟨rfl,rfl⟩,zSi,zSi,zSi,by simp[go_sem];exact OwnF.nil zSp,p.so,p.en,rfl,bc.l0,by show _<=s.sM+1;omega,bc.c1,zOm,zOm⟩,by show _<=s.sM+1+8;have:=p.le;simp;omega,?_,fun _=>rfl,b9.symm⟩
  rw[J9];have:=p.st.p;unfold dueN;split<;>omega
 .rintro k U hk ⟨full,I,P,a9,s2,ad,av,z,J,A,af,an,b7,hI⟩
  obtain⟨rr,T⟩:=four A.m0 A.m1 A.m2 A.m3;have e3:=A.e3;have e4:=A.e4;have e6:=A.e6;have e8:=A.e8;have e9:=A.e9;have a0:=A.e11;have a5:=A.e12;have a6:=A.e13;have ai:=A.ho.one;have aj:=A.ho.cells;by_cases a7:k<n.sD.length
  .have w2:=zWk k
   rw[ze a7]at hI;simp only[ux]at hI;refine awp.cut (fun U=>∃(full:Bool) (lo:Nat) (sl:AV) (ab:List Sb) (ag:IEnv) (ar:dA) (s3:ISt) (av:AV),(if binB n.op=true/\k=1 then R' I a9 s2 else ((I,a9),s2))=((ab,ar),s3)/\U.tm 1=sl/\(sl = .lst full (ab.map cSb)\/(OwnF lo U.mu 9 sl (ab.map cSb)/\(∀ b s o q,av = .sl b s o q->b<lo)/\4<=lo))/\AtK ts l es n body s k ab ag ar s3 ad av z U/\(ab.length:Int)+(if k+1<=1 then 1 else 0)<=s3.sM+8/\dueN (qE ts es) (binB n.op) (k+1)<=pot (qE ts es) s3/\(k+1<=1->ar=n.name)) ?_ ?_
   .clear bh bk
    by_cases aq:k=1
    .subst aq
     have be:=b7 (qk _);have de:U.mu.length=rr.length+4:=by rw[T];rfl
     have az:∀ b s o q,av = .sl b s o q->b<rr.length+4:=fun b s o q e=>by
      rcases A.ho.1 with h|⟨c,h,hc⟩
      .rw [h]at e;cases e
      .rw [h]at e;cases e;have:=(qj.1 hc).1;omega
     have aa:(1:Int)<n.sD.length:=zOm;have cm:=A.c0;have b8:=A.l0;have cp:=A.c1;by_cases ak:binB n.op=true
     .have a8:n.op=15\/n.op=45\/n.op=46:=by simpa[binB,or_assoc] using ak
      have dk:=h.ns;have dm:=h.nf;have dn:qE ts es<=l.length+40:=by have:=t.len;unfold qE;omega
      have cq:okNm ts:=⟨h.sl,zOm,zOm,fun f hf=>zW1 (h.fl f hf)⟩;have cn:=kh ts cq n.name;have aw:=kg ts n.name;have cr:(named ts n.name).2=(zM ts n.name).length:=by rw[kC h]
      rw[cr]at cn;generalize (named ts n.name).1=C at *
      have bt:StOk (qE ts es) s2:=⟨b8,zOm,cp,zW1 (UP (qE ts es) (binB n.op) 1)⟩;have cs:=bt.last;have cf:=qqF ts h l es t hl s2 ⟨b8,zOm⟩ (b4 s2.last b8);by_cases ae:body=true\/zM ts n.name≠[]
      .have hq:(if binB n.op=true/\1=1 then R' I a9 s2 else ((I,a9),s2))=((I++[(n.name,⟨none,0,vN (yv ts es (qE ts es) s2.last)⟩)],vN (yv ts es (qE ts es) s2.last)),⟨yv ts es (qE ts es) s2.last,s2.sM⟩):=by
        rw[if_pos ⟨ak,rfl⟩,bg,be];show renR ts es I n.name body s2=_;unfold renR;rw[if_pos ae]
       have ct:body=true\/(body=false/\0<(zM ts n.name).length):=by
        cases body with
        |true=>exact .inl rfl
        |false=>exact .inr ⟨rfl,List.length_pos_iff.2 (ae.resolve_left zSp)⟩
       clear hI;have bu:renR ts es I n.name body s2=((I++[(n.name,⟨none,0,vN (yv ts es (qE ts es) s2.last)⟩)],vN (yv ts es (qE ts es) s2.last)),⟨yv ts es (qE ts es) s2.last,s2.sM⟩):=by
        unfold renR;rw[if_pos ae]
       obtain⟨a1,a2,a3⟩:=qd9 (es:=es) (nm:=n.name) (s:=s2) A.en A.so;have a4:=Kw (ts:=ts) (es:=es) (nm:=n.name) (body:=body) (s:=s2) A.en;obtain⟨b1,b2,b3⟩:=Kx (body:=body) (nm:=n.name) (env:=P) b4 b8;rw[bu]at a1 a3;rw[<-a3]at b1 b2;simp only at b1 b2 a1;have bl:dueN (qE ts es) (binB n.op) 1=(qE ts es:Int):=by unfold dueN;rw[if_pos ⟨ak,zOm⟩]
       have bm:dueN (qE ts es) (binB n.op) 2=0:=by unfold dueN;rw[zIn]
       rw[bl]at an;unfold pot at an;generalize (renI ts es P n.name body s2).1.1=ag at *
       clear a2 a3 b3;generalize dp:yv ts es (qE ts es) s2.last=R at *
       rcases a8 with a8|a8|a8<;>rcases ct with au|⟨au,cu⟩
       all_goals
        simp[go_sem,e3,e4,e6,e8,e9,a0,a5,a6,J,T,a7,aa,a8,qW];refine t7 cn (.zk (zA ts) (.zs .nil)) ?_;simp[go_sem,e3,e4,e6,e8,e9,a0,a5,a6,J,T,a7,aa,a8,qW,aw.len];rw[if_pos aw.one];generalize putCells _ 0 C=PC
        first
        |simp[go_sem,e3,e4,e6,e8,e9,a0,a5,a6,J,T,a7,aa,a8,qW,au,cu]
        |simp[go_sem,e3,e4,e6,e8,e9,a0,a5,a6,J,T,a7,aa,a8,qW,au]
        refine t7 cf (.zk (wK ts l s2) .nil) ?_;simp[go_sem,e3,e4,e6,e8,e9,a0,a5,a6,J,T,a7,aa,a8,qW,au];refine qi.move 2 2 zKr zKr ?_ ?_
        all_goals
         simp[go_sem,e3,e4,e6,e8,e9,a0,a5,a6,J,T,a7,aa,a8,qW,au];refine qqO (lo:=rr.length+6) (xs:=[]) (ys:=I) (OwnF.nil zSp) (by simp[qy]) (by simp at af⊢;omega) ?_;intro dq dr cv aq;simp[go_sem,e3,e4,e6,e8,e9,a0,a5,a6,J,T,a7,aa,a8,qW,au];refine qeC (y:=(n.name,⟨none,0,vN R⟩)) cv (by simp at af⊢;omega) ?_;intro cw ds ay ah;have n0:=(ah 0 zOm).trans (aq 0 zOm);have n1:=(ah 1 zOm).trans (aq 1 zOm);have n2:=(ah 2 zOm).trans (aq 2 zOm);have n3:=(ah 3 zOm).trans (aq 3 zOm);simp at n0 n1 n2 n3;simp[go_sem,e3,e4,e6,e8,e9,a0,a5,a6,J,a7,aa,a8,qW,au];refine aM ⟨false,rr.length+6,cw,I++[(n.name,⟨none,0,vN R⟩)],ag,vN R,⟨R,s2.sM⟩,av,hq,zSi,.inr ⟨zVs ay,?_,zOm⟩,⟨zS2 e3 au,zS1 e4,zS1 e6,zS1 e8,zS1 e9,zS1 a0,zS1 a5,zS1 a6,by simp[go_sem,n0],zS1 n1,zS1 n2,zS2 n3 a8,?_,a1,a4,A.al,b1,A.c0,A.c1,A.z1,A.z2⟩,?_,?_,fun h=>zOm⟩
         .intro b s o q e;have:=az b s o q e;omega
         .simp only[qK]
          refine qeD A.ho az (zW1 ay.2.2) fun j h4 hj=>?_
          obtain⟨i,rfl⟩:∃ i,j=i+4:=⟨j-4,zOm⟩;rw[ah _ zOm,aq _ zOm,T];simp only[vK];rw[zGa]
         .simp at af⊢;omega
         .rw [bm];unfold pot;simp only;omega
      .have bv:body=false:=by cases body with
        |true=>exact absurd (.inl rfl) ae
        |false=>rfl
       have cx:zM ts n.name=[]:=Classical.byContradiction fun x=>ae (.inr x)
       have hq:(if binB n.op=true/\1=1 then R' I a9 s2 else ((I,a9),s2))=((I,a9),s2):=by
        rw[if_pos ⟨ak,rfl⟩,bg,be];show renR ts es I n.name body s2=_;unfold renR;rw[if_neg ae]
       rcases a8 with a8|a8|a8
       all_goals
        simp[go_sem,e3,e4,e6,e8,e9,a0,a5,a6,J,T,a7,aa,a8,qW];refine t7 cn (.zk (zA ts) (.zs .nil)) ?_;simp[go_sem,e3,e4,e6,e8,e9,a0,a5,a6,J,T,a7,aa,a8,qW,aw.len];rw[if_pos aw.one];generalize putCells _ 0 C=PC;simp[go_sem,e3,e4,e6,e8,e9,a0,a5,a6,J,T,a7,aa,a8,qW,bv,cx];refine aM ⟨full,rr.length+5,.lst full (I.map cSb),I,P,a9,s2,av,hq,zS1 J,.inl rfl,A.keep (zS2 e3 bv) (zS1 e4) (zS1 e6) (zS1 e8) (zS1 e9) (zS1 a0) (zS1 a5) (zS1 a6) (rr.length+4) zOm ?_ zSi (fun j hj=>?_),?_,?_,fun h=>zOm⟩
        .exact az
        .simp only[qK]
         rw[T]
         match j,hj with
         | 0,_=>rfl
         | 1,_=>rfl
         | 2,_=>rfl
         | 3,_=>simp[a8]
         |i+4,hj =>
          simp only[vK];rw[zGa]
        .simp at af⊢;omega
        .have bl:dueN (qE ts es) (binB n.op) 1=(qE ts es:Int):=by unfold dueN;rw[if_pos ⟨ak,zOm⟩]
         have bm:dueN (qE ts es) (binB n.op) 2=0:=by unfold dueN;rw[zIn]
         rw[bl]at an;rw[bm];omega
     .have bw:¬n.op=15:=fun e=>ak (by simp[binB,e])
      have ca:¬n.op=45:=fun e=>ak (by simp[binB,e])
      have cb:¬n.op=46:=fun e=>ak (by simp[binB,e])
      simp[go_sem,e3,e4,e6,e8,e9,a0,a5,a6,J,T,a7,aa,bw,ca,cb,qW];refine aM ⟨full,4,.lst full (I.map cSb),I,P,a9,s2,av,by rw[if_neg (fun x=>ak x.1)],zS1 J,.inl rfl,A.same (zS1 e3) (zS1 e4) (zS1 e6) (zS1 e8) (zS1 e9) (zS1 a0) (zS1 a5) (zS1 a6) (zS1 T),?_,?_,fun h=>zOm⟩
      .simp at af⊢;omega
      .rw [<-qb0 (fun x=>ak x.1)];exact an
    .have cc:¬(k:Int)=1:=by omega
     simp[go_sem,e3,e4,e6,e8,e9,a0,a5,a6,J,T,a7,cc,qW];refine aM ⟨full,4,.lst full (I.map cSb),I,P,a9,s2,av,by rw[if_neg (fun x=>aq x.2)],zS1 J,.inl rfl,A.same (zS1 e3) (zS1 e4) (zS1 e6) (zS1 e8) (zS1 e9) (zS1 a0) (zS1 a5) (zS1 a6) (zS1 T),?_,?_,fun h=>b7 zOm⟩
     .split at af<;>split<;>omega
     .rw [<-qb0 (fun x=>aq x.2)];exact an
   .rintro U ⟨full,lo,sl,ab,ag,ar,s3,av,hq,J,bn,A,af,an,b7⟩
    rw[hq]at hI;simp only at hI;have b0:StOk (qE ts es) s3:=⟨A.l0,zW1 A.c0,A.c1,zW1 (UP (qE ts es) (binB n.op) (k+1))⟩;have bo:(ab.length:Int)<=s3.sM+8:=by split at af<;>omega
    have x1:=bh n.sD[k] (qv a7) ag ab s3 b0 A.c0 A.en A.so bo;have x2:=bk n.sD[k] (qv a7) ag ab s3 b0 A.c0 A.en A.so;generalize E' ab n.sD[k] s3=q at *
    clear bh bk;rw[qh1,qh2];refine qi.fz (qqN (fun U=>∃ full,U.tm 1 = .lst full (ab.map cSb)/\AtK ts l es n body s k ab ag ar s3 ad av z U) ?_ ?_)
    .rcases bn with bn|⟨cy,az,h4⟩
     .exact FzQ.skip ⟨full,by rw[J,bn],A⟩
     .refine FzQ.own (d:=1) J cy (Jk ab) (fun r hr c hc=>by obtain⟨x,_,rfl⟩:=qn.1 hr;exact Wf x c hc) ?_
      intro da bq dt ah;refine⟨bq,zSi,A.keep (by simp[go_sem,A.e3]) (by simp[go_sem,A.e4]) (by simp[go_sem,A.e6]) (by simp[go_sem,A.e8]) (by simp[go_sem,A.e9]) (by simp[go_sem,A.e11]) (by simp[go_sem,A.e12]) (by simp[go_sem,A.e13]) lo h4 az ?_ ?_⟩
      .have:=A.ho.2.2;simp only[qK];omega
      .intro j hj;simp only[qK];exact ah j hj
    rintro U ⟨full,J,A⟩;obtain⟨rr,T⟩:=four A.m0 A.m1 A.m2 A.m3;have e3:=A.e3;have e4:=A.e4;have e6:=A.e6;have e8:=A.e8;have e9:=A.e9;have a0:=A.e11;have a5:=A.e12;have a6:=A.e13;have ai:=A.ho.one;have aj:=A.ho.cells;refine fG [0,1,2,3,4,5,6,7,8,9,10,11,12,17,13,14,15,16] [(0,0,[]),(1,0,[]),(2,0,[]),(3,0,[]),(4,0,[]),(5,0,[]),(6,0,[]),(7,0,[]),(8,1,[]),(9,0,[]),(10,0,[]),(11,0,[]),(12,0,[]),(17,0,[]),(13,2,[0,3,6]),(14,2,[0,3,6]),(15,1,[]),(16,1,[])] zKr zKr zSi ?_;simp[go_sem,e3,e4,e6,e8,e9,a0,a5,a6,J,T,a7,qW,ai,aj];refine t7 x1 (.zk (wK ts l s3) (.cons (WK.lst fun r hr c hc=>by
     obtain⟨x,_,rfl⟩:=qn.1 hr;exact Wf x c hc) (.zk (qC _) (.zs .nil)))) ?_
    simp[go_sem,e3,e4,e6,e8,e9,a0,a5,a6,J,T,a7,qW,ai,aj];by_cases ao:4000<q.1.sM
    .rw [if_pos ao]at hI
     have hI:ax=(q.1,nd0,0):=hI.symm;simp[go_sem,e3,e4,e6,e8,e9,a0,a5,a6,J,T,a7,qW,ai,aj,ao];rw[hI];exact rdZ ts l q.1
    .rcases x2 with x2|⟨_,g⟩
     .exact absurd x2 ao
     rw[if_neg ao]at hI;simp[go_sem,e3,e4,e6,e8,e9,a0,a5,a6,J,T,a7,qW,ai,aj,ao];obtain⟨g1,g2,g3⟩:=We g b0;have gz:=g.z0;have du:=g.cz;have db:=g.c1;have gp:=g.p;have dv:=A.z1;have dw:=A.z2;have cm:=A.c0;have dc:=A.al;have df:=A.ho.2.2;refine YD.appNd (lo:=4) (xs:=ad) ?_ zOm ?_
     .have h1:OwnF 4 (U.mu++[Cell.arr (cWk ts l q.1),Cell.arr (cNd q.2.1)]) 5 av (ad.map cNd):=YD.qb2 A.ho zSo fun i _ hi=>qI hi
      rw[T]at h1;have h2:=OwnF.set (i:=0) (c:=Cell.arr (cWk ts l q.1)) h1 zOm;simpa using h2
     intro cd da ay ah;have n0:=ah 0 zOm;have n1:=ah 1 zOm;have n2:=ah 2 zOm;have n3:=ah 3 zOm;simp at n0 n1 n2 n3;obtain⟨r2,cg⟩:=four n0 n1 n2 n3;have br:=ay.one;have bs:=ay.cells;have w3:qm.wrap (z+q.2.2)=z+q.2.2:=zWr;simp[go_sem,e3,e4,e6,e8,e9,a0,a5,a6,J,cg,a7,qW,br,bs,ao,w2,w3];refine aM ⟨full,ab,ag,ar,q.1,ad++[q.2.1],cd,z+q.2.2,zS1 J,⟨zS1 e3,zS1 e4,zS1 e6,zS1 e8,zS1 e9,zS1 a0,zSi,zSi,zSi,zSi,zSi,zSi,?_,A.so,A.en,zP1 dc,g1.l0,zOm,db,zOm,zOm⟩,zOm,zOm,b7,?_⟩
     .have h2:=OwnF.set (i:=3) (c:=Cell.arr [aI n.op,aS ar,aI n.n,cd,aI n.pos]) ay zOm
      rw[cg]at h2;simpa[go_sem] using h2
     .rw [<-hI]
      generalize ux E' R' (binB n.op) (k+1) ab ar (List.drop (k+1) n.sD) q.1=X;cases X with
      |error e=>rfl
      |ok r =>
       obtain⟨⟨a,b,c⟩,d⟩:=r;simp[resK];omega
  .simp [go_sem,e3,e4,e6,e8,e9,a0,a5,a6,J,T,a7,qW,ai,aj]
   refine fG [0,1,2,5,3,4] [(0,0,[]),(1,0,[]),(2,0,[]),(5,0,[]),(3,1,[1]),(4,1,[])] zKr zKr zSi ?_;simp[go_sem,e3,e4,e6,e8,e9,a0,a5,a6,J,T,a7,qW,ai,aj];rw[Wp zOm]at hI;have hI:ax=(s2,.mk n.op a9 n.n ad n.pos,z):=by rw[<-hI];simp[ux,resK]
   rw[hI];refine .tup _ _ rfl fun k x y hx hy=>?_
   match k,hx,hy with
   | 0,hx,hy=>cases hx;cases hy;exact .hf _ (wK ts l s2)
   | 1,hx,hy =>
    cases hx;cases hy;have dd:eNd (.mk n.op a9 n.n ad n.pos) = .agg [aI n.op,aS a9,aI n.n,.lst false (ad.map cNd),aI n.pos]:=by
     show AV.agg (cNd _)=_;rw[jc];rfl
    show Rd _ _ (eNd (.mk n.op a9 n.n ad n.pos));rw[dd];refine .agg _ _ rfl fun k x y hx hy=>?_
    match k,hx,hy with
    | 0,hx,hy=>cases hx;cases hy;exact .zsc _
    | 1,hx,hy=>cases hx;cases hy;exact .zsc _
    | 2,hx,hy=>cases hx;cases hy;exact .zsc _
    | 3,hx,hy =>
     cases hx;cases hy;have h1:=OwnF.set (i:=1) (c:=Cell.arr (cWk ts l s2)) A.ho zOm;have h2:=OwnF.set (i:=2) (c:=Cell.arr [aI n.op,aS a9,aI n.n,av,aI n.pos]) h1 zOm;rw[T]at h2;exact h2.1.rd (YD.Ky ad).ok fun r hr c hc=>by
      obtain⟨x,_,rfl⟩:=qn.1 hr;exact jE x c hc
    | 4,hx,hy=>cases hx;cases hy;exact .zsc _
    |k+5,hx,hy=>cases hx
   | 2,hx,hy=>cases hx;cases hy;exact .zsc _
   |k+3,hx,hy=>cases hx
end
end RA
namespace RB
open YF Y9 Y1 YX YZ YB YC YE YG YH P1 P2 Q4 Q6 PF QE QT QW QX QY QZ RA
theorem qeE(l):∀ es nm,getK nm (putN es l)=some true↔(getK nm es=some true\/∃ x,x∈l/\x.name=nm):=by
 induction l with
 |nil=>intro es nm;exact⟨fun h => .inl h,fun h=>h.elim id fun⟨x,g,_⟩=>absurd g qN⟩
 |cons a l i =>
  intro es nm;have e:putN es (a :: l)=putN (setK a.name true es) l:=rfl;rw[e,i,vZ];by_cases e:nm=a.name
  .grind
  .rw [if_neg e]
   constructor
   .grind
   .rintro (h|⟨x,g,j⟩)
    .exact .inl h
    .rcases qx.1 g with rfl|g
     .grind
     grind
theorem qqP(l:List Pd):∀ es nm,getK nm (l.foldl (fun es p=>putN es (preN p.body)) es)=some true↔(getK nm es=some true\/∃ p,p∈l/\∃ x,x∈preN p.body/\x.name=nm):=by
 induction l with
 |nil=>simp
 |cons a l i =>
  intro es nm;rw[List.foldl_cons,i,qeE];constructor
  .grind
  .rintro (h|⟨p,g,h⟩)
   .grind
   .rcases qx.1 g with rfl|g
    .grind
    grind
structure Ti (es:List (dA×Bool)):Prop where
 nd:(es.map Prod.fst).Nodup
 tr:∀ e,e∈es->e.2=true
theorem Ti.put(l):∀{es},Ti es->Ti (putN es l):=by
 induction l with
 |nil=>intro es h;exact h
 |cons a l i =>
  intro es h;refine i (es:=setK a.name true es) ⟨Ue h.nd,fun e g=>?_⟩;rcases US g with rfl|g
  .rfl
  .exact h.tr e g
theorem tN(l:List Pd):∀{es},Ti es->Ti (l.foldl (fun es p=>putN es (preN p.body)) es):=by
 induction l with
 |nil=>grind
 |cons a l g=>intro es h;exact g (h.put _)
theorem kO{nm}(n)(i:nm≠⟨#[]⟩):nm∈namL n↔∃ x,x∈preN n/\x.name=nm:=by
 unfold namL;rw[qn];constructor
 .rintro ⟨x,g,e⟩
  exact⟨x,(jM.1 g).1,e⟩
 .rintro ⟨x,g,e⟩
  exact⟨x,jM.2 ⟨g,by rw[e];simpa using i⟩,e⟩
theorem takTn(ts n):Tn (takL ts n) (vr ts n):=by
 have i:∀ nm:dA,nm≠⟨#[]⟩->(nm∈takL ts n↔getK nm (vr ts n)=some true):=fun nm o=>by
  unfold takL vr;rw[qqP,qeE,qJ,kO n o,List.mem_flatMap];constructor
  .grind [kO]
  .rintro ((h|h)|⟨p,P,h⟩)
   .cases h
   .exact .inl h
   grind [kO]
 refine⟨i,?_⟩;have g:Ti (vr ts n):=tN _ (Ti.put _ ⟨.nil,fun e t=>absurd t qN⟩);have:=List.Nodup.length_le_of_subset (l₂:=⟨#[]⟩ :: takL ts n) g.nd fun x C=>by
  by_cases e:x=⟨#[]⟩
  .grind
  .refine qU _ ((i x e).2 ?_)
   obtain⟨q,l,rfl⟩:=qn.1 C;have I:=g.tr q l;have J:=(ZI g.nd (k:=q.1) (v:=q.2)).2 l;rw[J,I]
 grind
theorem qeF(ts)(h:okTS ts)(l es)(t:Tn l es)(J:l.length<=400000)(P:qE ts es<=200000)(g:Free ts es)(j:∀ p,p∈ts.sT->WfN p.body/\vq ts p.body):∀ f env sc n body s,Pre ts es f env sc n body s->ExpW ts l es f sc n body s
 | 0,env,sc,n,body,s,p=>zW2 p.fu p.st.c1
 |f+1,env,sc,n,body,s,p=>by
  have R:=qeF ts h l es t J P g j f;by_cases o:s.sM+1<=4000
  case neg=>grind [expZ]
  by_cases T:n.op=1
  .grind [expN]
  by_cases h47:n.op=47
  .obtain ⟨C,I,i⟩:=p.cl n (Kv n) h47
   have U:(payS 1 s).sM=s.sM+1:=rfl;exact expC ts l es f env sc n body s p o h47 C I (replW ts h l es g j f R env sc n body (payS 1 s) ⟨zW1 p.fu,(Y0 p.st zOm o).ok p.st,p.en,p.wf,p.cl,p.so,zW1 p.le⟩ h47 C I i)
  grind [expK]
theorem inlRU(ts)(h:okTS ts)(hv:∀ p,p∈ts.sT->zT p.body=true)(hb:∀ p,p∈ts.sT->WfN p.body/\vq ts p.body)(n)(hn:zT n=true)(a7:(jd ts [] n).1=0->vq ts n):qh qd 73 [eTS ts,eNd n] (.tup [eNd (zp ts n).1,aI (zp ts n).2]):=by
 have U:=vj hn;have a8:=Zp.1 hn;have C:∀ p,p∈ts.sT->WfN p.body:=fun p hp=>(hb p hp).1
 have a9:∀ p,p∈ts.sT->(preN p.body).length<=400:=fun p hp=>by grind [Zp,Ve]
 have aa:(preN n).length<=400:=by grind [Ve]
 have hF:=qoB h hv hn;have hT:=takTn ts n;have af:=h.np;have ab:(takL ts n).length<=400000:=by
  have h1:∀ L:List Pd,(∀ p,p∈L->(preN p.body).length<=400)->(L.flatMap fun p=>namL p.body).length<=400*L.length:=by
   intro L;induction L with
   |nil=>intro _;simp
   |cons a L ih =>
    intro hL;have a1:=ih fun p hp=>hL p (qU _ hp)
    have a2:=Wc a.body;have a3:=hL a (zj ..);rw[List.flatMap_cons,zf,yp];omega
  grind [Wc,takL,zf]
 have J:=qnG ts (vr ts n);have P:StOk (qE ts (vr ts n)) ⟨0,0⟩:=⟨zSp,zSp,zSp,by simp[pot]⟩;have cf:=qd0 ts h C [] ⟨zSp,zSp⟩ zSp n U a8.2.2.2;have l:=Ke (szN n) n (qk _) U.small;have ct:=qqA ts h C n U aa a9;have T:WKs [eTS ts,.lst true [],eNd n] [eTS ts,lPm [],eNd n] := .zk (zA ts) (.cons (WK.lst fun r hr=>absurd hr qN) (.zk (qC n) .nil));have ad:WKs [eTS ts,eNd n] [eTS ts,eNd n] := .zk (zA ts) (.zk (qC n) .nil);generalize i:zp ts n=R;unfold zp at i;by_cases j:(jd ts [] n).1=0
 case neg =>
  rw[if_pos j]at i;subst i;refine qSU call73 func73 rfl ?_;refine t7 cf T ?_;simp[go_sem,j];refine fG [0,1,2,4,3] [(0,0,[]),(1,0,[]),(2,0,[]),(4,0,[]),(3,1,[2])] zKr zKr zSi ?_;simp_all[go_sem,Vc]
 rw[if_neg (zUs j)]at i;cases ha:anyN (fun n=>decide (n.op=47)) n with
 |false =>
  rw[ha]at i l;rw[if_pos rfl]at i;subst i;refine qSU call73 func73 rfl ?_;refine t7 cf T ?_;simp[go_sem,j];refine t7 l (.zk (qC n) .nil) ?_;simp[go_sem,j];exact .hf _ (HF.tup fun x hx=>by
   simp only[qx,qN,or_false]at hx;rcases hx with rfl|rfl
   .exact qC n
   .exact HF.sc _)
 |true =>
  rw[ha]at i l;rw[if_neg zSp]at i;have a0:=a7 j;have cx:=qeF ts h (takL ts n) (vr ts n) hT ab hF J hb 4001 [] [] n false ⟨0,0⟩ ⟨zSp,P,.nil,U,a0,⟨fun nm=>rfl,fun _ nm v hv=>(by cases hv),fun e he=>absurd he qN⟩,zSp⟩;have ho:=Jj ts (vr ts n) J hb 4001 [] [] n false ⟨0,0⟩ zSp P .nil U a0 ⟨fun nm=>rfl,fun _ nm v hv=>(by cases hv),fun e he=>absurd he qN⟩;have a4:=fun {n' z s'}=>UT ts C (vr ts n) 4001 (env:=[]) (n:=n) (n':=n') (body:=false) (s:=⟨0,0⟩) (s':=s') (z:=z) (fun e he=>absurd he qN) U
  have a5:=fun {n' z s'}=>Zo ts J 4001 (env:=[]) (n:=n) (n':=n') (body:=false) (s':=s') (z:=z) P .nil
  have a6:=fun {d}=>Vb ts (vr ts n) 4001 (env:=[]) (n:=n) (body:=false) (s:=⟨0,0⟩) (d:=d)
  unfold outI at i;unfold ExpW at cx;generalize expR ts (vr ts n) 4001 [] n false ⟨0,0⟩=q at *
  generalize expI ts (vr ts n) 4001 [] n false ⟨0,0⟩=E at *
  have ae:(4000<q.1.sM/\R=(nd0,2))\/(¬ 4000<q.1.sM/\Small q.2.1/\depN q.2.1<=1000000/\((400<q.2.2/\R=(nd0,2))\/(¬ 400<q.2.2/\24<depN q.2.1/\R=(nd0,2))\/(¬ 400<q.2.2/\¬ 24<depN q.2.1/\R=(q.2.1,0)))):=by
   cases E with
   |error d =>
    have:=a6 rfl;subst this;exact .inl ⟨ho.1,i.symm⟩
   |ok r =>
    obtain⟨⟨m,y⟩,t⟩:=r;obtain⟨o1,o2,o3⟩:=ho;obtain⟨s1,s2⟩:=a4 rfl;have g:=a5 rfl;have gc:=g.c1;have gz:=g.cz;have dl:=qb3 m;rw[o1,o2,o3];have gz:0+y<=t.sM:=gz;refine .inr ⟨zOm,s2,zOm,?_⟩;simp only at i;by_cases z1:y<=400
    .by_cases z2:depN m<=24
     .grind
     grind
    .rw [if_neg (fun x=>z1 x.1)]at i
     grind
  clear i ho a4 a5 a6;refine qSU call73 func73 rfl ?_;refine t7 cf T ?_;simp[go_sem,j];refine t7 l (.zk (qC n) .nil) ?_;simp[go_sem,j];refine fG [0,1,2,5,3,4,6,7,8,9,10,15,11,12,13,14] [(0,0,[]),(1,0,[]),(2,0,[]),(5,0,[]),(3,1,[0,5]),(4,0,[]),(6,1,[]),(7,0,[]),(8,0,[]),(9,0,[]),(10,0,[]),(15,0,[]),(11,2,[0,1,2,5]),(12,2,[0,1,2,5]),(13,1,[]),(14,1,[])] zKr zKr zSi ?_;simp[go_sem,j];refine t7 ct ad ?_;simp[go_sem,j];refine t7 cx ?_ ?_
  .exact .zk (wK ts (takL ts n) ⟨0,0⟩) (.cons (WK.lst fun r hr=>absurd hr qN) (.zk (qC n) (.zs .nil)))
  simp[go_sem,j];have ag:∀ I:Mu,Rd I (.tup [eNd q.2.1,aI 0]) (.tup [eNd q.2.1,aI 0]):=fun I => .hf _ (HF.tup fun x hx=>by
   simp only[qx,qN,or_false]at hx;rcases hx with rfl|rfl
   .exact qC _
   .exact HF.sc _)
  rcases ae with ⟨g1,g2⟩|⟨g1,gs,gd,⟨g2,g3⟩|⟨g2,g3,g4⟩|⟨g2,g3,g4⟩⟩
  .simp_all [go_sem,g1,Vc]
  .rw [g3]
   simp[go_sem,j,g1,g2];exact Vc _ _
  .rw [g4]
   simp[go_sem,j,g1,g2];refine t7 (kL (szN q.2.1) q.2.1 (qk _) gs gd) (.zk (qC _) .nil) ?_;simp_all[go_sem,g1,Vc]
  .rw [g4]
   simp[go_sem,j,g1,g2];refine t7 (kL (szN q.2.1) q.2.1 (qk _) gs gd) (.zk (qC _) .nil) ?_;simp[go_sem, *]
end RB
namespace FF
end FF
namespace IB
open QU P1 P2 Y1 YF Y9 Y10 Y16 YX YB PA YC YE YG Q4 PF RB FE
section
variable {C g:Type}{env:IEnv}{es:List (dA×Bool)}{ts:TS}
structure SpD (ts:TS):Prop where
 h:okTS ts
 wp:∀ p,p∈ts.sT->WfN p.body
 wf:∀ f,f∈ts.sP->WfN f.2
 hv:∀ p,p∈ts.sT->zT p.body=true
 hf:∀ f,f∈ts.sP->zT f.2=true
theorem SpD.chk(S:SpD ts):qh qd 29 [eTS ts] (lDg (uf ts)):=
 qp5 ts S.h S.wp S.wf (fun p g=>(Zp.1 (S.hv p g)).2.2.2) (fun f hf=>(Zp.1 (S.hf f hf)).2.2.2)
theorem qqQ(S:SpD ts)(j:uf ts=[]):∀ p,p∈ts.sT->WfN p.body/\vq ts p.body:=fun p g=>⟨S.wp p g,by
 obtain⟨i,l,rfl⟩:=List.mem_iff_getElem.1 g;obtain⟨_,t,o⟩:=UY (qoA j i l);exact K2 (uo S.h zOm) (szN ts.sT[i].body) _ _ _ _ (qk _) o (S.wp _ g)⟩
theorem callF(S:SpD ts){n}(g:zT n=true)(i:(jd ts [] n).1=0):vq ts n:=by
 obtain⟨_,l,j⟩:=UY i;exact K2 (uo S.h (qk _)) (szN n) _ _ _ _ (qk _) j (vj g)
theorem inlR(S:SpD ts)(i:uf ts=[]){n}(g:zT n=true):qh qd 73 [eTS ts,eNd n] (.tup [eNd (zp ts n).1,aI (zp ts n).2]):=
 inlRU ts S.h S.hv (qqQ S i) n g (callF S g)
def qqR(ts:TS)(a s:Int)(l:List Nd):Bool:=l.all fun b=>!(decide ((zp ts b).2=0)&&decide (3000<wkN a s (zp ts b).1))
def qeG(ts:TS)(a s:Int)(n:Nd):Bool:=qqR ts a s (ts.sP.map Prod.snd++[n])
def SmE(env:IEnv):Prop:=∀ e,e∈env->∀ a,e.2.arg=some a->Small a
theorem qeH[DecidableEq g]{k v}:∀{es}{x:g×C},x∈setK k v es->x=(k,v)\/x∈es
 | [],x,h=>by simp[setK]at h;exact .inl h
 |e :: es,x,h=>by
  unfold setK at h;split at h
  .rcases qx.1 h with h|h
   .exact .inl h
   .exact .inr (qU _ h)
  .rcases qx.1 h with h|h
   .exact .inr (by rw[h];exact zj ..)
   .rcases qeH h with h|h
    .exact .inl h
    .exact .inr (qU _ h)
theorem SmE.set(h:SmE env){k v}(j:∀ a,v.arg=some a->Small a):SmE (setK k v env):=fun e g a i=>by
 rcases qeH g with rfl|g
 .exact j a i
 .exact h e g a i
theorem Ym[DecidableEq g]{k}:∀{es}{x:g×C},x∈delK k es->x∈es
 | [],x,h=>by cases h
 |e :: es,x,h=>by
  unfold delK at h;split at h
  .exact qU _ h
  .rcases qx.1 h with h|h
   .rw [h];exact zj ..
   .exact qU _ (Ym h)
theorem SmE.del(h:SmE env)(k):SmE (delK k env):=fun e g=>h e (Ym g)
theorem qeI[DecidableEq g]{k v}:∀{es:List (g×C)},getK k es=some v->∃ e,e∈es/\e.2=v
 | [],h=>by cases h
 |e :: es,h=>by
  unfold getK at h;split at h
  .cases h;exact⟨e,zj ..,rfl⟩
  .obtain ⟨x,i,j⟩:=qeI h
   exact⟨x,qU _ i,j⟩
theorem SmE.ren(h:SmE env)(nm body s):SmE (renI ts es env nm body s).1.1:=by
 unfold renI;split
 .exact (h.del nm).set fun a g=>by cases g
 .exact h.del nm
theorem qeJ{E}:∀{ks ps own g s s'},(∀ k,k∈ks->∀ s r s',E k s = .ok (r,s')->Small r.1)->SmE own->vo E ps ks own s = .ok (g,s')->SmE g
 | [],ps,own,g,s,s',_,i,e=>by
  have e:Except.ok (own,s)=(Except.ok (g,s'):XR IEnv):=by cases ps<;>exact e
  cases e;exact i
 |k :: ks,[],own,g,s,s',_,i,e=>by cases e;exact i
 |k :: ks,p :: ps,own,g,s,s',j,i,e=>by
  simp only[vo]at e;split at e
  .cases e
  .rename_i C m s1 l
   exact qeJ (fun k o=>j k (qU _ o)) (i.set fun a t=>by cases t;exact j k (zj ..) _ _ _ l) e
theorem qeK{E R bin}(o:∀ env nm s,SmE env->SmE (R env nm s).1.1):∀{ks i env nm s s' r},(∀ k,k∈ks->∀ env s r s',SmE env->E env k s = .ok (r,s')->Small r.1)->SmE env->vp E R bin i env nm ks s = .ok (r,s')->r.2.1.length=ks.length/\∀ k,k∈r.2.1->Small k
 | [],i,env,nm,s,s',r,_,_,e=>by cases e;exact⟨rfl,fun k g=>absurd g qN⟩
 |k :: ks,i,env,nm,s,s',r,p,t,e=>by
  simp only[vp]at e;have C:SmE (if bin=true/\i=1 then R env nm s else ((env,nm),s)).1.1:=by
   split
   .exact o _ _ _ t
   .exact t
  split at e
  .cases e
  .rename_i k' m s1 I
   split at e
   .cases e
   .rename_i J P m' s2 T
    cases e;obtain⟨l,U⟩:=qeK o (fun k g=>p k (qU _ g)) C T;exact⟨zP1 l,fun x j=>by
     rcases qx.1 j with rfl|j
     .exact p k (zj ..) _ _ _ _ C I
     .exact U x j⟩
theorem Wg(j:∀ p,p∈ts.sT->Small p.body):∀(f){env n body s s' r},SmE env->Small n->expI ts es f env n body s = .ok (r,s')->Small r.1
 | 0,_,_,_,_,_,_,_,_,e=>by cases e
 |f+1,env,n,body,s,s',r,o,i,e=>by
  simp only[expI]at e;split at e
  .split at e
   .unfold ZU at e
    split at e
    .cases e;exact i
    .rename_i v P
     split at e
     .cases e
      exact .mk _ i.len fun k g=>i.kid g
     .rename_i a R
      split at e
      .cases e
       obtain⟨x,T,t⟩:=qeI P;exact o x T a (by rw[t];exact R)
      .cases e
   .split at e
    .split at e
     .cases e
     .rename_i p C
      obtain⟨own,s1,I,J⟩:=YY e;have U:SmE own:=qeJ (fun k g s r s' h=>Wg j f o (i.kid g) h) (fun e he=>absurd he qN) I;exact Wg j f U (j p (List.mem_of_find?_eq_some C)) J
    .obtain ⟨q,s1,I,J⟩:=YY e
     cases J;obtain⟨l,hl⟩:=qeK (fun env nm s h=>h.ren nm body s) (fun k g env s r s' h hh=>Wg j f h (i.kid g) hh) o I;have:=i.len;exact .mk _ (by simp only[Nd.sD];omega) fun k g=>hl k g
  .cases e
theorem qqS(S:SpD ts)(P:uf ts=[]){n}(o:zT n=true)(g:(zp ts n).2=0):Small (zp ts n).1:=by
 have j:=(vj o).small;unfold zp at g⊢;split
 .rename_i h
  rw[if_pos h]at g;exact absurd g h
 .split
  .exact j
  .rename_i t C
   rw[if_neg t,if_neg C]at g;split
   .rename_i d l
    rw[l]at g;have:=qm9 l;simp only at g;omega
   .rename_i x i
    unfold outI at i;split at i
    .cases i
    .rename_i y z s1 I
     split at i
     .cases i
      exact Wg (r:=(x,z)) (fun p J=>(S.wp p J).small) _ (fun e g=>absurd g qN) j I
     .cases i
end
end IB
namespace IN
open Y1 P1 YF
def Zq(I:Nd->Nd×Int)(W:Nd->Int)(l:List Nd):Bool:=l.all fun b=>!(decide ((I b).2=0)&&decide (3000<W (I b).1))
theorem qqT(ts I W)(a3:ts.sP.length<=1000)(a s n)(step:∀ b,b∈ts.sP.map Prod.snd++[n]->qh qd 73 [eTS ts,eNd b] (.tup [eNd (I b).1,aI (I b).2]))(yk:∀ b,b∈ts.sP.map Prod.snd++[n]->(I b).2=0->qh qd 34 [eNd (I b).1,aI a,aI s] (aI (W (I b).1))):qh qd 35 [eTS ts,aI a,aI s,eNd n] (aB (Zq I W (ts.sP.map Prod.snd++[n]))):=by
 have a4:(ts.sP.map Prod.snd++[n]).length=ts.sP.length+1:=zSp;have C:∀(k:Nat)(h:k<ts.sP.length)(h2:k<(ts.sP.map Prod.snd++[n]).length),(ts.sP.map Prod.snd++[n])[k]=ts.sP[k].2:=fun k h h2=>by grind
 have J:∀(h2:ts.sP.length<(ts.sP.map Prod.snd++[n]).length),(ts.sP.map Prod.snd++[n])[ts.sP.length]=n:=fun h2=>zSp
 generalize ts.sP.map Prod.snd++[n]=L at *
 generalize hR:Zq I W L=R;refine qSU call35 func35 rfl ?_;refine aP (ts.sP.length+1) (fun k U=>U.tm 1=aI a/\U.tm 2=aI s/\U.tm 4 = .ip (cTS ts)/\U.tm 7 = .ip (cNd n)/\U.tm 9=aI k/\Zq I W (L.drop k)=R) ?_ ?_
 .simp [go_sem, *]
 rintro k U a5 ⟨P,T,p,e7,t,g⟩;have wi:∀ b:Nd,WKs [eTS ts,eNd b] [eTS ts,eNd b]:=fun b => .zk (zA ts) (.zk (qC b) .nil)
 have ww:∀ b:Nd,WKs [eNd b,aI a,aI s] [eNd b,aI a,aI s]:=fun b => .zk (qC b) (.zs (.zs .nil))
 have w1:=zWk k;by_cases l:k<ts.sP.length+1
 .have i:k<L.length:=by omega
  have a1:k<=ts.sP.length:=zOm;have a0:(k:Int)<=ts.sP.length:=zOm;have c1:=step _ (qv i);have c2:=yk _ (qv i);rw[ze i,Zq,List.all_cons]at g;by_cases hf:k<ts.sP.length
  .rw [C k hf i]at g c1 c2
   generalize I ts.sP[k].2=ib at *
   obtain⟨b',e'⟩:=ib;simp only at g c1 c2;simp[go_sem,p,e7,t,hf,a1,a0];refine fW c1 (wi _) ?_;by_cases he:e'=0
   .subst he
    have c3:=c2 rfl;simp[go_sem,P,T];refine t7 c3 (ww b') ?_;generalize W b'=w at *
    by_cases j:3000<w
    .simp [j]at g
     subst g;simp[go_sem,j];exact .zsc _
    .simp [j]at g
     simp[go_sem,j,t,w1,l];exact aM ⟨zS1 P,zS1 T,zS1 p,by simp[go_sem,e7],zSi,by simpa[Zq] using g⟩
   simp_all[go_sem,aM,Zq]
  .have o:k=ts.sP.length:=by omega
   subst o;rw[J i]at g c1 c2;generalize I n=ib at *
   obtain⟨b',e'⟩:=ib;simp only at g c1 c2;simp[go_sem,p,e7,t];refine fW c1 (wi _) ?_;by_cases he:e'=0
   .subst he
    have c3:=c2 rfl;simp[go_sem,P,T];refine t7 c3 (ww b') ?_;generalize W b'=w at *
    by_cases j:3000<w
    .simp [j]at g
     subst g;simp[go_sem,j];exact .zsc _
    .simp [j]at g
     simp[go_sem,j,t,w1,l];exact aM ⟨zS1 P,zS1 T,zS1 p,by simp[go_sem,e7],zSi,by simpa[Zq] using g⟩
   .simp [he]at g
    simp[go_sem,he,t,w1,l];exact aM ⟨zS1 P,zS1 T,zS1 p,by simp[go_sem,e7],zSi,by simpa[Zq] using g⟩
 .have o:k=ts.sP.length+1:=by omega
  subst o;rw[Wp zOm]at g;have a2:R=true:=by rw[<-g];rfl
  subst a2;simp[go_sem,p,t,show ¬((ts.sP.length:Int)+1<=ts.sP.length) by omega];exact .zsc _
end IN
namespace IF
open P1 Y1 YF Y16 YG Q4 FE IB IN
theorem qqU{ts}(S:SpD ts)(i:uf ts=[])(a s)(l:0<=a/\a<=100)(o:0<=s/\s<=100){n}(p:zT n=true):qh qd 35 [eTS ts,aI a,aI s,eNd n] (aB (qeG ts a s n)):=by
 have j:∀ b,b∈ts.sP.map Prod.snd++[n]->zT b=true:=fun b g=>by
  rcases qJ.1 g with h|h
  .obtain ⟨f,hf,rfl⟩:=qn.1 h
   exact S.hf f hf
  .rw [qQ]at h;subst h;exact p
 exact qqT ts (zp ts) (wkN a s) (zW1 S.h.nfa) a s n (fun b g=>inlR S i (j b g)) (fun b g t=>kM a s l o _ _ (qk _) (qqS S i (j b g) t))
end IF
set_option maxHeartbeats 1000000
namespace OJ
open Y1 P1 YF Y16 Q4 Q8 OI
def vw(n:Nd):Bool:=decide (cntN n 40<=40)&&zT n
theorem kP(n):qh qd 27 [eNd n] (aB (vw n)):=by
 refine qSV call27 func27 rfl ?_;unfold vw;simp[go_sem];refine t7 (qqL n 40 zOm) (.zk (qC n) (.zs .nil)) ?_;by_cases h:cntN n 40<=40
 .simp [go_sem,h]
  refine fW (ql2 n) (.zk (qC n) .nil) ?_;exact .zsc _
 .simp [go_sem,h]
  exact .zsc _
def sz1(b:Bd):Bool:=decide (b.lo.ts.length<=200)&&decide (b.up.ts.length<=200)
theorem qqV(bs)(hl:bs.length<=1000000):qh qd 32 [lBd bs] (aB (bs.all sz1)):=by
 refine qSV call32 func32 rfl ?_;generalize C:bs.all sz1=R;simp[go_sem];refine aP bs.length (fun k U=>U.tm 0=lBd bs/\U.tm 3=aI k/\(bs.drop k).all sz1=R) ?_ ?_
 .exact ⟨zSi,zSi,zUs C⟩
 rintro k U hk ⟨o,t,g⟩;by_cases i:k<bs.length
 .have w1:=zWk k
  rw[ze i,List.all_cons]at g;generalize I:bs[k]=b at *
  by_cases P:b.lo.ts.length<=200
  .have j:¬(200:Int)<b.lo.ts.length:=by omega
   by_cases T:b.up.ts.length<=200
   .have l:¬(200:Int)<b.up.ts.length:=by omega
    have p:sz1 b=true:=by unfold sz1;simp[P,T]
    rw[p,Bool.true_and]at g;simp[go_sem,o,t,i,I,j,l,w1]
    try refine⟨i,aM ?_⟩
    exact⟨zS1 o,zSi,g⟩
   .have l:(200:Int)<b.up.ts.length:=by omega
    have p:sz1 b=false:=by unfold sz1;simp[T]
    rw[p,Bool.false_and]at g;subst g;simp[go_sem,o,t,i,I,j,l];exact .zsc _
  .have j:(200:Int)<b.lo.ts.length:=by omega
   have p:sz1 b=false:=by unfold sz1;simp[P]
   rw[p,Bool.false_and]at g;subst g;simp[go_sem,o,t,i,I,j];exact .zsc _
 .have J:k=bs.length:=by omega
  subst J;rw[zY]at g;replace g:true=R:=g;subst g;simp[go_sem,o,t];exact .zsc _
def srt1(ns:Nat)(x:Int):Bool:=decide (0<=x)&&decide (x<ns)
def prB(ns:Nat)(p:Pd):Bool:=p.params.all fun q=>srt1 ns q.2
def shpB(ts:TS):Bool:=ts.sA.all (fldB ts.sS.length)&&ts.sT.all (prB ts.sS.length)
theorem qqW(ts)(hf:ts.sA.length<=1000000)(hp:ts.sT.length<=1000000)(hq:∀ p,p∈ts.sT->p.params.length<=1000000)(hs:ts.sS.length<=1000000):qh qd 28 [eTS ts] (aB (shpB ts)):=by
 refine qSV call28 func28 rfl ?_;generalize a2:shpB ts=R;simp[go_sem];refine aP ts.sA.length (fun k U=>U.tm 1 = .ip (cTS ts)/\U.tm 3=aI k/\((ts.sA.drop k).all (fldB ts.sS.length)&&ts.sT.all (prB ts.sS.length))=R) ?_ ?_
 .exact ⟨zSi,zSi,by simpa[shpB] using a2⟩
 rintro k U hk ⟨l,T,g⟩;by_cases i:k<ts.sA.length
 .have w1:=zWk k
  rw[ze i,List.all_cons]at g;generalize I:ts.sA[k]=f at *
  by_cases h1:1<=f.sS.length
  .have a0:¬(f.sS.length:Int)<1:=by omega
   by_cases h3:f.sS.length<=3
   .have a1:¬(3:Int)<f.sS.length:=by omega
    have hF:fldB ts.sS.length f=f.sS.all (srt1 ts.sS.length):=by unfold fldB;simp[h1,h3];rfl
    rw[hF]at g;simp[go_sem,l,T,i,I,a0,a1];rw[Bool.and_assoc]at g;refine aP f.sS.length (fun j U=>U.tm 1 = .ip (cTS ts)/\U.tm 3=aI k/\U.tm 4=aI j/\((f.sS.drop j).all (srt1 ts.sS.length)&&((ts.sA.drop (k+1)).all (fldB ts.sS.length)&&ts.sT.all (prB ts.sS.length)))=R) ?_ ?_
    .exact ⟨zS1 l,zS1 T,zSi,zUs g⟩
    clear l T g;rintro j U hj ⟨l,T,e4,g⟩;by_cases o:j<f.sS.length
    .have w2:=zWk j
     rw[ze o,List.all_cons,Bool.and_assoc]at g;generalize hx:f.sS[j]=x at *
     simp[go_sem,l,T,e4,i,I,o];refine fG [0,1,2,3,4,5,6,7,8,9,10,11,12,13,14,15,16,17,18,19,20,21,22,23,24] [(0,0,[]),(1,0,[]),(2,0,[]),(3,0,[]),(4,0,[]),(5,0,[]),(6,0,[]),(7,0,[]),(8,0,[]),(9,0,[]),(10,0,[]),(11,0,[]),(12,0,[]),(13,0,[]),(14,0,[]),(15,0,[]),(16,0,[]),(17,0,[]),(18,0,[]),(19,0,[]),(20,0,[]),(21,0,[]),(22,0,[]),(23,0,[]),(24,0,[])] zKr zKr zSi ?_;by_cases x0:0<=x
     .have C:¬x<0:=by omega
      by_cases xl:x<ts.sS.length
      .have J:¬(ts.sS.length:Int)<=x:=by omega
       have t:srt1 ts.sS.length x=true:=by unfold srt1;simp[x0,xl]
       rw[t,Bool.true_and]at g;simp[go_sem,l,T,e4,i,I,o,hx,C,J,w2]
       try refine⟨o,aM ?_⟩
       exact⟨zS1 l,zS1 T,zSi,g⟩
      .have J:(ts.sS.length:Int)<=x:=by omega
       have t:srt1 ts.sS.length x=false:=by unfold srt1;simp[xl]
       rw[t,Bool.false_and]at g;subst g;simp[go_sem,l,T,e4,i,I,o,hx,C,J];exact .zsc _
     .have C:x<0:=by omega
      have t:srt1 ts.sS.length x=false:=by unfold srt1;simp[x0]
      rw[t,Bool.false_and]at g;subst g;simp[go_sem,l,T,e4,i,I,o,hx,C];exact .zsc _
    .have P:j=f.sS.length:=by omega
     subst P;rw[zY]at g;replace g:(true&&((ts.sA.drop (k+1)).all (fldB ts.sS.length)&&ts.sT.all (prB ts.sS.length)))=R:=g;rw[Bool.true_and]at g;simp[go_sem,l,T,e4,i,I,w1]
     try refine⟨i,aM ?_⟩
     exact⟨zS1 l,zSi,g⟩
   .have a1:(3:Int)<f.sS.length:=by omega
    have hF:fldB ts.sS.length f=false:=by unfold fldB;simp[h3]
    rw[hF,Bool.false_and,Bool.false_and]at g;subst g;simp[go_sem,l,T,i,I,a0,a1];exact .zsc _
  .have a0:(f.sS.length:Int)<1:=by omega
   have hF:fldB ts.sS.length f=false:=by unfold fldB;simp[h1]
   rw[hF,Bool.false_and,Bool.false_and]at g;subst g;simp[go_sem,l,T,i,I,a0];exact .zsc _
 .have P:k=ts.sA.length:=by omega
  subst P;rw[zY]at g;replace g:(true&&ts.sT.all (prB ts.sS.length))=R:=g;rw[Bool.true_and]at g;simp[go_sem,l,T];refine aP ts.sT.length (fun k U=>U.tm 1 = .ip (cTS ts)/\U.tm 5=aI k/\(ts.sT.drop k).all (prB ts.sS.length)=R) ?_ ?_
  .exact ⟨zS1 l,zSi,zUs g⟩
  clear l T g;rintro k U hk ⟨l,e5,g⟩;by_cases i:k<ts.sT.length
  .have w1:=zWk k
   rw[ze i,List.all_cons]at g;have a3:=hq _ (qv i);generalize I:ts.sT[k]=f at *
   unfold prB at g;simp[go_sem,l,e5,i,I];refine aP f.params.length (fun j U=>U.tm 1 = .ip (cTS ts)/\U.tm 5=aI k/\U.tm 6=aI j/\((f.params.drop j).all (fun q=>srt1 ts.sS.length q.2)&&(ts.sT.drop (k+1)).all (prB ts.sS.length))=R) ?_ ?_
   .exact ⟨zS1 l,zS1 e5,zSi,g⟩
   clear l e5 g;rintro j U hj ⟨l,e5,e6,g⟩;by_cases o:j<f.params.length
   .have w2:=zWk j
    rw[ze o,List.all_cons,Bool.and_assoc]at g;generalize hx:f.params[j]=x at *
    obtain⟨xn,xs⟩:=x;simp only at g;simp[go_sem,l,e5,e6,i,I,o];refine fG [0,1,2,3,4,5,6,7,8,9,10,11,12,13,14,15,16,17,18,19,20,21,22,23,24,25,26] [(0,0,[]),(1,0,[]),(2,0,[]),(3,0,[]),(4,0,[]),(5,0,[]),(6,0,[]),(7,0,[]),(8,0,[]),(9,0,[]),(10,0,[]),(11,0,[]),(12,0,[]),(13,0,[]),(14,0,[]),(15,0,[]),(16,0,[]),(17,0,[]),(18,0,[]),(19,0,[]),(20,0,[]),(21,0,[]),(22,0,[]),(23,0,[]),(24,0,[]),(25,0,[]),(26,0,[])] zKr zKr zSi ?_;by_cases x0:0<=xs
    .have C:¬xs<0:=by omega
     by_cases xl:xs<ts.sS.length
     .have J:¬(ts.sS.length:Int)<=xs:=by omega
      have t:srt1 ts.sS.length xs=true:=by unfold srt1;simp[x0,xl]
      rw[t,Bool.true_and]at g;simp[go_sem,l,e5,e6,i,I,o,hx,C,J,w2]
      try refine⟨o,aM ?_⟩
      exact⟨zS1 l,zS1 e5,zSi,g⟩
     .have J:(ts.sS.length:Int)<=xs:=by omega
      have t:srt1 ts.sS.length xs=false:=by unfold srt1;simp[xl]
      rw[t,Bool.false_and]at g;subst g;simp[go_sem,l,e5,e6,i,I,o,hx,C,J];exact .zsc _
    .have C:xs<0:=by omega
     have t:srt1 ts.sS.length xs=false:=by unfold srt1;simp[x0]
     rw[t,Bool.false_and]at g;subst g;simp[go_sem,l,e5,e6,i,I,o,hx,C];exact .zsc _
   .have P:j=f.params.length:=by omega
    subst P;rw[zY]at g;replace g:(true&&(ts.sT.drop (k+1)).all (prB ts.sS.length))=R:=g;rw[Bool.true_and]at g;simp[go_sem,l,e5,e6,i,I,w1]
    try refine⟨i,aM ?_⟩
    exact⟨zS1 l,zSi,g⟩
  .have P:k=ts.sT.length:=by omega
   subst P;rw[zY]at g;replace g:true=R:=g;subst g;simp[go_sem,l,e5];exact .zsc _
def prT(p:Pd):Bool:=vw p.body&&decide (p.params.length<=4)
structure wL (ts:TS) (sc:Sc) (bs:List Bd) (n:Nd):Prop where
 so:ts.sS.length<=4
 fl:ts.sA.length<=4
 pr:ts.sT.length<=4
 fa:ts.sP.length<=4
 at4:sc.sC.length<=4
 bl:bs.length<=4
 tn:vw n=true
 tp:∀ p,p∈ts.sT->prT p=true
 tf:∀ f,f∈ts.sP->vw f.2=true
 sh:shpB ts=true
def Vt(ts:TS)(sc:Sc)(bs:List Bd)(n:Nd)(D:List Dg)(g v:Bool)(wk:Int)(lt:Bool):Bool:=
 decide (ts.sS.length<=4)&&(decide (ts.sA.length<=4)&&(decide (ts.sT.length<=4)&&(decide (ts.sP.length<=4)&&(decide (sc.sC.length<=4)&&(decide (bs.length<=4)&&(vw n&&(ts.sT.all prT&&((ts.sP.all fun f=>vw f.2)&&(shpB ts&&(decide (D.length=0)&&(g&&(decide (sumI sc.sC<=5)&&(bs.all sz1&&(v&&(decide (wk<=2000)&&lt)))))))))))))))
theorem qqX(ts sc bs n D o v wk lt)
  (hD:wL ts sc bs n->qh qd 29 [eTS ts] (lDg D))
  (hS:wL ts sc bs n->qh qd 30 [eTS ts,eSc sc] (aB o))
  (hA:o=true->qh qd 31 [eSc sc] (aI (sumI sc.sC)))
  (hV:wL ts sc bs n->D=[]->o=true->sumI sc.sC<=5->bs.all sz1=true->qh qd 33 [eTS ts,eSc sc,lBd bs] (aB v))
  (hW:wL ts sc bs n->qh qd 34 [eNd n,aI 5,aI 4] (aI wk))
  (hL:wL ts sc bs n->D=[]->qh qd 35 [eTS ts,aI 5,aI 4,eNd n] (aB lt)) :
  qh qd 7 [eTS ts,eSc sc,lBd bs,eNd n] (aB (Vt ts sc bs n D o v wk lt)):=by
 generalize g:Vt ts sc bs n D o v wk lt=R;unfold Vt at g;refine qSV call7 func7 rfl ?_;by_cases ms:ts.sS.length<=4
 case neg =>
  have ls:(4:Int)<ts.sS.length:=zOm;rw[decide_eq_false ms]at g;simp at g;subst g;simp[go_sem,ls];exact .zsc _
 have ls:¬(4:Int)<ts.sS.length:=zOm;rw[decide_eq_true ms]at g;by_cases mf:ts.sA.length<=4
 case neg =>
  have lf:(4:Int)<ts.sA.length:=zOm;rw[decide_eq_false mf]at g;simp at g;subst g;simp[go_sem,ls,lf];exact .zsc _
 have lf:¬(4:Int)<ts.sA.length:=zOm;rw[decide_eq_true mf]at g;by_cases mp:ts.sT.length<=4
 case neg =>
  have lp:(4:Int)<ts.sT.length:=zOm;rw[decide_eq_false mp]at g;simp at g;subst g;simp[go_sem,ls,lf,lp];exact .zsc _
 have lp:¬(4:Int)<ts.sT.length:=zOm;rw[decide_eq_true mp]at g;by_cases ma:ts.sP.length<=4
 case neg =>
  have la:(4:Int)<ts.sP.length:=zOm;rw[decide_eq_false ma]at g;simp at g;subst g;simp[go_sem,ls,lf,lp,la];exact .zsc _
 have la:¬(4:Int)<ts.sP.length:=zOm;rw[decide_eq_true ma]at g;by_cases mc:sc.sC.length<=4
 case neg =>
  have lc:(4:Int)<sc.sC.length:=zOm;rw[decide_eq_false mc]at g;simp at g;subst g;simp[go_sem,ls,lf,lp,la,lc];exact .zsc _
 have lc:¬(4:Int)<sc.sC.length:=zOm;rw[decide_eq_true mc]at g;by_cases mb:bs.length<=4
 case neg =>
  have lb:(4:Int)<bs.length:=zOm;rw[decide_eq_false mb]at g;simp at g;subst g;simp[go_sem,ls,lf,lp,la,lc,lb];exact .zsc _
 have lb:¬(4:Int)<bs.length:=zOm;rw[decide_eq_true mb]at g;simp only[Bool.true_and]at g;simp[go_sem,ls,lf,lp,la,lc,lb];refine t7 (kP n) (.zk (qC n) .nil) ?_;cases ht:vw n with
 |false =>
  rw[ht]at g;replace g:false=R:=g;subst g;simp[go_sem];exact .zsc _
 |true =>
 rw[ht,Bool.true_and]at g;simp[go_sem];refine aP ts.sT.length (fun k U=>U.tm 2=lBd bs/\U.tm 4 = .ip (cTS ts)/\U.tm 5 = .ip [lI sc.sC,aI sc.sN]/\U.tm 7 = .ip (cNd n)/\U.tm 9=aI k/\(∀ p,p∈ts.sT.take k->prT p=true)) ?_ ?_
 .exact ⟨zSi,zSi,zSi,zSi,zSi,zSp⟩
 rintro k U hk ⟨e2,l,e5,e7,e9,j⟩;by_cases i:k<ts.sT.length
 .have w1:=zWk k
  have a0:ts.sT.take (k+1)=ts.sT.take k++[ts.sT[k]]:=uV i;have C:=qv i;generalize hp:ts.sT[k]=I at *
  have t:prT I=false->R=false:=fun h=>by
   rw[<-g];have:ts.sT.all prT=false:=List.all_eq_false.2 ⟨I,C,zP1 h⟩;rw[this];rfl
  simp[go_sem,l,e9,i,hp];refine t7 (kP I.body) (.zk (qC I.body) .nil) ?_;cases hb:vw I.body with
  |false =>
   rw[t (by unfold prT;rw[hb];rfl)];simp[go_sem];exact .zsc _
  |true =>
   by_cases c:I.params.length<=4
   .have c':¬(4:Int)<I.params.length:=by omega
    have hy:prT I=true:=by unfold prT;rw[hb,decide_eq_true c];rfl
    simp[go_sem,l,e9,i,hp,c',w1]
    try refine⟨i,aM ?_⟩
    refine⟨zS1 e2,zS1 l,zS1 e5,by simp[go_sem,e7],zSi,fun p J=>?_⟩;rw[a0]at J;rcases qJ.1 J with h|h
    .exact j p h
    .rw [qQ]at h;subst h;exact hy
   .have c':(4:Int)<I.params.length:=by omega
    rw[t (by unfold prT;rw[decide_eq_false c];simp)];simp[go_sem,l,e9,i,hp,c'];exact .zsc _
 have a1:k=ts.sT.length:=zOm;subst a1;rw[q8]at j;rw[qY.2 j,Bool.true_and]at g;simp[go_sem,l,e9];refine aP ts.sP.length (fun k U=>U.tm 2=lBd bs/\U.tm 4 = .ip (cTS ts)/\U.tm 5 = .ip [lI sc.sC,aI sc.sN]/\U.tm 7 = .ip (cNd n)/\U.tm 10=aI k/\(∀ p,p∈ts.sP.take k->vw p.2=true)) ?_ ?_
 .exact ⟨zS1 e2,zS1 l,zS1 e5,by simp[go_sem,e7],zSi,zSp⟩
 clear e2 l e5 e7 e9;rintro k U hk ⟨e2,l,e5,e7,a2,T⟩;by_cases i:k<ts.sP.length
 .have w1:=zWk k
  have a0:ts.sP.take (k+1)=ts.sP.take k++[ts.sP[k]]:=uV i;have C:=qv i;generalize hp:ts.sP[k]=I at *
  obtain⟨fn,fb⟩:=I;simp[go_sem,l,a2,i,hp];refine t7 (kP fb) (.zk (qC fb) .nil) ?_;cases hb:vw fb with
  |false =>
   have t:R=false:=by
    rw[<-g];have:(ts.sP.all fun f=>vw f.2)=false:=List.all_eq_false.2 ⟨(fn,fb),C,zP1 hb⟩;rw[this];rfl
   rw[t];simp[go_sem];exact .zsc _
  |true =>
   simp[go_sem,l,a2,w1]
   try refine⟨i,aM ?_⟩
   refine⟨zS1 e2,zS1 l,zS1 e5,by simp[go_sem,e7],zSi,fun p J=>?_⟩;rw[a0]at J;rcases qJ.1 J with h|h
   .exact T p h
   .rw [qQ]at h;subst h;exact hb
 have a1:k=ts.sP.length:=zOm;subst a1;rw[q8]at T;rw[qY.2 T,Bool.true_and]at g;simp[go_sem,l,a2];refine t7 (qqW ts zOm zOm (fun p hp=>by have:=j p hp;unfold prT at this;simp at this;omega) zOm) (.zk (zA ts) .nil) ?_;cases a3:shpB ts with
 |false =>
  rw[a3]at g;replace g:false=R:=g;subst g;simp[go_sem];exact .zsc _
 |true =>
 rw[a3,Bool.true_and]at g;have P:wL ts sc bs n:=⟨ms,mf,mp,ma,mc,mb,ht,j,T,a3⟩;simp[go_sem,l];refine t7 (hD P) (.zk (zA ts) .nil) ?_;cases D with
 |cons d D' =>
  have t:R=false:=by
   rw[<-g];rfl
  have a4:¬(D'.length:Int)+1=0:=zOm;rw[t];simp[go_sem,a4];exact .zsc _
 |nil =>
 replace g:(o&&(decide (sumI sc.sC<=5)&&(bs.all sz1&&(v&&(decide (wk<=2000)&&lt)))))=R:=g;simp[go_sem,l,e5];refine t7 (hS P) (.zk (zA ts) (.zk (zF _) .nil)) ?_;cases o with
 |false =>
  replace g:false=R:=g;subst g;simp[go_sem];exact .zsc _
 |true =>
 rw[Bool.true_and]at g;simp[go_sem,e5];refine t7 (hA rfl) (.zk (zF _) .nil) ?_;by_cases c5:sumI sc.sC<=5
 case neg =>
  rw[decide_eq_false c5]at g;replace g:false=R:=g;subst g;simp[go_sem,c5];exact .zsc _
 rw[decide_eq_true c5,Bool.true_and]at g;simp[go_sem,c5,e2];refine t7 (qqV bs zOm) (.zk (w6 _) .nil) ?_;cases hz:bs.all sz1 with
 |false =>
  rw[hz]at g;replace g:false=R:=g;subst g;simp[go_sem];exact .zsc _
 |true =>
 rw[hz,Bool.true_and]at g;simp[go_sem,e2,l,e5];refine t7 (hV P rfl rfl c5 hz) (.zk (zA ts) (.zk (zF _) (.zk (w6 _) .nil))) ?_;cases v with
 |false =>
  replace g:false=R:=g;subst g;simp[go_sem];exact .zsc _
 |true =>
 rw[Bool.true_and]at g;simp[go_sem,e7];refine t7 (hW P) (.zk (qC n) (.zs (.zs .nil))) ?_;by_cases cw:wk<=2000
 case neg =>
  rw[decide_eq_false cw]at g;replace g:false=R:=g;subst g;simp[go_sem,cw];exact .zsc _
 rw[decide_eq_true cw,Bool.true_and]at g;subst g;simp[go_sem,cw,l,e7];refine fW (hL P rfl) (.zk (zA ts) (.zs (.zs (.zk (qC n) .nil)))) ?_;exact .zsc _
end OJ
namespace O8
open Y1 EO F4 GF
theorem tM{P mu}{t g e sz bt b:Nat}{x cells ys zv K}(I:qD P t=some (e,sz,bt))(j:(qD P g).isSome=true)(J:qA P e=some zv)
  (l:zv.cells.length=sz) (o:zv.cells.all AV.one=true) (p:sz≠0) (R:bt<=16384) (T:mu[b]?=some (.arr cells)) (U:qy mu x=some ys) (wy:qS sz ys) (hl:ys.length<=4294967296)
  (k:∀ av mu',Own mu' sz av ys->(∀ i,i<mu.length->i≠b->mu'[i]?=mu[i]?)->(∀ b,qo av=some b->b=mu.length)->mu.length<=mu'.length->K av mu'):qu P mu #[t,g] (.sl b sz 0 0) x K:=by
 refine .inl ?_;refine⟨t,g,e,sz,bt,ys,rfl,I,j,⟨zv,J,l,o⟩,p,R,U,wy,?_⟩;refine .inr ⟨b,0,cells,rfl,T,zOm,zOm,?_⟩;refine k _ _ (.inr ⟨mu.length,zSp,?_⟩) (fun i hi C=>?_) (fun b h=>by cases h;rfl) zSp
 .rw [List.getElem?_append_right zSp];simp
 .rw [qI (zUs hi)]
  rw[z7 (fun e=>C (by rw[e]))]
def OwnZ(mu:Mu)(sz:Nat)(av:AV):Prop:=av = .lst true []\/∃ b c,av = .sl b sz 0 0/\mu[b]?=some (.arr c)
theorem growN(mu)(n:Nat)(I:n<=1000000):qz qd 131 [.lst true [],aI n] mu fun e m=>∃ av,e = .ret av/\OwnZ m 5 av/\(∀ i,i<mu.length->m[i]?=mu[i]?)/\mu.length<=m.length/\∀ b,qo av=some b->mu.length<=b:=by
 refine qSW call131 func131 rfl {} ?_;have l:qm.wrap 0=0:=zWr;have p:qm.wrap (n:Int)=n:=zWr;have g:¬(n:Int)<0:=zOm;by_cases t:n=0
 .subst t
  simp[go_sem,l];exact⟨.inl rfl,by simp[qo]⟩
 .have o:0<n:=by omega
  simp[go_sem,l,p,g,o];refine⟨⟨_,_,⟨rfl,rfl⟩,fun r j=>by simp at j⟩,?_⟩;refine .inr (.inr ⟨_,_,34,5,64,.agg [aI 0,aS ⟨#[]⟩,aI 0,.lst true [],aI 0],n,[],rfl,zSi,zSi,zSi,rfl,rfl,zOm,zOm,rfl,o,rfl,fun r j=>by simp at j,zSo,?_⟩);simp[go_sem];refine⟨.inr ⟨mu.length,_,rfl,by simp;rfl⟩,fun i C=>by rw[qI C],by simp[qo]⟩
theorem qqY(mu a b)(ha:a.length<=100000)(hb:b.length<=100000):qz qd 50 [.lst true [[lNd a],[lNd b]]] mu fun e m=>∃ av,e = .ret av/\Own m 5 av ((a++b).map cNd):=by
 refine qSW call50 func50 rfl {} ?_;have v1:qm.wrap 1=1:=zWr;have v2:qm.wrap 2=2:=zWr;have I:=Yj a;have wb:=Yj b;simp[go_sem];have n0:¬((a.length:Int)+b.length)<0:=zOm;refine ql.up 2 (fun k U=>U.tm 0 = .lst true [[lNd a],[lNd b]]/\U.tm 3=aI ((if 0<k then (a.length:Int) else 0)+(if 1<k then (b.length:Int) else 0))/\U.tm 9 = .lst true [[lNd a],[lNd b]]/\U.tm 10=aI 2/\U.tm 11=aI k/\U.mu=mu) ?_ ?_
 .simp [go_sem]
 rintro k U hk ⟨e0,e3,e9,J,P,hm⟩;by_cases T:k<2
 .have:k=0\/k=1:=by omega
  rcases this with rfl|rfl
  .have w1:qm.wrap (a.length:Int)=a.length:=zWr
   have n1:¬(a.length:Int)<0:=zOm;simp[go_sem, *]
  .have w1:qm.wrap ((a.length:Int)+b.length)=a.length+b.length:=zWr
   simp[go_sem, *]
 .have:k=2:=by omega
  subst this;have g:=growN mu (a.length+b.length) zOm;simp[go_sem,e3,J,P,hm];refine aA (zUs g) ?_ ?_
  .rintro r m ⟨av,h,l,hs,hl,a1⟩
   cases h;simp[go_sem,e0];refine ql.up 2 (fun k U=>U.tm 25 = .lst true [[lNd a],[lNd b]]/\U.tm 26=aI 2/\U.tm 27=aI k/\(if k=0 then OwnZ U.mu 5 (U.tm 6) else Own U.mu 5 (U.tm 6) ((if k=1 then a else a++b).map cNd))) ?_ ?_
   .simp_all [go_sem]
   rintro k a2 hk ⟨f25,f26,f27,l⟩;by_cases T:k<2
   .have:k=0\/k=1:=by omega
    rcases this with rfl|rfl
    .rw [if_pos rfl]at l
     rcases l with h6|⟨b6,c6,h6,a0⟩
     .simp [go_sem,f25,f26,f27,h6]
      refine qu.own (sz:=5) (e:=34) (bt:=64) (zv := .agg [aI 0,aS ⟨#[]⟩,aI 0,.lst true [],aI 0]) (xs:=[]) (ys:=a.map cNd) zSi zSi zSi rfl rfl zOm zOm (.inl rfl) (by simp[qy]) (fun r hr=>by simp at hr) I zSo ?_;intro o R i t C;simp at i;simp[go_sem,f25,f26,f27,v1];exact i
     .simp [go_sem,f25,f26,f27,h6]
      refine tM (e:=34) (bt:=64) (zv := .agg [aI 0,aS ⟨#[]⟩,aI 0,.lst true [],aI 0]) (ys:=a.map cNd) zSi zSi zSi rfl rfl zOm zOm a0 (by simp[qy]) I zSo ?_;intro o R i t C a3;simp[go_sem,f25,f26,f27,v1];exact i
    .rw [zIn,if_pos rfl]at l
     simp[go_sem,f25,f26,f27];refine qu.own (sz:=5) (e:=34) (bt:=64) (zv := .agg [aI 0,aS ⟨#[]⟩,aI 0,.lst true [],aI 0]) (xs:=a.map cNd) (ys:=b.map cNd) zSi zSi zSi rfl rfl zOm zOm l (by simp[qy]) I wb zSo ?_;intro o R i t C;simp[go_sem,f25,f26,f27,v2];exact i
   .have:k=2:=by omega
    simp_all[go_sem]
  grind
end O8
set_option maxHeartbeats 1000000
namespace OD
open Y1 Y9 P2 EO F4 GF GR KA O8
theorem kQ{n a b}(g:n.op=41)(j:n.sD=[a,b]):conj n=conj a++conj b:=by
 obtain⟨op,nm,i,ks,p⟩:=n;cases j;rw[conj,uO,uO,uO];exact if_pos g
theorem kR{n a}(g:n.op=48)(j:n.sD=[a]):conj n=(conj a).map (jn n.pos):=by
 obtain⟨op,nm,i,ks,p⟩:=n;cases j;have h:¬op=41:=by intro h;rw[h]at g;cases g
 rw[conj,uO,uO];rw[if_neg h];exact if_pos g
theorem kS{n}(g:¬n.op=41)(j:¬n.op=48):conj n=[n]:=by
 obtain⟨op,nm,i,ks,p⟩:=n;rw[conj];exact(if_neg g).trans (if_neg j)
theorem shp2{n}(h:WfN n)(j:n.op=41):∃ a b,n.sD=[a,b]:=by
 have g:(n.sD.map fun k=>kd k.op)=[102,102]:=by
  have g:=h.shape;unfold shp at g
  grind
 have i:=congrArg List.length g
 match l:n.sD,i with
 | [a,b],_=>exact⟨a,b,rfl⟩
theorem shp1{n}(h:WfN n)(j:n.op=48):∃ a,n.sD=[a]:=by
 have g:(n.sD.map fun k=>kd k.op)=[102]:=by
  have g:=h.shape;unfold shp at g
  grind
 have i:=congrArg List.length g
 match l:n.sD,i with
 | [a],_=>exact⟨a,rfl⟩
def cW(pos:Int)(k:Nd):List AV:=if k.op=48 then cNd k else [aI 48,aS ⟨#[]⟩,aI 0,.lst true [cNd k],aI pos]
theorem qeL{mu}:∀{l},(∀ c,c∈l->HF c)->Rds mu l l
 | [],_=>trivial
 |c :: l,h=>⟨.hf _ (h c zSp),qeL fun x g=>h x (zP1 g)⟩
theorem cW_rd(mu pos k):Rds mu (cW pos k) (cNd (jn pos k)):=by
 unfold cW jn;split
 .rename_i h
  exact qeL (jE k)
 .exact ⟨.hf _ (HF.sc _),.hf _ (HF.sc _),.hf _ (HF.sc _),.wk _ true _ (.hf _ (HF.lst fun r g=>by rw[qQ]at g;subst g;exact jE k)),.hf _ (HF.sc _),trivial⟩
theorem Wh(pos)(xs:List Nd):qS 5 (xs.map (cW pos)):=fun r g=>by
 obtain⟨n,_,rfl⟩:=qn.1 g;unfold cW;split
 .cases n;exact⟨rfl,rfl⟩
 .exact ⟨rfl,rfl⟩
theorem qq0(pos)(xs:List Nd):qS 5 (xs.map fun x=>cNd (jn pos x)):=fun r g=>by
 obtain⟨n,_,rfl⟩:=qn.1 g;cases jn pos n;exact⟨rfl,rfl⟩
theorem Jl:∀ m n,szN n<=m->WfN n->(conj n).length<=100000->qh qd 17 [eNd n] (lNd (conj n))
 | 0,n,hm,_,_=>by obtain⟨op,nm,i,ks,q⟩:=n;simp[szN]at hm
 |m+1,n,hm,hw,hl=>by
  refine qSV call17 func17 rfl ?_;by_cases o1:n.op=41
  .obtain ⟨a,b,l⟩:=shp2 hw o1
   rw[kQ o1 l]at hl⊢;have ha:=qZ (n:=n) (k:=a) (by rw[l];simp);have hb:=qZ (n:=n) (k:=b) (by rw[l];simp);rw[zf]at hl;have ca:=Jl m a zOm (hw.kid (by rw[l];simp)) zOm;have cb:=Jl m b zOm (hw.kid (by rw[l];simp)) zOm;simp[go_sem,o1,l];refine fG [0,1,2,3,5,6,7,8,4,9,10,11,12] [(0,0,[]),(1,0,[]),(2,0,[]),(3,0,[]),(5,0,[]),(6,0,[]),(7,0,[]),(8,0,[]),(4,1,[6,8]),(9,1,[]),(10,0,[]),(11,1,[]),(12,0,[])] zKr zKr zSi ?_;simp[go_sem,l];refine t7 ca (.zk (qC a) .nil) ?_;simp[go_sem,l];refine fW cb (.zk (qC b) .nil) ?_;refine aA (qqY _ (conj a) (conj b) zOm zOm) ?_ ?_
   .rintro r m' ⟨t,h,ho⟩
    cases h;simp[go_sem];exact Own.rd ho (Yj _).ok fun r hr c hc=>by
     obtain⟨x,_,rfl⟩:=qn.1 hr;exact jE x c hc
   .rintro r m' ⟨t,h,ho⟩
    cases h
  by_cases o2:n.op=48
  .obtain ⟨a,l⟩:=shp1 hw o2
   rw[kR o2 l]at hl⊢;have ha:=qZ (n:=n) (k:=a) (by rw[l];simp);rw[zX]at hl;have ca:=Jl m a zOm (hw.kid (by rw[l];simp)) hl;simp[go_sem,o1,o2,l];refine fW ca (.zk (qC a) .nil) ?_;refine ql.up (conj a).length (fun k U=>U.tm 1 = .ip (cNd n)/\U.tm 28=lNd (conj a)/\U.tm 29=aI (conj a).length/\U.tm 30=aI k/\Own U.mu 5 (U.tm 3) (((conj a).take k).map (cW n.pos))) ?_ ?_
   .simp [go_sem]
    exact .inl rfl
   rintro k U a6 ⟨e1,o,C,I,ho⟩;by_cases J:k<(conj a).length
   .have w1:=zWk k
    generalize hx:(conj a)[k]=x;have a1:(conj a).take (k+1)=(conj a).take k++[x]:=by rw[uV J,hx]
    have wf:qS 5 (((conj a).take k).map (cW n.pos)):=Wh _ _;have a2:∀ c,Own (U.mu++[c]) 5 (U.tm 3) (((conj a).take k).map (cW n.pos)):=fun c=>by
     rcases ho with h|⟨b,h1,h2⟩
     .exact .inl h
     .exact .inr ⟨b,h1,by rw[qI (qj.1 h2).1];exact h2⟩
    have a7:(((conj a).take k).map (cW n.pos)).length<=100000:=zSo;by_cases ox:x.op=48
    .have a0:cW n.pos x=cNd x:=by unfold cW;rw[if_pos ox]
     have P:=Wh n.pos [x];simp[go_sem,e1,o,C,I,J,hx,ox];refine qu.own (sz:=5) (e:=34) (bt:=64) (zv := .agg [aI 0,aS ⟨#[]⟩,aI 0,.lst true [],aI 0]) (xs:=((conj a).take k).map (cW n.pos)) (ys:=[x].map (cW n.pos)) zSi zSi zSi rfl rfl zOm zOm (a2 _) (by simp[qy,a0]) wf P zSo ?_;intro a3 R T a4 a5;rw[<-zh,<-a1]at T;simp[go_sem,e1,o,C,I,w1];exact⟨J,by simpa[List.map_take] using T⟩
    .have a0:cW n.pos x=[aI 48,aS ⟨#[]⟩,aI 0,.lst true [cNd x],aI n.pos]:=by unfold cW;rw[if_neg ox]
     have P:=Wh n.pos [x];simp[go_sem,e1,o,C,I,J,hx,ox];refine qu.own (sz:=5) (e:=34) (bt:=64) (zv := .agg [aI 0,aS ⟨#[]⟩,aI 0,.lst true [],aI 0]) (xs:=((conj a).take k).map (cW n.pos)) (ys:=[x].map (cW n.pos)) zSi zSi zSi rfl rfl zOm zOm (a2 _) (by simp[qy,a0]) wf P zSo ?_;intro a3 R T a4 a5;rw[<-zh,<-a1]at T;simp[go_sem,e1,o,C,I,w1];exact⟨J,by simpa[List.map_take] using T⟩
   .have:k=(conj a).length:=by omega
    subst this;rw[q8]at ho;simp[go_sem,e1,o,C,I];have hm:=cZ (g:=fun x=>cNd (jn n.pos x)) ho (Wh n.pos (conj a)).ok (qq0 n.pos (conj a)).ok (fun x _=>cW_rd U.mu n.pos x);rw[show (conj a).map (fun x=>cNd (jn n.pos x))=((conj a).map (jn n.pos)).map cNd by rw[List.map_map];rfl]at hm;exact hm
  .rw [kS o1 o2]at hl⊢
   simp[go_sem,o1,o2];exact .wk _ true _ (.hf _ (HF.lst fun r hr=>by rw[qQ]at hr;subst hr;exact jE n))
end OD
namespace O0
open P1 YF E4 GF
section
variable {bv:AV}{args:List AV}{bs:List Bd}{mu mu':Mu}{p:Nat}{P:qc}
def yx(P:qc)(f:j1)(args:List AV)(mu:Mu)(r:AV):Prop:=qz P f args mu fun e R=>e = .ret r/\MuLe mu R
theorem qq1{lo}(h:MuLe mu mu')(j:mu.length<=lo):MuLe mu (cutM (fun i=>!decide (lo<=i)) mu' 0):=by
 intro b c g;have l:b<mu.length:=(qj.1 g).1;rw[jy,h b c g];simp;omega
theorem yx.of{f r}(h:qz P f args mu fun e mu'=>∃ x,e = .ret x/\MuLe mu mu'/\Rd (cutM (fun i=>decide (mu.length<=i)) mu' 0) x r):yx P f args mu r:=by
 refine⟨h.1,fun G w o s p=>(h.2 G w o s p).mono fun e J ⟨R,mu',U,t⟩=>?_⟩;rcases t with ⟨x,v,⟨C,g,j,l⟩,rfl,I⟩|⟨x,v,⟨C,g,_⟩,_⟩
 .cases g
  exact⟨_,_,U.trans s (Qo U.sim _),.inl ⟨r,v,⟨rfl,qq1 j (qk _)⟩,rfl,VM U.sim _ l I⟩⟩
 .exact absurd g zSp
theorem qg.mem{g caps r K i}(j:yx P g (args++caps) mu r)(k:∀ mu',MuLe mu mu'->K r mu'):qg P false mu (.fn (.func g) [] caps) args K i:=
 fH j (fun r m h=>by obtain⟨e,h⟩:=h;cases e;exact k m h) (fun r m h=>absurd h.1 zSp)
theorem tD{f args' v}(mu)(h:qh P f args' v)(o:WKs args args'):yx P f args mu v:=by
 have i:=qh.toSound mu h o;refine⟨i.1,fun G w p s t=>(i.2 G w p s t).mono fun e J ⟨C,R,U,I⟩=>⟨C,R,U,?_⟩⟩;rcases I with ⟨x,u,⟨g,j⟩,l⟩|⟨x,u,⟨g,j⟩,l⟩
 .exact .inl ⟨x,u,⟨g,by rw[j];exact MuLe.refl _⟩,l⟩
 .exact absurd g zSp
theorem MuLe.app(h:MuLe mu mu')(c:List Cell):MuLe mu (mu'++c):=fun b x g=>by
 have:=h b x g;rw[qI (qj.1 this).1];exact this
theorem MuLe.len(h:MuLe mu mu'):mu.length<=mu'.length:=by
 cases i:mu.length with
 |zero=>omega
 |succ n =>
  have g:mu[n]?=some mu[n]:=qw zOm;have:=(qj.1 (h n _ g)).1;omega
def Zr(P:qc)(mu:Mu)(l:AV){C:Type}(enc:C->AV)(ok:C->Prop)(g:C->AV):Prop:=
 ∃ j i,l = .fn (.func j) [] i/\∀ x,ok x->∀ R,MuLe mu R->yx P j ([enc x]++i) R (g x)
theorem Zr.call{i C enc ok g}(h:Zr P mu i enc ok g){x:C}(l:ok x)(o:MuLe mu mu'){K p}(k:∀ m,MuLe mu' m->K (g x) m):qg P false mu' i [enc x] K p:=by
 obtain⟨t,j,rfl,h⟩:=h;exact qg.mem (h x l mu' o) k
def Ql(P:qc)(mu:Mu)(l:AV){C:Type}(enc:C->AV)(ok:C->C->Prop)(g:C->C->AV):Prop:=
 ∃ j i,l = .fn (.func j) [] i/\∀ x y,ok x y->∀ R,MuLe mu R->yx P j ([enc x,enc y]++i) R (g x y)
theorem Ql.call{i C enc ok g}(h:Ql P mu i enc ok g){x y:C}(l:ok x y)(o:MuLe mu mu'){K p}(k:∀ m,MuLe mu' m->K (g x y) m):qg P false mu' i [enc x,enc y] K p:=by
 obtain⟨t,j,rfl,h⟩:=h;exact qg.mem (h x y l mu' o) k
theorem tG(h:MuLe mu mu'){i}(l:mu.length<=i)(c):MuLe mu (mu'.set i c):=fun b x g=>by
 have j:=(qj.1 g).1;rw[zGl];exact h b x g
abbrev cNs(ts:TS)(sc:Sc)(bv:AV)(n:Int)(g:Bool):List AV:=cTS ts++[lI sc.sC,aI sc.sN,bv,aI n,aB g]
def BvR(mu:Mu)(bv:AV)(bs:List Bd):Prop:=bv=lBd bs\/Own mu 4 bv (bs.map cBd)
theorem BvR.le(h:BvR mu bv bs)(g:MuLe mu mu'):BvR mu' bv bs:=by
 rcases h with rfl|rfl|⟨b,rfl,i⟩
 .exact .inl rfl
 .exact .inr (.inl rfl)
 .exact .inr (.inr ⟨b,rfl,g _ _ i⟩)
structure NsR (mu:Mu) (p:Nat) (ts:TS) (sc:Sc) (bs:List Bd) (ch:Bool) (bv:AV):Prop where
 st:mu[p]?=some (.arr (cNs ts sc bv (sumI sc.sC) ch))
 bv:BvR mu bv bs
theorem NsR.le{ts sc g}(h:NsR mu p ts sc bs g bv)(i:MuLe mu mu'):NsR mu' p ts sc bs g bv:=⟨i _ _ h.st,h.bv.le i⟩
theorem zB{c}(h:mu[p]?=some c)(l:List Cell):(mu++l)[p]?=some c:=by
 rw[qI (qj.1 h).1];exact h
theorem Vu(xs:List Bd):qS 4 (xs.map cBd):=fun r g=>by
 obtain⟨n,_,rfl⟩:=qn.1 g;exact⟨rfl,rfl⟩
theorem BvR.rd(h:BvR mu bv bs):Rd mu bv (lBd bs):=by
 rcases h with rfl|h
 .exact .hf _ (w6 bs)
 .exact Own.rd h (Vu bs).ok fun r g c i=>by
   obtain⟨b,_,rfl⟩:=qn.1 g;exact qaT b c i
theorem NsR.rd{ts sc l}(h:NsR mu p ts sc bs l bv):Rd mu (.ptr p 0) (.ip (cNs ts sc (lBd bs) (sumI sc.sC) l)):=by
 refine .ptr p 0 _ _ h.st zSp fun k x y g i=>?_
 have j:=JT ts
 match k with
 | 0=>simp at g i;subst g;subst i;exact .hf _ (j _ (by simp[cTS]))
 | 1=>simp at g i;subst g;subst i;exact .hf _ (j _ (by simp[cTS]))
 | 2=>simp at g i;subst g;subst i;exact .hf _ (j _ (by simp[cTS]))
 | 3=>simp at g i;subst g;subst i;exact .hf _ (j _ (by simp[cTS]))
 | 4=>simp at g i;subst g;subst i;exact .hf _ (zx _)
 | 5=>simp at g i;subst g;subst i;exact .zsc _
 | 6=>simp at g i;subst g;subst i;exact h.bv.rd
 | 7=>simp at g i;subst g;subst i;exact .zsc _
 | 8=>simp at g i;subst g;subst i;exact .zsc _
 |k+9=>simp at g
end
end O0
namespace O1
open E1 EO EW
def divN(n x:Int):Nat->Int
 | 0=>x
 |j+1=>divN n x j / n
theorem kT{n x m}(o:1<=n)(i:0<=x)(l:x<=m):∀ j,0<=divN n x j/\divN n x j<=m
 | 0=>⟨i,l⟩
 |j+1=>by
  have g:=kT o i l j;have d0:0<=divN n x j / n:=Int.ediv_nonneg g.1 zOm;have d1:divN n x j / n<=divN n x j:=Int.ediv_le_self n g.1;exact⟨d0,Int.le_trans d1 g.2⟩
def digN(n r:Int):Nat->List Int
 | 0=>[]
 |k+1=>divN n r k % n :: digN n r k
theorem kU(n r):∀ k,(digN n r k).length=k
 | 0=>rfl
 |k+1=>by simp[digN,kU n r k]
theorem wu(xs:List Int):(xs.map rI).flatten=xs.map aI:=by
 induction xs with
 |nil=>rfl
 |cons x xs g=>simp[g]
theorem kV(n r)(g:1<=n):∀ k,divN n r k=r / n ^ k
 | 0=>by simp[divN]
 |k+1=>by
  rw[divN,kV n r g k,Int.pow_succ,Int.ediv_ediv_of_nonneg];exact Int.pow_nonneg zOm
theorem qq2{n r}(g:1<=n){k}(i:0<=r)(h:r<n ^ k):divN n r k=0:=by
 rw[kV n r g,Int.ediv_eq_zero_of_lt i h]
theorem tB{lo b n mu}{xs:List Int}(j:lo<=b)(g:mu[b]?=some (.arr (xs.map aI)))(i:xs.length=n):OwnF lo mu 1 (.sl b 1 0 n) (xs.map rI):=by
 have p:b<mu.length:=(qj.1 g).1;refine⟨.inr ⟨b,zP1 i,by rw[g,wu]⟩,fun t s o l e=>?_,zOm⟩;injection e;omega
theorem qq3(m z v)(l:List AV):(qM (m+1) z++l).set m v=qM m z++v :: l:=by
 induction m with
 |zero=>rfl
 |succ m g =>
  rw[List.replicate_succ,List.cons_append,List.set_cons_succ,g];rfl
theorem qq4(sc)(g:GSc sc)(J:1<=sumI sc.sC)(l:Nat)(P:l<=3)(r)(R:0<=r)(hr:r<sumI sc.sC ^ l):qh qd 181 [eSc sc,aI l,aI r] (lI (digN (sumI sc.sC) r l)):=by
 refine qSU call181 func181 rfl ?_;refine t7 (Uz l 0 3) (.zs (.zs (.zs .nil))) ?_;simp[go_sem,show (0:Int)<=l by omega,show (l:Int)<=3 by omega,show ¬r<0 by omega];refine t7 (Yt sc g) (.zk (zF sc) .nil) ?_;have C:=g.sum sc.sC.length;rw[q8]at C;generalize hn:sumI sc.sC=n at *
 have a8:=Yo (n:=n) zOm zOm l P;have T:n≠0:=zOm;simp[go_sem,show (0:Int)<=l by omega,show (l:Int)<=4294967296 by omega];refine ql.up l (fun j U=>U.tm 7=aI n/\U.tm 8 = .sl 0 1 0 l/\U.tm 2=aI (divN n r j)/\U.tm 9=aI (l-1-j)/\U.mu=[.arr (qM (l-j) (aI 0)++(digN n r j).map aI)]) ?_ ?_
 .simp [go_sem,divN,digN]
  exact zWr
 rintro j U hj ⟨e7,e8,e2,e9,hm⟩;have hd:=kT (n:=n) (m:=8000) J R zOm j;by_cases a0:j<l
 .have a9:=kT (n:=n) (m:=8000) J R zOm (j+1)
  have hq:(divN n r j).tdiv n=divN n r (j+1):=by rw[divN,Int.tdiv_eq_ediv_of_nonneg hd.1]
  have a1:(divN n r j).tmod n=divN n r j % n:=Int.tmod_eq_emod_of_nonneg hd.1;have I:qM (l-j) (aI 0)=qM ((l-(j+1))+1) (aI 0):=by congr 1;omega
  have o:=qq3 (l-(j+1)) (aI 0) (aI (divN n r j % n)) ((digN n r j).map aI);rw[<-I]at o;have a7:(qM (l-j) (aI 0)++(digN n r j).map aI).length=l:=by simp[kU];omega
  have a2:qm.wrap ((l:Int)-1-j-1)=(l:Int)-1-(j+1:Nat):=by rw[zWr];omega
  have a3:qm.wrap (divN n r (j+1))=divN n r (j+1):=zWr;generalize aa:qM (l-j) (aI 0)++(digN n r j).map aI=cells at *
  have t:0<=(l:Int)-1-j:=zOm;have a4:(l:Int)-1-j<l:=zOm;have a5:((l:Int)-1-j).toNat=l-(j+1):=zOm;generalize (l:Int)-1-j=c at *
  simp[go_sem,e7,e8,e2,e9,hm,t,a4,a5,T,a1,hq,a3,show l-(j+1)+1<=cells.length by omega,o];refine⟨a0,?_,?_⟩
  .rw [a2];omega
  .rw [digN];rfl
 .have a6:j=l:=by omega
  subst a6;have hz:=qq2 J R hr;have t:¬(0:Int)<=(j:Int)-1-j:=zOm;generalize (j:Int)-1-j=c at *
  rw[hz]at e2;simp[go_sem,e7,e8,e2,e9,hm,t];refine(tB (lo:=0) (xs:=digN n r j) (Nat.zero_le _) ?_ (kU n r j)).rdI;simp
end O1
namespace O2
open P1 E1 EO F4 GF KA O0 ET EQ
theorem Jm(r):qh qd 85 [eRel r] (eBd (exR r)):=by
 refine qSU call85 func85 rfl ?_;exact .hf _ (yr (exR r))
theorem Wi(r e):qh qd 99 [eRel r,aI e] (eRel r):=by
 refine qSU call99 func99 rfl ?_;exact .hf _ (qs r)
theorem OwnV.rdN{mu av l}(h:OwnV mu av l):RdN mu av (lI l):=by
 rcases h with ⟨rfl,rfl⟩|⟨b,cells,rfl,j,t,o⟩
 .exact RdN.nil (.inr rfl)
 .refine RdN.sl j zOm zSp (yY l).ok (fun k y g=>?_) (fun k u y i g=>?_)
  .rw [O1.wu]at g
   obtain⟨z,_,rfl⟩:=qn.1 (List.mem_of_getElem? g);exact FL.sc _
  .rw [O1.wu]at g
   rw[Nat.zero_add]at i;have p:k<l.length:=by have:=(qj.1 g).1;simpa using this
   rw[<-o,List.getElem?_take_of_lt p,i]at g;cases g;rfl
theorem tR{mu i av l}(h:OwnV mu av l):RdN mu (.agg [aI i,av]) (eRel ⟨i,l⟩):=by
 intro G p v s r;cases r with
 |agg _ j t o =>
  refine .agg _ j (zUs t) fun k x g=>?_
  match k with
  | 0 =>
   simp at g;subst g;have:=o 0 (aI i) rfl;generalize j.getD 0 uk=u at *
   cases this with
   |sc _ h=>exact .sc _ h
  | 1 =>
   simp at g;subst g;exact OwnV.rdN h G p _ s (o 1 av rfl)
  |k+2=>simp at g
theorem Zl{n:Int}(g:0<=n)(l:n<=12){j}(i:j<=3):0<=n ^ j/\n ^ j<=8000:=Yo g zOm j i
theorem allF(ts sc bs ch n)(h0:0<=n)(h1:n<=12)(k)(hk:0<=k)(h3:k<=3) :
  u6 qd 86 [.ip (cNs ts sc (lBd bs) n ch),aI k] (eRel (KA.allN n k)):=by
 obtain⟨K,rfl⟩:=Int.eq_ofNat_of_zero_le hk;refine u6.of_sound ?_;refine qSW call86 func86 rfl {} ?_;simp[go_sem];refine aP K (fun j U=>U.tm 0 = .ip (cNs ts sc (lBd bs) n ch)/\U.tm 4 = .ptr 0 0/\U.tm 5 = .ptr 1 0/\U.tm 6=aI (n ^ j)/\U.tm 10=aI K/\U.tm 11=aI j/\U.mu=[.arr [aI 0,.lst true []],.arr [aI K,.lst true []]]) ?_ ?_
 .exact ⟨zSi,zSi,zSi,zSi,zSi,zSi,zSi⟩
 rintro j U hj ⟨e0,e4,o,e6,l,p,hm⟩;by_cases g:j<K
 .have w1:=zWk j
  have hp:=Zl h0 h1 (j:=j+1) zOm;have w2:qm.wrap (n ^ j*n)=n ^ (j+1):=by rw[show n ^ j*n=n ^ (j+1) from (Int.pow_succ n j).symm];exact zWr
  simp[go_sem,e0,e6,l,p,g,w1,w2]
  try refine⟨g,aM ?_⟩
  try refine aM ?_
  exact⟨zS1 e0,zS1 e4,zS1 o,zSi,zS1 l,zSi,zS1 hm⟩
 have C:j=K:=zOm;subst C;have hp:=Zl h0 h1 (j:=j) zOm;obtain⟨T,hT⟩:=Int.eq_ofNat_of_zero_le hp.1;rw[hT]at e6 hp;simp[go_sem,e6,l,p];refine aP T (fun i U=>U.tm 4 = .ptr 0 0/\U.tm 5 = .ptr 1 0/\U.tm 20=aI T/\U.tm 21=aI i/\RelM U.mu j ((qr i).map fun i:Nat=>(i:Int))) ?_ ?_
 .exact ⟨zS1 e4,zS1 o,zSi,zSi,.lst true [],zS1 hm,zS1 hm,.inl ⟨rfl,rfl⟩,by simp[qo],by simp[qo]⟩
 clear e0 e4 o e6 l p hm;rintro i U hi ⟨e4,o,I,J,t,g0,g1,ho,n0,n1⟩;by_cases g:i<T
 .have w1:=zWk i
  simp[go_sem,o,I,J,g,g1];refine aV (e:=3) (bt:=8) (z:=0) zSi zSi zSi zOm ho.v zSo ?_;intro a4 R P a1 a2 a3;obtain⟨k1,k2⟩:=RelM.step g0 g1 n0 n1 P a1 a2 a3;simp[go_sem,o,J,k1,P.v.one,P.v.cells,w1];refine⟨g,aM ⟨zS1 e4,zS1 o,zS1 I,zSi,?_⟩⟩;rw[List.range_succ,zh];simpa[go_sem] using k2
 .have C:i=T:=by omega
  subst C;have a0:∀ c,(U.mu.set 0 c)[0]?=some c:=fun c=>qH (qj.1 g0).1
  simp[go_sem,e4,o,I,J,g0,g1,a0,ho.v.one];have e:KA.allN n (j:Int)=⟨(j:Int),(qr i).map fun i:Nat=>(i:Int)⟩:=by
   unfold KA.allN;rw[Int.toNat_natCast,hT,Int.toNat_natCast]
  rw[e];refine tR (ho.v.same fun b hb=>?_);rw[z7 (fun e=>n0 (by rw[e];exact hb))]
end O2
namespace O3
open P1 E1 E2 E4 EO EP EQ ET F4 F6 KA KC O0 O1 O2
theorem qq5(ts sc)(S:ScN ts sc)(a8:sumI sc.sC<=12)(bs ch n i)(p:i<sc.sC.length) :
  u6 qd 171 [.ip (cNs ts sc (lBd bs) n ch),aI i] (eRel ⟨2,ZV sc i⟩):=by
 obtain⟨a1,a2,a3⟩:=S.le p;have hg:gI sc.sC i=sc.sC[i]:=ju p;refine u6.of_sound ?_;refine qSW call171 func171 rfl {} ?_;have cF:=XG sc S.g i zOm;simp[go_sem];refine t7 cF (.zk (zF sc) (.zs .nil)) ?_;unfold ZV;rw[hg];generalize hF:sumI (sc.sC.take i)=F at *
 generalize hA:sc.sC[i]=A at *
 obtain⟨M,rfl⟩:=Int.eq_ofNat_of_zero_le (show 0<=A by omega);simp[go_sem];refine aP (M-1) (fun k U=>U.tm 0 = .ip (cNs ts sc (lBd bs) n ch)/\U.tm 1=aI i/\U.tm 4 = .ptr 0 0/\U.tm 5 = .ptr 1 0/\U.tm 6=aI F/\U.tm 7=aI ((k:Int)+1)/\RelM U.mu 2 ((qr k).map fun k:Nat=>(F+k)*sumI sc.sC+(F+k+1))) ?_ ?_
 .exact ⟨zSi,zSi,zSi,zSi,zSi,zSi,.lst true [],zSi,zSi,.inl ⟨rfl,rfl⟩,by simp[qo],by simp[qo]⟩
 rintro k U hk ⟨C,J,e4,I,e6,e7,t,P,g1,T,n0,n1⟩;by_cases a0:k<M-1
 .have j:(k:Int)+1<M:=by omega
  have cR:=mX sc S.g [F+k,F+k+1] zSp (fun d hd=>by simp at hd;rcases hd with rfl|rfl<;>omega);have hr:vH (sumI sc.sC) [F+k,F+k+1]=(F+k)*sumI sc.sC+(F+k+1):=by simp[vH]
  rw[hr]at cR;have w1:qm.wrap ((k:Int)+1+1)=(k:Int)+1+1:=zWr;have w2:qm.wrap (F+((k:Int)+1))=F+k+1:=by rw[zWr];omega
  have w3:qm.wrap (F+(k:Int))=F+k:=zWr;simp[go_sem,C,J,e7,p,hA,j];refine tV zKr ?_;simp[go_sem,C,I,e6,e7,g1,w2,w3];refine fW cR (.zk (zF sc) (.cons (WK.ints [F+k,F+k+1]) .nil)) ?_;refine aV (e:=3) (bt:=8) (z:=0) zSi zSi zSi zOm T.v zSo ?_;intro a9 R l a4 a5 a6;obtain⟨k1,k2⟩:=RelM.step P g1 n0 n1 l a4 a5 a6;simp[go_sem,I,e7,k1,l.v.one,l.v.cells,w1];refine⟨a0,aM ⟨zS1 C,zS1 J,zS1 e4,zS1 I,zS1 e6,zSi,?_⟩⟩;rw[List.range_succ,zh];simpa[go_sem] using k2
 .have a7:k=M-1:=by omega
  subst a7;have j:¬((M-1:Nat):Int)+1<M:=zOm;have o:∀ c,(U.mu.set 0 c)[0]?=some c:=fun c=>qH (qj.1 P).1
  simp[go_sem,C,J,e4,I,e7,p,hA,j,P,g1,o,T.v.one];refine tR (T.v.same fun b hb=>?_);rw[z7 (fun e=>n0 (by rw[e];exact hb))]
def hdT(n g t:Int):Int:=t / powI n (g-1)
def hdK(f:Int->Int)(l:List Int):List (Int×Bool):=l.foldl (fun J u=>setK (f u) true J) []
theorem qq6(f l u):hdK f (l++[u])=setK (f u) true (hdK f l):=by simp[hdK]
theorem qeM(f:Int->Int)(x):∀(l:List Int)(es),getK x (l.foldl (fun es u=>setK (f u) true es) es)=if (∃ u,u∈l/\f u=x) then some true else getK x es
 | [],es=>zSp
 |u :: l,es=>by
  rw[List.foldl_cons,qeM f x l,vZ];by_cases h:∃ v,v∈l/\f v=x
  .obtain ⟨v,g,e⟩:=h
   rw[if_pos ⟨v,g,e⟩,if_pos ⟨v,qU _ g,e⟩]
  .rw [if_neg h]
   by_cases e:x=f u
   .rw [if_pos e,if_pos ⟨u,zj ..,e.symm⟩]
   .rw [if_neg e,if_neg]
    rintro⟨v,g,i⟩;rcases qx.1 g with rfl|g
    .exact e i.symm
    .exact h ⟨v,g,i⟩
theorem qq7(f x l):getK x (hdK f l)=if (∃ u,u∈l/\f u=x) then some true else none:=by
 rw[hdK,qeM];rfl
theorem qq8{n}(i:1<=n){A}(o:1<=A)(p:A<=3){r}(j:0<=r)(g:r<n ^ A):(digN n r A)[0]?=some (hdT n A r):=by
 obtain⟨k,rfl⟩:∃ k,A=k+1:=⟨A-1,zOm⟩;rw[digN,List.getElem?_cons_zero,kV n r i k];congr 1;have e:((k+1:Nat):Int)-1=k:=zOm;unfold hdT;rw[e,wv zOm zOm];have l:0<n ^ k:=Int.pow_pos zOm;rw[Int.toNat_natCast];rw[Int.pow_succ]at g;exact Int.emod_eq_of_lt (Int.ediv_nonneg j zOm) (Int.ediv_lt_of_lt_mul l (by rw[Int.mul_comm];exact g))
theorem qq9(n a b):uP n a b=⟨a.ar,a.ts.filter fun t=>decide (¬ ∃ u,u∈b.ts/\hdT n b.ar u=hdT n a.ar t)⟩:=by
 unfold uP hdT;congr 1;refine List.filter_congr fun t _=>?_
 rw[decide_eq_decide];exact⟨fun h ⟨u,g,e⟩=>h u g e,fun h u g e=>h ⟨u,g,e⟩⟩
theorem qeN(ts sc)(g:GSc sc)(h0:0<=sumI sc.sC)(ag:sumI sc.sC<=12)(bs ch n a b)(ha:GR (sumI sc.sC) a)(hb:GR (sumI sc.sC) b) :
  u6 qd 103 [.ip (cNs ts sc (lBd bs) n ch),eRel a,eRel b] (eRel (uP (sumI sc.sC) a b)):=by
 have cT:∀ r:Rl,GR (sumI sc.sC) r->∀ t,t∈r.ts->∃ l,qh qd 181 [eSc sc,aI r.ar,aI t] (lI (hdT (sumI sc.sC) r.ar t :: l)):=fun r hr t ht=>by
  obtain⟨v0,v1⟩:=hr.val t ht;have r1:=hr.ar1;have r3:=hr.ar3;obtain⟨A,hA⟩:=Int.eq_ofNat_of_zero_le (show 0<=r.ar by omega);rw[wv zOm zOm,hA,Int.toNat_natCast]at v1;have hn:1<=sumI sc.sC:=by
   rcases Int.lt_or_eq_of_le h0 with h|h
   .omega
   .exfalso
    rw[<-h,Int.zero_pow zOm]at v1;omega
  have h1:=qq4 sc g hn A zOm t v0 v1;have h2:=qq8 hn (A:=A) zOm zOm v0 v1;rw[hA];cases hd:digN (sumI sc.sC) t A with
  |nil=>rw[hd]at h2;cases h2
  |cons x l=>rw[hd]at h1 h2;cases h2;exact⟨l,h1⟩
 have la:=ha.len h0 zOm;have lb:=hb.len h0 zOm;have hR:=qq9 (sumI sc.sC) a b;generalize uP (sumI sc.sC) a b=R at *
 refine u6.of_sound ?_;refine qSW call103 func103 rfl {} ?_;simp[go_sem];obtain⟨B,hB⟩:∃ B,B=AV.mp 2:=⟨_,rfl⟩;have ah:B.cells=[B]:=by rw[hB];rfl
 refine aP b.ts.length (fun k U=>U.tm 0 = .ip (cNs ts sc (lBd bs) n ch)/\U.tm 4 = .ip (cRel a)/\U.tm 5 = .ip (cRel b)/\U.tm 6 = .ptr 0 0/\U.tm 7 = .ptr 1 0/\U.tm 8=B/\U.tm 18=lI b.ts/\U.tm 19=aI b.ts.length/\U.tm 20=aI k/\U.mu=[.arr [aI 0,.lst true []],.arr [aI a.ar,.lst true []],.mp (encK (fun n:Int=>aI n) (fun v:Bool=>aB v) (hdK (hdT (sumI sc.sC) b.ar) (b.ts.take k)))]) ?_ ?_
 .exact ⟨zSi,zSi,zSi,zSi,zSi,by simp[go_sem,hB],zSi,zSi,zSi,by simp[go_sem,hdK,encK]⟩
 rintro k U hk ⟨e0,e4,e5,e6,e7,e8,a1,o,C,hm⟩;by_cases i:k<b.ts.length
 .have w1:=zWk k
  obtain⟨l,cK⟩:=cT b hb _ (qv i);have hs:=qq6 (hdT (sumI sc.sC) b.ar) (b.ts.take k) b.ts[k];rw[<-yd i]at hs;have ab:U.mu[2]?=some (.mp (encK (fun n:Int=>aI n) (fun v:Bool=>aB v) (hdK (hdT (sumI sc.sC) b.ar) (b.ts.take k)))):=by rw[hm];rfl
  have a0:vR qd U.mu 240 (.mp 2) (aI (hdT (sumI sc.sC) b.ar b.ts[k])) (aB true)=_:=keyI.update (et:=4) (t:=240) zSi (mu:=U.mu) (b:=2) (venc:=fun v:Bool=>aB v) (es:=hdK (hdT (sumI sc.sC) b.ar) (b.ts.take k)) ab (k:=hdT (sumI sc.sC) b.ar b.ts[k]) (v:=true) trivial (fun _ _=>trivial);rw[<-hs,<-hB]at a0;simp[go_sem,a1,o,C,i];refine tV zKr ?_;simp[go_sem,e0,e5,e8];refine fW cK (.zk (zF sc) (.zs (.zs .nil))) ?_;refine tZ _ a0 ?_;simp[go_sem,C,w1];refine⟨i,aM ⟨zS1 e0,zS1 e4,zS1 e5,zS1 e6,by simp[go_sem,e7],zS1 e8,zS1 a1,zS1 o,zSi,zS1 hm⟩⟩
 have j:k=b.ts.length:=zOm;rw[j,q8]at hm;simp[go_sem,e4,o,C,j];have ad:∀(I:Mu)(x:Int),I[2]?=some (.mp (encK (fun n:Int=>aI n) (fun v:Bool=>aB v) (hdK (hdT (sumI sc.sC) b.ar) b.ts)))->yz qd I 240 B (aI x) false=some (aB (decide (∃ u,u∈b.ts/\hdT (sumI sc.sC) b.ar u=x))):=fun I x h=>by
  rw[hB];have:=keyI.look (et:=4) (t:=240) zSi (mu:=I) (m := .mp 2) (venc:=fun v:Bool=>aB v) (es:=hdK (hdT (sumI sc.sC) b.ar) b.ts) (by simp only[jO,h]) (k:=x) trivial (fun _ _=>trivial) (z:=aB false) zSi false;refine Eq.trans this ?_;rw[qq7];by_cases hx:∃ u,u∈b.ts/\hdT (sumI sc.sC) b.ar u=x
  .rw [if_pos hx,decide_eq_true hx];rfl
  .rw [if_neg hx,decide_eq_false hx];rfl
 generalize hE:encK (fun n:Int=>aI n) (fun v:Bool=>aB v) (hdK (hdT (sumI sc.sC) b.ar) b.ts)=E at *
 generalize hP:(fun t=>decide (¬ ∃ u,u∈b.ts/\hdT (sumI sc.sC) b.ar u=hdT (sumI sc.sC) a.ar t))=p at *
 have hp:∀ t,p t=!decide (∃ u,u∈b.ts/\hdT (sumI sc.sC) b.ar u=hdT (sumI sc.sC) a.ar t):=fun t=>by rw[<-hP];exact decide_not ..
 refine aP a.ts.length (fun k U=>U.tm 0 = .ip (cNs ts sc (lBd bs) n ch)/\U.tm 4 = .ip (cRel a)/\U.tm 6 = .ptr 0 0/\U.tm 7 = .ptr 1 0/\U.tm 8=B/\U.tm 37=lI a.ts/\U.tm 38=aI a.ts.length/\U.tm 39=aI k/\∃ av,U.mu[0]?=some (.arr [aI 0,.lst true []])/\U.mu[1]?=some (.arr [aI a.ar,av])/\U.mu[2]?=some (.mp E)/\OwnI U.mu av ((a.ts.take k).filter p)/\∀ b,qo av=some b->3<=b) ?_ ?_
 .exact ⟨zS1 e0,zS1 e4,zS1 e6,by simp[go_sem,e7],zS1 e8,zSi,zSi,zSi,.lst true [],zS1 hm,zS1 hm,zS1 hm,.inl ⟨rfl,zSp⟩,by simp[qo]⟩
 clear e0 e4 e5 e6 e7 e8 a1 o C hm i hk;rintro k U hk ⟨e0,e4,e6,e7,e8,a2,P,T,av,g0,g1,g2,ho,n3⟩;by_cases i:k<a.ts.length
 .have w1:=zWk k
  obtain⟨l,cK⟩:=cT a ha _ (qv i);have ae:=ad U.mu (hdT (sumI sc.sC) a.ar a.ts[k]) g2;have a7:=yd i;simp[go_sem,a2,P,T,i];refine tV zKr ?_;simp[go_sem,e0,e4,e8];refine t7 cK (.zk (zF sc) (.zs (.zs .nil))) ?_;simp[go_sem,ae];have a8:=hp a.ts[k];generalize hq:decide (∃ u,u∈b.ts/\hdT (sumI sc.sC) b.ar u=hdT (sumI sc.sC) a.ar a.ts[k])=q at *
  cases q with
  |true =>
   simp[go_sem,T,w1];refine⟨i,aM ⟨zS1 e0,zS1 e4,zS1 e6,by simp[go_sem,e7],zS1 e8,zS1 a2,zS1 P,zSi,av,zVs g0,by simpa[go_sem] using g1,zVs g2,?_,n3⟩⟩;rw[a7,List.filter_append];simpa[go_sem,a8] using ho
  |false =>
   simp[go_sem,e7,g1];refine aV (e:=3) (bt:=8) (z:=0) zSi zSi zSi zOm ho.v (zW2 (List.length_filter_le p (a.ts.take k)) (List.length_take_le' k a.ts)) ?_;intro af a3 a4 a5 ai a9;have l2:=(qj.1 g2).1;have k0:a3[0]?=some (.arr [aI 0,.lst true []]):=by rw[a5 0 zOm (fun e=>zW1 (n3 0 e))];exact g0
   have k1:a3[1]?=some (.arr [aI a.ar,av]):=by rw[a5 1 zOm (fun e=>zW1 (n3 1 e))];exact g1
   have k2:a3[2]?=some (.mp E):=by rw[a5 2 zOm (fun e=>zW1 (n3 2 e))];exact g2
   simp[go_sem,e7,T,k1,a4.v.one,a4.v.cells,w1];refine⟨i,aM ⟨zS1 e0,zS1 e4,zS1 e6,by simp[go_sem,e7],zS1 e8,zS1 a2,zS1 P,zSi,af,?_,?_,?_,?_,fun b hb=>zW1 (a9 b hb)⟩⟩
   .simp only[qK];rw[zGl];exact k0
   .simp only[qK];rw[qH zOm]
   .simp only[qK];rw[zGl];exact k2
   .rw [a7,List.filter_append]
    simp only[qK,List.filter_cons,a8,List.filter_nil,Bool.not_false,if_true];exact a4.same fun b hb=>by rw[z7 (fun e=>zW1 (a9 b hb))]
 .have j:k=a.ts.length:=by omega
  rw[j,q8]at ho;have aa:∀ c,(U.mu.set 0 c)[0]?=some c:=fun c=>qH (qj.1 g0).1
  simp[go_sem,e6,e7,P,T,j,g0,g1,aa,ho.v.one];rw[hR];refine tR (ho.v.same fun b hb=>?_);rw[z7 (fun e=>zW1 (n3 b hb))]
end O3
namespace O4
open Y1 Y10 P1 E4 EO EP EW F6 GF KA KC O0 O2 O3
abbrev cVb(e:dA×Bd):List AV:=aS e.1 :: cBd e.2
theorem qrA(nm l e):Zh nm (l++[e])=if e.1=nm then some e.2 else Zh nm l:=by simp[Zh,List.foldl_append]
abbrev cZ4:List AV:=[aI 0,.lst true [],aI 0,.lst true []]
theorem qeO{bs:List Bd}{i}(h):((bs.map cBd).flatten.drop (i*4)).take 4=cBd bs[i]:=by
 induction bs generalizing i with
 |nil=>simp at h
 |cons b bs g =>
  cases i with
  |zero=>simp[cBd]
  |succ i =>
   have e:(i+1)*4=4+i*4:=zOm;rw[zd,List.flatten_cons,e,<-List.drop_drop];have:(cBd b++(bs.map cBd).flatten).drop 4=(bs.map cBd).flatten:=by
    rw[show (4:Nat)=(cBd b).length from rfl,List.drop_left]
   rw[this,g (zUs h)];rfl
structure NmOk (ts:TS) (sc:Sc) (bs:List Bd):Prop where
 S:ScN ts sc
 h12:sumI sc.sC<=12
 bl:bs.length=ts.sA.length
 nf:ts.sA.length<=1000000
 sz:∀ x,x∈ts.sS->x.1.size<=4611686018427387904
theorem nameM{ts sc bs ch bv p mu}(hN:NsR mu p ts sc bs ch bv)(W:NmOk ts sc bs)(full env)(he:env.length<=1000000)(nm) :
  yx qd 84 [.ptr p 0,.lst full (env.map cVb),aS nm] mu (eBd (yi ⟨ts,sc,bs⟩ env nm)):=by
 have b0:ts.sS.length=sc.sC.length:=W.S.ns;have ak:sc.sC.length<=1000:=zW1 W.S.g.1;have au:∀ l,(mu++l)[p]?=some (.arr (cNs ts sc bv (sumI sc.sC) ch)):=fun l=>zB hN.st l
 have b1:=(qj.1 hN.st).1;refine yx.of ?_;refine qSW call84 func84 rfl {} ?_;have az:∀ b:Bd,Rd (cutM (fun i=>decide (mu.length<=i)) mu 0) (eBd b) (eBd b):=fun b => .hf _ (yr b)
 generalize hR:yi ⟨ts,sc,bs⟩ env nm=R;simp[go_sem];have w0:qm.wrap ((env.length:Int)-1)=(env.length:Int)-1:=zWr;refine aP env.length (fun k U=>U.tm 0 = .ptr p 0/\U.tm 1 = .lst full (env.map cVb)/\U.tm 2=aS nm/\U.tm 6 = .ptr mu.length 0/\U.tm 7=aI ((env.length:Int)-1-k)/\U.mu=mu++[.arr cZ4]/\Zh nm (env.take (env.length-k))=Zh nm env) ?_ ?_
 .exact ⟨zSi,zSi,zSi,zSi,zS1 w0,zSi,zSp⟩
 rintro k U hk ⟨e0,e1,I,P,e7,hm,hl⟩;by_cases o:k<env.length
 .obtain ⟨J,hJ,af⟩:∃ J,env.length-k=J+1/\J<env.length:=⟨env.length-k-1,zOm,zOm⟩
  have a7:U.tm 7=aI (J:Int):=by rw[e7];congr 2;omega
  have w1:qm.wrap ((J:Int)-1)=(env.length:Int)-1-((k+1:Nat):Int):=by rw[zWr];omega
  rw[hJ,yd af,qrA]at hl;by_cases hx:env[J].1=nm
  .rw [if_pos hx]at hl
   have a8:R=env[J].2:=by rw[<-hR,yi,<-hl]
   simp[go_sem,y5,e1,I,P,a7,af,hx,hm];subst a8;exact⟨MuLe.app (MuLe.refl _) _,.hf _ (yr _)⟩
  .rw [if_neg hx]at hl
   simp[go_sem,y5,e1,I,a7,af,hx,w1]
   try refine⟨o,aM ?_⟩
   try refine aM ?_
   refine⟨zS1 e0,zS1 e1,zS1 I,zS1 P,zSi,zS1 hm,by rw[show env.length-(k+1)=J by omega];exact hl⟩
 have a9:k=env.length:=zOm;subst a9;rw[Nat.sub_self,List.take_zero]at hl;have a7:U.tm 7=aI (-1):=by rw[e7];congr 2;omega
 have aa:(match jX nm ts.sA bs with|some b=>b|none=>Zi sc nm 0 ts.sS)=R:=by
  rw[<-hR,yi,<-hl];rfl
 simp[go_sem,e0,a7,hm,au];clear hl hR;refine aP ts.sA.length (fun k U=>U.tm 0 = .ptr p 0/\U.tm 2=aS nm/\U.tm 6 = .ptr mu.length 0/\U.tm 35 = .lst false (ts.sA.map vA)/\U.tm 36=aI ts.sA.length/\U.tm 37=aI k/\U.mu[mu.length]?=some (.arr cZ4)/\MuLe mu U.mu/\jX nm (ts.sA.drop k) (bs.drop k)=jX nm ts.sA bs) ?_ ?_
 .exact ⟨zS1 e0,zS1 I,zS1 P,zSi,zSi,zSi,zSi,by simpa[go_sem] using MuLe.app (MuLe.refl mu) _,zSp⟩
 clear e0 e1 I P e7 a7 hm;rintro k U hk ⟨e0,I,P,a4,a2,a5,hz,t,hf⟩;by_cases o:k<ts.sA.length
 .have ab:k<bs.length:=by rw[W.bl];exact o
  have w1:qm.wrap ((k:Int)+1)=(k:Int)+1:=by have:=W.nf;exact zWr
  rw[ze o,ze ab,jX]at hf;have hM:∀ c:Cell,(U.mu++[c])[p]?=some (.arr (cNs ts sc bv (sumI sc.sC) ch)):=fun c=>zB (t _ _ hN.st) _
  have hZ:∀ c:Cell,(U.mu++[c])[mu.length]?=some (.arr cZ4):=fun c=>zB hz _
  have al:=(qj.1 hz).1;have C:∀ x c,((U.mu++[x]).set mu.length c)[mu.length]?=some c:=fun x c=>qH zSo
  by_cases hx:ts.sA[k].name=nm
  .rw [if_pos hx]at hf
   have a8:R=bs[k]:=by rw[<-aa,<-hf]
   have T:∀ x c,MuLe mu ((U.mu++[x]).set mu.length c):=fun x c b y hb=>by
    have an:=(qj.1 hb).1;rw[zGl];exact zB (t _ _ hb) _
   have av:=hN.bv;subst a8;rcases av with rfl|rfl|⟨b,rfl,hc⟩
   .simp [go_sem,y5,e0,I,P,a4,a2,a5,o,ab,hx,hM,hZ,C]
    exact⟨T _ _,.hf _ (yr _)⟩
   .simp [go_sem,y5,e0,I,P,a4,a2,a5,o,ab,hx,hM,hZ,C]
    exact⟨T _ _,.hf _ (yr _)⟩
   .have hC:∀ c:Cell,(U.mu++[c])[b]?=some (.arr (bs.map cBd).flatten):=fun c=>zB (t _ _ hc) _
    have ao:=qeO ab;have aw:k*4+4<=(bs.map cBd).flatten.length:=by rw[yy (sz:=4) (Vu bs).ok,zX];omega
    have ak:(bs.map cBd).length=bs.length:=zSp;rw[ak]at hM;generalize (bs.map cBd).flatten=Y at *
    simp[go_sem,y5,e0,I,P,a4,a2,a5,o,ab,hx,hM,hZ,C,hC,aw,ao];exact⟨T _ _,.hf _ (yr _)⟩
  .rw [if_neg hx]at hf
   simp[go_sem,y5,I,a4,a2,a5,o,hx,w1]
   try refine⟨o,aM ?_⟩
   try refine aM ?_
   refine⟨zS1 e0,zS1 I,zS1 P,zS1 a4,zS1 a2,zSi,by simpa[go_sem] using zB hz _,by simpa[go_sem] using MuLe.app t _,hf⟩
 have a9:k=ts.sA.length:=zOm;subst a9;have ag:jX nm ts.sA bs=none:=by rw[<-hf,zY];rfl
 rw[ag]at aa;replace aa:Zi sc nm 0 ts.sS=R:=aa;have aq:U.mu[p]?=some (.arr (cNs ts sc bv (sumI sc.sC) ch)):=t _ _ hN.st;simp[go_sem,e0,a2,a5,aq];refine aP ts.sS.length (fun k U=>U.tm 0 = .ptr p 0/\U.tm 2=aS nm/\U.tm 6 = .ptr mu.length 0/\U.tm 58 = .lst false (ts.sS.map JH)/\U.tm 59=aI ts.sS.length/\U.tm 60=aI k/\U.mu[mu.length]?=some (.arr cZ4)/\MuLe mu U.mu/\Zi sc nm k (ts.sS.drop k)=R) ?_ ?_
 .exact ⟨zS1 e0,zS1 I,zS1 P,zSi,zSi,zSi,zVs hz,zVs t,zUs aa⟩
 clear e0 I P a4 a2 a5 hz t hf o hk aq;rintro k U hk ⟨e0,I,P,a3,a0,a6,hz,t,hf⟩;have al:=(qj.1 hz).1;by_cases o:k<ts.sS.length
 .have ax:k<sc.sC.length:=by omega
  have w1:=zWk k;have ar:=W.sz _ (qv o);rw[ze o,Zi]at hf;have hM:∀ c:Cell,(U.mu++[c])[p]?=some (.arr (cNs ts sc bv (sumI sc.sC) ch)):=fun c=>zB (t _ _ hN.st) _
  have hZ:∀ c:Cell,(U.mu++[c])[mu.length]?=some (.arr cZ4):=fun c=>zB hz _
  have C:∀ x c,((U.mu++[x]).set mu.length c)[mu.length]?=some c:=fun x c=>qH zSo
  have T:∀ x c,MuLe mu ((U.mu++[x]).set mu.length c):=fun x c b y hb=>by
   have an:=(qj.1 hb).1;rw[zGl];exact zB (t _ _ hb) _
  generalize ad:ts.sS[k]=so at *
  obtain⟨sn,sb⟩:=so;have ah:sn.size<=9223372036854775801:=by simp at ar;omega
  have ai:sn.size<=9223372036854775802:=by simp at ar;omega
  simp only at hf;by_cases h1:sn=nm
  .rw [if_pos h1]at hf
   have cF:=XN sc W.S.g (fun a ha=>zW1 (W.S.a1 a ha)) [(k:Int)] (fun s hs=>by rw[qQ]at hs;omega) zSp zSp;rw[mW]at cF;have ht:(qr (gI sc.sC k).toNat).map (fun j:Nat=>sumI (sc.sC.take k)+j)=YK sc k:=rfl;rw[ht]at cF;simp[go_sem,y5,e0,I,P,a3,a0,a6,o,ad,h1,hM,hZ];refine fW cF (.zk (zF sc) (.cons (cG [(k:Int)]) .nil)) ?_;refine t7 (Jm ⟨1,YK sc k⟩) (.zk (qs _) .nil) ?_;simp[go_sem,P,hZ,C];subst hf;exact⟨T _ _,.hf _ (yr (exR ⟨1,YK sc k⟩))⟩
  rw[if_neg h1]at hf;cases sb with
  |false =>
   simp at hf;simp[go_sem,y5,I,a3,a0,a6,o,ad,h1,w1]
   try refine⟨o,aM ?_⟩
   try refine aM ?_
   refine⟨zS1 e0,zS1 I,zS1 P,zS1 a3,zS1 a0,zSi,by simpa[go_sem] using zB hz _,by simpa[go_sem] using MuLe.app t _,hf⟩
  |true =>
  simp only[true_and]at hf;by_cases h2:sn++yM=nm
  .rw [if_pos h2]at hf
   have ae:sn++(⟨#[95,102,105,114,115,116]⟩:dA)=nm:=h2;simp[go_sem,y5,e0,I,P,a3,a0,a6,o,ad,h1,ah,ai,ae,hM,hZ];refine fW (XG sc W.S.g k zOm) (.zk (zF sc) (.zs .nil)) ?_;refine t7 (Jm ⟨1,[sumI (sc.sC.take k)]⟩) (.cons (WK.aggs (.zs (.cons (cG [sumI (sc.sC.take k)]) .nil))) .nil) ?_;simp[go_sem,P,hZ,C];subst hf;exact⟨T _ _,.hf _ (yr (exR ⟨1,[sumI (sc.sC.take k)]⟩))⟩
  rw[if_neg h2]at hf;have ae:¬sn++(⟨#[95,102,105,114,115,116]⟩:dA)=nm:=h2;by_cases h3:sn++jl=nm
  .rw [if_pos h3]at hf
   have aj:sn++(⟨#[95,110,101,120,116]⟩:dA)=nm:=h3;have ay:∀ c:Cell,NsR (U.mu++[c]) p ts sc bs ch bv:=fun c=>(hN.le t).le (MuLe.push _ c)
   simp[go_sem,y5,e0,I,P,a3,a0,a6,o,ad,h1,ah,ai,ae,aj,hM,hZ];refine fY (qq5 ts sc W.S W.h12 bs ch (sumI sc.sC) k ax) ⟨(ay _).rd,.hf _ (HF.sc _),trivial⟩ ?_;simp[go_sem];refine t7 (Jm ⟨2,ZV sc k⟩) (.zk (qs _) .nil) ?_;simp[go_sem,P,hZ,C];subst hf;exact⟨T _ _,.hf _ (yr (exR ⟨2,ZV sc k⟩))⟩
  rw[if_neg h3]at hf;have aj:¬sn++(⟨#[95,110,101,120,116]⟩:dA)=nm:=h3;simp[go_sem,y5,I,a3,a0,a6,o,ad,h1,ah,ai,ae,aj,w1]
  try refine⟨o,aM ?_⟩
  try refine aM ?_
  refine⟨zS1 e0,zS1 I,zS1 P,zS1 a3,zS1 a0,zSi,by simpa[go_sem] using zB hz _,by simpa[go_sem] using MuLe.app t _,hf⟩
 .have a9:k=ts.sS.length:=by omega
  subst a9;have a8:R=bd0:=by rw[<-hf,zY];rfl
  have C:∀ c,(U.mu.set mu.length c)[mu.length]?=some c:=fun c=>qH al
  have T:∀ c,MuLe mu (U.mu.set mu.length c):=fun c b y hb=>by
   have an:=(qj.1 hb).1;rw[zGl];exact t _ _ hb
  simp[go_sem,P,a0,a6,hz,C];subst a8;exact⟨T _,Rd.aggs ⟨.hf _ (HF.sc _),.wk _ true _ (.hf _ (HF.lst fun r hr=>by simp at hr)),.hf _ (HF.sc _),.wk _ true _ (.hf _ (HF.lst fun r hr=>by simp at hr)),trivial⟩⟩
end O4
namespace O5
open P1 E1 E2 E3 EQ ET EY F3 GF KA KB O0 O2 O4
variable {ts:TS} {sc:Sc} {bs:List Bd} {ch:Bool} {bv:AV} {p:Nat} {mu:Mu}
theorem qrB(i:NsR mu p ts sc bs ch bv)(W:NmOk ts sc bs)(r)(j:GR (sumI sc.sC) r)(o:r.ar=2):yx qd 89 [eRel r,.ip [.ptr p 0]] mu (eRel (trR (sumI sc.sC) r)):=by
 have g:∀ l,(mu++l)[p]?=some (.arr (cNs ts sc bv (sumI sc.sC) ch)):=fun l=>zB i.st l
 refine yx.of ?_;refine qSW call89 func89 rfl {} ?_;simp[go_sem];refine tV zKr ?_;simp[go_sem,g];refine fW (Uy _ W.S.n0 W.h12 r j o) (.zs (.zk (qs r) .nil)) ?_;exact⟨MuLe.app (MuLe.refl _) _,.hf _ (qs _)⟩
theorem closM(i:NsR mu p ts sc bs ch bv)(W:NmOk ts sc bs)(r)(j:GR (sumI sc.sC) r)(o:r.ar=2):yx qd 91 [eRel r,.ip [.ptr p 0]] mu (eRel (clR (sumI sc.sC) 200 r)):=by
 have g:∀ l,(mu++l)[p]?=some (.arr (cNs ts sc bv (sumI sc.sC) ch)):=fun l=>zB i.st l
 refine yx.of ?_;refine qSW call91 func91 rfl {} ?_;simp[go_sem];refine tV zKr ?_;simp[go_sem,g];refine fW (XP _ W.S.n0 W.h12 r j o) (.zs (.zk (qs r) .nil)) ?_;exact⟨MuLe.app (MuLe.refl _) _,.hf _ (qs _)⟩
theorem reflM(o:NsR mu p ts sc bs ch bv)(W:NmOk ts sc bs)(r)(i:GR (sumI sc.sC) r)(j:r.ar=2):yx qd 93 [eRel r,.ip [.ptr p 0]] mu (eRel (unR (clR (sumI sc.sC) 200 r) (idR (sumI sc.sC)))):=by
 have g:∀ l,(mu++l)[p]?=some (.arr (cNs ts sc bv (sumI sc.sC) ch)):=fun l=>zB o.st l
 have g1:=aR W.S.n0 200 i j;have t:=GR.iden W.S.n0;have C:=g1.1.len W.S.n0 (zW1 W.h12);have I:=t.len W.S.n0 (zW1 W.h12);refine yx.of ?_;refine qSW call93 func93 rfl {} ?_;simp[go_sem];refine tV zKr ?_;simp[go_sem,g];refine t7 (XP _ W.S.n0 W.h12 r i j) (.zs (.zk (qs r) .nil)) ?_;simp[go_sem,g];refine fW (UC _ W.S.n0 W.h12) (.zs .nil) ?_;refine fW (jm _ _ zOm zOm) (.zk (qs _) (.zk (qs _) .nil)) ?_;exact⟨MuLe.app (MuLe.refl _) _,.hf _ (qs _)⟩
theorem joinM(i:NsR mu p ts sc bs ch bv)(W:NmOk ts sc bs)(a b)(j:GR (sumI sc.sC) a)(o:GR (sumI sc.sC) b)(t:a.ar+b.ar<=5->a.ts.length*b.ts.length<=1000000):yx qd 98 [eRel a,eRel b,.ip [.ptr p 0]] mu (eRel (vE (jw (sumI sc.sC) a b))):=by
 have g:∀ l,(mu++l)[p]?=some (.arr (cNs ts sc bv (sumI sc.sC) ch)):=fun l=>zB i.st l
 have C:=uL _ W.S.n0 W.h12 a b j o t;refine yx.of ?_;refine qSW call98 func98 rfl {} ?_;simp[go_sem];refine tV zKr ?_;simp[go_sem,g];refine t7 C (.zs (.zk (qs a) (.zk (qs b) .nil))) ?_;cases I:jw (sumI sc.sC) a b with
 |ok r =>
  simp[go_sem];refine fW (Wi r 0) (.zk (qs r) (.zs .nil)) ?_;exact⟨MuLe.app (MuLe.refl _) _,.hf _ (qs r)⟩
 |error e =>
  simp[go_sem];refine fW (Wi ⟨0,[]⟩ e) (.zk (qs _) (.zs .nil)) ?_;exact⟨MuLe.app (MuLe.refl _) _,.hf _ (qs rl0)⟩
theorem prodM(i:NsR mu p ts sc bs ch bv)(W:NmOk ts sc bs)(a b)(j:GR (sumI sc.sC) a)(o:GR (sumI sc.sC) b):yx qd 101 [eRel a,eRel b,.ip [.ptr p 0]] mu (eRel (vE (jT (sumI sc.sC) a b))):=by
 have g:∀ l,(mu++l)[p]?=some (.arr (cNs ts sc bv (sumI sc.sC) ch)):=fun l=>zB i.st l
 have t:=Uj _ W.S.n0 W.h12 a b j o;refine yx.of ?_;refine qSW call101 func101 rfl {} ?_;simp[go_sem];refine tV zKr ?_;simp[go_sem,g];refine t7 t (.zs (.zk (qs a) (.zk (qs b) .nil))) ?_;cases C:jT (sumI sc.sC) a b with
 |ok r =>
  simp[go_sem];refine fW (Wi r 0) (.zk (qs r) (.zs .nil)) ?_;exact⟨MuLe.app (MuLe.refl _) _,.hf _ (qs r)⟩
 |error e =>
  simp[go_sem];refine fW (Wi ⟨0,[]⟩ e) (.zk (qs _) (.zs .nil)) ?_;exact⟨MuLe.app (MuLe.refl _) _,.hf _ (qs rl0)⟩
theorem unM{b x}(C:mu[b]?=some (.arr (cBd x))){I}{f:Rl->Rl}(hf:Zr qd mu I eRel (fun r=>r=x.lo\/r=x.up) (fun r=>eRel (f r))) :
  yx qd 88 [I,.ptr b 0] mu (eBd ⟨f x.lo,f x.up⟩):=by
 have R:∀ m,MuLe mu m->m[b]?=some (.arr (cBd x)):=fun m h=>h _ _ C
 refine yx.of ?_;refine qSW call88 func88 rfl {} ?_;have g:∀ l,(mu++l)[b]?=some (.arr (cBd x)):=fun l=>zB C l
 simp[go_sem];refine fG [0,1,2,4,5,6,3,7,8,9] [(0,0,[]),(1,0,[]),(2,0,[]),(4,0,[]),(5,0,[]),(6,0,[]),(3,1,[6]),(7,1,[]),(8,0,[]),(9,1,[])] zKr zKr zSi ?_;simp[go_sem,g];refine Zr.call (enc:=eRel) hf (.inl rfl) (MuLe.app (MuLe.refl _) _) fun U o=>?_
 have i:=o _ _ (g _);simp[go_sem,i];refine Zr.call (enc:=eRel) hf (.inr rfl) ((MuLe.app (MuLe.refl _) _).trans o) fun T J=>?_
 have P:=J _ _ (o mu.length (.arr cZ4) zSp);have t:=(qj.1 P).1;have j:∀ c,(T.set mu.length c)[mu.length]?=some c:=fun c=>qH t
 simp[go_sem,P,j];exact⟨tG (((MuLe.app (MuLe.refl _) _).trans o).trans J) (qk _) _,.hf _ (yr ⟨f x.lo,f x.up⟩)⟩
theorem biM{b c x y}(T:mu[b]?=some (.arr (cBd x)))(U:mu[c]?=some (.arr (cBd y))){J f}(hf:Ql qd mu J eRel (fun r s=>(r=x.lo/\s=y.lo)\/(r=x.up/\s=y.up)) (fun r s=>eRel (f r s))) :
  yx qd 95 [J,.ptr b 0,.ptr c 0] mu (eBd (map2 f x y)):=by
 refine yx.of ?_;refine qSW call95 func95 rfl {} ?_;have g:∀ l,(mu++l)[b]?=some (.arr (cBd x)):=fun l=>zB T l
 have i:∀ l,(mu++l)[c]?=some (.arr (cBd y)):=fun l=>zB U l
 simp[go_sem];refine fG [0,1,2,3,4,6,7,8,9,10,5,11,12,13] [(0,0,[]),(1,0,[]),(2,0,[]),(3,0,[]),(4,0,[]),(6,0,[]),(7,0,[]),(8,0,[]),(9,0,[]),(10,0,[]),(5,1,[8,10]),(11,1,[]),(12,0,[]),(13,1,[])] zKr zKr zSi ?_;simp[go_sem,g,i];refine Ql.call (enc:=eRel) hf (.inl ⟨rfl,rfl⟩) (MuLe.app (MuLe.refl _) _) fun m1 j=>?_
 have o:=j _ _ (g _);have p:=j _ _ (i _);simp[go_sem,o,p];refine Ql.call (enc:=eRel) hf (.inr ⟨rfl,rfl⟩) ((MuLe.app (MuLe.refl _) _).trans j) fun m2 P=>?_
 have R:=P _ _ (j mu.length (.arr cZ4) zSp);have I:=(qj.1 R).1;have t:∀ c,(m2.set mu.length c)[mu.length]?=some c:=fun c=>qH I
 simp[go_sem,R,t];exact⟨tG (((MuLe.app (MuLe.refl _) _).trans j).trans P) (qk _) _,.hf _ (yr (map2 f x y))⟩
end O5
set_option maxHeartbeats 1000000
namespace O6
open Y1 P1 E1 E2 E3 E4 EQ ER EY F3 F6 GF KA KB O0 O2 O3 O4 O5
variable {ts:TS} {sc:Sc} {bs:List Bd}
def IvM(ts:TS)(sc:Sc)(bs:List Bd)(env:List (dA×Bd))(n:Nd):Prop:=∀(I:Mu)(p:Nat)(g:Bool)(i:AV)(full:Bool),NsR I p ts sc bs g i->yx qd 40 [.ptr p 0,.lst full (env.map cVb),eNd n] I (eBd (ivl ⟨ts,sc,bs⟩ env n))
theorem Wj(W:NmOk ts sc bs)(env)(he:env.length<=1000000)(n)(ho:n.op=1\/(n.op=2)\/n.op=3\/n.op=4):IvM ts sc bs env n:=by
 intro I p t T full U;have C:∀ l,(I++l)[p]?=some (.arr (cNs ts sc T (sumI sc.sC) t)):=fun l=>zB U.st l
 have i:∀ l,NsR (I++l) p ts sc bs t T:=fun l=>U.le (MuLe.app (MuLe.refl _) l)
 have hz:∀ c:Cell,(I++[c])[I.length]?=some c:=fun c=>zSp
 have J:=vI ⟨ts,sc,bs⟩ env n;rw[J];refine yx.of ?_;refine qSW call40 func40 rfl {} ?_;generalize o:opI ⟨ts,sc,bs⟩ env n.op n.name n.n (n.sD.map (ivl ⟨ts,sc,bs⟩ env))=R;have a0:∀ c d:Cell,((I++[c]).set I.length d)[I.length]?=some d:=fun c d=>qH zSp
 rcases ho with h|h|h|h
 .have g:R=yi ⟨ts,sc,bs⟩ env n.name:=by rw[<-o,h];rfl
  subst g;simp[go_sem,h];refine qg.mem (nameM (i _) W full env he n.name) fun m1 h1=>?_
  have j:=h1 _ _ (hz (.arr cZ4));have P:∀ c,(m1.set I.length c)[I.length]?=some c:=fun c=>qH (qj.1 j).1
  simp[go_sem,j,P];exact⟨tG ((MuLe.app (MuLe.refl _) _).trans h1) (qk _) _,.hf _ (yr (yi ⟨ts,sc,bs⟩ env n.name))⟩
 .have g:R=exR ⟨n.n,[]⟩:=by rw[<-o,h];rfl
  subst g;simp[go_sem,h];refine fW (Jm ⟨n.n,[]⟩) (.cons (WK.aggs (.zs (.cons (WK.lst fun r hr=>absurd hr qN) .nil))) .nil) ?_;exact⟨MuLe.app (MuLe.refl _) _,.hf _ (yr (exR ⟨n.n,[]⟩))⟩
 .have g:R=exR (KA.allN (sumI sc.sC) 1):=by rw[<-o,h];rfl
  subst g;simp[go_sem,h];refine fY (allF ts sc bs t (sumI sc.sC) W.S.n0 W.h12 1 zOm zOm) ⟨(i _).rd,.hf _ (HF.sc _),trivial⟩ ?_;simp[go_sem];refine fW (Jm (KA.allN (sumI sc.sC) 1)) (.zk (qs _) .nil) ?_;exact⟨MuLe.app (MuLe.refl _) _,.hf _ (yr (exR (KA.allN (sumI sc.sC) 1)))⟩
 .have g:R=exR (idR (sumI sc.sC)):=by rw[<-o,h];rfl
  subst g;simp[go_sem,h,C];refine fW (UC _ W.S.n0 W.h12) (.zs .nil) ?_;refine fW (Jm (idR (sumI sc.sC))) (.zk (qs _) .nil) ?_;exact⟨MuLe.app (MuLe.refl _) _,.hf _ (yr (exR (idR (sumI sc.sC))))⟩
theorem qeP(W:NmOk ts sc bs)(env n x a)(hk:n.sD=[x])(ho:n.op=5\/(11<=n.op/\n.op<=13))(o:okI (sumI sc.sC) a (ivl ⟨ts,sc,bs⟩ env x))(t:11<=n.op->a=2)(ih:IvM ts sc bs env x):IvM ts sc bs env n:=by
 intro I p ch bv full hN;have a6:∀ l,(I++l)[p]?=some (.arr (cNs ts sc bv (sumI sc.sC) ch)):=fun l=>zB hN.st l
 have a1:∀ l,NsR (I++l) p ts sc bs ch bv:=fun l=>hN.le (MuLe.app (MuLe.refl _) l)
 have a4:=vI ⟨ts,sc,bs⟩ env n;rw[a4];refine yx.of ?_;refine qSW call40 func40 rfl {} ?_;have n1:¬n.op=1:=zOm;have n2:¬n.op=2:=zOm;have n3:¬n.op=3:=zOm;have n4:¬n.op=4:=zOm;generalize hR:opI ⟨ts,sc,bs⟩ env n.op n.name n.n (n.sD.map (ivl ⟨ts,sc,bs⟩ env))=R;rw[hk]at hR;generalize hX:ivl ⟨ts,sc,bs⟩ env x=X at *
 have hz:∀ c:Cell,(I++[c])[I.length]?=some c:=fun c=>zSp
 simp[go_sem,n1,n2,n3,n4,hk];refine fG [0,1,2,3,4,5,6,7,8] [(0,0,[]),(1,0,[]),(2,0,[]),(3,0,[]),(4,0,[]),(5,0,[]),(6,1,[]),(7,2,[0,3,5]),(8,1,[])] zKr zKr zSi ?_;simp[go_sem,hk];have ih:=ih _ _ _ _ full (a1 [.arr cZ4]);rw[hX]at ih;refine qg.mem ih fun J h1=>?_
 have a3:=h1 _ _ (hz (.arr cZ4));have a0:=(a1 _).le h1;have P:∀ l,(J++l)[I.length]?=some (.arr cZ4):=fun l=>zB a3 l
 have a7:=(qj.1 a3).1;have a5:∀ x c:Cell,((J++[x]).set I.length c)[I.length]?=some c:=fun x c=>qH zSo
 have j:MuLe I J:=(MuLe.app (MuLe.refl _) _).trans h1;rcases (show n.op=5\/n.op=11\/n.op=12\/n.op=13 by omega) with h|h|h|h
 .have i:R=X:=by rw[<-hR,h,zd,hX];rfl
  subst i;simp[go_sem,hk,h,P,a5];exact⟨tG (MuLe.app j _) (qk _) _,.hf _ (yr _)⟩
 .have i:R=⟨trR (sumI sc.sC) X.lo,trR (sumI sc.sC) X.up⟩:=by rw[<-hR,h,zd,hX];rfl
  subst i;have T:a=2:=t zOm;have hf:Zr qd (J++[.arr (cBd X)]) (.fn (.func 89) [] [.ip [.ptr p 0]]) eRel (fun r=>r=X.lo\/r=X.up) (fun r=>eRel (trR (sumI sc.sC) r)):=
   ⟨_,_,rfl,fun r U m hm=>qrB ((a0.le (MuLe.app (MuLe.refl _) _)).le hm) W r (by rcases U with rfl|rfl;exact o.lo;exact o.up) (by rcases U with rfl|rfl;exact o.la.trans T;exact o.ua.trans T)⟩
  simp[go_sem,hk,h];refine qg.mem (unM (b:=J.length) (x:=X) zSp hf) fun m2 t=>?_
  have g:=t _ _ (P [.arr (cBd X)]);have C:∀ c,(m2.set I.length c)[I.length]?=some c:=fun c=>qH (qj.1 g).1
  simp[go_sem,g,C];exact⟨tG ((j.trans (MuLe.app (MuLe.refl _) _)).trans t) (qk _) _,.hf _ (yr ⟨trR (sumI sc.sC) X.lo,trR (sumI sc.sC) X.up⟩)⟩
 .have i:R=⟨clR (sumI sc.sC) 200 X.lo,clR (sumI sc.sC) 200 X.up⟩:=by rw[<-hR,h,zd,hX];rfl
  subst i;have T:a=2:=t zOm;have hf:Zr qd (J++[.arr (cBd X)]) (.fn (.func 91) [] [.ip [.ptr p 0]]) eRel (fun r=>r=X.lo\/r=X.up) (fun r=>eRel (clR (sumI sc.sC) 200 r)):=
   ⟨_,_,rfl,fun r U m hm=>closM ((a0.le (MuLe.app (MuLe.refl _) _)).le hm) W r (by rcases U with rfl|rfl;exact o.lo;exact o.up) (by rcases U with rfl|rfl;exact o.la.trans T;exact o.ua.trans T)⟩
  simp[go_sem,hk,h];refine qg.mem (unM (b:=J.length) (x:=X) zSp hf) fun m2 t=>?_
  have g:=t _ _ (P [.arr (cBd X)]);have C:∀ c,(m2.set I.length c)[I.length]?=some c:=fun c=>qH (qj.1 g).1
  simp[go_sem,g,C];exact⟨tG ((j.trans (MuLe.app (MuLe.refl _) _)).trans t) (qk _) _,.hf _ (yr ⟨clR (sumI sc.sC) 200 X.lo,clR (sumI sc.sC) 200 X.up⟩)⟩
 .have i:R=⟨unR (clR (sumI sc.sC) 200 X.lo) (idR (sumI sc.sC)),unR (clR (sumI sc.sC) 200 X.up) (idR (sumI sc.sC))⟩:=by rw[<-hR,h,zd,hX];rfl
  subst i;have T:a=2:=t zOm;have hf:Zr qd (J++[.arr (cBd X)]) (.fn (.func 93) [] [.ip [.ptr p 0]]) eRel (fun r=>r=X.lo\/r=X.up) (fun r=>eRel (unR (clR (sumI sc.sC) 200 r) (idR (sumI sc.sC)))):=
   ⟨_,_,rfl,fun r U m hm=>reflM ((a0.le (MuLe.app (MuLe.refl _) _)).le hm) W r (by rcases U with rfl|rfl;exact o.lo;exact o.up) (by rcases U with rfl|rfl;exact o.la.trans T;exact o.ua.trans T)⟩
  simp[go_sem,hk,h];refine qg.mem (unM (b:=J.length) (x:=X) zSp hf) fun m2 t=>?_
  have g:=t _ _ (P [.arr (cBd X)]);have C:∀ c,(m2.set I.length c)[I.length]?=some c:=fun c=>qH (qj.1 g).1
  simp[go_sem,g,C];exact⟨tG ((j.trans (MuLe.app (MuLe.refl _) _)).trans t) (qk _) _,.hf _ (yr ⟨unR (clR (sumI sc.sC) 200 X.lo) (idR (sumI sc.sC)),unR (clR (sumI sc.sC) 200 X.up) (idR (sumI sc.sC))⟩)⟩
theorem qrC(W:NmOk ts sc bs)(env n x f)(o:n.sD=[x,f])(h:n.op=15)(t:IvM ts sc bs env x):IvM ts sc bs env n:=by
 intro I p ch bv full hN;have a1:∀ l,(I++l)[p]?=some (.arr (cNs ts sc bv (sumI sc.sC) ch)):=fun l=>zB hN.st l
 have g:∀ l,NsR (I++l) p ts sc bs ch bv:=fun l=>hN.le (MuLe.app (MuLe.refl _) l)
 have C:=vI ⟨ts,sc,bs⟩ env n;rw[C];refine yx.of ?_;refine qSW call40 func40 rfl {} ?_;have n1:¬n.op=1:=zOm;have n2:¬n.op=2:=zOm;have n3:¬n.op=3:=zOm;have n4:¬n.op=4:=zOm;generalize hR:opI ⟨ts,sc,bs⟩ env n.op n.name n.n (n.sD.map (ivl ⟨ts,sc,bs⟩ env))=R;rw[o]at hR;generalize hX:ivl ⟨ts,sc,bs⟩ env x=X at *
 have hz:∀ c:Cell,(I++[c])[I.length]?=some c:=fun c=>zSp
 simp[go_sem,n1,n2,n3,n4,o];refine fG [0,1,2,3,4,5,6,7,8] [(0,0,[]),(1,0,[]),(2,0,[]),(3,0,[]),(4,0,[]),(5,0,[]),(6,1,[]),(7,2,[0,3,5]),(8,1,[])] zKr zKr zSi ?_;simp[go_sem,o];have t:=t _ _ _ _ full (g [.arr cZ4]);rw[hX]at t;refine qg.mem t fun J P=>?_
 have i:=P _ _ (hz (.arr cZ4));have a2:=(g _).le P;have T:∀ l,(J++l)[I.length]?=some (.arr cZ4):=fun l=>zB i l
 have a3:=(qj.1 i).1;have U:∀ x c:Cell,((J++[x]).set I.length c)[I.length]?=some c:=fun x c=>qH zSo
 have j:MuLe I J:=(MuLe.app (MuLe.refl _) _).trans P;have a0:R=⟨⟨1,[]⟩,X.up⟩:=by rw[<-hR,h,zd,hX];rfl
 subst a0;simp[go_sem,o,h,T,U];exact⟨tG (MuLe.app j _) (qk _) _,Rd.aggs ⟨.hf _ (HF.sc _),.wk _ true _ (.hf _ (HF.lst fun r hr=>by simp at hr)),.hf _ (HF.sc _),.hf _ (zx _),trivial⟩⟩
theorem kW(W:NmOk ts sc bs)(env n x y a b)(hk:n.sD=[x,y])(ho:(6<=n.op/\n.op<=10)\/n.op=14)(hx:okI (sumI sc.sC) a (ivl ⟨ts,sc,bs⟩ env x))(hy:okI (sumI sc.sC) b (ivl ⟨ts,sc,bs⟩ env y))(ih:IvM ts sc bs env x)(aa:IvM ts sc bs env y):IvM ts sc bs env n:=by
 intro I p ch bv full hN;have aj:∀ l,(I++l)[p]?=some (.arr (cNs ts sc bv (sumI sc.sC) ch)):=fun l=>zB hN.st l
 have a2:∀ l,NsR (I++l) p ts sc bs ch bv:=fun l=>hN.le (MuLe.app (MuLe.refl _) l)
 have ab:=vI ⟨ts,sc,bs⟩ env n;rw[ab];refine yx.of ?_;refine qSW call40 func40 rfl {} ?_;have n1:¬n.op=1:=zOm;have n2:¬n.op=2:=zOm;have n3:¬n.op=3:=zOm;have n4:¬n.op=4:=zOm;generalize hR:opI ⟨ts,sc,bs⟩ env n.op n.name n.n (n.sD.map (ivl ⟨ts,sc,bs⟩ env))=R;rw[hk]at hR;have a3:=fun (I:Mu) (ch:Bool) (bv:AV) (h:NsR I p ts sc bs ch bv)=>aa _ _ _ _ full h
 generalize hX:ivl ⟨ts,sc,bs⟩ env x=X at *
 generalize hY:ivl ⟨ts,sc,bs⟩ env y=Y at *
 have hz:∀ c:Cell,(I++[c])[I.length]?=some c:=fun c=>zSp
 simp[go_sem,n1,n2,n3,n4,hk];refine fG [0,1,2,3,4,5,6,7,8] [(0,0,[]),(1,0,[]),(2,0,[]),(3,0,[]),(4,0,[]),(5,0,[]),(6,1,[]),(7,2,[0,3,5]),(8,1,[])] zKr zKr zSi ?_;simp[go_sem,hk];have ih:=ih _ _ _ _ full (a2 [.arr cZ4]);rw[hX]at ih;refine qg.mem ih fun m1 h1=>?_
 have a4:=h1 _ _ (hz (.arr cZ4));have a5:=(a2 _).le h1;have ad:∀ l,(m1++l)[I.length]?=some (.arr cZ4):=fun l=>zB a4 l
 have ak:=(qj.1 a4).1;have al:∀ x c:Cell,((m1++[x]).set I.length c)[I.length]?=some c:=fun x c=>qH zSo
 have a6:MuLe I m1:=(MuLe.app (MuLe.refl _) _).trans h1;have n5:¬n.op=5:=zOm;have ae:¬n.op=11:=zOm;have af:¬n.op=12:=zOm;have ag:¬n.op=13:=zOm;have ah:¬n.op=15:=zOm;simp[go_sem,hk,n5,ae,af,ag,ah];refine fG [0,1,2,3,4,5,6,7,8] [(0,0,[]),(1,0,[]),(2,0,[]),(3,0,[]),(4,0,[]),(5,0,[]),(6,1,[]),(7,2,[0,3,5]),(8,1,[])] zKr zKr zSi ?_;simp[go_sem,hk];refine qg.mem (a3 _ _ _ (a5.le (MuLe.app (MuLe.refl _) [.arr (cBd X)]))) fun J h2=>?_
 have a0:J[m1.length]?=some (.arr (cBd X)):=h2 _ _ zSp;have a7:=h2 _ _ (ad [.arr (cBd X)]);have a1:=(a5.le (MuLe.app (MuLe.refl _) [.arr (cBd X)])).le h2;have T:∀ l,(J++l)[I.length]?=some (.arr cZ4):=fun l=>zB a7 l
 have U:∀ l,(J++l)[m1.length]?=some (.arr (cBd X)):=fun l=>zB a0 l
 have ai:=(qj.1 a7).1;have a8:∀ x c:Cell,((J++[x]).set I.length c)[I.length]?=some c:=fun x c=>qH zSo
 have o:MuLe I J:=(a6.trans (MuLe.app (MuLe.refl _) _)).trans h2;have x1:=hx.lo.len W.S.n0 (zW1 W.h12);have x2:=hx.up.len W.S.n0 (zW1 W.h12);have y1:=hy.lo.len W.S.n0 (zW1 W.h12);have y2:=hy.up.len W.S.n0 (zW1 W.h12);have t:∀ r s:Rl,(r=X.lo/\s=Y.lo)\/(r=X.up/\s=Y.up)->GR (sumI sc.sC) r/\GR (sumI sc.sC) s:=fun r s h=>by
  rcases h with ⟨rfl,rfl⟩|⟨rfl,rfl⟩
  .exact ⟨hx.lo,hy.lo⟩
  .exact ⟨hx.up,hy.up⟩
 have P:∀ r s:Rl,GR (sumI sc.sC) r->GR (sumI sc.sC) s->r.ts.length<=8000/\s.ts.length<=8000:=fun r s g1 g2=>⟨g1.len W.S.n0 (zW1 W.h12),g2.len W.S.n0 (zW1 W.h12)⟩
 rcases (show n.op=6\/n.op=7\/n.op=9\/n.op=10\/n.op=8\/n.op=14 by omega) with h|h|h|h|h|h
 .have i:R=map2 (fun r s=>unR r s) X Y:=by rw[<-hR,h,zd,zd,hX,hY];rfl
  subst i;have hf:Ql qd (J++[.arr (cBd Y)]) (.fn (.func 94) [] []) eRel (fun r s=>(r=X.lo/\s=Y.lo)\/(r=X.up/\s=Y.up)) (fun r s=>eRel (unR r s)):=
   ⟨_,_,rfl,fun r s hr m hm=>by
    obtain⟨g1,g2⟩:=t r s hr;exact tD m (jm r s (zW1 (P r s g1 g2)) (zW1 (P r s g1 g2))) (.zk (qs r) (.zk (qs s) .nil))⟩
  simp[go_sem,hk,h];refine qg.mem (biM (b:=m1.length) (c:=J.length) (x:=X) (y:=Y) (zB a0 _) zSp hf) fun m3 h3=>?_
  have j:=h3 _ _ (T [.arr (cBd Y)]);have C:∀ c,(m3.set I.length c)[I.length]?=some c:=fun c=>qH (qj.1 j).1
  simp[go_sem,j,C];exact⟨tG ((o.trans (MuLe.app (MuLe.refl _) _)).trans h3) (qk _) _,.hf _ (yr (map2 (fun r s=>unR r s) X Y))⟩
 .have i:R=map2 (fun r s=>inR r s) X Y:=by rw[<-hR,h,zd,zd,hX,hY];rfl
  subst i;have hf:Ql qd (J++[.arr (cBd Y)]) (.fn (.func 96) [] []) eRel (fun r s=>(r=X.lo/\s=Y.lo)\/(r=X.up/\s=Y.up)) (fun r s=>eRel (inR r s)):=
   ⟨_,_,rfl,fun r s hr m hm=>by
    obtain⟨g1,g2⟩:=t r s hr;exact tD m (Yu r s (zW1 (P r s g1 g2)) (zW1 (P r s g1 g2))) (.zk (qs r) (.zk (qs s) .nil))⟩
  simp[go_sem,hk,h];refine qg.mem (biM (b:=m1.length) (c:=J.length) (x:=X) (y:=Y) (zB a0 _) zSp hf) fun m3 h3=>?_
  have j:=h3 _ _ (T [.arr (cBd Y)]);have C:∀ c,(m3.set I.length c)[I.length]?=some c:=fun c=>qH (qj.1 j).1
  simp[go_sem,j,C];exact⟨tG ((o.trans (MuLe.app (MuLe.refl _) _)).trans h3) (qk _) _,.hf _ (yr (map2 (fun r s=>inR r s) X Y))⟩
 .have i:R=map2 (fun r s=>vE (jw (sumI sc.sC) r s)) X Y:=by rw[<-hR,h,zd,zd,hX,hY];rfl
  subst i;have hf:Ql qd (J++[.arr (cBd Y)]) (.fn (.func 98) [] [.ip [.ptr p 0]]) eRel (fun r s=>(r=X.lo/\s=Y.lo)\/(r=X.up/\s=Y.up)) (fun r s=>eRel (vE (jw (sumI sc.sC) r s))):=
   ⟨_,_,rfl,fun r s hr m hm=>by
    obtain⟨g1,g2⟩:=t r s hr;exact joinM ((a1.le (MuLe.app (MuLe.refl _) _)).le hm) W r s g1 g2 (cN W.S.n0 W.h12 g1 g2)⟩
  simp[go_sem,hk,h];refine qg.mem (biM (b:=m1.length) (c:=J.length) (x:=X) (y:=Y) (zB a0 _) zSp hf) fun m3 h3=>?_
  have j:=h3 _ _ (T [.arr (cBd Y)]);have C:∀ c,(m3.set I.length c)[I.length]?=some c:=fun c=>qH (qj.1 j).1
  simp[go_sem,j,C];exact⟨tG ((o.trans (MuLe.app (MuLe.refl _) _)).trans h3) (qk _) _,.hf _ (yr (map2 (fun r s=>vE (jw (sumI sc.sC) r s)) X Y))⟩
 .have i:R=map2 (fun r s=>vE (jT (sumI sc.sC) r s)) X Y:=by rw[<-hR,h,zd,zd,hX,hY];rfl
  subst i;have hf:Ql qd (J++[.arr (cBd Y)]) (.fn (.func 101) [] [.ip [.ptr p 0]]) eRel (fun r s=>(r=X.lo/\s=Y.lo)\/(r=X.up/\s=Y.up)) (fun r s=>eRel (vE (jT (sumI sc.sC) r s))):=
   ⟨_,_,rfl,fun r s hr m hm=>by
    obtain⟨g1,g2⟩:=t r s hr;exact prodM ((a1.le (MuLe.app (MuLe.refl _) _)).le hm) W r s g1 g2⟩
  simp[go_sem,hk,h];refine qg.mem (biM (b:=m1.length) (c:=J.length) (x:=X) (y:=Y) (zB a0 _) zSp hf) fun m3 h3=>?_
  have j:=h3 _ _ (T [.arr (cBd Y)]);have C:∀ c,(m3.set I.length c)[I.length]?=some c:=fun c=>qH (qj.1 j).1
  simp[go_sem,j,C];exact⟨tG ((o.trans (MuLe.app (MuLe.refl _) _)).trans h3) (qk _) _,.hf _ (yr (map2 (fun r s=>vE (jT (sumI sc.sC) r s)) X Y))⟩
 .have i:R=⟨diR X.lo Y.up,diR X.up Y.lo⟩:=by rw[<-hR,h,zd,zd,hX,hY];rfl
  subst i;simp[go_sem,hk,h];refine tV zKr ?_;simp[go_sem,U];refine t7 (ZQ X.lo Y.up zOm zOm) (.zk (qs _) (.zk (qs _) .nil)) ?_;simp[go_sem,U];refine t7 (ZQ X.up Y.lo zOm zOm) (.zk (qs _) (.zk (qs _) .nil)) ?_;simp[go_sem,T,a8];exact⟨tG (MuLe.app o _) (qk _) _,.hf _ (yr ⟨diR X.lo Y.up,diR X.up Y.lo⟩)⟩
 .have i:R=⟨unR Y.lo (uP (sumI sc.sC) X.lo Y.up),unR Y.up (uP (sumI sc.sC) X.up Y.lo)⟩:=by rw[<-hR,h,zd,zd,hX,hY];rfl
  subst i;have a9:NsR (J++[.arr (cBd Y)]) p ts sc bs ch bv:=a1.le (MuLe.app (MuLe.refl _) _);have k1:=(cV (b:=Y.up) hx.lo).len W.S.n0 (zW1 W.h12);have k2:=(cV (b:=Y.lo) hx.up).len W.S.n0 (zW1 W.h12);simp[go_sem,hk,h];refine tV zKr ?_;simp[go_sem,U];refine fY (qeN ts sc W.S.g W.S.n0 W.h12 bs ch (sumI sc.sC) X.lo Y.up hx.lo hy.up) ⟨a9.rd,.hf _ (qs _),.hf _ (qs _),trivial⟩ ?_;simp[go_sem,U];refine t7 (jm Y.lo _ zOm zOm) (.zk (qs _) (.zk (qs _) .nil)) ?_;simp[go_sem,U];refine fY (qeN ts sc W.S.g W.S.n0 W.h12 bs ch (sumI sc.sC) X.up Y.lo hx.up hy.lo) ⟨a9.rd,.hf _ (qs _),.hf _ (qs _),trivial⟩ ?_;simp[go_sem,U];refine t7 (jm Y.up _ zOm zOm) (.zk (qs _) (.zk (qs _) .nil)) ?_;simp[go_sem,T,a8];exact⟨tG (MuLe.app o _) (qk _) _,.hf _ (yr ⟨unR Y.lo (uP (sumI sc.sC) X.lo Y.up),unR Y.up (uP (sumI sc.sC) X.up Y.lo)⟩)⟩
theorem qrD(W:NmOk ts sc bs)(env)(t:env.length<=1000000){A}(I:∀ nm a,A nm=some a->okI (sumI sc.sC) a (yi ⟨ts,sc,bs⟩ env nm)){n a}(h:ArN A n a):IvM ts sc bs env n:=by
 have ok:∀{x:Nd}{b:Int},ArN A x b->okI (sumI sc.sC) b (ivl ⟨ts,sc,bs⟩ env x):=fun o=>qaW (σ:=⟨ts,sc,bs⟩) W.S.n0 I o
 induction h with
 |name g h=>exact Wj W env t _ (.inl g)
 |none g h=>exact Wj W env t _ (.inr (.inl g))
 |univ g=>exact Wj W env t _ (.inr (.inr (.inl g)))
 |iden g=>exact Wj W env t _ (.inr (.inr (.inr g)))
 |prime g j h C=>exact qeP W env _ _ _ j (.inl g) (ok h) (fun h=>zOm) C
 |bin g j h C=>exact qeP W env _ _ _ j (.inr g) (ok h) (fun _=>rfl) C
 |alike g j o p i l=>exact kW W env _ _ _ _ _ j zOm (ok o) (ok p) i l
 |join g j o p h i l=>exact kW W env _ _ _ _ _ j zOm (ok o) (ok p) i l
 |prod g j o p h i l=>exact kW W env _ _ _ _ _ j zOm (ok o) (ok p) i l
 |compr g j o i=>exact qrC W env _ _ _ j g i
end O6
set_option maxHeartbeats 1000000
namespace O7
open P1 E1 E2 EO EQ ER EY F3 KA KB O0 O4 KE
section
variable {bv:AV}{bs:List Bd}{mu:Mu}{p:Nat}{ts:TS}
abbrev cfV:AV := .ifc 205 (.agg [])
theorem qrE:HF cfV:=HF.ifc (HF.agg fun c g=>by simp at g)
theorem chkC(ok):qP qd 203 [aB ok] (if ok then .ret (.tup []) else .pan cfV):=by
 refine za.of_sound ?_;refine qSW call203 func203 rfl {} ?_;cases ok
 .simp [go_sem]
  exact⟨_,_,⟨rfl,rfl⟩,.hf _ qrE⟩
 .simp [go_sem]
  exact .hf _ (HF.tup zSp)
structure NsW (mu:Mu) (p:Nat) (bv:AV) (ts:TS) (sc:Sc) (bs:List Bd) (ch:Bool):Prop where
 st:mu[p]?=some (.arr (cNs ts sc bv (sumI sc.sC) ch))
 ow:(bv = .lst true []/\bs=[])\/∃ q,bv = .sl q 4 0 bs.length/\mu[q]?=some (.arr (bs.map cBd).flatten)/\q≠p
theorem NsW.r{sc g}(h:NsW mu p bv ts sc bs g):NsR mu p ts sc bs g bv:=⟨h.st,by
 rcases h.ow with ⟨rfl,rfl⟩|⟨q,rfl,i,_⟩
 .exact .inr (.inl rfl)
 .exact .inr (.inr ⟨q,zSp,i⟩)⟩
theorem NsW.le{mu' sc g}(h:NsW mu p bv ts sc bs g)(i:MuLe mu mu'):NsW mu' p bv ts sc bs g:=⟨i _ _ h.st,by
 rcases h.ow with h|⟨q,j,l,o⟩
 .exact .inl h
 .exact .inr ⟨q,j,i _ _ l,o⟩⟩
def But2(p:Nat)(bv:AV)(mu m:Mu):Prop:=mu.length<=m.length/\∀ i,i<mu.length->i≠p->qo bv≠some i->m[i]?=mu[i]?
theorem But2.trans{a b c}(h:But2 p bv a b)(k:But2 p bv b c):But2 p bv a c:=⟨Nat.le_trans h.1 k.1,fun i g j l=>by
 rw[k.2 i (Nat.lt_of_lt_of_le g h.1) j l];exact h.2 i g j l⟩
theorem tW{a b}(h:MuLe a b):But2 p bv a b:=⟨MuLe.len h,fun i g _ _=>by
 rw[h i a[i] (qw g),qw g]⟩
structure EndN (p:Nat) (bv:AV) (ts:TS) (sc:Sc) (mu:Mu) (r:Br) (e:AEnd) (m:Mu):Prop where
 but:But2 p bv mu m
 fin:match r with
  |some (bs,ch)=>e = .ret (.tup [])/\NsW m p bv ts sc bs ch
  |none=>e = .pan cfV
theorem qrF{sc ch}(hN:NsW mu p bv ts sc bs ch)(i)(I:i<bs.length)(P Q){a}(h0:0<=sumI sc.sC)(a7:sumI sc.sC<=12)(hb:okI (sumI sc.sC) a bs[i])(hP:GR (sumI sc.sC) P)(pa:P.ar=a)(a2:GR (sumI sc.sC) Q) :
  qz qd 251 [.ptr p 0,aI i,eRel P,eRel Q] mu (EndN p bv ts sc mu (Zj i P Q bs ch)):=by
 have l1:=hb.lo.len h0 zOm;have l2:=hb.up.len h0 zOm;have l3:=hP.len h0 zOm;have l4:=a2.len h0 zOm;have l5:=(aG hb.lo hP (by rw[hb.la,pa])).len h0 zOm;have l6:(inR bs[i].up Q).ts.length<=8000:=Nat.le_trans (List.length_filter_le _ _) l2;obtain⟨J,a3⟩:=hN;rcases a3 with ⟨rfl,rfl⟩|⟨q,rfl,hq,T⟩
 .simp at I
 have a0:=qeO I;have o:i*4+4<=(bs.map cBd).flatten.length:=by rw[yy (sz:=4) (Vu bs).ok,zX];omega
 generalize hR:Zj i P Q bs ch=R;generalize hY:(bs.map cBd).flatten=Y at *
 refine qSW call251 func251 rfl {} ?_;have t:(Y.drop (i*4)).take 2=cRel bs[i].lo:=by
  have:=congrArg (List.take 2) a0;rw[List.take_take]at this;exact this
 have C:(Y.drop (i*4+2)).take 2=cRel bs[i].up:=by
  have:=congrArg (List.drop 2) a0;rw[List.drop_take,List.drop_drop]at this;exact this
 have e0:i*4+2<=Y.length:=zOm;have hS:∀ l,(mu++l)[p]?=some (.arr (cNs ts sc (.sl q 4 0 bs.length) (sumI sc.sC) ch)):=fun l=>zB J l
 have hQ:∀ l,(mu++l)[q]?=some (.arr Y):=fun l=>zB hq l
 simp[go_sem];refine fG [0,1,2,3,4,5,6,7,8,10,11,12,13,14,15,16,17,18,9,19,20,21,22] [(0,0,[]),(1,0,[]),(2,0,[]),(3,0,[]),(4,0,[]),(5,0,[]),(6,0,[]),(7,0,[]),(8,0,[]),(10,0,[]),(11,0,[]),(12,0,[]),(13,0,[]),(14,0,[]),(15,0,[]),(16,0,[]),(17,0,[]),(18,0,[]),(9,1,[13,17,18]),(19,1,[]),(20,0,[]),(21,2,[3,7,8,13,17,18]),(22,1,[])] zKr zKr zSi ?_;simp[go_sem,J,hq,I,t,C,e0,o];refine t7 (jm bs[i].lo P zOm zOm) (.zk (qs _) (.zk (qs _) .nil)) ?_;simp[go_sem,J,hq,I,t,C,e0,o];refine t7 (Yu bs[i].up Q zOm zOm) (.zk (qs _) (.zk (qs _) .nil)) ?_;simp[go_sem,J,hq,I,t,C,e0,o,hS,hQ];have g:R=if sub1 (unR bs[i].lo P) (inR bs[i].up Q)=true then (if unR bs[i].lo P=bs[i].lo/\inR bs[i].up Q=bs[i].up then some (bs,ch) else some (bs.set i ⟨unR bs[i].lo P,inR bs[i].up Q⟩,true)) else none:=by
  rw[<-hR];unfold Zj;simp only[zr,qw I,Option.getD_some]
 have cI:=inU (unR bs[i].lo P) (inR bs[i].up Q) zOm zOm;have a4:=E4.XF (unR bs[i].lo P) bs[i].lo zOm;have a5:=E4.XF (inR bs[i].up Q) bs[i].up zOm;change qh qd 54 _ (aB (sub1 (unR bs[i].lo P) (inR bs[i].up Q))) at cI;generalize unR bs[i].lo P=L at *
 generalize inR bs[i].up Q=U at *
 refine t7 cI (.zk (qs _) (.zk (qs _) .nil)) ?_;cases hs:sub1 L U with
 |false =>
  rw[hs,if_neg zSp]at g;subst g;simp[go_sem];refine aC (chkC false) (.zs .nil) ?_;simp[go_sem];exact⟨tW (MuLe.app (MuLe.refl _) _),rfl⟩
 |true =>
 rw[hs,if_pos rfl]at g;simp[go_sem];refine aK (chkC true) (.zs .nil) (fun r e=>?_) (fun r e=>by cases e);cases e;simp[go_sem];refine tV zKr ?_;simp[go_sem,I,t,C,e0,o,hS,hQ];refine t7 a4 (.zk (qs _) (.zk (qs _) .nil)) ?_;have a8:=(qj.1 J).1;have a9:=(qj.1 hq).1;have a1:∀ x c:Cell,((mu++[x]).set q c)[p]?=some (.arr (cNs ts sc (.sl q 4 0 bs.length) (sumI sc.sC) ch)):=fun x c=>by rw[z7 T];exact hS _
 have a6:((bs.set i ⟨L,U⟩).map cBd).flatten=putCells Y (i*4) (cBd ⟨L,U⟩):=by
  rw[<-hY,List.map_set,VH (bs.map cBd) i (cBd ⟨L,U⟩) (Vu bs).ok rfl (zUs I)]
 have fin:∀ x d:Cell,d = .arr (cNs ts sc (.sl q 4 0 bs.length) (sumI sc.sC) true)->EndN p (.sl q 4 0 bs.length) ts sc mu (some (bs.set i ⟨L,U⟩,true)) (.ret (.tup [])) (((mu++[x]).set q (.arr (putCells Y (i*4) (cBd ⟨L,U⟩)))).set p d):=fun x d hd=>by
  subst hd;refine⟨⟨zSp,fun j hj h1 h2=>?_⟩,rfl,?_,.inr ⟨q,by rw[List.length_set],?_,T⟩⟩
  .rw [z7 (fun e=>h1 e.symm),z7 (fun e=>h2 (by rw[<-e];rfl)),qI hj]
  .rw [qH zSo]
  .rw [z7 (fun e=>T e.symm),qH zSo,a6]
 by_cases c1:L=bs[i].lo
 .have aa:=c1
  simp[go_sem,c1,I,t,C,e0,o,hS,hQ];refine t7 a5 (.zk (qs _) (.zk (qs _) .nil)) ?_;by_cases c2:U=bs[i].up
  .rw [if_pos ⟨c1,c2⟩]at g
   subst g;simp[go_sem,c2];exact⟨tW (MuLe.app (MuLe.refl _) _),rfl,hS _,.inr ⟨q,rfl,hY ▸ hQ _,T⟩⟩
  rw[if_neg (fun h=>c2 h.2)]at g;simp[go_sem,c2];rw[<-c1]at *
  refine tV zKr ?_;simp[go_sem,I,o,hS,hQ,a1];subst g;have:=fin (.arr (cBd ⟨L,U⟩)) _ rfl;simpa[putCells] using this
 .rw [if_neg (fun h=>c1 h.1)]at g
  simp[go_sem,c1,I,t,C,e0,o,hS,hQ];refine tV zKr ?_;simp[go_sem,I,o,hS,hQ,a1];subst g;have:=fin (.arr (cBd ⟨L,U⟩)) _ rfl;simpa[putCells] using this
end
end O7
set_option maxHeartbeats 1000000
namespace O9
open Y1 Y9 Y10 P1 YF E1 E2 E4 EO ER ET EY F3 F6 KA KB O0 O2 O4 KE O6 O7
section
variable {bv:AV}{A:dA->Option Int}{a:Int}{mu:Mu}{p:Nat}{ts:TS}
theorem kX{n}(h:ArN A n a)(l:n.op=6\/n.op=7\/n.op=8):∃ x y,n.sD=[x,y]/\ArN A x a/\ArN A y a:=by
 cases h with
 |alike _ g i j=>exact⟨_,_,g,i,j⟩
 |_=>omega
theorem qrG{n}(h:ArN A n a)(j:n.op=11):a=2/\∃ x,n.sD=[x]/\ArN A x 2:=by
 cases h with
 |bin _ g i=>exact⟨rfl,_,g,i⟩
 |_=>omega
theorem qrH{n}(h:ArN A n a)(i:n.op=1):A n.name=some a:=by
 cases h with
 |name _ g=>exact g
 |_=>omega
structure NwC (ts:TS) (sc:Sc):Prop where
 W:NwS ts sc
 nf:ts.sA.length<=1000000
 sz:∀ x,x∈ts.sS->x.1.size<=4611686018427387904
theorem NwC.nm{sc}(C:NwC ts sc){bs}(h:BdS ts (sumI sc.sC) bs):NmOk ts sc bs:=⟨C.W.s,C.W.h12,h.b.1,C.nf,C.sz⟩
theorem NwC.iv{sc}(C:NwC ts sc){bs}(h:BdS ts (sumI sc.sC) bs){n a}(g:ArN (arT ts) n a):IvM ts sc bs [] n:=qrD (C.nm h) [] zSp (C.W.nm h) g
theorem EndN.of{sc M r e m}(h:But2 p bv mu M)(k:EndN p bv ts sc M r e m):EndN p bv ts sc mu r e m:=⟨h.trans k.but,k.fin⟩
theorem EndN.ret{sc r v m}(k:EndN p bv ts sc mu r (.ret v) m):∃ bs g,r=some (bs,g)/\v = .tup []/\But2 p bv mu m/\NsW m p bv ts sc bs g:=by
 obtain⟨i,h⟩:=k;cases r with
 |none=>cases h
 |some q =>
  obtain⟨bs,g⟩:=q;obtain⟨e,h⟩:=h;cases e;exact⟨bs,g,rfl,rfl,i,h⟩
theorem EndN.pan{sc r v m}(k:EndN p bv ts sc mu r (.pan v) m):r=none/\v=cfV/\But2 p bv mu m:=by
 obtain⟨g,h⟩:=k;cases r with
 |none=>cases h;exact⟨rfl,rfl,g⟩
 |some q=>obtain⟨o,i⟩:=q;cases h.1
theorem nar1U(f n):qh qd 250 [.agg (vA f),.ip (cNd n)] (aB (decide (f.name=n.name))):=by
 refine qSV call250 func250 rfl ?_;simp[go_sem,y5];exact .zsc _
def WWs:List AV->List AV->Prop
 | [],[]=>True
 |x :: p,y :: j=>(x=y\/WK x y)/\WWs p j
 |_,_=>False
theorem WWs.get:∀{xs ys},WWs xs ys->ys.length=xs.length/\∀(k:Nat) x y,xs[k]?=some x->ys[k]?=some y->x=y\/WK x y
 | [],[],_=>⟨rfl,fun k x y h=>by simp at h⟩
 |x :: xs,y :: ys,h=>by
  obtain⟨j,l⟩:=h;obtain⟨o,p⟩:=WWs.get l;refine⟨zP1 o,fun k a b g i=>?_⟩;cases k with
  |zero=>simp at g i;subst g;subst i;exact j
  |succ k=>exact p k a b (zUs g) (zUs i)
 | [],_ :: _,h=>h.elim
 |_ :: _,[],h=>h.elim
theorem tX{P f args args' R}(p:WWs args args')(h:qz P f args' mu R):qz P f args mu R:=by
 obtain⟨g,t⟩:=p.get;refine⟨h.1,fun G w C s i=>h.2 G w C s ⟨by rw[g];exact i.1,fun k y j=>?_⟩⟩;have l:k<args.length:=by rw[<-g];exact(qj.1 j).1
 have o:=i.2 k args[k] (qw l);rcases t k _ y (qw l) j with e|e
 .rw [<-e];exact o
 .exact VRel.mono (G:=⟨G.imm,[]⟩) (G':=G) ⟨fun b h=>h,fun b x h=>by simp at h⟩ (Ext.refl _ _) (e G w.heap _ o)
theorem kY{n x y m}(g:n.sD=[x,y])(i:szN n<=m+1):szN x<=m/\szN y<=m:=by
 have j:=qZ (n:=n) (k:=x) (by rw[g];simp);have l:=qZ (n:=n) (k:=y) (by rw[g];simp);omega
def NarM(ts:TS)(sc:Sc)(n:Nd)(a:Int):Prop:=∀(I:Mu)(p:Nat)(i:AV)(o:List Bd)(j g:Bool)(P Q:Rl),NsW I p i ts sc o j->BdS ts (sumI sc.sC) o->GR (sumI sc.sC) P->P.ar=a->GR (sumI sc.sC) Q->Q.ar=a ->
 qz qd 205 [.ptr p 0,eNd n,eRel P,eRel Q,aB g] I (EndN p i ts sc I (narN ts sc g n P Q o j))
theorem narM{sc}(C:NwC ts sc):∀ m n a,szN n<=m->ArN (arT ts) n a->NarM ts sc n a
 | 0,n,a,hm,_=>by obtain⟨op,nm,i,ks,q⟩:=n;simp[szN]at hm
 |m+1,n,a,hm,hn=>by
  intro I p bv o ch g P Q hN hb hP pa hQ qa;have h0:=C.W.s.n0;have a3:=C.W.h12;have hI:=C.W.ok hb hn;have cI:=C.iv hb hn;have l1:=hI.lo.len h0 zOm;have l2:=hI.up.len h0 zOm;have l3:=hP.len h0 zOm;have l4:=hQ.len h0 zOm;generalize j:narN ts sc g n P Q o ch=R;rw[J8]at j;have ai:=fun (I:Mu) (bv:AV) (h:NsR I p ts sc o ch bv)=>cI _ _ _ _ true h
  generalize hX:ivl ⟨ts,sc,o⟩ [] n=X at *
  refine qSW call205 func205 rfl {} ?_;simp[go_sem];refine qg.mem (ai _ _ hN.r) fun m1 h1=>?_
  have ab:=hN.le h1;simp[go_sem];have cA:=inU P X.up zOm zOm;have cB:=inU X.lo Q zOm zOm;change qh qd 54 _ (aB (sub1 P X.up)) at cA;change qh qd 54 _ (aB (sub1 X.lo Q)) at cB;refine t7 cA (.zk (qs _) (.zk (qs _) .nil)) ?_;have a5:EndN p bv ts sc I none (.pan cfV) (m1++[.arr (cBd X)]):=⟨tW (h1.trans (MuLe.app (MuLe.refl _) _)),rfl⟩;cases a6:sub1 P X.up with
  |false =>
   rw[a6,if_neg zSp]at j;subst j;simp[go_sem];refine aC (chkC false) (.zs .nil) ?_;simp[go_sem];exact a5
  |true =>
  simp[go_sem];refine t7 cB (.zk (qs _) (.zk (qs _) .nil)) ?_;cases ad:sub1 X.lo Q with
  |false =>
   rw[a6,ad,if_neg zSp]at j;subst j;simp[go_sem];refine aC (chkC false) (.zs .nil) ?_;simp[go_sem];exact a5
  |true =>
  simp only[a6,ad,Bool.and_self,if_true]at j;simp[go_sem];refine aK (chkC true) (.zs .nil) (fun r e=>?_) (fun r e=>by cases e);cases e;have ae:=hI.lo.ar1;have a7:=hI.lo.ar3;have aj:NsW (m1++[.arr (cBd X)]) p bv ts sc o ch:=ab.le (MuLe.app (MuLe.refl _) _);simp[go_sem];refine fY (allF ts sc o ch (sumI sc.sC) h0 a3 X.lo.ar zOm a7) ⟨aj.r.rd,.hf _ (HF.sc _),trivial⟩ ?_;simp[go_sem];have hM:NsW (m1++[.arr (cBd X),.arr (cRel (KA.allN (sumI sc.sC) X.lo.ar))]) p bv ts sc o ch:=ab.le (MuLe.app (MuLe.refl _) _);have hA:(m1++[.arr (cBd X),.arr (cRel (KA.allN (sumI sc.sC) X.lo.ar))])[m1.length+1]?=some (.arr (cRel (KA.allN (sumI sc.sC) X.lo.ar))):=zSp;have l:But2 p bv I (m1++[.arr (cBd X),.arr (cRel (KA.allN (sumI sc.sC) X.lo.ar))]):=tW (h1.trans (MuLe.app (MuLe.refl _) _));have T:=YP (n:=sumI sc.sC) (a:=X.lo.ar) h0 ae a7;generalize KA.allN (sumI sc.sC) X.lo.ar=AL at *
  generalize az:(m1++[Cell.arr (cBd X),.arr (cRel AL)])=M at *
  have af:I.length<=m1.length+1:=zW1 (MuLe.len h1);have ag:∀ i,I.length<=i->i≠p/\qo bv≠some i:=fun i hi=>by
   have hp:=(qj.1 hN.st).1;refine⟨zOm,fun e=>?_⟩;rcases hN.ow with ⟨rfl,_⟩|⟨q,rfl,hq,_⟩
   .cases e
   .cases e
    have:=(qj.1 hq).1;omega
  generalize m1.length+1=bA at *
  have keep:∀{m2:Mu}{i:Nat}{c:Cell},But2 p bv M m2->I.length<=i->M[i]?=some c->m2[i]?=some c:=fun {m2 i c} hb hi hc=>by
   obtain⟨f1,f2⟩:=ag i hi;rw[hb.2 i (qj.1 hc).1 f1 f2];exact hc
  by_cases o1:n.op=1
  .rw [if_pos o1]at j
   have hC:HF (.ip (cNd n)):=HF.ip (jE n);have hF:HF (.fn (.func 250) [] [.ip (cNd n)]):=HF.fn (fun c hc=>by simp at hc) (fun c hc=>by simp at hc;subst hc;exact hC);have cX:=idxFl false ts.sA (.fn (.func 250) [] [.ip (cNd n)]) (fun f=>decide (f.name=n.name)) ⟨_,[],_,rfl,fun f hf=>⟨[.agg (vA f),.ip (cNd n)],nar1U f n,.zk (HF.agg (gW f)) (.zk hC .nil)⟩⟩ (zW1 C.nf);simp[go_sem,o1,hM.st];refine t7 cX (.zk (JS _) (.zk hF .nil)) ?_;cases hi:idxF ts.sA n.name with
   |none =>
    have a8:idxI ts.sA (fun f=>decide (f.name=n.name)) = -1:=by unfold idxI;rw[show ts.sA.findIdx? (fun f=>decide (f.name=n.name))=none from hi]
    rw[hi]at j;replace j:some (o,ch)=R:=j;subst j;rw[a8];simp[go_sem];exact⟨l,rfl,hM⟩
   |some i =>
    have a8:idxI ts.sA (fun f=>decide (f.name=n.name))=i:=by unfold idxI;rw[show ts.sA.findIdx? (fun f=>decide (f.name=n.name))=some i from hi]
    obtain⟨ak,al,a9,ea⟩:=qbG C.W hb (qrH hn o1) hi;rw[hi]at j;simp only[zr,List.getElem?_map,qw a9,Option.map_some,Option.getD_some]at j;rw[a8];have hf:=qrF hM i ak P Q h0 a3 al hP pa hQ;cases g with
    |true =>
     rw[Bool.true_or,if_pos rfl]at j;rw[j]at hf;simp[go_sem];refine aA hf (fun r m h=>?_) (fun r m h=>?_)
     .obtain ⟨an,ao,_,U,_,_⟩:=EndN.ret h
      subst U;simp[go_sem];exact EndN.of l h
     .simp [go_sem]
      exact EndN.of l h
    |false =>
     rw[Bool.false_or]at j;cases hv:ts.sA[i].var with
     |true =>
      rw[hv]at j;replace j:some (o,ch)=R:=j;subst j;simp[go_sem,hM.st,a9,hv];exact⟨l,rfl,hM⟩
     |false =>
      rw[hv,Bool.not_false,if_pos rfl]at j;rw[j]at hf;simp[go_sem,hM.st,a9,hv];refine aA hf (fun r m h=>?_) (fun r m h=>?_)
      .obtain ⟨an,ao,_,U,_,_⟩:=EndN.ret h
       subst U;simp[go_sem];exact EndN.of l h
      .simp [go_sem]
       exact EndN.of l h
  rw[if_neg o1]at j;by_cases o6:n.op=6
  .rw [if_pos o6]at j
   obtain⟨x,y,J,hx,hy⟩:=kX hn (.inl o6);rw[J,UN]at j;have s1:=kY J hm;have aq:=C.W.ok hb hx;have au:=C.W.ok hb hy;have ix:=C.iv hb hx;have iy:=C.iv hb hy;have lx:=aq.up.len h0 zOm;have ly:=au.up.len h0 zOm;have dP:∀ z:Rl,(⟨P.ar,(diR P z).ts⟩:Rl)=diR P z:=fun z=>rfl
   simp only[zd,List.map_nil,List.getD_cons_zero,List.getD_cons_succ,dP]at j;have fx:=fun (I:Mu) (bv:AV) (h:NsR I p ts sc o ch bv)=>ix _ _ _ _ true h
   have fy:=fun (I:Mu) (bv:AV) (h:NsR I p ts sc o ch bv)=>iy _ _ _ _ true h
   generalize b0:ivl ⟨ts,sc,o⟩ [] x=XA at *
   generalize b2:ivl ⟨ts,sc,o⟩ [] y=XB at *
   simp[go_sem,o1,o6,J];refine fG [0,1,2,3,4,7,8,9,10,11,5,6,12,13,14,15,16,17] [(0,0,[]),(1,0,[]),(2,0,[]),(3,0,[]),(4,0,[]),(7,0,[]),(8,0,[]),(9,0,[]),(10,0,[]),(11,0,[]),(5,1,[9,11]),(6,0,[]),(12,1,[]),(13,0,[]),(14,2,[2,4,9,11]),(15,2,[2,4,9,11]),(16,1,[]),(17,1,[])] zKr zKr zSi ?_;simp[go_sem,J];refine qg.mem (fx _ _ hM.r) fun m3 h3=>?_
   simp[go_sem,J];refine qg.mem (fy _ _ (hM.le h3).r) fun m4 h4=>?_
   simp[go_sem,J];have av:NsW (m4++[.arr (cRel XA.up),.arr (cRel XB.up)]) p bv ts sc o ch:=((hM.le h3).le h4).le (MuLe.app (MuLe.refl _) _);have aa:But2 p bv I (m4++[.arr (cRel XA.up),.arr (cRel XB.up)]):=l.trans (tW ((h3.trans h4).trans (MuLe.app (MuLe.refl _) _)));have ga:(m4++[Cell.arr (cRel XA.up),Cell.arr (cRel XB.up)])[m4.length]?=some (.arr (cRel XA.up)):=zSp;have gb:(m4++[Cell.arr (cRel XA.up),Cell.arr (cRel XB.up)])[m4.length+1]?=some (.arr (cRel XB.up)):=zSp;have aw:I.length<=m4.length:=by have:=l.1;have:=MuLe.len h3;have:=MuLe.len h4;omega
   generalize b3:(m4++[Cell.arr (cRel XA.up),Cell.arr (cRel XB.up)])=M5 at *
   generalize m4.length=ba at *
   have c1:=narM C m x a s1.1 hx M5 p bv o ch g (diR P XB.up) Q av hb (tS hP) pa hQ qa;have st1:=fun (b1:List Bd) (k1:Bool) (e:narN ts sc g x (diR P XB.up) Q o ch=some (b1,k1))=>(uw C.W hx g _ Q o b1 ch k1 hb (tS hP) pa hQ qa e).v
   refine fG [0,1,2,3,4,5,6,8,9,7,10] [(0,0,[]),(1,0,[]),(2,0,[]),(3,0,[]),(4,0,[]),(5,0,[]),(6,0,[]),(8,0,[]),(9,0,[]),(7,1,[2,4,8]),(10,1,[])] zKr zKr zSi ?_;simp[go_sem,J,gb];refine t7 (ZQ P XB.up zOm zOm) (.zk (qs _) (.zk (qs _) .nil)) ?_;simp[go_sem,J,gb];refine aA c1 (fun r m6 h=>?_) (fun r m6 h=>?_)
   .obtain ⟨b1,k1,e1,U,t,a0⟩:=EndN.ret h
    subst U;rw[e1]at j;replace j:narN ts sc g y (diR P XA.up) Q b1 k1=R:=j;have ah:m6[ba]?=some (.arr (cRel XA.up)):=by
     obtain⟨f1,f2⟩:=ag ba aw;rw[t.2 ba (qj.1 ga).1 f1 f2];exact ga
    have c2:=narM C m y a s1.2 hy m6 p bv b1 k1 g (diR P XA.up) Q a0 (st1 b1 k1 e1) (tS hP) pa hQ qa;simp[go_sem];refine fG [0,1,2,3,4,5,6,8,9,7,10] [(0,0,[]),(1,0,[]),(2,0,[]),(3,0,[]),(4,0,[]),(5,0,[]),(6,0,[]),(8,0,[]),(9,0,[]),(7,1,[2,4,8]),(10,1,[])] zKr zKr zSi ?_;simp[go_sem,J,ah];refine t7 (ZQ P XA.up zOm zOm) (.zk (qs _) (.zk (qs _) .nil)) ?_;simp[go_sem,J,ah];refine aA c2 (fun r m7 h=>?_) (fun r m7 h=>?_)
    .obtain ⟨_,_,_,U,_,_⟩:=EndN.ret h
     subst U;rw[j]at h;simp[go_sem];exact EndN.of (aa.trans t) h
    .rw [j]at h
     simp[go_sem];exact EndN.of (aa.trans t) h
   .obtain ⟨e1,U,t⟩:=EndN.pan h
    rw[e1]at j;subst j;subst U;simp[go_sem];exact⟨aa.trans t,rfl⟩
  rw[if_neg o6]at j;by_cases o7:n.op=7
  .rw [if_pos o7]at j
   obtain⟨x,y,J,hx,hy⟩:=kX hn (.inr (.inl o7));rw[J,UN]at j;have s1:=kY J hm;have c1:=narM C m x a s1.1 hx M p bv o ch g P AL hM hb hP pa T.1 (T.2.trans hI.la);have st1:=fun (b1:List Bd) (k1:Bool) (e:narN ts sc g x P AL o ch=some (b1,k1))=>(uw C.W hx g P AL o b1 ch k1 hb hP pa T.1 (T.2.trans hI.la) e).v
   simp[go_sem,o1,o6,o7,J];refine fG [0,1,2,3,4,5,6,7,8] [(0,0,[]),(1,0,[]),(2,0,[]),(3,0,[]),(4,0,[]),(5,0,[]),(6,0,[]),(7,0,[]),(8,1,[])] zKr zKr zSi ?_;simp[go_sem,J,hA];refine aA c1 (fun r m2 h=>?_) (fun r m2 h=>?_)
   .obtain ⟨b1,k1,e1,U,t,a0⟩:=EndN.ret h
    subst U;rw[e1]at j;replace j:narN ts sc g y P AL b1 k1=R:=j;have a4:=keep t af hA;have c2:=narM C m y a s1.2 hy m2 p bv b1 k1 g P AL a0 (st1 b1 k1 e1) hP pa T.1 (T.2.trans hI.la);simp[go_sem];refine fG [0,1,2,3,4,5,6,7,8] [(0,0,[]),(1,0,[]),(2,0,[]),(3,0,[]),(4,0,[]),(5,0,[]),(6,0,[]),(7,0,[]),(8,1,[])] zKr zKr zSi ?_;simp[go_sem,J,a4];refine aA c2 (fun r m3 h=>?_) (fun r m3 h=>?_)
    .obtain ⟨_,_,_,U,_,_⟩:=EndN.ret h
     subst U;rw[j]at h;simp[go_sem];exact EndN.of (l.trans t) h
    .rw [j]at h
     simp[go_sem];exact EndN.of (l.trans t) h
   .obtain ⟨e1,U,t⟩:=EndN.pan h
    rw[e1]at j;subst j;subst U;simp[go_sem];exact⟨l.trans t,rfl⟩
  rw[if_neg o7]at j;by_cases o8:n.op=8
  .rw [if_pos o8]at j
   obtain⟨x,y,J,hx,hy⟩:=kX hn (.inr (.inr o8));rw[J,qbH]at j;have s1:=kY J hm;have c1:=narM C m x a s1.1 hx M p bv o ch g P AL hM hb hP pa T.1 (T.2.trans hI.la);have st1:=fun (b1:List Bd) (k1:Bool) (e:narN ts sc g x P AL o ch=some (b1,k1))=>(uw C.W hx g P AL o b1 ch k1 hb hP pa T.1 (T.2.trans hI.la) e).v
   have l7:=T.1.len h0 zOm;simp[go_sem,o1,o6,o7,o8,J];refine fG [0,1,2,3,4,5,6,7,8] [(0,0,[]),(1,0,[]),(2,0,[]),(3,0,[]),(4,0,[]),(5,0,[]),(6,0,[]),(7,0,[]),(8,1,[])] zKr zKr zSi ?_;simp[go_sem,J,hA];refine aA c1 (fun r m2 h=>?_) (fun r m2 h=>?_)
   .obtain ⟨b1,k1,e1,U,t,a0⟩:=EndN.ret h
    subst U;rw[e1]at j;replace j:narN ts sc g y ⟨X.lo.ar,[]⟩ (diR AL P) b1 k1=R:=j;have a4:=keep t af hA;have c2:=narM C m y a s1.2 hy m2 p bv b1 k1 g ⟨X.lo.ar,[]⟩ (diR AL P) a0 (st1 b1 k1 e1) (GR.nil ae a7) hI.la (tS T.1) (T.2.trans hI.la);simp[go_sem];refine fG [0,1,2,3,4,5,6,7,8,9,11,10,12] [(0,0,[]),(1,0,[]),(2,0,[]),(3,0,[]),(4,0,[]),(5,0,[]),(6,0,[]),(7,0,[]),(8,0,[]),(9,0,[]),(11,0,[]),(10,1,[2,4,6]),(12,1,[])] zKr zKr zSi ?_;simp[go_sem,J,a4];refine t7 (ZQ AL P zOm zOm) (.zk (qs _) (.zk (qs _) .nil)) ?_;have ax:=tX (args:=[.ptr p 0,eNd y,.agg [aI AL.ar,.lst true []],eRel (diR AL P),aB g]) (args':=[.ptr p 0,eNd y,eRel ⟨X.lo.ar,[]⟩,eRel (diR AL P),aB g]) ⟨.inl rfl,.inl rfl,.inr (WK.aggs (.cons (by rw[T.2];exact .hf (HF.sc _)) (.cons (WK.lst fun r hr=>absurd hr qN) .nil))),.inl rfl,.inl rfl,trivial⟩ c2;simp[go_sem,J,a4];refine aA ax (fun r m7 h=>?_) (fun r m7 h=>?_)
    .obtain ⟨_,_,_,U,_,_⟩:=EndN.ret h
     subst U;rw[j]at h;simp[go_sem];exact EndN.of (l.trans t) h
    .rw [j]at h
     simp[go_sem];exact EndN.of (l.trans t) h
   .obtain ⟨e1,U,t⟩:=EndN.pan h
    rw[e1]at j;subst j;subst U;simp[go_sem];exact⟨l.trans t,rfl⟩
  rw[if_neg o8]at j;by_cases a1:n.op=11
  .rw [if_pos a1]at j
   obtain⟨a2,x,J,hx⟩:=qrG hn a1;rw[J,narT]at j;have s1:szN x<=m:=by have:=qZ (n:=n) (k:=x) (by rw[J];simp);omega
   have cP:=Uy _ h0 a3 P hP (pa.trans a2);have cQ:=Uy _ h0 a3 Q hQ (qa.trans a2);have c1:=narM C m x 2 s1 hx M p bv o ch g (trR (sumI sc.sC) P) (trR (sumI sc.sC) Q) hM hb (GR.trans h0 hP (pa.trans a2)) rfl (GR.trans h0 hQ (qa.trans a2)) rfl;simp[go_sem,o1,o6,o7,o8,a1,J];refine fG [0,1,2,3,4,5,6,7,8,9,11,12,13,14,15,17,10,16,18] [(0,0,[]),(1,0,[]),(2,0,[]),(3,0,[]),(4,0,[]),(5,0,[]),(6,0,[]),(7,0,[]),(8,0,[]),(9,0,[]),(11,0,[]),(12,0,[]),(13,0,[]),(14,0,[]),(15,0,[]),(17,0,[]),(10,1,[2,4,14,15]),(16,1,[2,4]),(18,1,[])] zKr zKr zSi ?_;simp[go_sem,J,hM.st];refine t7 cP (.zs (.zk (qs _) .nil)) ?_;simp[go_sem,J,hM.st];refine t7 cQ (.zs (.zk (qs _) .nil)) ?_;simp[go_sem,J,hM.st];refine aA c1 (fun r m3 h=>?_) (fun r m3 h=>?_)
   .obtain ⟨_,_,_,U,_,_⟩:=EndN.ret h
    subst U;rw[j]at h;simp[go_sem];exact EndN.of l h
   .rw [j]at h
    simp[go_sem];exact EndN.of l h
  rw[if_neg a1]at j;subst j;simp[go_sem,o1,o6,o7,o8,a1];exact⟨l,rfl,hM⟩
end
end O9
set_option maxHeartbeats 1000000
namespace OA
open Y1 Y9 P1 E4 F6 KA KB O0 O2 KE KF O7 O9
variable {ts:TS} {sc:Sc}
theorem ZZ(C:NwC ts sc){n a}(g:ArN (arT ts) n a):NarM ts sc n a:=narM C (szN n) n a (qk _) g
theorem noM(C:NwC ts sc){n a}(o:ArN (arT ts) n a){mu p bv bs i}(g)(U:NsW mu p bv ts sc bs i)(t:BdS ts (sumI sc.sC) bs) :
  qz qd 201 [.ptr p 0,eNd n,aB g] mu (EndN p bv ts sc mu (noN ts sc g n bs i)):=by
 have l:=C.W.ok t o;have cI:=C.iv t o;have I:=fun (mu:Mu) (bv:AV) (h:NsR mu p ts sc bs i bv)=>cI _ _ _ _ true h
 generalize hR:noN ts sc g n bs i=R;unfold noN at hR;generalize hX:ivl ⟨ts,sc,bs⟩ [] n=X at *
 have J:=l.lo.ar1;have P:=l.lo.ar3;have hZ:=z_ok (n:=sumI sc.sC) J P;refine qSW call201 func201 rfl {} ?_;simp[go_sem];refine qg.mem (I _ _ U.r) fun m1 h1=>?_
 have hM:NsW (m1++[.arr [aI X.lo.ar,.lst true []]]) p bv ts sc bs i:=(U.le h1).le (MuLe.app (MuLe.refl _) _);have j:But2 p bv mu (m1++[.arr [aI X.lo.ar,.lst true []]]):=tW (h1.trans (MuLe.app (MuLe.refl _) _));have c1:=ZZ C o _ p bv bs i g ⟨X.lo.ar,[]⟩ ⟨X.lo.ar,[]⟩ hM t hZ.1 l.la hZ.1 l.la;have wz:WK (.agg [aI X.lo.ar,.lst true []]) (eRel ⟨X.lo.ar,[]⟩):=WK.aggs (.zs (.cons (WK.lst fun r hr=>absurd hr qN) .nil));have c2:=tX (args:=[.ptr p 0,eNd n,.agg [aI X.lo.ar,.lst true []],.agg [aI X.lo.ar,.lst true []],aB g]) (args':=[.ptr p 0,eNd n,eRel ⟨X.lo.ar,[]⟩,eRel ⟨X.lo.ar,[]⟩,aB g]) ⟨.inl rfl,.inl rfl,.inr wz,.inr wz,.inl rfl,trivial⟩ c1;rw[hR]at c2;simp[go_sem];refine aA c2 (fun r m h=>?_) (fun r m h=>?_)
 .obtain ⟨_,_,_,e2,_,_⟩:=EndN.ret h
  subst e2;simp[go_sem];exact EndN.of j h
 .simp [go_sem]
  exact EndN.of j h
theorem kZ(C:NwC ts sc){n a}(J:ArN (arT ts) n a){mu p bv bs l}(g)(hN:NsW mu p bv ts sc bs l)(P:BdS ts (sumI sc.sC) bs) :
  qz qd 202 [.ptr p 0,eNd n,aB g] mu (EndN p bv ts sc mu (wF ts sc g n bs l)):=by
 have h0:=C.W.s.n0;have T:=C.W.h12;have o:=C.W.ok P J;have cI:=C.iv P J;have U:=fun (mu:Mu) (bv:AV) (h:NsR mu p ts sc bs l bv)=>cI _ _ _ _ true h
 generalize j:wF ts sc g n bs l=R;unfold wF at j;generalize hX:ivl ⟨ts,sc,bs⟩ [] n=X at *
 have a0:=o.up.ar1;have t:=o.up.ar3;have I:=YP (n:=sumI sc.sC) (a:=X.up.ar) h0 a0 t;refine qSW call202 func202 rfl {} ?_;simp[go_sem];refine qg.mem (U _ _ hN.r) fun m1 h1=>?_
 have hM:NsW (m1++[.arr (cBd X)]) p bv ts sc bs l:=(hN.le h1).le (MuLe.app (MuLe.refl _) _);have i:But2 p bv mu (m1++[.arr (cBd X)]):=tW (h1.trans (MuLe.app (MuLe.refl _) _));by_cases l0:X.up.ts.length=0
 .rw [if_pos l0]at j
  subst j;simp[go_sem,l0];refine aC (chkC false) (.zs .nil) ?_;simp[go_sem];exact⟨i,rfl⟩
 rw[if_neg l0]at j;have a1:0<X.up.ts.length:=zOm;simp[go_sem,a1];refine aK (chkC true) (.zs .nil) (fun r e=>?_) (fun r e=>by cases e);cases e;by_cases l1:X.up.ts.length=1
 .rw [if_pos l1]at j
  have c1:=ZZ C J _ p bv bs l g X.up (KA.allN (sumI sc.sC) X.up.ar) hM P o.up o.ua I.1 (I.2.trans o.ua);rw[j]at c1;simp[go_sem,l1];refine fG [0,1,2,3,4,5,6,7,9,8,10] [(0,0,[]),(1,0,[]),(2,0,[]),(3,0,[]),(4,0,[]),(5,0,[]),(6,0,[]),(7,0,[]),(9,0,[]),(8,1,[1,3]),(10,1,[])] zKr zKr zSi ?_;simp[go_sem];refine fY (allF ts sc bs l (sumI sc.sC) h0 T X.up.ar zOm t) ⟨hM.r.rd,.hf _ (HF.sc _),trivial⟩ ?_;simp[go_sem];refine aA c1 (fun r m h=>?_) (fun r m h=>?_)
  .obtain ⟨_,_,_,e2,_,_⟩:=EndN.ret h
   subst e2;simp[go_sem];exact EndN.of i h
  .simp [go_sem]
   exact EndN.of i h
 .rw [if_neg l1]at j
  subst j;have l2:¬(X.up.ts.length:Int)=1:=zOm;simp[go_sem,l2];exact⟨i,rfl,hM⟩
theorem qeQ(C:NwC ts sc){n a}(I:ArN (arT ts) n a){mu p bv bs o}(g)(hN:NsW mu p bv ts sc bs o)(J:BdS ts (sumI sc.sC) bs) :
  qz qd 204 [.ptr p 0,eNd n,aB g] mu (EndN p bv ts sc mu (wG ts sc g n bs o)):=by
 have t:=C.W.ok J I;have cI:=C.iv J I;have P:=fun (mu:Mu) (bv:AV) (h:NsR mu p ts sc bs o bv)=>cI _ _ _ _ true h
 generalize j:wG ts sc g n bs o=R;unfold wG at j;generalize hX:ivl ⟨ts,sc,bs⟩ [] n=X at *
 have hZ:=z_ok (n:=sumI sc.sC) t.lo.ar1 t.lo.ar3;refine qSW call204 func204 rfl {} ?_;simp[go_sem];refine qg.mem (P _ _ hN.r) fun m1 h1=>?_
 have hM:NsW (m1++[.arr (cBd X)]) p bv ts sc bs o:=(hN.le h1).le (MuLe.app (MuLe.refl _) _);have i:But2 p bv mu (m1++[.arr (cBd X)]):=tW (h1.trans (MuLe.app (MuLe.refl _) _));by_cases l0:1<X.lo.ts.length
 .rw [if_pos l0]at j
  subst j;have l:¬(X.lo.ts.length:Int)<2:=zOm;simp[go_sem,l];refine aC (chkC false) (.zs .nil) ?_;simp[go_sem];exact⟨i,rfl⟩
 rw[if_neg l0]at j;have l:(X.lo.ts.length:Int)<2:=zOm;simp[go_sem,l];refine aK (chkC true) (.zs .nil) (fun r e=>?_) (fun r e=>by cases e);cases e;by_cases T:X.lo.ts.length=1
 .rw [if_pos T]at j
  have c1:=ZZ C I _ p bv bs o g ⟨X.lo.ar,[]⟩ X.lo hM J hZ.1 t.la t.lo t.la;have wz:WK (.agg [aI X.lo.ar,.lst true []]) (eRel ⟨X.lo.ar,[]⟩):=WK.aggs (.zs (.cons (WK.lst fun r hr=>absurd hr qN) .nil));have c2:=tX (args:=[.ptr p 0,eNd n,.agg [aI X.lo.ar,.lst true []],eRel X.lo,aB g]) (args':=[.ptr p 0,eNd n,eRel ⟨X.lo.ar,[]⟩,eRel X.lo,aB g]) ⟨.inl rfl,.inl rfl,.inr wz,.inl rfl,.inl rfl,trivial⟩ c1;rw[j]at c2;simp[go_sem,T];refine aA c2 (fun r m h=>?_) (fun r m h=>?_)
  .obtain ⟨_,_,_,e2,_,_⟩:=EndN.ret h
   subst e2;simp[go_sem];exact EndN.of i h
  .simp [go_sem]
   exact EndN.of i h
 .rw [if_neg T]at j
  subst j;have l2:¬(X.lo.ts.length:Int)=1:=zOm;simp[go_sem,l2];exact⟨i,rfl,hM⟩
end OA
set_option maxHeartbeats 1000000
namespace OB
open Y1 P1 E1 E2 E4 EO EY F3 F6 KA KB O0 O2 KE KF O7 O9 OA
variable {ts:TS} {sc:Sc}
theorem qrI(C:NwC ts sc){n}(hT:TyC (arT ts) n)(P:n.op=40){mu p bv bs t}(g)(hN:NsW mu p bv ts sc bs t)(hb:BdS ts (sumI sc.sC) bs) :
  qz qd 144 [.ptr p 0,eNd n,aB g] mu (EndN p bv ts sc mu (uQ ts sc g n bs t)):=by
 obtain⟨m,hk,hm,_⟩:=hT.2 P;generalize l:uQ ts sc g n bs t=R;have e:kidN n 0=m:=by simp[kidN,hk]
 unfold uQ at l;simp only[P,if_true,e,decide_true,true_and,Bool.true_eq_false,false_and,or_false]at l;refine qSW call144 func144 rfl { mt:=[4] } ?_;have T:mu.length<(mu++[Cell.arr (cNd n)]).length:=zSp;have U:NsW ((mu++[Cell.arr (cNd n)]).set mu.length (.arr (cNd m))) p bv ts sc bs t:=hN.le (tG (MuLe.app (MuLe.refl _) _) (qk _) _);have i:But2 p bv mu ((mu++[Cell.arr (cNd n)]).set mu.length (.arr (cNd m))):=tW (tG (MuLe.app (MuLe.refl _) _) (qk _) _);have I:((mu++[Cell.arr (cNd n)]).set mu.length (.arr (cNd m)))[mu.length]?=some (.arr (cNd m)):=qH T;generalize a0:(mu++[Cell.arr (cNd n)]).set mu.length (.arr (cNd m))=M at *
 have hd:cNd m++List.drop 5 (cNd n)=cNd m:=by cases n;simp[cNd]
 simp[go_sem,P,hk,hd,a0,I];by_cases o:m.op=34
 .obtain ⟨k,a,j,ha⟩:=hm zOm
  rw[if_pos o,show kidN m 0=k by simp[kidN,j]]at l;simp[go_sem,o,j,I];have c:=noM C ha g U hb;rw[l]at c;refine aA c (fun r m h=>?_) (fun r m h=>?_)
  .obtain ⟨_,_,_,e2,_,_⟩:=EndN.ret h
   subst e2;simp[go_sem];exact EndN.of i h
  .simp [go_sem]
   exact EndN.of i h
 by_cases J:m.op=35
 .obtain ⟨k,a,j,ha⟩:=hm zOm
  rw[if_neg o,if_pos J,show kidN m 0=k by simp[kidN,j]]at l;simp[go_sem,o,J,j,I];have c:=kZ C ha g U hb;rw[l]at c;refine aA c (fun r m h=>?_) (fun r m h=>?_)
  .obtain ⟨_,_,_,e2,_,_⟩:=EndN.ret h
   subst e2;simp[go_sem];exact EndN.of i h
  .simp [go_sem]
   exact EndN.of i h
 rw[if_neg o,if_neg J]at l;subst l;simp[go_sem,o,J,I];exact⟨i,rfl,U⟩
theorem qrJ(C:NwC ts sc){n}(hT:TyK (arT ts) n)(ho:¬n.op=40){mu p bv bs ch}(g)(hN:NsW mu p bv ts sc bs ch)(hb:BdS ts (sumI sc.sC) bs) :
  qz qd 144 [.ptr p 0,eNd n,aB g] mu (EndN p bv ts sc mu (uQ ts sc g n bs ch)):=by
 have h0:=C.W.s.n0;have ah:=C.W.h12;generalize t:uQ ts sc g n bs ch=R;unfold uQ at t;simp only[ho,if_false,decide_false,Bool.false_eq_true,false_and,false_or,true_and]at t;refine qSW call144 func144 rfl { mt:=[4] } ?_;have hM:NsW (mu++[Cell.arr (cNd n)]) p bv ts sc bs ch:=hN.le (MuLe.app (MuLe.refl _) _);have J:But2 p bv mu (mu++[Cell.arr (cNd n)]):=tW (MuLe.app (MuLe.refl _) _);have hz:(mu++[Cell.arr (cNd n)])[mu.length]?=some (.arr (cNd n)):=zSp;have aq:p≠mu.length:=by have:=(qj.1 hN.st).1;omega
 have au:qo bv≠some mu.length:=fun e=>by
  rcases hN.ow with ⟨rfl,_⟩|⟨q,rfl,hq,_⟩
  .cases e
  .cases e
   have:=(qj.1 hq).1;omega
 have aj:∀ i,mu.length<=i->i≠p/\qo bv≠some i:=fun i hi=>by
  have hp:=(qj.1 hN.st).1;refine⟨zOm,fun e=>?_⟩;rcases hN.ow with ⟨rfl,_⟩|⟨q,rfl,hq,_⟩
  .cases e
  .cases e
   have:=(qj.1 hq).1;omega
 generalize ak:mu++[Cell.arr (cNd n)]=M at *
 have keep:∀{m1 m2:Mu}{i:Nat}{c:Cell},But2 p bv m1 m2->mu.length<=i->m1[i]?=some c->m2[i]?=some c:=fun {m1 m2 i c} hb hi hc=>by
  obtain⟨f1,f2⟩:=aj i hi;rw[hb.2 i (qj.1 hc).1 f1 f2];exact hc
 simp[go_sem,ho,ak,hz];by_cases o5:n.op=35
 .obtain ⟨k,a,j,ha⟩:=hT.1 zOm
  rw[if_pos o5,show kidN n 0=k by simp[kidN,j]]at t;simp[go_sem,o5,j,hz];have c:=noM C ha g hM hb;rw[t]at c;refine aA c (fun r m h=>?_) (fun r m h=>?_)
  .obtain ⟨_,_,_,P,_,_⟩:=EndN.ret h
   subst P;simp[go_sem];exact EndN.of J h
  .simp [go_sem]
   exact EndN.of J h
 rw[if_neg o5]at t;by_cases o4:n.op=34
 .obtain ⟨k,a,j,ha⟩:=hT.1 zOm
  rw[if_pos o4,show kidN n 0=k by simp[kidN,j]]at t;simp[go_sem,o4,o5,j,hz];have c:=kZ C ha g hM hb;rw[t]at c;refine aA c (fun r m h=>?_) (fun r m h=>?_)
  .obtain ⟨_,_,_,P,_,_⟩:=EndN.ret h
   subst P;simp[go_sem];exact EndN.of J h
  .simp [go_sem]
   exact EndN.of J h
 rw[if_neg o4]at t;by_cases o1:n.op=31
 .rw [if_pos o1]at t
  subst t;simp[go_sem,o1,o4,o5,hz];refine aC (chkC false) (.zs .nil) ?_;simp[go_sem];exact⟨J,rfl⟩
 rw[if_neg o1]at t;by_cases o6:n.op=36
 .obtain ⟨k,a,j,ha⟩:=hT.1 zOm
  rw[if_pos o6,show kidN n 0=k by simp[kidN,j]]at t;simp[go_sem,o1,o4,o5,o6,j,hz];have c:=kZ C ha g hM hb;have U:=fun (b1:List Bd) (k1:Bool) (e:wF ts sc g k bs ch=some (b1,k1))=>(Ku C.W ha g bs b1 ch k1 hb e).v
  refine aA c (fun r m h=>?_) (fun r m h=>?_)
  .obtain ⟨b1,k1,e1,P,I,a3⟩:=EndN.ret h
   subst P;rw[e1]at t;replace t:wG ts sc g k b1 k1=R:=t;have al:=keep I (qk _) hz;have c2:=qeQ C ha g a3 (U b1 k1 e1);rw[t]at c2;simp[go_sem,j,al];refine aA c2 (fun r m h=>?_) (fun r m h=>?_)
   .obtain ⟨_,_,_,P,_,_⟩:=EndN.ret h
    subst P;simp[go_sem];exact EndN.of (J.trans I) h
   .simp [go_sem]
    exact EndN.of (J.trans I) h
  .obtain ⟨e1,P,I⟩:=EndN.pan h
   rw[e1]at t;subst t;subst P;simp[go_sem];exact⟨J.trans I,rfl⟩
 rw[if_neg o6]at t;by_cases o7:n.op=37
 .obtain ⟨k,a,j,ha⟩:=hT.1 zOm
  rw[if_pos o7,show kidN n 0=k by simp[kidN,j]]at t;simp[go_sem,o1,o4,o5,o6,o7,j,hz];have c:=qeQ C ha g hM hb;rw[t]at c;refine aA c (fun r m h=>?_) (fun r m h=>?_)
  .obtain ⟨_,_,_,P,_,_⟩:=EndN.ret h
   subst P;simp[go_sem];exact EndN.of J h
  .simp [go_sem]
   exact EndN.of J h
 rw[if_neg o7]at t;by_cases a9:n.op=32\/n.op=33
 .rw [if_pos a9]at t
  obtain⟨k,k',a,j,ha,aa⟩:=hT.2 a9;rw[show kidN n 0=k by simp[kidN,j],show kidN n 1=k' by simp[kidN,j]]at t;have hI:=C.W.ok hb ha;have hJ:=C.W.ok hb aa;have cI:=C.iv hb ha;have cJ:=C.iv hb aa;have fx:=fun (mu:Mu) (bv:AV) (h:NsR mu p ts sc bs ch bv)=>cI _ _ _ _ true h
  have fy:=fun (mu:Mu) (bv:AV) (h:NsR mu p ts sc bs ch bv)=>cJ _ _ _ _ true h
  generalize hX:ivl ⟨ts,sc,bs⟩ [] k=X at *
  generalize hY:ivl ⟨ts,sc,bs⟩ [] k'=Y at *
  have ai:=hI.lo.ar1;have ab:=hI.lo.ar3;have a0:=YP (n:=sumI sc.sC) (a:=X.lo.ar) h0 ai ab;have hZ:=z_ok (n:=sumI sc.sC) ai ab;rcases a9 with o2|o3
  .simp only[o2,if_true]at t
   simp[go_sem,o1,o2,o4,o5,o6,o7,j,hz];refine fG [0,1,2,3,4,6,7,8,9,10,5,11,12,13,14,15] [(0,0,[]),(1,0,[]),(2,0,[]),(3,0,[]),(4,0,[]),(6,0,[]),(7,0,[]),(8,0,[]),(9,0,[]),(10,0,[]),(5,1,[8,10]),(11,1,[]),(12,2,[2,4,8,10]),(13,2,[2,4,8,10]),(14,1,[]),(15,1,[])] zKr zKr zSi ?_;simp[go_sem,j,hz];refine qg.mem (fx _ _ hM.r) fun m3 h3=>?_
   have a4:=h3 _ _ hz;simp[go_sem,j,a4];refine qg.mem (fy _ _ (hM.le h3).r) fun T h4=>?_
   have a5:=h4 _ _ a4;have a6:=(hM.le h3).le h4;have a7:But2 p bv mu T:=J.trans (tW (h3.trans h4));have ad:mu.length<=T.length:=a7.1;have a1:∀ l,(T++l)[mu.length]?=some (.arr (cNd n)):=fun l=>zB a5 l
   simp[go_sem,j,a5,a1];refine fY (allF ts sc bs ch (sumI sc.sC) h0 ah X.lo.ar zOm ab) ⟨(a6.le (MuLe.app (MuLe.refl _) _)).r.rd,.hf _ (HF.sc _),trivial⟩ ?_;simp[go_sem,a1,o2];refine fG [0,1,2,3,4,6,5,7] [(0,0,[]),(1,0,[]),(2,0,[]),(3,0,[]),(4,0,[]),(6,0,[]),(5,1,[2]),(7,1,[])] zKr zKr zSi ?_;simp[go_sem];generalize av:KA.allN (sumI sc.sC) X.lo.ar=o at *
   have ae:NsW (T++[.arr [aI X.lo.ar,lI X.lo.ts,aI o.ar,lI o.ts],.arr [aI o.ar,.lst true [],aI Y.up.ar,lI Y.up.ts],.arr [aI o.ar,lI o.ts]]) p bv ts sc bs ch:=a6.le (MuLe.app (MuLe.refl _) _);have a2:But2 p bv mu (T++[.arr [aI X.lo.ar,lI X.lo.ts,aI o.ar,lI o.ts],.arr [aI o.ar,.lst true [],aI Y.up.ar,lI Y.up.ts],.arr [aI o.ar,lI o.ts]]):=a7.trans (tW (MuLe.app (MuLe.refl _) _));have a8:=a1 [.arr [aI X.lo.ar,lI X.lo.ts,aI o.ar,lI o.ts],.arr [aI o.ar,.lst true [],aI Y.up.ar,lI Y.up.ts],.arr [aI o.ar,lI o.ts]];have gx:(T++[Cell.arr [aI X.lo.ar,lI X.lo.ts,aI o.ar,lI o.ts],.arr [aI o.ar,.lst true [],aI Y.up.ar,lI Y.up.ts],.arr [aI o.ar,lI o.ts]])[T.length]?=some (.arr [aI X.lo.ar,lI X.lo.ts,aI o.ar,lI o.ts]):=zSp;have gy:(T++[Cell.arr [aI X.lo.ar,lI X.lo.ts,aI o.ar,lI o.ts],.arr [aI o.ar,.lst true [],aI Y.up.ar,lI Y.up.ts],.arr [aI o.ar,lI o.ts]])[T.length+1]?=some (.arr [aI o.ar,.lst true [],aI Y.up.ar,lI Y.up.ts]):=zSp;generalize an:(T++[Cell.arr [aI X.lo.ar,lI X.lo.ts,aI o.ar,lI o.ts],.arr [aI o.ar,.lst true [],aI Y.up.ar,lI Y.up.ts],.arr [aI o.ar,lI o.ts]])=M7 at *
   generalize T.length=bx at *
   have c0:=ZZ C ha M7 p bv bs ch g ⟨o.ar,[]⟩ Y.up ae hb (GR.nil a0.1.ar1 a0.1.ar3) (a0.2.trans hI.la) hJ.up hJ.ua;have wz:WK (.agg [aI o.ar,.lst true []]) (eRel ⟨o.ar,[]⟩):=WK.aggs (.zs (.cons (WK.lst fun r hr=>absurd hr qN) .nil));have c1:=tX (args:=[.ptr p 0,eNd k,.agg [aI o.ar,.lst true []],eRel Y.up,aB g]) (args':=[.ptr p 0,eNd k,eRel ⟨o.ar,[]⟩,eRel Y.up,aB g]) ⟨.inl rfl,.inl rfl,.inr wz,.inl rfl,.inl rfl,trivial⟩ c0;have U:=fun (b1:List Bd) (k1:Bool) (e:narN ts sc g k ⟨o.ar,[]⟩ Y.up bs ch=some (b1,k1))=>(uw C.W ha g _ _ bs b1 ch k1 hb (GR.nil a0.1.ar1 a0.1.ar3) (a0.2.trans hI.la) hJ.up hJ.ua e).v
   refine fG [0,1,2,3,4,5,6,7,8,9,10] [(0,0,[]),(1,0,[]),(2,0,[]),(3,0,[]),(4,0,[]),(5,0,[]),(6,0,[]),(7,0,[]),(8,0,[]),(9,0,[]),(10,1,[])] zKr zKr zSi ?_;simp[go_sem,j,a8,gx,gy];refine aA c1 (fun r m h=>?_) (fun r m h=>?_)
   .obtain ⟨b1,k1,e1,P,I,a3⟩:=EndN.ret h
    subst P;rw[e1]at t;replace t:narN ts sc g k' X.lo o b1 k1=R:=t;have af:=keep I (qk _) a8;have ag:=keep I ad gx;have c2:=ZZ C aa m p bv b1 k1 g X.lo o a3 (U b1 k1 e1) hI.lo hI.la a0.1 (a0.2.trans hI.la);rw[t]at c2;simp[go_sem];refine fG [0,1,2,3,4,5,6,7,8,9,10] [(0,0,[]),(1,0,[]),(2,0,[]),(3,0,[]),(4,0,[]),(5,0,[]),(6,0,[]),(7,0,[]),(8,0,[]),(9,0,[]),(10,1,[])] zKr zKr zSi ?_;simp[go_sem,j,af,ag];refine aA c2 (fun r m h=>?_) (fun r m h=>?_)
    .obtain ⟨_,_,_,P,_,_⟩:=EndN.ret h
     subst P;simp[go_sem];exact EndN.of (a2.trans I) h
    .simp [go_sem]
     exact EndN.of (a2.trans I) h
   .obtain ⟨e1,P,I⟩:=EndN.pan h
    rw[e1]at t;subst t;subst P;simp[go_sem];exact⟨a2.trans I,rfl⟩
  .have o2:¬n.op=32:=by omega
   simp only[o2,if_false]at t;simp[go_sem,o1,o2,o3,o4,o5,o6,o7,j,hz];refine fG [0,1,2,3,4,6,7,8,9,10,5,11,12,13,14,15] [(0,0,[]),(1,0,[]),(2,0,[]),(3,0,[]),(4,0,[]),(6,0,[]),(7,0,[]),(8,0,[]),(9,0,[]),(10,0,[]),(5,1,[8,10]),(11,1,[]),(12,2,[2,4,8,10]),(13,2,[2,4,8,10]),(14,1,[]),(15,1,[])] zKr zKr zSi ?_;simp[go_sem,j,hz];refine qg.mem (fx _ _ hM.r) fun m3 h3=>?_
   have a4:=h3 _ _ hz;simp[go_sem,j,a4];refine qg.mem (fy _ _ (hM.le h3).r) fun T h4=>?_
   have a5:=h4 _ _ a4;have a6:=(hM.le h3).le h4;have a7:But2 p bv mu T:=J.trans (tW (h3.trans h4));have ad:mu.length<=T.length:=a7.1;have a1:∀ l,(T++l)[mu.length]?=some (.arr (cNd n)):=fun l=>zB a5 l
   simp[go_sem,j,a5,a1];refine fY (allF ts sc bs ch (sumI sc.sC) h0 ah X.lo.ar zOm ab) ⟨(a6.le (MuLe.app (MuLe.refl _) _)).r.rd,.hf _ (HF.sc _),trivial⟩ ?_;simp[go_sem,a1,o3];have ae:NsW (T++[.arr (cBd X),.arr (cBd Y),.arr (cRel (KA.allN (sumI sc.sC) X.lo.ar))]) p bv ts sc bs ch:=a6.le (MuLe.app (MuLe.refl _) _);have a2:But2 p bv mu (T++[.arr (cBd X),.arr (cBd Y),.arr (cRel (KA.allN (sumI sc.sC) X.lo.ar))]):=a7.trans (tW (MuLe.app (MuLe.refl _) _));have a8:=a1 [.arr (cBd X),.arr (cBd Y),.arr (cRel (KA.allN (sumI sc.sC) X.lo.ar))];have gx:(T++[Cell.arr (cBd X),.arr (cBd Y),.arr (cRel (KA.allN (sumI sc.sC) X.lo.ar))])[T.length]?=some (.arr (cBd X)):=zSp;have gy:(T++[Cell.arr (cBd X),.arr (cBd Y),.arr (cRel (KA.allN (sumI sc.sC) X.lo.ar))])[T.length+1]?=some (.arr (cBd Y)):=zSp;generalize an:(T++[Cell.arr (cBd X),.arr (cBd Y),.arr (cRel (KA.allN (sumI sc.sC) X.lo.ar))])=M7 at *
   generalize T.length=bx at *
   have c1:=ZZ C ha M7 p bv bs ch g Y.lo Y.up ae hb hJ.lo hJ.la hJ.up hJ.ua;have U:=fun (b1:List Bd) (k1:Bool) (e:narN ts sc g k Y.lo Y.up bs ch=some (b1,k1))=>(uw C.W ha g _ _ bs b1 ch k1 hb hJ.lo hJ.la hJ.up hJ.ua e).v
   refine fG [0,1,2,3,4,5,6,7,8,9,10] [(0,0,[]),(1,0,[]),(2,0,[]),(3,0,[]),(4,0,[]),(5,0,[]),(6,0,[]),(7,0,[]),(8,0,[]),(9,0,[]),(10,1,[])] zKr zKr zSi ?_;simp[go_sem,j,a8,gx,gy];refine aA c1 (fun r m h=>?_) (fun r m h=>?_)
   .obtain ⟨b1,k1,e1,P,I,a3⟩:=EndN.ret h
    subst P;rw[e1]at t;replace t:narN ts sc g k' X.lo X.up b1 k1=R:=t;have af:=keep I (qk _) a8;have ag:=keep I ad gx;have c2:=ZZ C aa m p bv b1 k1 g X.lo X.up a3 (U b1 k1 e1) hI.lo hI.la hI.up hI.ua;rw[t]at c2;simp[go_sem];refine fG [0,1,2,3,4,5,6,7,8,9,10] [(0,0,[]),(1,0,[]),(2,0,[]),(3,0,[]),(4,0,[]),(5,0,[]),(6,0,[]),(7,0,[]),(8,0,[]),(9,0,[]),(10,1,[])] zKr zKr zSi ?_;simp[go_sem,j,af,ag];refine aA c2 (fun r m h=>?_) (fun r m h=>?_)
    .obtain ⟨_,_,_,P,_,_⟩:=EndN.ret h
     subst P;simp[go_sem];exact EndN.of (a2.trans I) h
    .simp [go_sem]
     exact EndN.of (a2.trans I) h
   .obtain ⟨e1,P,I⟩:=EndN.pan h
    rw[e1]at t;subst t;subst P;simp[go_sem];exact⟨a2.trans I,rfl⟩
 rw[if_neg a9]at t;subst t;have o2:¬n.op=32:=zOm;have o3:¬n.op=33:=zOm;simp[go_sem,o1,o2,o3,o4,o5,o6,o7,hz];exact⟨J,rfl,hM⟩
theorem qrK(C:NwC ts sc){n}(i:TyC (arT ts) n){mu p bv bs j}(g)(l:NsW mu p bv ts sc bs j)(o:BdS ts (sumI sc.sC) bs) :
  qz qd 144 [.ptr p 0,eNd n,aB g] mu (EndN p bv ts sc mu (uQ ts sc g n bs j)):=by
 by_cases t:n.op=40
 .exact qrI C i t g l o
 .exact qrJ C i.1 t g l o
end OB
set_option maxHeartbeats 1000000
namespace OC
open Go.RowKit Y1 Y9 P1 YF EO KA O0 KE KF O7 O9 OB
section
variable {args:List AV}
theorem tY{P f fn id o o2 g pl mu m R}(a5:yN P f)(hf:P.funcs[f]?=some fn)
  (hb:fn.body=some (.seq (.region id #[o,o2] false) g)) (ho:∃ d ty pos af,o={ dst:=d,op := .call { callee := .builtin .recover,args:=#[],argTypes:=af },type:=ty,pos:=pos,after:=#[],guard:=none })
  {x} (ag:∃ d ty pos ah,o2={ dst:=d,op := .assign x,type:=ty,pos:=pos,after:=ah,guard:=none })
  (hn:args.length<=fn.ntmps) (hd:dOkC fn.ntmps (.seq (.region id #[o,o2] false) g)=true) (hr:noRF g=true)
  (h:awp P pl g (wh P fn.results.toList fun e l=>∃ r,e = .ret r/\R l) (((st0 args mu).put o.dst (m.getD (.sc .nilIface)) mu).put o2.dst (((st0 args mu).put o.dst (m.getD (.sc .nilIface)) mu).ev x) mu)):ya P f args mu m R:=by
 obtain⟨od,a6,T,a0,rfl⟩:=ho;obtain⟨pd,a7,a1,a8,rfl⟩:=ag;refine⟨a5,fun G w vs u s ra hm=>?_⟩;refine callsDIn_of_wpSIn hf hb trivial fun j cs hc=>?_
 have r0:Rel Ro.bare G mu w fn.ntmps G (st0 args mu) { tmps:=vs++Array.replicate (fn.ntmps-vs.size) uk,defers:=[] } w:=fM s ra hn;simp only[dOkC,qB]at hd;have ai:dOk fn.ntmps od=true:=by grind
 have aj:dOk fn.ntmps pd=true:=by grind
 refine wpSIn_seq (wpSIn_region ?_);have aa:∀ ev:yj->yc,(execOp ev { dst:=od,op := .call { callee := .builtin .recover,args:=#[],argTypes:=a0 },type:=a6,pos:=T,after:=#[],guard:=none }).run P w = .ok .recover w:=by
  simp_all[execOp,resolve,invoke,builtin]
 have a3:∀ ev:yj->yc,(execOp ev { dst:=pd,op := .assign x,type:=a7,pos:=a1,after:=a8,guard:=none }).run P w = .ok (.value (ev x)) w:=by
  intro ev;simp_all[execOp]
 have go:∀(a4:List Frame)(v:yc)(J:FrameMode),a4={ j with mode:=J } :: cs->settle J = .returning->VRel G w.heap (m.getD (.sc .nilIface)) v ->
   wpOpsSIn Fence.wide 0 P #[{ dst:=od,op := .call { callee := .builtin .recover,args:=#[],argTypes:=a0 },type:=a6,pos:=T,after:=#[],guard:=none },{ dst:=pd,op := .assign x,type:=a7,pos:=a1,after:=a8,guard:=none }] (Exit.thenS (g.wpSIn Fence.wide 0 P (bodyPostS P fn j cs fun e J w'=>∃ v G' l,e = .returned v/\settle J = .returning/\Stp G mu w G' l w'/\R l)) (bodyPostS P fn j cs fun e J w'=>∃ v G' l,e = .returned v/\settle J = .returning/\Stp G mu w G' l w'/\R l)) [1]
    (({ tmps:=vs++Array.replicate (fn.ntmps-vs.size) uk,defers:=[] }:Act).put od v) a4 w:=by
  intro a4 v J ad a2 hv;have r1:=r0.put s (Stp.refl s) hv ai;have ak:=r1.ev x;simp only[wpOpsSIn];refine⟨fun _ _=>trivial,?_⟩;simp only[Region.wanted,List.getElem_toArray,List.getElem_cons_succ,List.getElem_cons_zero,if_true];rw[a3];refine wpSIn_of_wpIn rfl ?_;refine V7 (pl:=pl) (n:=fn.ntmps) g (ro:=Ro.bare) s _ _ _ _ w G ?_ (r1.put s (Stp.refl s) ak aj) hd.2 (.inr hr) h;intro ae e U a w' G' hq r he;cases ae<;>cases e<;>simp only[ERel]at he
  .obtain ⟨z,hz,z',_,hR⟩:=hq
   obtain⟨u2,k1,k2⟩:=ZF (fn:=fn) r hz;exact⟨r.bare,J,ad,u2,k1,u2,G',U.mu,rfl,a2,r.stp,hR⟩
  .exact hq.elim
  .obtain ⟨z,hz,z',_,hR⟩:=hq
   obtain⟨u2,k1,k2⟩:=ZF (fn:=fn) r hz;exact⟨r.bare,J,ad,u2,k1,u2,G',U.mu,rfl,a2,r.stp,hR⟩
  .obtain ⟨z,hz,_⟩:=hq
   grind
 simp only[List.size_toArray,yp,List.length_nil,qr,qr.loop];rw[wpOpsSIn];refine⟨fun _ _=>trivial,?_⟩;simp only[Region.wanted,List.getElem_toArray,List.getElem_cons_succ,List.getElem_cons_zero,if_true];rw[aa];cases m with
 |none =>
  have hu:u = .returning:=hm;have C:recoverD (j :: cs)=none:=by simp[recoverD,hc,hu]
  rw[C];exact go _ .nilIface .returning (by rw[<-hu,<-hc]) rfl (.sc _ rfl)
 |some x =>
  obtain⟨v,hu,hv⟩:=hm;have C:recoverD (j :: cs)=some (v,{ j with mode := .panicking [{ v,recovered:=true }] } :: cs):=by simp[recoverD,hc,hu]
  rw[C];exact go _ v (.panicking [{ v,recovered:=true }]) rfl rfl hv
theorem tH{P f fn id ops c pl mu R}(g:yN P f)(hf:P.funcs[f]?=some fn)
  (I:fn.body=some (.seq (.region id ops false) (.scope c))) (J:args.length<=fn.ntmps) (j:dOkC fn.ntmps (.seq (.region id ops false) (.scope c))=true)
  (h:awpS P pl false ops ops.toList (fun st=>awpD P pl fn.results.toList R c st) (fun v st=>R (.pan v) st.mu) (st0 args mu)):qz P f args mu R:=by
 refine⟨g,fun G w t s T=>?_⟩;refine(callsIn_wide (n:=0)).1 (callsIn_of_wp_marks hf I trivial ?_);have U:Rel Ro.bare G mu w fn.ntmps G (st0 args mu) { tmps:=t++Array.replicate (fn.ntmps-t.size) uk,defers:=[] } w:=fM s T J;simp only[dOkC,qB]at j;have l:(ops.toList.all fun o=>dOk fn.ntmps o.dst)=true:=j.1;refine wpIn_seq (wpIn_region_list ?_);refine VX s ?_ ?_ ops.toList (st0 args mu) _ w G U l h
 .intro st a w G p r
  exact gL (wpIn_mono (g7 (pl:=pl) s c st a w G r j.2 p) (fun e a w h=>by cases e<;>first|exact h|exact h.elim))
 .intro v st a w G u p r hv
  show LeavesInM _ _ _ _ _ _ _ _ _;rw[r.bare];exact⟨G,st.mu,r.stp,.inr ⟨v,u,p,rfl,hv⟩⟩
theorem cfN(mu b x)(i:mu[b]?=some (.arr [x])):ya qd 143 [.ptr b 0] mu none fun mu'=>mu'=mu:=by
 refine tY call143 func143 rfl ⟨_,_,_,_,rfl⟩ ⟨_,_,_,_,rfl⟩ (j0 zKr) zKr zKr (pl:={}) ?_;simp[go_sem]
theorem cfP(mu b x)(i:mu[b]?=some (.arr [x])):ya qd 143 [.ptr b 0] mu (some cfV) fun mu'=>∃ c,mu'=mu.set b (.arr [aB false])++[c]:=by
 refine tY call143 func143 rfl ⟨_,_,_,_,rfl⟩ ⟨_,_,_,_,rfl⟩ (j0 zKr) zKr zKr (pl:={}) ?_;have j:b<mu.length:=(qj.1 i).1;have l:∀ c:Cell,(mu++[c])[b]?=some (.arr [x]):=fun c=>by rw[qI j,i]
 have o:∀ c d:Cell,(mu++[c]).set b d=mu.set b d++[c]:=fun c d=>List.set_append_left b d j
 simp[go_sem,l,o]
inductive Al:Nd->Prop where
 |leaf {n:Nd}:n.op≠48->Al n
 |step {n k:Nd} {ks:List Nd}:n.op=48->n.sD=k :: ks->Al k->Al n
theorem qrL{n}(h:n.op≠48)(g):y6 n g=(n,g):=by
 obtain⟨op,nm,i,ks,p⟩:=n;rw[y6];exact if_neg h
theorem qrM{n k ks}(h:n.op=48)(j:n.sD=k :: ks)(g):y6 n g=y6 k true:=by
 obtain⟨op,nm,i,l,p⟩:=n;cases j;rw[y6,UK];exact if_pos h
structure EndF (p:Nat) (bv:AV) (ts:TS) (sc:Sc) (mu:Mu) (r:Option (List Bd)) (e:AEnd) (m:Mu):Prop where
 but:But2 p bv mu m
 fin:match r with
  |some bs=>e = .ret (aB true)/\∃ ch,NsW m p bv ts sc bs ch
  |none=>e = .ret (aB false)
variable {ts:TS} {sc:Sc}
structure FxO (ts:TS) (sc:Sc) (l:List Nd) (full:Bool) (p:Nat) (bv:AV) (mu:Mu) (R:Option (List Bd)) (bs1:List Bd) (ch1:Bool) (n:Nat) (st:St):Prop where
 e0:st.tm 0 = .ptr p 0
 e1:st.tm 1 = .lst full (l.map cNd)
 e4:st.tm 4 = .ptr mu.length 0
 hN:NsW st.mu p bv ts sc bs1 ch1
 hB:But2 p bv mu st.mu
 hz:st.mu[mu.length]?=some (.arr [aB false])
 hb:BdS ts (sumI sc.sC) bs1
 hg:gapL bs1<=n
 hR:fixN ts sc l (n+1) bs1=R
def FxOE(ts:TS)(sc:Sc)(l:List Nd)(full:Bool)(p:Nat)(bv:AV)(mu:Mu)(R:Option (List Bd))(n:Nat)(st:St):Prop:=∃ g i,FxO ts sc l full p bv mu R g i n st
structure FxM (ts:TS) (sc:Sc) (l:List Nd) (full:Bool) (p:Nat) (bv:AV) (mu:Mu) (R:Br) (k:Nat) (bs1:List Bd) (ch1:Bool) (n:Nat) (st:St):Prop where
 e0:st.tm 0 = .ptr p 0
 e1:st.tm 1 = .lst full (l.map cNd)
 e4:st.tm 4 = .ptr mu.length 0
 e12:st.tm 12 = .lst full (l.map cNd)
 e13:st.tm 13=aI l.length
 e14:st.tm 14=aI k
 hN:NsW st.mu p bv ts sc bs1 ch1
 hB:But2 p bv mu st.mu
 hz:st.mu[mu.length]?=some (.arr [aB false])
 hb:BdS ts (sumI sc.sC) bs1
 hk:n+k=l.length
 hR:Zk ts sc (l.drop k) bs1 ch1=R
def FxME(ts:TS)(sc:Sc)(l:List Nd)(full:Bool)(p:Nat)(bv:AV)(mu:Mu)(R:Br)(n:Nat)(st:St):Prop:=∃ k g i,FxM ts sc l full p bv mu R k g i n st
structure FxS (l:List Nd) (full:Bool) (p:Nat) (b:Nat) (M:Mu) (n:Nd) (g:Bool) (k:Nat) (cur:Nd) (cg:Bool) (m:Nat) (st:St):Prop where
 e0:st.tm 0 = .ptr p 0
 e1:st.tm 1 = .lst full (l.map cNd)
 e4:st.tm 4 = .ptr b 0
 e6:st.tm 6 = .ptr M.length 0
 e7:st.tm 7=aB cg
 e12:st.tm 12 = .lst full (l.map cNd)
 e13:st.tm 13=aI l.length
 e14:st.tm 14=aI k
 hm:MuLe M st.mu
 hc:st.mu[M.length]?=some (.arr (cNd cur))
 ha:Al cur
 hs:y6 cur cg=y6 n g
 hn:szN cur<=m
def FxSE(l:List Nd)(full:Bool)(p b:Nat)(M:Mu)(n:Nd)(g:Bool)(k m:Nat)(st:St):Prop:=∃ cur i,FxS l full p b M n g k cur i m st
theorem fixM(C:NwC ts sc){l}(hl:TyL (arT ts) l)(ha:∀ n,n∈l->Al n)(bk:l.length<=1000000000){mu p bv bs ch full}(hN:NsW mu p bv ts sc bs ch)(hb:BdS ts (sumI sc.sC) bs) :
  qz qd 63 [.ptr p 0,.lst full (l.map cNd)] mu (EndF p bv ts sc mu (fixN ts sc l (gapL bs+1) bs)):=by
 generalize hR:fixN ts sc l (gapL bs+1) bs=R;have a5:mu.length≠p/\qo bv≠some mu.length:=by
  have hp:=(qj.1 hN.st).1;refine⟨zOm,fun e=>?_⟩;rcases hN.ow with ⟨rfl,_⟩|⟨q,rfl,hq,_⟩
  .cases e
  .cases e
   have:=(qj.1 hq).1;omega
 refine tH call63 func63 rfl (j0 zKr) zKr (pl:={}) ?_;simp[go_sem];refine dS (g:=143) (first:=[]) (caps:=[.ptr mu.length 0]) zSi call143 ?_;simp[go_sem];refine tJ (FxOE ts sc l full p bv mu R) (gapL bs) ?_ ?_
 .exact ⟨bs,ch,⟨zSi,zSi,zSi,hN.le (MuLe.app (MuLe.refl _) _),tW (MuLe.app (MuLe.refl _) _),zSi,hb,qk _,hR⟩⟩
 rintro n U ⟨a4,bl,e0,e1,e4,aj,ak,al,ax,bm,o⟩;rw[fixN]at o;have I:=aj.st;have ay:=(qj.1 I).1;have aa:p≠mu.length:=fun e=>by rw[e,al]at I;simp at I
 have an:NsW (U.mu.set p (.arr (cNs ts sc bv (sumI sc.sC) false))) p bv ts sc a4 false:=by
  refine⟨qH ay,?_⟩;rcases aj.ow with h|⟨q,h1,h2,h3⟩
  .exact .inl h
  .exact .inr ⟨q,h1,by rw[z7 (fun e=>h3 e.symm)];exact h2,h3⟩
 have ao:But2 p bv mu (U.mu.set p (.arr (cNs ts sc bv (sumI sc.sC) false))):=⟨by simp;exact ak.1,fun i hi h1 h2=>by rw[z7 (fun e=>h1 e.symm)];exact ak.2 i hi h1 h2⟩;have aq:(U.mu.set p (.arr (cNs ts sc bv (sumI sc.sC) false)))[mu.length]?=some (.arr [aB false]):=by rw[z7 aa];exact al
 generalize ar:Zk ts sc l a4 false=RR at o;have step:=fun (b':List Bd) (c':Bool) (h:Zk ts sc l a4 false=some (b',c'))=>qbM C.W l hl a4 b' false c' ax h
 simp[go_sem,e0,e1,e4,I];generalize b3:U.mu.set p (.arr [lSo ts.sS,lFl ts.sA,lPd ts.sT,lFa ts.sP,lI sc.sC,aI sc.sN,bv,aI (sumI sc.sC),AV.sc (Value.bool false)])=Mf;have b4:U.mu.set p (.arr (cNs ts sc bv (sumI sc.sC) false))=Mf:=b3;rw[b4]at an ao aq;refine tJ (FxME ts sc l full p bv mu RR) l.length ?_ ?_
 .exact ⟨0,a4,false,⟨zS1 e0,zS1 e1,zS1 e4,zSi,zSi,zSi,zVs an,zVs ao,zVs aq,ax,zOm,zUs ar⟩⟩
 clear I ay aa an ao aq e0 e1 e4 aj ak al;rintro j st2 ⟨k,a0,a6,e0,e1,e4,J,P,T,a7,ab,a8,au,bn,t⟩;by_cases ad:k<l.length
 .rw [ze ad,Zk]at t
  have I:=a7.st;have b5:=ha _ (qv ad);have b6:=hl _ (qv ad);generalize b7:l[k]=nn at *
  have az:MuLe st2.mu (st2.mu++[.arr (cNd nn)]):=MuLe.app (MuLe.refl _) _;have b0:=az _ _ I;simp[go_sem,e0,e1,e4,J,P,T,ad,b7,b0];refine tJ (FxSE l full p mu.length st2.mu nn (decide (sc.sN=1)) k) (szN nn) ?_ ?_
  .exact ⟨nn,decide (sc.sN=1),⟨zS1 e0,zS1 e1,zS1 e4,zSi,zSi,zS1 J,zS1 P,zS1 T,zVs az,zSi,b5,rfl,qk _⟩⟩
  clear e0 e1 e4 J P T;rintro m st3 ⟨cur,cg,e0,e1,e4,e6,e7,J,P,T,ae,av,b8,af,bo⟩;by_cases a9:cur.op=48
  .cases b8 with
   |leaf h=>exact absurd a9 h
   | @step _ kk ks _ aw b9 =>
   have bq:szN kk<szN cur:=qZ (by rw[aw];simp);have bb:=(qj.1 av).1;rw[qrM a9 aw]at af;have hd:cNd kk++List.drop 5 (cNd cur)=cNd kk:=by cases cur;simp[cNd]
   simp[go_sem,e0,e1,e4,e6,e7,J,P,T,av,a9,aw,hd];refine⟨szN kk,zOm,⟨kk,true,⟨zS1 e0,zS1 e1,zS1 e4,zS1 e6,zSi,zS1 J,zS1 P,zS1 T,by simpa[go_sem] using tG ae (qk _) _,zS1 bb,b9,af,qk _⟩⟩⟩
  .rw [qrL a9]at af
   have bc:=a7.le ae;have w1:=zWk k;have ty:=b6 (decide (sc.sN=1));rw[<-af]at ty t;have ag:=ab.trans (tW (p:=p) (bv:=bv) ae);have ah:=ae _ _ a8;have c:=qrK C ty cg bc au;have sp:=fun (b':List Bd) (c':Bool) (h:uQ ts sc cg cur a0 a6=some (b',c'))=>qbL C.W (qbK ty) cg a0 b' a6 c' au (by rw[<-qbJ];exact h)
   simp only at t;simp[go_sem,e0,e1,e4,e6,e7,J,P,T,av,a9];refine aA c (fun r m h=>?_) (fun r m h=>?_)
   .obtain ⟨b1,k1,a1,a2,a3,be⟩:=EndN.ret h
    subst a2;rw[a1]at t;have ai:m[mu.length]?=some (.arr [aB false]):=by
     rw[a3.2 _ (qj.1 ah).1 a5.1 a5.2];exact ah
    simp[go_sem,e0,e1,e4,e6,e7,J,P,T,w1];exact⟨l.length-(k+1),zOm,⟨k+1,b1,k1,⟨zS1 e0,zS1 e1,zS1 e4,zS1 J,zS1 P,zSi,zVs be,by simpa[go_sem] using ag.trans a3,zVs ai,(sp b1 k1 a1).v,zOm,t⟩⟩⟩
   .obtain ⟨a1,a2,a3⟩:=EndN.pan h
    rw[a1]at t;replace t:none=RR:=t;rw[<-t]at o;replace o:none=R:=o;subst o;subst a2;have ai:m[mu.length]?=some (.arr [aB false]):=by
     rw[a3.2 _ (qj.1 ah).1 a5.1 a5.2];exact ah
    have b2:=(qj.1 ai).1;simp[go_sem];refine ya.mono (cfP _ mu.length (aB false) ai) ?_;rintro _ ⟨c,rfl⟩;have hg:(m.set mu.length (.arr [aB false])++[c])[mu.length]?=some (.arr [aB false]):=by rw[qI (zUs b2)];exact qH b2
    rw[e4];simp[go_sem,hg];refine⟨⟨by have:=(ag.trans a3).1;simp;omega,fun i hi h1 h2=>?_⟩,rfl⟩;rw[qI (by have:=(ag.trans a3).1;simp;omega),zGl];exact(ag.trans a3).2 i hi h1 h2
 .have bg:k=l.length:=by omega
  subst bg;rw[zY]at t;replace t:some (a0,a6)=RR:=t;have I:=a7.st;have aa:p≠mu.length:=fun e=>by rw[e,a8]at I;simp at I
  have bh:=(qj.1 a8).1;rw[<-t]at o ar;have sp:=step a0 a6 ar;simp[go_sem,e0,e1,e4,J,P,T,I];cases a6 with
  |true =>
   replace o:fixN ts sc l n a0=R:=o;have bj:gapL a0<gapL a4:=by
    rcases sp.d rfl with h|h
    .cases h
    .exact h
   obtain⟨n',rfl⟩:∃ n',n=n'+1:=⟨n-1,zOm⟩;simp[go_sem];exact⟨n',zOm,a0,true,⟨zS1 e0,zS1 e1,zS1 e4,zVs a7,zVs ab,zVs a8,au,zOm,o⟩⟩
  |false =>
   replace o:some a0=R:=o;subst o;simp[go_sem,e0,e1,e4,a8];have hg:(st2.mu.set mu.length (.arr [aB true]))[mu.length]?=some (.arr [aB true]):=qH bh;refine ya.mono (cfN _ mu.length (aB true) hg) ?_;rintro _ rfl;simp[go_sem,hg];refine⟨⟨by simp;exact ab.1,fun i hi h1 h2=>?_⟩,rfl,false,?_,?_⟩
   .rw [zGl]
    exact ab.2 i hi h1 h2
   .rw [z7 (fun e=>aa e.symm)]
    exact I
   .rcases a7.ow with h|⟨q,h1,h2,h3⟩
    .exact .inl h
    .exact .inr ⟨q,h1,by rw[z7 (fun e=>a5.2 (by rw[h1,e];rfl))];exact h2,h3⟩
end
end OC
set_option maxHeartbeats 1000000
namespace OE
open Y1 Y9 P1 P2 YE YF E1 EO F4 GF GR KA O0 O8 OC OD YG
theorem Jn:∀ m n,szN n<=m->WfN n->((conj n).length:Int)<=cntT n
 | 0,n,p,_=>by obtain⟨op,nm,i,ks,q⟩:=n;simp[szN]at p
 |m+1,n,p,j=>by
  by_cases l:n.op=41
  .obtain ⟨a,b,g⟩:=shp2 j l
   have t:=qZ (n:=n) (k:=a) (by rw[g];simp);have I:=qZ (n:=n) (k:=b) (by rw[g];simp);have C:=Jn m a zOm (j.kid (by rw[g];simp));have J:=Jn m b zOm (j.kid (by rw[g];simp));rw[OD.kQ l g,zf,Va,g];simp only[yU];omega
  by_cases o:n.op=48
  .obtain ⟨a,g⟩:=shp1 j o
   have t:=qZ (n:=n) (k:=a) (by rw[g];simp);have C:=Jn m a zOm (j.kid (by rw[g];simp));rw[kR o g,zX,Va,g];simp only[yU];omega
  rw[kS l o];have:=UQ n;simpa using this
def Lst(mu:Mu)(i:Nat)(l:List Nd):Prop:=∃ g,mu[i]?=some (.arr [g])/\Own mu 5 g (l.map cNd)/\qo g≠some i
def addL(ts:TS)(n:Nd)(l:List Nd):List Nd:=if (zp ts n).2=0 then l++conj (zp ts n).1 else l
theorem addM{ts n}(ci:qh qd 60 [eTS ts,eNd n] (.tup [eNd (zp ts n).1,aI (zp ts n).2]))(hv:(zp ts n).2=0->WfN (zp ts n).1/\cntT (zp ts n).1<=400){mu t l}(hl:l.length<=1000000000)(h:Lst mu t l) :
  qz qd 61 [eNd n,.ip (cTS ts),.ptr t 0] mu fun e m=>e = .ret (aI (zp ts n).2)/\Lst m t (addL ts n l):=by
 unfold addL;generalize zp ts n=q at *
 obtain⟨x,e⟩:=q;obtain⟨lv,hb,ho,C⟩:=h;have a0:=(qj.1 hb).1;refine qSW call61 func61 rfl {} ?_;simp[go_sem];refine t7 ci (.zk (zA ts) (.zk (qC n) .nil)) ?_;have g:(mu++[Cell.arr (cNd x)])[t]?=some (.arr [lv]):=by rw[qI a0];exact hb
 have I:Own (mu++[Cell.arr (cNd x)]) 5 lv (l.map cNd):=by
  rcases ho with h|⟨b,h1,h2⟩
  .exact .inl h
  .exact .inr ⟨b,h1,by rw[qI (qj.1 h2).1];exact h2⟩
 by_cases he:e=0
 .obtain ⟨J,h4⟩:WfN x/\cntT x<=400:=hv he
  have hc:=Jn _ x (qk _) J;have cj:=Jl _ x (qk _) J zOm;simp only[he,if_true]at *
  simp[go_sem];refine fG [0,1,2,3,4] [(0,0,[]),(1,0,[]),(2,1,[0]),(3,1,[]),(4,1,[])] zKr zKr zSi ?_;simp[go_sem,g];refine t7 cj (.zk (qC x) .nil) ?_;simp[go_sem,g];refine qu.ownB (sz:=5) (e:=34) (bt:=64) (zv := .agg [aI 0,aS ⟨#[]⟩,aI 0,.lst true [],aI 0]) (xs:=l.map cNd) (ys:=(conj x).map cNd) zSi zSi zSi rfl rfl zOm zOm I (by simp[qy]) (Y1.Yj _) (Y1.Yj _) zSo ?_;intro P R i a1 a2 a3;rw[<-zh]at i;have T:R[t]?=some (.arr [lv]):=by rw[a1 t zSo C];exact g
  have U:=(qj.1 T).1;have o:qo P≠some t:=fun e=>by have:=a2 _ e;simp at this;omega
  simp[go_sem,T,Own.one i,Own.cells i];refine⟨P,qH U,?_,o⟩;rcases i with h|⟨b,h1,h2⟩
  .exact .inl h
  .exact .inr ⟨b,h1,by rw[z7 (fun e=>o (by rw[h1,e];rfl))];exact h2⟩
 .simp [go_sem,he]
  exact⟨lv,g,I,C⟩
end OE
end Go.Proofs.YthflbhjlkgdafaaGreatDoor
