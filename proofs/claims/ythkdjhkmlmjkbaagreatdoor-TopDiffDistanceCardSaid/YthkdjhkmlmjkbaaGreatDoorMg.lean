/-
  Own library, part 7: an abstract reading of values and a calculus over it; contracts of functions; plain lemmas.
-/
import Derived.Test.YthkdjhkmlmjkbaaGreatDoorRows
import Derived.LaidMore
import Derived.MakeChecks
import Derived.WalkKit
import Derived.JoinedCond
import Derived.Test.YthkdjhkmlmjkbaaGreatDoorMf
set_option linter.unusedVariables false
set_option linter.unusedSimpArgs false
set_option maxRecDepth 100000
open Go renaming Program->qb,Code->j3,World->qf,Value->qg
open Go.Proofs.Tryz renaming prog->qc
open List renaming getElem?_eq_some_iff->qi,mem_cons->ql,mem_map->qp,range->qq,getElem_mem->qv,getElem?_eq_getElem->qx,mem_cons_of_mem->qB,not_mem_nil->qG,mem_append->qI,mem_singleton->qL,length_append->qW,take_length->za,getElem?_append_left->ze,getD_eq_getElem?_getD->zf,append_assoc->zm,drop_eq_getElem_cons->zB,length_cons->zC,map_append->zF,getElem?_append_right->zK,length_map->yi,append_nil->yj,getElem?_set_self->yq,drop_length->yr,mem_filter->yT,getElem?_set_ne->jV,getElem?_cons_succ->jW,getElem_of_mem->um,mem_iff_getElem->wC,drop_eq_nil_of_le->Jd,getElem_map->V2,length_pos_iff->V4
open Nat renaming le_refl->qs
open Bool renaming and_eq_true->qu
open Go.IntKind renaming i64->qw
open Int renaming mul_le_mul->uq,tmod_eq_emod_of_nonneg->wD,natCast_add->X0
namespace Go.Proofs.YthkdjhkmlmjkbaaGreatDoor
open Go Go.Ev Go.Proofs Tryz
namespace QZ
open YF Y9 Y1 YX YB YC P1 P2 PA QE QI QS QT QX QY
section
variable {mu:Mu}
abbrev eXO(ts:TS)(l:List cL)(q:XO):AV := .tup [eWk ts l q.1,eNd q.2.1,aI q.2.2]
theorem V0(x):∀ c,c∈cSb x->HF c:=fun c g=>by
 rcases qI.1 g with g|g
 .rcases qI.1 g with g|g
  .simp only[ql,qG,or_false]at g
   rcases g with rfl|rfl|rfl<;>exact HF.sc _
  grind [qmI]
 grind [qL,HF.sc]
theorem qmJ(x):(cSb x).length=9:=by simp[qmH]
theorem ZE(l:List Sb):zb 9 (l.map cSb):=fun r g=>by
 obtain⟨x,_,rfl⟩:=qp.1 g;refine⟨qmJ x,?_⟩;obtain⟨i,⟨a,z,w⟩⟩:=x;cases a<;>simp[yD,go_sem]
theorem qaZ(l):HF (lSb l):=HF.lst fun r g c i=>by
 obtain⟨x,_,rfl⟩:=qp.1 g;exact V0 x c i
theorem wkX(ts l s sc n b):WKs [eWk ts l s,lSb sc,eNd n,aB b] [eWk ts l s,lSb sc,eNd n,aB b] := .zk (ui ts l s) (.zk (qaZ sc) (.zk (zd n) (.zs .nil)))
theorem XX(ts l q):HF (eXO ts l q):=HF.tup fun x g=>by
 simp only[ql,qG,or_false]at g;rcases g with rfl|rfl|rfl
 .exact ui ts l _
 .exact zd _
 .exact HF.sc _
structure Pre (ts:TS) (es:List (cL×Bool)) (f:Nat) (env:IEnv) (sc:List Sb) (n:Nd) (body:Bool) (s:ISt):Prop where
 fu:4000<s.sM+(f:Int)
 st:StOk (qt ts es) s
 en:qV env
 wf:WfN n
 cl:ju ts n
 so:ScOf ts body sc env
 le:(sc.length:Int)<=s.sM+8
theorem rd0:Rd mu (.agg [aI 0,aS ⟨#[]⟩,aI 0,.lst true [],aI 0]) (eNd nd0) := .agg _ _ rfl fun k x y g i=>by
 match k,g,i with
 | 0,g,i=>cases g;cases i;exact .zsc _
 | 1,g,i=>cases g;cases i;exact .zsc _
 | 2,g,i=>cases g;cases i;exact .zsc _
 | 3,g,i=>cases g;cases i;exact .wk _ true _ (.hf _ (HF.lst fun r j=>absurd j qG))
 | 4,g,i=>cases g;cases i;exact .zsc _
 |k+5,g,i=>cases g
theorem rdZ(ts l s):Rd mu (.tup [eWk ts l s,.agg [aI 0,aS ⟨#[]⟩,aI 0,.lst true [],aI 0],aI 0]) (eXO ts l (s,nd0,0)) := .tup _ _ rfl fun k x y g i=>by
 match k,g,i with
 | 0,g,i=>cases g;cases i;exact .hf _ (ui ts l s)
 | 1,g,i=>grind [rd0]
 | 2,g,i=>cases g;cases i;exact .zsc _
 |k+3,g,i=>cases g
theorem qa0{lo s xs y K}(g:OwnF lo mu 9 s (xs.map cSb))(j:xs.length<=100000)(o:∀ av l,OwnF lo l 9 av ((xs++[y]).map cSb)->(∀ i,i<lo->l[i]?=mu[i]?)->K av l) :
  qD qc mu #[210,210] s (.lst true [cSb y]) K:=by
 refine qD.ownF (lo:=lo) (e:=217) (sz:=9) (bt:=112) (zv := .agg [aS ⟨#[]⟩,aS ⟨#[]⟩,aB false,aI 0,aS ⟨#[]⟩,aI 0,.lst true [],aI 0,aI 0]) (xs:=xs.map cSb) (ys:=[cSb y]) zSi zSi zSi rfl rfl zOm zOm g (by simp[qF]) (ZE xs) (ZE [y]) zSo ?_
 grind
abbrev ExpW(ts:TS)(l:List cL)(es:List (cL×Bool))(f:Nat)(sc:List Sb)(n:Nd)(body:Bool)(s:ISt):Prop:=
 qh qc 113 [eWk ts l s,lSb sc,eNd n,aB body] (eXO ts l (expR ts es f sc n body s))
theorem expN(ts l es f env sc n body s)(p:Pre ts es (f+1) env sc n body s)(j:s.sM+1<=4000)(i:n.op=1):ExpW ts l es (f+1) sc n body s:=by
 have o:=p.st.c0;have I:=p.le;have r:=leafU ts l sc zOm n (payS 1 s) ⟨by show 0<=s.sM+1;omega,by show s.sM+1<=_;omega⟩ (fun e t=>zW1 (p.so.sz e t));unfold ExpW;simp only[expR];rw[if_pos j,if_pos i];have C:qw.wrap (s.sM+1)=s.sM+1:=zWr;have g:¬ 4000<s.sM+1:=zOm;generalize uU sc n (payS 1 s)=Q at *
 refine qSQ call113 func113 rfl { mt:=[4] } ?_;simp[go_sem,C,g,i,qO];refine cY r (.zk (ui ts l (payS 1 s)) (.zk (qaZ sc) (.zk (zd n) .nil))) ?_;simp[go_sem,qO];exact .hf _ (XX ts l (Q.2,Q.1.1,Q.1.2))
theorem expZ(ts l es f env sc n body s)(p:Pre ts es (f+1) env sc n body s)(i:¬s.sM+1<=4000):ExpW ts l es (f+1) sc n body s:=by
 have j:=p.st.c0;have o:=p.st.c1;unfold ExpW;simp only[expR];rw[if_neg i];have r:qw.wrap (s.sM+1)=s.sM+1:=zWr;have g:4000<s.sM+1:=zOm;refine qSQ call113 func113 rfl { mt:=[4] } ?_;simp[go_sem,r,g,qO]
 grind [rdZ,payS]
def repR(ts : TS)(es : List (cL × Bool))(f : Nat)(sc : List Sb)(n : Nd)(body : Bool)(s : ISt)(p : Pd) : XO := match jU (fun k s => expR ts es f sc k body s) p.params n.sD [] s with
          | .error g=>(g,nd0,0)
          | .ok (own,g)=>expR ts es f own p.body true g
theorem expC(ts l es f env sc n body s)(p:Pre ts es (f+1) env sc n body s)(j:s.sM+1<=4000)(h47:n.op=47)(g)(o:(ts.sT.find? fun p=>decide (p.name=n.name))=some g)
  (r:qh qc 146 [eWk ts l (payS 1 s),lSb sc,eNd n,aB body] (eXO ts l (repR ts es f sc n body (payS 1 s) g))):ExpW ts l es (f+1) sc n body s:=by
 have t:=p.st.c0;unfold ExpW;simp only[expR];rw[if_pos j,zIn,if_pos h47,o];simp only;have C:qw.wrap (s.sM+1)=s.sM+1:=zWr;have i:¬ 4000<s.sM+1:=zOm;show qh qc 113 [eWk ts l s,lSb sc,eNd n,aB body] (eXO ts l (repR ts es f sc n body (payS 1 s) g));generalize repR ts es f sc n body (payS 1 s) g=Q at *
 refine qSQ call113 func113 rfl { mt:=[4] } ?_;simp[go_sem,C,i,h47,qO];refine cY r (wkX ts l (payS 1 s) sc n body) ?_;simp[go_sem,qO];exact .hf _ (XX ts l Q)
theorem replW(ts)(h:okTS ts)(l es)(ah:Free ts es)(hb:∀ p,p∈ts.sT->WfN p.body/\ju ts p.body)(f)(ih:∀ env sc n body s,Pre ts es f env sc n body s->ExpW ts l es f sc n body s)(env sc n body s)(p:Pre ts es f env sc n body s)(h47:n.op=47)
  (T) (hp:(ts.sT.find? fun p=>decide (p.name=n.name))=some T) (ay:T.params.length=n.sD.length):qh qc 146 [eWk ts l s,lSb sc,eNd n,aB body] (eXO ts l (repR ts es f sc n body s T)):=by
 have a8:=List.mem_of_find?_eq_some hp;have b0:=(h.pl T a8).1;have b1:=h.np;obtain⟨i,hi,a2,ai⟩:∃ i,∃ hi:i<ts.sT.length,ts.sT[i]=T/\q9 (ckR ts ts.sT.length) n.name=some i:=by
  cases hc:q9 (ckR ts ts.sT.length) n.name with
  |none =>
   unfold q9 at hc;rw[List.findIdx?_eq_none_iff]at hc;have:=hc T (by show T∈ts.sT.take ts.sT.length;rw[za];exact a8);have h2:=List.find?_some hp;rw[h2]at this;cases this
  |some i =>
   obtain⟨h1,h2⟩:=Ze (VP h (qs _)) hc;have h2:i<ts.sT.length:=h2;have h3:=PF.qaD hc h2;have h3:(ts.sT.find? fun p=>decide (p.name=n.name))=some ts.sT[i]:=h3;rw[hp]at h3;exact⟨i,h2,(Option.some.inj h3).symm,rfl⟩
 have cp:=YK (ckR ts ts.sT.length) (VP h (qs _)) n.name;rw[ai]at cp;have C:=J4;have a9:¬(i:Int)<0:=zOm;obtain⟨E',hE⟩:∃ E':Nd->ISt->XO,E'=fun k s=>expR ts es f sc k body s:=⟨_,rfl⟩
 obtain⟨a6,a7⟩:∃ a6,a6=repR ts es f sc n body s T:=⟨_,rfl⟩;have al:∀ k,k∈n.sD->∀ o,StOk (qt ts es) o->s.sM<=o.sM->qh qc 113 [eWk ts l o,lSb sc,eNd k,aB body] (eXO ts l (E' k o)):=fun k hk o I a9=>by
  rw[hE];exact ih env sc k body o ⟨zW1 p.fu,I,p.en,p.wf.kid hk,p.cl.kid hk,p.so,zW1 p.le⟩
 have an:∀ k,k∈n.sD->∀ o,StOk (qt ts es) o->s.sM<=o.sM->4000<(E' k o).1.sM\/(¬ 4000<(E' k o).1.sM/\Gos (qt ts es) o (E' k o).1 (E' k o).2.2):=fun k hk o I a9=>by
  have ho:=ZD ts es ah hb f env sc k body o (zW1 p.fu) I p.en (p.wf.kid hk) (p.cl.kid hk) p.so;have ao:E' k o=expR ts es f sc k body o:=by rw[hE]
  rw[ao];cases hx:expI ts es f env k body o with
  |error d=>rw[hx]at ho;exact .inl ho.1
  |ok r =>
   obtain⟨⟨m,y⟩,t⟩:=r;rw[hx]at ho;obtain⟨e1,e2,e3⟩:=ho;have g:=vj ts ah f I p.en hx;rw[e2,e3];exact .inr ⟨zW1 g.c1,g⟩
 have aq:∀ t,jU E' T.params n.sD [] s = .error t->a6=(t,nd0,0):=fun t ht=>by
  rw[a7];unfold repR;rw[<-hE,ht]
 have ar:∀ own t O,jU E' T.params n.sD [] s = .ok (own,t)->StOk (qt ts es) t->s.sM<=t.sM->qV O->(∀ nm,vL nm own=getK nm O)->(∀ e,e∈own->0<=e.2.size/\e.2.size<=4000)->own.length<=8->qh qc 113 [eWk ts l t,lSb own,eNd T.body,aB true] (eXO ts l a6):=fun own t O ht I a9 hO aa ab h8=>by
  have e:a6=expR ts es f own T.body true t:=by rw[a7];unfold repR;rw[<-hE,ht]
  rw[e];have b2:=I.c0;exact ih O own T.body true t ⟨zW1 p.fu,I,hO,(hb T a8).1,(hb T a8).2,⟨aa,fun h=>absurd h zSp,ab⟩,zOm⟩
 rw[<-a7];have aj:=p.st;clear a7 hE ih;refine qSQ call146 func146 rfl { mt:=[4] } ?_;simp[go_sem,qO];refine cY cp (.zk (zt ts) (.zs (.zs .nil))) ?_;simp[go_sem,qO,idxO,a9];refine aC n.sD.length (fun k st=>∃(o:ISt) (L:List Sb) (O:IEnv),st.tm 1=lSb sc/\st.tm 3=aB body/\st.tm 4 = .ptr 0 0/\st.tm 6 = .ip (cNd n)/\st.tm 8 = .ptr 1 0/\st.tm 9 = .ptr 2 0/\st.tm 12=aI i/\st.tm 14=aI k/\st.mu[0]?=some (.arr (cWk ts l o))/\st.mu[1]?=some (.arr zWc)/\st.mu[2]?=some (.arr [aI 0,aS ⟨#[]⟩,aI 0,.lst true [],aI 0])/\OwnF 3 st.mu 9 (st.tm 13) (L.map cSb)/\jU E' T.params n.sD [] s=jU E' (T.params.drop k) (n.sD.drop k) L o/\StOk (qt ts es) o/\s.sM<=o.sM/\qV O/\(∀ nm,vL nm L=getK nm O)/\(∀ e,e∈L->0<=e.2.size/\e.2.size<=4000)/\L.length=k) ?_ ?_
 .exact ⟨s,[],[],zSi,zSi,zSi,zSi,zSi,zSi,zSi,zSi,zSi,zSi,zSi,by simp[go_sem];exact OwnF.nil zSp,rfl,aj,Int.le_refl _,.nil,fun nm=>rfl,fun e he=>absurd he qG,rfl⟩
 rintro k st hk ⟨o,L,O,e1,e3,e4,e6,e8,e9,a1,a3,m0,m1,m2,ho,hI,I,ad,hO,aa,ab,au⟩;generalize a4:st.tm 13=P at *
 obtain⟨rr,U⟩:=XF m0 m1 m2;have b3:st.mu.length=rr.length+3:=by rw[U];rfl
 have az:n.sD.length<=8:=zOm;by_cases R:k<n.sD.length
 .have a5:k<T.params.length:=by omega
  have w1:=zWk k;rw[zB R,zB a5]at hI;simp only[jU]at hI;have x1:=al n.sD[k] (qv R) o I ad;have x2:=an n.sD[k] (qv R) o I ad;generalize E' n.sD[k] o=q at *
  clear m0 m1 m2;simp[go_sem,e1,e3,e4,e6,e8,e9,a1,a3,a4,U,R,a5,hi,a2,C,qO];refine fW [0,1,2,3,4,5,6,7,8,9,10,11,12,17,13,14,15,16] [(0,0,[]),(1,0,[]),(2,0,[]),(3,0,[]),(4,0,[]),(5,0,[]),(6,0,[]),(7,0,[]),(8,1,[]),(9,0,[]),(10,0,[]),(11,0,[]),(12,0,[]),(17,0,[]),(13,2,[0,3,6]),(14,2,[0,3,6]),(15,1,[]),(16,1,[])] zKr zKr zSi ?_;simp[go_sem,e1,e3,e4,e6,e8,e9,a1,a3,a4,U,R,a5,hi,a2,C,qO];refine cY x1 (wkX ts l o sc n.sD[k] body) ?_;simp[go_sem,e1,e3,e4,e6,e8,e9,a1,a3,a4,U,R,a5,hi,a2,C,qO];by_cases a0:4000<q.1.sM
  .have aw:a6=(q.1,nd0,0):=aq _ (by rw[hI,if_pos a0])
   simp[go_sem,e1,e3,e4,e6,e8,e9,a1,a3,a4,U,R,a5,hi,a2,C,qO,a0];rw[aw];exact rdZ ts l q.1
  .rcases x2 with x2|⟨_,g⟩
   .exact absurd x2 a0
   rw[if_neg a0]at hI;simp[go_sem,e1,e3,e4,e6,e8,e9,a1,a3,a4,U,R,a5,hi,a2,C,qO,a0];refine cN zKr ?_;simp[go_sem,e1,e3,e4,e6,e8,e9,a1,a3,a4,U,R,a5,hi,a2,C,qO,a0];obtain⟨g1,g2,g3⟩:=VZ g I;have gz:=g.z0;have hy:(AV.sc (.string T.params[k].1) :: AV.sc (.string ⟨#[]⟩) :: AV.sc (.bool true) :: (cNd q.2.1++[AV.sc (.int .i64 q.2.2)]))=cSb (T.params[k].1,⟨some q.2.1,q.2.2,⟨#[]⟩⟩):=zSi;rw[hy];generalize ae:(T.params[k].1,(⟨some q.2.1,q.2.2,⟨#[]⟩⟩:IV))=en at *
   refine qa0 (lo:=3) (xs:=L) (y:=en) ?_ zOm ?_
   .have h1:OwnF 3 (st.mu++[Cell.arr (cWk ts l q.1),Cell.arr (cNd q.2.1)]) 9 P (L.map cSb):=YD.nI ho zSo fun i _ hi=>ze hi
    rw[U]at h1;have h2:=OwnF.set (i:=0) (c:=Cell.arr (cWk ts l q.1)) h1 zOm;simpa using h2
   intro b4 b5 af ag;have n0:=ag 0 zOm;have n1:=ag 1 zOm;have n2:=ag 2 zOm;simp at n0 n1 n2;obtain⟨r2,ak⟩:=XF n0 n1 n2;simp[go_sem,e1,e3,e4,e6,e8,e9,a1,a3,a4,ak,R,a5,hi,a2,C,qO,a0,w1];refine aP ⟨q.1,L++[en],setK en.1 en.2 O,zS1 e1,zS1 e3,zS1 e4,zS1 e6,zS1 e8,zS1 e9,zS1 a1,zSi,zSi,zSi,zSi,?_,?_,g1,?_,?_,?_,?_,?_⟩
   .have h2:=OwnF.set (i:=0) (c:=Cell.arr (cWk ts l q.1)) af zOm
    simp[go_sem];rw[ak]at af;simpa using af
   .rw [hI,<-ae]
   .omega
   .rw [<-ae];exact hO.set ⟨gz,g3⟩
   .intro nm
    rw[VY,uI,aa];by_cases e:en.1=nm
    .rw [if_pos e,if_pos e.symm]
    .rw [if_neg e,if_neg fun x=>e x.symm]
   .intro e he
    rcases qI.1 he with he|he
    .exact ab e he
    .rw [qL]at he;subst he;rw[<-ae];exact⟨gz,g3⟩
   .simp [au]
 .simp [go_sem,e1,e3,e4,e6,e8,e9,a1,a3,a4,U,R,hi,a2,C,qO]
  refine fW [0,1,2,3,4,5,6,7,8,9,10,11,12,15,13,14] [(0,0,[]),(1,0,[]),(2,0,[]),(3,0,[]),(4,0,[]),(5,0,[]),(6,0,[]),(7,0,[]),(8,0,[]),(9,1,[]),(10,0,[]),(11,0,[]),(12,0,[]),(15,0,[]),(13,1,[]),(14,1,[])] zKr zKr zSi ?_;simp[go_sem,e1,e3,e4,e6,e8,e9,a1,a3,a4,U,R,hi,a2,C,qO];refine aA (qU.freeze (args1:=[eWk ts l o,lSb L,eNd T.body,aB true]) (fun j=>decide (3<=j)) ⟨.inl rfl,.inr ?_,.inl rfl,.inl rfl,trivial⟩ (qh.toSound _ (ar L o O ?_ I ad hO aa ab zOm) (wkX ts l o L T.body true))) ?_ ?_
  .have h1:=Y13.qgN ho (ZE L).ok fun r hr c hc=>by
    obtain⟨x,_,rfl⟩:=qp.1 hr;exact V0 x c hc
   rw[U]at h1;exact h1
  .rw [hI,Jd zOm,Jd zOm];rfl
  .rintro r m ⟨hv,rfl⟩
   cases hv;simp[go_sem,cutM,qO,e1,e3,e4,e6,e8,e9];exact .hf _ (XX ts l a6)
  .rintro r m ⟨hv,rfl⟩
   cases hv
end
end QZ
end Go.Proofs.YthkdjhkmlmjkbaaGreatDoor
set_option maxHeartbeats 1000000
namespace Go.Ev
theorem awp.cut{P pl l j g C i Q st}(J)
  (h:awp P pl l (seqQ (awp P pl j (seqQ (Keep J .mk) (j9 i (seqQ (awp P pl C Q) Q)))) Q) st)
  (o:∀ st,J st->awp P pl g (j9 i (seqQ (awp P pl C Q) Q)) st):awp P pl (.seq l (.seq (.block i (.seq j g)) C)) Q st:=by
 refine awp.mono l (Q:=seqQ (awp P pl j (seqQ (Keep J .mk) (j9 i (seqQ (awp P pl C Q) Q)))) Q) h (fun e st h=>?_);cases e with
 |normal =>
  refine awp.mono j (Q:=seqQ (Keep J .mk) (j9 i (seqQ (awp P pl C Q) Q))) h (fun e st h=>?_);cases e with
  |normal=>exact o st h
  |exit i=>exact h
  |ret=>exact h
  |pan v=>exact h
 |exit i=>exact h
 |ret=>exact h
 |pan v=>exact h
theorem qmK{K:St->Prop}(J){st}(h:FzQ (fun _=>J) (.exit 0) st)(k:∀ st2,J st2->K st2):FzQ (fun _ st=>K st) (.exit 0) st:=by
 obtain⟨g,f,q,j⟩:=h;exact⟨g,f,q,k _ j⟩
end Go.Ev
namespace Go.Proofs.YthkdjhkmlmjkbaaGreatDoor
open Go Go.Ev Go.Proofs Tryz
namespace RA
open YF Y9 Y1 YX YA YB YC P1 P2 PA QD QE QK QX QY QZ
section
variable {av:AV}{es:List (cL×Bool)}{l:List cL}
theorem four{C:Type}{l}{a b c d:C}(g:l[0]?=some a)(i:l[1]?=some b)(j:l[2]?=some c)(o:l[3]?=some d):∃ r,l=a :: b :: c :: d :: r:=by
 match l,g,i,j,o with
 |_ :: _ :: _ :: _ :: r,g,i,j,o =>
  grind
def resK(n:Nd)(g:List Nd)(z:Int):Except ISt ((cL×List Nd×Int)×ISt)->XO
 | .error s=>(s,nd0,0)
 | .ok ((i,ks,m),s)=>(s,.mk n.op i n.n (g++ks) n.pos,z+m)
structure AtK (ts:TS) (l:List cL) (es:List (cL×Bool)) (n:Nd) (body:Bool) (s:ISt) (k:Nat) (sc2:List Sb) (env2:IEnv) (nm2:cL) (s3:ISt) (acc:List Nd) (av:AV) (z:Int) (st:St):Prop where
 e3:st.tm 3=aB body
 e4:st.tm 4 = .ptr 0 0
 e6:st.tm 6 = .ip (cNd n)
 e8:st.tm 8 = .ptr 1 0
 e9:st.tm 9 = .ptr 2 0
 e11:st.tm 11 = .ptr 3 0
 e12:st.tm 12=aI z
 e13:st.tm 13=aI k
 m0:st.mu[0]?=some (.arr (cWk ts l s3))
 m1:st.mu[1]?=some (.arr zWc)
 m2:st.mu[2]?=some (.arr [aI 0,aS ⟨#[]⟩,aI 0,.lst true [],aI 0])
 m3:st.mu[3]?=some (.arr [aI n.op,aS nm2,aI n.n,av,aI n.pos])
 ho:OwnF 4 st.mu 5 av (acc.map cNd)
 so:ScOf ts body sc2 env2
 en:qV env2
 al:acc.length=k
 l0:0<=s3.last
 c0:s.sM+1<=s3.sM
 c1:s3.sM<=4000
 z1:0<=z
 z2:z<=1+4000*(k:Int)
theorem AtK.same{ts n body s k j i o I p z st g}(A:AtK ts l es n body s k j i o I p av z st)
  (J:g.tm 3=aB body) (P:g.tm 4 = .ptr 0 0) (R:g.tm 6 = .ip (cNd n)) (T:g.tm 8 = .ptr 1 0) (U:g.tm 9 = .ptr 2 0) (r:g.tm 11 = .ptr 3 0) (t:g.tm 12=aI z) (C:g.tm 13=aI k) (em:g.mu=st.mu):AtK ts l es n body s k j i o I p av z g:=
 ⟨J,P,R,T,U,r,t,C,by rw[em];exact A.m0,by rw[em];exact A.m1,by rw[em];exact A.m2,by rw[em];exact A.m3,by rw[em];exact A.ho,A.so,A.en,A.al,A.l0,A.c0,A.c1,A.z1,A.z2⟩
theorem qa1{g lo sz mu l xs}(h:OwnF g mu sz av xs)(i:∀ b s o q,av = .sl b s o q->b<lo)(r:g<=l.length)(t:∀ j,g<=j->j<lo->l[j]?=mu[j]?):OwnF g l sz av xs:=by
 obtain⟨C,p,_⟩:=h;refine⟨?_,p,r⟩;rcases C with rfl|⟨b,rfl,I⟩
 .exact .inl rfl
 .exact .inr ⟨b,rfl,by rw[t b (p b _ _ _ rfl) (i b _ _ _ rfl)];exact I⟩
theorem AtK.keep{ts n body s k p i r T t z st g}(A:AtK ts l es n body s k p i r T t av z st)
  (U:g.tm 3=aB body) (e4:g.tm 4 = .ptr 0 0) (e6:g.tm 6 = .ip (cNd n)) (e8:g.tm 8 = .ptr 1 0) (e9:g.tm 9 = .ptr 2 0) (I:g.tm 11 = .ptr 3 0) (J:g.tm 12=aI z) (P:g.tm 13=aI k) (lo) (h4:4<=lo) (R:∀ b s o q,av = .sl b s o q->b<lo) (hl:4<=g.mu.length) (C:∀ j,j<lo->g.mu[j]?=st.mu[j]?):AtK ts l es n body s k p i r T t av z g:=
 ⟨U,e4,e6,e8,e9,I,J,P,by rw[C 0 zOm];exact A.m0,by rw[C 1 zOm];exact A.m1,by rw[C 2 zOm];exact A.m2,by rw[C 3 zOm];exact A.m3,qa1 A.ho R hl (fun j _=>C j),A.so,A.en,A.al,A.l0,A.c0,A.c1,A.z1,A.z2⟩
theorem qmL{mu lo s x}{xs ys:List Sb}{K}(g:OwnF lo mu 9 s (xs.map cSb))(j:qF mu x=some (ys.map cSb))(t:xs.length+ys.length<=100000)(o:∀ av l,OwnF lo l 9 av ((xs++ys).map cSb)->(∀ i,i<lo->l[i]?=mu[i]?)->K av l) :
  qD qc mu #[210,210] s x K:=by
 refine qD.ownF (lo:=lo) (e:=217) (sz:=9) (bt:=112) (zv := .agg [aS ⟨#[]⟩,aS ⟨#[]⟩,aB false,aI 0,aS ⟨#[]⟩,aI 0,.lst true [],aI 0,aI 0]) (xs:=xs.map cSb) (ys:=ys.map cSb) zSi zSi zSi rfl rfl zOm zOm g j (ZE xs) (ZE ys) zSo ?_;intro av l h r;exact o av l (by rw[zF];exact h) r
theorem expK(ts)(h:okTS ts)(l es)(t:Tn l es)(hl:l.length<=400000)(hF:qt ts es<=200000)(b5:Free ts es)(hb:∀ p,p∈ts.sT->WfN p.body/\ju ts p.body)(f)(ih:∀ env sc n body s,Pre ts es f env sc n body s->ExpW ts l es f sc n body s)
  (env) (sc) (n) (body) (s) (p:Pre ts es (f+1) env sc n body s) (hc:s.sM+1<=4000) (h1:¬n.op=1) (h47:¬n.op=47):ExpW ts l es (f+1) sc n body s:=by
 have di:=p.st.c0;have dj:=p.st.c1;have dk:=p.wf.len;obtain⟨E',hE⟩:∃ E':List Sb->Nd->ISt->XO,E'=fun sc k s=>expR ts es f sc k body s:=⟨_,rfl⟩
 obtain⟨R',bh⟩:∃ R':List Sb->cL->ISt->(List Sb×cL)×ISt,R'=fun sc nm s=>renR ts es sc nm body s:=⟨_,rfl⟩
 have bi:∀ k,k∈n.sD->∀ U I sk,StOk (qt ts es) sk->s.sM+1<=sk.sM->qV U->ScOf ts body I U->(I.length:Int)<=sk.sM+8->qh qc 113 [eWk ts l sk,lSb I,eNd k,aB body] (eXO ts l (E' I k sk)):=fun k hk U I sk b6 cj b7 bj bk=>by
  rw[hE];exact ih U I k body sk ⟨zW1 p.fu,b6,b7,p.wf.kid hk,p.cl.kid hk,bj,bk⟩
 have bl:∀ k,k∈n.sD->∀ U I sk,StOk (qt ts es) sk->s.sM+1<=sk.sM->qV U->ScOf ts body I U->4000<(E' I k sk).1.sM\/(¬ 4000<(E' I k sk).1.sM/\Gos (qt ts es) sk (E' I k sk).1 (E' I k sk).2.2):=fun k hk U I sk b6 cj b7 bj=>by
  have ho:=ZD ts es b5 hb f U I k body sk (zW1 p.fu) b6 b7 (p.wf.kid hk) (p.cl.kid hk) bj;have ck:E' I k sk=expR ts es f I k body sk:=by rw[hE]
  rw[ck];cases hx:expI ts es f U k body sk with
  |error d=>rw[hx]at ho;exact .inl ho.1
  |ok r =>
   obtain⟨⟨m,y⟩,t⟩:=r;rw[hx]at ho;obtain⟨e1,e2,e3⟩:=ho;have g:=vj ts b5 f b6 b7 hx;rw[e2,e3];exact .inr ⟨zW1 g.c1,g⟩
 obtain⟨ay,bb⟩:∃ ay,ay=resK n [] 1 (vo E' R' (binB n.op) 0 sc n.name n.sD (payS 1 s)):=⟨_,rfl⟩;have bc:expR ts es (f+1) sc n body s=ay:=by
  simp only[expR];rw[if_pos hc,if_neg h1,if_neg h47,bb,hE,bh];cases vo (fun sc k s=>expR ts es f sc k body s) (fun sc nm s=>renR ts es sc nm body s) (binB n.op) 0 sc n.name n.sD (payS 1 s) with
  |error e=>rfl
  |ok r=>rfl
 unfold ExpW;rw[bc];clear hE bc ih;have be:StOk (qt ts es) (payS 1 s):=(Qe p.st zOm hc).ok p.st;have w1:qw.wrap (s.sM+1)=s.sM+1:=zWr;have bk:¬ 4000<s.sM+1:=zOm;have cm:=yD n;refine qSQ call113 func113 rfl { mt:=[4] } ?_;simp[go_sem,w1,bk,h1,h47,cm];refine aC n.sD.length (fun k st=>∃(full:Bool) (I:List Sb) (U:IEnv) (aa:cL) (s2:ISt) (ae:List Nd) (P:AV) (z:Int),st.tm 1 = .lst full (I.map cSb)/\AtK ts l es n body s k I U aa s2 ae P z st/\(I.length:Int)+(if k<=1 then 1 else 0)<=s2.sM+8/\dueN (qt ts es) (binB n.op) k<=pot (qt ts es) s2/\(k<=1->aa=n.name)/\resK n ae z (vo E' R' (binB n.op) k I aa (n.sD.drop k) s2)=ay) ?_ ?_
 .refine ⟨false,sc,env,n.name,payS 1 s,[],.lst true [],1,zSi,⟨zSi,zSi,by simp[go_sem,yD n],zSi,zSi,zSi,zSi,zSi,by simp[go_sem];exact⟨rfl,rfl⟩,zSi,zSi,zSi,by simp[go_sem];exact OwnF.nil zSp,p.so,p.en,rfl,be.l0,by show _<=s.sM+1;omega,be.c1,zOm,zOm⟩,by show _<=s.sM+1+8;have:=p.le;simp;omega,?_,fun _=>rfl,bb.symm⟩
  rw[Zu];have:=p.st.p;unfold dueN;split<;>omega
 .rintro k st hk ⟨full,I,U,aa,s2,ae,P,z,T,A,ag,ao,b8,hI⟩
  obtain⟨rr,a0⟩:=four A.m0 A.m1 A.m2 A.m3;have e3:=A.e3;have e4:=A.e4;have e6:=A.e6;have e8:=A.e8;have e9:=A.e9;have a5:=A.e11;have a6:=A.e12;have a7:=A.e13;have aj:=A.ho.one;have ak:=A.ho.cells;by_cases a8:k<n.sD.length
  .have w2:=zWk k
   rw[zB a8]at hI;simp only[vo]at hI;refine awp.cut (fun st=>∃(full:Bool) (lo:Nat) (sl:AV) (ad:List Sb) (ah:IEnv) (au:cL) (s3:ISt) (P:AV),(if binB n.op=true/\k=1 then R' I aa s2 else ((I,aa),s2))=((ad,au),s3)/\st.tm 1=sl/\(sl = .lst full (ad.map cSb)\/(OwnF lo st.mu 9 sl (ad.map cSb)/\(∀ b s o q,P = .sl b s o q->b<lo)/\4<=lo))/\AtK ts l es n body s k ad ah au s3 ae P z st/\(ad.length:Int)+(if k+1<=1 then 1 else 0)<=s3.sM+8/\dueN (qt ts es) (binB n.op) (k+1)<=pot (qt ts es) s3/\(k+1<=1->au=n.name)) ?_ ?_
   .clear bi bl
    by_cases ar:k=1
    .subst ar
     have bg:=b8 (qs _);have df:st.mu.length=rr.length+4:=by rw[a0];rfl
     have b0:∀ b s o q,P = .sl b s o q->b<rr.length+4:=fun b s o q e=>by
      rcases A.ho.1 with h|⟨c,h,hc⟩
      .rw [h]at e;cases e
      .rw [h]at e;cases e;have:=(qi.1 hc).1;omega
     have ab:(1:Int)<n.sD.length:=zOm;have cp:=A.c0;have b9:=A.l0;have cq:=A.c1;by_cases an:binB n.op=true
     .have a9:n.op=15\/n.op=45\/n.op=46:=by simpa[binB,or_assoc] using an
      have dm:=h.ns;have dn:=h.nf;have dp:qt ts es<=l.length+40:=by have:=t.len;unfold qt;omega
      have cr:okNm ts:=⟨h.sl,zOm,zOm,fun f hf=>zW1 (h.fl f hf)⟩;have cn:=Xi ts cr n.name;have ax:=Xh ts n.name;have cs:(named ts n.name).2=(means ts n.name).length:=by rw[Xy h]
      rw[cs]at cn;generalize (named ts n.name).1=C at *
      have bu:StOk (qt ts es) s2:=⟨b9,zOm,cq,zW1 (Vy (qt ts es) (binB n.op) 1)⟩;have ct:=bu.last;have cf:=qmG ts h l es t hl s2 ⟨b9,zOm⟩ (b5 s2.last b9);by_cases af:body=true\/means ts n.name≠[]
      .have hq:(if binB n.op=true/\1=1 then R' I aa s2 else ((I,aa),s2))=((I++[(n.name,⟨none,0,vN (zz ts es (qt ts es) s2.last)⟩)],vN (zz ts es (qt ts es) s2.last)),⟨zz ts es (qt ts es) s2.last,s2.sM⟩):=by
        rw[if_pos ⟨an,rfl⟩,bh,bg];show renR ts es I n.name body s2=_;unfold renR;rw[if_pos af]
       have cu:body=true\/(body=false/\0<(means ts n.name).length):=by
        cases body with
        |true=>exact .inl rfl
        |false=>exact .inr ⟨rfl,V4.2 (af.resolve_left zSp)⟩
       clear hI;have bv:renR ts es I n.name body s2=((I++[(n.name,⟨none,0,vN (zz ts es (qt ts es) s2.last)⟩)],vN (zz ts es (qt ts es) s2.last)),⟨zz ts es (qt ts es) s2.last,s2.sM⟩):=by
        unfold renR;rw[if_pos af]
       obtain⟨a1,a2,a3⟩:=qaX (es:=es) (nm:=n.name) (s:=s2) A.en A.so;have a4:=Vw (ts:=ts) (es:=es) (nm:=n.name) (body:=body) (s:=s2) A.en;obtain⟨b1,b2,b3⟩:=Vx (body:=body) (nm:=n.name) (env:=U) b5 b9;rw[bv]at a1 a3;rw[<-a3]at b1 b2;simp only at b1 b2 a1;have bm:dueN (qt ts es) (binB n.op) 1=(qt ts es:Int):=by unfold dueN;rw[if_pos ⟨an,zOm⟩]
       have bn:dueN (qt ts es) (binB n.op) 2=0:=by unfold dueN;rw[zIn]
       rw[bm]at ao;unfold pot at ao;generalize (renI ts es U n.name body s2).1.1=ah at *
       clear a2 a3 b3;generalize dq:zz ts es (qt ts es) s2.last=R at *
       rcases a9 with a9|a9|a9<;>rcases cu with aw|⟨aw,cv⟩
       all_goals
        simp[go_sem,e3,e4,e6,e8,e9,a5,a6,a7,T,a0,a8,ab,a9,qO];refine cY cn (.zk (zt ts) (.zs .nil)) ?_;simp[go_sem,e3,e4,e6,e8,e9,a5,a6,a7,T,a0,a8,ab,a9,qO,ax.len];rw[if_pos ax.one];generalize qQ _ 0 C=PC
        first
        |simp[go_sem,e3,e4,e6,e8,e9,a5,a6,a7,T,a0,a8,ab,a9,qO,aw,cv]
        |simp[go_sem,e3,e4,e6,e8,e9,a5,a6,a7,T,a0,a8,ab,a9,qO,aw]
        refine cY cf (.zk (ui ts l s2) .nil) ?_;simp[go_sem,e3,e4,e6,e8,e9,a5,a6,a7,T,a0,a8,ab,a9,qO,aw];refine qj.move 2 2 zKr zKr ?_ ?_
        all_goals
         simp[go_sem,e3,e4,e6,e8,e9,a5,a6,a7,T,a0,a8,ab,a9,qO,aw];refine qmL (lo:=rr.length+6) (xs:=[]) (ys:=I) (OwnF.nil zSp) (by simp[qF]) (by simp at ag⊢;omega) ?_;intro dr ds cw ar;simp[go_sem,e3,e4,e6,e8,e9,a5,a6,a7,T,a0,a8,ab,a9,qO,aw];refine qa0 (y:=(n.name,⟨none,0,vN R⟩)) cw (by simp at ag⊢;omega) ?_;intro cx dt az ai;have n0:=(ai 0 zOm).trans (ar 0 zOm);have n1:=(ai 1 zOm).trans (ar 1 zOm);have n2:=(ai 2 zOm).trans (ar 2 zOm);have n3:=(ai 3 zOm).trans (ar 3 zOm);simp at n0 n1 n2 n3;simp[go_sem,e3,e4,e6,e8,e9,a5,a6,a7,T,a8,ab,a9,qO,aw];refine aP ⟨false,rr.length+6,cx,I++[(n.name,⟨none,0,vN R⟩)],ah,vN R,⟨R,s2.sM⟩,P,hq,zSi,.inr ⟨zVs az,?_,zOm⟩,⟨zS2 e3 aw,zS1 e4,zS1 e6,zS1 e8,zS1 e9,zS1 a5,zS1 a6,zS1 a7,zS1 n0,zS1 n1,zS1 n2,zS2 n3 a9,?_,a1,a4,A.al,b1,A.c0,A.c1,A.z1,A.z2⟩,?_,?_,fun h=>zOm⟩
         .intro b s o q e;have:=b0 b s o q e;omega
         .simp only[yO]
          refine qa1 A.ho b0 (zW1 az.2.2) fun j h4 hj=>?_
          obtain⟨i,rfl⟩:∃ i,j=i+4:=⟨j-4,zOm⟩;rw[ai _ zOm,ar _ zOm,a0];simp only[jW];rw[zGa]
         .simp at ag⊢;omega
         .rw [bn];unfold pot;simp only;omega
      .have bw:body=false:=by cases body with
        |true=>exact absurd (.inl rfl) af
        |false=>rfl
       have cy:means ts n.name=[]:=Classical.byContradiction fun x=>af (.inr x)
       have hq:(if binB n.op=true/\1=1 then R' I aa s2 else ((I,aa),s2))=((I,aa),s2):=by
        rw[if_pos ⟨an,rfl⟩,bh,bg];show renR ts es I n.name body s2=_;unfold renR;rw[if_neg af]
       rcases a9 with a9|a9|a9
       all_goals
        simp[go_sem,e3,e4,e6,e8,e9,a5,a6,a7,T,a0,a8,ab,a9,qO];refine cY cn (.zk (zt ts) (.zs .nil)) ?_;simp[go_sem,e3,e4,e6,e8,e9,a5,a6,a7,T,a0,a8,ab,a9,qO,ax.len];rw[if_pos ax.one];generalize qQ _ 0 C=PC;simp[go_sem,e3,e4,e6,e8,e9,a5,a6,a7,T,a0,a8,ab,a9,qO,bw,cy];refine aP ⟨full,rr.length+5,.lst full (I.map cSb),I,U,aa,s2,P,hq,zS1 T,.inl rfl,A.keep (zS2 e3 bw) (zS1 e4) (zS1 e6) (zS1 e8) (zS1 e9) (zS1 a5) (zS1 a6) (zS1 a7) (rr.length+4) zOm ?_ zSi (fun j hj=>?_),?_,?_,fun h=>zOm⟩
        .exact b0
        .simp only[yO]
         rw[a0]
         match j,hj with
         | 0,_=>rfl
         | 1,_=>rfl
         | 2,_=>rfl
         | 3,_=>simp[a9]
         |i+4,hj =>
          simp only[jW];rw[zGa]
        .simp at ag⊢;omega
        .have bm:dueN (qt ts es) (binB n.op) 1=(qt ts es:Int):=by unfold dueN;rw[if_pos ⟨an,zOm⟩]
         have bn:dueN (qt ts es) (binB n.op) 2=0:=by unfold dueN;rw[zIn]
         rw[bm]at ao;rw[bn];omega
     .have ca:¬n.op=15:=fun e=>an (by simp[binB,e])
      have cb:¬n.op=45:=fun e=>an (by simp[binB,e])
      have cc:¬n.op=46:=fun e=>an (by simp[binB,e])
      simp[go_sem,e3,e4,e6,e8,e9,a5,a6,a7,T,a0,a8,ab,ca,cb,cc,qO];refine aP ⟨full,4,.lst full (I.map cSb),I,U,aa,s2,P,by rw[if_neg (fun x=>an x.1)],zS1 T,.inl rfl,A.same (zS1 e3) (zS1 e4) (zS1 e6) (zS1 e8) (zS1 e9) (zS1 a5) (zS1 a6) (zS1 a7) (zS1 a0),?_,?_,fun h=>zOm⟩
      .simp at ag⊢;omega
      .rw [<-nG (fun x=>an x.1)];exact ao
    .have cd:¬(k:Int)=1:=by omega
     simp[go_sem,e3,e4,e6,e8,e9,a5,a6,a7,T,a0,a8,cd,qO];refine aP ⟨full,4,.lst full (I.map cSb),I,U,aa,s2,P,by rw[if_neg (fun x=>ar x.2)],zS1 T,.inl rfl,A.same (zS1 e3) (zS1 e4) (zS1 e6) (zS1 e8) (zS1 e9) (zS1 a5) (zS1 a6) (zS1 a7) (zS1 a0),?_,?_,fun h=>b8 zOm⟩
     .split at ag<;>split<;>omega
     .rw [<-nG (fun x=>ar x.2)];exact ao
   .rintro st ⟨full,lo,sl,ad,ah,au,s3,P,hq,T,bo,A,ag,ao,b8⟩
    rw[hq]at hI;simp only at hI;have b4:StOk (qt ts es) s3:=⟨A.l0,zW1 A.c0,A.c1,zW1 (Vy (qt ts es) (binB n.op) (k+1))⟩;have bq:(ad.length:Int)<=s3.sM+8:=by split at ag<;>omega
    have x1:=bi n.sD[k] (qv a8) ah ad s3 b4 A.c0 A.en A.so bq;have x2:=bl n.sD[k] (qv a8) ah ad s3 b4 A.c0 A.en A.so;generalize E' ad n.sD[k] s3=q at *
    clear bi bl;rw[qeF,qeG];refine qj.fz (qmK (fun st=>∃ full,st.tm 1 = .lst full (ad.map cSb)/\AtK ts l es n body s k ad ah au s3 ae P z st) ?_ ?_)
    .rcases bo with bo|⟨da,b0,h4⟩
     .exact FzQ.skip ⟨full,by rw[T,bo],A⟩
     .refine FzQ.own (d:=1) T da (ZE ad) (fun r hr c hc=>by obtain⟨x,_,rfl⟩:=qp.1 hr;exact V0 x c hc) ?_
      intro db br du ai;refine⟨br,zSi,A.keep (by simp[go_sem,A.e3]) (by simp[go_sem,A.e4]) (by simp[go_sem,A.e6]) (by simp[go_sem,A.e8]) (by simp[go_sem,A.e9]) (by simp[go_sem,A.e11]) (by simp[go_sem,A.e12]) (by simp[go_sem,A.e13]) lo h4 b0 ?_ ?_⟩
      .have:=A.ho.2.2;simp only[yO];omega
      .intro j hj;simp only[yO];exact ai j hj
    rintro st ⟨full,T,A⟩;obtain⟨rr,a0⟩:=four A.m0 A.m1 A.m2 A.m3;have e3:=A.e3;have e4:=A.e4;have e6:=A.e6;have e8:=A.e8;have e9:=A.e9;have a5:=A.e11;have a6:=A.e12;have a7:=A.e13;have aj:=A.ho.one;have ak:=A.ho.cells;refine fW [0,1,2,3,4,5,6,7,8,9,10,11,12,17,13,14,15,16] [(0,0,[]),(1,0,[]),(2,0,[]),(3,0,[]),(4,0,[]),(5,0,[]),(6,0,[]),(7,0,[]),(8,1,[]),(9,0,[]),(10,0,[]),(11,0,[]),(12,0,[]),(17,0,[]),(13,2,[0,3,6]),(14,2,[0,3,6]),(15,1,[]),(16,1,[])] zKr zKr zSi ?_;simp[go_sem,e3,e4,e6,e8,e9,a5,a6,a7,T,a0,a8,qO,aj,ak];refine cY x1 (.zk (ui ts l s3) (.cons (WK.lst fun r hr c hc=>by
     obtain⟨x,_,rfl⟩:=qp.1 hr;exact V0 x c hc) (.zk (zd _) (.zs .nil)))) ?_
    simp[go_sem,e3,e4,e6,e8,e9,a5,a6,a7,T,a0,a8,qO,aj,ak];by_cases aq:4000<q.1.sM
    .rw [if_pos aq]at hI
     have hI:ay=(q.1,nd0,0):=hI.symm;simp[go_sem,e3,e4,e6,e8,e9,a5,a6,a7,T,a0,a8,qO,aj,ak,aq];rw[hI];exact rdZ ts l q.1
    .rcases x2 with x2|⟨_,g⟩
     .exact absurd x2 aq
     rw[if_neg aq]at hI;simp[go_sem,e3,e4,e6,e8,e9,a5,a6,a7,T,a0,a8,qO,aj,ak,aq];obtain⟨g1,g2,g3⟩:=VZ g b4;have gz:=g.z0;have dv:=g.cz;have dc:=g.c1;have gp:=g.p;have dw:=A.z1;have dx:=A.z2;have cp:=A.c0;have dd:=A.al;have dh:=A.ho.2.2;refine YD.appNd (lo:=4) (xs:=ae) ?_ zOm ?_
     .have h1:OwnF 4 (st.mu++[Cell.arr (cWk ts l q.1),Cell.arr (cNd q.2.1)]) 5 P (ae.map cNd):=YD.nI A.ho zSo fun i _ hi=>ze hi
      rw[a0]at h1;have h2:=OwnF.set (i:=0) (c:=Cell.arr (cWk ts l q.1)) h1 zOm;simpa using h2
     intro cg db az ai;have n0:=ai 0 zOm;have n1:=ai 1 zOm;have n2:=ai 2 zOm;have n3:=ai 3 zOm;simp at n0 n1 n2 n3;obtain⟨r2,ch⟩:=four n0 n1 n2 n3;have bs:=az.one;have bt:=az.cells;have w3:qw.wrap (z+q.2.2)=z+q.2.2:=zWr;simp[go_sem,e3,e4,e6,e8,e9,a5,a6,a7,T,ch,a8,qO,bs,bt,aq,w2,w3];refine aP ⟨full,ad,ah,au,q.1,ae++[q.2.1],cg,z+q.2.2,zS1 T,⟨zS1 e3,zS1 e4,zS1 e6,zS1 e8,zS1 e9,zS1 a5,zSi,zSi,zSi,zSi,zSi,zSi,?_,A.so,A.en,zP1 dd,g1.l0,zOm,dc,zOm,zOm⟩,zOm,zOm,b8,?_⟩
     .have h2:=OwnF.set (i:=3) (c:=Cell.arr [aI n.op,aS au,aI n.n,cg,aI n.pos]) az zOm
      rw[ch]at h2;simpa[go_sem] using h2
     .rw [<-hI]
      generalize vo E' R' (binB n.op) (k+1) ad au (List.drop (k+1) n.sD) q.1=X;cases X with
      |error e=>rfl
      |ok r =>
       obtain⟨⟨a,b,c⟩,d⟩:=r;simp[resK];omega
  .simp [go_sem,e3,e4,e6,e8,e9,a5,a6,a7,T,a0,a8,qO,aj,ak]
   refine fW [0,1,2,5,3,4] [(0,0,[]),(1,0,[]),(2,0,[]),(5,0,[]),(3,1,[1]),(4,1,[])] zKr zKr zSi ?_;simp[go_sem,e3,e4,e6,e8,e9,a5,a6,a7,T,a0,a8,qO,aj,ak];rw[Jd zOm]at hI;have hI:ay=(s2,.mk n.op aa n.n ae n.pos,z):=by rw[<-hI];simp[vo,resK]
   rw[hI];refine .tup _ _ rfl fun k x y hx hy=>?_
   match k,hx,hy with
   | 0,hx,hy=>cases hx;cases hy;exact .hf _ (ui ts l s2)
   | 1,hx,hy =>
    cases hx;cases hy;have de:eNd (.mk n.op aa n.n ae n.pos) = .agg [aI n.op,aS aa,aI n.n,.lst false (ae.map cNd),aI n.pos]:=by
     show AV.agg (cNd _)=_;rw[yD];rfl
    show Rd _ _ (eNd (.mk n.op aa n.n ae n.pos));rw[de];refine .agg _ _ rfl fun k x y hx hy=>?_
    match k,hx,hy with
    | 0,hx,hy=>cases hx;cases hy;exact .zsc _
    | 1,hx,hy=>cases hx;cases hy;exact .zsc _
    | 2,hx,hy=>cases hx;cases hy;exact .zsc _
    | 3,hx,hy =>
     cases hx;cases hy;have h1:=OwnF.set (i:=1) (c:=Cell.arr (cWk ts l s2)) A.ho zOm;have h2:=OwnF.set (i:=2) (c:=Cell.arr [aI n.op,aS aa,aI n.n,P,aI n.pos]) h1 zOm;rw[a0]at h2;exact h2.1.rd (YD.Xa ae).ok fun r hr c hc=>by
      obtain⟨x,_,rfl⟩:=qp.1 hr;exact wX x c hc
    | 4,hx,hy=>cases hx;cases hy;exact .zsc _
    |k+5,hx,hy=>cases hx
   | 2,hx,hy=>cases hx;cases hy;exact .zsc _
   |k+3,hx,hy=>cases hx
end
end RA
namespace RB
open YF Y9 Y1 YX YZ YB YC YE YG YH P1 P2 Q4 Q6 PF QE QT QW QX QY QZ RA
theorem qa2(l):∀ es nm,getK nm (putN es l)=some true↔(getK nm es=some true\/∃ x,x∈l/\x.name=nm):=by
 induction l with
 |nil=>intro es nm;exact⟨fun h => .inl h,fun h=>h.elim id fun⟨x,g,_⟩=>absurd g qG⟩
 |cons a l i =>
  intro es nm;have e:putN es (a :: l)=putN (setK a.name true es) l:=rfl;rw[e,i,uI];by_cases e:nm=a.name
  .grind
  .rw [if_neg e]
   constructor
   .grind
   .rintro (h|⟨x,g,j⟩)
    .exact .inl h
    .rcases ql.1 g with rfl|g
     .grind
     grind
theorem qmM(l:List Pd):∀ es nm,getK nm (l.foldl (fun es p=>putN es (preN p.body)) es)=some true↔(getK nm es=some true\/∃ p,p∈l/\∃ x,x∈preN p.body/\x.name=nm):=by
 induction l with
 |nil=>simp
 |cons a l i =>
  intro es nm;rw[List.foldl_cons,i,qa2];constructor
  .grind
  .rintro (h|⟨p,g,h⟩)
   .grind
   .rcases ql.1 g with rfl|g
    .grind
    grind
structure Ti (es:List (cL×Bool)):Prop where
 nd:(es.map Prod.fst).Nodup
 tr:∀ e,e∈es->e.2=true
theorem Ti.put(l):∀{es},Ti es->Ti (putN es l):=by
 induction l with
 |nil=>intro es h;exact h
 |cons a l i =>
  intro es h;refine i (es:=setK a.name true es) ⟨Wb h.nd,fun e g=>?_⟩;rcases VA g with rfl|g
  .rfl
  .exact h.tr e g
theorem cK(l:List Pd):∀{es},Ti es->Ti (l.foldl (fun es p=>putN es (preN p.body)) es):=by
 induction l with
 |nil=>grind
 |cons a l g=>intro es h;exact g (h.put _)
theorem XY{nm}(n)(i:nm≠⟨#[]⟩):nm∈namL n↔∃ x,x∈preN n/\x.name=nm:=by
 unfold namL;rw[qp];constructor
 .rintro ⟨x,g,e⟩
  exact⟨x,(yT.1 g).1,e⟩
 .rintro ⟨x,g,e⟩
  exact⟨x,yT.2 ⟨g,by rw[e];simpa using i⟩,e⟩
theorem takTn(ts n):Tn (takL ts n) (yS ts n):=by
 have j:∀ i:cL,i≠⟨#[]⟩->(i∈takL ts n↔getK i (yS ts n)=some true):=fun i r=>by
  unfold takL yS;rw[qmM,qa2,qI,XY n r,List.mem_flatMap];constructor
  .grind [XY]
  .rintro ((h|h)|⟨p,P,h⟩)
   .cases h
   .exact .inl h
   grind [XY]
 refine⟨j,?_⟩;have g:Ti (yS ts n):=cK _ (Ti.put _ ⟨.nil,fun e t=>absurd t qG⟩);have:=List.Nodup.length_le_of_subset (l₂:=⟨#[]⟩ :: takL ts n) g.nd fun x C=>by
  by_cases e:x=⟨#[]⟩
  .grind
  .refine qB _ ((j x e).2 ?_)
   obtain⟨q,o,rfl⟩:=qp.1 C;have I:=g.tr q o;have J:=(Yd g.nd (k:=q.1) (v:=q.2)).2 o;rw[J,I]
 grind
theorem qa3(ts)(h:okTS ts)(l es)(t:Tn l es)(I:l.length<=400000)(J:qt ts es<=200000)(g:Free ts es)(j:∀ p,p∈ts.sT->WfN p.body/\ju ts p.body):∀ f env sc n body s,Pre ts es f env sc n body s->ExpW ts l es f sc n body s
 | 0,env,sc,n,body,s,p=>zW2 p.fu p.st.c1
 |f+1,env,sc,n,body,s,p=>by
  have P:=qa3 ts h l es t I J g j f;by_cases o:s.sM+1<=4000
  case neg=>grind [expZ]
  by_cases R:n.op=1
  .grind [expN]
  by_cases h47:n.op=47
  .obtain ⟨r,C,i⟩:=p.cl n (vI n) h47
   have T:(payS 1 s).sM=s.sM+1:=rfl;exact expC ts l es f env sc n body s p o h47 r C (replW ts h l es g j f P env sc n body (payS 1 s) ⟨zW1 p.fu,(Qe p.st zOm o).ok p.st,p.en,p.wf,p.cl,p.so,zW1 p.le⟩ h47 r C i)
  grind [expK]
theorem inlRU(ts)(h:okTS ts)(hv:∀ p,p∈ts.sT->qY p.body=true)(hb:∀ p,p∈ts.sT->WfN p.body/\ju ts p.body)(n)(hn:qY n=true)(a7:(ye ts [] n).1=0->ju ts n):qh qc 80 [eTS ts,eNd n] (.tup [eNd (yz ts n).1,aI (yz ts n).2]):=by
 have hw:=v9 hn;have a8:=uh.1 hn;have J:∀ p,p∈ts.sT->WfN p.body:=fun p hp=>(hb p hp).1
 have a9:∀ p,p∈ts.sT->(preN p.body).length<=400:=fun p hp=>by grind [uh,YQ]
 have aa:(preN n).length<=400:=by grind [YQ]
 have hF:=qaI h hv hn;have hT:=takTn ts n;have af:=h.np;have ab:(takL ts n).length<=400000:=by
  have h1:∀ L:List Pd,(∀ p,p∈L->(preN p.body).length<=400)->(L.flatMap fun p=>namL p.body).length<=400*L.length:=by
   intro L;induction L with
   |nil=>intro _;simp
   |cons a L ih =>
    intro hL;have a1:=ih fun p hp=>hL p (qB _ hp)
    have a2:=VX a.body;have a3:=hL a (List.mem_cons_self ..);rw[List.flatMap_cons,qW,zC];omega
  grind [VX,takL,qW]
 have P:=nR ts (yS ts n);have T:StOk (qt ts (yS ts n)) ⟨0,0⟩:=⟨zSp,zSp,zSp,by simp[pot]⟩;have cf:=XG ts h J [] ⟨zSp,zSp⟩ zSp n hw a8.2.2.2;have o:=pM (szN n) n (qs _) hw.small;have ct:=qmB ts h J n hw aa a9;have U:WKs [eTS ts,.lst true [],eNd n] [eTS ts,lPm [],eNd n] := .zk (zt ts) (.cons (WK.lst fun r hr=>absurd hr qG) (.zk (zd n) .nil));have ad:WKs [eTS ts,eNd n] [eTS ts,eNd n] := .zk (zt ts) (.zk (zd n) .nil);generalize j:yz ts n=R;unfold yz at j;by_cases l:(ye ts [] n).1=0
 case neg =>
  rw[if_pos l]at j;subst j;refine qSU call80 func80 rfl ?_;refine cY cf U ?_;simp[go_sem,l];refine fW [0,1,2,4,3] [(0,0,[]),(1,0,[]),(2,0,[]),(4,0,[]),(3,1,[2])] zKr zKr zSi ?_;simp_all[go_sem,VB]
 rw[if_neg (zUs l)]at j;cases ha:anyN (fun n=>decide (n.op=47)) n with
 |false =>
  rw[ha]at j o;rw[if_pos rfl]at j;subst j;refine qSU call80 func80 rfl ?_;refine cY cf U ?_;simp[go_sem,l];refine cY o (.zk (zd n) .nil) ?_;simp[go_sem,l];exact .hf _ (HF.tup fun x hx=>by
   simp only[ql,qG,or_false]at hx;rcases hx with rfl|rfl
   .exact zd n
   .exact HF.sc _)
 |true =>
  rw[ha]at j o;rw[if_neg zSp]at j;have a0:=a7 l;have cx:=qa3 ts h (takL ts n) (yS ts n) hT ab hF P hb 4001 [] [] n false ⟨0,0⟩ ⟨zSp,T,.nil,hw,a0,⟨fun i=>rfl,fun _ i v hv=>(by cases hv),fun e he=>absurd he qG⟩,zSp⟩;have ho:=ZD ts (yS ts n) P hb 4001 [] [] n false ⟨0,0⟩ zSp T .nil hw a0 ⟨fun i=>rfl,fun _ i v hv=>(by cases hv),fun e he=>absurd he qG⟩;have a4:=fun {n' z s'}=>Ys ts J (yS ts n) 4001 (env:=[]) (n:=n) (n':=n') (body:=false) (s:=⟨0,0⟩) (s':=s') (z:=z) (fun e he=>absurd he qG) hw
  have a5:=fun {n' z s'}=>vj ts P 4001 (env:=[]) (n:=n) (n':=n') (body:=false) (s':=s') (z:=z) T .nil
  have a6:=fun {d}=>Yt ts (yS ts n) 4001 (env:=[]) (n:=n) (body:=false) (s:=⟨0,0⟩) (d:=d)
  unfold outI at j;unfold ExpW at cx;generalize expR ts (yS ts n) 4001 [] n false ⟨0,0⟩=q at *
  generalize expI ts (yS ts n) 4001 [] n false ⟨0,0⟩=E at *
  have ae:(4000<q.1.sM/\R=(nd0,2))\/(¬ 4000<q.1.sM/\yf q.2.1/\depN q.2.1<=1000000/\((400<q.2.2/\R=(nd0,2))\/(¬ 400<q.2.2/\24<depN q.2.1/\R=(nd0,2))\/(¬ 400<q.2.2/\¬ 24<depN q.2.1/\R=(q.2.1,0)))):=by
   cases E with
   |error d =>
    have:=a6 rfl;subst this;exact .inl ⟨ho.1,j.symm⟩
   |ok r =>
    obtain⟨⟨m,y⟩,t⟩:=r;obtain⟨o1,o2,o3⟩:=ho;obtain⟨s1,s2⟩:=a4 rfl;have g:=a5 rfl;have gc:=g.c1;have gz:=g.cz;have dl:=nJ m;rw[o1,o2,o3];have gz:0+y<=t.sM:=gz;refine .inr ⟨zOm,s2,zOm,?_⟩;simp only at j;by_cases z1:y<=400
    .by_cases z2:depN m<=24
     .grind
     grind
    .rw [if_neg (fun x=>z1 x.1)]at j
     grind
  clear j ho a4 a5 a6;refine qSU call80 func80 rfl ?_;refine cY cf U ?_;simp[go_sem,l];refine cY o (.zk (zd n) .nil) ?_;simp[go_sem,l];refine fW [0,1,2,5,3,4,6,7,8,9,10,15,11,12,13,14] [(0,0,[]),(1,0,[]),(2,0,[]),(5,0,[]),(3,1,[0,5]),(4,0,[]),(6,1,[]),(7,0,[]),(8,0,[]),(9,0,[]),(10,0,[]),(15,0,[]),(11,2,[0,1,2,5]),(12,2,[0,1,2,5]),(13,1,[]),(14,1,[])] zKr zKr zSi ?_;simp[go_sem,l];refine cY ct ad ?_;simp[go_sem,l];refine cY cx ?_ ?_
  .exact .zk (ui ts (takL ts n) ⟨0,0⟩) (.cons (WK.lst fun r hr=>absurd hr qG) (.zk (zd n) (.zs .nil)))
  simp[go_sem,l];have ag:∀ I:Mu,Rd I (.tup [eNd q.2.1,aI 0]) (.tup [eNd q.2.1,aI 0]):=fun I => .hf _ (HF.tup fun x hx=>by
   simp only[ql,qG,or_false]at hx;rcases hx with rfl|rfl
   .exact zd _
   .exact HF.sc _)
  rcases ae with ⟨g1,g2⟩|⟨g1,gs,gd,⟨g2,g3⟩|⟨g2,g3,g4⟩|⟨g2,g3,g4⟩⟩
  .simp_all [go_sem,g1,VB]
  .rw [g3]
   simp[go_sem,l,g1,g2];exact VB _ _
  .rw [g4]
   simp[go_sem,l,g1,g2];refine cY (XW (szN q.2.1) q.2.1 (qs _) gs gd) (.zk (zd _) .nil) ?_;simp_all[go_sem,g1,VB]
  .rw [g4]
   simp[go_sem,l,g1,g2];refine cY (XW (szN q.2.1) q.2.1 (qs _) gs gd) (.zk (zd _) .nil) ?_;simp[go_sem, *]
end RB
namespace FE
open Y1 Y9
def zE(op a s:Int)(i:Nat)(k:Int):Int:=if op=48\/op=49\/op=51 then k*s else if i=1/\(op=45\/op=46\/op=15) then k*a else k
def minW(v:Int):Int:=if 1000000<v then 1000000 else v
mutual
def wkN(a s:Int):Nd->Int
 | .mk op _ _ ks _=>wkNs a s op 0 ks 1
def wkNs(a s op:Int):Nat->List Nd->Int->Int
 |_,[],sum=>sum
 |i,k :: ks,sum=>wkNs a s op (i+1) ks (minW (sum+zE op a s i (wkN a s k)))
end
theorem qmN(a s n):wkN a s n=wkNs a s n.op 0 n.sD 1:=by
 obtain⟨op,g,i,ks,q⟩:=n;rw[wkN];rfl
theorem qa4{op a s i k}(j:0<=a/\a<=100)(l:0<=s/\s<=100)(g:0<=k/\k<=1000000):0<=zE op a s i k/\zE op a s i k<=100000000:=by
 unfold zE;have o:=Int.mul_nonneg g.1 j.1;have p:=Int.mul_nonneg g.1 l.1;have r:k*a<=1000000*100:=uq g.2 j.2 j.1 zOm;have t:k*s<=1000000*100:=uq g.2 l.2 l.1 zOm;split
 .omega
 omega
theorem qa5{v}(h:0<=v):0<=minW v/\minW v<=1000000:=by unfold minW;split<;>omega
mutual
theorem qa6(a s:Int)(g:0<=a/\a<=100)(i:0<=s/\s<=100):∀ n:Nd,0<=wkN a s n/\wkN a s n<=1000000
 | .mk op _ _ ks _=>by rw[wkN];exact qa7 a s g i op ks 0 1 zOm
theorem qa7(a s:Int)(g:0<=a/\a<=100)(j:0<=s/\s<=100)(op:Int):∀(ks:List Nd)(i:Nat)(sum:Int),0<=sum/\sum<=1000000->0<=wkNs a s op i ks sum/\wkNs a s op i ks sum<=1000000
 | [],_,sum,h=>by rw[wkNs];exact h
 |k :: ks,i,sum,h=>by
  rw[wkNs];have l:=qa6 a s g j k;have o:=qa4 (op:=op) (i:=i) g j l;exact qa7 a s g j op ks (i+1) _ (qa5 zOm)
end
theorem qa8(a s)(ha:0<=a/\a<=100)(hs:0<=s/\s<=100):∀ m n,szN n<=m->yf n->qh qc 81 [eNd n,aI a,aI s] (aI (wkN a s n))
 | 0,n,hm,_=>by obtain⟨op,nm,i,ks,p⟩:=n;simp[szN]at hm
 |m+1,n,hm,a6=>by
  have ih:∀ k,k∈n.sD->qh qc 81 [eNd k,aI a,aI s] (aI (wkN a s k)):=fun k hk=>qa8 a s ha hs m k (zW1 (yw hk)) (a6.kid hk)
  rw[qmN];have a8:=a6.len;generalize hR:wkNs a s n.op 0 n.sD 1=R;refine qSU call81 func81 rfl ?_;refine aC n.sD.length (fun k st=>∃ sum:Int,st.tm 1=aI a/\st.tm 2=aI s/\st.tm 3 = .ip (cNd n)/\st.tm 7=aI sum/\st.tm 8=aI k/\(0<=sum/\sum<=1000000)/\wkNs a s n.op k (n.sD.drop k) sum=R) ?_ ?_
  .simp [go_sem, *]
  .rintro k st hk ⟨sum,r,t,C,e7,e8,a9,o⟩
   by_cases a7:k=n.sD.length
   .subst a7
    rw[yr,wkNs]at o;subst o;simp[go_sem,r,t,C,e7,e8];exact .zsc _
   .have l:k<n.sD.length:=by omega
    rw[zB l,wkNs]at o;have w1:=zWk k;have a2:=qa6 a s ha hs n.sD[k];have aa:=qa4 (op:=n.op) (i:=k) ha hs a2;have j:=qa5 (v:=sum+zE n.op a s k (wkN a s n.sD[k])) zOm;have m1:=Int.mul_nonneg a2.1 ha.1;have m2:=Int.mul_nonneg a2.1 hs.1;have m3:wkN a s n.sD[k] * a<=1000000*100:=uq a2.2 ha.2 ha.1 zOm;have m4:wkN a s n.sD[k] * s<=1000000*100:=uq a2.2 hs.2 hs.1 zOm;simp[go_sem,r,t,C,e7,e8,l,qO];refine cY (ih n.sD[k] (qv l)) (.zk (zd _) (.zs (.zs .nil))) ?_;generalize wkN a s n.sD[k]=K at *
    by_cases I:k=1
    .have g:(k:Int)=1:=by omega
     by_cases U:n.op=48
     .have J:zE n.op a s k K=K*s:=by simp[zE,U,I,g]
      rw[J]at o j;have P:qw.wrap (K*s)=K*s:=zWr;have T:qw.wrap (sum+K*s)=sum+K*s:=zWr;simp[go_sem,r,t,C,e7,e8,w1,P,T,l,U,eq_true I,eq_true g];simp_all[go_sem,aP,minW]
     by_cases a0:n.op=49
     .have J:zE n.op a s k K=K*s:=by simp[zE,a0,I,g]
      rw[J]at o j;have P:qw.wrap (K*s)=K*s:=zWr;have T:qw.wrap (sum+K*s)=sum+K*s:=zWr;simp[go_sem,r,t,C,e7,e8,w1,P,T,l,a0,eq_true I,eq_true g];exact aP ⟨_,zS1 r,zS1 t,zS1 C,by simp[go_sem,minW],zSi,j,o⟩
     by_cases a1:n.op=51
     .have J:zE n.op a s k K=K*s:=by simp[zE,a1,I,g]
      rw[J]at o j;have P:qw.wrap (K*s)=K*s:=zWr;have T:qw.wrap (sum+K*s)=sum+K*s:=zWr;simp[go_sem,r,t,C,e7,e8,w1,P,T,l,a1,eq_true I,eq_true g];exact aP ⟨_,zS1 r,zS1 t,zS1 C,by simp[go_sem,minW],zSi,j,o⟩
     by_cases a3:n.op=45
     .have J:zE n.op a s k K=K*a:=by simp[zE,a3,I,g]
      rw[J]at o j;have P:qw.wrap (K*a)=K*a:=zWr;have T:qw.wrap (sum+K*a)=sum+K*a:=zWr;simp[go_sem,r,t,C,e7,e8,w1,P,T,l,a3,eq_true I,eq_true g];exact aP ⟨_,zS1 r,zS1 t,zS1 C,by simp[go_sem,minW],zSi,j,o⟩
     by_cases a4:n.op=46
     .have J:zE n.op a s k K=K*a:=by simp[zE,a4,I,g]
      rw[J]at o j;have P:qw.wrap (K*a)=K*a:=zWr;have T:qw.wrap (sum+K*a)=sum+K*a:=zWr;simp[go_sem,r,t,C,e7,e8,w1,P,T,l,a4,eq_true I,eq_true g];exact aP ⟨_,zS1 r,zS1 t,zS1 C,by simp[go_sem,minW],zSi,j,o⟩
     by_cases a5:n.op=15
     .have J:zE n.op a s k K=K*a:=by simp[zE,a5,I,g]
      rw[J]at o j;have P:qw.wrap (K*a)=K*a:=zWr;have T:qw.wrap (sum+K*a)=sum+K*a:=zWr;simp[go_sem,r,t,C,e7,e8,w1,P,T,l,a5,eq_true I,eq_true g];exact aP ⟨_,zS1 r,zS1 t,zS1 C,by simp[go_sem,minW],zSi,j,o⟩
     have J:zE n.op a s k K=K:=by simp[zE,U,a0,a1,a3,a4,a5,I,g]
     rw[J]at o j;have P:=w1;have T:qw.wrap (sum+K)=sum+K:=zWr;simp[go_sem,r,t,C,e7,e8,w1,P,T,l,U,a0,a1,a3,a4,a5,eq_true I,eq_true g];simp_all[go_sem,aP,minW]
    .have g:¬(k:Int)=1:=by omega
     by_cases U:n.op=48
     .have J:zE n.op a s k K=K*s:=by simp[zE,U,I,g]
      rw[J]at o j;have P:qw.wrap (K*s)=K*s:=zWr;have T:qw.wrap (sum+K*s)=sum+K*s:=zWr;simp[go_sem,r,t,C,e7,e8,w1,P,T,l,U,I,g];exact aP ⟨_,zS1 r,zS1 t,zS1 C,by simp[go_sem,minW],zSi,j,o⟩
     by_cases a0:n.op=49
     .have J:zE n.op a s k K=K*s:=by simp[zE,a0,I,g]
      rw[J]at o j;have P:qw.wrap (K*s)=K*s:=zWr;have T:qw.wrap (sum+K*s)=sum+K*s:=zWr;simp[go_sem,r,t,C,e7,e8,w1,P,T,l,a0,I,g];exact aP ⟨_,zS1 r,zS1 t,zS1 C,by simp[go_sem,minW],zSi,j,o⟩
     by_cases a1:n.op=51
     .have J:zE n.op a s k K=K*s:=by simp[zE,a1,I,g]
      rw[J]at o j;have P:qw.wrap (K*s)=K*s:=zWr;have T:qw.wrap (sum+K*s)=sum+K*s:=zWr;simp[go_sem,r,t,C,e7,e8,w1,P,T,l,a1,I,g];exact aP ⟨_,zS1 r,zS1 t,zS1 C,by simp[go_sem,minW],zSi,j,o⟩
     have J:zE n.op a s k K=K:=by simp[zE,U,a0,a1,I,g]
     rw[J]at o j;have P:=w1;have T:qw.wrap (sum+K)=sum+K:=zWr;simp[go_sem,r,t,C,e7,e8,w1,P,T,l,U,a0,a1,I,g];exact aP ⟨_,zS1 r,zS1 t,zS1 C,by simp[go_sem,minW],zSi,j,o⟩
end FE
namespace FF
end FF
namespace IB
open QU P1 P2 Y1 YF Y9 Y10 Y16 PA YC YG Q4 Q6 Q8 PF QT RB QL FE
section
variable {ts:TS}
abbrev bigT(ts:TS):Prop:=∀ x,x∈ts.sS->x.1.size<=4611686018427387904
structure SpD (ts:TS):Prop where
 h:okTS ts
 wp:∀ p,p∈ts.sT->WfN p.body
 wf:∀ f,f∈ts.sP->WfN f.2
 hv:∀ p,p∈ts.sT->qY p.body=true
 hf:∀ f,f∈ts.sP->qY f.2=true
theorem qa9(h:z8 ts=true)(i:bigT ts):SpD ts:=by
 obtain⟨ok,j,wf⟩:=qg0 h i;simp only[z8,limB,fldB,qu,decide_eq_true_eq,List.all_eq_true]at h;obtain⟨⟨⟨⟨r,t⟩,C⟩,I⟩,hf,l,o⟩:=h;exact⟨ok,j,wf,fun p g=>(l p g).2,fun f g=>o f g⟩
theorem SpD.chk(S:SpD ts):qh qc 37 [eTS ts] (lDg (y5 ts)):=
 qlN ts S.h S.wp S.wf (fun p g=>(uh.1 (S.hv p g)).2.2.2) (fun f hf=>(uh.1 (S.hf f hf)).2.2.2)
theorem SpD.chkF(S:SpD ts){n}(g:qY n=true):qh qc 38 [eTS ts,lPm [],eNd n] (eDg (ye ts [] n)):=
 XG ts S.h S.wp [] ⟨zSp,zSp⟩ zSp n (v9 g) (uh.1 g).2.2.2
theorem qmO(S:SpD ts)(j:y5 ts=[]):∀ p,p∈ts.sT->WfN p.body/\ju ts p.body:=fun p g=>⟨S.wp p g,by
 obtain⟨i,l,rfl⟩:=wC.1 g;obtain⟨_,r,o⟩:=VT (qaF j i l);exact XM (uK S.h zOm) (szN ts.sT[i].body) _ _ _ _ (qs _) o (S.wp _ g)⟩
theorem callF(S:SpD ts){n}(g:qY n=true)(i:(ye ts [] n).1=0):ju ts n:=by
 obtain⟨_,l,j⟩:=VT i;exact XM (uK S.h (qs _)) (szN n) _ _ _ _ (qs _) j (v9 g)
theorem inlR(S:SpD ts)(i:y5 ts=[]){n}(g:qY n=true):qh qc 80 [eTS ts,eNd n] (.tup [eNd (yz ts n).1,aI (yz ts n).2]):=
 inlRU ts S.h S.hv (qmO S i) n g (callF S g)
theorem qmP(S:SpD ts)(o:y5 ts=[]){n}(j:qY n=true)(g:(yz ts n).2=0):qY (yz ts n).1=true:=by
 by_cases i:(ye ts [] n).1=0
 .cases l:anyN (fun n=>decide (n.op=47)) n with
  |false =>
   have:yz ts n=(n,0):=by unfold yz;rw[if_neg (zUs i),if_pos l]
   rw[this];exact j
  |true=>exact(qlY S.h S.hv o j i l (Prod.ext rfl g)).1
 .unfold yz at g
  rw[if_pos i]at g;exact absurd g i
def qmQ(ts:TS)(a s:Int)(l:List Nd):Bool:=l.all fun b=>!(decide ((yz ts b).2=0)&&decide (3000<wkN a s (yz ts b).1))
def XZ(ts:TS)(a s:Int)(n:Nd):Bool:=qmQ ts a s (ts.sP.map Prod.snd++[n])
theorem qmR(S:SpD ts)(g:y5 ts=[]){n}(i:qY n=true)(j:(yz ts n).2=0):yf (yz ts n).1:=(v9 (qmP S g i j)).small
end
end IB
namespace IC
open P1 E1 E3 GF GS GU GW GY HA
structure Betw (sc:Sc) (vs:List Bool) (bs:List Bd) (N:Nat) (m:Md):Prop where
 sc:m.sc=sc
 lp:∃ k:Nat,k<N/\m.loop=k
 ns:m.sK.length=N
 len:∀ s,s∈m.sK->s.length=bs.length
 rel:∀(k f:Nat)(hk:k<m.sK.length)(hf:f<bs.length)(h2:f<m.sK[k].length),m.sK[k][f].ar=bs[f].lo.ar/\sorted m.sK[k][f].ts/\(∀ t,t∈bs[f].lo.ts->t∈m.sK[k][f].ts)/\∀ t,t∈m.sK[k][f].ts->t∈bs[f].up.ts
 fix:∀(k f:Nat)(hk:k<m.sK.length)(h0:0<m.sK.length)(h2:f<m.sK[k].length)(h3:f<m.sK[0].length),vs.getD f true=false->m.sK[k][f]=m.sK[0][f]
theorem qbA{ts sc g}(B:BndV ts sc g){N}(T:1<=N){m}(h:m∈Yq sc (vsT ts) g (chs (vsT ts) (qM g 0) N) N):Betw sc (vsT ts) g N m:=by
 obtain⟨k,c,p,r,rfl⟩:=gl.1 h;have t:(wt sc (vsT ts) g c N k).sK.length=N:=by simp[wt]
 have i:∀ s,s∈(wt sc (vsT ts) g c N k).sK->∃ j,s=jS (vsT ts) g c j:=fun s l=>by
  obtain⟨j,_,rfl⟩:=qp.1 l;exact⟨j,rfl⟩
 refine⟨rfl,⟨k,p,rfl⟩,t,fun s l=>?_,fun j f C hf o=>?_,fun j f C U o h3 hv=>?_⟩
 .obtain ⟨j,rfl⟩:=i s l
  rw[WR]
 .simp only[wt,V2,List.getElem_range]at o⊢
  obtain⟨I,J,P,R⟩:=qh2 B r j f hf o;exact⟨I,J,P,R⟩
 simp_all[wt,vsT,jS,WR,V2,List.getElem_range,WS]
end IC
namespace ID
end ID
namespace IE
end IE
namespace IK
open P1 E1 E3 G5 GF GQ GR GS GU GW GY IB Y16
structure Cx (ts:TS) (sc:Sc) (b:List Bd) (N:Nat):Prop where
 S:SpD ts
 hk:y5 ts=[]
 F:Fit9 ts sc
 z:jt sc=true
 h5:sumI sc.sC<=5
 B:BndV ts sc b
 hS:sc.sN=N
 c9:(chs (vsT ts) (qM b 0) N).length<=9
theorem full5{ts sc}(F:Fit9 ts sc)(g:sumI sc.sC<=5){f}(hf:f∈ts.sA):(zT sc f.sS).length<=1000/\sorted (zT sc f.sS):=by
 obtain⟨a,b,_⟩:=WP F g _ (List.mem_map_of_mem (f:=fun f:Fld=>(⟨⟨f.sS.length,[]⟩,⟨f.sS.length,zT sc f.sS⟩⟩:Bd)) hf);exact⟨a,b⟩
theorem qbB(M):∀ l k,(∀ x,x∈l->x.up.ts.length<=M)->(qM l k).length<=l.length*M
 | [],k,_=>by simp[qM]
 |x :: l,k,h=>by
  have i:=h x zSp;have j:(yo k x).length<=x.up.ts.length:=by rw[yo,yi];exact List.length_filter_le _ _
  have o:=qbB M l (k+1) fun y g=>h y (zP1 g)
  simp only[qM,qW,zC,Nat.add_mul,Nat.one_mul];omega
namespace Cx
variable {ts:TS} {sc:Sc} {b:List Bd} {N:Nat}
theorem N1(X:Cx ts sc b N):1<=N:=by have:=X.F.s1;have:=X.hS;omega
theorem N4(X:Cx ts sc b N):N<=4:=by have:=X.F.s4;have:=X.hS;omega
end Cx
abbrev LL(ts:TS)(sc:Sc)(b:List Bd)(N:Nat):List Md:=Yq sc (vsT ts) b (chs (vsT ts) (qM b 0) N) N
namespace Cx
variable {ts:TS} {sc:Sc} {b:List Bd} {N:Nat}
end Cx
namespace Cx
variable {ts:TS} {sc:Sc} {b:List Bd} {N:Nat}
end Cx
end IK
namespace IL
open P1
variable {ts:TS} {sc:Sc} {b:List Bd} {N:Nat}
end IL
namespace IM
open P1 G5 GP GR GS GW GZ IK
variable {ts:TS} {sc:Sc} {b:List Bd} {N:Nat}
theorem qbC(F:Fit9 ts sc):BndV ts sc (defB ts sc):=by
 refine⟨by simp[defB],fun i h l=>?_,fun x g=>?_,fun x g t j=>?_,fun i h l t j=>?_⟩
 .simp [defB]
 .obtain ⟨f,hf,rfl⟩:=qp.1 g
  exact⟨List.Pairwise.nil,Yo _ _ _⟩
 .obtain ⟨f,hf,rfl⟩:=qp.1 g
  exact absurd j qG
 grind [defB]
theorem qbD(F:Fit9 ts sc)(p:sc.sN=N)(l:1<=N)(g:List (List Bool))(lp:Int)(t:0<=lp):anyM sc (vsT ts) (defB ts sc) g (lp % sc.sN)∈LL ts sc (defB ts sc) N:=by
 have B:=qbC F;have l:0<=lp % sc.sN/\lp % sc.sN<N:=⟨Int.emod_nonneg _ zOm,zW1 (Int.emod_lt_of_pos lp (b:=sc.sN) zOm)⟩;obtain⟨k,r⟩:=Int.eq_ofNat_of_zero_le l.1;rw[r];refine qhV sc (vsT ts) (defB ts sc) g N k p zOm (fun x j=>?_) (fun x j=>(B.so x j).2) B.sub;obtain⟨i,o,rfl⟩:=um j;obtain⟨C,I⟩:=B.lo i o (by rw[<-B.len];exact o);omega
theorem qmS(F:Fit9 ts sc)(g:sumI sc.sC<=5){f}(hf:f∈ts.sA):(zT sc f.sS).length<=125:=by
 have i:=(F.f1 f hf).2;have j:=F.p;refine Nat.le_trans (Vo _ _ _) ?_;have:sumI sc.sC ^ f.sS.length<=125:=by
  rcases (show f.sS.length=0\/f.sS.length=1\/f.sS.length=2\/f.sS.length=3 by omega) with e|e|e|e<;>rw[e]<;>rcases (show sumI sc.sC=1\/sumI sc.sC=2\/sumI sc.sC=3\/sumI sc.sC=4\/sumI sc.sC=5 by omega) with d|d|d|d|d<;>rw[d]<;>decide
 omega
end IM
set_option maxHeartbeats 1000000
namespace LB
open YF P1 E3 EO EP F4 GA GB GC GD G5 GF GP GR GS GW HO HS HT IC LA W62
section
variable {N:Nat}{S T:Sts}
theorem qmT(ts sc)(F:Fit9 ts sc):qh qc 10 [eTS ts,eSc sc] (lBd (defB ts sc)):=by
 have a0:=F.nf;refine qSU call10 func10 rfl ?_;refine aC ts.sA.length (fun k st=>st.tm 2 = .ip (cTS ts)/\st.tm 3 = .ip [lI sc.sC,aI sc.sN]/\st.tm 9 = .lst false (ts.sA.map wb)/\st.tm 10=aI ts.sA.length/\st.tm 11=aI k/\Own st.mu 4 (st.tm 5) ((ts.sA.take k).map (rowD sc))) ?_ ?_
 .exact ⟨zSi,zSi,zSi,zSi,zSi,.inl zSi⟩
 rintro k st hk ⟨U,e3,e9,C,o,I⟩;by_cases i:k<ts.sA.length
 .have w1:=zWk k
  have j:=qv i;have t:=EW.k6 sc F.g (fun a ha=>(F.g.2 a ha).1) ts.sA[k].sS (F.fs _ j) (F.f1 _ j).1 (F.f1 _ j).2;rw[ql6 sc F.g F.p _ (F.f1 _ j).2 (F.fs _ j)]at t;simp[go_sem,e9,C,o,i];refine cN zKr ?_;simp[go_sem,U,e3,o,i];refine fY t (.zk (zM _) (.zk (qR _) .nil)) ?_;refine qD.ownB (e:=96) (sz:=4) (bt:=64) (zv := .agg [aI 0,.lst true [],aI 0,.lst true []]) (xs:=(ts.sA.take k).map (rowD sc)) (ys:=[rowD sc ts.sA[k]]) zSi zSi zSi rfl rfl zOm zOm (Own.push I _) (by simp[qF,rowD]) (wr sc _) (wr sc [_]) zSo ?_;intro a1 l P _ _ _;simp[go_sem,o,i,w1];refine aP ⟨zS1 U,zS1 e3,zS1 e9,zS1 C,zSi,?_⟩;rw[Zg i,zF];simpa[go_sem] using P
 .have R:k=ts.sA.length:=by omega
  subst R;rw[za]at I;simp[go_sem,C,o];have:=aH (g:=fun f=>cBd ⟨⟨f.sS.length,[]⟩,⟨f.sS.length,zT sc f.sS⟩⟩) I (wr sc _).ok (fun r T=>by
   obtain⟨n,_,rfl⟩:=qp.1 T;rfl) fun f _=>⟨.hf _ (HF.sc _),.wk _ true _ (.hf _ (HF.lst fun r T=>by simp at T)),.hf _ (HF.sc _),.hf _ (qR _),trivial⟩
  show Rd _ _ (.lst false ((defB ts sc).map cBd));rw[defB,List.map_map];exact this
theorem qbE{ts sc D K m}(H:Betw sc (vsT ts) D N m)(h1:1<=N)(C:D.length=ts.sA.length)(I:∀ x,x∈D->x.up.ts.length<=K):ShpS N ts.sA.length K m.sK/\Fix (vsT ts) N ts.sA.length m.sK /\
  ∀ s f,s<N->∀ hf,(getR m.sK s f).ar=D[f].lo.ar/\(∀ t,t∈D[f].lo.ts->t∈(getR m.sK s f).ts)/\∀ t,t∈(getR m.sK s f).ts->t∈D[f].up.ts:=by
 have J:=H.ns;have g:∀ s (i:s<m.sK.length),m.sK[s].length=D.length:=fun s i=>H.len _ (qv i)
 have j:∀ s f (i:s<m.sK.length) (hf:f<D.length),getR m.sK s f=m.sK[s][f]'(by rw[g s i];exact hf):=fun s f i hf=>wu i _
 refine⟨⟨⟨J,fun st o=>by rw[H.len st o,C],fun s f i hf=>?_⟩,fun s f i hf=>?_⟩,fun s p f i P hf r=>?_,fun s f i hf=>?_⟩
 .rw [j s f zOm zOm]
  exact(H.rel s f zOm zOm _).2.1
 .rw [j s f zOm zOm]
  have h:=H.rel s f zOm zOm (by rw[g];omega);have:=WV h.2.1 h.2.2.2;have:=I _ (qv (l:=D) (n:=f) zOm);omega
 .rw [j s f zOm zOm,j p f zOm zOm,H.fix s f zOm zOm (by rw[g];omega) (by rw[g];omega) r,H.fix p f zOm zOm (by rw[g];omega) (by rw[g];omega) r]
 .rw [j s f zOm hf]
  obtain⟨R,a2,T,U⟩:=H.rel s f zOm hf (by rw[g];omega);exact⟨R,T,U⟩
theorem qmU{n}(h:Shp N n S)(k:Shp N n T):((jg N n S T).length:Int)=xorS S T:=by
 obtain⟨rfl,o,p⟩:=h;obtain⟨r,t,C⟩:=k;refine qaT r.symm fun s g i=>?_
 have j:=o _ (qv g);have c1:=t _ (qv i);rw[<-j];refine qaT (f:=xorR) (j.trans c1.symm) fun f g1 I=>?_
 have s1:=p s f g zOm;have l:=C s f g zOm;rw[wu g g1,wu i I]at *
 rw[Zi s1 l,xorR,qf1 (s1.imp fun h e=>zOm) (l.imp fun h e=>zOm)];omega
theorem qmV{n K}(h:ShpS N n K S)(k:ShpS N n K T):(jg N n S T).length<=N*(n*(2*K)):=by
 have:(jg N n S T).length<=(qq N).length*((qq n).length*(2*K)):=HW.XQ fun s g=>HW.XQ fun f hf=>by
  simp only[List.mem_range]at g hf;have i:=h.sm s f g hf;have j:=k.sm s f g hf;have:=W3 s f (getR S s f).ts (getR T s f).ts;omega
 simpa using this
theorem qmW{n}(h:Shp N n S)(k:Shp N n T):z7 (fun x y:List Rl=>decide (x.length=y.length)) S T=true:=by
 have:∀(S T:Sts),S.length=T.length->(∀ st,st∈S->st.length=n)->(∀ st,st∈T->st.length=n)->z7 (fun x y:List Rl=>decide (x.length=y.length)) S T=true:=fun S=>by
  induction S with
  |nil=>intro T g _ _;cases T with
   |nil=>rfl
   |cons=>simp at g
  |cons a S j=>intro T g h k;cases T with
   |nil=>simp at g
   |cons b T =>
    rw[z7,j T (zUs g) (fun s i=>h s (zP1 i)) fun s i=>k s (zP1 i)];simp[h a zSp,k b zSp]
 exact this S T (h.len.trans k.len.symm) h.lens k.lens
end
end LB
namespace IN
open Y1 P1 YF
def wB(I:Nd->Nd×Int)(W:Nd->Int)(l:List Nd):Bool:=l.all fun b=>!(decide ((I b).2=0)&&decide (3000<W (I b).1))
theorem qmX(ts I W)(a2:ts.sP.length<=1000)(a s n)(step:∀ b,b∈ts.sP.map Prod.snd++[n]->qh qc 80 [eTS ts,eNd b] (.tup [eNd (I b).1,aI (I b).2]))(zE:∀ b,b∈ts.sP.map Prod.snd++[n]->(I b).2=0->qh qc 81 [eNd (I b).1,aI a,aI s] (aI (W (I b).1))):qh qc 39 [eTS ts,aI a,aI s,eNd n] (aB (wB I W (ts.sP.map Prod.snd++[n]))):=by
 have a3:(ts.sP.map Prod.snd++[n]).length=ts.sP.length+1:=zSp;have t:∀(k:Nat)(h:k<ts.sP.length)(h2:k<(ts.sP.map Prod.snd++[n]).length),(ts.sP.map Prod.snd++[n])[k]=ts.sP[k].2:=fun k h h2=>by grind
 have C:∀(h2:ts.sP.length<(ts.sP.map Prod.snd++[n]).length),(ts.sP.map Prod.snd++[n])[ts.sP.length]=n:=fun h2=>zSp
 generalize ts.sP.map Prod.snd++[n]=L at *
 generalize hR:wB I W L=R;refine qSU call39 func39 rfl ?_;refine aC (ts.sP.length+1) (fun k st=>st.tm 1=aI a/\st.tm 2=aI s/\st.tm 4 = .ip (cTS ts)/\st.tm 7 = .ip (cNd n)/\st.tm 9=aI k/\wB I W (L.drop k)=R) ?_ ?_
 .simp [go_sem, *]
 rintro k st a4 ⟨J,P,p,T,r,g⟩;have wi:∀ b:Nd,WKs [eTS ts,eNd b] [eTS ts,eNd b]:=fun b => .zk (zt ts) (.zk (zd b) .nil)
 have ww:∀ b:Nd,WKs [eNd b,aI a,aI s] [eNd b,aI a,aI s]:=fun b => .zk (zd b) (.zs (.zs .nil))
 have w1:=zWk k;by_cases l:k<ts.sP.length+1
 .have i:k<L.length:=by omega
  have a0:k<=ts.sP.length:=zOm;have U:(k:Int)<=ts.sP.length:=zOm;have c1:=step _ (qv i);have c2:=zE _ (qv i);rw[zB i,wB,List.all_cons]at g;by_cases hf:k<ts.sP.length
  .rw [t k hf i]at g c1 c2
   generalize I ts.sP[k].2=ib at *
   obtain⟨b',e'⟩:=ib;simp only at g c1 c2;simp[go_sem,p,T,r,hf,a0,U];refine fY c1 (wi _) ?_;by_cases he:e'=0
   .subst he
    have c3:=c2 rfl;simp[go_sem,J,P];refine cY c3 (ww b') ?_;generalize W b'=w at *
    by_cases j:3000<w
    .simp [j]at g
     subst g;simp[go_sem,j];exact .zsc _
    .simp [j]at g
     simp[go_sem,j,r,w1,l];exact aP ⟨zS1 J,zS1 P,zS1 p,zS1 T,zSi,by simpa[wB] using g⟩
   simp_all[go_sem,aP,wB]
  .have o:k=ts.sP.length:=by omega
   subst o;rw[C i]at g c1 c2;generalize I n=ib at *
   obtain⟨b',e'⟩:=ib;simp only at g c1 c2;simp[go_sem,p,T,r];refine fY c1 (wi _) ?_;by_cases he:e'=0
   .subst he
    have c3:=c2 rfl;simp[go_sem,J,P];refine cY c3 (ww b') ?_;generalize W b'=w at *
    by_cases j:3000<w
    .simp [j]at g
     subst g;simp[go_sem,j];exact .zsc _
    .simp [j]at g
     simp[go_sem,j,r,w1,l];exact aP ⟨zS1 J,zS1 P,zS1 p,zS1 T,zSi,by simpa[wB] using g⟩
   .simp [he]at g
    simp[go_sem,he,r,w1,l];exact aP ⟨zS1 J,zS1 P,zS1 p,zS1 T,zSi,by simpa[wB] using g⟩
 .have o:k=ts.sP.length+1:=by omega
  subst o;rw[Jd zOm]at g;have a1:R=true:=by rw[<-g];rfl
  subst a1;simp[go_sem,p,r,show ¬((ts.sP.length:Int)+1<=ts.sP.length) by omega];exact .zsc _
end IN
namespace IF
open P1 Y1 YF Y16 YG Q4 FE IB IN
theorem qmY{ts}(S:SpD ts)(i:y5 ts=[])(a s)(l:0<=a/\a<=100)(o:0<=s/\s<=100){n}(p:qY n=true):qh qc 39 [eTS ts,aI a,aI s,eNd n] (aB (XZ ts a s n)):=by
 have j:∀ b,b∈ts.sP.map Prod.snd++[n]->qY b=true:=fun b g=>by
  rcases qI.1 g with h|h
  .obtain ⟨f,hf,rfl⟩:=qp.1 h
   exact S.hf f hf
  .rw [qL]at h;subst h;exact p
 exact qmX ts (yz ts) (wkN a s) (zW1 S.h.nfa) a s n (fun b g=>inlR S i (j b g)) (fun b g r=>qa8 a s l o _ _ (qs _) (qmR S i (j b g) r))
end IF
namespace I1
open YF P1 EO EP F4 GF GR GS GU
theorem qmZ(l x)(P:l.length<=1000000000):qh qc 116 [lI l,aI x] (aB (decide (x∈l))):=by
 refine qSU call116 func116 rfl ?_;refine qn.up l.length (fun k st=>st.tm 0=lI l/\st.tm 1=aI x/\st.tm 5=aI k/\st.mu=[]/\∀(i:Nat)(h:i<l.length),i<k->l[i]≠x) ?_ ?_
 .simp [go_sem]
 rintro k st R ⟨j,o,p,r,I⟩;by_cases g:k<l.length
 .by_cases t:l[k]=x
  .simp [go_sem,j,o,p,r,g,t]
   rw[decide_eq_true (by grind)];exact .zsc _
  .simp [go_sem,j,o,p,r,g,t]
   refine⟨zWr,fun i h J=>?_⟩;rcases Nat.lt_succ_iff_lt_or_eq.1 J with C|C
   .exact I i h C
   grind
 .simp [go_sem,j,o,p,r,g]
  rw[decide_eq_false (fun h=>by
   grind [wC])]
  exact .zsc _
def uj(k:Nat)(x:Bd)(j:Nat):List (Int×Int):=((x.up.ts.take j).filter fun t=>!decide (t∈x.lo.ts)).map fun t=>((k:Int),t)
theorem qm0(k x j h):uj k x (j+1)=uj k x j++(if x.up.ts[j]∈x.lo.ts then [] else [((k:Int),x.up.ts[j])]):=by
 unfold uj;rw[Zg h,List.filter_append,zF];by_cases g:x.up.ts[j]∈x.lo.ts<;>simp[g]
theorem qm1(k x j):(uj k x j).length<=x.up.ts.length:=by
 grind [uj,yi,Nat.le_trans,List.length_filter_le,List.length_take_le']
theorem qm2(g)(hl:g.length<=1000)(U:∀ x,x∈g->Yl x):qh qc 82 [lBd g] (lP (qM g 0)):=by
 refine qSU call82 func82 rfl ?_;refine aC g.length (fun k st=>st.tm 0=lBd g/\st.tm 4=aI k/\Own st.mu 2 (st.tm 3) ((qM (g.take k) 0).map rP)) ?_ ?_
 .exact ⟨zSi,zSi,.inl (by simp[go_sem,qM])⟩
 rintro k st hk ⟨l,t,C⟩;by_cases i:k<g.length
 .have w1:=zWk k
  have hx:=U _ (qv i);have a1:=hx.up;have a2:=hx.lo;have a0:=WA (g.take k) 0 fun y hy=>U y (List.mem_of_mem_take hy)
  have a3:(qM (g.take k) 0).length<=1000000000:=by
   grind
  have I:=pP g k i;have P:uj k g[k] g[k].up.ts.length=yo k g[k]:=by unfold uj;rw[za];rfl
  simp[go_sem,l,t,i];refine aC g[k].up.ts.length (fun j st2=>st2.tm 0=lBd g/\st2.tm 4=aI k/\st2.tm 5=aI j/\Own st2.mu 2 (st2.tm 3) ((qM (g.take k) 0++uj k g[k] j).map rP)) ?_ ?_
  .simp_all [go_sem,uj]
  clear l t C;rintro j st2 hj ⟨l,t,T,C⟩;by_cases o:j<g[k].up.ts.length
  .have w2:=zWk j
   have hh:=qmZ g[k].lo.ts g[k].up.ts[j] zOm;have hs:=qm0 k g[k] j o;have a4:=qm1 k g[k] j;simp[go_sem,l,t,T,i,o];refine cN zKr ?_;simp[go_sem,l,t,T,i,o];refine cY hh (.zk (qR _) (.zs .nil)) ?_;by_cases hm:g[k].up.ts[j]∈g[k].lo.ts
   .simp_all [go_sem,if_pos,yj,aP]
   .rw [if_neg hm]at hs
    simp[go_sem,hm,l,t,T,i,o];refine qD.ownB (e:=148) (sz:=2) (bt:=16) (zv := .agg [aI 0,aI 0]) (xs:=(qM (g.take k) 0++uj k g[k] j).map rP) (ys:=[rP ((k:Int),g[k].up.ts[j])]) zSi zSi zSi rfl rfl zOm zOm C (by simp[qF]) (Yk _) (Yk [_]) zSo ?_;simp_all[go_sem,aP,zm,zF]
  .have R:j=g[k].up.ts.length:=by omega
   subst R;rw[P,<-I]at C;simp[go_sem,l,t,T,i,w1]
   try refine⟨i,aP ?_⟩
   try refine aP ?_
   exact⟨zS1 l,zSi,zVs C⟩
 .have R:k=g.length:=by omega
  subst R;rw[za]at C;simp[go_sem,l,t];exact aW C
theorem qm3(ts)(sc:Sc)(R)(N:Nat)(hS:sc.sN=N)(hN:N<=4)(hl:R.length<=1000)(hb:∀ x,x∈R->Yl x)(aa:R.length<=ts.sA.length)(a6:(qM R 0).length<=100000) :
  qh qc 41 [eTS ts,eSc sc,lBd R] (lCh (chs (vsT ts) (qM R 0) N)):=by
 have a1:=qm2 R hl hb;have a3:=gk R 0;generalize hF:qM R 0=F at *
 refine qSU call41 func41 rfl ?_;refine fY a1 (.zk (uD _) .nil) ?_;refine aC N (fun k st=>st.tm 3 = .ip (cTS ts)/\st.tm 4 = .ip [lI sc.sC,aI sc.sN]/\st.tm 8=lP F/\st.tm 9=aI k/\Own st.mu 3 (st.tm 7) ((chs (vsT ts) F k).map rC)) ?_ ?_
 .exact ⟨zSi,zSi,zSi,zSi,.inl (by simp[go_sem,chs])⟩
 rintro k st hk ⟨e3,e4,I,P,ho⟩;by_cases a4:k<N
 .have w1:=zWk k
  have n4:(k:Int)<4:=zOm;have ab:=gj (vsT ts) F k;have a8:k*F.length<=4*100000:=Nat.mul_le_mul zOm a6;simp[go_sem,e4,I,P,hS,a4,n4];refine aC F.length (fun j st2=>st2.tm 3 = .ip (cTS ts)/\st2.tm 4 = .ip [lI sc.sC,aI sc.sN]/\st2.tm 8=lP F/\st2.tm 9=aI k/\st2.tm 10=aI j/\Own st2.mu 3 (st2.tm 7) ((chs (vsT ts) F k++chA (vsT ts) k (F.take j)).map rC)) ?_ ?_
  .simp_all [go_sem,chA]
  clear e3 e4 I P ho;rintro j st2 hj ⟨e3,e4,I,P,o,T⟩;by_cases g:j<F.length
  .have w2:=zWk j
   have hm:=a3 _ (qv g);obtain⟨f,hf⟩:=Int.eq_ofNat_of_zero_le (show 0<=F[j].1 by omega);have t:f<ts.sA.length:=zOm;have U:0<=F[j].1:=zOm;have a0:F[j].1.toNat=f:=zOm;have C:F[j].1<ts.sA.length:=zOm;have a7:(vsT ts).getD F[j].1.toNat true=ts.sA[f].var:=by grind
   have ad:=gi (vsT ts) k (F.take j);have ae:=List.length_take_le j F;have hs:=qhS (vsT ts) k F j g;rw[a7]at hs;have a9:∀(K:AV->Mu->Prop),(∀ a5 l,Own l 3 a5 ((chs (vsT ts) F k++(chA (vsT ts) k (F.take j)++[((k:Int),F[j].1,F[j].2)])).map rC)->K a5 l)->qD qc st2.mu #[90,90] (st2.tm 7) (.lst true [[aI k,aI F[j].1,aI F[j].2]]) K:=fun K hK=>by
    refine qD.ownB (e:=150) (sz:=3) (bt:=24) (zv := .agg [aI 0,aI 0,aI 0]) (xs:=(chs (vsT ts) F k++chA (vsT ts) k (F.take j)).map rC) (ys:=[rC ((k:Int),F[j].1,F[j].2)]) zSi zSi zSi rfl rfl zOm zOm T (by simp[qF]) (WQ _) (WQ [_]) zSo ?_
    grind
   by_cases hc:(decide (k=0)||ts.sA[f].var)=true
   .rw [if_pos hc]at hs
    by_cases i:k=0
    .subst i
     simp[go_sem,I,P,o,g];refine cN zKr ?_;simp[go_sem,I,P,o,g];refine cN zKr ?_;simp_all[go_sem,aP]
    .have hv:ts.sA[f].var=true:=by simpa[i] using hc
     simp[go_sem,e3,I,P,o,g,i,U,a0,C,t,hv];refine cN zKr ?_;simp[go_sem,e3,I,P,o,g,i,U,a0,C,t,hv];refine cN zKr ?_;simp_all[go_sem,aP]
   .rw [if_neg hc,yj]at hs
    have i:¬k=0:=fun h=>hc (zP1 h)
    have hv:ts.sA[f].var=false:=by simpa[i] using hc
    simp[go_sem,e3,I,P,o,g,i,U,a0,C,t,hv,w2];refine cN zKr ?_;simp[go_sem,e3,I,P,o,g,i,U,a0,C,t,hv,w2]
    try refine⟨g,aP ?_⟩
    try refine aP ?_
    refine⟨zS1 e3,zS1 e4,zS1 I,zS1 P,zSi,?_⟩;rw[hs];simpa[go_sem] using T
  .have a2:j=F.length:=by omega
   subst a2;rw[za]at T;simp[go_sem,I,P,o,w1]
   try refine⟨a4,aP ?_⟩
   try refine aP ?_
   refine⟨zS1 e3,zS1 e4,zS1 I,zSi,?_⟩;rw[gh];simpa[go_sem] using T
 .have a2:k=N:=by omega
  subst a2;simp[go_sem,e4,P,hS];exact Own.rd ho (WQ _).ok fun r hr c hc=>by
   obtain⟨n,_,rfl⟩:=qp.1 hr;simp at hc;rcases hc with rfl|rfl|rfl<;>exact HF.sc _
end I1
namespace W41
open Y1 YF P1 E3 GD GN GS
abbrev u8(x:Int):AV := .sc (.int .u8 x)
abbrev lRaw(r:List (List Int)):AV := .lst false (r.map fun l=>[.lst false (l.map fun x=>[u8 x])])
abbrev vp(ts:TS)(sc:Sc)(raw:List (List Int))(n:Nd)(g:List (List Bool))(lp:Int):List AV:=cTS ts++([lI sc.sC,aI sc.sN,lRaw raw]++(cNd n++[lBB g,u8 lp]))
theorem qm4{m}(h:SmS m.sK)(j:m.sc.sC.length<=1000):smMd m:=
 ⟨zOm,zW1 h.n,fun s g=>zW1 (h.f s g),fun s g r i=>zW1 ((h.t s g r i).1)⟩
end W41
namespace I2
open YF P1 EO EP F4 GF G5 GR GS GW HE W41
theorem qm5(ts sc)(F:Fit9 ts sc):qU qc 42 [eTS ts,eSc sc] [] (fun e m=>∃ av,e = .ret av/\Own m 4 av (ts.sA.map (rowD sc))/\(0<ts.sA.length->∃ b,qr av=some b)):=by
 have a0:=F.nf;refine qSW call42 func42 rfl {} ?_;simp[go_sem];refine aC ts.sA.length (fun k st=>st.tm 2 = .ip (cTS ts)/\st.tm 3 = .ip [lI sc.sC,aI sc.sN]/\st.tm 6=aI k/\Own st.mu 4 (st.tm 5) ((ts.sA.take k).map (rowD sc))/\(0<k->∃ b,qr (st.tm 5)=some b)) ?_ ?_
 .exact ⟨zSi,zSi,zSi,.inl zSi,fun h=>absurd h zOm⟩
 rintro k st hk ⟨t,e3,C,I,P⟩;by_cases i:k<ts.sA.length
 .have w1:=zWk k
  have j:=qv i;have o:=p6 sc F.g F.p ts.sA[k].sS (F.f1 _ j).1 (F.f1 _ j).2 (F.fs _ j);simp[go_sem,t,C,i];refine cN zKr ?_;simp[go_sem,t,e3,C,i];refine fY o (.zk (zM _) (.zk (qR _) .nil)) ?_;refine .inl (yB.ownB (e:=96) (sz:=4) (bt:=64) (zv := .agg [aI 0,.lst true [],aI 0,.lst true []]) (xs:=(ts.sA.take k).map (rowD sc)) (ys:=[rowD sc ts.sA[k]]) zSi zSi zSi rfl rfl zOm zOm I (by simp[qF,rowD]) (wr sc _) (wr sc [_]) zSo ?_);intro a1 l R _ _ _ T;simp[go_sem,C,i,w1];refine aP ⟨zS1 t,zS1 e3,zSi,?_,fun _=>by simp[go_sem];exact T zSp⟩;rw[Zg i,zF];simpa[go_sem] using R
 .have U:k=ts.sA.length:=by omega
  subst U;rw[za]at I;simp[go_sem,t,C];exact⟨I,P⟩
def y9(ts:TS)(sc:Sc)(raw:List (List Int))(k:Nat):List (List AV):=((zy ts sc raw).take k).map cBd++(ts.sA.drop k).map (rowD sc)
theorem qm6(ts sc raw k)(h:k<=ts.sA.length):(y9 ts sc raw k).length=ts.sA.length:=by
 simp[y9,uP];omega
theorem qm7(ts sc raw k):yd 4 (y9 ts sc raw k):=fun r g=>by
 rcases qI.1 g with h|h
 .obtain ⟨x,_,rfl⟩:=qp.1 h;rfl
 .obtain ⟨x,_,rfl⟩:=qp.1 h;rfl
theorem qm8(ts sc raw k h):(y9 ts sc raw k)[k]?=some (rowD sc ts.sA[k]):=by
 have g:(((zy ts sc raw).take k).map cBd).length=k:=by simp[uP];omega
 simp_all[y9,zK,Nat.sub_self,List.getElem?_map,List.getElem?_drop,Nat.add_zero,qx]
theorem qm9(ts sc raw k h):(y9 ts sc raw k).set k (cBd ((zy ts sc raw)[k]'(by rw[uP];exact h)))=y9 ts sc raw (k+1):=by
 have g:(((zy ts sc raw).take k).map cBd).length=k:=by simp[uP];omega
 have i:k<(zy ts sc raw).length:=by rw[uP];exact h
 unfold y9;rw[List.set_append_right _ _ zOm,g,Nat.sub_self,zB h,List.map_cons,List.set_cons_zero,Zg i,zF,zm];rfl
theorem cP{Q i d d' L x x' st}(o:d≠d')(l:Rd (cutM (fun j=>decide (L<=j)) st.mu 0) (st.tm d) x)(g:Rd (cutM (fun j=>decide (L<=j)) st.mu 0) (st.tm d') x')
  (k:Q (.exit i) ((st.put (some d) x st.mu).put (some d') x' (cutM (fun j=>!decide (L<=j)) st.mu 0))):FzQ Q (.exit i) st:=by
 refine⟨_,⟨fun j=>decide (L<=j),rfl,fun j=>?_⟩,trivial,k⟩;simp only[St.put];split
 .rename_i h;subst h;exact .rd _ _ g
 .split
  .rename_i h;subst h;exact .rd _ _ l
  .exact .same _
theorem Zr{sz}:∀{xs},yd sz xs->∀ i h j,j<sz->xs.flatten[i*sz+j]?=xs[i][j]?
 | [],_,i,h,j,l=>absurd h (Nat.not_lt_zero i)
 |r :: xs,w,i,h,j,l=>by
  have g:r.length=sz:=w r zSp;rw[List.flatten_cons];cases i with
  |zero=>grind
  |succ i =>
   rw[zK (by grind),g,show (i+1)*sz+j-sz=i*sz+j by rw[Nat.succ_mul];omega];exact Zr (fun r g=>w r (zP1 g)) i (zUs h) j l
theorem Own.same{sz mu l av xs}(h:Own mu sz av xs)(g:∀ b,qr av=some b->l[b]?=mu[b]?):Own l sz av xs:=by
 rcases h with rfl|⟨b,rfl,i⟩
 .exact .inl rfl
 .exact .inr ⟨b,rfl,by rw[g b rfl];exact i⟩
theorem qnA(ts sc)(F:Fit9 ts sc)(raw)(hr:∀ l,l∈raw->∀ x,x∈l->0<=x/\x<=255):qh qc 40 [eTS ts,eSc sc,lRaw raw] (lBd (zy ts sc raw)):=by
 have ch:=F.nf;have b4:=qm5 ts sc F;have ao:=uP ts sc raw;refine qSU call40 func40 rfl ?_;refine aA b4 ?_ (by grind);rintro r m ⟨P,h,cj,be⟩;cases h;simp[go_sem];refine aC ts.sA.length (fun k st=>st.tm 2=lRaw raw/\st.tm 7=r/\st.tm 8=aI k/\Own st.mu 4 r (y9 ts sc raw k)) ?_ ?_
 .simp_all [go_sem,y9]
 rintro k st hk ⟨e2,e7,e8,ho⟩;have b5:=qm6 ts sc raw k hk;have ai:=qm7 ts sc raw k;by_cases aa:k<ts.sA.length
 .have w1:=zWk k
  have aq:=qm8 ts sc raw k aa;obtain⟨BK,ck,bg⟩:∃ BK,(zy ts sc raw)[k]?=some BK/\BK=Vt (raw.getD k []) ⟨⟨ts.sA[k].sS.length,[]⟩,⟨ts.sA[k].sS.length,zT sc ts.sA[k].sS⟩⟩:=⟨_,qx zOm,Vu ts sc raw k zOm aa⟩;have aj:(y9 ts sc raw k).set k (cBd BK)=y9 ts sc raw (k+1):=by
   grind [qm9,qi]
  have cl:=qh1 sc F.g ts.sA[k].sS (F.f1 _ (qv aa)).2;generalize hW:y9 ts sc raw k=W at ho b5 ai aq aj;obtain⟨B,hB⟩:=be zOm;rcases ho with h|⟨B',h,hc⟩
  .rw [h]at hB;cases hB
  .rw [h]at hB;cases hB
   have bi:W.flatten.length=W.length*4:=by rw[yc ai]
   have bj:=(qi.1 hc).1;have cm:W.flatten[k*4+2]?=some (aI ts.sA[k].sS.length):=by
    have:=Zr ai k zOm 2 zOm;rw[this,(qi.1 aq).2];rfl
   have cn:W.flatten[k*4+3]?=some (lI (zT sc ts.sA[k].sS)):=by
    have:=Zr ai k zOm 3 zOm;rw[this,(qi.1 aq).2];rfl
   have b6:=fun x:List AV=>Jk W k x ai
   have cp:=bi;generalize cq:(ts.sA[k].sS.length:Int)=o at *
   generalize cr:zT sc ts.sA[k].sS=U at *
   generalize bk:raw.getD k []=rw at *
   generalize cs:W.flatten=FL at *
   have bm:(FL.drop (k*4+2)).take 2=[aI o,lI U]:=by
    grind [qi,zB]
   simp[go_sem,e7,e8,h,b5,aa,hc];refine cX (.agg [aI o,lI U]) (by rw[if_pos zOm,bm]) ?_;simp[go_sem];generalize hR:st.mu.length=R at *
   refine qn.upF U.length (fun j=>Keep (fun st2=>st2.tm 2=lRaw raw/\st2.tm 7=r/\st2.tm 8=aI k/\st2.tm 9 = .ptr R 0/\st2.tm 10 = .ptr (R+1) 0/\st2.tm 11 = .ptr (R+2) 0/\st2.tm 12=aI j/\∃ t a1,st2.mu[R]?=some (.arr [aI o,lI U])/\st2.mu[R+1]?=some (.arr [aI o,t])/\st2.mu[R+2]?=some (.arr [aI o,a1]) /\
    Own st2.mu 1 t ((selW (fun x=>decide (1<x)) rw (U.take j) 0).map rI)/\Own st2.mu 1 a1 ((selW (fun x=>decide (0<x)) rw (U.take j) 0).map rI)/\(∀ b,qr t=some b->R+3<=b)/\(∀ b,qr a1=some b->R+3<=b)/\(∀ b,qr t=some b->qr a1≠some b)/\∀ i,i<R->st2.mu[i]?=st.mu[i]?) .mk) ?_ ?_
   .exact aP ⟨zS1 e2,zS1 e7,zS1 e8,zSi,zSi,zSi,zSi,.lst true [],.lst true [],zS1 hR,zS1 hR,zS1 hR,.inl (by simp[selW]),.inl (by simp[selW]),by simp[qr],by simp[qr],by simp[qr],fun i hi=>by simp_all[go_sem,ze]⟩
   rintro j st2 hj ⟨f2,f7,f8,f9,f10,f11,f12,t,a1,c9,c10,c11,ol,oh,bl,bh,nb,low⟩;by_cases I:j<U.length
   .skip
    have w2:=zWk j;have au:=gH (fun x=>decide (1<x)) rw U j I;have aw:=gH (fun x=>decide (0<x)) rw U j I;by_cases ab:k<raw.length
    .have bn:rw=raw[k]:=by grind
     by_cases ad:j<raw[k].length
     .have ct:=hr _ (qv ab) _ (qv ad)
      have hx:(raw[k][j]).tmod 4=wtR rw j:=by
       simp_all[wD,wtR,if_pos,zf,qx]
      have cu:0<=wtR rw j/\wtR rw j<4:=by grind
      generalize hw:wtR rw j=w at *
      rcases (show w=0\/w=1\/1<w by omega) with bo|a6|ax
      .rw [bo]at hx
       have sl:selW (fun x=>decide (1<x)) rw (U.take (j+1)) 0=selW (fun x=>decide (1<x)) rw (U.take j) 0:=by grind
       have sh:selW (fun x=>decide (0<x)) rw (U.take (j+1)) 0=selW (fun x=>decide (0<x)) rw (U.take j) 0:=by grind
       simp[go_sem,f2,f8,f9,f12,c9,I,w2,ab,ad,hx];simp_all[go_sem,aP]
      .rw [a6]at hx
       have sl:selW (fun x=>decide (1<x)) rw (U.take (j+1)) 0=selW (fun x=>decide (1<x)) rw (U.take j) 0:=by grind
       have sh:selW (fun x=>decide (0<x)) rw (U.take (j+1)) 0=selW (fun x=>decide (0<x)) rw (U.take j) 0++[U[j]]:=by grind
       simp[go_sem,f2,f8,f9,f12,c9,I,ab,ad,hx];refine cN zKr ?_;simp[go_sem,f9,f11,f12,c9,c11,I];refine qD.ownB (e:=3) (sz:=1) (bt:=8) (zv:=aI 0) (xs:=(selW (fun x=>decide (0<x)) rw (U.take j) 0).map rI) (ys:=[rI U[j]]) zSi zSi zSi rfl rfl zOm zOm oh (by simp[qF]) (zJ _) (zJ [_]) (by grind [uc,decide,List.length_take_le]) ?_;intro T mh a0 C a2 ay;have d9:mh[R]?=some (.arr [aI o,lI U]):=by grind
       have d10:mh[R+1]?=some (.arr [aI o,t]):=by grind
       have d11:mh[R+2]?=some (.arr [aI o,a1]):=by grind
       have ae:=(qi.1 d11).1;have ak:=(qi.1 c11).1;have a7:Own mh 1 t ((selW (fun x=>decide (1<x)) rw (U.take j) 0).map rI):=Own.same ol fun b hb=>C b (Own.lt ol hb) (nb b hb)
       have af:=Own.set a7 (i:=R+2) (.arr [aI o,T]) (fun h=>by grind);have a5:=Own.set a0 (i:=R+2) (.arr [aI o,T]) (fun h=>by grind);have a8:∀ b,qr T=some b->R+3<=b:=fun b h=>by grind
       have ag:∀ b,qr t=some b->qr T≠some b:=fun b h h2=>by grind [Own.lt]
       have a3:∀ i,i<R->(mh.set (R+2) (.arr [aI o,T]))[i]?=st.mu[i]?:=fun i hi=>by
        rw[zGl,C i zOm (fun h=>zW1 (bh i h))];exact low i hi
       simp[go_sem,f11,f12,d11,I,w2,Own.one a0,Own.cells a0];simp_all[go_sem,aP,zF]
      .skip
       have az:0<w:=zOm;have sl:selW (fun x=>decide (1<x)) rw (U.take (j+1)) 0=selW (fun x=>decide (1<x)) rw (U.take j) 0++[U[j]]:=by simpa[ax] using au
       have sh:selW (fun x=>decide (0<x)) rw (U.take (j+1)) 0=selW (fun x=>decide (0<x)) rw (U.take j) 0++[U[j]]:=by simpa[az] using aw
       simp[go_sem,f2,f8,f9,f12,c9,I,az,ax,ab,ad,hx];refine cN zKr ?_;simp[go_sem,f9,f11,f12,c9,c11,I];refine qD.ownB (e:=3) (sz:=1) (bt:=8) (zv:=aI 0) (xs:=(selW (fun x=>decide (0<x)) rw (U.take j) 0).map rI) (ys:=[rI U[j]]) zSi zSi zSi rfl rfl zOm zOm oh (by simp[qF]) (zJ _) (zJ [_]) (by have:=(uc (fun x=>decide (0<x)) rw (U.take j) 0).length_le;have:=List.length_take_le j U;simp;omega) ?_;intro T mh a0 C a2 ay;have d9:mh[R]?=some (.arr [aI o,lI U]):=by rw[C R (qi.1 c9).1 (fun h=>zW1 (bh R h))];exact c9
       have d10:mh[R+1]?=some (.arr [aI o,t]):=by rw[C (R+1) (qi.1 c10).1 (fun h=>zW1 (bh _ h))];exact c10
       have d11:mh[R+2]?=some (.arr [aI o,a1]):=by rw[C (R+2) (qi.1 c11).1 (fun h=>zW1 (bh _ h))];exact c11
       have ae:=(qi.1 d11).1;have ak:=(qi.1 c11).1;have a7:Own mh 1 t ((selW (fun x=>decide (1<x)) rw (U.take j) 0).map rI):=Own.same ol fun b hb=>C b (Own.lt ol hb) (nb b hb)
       have af:=Own.set a7 (i:=R+2) (.arr [aI o,T]) (fun h=>zW1 (bl _ h));have a5:=Own.set a0 (i:=R+2) (.arr [aI o,T]) (fun h=>zW1 (a2 _ h));have a8:∀ b,qr T=some b->R+3<=b:=fun b h=>zW1 (a2 b h)
       have ag:∀ b,qr t=some b->qr T≠some b:=fun b h h2=>zW2 (a2 b h2) (Own.lt ol h)
       have a3:∀ i,i<R->(mh.set (R+2) (.arr [aI o,T]))[i]?=st.mu[i]?:=fun i hi=>by
        rw[zGl,C i zOm (fun h=>zW1 (bh i h))];exact low i hi
       simp[go_sem,f11,d11,az,ax,Own.one a0,Own.cells a0];refine cN zKr ?_;have e9:(mh.set (R+2) (.arr [aI o,T]))[R]?=some (.arr [aI o,lI U]):=by rw[zGl];exact d9
       have b0:(mh.set (R+2) (.arr [aI o,T]))[R+1]?=some (.arr [aI o,t]):=by rw[zGl];exact d10
       have b1:(mh.set (R+2) (.arr [aI o,T]))[R+2]?=some (.arr [aI o,T]):=yq ae;generalize cv:mh.set (R+2) (.arr [aI o,T])=M2 at *
       simp[go_sem,f9,f10,f12,e9,b0,I];refine qD.ownB (e:=3) (sz:=1) (bt:=8) (zv:=aI 0) (xs:=(selW (fun x=>decide (1<x)) rw (U.take j) 0).map rI) (ys:=[rI U[j]]) zSi zSi zSi rfl rfl zOm zOm af (by simp[qF]) (zJ _) (zJ [_]) (by have:=(uc (fun x=>decide (1<x)) rw (U.take j) 0).length_le;have:=List.length_take_le j U;simp;omega) ?_;intro al ml b2 an b3 cw;have g9:ml[R]?=some (.arr [aI o,lI U]):=by rw[an R (qi.1 e9).1 (fun h=>zW1 (bl R h))];exact e9
       have b7:ml[R+1]?=some (.arr [aI o,t]):=by rw[an (R+1) (qi.1 b0).1 (fun h=>zW1 (bl _ h))];exact b0
       have bq:ml[R+2]?=some (.arr [aI o,T]):=by rw[an (R+2) (qi.1 b1).1 (fun h=>zW1 (bl _ h))];exact b1
       have l10:=(qi.1 b7).1;have cg:=(qi.1 b1).1;have br:Own ml 1 T ((selW (fun x=>decide (0<x)) rw (U.take j) 0++[U[j]]).map rI):=by
        rw[zF];exact Own.same a5 fun b hb=>an b (Own.lt a5 hb) (fun h=>ag b h hb)
       have bs:=Own.set b2 (i:=R+1) (.arr [aI o,al]) (fun h=>zW1 (b3 _ h));have bu:=Own.set br (i:=R+1) (.arr [aI o,al]) (fun h=>zW1 (a8 _ h));simp[go_sem,f10,f12,b7,I,w2,Own.one b2,Own.cells b2]
       try refine⟨I,aP ?_⟩
       try refine aP ?_
       refine⟨zS1 f2,zS1 f7,zS1 f8,zS1 f9,zS1 f10,zS1 f11,zSi,al,T,by simp[go_sem];exact g9,zS1 l10,by simp[go_sem];exact bq,by rw[sl,zF];simpa[go_sem] using bs,by rw[sh];simpa[go_sem] using bu,fun b h=>zW1 (b3 b h),a8,fun b h h2=>zW2 (b3 b h) (Own.lt a5 h2),fun i hi=>?_⟩;simp[go_sem];rw[zGl,an i zOm (fun h=>zW1 (bl i h))];exact a3 i hi
     .have a6:wtR rw j=1:=by rw[wtR,bn,if_neg ad]
      have sl:selW (fun x=>decide (1<x)) rw (U.take (j+1)) 0=selW (fun x=>decide (1<x)) rw (U.take j) 0:=by simpa[a6] using au
      have sh:selW (fun x=>decide (0<x)) rw (U.take (j+1)) 0=selW (fun x=>decide (0<x)) rw (U.take j) 0++[U[j]]:=by simpa[a6] using aw
      simp[go_sem,f2,f8,f9,f12,c9,I,ab,ad];refine cN zKr ?_;simp[go_sem,f9,f11,f12,c9,c11,I];refine qD.ownB (e:=3) (sz:=1) (bt:=8) (zv:=aI 0) (xs:=(selW (fun x=>decide (0<x)) rw (U.take j) 0).map rI) (ys:=[rI U[j]]) zSi zSi zSi rfl rfl zOm zOm oh (by simp[qF]) (zJ _) (zJ [_]) (by have:=(uc (fun x=>decide (0<x)) rw (U.take j) 0).length_le;have:=List.length_take_le j U;simp;omega) ?_;intro T mh a0 C a2 ay;have d9:mh[R]?=some (.arr [aI o,lI U]):=by rw[C R (qi.1 c9).1 (fun h=>zW1 (bh R h))];exact c9
      have d10:mh[R+1]?=some (.arr [aI o,t]):=by rw[C (R+1) (qi.1 c10).1 (fun h=>zW1 (bh _ h))];exact c10
      have d11:mh[R+2]?=some (.arr [aI o,a1]):=by rw[C (R+2) (qi.1 c11).1 (fun h=>zW1 (bh _ h))];exact c11
      have ae:=(qi.1 d11).1;have ak:=(qi.1 c11).1;have a7:Own mh 1 t ((selW (fun x=>decide (1<x)) rw (U.take j) 0).map rI):=Own.same ol fun b hb=>C b (Own.lt ol hb) (nb b hb)
      have af:=Own.set a7 (i:=R+2) (.arr [aI o,T]) (fun h=>zW1 (bl _ h));have a5:=Own.set a0 (i:=R+2) (.arr [aI o,T]) (fun h=>zW1 (a2 _ h));have a8:∀ b,qr T=some b->R+3<=b:=fun b h=>zW1 (a2 b h)
      have ag:∀ b,qr t=some b->qr T≠some b:=fun b h h2=>zW2 (a2 b h2) (Own.lt ol h)
      have a3:∀ i,i<R->(mh.set (R+2) (.arr [aI o,T]))[i]?=st.mu[i]?:=fun i hi=>by
       rw[zGl,C i zOm (fun h=>zW1 (bh i h))];exact low i hi
      simp[go_sem,f11,f12,d11,I,w2,Own.one a0,Own.cells a0]
      try refine⟨I,aP ?_⟩
      try refine aP ?_
      refine⟨zS1 f2,zS1 f7,zS1 f8,zS1 f9,zS1 f10,zS1 f11,zSi,t,T,by simp[go_sem];exact d9,by simp[go_sem];exact d10,zS1 ae,by rw[sl];simpa[go_sem] using af,by rw[sh,zF];simpa[go_sem] using a5,bl,a8,ag,by simpa[go_sem] using a3⟩
    .have a6:wtR rw j=1:=by
      have:rw=[]:=by rw[<-bk,zf,List.getElem?_eq_none zOm];rfl
      rw[wtR,this];rfl
     have sl:selW (fun x=>decide (1<x)) rw (U.take (j+1)) 0=selW (fun x=>decide (1<x)) rw (U.take j) 0:=by simpa[a6] using au
     have sh:selW (fun x=>decide (0<x)) rw (U.take (j+1)) 0=selW (fun x=>decide (0<x)) rw (U.take j) 0++[U[j]]:=by simpa[a6] using aw
     simp[go_sem,f2,f8,f9,f12,c9,I,ab];refine cN zKr ?_;simp[go_sem,f9,f11,f12,c9,c11,I];refine qD.ownB (e:=3) (sz:=1) (bt:=8) (zv:=aI 0) (xs:=(selW (fun x=>decide (0<x)) rw (U.take j) 0).map rI) (ys:=[rI U[j]]) zSi zSi zSi rfl rfl zOm zOm oh (by simp[qF]) (zJ _) (zJ [_]) (by have:=(uc (fun x=>decide (0<x)) rw (U.take j) 0).length_le;have:=List.length_take_le j U;simp;omega) ?_;intro T mh a0 C a2 ay;have d9:mh[R]?=some (.arr [aI o,lI U]):=by rw[C R (qi.1 c9).1 (fun h=>zW1 (bh R h))];exact c9
     have d10:mh[R+1]?=some (.arr [aI o,t]):=by rw[C (R+1) (qi.1 c10).1 (fun h=>zW1 (bh _ h))];exact c10
     have d11:mh[R+2]?=some (.arr [aI o,a1]):=by rw[C (R+2) (qi.1 c11).1 (fun h=>zW1 (bh _ h))];exact c11
     have ae:=(qi.1 d11).1;have ak:=(qi.1 c11).1;have a7:Own mh 1 t ((selW (fun x=>decide (1<x)) rw (U.take j) 0).map rI):=Own.same ol fun b hb=>C b (Own.lt ol hb) (nb b hb)
     have af:=Own.set a7 (i:=R+2) (.arr [aI o,T]) (fun h=>zW1 (bl _ h));have a5:=Own.set a0 (i:=R+2) (.arr [aI o,T]) (fun h=>zW1 (a2 _ h));have a8:∀ b,qr T=some b->R+3<=b:=fun b h=>zW1 (a2 b h)
     have ag:∀ b,qr t=some b->qr T≠some b:=fun b h h2=>zW2 (a2 b h2) (Own.lt ol h)
     have a3:∀ i,i<R->(mh.set (R+2) (.arr [aI o,T]))[i]?=st.mu[i]?:=fun i hi=>by
      rw[zGl,C i zOm (fun h=>zW1 (bh i h))];exact low i hi
     simp[go_sem,f11,f12,d11,I,w2,Own.one a0,Own.cells a0]
     try refine⟨I,aP ?_⟩
     try refine aP ?_
     refine⟨zS1 f2,zS1 f7,zS1 f8,zS1 f9,zS1 f10,zS1 f11,zSi,t,T,by simp[go_sem];exact d9,by simp[go_sem];exact d10,zS1 ae,by rw[sl];simpa[go_sem] using af,by rw[sh,zF];simpa[go_sem] using a5,bl,a8,ag,by simpa[go_sem] using a3⟩
   .skip
    obtain rfl:U.length=j:=zOm;rw[za]at ol oh;have cx:R+2<st2.mu.length:=(qi.1 c11).1;have bv:(cutM (fun j=>decide (R<=j)) st2.mu 0)[R+1]?=some (.arr [aI o,t]):=by rw[j6,c10];simp
    have bw:(cutM (fun j=>decide (R<=j)) st2.mu 0)[R+2]?=some (.arr [aI o,a1]):=by rw[j6,c11];simp
    have b8:∀ l:List Int,∀ r,r∈l.map rI->∀ c,c∈r->HF c:=fun l r hr c hc=>by
     obtain⟨x,_,rfl⟩:=qp.1 hr;simp at hc;subst hc;exact HF.sc _
    have ca:Rd (cutM (fun j=>decide (R<=j)) st2.mu 0) t (lI (selW (fun x=>decide (1<x)) rw U 0)):=Own.rd (Vq ol fun b hb=>zW1 (bl b hb)) (zJ _).ok (b8 _);have cb:Rd (cutM (fun j=>decide (R<=j)) st2.mu 0) a1 (lI (selW (fun x=>decide (0<x)) rw U 0)):=Own.rd (Vq oh fun b hb=>zW1 (bh b hb)) (zJ _).ok (b8 _);simp[go_sem,f9,f12,c9];refine cP (d:=10) (d':=11) (L:=R) (x := .ip [aI o,lI (selW (fun x=>decide (1<x)) rw U 0)]) (x' := .ip [aI o,lI (selW (fun x=>decide (0<x)) rw U 0)]) zDe ?_ ?_ ?_
    .simp [go_sem,f10]
     refine .ptr (R+1) 0 [aI o,t] _ bv zSp fun k u v hu hv=>?_
     match k with
     | 0=>simp at hu hv;subst hu;subst hv;exact .zsc _
     | 1=>simp at hu hv;subst hu;subst hv;exact ca
     |k+2=>simp at hv
    .simp [go_sem,f11]
     refine .ptr (R+2) 0 [aI o,a1] _ bw zSp fun k u v hu hv=>?_
     match k with
     | 0=>simp at hu hv;subst hu;subst hv;exact .zsc _
     | 1=>simp at hu hv;subst hu;subst hv;exact cb
     |k+2=>simp at hv
    have a9:(cutM (fun j=>!decide (R<=j)) st2.mu 0)[B]?=some (.arr FL):=by
     rw[j6,low B bj,hc];simp[show ¬R<=B by omega]
    have b9:B<(cutM (fun j=>!decide (R<=j)) st2.mu 0).length:=(qi.1 a9).1;generalize bb:cutM (fun j=>!decide (R<=j)) st2.mu 0=CM at *
    simp[go_sem,f7,f8,h,aa,a9,bb];refine cX (.ptr B (k*4)) (if_pos zOm) ?_;have a4:=b6 (cBd BK) rfl zOm;rw[aj,jk _ _ _ zSo]at a4;have cc:cBd BK=[aI o,lI (selW (fun x=>decide (1<x)) rw U 0),aI o,lI (selW (fun x=>decide (0<x)) rw U 0)]:=by rw[bg];rfl
    rw[cc]at a4;simp only[zm,List.cons_append,List.nil_append,zC,List.length_nil]at a4;have bc:(y9 ts sc raw (k+1)).length=W.length:=by rw[<-aj,List.length_set]
    simp[go_sem,a9,bb];refine cX (CM.set B (.arr (y9 ts sc raw (k+1)).flatten)) (by rw[if_pos zOm,a4]) ?_;simp[go_sem,f2,f7,f8,w1,aa,h];refine aP ⟨zS1 f2,zS1 f7,zSi,.inr ⟨B,?_,?_⟩⟩
    .simp [go_sem,f7,h,bc]
    .simp [go_sem]
     rw[yq b9]
 .have cd:k=ts.sA.length:=by omega
  subst cd;have cf:y9 ts sc raw ts.sA.length=(zy ts sc raw).map cBd:=by
   rw[y9,<-ao,za,ao,yr,List.map_nil,yj]
  rw[cf]at ho;simp[go_sem,e7,e8];refine cX (aI (zy ts sc raw).length) (by rcases ho with h|⟨b,h,_⟩<;>rw[h]<;>simp) ?_;simp[go_sem,ao,e7,Own.one ho,Own.cells ho];refine Own.rd ho (fun r hr=>?_) fun r hr=>?_
  .obtain ⟨x,_,rfl⟩:=qp.1 hr;rfl
  .obtain ⟨x,_,rfl⟩:=qp.1 hr;exact Wz x
end I2
set_option maxHeartbeats 1000000
namespace IJ
open YF P1 E3 EO F4 GB GP GR GS
theorem anyB(ts sc)(F:Fit9 ts sc)(D)(bs:D.length=ts.sA.length)(hd:∀ b,b∈D->WN b)(g lp)(b5:0<=lp/\lp<=255) :
  qh qc 11 [eTS ts,eSc sc,lBd D,lBB g,.sc (.int .u8 lp)] (eMd (anyM sc (vsT ts) D g (lp % sc.sN))):=by
 have bu:=F.nf;have s1:=F.s1;have s4:=F.s4;generalize hS:sc.sN=S at *
 obtain⟨N,rfl⟩:=Int.eq_ofNat_of_zero_le (show 0<=S by omega);refine qSU call11 func11 rfl ?_;refine cN zKr ?_;have n1:¬(N:Int)<1:=zOm;have n0:¬(N:Int)=0:=zOm;have b6:¬N=0:=zOm;have wl:qw.wrap lp=lp:=zWr;have tm:lp.tmod (N:Int)=lp % (N:Int):=wD b5.1;simp[go_sem,hS,n1,b6,wl,tm];generalize hL:lp % (N:Int)=L at *
 have b7:anyM sc (vsT ts) D g L=⟨sc,(qq N).map (anyS (vsT ts) D g),L⟩:=by rw[anyM,hS];rfl
 rw[b7];generalize hA:anyS (vsT ts) D g=A at *
 refine aC N (fun k st=>st.tm 3=lBB g/\st.tm 5 = .ip (cTS ts)/\st.tm 6 = .ip [lI sc.sC,aI sc.sN]/\st.tm 10 = .ptr 0 0/\st.tm 11 = .ptr 1 0/\st.tm 2=lBd D/\st.tm 12=aI k /\
  ∃ s,st.mu[0]?=some (.arr [.lst true [],aI 0,.lst true [],aI 0])/\st.mu[1]?=some (.arr [lI sc.sC,aI N,s,aI L])/\Own st.mu 1 s (((qq k).map A).map fun r=>[lRel r])/\∀ b,qr s=some b->2<=b) ?_ ?_
 .exact ⟨zSi,zSi,zS1 hS,zSi,zSi,zSi,zSi,.lst true [],zSi,zSi,.inl zSp,by simp[qr]⟩
 rintro k st hk ⟨e2,e4,e5,e8,e9,b8,a9,s,h0,h1,ho,hb⟩;have aa:=(qi.1 h0).1;have ah:=(qi.1 h1).1;by_cases ai:k<N
 .have w1:=zWk k
  have n4:(k:Int)<4:=zOm;have a7:=fun fl:Bool=>qhM fl D (g.getD k []) st.mu zOm hd
  have bv:=Zm D (g.getD k []);have bo:=Zm D (g.getD 0 []);have b9:A 0=zX D (g.getD 0 []):=by rw[<-hA,anyS,if_pos rfl]
  have bb:k≠0->A k=fixS (vsT ts) (A 0) (zX D (g.getD k [])) D.length:=fun h=>by rw[b9,<-hA,qhR _ _ _ _ h]
  have aj:k=0->A k=zX D (g.getD k []):=fun h=>by grind
  generalize bw:zX D (g.getD k [])=R at *
  have bq:(A 0).length=D.length:=by grind
  simp[go_sem,hS,e2,e5,a9,ai,n4];by_cases ab:k<g.length
  all_goals simp[go_sem,e2,b8,a9,ab]
  all_goals first
   | (rw[show lB g[k] = .lst false ((g.getD k []).map rB) by rw[zf,qx ab];rfl];refine aA (a7 false) ?_ (by grind))
   | (have hi:=a7 true;rw[show (g.getD k []).map rB=[] by grind]at hi;refine aA hi ?_ (by grind))
  all_goals
   rintro r m ⟨P,h,ca,cb,ak,cc,bc⟩;cases h;simp[go_sem,ab];refine aC D.length (fun j st2=>st2.tm 3=lBB g/\st2.tm 5 = .ip (cTS ts)/\st2.tm 6 = .ip [lI sc.sC,aI N]/\st2.tm 10 = .ptr 0 0/\st2.tm 11 = .ptr 1 0/\st2.tm 2=lBd D/\st2.tm 12=aI k/\st2.tm 14=r/\st2.tm 15=aI j /\
    Own st2.mu 2 r ((if k=0 then R else fixS (vsT ts) (A 0) R j).map cRel)/\∀ i,i<m.length->qr r≠some i->st2.mu[i]?=m[i]?) ?_ ?_
   .simp_all [go_sem,qhO]
   rintro j st2 hj ⟨f2,f4,f5,f8,f9,f10,f11,f13,f14,U,ad⟩;have C:∀ i,i<st.mu.length->st2.mu[i]?=st.mu[i]?:=fun i hi=>by grind
   have a1:(if k=0 then R else fixS (vsT ts) (A 0) R j).length=D.length:=by grind [qhP]
   have al:k≠0->j<D.length->(if k=0 then R else fixS (vsT ts) (A 0) R (j+1))=if (vsT ts).getD j true=false then (if k=0 then R else fixS (vsT ts) (A 0) R j).set j ((A 0).getD j noR) else (if k=0 then R else fixS (vsT ts) (A 0) R j):=fun h1 h2=>by simp_all[if_neg,qhQ]
   have be:¬(j<D.length/\k≠0)->(if k=0 then R else fixS (vsT ts) (A 0) R j)=A k:=fun h=>by
    by_cases h0:k=0
    .rw [if_pos h0,aj h0]
    .rw [if_neg h0,bb h0,show j=D.length by omega]
   generalize hW:(if k=0 then R else fixS (vsT ts) (A 0) R j)=W at *
   simp[go_sem,f13,f14];refine cX (aI D.length) (by rcases U with h|⟨b,h,_⟩<;>rw[h]<;>simp[a1]) ?_;by_cases a2:j<D.length/\k≠0
   .obtain ⟨o,an⟩:=a2
    have ao:(vsT ts).getD j true=ts.sA[j].var:=by grind
    have w2:=zWk j;have I:st2.mu[1]?=some (.arr [lI sc.sC,aI N,s,aI L]):=by grind
    simp[go_sem,f4,f11,f14,o,show 0<k by omega,show j<ts.sA.length by omega];cases hv:ts.sA[j].var with
    |true =>
     simp[go_sem,f14,o,w2]
     try refine⟨o,aP ?_⟩
     try refine aP ?_
     refine⟨zS1 f2,zS1 f4,zS1 f5,zS1 f8,zS1 f9,zS1 f10,zS1 f11,zS1 f13,zSi,?_,zVs ad⟩;rw[al an o,ao,hv,if_neg zSp];simp[go_sem, *]
    |false =>
     obtain⟨b,T⟩:=bc zOm;have a0:r = .sl b 2 0 W.length/\st2.mu[b]?=some (.arr (W.map cRel).flatten):=by
      rcases U with h|⟨b',h,hc⟩
      .rw [h]at T;cases T
      .rw [h]at T;cases T
       exact⟨by rw[h];simp,hc⟩
     obtain⟨a0,a6⟩:=a0;have bg:=(qi.1 a6).1;have cd:=ak b T;have ae:(W.map cRel).flatten.length=W.length*2:=by rw[yc (vY W).ok];simp
     have br:=Own.put (av:=r) (xs:=W.map cRel) (by rw[a0];simp) a6 (vY W).ok (i:=j) (r:=cRel ((A 0).getD j noR)) rfl zSo;have a3:j<(A 0).length:=zOm;have bh:(A 0).getD j noR=(A 0)[j]:=by rw[zf,qx a3];rfl
     have t:(((qq k).map A).map fun r=>[lRel r]).flatten[0]?=some (lRel (A 0)):=by
      obtain⟨k',rfl⟩:∃ k',k=k'+1:=⟨k-1,zOm⟩;rw[List.range_succ_eq_map];simp
     have aq:(((qq k).map A).map fun r=>[lRel r]).length=k:=zSp;generalize a4:(((qq k).map A).map fun r=>[lRel r])=rows at *
     have bi:rows[0]?=some [lRel (A 0)]:=by
      rw[<-a4];obtain⟨k',rfl⟩:∃ k',k=k'+1:=⟨k-1,zOm⟩;simp
     have au:(rows.map List.length).sum=k:=by
      have:=yc (sz:=1) (xs:=rows) (by rw[<-a4];intro r hr;obtain⟨n,_,rfl⟩:=qp.1 hr;rfl);rw[List.length_flatten]at this;omega
     have aw:rows.flatten.take 1=[lRel (A 0)]:=by
      cases ax:rows.flatten with
      |nil=>rw[ax]at t;cases t
      |cons x l=>rw[ax]at t;cases t;rfl
     have ay:(W.map cRel).flatten.take (j*2)++aI (A 0)[j].ar :: lI (A 0)[j].ts :: (W.map cRel).flatten.drop (j*2+2)=((W.set j (A 0)[j]).map cRel).flatten:=by
      rw[List.map_set,Jk (W.map cRel) j _ (vY W).ok rfl zSo,jk _ _ _ (by simp only[ae,cRel,zC,List.length_nil];omega)];simp
     have a5:Own (st2.mu.set b (.arr ((W.set j (A 0)[j]).map cRel).flatten)) 2 r ((W.set j (A 0)[j]).map cRel) := .inr ⟨b,by rw[a0];simp,yq bg⟩;have af:=al an o;rw[ao,hv,if_pos rfl,bh]at af;rcases ho with rfl|⟨c,rfl,az⟩
     .simp [go_sem,f9,f13,f14,I,a0,a1]
      refine cX (.ip [lRel (A 0)]) (by rw[bi];simp[aq];omega) ?_;simp[go_sem,f14,o,a6,ae,a1,a3];refine cX (st2.mu.set b (.arr ((W.set j (A 0)[j]).map cRel).flatten)) (by rw[if_pos zOm,ay]) ?_;simp[go_sem,f14,o,w2]
      try refine⟨o,aP ?_⟩
      try refine aP ?_
      refine⟨zS1 f2,zS1 f4,zS1 f5,zS1 f8,zS1 f9,zS1 f10,zS1 f11,zS1 f13,zSi,by rw[af];simpa[go_sem] using a5,fun i hi hn=>?_⟩;simp only[yO];rw[jV (fun e=>hn (by rw[<-e];exact T))];exact ad i hi hn
     .have bj:=(qi.1 az).1
      have a8:=C c bj;rw[az]at a8;simp[go_sem,f9,f13,f14,I,a8,aq,show 0<k by omega,a0,a1];refine cX (lRel (A 0)) (by rw[au,if_pos zOm,aw];rfl) ?_;simp[go_sem,f14,o,a6,ae,a1,a3];refine cX (st2.mu.set b (.arr ((W.set j (A 0)[j]).map cRel).flatten)) (by rw[if_pos zOm,ay]) ?_;simp[go_sem,f14,o,w2]
      try refine⟨o,aP ?_⟩
      try refine aP ?_
      refine⟨zS1 f2,zS1 f4,zS1 f5,zS1 f8,zS1 f9,zS1 f10,zS1 f11,zS1 f13,zSi,by rw[af];simpa[go_sem] using a5,fun i hi hn=>?_⟩;simp only[yO];rw[jV (fun e=>hn (by rw[<-e];exact T))];exact ad i hi hn
   .have bk:j<D.length->¬ 0<k:=fun h=>by omega
    rw[be a2]at U;have I:st2.mu[1]?=some (.arr [lI sc.sC,aI N,s,aI L]):=by rw[C 1 ah];exact h1
    by_cases o:j<D.length<;>simp[go_sem,f9,f11,f13,o,bk,I,Own.one U,Own.cells U]
    all_goals
     refine aY (e:=60) (sz:=1) (bt:=24) (zv := .lst true []) (xs:=((qq k).map A).map fun r=>[lRel r]) [lRel (A k)] st.mu.length zSi zSi zSi rfl rfl zOm zOm ?_ (fun b h=>Own.lt ho h) ?_ ?_ ?_ zSo ?_
     .rcases ho with h|⟨b,h,hc⟩
      .exact .inl h
      .exact .inr ⟨b,h,by rw[C b (qi.1 hc).1];exact hc⟩
     .exact ⟨Own.rd (Vq U ak) (vY _).ok fun r hr c hc=>by
       obtain⟨n,_,rfl⟩:=qp.1 hr;exact U6 n c hc,trivial⟩
     .intro r hr
      obtain⟨n,_,rfl⟩:=qp.1 hr;exact⟨rfl,rfl⟩
     .intro r hr
      simp at hr;subst hr;exact⟨rfl,rfl⟩
     intro b0 b1 ag b2 b3 cf cg;have ch:st.mu.length<=st2.mu.length:=by
      have:=C (st.mu.length-1) zOm;rw[qx (show st.mu.length-1<st.mu.length by omega)]at this;have:=(qi.1 this).1;omega
     have g1:b1[1]?=some (.arr [lI sc.sC,aI N,s,aI L]):=by rw[b2 1 zOm ah (fun h=>zW1 (hb 1 h))];exact I
     have g0:b1[0]?=some (.arr [.lst true [],aI 0,.lst true [],aI 0]):=by rw[b2 0 zOm aa (fun h=>zW1 (hb 0 h)),C 0 aa];exact h0
     have l1:=(qi.1 g1).1;simp[go_sem,f9,f11,g1,w1,Own.one ag,Own.cells ag]
     try refine⟨ai,aP ?_⟩
     try refine aP ?_
     refine⟨zS1 f2,zS1 f4,zS2 f5 hS,zS1 f8,zS1 f9,zS1 f10,zSi,b0,zS1 g0,zS1 l1,?_,fun b h=>zW1 (b3 b h)⟩;rw[List.range_succ,zF,zF];simpa[go_sem] using Own.set ag (.arr [lI sc.sC,aI N,b0,aI L]) (fun h=>zW1 (b3 1 h))
 .have bl:k=N:=by omega
  subst bl;have bm:s.one=true:=Own.one ho;have cj:s.cells=[s]:=Own.cells ho;have b4:∀ c,(st.mu.set 0 c)[0]?=some c:=fun c=>yq aa
  simp[go_sem,hS,e5,e8,e9,a9,h0,h1,bm,b4];have bn:=Own.set ho (i:=0) (.arr [lI sc.sC,aI k,s,aI L]) (fun h=>zW1 (hb 0 h));show Rd _ _ (.agg [lI sc.sC,aI sc.sN,lSt ((qq k).map A),aI L]);rw[hS];refine Rd.aggs ⟨.hf _ (qR _),.hf _ (HF.sc _),?_,.hf _ (HF.sc _),trivial⟩;exact Own.rd bn (fun r hr=>by
   obtain⟨n,_,rfl⟩:=qp.1 hr;rfl) fun r hr c hc=>by
   obtain⟨n,_,rfl⟩:=qp.1 hr;simp at hc;subst hc;exact wd n
end IJ
set_option maxHeartbeats 1000000
namespace I5
open Y1 Y16 YF P1 Q4 Q8 E1 E3 E4 E9 F1 G5 GF GP GQ GR GS GU GV GW HE IB IF IJ IK I1 I2 W41
theorem qbF(raw):HF (lRaw raw):=HF.lst fun r i c g=>by
 obtain⟨l,_,rfl⟩:=qp.1 i;simp at g;subst g;exact HF.lst fun r i c g=>by
  obtain⟨x,_,rfl⟩:=qp.1 i;simp at g;subst g;exact HF.sc _
theorem uV(mu):Rd mu (.tup [.lst true [],.agg [.lst true [],aI 0,.lst true [],aI 0],aB false]) (.tup [lBd [],eMd mdZ,aB false]):=by
 refine .tup _ _ rfl fun j u v g i=>?_
 match j with
 | 0=>simp at g i;subst g;subst i;exact .wk _ true _ (.hf _ (HF.lst fun r l=>by simp at l))
 | 1=>grind [qhZ]
 | 2=>simp at g i;subst g;subst i;exact .zsc _
 |j+3=>simp at g
theorem qnB(b m):HF (.tup [lBd b,eMd m,aB true]):=HF.tup (by simp only[ql,qG,or_false,forall_eq_or_imp,forall_eq];grind [uD,w7,HF.sc])
abbrev tupM(ts:TS)(sc:Sc)(raw:List (List Int))(g:List (List Bool))(lp:Int)(ok:Bool):AV:=if ok=true then .tup [lBd (zy ts sc raw),eMd (anyM sc (vsT ts) (defB ts sc) g (lp % sc.sN)),aB true] else .tup [lBd [],eMd mdZ,aB false]
def ok25(ts:TS)(sc:Sc)(raw:List (List Int))(n:Nd):Bool:=z8 ts&&(yQ ts sc&&(decide (sumI sc.sC<=5)&&(qY n&&(decide (y5 ts=[])&&(decide (ye ts [] n=(0,0))&&(XZ ts (sumI sc.sC) sc.sN n&&(decide ((chs (vsT ts) (qM (zy ts sc raw) 0) sc.sN.toNat).length<=8))))))))
theorem qbG{ts}(g:bigT ts){sc raw n}(h:ok25 ts sc raw n=true):Cx ts sc (zy ts sc raw) sc.sN.toNat/\qY n=true/\(ye ts [] n).1=0:=by
 simp only[ok25,qu,decide_eq_true_eq]at h;obtain⟨i,j,l,o,p,r,I,J⟩:=h;have F:=gg j;have t:=F.s1;have C:jt sc=true:=by
  simp_all[yQ,qu]
 refine⟨⟨qa9 i g,p,F,C,l,gK ts sc raw fun f hf=>Yo _ _ _,zOm,?_⟩,o,by rw[r]⟩;omega
theorem qnC(ts)(hs:bigT ts)(sc raw)(hr:∀ l,l∈raw->∀ x,x∈l->0<=x/\x<=255)(n I lp)(a2:0<=lp/\lp<=255) :
  qh qc 9 [.agg (vp ts sc raw n I lp)] (tupM ts sc raw I lp (ok25 ts sc raw n)):=by
 generalize o:ok25 ts sc raw n=R;have t:=fun h=>qbG (ts:=ts) hs (sc:=sc) (raw:=raw) (n:=n) h
 unfold ok25 at o t;obtain⟨op,nm,i,ks,q⟩:=n;have a3:vp ts sc raw (.mk op nm i ks q) I lp=[.lst false (ts.sS.map wU),.lst false (ts.sA.map wb),lPd ts.sT,lFa ts.sP,lI sc.sC,aI sc.sN,lRaw raw,aI op,aS nm,aI i,.lst false (ks.map cNd),aI q,lBB I,u8 lp]:=by unfold vp;rw[yD];rfl
 have a4:eNd (.mk op nm i ks q) = .agg [aI op,aS nm,aI i,.lst false (ks.map cNd),aI q]:=by rw[eNd,yD];rfl
 rw[a3];generalize hn:Nd.mk op nm i ks q=n at *
 have wn:WK (.agg [aI op,aS nm,aI i,.lst false (ks.map cNd),aI q]) (eNd n):=by rw[<-a4];exact .hf (zd n)
 have p:WK (.agg [.lst false (ts.sS.map wU),.lst false (ts.sA.map wb),lPd ts.sT,lFa ts.sP]) (eTS ts) := .hf (zt ts);have C:WK (.agg [lI sc.sC,aI sc.sN]) (eSc sc) := .hf (zM sc);refine qSU call9 func9 rfl ?_;refine fR ?_;refine cY (qgZ ts) (.cons p .nil) ?_;cases h1:z8 ts with
 |false =>
  rw[h1]at o;replace o:false=R:=o;subst o;simp[go_sem];exact uV _
 |true =>
 have S:=qa9 h1 hs;rw[h1,Bool.true_and]at o t;simp[go_sem];refine cY (qhJ ts sc) (.cons p (.cons C .nil)) ?_;cases h2:yQ ts sc with
 |false =>
  rw[h2]at o;replace o:false=R:=o;subst o;simp[go_sem];exact uV _
 |true =>
 have F:=gg h2;rw[h2,Bool.true_and]at o t;simp[go_sem];refine cY (px sc F.g) (.cons C .nil) ?_;by_cases h3:sumI sc.sC<=5
 case neg =>
  have P:5<sumI sc.sC:=zOm;rw[decide_eq_false h3]at o;replace o:false=R:=o;subst o;simp[go_sem,P];exact uV _
 have P:¬ 5<sumI sc.sC:=zOm;rw[decide_eq_true h3,Bool.true_and]at o t;simp[go_sem,P];refine cY (Wy n) (.cons wn .nil) ?_;cases h4:qY n with
 |false =>
  rw[h4]at o;replace o:false=R:=o;subst o;simp[go_sem];exact uV _
 |true =>
 rw[h4,Bool.true_and]at o t;simp[go_sem];refine cY S.chk (.cons p .nil) ?_;by_cases h5:y5 ts=[]
 case neg =>
  have T:0<(y5 ts).length:=V4.2 h5;rw[decide_eq_false h5]at o;replace o:false=R:=o;subst o;simp[go_sem,T];exact uV _
 have T:(y5 ts).length=0:=by rw[h5];rfl
 rw[decide_eq_true h5,Bool.true_and]at o t;simp[go_sem,T];refine cY (S.chkF h4) (.cons p (.cons (WK.lst fun r hr=>absurd hr qG) (.cons wn .nil))) ?_;by_cases h6:ye ts [] n=(0,0)
 case neg =>
  rw[decide_eq_false h6]at o;replace o:false=R:=o;subst o;generalize ye ts [] n=D at *
  obtain⟨d1,d2⟩:=D;by_cases g1:d1=0
  .have g2:¬d2=0:=fun e=>h6 (by rw[g1,e])
   simp[go_sem,g1,g2];exact uV _
  .simp [go_sem,g1]
   exact uV _
 rw[decide_eq_true h6,Bool.true_and]at o t;rw[h6];simp[go_sem];have a0:=F.g.sum sc.sC.length;rw[za]at a0;have a6:=F.s1;have a7:=F.s4;refine fY (px sc F.g) (.cons C .nil) ?_;refine cY (qmY S h5 (sumI sc.sC) sc.sN zOm zOm h4) (.cons p (.zs (.zs (.cons wn .nil)))) ?_;cases h7:XZ ts (sumI sc.sC) sc.sN n with
 |false =>
  rw[h7]at o;replace o:false=R:=o;subst o;simp[go_sem];exact uV _
 |true =>
 rw[h7,Bool.true_and]at o t;simp[go_sem];have hB:=gK ts sc raw fun f hf=>Yo _ _ _
 have a8:(zy ts sc raw).length=ts.sA.length:=uP ts sc raw;have a9:=F.nf;have a1:∀ x,x∈zy ts sc raw->x.up.ts.length<=1000/\x.lo.ts.length<=1000/\sorted x.lo.ts:=fun x t=>by
  obtain⟨j,hj,rfl⟩:=um t;have h2:j<ts.sA.length:=zOm;have h:=full5 F h3 (qv h2);obtain⟨s1,s2⟩:=hB.so _ t;have h4:=WV s2 (hB.full j hj h2);have h5:=WV s1 (hB.sub _ t);exact⟨zOm,zOm,s1⟩
 have U:∀ x,x∈zy ts sc raw->Yl x:=fun x t=>by
  obtain⟨a,b,c⟩:=a1 x t;exact⟨zOm,zOm,c.imp fun h=>zOm⟩
 have a5:(qM (zy ts sc raw) 0).length<=100000:=by
  have:=qbB 1000 (zy ts sc raw) 0 fun x t=>(a1 x t).1
  omega
 have cM:=qnA ts sc F raw hr;have cC:=qm3 ts sc (zy ts sc raw) sc.sN.toNat zOm zOm zOm U zOm a5;refine fY cM (.cons p (.cons C (.zk (qbF raw) .nil))) ?_;refine cY cC (.cons p (.cons C (.zk (uD _) .nil))) ?_;by_cases h8:(chs (vsT ts) (qM (zy ts sc raw) 0) sc.sN.toNat).length<=8
 case neg =>
  have J:(8:Int)<(chs (vsT ts) (qM (zy ts sc raw) 0) sc.sN.toNat).length:=zOm;rw[decide_eq_false h8]at o;subst o
  try simp only[qW,X0]at J
  simp[go_sem,J];exact uV _
 have J:¬(8:Int)<(chs (vsT ts) (qM (zy ts sc raw) 0) sc.sN.toNat).length:=zOm;rw[decide_eq_true h8]at o;subst o
 try simp only[qW,X0]at J
 simp[go_sem,J];refine fR ?_;refine fY (qhK ts sc F) (.cons p (.cons C .nil)) ?_;refine fY (anyB ts sc F (defB ts sc) (by simp[defB]) (fun b hb=>(WP F h3 b hb).2.2) I lp a2) (.cons p (.cons C (.zk (uD _) (.zk (WO _) (.zs .nil))))) ?_;exact .hf _ (qnB _ _)
end I5
set_option maxHeartbeats 1000000
namespace W70
open Y1 YF P1 E3 E4 F1 GB GC GD GN GP GS HE HF1 HO HS HT IB IC IJ IM I5 W41 LB
theorem qnD(ts sc raw n g lp):HF (.agg (vp ts sc raw n g lp)):=HF.agg fun c i=>by
 unfold vp at i;simp only[qI,ql,qG,or_false]at i;rcases i with h | (rfl|rfl|rfl)|h|rfl|rfl
 .exact We ts c (by simpa[cTS] using h)
 .exact qR _
 .exact HF.sc _
 .exact qbF raw
 .exact wX n c h
 .exact WO _
 .exact HF.sc _
theorem qnE(ts)(P:bigT ts)(sc raw)(hr:∀ l,l∈raw->∀ x,x∈l->0<=x/\x<=255)(n p lp)(t:0<=lp/\lp<=255)(R l0)(a5:0<=l0/\l0<=255) :
  qh qc 3 [.agg (vp ts sc raw n p lp),lBB R,u8 l0] (aB true):=by
 have C:=qnC ts P sc raw hr n p lp t;have o:=fun h=>qbG (ts:=ts) P (sc:=sc) (raw:=raw) (n:=n) h
 obtain⟨op,nm,i,ks,q⟩:=n;have a6:vp ts sc raw (.mk op nm i ks q) p lp=[.lst false (ts.sS.map wU),.lst false (ts.sA.map wb),lPd ts.sT,lFa ts.sP,lI sc.sC,aI sc.sN,lRaw raw,aI op,aS nm,aI i,.lst false (ks.map cNd),aI q,lBB p,u8 lp]:=by unfold vp;rw[yD];rfl
 have wc:WK (.agg (vp ts sc raw (.mk op nm i ks q) p lp)) (.agg (vp ts sc raw (.mk op nm i ks q) p lp)) := .hf (qnD ts sc raw _ p lp);rw[a6]at wc⊢;rw[a6]at C;generalize hn:Nd.mk op nm i ks q=n at *
 have a0:WK (.agg [.lst false (ts.sS.map wU),.lst false (ts.sA.map wb),lPd ts.sT,lFa ts.sP]) (eTS ts) := .hf (zt ts);have a7:WK (.agg [lI sc.sC,aI sc.sN]) (eSc sc) := .hf (zM sc);refine qSU call3 func3 rfl ?_;refine fY JL.ql4 .nil ?_;refine cY C (.cons wc .nil) ?_;cases ae:ok25 ts sc raw n with
 |false =>
  simp[go_sem,tupM];exact .zsc _
 |true =>
 simp only[tupM,reduceIte];obtain⟨X,an,ao⟩:=o ae;have D:=qbC X.F;have cA:=anyB ts sc X.F (defB ts sc) D.len (fun x o=>(WP X.F X.h5 x o).2.2) R l0 a5;have hm:=qbA D X.N1 (qbD X.F X.hS X.N1 p lp t.1);have hk:=qbA D X.N1 (qbD X.F X.hS X.N1 R l0 a5.1);have cD:=qmT ts sc X.F;have I:=D.len;have a8:=X.N4;have a9:=X.N1;have af:=X.F.nf;have J:∀ x,x∈defB ts sc->x.up.ts.length<=125:=fun x o=>by
  obtain⟨f,hf,rfl⟩:=qp.1 o;exact qmS X.F X.h5 hf
 have ag:∀ x,x∈defB ts sc->x.lo.ts.length<=125:=fun x o=>by
  obtain⟨f,hf,rfl⟩:=qp.1 o;simp
 have ah:sc.sC.length<=1000:=by have:=X.F.g.1;have:=X.F.ns;have:=X.S.h.ns;omega
 obtain⟨T,m2,m3⟩:=qbE hm a9 I J;obtain⟨U,k2,k3⟩:=qbE hk a9 I J;have a4:∀{x:Md},ShpS sc.sN.toNat ts.sA.length 125 x.sK->SmS x.sK:=fun {x} o=>⟨by rw[o.shp.len];omega,fun s P=>by rw[o.shp.lens s P];omega,fun s P r hr=>by
  obtain⟨i,hi,rfl⟩:=um P;obtain⟨j,hj,rfl⟩:=um hr;have hl:=o.shp.lens _ (qv hi);have aa:i<sc.sN.toNat:=by rw[<-o.shp.len];exact hi
  have a1:=o.sm i j aa zOm;have a2:=o.shp.srt i j aa zOm;rw[wu hi hj]at a1 a2;exact⟨zOm,a2⟩⟩
 have up:∀{x:Md},ShpS sc.sN.toNat ts.sA.length 125 x.sK->ShpS sc.sN.toNat ts.sA.length 1000 x.sK:=fun {x} o=>⟨o.shp,fun s f P hf=>zW1 (o.sm s f P hf)⟩
 generalize hM:anyM sc (vsT ts) (defB ts sc) p (lp % sc.sN)=m at *
 generalize hK:anyM sc (vsT ts) (defB ts sc) R (l0 % sc.sN)=k at *
 have ab:m.sK.length=sc.sN.toNat:=T.shp.len;have aq:k.sK.length=sc.sN.toNat:=U.shp.len;have c1:=nn m k ts.sA.length sc.sN.toNat (by rw[hm.sc,hk.sc]) (by rw[hm.sc,hk.sc]) (by rw[hm.sc];omega) (up T) (up U) a8 zOm;have c2:=qgF m k (a4 T) (a4 U) (by rw[hm.sc];omega);rw[Ve,hm.sc,hk.sc,qmW T.shp U.shp,<-qmU T.shp U.shp]at c2;have ak:=qmV T U;have al:sc.sN.toNat*(ts.sA.length*(2*125))<=4*(6*250):=Nat.mul_le_mul a8 (Nat.mul_le_mul_right _ af);have ai:jO (vsT ts) sc.sN.toNat ts.sA.length (defB ts sc) (jg sc.sN.toNat ts.sA.length m.sK k.sK) m.sK = .ok k.sK:=by
  rw[J7,qgB T.shp U.shp m2 k2]
  .intro s f h1 h2
   rw[(m3 s f h1 zOm).1,(k3 s f h1 zOm).1]
  .exact qgC T.shp U.shp I fun s f hf P=>(k3 s f P zOm).2
 have c3:=g7 ts (defB ts sc) m (jg sc.sN.toNat ts.sA.length m.sK k.sK) I (fun x o=>zW2 (J x o) (ag x o)) (by rw[ab];exact up T) zOm zOm (by rw[hm.sc];omega) zOm;rw[ab,ai]at c3;have hz:({ m with sK:=k.sK }:Md)={ k with loop:=m.loop }:=by
  have:=hm.sc.trans hk.sc.symm;obtain⟨a1,a2,a3⟩:=m;obtain⟨b1,b2,b3⟩:=k;simp only at this⊢;rw[this]
 have ho:outA m (.ok k.sK) = .tup [eMd { k with loop:=m.loop },aI 0]:=by rw[<-hz];rfl
 rw[ho]at c3;have c4:=qhY { k with loop:=m.loop } { k with loop:=m.loop } (qm4 (a4 U) (by show k.sc.sC.length<=1000;rw[hk.sc];exact ah));rw[decide_eq_true rfl]at c4;have aj:(zy ts sc raw).length=ts.sA.length:=X.B.len;generalize zy ts sc raw=b at *
 generalize ar:defB ts sc=d at *
 generalize jg sc.sN.toNat ts.sA.length m.sK k.sK=l at *
 have wz:WK (.agg [lI k.sc.sC,aI k.sc.sN,lSt k.sK,aI m.loop]) (eMd { k with loop:=m.loop }) := .hf (w7 { k with loop:=m.loop });have w2:qw.wrap ((l.length:Int)+1-1)=l.length:=by rw[zWr];omega
 simp[go_sem];refine fY cD (.cons a0 (.cons a7 .nil)) ?_;refine fY cA (.cons a0 (.cons a7 (.zk (uD _) (.zk (WO _) (.zs .nil))))) ?_;refine fY c1 (.zk (w7 _) (.zk (w7 _) .nil)) ?_;refine cY c2 (.zk (w7 _) (.zk (w7 _) .nil)) ?_;have w3:qw.wrap (l.length:Int)=l.length:=zWr;have t:(m.loop=k.loop)=True\/(m.loop=k.loop)=False:=by
  by_cases h:m.loop=k.loop
  .exact .inl (eq_true h)
  .exact .inr (eq_false h)
 rcases t with t|t<;>simp[go_sem,t,w2,w3]
 all_goals
  refine cY c3 (.cons a0 (.zk (uD _) (.zk (w7 _) (.zk (qh3 _) .nil)))) ?_;simp[go_sem,w2,w3];refine cY c4 (.cons wz (.cons wz .nil)) ?_;simp[go_sem,aj,I];exact .zsc _
end W70
namespace DL
open Go.EvW Go.RowKit Go.ChangeShapes Go.WideShapes
theorem own:ownKnob qc.godebug=none:=by kernel_rfl
theorem laid:laidOutB qc=true:=by kernel_rfl
abbrev tabL : List (String × DataW Unit) := [("math/bits.deBruijn32tab", Rows.laid_math_bits_deBruijn32tab), ("math/bits.deBruijn64tab", Rows.laid_math_bits_deBruijn64tab), ("internal/strconv.uint64pow10", Rows.laid_internal_strconv_uint64pow10)]
def pows:List Int:=[1,10,100,1000,10000,100000,1000000,10000000,100000000,1000000000,10000000000,100000000000,1000000000000,10000000000000,100000000000000,1000000000000000,10000000000000000,100000000000000000,1000000000000000000,10000000000000000000]
theorem gPow : qc.globalNamed "internal/strconv.uint64pow10" = some 0 := by kernel_rfl
theorem tPow:(qc.globals[0]?).map (·.type)=some 392:=by kernel_rfl
theorem uPow:qc.underlying 392=some (.array 20 349):=by kernel_rfl
theorem uU64:qc.underlying 349=some (.int .u64):=by kernel_rfl
theorem qnF{W}(h:laidMetH qc tabL W):wE (·<W.heap.size) W.heap:=by
  rw[MakeChecks.laidMetH_plain _ _ _ zKr]at h;obtain⟨ps,I,_⟩:=h
  obtain ⟨g, t, l, r, p, J, P, R, T⟩ := nX I ("internal/strconv.uint64pow10", Rows.laid_internal_strconv_uint64pow10) zSp
  obtain rfl:=Option.some.inj (gPow.symm.trans J);obtain rfl:=Option.some.inj (tPow.symm.trans P);have U:l.toList=pows.map fun i => .int .u64 i:=qi9 uPow uU64 zKr zKr (ns:=pows) T
  obtain⟨e,fr,C⟩:=qjA gPow R;intro x j;have j:x∈[(0,pows.map fun i=>Value.int .u64 i)]:=j;rw[qL]at j;subst j;refine⟨(Array.getElem?_eq_some_iff.1 C).1,e,fr,?_⟩;show W.heap[0]?=_;rw[C];have:l=(pows.map fun i=>Value.int .u64 i).toArray:=by rw[<-U]
  rw[this]
theorem qnG(os args):laidMetH qc tabL ((World.doorLaid qc 4000 os).forCall (fun _ _=>0) ⟨#[],args,[]⟩).memory:=
 laidMetH_of_parts3 (fuel:=8) (laidMet_of_run' 8 zKr zKr) zKr zKr
end DL
namespace DM
open Go.EvW E3 DT
instance:Inhabited Rl:=⟨⟨0,[]⟩⟩
instance:Inhabited Sc:=⟨⟨[],0⟩⟩
instance:Inhabited Md:=⟨⟨default,[],0⟩⟩
theorem shRel(N):ShU qc N 62 cRel (fun _=>True):=
 ((ShU.struct (fs:=[(3,0),(28,1)]) zKr (.cons' (o':=1) zKr (Qf N) (.cons' (o':=2) zKr (Xg N) (.nil 2))) zKr).map
  (fun x=>(⟨x.1,x.2.1⟩:Rl)) (fun _=>rfl) (fun x h=>trivial)).le zOm
theorem qnH(N):ShU qc N 30 (fun s:Sc=>[lI s.sC,aI s.sN]) (fun _=>True):=
 ((ShU.struct (fs:=[(28,0),(3,1)]) zKr (.cons' (o':=1) zKr (Xg N) (.cons' (o':=2) zKr (Qf N) (.nil 2))) zKr).map
  (fun x=>(⟨x.1,x.2.1⟩:Sc)) (fun _=>rfl) (fun x h=>trivial)).le zOm
end DM
namespace DN
open Go.EvW P1 Y1 EO DT GS W41
theorem qnI:qc.underlying 97=some (.slice 4):=by kernel_rfl
theorem unBB:qc.underlying 36=some (.slice 97):=by kernel_rfl
theorem unU8s:qc.underlying 145=some (.slice 5):=by kernel_rfl
theorem unRaw:qc.underlying 32=some (.slice 145):=by kernel_rfl
theorem qnJ(N):ShU qc N 97 (fun l:List Bool=>[lB l]) (fun _=>True):=
 ((ShU.slice qnI (Xf N) (fun _ _=>zKr) (Nat.lt_of_lt_of_eq Nat.zero_lt_one zKr) zKr).le zOm).map (fun l=>l) (fun _=>rfl) fun _ _=>trivial
theorem shBB(N):ShU qc N 36 (fun l:List (List Bool)=>[lBB l]) (fun _=>True):=
 ((ShU.slice unBB (qnJ N) (fun _ _=>zKr) (Nat.lt_of_lt_of_eq Nat.zero_lt_one zKr) zKr).le zOm).map (fun l=>l) (fun _=>rfl) fun _ _=>trivial
abbrev V1:=TS×Sc×List (List Int)×Nd×List (List Bool)×Int
abbrev cCs(x:V1):List AV:=vp x.1 x.2.1 x.2.2.1 x.2.2.2.1 x.2.2.2.2.1 x.2.2.2.2.2
theorem aBB:jT qc 36 lBB (fun _=>True):=jT.slice unBB shBB
end DN
namespace DO
open Go.EvW DT DM DN W41
def qbH(l:List Int):Prop:=∀ x,x∈l->0<=x/\x<=255
def qbI(r:List (List Int)):Prop:=∀ l,l∈r->qbH l
theorem shU8r(N):ShU qc N 145 (fun l:List Int=>[.lst false (l.map fun x=>[u8 x])]) qbH:=
 ((ShU.slice unU8s (shU8 N) (fun _ _=>zKr) (Nat.lt_of_lt_of_eq Nat.zero_lt_one zKr) zKr).le zOm).map (fun l=>l) (fun _=>rfl) fun _ h=>h.2
theorem qnK(N):ShU qc N 32 (fun l:List (List Int)=>[lRaw l]) qbI:=
 ((ShU.slice unRaw (shU8r N) (fun _ _=>zKr) (Nat.lt_of_lt_of_eq Nat.zero_lt_one zKr) zKr).le zOm).map (fun l=>l) (fun _=>rfl) fun _ h=>h.2
def okCs(x:V1):Prop:=okTA x.1/\qbI x.2.2.1/\(0<=x.2.2.2.2.2/\x.2.2.2.2.2<=255)
theorem qnL(N):ShU qc N 38 cCs okCs:=
 ((ShU.struct (fs:=[(27,0),(30,4),(32,6),(35,7),(36,12),(5,13)]) zKr
  (.cons' (o':=4) zKr (qjP N) (.cons' (o':=6) zKr (qnH N) (.cons' (o':=7) zKr (qnK N) (.cons' (o':=12) zKr (VD N) (.cons' (o':=13) zKr (shBB N) (.cons' (o':=14) zKr (shU8 N) (.nil 14))))))) zKr).map
  (fun x=>((x.1,x.2.1,x.2.2.1,x.2.2.2.1,x.2.2.2.2.1,x.2.2.2.2.2.1):V1)) (fun x=>by simp[cCs,vp]) (fun x h=>⟨h.1,h.2.2.1,h.2.2.2.2.2.1⟩)).le zOm
theorem qnM:jT qc 38 (fun x => .agg (cCs x)) okCs:=jT.struct zKr qnL
end DO
end Go.Proofs.YthkdjhkmlmjkbaaGreatDoor
