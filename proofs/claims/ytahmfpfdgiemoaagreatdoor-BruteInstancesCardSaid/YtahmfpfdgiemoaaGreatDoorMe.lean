/-
  Own library, part 5: an abstract reading of values and a calculus over it; contracts of functions; plain lemmas.
-/
import Derived.Lib.ItoaLen
import Derived.Handed
import Derived.WideKeyArgs
import Derived.ProofKit
import Derived.OpenShut
import Derived.JoinedCond
import Derived.KernelRfl
import Derived.Test.YtahmfpfdgiemoaaGreatDoorMd
set_option linter.unusedVariables false
set_option linter.unusedSimpArgs false
set_option maxRecDepth 100000
open Go renaming FuncId->us,Program->qf,TypeId->j1,World->j2,Value->j3,undef->va
open Go.Proofs.Tryz renaming prog->qb
open List renaming getElem?_eq_some_iff->qe,mem_map->qk,range->qo,getElem_mem->qt,mem_cons->qu,getElem?_eq_getElem->qv,mem_append->qC,not_mem_nil->qD,getElem?_append_left->qI,all_eq_true->qJ,mem_cons_of_mem->qK,mem_singleton->qN,mem_cons_self->qR,getElem?_append_right->qT,length_append->qU,take_length->qX,getD_eq_getElem?_getD->q8,append_assoc->zc,map_append->zd,getElem?_map->zm,getElem?_set_self->zo,replicate->zp,length_cons->zq,length_map->zJ,append_nil->zL,mem_range->yj,mem_append_left->yA,getElem?_eq_none->yC,drop_length->yR,map_cons->yS,mem_filter->jg,nodup_cons->jw,ext_getElem?->jx,take_succ_eq_append_getElem->jF,getElem?_cons_succ->vb,mem_iff_getElem->vB,eq_nil_of_length_eq_zero->vE,take_append_drop->uZ,flatMap_cons->wC,foldl_append->Qd,mem_flatMap->Qe,getElem_map->Zu
open Option.some renaming injEq->qj
open Nat renaming le_refl->qn,le_trans->zV,le_of_ble_eq_true->yi
open Bool renaming and_eq_true->qq,or_eq_true->vF
open Array renaming getD_eq_getD_getElem?->qB
open Option renaming map_some->qS
open Int renaming le_refl->jv
open List.Nodup renaming length_le_of_subset->jR
open Prod.mk renaming injEq->vf
namespace Go.Proofs.YtahmfpfdgiemoaaGreatDoor
open Go Go.Ev Go.Proofs Tryz
namespace GS
open P1 E1 EO F4 GB G5 GP GR
abbrev rBs(l:List Bool):List AV:=[lB l]
abbrev lBB(l:List (List Bool)):AV := .lst false (l.map rBs)
theorem hf_lB(l:List Bool):HF (lB l):=HF.lst fun r i c g=>by
 obtain⟨n,_,rfl⟩:=qk.1 i;simp at g;subst g;exact HF.sc _
theorem WD(l:List (List Bool)):HF (lBB l):=HF.lst fun r i c g=>by
 obtain⟨n,_,rfl⟩:=qk.1 i;simp at g;subst g;exact hf_lB n
theorem py{ts:TS}{sc:Sc}(F:Fit9 ts sc)(j:sumI sc.atoms<=5):∀ b,b∈defB ts sc->b.up.ts.length<=1000/\b.up.ts.Pairwise (·<·)/\WB b:=fun b g=>by
 obtain⟨f,hf,rfl⟩:=qk.1 g;have l:=(F.f1 f hf).2;have o:=F.p;have i:(zQ sc f.sorts).length<=1000:=by
  refine zV (Wv _ _ _) ?_;have:sumI sc.atoms ^ f.sorts.length<=125:=by
   rcases (show f.sorts.length=0\/f.sorts.length=1\/f.sorts.length=2\/f.sorts.length=3 by omega) with e|e|e|e<;>rw[e]<;>rcases (show sumI sc.atoms=1\/sumI sc.atoms=2\/sumI sc.atoms=3\/sumI sc.atoms=4\/sumI sc.atoms=5 by omega) with d|d|d|d|d<;>rw[d]<;>decide
  omega
 exact⟨i,Ww _ _ _,zSo,zSp,by simp[sorted]⟩
def fixS(g:List Bool)(i l:List Rl)(j:Nat):List Rl:=l.mapIdx fun f r=>if f<j/\g.getD f true=false then i.getD f noR else r
theorem qfX(i:List Bool)(j g:List Rl):fixS i j g 0=g:=by
 refine jx fun f=>?_
 simp[fixS]
theorem qfY(i:List Bool)(l g:List Rl)(j:Nat):(fixS i l g j).length=g.length:=by simp[fixS]
theorem qfZ(i:List Bool)(o g:List Rl)(j:Nat)(h:j<g.length):fixS i o g (j+1)=if i.getD j true=false then (fixS i o g j).set j (o.getD j noR) else fixS i o g j:=by
 refine jx fun f=>?_
 by_cases l:i.getD j true=false
 .rw [if_pos l,List.getElem?_set]
  simp only[fixS,List.getElem?_mapIdx,List.length_mapIdx];by_cases hf:j=f
  .subst hf
   rw[if_pos rfl,if_pos h,qv h];simp only[qS,Nat.lt_succ_self,l,and_self,if_true]
  .rw [if_neg hf]
   cases g[f]? with
   |none=>rfl
   |some r=>simp only[qS];congr 1;by_cases p:f<j<;>simp[p,show (f<j+1)=(f<j) by simp;omega]
 .rw [if_neg l]
  simp only[fixS,List.getElem?_mapIdx];cases g[f]? with
  |none=>rfl
  |some r =>
   simp only[qS];congr 1;by_cases hf:f=j
   .subst hf;rw[if_neg (fun h=>l h.2),if_neg (fun h=>l h.2)]
   .by_cases p:f<j<;>simp[p,show (f<j+1)=(f<j) by simp;omega]
theorem qf0(j:List Bool)(i:List Bd)(g:List (List Bool))(k:Nat)(h:k≠0):anyS j i g k=fixS j (zS i (g.getD 0 [])) (zS i (g.getD k [])) i.length:=by
 rw[anyS,if_neg h];refine jx fun f=>?_
 simp only[fixS,List.getElem?_mapIdx];cases o:(zS i (g.getD k []))[f]? with
 |none=>rfl
 |some r =>
  have l:=(qe.1 o).1;rw[w7]at l;simp only[qS];congr 1;cases j.getD f true<;>simp[l]
theorem Own.put{sz:Nat}{mu:Mu}{av:AV}{xs:List (List AV)}{b:Nat}(h:av = .sl b sz 0 xs.length)(g:mu[b]?=some (.arr xs.flatten))(w:zX sz xs){i:Nat}{r:List AV}(j:r.length=sz)(l:i<xs.length):Own (mu.set b (.arr (putCells xs.flatten (i*sz) r))) sz av (xs.set i r):=by
 refine .inr ⟨b,by rw[List.length_set];exact h,?_⟩;rw[zo (qe.1 g).1,ZF xs i r w j l]
abbrev vsT(ts:TS):List Bool:=ts.fields.map fun f=>f.var
end GS
namespace GU
open YF P1 E1 E3 EO EQ F4 GF GH GR GS
abbrev Ch:=Int×Int×Int
abbrev rC(c:Ch):List AV:=[aI c.1,aI c.2.1,aI c.2.2]
theorem Zd(l:List Ch):zg 3 (l.map rC):=fun r g=>by
 obtain⟨n,_,rfl⟩:=qk.1 g;exact⟨rfl,rfl⟩
abbrev lCh(l:List Ch):AV := .lst false (l.map rC)
def chA(g:List Bool)(s:Nat)(i:List (Int×Int)):List Ch:=(i.filter fun p=>decide (s=0)||g.getD p.1.toNat true).map fun p=>((s:Int),p.1,p.2)
def chs(g:List Bool)(i:List (Int×Int))(k:Nat):List Ch:=(qo k).flatMap fun s=>chA g s i
theorem WE(g:List Bool)(i:List (Int×Int))(k:Nat):chs g i (k+1)=chs g i k++chA g k i:=by
 rw[chs,List.range_succ,List.flatMap_append];simp[chs]
theorem pz(i:List Bool)(s:Nat)(g:List (Int×Int))(j:Nat)(h:j<g.length):chA i s (g.take (j+1))=chA i s (g.take j)++(if (decide (s=0)||i.getD g[j].1.toNat true)=true then [((s:Int),g[j].1,g[j].2)] else []):=by
 rw[jF h,chA,List.filter_append,zd];by_cases l:(decide (s=0)||i.getD g[j].1.toNat true)=true
 .rw [if_pos l,show [g[j]].filter (fun p=>decide (s=0)||i.getD p.1.toNat true)=[g[j]] from List.filter_cons_of_pos (p:=fun p:Int×Int=>decide (s=0)||i.getD p.1.toNat true) l];rfl
 .rw [if_neg l,show [g[j]].filter (fun p=>decide (s=0)||i.getD p.1.toNat true)=[] from List.filter_cons_of_neg (p:=fun p:Int×Int=>decide (s=0)||i.getD p.1.toNat true) l];rfl
theorem WG(i:List Bool)(s:Nat)(g:List (Int×Int)):(chA i s g).length<=g.length:=by
 rw[chA,zJ];grind
theorem WH(i:List Bool)(g:List (Int×Int)):∀ k,(chs i g k).length<=k*g.length
 | 0=>by simp[chs]
 |k+1=>by
  rw[WE,qU,Nat.succ_mul];have:=WH i g k;have:=WG i k g;omega
theorem WI:∀(g:List Bd) (k:Nat),∀ p,p∈qy g k->(k:Int)<=p.1/\p.1<(k+g.length:Nat)
 | [],k,p,h=>by simp[qy]at h
 |b :: g,k,p,h=>by
  simp only[qy,qC]at h;rcases h with h|h
  .simp only[yh,qk]at h
   obtain⟨t,_,rfl⟩:=h;simp;omega
  .have:=WI g (k+1) p h
   simp only[zq];omega
theorem qf1(ts:TS)(sc:Sc)(T:List Bd)(N:Nat)(hS:sc.steps=N)(hN:N<=4)(hl:T.length<=1000)(hb:∀ x,x∈T->wt x)(af:T.length<=ts.fields.length)(a9:(qy T 0).length<=100000) :
  qd qb 40 [eTS ts,eSc sc,lBd T] (lCh (chs (vsT ts) (qy T 0) N)):=by
 have a3:=Wm T hl hb;have ag:=Vb T 0 hb;have a5:=WI T 0;generalize hF:qy T 0=F at *
 refine qSV call40 func40 rfl ?_;simp[go_sem,hS];refine qh.upK N (fun k st=>st.tm 2=lBd T/\st.tm 3 = .ip (cTS ts)/\st.tm 12=aI N/\st.tm 13=aI k/\Own st.mu 3 (st.tm 7) ((chs (vsT ts) F k).map rC)) ?_ ?_
 .exact ⟨zSi,zSi,zSi,zSi,.inl (by simp[go_sem,chs])⟩
 rintro k st hk ⟨e2,e3,o,t,ho⟩;by_cases a6:k<N
 .have w1:=zWk k
  have ah:=WH (vsT ts) F k;have ad:k*F.length<=4*100000:=Nat.mul_le_mul zOm a9;simp[go_sem,e2,o,t,a6];refine qc.zP a3 (.zk (j0 _) .nil) ?_;refine qh.upK F.length (fun j st2=>st2.tm 2=lBd T/\st2.tm 3 = .ip (cTS ts)/\st2.tm 12=aI N/\st2.tm 13=aI k/\st2.tm 8=aI k/\st2.tm 17=lP F/\st2.tm 18=aI F.length/\st2.tm 19=aI j/\Own st2.mu 3 (st2.tm 7) ((chs (vsT ts) F k++chA (vsT ts) k (F.take j)).map rC)) ?_ ?_
  .exact ⟨zS1 e2,zS1 e3,zS1 o,zS1 t,zSi,zSi,zSi,zSi,by simpa[go_sem,chA] using ho⟩
  clear e2 e3 o t;rintro j st2 hj ⟨e2,e3,o,t,e8,I,C,J,a0⟩;by_cases i:j<F.length
  .have w2:=zWk j
   have hm:=a5 _ (qt i);obtain⟨f,hf⟩:=Int.eq_ofNat_of_zero_le (show 0<=F[j].1 by have:=hm.1;simpa using this);have U:f<ts.fields.length:=by have:=hm.2;rw[hf]at this;simp at this;omega
   have a7:0<=F[j].1:=zOm;have a8:F[j].1.toNat=f:=zOm;have a1:F[j].1<ts.fields.length:=zOm;have aa:(vsT ts).getD F[j].1.toNat true=ts.fields[f].var:=by rw[hf,Int.toNat_natCast,q8,zm,qv U];rfl
   have ai:=WG (vsT ts) k (F.take j);have aj:=List.length_take_le j F;have hs:=pz (vsT ts) k F j i;rw[aa]at hs;have a2:∀(K:AV->Mu->Prop) (c:Cell),(∀ P l,Own l 3 P ((chs (vsT ts) F k++(chA (vsT ts) k (F.take j)++[((k:Int),F[j].1,F[j].2)])).map rC)->K P l)->qA qb (st2.mu++[c]) #[100,100] (st2.tm 7) (.lst true [[aI k,aI F[j].1,aI F[j].2]]) K:=fun K c hK=>by
    refine qA.ownB (e:=144) (sz:=3) (bt:=24) (zv := .agg [aI 0,aI 0,aI 0]) (xs:=(chs (vsT ts) F k++chA (vsT ts) k (F.take j)).map rC) (ys:=[rC ((k:Int),F[j].1,F[j].2)]) zSi zSi zSi rfl rfl zOm zOm (Own.push a0 _) (by simp[qH]) (Zd _) (Zd [_]) zSo ?_;intro P l ab _ _ _;exact hK P l (by rw[<-zc,zd (l₂:=[_])];exact ab)
   by_cases hc:(decide (k=0)||ts.fields[f].var)=true
   .rw [if_pos hc]at hs
    by_cases R:k=0
    .subst R
     simp[go_sem,e8,I,C,J,i];refine a2 _ _ fun P l h1=>?_
     simp[go_sem,J,i,w2]
     try refine⟨i,Keep.mk' ?_⟩
     try refine Keep.mk' ?_
     refine⟨zS1 e2,zS1 e3,zS1 o,zS1 t,zS1 e8,zS1 I,zS1 C,zSi,?_⟩;rw[hs];simpa[go_sem] using h1
    .have hv:ts.fields[f].var=true:=by simpa[R] using hc
     simp[go_sem,e3,e8,I,C,J,i,R,a7,a8,a1,U,hv];refine a2 _ _ fun P l h1=>?_
     simp[go_sem,J,i,w2]
     try refine⟨i,Keep.mk' ?_⟩
     try refine Keep.mk' ?_
     refine⟨zS1 e2,zS1 e3,zS1 o,zS1 t,zS1 e8,zS1 I,zS1 C,zSi,?_⟩;rw[hs];simpa[go_sem] using h1
   .rw [if_neg hc,zL]at hs
    have R:¬k=0:=fun h=>hc (zP1 h)
    have hv:ts.fields[f].var=false:=by simpa[R] using hc
    simp[go_sem,e3,e8,I,C,J,i,R,a7,a8,a1,U,hv,w2]
    try refine⟨i,Keep.mk' ?_⟩
    try refine Keep.mk' ?_
    refine⟨zS1 e2,zS1 e3,zS1 o,zS1 t,zS1 e8,zS1 I,zS1 C,zSi,?_⟩;rw[hs];simpa[go_sem] using Own.push a0 _
  .have a4:j=F.length:=by omega
   subst a4;rw[qX]at a0;simp[go_sem,t,C,J,w1]
   try refine⟨a6,Keep.mk' ?_⟩
   try refine Keep.mk' ?_
   refine⟨zS1 e2,zS1 e3,zS1 o,zSi,?_⟩;rw[WE];simpa[go_sem] using a0
 .have a4:k=N:=by omega
  subst a4;simp[go_sem,o,t];exact Own.rd ho (Zd _).ok fun r hr c hc=>by
   obtain⟨n,_,rfl⟩:=qk.1 hr;simp at hc;rcases hc with rfl|rfl|rfl<;>exact HF.sc _
def selT(g:List Ch)(s f:Nat):List Int:=(g.filter fun c:Ch=>decide (c.1=(s:Int))&&decide (c.2.1=(f:Int))).map fun c=>c.2.2
def vt(g:List Ch)(s f:Nat)(b:Bd):Rl:=unR b.lo ⟨b.lo.ar,selT g s f⟩
def jf(i:List Bool)(j:List Bd)(g:List Ch)(s:Nat):List Rl:=j.mapIdx fun f b=>if s≠0/\i.getD f true=false then vt g 0 f b else vt g s f b
theorem Ze(i:List Bool)(g:List Bd)(j:List Ch)(s:Nat):(jf i g j s).length=g.length:=by simp[jf]
theorem Yi(j:List Bool)(g:List Bd)(i:List Ch)(s f:Nat)(h:f<g.length)(l:f<(jf j g i s).length):(jf j g i s)[f]=if s≠0/\j.getD f true=false then vt i 0 f g[f] else vt i s f g[f]:=by simp[jf]
theorem qf2(g:List Ch)(s f i:Nat)(h:i<g.length):selT (g.take (i+1)) s f=selT (g.take i) s f++(if g[i].1=s/\g[i].2.1=f then [g[i].2.2] else []):=by
 rw[jF h,selT,List.filter_append,zd];by_cases j:g[i].1=s/\g[i].2.1=f
 .rw [if_pos j,show [g[i]].filter (fun c:Ch=>decide (c.1=(s:Int))&&decide (c.2.1=(f:Int)))=[g[i]] from List.filter_cons_of_pos (p:=fun c:Ch=>decide (c.1=(s:Int))&&decide (c.2.1=(f:Int))) (zUs j)];rfl
 .rw [if_neg j,show [g[i]].filter (fun c:Ch=>decide (c.1=(s:Int))&&decide (c.2.1=(f:Int)))=[] from List.filter_cons_of_neg (p:=fun c:Ch=>decide (c.1=(s:Int))&&decide (c.2.1=(f:Int))) (zUs j)];rfl
theorem pA(g:List Ch)(s f:Nat):(selT g s f).length<=g.length:=by rw[selT,zJ];exact List.length_filter_le ..
abbrev zR:List AV:=[aI 0,.lst true []]
def yo(L:List Rl)(n j:Nat):List (List AV):=(L.take j).map cRel++zp (n-j) zR
theorem pB(L:List Rl)(n j:Nat)(g:L.length=n)(h:j<=n):(yo L n j).length=n:=by simp[yo,g];omega
theorem pC(L:List Rl)(n j:Nat):zX 2 (yo L n j):=fun r g=>by
 simp only[yo,qC,qk,List.mem_replicate]at g;rcases g with ⟨q,_,rfl⟩|⟨_,rfl⟩<;>rfl
theorem qf3(L:List Rl)(n j:Nat)(i:L.length=n)(h:j<n):(yo L n j).set j (cRel (L[j]' zOm))=yo L n (j+1):=by
 unfold yo;have g:((L.take j).map cRel).length=j:=zSo;rw[List.set_append_right _ _ zOm,g,Nat.sub_self,show n-j=n-(j+1)+1 by omega,List.replicate_succ,List.set_cons_zero,jF (show j<L.length by omega),zd,zc];rfl
theorem qf4(L:List Rl)(n:Nat)(g:L.length=n):yo L n n=L.map cRel:=by
 unfold yo;rw[<-g,qX,Nat.sub_self];simp
structure pD (b:Bd):Prop where
 l:b.lo.ts.length<=50000
def yy(sc:Sc)(g:List Bool)(i:List Bd)(j:List Ch)(N:Nat)(loop:Int):Md:=⟨sc,(qo N).map (jf g i j),loop⟩
theorem qf5(ts:TS)(sc:Sc)(o:List Bd)(C:List Ch)(loop:Int)(N:Nat)(hS:sc.steps=N)(hN:N<=4)(hl:o.length<=1000)(hb:∀ x,x∈o->pD x)(de:o.length<=ts.fields.length)(df:C.length<=50000) :
  qd qb 42 [eTS ts,eSc sc,lBd o,aI loop,lCh C] (eMd (yy sc (vsT ts) o C N loop)):=by
 have bn:eMd (yy sc (vsT ts) o C N loop) = .agg [lI sc.atoms,aI N,lSt ((qo N).map (jf (vsT ts) o C)),aI loop]:=by rw[<-hS];rfl
 rw[bn];have J:=Ze (vsT ts) o C;have aq:=Yi (vsT ts) o C;clear bn;generalize hA:jf (vsT ts) o C=A at J aq⊢;refine qSV call42 func42 rfl ?_;simp[go_sem,hS];refine qh.upK N (fun k st=>st.tm 2=lBd o/\st.tm 4=lCh C/\st.tm 5 = .ip (cTS ts)/\st.tm 10 = .ptr 0 0/\st.tm 11 = .ptr 1 0/\st.tm 23=aI N/\st.tm 24=aI k /\
  ∃ s,st.mu[0]?=some (.arr [.lst true [],aI 0,.lst true [],aI 0])/\st.mu[1]?=some (.arr [lI sc.atoms,aI N,s,aI loop])/\Own st.mu 1 s (((qo k).map A).map fun r=>[lRel r])/\∀ b,qr s=some b->2<=b) ?_ ?_
 .exact ⟨zSi,zSi,zSi,zSi,zSi,zSi,zSi,.lst true [],zSi,zSi,.inl zSp,by simp[qr]⟩
 rintro k st hk ⟨e2,e4,e5,bo,bq,be,bg,s,h0,h1,ho,bh⟩;have cr:=(qe.1 h0).1;have dh:=(qe.1 h1).1;by_cases br:k<N
 .have w1:=zWk k
  have cs:(o.length:Int)<=4294967296:=zOm;simp[go_sem,e2,be,bg,br,cs];have bu:∀ b,qr s=some b->b<st.mu.length:=fun b h=>Own.lt ho h
  have di:2<=st.mu.length:=zOm;have ct:(zp o.length [AV.sc (Value.int IntKind.i64 0),AV.lst true []]).flatten=(yo (A k) o.length 0).flatten:=by simp[yo]
  generalize hR:st.mu.length=R at *
  refine qh.upK o.length (fun j st2=>st2.tm 2=lBd o/\st2.tm 4=lCh C/\st2.tm 5 = .ip (cTS ts)/\st2.tm 10 = .ptr 0 0/\st2.tm 11 = .ptr 1 0/\st2.tm 23=aI N/\st2.tm 24=aI k/\st2.tm 12=aI k/\st2.tm 13 = .sl R 2 0 o.length/\st2.tm 30=lBd o/\st2.tm 31=aI o.length/\st2.tm 32=aI j /\
   st2.mu[R]?=some (.arr (yo (A k) o.length j).flatten)/\∀ i,i<R->st2.mu[i]?=st.mu[i]?) ?_ ?_
  .exact ⟨zS1 e2,zS1 e4,zS1 e5,zS1 bo,zS1 bq,zS1 be,zS1 bg,zSi,zSi,zSi,zSi,zSi,by simp[go_sem,ct,<-hR],fun i hi=>by simp[go_sem];rw[zGa]⟩
  rintro j st2 hj ⟨f2,f4,f5,f10,f11,f23,f24,f12,f13,f30,f31,f32,a9,I⟩;have bv:R<st2.mu.length:=(qe.1 a9).1;have aa:st2.mu[1]?=some (.arr [lI sc.atoms,aI N,s,aI loop]):=by rw[I 1 zOm];exact h1
  by_cases t:j<o.length
  .have w2:=zWk j
   have bi:j<ts.fields.length:=zOm;have bw:(vsT ts).getD j true=ts.fields[j].var:=by rw[q8,zm,qv bi];rfl
   have au:(yo (A k) o.length j).flatten.length=o.length*2:=by rw[zW (pC _ _ _),pB _ _ _ (J k) zOm]
   have a3:∀ s,j<(A s).length:=fun s=>by rw[J];exact t
   have ab:(yo (A k) o.length j).flatten.take (j*2)++aI ((A k)[j]'(a3 k)).ar :: lI ((A k)[j]'(a3 k)).ts :: (yo (A k) o.length j).flatten.drop (j*2+2)=(yo (A k) o.length (j+1)).flatten:=by
    rw[<-qf3 (A k) o.length j (J k) t,ZF _ j _ (pC _ _ _) rfl (by rw[pB _ _ _ (J k) zOm];exact t),yq _ _ _ (by rw[au];simp only[cRel,zq,List.length_nil];omega)];simp
   have bb:∀ c,(st2.mu++[c])[R]?=some (.arr (yo (A k) o.length j).flatten):=fun c=>by rw[qI bv];exact a9
   simp[go_sem,f12,f30,f31,f32,t];by_cases bj:k≠0/\ts.fields[j].var=false
   .obtain ⟨aw,hv⟩:=bj
    have a2:0<k:=zOm;have ad:(A k)[j]'(a3 k)=(A 0)[j]'(a3 0):=by
     rw[aq k j t,aq 0 j t,if_pos ⟨aw,by rw[bw];exact hv⟩,if_neg (fun h=>h.1 rfl)]
    rw[ad]at ab;have bk:∀ c,(st2.mu++[c])[1]?=some (.arr [lI sc.atoms,aI N,s,aI loop]):=fun c=>by rw[zGa];exact aa
    have dc:=a3 0;have T:(((qo k).map A).map fun r=>[lRel r]).flatten[0]?=some (lRel (A 0)):=by
     obtain⟨k',rfl⟩:∃ k',k=k'+1:=⟨k-1,zOm⟩;rw[List.range_succ_eq_map];simp
    have ca:(((qo k).map A).map fun r=>[lRel r]).length=k:=zSp;generalize ae:(((qo k).map A).map fun r=>[lRel r])=rows at *
    have cu:rows[0]?=some [lRel (A 0)]:=by
     rw[<-ae];obtain⟨k',rfl⟩:∃ k',k=k'+1:=⟨k-1,zOm⟩;rw[List.range_succ_eq_map];rfl
    have cb:(rows.map List.length).sum=k:=by
     have:=zW (sz:=1) (xs:=rows) (by rw[<-ae];intro r hr;obtain⟨n,_,rfl⟩:=qk.1 hr;rfl);rw[List.length_flatten]at this;omega
    have cc:rows.flatten.take 1=[lRel (A 0)]:=by
     cases cd:rows.flatten with
     |nil=>rw[cd]at T;cases T
     |cons x l=>rw[cd]at T;cases T;rfl
    simp[go_sem,f5,f11,f13,a2,bi,hv,bk];rcases ho with rfl|⟨c,rfl,cf⟩
    .refine OptK.intro (.ip [lRel (A 0)]) (by simp only[];simp[cu,ca];omega) ?_
     simp[go_sem,t,bb,J,au];refine OptK.intro ((st2.mu++[Cell.arr (cBd o[j])]).set R (.arr (yo (A k) o.length (j+1)).flatten)) (by rw[if_pos zOm,ab]) ?_;simp[go_sem,f32,t,w2]
     try refine⟨t,Keep.mk' ?_⟩
     try refine Keep.mk' ?_
     refine⟨zS1 f2,zS1 f4,zS1 f5,zS1 f10,zS1 f11,zS1 f23,zS1 f24,zS1 f12,zS1 f13,zS1 f30,zS1 f31,zSi,?_,fun i hi=>?_⟩
     .simp only[zi];rw[zo zSo]
     .simp only[zi];rw[zGl,zGa];exact I i hi
    .have dj:=(qe.1 cf).1
     have cg:∀ x,(st2.mu++[x])[c]?=some (.arr rows.flatten):=fun x=>by rw[zGa,I c zOm];exact cf
     simp[go_sem,a2,cg,ca];refine OptK.intro (lRel (A 0)) (by rw[cb,if_pos zOm,cc];rfl) ?_;simp[go_sem,t,bb,J,au];refine OptK.intro ((st2.mu++[Cell.arr (cBd o[j])]).set R (.arr (yo (A k) o.length (j+1)).flatten)) (by rw[if_pos zOm,ab]) ?_;simp[go_sem,f32,t,w2]
     try refine⟨t,Keep.mk' ?_⟩
     try refine Keep.mk' ?_
     refine⟨zS1 f2,zS1 f4,zS1 f5,zS1 f10,zS1 f11,zS1 f23,zS1 f24,zS1 f12,zS1 f13,zS1 f30,zS1 f31,zSi,?_,fun i hi=>?_⟩
     .simp only[zi];rw[zo zSo]
     .simp only[zi];rw[zGl,zGa];exact I i hi
   .have ad:(A k)[j]'(a3 k)=vt C k j o[j]:=by
     rw[aq k j t,bw];by_cases aw:k=0
     .rw [if_neg (fun h=>h.1 aw)]
     .rw [if_neg (fun h=>bj h)]
    rw[ad]at ab;have cv:0<k->ts.fields[j].var=true:=fun aw=>by
     cases hv:ts.fields[j].var with
     |true=>rfl
     |false=>exact absurd ⟨zOm,hv⟩ bj
    generalize hX:st2.mu.length=X at *
    by_cases a2:0<k
    all_goals simp[go_sem,f4,f5,a2,bi,cv,hX]
    all_goals
     refine qh.upK C.length (fun i st3=>st3.tm 2=lBd o/\st3.tm 4=lCh C/\st3.tm 5 = .ip (cTS ts)/\st3.tm 10 = .ptr 0 0/\st3.tm 11 = .ptr 1 0/\st3.tm 23=aI N/\st3.tm 24=aI k/\st3.tm 12=aI k/\st3.tm 13 = .sl R 2 0 o.length/\st3.tm 30=lBd o/\st3.tm 31=aI o.length/\st3.tm 32=aI j /\
      st3.tm 14=aI j/\st3.tm 15 = .ptr X 0/\st3.tm 16 = .ptr (X+1) 0/\st3.tm 62=lCh C/\st3.tm 63=aI C.length/\st3.tm 64=aI i/\st3.mu[X]?=some (.arr (cBd o[j]))/\(∀ i,i<X->st3.mu[i]?=st2.mu[i]?) /\
      ∃ P,st3.mu[X+1]?=some (.arr [aI o[j].lo.ar,P])/\Own st3.mu 1 P ((selT (C.take i) k j).map rI)/\∀ b,qr P=some b->X+1<b) ?_ ?_
     .refine ⟨zS1 f2,zS1 f4,zS1 f5,zS1 f10,zS1 f11,zS1 f23,zS1 f24,zS1 f12,zS1 f13,zS1 f30,zS1 f31,zS1 f32,zSi,zSi,zSi,zSi,zSi,zSi,zS1 hX,fun i hi=>by simp[go_sem];rw[zGa],.lst true [],zS1 hX,.inl (by simp[selT]),by simp[qr]⟩
     rintro i st3 hi ⟨g2,g4,g5,ax,ay,az,b0,af,ag,b1,b2,b3,a4,b4,a5,b5,ah,ai,cj,U,P,b6,aj,a6⟩;by_cases a0:i<C.length
     .have w3:=zWk i
      have a7:=qf2 C k j i a0;have ck:=pA (C.take i) k j;have dd:=List.length_take_le i C;have cl:=(qe.1 b6).1;have bm:∀ c,(st3.mu++[c])[X]?=some (.arr (cBd o[j])):=fun c=>by rw[zGa];exact cj
      have b7:∀ c,(st3.mu++[c])[X+1]?=some (.arr [aI o[j].lo.ar,P]):=fun c=>by rw[qI cl];exact b6
      have cm:qr P≠some (X+1):=fun h=>zW1 (a6 _ h)
      simp[go_sem,af,b5,ah,ai,a0];by_cases ak:C[i].1=(k:Int)
      .by_cases b8:C[i].2.1=(j:Int)
       .rw [if_pos ⟨ak,b8⟩]at a7
        simp[go_sem,a4,a5,b7,ak,b8];refine qA.ownB (e:=3) (sz:=1) (bt:=8) (zv:=aI 0) (xs:=(selT (C.take i) k j).map rI) (ys:=[rI C[i].2.2]) zSi zSi zSi rfl rfl zOm zOm (Own.push aj _) (by simp[qH]) (zU _) (zU [_]) zSo ?_;intro al an a1 a8 b9 cw;have q1:an[X+1]?=some (.arr [aI o[j].lo.ar,P]):=by rw[a8 _ zSo cm];exact b7 _
        have q0:an[X]?=some (.arr (cBd o[j])):=by rw[a8 _ zSo (fun h=>zW1 (a6 _ h))];exact bm _
        have ql:=(qe.1 q1).1;have cn:∀ b,qr al=some b->X+1<b:=fun b h=>by have:=b9 b h;simp at this;omega
        simp[go_sem,a5,ai,a0,q1,w3,Own.one a1,Own.cells a1]
        try refine⟨a0,Keep.mk' ?_⟩
        try refine Keep.mk' ?_
        refine⟨zS1 g2,zS1 g4,zS1 g5,zS1 ax,zS1 ay,zS1 az,zS1 b0,zS1 af,zS1 ag,zS1 b1,zS1 b2,zS1 b3,zS1 a4,zS1 b4,zS1 a5,zS1 b5,zS1 ah,zSi,?_,fun i hi=>?_,al,?_,?_,cn⟩
        .simp only[zi];rw[zGl];exact q0
        .simp only[zi];rw[zGl,a8 i zSo (fun h=>zW1 (a6 _ h)),zGa];exact U i hi
        .simp only[zi];exact zo ql
        .simp only[zi];rw[a7,zd];exact Own.set a1 _ (fun h=>zW1 (cn _ h))
       .rw [if_neg (fun h=>b8 h.2),zL]at a7
        simp[go_sem,a4,ai,a0,ak,b8,w3]
        try refine⟨a0,Keep.mk' ?_⟩
        try refine Keep.mk' ?_
        refine⟨zS1 g2,zS1 g4,zS1 g5,zS1 ax,zS1 ay,zS1 az,zS1 b0,zS1 af,zS1 ag,zS1 b1,zS1 b2,zS1 b3,zS1 a4,zS1 b4,zS1 a5,zS1 b5,zS1 ah,zSi,?_,fun i hi=>?_,P,?_,?_,a6⟩
        .simp only[zi];exact bm _
        .simp only[zi];rw[zGa];exact U i hi
        .simp only[zi];exact b7 _
        .simp only[zi];rw[a7];exact Own.push aj _
      .rw [if_neg (fun h=>ak h.1),zL]at a7
       simp[go_sem,ai,a0,ak,w3]
       try refine⟨a0,Keep.mk' ?_⟩
       try refine Keep.mk' ?_
       refine⟨zS1 g2,zS1 g4,zS1 g5,zS1 ax,zS1 ay,zS1 az,zS1 b0,zS1 af,zS1 ag,zS1 b1,zS1 b2,zS1 b3,zS1 a4,zS1 b4,zS1 a5,zS1 b5,zS1 ah,zSi,?_,fun i hi=>?_,P,?_,?_,a6⟩
       .simp only[zi];exact bm _
       .simp only[zi];rw[zGa];exact U i hi
       .simp only[zi];exact b7 _
       .simp only[zi];rw[a7];exact Own.push aj _
     .have ao:i=C.length:=by omega
      subst ao;rw[qX]at aj;simp[go_sem,ag,a4,b4,a5,ah,ai,cj,b6];have ck:=pA C k j;have cx:=vo o[j].lo ⟨o[j].lo.ar,selT C k j⟩ (zW1 ((hb _ (qt t)).l)) (by show (selT C k j).length<=_;omega);have bc:∀ i,i<X->(cutM (fun i=>!decide (X<=i)) st3.mu 0)[i]?=st2.mu[i]?:=fun i hi=>by
       rw[jI,U i hi];simp only[Nat.zero_add,decide_eq_false (show ¬X<=i by omega),Bool.not_false,if_true];cases st2.mu[i]?<;>rfl
      refine qc.eff0 (qL.freeze (args1:=[eRel o[j].lo,eRel ⟨o[j].lo.ar,selT C k j⟩]) (fun i=>decide (X<=i)) ⟨.inl rfl,.inr ?_,trivial⟩ (qd.toSound _ cx (.zk (zZ _) (.zk (zZ _) .nil)))) ?_ ?_
      .exact Rd.aggs ⟨.hf _ (HF.sc _),Own.rd (Zc aj fun b h=>zW1 (a6 b h)) (zU _).ok fun r hr c hc=>by
        obtain⟨n,_,rfl⟩:=qk.1 hr;simp at hc;subst hc;exact HF.sc _,trivial⟩
      .rintro r m ⟨h,rfl⟩
       cases h;have cp:(cutM (fun i=>!decide (X<=i)) st3.mu 0)[R]?=some (.arr (yo (A k) o.length j).flatten):=by rw[bc R bv];exact a9
       simp[go_sem,cp,t,au];have dk:(cutM (fun i=>!decide (X<=i)) st3.mu 0).length=st3.mu.length:=uq _ _ _;have cl:=(qe.1 b6).1;refine OptK.intro ((cutM (fun i=>!decide (X<=i)) st3.mu 0).set R (.arr (yo (A k) o.length (j+1)).flatten)) (by rw[if_pos zOm];exact congrArg (fun l=>some ((cutM (fun i=>!decide (X<=i)) st3.mu 0).set R (Cell.arr l))) ab) ?_;simp[go_sem,b3,t,w2]
       try refine⟨t,Keep.mk' ?_⟩
       try refine Keep.mk' ?_
       refine⟨zS1 g2,zS1 g4,zS1 g5,zS1 ax,zS1 ay,zS1 az,zS1 b0,zS1 af,zS1 ag,zS1 b1,zS1 b2,zSi,?_,fun i hi=>?_⟩
       .simp only[zi];rw[zo zOm]
       .simp only[zi];rw[zGl,bc i zOm];exact I i hi
      .rintro r m ⟨h,_⟩
       cases h
  .have ao:j=o.length:=by omega
   subst ao;rw[qf4 _ _ (J k)]at a9;have cz:Own st2.mu 2 (.sl R 2 0 o.length) ((A k).map cRel) := .inr ⟨R,zP1 J,a9⟩;simp[go_sem,f11,f13,f31,f32,aa];refine qA.giveB (e:=87) (sz:=1) (bt:=24) (zv := .lst true []) (xs:=((qo k).map A).map fun r=>[lRel r]) [lRel (A k)] R zSi zSi zSi rfl rfl zOm zOm ?_ bu ?_ ?_ ?_ zSo ?_
   .rcases ho with h|⟨b,h,hc⟩
    .exact .inl h
    .exact .inr ⟨b,h,by rw[I b (bu b (by rw[h];rfl))];exact hc⟩
   .exact ⟨Own.rd (Zc cz fun b h=>by cases h;exact qn _) (wT _).ok fun r hr c hc=>by
     obtain⟨n,_,rfl⟩:=qk.1 hr;exact JP n c hc,trivial⟩
   .intro r hr
    obtain⟨n,_,rfl⟩:=qk.1 hr;exact⟨rfl,rfl⟩
   .intro r hr
    simp at hr;subst hr;exact⟨rfl,rfl⟩
   intro al an a1 a8 b9 cw dm;have g1:an[1]?=some (.arr [lI sc.atoms,aI N,s,aI loop]):=by rw[a8 1 zOm zOm (fun h=>zW1 (bh 1 h))];exact aa
   have g0:an[0]?=some (.arr [.lst true [],aI 0,.lst true [],aI 0]):=by rw[a8 0 zOm zOm (fun h=>zW1 (bh 0 h)),I 0 zOm];exact h0
   have l1:=(qe.1 g1).1;simp[go_sem,f11,f24,g1,w1,Own.one a1,Own.cells a1]
   try refine⟨br,Keep.mk' ?_⟩
   try refine Keep.mk' ?_
   refine⟨zS1 f2,zS1 f4,zS1 f5,zS1 f10,zS1 f11,zS1 f23,zSi,al,zS1 g0,zS1 l1,?_,fun b h=>zW1 (b9 b h)⟩;rw[List.range_succ,zd,zd];simpa[go_sem] using Own.set a1 (.arr [lI sc.atoms,aI N,al,aI loop]) (fun h=>zW1 (b9 1 h))
 .have ao:k=N:=by omega
  subst ao;have da:s.one=true:=Own.one ho;have dn:s.cells=[s]:=Own.cells ho;have cq:∀ c,(st.mu.set 0 c)[0]?=some c:=fun c=>zo cr
  simp[go_sem,bo,bq,be,bg,h0,h1,da,cq];have db:=Own.set ho (i:=0) (.arr [lI sc.atoms,aI k,s,aI loop]) (fun h=>zW1 (bh 0 h));refine Rd.aggs ⟨.hf _ (zf _),.hf _ (HF.sc _),?_,.hf _ (HF.sc _),trivial⟩;exact Own.rd db (fun r hr=>by
   obtain⟨n,_,rfl⟩:=qk.1 hr;rfl) fun r hr c hc=>by
   obtain⟨n,_,rfl⟩:=qk.1 hr;simp at hc;subst hc;exact Z0 n
end GU
namespace GY
open YF P1 E3 GF GG GH GS GU
section
variable {C:Type}
def subs:List C->List C->List (List C)
 |c,[]=>[c]
 |c,a :: r=>subs c r++subs (c++[a]) r
theorem Vh:∀(r c:List C),(subs c r).length=2 ^ r.length
 | [],c=>rfl
 |a :: r,c=>by rw[subs,qU,Vh r,Vh r,zq,Nat.pow_succ];omega
theorem Yj:∀(r c x:List C),x∈subs c r↔∃ y,y.Sublist r/\x=c++y
 | [],c,x=>by simp[subs]
 |a :: r,c,x=>by
  rw[subs,qC,Yj r,Yj r];constructor
  .rintro (⟨y,h,rfl⟩|⟨y,h,rfl⟩)
   .exact ⟨y,h.cons _,rfl⟩
   .exact ⟨a :: y,h.cons_cons _,zSp⟩
  .rintro ⟨y,h,rfl⟩
   cases h with
   |cons _ h=>exact .inl ⟨y,h,rfl⟩
   |cons_cons _ h=>exact .inr ⟨_,h,zSp⟩
theorem Zf:∀(r c:List Ch),subL (c.map rC) (r.map rC)=(subs c r).map (List.map rC)
 | [],c=>rfl
 |a :: r,c=>by
  rw[yS,subL,subs,zd,Zf r c,show c.map rC++[rC a]=(c++[a]).map rC by simp,Zf r]
def deI:AV->Int
 | .sc (.int _ n)=>n
 |_=>0
def deC:List AV->Ch
 | [a,b,c]=>(deI a,deI b,deI c)
 |_=>(0,0,0)
theorem pE(c:List Ch):(c.map rC).map deC=c:=by
 rw[List.map_map];exact(List.map_congr_left fun x _=>rfl).trans (List.map_id c)
def uc(sc:Sc)(g:List Bool)(i:List Bd)(j:List Ch)(N:Nat):List Md:=(qo N).flatMap fun k:Nat=>(subs [] j).map fun c=>yy sc g i c N (k:Int)
theorem pF(sc:Sc)(g:List Bool)(i:List Bd)(j:List Ch)(N:Nat):jD (fun k c=>yy sc g i (c.map deC) N (k:Int)) (j.map rC) N=uc sc g i j N:=by
 unfold jD uc;congr 1;funext s;rw[show ([]:List (List AV))=([]:List Ch).map rC from rfl,Zf,List.map_map];exact List.map_congr_left fun c _=>by simp only[Function.comp_apply,pE]
theorem pG(sc:Sc)(i:List Bool)(j:List Bd)(g:List Ch)(N:Nat):(uc sc i j g N).length=N*2 ^ g.length:=by
 rw[<-pF,Vc,show ([]:List (List AV))=([]:List Ch).map rC from rfl,Zf,zJ,Vh]
theorem WJ{sc:Sc}{j:List Bool}{l:List Bd}{o:List Ch}{N:Nat}{m:Md}:m∈uc sc j l o N↔∃(k:Nat) (c:List Ch),k<N/\c.Sublist o/\m=yy sc j l c N k:=by
 simp only[uc,Qe,yj,qk];constructor
 .rintro ⟨k,g,c,i,rfl⟩
  obtain⟨y,p,rfl⟩:=(Yj _ _ _).1 i;exact⟨k,_,g,p,rfl⟩
 .rintro ⟨k,c,g,i,rfl⟩
  exact⟨k,g,c,(Yj _ _ _).2 ⟨c,i,rfl⟩,rfl⟩
theorem qf6(l:List Ch):uL (l.map rC):=fun r i=>by
 obtain⟨n,_,rfl⟩:=qk.1 i;exact⟨rfl,rfl,fun c g=>by simp at g;rcases g with rfl|rfl|rfl<;>exact HF.sc _⟩
theorem pH(ts:TS)(sc:Sc)(g:List Bd)(N:Nat)(l:sc.steps=N)(o:N<=4)(P:g.length<=1000)(U:∀ x,x∈g->wt x)(hi:∀ x,x∈g->pD x)(i:g.length<=ts.fields.length)(p:(qy g 0).length<=100000)
  (r:(chs (vsT ts) (qy g 0) N).length<=14) (t:N*2 ^ (chs (vsT ts) (qy g 0) N).length<=16384)
  (h1:qd qb 38 [eTS ts,eSc sc] (aB true)) (h2:qd qb 39 [eTS ts,eSc sc,lBd g] (aB true)) :
  qd qb 13 [eTS ts,eSc sc,lBd g] (.tup [lMd (uc sc (vsT ts) g (chs (vsT ts) (qy g 0) N) N),aI 0]):=by
 rw[<-pF];generalize C:chs (vsT ts) (qy g 0) N=j at *
 have R:=qf1 ts sc g N l o P U i p;rw[C]at R;have I:(subL [] (j.map rC)).length=2 ^ j.length:=by
  rw[show ([]:List (List AV))=([]:List Ch).map rC from rfl,Zf,zJ,Vh]
 refine qfG ts sc g (j.map rC) _ N l o (qf6 j) (zUs r) (by rw[I];omega) (zUs t) h1 h2 R fun k hk c T=>?_
 rw[show ([]:List (List AV))=([]:List Ch).map rC from rfl,Zf]at T;obtain⟨c',J,rfl⟩:=qk.1 T;obtain⟨y,hy,rfl⟩:=(Yj _ _ _).1 J;rw[pE];exact qf5 ts sc g _ k N l o P hi i (by have:=hy.length_le;simp;omega)
end
end GY
namespace GZ
open E1 GB GF GP GU GY
theorem pI(g:List Ch)(s f:Nat)(t:Int):t∈selT g s f↔((s:Int),(f:Int),t)∈g:=by
 simp only[selT,qk,jg,qq,decide_eq_true_eq];constructor
 .rintro ⟨⟨a,b,c⟩,⟨h,i,j⟩,rfl⟩
  simp only at i j;subst i j;exact h
 .intro h
  exact⟨_,⟨h,rfl,rfl⟩,rfl⟩
theorem WL:∀(g:List Bd) (k:Nat) (p t:Int),(p,t)∈qy g k↔∃(f:Nat) (h:f<g.length),p=((k+f:Nat):Int)/\t∈vr g[f]
 | [],k,p,t=>by simp[qy]
 |b :: g,k,p,t=>by
  simp only[qy,qC,yh,qk,vf,WL g (k+1)];constructor
  .rintro (⟨a,j,rfl,rfl⟩|⟨f,hf,rfl,i⟩)
   .exact ⟨0,zSp,zSp,zUs j⟩
   .exact ⟨f+1,by simpa using hf,zOm,zUs i⟩
  .rintro ⟨f,hf,rfl,i⟩
   cases f with
   |zero=>exact .inl ⟨t,zUs i,zSp,rfl⟩
   |succ f=>exact .inr ⟨f,by simpa using hf,zOm,zUs i⟩
theorem pJ(r:List Bool)(g:List Bd)(N s f:Nat)(t:Int):((s:Int),(f:Int),t)∈chs r (qy g 0) N↔s<N/\(s=0\/r.getD f true=true)/\∃ h:f<g.length,t∈vr g[f]:=by
 simp only[chs,Qe,yj,chA,qk,jg,vF,decide_eq_true_eq,vf,Prod.exists];constructor
 .rintro ⟨C,i,p,U,⟨I,j⟩,h1,rfl,rfl⟩
  obtain⟨J,l,e,o⟩:=(WL _ _ _ _).1 I;have P:C=s:=zOm;have R:J=f:=zOm;subst P R;exact⟨i,zUs j,l,o⟩
 .rintro ⟨T,j,hf,o⟩
  exact⟨s,T,f,t,⟨(WL _ _ _ _).2 ⟨f,hf,zSp,o⟩,zUs j⟩,rfl,rfl,rfl⟩
theorem pK(g:List Bool)(lo:Rl)(t:Int)(i:t∈lo.ts):∀(ts:List Int) (q:List Int×Nat),t∈q.1\/t∈ts->t∈(ts.foldl (jr g lo) q).1
 | [],q,h=>by
  rcases h with h|h
  .exact h
  .exact absurd h qD
 |a :: ts,q,h=>by
  rw[List.foldl_cons];refine pK g lo t i ts _ ?_;rcases h with h|h
  .refine .inl ?_
   unfold jr;split<;>exact yA _ h
  .rcases qu.1 h with rfl|h
   .refine .inl ?_
    unfold jr;rw[if_pos i];exact List.mem_append_right _ (qN.2 rfl)
   .exact .inr h
theorem pL(g:List Bool):∀(i:List Bd) (q:List Rl×Nat),∃ l,(i.foldl (insB g) q).1=q.1++l
 | [],q=>⟨[],zSp⟩
 |b :: i,q=>by
  obtain⟨l,h⟩:=pL g i (insB g q b);exact⟨_,by rw[List.foldl_cons,h];simp only[insB,zc];rfl⟩
theorem qf7(g:List Bd)(i:List Bool)(f:Nat)(h:f<g.length):∃ n,(zS g i)[f]?=some ⟨g[f].up.ar,(insF i g[f].lo g[f].up.ts n).1⟩:=by
 have e:g=g.take (f+1)++g.drop (f+1):=(uZ ..).symm;have p:yx g i=(g.drop (f+1)).foldl (insB i) (yx (g.take (f+1)) i):=by
  rw[yx,yx,<-Qd,uZ]
 obtain⟨l,j⟩:=pL i (g.drop (f+1)) (yx (g.take (f+1)) i);rw[<-p,pu g i f h]at j;have o:(zS (g.take f) i).length=f:=by rw[w7];simp;omega
 refine⟨(yx (g.take f) i).2,?_⟩;unfold zS at o⊢;rw[j,insB,zc,qT zOm,o];simp
theorem pM(b:Bd)(t:Int):t∈vr b↔t∈b.up.ts/\¬t∈b.lo.ts:=by simp[vr]
theorem qf8(g:List Bd)(i:List Bool)(f:Nat)(h:f<g.length)(r:g[f].lo.ar=g[f].up.ar)(C:sorted g[f].up.ts)(j:∀ t,t∈g[f].lo.ts->t∈g[f].up.ts)(ts:List Int)
  (l:∀ t,t∈ts↔t∈vr g[f]/\t∈((zS g i).getD f noR).ts):unR g[f].lo ⟨g[f].lo.ar,ts⟩=(zS g i).getD f noR:=by
 obtain⟨n,I⟩:=qf7 g i f h;rw[q8,I]at l⊢;simp only[Option.getD_some]at l⊢;have o:(insF i g[f].lo g[f].up.ts n).1.Sublist g[f].up.ts:=by
  have:=Vf i g[f].lo g[f].up.ts ([],n) [] (List.Sublist.refl _);simpa[insF] using this
 have J:∀ t,t∈g[f].lo.ts->t∈(insF i g[f].lo g[f].up.ts n).1:=fun t h=>pK i g[f].lo t h g[f].up.ts ([],n) (.inr (j t h))
 obtain⟨P,R⟩:=JY (g[f].lo.ts++ts);unfold unR;rw[r];congr 1;refine kD P (C.sublist o) fun x=>?_
 rw[R,qC,l x,pM];constructor
 .rintro (h|⟨_,h⟩)
  .exact J x h
  .exact h
 .intro h
  by_cases p:x∈g[f].lo.ts
  .exact .inl p
  .exact .inr ⟨⟨o.subset h,p⟩,h⟩
theorem qf9(sc:Sc)(l:List Bool)(g:List Bd)(i:List (List Bool))(N k:Nat)(hN:sc.steps=N)(hk:k<N)
  (ha:∀ b,b∈g->b.lo.ar=b.up.ar) (hs:∀ b,b∈g->sorted b.up.ts) (p:∀ b,b∈g->∀ t,t∈b.lo.ts->t∈b.up.ts) :
  anyM sc l g i k∈uc sc l g (chs l (qy g 0) N) N:=by
 refine WJ.2 ⟨k,(chs l (qy g 0) N).filter fun c=>decide (c.2.2∈((zS g (i.getD c.1.toNat [])).getD c.2.1.toNat noR).ts),hk,List.filter_sublist,?_⟩;unfold anyM yy;have I:sc.steps.toNat=N:=zOm;rw[I];congr 1;refine List.map_congr_left fun s o=>?_
 rw[yj]at o;have key:∀(s f:Nat) (hf:f<g.length),s<N->(s=0\/l.getD f true=true) ->
   vt ((chs l (qy g 0) N).filter fun c=>decide (c.2.2∈((zS g (i.getD c.1.toNat [])).getD c.2.1.toNat noR).ts)) s f g[f]=(zS g (i.getD s [])).getD f noR:=fun s f hf J hc=>by
  have P:=qt hf;refine qf8 g (i.getD s []) f hf (ha _ P) (hs _ P) (p _ P) _ fun t=>?_
  rw[pI,jg,pJ];simp only[decide_eq_true_eq,Int.toNat_natCast];constructor
  .rintro ⟨⟨_,_,_,h⟩,C⟩;exact⟨h,C⟩
  .rintro ⟨h,C⟩;exact⟨⟨J,hc,hf,h⟩,C⟩
 refine List.ext_getElem (by rw[pw,Ze]) fun f T C=>?_
 have hf:f<g.length:=by rw[pw]at T;exact T
 rw[Yi _ _ _ _ _ hf];have U:∀ j,f<(zS g j).length:=fun j=>by rw[w7];exact hf
 have hg:∀ j,(zS g j)[f]'(U j)=(zS g j).getD f noR:=fun j=>by rw[q8,qv (U j)];rfl
 by_cases R:s=0
 .subst R
  rw[if_neg zSp,key 0 f hf o (.inl rfl)];simp only[anyS,if_true];exact hg _
 .simp only[anyS,if_neg R,List.getElem_mapIdx]
  by_cases r:l.getD f true=true
  .rw [if_pos r,if_neg (fun e=>by rw[r]at e;exact absurd e.2 zSp),key s f hf o (.inr r)]
   exact hg _
  .rw [if_neg r,if_pos ⟨R,zUs r⟩,key 0 f hf zOm (.inl rfl)]
end GZ
namespace GN
open E3
instance:DecidableEq Sc:=fun a b=>decidable_of_iff (a.atoms=b.atoms/\a.steps=b.steps) (by
 obtain⟨a1,a2⟩:=a;obtain⟨b1,b2⟩:=b;simp)
instance:DecidableEq Md:=fun a b=>decidable_of_iff (a.sc=b.sc/\a.states=b.states/\a.loop=b.loop) (by
 obtain⟨a1,a2,a3⟩:=a;obtain⟨b1,b2,b3⟩:=b;simp)
end GN
namespace GV
open E3 F1 GH
theorem qgA(l:List Md):HF (lMd l):=HF.lst fun r i c g=>by
 obtain⟨n,_,rfl⟩:=qk.1 i;simp at g;rcases g with rfl|rfl|rfl|rfl<;>first|exact HF.sc _|exact zf _|exact Z7 _
def mdZ:Md:=⟨⟨[],0⟩,[],0⟩
theorem qgB(mu:Mu):Rd mu (.agg [.lst true [],aI 0,.lst true [],aI 0]) (eMd mdZ):=
 Rd.aggs ⟨.wk _ true _ (.hf _ (HF.lst fun r g=>by simp at g)),.hf _ (HF.sc _),.wk _ true _ (.hf _ (HF.lst fun r g=>by simp at g)),.hf _ (HF.sc _),trivial⟩
end GV
namespace GW
open YF P1 E1 E4 E9 EL EO ER EW GA GF G5 GQ GR
theorem pN:∀(l:List Int) (x i:Int),0<=x->v7 l x i = -1\/∃(j:Nat) (h:j<l.length),v7 l x i=i+j/\0<=x-sumI (l.take j)/\x-sumI (l.take j)<l[j]
 | [],x,i,_ => .inl rfl
 |a :: l,x,i,h=>by
  rw[v7];by_cases g:x<a
  .exact .inr ⟨0,zSp,zP1 g,by simp[sumI];exact h,by simp[sumI];exact g⟩
  .rw [if_neg g]
   rcases pN l (x-a) (i+1) zOm with e|⟨j,o,p,r,t⟩
   .exact .inl e
   .refine .inr ⟨j+1,zUs o,by rw[p];push_cast;omega,?_,?_⟩
    .simp only[List.take_succ_cons,sumI,List.foldr_cons]at r⊢;omega
    .simp only[List.take_succ_cons,sumI,List.foldr_cons,List.getElem_cons_succ]at t⊢;omega
def Yk(n:Int)(ds:List Int)(p:Int):Int:=ds.foldl (fun p d=>p*n+d) p
theorem pO(n:Int)(i:0<n):∀(k:Nat) (r:Int),0<=r->r<n ^ k->Yk n (digs n k r) 0=r
 | 0,r,j,g=>by
  have:r=0:=by rw[Int.pow_zero]at g;omega
  subst this;rfl
 |k+1,r,j,g=>by
  have l:r / n<n ^ k:=Int.ediv_lt_of_lt_mul i (by rw[<-Int.pow_succ];exact g);rw[digs,Yk,Qd];show Yk n (digs n k (r / n)) 0*n+r % n=r;rw[pO n i k (r / n) (Int.ediv_nonneg j zOm) l,Int.mul_comm];exact Int.mul_ediv_add_emod r n
theorem pP(sc:Sc)(J:∀ a,a∈sc.atoms->0<=a):∀(l ds:List Int) (p:Int),ds.length=l.length->(∀ s,s∈l->0<=s)->(∀(i:Nat) (h:i<ds.length) (h2:i<l.length),0<=ds[i]/\vp sc ds[i]=l[i])->Yk (sumI sc.atoms) ds p∈tupR sc l p
 | [],[],p,_,_,_=>by simp[tupR,Yk]
 |s :: l,d :: ds,p,o,I,h=>by
  rw[tupR,Qe];obtain⟨r,g⟩:=h 0 zSp zSp;simp only[List.getElem_cons_zero]at r g;have P:=I s zSp;rcases pN sc.atoms d 0 r with e|⟨j,R,T,e2,e3⟩
  .rw [vp,e]at g;omega
  .rw [vp,T]at g
   have t:s.toNat=j:=zOm;have U:gI sc.atoms s.toNat=sc.atoms[j]:=by rw[t];exact vV R
   refine⟨(d-sumI (sc.atoms.take j)).toNat,yj.2 (by rw[U];omega),?_⟩;have:=pP sc J l ds (p*sumI sc.atoms+d) (zUs o) (fun s hs=>I s (zP1 hs)) (fun i hi C=>h (i+1) (zUs hi) (zUs C));rw[t,show sumI (sc.atoms.take j)+((d-sumI (sc.atoms.take j)).toNat:Int)=d by omega];exact this
 | [],_ :: _,_,o,_,_=>by simp at o
 |_ :: _,[],_,o,_,_=>by simp at o
theorem qgC(sc:Sc)(g:GSc sc)(C:0<sumI sc.atoms)(l:List Int)(R:l.length<=3)(T:∀ s,s∈l->0<=s/\s<sc.atoms.length):∀ x,x∈zQ sc l->x∈tupR sc l 0:=fun x I=>by
 have j:=g.sum sc.atoms.length;rw[qX]at j;have U:=Za (sumI sc.atoms) j.1 j.2 l.length R;unfold zQ jq at I;obtain⟨r,hr,rfl⟩:=qk.1 I;obtain⟨h1,h2⟩:=jg.1 hr;rw[yj]at h1;have p:(r:Int)<sumI sc.atoms ^ l.length:=zOm;have hf:=pO (sumI sc.atoms) C l.length r zOm p;have J:=pP sc (fun a ha=>(g.2 a ha).1) l (digs (sumI sc.atoms) l.length r) 0 (Zb _ _ _) (fun s t=>(T s t).1) (fun i P o=>?_)
 .rw [hf]at J;exact J
 .have hd:=Wu (sumI sc.atoms) C j.2 l.length r _ (qt P)
  refine⟨hd.1,?_⟩;have:=UQ.1 h2 i o;rw[vV P,vV o]at this;simpa using this
theorem pQ(ts:TS)(sc:Sc)(F:Fit9 ts sc)(t:yn sc=true):qd qb 38 [eTS ts,eSc sc] (aB true):=by
 have P:=F.g;simp only[yn,qq,decide_eq_true_eq,qJ]at t;obtain⟨h1,R,T,U,h5⟩:=t;have p:=F.ns;refine qSV call38 func38 rfl ?_;have n1:¬(4:Int)<sc.atoms.length:=zOm;simp[go_sem,n1,p];have C:=fun a b c:Int=>Z9 a b c
 refine qc.pure (C sc.steps 1 4) (wk3I _ _ _) ?_;simp[go_sem,R,T];refine qh.upK sc.atoms.length (fun k st=>st.tm 2 = .ip (cTS ts)/\st.tm 3 = .ip [lI sc.atoms,aI sc.steps]/\st.tm 27=lI sc.atoms/\st.tm 28=aI sc.atoms.length/\st.tm 29=aI k) ?_ ?_
 .exact ⟨zSi,zSi,zSi,zSi,zSi⟩
 rintro k st hk ⟨e2,I,o,j,l⟩;by_cases i:k<sc.atoms.length
 .have w1:=zWk k
  have J:=U _ (qt i);simp[go_sem,o,j,l,i];refine qc.pure (C sc.atoms[k] 1 5) (wk3I _ _ _) ?_;simp[go_sem,l,i,J.1,J.2,w1]
  try refine⟨i,Keep.mk' ?_⟩
  try refine Keep.mk' ?_
  exact⟨zS1 e2,zS1 I,zS1 o,zS1 j,zSi⟩
 .have r:k=sc.atoms.length:=by omega
  simp[go_sem,I,j,l,r];refine qc.pure (J0 sc P) (.zk (zx sc) .nil) ?_;simp[go_sem,h5];exact .zsc _
theorem qgD(n:Int)(r:Rl)(U:0<=n)(a0:n<=12)(k:Nat)(hk:r.ar=k)(k1:1<=k)(k3:k<=3)(hl:r.ts.length<=1000000000)(hs:r.ts.Pairwise (·<·))(P:∀ t,t∈r.ts->0<=t/\t<n ^ k):qd qb 59 [aI n,eRel r] (aB true):=by
 have C:=qdV n U zOm k k3;refine qSV call59 func59 rfl ?_;have n1:¬n<0:=zOm;have n2:¬ 12<n:=zOm;have n3:¬r.ar<1:=zOm;have n4:¬ 3<r.ar:=zOm;simp[go_sem,n1,n2,n3,n4];refine qh.upK r.ts.length (fun j st=>st.tm 0=aI n/\st.tm 3 = .ip [aI r.ar,lI r.ts]/\st.tm 25=lI r.ts/\st.tm 26=aI r.ts.length/\st.tm 27=aI j/\∃ last:Int,st.tm 5=aI last/\∀(i:Nat) (h:i<r.ts.length),j<=i->last<r.ts[i]) ?_ ?_
 .exact ⟨zSi,zSi,zSi,zSi,zSi,-1,zSi,fun i h _=>zW1 ((P _ (qt h)).1)⟩
 rintro j st hj ⟨R,T,p,l,o,last,e5,I⟩;by_cases g:j<r.ts.length
 .have w1:=zWk j
  have a1:=I j g (qn _);have a2:=P _ (qt g);have m1:¬r.ts[j]<=last:=zOm;have m2:¬n ^ k<=r.ts[j]:=zOm;simp[go_sem,R,T,p,l,o,e5,g,m1];refine qc.pure C (by rw[hk];exact .zs (.zs .nil)) ?_;simp[go_sem,o,g,m2,w1]
  try refine⟨g,Keep.mk' ?_⟩
  try refine Keep.mk' ?_
  exact⟨zS1 R,zS1 T,zS1 p,zS1 l,zSi,r.ts[j],zSi,fun i h hi=>List.pairwise_iff_getElem.1 hs j i g h zOm⟩
 .have J:j=r.ts.length:=by omega
  simp[go_sem,l,o,J];exact .zsc _
structure BndV (ts:TS) (sc:Sc) (bs:List Bd):Prop where
 len:bs.length=ts.fields.length
 lo:∀(i:Nat) (h:i<bs.length) (h2:i<ts.fields.length),bs[i].lo.ar=ts.fields[i].sorts.length/\bs[i].up.ar=ts.fields[i].sorts.length
 so:∀ b,b∈bs->b.lo.ts.Pairwise (·<·)/\b.up.ts.Pairwise (·<·)
 sub:∀ b,b∈bs->∀ t,t∈b.lo.ts->t∈b.up.ts
 full:∀(i:Nat) (h:i<bs.length) (h2:i<ts.fields.length),∀ t,t∈bs[i].up.ts->t∈zQ sc ts.fields[i].sorts
theorem pR{a b:Rl}(h:∀ t,t∈a.ts->t∈b.ts):(diR a b).ts=[]:=by
 simp only[diR,List.filter_eq_nil_iff];intro t g;simp[h t g]
theorem qgE(sc:Sc)(l:List Int):∀ t,t∈zQ sc l->0<=t/\t<(sumI sc.atoms ^ l.length).toNat:=fun t g=>qfO _ _ _ t g
theorem pS(sc:Sc)(g:GSc sc)(l:List Int)(j:l.length<=3):(zQ sc l).length<=8000:=by
 have i:=g.sum sc.atoms.length;rw[qX]at i;have o:=Za (sumI sc.atoms) i.1 i.2 l.length j;refine zV (Wv _ _ _) ?_;omega
theorem Zg{a b:List Int}(g:a.Pairwise (·<·))(h:∀ t,t∈a->t∈b):a.length<=b.length:=jR (qeO g) h
theorem relT(ts:TS)(sc:Sc)(F:Fit9 ts sc)(l:sumI sc.atoms<=12)(f:Fld)(hf:f∈ts.fields)(r:Rl)(o:r.ar=f.sorts.length)(C:r.ts.Pairwise (·<·))(i:∀ t,t∈r.ts->t∈zQ sc f.sorts):qd qb 59 [aI (sumI sc.atoms),eRel r] (aB true)/\r.ts.length<=8000:=by
 have R:=Zg C i;have I:=pS sc F.g f.sorts (F.f1 f hf).2;have T:=F.p;have j:=F.g.sum sc.atoms.length;rw[qX]at j;have J:=Za (sumI sc.atoms) j.1 j.2 f.sorts.length (F.f1 f hf).2;exact⟨qgD _ r zOm l f.sorts.length o (F.f1 f hf).1 (F.f1 f hf).2 zOm C fun t P=>zW1 (qgE sc f.sorts t (i t P)),zOm⟩
theorem pT(ts:TS)(sc:Sc)(F:Fit9 ts sc)(f:Fld)(hf:f∈ts.fields)(r:Rl)(J:r.ts.length<=8000)(i:∀ t,t∈r.ts->t∈zQ sc f.sorts):qd qb 55 [eRel r,eRel ⟨f.sorts.length,tupR sc f.sorts 0⟩] (aB true):=by
 have j:=U9 sc F.g (fun a l=>(F.g.2 a l).1) f.sorts (F.fs f hf) 0;have o:=(F.f1 f hf).2;have C:(20:Nat) ^ f.sorts.length<=8000:=by
  rcases (show f.sorts.length=0\/f.sorts.length=1\/f.sorts.length=2\/f.sorts.length=3 by omega) with e|e|e|e<;>rw[e]<;>decide
 have h:=inU r ⟨f.sorts.length,tupR sc f.sorts 0⟩ zOm (by show (tupR sc f.sorts 0).length<=_;omega)
 rwa[pR fun t I=>qgC sc F.g F.p f.sorts o (F.fs f hf) t (i t I),decide_eq_true rfl]at h
theorem qgF(fs:List Fld)(p:List Bd)(T:p.length=fs.length)(hn:fs.length<=1000000)(r:AV)(j:us)(caps:List AV)(t:r = .fn (.func j) [] caps)(U:HF r)
  (h:∀(i:Nat) (h1:i<fs.length) (h2:i<p.length),∃ args',WKs ([JO fs[i],eBd p[i]]++caps) args'/\qd qb j args' (aB true)) :
  qd qb 76 [.lst false (fs.map jn),lBd p,r] (aB true):=by
 subst t;refine qSV call76 func76 rfl ?_;simp[go_sem,T];refine qh.upK fs.length (fun k st=>st.tm 0 = .lst false (fs.map jn)/\st.tm 1=lBd p/\st.tm 2 = .fn (.func j) [] caps/\st.tm 14=aI fs.length/\st.tm 15=aI k) ?_ ?_
 .exact ⟨zSi,zSi,zSi,zSi,zSi⟩
 rintro k st hk ⟨J,P,R,l,o⟩;by_cases g:k<fs.length
 .have w1:=zWk k
  obtain⟨args',hw,hc⟩:=h k g zOm;have C:k<p.length:=zOm;simp[go_sem,l,o,g];refine qg.intro zKr ?_;simp[go_sem,J,P,R,g,C];refine qc.clo hc (zUs hw) ?_;simp[go_sem,o,g,w1]
  try refine⟨g,Keep.mk' ?_⟩
  try refine Keep.mk' ?_
  exact⟨zS1 J,zS1 P,zS1 R,zS1 l,zSi⟩
 .have I:k=fs.length:=by omega
  simp[go_sem,l,o,I];exact .zsc _
theorem qgG(ts:TS)(sc:Sc)(l:List Bd)(F:Fit9 ts sc)(a0:sumI sc.atoms<=12)(B:BndV ts sc l):qd qb 39 [eTS ts,eSc sc,lBd l] (aB true):=by
 have a8:=F.nf;have a4:∀(i:Nat) (T:i<ts.fields.length) (U:i<l.length),qd qb 77 [JO ts.fields[i],eBd l[i],.ip [aI (sumI sc.atoms)],.ip [lI sc.atoms,aI sc.steps]] (aB true):=fun i T U=>by
  obtain⟨a1,a2⟩:=B.lo i U T;have o:=qt T;have J:=qt U;obtain⟨s1,s2⟩:=B.so _ J;have P:=B.full i U T;have a5:∀ t,t∈l[i].lo.ts->t∈zQ sc ts.fields[i].sorts:=fun t ht=>P t (B.sub _ J t ht)
  obtain⟨v1,l1⟩:=relT ts sc F a0 _ o l[i].lo a1 s1 a5;obtain⟨v2,l2⟩:=relT ts sc F a0 _ o l[i].up a2 s2 P;have i1:=inU l[i].lo l[i].up zOm zOm;rw[pR (B.sub _ J),decide_eq_true rfl]at i1;have i2:=pT ts sc F _ o l[i].up l2 P;have a6:=EW.Ya sc F.g (fun a ha=>(F.g.2 a ha).1) ts.fields[i].sorts (F.fs _ o) (F.f1 _ o).1 (F.f1 _ o).2;have w2:∀ r:Rl,WKs [aI (sumI sc.atoms),eRel r] [aI (sumI sc.atoms),eRel r]:=fun r => .zs (.zk (zZ _) .nil)
  have wr:∀(r:Rl) (x:Int),r.ar=x->WK (.agg [aI x,lI r.ts]) (eRel r):=fun r x e=>by subst e;exact .hf (zZ r)
  have wa:=wr l[i].lo _ a1;have wb:=wr l[i].up _ a2;refine qSV call77 func77 rfl ?_;simp[go_sem,a1,a2];refine qc.pure v1 (.zs (.cons wa .nil)) ?_;simp[go_sem,a2];refine qc.zP v2 (.zs (.cons wb .nil)) ?_;refine qg.intro zKr ?_;simp[go_sem,a1,a2];refine qc.pure i1 (.cons wa (.cons wb .nil)) ?_;simp[go_sem,a2];refine qc.zP a6 (.zk (zx _) (.zk (zf _) .nil)) ?_;refine qc.zP i2 (.cons wb (.zk (zZ _) .nil)) ?_;exact .zsc _
 have j:HF (.ip [lI sc.atoms,aI sc.steps]):=HF.ip fun c p=>by simp at p;rcases p with rfl|rfl;exact zf _;exact HF.sc _
 have I:HF (.ip [aI (sumI sc.atoms)]):=HF.ip fun c p=>by simp at p;subst p;exact HF.sc _
 have a3:HF (.fn (.func 77) [] [.ip [aI (sumI sc.atoms)],.ip [lI sc.atoms,aI sc.steps]]):=HF.fn (fun c p=>by simp at p) (fun c p=>by simp at p;rcases p with rfl|rfl;exact I;exact j);have C:=qgF ts.fields l B.len zOm _ _ _ rfl a3 fun i T U=>⟨_,by simpa using WKs.zk (kh _) (.zk (Wl _) (.zk I (.zk j .nil))),a4 i T U⟩
 refine qSU call39 func39 rfl ?_;refine qc.zP (J0 sc F.g) (.zk (zx sc) .nil) ?_;refine qc.eff0 (qL.freeze (args1:=[.lst false (ts.fields.map jn),lBd l,.fn (.func 77) [] [.ip [aI (sumI sc.atoms)],.ip [lI sc.atoms,aI sc.steps]]]) (fun _=>true) ⟨.inl rfl,.inl rfl,.inr ?_,trivial⟩ (qd.toSound _ C (.zk (U1 ts.fields) (.zk (j0 _) (.zk a3 .nil))))) ?_ ?_
 .refine .fn _ _ _ _ _ rfl rfl (fun k x y R hy=>by simp at R) (fun k x y R hy=>?_)
  match k with
  | 0=>simp at R hy;subst R;subst hy;exact ER.Rd.ip1 (x:=aI (sumI sc.atoms)) (by simp[cutM]) (.hf _ (HF.sc _))
  | 1=>simp at R hy;subst R;subst hy;exact .hf _ j
  |k+2=>simp at R
 .rintro r m ⟨h,rfl⟩
  cases h;simp[go_sem];exact .zsc _
 .rintro r m ⟨h,_⟩
  cases h
end GW
namespace GX
open YF P1 E3 E4 EO ER G5 GQ GR GW
theorem qgH(xs:List Int)(l:AV)(p:Int->Bool)(hf:EO.FnOk qb l (fun x=>aI x) (·∈xs) (fun x=>aB (p x)))(R:xs.length<=1000000000):qd qb 154 [lI xs,l] (aI (jO p xs 0)):=by
 refine qSU call154 func154 rfl ?_;refine qh.up xs.length (fun k st=>st.tm 0=lI xs/\st.tm 1=l/\st.tm 7=aI xs.length/\st.tm 8=aI k/\st.mu=[]/\jO p (xs.drop k) k=jO p xs 0) ?_ ?_
 .simp [go_sem]
 rintro k st T ⟨C,I,o,r,J,i⟩;by_cases g:k<xs.length
 .rw [kJ _ _ _ _ g]at i
  simp[go_sem,C,I,o,r,J,g];refine FnOk.call (enc:=fun x=>aI x) hf (qt g) ?_;by_cases j:p xs[k]=true
  .rw [if_pos j]at i
   simp[go_sem,j];rw[<-i];exact .zsc _
  .rw [if_neg j]at i
   simp only[Bool.not_eq_true]at j;simp[go_sem,C,I,o,r,g,j];exact⟨zWr,i⟩
 .have t:k=xs.length:=by omega
  subst t;rw[yR]at i;simp[go_sem,o,r,J];rw[<-i];exact .zsc _
theorem qgI(xs:List Int)(g:AV)(p:Int->Bool)(hf:EO.FnOk qb g (fun x=>aI x) (·∈xs) (fun x=>aB (p x)))(i:xs.length<=1000000000):qd qb 105 [lI xs,g] (aB (xs.any p)):=by
 refine qSU call105 func105 rfl ?_;refine qc.pure (qgH xs g p hf i) (.zk (zf _) (.cons (.hf hf.1) .nil)) ?_;rw[<-U7 p xs 0 zOm];simp[go_sem];exact .zsc _
theorem qgJ(ts:TS)(sc:Sc)(F:Fit9 ts sc)(f:Fld)(hf:f∈ts.fields):qd qb 58 [eTS ts,JO f] (aB true):=by
 have t:=F.f1 f hf;have o:=F.fs f hf;have C:=F.ns;have i:HF (.ip (cTS ts)):=HF.ip fun c g=>JV _ c g
 have p:∀ s,s∈f.sorts->qd qb 106 [aI s,.ip (cTS ts)] (aB false):=fun s I=>by
  have:=o s I;have r:¬s<0:=zOm;have J:¬(ts.sorts.length:Int)<=s:=zOm;refine qSV call106 func106 rfl ?_;simp[go_sem,r,J];exact .zsc _
 have j:HF (.fn (.func 106) [] [.ip (cTS ts)]):=HF.fn (fun c g=>by simp at g) (fun c g=>by simp only[qN]at g;subst g;exact i);have l:=qgI f.sorts (.fn (.func 106) [] [.ip (cTS ts)]) (fun _=>false) ⟨j,_,[],_,rfl,fun x P=>⟨[aI x,.ip (cTS ts)],by simpa using WKs.zs (.zk i .nil),p x P⟩⟩ zOm;rw[show (f.sorts.any fun _=>false)=false by simp]at l;refine qSV call58 func58 rfl ?_;have r:¬(f.sorts.length:Int)<1:=zOm;have R:¬(3:Int)<f.sorts.length:=zOm;simp[go_sem,r,R];refine qc.zP l (.zk (zf _) (.zk j .nil)) ?_;exact .zsc _
structure MdV (ts:TS) (m:Md):Prop where
 f:Fit9 ts m.sc
 z:yn m.sc=true
 ns:(m.states.length:Int)=m.sc.steps
 l0:0<=m.loop
 l1:m.loop<m.states.length
 len:∀ s,s∈m.states->s.length=ts.fields.length
 ar:∀ s,s∈m.states->∀(i:Nat) (h:i<s.length) (h2:i<ts.fields.length),s[i].ar=ts.fields[i].sorts.length/\s[i].ts.Pairwise (·<·)/\∀ t,t∈s[i].ts->t∈zQ m.sc ts.fields[i].sorts
 fix:∀(k:Nat) (h:k<m.states.length) (h0:0<m.states.length) (i:Nat) (h1:i<m.states[k].length) (h3:i<m.states[0].length) (h2:i<ts.fields.length),ts.fields[i].var=false->m.states[k][i]=m.states[0][i]
theorem pU{sc:Sc}(h:yn sc=true):sumI sc.atoms<=12:=by
 simp only[yn,qq,decide_eq_true_eq]at h;exact h.2.2.2.2
theorem qgK(ts:TS)(m:Md)(V:MdV ts m):qd qb 23 [eTS ts,eMd m] (aB true):=by
 have F:=V.f;have a9:=V.ns;have al:=V.l0;have an:=V.l1;have ao:=F.s1;have aq:=F.s4;have au:=F.nf;have af:=pU V.z;refine qSU call23 func23 rfl ?_;refine qc.pure (pQ ts m.sc F V.z) (.zk (zn _) (.zk (zx _) .nil)) ?_;have n1:¬m.loop<0:=zOm;have n2:¬(m.states.length:Int)<=m.loop:=zOm;simp[go_sem,a9,n1];have n3:¬m.sc.steps<=m.loop:=zOm;simp[go_sem,n3];refine qc.zP (J0 m.sc F.g) (.zk (zx _) .nil) ?_;refine qh.upK ts.fields.length (fun k st=>st.tm 2 = .ip (cTS ts)/\st.tm 3 = .ip (cMd m)/\st.tm 5=aI (sumI m.sc.atoms)/\st.tm 44 = .lst false (ts.fields.map jn)/\st.tm 45=aI ts.fields.length/\st.tm 46=aI k) ?_ ?_
 .exact ⟨zSi,zSi,zSi,zSi,zSi,zSi⟩
 rintro k st hk ⟨I,C,J,a5,R,T⟩;by_cases i:k<ts.fields.length
 .have w1:=zWk k
  simp[go_sem,I,a5,R,T,i];refine qc.pure (qgJ ts m.sc F _ (qt i)) (.zk (zn _) (.zk (kh _) .nil)) ?_;simp[go_sem,T,i,w1]
  try refine⟨i,Keep.mk' ?_⟩
  try refine Keep.mk' ?_
  exact⟨zS1 I,zS1 C,zS1 J,zS1 a5,zS1 R,zSi⟩
 have U:k=ts.fields.length:=zOm;simp[go_sem,C,R,T,U];refine qh.upK m.states.length (fun k st=>st.tm 2 = .ip (cTS ts)/\st.tm 3 = .ip (cMd m)/\st.tm 5=aI (sumI m.sc.atoms)/\st.tm 56=lSt m.states/\st.tm 57=aI m.states.length/\st.tm 58=aI k) ?_ ?_
 .exact ⟨zS1 I,zS1 C,zS1 J,zSi,zS1 a9,zSi⟩
 clear I C J a5 R T hk i U k st;rintro k st hk ⟨I,C,J,p,l,o⟩;by_cases i:k<m.states.length
 .have w1:=zWk k
  have aa:=qt i;have ab:=V.len _ aa;simp[go_sem,I,p,l,o,i,ab];refine qh.upK ts.fields.length (fun j st=>st.tm 2 = .ip (cTS ts)/\st.tm 3 = .ip (cMd m)/\st.tm 5=aI (sumI m.sc.atoms)/\st.tm 56=lSt m.states/\st.tm 57=aI m.states.length/\st.tm 58=aI k/\st.tm 9=lRel m.states[k]/\st.tm 69 = .lst false (ts.fields.map jn)/\st.tm 70=aI ts.fields.length/\st.tm 71=aI j) ?_ ?_
  .exact ⟨zS1 I,zS1 C,zS1 J,zS1 p,zS1 l,zS1 o,zSi,zSi,zSi,zSi⟩
  clear I C J p l o st;rintro j st hj ⟨I,C,J,p,l,o,e9,a6,a0,a4⟩;by_cases t:j<ts.fields.length
  .have w2:=zWk j
   have a7:j<m.states[k].length:=zOm;have a8:0<m.states.length:=zOm;have ad:j<m.states[0].length:=by rw[V.len _ (qt a8)];exact t
   obtain⟨a1,a2,a3⟩:=V.ar _ aa j a7 t;have ae:=V.fix k i a8 j a7 ad t;have P:=qt t;obtain⟨v1,l1⟩:=relT ts m.sc F af _ P _ a1 a2 a3;have i2:=pT ts m.sc F _ P _ l1 a3;have ag:=EW.Ya m.sc F.g (fun a ha=>(F.g.2 a ha).1) ts.fields[j].sorts (F.fs _ P) (F.f1 _ P).1 (F.f1 _ P).2;have heq:=qd4 m.states[k][j] m.states[0][j] zOm;generalize hr:m.states[k][j]=r at *
   generalize ah:m.states[0][j]=r0 at *
   simp[go_sem,e9,a6,a0,a4,t,a7,hr];have wr:WK (.agg [aI ts.fields[j].sorts.length,lI r.ts]) (eRel r):=by rw[<-a1];exact .hf (zZ r)
   have ai:WK (.agg [lI m.sc.atoms,aI m.sc.steps]) (eSc m.sc) := .hf (zx _);generalize hX:st.mu.length=X at *
   refine qg.intro zKr ?_;have g0:∀ a b:Cell,(st.mu++[a,b])[X]?=some a:=fun a b=>by rw[qT zOm,hX,Nat.sub_self];rfl
   have g1:∀ a b:Cell,(st.mu++[a,b])[X+1]?=some b:=fun a b=>by rw[qT zOm,hX,Nat.add_sub_cancel_left];rfl
   simp[go_sem,J,hX,a1];refine qc.pure v1 (.zs (.cons wr .nil)) ?_;simp[go_sem,C,hX];refine qc.zP ag (.cons ai (.zk (zf _) .nil)) ?_;refine qc.zP i2 (.cons wr (.zk (zZ _) .nil)) ?_;refine qg.intro zKr ?_;cases hv:ts.fields[j].var with
   |true =>
    simp[go_sem,a4,t,hX,w2];exact Keep.mk' ⟨zS1 I,zS1 C,zS1 J,zS1 p,zS1 l,zS1 o,zS1 e9,zS1 a6,zS1 a0,zSi⟩
   |false =>
    have aj:=ae hv;simp[go_sem,C,hX,a8,ad,ah];refine qc.pure heq (.cons wr (.zk (zZ _) .nil)) ?_;rw[decide_eq_true aj];simp[go_sem,a4,t,w2];exact Keep.mk' ⟨zS1 I,zS1 C,zS1 J,zS1 p,zS1 l,zS1 o,zS1 e9,zS1 a6,zS1 a0,zSi⟩
  .have ak:j=ts.fields.length:=by omega
   simp[go_sem,o,a0,a4,ak,w1]
   try refine⟨i,Keep.mk' ?_⟩
   try refine Keep.mk' ?_
   exact⟨zS1 I,zS1 C,zS1 J,zS1 p,zS1 l,zSi⟩
 .have U:k=m.states.length:=by omega
  simp[go_sem,l,o,U];exact .zsc _
end GX
namespace HA
open P1 E1 GF GQ GR GS GU GW GX GZ
section
variable {g:List Bd}{ts:TS}
theorem pV(c:List Ch)(s f:Nat)(b:Bd)(t:Int):t∈(vt c s f b).ts↔t∈b.lo.ts\/((s:Int),(f:Int),t)∈c:=by
 unfold vt unR;rw[(JY _).2,qC,pI]
theorem pW(c:List Ch)(s f:Nat)(b:Bd):sorted (vt c s f b).ts:=(JY _).1
theorem pX{sc:Sc}(B:BndV ts sc g){i:List Bool}{N:Nat}{c:List Ch}(j:c.Sublist (chs i (qy g 0) N))(s f:Nat)(hf:f<g.length) :
  (∀ t,t∈g[f].lo.ts->t∈(vt c s f g[f]).ts)/\∀ t,t∈(vt c s f g[f]).ts->t∈g[f].up.ts:=by
 refine⟨fun t h=>(pV ..).2 (.inl h),fun t h=>?_⟩;rcases (pV ..).1 h with h|h
 .exact B.sub _ (qt hf) t h
 .obtain ⟨_,_,_,h⟩:=(pJ ..).1 (j.subset h)
  exact((pM ..).1 h).1
theorem pY{sc:Sc}(B:BndV ts sc g){i:List Bool}{N:Nat}{c:List Ch}(j:c.Sublist (chs i (qy g 0) N))(s f:Nat)(hf:f<g.length)(l:f<(jf i g c s).length) :
  (jf i g c s)[f].ar=g[f].lo.ar/\sorted (jf i g c s)[f].ts/\(∀ t,t∈g[f].lo.ts->t∈(jf i g c s)[f].ts)/\∀ t,t∈(jf i g c s)[f].ts->t∈g[f].up.ts:=by
 rw[Yi _ _ _ _ _ hf];split
 .exact ⟨rfl,pW ..,pX B j _ _ hf⟩
 .exact ⟨rfl,pW ..,pX B j _ _ hf⟩
theorem qgL{sc:Sc}(F:Fit9 ts sc)(z:yn sc=true)(B:BndV ts sc g){N k:Nat}(J:sc.steps=N)(hk:k<N){c:List Ch}(P:c.Sublist (chs (vsT ts) (qy g 0) N)):MdV ts (yy sc (vsT ts) g c N k):=by
 have l:∀ s,s∈(yy sc (vsT ts) g c N k).states->∃ j,s=jf (vsT ts) g c j:=fun s o=>by
  obtain⟨j,_,rfl⟩:=qk.1 o;exact⟨j,rfl⟩
 have C:(yy sc (vsT ts) g c N k).states.length=N:=by simp[yy]
 refine⟨F,z,by rw[C];exact J.symm,by simp[yy],by rw[C];simp only[yy];omega,fun s o=>?_,fun s o i h p=>?_,fun j h h0 i h1 h3 p R=>?_⟩
 .obtain ⟨j,rfl⟩:=l s o
  rw[Ze];exact B.len
 .obtain ⟨j,rfl⟩:=l s o
  have hf:i<g.length:=by rw[Ze]at h;exact h
  obtain⟨T,U,a3,a4⟩:=pY B P j i hf h;exact⟨T.trans (B.lo i hf p).1,U,fun t ht=>B.full i hf p t (a4 t ht)⟩
 .have hf:i<g.length:=by rw[B.len];exact p
  have r:(vsT ts).getD i true=false:=by
   rw[q8];simp[p,R]
  simp only[yy,Zu,List.getElem_range,Yi _ _ _ _ _ hf];by_cases I:j=0
  .subst I;rfl
  .rw [if_pos ⟨I,r⟩,if_neg zSp]
end
end HA
namespace HB
end HB
namespace HC
end HC
namespace HD
end HD
namespace IG
end IG
namespace JH
open Y1 P1 YF E3 EW GF GH JB JE JF GP GR GS GU GY JG
def tsB:TS:=⟨[(bA [65],false)],[⟨bA [102],[0],true⟩],[],[]⟩
def scB(a s:Int):Sc:=⟨[a],s⟩
def bsB(l:List Int):List Bd:=[⟨⟨1,[]⟩,⟨1,l⟩⟩]
def l2:List Int:=[0,1]
def l5:List Int:=[0,1,2,3,4]
def pZ:List (List AV×AV):=[([eSc (scB 2 1),lI [0]],eRel ⟨1,l2⟩),([eSc (scB 2 2),lI [0]],eRel ⟨1,l2⟩),([eSc (scB 5 3),lI [0]],eRel ⟨1,l5⟩)]
def p5:List (List AV×AV):=[([lBd (bsB l2)],lP [(0,0),(0,1)]),([lBd (bsB l5)],lP [(0,0),(0,1),(0,2),(0,3),(0,4)])]
noncomputable def K0:List (us×jc):=[(87,U2),(60,jZ (tabX pZ)),(35,jZ (tabX p5))]
theorem p6:∀ p,p∈K0->jm qb p.1 p.2:=by
 intro p g;simp only[K0,qu,qD,or_false]at g;rcases g with rfl|rfl|rfl
 .exact qdS
 .refine ZX (ZY fun p g=>?_)
  simp only[pZ,qu,qD,or_false]at g;rcases g with rfl|rfl|rfl
  .exact Ya (scB 2 1) ⟨zDe,zDe⟩ zDe [0] (by intro s i;simp at i;subst i;decide) zDe zDe
  .exact Ya (scB 2 2) ⟨zDe,zDe⟩ zDe [0] (by intro s i;simp at i;subst i;decide) zDe zDe
  .exact Ya (scB 5 3) ⟨zDe,zDe⟩ zDe [0] (by intro s i;simp at i;subst i;decide) zDe zDe
 .refine ZX (ZY fun p g=>?_)
  simp only[p5,qu,qD,or_false]at g;rcases g with rfl|rfl
  .exact Wm (bsB l2) zDe (by intro x j;simp[bsB]at j;subst j;exact⟨zDe,zDe,zDe⟩)
  .exact Wm (bsB l5) zDe (by intro x j;simp[bsB]at j;subst j;exact⟨zDe,zDe,zDe⟩)
theorem wu:qW qb (envL K0):=Wq p6
def insM(s:Int)(N:Nat):List Md:=uc (scB 2 s) (vsT tsB) (bsB l2) (chs (vsT tsB) (qy (bsB l2) 0) N) N
theorem insB(s:Int)(N:Nat)(l:s=N)(r:N<=2)(i:(chs (vsT tsB) (qy (bsB l2) 0) N).length<=14)(j:N*2 ^ (chs (vsT tsB) (qy (bsB l2) 0) N).length<=16384)
  (o:qd qb 38 [eTS tsB,eSc (scB 2 s)] (aB true)) (p:qd qb 39 [eTS tsB,eSc (scB 2 s),lBd (bsB l2)] (aB true)) :
  qd qb 13 [eTS tsB,eSc (scB 2 s),lBd (bsB l2)] (.tup [lMd (insM s N),aI 0]):=
 pH tsB (scB 2 s) (bsB l2) N l zOm zDe (by intro x g;simp[bsB]at g;subst g;exact⟨zDe,zDe,zDe⟩) (by intro x g;simp[bsB]at g;subst g;exact⟨zDe⟩) zDe zDe i j o p
theorem insB1:qd qb 13 [eTS tsB,eSc (scB 2 1),lBd (bsB l2)] (.tup [lMd (insM 1 1),aI 0]):=
 insB 1 1 rfl zOm (by decide +kernel) (by decide +kernel) (uQ wu (n:=1000) zKr) (uQ wu (n:=1000) zKr)
theorem insB2:qd qb 13 [eTS tsB,eSc (scB 2 2),lBd (bsB l2)] (.tup [lMd (insM 2 2),aI 0]):=
 insB 2 2 rfl zOm (by decide +kernel) (by decide +kernel) (uQ wu (n:=1000) zKr) (uQ wu (n:=1000) zKr)
theorem insB3:qd qb 13 [eTS tsB,eSc (scB 2 1),.lst false []] (.tup [lMd [],aI 1]):=uQ wu (n:=1000) zKr
theorem insB4:qd qb 13 [eTS tsB,eSc (scB 5 3),lBd (bsB l5)] (.tup [lMd [],aI 2]):=uQ wu (n:=1000) zKr
def p7:List (List AV×AV):=[([eTS tsB,eSc (scB 2 1),lBd (bsB l2)],.tup [lMd (insM 1 1),aI 0]),([eTS tsB,eSc (scB 2 2),lBd (bsB l2)],.tup [lMd (insM 2 2),aI 0]),([eTS tsB,eSc (scB 2 1),.lst false []],.tup [lMd [],aI 1]),([eTS tsB,eSc (scB 5 3),lBd (bsB l5)],.tup [lMd [],aI 2])]
def Yl:Nd := .mk 34 (bA []) 0 [nF] 0
theorem inlB:qd qb 45 [eTS tsB,eNd Yl] (.tup [eNd Yl,aI 0]):=uQ wu (n:=1000) zKr
def p8:List (List AV×AV):=[([eTS tsB,eNd Yl],.tup [eNd Yl,aI 0])]
noncomputable def K1:List (us×jc):=(46,jZ (Wr K0)) :: (45,jZ (tabX p8)) :: K0
theorem ga:∀ p,p∈K1->jm qb p.1 p.2:=
 Yh (Yh p6 (WC zKr fun p g=>by
  simp only[p8,qN]at g;subst g;exact inlB)) (qfI wu)
def someB(m:Md):Bool:=decide (0<((m.states.getD 0 []).getD 0 ⟨0,[]⟩).ts.length)
def gb:List (List AV×AV):=(insM 1 1).map fun m=>([eTS tsB,eMd m,eNd Yl],.tup [aB (someB m),aI 0])
theorem holB:gb.all (fun p=>eqLi (eqV 64) (p.1.map (nV 64)) p.1&&Ve (envL K1) 3000 16 p.1 p.2)=true:=by kernel_rfl
def ge:List (List AV×AV):=[([eTS tsB,eSc (scB 2 1)],lBd (bsB l2)),([eTS tsB,eSc (scB 5 3)],lBd (bsB l5))]
theorem defB1:qd qb 24 [eTS tsB,eSc (scB 2 1)] (lBd (bsB l2)):=by
 have:=WA tsB (scB 2 1) (Vg (by decide +kernel))
 rwa[show defB tsB (scB 2 1)=bsB l2 by decide +kernel]at this
theorem defB2:qd qb 24 [eTS tsB,eSc (scB 5 3)] (lBd (bsB l5)):=by
 have:=WA tsB (scB 5 3) (Vg (by decide +kernel))
 rwa[show defB tsB (scB 5 3)=bsB l5 by decide +kernel]at this
noncomputable def K2:List (us×jc):=(24,jZ (tabX ge)) :: (13,jZ (tabX p7)) :: (16,jZ (tabX gb)) :: K1
theorem qgM:∀ p,p∈K2->jm qb p.1 p.2:=
 Yh (Yh (Yh ga (tabOf (Wq ga) 3000 holB)) (WC zKr fun p g=>by
  simp only[p7,qu,qD,or_false]at g;rcases g with rfl|rfl|rfl|rfl
  .exact insB1
  .exact insB2
  .exact insB3
  .exact insB4)) (WC zKr fun p g=>by
  simp only[ge,qu,qD,or_false]at g;rcases g with rfl|rfl
  .exact defB1
  .exact defB2)
theorem headB:qd qb 8 [] (aB true):=uQ (Wq qgM) (n:=3000) zKr
end JH
namespace HE
open P1 E1 G5 GP GW
def wtR(rw:List Int)(k:Nat):Int:=if k<rw.length then rw.getD k 0 % 4 else 1
def selW(p:Int->Bool)(rw:List Int):List Int->Nat->List Int
 | [],_=>[]
 |t :: J,k=>(if p (wtR rw k)=true then [t] else [])++selW p rw J (k+1)
theorem gg(p:Int->Bool)(rw:List Int):∀(ts g:List Int) (k:Nat),selW p rw (ts++g) k=selW p rw ts k++selW p rw g (k+ts.length)
 | [],g,k=>by simp[selW]
 |t :: ts,g,k=>by
  rw[List.cons_append,selW,selW,gg p rw ts g (k+1),zc,zq,show k+1+ts.length=k+(ts.length+1) by omega]
theorem gh(p:Int->Bool)(rw:List Int)(ts:List Int)(k:Nat)(h:k<ts.length):selW p rw (ts.take (k+1)) 0=selW p rw (ts.take k) 0++(if p (wtR rw k)=true then [ts[k]] else []):=by
 rw[jF h,gg];have:(ts.take k).length=k:=zSo;simp[selW,this]
theorem ud(p:Int->Bool)(rw:List Int):∀(ts:List Int) (k:Nat),(selW p rw ts k).Sublist ts
 | [],k=>List.Sublist.refl _
 |t :: ts,k=>by
  rw[selW];split
  .exact (ud p rw ts (k+1)).cons_cons t
  .exact (ud p rw ts (k+1)).cons t
theorem gi{p q:Int->Bool}(h:∀ x,p x=true->q x=true)(rw:List Int):∀(ts:List Int) (k:Nat) (t:Int),t∈selW p rw ts k->t∈selW q rw ts k
 | [],k,t,g=>g
 |a :: ts,k,t,g=>by
  rw[selW,qC]at g⊢;rcases g with g|g
  .left
   split at g
   .rename_i i;rw[if_pos (h _ i)];exact g
   .exact absurd g qD
  .exact .inr (gi h rw ts (k+1) t g)
def Vi(rw:List Int)(b:Bd):Bd:=⟨⟨b.up.ar,selW (fun x=>decide (1<x)) rw b.up.ts 0⟩,⟨b.up.ar,selW (fun x=>decide (0<x)) rw b.up.ts 0⟩⟩
def zB(ts:TS)(sc:Sc)(raw:List (List Int)):List Bd:=(defB ts sc).mapIdx fun i b=>Vi (raw.getD i []) b
theorem uR(ts:TS)(sc:Sc)(raw:List (List Int)):(zB ts sc raw).length=ts.fields.length:=by simp[zB,defB]
theorem Vj(ts:TS)(sc:Sc)(raw:List (List Int))(i:Nat)(h:i<(zB ts sc raw).length)(g:i<ts.fields.length):(zB ts sc raw)[i]=Vi (raw.getD i []) ⟨⟨ts.fields[i].sorts.length,[]⟩,⟨ts.fields[i].sorts.length,zQ sc ts.fields[i].sorts⟩⟩:=by
 simp[zB,defB]
theorem gj(ts:TS)(sc:Sc)(raw:List (List Int))(hf:∀ f,f∈ts.fields->sorted (zQ sc f.sorts)):BndV ts sc (zB ts sc raw):=by
 have key:∀ b,b∈zB ts sc raw->∃(i:Nat) (g:i<ts.fields.length),b=Vi (raw.getD i []) ⟨⟨ts.fields[i].sorts.length,[]⟩,⟨ts.fields[i].sorts.length,zQ sc ts.fields[i].sorts⟩⟩:=fun b j=>by
  obtain⟨i,o,rfl⟩:=vB.1 j;have g:i<ts.fields.length:=by rw[uR]at o;exact o
  exact⟨i,g,Vj ts sc raw i o g⟩
 refine⟨uR ..,fun i h g=>?_,fun b j=>?_,fun b j t l=>?_,fun i h g t l=>?_⟩
 .rw [Vj _ _ _ _ h g];exact⟨rfl,rfl⟩
 .obtain ⟨i,g,rfl⟩:=key b j
  have:=hf _ (qt g);exact⟨this.sublist (ud ..),this.sublist (ud ..)⟩
 .obtain ⟨i,g,rfl⟩:=key b j
  exact gi (fun x p=>by have:=of_decide_eq_true p;exact decide_eq_true zOm) _ _ _ t l
 .rw [Vj _ _ _ _ h g]at l
  exact(ud ..).subset l
end HE
namespace HF1
open GB
theorem qgN{a b:Ed}:a=b↔a.kind=b.kind/\a.state=b.state/\a.field=b.field/\a.tup=b.tup:=by
 cases a;cases b;simp
instance:DecidableEq Ed:=fun a b=>decidable_of_iff _ qgN.symm
end HF1
namespace HG
end HG
namespace HH
open E3 E4
theorem qgO(a b:List Int)(P:a.length<=1000000):qd qb 36 [lI a,lI b] (aB (decide (a=b))):=by
 refine qSV call36 func36 rfl ?_;by_cases C:a.length=b.length
 .have J:(a.length:Int)=b.length:=by omega
  simp[go_sem,C];refine qh.up a.length (fun k st=>st.tm 0=lI a/\st.tm 1=lI b/\st.tm 5=aI k/\∀(i:Nat) (h:i<k) (P:i<a.length) (hb:i<b.length),a[i]=b[i]) ?_ ?_
  .exact ⟨zSi,zSi,zSi,fun i h=>absurd h (Nat.not_lt_zero i)⟩
  rintro k st hk ⟨p,r,t,l⟩;by_cases j:k<a.length
  .have g:k<b.length:=by omega
   have R:=zWk k;simp[go_sem,p,r,t,j,g];refine qg.intro zKr ?_;simp[go_sem,p,r,t,j,g];by_cases I:a[k]=b[k]
   .simp [go_sem,p,r,t,j,g,I,R]
    exact fun i hi _ _=>by
     by_cases h:i<k
     .exact l i h _ _
     .have:i=k:=by omega
      subst this;exact I
   .have o:¬a=b:=fun e=>I (by simp only[e])
    simp[go_sem,p,r,t,j,g,I];rw[decide_eq_false o];exact .zsc _
  .have T:a=b:=List.ext_getElem C fun i h U=>l i zOm h U
   simp[go_sem,p,r,t,show ¬k<a.length from j];rw[decide_eq_true T];exact .zsc _
 .have J:¬(a.length:Int)=b.length:=by omega
  have o:¬a=b:=fun e=>C (by rw[e])
  simp[go_sem,C,o];exact .zsc _
theorem qgP(a b:List Rl)(R:a.length<=1000000)(T:∀ r,r∈a->r.ts.length<=4611686018427387904):qd qb 37 [lRel a,lRel b] (aB (decide (a=b))):=by
 refine qSV call37 func37 rfl ?_;by_cases I:a.length=b.length
 .have P:(a.length:Int)=b.length:=by omega
  simp[go_sem,I];refine qh.up a.length (fun k st=>st.tm 0=lRel a/\st.tm 1=lRel b/\st.tm 5=aI k/\∀(i:Nat) (h:i<k) (R:i<a.length) (hb:i<b.length),a[i]=b[i]) ?_ ?_
  .exact ⟨zSi,zSi,zSi,fun i h=>absurd h (Nat.not_lt_zero i)⟩
  rintro k st hk ⟨p,t,C,l⟩;by_cases j:k<a.length
  .have g:k<b.length:=by omega
   have U:=zWk k;simp[go_sem,p,t,C,j,g];refine qg.intro zKr ?_;simp[go_sem,p,t,C,j,g];refine qc.pure (qd5 a[k] b[k] (T _ (qt j))) (.zk (zZ _) (.zk (zZ _) .nil)) ?_;by_cases J:a[k]=b[k]
   .simp [go_sem,p,t,C,j,g,J,U]
    exact fun i hi _ _=>by
     by_cases h:i<k
     .exact l i h _ _
     .have:i=k:=by omega
      subst this;exact J
   .have o:¬a=b:=fun e=>J (by simp only[e])
    simp[go_sem,p,t,C,j,g,J];rw[decide_eq_false o];exact .zsc _
  .have he:a=b:=List.ext_getElem I fun i h h'=>l i zOm h h'
   simp[go_sem,p,t,C,show ¬k<a.length from j];rw[decide_eq_true he];exact .zsc _
 .have P:¬(a.length:Int)=b.length:=by omega
  have o:¬a=b:=fun e=>I (by rw[e])
  simp[go_sem,I,o];exact .zsc _
theorem gk(l:List Rl):HF (lRel l):=HF.lst fun r i c g=>by
 obtain⟨n,_,rfl⟩:=qk.1 i;simp at g;rcases g with rfl|rfl
 .exact HF.sc _
 .exact zf _
theorem qgQ{a b:Md}:a=b↔a.sc.atoms=b.sc.atoms/\a.sc.steps=b.sc.steps/\a.loop=b.loop/\a.states=b.states:=by
 obtain⟨⟨_,_⟩,_,_⟩:=a;obtain⟨⟨_,_⟩,_,_⟩:=b;simp;exact⟨fun h=>⟨h.1.1,h.1.2,h.2.2,h.2.1⟩,fun h=>⟨⟨h.1,h.2.1⟩,h.2.2.2,h.2.2.1⟩⟩
theorem qgR(a b:Md)(P:a.sc.atoms.length<=1000000)(hs:a.states.length<=1000000)(R:∀ s,s∈a.states->s.length<=1000000/\∀ r,r∈s->r.ts.length<=4611686018427387904):qd qb 12 [eMd a,eMd b] (aB (decide (a=b))):=by
 refine qSU call12 func12 rfl ?_;refine qc.pure (qgO a.sc.atoms b.sc.atoms P) (.zk (zf _) (.zk (zf _) .nil)) ?_;by_cases c0:a.sc.atoms=b.sc.atoms
 case neg =>
  have g:¬a=b:=fun e=>c0 (by rw[e])
  simp[go_sem,c0,g];exact .zsc _
 by_cases c1:a.sc.steps=b.sc.steps
 case neg =>
  have g:¬a=b:=fun e=>c1 (by rw[e])
  simp[go_sem,c0,c1,g];exact .zsc _
 by_cases c2:a.loop=b.loop
 case neg =>
  have g:¬a=b:=fun e=>c2 (by rw[e])
  simp[go_sem,c0,c1,c2,g];exact .zsc _
 by_cases c3:a.states.length=b.states.length
 case neg =>
  have g:¬a=b:=fun e=>c3 (by rw[e])
  have T:¬(a.states.length:Int)=b.states.length:=zOm;simp[go_sem,c0,c1,c2,c3,g];exact .zsc _
 simp[go_sem,c0,c1,c2,c3];refine qh.up a.states.length (fun k st=>st.tm 2 = .ip (cMd a)/\st.tm 3 = .ip (cMd b)/\st.tm 5=aI k/\∀(i:Nat) (h:i<k) (P:i<a.states.length) (hb:i<b.states.length),a.states[i]=b.states[i]) ?_ ?_
 .exact ⟨by simp[go_sem,c0,c1,c2],zSi,zSi,fun i h=>absurd h (Nat.not_lt_zero i)⟩
 rintro k st hk ⟨p,t,C,o⟩;by_cases l:k<a.states.length
 .have j:k<b.states.length:=by omega
  have U:=zWk k;have I:=R _ (qt l);simp[go_sem,p,t,C,l,j];refine qg.intro zKr ?_;simp[go_sem,p,t,C,l,j];refine qc.pure (qgP a.states[k] b.states[k] I.1 I.2) (.zk (gk _) (.zk (gk _) .nil)) ?_;by_cases J:a.states[k]=b.states[k]
  .simp [go_sem,p,t,C,l,j,J,U]
   exact fun i hi _ _=>by
    by_cases h:i<k
    .exact o i h _ _
    .have:i=k:=by omega
     subst this;exact J
  .have g:¬a=b:=fun e=>J (by simp only[e])
   simp[go_sem,p,t,C,l,j,J];rw[decide_eq_false g];exact .zsc _
 .have he:a=b:=qgQ.2 ⟨c0,c1,c2,List.ext_getElem c3 fun i h h'=>o i zOm h h'⟩
  simp[go_sem,p,t,C,show ¬k<a.states.length from l];rw[decide_eq_true he];exact .zsc _
end HH
namespace HI
open E1 E3
def wthB(b:Bd)(r:Rl):Bool:=decide (b.lo.ar=r.ar)&&(decide (b.up.ar=r.ar)&&(inOk b.lo r&&inOk r b.up))
def wthS(g:List Bd)(s:List Rl):Bool:=decide (s.length=g.length)&&(g.zip s).all fun p=>wthB p.1 p.2
def cntB(g:List Bd)(m:Md):Bool:=m.states.all (wthS g)
theorem qgS{C:Type}{p:C->Bool}{l:List C}{k:Nat}(h:k<l.length)(g:p l[k]=false):l.all p=false:=by
 cases e:l.all p with
 |false=>rfl
 |true=>rw[qJ.1 e _ (qt h)]at g;cases g
theorem WM{C:Type}{p:C->Bool}{l:List C}(h:∀(i:Nat) (g:i<l.length),p l[i]=true):l.all p=true:=qJ.2 fun x j=>by
 obtain⟨i,g,rfl⟩:=vB.1 j;exact h i g
end HI
namespace I4
open E1 E3 EO ER EW F1 GD GF HI
theorem in_eq(a b:Rl):decide ((diR a b).ts=[])=inOk a b:=by
 rw[Bool.eq_iff_iff,decide_eq_true_eq];simp only[diR,List.filter_eq_nil_iff,inOk,qJ];exact⟨fun h t g=>by have:=h t g;simpa using this,fun h t g=>by simpa using h t g⟩
theorem Z9(b:Bd)(r:Rl)(l:b.lo.ts.length<=1000000)(o:b.up.ts.length<=1000000)(g:r.ts.length<=1000000):qd qb 49 [eBd b,eRel r] (aB (wthB b r)):=by
 have i:=inU b.lo r l g;have j:=inU r b.up g o;rw[in_eq]at i j;refine qSV call49 func49 rfl ?_;unfold wthB;by_cases c1:b.lo.ar=r.ar
 .by_cases c2:b.up.ar=r.ar
  .simp [go_sem,c1,c2]
   refine qc.pure i (.cons (by rw[<-c1];exact .hf (zZ _)) (.zk (zZ _) .nil)) ?_;cases c3:inOk b.lo r with
   |false =>
    simp[go_sem,c1,c2,c3];exact .zsc _
   |true =>
    simp[go_sem,c1,c2,c3];refine qc.pure j (.zk (zZ _) (.cons (by rw[<-c2];exact .hf (zZ _)) .nil)) ?_;simp[go_sem,c1,c2,c3];exact .zsc _
  .simp [go_sem,c1,c2]
   exact .zsc _
 .simp [go_sem,c1]
  exact .zsc _
theorem qgT(g:List Bd)(s:List Rl)(hl:g.length<=1000000)(hb:∀ b,b∈g->b.lo.ts.length<=1000000/\b.up.ts.length<=1000000)(hs:∀ r,r∈s->r.ts.length<=1000000) :
  qd qb 48 [lBd g,lRel s,.fn (.func 49) [] []] (aB (wthS g s)):=by
 refine qSV call48 func48 rfl ?_;by_cases l:s.length=g.length
 case neg =>
  have I:¬g.length=s.length:=fun e=>l e.symm
  have hf:wthS g s=false:=by unfold wthS;rw[decide_eq_false l];rfl
  rw[hf];simp[go_sem,I];exact .zsc _
 simp[go_sem,l];refine qh.upK g.length (fun k st=>st.tm 0=lBd g/\st.tm 1=lRel s/\st.tm 2 = .fn (.func 49) [] []/\st.tm 14=aI g.length/\st.tm 15=aI k/\∀(i:Nat) (h:i<k) (R:i<g.length) (I:i<s.length),wthB g[i] s[i]=true) ?_ ?_
 .exact ⟨zSi,zSi,zSi,zSi,zSi,fun i h=>absurd h (Nat.not_lt_zero i)⟩
 rintro k st hk ⟨T,U,e2,p,t,o⟩;by_cases j:k<g.length
 .have w1:=zWk k
  have C:k<s.length:=zOm;obtain⟨b1,b2⟩:=hb _ (qt j);have hw:=Z9 g[k] s[k] b1 b2 (hs _ (qt C));simp[go_sem,p,t,j];refine qg.intro zKr ?_;simp[go_sem,T,U,e2,j,C];refine qc.pure hw (.zk (Wl _) (.zk (zZ _) .nil)) ?_;cases hq:wthB g[k] s[k] with
  |false =>
   have hf:wthS g s=false:=by
    unfold wthS;rw[qgS (k:=k) zSo (zUs hq),Bool.and_false]
   rw[hf];simp[go_sem];exact .zsc _
  |true =>
   simp[go_sem,t,j,w1]
   try refine⟨j,Keep.mk' ?_⟩
   try refine Keep.mk' ?_
   refine⟨zS1 T,zS1 U,zS1 e2,zS1 p,zSi,fun i h R I=>?_⟩;rcases Nat.lt_succ_iff_lt_or_eq.1 h with J|J
   .exact o i J R I
   .subst J;exact hq
 .have P:k=g.length:=by omega
  have hf:wthS g s=true:=by
   unfold wthS;rw[decide_eq_true l,Bool.true_and];exact WM fun i hi=>by
    simp only[List.length_zip]at hi;simpa using o i zOm zOm zOm
  rw[hf];simp[go_sem,p,t,P];exact .zsc _
theorem qgU(g:List Bd)(s:List Rl)(i:g.length<=1000000)(j:∀ b,b∈g->b.lo.ts.length<=1000000/\b.up.ts.length<=1000000)(l:∀ r,r∈s->r.ts.length<=1000000):qd qb 47 [lRel s,.ip [lBd g]] (aB (!wthS g s)):=by
 refine qSU call47 func47 rfl ?_;refine qc.zP (qgT g s i j l) (.zk (j0 _) (.zk (Z0 _) (.zk (qeQ _) .nil))) ?_;exact .zsc _
theorem qgV(xs:List (List Rl))(l:AV)(p:List Rl->Bool)(hf:EO.FnOk qb l lRel (·∈xs) (fun x=>aB (p x)))(R:xs.length<=1000000000):qd qb 95 [lSt xs,l] (aI (jO p xs 0)):=by
 refine qSU call95 func95 rfl ?_;refine qh.up xs.length (fun k st=>st.tm 0=lSt xs/\st.tm 1=l/\st.tm 7=aI xs.length/\st.tm 8=aI k/\st.mu=[]/\jO p (xs.drop k) k=jO p xs 0) ?_ ?_
 .simp [go_sem]
 rintro k st T ⟨C,I,o,r,J,i⟩;by_cases g:k<xs.length
 .rw [kJ _ _ _ _ g]at i
  simp[go_sem,C,I,o,r,J,g];refine FnOk.call (enc:=lRel) hf (qt g) ?_;by_cases j:p xs[k]=true
  .rw [if_pos j]at i
   simp[go_sem,j];rw[<-i];exact .zsc _
  .rw [if_neg j]at i
   simp only[Bool.not_eq_true]at j;simp[go_sem,C,I,o,r,g,j];exact⟨zWr,i⟩
 .have t:k=xs.length:=by omega
  subst t;rw[yR]at i;simp[go_sem,o,r,J];rw[<-i];exact .zsc _
theorem qgW(xs:List (List Rl))(g:AV)(p:List Rl->Bool)(hf:EO.FnOk qb g lRel (·∈xs) (fun x=>aB (p x)))(i:xs.length<=1000000000):qd qb 50 [lSt xs,g] (aB (xs.any p)):=by
 refine qSU call50 func50 rfl ?_;refine qc.pure (qgV xs g p hf i) (.zk (Z7 _) (.cons (.hf hf.1) .nil)) ?_;rw[<-U7 p xs 0 zOm];simp[go_sem];exact .zsc _
theorem qgX(g:List Bd)(m:Md)(p:g.length<=1000000)(C:m.states.length<=1000000)(t:∀ b,b∈g->b.lo.ts.length<=1000000/\b.up.ts.length<=1000000)(os:∀ s,s∈m.states->∀ r,r∈s->r.ts.length<=1000000):qd qb 19 [lBd g,eMd m] (aB (cntB g m)):=by
 have j:HF (.ip [lBd g]):=w6 (j0 g);have l:HF (.fn (.func 47) [] [.ip [lBd g]]):=HF.fn (fun c i=>by simp at i) (fun c i=>by simp at i;subst i;exact j);have i:=qgW m.states (.fn (.func 47) [] [.ip [lBd g]]) (fun s=>!wthS g s) ⟨l,_,[],[.ip [lBd g]],rfl,fun s o=>⟨[lRel s,.ip [lBd g]],by simpa using WKs.zk (Z0 s) (.zk j .nil),qgU g s p t (os s o)⟩⟩ zOm;have e:(!m.states.any fun s=>!wthS g s)=cntB g m:=by
  unfold cntB;rw[List.not_any_eq_all_not];simp
 refine qSU call19 func19 rfl ?_;refine qc.pure i (.zk (Z7 _) (.zk l .nil)) ?_;rw[<-e];simp[go_sem];exact .zsc _
end I4
namespace YZ
open Y1
mutual
def depN:Nd->Int
 | .mk _ _ _ ks _=>z8 ks+1
def z8:List Nd->Int
 | []=>0
 |k :: ks=>max (depN k) (z8 ks)
end
mutual
theorem qgY:∀ n:Nd,0<=depN n
 | .mk _ _ _ ks _=>by simp only[depN];have:=WN ks;omega
theorem WN:∀ ks:List Nd,0<=z8 ks
 | []=>by simp[z8]
 |k :: ks=>by simp only[z8];have:=WN ks;omega
end
theorem Zh(n:Nd):depN n=z8 n.kids+1:=by
 obtain⟨op,t,i,ks,p⟩:=n;simp[depN,Nd.kids]
theorem qgZ{ks:List Nd}{k:Nd}(h:k∈ks):depN k<=z8 ks:=by
 induction ks with
 |nil=>simp at h
 |cons a l g =>
  simp only[z8];rcases qu.1 h with rfl|h
  .omega
  .have:=g h;omega
mutual
def preN:Nd->List Nd
 | .mk op t n ks p => .mk op t n ks p :: zj ks
def zj:List Nd->List Nd
 | []=>[]
 |k :: ks=>preN k++zj ks
end
theorem uS(n:Nd):preN n=n :: zj n.kids:=by
 obtain⟨op,t,i,ks,p⟩:=n;simp[preN,Nd.kids]
end YZ
namespace YA
open YS P1
def vN(k:Int):ByteArray:=⟨#[118]⟩++jd k
theorem gl(k:Int)(g : -9223372036854775808<=k)(i:k<=9223372036854775807):(jd k).size<=21:=by
 have:=Lib.itoa_length_le k g i;unfold jd;simpa[ByteArray.size] using this
def yX(ts:TS)(es:List (ByteArray×Bool))(nm:ByteArray):Bool:=decide (getK nm es≠some true)&&decide (means ts nm=[])
def zu(ts:TS)(es:List (ByteArray×Bool)):Nat->Int->Int
 | 0,k=>k+1
 |f+1,k=>if yX ts es (vN (k+1))=true then k+1 else zu ts es f (k+1)
end YA
namespace YB
open P1 YX YA
def qp(ts:TS)(es:List (ByteArray×Bool)):Nat:=es.length+ts.fields.length+3*ts.sorts.length+1
def renI(ts:TS)(es:List (ByteArray×Bool))(env:IEnv)(nm:ByteArray)(body:Bool)(s:ISt):(IEnv×ByteArray)×ISt:=
 if body=true\/means ts nm≠[] then
  ((setK nm ⟨none,0,vN (zu ts es (qp ts es) s.last)⟩ (delK nm env),vN (zu ts es (qp ts es) s.last)),⟨zu ts es (qp ts es) s.last,s.cost⟩)
 else ((delK nm env,nm),s)
theorem gn{j C:Type} [DecidableEq j] {k:j} {v:C}:∀{es:List (j×C)},(es.map Prod.fst).Nodup->∀{x:j×C},x∈setK k v es↔x=(k,v)\/(x∈es/\x.1≠k)
 | [],_,x=>by simp[setK]
 |e :: es,h,x=>by
  rw[yS,jw]at h;unfold setK;by_cases i:k=e.1
  .rw [if_pos i,qu,qu]
   constructor
   .rintro (g|g)
    .exact .inl g
    .exact .inr ⟨.inr g,fun l=>h.1 (qk.2 ⟨x,g,by rw[l,i]⟩)⟩
   .rintro (g|⟨g|g,o⟩)
    .exact .inl g
    .exact absurd (by rw[g,i]) o
    .exact .inr g
  .rw [if_neg i,qu,qu,gn h.2]
   constructor
   .rintro (g|g|g)
    .exact .inr ⟨.inl g,fun l=>i (by rw[<-l,g])⟩
    .exact .inl g
    .exact .inr ⟨.inr g.1,g.2⟩
   .rintro (g|⟨g|g,o⟩)
    .exact .inr (.inl g)
    .exact .inl g
    .exact .inr (.inr ⟨g,o⟩)
end YB
namespace Q9
open Y1
def gq(nm:ByteArray)(p:Int):Nd := .mk 1 nm 0 [] p
end Q9
namespace PA
open P1 P2 Y1 Y2 Y9 Y15 Y16 Q6
section
variable {inn:Bool}{c c':Ck}{s s':Scp}
def ue(nm:ByteArray)(n:Nd):Prop:=anyN (fun n=>decide (n.name=nm)) n=true
theorem gr{p:Nd->Bool}:∀{ks:List Nd},j6 p ks=true↔∃ k,k∈ks/\anyN p k=true
 | []=>by simp[j6]
 |k :: ks=>by
  simp only[j6,vF,gr (ks:=ks),qu];constructor
  .rintro (h|⟨x,g,h⟩)
   .exact ⟨k,.inl rfl,h⟩
   .exact ⟨x,.inr g,h⟩
  .rintro ⟨x,rfl|g,h⟩
   .exact .inl h
   .exact .inr ⟨x,g,h⟩
theorem qg0(n:Nd):ue n.name n:=by
 unfold ue;rw[Va];simp
theorem qg1{n k:Nd}{nm:ByteArray}(g:k∈n.kids)(h:ue nm k):ue nm n:=by
 unfold ue at h⊢;rw[Va,vF];exact .inr (gr.2 ⟨k,g,h⟩)
def zl(nm:ByteArray)(s:Scp):Option Kd:=(jC nm s).head?.map Prod.snd
theorem qg2(nm:ByteArray):zl nm []=none:=rfl
theorem uT(nm:ByteArray)(v:ByteArray×Kd)(s:Scp):zl nm (v :: s)=if v.1=nm then some v.2 else zl nm s:=by
 unfold zl;rw[jC];split<;>rfl
theorem wv(c:Ck)(s:Scp)(nm:ByteArray)(pos:Int):yV c s nm pos=match zl nm s with
  |some k => .ok (some k)
  |none=>match means c.ts nm with
   | [] => .error (40,pos)
   | [k] => .ok (some k)
   |_ => .error (44,pos):=by
 unfold yV zl;cases jC nm s with
 |nil=>rfl
 |cons v r=>rfl
theorem gt{n n':Nd}(j:n'.op=n.op)(l:n'.name=n.name)(r:n'.n=n.n)(t:n'.pos=n.pos)
  (C:zF c' n.op n.name=zF c n.op n.name) (I:n.op=1->yV c s n.name n.pos=yV c' s' n.name n.pos) (o:c'.ts.preds=c.ts.preds) (g:zb c' n.name=zb c n.name)
  (p:c'.ts.sorts.length=c.ts.sorts.length) (i:n'.kids.length=n.kids.length)
  (J:n.op=47->∀ ps,z6 c s n.pos ps n.kids=z6 c' s' n.pos ps n'.kids)
  (hB:(n.op=15\/n.op=45\/n.op=46)->∀ inn,zH c s inn n.name n.pos n.kids=zH c' s' inn n.name n.pos n'.kids)
  (P:¬n.op=1->¬n.op=47->¬(n.op=15\/n.op=45\/n.op=46)->∀ inn,qP c s inn n.kids=qP c' s' inn n'.kids):exam c s inn n=exam c' s' inn n':=by
 rw[yw,yw,j,l,r,t,C,o,g,p,i];by_cases a:(inn&&zF c n.op n.name)=true
 .rw [if_pos a,if_pos a]
 rw[if_neg a,if_neg a];by_cases b:n.op=1
 .rw [if_pos b,if_pos b];exact I b
 rw[if_neg b,if_neg b];by_cases d:n.op=47
 .rw [if_pos d,if_pos d]
  simp only[J d]
 rw[if_neg d,if_neg d];by_cases e:n.op=15\/n.op=45\/n.op=46
 .rw [if_pos e,if_pos e];exact hB e _
 rw[if_neg e,if_neg e,P b d e]
theorem gu(f:Nd->Nd):∀{ks:List Nd},(∀ k,k∈ks->exam c s inn k=exam c' s' inn (f k))->qP c s inn ks=qP c' s' inn (ks.map f)
 | [],_=>rfl
 |k :: ks,h=>by
  simp only[yS,qP];rw[h k (qR ..),gu f fun g i=>h g (qK _ i)]
theorem gw{pos:Int}(f:Nd->Nd):∀{ks:List Nd} {ps:List (ByteArray×Int)},(∀ k,k∈ks->exam c s true k=exam c' s' true (f k))->z6 c s pos ps ks=z6 c' s' pos ps (ks.map f)
 | [],ps,_=>by cases ps<;>rfl
 |k :: ks,[],_=>rfl
 |k :: ks,p :: ps,h=>by
  simp only[yS,z6];rw[h k (qR ..),gw f (ps:=ps) fun g i=>h g (qK _ i)]
theorem Vk{ks:List Nd}(h:∀ k,k∈ks->exam c s inn k=exam c' s' inn k):qP c s inn ks=qP c' s' inn ks:=by
 have:=gu (c:=c) (c':=c') (s:=s) (s':=s') (inn:=inn) id (ks:=ks) h
 rwa[List.map_id]at this
theorem gx{pos:Int}{ks:List Nd}{ps:List (ByteArray×Int)}(h:∀ k,k∈ks->exam c s true k=exam c' s' true k):z6 c s pos ps ks=z6 c' s' pos ps ks:=by
 have:=gw (c:=c) (c':=c') (s:=s) (s':=s') (pos:=pos) id (ks:=ks) (ps:=ps) h
 rwa[List.map_id]at this
structure uf (c c':Ck):Prop where
 preds:c'.ts.preds=c.ts.preds
 sorts:c'.ts.sorts=c.ts.sorts
 fields:c'.ts.fields=c.ts.fields
 calls:c'.calls=c.calls
 timed:c'.timed=c.timed
theorem uf.refl(c:Ck):uf c c:=⟨rfl,rfl,rfl,rfl,rfl⟩
theorem uf.callee(h:uf c c')(nm:ByteArray):zb c' nm=zb c nm:=by
 unfold zb;rw[h.preds,h.calls]
theorem uf.time(h:uf c c')(op:Int)(nm:ByteArray):zF c' op nm=zF c op nm:=by
 unfold zF;rw[h.callee,h.timed]
theorem uf.means(h:uf c c')(nm:ByteArray):means c'.ts nm=means c.ts nm:=by
 unfold P1.means;rw[h.fields,h.sorts]
theorem gy(o:uf c c'):∀(m:Nat) (n:Nd) (s s':Scp) (inn:Bool),szN n<=m->(∀ nm,ue nm n->zl nm s=zl nm s')->exam c s inn n=exam c' s' inn n
 | 0,n,_,_,_,P,_=>by obtain⟨op,nm,i,ks,p⟩:=n;simp[szN]at P
 |m+1,n,s,s',inn,P,h=>by
  have l:∀ k,k∈n.kids->∀(s s':Scp) (inn:Bool),(∀ nm,ue nm k->zl nm s=zl nm s')->exam c s inn k=exam c' s' inn k:=fun k l s s' inn R =>
   gy o m k s s' inn (zW1 (yv l)) R
  have t:∀ k,k∈n.kids->∀ nm,ue nm k->zl nm s=zl nm s':=fun k l nm T=>h nm (qg1 l T)
  refine gt rfl rfl rfl rfl (o.time _ _) (fun _=>?_) o.preds (o.callee _) (by rw[o.sorts]) rfl (fun _ ps=>gx fun k g=>l k g s s' true (t k g)) (fun _ inn=>?_) (fun _ _ _ inn=>Vk fun k g=>l k g s s' inn (t k g))
  .rw [wv,wv,h _ (qg0 n),o.means]
  .cases C:n.kids with
   |nil=>rfl
   |cons k ks =>
    have j:∀ x,x∈k :: ks->x∈n.kids:=fun x I=>by rw[C];exact I
    simp only[zH];rw[l k (j k (qR ..)) s s' inn (t k (j k (qR ..)))];have U:∀ a,qP c ((n.name,a) :: s) inn ks=qP c' ((n.name,a) :: s') inn ks:=fun a=>Vk fun x I=>by
     have r:=j x (qK _ I);refine l x r _ _ inn fun nm J=>?_
     rw[uT,uT,t x r nm J]
    simp only[U]
def wf(ts:TS)(g:List (ByteArray×Nd)):TS:=⟨ts.sorts,ts.fields,ts.preds,g⟩
theorem qg3{C:Type}(g:C->C->Bool)(l:List C)(i:Nat):(repL g l)[i]?=(l[i]?).map fun x=>(l.take i).any fun y=>g x y:=by
 by_cases h:i<l.length
 .rw [kV g l h,qv h];rfl
 .rw [yC (by rw[uO];omega),yC zOm];rfl
theorem gA{C:Type}(g:C->C->Bool)(l:List C)(i:Nat):repB g l i=match l[i]? with|some x=>[(l.take i).any fun y=>g x y] | none=>[]:=by
 unfold repB;rw[List.take_add_one,qg3,List.drop_append];by_cases h:i<l.length
 .rw [qv h,List.length_take,uO,Nat.min_eq_left zOm,List.drop_of_length_le zSo]
  simp
 .rw [yC zOm,List.drop_of_length_le zSo]
  simp
def binB(op:Int):Bool:=decide (op=15)||decide (op=45)||decide (op=46)
end
end PA
namespace YC
open P1 Y1 YX YZ YA YB PA
section
variable {env:IEnv}{s:ISt}{es:List (ByteArray×Bool)}{F:Nat}{ts:TS}
abbrev XR(C:Type):=Except Dg (C×ISt)
def yY(E:Nd->ISt->XR (Nd×Int)):List (ByteArray×Int)->List Nd->IEnv->ISt->XR IEnv
 |p :: g,k :: ks,own,s=>match E k s with
  | .error e => .error e
  | .ok ((i,m),j)=>yY E g ks (setK p.1 ⟨some i,m,⟨#[]⟩⟩ own) j
 |_,_,own,s => .ok (own,s)
def yN(E:IEnv->Nd->ISt->XR (Nd×Int))(R:IEnv->ByteArray->ISt->(IEnv×ByteArray)×ISt)(bin:Bool):Nat->IEnv->ByteArray->List Nd->ISt->XR (ByteArray×List Nd×Int)
 |_,_,t,[],s => .ok ((t,[],0),s)
 |i,env,t,k :: ks,s =>
  let r:=if bin=true/\i=1 then R env t s else ((env,t),s)
  match E r.1.1 k r.2 with
  | .error e => .error e
  | .ok ((o,m),p)=>match yN E R bin (i+1) r.1.1 r.1.2 ks p with
   | .error e => .error e
   | .ok ((g,j,C),l) => .ok ((g,o :: j,m+C),l)
def w8{C i:Type}(q:XR C)(g:C->ISt->XR i):XR i:=
 match q with
 | .error e => .error e
 | .ok (a,s)=>g a s
theorem Zi{C i:Type}{q:XR C}{g:C->ISt->XR i}{r:i×ISt}(h:w8 q g = .ok r):∃ a s,q = .ok (a,s)/\g a s = .ok r:=by
 unfold w8 at h;split at h
 .cases h
 .exact ⟨_,_,rfl,h⟩
def expI(ts:TS)(es:List (ByteArray×Bool)):Nat->IEnv->Nd->Bool->ISt->XR (Nd×Int)
 | 0,_,_,_,_ => .error (2,0)
 |f+1,env,n,i,s =>
  if s.cost+1<=4000 then
   if n.op=1 then wq env n (payS 1 s)
   else if n.op=47 then match ts.preds.find? fun p=>decide (p.name=n.name) with
    |none => .error (2,0)
    |some p=>w8 (yY (fun k s=>expI ts es f env k i s) p.params n.kids [] (payS 1 s)) fun own g=>expI ts es f own p.body true g
   else w8 (yN (fun env k s=>expI ts es f env k i s) (fun env t s=>renI ts es env t i s) (binB n.op) 0 env n.name n.kids (payS 1 s)) fun r g => .ok ((.mk n.op r.1 n.n r.2.1 n.pos,1+r.2.2),g)
  else .error (2,0)
def js(ts:TS)(n:Nd):Prop:=∀ x,x∈preN n->x.op=47->∃ p,(ts.preds.find? fun p=>decide (p.name=x.name))=some p/\p.params.length=x.kids.length
theorem qg4{ks:List Nd}{k x:Nd}(g:k∈ks)(i:x∈preN k):x∈zj ks:=by
 induction ks with
 |nil=>simp at g
 |cons a l j =>
  simp only[zj,qC];rcases qu.1 g with rfl|g
  .exact .inl i
  .exact .inr (j g)
theorem WO{n k x:Nd}(g:k∈n.kids)(i:x∈preN k):x∈preN n:=by
 rw[uS];exact qK _ (qg4 g i)
theorem vu(n:Nd):n∈preN n:=by rw[uS];exact qR ..
theorem js.kid{n k:Nd}(h:js ts n)(g:k∈n.kids):js ts k:=fun x i=>h x (WO g i)
def pot(F:Nat)(s:ISt):Int:=s.cost*F-s.last
structure StOk (F:Nat) (s:ISt):Prop where
 l0:0<=s.last
 c0:0<=s.cost
 c1:s.cost<=4000
 p:0<=pot F s
theorem StOk.last(h:StOk F s):s.last<=4000*F:=by
 have g:s.cost*F<=4000*F:=Int.mul_le_mul_of_nonneg_right h.c1 zOm;have:=h.p;unfold pot at this;omega
structure qW (env:IEnv):Prop where
 nd:(env.map Prod.fst).Nodup
 sz:∀ e,e∈env->0<=e.2.size/\e.2.size<=4000
theorem qW.nil:qW []:=⟨zSp,fun e g=>by simp at g⟩
theorem qW.set(h:qW env){k:ByteArray}{v:IV}(i:0<=v.size/\v.size<=4000):qW (setK k v env):=
 ⟨UX h.nd,fun e g=>by
  rcases (gn h.nd).1 g with rfl|⟨g,_⟩
  .exact i
  .exact h.sz e g⟩
theorem qW.del(h:qW env){k:ByteArray}:qW (delK k env):=⟨qdK h.nd,fun e g=>h.sz e ((kv h.nd).1 g).1⟩
theorem Vl{nm:ByteArray}{body:Bool}(h:qW env):qW (renI ts es env nm body s).1.1:=by
 unfold renI;split
 .exact h.del.set ⟨zSp,zSp⟩
 .exact h.del
theorem WP(ts:TS)(es:List (ByteArray×Bool)):∀(f:Nat) (k:Int),k<zu ts es f k/\zu ts es f k<=k+f+1
 | 0,k=>by simp only[zu];omega
 |f+1,k=>by
  simp only[zu];have:=WP ts es f (k+1);split<;>omega
theorem WQ{ts:TS}{es:List (ByteArray×Bool)}:∀{f:Nat} {k:Int},(∃ j:Nat,1<=j/\j<=f/\yX ts es (vN (k+j))=true)->zu ts es f k<=k+f
 | 0,k,⟨j,i,l,_⟩=>zOm
 |f+1,k,⟨j,i,l,g⟩=>by
  simp only[zu];split
  .omega
  .rename_i o
   have p:j≠1:=fun e=>by subst e;exact o g
   have:=WQ (ts:=ts) (es:=es) (f:=f) (k:=k+1) ⟨j-1,zOm,zOm,by rw[show k+1+((j-1:Nat):Int)=k+j by omega];exact g⟩;omega
def Free(ts:TS)(es:List (ByteArray×Bool)):Prop:=∀ l:Int,0<=l->∃ j:Nat,1<=j/\j<=qp ts es/\yX ts es (vN (l+j))=true
theorem Vm(g:Free ts es){env:IEnv}{nm:ByteArray}{body:Bool}{s:ISt}(i:0<=s.last):0<=(renI ts es env nm body s).2.last/\(renI ts es env nm body s).2.last<=s.last+(qp ts es:Nat)/\(renI ts es env nm body s).2.cost=s.cost:=by
 unfold renI;split
 .have l:=WP ts es (qp ts es) s.last
  have j:=WQ (g s.last i);refine⟨?_,j,rfl⟩;show 0<=zu ts es (qp ts es) s.last;omega
 .exact ⟨i,by show s.last<=_;omega,rfl⟩
structure Gos (F:Nat) (s s':ISt) (z:Int):Prop where
 l0:0<=s'.last
 c1:s'.cost<=4000
 z0:0<=z
 cz:s.cost+z<=s'.cost
 p:pot F s<=pot F s'
theorem Gos.ok{s':ISt}{z:Int}(g:Gos F s s' z)(h:StOk F s):StOk F s':=⟨g.l0,by have:=g.cz;have:=g.z0;have:=h.c0;omega,g.c1,zW2 g.p h.p⟩
theorem Zj(F:Nat)(s:ISt)(n:Int):pot F (payS n s)=pot F s+n*F:=by
 unfold pot payS;simp only[Int.add_mul];omega
theorem w9(h:StOk F s){n:Int}(g:0<=n)(i:s.cost+n<=4000):Gos F s (payS n s) n:=
 ⟨h.l0,i,g,jv _,by rw[Zj];have:0<=n*(F:Int):=Int.mul_nonneg g zOm;omega⟩
theorem qg5{n n':Nd}{s':ISt}{z:Int}(h:StOk F s)(o:qW env)(t:s.cost+1<=4000)(e:wq env n (payS 1 s) = .ok ((n',z),s')):Gos F s s' z:=by
 have i:=w9 h (n:=1) zOm t;unfold wq at e;cases l:getK n.name env with
 |none=>rw[l]at e;cases e;exact i
 |some v =>
  rw[l]at e;have C:=o.sz _ ((Z3 o.nd).1 l);obtain⟨I,r,P⟩:=v;cases I with
  |none=>cases e;exact i
  |some a =>
   simp only at e;split at e
   .rename_i J
    have j:0<=r/\r<=4000:=C;cases e;have g:=w9 (i.ok h) j.1 J;exact⟨g.l0,g.c1,j.1,zW2 g.cz i.cz,zW2 g.p i.p⟩
   .cases e
theorem WR{E:Nd->ISt->XR (Nd×Int)}:∀{ks:List Nd} {ps:List (ByteArray×Int)} {own i:IEnv} {s s':ISt},(∀ k n' z s s',k∈ks->StOk F s->E k s = .ok ((n',z),s')->Gos F s s' z)->StOk F s->qW own ->
  yY E ps ks own s = .ok (i,s')->qW i/\Gos F s s' 0
 | [],ps,own,i,s,s',_,h,j,e=>by
  have e:Except.ok (own,s)=(Except.ok (i,s'):XR IEnv):=by cases ps<;>exact e
  cases e;exact⟨j,h.l0,h.c1,zOm,zOm,jv _⟩
 |k :: ks,[],own,i,s,s',_,h,j,e=>by
  cases e;exact⟨j,h.l0,h.c1,zOm,zOm,jv _⟩
 |k :: ks,p :: ps,own,i,s,s',o,h,j,e=>by
  simp only[yY]at e;split at e
  .cases e
  .rename_i r m s1 t
   have g:=o k r m s s1 (qR ..) h t;have C:m<=4000:=by have:=g.cz;have:=g.c1;have:=h.c0;omega
   obtain⟨I,l⟩:=WR (fun k n' z s s' J=>o k n' z s s' (qK _ J)) (g.ok h) (j.set (v:=⟨some r,m,⟨#[]⟩⟩) ⟨g.z0,C⟩) e;exact⟨I,l.l0,l.c1,zOm,by have:=g.cz;have:=g.z0;have:=l.cz;omega,zW2 g.p l.p⟩
def dueN(F:Nat)(bin:Bool)(i:Nat):Int:=if bin=true/\i<=1 then F else 0
theorem Vn(F:Nat)(bin:Bool)(i:Nat):0<=dueN F bin i:=by unfold dueN;split<;>omega
theorem gB{bin:Bool}{i:Nat}(h:¬(bin=true/\i=1)):dueN F bin i=dueN F bin (i+1):=by
 unfold dueN;by_cases g:bin=true
 .by_cases j:i=1
  .exact absurd ⟨g,j⟩ h
  .by_cases l:i<=1
   .rw [if_pos ⟨g,l⟩,if_pos ⟨g,zOm⟩]
   .rw [zIn,zIn]
 .rw [if_neg (fun h=>g h.1),if_neg (fun h=>g h.1)]
theorem gC{E:IEnv->Nd->ISt->XR (Nd×Int)}{R:IEnv->ByteArray->ISt->(IEnv×ByteArray)×ISt}{bin:Bool}(hR:∀ env nm s,0<=s.last->qW env->qW (R env nm s).1.1/\0<=(R env nm s).2.last/\(R env nm s).2.last<=s.last+(F:Int)/\(R env nm s).2.cost=s.cost) :
  ∀{ks:List Nd} {i:Nat} {env:IEnv} {nm l:ByteArray} {s s':ISt} {o:List Nd} {m:Int},(∀ env k n' z s s',k∈ks->StOk F s->qW env->E env k s = .ok ((n',z),s')->Gos F s s' z)->0<=s.last->0<=s.cost->s.cost<=4000->dueN F bin i<=pot F s->qW env ->
  yN E R bin i env nm ks s = .ok ((l,o,m),s')->0<=s'.last/\s'.cost<=4000/\0<=m/\s.cost+m<=s'.cost/\pot F s-dueN F bin i<=pot F s'
 | [],i,env,nm,l,s,s',o,m,_,C,c0,c1,hp,J,e=>by
  cases e;have:=Vn F bin i;exact⟨C,c1,zOm,zOm,zOm⟩
 |k :: ks,i,env,nm,l,s,s',o,m,hE,C,c0,c1,hp,J,e=>by
  simp only[yN]at e;obtain⟨r,t⟩:∃ r,r=if bin=true/\i=1 then R env nm s else ((env,nm),s):=⟨_,rfl⟩
  rw[<-t]at e;have P:qW r.1.1/\0<=r.2.last/\r.2.cost=s.cost/\dueN F bin (i+1)<=pot F r.2/\pot F s-dueN F bin i<=pot F r.2-dueN F bin (i+1):=by
   by_cases I:bin=true/\i=1
   .rw [if_pos I]at t
    obtain⟨a1,a2,a3,a4⟩:=hR env nm s C J;have d1:dueN F bin i=F:=if_pos ⟨I.1,zOm⟩;have d2:dueN F bin (i+1)=0:=zIn;subst t;have a0:pot F s-F<=pot F (R env nm s).2:=by unfold pot;rw[a4];omega
    rw[d1]at hp;rw[d1,d2];exact⟨a1,a2,a4,zOm,zOm⟩
   .rw [if_neg I]at t
    subst t;have d':dueN F bin i=dueN F bin (i+1)\/(bin=true/\i=1):=by
     unfold dueN;by_cases j:bin=true
     .by_cases T:i=1
      .exact .inr ⟨j,T⟩
      .left
       by_cases h0:i<=1
       .rw [if_pos ⟨j,h0⟩,if_pos ⟨j,zOm⟩]
       .rw [zIn,zIn]
     .left;rw[if_neg (fun h=>j h.1),if_neg (fun h=>j h.1)]
    have a5:dueN F bin i=dueN F bin (i+1):=d'.elim id fun h=>absurd h I
    exact⟨J,C,rfl,by show _<=pot F s;omega,by show _<=pot F s-_;omega⟩
  obtain⟨b1,b2,b3,b4,b5⟩:=P;split at e
  .cases e
  .rename_i k' m1 s1 T
   have U:StOk F r.2:=⟨b2,zOm,zOm,zW1 (Vn F bin (i+1))⟩;have g:=hE r.1.1 k k' m1 r.2 s1 (qR ..) U b1 T;split at e
   .cases e
   .rename_i a6 a7 m2 s2 h2
    have:=gC hR (fun env k n' z s s' hk=>hE env k n' z s s' (qK _ hk)) g.l0 (zW2 g.cz g.z0) g.c1 (zW1 g.p) b1 h2;obtain⟨q1,q2,q3,q4,q5⟩:=this;cases e;have:=g.cz;have:=g.z0;have:=g.p;exact⟨q1,q2,zOm,zOm,zOm⟩
theorem j7(ts:TS){es:List (ByteArray×Bool)}(g:Free ts es):∀(f:Nat) {env:IEnv} {n n':Nd} {body:Bool} {s s':ISt} {z:Int},StOk (qp ts es) s->qW env->expI ts es f env n body s = .ok ((n',z),s')->Gos (qp ts es) s s' z
 | 0,_,_,_,_,_,_,_,_,_,e=>by cases e
 |f+1,env,n,n',body,s,s',z,h,r,e=>by
  simp only[expI]at e;split at e
  .rename_i R
   have i:=w9 h (n:=1) zOm R;split at e
   .exact qg5 h r R e
   .split at e
    .split at e
     .cases e
     .rename_i p _
      .obtain ⟨own,s1,C,e⟩:=Zi e
       obtain⟨T,g1⟩:=WR (F:=qp ts es) (fun k n' z s s' _ I J=>j7 ts g f I r J) (i.ok h) .nil C;have j:=j7 ts g f (g1.ok (i.ok h)) T e;exact⟨j.l0,j.c1,j.z0,by have:=j.cz;have:=g1.cz;have:=i.cz;omega,by have:=j.p;have:=g1.p;have:=i.p;omega⟩
    ·.obtain ⟨⟨l,o,m⟩,s1,C,e⟩:=Zi e
      cases e;have U:dueN (qp ts es) (binB n.op) 0<=pot (qp ts es) (payS 1 s):=by
       rw[Zj];have:=h.p;unfold dueN;split<;>omega
      have:=gC (F:=qp ts es) (fun env t s hl P=>⟨Vl P,Vm g hl⟩) (fun env k n' z s s' _ I P J=>j7 ts g f I P J) i.l0 (by have:=(i.ok h).c0;exact this) i.c1 U r C;obtain⟨q1,q2,q3,q4,q5⟩:=this;have a0:dueN (qp ts es) (binB n.op) 0<=(qp ts es:Nat):=by unfold dueN;split<;>omega
      rw[Zj]at q5;have a1:0<=(l,o,m).snd.snd:=q3;have a2:(payS 1 s).cost+(l,o,m).snd.snd<=s'.cost:=q4;exact⟨q1,q2,zOm,zW1 i.cz,zOm⟩
  .cases e
end
end YC
namespace E6
end E6
namespace YD
open Y1
theorem gD{lo sz:Nat}{mu l:Mu}{av:AV}{xs:List (List AV)}(h:OwnF lo mu sz av xs)(o:lo<=l.length)(p:∀ i,lo<=i->i<mu.length->l[i]?=mu[i]?):OwnF lo l sz av xs:=by
 obtain⟨r,g,_⟩:=h;refine⟨?_,g,o⟩;rcases r with rfl|⟨b,rfl,j⟩
 .exact .inl rfl
 .exact .inr ⟨b,rfl,by rw[p b (g b _ _ _ rfl) (qe.1 j).1];exact j⟩
theorem WS(l:List Nd):zg 5 (l.map cNd):=fun r g=>by
 obtain⟨n,_,rfl⟩:=qk.1 g;exact⟨Z1 n,JS n⟩
theorem appNd{mu:Mu}{lo:Nat}{s:AV}{xs:List Nd}{k:Nd}{K:AV->Mu->Prop}(g:OwnF lo mu 5 s (xs.map cNd))(t:xs.length<=100000)(o:∀ av l,OwnF lo l 5 av ((xs++[k]).map cNd)->(∀ i,i<lo->l[i]?=mu[i]?)->K av l) :
  qA qb mu #[33,33] s (.lst true [cNd k]) K:=by
 refine qA.ownF (lo:=lo) (e:=35) (sz:=5) (bt:=64) (zv := .agg [aI 0,aS ⟨#[]⟩,aI 0,.lst true [],aI 0]) (xs:=xs.map cNd) (ys:=[cNd k]) zSi zSi zSi rfl rfl zOm zOm g (by simp[qH]) (WS xs) (WS [k]) zSo ?_;intro av l h r;exact o av l (by rw[zd];exact h) r
end YD
namespace YE
open P1 P2 Y1 Y9 YX YZ YB YC
mutual
def cntT:Nd->Int
 | .mk _ _ _ ks _=>1+yp ks
def yp:List Nd->Int
 | []=>0
 |k :: ks=>cntT k+yp ks
end
theorem WT(n:Nd):cntT n=1+yp n.kids:=by
 obtain⟨op,t,i,ks,p⟩:=n;simp[cntT,Nd.kids]
mutual
theorem WU:∀ n:Nd,1<=cntT n
 | .mk _ _ _ ks _=>by simp only[cntT];have:=Vo ks;omega
theorem Vo:∀ ks:List Nd,0<=yp ks
 | []=>by simp[yp]
 |k :: ks=>by simp only[yp];have:=WU k;have:=Vo ks;omega
end
mutual
theorem gE:∀ n:Nd,depN n<=cntT n
 | .mk _ _ _ ks _=>by simp only[cntT,depN];have:=gF ks;omega
theorem gF:∀ ks:List Nd,z8 ks<=yp ks
 | []=>by simp[z8,yp]
 |k :: ks=>by
  simp only[yp,z8];have:=gE k;have:=gF ks;have:=WU k;have:=Vo ks;omega
end
section
variable {C:Type}{R:IEnv->ByteArray->ISt->(IEnv×ByteArray)×ISt}{es:List (ByteArray×Bool)}{E:Nd->ISt->XR (Nd×Int)}
def vw(env:IEnv):Prop:=∀ e,e∈env->∀ a,e.2.arg=some a->e.2.size=cntT a/\yf a
theorem WV{g:Type} [DecidableEq g] {k:g} {v:C}:∀{es:List (g×C)},getK k es=some v->(k,v)∈es
 | [],h=>by simp[getK]at h
 |e :: es,h=>by
  unfold getK at h;split at h
  .rename_i i;cases h;subst i;exact qR ..
  .exact qK _ (WV h)
theorem Vp{g:Type} [DecidableEq g] {k:g} {v:C}:∀{es:List (g×C)} {x:g×C},x∈setK k v es->x=(k,v)\/x∈es
 | [],x,h=>by simp[setK]at h;exact .inl h
 |e :: es,x,h=>by
  unfold setK at h;split at h
  .rcases qu.1 h with h|h
   .exact .inl h
   .exact .inr (qK _ h)
  .rcases qu.1 h with h|h
   .exact .inr (by rw[h];exact qR ..)
   .exact (Vp h).imp id (qK _)
theorem qg6{ts:TS}{env:IEnv}{nm:ByteArray}{body:Bool}{s:ISt}(h:vw env):vw (renI ts es env nm body s).1.1:=by
 have i:vw (delK nm env):=fun e g=>h e (UY.subset g)
 unfold renI;split
 .intro e g a j
  rcases Vp g with rfl|g
  .cases j
  .exact i e g a j
 .exact i
theorem gG:∀{ks:List Nd} {ps:List (ByteArray×Int)} {own g:IEnv} {s s':ISt},(∀ k n' z s s',k∈ks->E k s = .ok ((n',z),s')->z=cntT n'/\yf n')->vw own->yY E ps ks own s = .ok (g,s')->vw g
 | [],ps,own,g,s,s',_,i,e=>by
  have e:Except.ok (own,s)=(Except.ok (g,s'):XR IEnv):=by cases ps<;>exact e
  cases e;exact i
 |k :: ks,[],own,g,s,s',_,i,e=>by cases e;exact i
 |k :: ks,p :: ps,own,g,s,s',l,i,e=>by
  simp only[yY]at e;split at e
  .cases e
  .rename_i C m s1 r
   refine gG (fun k n' z s s' t=>l k n' z s s' (qK _ t)) (fun e j a o=>?_) e;rcases Vp j with rfl|j
   .cases o
    exact l k _ m s s1 (qR ..) r
   .exact i e j a o
theorem gH{E:IEnv->Nd->ISt->XR (Nd×Int)}{bin:Bool}(C:∀ env nm s,vw env->vw (R env nm s).1.1) :
  ∀{ks:List Nd} {i:Nat} {env:IEnv} {nm l:ByteArray} {s s':ISt} {j:List Nd} {m:Int},(∀ env k n' z s s',k∈ks->vw env->E env k s = .ok ((n',z),s')->z=cntT n'/\yf n')->vw env ->
  yN E R bin i env nm ks s = .ok ((l,j,m),s')->m=yp j/\j.length=ks.length/\∀ k,k∈j->yf k
 | [],i,env,nm,l,s,s',j,m,_,_,e=>by
  cases e;exact⟨rfl,rfl,fun k p=>absurd p qD⟩
 |k :: ks,i,env,nm,l,s,s',j,m,I,J,e=>by
  simp only[yN]at e;obtain⟨r,P⟩:∃ r,r=if bin=true/\i=1 then R env nm s else ((env,nm),s):=⟨_,rfl⟩
  rw[<-P]at e;have o:vw r.1.1:=by
   rw[P];split
   .exact C _ _ _ J
   .exact J
  split at e
  .cases e
  .rename_i T U s1 h1
   have g:=I r.1.1 k T U r.2 s1 (qR ..) o h1;split at e
   .cases e
   .rename_i a0 a1 m2 s2 h2
    obtain⟨q1,q2,q3⟩:=gH C (fun env k n' z s s' p=>I env k n' z s s' (qK _ p)) o h2;cases e;refine⟨by simp only[yp];rw[g.1,q1],zP1 q2,fun x t=>?_⟩;rcases qu.1 t with rfl|t
    .exact g.2
    .exact q3 x t
theorem Ym(ts:TS)(o:∀ p,p∈ts.preds->WfN p.body)(es:List (ByteArray×Bool)):∀(f:Nat) {env:IEnv} {n n':Nd} {body:Bool} {s s':ISt} {z:Int},vw env->WfN n->expI ts es f env n body s = .ok ((n',z),s')->z=cntT n'/\yf n'
 | 0,_,_,_,_,_,_,_,_,_,e=>by cases e
 |f+1,env,n,n',body,s,s',z,j,l,e=>by
  simp only[expI]at e;split at e
  .split at e
   .rename_i C
    have g:n.kids=[]:=by
     have r:=l.shape;unfold shp at r;rw[if_pos (.inl C)]at r;simp only[qj]at r;exact List.map_eq_nil_iff.1 r.symm
    unfold wq at e;split at e
    .cases e
     exact⟨by rw[WT,g];rfl,l.small⟩
    .rename_i v I
     split at e
     .cases e
      refine⟨by rw[WT];show 1=1+yp n.kids;rw[g];rfl,.mk _ (by show n.kids.length<=1000;rw[g];simp) fun k i=>?_⟩;have i:k∈n.kids:=i;rw[g]at i;exact absurd i qD
     .rename_i a T
      split at e
      .cases e
       exact j _ (WV I) _ T
      .cases e
   .split at e
    .split at e
     .cases e
     .rename_i p U
      obtain⟨own,s1,J,e⟩:=Zi e;have ho:=gG (fun k n' z s s' i P=>Ym ts o es f j (l.kid i) P) (fun e j=>absurd j qD) J;exact Ym ts o es f ho (o p (List.mem_of_find?_eq_some U)) e
    .obtain ⟨⟨a0,R,m⟩,s1,J,e⟩:=Zi e
     cases e;obtain⟨q1,q2,q3⟩:=gH (fun env t s h=>qg6 h) (fun env k n' z s s' i I P=>Ym ts o es f I (l.kid i) P) j J;refine⟨by rw[WT];show 1+m=_;rw[q1];rfl,.mk _ ?_ q3⟩;show R.length<=1000;have:=l.len;omega
  .cases e
theorem gJ:∀{ks:List Nd} {ps:List (ByteArray×Int)} {own:IEnv} {s:ISt} {d:Dg},(∀ k s d,E k s = .error d->d=(2,0))->yY E ps ks own s = .error d->d=(2,0)
 | [],ps,own,s,d,_,e=>by
  have e:Except.ok (own,s)=(Except.error d:XR IEnv):=by cases ps<;>exact e
  cases e
 |k :: ks,[],own,s,d,_,e=>by cases e
 |k :: ks,p :: ps,own,s,d,g,e=>by
  simp only[yY]at e;split at e
  .rename_i j i
   cases e;exact g _ _ _ i
  .exact gJ g e
theorem gK{E:IEnv->Nd->ISt->XR (Nd×Int)}{bin:Bool}:∀{ks:List Nd} {i:Nat} {env:IEnv} {nm:ByteArray} {s:ISt} {d:Dg},(∀ env k s d,E env k s = .error d->d=(2,0))->yN E R bin i env nm ks s = .error d->d=(2,0)
 | [],i,env,nm,s,d,_,e=>by cases e
 |k :: ks,i,env,nm,s,d,g,e=>by
  simp only[yN]at e;split at e
  .rename_i j l
   cases e;exact g _ _ _ _ l
  .split at e
   .rename_i j o
    cases e;exact gK g o
   .cases e
theorem gL{i:Type}{q:XR C}{g:C->ISt->XR i}{d:Dg}(h:w8 q g = .error d):q = .error d\/∃ a s,q = .ok (a,s)/\g a s = .error d:=by
 unfold w8 at h;split at h
 .cases h;exact .inl rfl
 .exact .inr ⟨_,_,rfl,h⟩
theorem Yn(ts:TS)(es:List (ByteArray×Bool)):∀(f:Nat) {env:IEnv} {n:Nd} {body:Bool} {s:ISt} {d:Dg},expI ts es f env n body s = .error d->d=(2,0)
 | 0,_,_,_,_,_,e=>by cases e;rfl
 |f+1,env,n,body,s,d,e=>by
  simp only[expI]at e;split at e
  .split at e
   .unfold wq at e
    split at e
    .cases e
    .split at e
     .cases e
     .split at e
      .cases e
      .cases e;rfl
   .split at e
    .split at e
     .cases e;rfl
     .rcases gL e with e|⟨own,g,i,e⟩
      .exact gJ (fun k s d h=>Yn ts es f h) e
      .exact Yn ts es f e
    .rcases gL e with e|⟨own,g,i,e⟩
     .exact gK (fun env k s d h=>Yn ts es f h) e
     .cases e
  .cases e;rfl
def outI(ts:TS)(es:List (ByteArray×Bool))(n:Nd):Except Dg Nd:=
 match expI ts es 4001 [] n false ⟨0,0⟩ with
 | .error d => .error d
 | .ok ((g,z),_)=>if z<=400/\depN g<=24 then .ok g else .error (2,n.pos)
theorem qg7{ts:TS}{n:Nd}{d:Dg}(h:outI ts es n = .error d):d.1=2:=by
 unfold outI at h;split at h
 .rename_i i g
  cases h;rw[Yn ts es _ g]
 .split at h
  .cases h
  .cases h;rfl
end
end YE
namespace YG
open YS P1 Y1 Y9 YX YZ YA YB YC YE Q6
def valD(l:List UInt8):Nat:=l.foldl (fun a b=>10*a+(b.toNat-48)) 0
theorem gM(u:Nat):valD (Lib.decDigits u)=u:=by
 induction u using Nat.strongRecOn with
 |_ u g =>
  rw[Lib.decDigits];split
  .rename_i h
   simp only[valD,List.foldl_cons,List.foldl_nil];rw[UInt8.toNat_ofNat_of_lt' (by simp[UInt8.size];omega)];omega
  .rename_i h
   have:=g (u / 10) zOm;unfold valD at this⊢;rw[Qd,this];simp only[List.foldl_cons,List.foldl_nil];rw[UInt8.toNat_ofNat_of_lt' (by simp[UInt8.size];omega)];omega
theorem qg8{a b:Nat}(h:jd (a:Int)=jd (b:Int)):a=b:=by
 have g:Lib.decDigits a=Lib.decDigits b:=by
  unfold jd Lib.itoa at h;rw[zIn,zIn]at h;simp only[Int.toNat_natCast]at h;have h:=congrArg (fun x:ByteArray=>x.data.toList) h;simpa using h
 rw[<-gM a,g,gM]
theorem qg9{p a b:ByteArray}(h:p++a=p++b):a=b:=by
 have h:=congrArg (fun x:ByteArray=>x.data.toList) h;simp only[ByteArray.data_append,Array.toList_append]at h;have:=List.append_cancel_left h;cases a;cases b;simp at this;rw[this]
theorem gN{a b:Nat}(h:vN (a:Int)=vN (b:Int)):a=b:=qg8 (qg9 h)
def badL(ts:TS)(es:List (ByteArray×Bool)):List ByteArray:=es.map Prod.fst++(ts.fields.map (fun f=>f.name)++ts.sorts.flatMap fun s=>[s.1,s.1++uH,s.1++uI])
theorem qhA(ts:TS)(es:List (ByteArray×Bool)):(badL ts es).length+1=qp ts es:=by
 have:∀ l:List (ByteArray×Bool),(l.flatMap fun s=>[s.1,s.1++uH,s.1++uI]).length=3*l.length:=by
  intro l;induction l with
  |nil=>rfl
  |cons a l g=>rw[wC,qU,g];simp;omega
 unfold badL qp;rw[qU,qU,this,zJ,zJ];omega
theorem qhB{ts:TS}{es:List (ByteArray×Bool)}{nm:ByteArray}(h:yX ts es nm=false):nm∈badL ts es:=by
 unfold yX at h;unfold badL;rw[Bool.and_eq_false_iff]at h;rcases h with h|h
 .have h:getK nm es=some true:=by simpa using h
  exact yA _ (qk.2 ⟨_,WV h,rfl⟩)
 .refine List.mem_append_right _ ?_
  have h:means ts nm≠[]:=zUs h;unfold means at h;by_cases hf:j5 ts.fields nm=[]
  .rw [hf,List.nil_append]at h
   refine List.mem_append_right _ ?_;have:∀(g:List (ByteArray×Bool)) (i:Nat),vY i g nm≠[]->nm∈g.flatMap fun s=>[s.1,s.1++uH,s.1++uI]:=by
    intro g;induction g with
    |nil=>intro i h;exact absurd rfl h
    |cons s g t =>
     intro i h;rw[wC,qC];by_cases j:wX i s nm=[]
     .refine .inr (t (i+1) ?_)
      simpa[vY,j] using h
     .left
      unfold wX at j;by_cases l:s.1=nm
      .simp [l]
      by_cases o:s.2=true/\s.1++uH=nm
      .simp [o.2]
      by_cases p:s.2=true/\s.1++uI=nm
      .simp [p.2]
      exact absurd (by simp[l,o,p]) j
   exact this ts.sorts 0 h
  .refine yA _ ?_
   obtain⟨k,r⟩:=List.exists_mem_of_ne_nil _ hf;unfold j5 at r;obtain⟨f,hf,e⟩:=List.mem_filterMap.1 r;split at e
   .rename_i C
    exact qk.2 ⟨f,hf,C⟩
   .cases e
theorem gO(ts:TS)(es:List (ByteArray×Bool)):Free ts es:=by
 intro l J;by_cases g:∃ j:Nat,1<=j/\j<=qp ts es/\yX ts es (vN (l+j))=true
 .exact g
 exfalso;obtain⟨L,rfl⟩:∃ L:Nat,l=L:=⟨l.toNat,zOm⟩;have o:∀ x,x∈(qo (qp ts es)).map (fun i=>vN ((L+(i+1):Nat):Int))->x∈badL ts es:=fun x t=>by
  obtain⟨i,C,rfl⟩:=qk.1 t;rw[yj]at C;refine qhB ?_;cases I:yX ts es (vN ((L+(i+1):Nat):Int)) with
  |false=>rfl
  |true=>exact absurd ⟨i+1,zOm,zOm,by rw[show (L:Int)+((i+1:Nat):Int)=((L+(i+1):Nat):Int) by omega];exact I⟩ g
 have p:((qo (qp ts es)).map (fun i=>vN ((L+(i+1):Nat):Int))).Nodup:=by
  refine List.pairwise_map.2 (List.nodup_range.imp fun r e=>r ?_);have:=gN e;omega
 have:=jR p o;rw[zJ,List.length_range]at this;have:=qhA ts es;omega
def putN(es:List (ByteArray×Bool))(l:List Nd):List (ByteArray×Bool):=l.foldl (fun es n=>setK n.name true es) es
def yO(ts:TS)(n:Nd):List (ByteArray×Bool):=ts.preds.foldl (fun T p=>putN T (preN p.body)) (putN [] (preN n))
def yz(ts:TS)(n:Nd):Nd×Int:=
 if (ye ts [] n).1≠0 then (nd0,(ye ts [] n).1)
 else if anyN (fun n=>decide (n.op=47)) n=false then (n,0)
 else match outI ts (yO ts n) n with
  | .error d=>(nd0,d.1)
  | .ok g=>(g,0)
theorem WW(p:Nd->Bool):∀(m:Nat) (n:Nd),szN n<=m->anyN p n=(preN n).any p
 | 0,n,g=>by obtain⟨op,nm,i,ks,q⟩:=n;simp[szN]at g
 |m+1,n,g=>by
  rw[Va,uS,List.any_cons];congr 1;have:∀ l:List Nd,(∀ k,k∈l->k∈n.kids)->j6 p l=(zj l).any p:=by
   intro l;induction l with
   |nil=>intro _;rfl
   |cons k l o =>
    intro j;simp only[j6,zj,List.any_append];rw[o fun x r=>j x (qK _ r),WW p m k (zW1 (yv (j k (qR ..))))]
  exact this n.kids fun k t=>t
end YG
namespace YH
open Y1 Y6 YX
theorem qhC(mu:Mu):Rd mu eN0 (eNd nd0) := .agg _ _ rfl fun k x y g i=>by
 match k with
 | 0=>simp[nd0,cNd]at g i;subst g;subst i;exact .zsc _
 | 1=>simp[nd0,cNd]at g i;subst g;subst i;exact .zsc _
 | 2=>simp[nd0,cNd]at g i;subst g;subst i;exact .zsc _
 | 3=>simp[nd0,cNd,cNds]at g i;subst g;subst i;exact .wk _ true [] (.hf _ (HF.lst fun r j=>absurd j qD))
 | 4=>simp[nd0,cNd]at g i;subst g;subst i;exact .zsc _
 |k+5=>simp at g
theorem Vq(mu:Mu)(d:Int):Rd mu (.tup [eN0,aI d]) (.tup [eNd nd0,aI d]) := .tup _ _ rfl fun k x y g i=>by
 match k with
 | 0=>simp at g i;subst g;subst i;exact qhC _
 | 1=>simp at g i;subst g;subst i;exact .zsc _
 |k+2=>simp at g
end YH
end Go.Proofs.YtahmfpfdgiemoaaGreatDoor
namespace Go.EvW
open Go Go.Ev Go.RowKit Go.ChangeShapes Go.WideShapes
section
variable {C H:Type}{c:C->List AV}{fs:List (j1×Nat)}{cs:List j3}{N:Nat}{P:qf}{t:j1}{w:j2}
def CR(w:j2)(xs:List AV)(cs:List j3):Prop:=
 cs.length=xs.length/\∀(k:Nat) x,xs[k]?=some x->VRel ⟨(·<w.heap.size),[]⟩ w.heap x (cs.getD k va)
theorem CR.nil(w:j2):CR w [] []:=⟨rfl,zSp⟩
theorem CR.one{x:AV}{v:j3}(h:VRel ⟨(·<w.heap.size),[]⟩ w.heap x v):CR w [x] [v]:=⟨rfl,fun k y g=>by
 cases k with
 |zero=>simp at g;subst g;simpa using h
 |succ k=>simp at g⟩
theorem CR.app{xs ys:List AV}{ds:List j3}(h:CR w xs cs)(k:CR w ys ds):CR w (xs++ys) (cs++ds):=by
 refine⟨by simp[h.1,k.1],fun i x g=>?_⟩;by_cases j:i<xs.length
 .rw [qI j]at g
  have:=h.2 i x g;rw[q8]at this⊢;rw[qI (by rw[h.1];exact j)];exact this
 .rw [qT zOm]at g
  have:=k.2 _ x g;rw[q8]at this⊢;rw[qT (by rw[h.1];omega),h.1];exact this
def yZ(P:qf)(t:j1)(d:DataW H):Prop:=(d.weights P t).all (·<=reachBytes)=true
theorem yZ.all{e:j1}:∀{ds:List (DataW H)},(DataW.weightsAll P e ds).all (·<=reachBytes)=true->∀(i:Nat) d,ds[i]?=some d->yZ P e d
 | [],_,i,d,g=>by simp at g
 |x :: r,h,i,d,g=>by
  simp only[DataW.weightsAll,List.all_append,qq]at h;cases i with
  |zero=>simp at g;subst g;exact h.1
  |succ i=>exact yZ.all h.2 i d (zUs g)
theorem yZ.each:∀{ts:List j1} {ds:List (DataW H)},(DataW.weightsEach P ts ds).all (·<=reachBytes)=true->∀(i:Nat) t d,ts[i]?=some t->ds[i]?=some d->yZ P t d
 | [],ds,_,i,t,d,g,_=>by simp at g
 |t0 :: ts,[],_,i,t,d,_,j=>by simp at j
 |t0 :: ts,x :: r,h,i,t,d,g,j=>by
  simp only[DataW.weightsEach,List.all_append,qq]at h;cases i with
  |zero=>simp at g j;subst g;subst j;exact h.1
  |succ i=>exact yZ.each h.2 i t d (zUs g) (zUs j)
def ShT(P:qf)(n:Nat)(t:j1){C:Type}(c:C->List AV)(ok:C->Prop):Prop:=
 ∀(H:Type) (g:j1×j3->H) (w:j2) (i:List j3) (x:DataW H×List MemPlace),
  DataW.trod g P w 0 (fun _=>true) true n t i=some x->yZ P t x.1->∃ a,ok a/\CR w (c a) i
def ShU(P:qf)(N:Nat)(t:j1){C:Type}(c:C->List AV)(ok:C->Prop):Prop:=∀ n,n<N->ShT P n t c ok
theorem ShU.le{M:Nat}{ok:C->Prop}(h:ShU P N t c ok)(g:M<=N):ShU P M t c ok:=fun n i=>h n zOm
theorem ShU.map{i:Type}{ok:C->Prop}{c':i->List AV}{g:i->Prop}(h:ShU P N t c ok)(f:C->i)(l:∀ a,c' (f a)=c a)(o:∀ a,ok a->g (f a)):ShU P N t c' g:=by
 intro n p H j w r x I J;obtain⟨a,R,T⟩:=h n p H j w r x I J;exact⟨f a,o a R,by rw[l];exact T⟩
theorem ShU.int{k:IntKind}(g:P.underlying t=some (.int k))(N:Nat):ShU P N t (fun n:Int=>[.sc (.int k n)]) (fun n=>(Lit.int k n).wf=true):=by
 intro n o H j w p x h _;obtain⟨i,rfl,_,l⟩:=DataW.trod_int g h;exact⟨i,l,.one (.sc _ rfl)⟩
theorem ShU.bool(g:P.underlying t=some .bool)(N:Nat):ShU P N t (fun b:Bool=>[.sc (.bool b)]) (fun _=>True):=by
 intro n l H j w o x h _;obtain⟨i,rfl,_⟩:=DataW.trod_bool g h;exact⟨i,trivial,.one (.sc _ rfl)⟩
theorem ShU.string(j:P.underlying t=some .string)(N:Nat):ShU P N t (fun s:ByteArray=>[.sc (.string s)]) (fun s=>s.size<=140737488351232):=by
 intro n p H l w r x h g;obtain⟨i,rfl,rfl,C⟩:=DataW.trod_string j h;refine⟨i,?_,.one (.sc _ rfl)⟩;unfold yZ at g;simp only[DataW.weights,List.all_cons,List.all_nil,Bool.and_true,decide_eq_true_eq]at g;have e:i.data.toList.length=i.size:=Array.length_toList;have o:i.size<=reachBytes:=by rw[<-e];exact g
 exact zV o (yi rfl)
theorem gP{a:Addr}{n:Nat}(h:w.cells? 0 a n=some cs):cs.length=n/\∀ i,i<n->w.cell? (a.add i)=some (cs.getD i va):=by
 unfold World.cells? at h;rw[if_pos (Nat.zero_le _)]at h;have j:=mapM_some_length h;refine⟨zUs j,fun i l=>?_⟩;have:=mapM_some_get h i i (zP1 l);have g:i<cs.length:=by simp at j;omega
 rw[this,q8,qv g];rfl
theorem gQ{a:Addr}{v:j3}(h:w.cell? a=some v):∃ arr e g,w.heap[a.block]?=some (.cells arr e g)/\a.spot=none/\arr[a.off]?=some v:=by
 unfold World.cell? at h;split at h
 .rename_i c e g i
  split at h
  .cases h
  .rename_i j
   exact⟨c,e,g,i,zUs j,h⟩
 .cases h
theorem qhD [Inhabited C] {p:Nat->C->Prop} (n:Nat) (h:∀ i,i<n->∃ a,p i a):∃ l:List C,l.length=n/\∀(i:Nat) a,l[i]?=some a->p i a:=by
 induction n with
 |zero=>exact⟨[],rfl,zSp⟩
 |succ n o =>
  obtain⟨l,r,t⟩:=o (fun i j=>h i zOm);obtain⟨a,I⟩:=h n zOm;refine⟨l++[a],zP1 r,fun i b g=>?_⟩;by_cases j:i<l.length
  .rw [qI j]at g;exact t i b g
  .rw [qT zOm]at g
   have:i-l.length=0:=by
    cases J:i-l.length with
    |zero=>rfl
    |succ q=>rw[J]at g;simp at g
   rw[this]at g;simp at g;subst g;have:i=n:=zOm;subst this;exact I
theorem ShU.slice{e:j1} [Inhabited C] {c:C->List AV} {ok:C->Prop} (ht:P.underlying t=some (.slice e)) (he:ShU P N e c ok) (a4:∀ a,ok a->(c a).length=P.cellsOf e) (J:0<P.cellsOf e) (af:Nat.blt 0 (P.bytesOf e)=true) :
  ShU P (N+1) t (fun l:List C=>[.lst false (l.map c)]) (fun l=>l.length<=140737488351232/\∀ a,a∈l->ok a):=by
 intro n hn H ag w cs x h hw;rcases DataW.trod_slice ht h with ⟨rfl,_⟩|⟨a,len,cap,g,R,m,rfl,rfl,rfl,_,hl,hc,ax,a5,_,_⟩
 .exact ⟨[],⟨zSp,zSp⟩,.one (.nil _)⟩
 .have ah:(DataW.weightsAll P e (g.map (·.1))).all (·<=reachBytes)=true:=by
   unfold yZ at hw;simp only[DataW.weights,ht,List.all_cons,List.all_append,qq]at hw;exact hw.2.1
  have ai:len<=140737488351232:=by
   unfold yZ at hw;simp only[DataW.weights,ht,List.all_cons,List.all_append,qq,decide_eq_true_eq]at hw;have I:=hw.1;have aj:1<=P.bytesOf e:=yi af;have h2:((g.map (·.1)).length+(R.map (·.1)).length)*1<=((g.map (·.1)).length+(R.map (·.1)).length)*P.bytesOf e:=Nat.mul_le_mul_left _ aj;simp only[zJ]at I h2;have h3:reachBytes<=140737488351232:=yi rfl;have h4:=zV h2 (zV I h3);omega
  have key:∀ i,i<len->∃ b,ok b/\∃ o,w.cells? 0 (a.add (i*P.cellsOf e)) (P.cellsOf e)=some o/\CR w (c b) o:=by
   intro i hi;have I:=a5 i hi;have a6:i<g.length:=zOm;rw[qv a6]at I;obtain⟨o,h2,h3⟩:=Option.bind_eq_some_iff.1 I;obtain⟨b,h4,h5⟩:=he m zOm H ag w o _ h3 (yZ.all ah i _ (by rw[zm,qv a6];rfl));exact⟨b,h4,o,h2,h5⟩
  obtain⟨l,a7,p⟩:=qhD len key;refine⟨l,⟨by rw[a7];exact ai,fun b U=>?_⟩,.one ?_⟩
  .obtain ⟨i,hi⟩:=List.mem_iff_getElem?.1 U
   exact(p i b hi).1
  .have ak:(l.map c).length=len:=by simp[a7]
   rw[<-ak];cases Nat.eq_zero_or_pos len with
   |inl h0 =>
    have:l=[]:=vE zOm;subst this;exact .emp _ a cap zSp
   |inr hp =>
    have al:0<l.length:=zOm;obtain⟨_,ay,I,_⟩:=p 0 l[0] (qv al);obtain⟨an,a0⟩:=gP I;have ao:=a0 0 J;obtain⟨arr,el,fr,U,hs,_⟩:=gQ ao;have T:∀ k:Nat,a.spot=none->(a.add k).spot=none/\(a.add k).off=a.off+k:=by
     intro k hk;unfold Addr.add;split<;>simp_all
    have a8:∀(b:Addr) (j:Nat),(b.add j).block=b.block:=by
     intro b j;unfold Addr.add;split<;>rfl
    have e0:((a.add (0*P.cellsOf e)).add 0).block=a.block/\((a.add (0*P.cellsOf e)).add 0).spot=a.spot:=by
     unfold Addr.add;split<;>simp_all
    rw[e0.1]at U;rw[e0.2]at hs;have hz:zX (P.cellsOf e) (l.map c):=fun r hr=>by
     obtain⟨b,aq,rfl⟩:=qk.1 hr;obtain⟨i,hi⟩:=List.mem_iff_getElem?.1 aq;exact a4 b (p i b hi).1
    have ar:=zW hz;refine .lst false (l.map c) (P.cellsOf e) a cap arr el fr (fun k=>arr.getD (a.off+k) va) U hs zOm zSp (Array.getElem?_eq_some_iff.1 U).1 hz ?_ ?_
    all_goals
     intro k x hk;have a9:k<(l.map c).length*P.cellsOf e:=by rw[<-ar];exact(qe.1 hk).1
     have hq:k / P.cellsOf e<l.length:=by
      rw[zJ]at a9;exact Nat.div_lt_of_lt_mul (by rw[Nat.mul_comm];exact a9)
     have hr:k % P.cellsOf e<P.cellsOf e:=Nat.mod_lt _ J;have au:k / P.cellsOf e*P.cellsOf e+k % P.cellsOf e=k:=by
      have:=Nat.div_add_mod k (P.cellsOf e);rw[Nat.mul_comm]at this;exact this
     obtain⟨_,o,I,h2⟩:=p (k / P.cellsOf e) _ (qv hq);obtain⟨an,a0⟩:=gP I;have av:=a0 _ hr;have aa:(l.map c)[k / P.cellsOf e]?=some (c l[k / P.cellsOf e]):=by rw[zm,qv hq];rfl
     have hx:(c l[k / P.cellsOf e])[k % P.cellsOf e]?=some x:=by
      have ab:k % P.cellsOf e<(c l[k / P.cellsOf e]).length:=by rw[a4 _ (p _ _ (qv hq)).1];exact hr
      have:=VW hz aa (qv ab);rw[au]at this;rw[this]at hk;rw[qv ab];exact hk
     obtain⟨aw,az,b0,ad,b1,a3⟩:=gQ av;have e1:((a.add (k / P.cellsOf e*P.cellsOf e)).add (k % P.cellsOf e)).block=a.block:=by rw[a8,a8]
     have e2:((a.add (k / P.cellsOf e*P.cellsOf e)).add (k % P.cellsOf e)).off=a.off+k:=by
      have a1:=(T (k / P.cellsOf e*P.cellsOf e) hs).2;have a2:=(T (k / P.cellsOf e*P.cellsOf e) hs).1;have:∀(b:Addr) (j:Nat),b.spot=none->(b.add j).off=b.off+j:=by
       intro b j U;unfold Addr.add;split<;>simp_all
      rw[this _ _ a2,a1];omega
     rw[e1,U]at ad;cases ad;rw[e2]at a3;have ae:arr.getD (a.off+k) va=o.getD (k % P.cellsOf e) va:=by
      rw[qB,a3];rfl
    .rw [ae];exact a3
    .show VRel _ _ x (arr.getD (a.off+k) va)
     rw[ae];exact h2.2 _ x hx
def Vs(P:qf)(t:j1):Option (List (j1×Nat)):=match P.underlying t with|some (.struct g)=>some (g.toList.map fun f=>(f.type,f.offset))|_=>none
inductive ShF (P:qf) (N:Nat):Nat->List (j1×Nat)->{α:Type}->(α->List AV)->(α->Prop)->Prop where
 |nil (o:Nat):ShF P N o [] (fun _:Unit=>[]) (fun _=>True)
 |cons {o:Nat} {t:j1} {fs:List (j1×Nat)} {α β:Type} {c:α->List AV} {ok:α->Prop} {c':β->List AV} {ok':β->Prop} (h:ShU P N t c ok) (k:ShF P N (o+P.cellsOf t) fs c' ok') :
   ShF P N o ((t,o) :: fs) (fun x:α×β=>c x.1++c' x.2) (fun x=>ok x.1/\ok' x.2)
def Yo(P:qf)(fs:List (j1×Nat)):Nat:=(fs.map fun f=>P.cellsOf f.1).foldr (·+·) 0
theorem ShF.read{n o:Nat}{ok:C->Prop}(h:ShF P N o fs c ok)(I:n<N){H:Type}{enc:j1×j3->H}{w:j2}(cs:List j3)
  (j:cs.length=o+Yo P fs) (r:∀(i:Nat) f,fs[i]?=some f->∃ x,DataW.trod enc P w 0 (fun _=>true) true n f.1 ((cs.drop f.2).take (P.cellsOf f.1))=some x/\yZ P f.1 x.1) :
  ∃ a,ok a/\CR w (c a) (cs.drop o):=by
 induction h with
 |nil o =>
  refine⟨(),trivial,?_⟩;rw[List.drop_of_length_le (by simp[Yo]at j;omega)];exact .nil w
 | @cons o t fs C β c ok c' J h k R =>
  obtain⟨x,l,p⟩:=r 0 _ rfl;obtain⟨a,T,U⟩:=h n I H enc w _ x l p;have a0:Yo P ((t,o) :: fs)=P.cellsOf t+Yo P fs:=rfl;obtain⟨b,hb,hs⟩:=R zOm (fun i g hg=>r (i+1) g hg);refine⟨(a,b),⟨T,hb⟩,?_⟩;have e:cs.drop o=(cs.drop o).take (P.cellsOf t)++cs.drop (o+P.cellsOf t):=by
   rw[<-List.drop_drop,uZ]
  rw[e];exact U.app hs
theorem ShU.struct{ok:C->Prop}(l:Vs P t=some fs)(hf:ShF P N 0 fs c ok)(r:P.cellsOf t=Yo P fs):ShU P (N+1) t c ok:=by
 intro n hn H o w cs x h I;unfold Vs at l;split at l
 .rename_i gs T
  simp only[qj]at l;subst l;obtain⟨U,m,rfl,rfl,hl,J,hg⟩:=DataW.trod_struct T h;have R:(DataW.weightsEach P (gs.toList.map (·.type)) (U.map (·.1))).all (·<=reachBytes)=true:=by
   unfold yZ at I;simp only[DataW.weights,T]at I;exact I
  obtain⟨a,ha,hr⟩:=hf.read (n:=m) zOm (w:=w) (enc:=o) cs (by rw[hl,r];simp) (fun i f hi=>by
   simp only[zm,Option.map_eq_some_iff]at hi;obtain⟨g,j,rfl⟩:=hi;have h1:=hg i g (zUs j);have p:i<U.length:=by
    rw[J];have:=(qe.1 j).1;simpa using this
   rw[qv p]at h1;exact⟨_,h1,yZ.each R i _ _ (by rw[zm,j];rfl) (by rw[zm,qv p];rfl)⟩)
  exact⟨a,ha,zUs hr⟩
 .cases l
theorem ShU.arg1{c:C->AV}{ok:C->Prop}(h:∀ N,ShU P N t (fun a=>[c a]) ok)(g:∀(w:j2) (r:Reach) (b:Nat) (v:j3),Value.okWide P w r b t v->v.cells=#[v])
  {H:Type} {enc:j1×j3->H} {w:j2} {r:Reach} {b:Nat} {v:j3} {d:DataW H} {ps:List MemPlace} (i:Value.okWide P w r b t v) (l:DataW.Trod enc P w 0 (fun _=>true) true t v d ps) (o:yZ P t d) :
  ∃ a,ok a/\VRel ⟨(·<w.heap.size),[]⟩ w.heap (c a) v:=by
 obtain⟨n,p⟩:=l;obtain⟨a,I,j⟩:=h (n+1) n zOm H enc w _ _ p o;rw[g w r b v i]at j;have:=j.2 0 (c a) rfl;exact⟨a,I,by simpa using this⟩
theorem ShU.argS{ok:C->Prop}{fs:Array Field}(h:∀ N,ShU P N t c ok)(j:P.underlying t=some (.struct fs))
  {H:Type} {enc:j1×j3->H} {w:j2} {r:Reach} {b:Nat} {v:j3} {d:DataW H} {ps:List MemPlace} (g:Value.okWide P w r b t v) (l:DataW.Trod enc P w 0 (fun _=>true) true t v d ps) (o:yZ P t d) :
  ∃ a,ok a/\VRel ⟨(·<w.heap.size),[]⟩ w.heap (.agg (c a)) v:=by
 obtain⟨n,p⟩:=l;obtain⟨a,I,i⟩:=h (n+1) n zOm H enc w _ _ p o;unfold Value.okWide at g;rw[j]at g;obtain⟨R,rfl,_,_⟩:=g;refine⟨a,I,.agg _ _ (by simpa[Value.cells] using i.1) (fun k x J=>?_)⟩;have:=i.2 k x J;simpa[Value.cells,qB,q8] using this
end
end Go.EvW
namespace Go.EvW
open Go Go.Ev Go.RowKit Go.ChangeShapes Go.WideShapes
section
variable {C:Type}{c:C->List AV}{ts:List j1}{P:qf}{t:j1}{w:j2}
def Yp(P:qf)(t:j1){C:Type}(c:C->AV)(ok:C->Prop):Prop:=
 ∀(H:Type) (g:j1×j3->H) (w:j2) (r:Reach) (b:Nat) (v:j3) (d:DataW H) (i:List MemPlace),Value.okWide P w r b t v->DataW.Trod g P w 0 (fun _=>true) true t v d i->yZ P t d ->
  ∃ a,ok a/\VRel ⟨(·<w.heap.size),[]⟩ w.heap (c a) v
theorem Yp.struct{ok:C->Prop}(g:(Vs P t).isSome=true)(h:∀ N,ShU P N t c ok):Yp P t (fun a => .agg (c a)) ok:=by
 intro H i w r b v d I j l o;unfold Vs at g;split at g
 .rename_i J p;exact ShU.argS h p j l o
 .simp at g
inductive ArgF (P:qf):List j1->{α:Type}->(α->List AV)->(α->Prop)->Prop where
 |nil:ArgF P [] (fun _:Unit=>[]) (fun _=>True)
 |cons {t:j1} {ts:List j1} {α β:Type} {c:α->AV} {ok:α->Prop} {c':β->List AV} {ok':β->Prop} (h:Yp P t c ok) (k:ArgF P ts c' ok'):ArgF P (t :: ts) (fun x:α×β=>c x.1 :: c' x.2) (fun x=>ok x.1/\ok' x.2)
theorem ArgF.read{ok:C->Prop}(h:ArgF P ts c ok){H:Type}{enc:j1×j3->H}{w:j2}{r:Reach}{b:Nat} :
  ∀{g:List j3} {ds:List (DataW H)} {ps:List MemPlace},DataW.TrodAll enc P w 0 (fun _=>true) true ts g ds ps->(∀(j:Nat) t v,ts[j]?=some t->g[j]?=some v->Value.okWide P w r b t v)->(DataW.weightsEach P ts ds).all (·<=reachBytes)=true ->
  ∃ a,ok a/\ds.length=ts.length/\g.length=(c a).length/\∀(k:Nat) x,(c a)[k]?=some x->VRel ⟨(·<w.heap.size),[]⟩ w.heap x (g.getD k va):=by
 induction h with
 |nil =>
  intro g ds ps l _ _;obtain⟨rfl,rfl,rfl⟩:=trodAll_nil l;exact⟨(),trivial,rfl,rfl,zSp⟩
 | @cons t ts C β c ok c' T h k U =>
  intro g ds ps l R o;obtain⟨v,a0,d,a1,p,q,rfl,rfl,rfl,h1,h2⟩:=trodAll_cons l;simp only[DataW.weightsEach,List.all_append,qq]at o;obtain⟨a,ha,hr⟩:=h H enc w r b v d p (R 0 t v rfl rfl) h1 o.1;obtain⟨a',I,J,hl,hg⟩:=U h2 (fun j t v=>R (j+1) t v) o.2;refine⟨(a,a'),⟨ha,I⟩,zP1 J,zP1 hl,fun k x i=>?_⟩;cases k with
  |zero=>simp at i;subst i;simpa using hr
  |succ k =>
   simp only[vb]at i;simpa[q8] using hg k x i
theorem gR(l:laidOutB P=true){H:Type}{enc:j1×j3->H}{W o:j2}{r:Nat->Bool}:∀{ts:List j1} {i:List j3} {ds:List (DataW H)} {ps:List MemPlace},
  (∀ t,t∈ts->P.readableRec t=true/\t<P.types.size)->DataW.TrodAll enc P W 0 (fun _=>true) true ts i ds ps->(∀ p∈ps,W.sameAt o p)->(∀ p∈ps,r p.block=true)->DataW.TrodAll enc P o 0 r true ts i ds ps
 | [],i,ds,ps,_,h,_,_=>by
  obtain⟨rfl,rfl,rfl⟩:=trodAll_nil h;exact trodAll_mk0
 |t :: ts,i,ds,ps,C,h,I,J=>by
  obtain⟨v,R,d,T,p,q,rfl,rfl,rfl,g1,U⟩:=trodAll_cons h;have j:=C t zSp;exact trodAll_cons_mk (WideElems.Trod_stays l j.1 j.2 g1 (fun x g=>I x (zP1 g)) (fun x g=>J x (zP1 g)))
   (gR l (fun t j=>C t (zP1 j)) U (fun x g=>I x (zP1 g)) (fun x g=>J x (zP1 g)))
theorem qhE{f:us}{fn:Func}{s:ChangeSpec}{tb:j1}{ok:C->Prop}(hp:fn.params=ts.toArray)(hF:ArgF P ts c ok)(hv:s.vars=[])
  (a0:∀(H:Type) (ds:List (DataW H)),ds.length=ts.length->s.fn H ds={ results:=[.lit (.bool true)],args:=ds }) (hr:fn.resultTypes=#[tb]) (a1:P.underlying tb=some .bool)
  (hl:laidOutB P=true) (a2:(ts.all fun t=>P.readableRec t&&decide (t<P.types.size))=true) (hS:∀ a,ok a->qd P f (c a) (aB true))
  (H:Type) (I:j1×j3->H) (W:j2) (base:Nat) (args:Array j3) (ds gs:List (DataW H)) (g:List MemPlace)
  (i:∀(j:Nat) t v,fn.params[j]?=some t->args[j]?=some v->Value.okWide P W .any base t v) (hW:DataW.Whole I P fn.params.toList s.vars false W args.toList ds gs g) (J:(DataW.weightsEach P fn.params.toList ds).all (·<=reachBytes)=true) (hT:wD (·<W.heap.size) W.heap) :
  Calls P f args W fun e W'=>∃ v,e = .returned v/\s.post I P fn false true false false W args v W':=by
 have a3:=hW;obtain⟨p,q,U,hV,R,aa,_⟩:=hW;rw[hv]at hV;obtain⟨hg,hq⟩:=trodVars_none hV;subst hg;subst hq;rw[zL]at R;subst R;rw[hp]at U i;obtain⟨a,ha,a4,a5,a6⟩:=hF.read (r := .any) (b:=base) U (fun j t v h1 h2=>i j t v (zUs h1) (zUs h2)) (by rw[hp]at J;exact J);have T:∀ x,x∈g->x.block<W.heap.size:=fun x l=>U.lt x l
 obtain⟨_,o⟩:=hS a ha;refine(o (·<W.heap.size) W args (Sim.empty (fun _ h=>h) hT) ⟨zUs a5,fun k x hk=>?_⟩).mono fun e W' ⟨a9,v,he,_,_,hb,a7⟩=>?_
 .have:=a6 k x hk
  simpa[qB,q8] using this
 .have a8:v = .bool true:=by cases a7;rfl
  subst a8;refine⟨_,he,ds,[],g,[],g,[],a3,?_,?_,?_,World.keptBut_mono (fun x l=>⟨l,.inr (.inl l)⟩) (hb.frame (·∈g)),fun h=>by cases h⟩
  all_goals try rw[zL]
  all_goals try rw[a0 H ds a4]
  .rw [hr]
   exact trodAll_cons_mk (p':=[]) (shut_bool a1 true) trodAll_mk0
  .rw [hp]
   refine gR hl (fun t ht=>?_) U (fun x l=>hb.same (T x l)) (fun x l=>by simpa using T x l);have:=qJ.1 a2 t ht;simpa using this
  .rw [hv];rfl
theorem ShF.cons'{N o o':Nat}{fs:List (j1×Nat)}{i:Type}{ok:C->Prop}{c':i->List AV}{g:i->Prop}(j:o+P.cellsOf t=o')(h:ShU P N t c ok)(k:ShF P N o' fs c' g) :
  ShF P N o ((t,o) :: fs) (fun x:C×i=>c x.1++c' x.2) (fun x=>ok x.1/\g x.2):=by
 subst j;exact .cons h k
theorem gS:∀{laid:List (String×DataW Unit)} {ps:List MemPlace},DataW.LaidVars P w laid ps->∀ x,x∈laid->∃ g t cs fuel p,P.globalNamed x.1=some g/\(P.globals[g]?).map (·.type)=some t/\w.var? P x.1=some cs/\DataW.trod (fun _=>()) P w 0 (fun _=>true) false fuel t cs.toList=some (x.2,p)
 | [],_,_,x,i=>by simp at i
 | (n,d) :: r,ps,h,x,i=>by
  obtain⟨g,t,cs,fuel,p,q,j,l,o,C,I,_⟩:=h;rcases qu.1 i with rfl|i
  .exact ⟨g,t,cs,fuel,p,j,l,o,C⟩
  .exact gS I x i
theorem qhF{e:j1}{n fuel:Nat}{k:IntKind}(U:P.underlying t=some (.array n e))(he:P.underlying e=some (.int k))(hc:P.cellsOf e=1)(C:P.cellsOf t=n){cs:List j3}{ns:List Int}{p:List MemPlace}
  (h:DataW.trod (fun _=>()) P w 0 (fun _=>true) false fuel t cs=some (.agg (ns.map fun i => .lit (.int k i)),p)):cs=ns.map fun i => .int k i:=by
 obtain⟨g,m,_,j,T,hn,l⟩:=DataW.trod_array U h;simp only[vf,DataW.agg.injEq]at j;have j:=j.1;have I:ns.length=n:=by have:=congrArg List.length j;simp at this;omega
 rw[C]at T;rw[hc]at l;apply List.ext_getElem
 .simp [T,I]
 .intro i h1 h2
  have J:=l i zOm;rw[Nat.mul_one]at J;have o:i<g.length:=zOm;rw[qv o]at J;obtain⟨z,R,e2,_⟩:=DataW.trod_int he J;have h4:(g[i]).1=DataW.lit (.int k z):=by rw[e2]
  have r:(ns.map fun i=>(DataW.lit (.int k i):DataW Unit))[i]?=(g.map (·.1))[i]?:=by rw[j]
  rw[zm,zm,qv o,qv zOm]at r;simp only[qS,qj]at r;rw[h4]at r;simp only[DataW.lit.injEq,Lit.int.injEq,true_and]at r;have h6:(cs.drop i).take 1=[cs[i]]:=by rw[List.drop_eq_getElem_cons h1];rfl
  rw[h6]at R;simp only[List.cons.injEq,and_true]at R;rw[R,Zu,r]
theorem qhG{name:String}{g:Nat}{cs:Array j3}(j:P.globalNamed name=some g)(h:w.var? P name=some cs):∃ e i,w.heap[g]?=some (.cells cs e i):=by
 unfold World.var? at h;rw[j]at h;simp only[Option.bind_some]at h;split at h
 .rename_i c e i l;cases h;exact⟨e,i,l⟩
 .cases h
end
end Go.EvW
namespace Go.Proofs.YtahmfpfdgiemoaaGreatDoor
open Go Go.Ev Go.Proofs Tryz
namespace DT
open Go.EvW Y1 P1 YF
theorem unInt:qb.underlying 3=some (.int .i64):=by kernel_rfl
theorem gT:qb.underlying 4=some .bool:=by kernel_rfl
theorem qhH:qb.underlying 9=some .string:=by kernel_rfl
theorem qhI:qb.underlying 28=some (.slice 3):=by kernel_rfl
theorem qhJ:qb.underlying 22=some (.slice 72):=by kernel_rfl
theorem qhK:qb.underlying 23=some (.slice 74):=by kernel_rfl
theorem qhL:qb.underlying 33=some (.slice 35):=by kernel_rfl
theorem qhM:qb.underlying 129=some (.slice 186):=by kernel_rfl
theorem qhN:qb.underlying 24=some (.slice 131):=by kernel_rfl
theorem qhO:qb.underlying 25=some (.slice 108):=by kernel_rfl
abbrev okI(n:Int):Prop := -9223372036854775808<=n/\n<=9223372036854775807
abbrev okS(s:ByteArray):Prop:=s.size<=140737488351232
instance:Inhabited Nd:=⟨.mk 0 ⟨#[]⟩ 0 [] 0⟩
instance:Inhabited Pd:=⟨⟨⟨#[]⟩,[],default⟩⟩
instance:Inhabited Fld:=⟨⟨⟨#[]⟩,[],false⟩⟩
theorem Qa(N:Nat):ShU qb N 3 (fun n:Int=>[aI n]) okI:=
 (ShU.int unInt N).map (fun n=>n) (fun _=>rfl) (fun n h=>by
  simp[Lit.wf,IntKind.min,IntKind.max,IntKind.signed,IntKind.bits]at h;exact h)
theorem WX(N:Nat):ShU qb N 4 (fun b:Bool=>[aB b]) (fun _=>True):=ShU.bool gT N
theorem Zk(N:Nat):ShU qb N 9 (fun s:ByteArray=>[aS s]) okS:=ShU.string qhH N
theorem WY(N:Nat):ShU qb N 28 (fun xs:List Int=>[lI xs]) (fun l=>l.length<=140737488351232/\∀ x,x∈l->okI x):=
 ((ShU.slice qhI (Qa N) (fun _ _=>zKr) (Nat.lt_of_lt_of_eq Nat.zero_lt_one zKr) zKr).le zOm).map (fun l=>l) (fun _=>rfl) fun _ h=>h
theorem qhP(N:Nat):ShU qb N 74 jn (fun f=>f.sorts.length<=140737488351232/\∀ x,x∈f.sorts->okI x):=
 ((ShU.struct (fs:=[(9,0),(28,1),(4,2)]) zKr (.cons' (o':=1) zKr (Zk N) (.cons' (o':=2) zKr (WY N) (.cons' (o':=3) zKr (WX N) (.nil 3)))) zKr).map
  (fun x=>(⟨x.1,x.2.1,x.2.2.1⟩:Fld)) (fun _=>rfl) (fun x h=>h.2.1)).le zOm
theorem qhQ(N:Nat):ShU qb N 72 uE (fun s=>okS s.1):=
 ((ShU.struct (fs:=[(9,0),(4,1)]) zKr (.cons' (o':=1) zKr (Zk N) (.cons' (o':=2) zKr (WX N) (.nil 2))) zKr).map
  (fun x=>((x.1,x.2.1):ByteArray×Bool)) (fun _=>rfl) (fun x h=>h.1)).le zOm
theorem Vt:∀ N:Nat,ShU qb N 35 cNd (fun _=>True)
 | 0=>fun n i=>absurd i zOm
 | N+1 =>
  have ks:ShU qb N 33 (fun l:List Nd=>[.lst false (l.map cNd)]) (fun _=>True):=((ShU.slice qhL (Vt N) (fun a _=>(Z1 a).trans zKr) (Nat.lt_of_lt_of_eq (show 0<5 by omega) zKr) zKr).le zOm).map (fun l=>l) (fun _=>rfl) fun _ _=>trivial
  ((ShU.struct (fs:=[(3,0),(9,1),(3,2),(33,3),(3,4)]) zKr
   (.cons' (o':=1) zKr (Qa N) (.cons' (o':=2) zKr (Zk N) (.cons' (o':=3) zKr (Qa N) (.cons' (o':=4) zKr ks (.cons' (o':=5) zKr (Qa N) (.nil 5)))))) zKr)).map
   (fun x=>Nd.mk x.1 x.2.1 x.2.2.1 x.2.2.2.1 x.2.2.2.2.1) (fun x=>by rw[yu];rfl) fun _ _=>trivial
theorem qhR(N:Nat):ShU qb N 186 cPm (fun p=>okI p.2):=
 ((ShU.struct (fs:=[(9,0),(3,1)]) zKr (.cons' (o':=1) zKr (Zk N) (.cons' (o':=2) zKr (Qa N) (.nil 2))) zKr).map
  (fun x=>((x.1,x.2.1):ByteArray×Int)) (fun _=>rfl) (fun x h=>h.2.1)).le zOm
theorem qhS(N:Nat):ShU qb N 129 (fun l:List (ByteArray×Int)=>[lPm l]) (fun l=>l.length<=140737488351232):=
 ((ShU.slice qhM (qhR N) (fun _ _=>zKr) (Nat.lt_of_lt_of_eq (show 0<2 by omega) zKr) zKr).le zOm).map (fun l=>l) (fun _=>rfl) fun _ h=>h.1
theorem qhT(N:Nat):ShU qb N 131 cPd (fun _=>True):=
 ((ShU.struct (fs:=[(9,0),(129,1),(35,2)]) zKr (.cons' (o':=1) zKr (Zk N) (.cons' (o':=2) zKr (qhS N) (.cons' (o':=7) zKr (Vt N) (.nil 7)))) zKr).map
  (fun x=>(⟨x.1,x.2.1,x.2.2.1⟩:Pd)) (fun x=>by simp[cPd]) fun _ _=>trivial).le zOm
theorem qhU(N:Nat):ShU qb N 108 cFa (fun _=>True):=
 ((ShU.struct (fs:=[(9,0),(35,1)]) zKr (.cons' (o':=1) zKr (Zk N) (.cons' (o':=6) zKr (Vt N) (.nil 6))) zKr).map
  (fun x=>((x.1,x.2.1):ByteArray×Nd)) (fun x=>by simp[cFa]) fun _ _=>trivial).le zOm
structure okTA (ts:TS):Prop where
 so:∀ x,x∈ts.sorts->okS x.1
 nso:ts.sorts.length<=140737488351232
 nf:ts.fields.length<=140737488351232
 fl:∀ f,f∈ts.fields->f.sorts.length<=140737488351232/\∀ x,x∈f.sorts->okI x
theorem qhV(N:Nat):ShU qb N 27 cTS okTA:=by
 have s1:=(ShU.slice qhJ (qhQ N) (fun _ _=>zKr) (Nat.lt_of_lt_of_eq (show 0<2 by omega) zKr) zKr).le (M:=N) zOm;have i:=(ShU.slice qhK (qhP N) (fun _ _=>zKr) (Nat.lt_of_lt_of_eq (show 0<3 by omega) zKr) zKr).le (M:=N) zOm;have j:=(ShU.slice qhN (qhT N) (fun a h=>(JW a).1.trans zKr) (Nat.lt_of_lt_of_eq (show 0<7 by omega) zKr) zKr).le (M:=N) zOm;have l:=(ShU.slice qhO (qhU N) (fun a h=>(kA a).1.trans zKr) (Nat.lt_of_lt_of_eq (show 0<6 by omega) zKr) zKr).le (M:=N) zOm;have st:=ShU.struct (t:=27) (fs:=[(22,0),(23,1),(24,2),(25,3)]) zKr (.cons' (o':=1) zKr s1 (.cons' (o':=2) zKr i (.cons' (o':=3) zKr j (.cons' (o':=4) zKr l (.nil 4))))) zKr;exact(st.map (fun x=>(⟨x.1,x.2.1,x.2.2.1,x.2.2.2.1⟩:TS)) (fun _=>rfl) fun x h=>⟨h.1.2,h.1.1,h.2.1.1,h.2.1.2⟩).le zOm
theorem unU8:qb.underlying 5=some (.int .u8):=by kernel_rfl
theorem shU8(N:Nat):ShU qb N 5 (fun n:Int=>[.sc (.int .u8 n)]) (fun n=>0<=n/\n<=255):=
 (ShU.int unU8 N).map (fun n=>n) (fun _=>rfl) (fun n h=>by
  simp[Lit.wf,IntKind.min,IntKind.max,IntKind.signed,IntKind.bits]at h;exact h)
end DT
namespace QA
def bA:ByteArray:=⟨#[65]⟩
def bf:ByteArray:=⟨#[102]⟩
def bp:ByteArray:=⟨#[112]⟩
end QA
namespace QB
open Y1 Q6 Q9 QA
def nC:Nd := .mk 45 bf 0 [gq bA 2,.mk 47 bp 0 [gq bf 5] 3] 1
theorem h47:anyN (fun n=>decide (n.op=47)) nC=true:=by decide +kernel
end QB
namespace PB
open P1 P2 Y1 Y2 Y6 Y9 Y12 YW QB
section
variable {b':Kd}
def Sub(a b:Kd):Prop:=a.ar=b.ar/\∀ t,t∈a.ts->t∈b.ts
theorem qhW{n m:Nat}{a g b b':List Tp}(i:∀ t,t∈a->t∈g)(j:∀ t,t∈b->t∈b'):∀ t,t∈vW n m a b->t∈vW n m g b':=fun t l=>by
 obtain⟨x,y,⟨o,p⟩,hf⟩:=wZ.1 l;exact wZ.2 ⟨x,y,⟨i x o,j y p⟩,hf⟩
theorem qhX{n m:Nat}{a g b b':List Tp}(i:∀ t,t∈a->t∈g)(j:∀ t,t∈b->t∈b'):∀ t,t∈uG n m a b->t∈uG n m g b':=fun t l=>by
 obtain⟨x,y,⟨o,p⟩,hf⟩:=Z4.1 l;exact Z4.2 ⟨x,y,⟨i x o,j y p⟩,hf⟩
theorem Vu{a j b:Kd}(g:Sub a j)(i:Sub b b'):Sub (zA a b) (zA j b'):=by
 refine⟨by simp only[zA];rw[g.1,i.1],fun t l=>?_⟩;simp only[zA]at l⊢;rw[<-g.1,<-i.1];exact qhW g.2 i.2 t l
theorem qhY{a j b:Kd}(g:Sub a j)(i:Sub b b'):Sub (vX a b) (vX j b'):=by
 refine⟨by simp only[vX];rw[g.1,i.1],fun t l=>?_⟩;simp only[vX]at l⊢;rw[<-g.1,<-i.1];exact qhX g.2 i.2 t l
theorem wA{a b:Kd}{t:Tp}:t∈(kSum a b).ts↔t∈a.ts\/t∈b.ts:=by
 show t∈uni (uni [] a.ts) b.ts↔_;rw[vj,vj];simp
theorem gU{a g b:Kd}(i:Sub a g)(j:∀ t,t∈b.ts->t∈b'.ts):Sub (kSum a b) (kSum g b'):=
 ⟨i.1,fun t l=>wA.2 ((wA.1 l).imp (i.2 t) (j t))⟩
theorem Sub.refl(a:Kd):Sub a a:=⟨rfl,fun _ h=>h⟩
theorem Sub.trans{a b c:Kd}(h:Sub a b)(k:Sub b c):Sub a c:=⟨h.1.trans k.1,fun t g=>k.2 t (h.2 t g)⟩
theorem WZ(a b:Kd):Sub a (kSum a b):=⟨rfl,fun t g=>wA.2 (.inl g)⟩
theorem qhZ{a g:Kd}(i:Sub a g):Sub (kTr a) (kTr g):=⟨rfl,fun t j=>by
 obtain⟨x,l,e⟩:=Wc.1 j;exact Wc.2 ⟨x,i.2 x l,e⟩⟩
def Vv(k:Kd):Prop:=∀ t,t∈(zA k k).ts->t∈k.ts
theorem W0:∀(f n:Nat) (a:Kd),Sub a (cloN f n a)
 | 0,n,a => .refl a
 |f+1,n,a=>by
  unfold cloN;split
  .exact (WZ a _).trans (W0 f _ _)
  .exact .refl a
theorem W3{S:Kd}(i:Vv S):∀(f n:Nat) (a:Kd),Sub a S->Sub (cloN f n a) S
 | 0,n,a,h=>h
 |f+1,n,a,h=>by
  unfold cloN;split
  .refine W3 i f _ _ ⟨h.1,fun t g=>?_⟩
   rcases wA.1 g with g|g
   .exact h.2 t g
   .exact i t ((Vu h h).2 t g)
  .exact h
theorem W4{ns:Nat}(j:ns<=4):∀(f n:Nat) (a:Kd),okKd ns a->a.ar=2->70<=f+n->(n=0\/∃ p,okKd ns p/\p.ar=2/\n=p.ts.length/\a=kSum p (zA p p))->Vv (cloN f n a)
 | 0,n,a,g,C,hf,I=>by
  rcases I with rfl|⟨p,J,_,rfl,_⟩
  .omega
  .have:=okKd.le64 J j
   omega
 |f+1,n,a,g,C,hf,I=>by
  unfold cloN;split
  .rename_i U
   have hj:okKd ns (zA a a):=Yd g g zOm zOm;refine W4 j f _ _ (Yb g hj (by simp only[zA];omega)) C zOm (.inr ⟨a,g,C,rfl,rfl⟩)
  .rename_i a0
   rcases I with rfl|⟨p,J,a1,rfl,rfl⟩
   .have:a.ts=[]:=vE zOm
    intro t l;obtain⟨x,y,⟨i,_⟩,_⟩:=wZ.1 l;rw[this]at i;exact absurd i qD
   .have o:∀ t,t∈(kSum p (zA p p)).ts->t∈p.ts:=by
     have a2:(kSum p (zA p p)).ts.Nodup:=g.nd;have P:∀ t,t∈p.ts->t∈(kSum p (zA p p)).ts:=(WZ p _).2;intro t l;by_cases R:t∈p.ts
     .exact R
     .exfalso
      have r:(t :: p.ts).Nodup:=jw.2 ⟨R,J.nd⟩;have:=jR r (l₂:=(kSum p (zA p p)).ts) (fun x i=>by
       rcases qu.1 i with rfl|i
       .exact l
       .exact P x i)
      simp only[zq]at this;omega
    intro t l;have T:Sub (kSum p (zA p p)) p:=⟨rfl,o⟩;exact wA.2 (.inr ((Vu T T).2 t l))
theorem gV{ns:Nat}(g:ns<=4){a u:Kd}(h:Sub a u)(i:okKd ns u)(j:u.ar=2):Sub (kClo a) (kClo u):=
 W3 (W4 g 70 0 u i j zOm (.inl rfl)) 70 0 a (h.trans (W0 70 0 u))
theorem gW(c:Ck):∀(m:Nat) (n:Nd) (s:Scp) (k:Option Kd),szN n<=m->exam c s true n = .ok k->exam c s false n = .ok k
 | 0,n,_,_,T,_=>by obtain⟨op,nm,i,ks,p⟩:=n;simp[szN]at T
 |m+1,n,s,k,T,h=>by
  have U:∀ x,x∈n.kids->∀(s:Scp) (g:Bool) (k:Option Kd),exam c s true x = .ok k->exam c s g x = .ok k:=fun x o s g k h=>by
   cases g with
   |true=>exact h
   |false=>exact gW c m x s k (zW1 (yv o)) h
  have hL:∀(l:List Nd),(∀ x,x∈l->x∈n.kids)->∀(s:Scp) (g:Bool) (r:List (Option Kd)),qP c s true l = .ok r->qP c s g l = .ok r:=by
   intro l;induction l with
   |nil=>intro _ s g r h;exact h
   |cons x l P =>
    intro hl s g r h;simp only[qP]at h⊢;cases o:exam c s true x with
    |error e=>rw[o]at h;cases h
    |ok a =>
     rw[o]at h;rw[U x (hl x (qR ..)) s g a o];simp only at h⊢;cases j:qP c s true l with
     |error e=>rw[j]at h;cases h
     |ok J =>
      rw[j]at h;rw[P (fun y C=>hl y (qK _ C)) s g J j];exact h
  rw[yw]at h⊢;simp only[Bool.true_and,Bool.false_and,Bool.true_or,Bool.false_or,Bool.false_eq_true,if_false]at h⊢;split at h
  .cases h
  by_cases h1:n.op=1
  .rw [if_pos h1]at h⊢;exact h
  rw[if_neg h1]at h⊢;by_cases h47:n.op=47
  .rw [if_pos h47]at h⊢;exact h
  rw[if_neg h47]at h⊢;by_cases hb:n.op=15\/n.op=45\/n.op=46
  .rw [if_pos hb]at h⊢
   cases I:n.kids with
   |nil=>rw[I]at h;exact h
   |cons x l =>
    have t:∀ y,y∈x :: l->y∈n.kids:=fun y C=>by rw[I];exact C
    rw[I]at h;simp only[zH]at h⊢;cases o:exam c s true x with
    |error e=>rw[o]at h;cases h
    |ok a =>
     rw[o]at h;rw[U x (t x (qR ..)) s _ a o];cases a with
     |none=>cases h
     |some a =>
      simp only at h⊢;split at h
      .rename_i R
       rw[if_pos R];cases j:qP c ((n.name,a) :: s) true l with
       |error e=>rw[j]at h;cases h
       |ok J =>
        rw[j]at h;rw[hL l (fun y C=>t y (qK _ C)) _ _ J j];exact h
      .cases h
  rw[if_neg hb]at h⊢;cases j:qP c s true n.kids with
  |error e=>rw[j]at h;cases h
  |ok J =>
   rw[j]at h;rw[hL n.kids (fun y C=>C) _ _ J j];exact h
section
variable {ts:TS} (ok:okTS ts) (a b d:Nd)
include ok
end
end
end PB
namespace PC
open YS P1 P2 Y1 Y2 Y9 Y10 Y12 YZ YA PA YC YG Q1 Q3 Q4 PB
section
variable {nm:ByteArray}{es:List (ByteArray×Bool)}
theorem qh0{a i b b':Kd}(j:Sub i a)(l:Sub b' b):Sub (Qw i b') (Qw a b):=⟨j.1,fun t g=>by
 simp only[Qw,jg,decide_eq_true_eq]at g⊢;exact⟨j.2 t g.1,l.2 t g.2⟩⟩
theorem qh1{op:Int}{a i b b':Kd}(g:Sub i a)(j:Sub b' b):Sub (vZ op i b') (vZ op a b):=by
 unfold vZ;split
 .exact gU g j.2
 .split
  .exact qh0 g j
  .exact g
theorem qh2{ns:Nat}(g:ns<=4){op:Int}{a i:Kd}(h:Sub i a)(ok:okKd ns a)(j:a.ar=2):Sub (binK ns op i) (binK ns op a):=by
 unfold binK;split
 .exact gV g h ok j
 .split
  .exact gU (gV g h ok j) fun _ h=>h
  .exact qhZ h
theorem apK1(ns:Nat)(op n pos:Int)(a:Kd):zG ns op n pos [some a]=if op=2 then .ok (some ⟨n,[]⟩) else if op=3 then .ok (some (zt ns 1)) else if op=4 then .ok (some (zt ns 2)) else
  if op=5 then .ok (some a) else if op=11\/op=12\/op=13 then (if a.ar=2 then .ok (some (binK ns op a)) else .error (42,pos)) else .ok none:=rfl
theorem apK2(ns : Nat)(op n pos : Int)(a b : Kd) : zG ns op n pos [some a, some b] = if op = 2 then .ok (some ⟨n, []⟩) else if op = 3 then .ok (some (zt ns 1)) else if op = 4 then .ok (some (zt ns 2)) else
      if op=6\/op=14\/op=7\/op=8\/op=32\/op=33 then (if a.ar=b.ar then .ok (some (vZ op a b)) else .error (42,pos))
      else if op=9 then (if 1<=a.ar+b.ar-2/\a.ar+b.ar-2<=3 then .ok (some (zA a b)) else .error (42,pos))
      else if op=10 then (if a.ar+b.ar<=3 then .ok (some (vX a b)) else .error (42,pos))
      else .ok none:=rfl
theorem qh3{ns:Nat}(J:ns<=4){op num pos:Int}{l l':List (Option Kd)}{T:Option Kd}(e1:op≠1)(a0:op≠15)
  (h1:op=5\/op=11\/op=12\/op=13->∃ a j,l=[some a]/\l'=[some j]/\Sub j a/\okKd ns a)
  (h2:op=6\/op=14\/op=7\/op=8\/op=32\/op=33\/op=9\/op=10->∃ a b j b',l=[some a,some b]/\l'=[some j,some b']/\Sub j a/\Sub b' b)
  (h:zG ns op num pos l = .ok T):∃ p,zG ns op num pos l' = .ok p/\(kd op=101->∃ k k',T=some k/\p=some k'/\Sub k' k):=by
 by_cases o:op=2
 .unfold zG at h⊢
  rw[if_pos o]at h⊢;cases h;exact⟨_,rfl,fun _=>⟨_,_,rfl,rfl,Sub.refl _⟩⟩
 by_cases r:op=3
 .unfold zG at h⊢
  rw[if_neg o,if_pos r]at h⊢;cases h;exact⟨_,rfl,fun _=>⟨_,_,rfl,rfl,Sub.refl _⟩⟩
 by_cases t:op=4
 .unfold zG at h⊢
  rw[if_neg o,if_neg r,if_pos t]at h⊢;cases h;exact⟨_,rfl,fun _=>⟨_,_,rfl,rfl,Sub.refl _⟩⟩
 by_cases g1:op=5\/op=11\/op=12\/op=13
 .obtain ⟨a,j,rfl,rfl,P,ok⟩:=h1 g1
  rw[apK1,if_neg o,if_neg r,if_neg t]at h⊢;by_cases U:op=5
  .rw [if_pos U]at h⊢
   cases h;exact⟨_,rfl,fun _=>⟨_,_,rfl,rfl,P⟩⟩
  have g:op=11\/op=12\/op=13:=zOm;rw[if_neg U,if_pos g]at h⊢;by_cases i:a.ar=2
  .rw [if_pos i]at h
   rw[if_pos (P.1.trans i)];cases h;exact⟨_,rfl,fun _=>⟨_,_,rfl,rfl,qh2 J P ok i⟩⟩
  .rw [if_neg i]at h;cases h
 by_cases g2:op=6\/op=14\/op=7\/op=8\/op=32\/op=33\/op=9\/op=10
 .obtain ⟨a,b,j,b',rfl,rfl,C,I⟩:=h2 g2
  have q1:=C.1;have q2:=I.1;rw[apK2,if_neg o,if_neg r,if_neg t]at h⊢;by_cases g3:op=6\/op=14\/op=7\/op=8\/op=32\/op=33
  .rw [if_pos g3]at h⊢
   by_cases i:a.ar=b.ar
   .rw [if_pos i]at h
    rw[if_pos zOm];cases h;exact⟨_,rfl,fun _=>⟨_,_,rfl,rfl,qh1 C I⟩⟩
   .rw [if_neg i]at h;cases h
  rw[if_neg g3]at h⊢;by_cases e9:op=9
  .rw [if_pos e9]at h⊢
   by_cases i:1<=a.ar+b.ar-2/\a.ar+b.ar-2<=3
   .rw [if_pos i]at h
    rw[if_pos zOm];cases h;exact⟨_,rfl,fun _=>⟨_,_,rfl,rfl,Vu C I⟩⟩
   .rw [if_neg i]at h;cases h
  have R:op=10:=zOm;rw[if_neg e9,if_pos R]at h⊢;by_cases i:a.ar+b.ar<=3
  .rw [if_pos i]at h
   rw[if_pos zOm];cases h;exact⟨_,rfl,fun _=>⟨_,_,rfl,rfl,qhY C I⟩⟩
  .rw [if_neg i]at h;cases h
 refine⟨none,Wd o r t zOm zOm zOm zOm zOm zOm zOm zOm zOm zOm zOm zOm,fun hk=>?_⟩;have:=J5 hk;omega
theorem qh4{c:Ck}{n k:Nd}(h:yk c n=false)(i:k∈n.kids):yk c k=false:=by
 rw[U3,Bool.or_eq_false_iff]at h;have g:=h.2;rw[List.any_eq_false]at g;simpa using g k i
theorem W5{c:Ck}{b b':Bool}:∀{ks:List Nd} {s:Scp},(∀ k,k∈ks->∀ s,exam c s b k=exam c s b' k)->qP c s b ks=qP c s b' ks
 | [],s,_=>by simp only[qP]
 |k :: ks,s,h=>by
  simp only[qP];rw[h k (qR ..) s,W5 fun k g s=>h k (qK _ g) s]
theorem qh5{c:Ck}{b b':Bool}{pos:Int}:∀{ks:List Nd} {s:Scp},(∀ k,k∈ks->∀ s,exam c s b k=exam c s b' k)->zH c s b nm pos ks=zH c s b' nm pos ks
 | [],s,_=>by simp only[zH]
 |k :: ks,s,h=>by
  simp only[zH];rw[h k (qR ..) s];cases exam c s b' k with
  |error e=>rfl
  |ok a =>
   cases a with
   |none=>rfl
   |some a =>
    simp only;rw[W5 (s:=(nm,a) :: s) fun k g s=>h k (qK _ g) s]
theorem gX(c:Ck):∀(m:Nat) (n:Nd) (s:Scp) (b b':Bool),szN n<=m->yk c n=false->exam c s b n=exam c s b' n
 | 0,n,_,_,_,g,_=>by obtain⟨op,nm,i,ks,p⟩:=n;simp[szN]at g
 |m+1,n,s,b,b',g,h=>by
  have j:∀ b b' k,k∈n.kids->∀ s,exam c s b k=exam c s b' k:=fun b b' k l s=>gX c m k s b b' (zW1 (yv l)) (qh4 h l)
  have o:zF c n.op n.name=false:=by rw[U3,Bool.or_eq_false_iff]at h;exact h.1
  rw[yw,yw,o,Bool.and_false,Bool.and_false];rw[qh5 (b:=b||decide (n.op=15)) (b':=b'||decide (n.op=15)) (j _ _),W5 (b:=b||decide (n.op=12)||decide (n.op=13)) (b':=b'||decide (n.op=12)||decide (n.op=13)) (j _ _)]
theorem Vw(ts:TS)(i:Nat):∀ m,i<m->m<=ts.preds.length->∀(j:i<ts.preds.length),(tmsL ts m).getD i false=yk (mkCk ts i) ts.preds[i].body
 | 0,h,_,_=>absurd h zOm
 |m+1,h,r,j=>by
  have l:=Q0 ts m zOm;have g:m<ts.preds.length:=zOm;have e:tmsL ts (m+1)=tmsL ts m++[yk (mkCk ts m) ts.preds[m].body]:=by
   show tmsL ts m++(match ts.preds[m]? with|some p=>[yk ⟨ts,m,tmsL ts m⟩ p.body] | none=>[])=_;rw[qv g];rfl
  rw[e];by_cases o:i<m
  .rw [<-Vw ts i m o zOm j]
   simp only[q8];rw[zGa]
  .have:i=m:=by omega
   subst this;simp only[q8];rw[qT zOm,l];simp
abbrev tkn(es:List (ByteArray×Bool))(nm:ByteArray):Prop:=getK nm es=some true
def Tk(es:List (ByteArray×Bool))(n:Nd):Prop:=∀ x,x∈preN n->tkn es x.name
def OwnT(n:Nd):Prop:=∀ x,x∈preN n->ownB x=true
def vLe(es:List (ByteArray×Bool))(L:Int)(nm:ByteArray):Prop:=∃ j:Nat,(j:Int)<=L/\nm=vN j/\¬tkn es nm/\ym nm=true
structure qh6 (es:List (ByteArray×Bool)) (L:Int) (x:Nd):Prop where
 nc:x.op≠47
 own:ownB x=true
 nm:tkn es x.name\/vLe es L x.name
structure jE (es:List (ByteArray×Bool)) (L:Int) (n:Nd):Prop where
 wf:WfN n
 all:∀ x,x∈preN n->qh6 es L x
theorem vLe.mono{L L':Int}(h:vLe es L nm)(g:L<=L'):vLe es L' nm:=by
 obtain⟨j,a,b⟩:=h;exact⟨j,zOm,b⟩
theorem jE.mono{L L':Int}{n:Nd}(h:jE es L n)(i:L<=L'):jE es L' n:=
 ⟨h.wf,fun x g=>⟨(h.all x g).nc,(h.all x g).own,(h.all x g).nm.imp id fun v=>v.mono i⟩⟩
theorem Tk.kid{n k:Nd}(h:Tk es n)(g:k∈n.kids):Tk es k:=fun x i=>h x (WO g i)
theorem OwnT.kid{n k:Nd}(h:OwnT n)(g:k∈n.kids):OwnT k:=fun x i=>h x (WO g i)
theorem Vx{ks:List Nd}{x:Nd}(h:x∈zj ks):∃ k,k∈ks/\x∈preN k:=by
 induction ks with
 |nil=>simp[zj]at h
 |cons a l g =>
  simp only[zj,qC]at h;rcases h with h|h
  .exact ⟨a,qR ..,h⟩
  .obtain ⟨k,i,j⟩:=g h
   exact⟨k,qK _ i,j⟩
theorem qh7{n:Nd}(h:ue nm n):∃ x,x∈preN n/\x.name=nm:=by
 unfold ue at h;rw[WW _ (szN n) n (qn _),List.any_eq_true]at h;obtain⟨x,g,e⟩:=h;exact⟨x,g,zUs e⟩
theorem W6{ts:TS}{es:List (ByteArray×Bool)}:∀{f:Nat} {k:Int},(∃ j:Nat,1<=j/\j<=f/\yX ts es (vN (k+j))=true)->yX ts es (vN (zu ts es f k))=true
 | 0,k,⟨j,i,l,_⟩=>zOm
 |f+1,k,⟨j,i,l,g⟩=>by
  simp only[zu];split
  .rename_i h;exact h
  .rename_i o
   have p:j≠1:=fun e=>by subst e;exact o g
   exact W6 (ts:=ts) (es:=es) (f:=f) (k:=k+1) ⟨j-1,zOm,zOm,by rw[show k+1+((j-1:Nat):Int)=k+j by omega];exact g⟩
theorem gY:∀(m u:Nat),u<10 ^ (m+1)->(Lib.decDigits u).length<=m+1
 | 0,u,h=>by
  rw[Lib.decDigits];split
  .simp
  .omega
 |m+1,u,h=>by
  rw[Lib.decDigits];split
  .simp
  .rw [qU]
   have:=gY m (u / 10) (by rw[Nat.pow_succ]at h;omega);simp only[zq,List.length_nil];omega
theorem gZ:∀(m u:Nat),u<=m->∀ x,x∈Lib.decDigits u->48<=x.toNat/\x.toNat<=57
 |m,u,i,x,g=>by
  rw[Lib.decDigits]at g;split at g
  .rename_i h
   rw[qN]at g;subst g;rw[UInt8.toNat_ofNat_of_lt' (by simp[UInt8.size];omega)];omega
  .rename_i h
   rcases qC.1 g with g|g
   .match m with
    | 0=>omega
    |m+1=>exact gZ m (u / 10) zOm x g
   .rw [qN]at g
    subst g;rw[UInt8.toNat_ofNat_of_lt' (by simp[UInt8.size];omega)];omega
theorem qh8(u:Nat):Lib.decDigits u≠[]:=by
 rw[Lib.decDigits];split<;>simp
theorem qh9(j:Nat):(vN (j:Int)).data.toList=118 :: Lib.decDigits j:=by
 unfold vN jd Lib.itoa;rw[zIn];simp
theorem qiA:∀ x,x∈kwL->∀ c,x.data.toList[1]?=some c->¬(48<=c.toNat/\c.toNat<=57):=by decide +kernel
theorem qiB{j:Nat}(h:j<1000000000000):ym (vN (j:Int))=true:=by
 have l:=qh9 j;have J:=gY 11 j zOm;have p:=gZ j j (qn _);have t:=qh8 j;obtain⟨d,r,e⟩:=List.exists_cons_of_ne_nil t;have C:(vN (j:Int)).size=1+(Lib.decDigits j).length:=by
  have e:(vN (j:Int)).size=(vN (j:Int)).data.toList.length:=by rw[Array.length_toList];rfl
  rw[e,l,zq,Nat.add_comm]
 have o:kwB (vN (j:Int))=false:=by
  unfold kwB;rw[List.any_eq_false];intro x I g;have g:x=vN (j:Int):=zUs g;refine qiA x I d ?_ (p d (by rw[e];exact qR ..));rw[g,l,e];rfl
 unfold ym;simp only[qq,decide_eq_true_eq,o,Bool.not_false,and_true];refine⟨⟨zOm,zOm⟩,?_⟩;rw[qJ];intro i _;rw[<-Array.getElem?_toList,l];cases i with
 |zero=>show chB 0 ((118:UInt8).toNat:Int)=true;decide
 |succ i =>
  rw[vb];cases g:(Lib.decDigits j)[i]? with
  |none=>rfl
  |some c =>
   have:=p c (List.mem_of_getElem? g);simp[chB];right;right;omega
end
end PC
namespace PD
open P1 P2 Y1 Y2 Y9 YX YZ YA YB PA YC YG Q3 Q4 PB PC
section
variable {body:Bool}{nm:ByteArray}{c0:Ck}{env:IEnv}{L:Int}{es:List (ByteArray×Bool)}{l l':List (Option Kd)}{s s':Scp}
structure ArgR (c0:Ck) (es:List (ByteArray×Bool)) (L:Int) (s':Scp) (k:Kd) (a:Nd):Prop where
 ex:∃ k',exam c0 s' true a = .ok (some k')/\Sub k' k
 good:jE es L a
 kd:kd a.op=101
def RlV(c0:Ck)(es:List (ByteArray×Bool))(L:Int)(s':Scp)(v:ByteArray):Option Kd->Option IV->Prop
 |none,none=>True
 |none,some _=>False
 |some k,none=>∃ g,zl v s'=some g/\Sub g k
 |some k,some ⟨some a,_,_⟩=>ArgR c0 es L s' k a
 |some k,some ⟨none,_,i⟩=>(∃ g,zl i s'=some g/\Sub g k)/\vLe es L i
structure Rl (c0:Ck) (es:List (ByteArray×Bool)) (L:Int) (body:Bool) (s s':Scp) (env:IEnv):Prop where
 mean:∀ v,v∈s'->means c0.ts v.1=[]
 rel:∀ v,tkn es v->RlV c0 es L s' v (zl v s) (getK v env)
 arg:body=false->∀ v iv,getK v env=some iv->iv.arg=none
theorem RlV.mono{L':Int}{v:ByteArray}{g:Option Kd}{i:Option IV}(h:RlV c0 es L s' v g i)(j:L<=L'):RlV c0 es L' s' v g i:=by
 match g,i with
 |none,none=>exact h
 |none,some _=>exact h
 |some k,none=>exact h
 |some k,some ⟨some a,_,_⟩ =>
  have h:ArgR c0 es L s' k a:=h;exact(⟨h.ex,h.good.mono j,h.kd⟩:ArgR c0 es L' s' k a)
 |some k,some ⟨none,_,l⟩=>exact⟨h.1,h.2.mono j⟩
theorem Rl.mono{L':Int}(h:Rl c0 es L body s s' env)(g:L<=L'):Rl c0 es L' body s s' env:=
 ⟨h.mean,fun v i=>(h.rel v i).mono g,h.arg⟩
theorem Vy:∀{s:Scp} {k:Kd},zl nm s=some k->(nm,k)∈s
 | [],k,h=>by simp[qg2]at h
 |v :: s,k,h=>by
  rw[uT]at h;split at h
  .rename_i e
   cases h;rw[<-e];exact qR ..
  .exact qK _ (Vy h)
theorem Rl.bind{st:ISt}{k k':Kd}(a6:Free c0.ts es)(a0:(env.map Prod.fst).Nodup)(h:Rl c0 es st.last body s s' env)(h0:0<=st.last)(hb:st.last+(qp c0.ts es:Nat)<1000000000000)(ht:tkn es nm)(hs:Sub k' k) :
  Rl c0 es (renI c0.ts es env nm body st).2.last body ((nm,k) :: s) (((renI c0.ts es env nm body st).1.2,k') :: s') (renI c0.ts es env nm body st).1.1/\st.last<=(renI c0.ts es env nm body st).2.last/\(tkn es (renI c0.ts es env nm body st).1.2\/vLe es (renI c0.ts es env nm body st).2.last (renI c0.ts es env nm body st).1.2):=by
 have a1:∀ v,zl v ((nm,k) :: s)=if nm=v then some k else zl v s:=fun v=>uT v _ _
 unfold renI;by_cases hc:body=true\/means c0.ts nm≠[]
 .rw [if_pos hc]
  have a2:=a6 st.last h0;have r:=W6 a2;have a9:=WP c0.ts es (qp c0.ts es) st.last;have a8:=WQ a2;generalize zu c0.ts es (qp c0.ts es) st.last=J at *
  obtain⟨j,rfl⟩:∃ j:Nat,J=j:=⟨J.toNat,zOm⟩;simp only[yX,qq,decide_eq_true_eq]at r;obtain⟨f1,f2⟩:=r;have hv:vLe es (j:Int) (vN j):=⟨j,jv _,rfl,f1,qiB zOm⟩;have l:∀ v,v≠vN (j:Int)->zl v ((vN (j:Int),k') :: s')=zl v s':=fun v hv=>by
   rw[uT,if_neg (fun e=>hv e.symm)]
  have a3:∀{v:ByteArray},vLe es st.last v->v≠vN (j:Int):=fun⟨i,hi,e,_⟩ o=>by
   rw[e]at o;have:=gN o;omega
  have a4:∀ v,getK v (setK nm ⟨none,0,vN (j:Int)⟩ (delK nm env))=if v=nm then some ⟨none,0,vN (j:Int)⟩ else getK v env:=fun v=>by
   rw[v6,wh a0];split<;>rfl
  refine⟨⟨fun v P=>?_,fun v t=>?_,fun C v R g=>?_⟩,by show st.last<=(j:Int);omega,.inr hv⟩
  .rcases qu.1 P with rfl|P
   .exact f2
   .exact h.mean v P
  .show RlV c0 es (j:Int) ((vN (j:Int),k') :: s') v (zl v ((nm,k) :: s)) (getK v (setK nm ⟨none,0,vN (j:Int)⟩ (delK nm env)))
   rw[a1,a4];by_cases I:nm=v
   .rw [if_pos I,if_pos I.symm]
    exact⟨⟨k',by rw[uT,if_pos rfl],hs⟩,hv⟩
   .rw [if_neg I,if_neg (fun e=>I e.symm)]
    have p:=(h.rel v t).mono (L':=(j:Int)) zOm;have T:=h.rel v t;generalize zl v s=lk at *
    generalize getK v env=R at *
    match lk,R with
    |none,none=>trivial
    |none,some _=>exact p
    |some q,none =>
     obtain⟨U,e1,o⟩:=p;exact⟨U,by rw[l v (fun e=>f1 (e ▸ t))];exact e1,o⟩
    |some q,some ⟨some a,_,_⟩ =>
     have p:ArgR c0 es (j:Int) s' q a:=p;have T:ArgR c0 es st.last s' q a:=T;refine(⟨?_,p.good,p.kd⟩:ArgR c0 es (j:Int) ((vN (j:Int),k') :: s') q a);obtain⟨U,e1,o⟩:=p.ex;refine⟨U,?_,o⟩;rw[<-e1];refine gy (uf.refl c0) (szN a) a _ _ true (qn _) fun x hx=>?_
     obtain⟨y,hy,rfl⟩:=qh7 hx;rcases (T.good.all y hy).nm with h1|h1
     .exact l _ (fun e=>f1 (e ▸ h1))
     .exact l _ (a3 h1)
    |some q,some ⟨none,_,to⟩ =>
     obtain⟨⟨U,e1,o⟩,e3⟩:=p;exact⟨⟨U,by rw[l to (a3 T.2)];exact e1,o⟩,e3⟩
  .have g:getK v (setK nm ⟨none,0,vN (j:Int)⟩ (delK nm env))=some R:=g
   rw[a4]at g;split at g
   .cases g;rfl
   .exact h.arg C v R g
 .rw [if_neg hc]
  have C:body=false:=by
   cases body with
   |false=>rfl
   |true=>exact absurd (.inl rfl) hc
  have a7:means c0.ts nm=[]:=by
   by_cases P:means c0.ts nm=[]
   .exact P
   .exact absurd (.inr P) hc
  have l:∀ v,v≠nm->zl v ((nm,k') :: s')=zl v s':=fun v hv=>by
   rw[uT,if_neg (fun e=>hv e.symm)]
  refine⟨⟨fun v P=>?_,fun v t=>?_,fun C v R g=>?_⟩,jv _,.inl ht⟩
  .rcases qu.1 P with rfl|P
   .exact a7
   .exact h.mean v P
  .show RlV c0 es st.last ((nm,k') :: s') v (zl v ((nm,k) :: s)) (getK v (delK nm env))
   rw[a1,wh a0];by_cases I:nm=v
   .rw [if_pos I,if_pos I.symm]
    exact⟨k',by rw[uT,if_pos I],hs⟩
   .rw [if_neg I,if_neg (fun e=>I e.symm)]
    have p:=h.rel v t;have a5:=h.arg C v;generalize zl v s=lk at *
    generalize getK v env=R at *
    match lk,R with
    |none,none=>trivial
    |none,some _=>exact p
    |some q,none =>
     obtain⟨U,e1,o⟩:=p;exact⟨U,by rw[l v (fun e=>I e.symm)];exact e1,o⟩
    |some q,some ⟨some a,_,_⟩=>exact absurd (a5 _ rfl) zSp
    |some q,some ⟨none,_,to⟩ =>
     obtain⟨⟨U,e1,o⟩,e3⟩:=p;refine⟨⟨U,?_,o⟩,e3⟩;rw[l to fun e=>?_]
     .exact e1
     .obtain ⟨_,_,_,hn,_⟩:=e3
      exact hn (e ▸ ht)
  .have g:getK v (delK nm env)=some R:=g
   rw[wh a0]at g;split at g
   .cases g
   .exact h.arg C v R g
structure Out (c0:Ck) (es:List (ByteArray×Bool)) (s':Scp) (inn:Bool) (n n':Nd) (ko:Option Kd) (L L':Int):Prop where
 ex:∃ ko',exam c0 s' inn n' = .ok ko'/\(kd n.op=101->∃ k k',ko=some k/\ko'=some k'/\Sub k' k)
 good:jE es L' n'
 kd:kd n'.op=kd n.op
 le:L<=L'
def Pt(es:List (ByteArray×Bool))(L:Int):List Nd->List Nd->List (Option Kd)->List (Option Kd)->Prop
 | [],[],[],[]=>True
 |k :: ks,i :: g,a :: l,o :: p=>((kd k.op=101->∃ q j,a=some q/\o=some j/\Sub j q)/\kd i.op=kd k.op/\jE es L i)/\Pt es L ks g l p
 |_,_,_,_=>False
theorem Pt.spec:∀{ks g:List Nd} {l l':List (Option Kd)},Pt es L ks g l l'->(g.map fun k=>kd k.op)=(ks.map fun k=>kd k.op)/\∀ k,k∈g->jE es L k
 | [],[],[],[],_=>⟨rfl,fun k j=>absurd j qD⟩
 |k :: ks,k' :: g,a :: l,I :: l',h=>by
  obtain⟨⟨J,o,p⟩,r⟩:=h;obtain⟨t,C⟩:=Pt.spec r;refine⟨by rw[yS,yS,o,t],fun x i=>?_⟩;rcases qu.1 i with rfl|i
  .exact p
  .exact C x i
theorem Pt.cons{es:List (ByteArray×Bool)}{L:Int}{k:Nd}{ks j:List Nd}{l l':List (Option Kd)}(h:Pt es L (k :: ks) j l l'):∃ k' g a l2 o i,j=k' :: g/\l=a :: l2/\l'=o :: i/\(kd k.op=101->∃ q p,a=some q/\o=some p/\Sub p q)/\Pt es L ks g l2 i:=by
 cases j with
 |nil=>cases l<;>cases l'<;>exact h.elim
 |cons k' g =>
  cases l with
  |nil=>cases l'<;>exact h.elim
  |cons a l2 =>
   cases l' with
   |nil=>exact h.elim
   |cons o i=>exact⟨k',g,a,l2,o,i,rfl,rfl,rfl,h.1.1,h.2⟩
theorem Pt.nil{g:List Nd}(h:Pt es L [] g l l'):l=[]/\l'=[]:=by
 cases g with
 |nil =>
  cases l with
  |nil=>cases l' with
   |nil=>exact⟨rfl,rfl⟩
   |cons a l=>exact h.elim
  |cons a l=>cases l'<;>exact h.elim
 |cons k ks=>cases l<;>cases l'<;>exact h.elim
theorem Pt.one{ks i:List Nd}(h:Pt es L ks i l l')(g:(ks.map fun k=>kd k.op)=[101]):∃ a j,l=[some a]/\l'=[some j]/\Sub j a:=by
 match ks,g with
 | [k],g =>
  obtain⟨I,o,a,l2,j,p,rfl,rfl,rfl,r,t⟩:=h.cons;obtain⟨rfl,rfl⟩:=t.nil;obtain⟨q,C,rfl,rfl,e⟩:=r (zUs g);exact⟨q,C,rfl,rfl,e⟩
 | [],g=>simp at g
 |_ :: _ :: _,g=>simp at g
theorem Pt.two{ks i:List Nd}(h:Pt es L ks i l l')(g:(ks.map fun k=>kd k.op)=[101,101]):∃ a b o b',l=[some a,some b]/\l'=[some o,some b']/\Sub o a/\Sub b' b:=by
 match ks,g with
 | [k,j],g =>
  have g:kd k.op=101/\kd j.op=101:=zUs g;obtain⟨k',r,a,l2,o,t,rfl,rfl,rfl,C,I⟩:=h.cons;obtain⟨_,_,b,l3,b',J,rfl,rfl,rfl,P,R⟩:=I.cons;obtain⟨rfl,rfl⟩:=R.nil;obtain⟨q,T,rfl,rfl,e⟩:=C g.1;obtain⟨p,U,rfl,rfl,e2⟩:=P g.2;exact⟨q,p,T,U,rfl,rfl,e,e2⟩
 | [],g=>simp at g
 | [_],g=>simp at g
 |_ :: _ :: _ :: _,g=>simp at g
theorem g7{c:Ck}{F:Nat}{inn:Bool}{E:IEnv->Nd->ISt->XR (Nd×Int)}{R:IEnv->ByteArray->ISt->(IEnv×ByteArray)×ISt} :
  ∀{ks:List Nd} {i:Nat} {nm o:ByteArray} {st g:ISt} {j:List Nd} {J:Int} {l:List (Option Kd)},
  (∀ k,k∈ks->∀ st n' z g I,StOk F st->Rl c0 es st.last body s s' env->E env k st = .ok ((n',z),g)->exam c s inn k = .ok I->Out c0 es s' inn k n' I st.last g.last/\StOk F g) ->
  StOk F st->Rl c0 es st.last body s s' env->yN E R false i env nm ks st = .ok ((o,j,J),g)->qP c s inn ks = .ok l ->
  o=nm/\st.last<=g.last/\∃ l',qP c0 s' inn j = .ok l'/\Pt es g.last ks j l l'
 | [],i,nm,o,st,g,j,J,l,_,r,P,e,el=>by
  cases e;simp only[qP,Except.ok.injEq]at el;subst el;exact⟨rfl,jv _,[],by simp only[qP],trivial⟩
 |k :: ks,i,nm,o,st,g,j,J,l,hE,r,P,e,el=>by
  simp only[yN,Bool.false_eq_true,false_and,if_false]at e;simp only[qP]at el;split at e
  .cases e
  .rename_i k' m1 s1 h1
   cases T:exam c s inn k with
   |error er=>rw[T]at el;cases el
   |ok I =>
    rw[T]at el;simp only at el;obtain⟨t,C⟩:=hE k (qR ..) st k' m1 s1 I r P h1 T;cases p:qP c s inn ks with
    |error er=>rw[p]at el;cases el
    |ok l1 =>
     rw[p]at el;cases el;split at e
     .cases e
     .rename_i a0 a1 m2 s2 h2
      obtain⟨e1,e2,l',e3,e4⟩:=g7 (fun k hk=>hE k (qK _ hk)) C (P.mono t.le) h2 p;cases e;obtain⟨U,x1,x2⟩:=t.ex;refine⟨e1,zW1 t.le,U :: l',?_,⟨⟨x2,t.kd,t.good.mono e2⟩,e4⟩⟩;simp only[qP];rw[x1,e3]
theorem Zl{c:Ck}{op:Int}(h:op≠47):zF c op nm=zO op:=by
 simp[zF,h]
theorem jE.node{n:Nd}{ks:List Nd}(C:WfN n)(g:(ks.map fun k=>kd k.op)=(n.kids.map fun k=>kd k.op))(I:∀ k,k∈ks->jE es L k)(h47:n.op≠47)(p:ownB n=true)
  (J:nm=n.name/\tkn es nm\/vLe es L nm/\ym n.name=true):jE es L (.mk n.op nm n.n ks n.pos):=by
 have l:ks.length=n.kids.length:=by have:=congrArg List.length g;simpa using this
 have o:ym nm=ym n.name/\(nm=⟨#[]⟩↔n.name=⟨#[]⟩):=by
  rcases J with ⟨rfl,_⟩|⟨R,r⟩
  .exact ⟨rfl,Iff.rfl⟩
  .obtain ⟨j,_,_,_,t⟩:=R
   refine⟨t.trans r.symm,fun e=>?_,fun e=>?_⟩
   .rw [e]at t;exact absurd t zDe
   .rw [e]at r;exact absurd r zDe
 refine⟨.mk _ ?_ (fun h=>?_) fun k g=>(I k g).wf,fun x i=>?_⟩
 .show shp n.op ks.length=some (ks.map fun k=>kd k.op)
  rw[l,g];exact C.shape
 .exact C.num h
 .rw [uS]at i
  rcases qu.1 i with rfl|i
  .refine ⟨h47,?_,?_⟩
   .unfold ownB at p⊢
    show (if ua n.op=ym nm/\(ua n.op=true\/nm=⟨#[]⟩) then numB n.op n.n else false)=true;split at p
    .rename_i P
     rw[if_pos ⟨by rw[o.1];exact P.1,P.2.imp id o.2.2⟩];exact p
    .cases p
   .rcases J with ⟨_,h⟩|⟨h,_⟩
    .exact .inl h
    .exact .inr h
  .obtain ⟨k,g,i⟩:=Vx i
   exact(I k g).all x i
end
end PD
namespace PE
open P1 P2 Y1 Y2 Y3 Y9 Y10 Y14 YX YZ YA YB PA YC Q3 Q4 PB PC PD
section
variable {inn:Bool}{c c0:Ck}{es:List (ByteArray×Bool)}{s s':Scp}
theorem Vz{n:Nd}(h:n.op=1):exam c s inn n=yV c s n.name n.pos:=by
 rw[yw,Zl zOm,h,show zO 1=false from rfl,Bool.and_false,if_neg zSp,if_pos rfl]
theorem qiC{n:Nd}{k:Option Kd}(h:exam c s true n = .ok k):exam c s inn n = .ok k:=by
 cases inn with
 |true=>exact h
 |false=>exact gW c (szN n) n s k (qn _) h
theorem W7{n:Nd}(i:WfN n)(h:n.op=1):n.kids=[]:=by
 have g:=i.shape;unfold shp at g;rw[if_pos (.inl h)]at g;simp only[qj]at g;exact List.map_eq_nil_iff.1 g.symm
theorem g8{L:Int}{n:Nd}(i:WfN n)(h:n.op=1)(j:tkn es n.name)(l:ownB n=true):jE es L n:=
 ⟨i,fun x g=>by
  rw[uS,W7 i h]at g;simp[zj]at g;subst g;exact⟨zOm,l,.inl j⟩⟩
theorem na{n:Nd}(g:ownB n=true)(h:ua n.op=true):ym n.name=true:=by
 unfold ownB at g;split at g
 .rename_i i;rw[<-i.1];exact h
 .cases g
theorem qiD{body:Bool}{env:IEnv}{n n':Nd}{z:Int}{st j:ISt}{P:Option Kd}(l:c.ts=c0.ts)(i:n.op=1)(I:WfN n)(R:tkn es n.name)(J:ownB n=true)(U:Rl c0 es st.last body s s' env)
  (e:wq env n st = .ok ((n',z),j)) (x:exam c s inn n = .ok P):Out c0 es s' inn n n' P st.last j.last:=by
 rw[Vz i,wv]at x;have g:=U.rel n.name R;unfold wq at e;cases hg:getK n.name env with
 |none =>
  rw[hg]at e g;cases e;cases o:zl n.name s with
  |some k =>
   rw[o]at g x;obtain⟨r,t,C⟩:=g;cases x;exact⟨⟨some r,by rw[Vz i,wv,t],fun _=>⟨_,_,rfl,rfl,C⟩⟩,g8 I i R J,rfl,jv _⟩
  |none =>
   rw[o]at x;simp only at x;have T:zl n.name s'=none:=by
    cases T:zl n.name s' with
    |none=>rfl
    |some q =>
     have:=U.mean _ (Vy T);rw[l,this]at x;cases x
   refine⟨⟨P,by rw[Vz i,wv,T,<-l];exact x,fun _=>?_⟩,g8 I i R J,rfl,jv _⟩;split at x
   .cases x
   .cases x;exact⟨_,_,rfl,rfl,Sub.refl _⟩
   .cases x
 |some iv =>
  obtain⟨a,p,to⟩:=iv;rw[hg]at e g;simp only at e;cases o:zl n.name s with
  |none=>rw[o]at g;exact g.elim
  |some k =>
   rw[o]at g x;cases x;cases a with
   |none =>
    cases e;obtain⟨⟨r,t,C⟩,e3⟩:=g;refine⟨⟨some r,by rw[Vz (n := .mk n.op to n.n n.kids n.pos) i,wv];show (match zl to s' with|some k=>_|none=>_)=_;rw[t],fun _=>⟨_,_,rfl,rfl,C⟩⟩,?_,rfl,jv _⟩;refine jE.node I rfl (fun k hk=>?_) zOm J (.inr ⟨e3,na J (by rw[i];rfl)⟩);rw[W7 I i]at hk;exact absurd hk qD
   |some a =>
    simp only at e;have g:ArgR c0 es st.last s' k a:=g;obtain⟨r,t,C⟩:=g.ex;split at e
    .cases e
     exact⟨⟨some r,qiC t,fun _=>⟨_,_,rfl,rfl,C⟩⟩,g.good,by rw[g.kd,i];rfl,jv _⟩
    .cases e
def OwnV(c0:Ck)(es:List (ByteArray×Bool))(L:Int)(s':Scp):Option Kd->Option IV->Prop
 |none,none=>True
 |some k,some ⟨some a,_,_⟩=>ArgR c0 es L s' k a
 |_,_=>False
theorem OwnV.mono{L L':Int}{g:Option Kd}{i:Option IV}(h:OwnV c0 es L s' g i)(j:L<=L'):OwnV c0 es L' s' g i:=by
 match g,i with
 |none,none=>exact h
 |none,some _=>exact h.elim
 |some k,none=>exact h.elim
 |some k,some ⟨some a,_,_⟩ =>
  have h:ArgR c0 es L s' k a:=h;exact(⟨h.ex,h.good.mono j,h.kd⟩:ArgR c0 es L' s' k a)
 |some k,some ⟨none,_,l⟩=>exact h.elim
theorem qiE{ns:Nat}{i:Int}{a:Kd}(h:okKd ns a)(g:a.ar=1)(p:wY i a=true):Sub a (kOf [i]):=⟨by rw[g];rfl,fun t j=>by
 obtain⟨l,rfl,o,_⟩:=h.ts t j;rw[g]at o
 match l,o with
 | [y],_ =>
  have:=qJ.1 p _ j;simp[pad]at this;subst this;exact qN.2 rfl⟩
theorem ne{ns:Nat}{F:Nat}{body:Bool}{env:IEnv}{pos:Int}{E:Nd->ISt->XR (Nd×Int)}{R:Option Kd} :
  ∀{ks:List Nd} {ps:List (ByteArray×Int)} {own i:IEnv} {sc:Scp} {st g:ISt},
  (∀ k,k∈ks->∀ st n' z g R,StOk F st->Rl c0 es st.last body s s' env->E k st = .ok ((n',z),g)->exam c s true k = .ok R->Out c0 es s' true k n' R st.last g.last/\StOk F g) ->
  (∀ k,k∈ks->kd k.op=101)->(∀ k,k∈ks->∀ a,exam c s true k = .ok (some a)->okKd ns a)->StOk F st->Rl c0 es st.last body s s' env ->
  (∀ v,OwnV c0 es st.last s' (zl v sc) (getK v own))->ps.length=ks.length->z6 c s pos ps ks = .ok R->yY E ps ks own st = .ok (i,g) ->
  st.last<=g.last/\∀ v,OwnV c0 es g.last s' (zl v (ps.foldl (fun s p=>(p.1,kOf [p.2]) :: s) sc)) (getK v i)
 | [],[],own,i,sc,st,g,_,_,_,_,_,ho,_,_,e=>by
  cases e;exact⟨jv _,ho⟩
 |k :: ks,p :: ps,own,i,sc,st,g,hE,T,o,a0,hr,ho,r,x,e=>by
  simp only[z6]at x;simp only[yY]at e;cases t:exam c s true k with
  |error er=>rw[t]at x;cases x
  |ok ka =>
   cases ka with
   |none=>rw[t]at x;cases x
   |some a =>
    rw[t]at x;simp only at x;by_cases j:a.ar=1
    .rw [if_pos j]at x
     by_cases l:wY p.2 a=true
     .rw [if_pos l]at x
      split at e
      .cases e
      .rename_i k' m s1 h1
       obtain⟨out,C⟩:=hE k (qR ..) st k' m s1 _ a0 hr h1 t;obtain⟨a1,x1,x2⟩:=out.ex;have I:=T k (qR ..);obtain⟨q,q',y1,y2,y3⟩:=x2 I;cases y1;subst y2;have hs:=y3.trans (qiE (o k (qR ..) a t) j l);have J:ArgR c0 es s1.last s' (kOf [p.2]) k':=⟨⟨q',x1,hs⟩,out.good,by rw[out.kd];exact I⟩;have P:∀ v,OwnV c0 es s1.last s' (zl v ((p.1,kOf [p.2]) :: sc)) (getK v (setK p.1 ⟨some k',m,⟨#[]⟩⟩ own)):=fun v=>by
        rw[uT,v6];by_cases U:p.1=v
        .rw [if_pos U,if_pos U.symm]
         exact J
        .rw [if_neg U,if_neg (fun e=>U e.symm)]
         exact(ho v).mono out.le
       obtain⟨r1,r2⟩:=ne (sc:=(p.1,kOf [p.2]) :: sc) (fun k T=>hE k (qK _ T)) (fun k h=>T k (qK _ h)) (fun k h=>o k (qK _ h)) C (hr.mono out.le) P (zUs r) x e;exact⟨zW1 out.le,r2⟩
     .rw [if_neg l]at x;cases x
    .rw [if_neg j]at x;cases x
 | [],_ :: _,_,_,_,_,_,_,_,_,_,_,_,r,_,_=>by simp at r
 |_ :: _,[],_,_,_,_,_,_,_,_,_,_,_,r,_,_=>by simp at r
def W8(ts:TS)(es:List (ByteArray×Bool)):Prop:=∀(i:Nat) (j:i<ts.preds.length),(∃ g,exam (mkCk ts i) (yL ts.preds[i].params) false ts.preds[i].body = .ok g)/\30<=ts.preds[i].body.op/\WfN ts.preds[i].body/\Tk es ts.preds[i].body/\OwnT ts.preds[i].body
abbrev ckF(ts:TS):Ck:=mkCk ts ts.preds.length
def IHx(ts:TS)(es:List (ByteArray×Bool))(f:Nat):Prop:=∀(env:IEnv) (n:Nd) (i:Bool) (st:ISt) (l:Nd) (z:Int) (g:ISt) (s o:Scp) (j:Bool) (m:Nat) (p:Option Kd),
 m<=ts.preds.length->WfN n->Tk es n->OwnT n->ScOk ts.sorts.length s->StOk (qp ts es) st->qW env->Rl (ckF ts) es st.last i s o env ->
 expI ts es f env n i st = .ok ((l,z),g)->exam (mkCk ts m) s j n = .ok p->Out (ckF ts) es o j n l p st.last g.last
theorem ng{n:Nd}(i:WfN n)(h:30<=n.op):kd n.op=102:=by
 have g:=i.shape;have:n.op<=51:=by
  by_cases j:n.op<=51
  .exact j
  .exfalso
   unfold shp at g;rw[zIn,zIn,zIn,zIn,zIn,zIn,zIn,zIn]at g;cases g
 unfold kd;rw[zIn,zIn,if_pos ⟨h,this⟩]
theorem W9{n:Nd}(i:WfN n)(h:n.op=47):∀ k,k∈n.kids->kd k.op=101:=by
 have g:=i.shape;have e:shp n.op n.kids.length=some (zp (min n.kids.length 401) 101):=by
  unfold shp;rw[zIn,zIn,zIn,zIn,zIn,zIn,zIn,if_pos h]
 rw[e]at g;simp only[qj]at g;intro k j;have:kd k.op∈n.kids.map fun k=>kd k.op:=qk.2 ⟨k,j,rfl⟩
 rw[<-g]at this;exact List.eq_of_mem_replicate this
theorem qiF(ts:TS)(h:okTS ts)(es:List (ByteArray×Bool))(hP:W8 ts es)(a3:Free ts es)(f:Nat)(ih:IHx ts es f)(env:IEnv)(n:Nd)(body:Bool)(st:ISt)(n':Nd)(z:Int)(l:ISt)(s s':Scp)(inn:Bool)(m:Nat)(ko:Option Kd)
  (hm:m<=ts.preds.length) (hw:WfN n) (ht:Tk es n) (ho:OwnT n) (hs:ScOk ts.sorts.length s) (r:StOk (qp ts es) st) (R:qW env) (hr:Rl (ckF ts) es st.last body s s' env) (h47:n.op=47)
  (e:((match ts.preds.find? fun p=>decide (p.name=n.name) with
    |none=>Except.error (2,0)
    |some p=>w8 (yY (fun k s=>expI ts es f env k body s) p.params n.kids [] st) fun own s'=>expI ts es f own p.body true s'):XR (Nd×Int)) = .ok ((n',z),l))
  (x:exam (mkCk ts m) s inn n = .ok ko):Out (ckF ts) es s' inn n n' ko st.last l.last:=by
 have hc:okCk (mkCk ts m):=uM h hm;rw[yw,if_neg (show ¬n.op=1 by omega),if_pos h47]at x;split at x
 .cases x
 rename_i I;split at x
 .cases g:zb (mkCk ts m) n.name with
  |none=>rw[g]at x;cases x
  |some i =>
   obtain⟨T,t⟩:=Qy hc g;have T:i<m:=T;have t:i<ts.preds.length:=t;rw[g]at x;simp only at x;have x:((match ts.preds[i]? with|none=>Except.error (45,n.pos)|some C=>if C.params.length=n.kids.length then z6 (mkCk ts m) s n.pos C.params n.kids else .error (45,n.pos)):Res) = .ok ko:=x;rw[qv t]at x;simp only at x;have U:(ts.preds.find? fun p=>decide (p.name=n.name))=some ts.preds[i]:=by
    unfold zb at g;rw[List.findIdx?_eq_some_iff_getElem]at g;obtain⟨hi,a1,a2⟩:=g;rw[List.find?_eq_some_iff_getElem];refine⟨?_,i,t,rfl,fun j hj=>?_⟩
    .have:=a1
     simp only[List.getElem_take]at this;exact this
    .have:=a2 j hj
     simp only[List.getElem_take]at this;have h3:¬decide (ts.preds[j].name=n.name)=true:=this;simpa using h3
   rw[U]at e;simp only at e;obtain⟨⟨kb,hb⟩,a4,a5,ae,af⟩:=hP i t;have ag:=h.pl _ (qt t);generalize ah:ts.preds[i]=C at *
   by_cases J:C.params.length=n.kids.length
   .rw [if_pos J]at x
    obtain⟨own,s1,h1,e⟩:=Zi e;have a6:=W9 hw h47;have a7:∀ k,k∈n.kids->∀ st n' z l,StOk (qp ts es) st->expI ts es f env k body st = .ok ((n',z),l)->StOk (qp ts es) l:=fun k P st n' z l r e=>(j7 ts a3 f r R e).ok r
    obtain⟨g1,g2⟩:=ne (c:=mkCk ts m) (c0:=ckF ts) (ns:=ts.sorts.length) (F:=qp ts es) (body:=body) (s:=s) (s':=s') (env:=env) (sc:=[]) (own:=[])
     (fun k P st n' z l ko r hr e x=>⟨ih env k body st n' z l s s' true m ko hm (hw.kid P) (ht.kid P) (ho.kid P) hs r R hr e x,a7 k P st n' z l r e⟩)
     a6 (fun k P a hx=>by
      obtain⟨q,e1,e2⟩:=uN hc (szN k) k s true _ (qn _) (hw.kid P) hs hx (a6 k P);cases e1;exact e2)
     r hr (fun v=>trivial) J x h1
    obtain⟨a8,ai⟩:=WR (F:=qp ts es) (fun k n' z s s' _ hs hE=>j7 ts a3 f hs R hE) r .nil h1;have a9:=ai.ok r;have aj:Rl (ckF ts) es s1.last true (yL C.params) s' own:=⟨hr.mean,fun v hv=>by
     have:=g2 v;have:OwnV (ckF ts) es s1.last s' (zl v (yL C.params)) (getK v own):=this;generalize zl v (yL C.params)=lk at *
     generalize getK v own=iv at *
     match lk,iv with
     |none,none=>trivial
     |some k,some ⟨some a,_,_⟩=>exact this
     |none,some _=>exact this.elim
     |some k,none=>exact this.elim
     |some k,some ⟨none,_,_⟩=>exact this.elim,fun ak=>by cases ak⟩
    have aa:ScOk ts.sorts.length (yL C.params):=kU ⟨zOm,ag.2⟩;have al:exam (mkCk ts i) (yL C.params) inn C.body = .ok kb:=by
     cases ab:inn with
     |false=>exact hb
     |true =>
      rw[<-hb];refine gX _ (szN C.body) C.body _ _ _ (qn _) ?_;rw[ab]at I;have a0:zF (mkCk ts m) n.op n.name=false:=by simpa using I
      unfold zF at a0;rw[g,h47]at a0;have:=Vw ts i m T hm t;rw[ah]at this;rw[<-this];have ad:(zO 47||(decide ((47:Int)=47)&&(tmsL ts m).getD i false))=false:=a0;simpa using (Bool.or_eq_false_iff.1 ad).2
    have out:=ih own C.body true s1 n' z l (yL C.params) s' inn i kb zOm a5 ae af aa a9 a8 aj e al;obtain⟨an,x1,_⟩:=out.ex;refine⟨⟨an,x1,fun P=>?_⟩,out.good,?_,zW1 out.le⟩
    .rw [h47]at P;exact absurd P zDe
    .rw [out.kd,ng a5 a4,h47];rfl
   .rw [if_neg J]at x;cases x
 .cases x
theorem nh{n:Nd}(i:WfN n)(h:n.op=5\/n.op=11\/n.op=12\/n.op=13):(n.kids.map fun k=>kd k.op)=[101]:=by
 have g:=i.shape;unfold shp at g;rw[zIn,if_pos zOm]at g;simp only[qj]at g;exact g.symm
theorem qiG{n:Nd}(i:WfN n)(h:n.op=6\/n.op=14\/n.op=7\/n.op=8\/n.op=32\/n.op=33\/n.op=9\/n.op=10):(n.kids.map fun k=>kd k.op)=[101,101]:=by
 have g:=i.shape;unfold shp at g;rw[zIn,zIn,if_pos zOm]at g;simp only[qj]at g;exact g.symm
theorem VA{n:Nd}(i:WfN n)(h:n.op=15\/n.op=45\/n.op=46):∃ a f,n.kids=[a,f]/\kd a.op=101:=by
 have g:=i.shape;unfold shp at g;rw[zIn,zIn,zIn,if_pos zOm]at g;simp only[qj]at g
 match j:n.kids,g with
 | [a,f],g =>
  simp at g;exact⟨a,f,rfl,g.1.symm⟩
 | [],g=>simp at g
 | [_],g=>simp at g
 |_ :: _ :: _ :: _,g=>simp at g
theorem qiH(ts:TS)(h:okTS ts)(es:List (ByteArray×Bool))(a3:Free ts es)(f:Nat)(ih:IHx ts es f)(env:IEnv)(n:Nd)(body:Bool)(st:ISt)(R:ByteArray)(t:List Nd)(z:Int)(r:ISt)(s s':Scp)(inn:Bool)(m:Nat)(ko:Option Kd)
  (hm:m<=ts.preds.length) (P:WfN n) (ht:Tk es n) (ho:OwnT n) (hs:ScOk ts.sorts.length s) (p:StOk (qp ts es) st) (T:qW env) (hr:Rl (ckF ts) es st.last body s s' env) (h47:n.op≠47) (h1:n.op≠1) (U:¬(n.op=15\/n.op=45\/n.op=46))
  (e:yN (fun env k s=>expI ts es f env k body s) (fun env nm s=>renI ts es env nm body s) (binB n.op) 0 env n.name n.kids st = .ok ((R,t,z),r))
  (x:exam (mkCk ts m) s inn n = .ok ko):Out (ckF ts) es s' inn n (.mk n.op R n.n t n.pos) ko st.last r.last:=by
 have hc:okCk (mkCk ts m):=uM h hm;have a4:binB n.op=false:=by
  unfold binB;simp only[not_or]at U;simp[U]
 rw[a4]at e;rw[yw,Zl h47,if_neg h1,if_neg h47,if_neg U]at x;split at x
 .cases x
 rename_i C;have j:=x;clear x;generalize hB:(inn||decide (n.op=12)||decide (n.op=13))=B at j;cases hl:qP (mkCk ts m) s B n.kids with
 |error er=>rw[hl]at j;cases j
 |ok l =>
  rw[hl]at j;simp only at j;obtain⟨rfl,a5,l',a6,I⟩:=g7 (c:=mkCk ts m) (c0:=ckF ts) (F:=qp ts es) (body:=body) (s:=s) (s':=s') (env:=env)
   (fun k hk st n' z r ko p hr e x=>⟨ih env k body st n' z r s s' B m ko hm (P.kid hk) (ht.kid hk) (ho.kid hk) hs p T hr e x,(j7 ts a3 f p T e).ok p⟩) p hr e hl
  obtain⟨a0,J⟩:=I.spec;have a1:=J4 hl;obtain⟨a7,y1,y2⟩:=qh3 (ns:=ts.sorts.length) h.ns (op:=n.op) (num:=n.n) (pos:=n.pos) (l:=l) (l':=l') h1 (fun e=>U (.inl e)) (fun g=>by
    obtain⟨a,a',rfl,rfl,e3⟩:=I.one (nh P g);refine⟨a,a',rfl,rfl,e3,?_⟩;have i:=nh P g
    match a2:n.kids,i with
    | [k],i =>
     rw[a2]at a1;have hx:=a1.2 0 k (some a) rfl rfl;obtain⟨q,e1,e2⟩:=uN hc (szN k) k s B _ (qn _) (P.kid (by rw[a2];simp)) hs hx (zUs i);cases e1;exact e2
    | [],i=>simp at i
    |_ :: _ :: _,i=>simp at i)
   (fun g=>I.two (qiG P g)) j
  refine⟨⟨a7,?_,y2⟩,jE.node P a0 J h47 (ho n (vu n)) (.inl ⟨rfl,ht n (vu n)⟩),rfl,a5⟩;rw[yw];show (if (inn&&zF (ckF ts) n.op n.name)=true then _ else if n.op=1 then _ else if n.op=47 then _ else if n.op=15\/n.op=45\/n.op=46 then _ else match qP (ckF ts) s' (inn||decide (n.op=12)||decide (n.op=13)) t with | .error e=>_ | .ok l=>zG ts.sorts.length n.op n.n n.pos l)=_;rw[Zl h47,if_neg C,if_neg h1,if_neg h47,if_neg U,hB,a6];exact y1
theorem qiI(ts:TS)(h:okTS ts)(es:List (ByteArray×Bool))(hF:qp ts es<=200000)(I:Free ts es)(f:Nat)(ih:IHx ts es f)(env:IEnv)(n:Nd)(body:Bool)(st:ISt)(o:ByteArray)(a2:List Nd)(z:Int)(T:ISt)(s s':Scp)(inn:Bool)(m:Nat)(ko:Option Kd)
  (hm:m<=ts.preds.length) (hw:WfN n) (ht:Tk es n) (ho:OwnT n) (hs:ScOk ts.sorts.length s) (U:StOk (qp ts es) st) (ag:(qp ts es:Nat)<=pot (qp ts es) st) (J:qW env) (hr:Rl (ckF ts) es st.last body s s' env) (hb:n.op=15\/n.op=45\/n.op=46)
  (e:yN (fun env k s=>expI ts es f env k body s) (fun env nm s=>renI ts es env nm body s) (binB n.op) 0 env n.name n.kids st = .ok ((o,a2,z),T))
  (x:exam (mkCk ts m) s inn n = .ok ko):Out (ckF ts) es s' inn n (.mk n.op o n.n a2 n.pos) ko st.last T.last:=by
 have hc:okCk (mkCk ts m):=uM h hm;have a8:binB n.op=true:=by
  unfold binB;rcases hb with h|h|h<;>simp[h]
 have h47:n.op≠47:=zOm;have h1:n.op≠1:=zOm;rw[a8]at e;rw[yw,Zl h47,if_neg h1,if_neg h47,if_pos hb]at x;split at x
 .cases x
 rename_i a0;obtain⟨a,g,P,a3⟩:=VA hw hb;have ma:a∈n.kids:=by rw[P];simp
 have mg:g∈n.kids:=by rw[P];simp
 rw[P]at e x;generalize hB:(inn||decide (n.op=15))=B at x;simp only[zH,qP]at x;simp only[yN,Nat.zero_add,true_and,Nat.zero_ne_one,if_false,if_true]at e;cases r:exam (mkCk ts m) s B a with
 |error er=>rw[r]at x;cases x
 |ok ka =>
  cases ka with
  |none=>rw[r]at x;cases x
  |some k =>
   rw[r]at x;simp only at x;by_cases R:k.ar=1
   .rw [if_pos R]at x
    split at e
    .cases e
    .rename_i a' m1 s1 e1
     have out:=ih env a body st a' m1 s1 s s' B m _ hm (hw.kid ma) (ht.kid ma) (ho.kid ma) hs U J hr e1 r;have a4:=j7 ts I f U J e1;have i:=a4.ok U;obtain⟨ai,x1,x2⟩:=out.ex;obtain⟨q,k',y1,y2,y3⟩:=x2 a3;cases y1;subst y2;obtain⟨q,y4,a9⟩:=uN hc (szN a) a s B _ (qn _) (hw.kid ma) hs r a3;cases y4;have l:=Vm I (env:=env) (nm:=n.name) (body:=body) i.l0;have a5:=Vl (ts:=ts) (es:=es) (nm:=n.name) (body:=body) (s:=s1) J;have aa:=i.last;obtain⟨w1,w2,C⟩:=Rl.bind (c0:=ckF ts) (st:=s1) (nm:=n.name) (k:=k) (k':=k') I J.nd (hr.mono out.le) i.l0 (by show s1.last+(qp ts es:Nat)<_;omega) (ht n (vu n)) y3;have w1:Rl (ckF ts) es (renI ts es env n.name body s1).2.last body ((n.name,k) :: s) (((renI ts es env n.name body s1).1.2,k') :: s') (renI ts es env n.name body s1).1.1:=w1;have w2:s1.last<=(renI ts es env n.name body s1).2.last:=w2;have C:tkn es (renI ts es env n.name body s1).1.2\/vLe es (renI ts es env n.name body s1).2.last (renI ts es env n.name body s1).1.2:=C;have w4:(renI ts es env n.name body s1).1.2=n.name\/vLe es (renI ts es env n.name body s1).2.last (renI ts es env n.name body s1).1.2:=by
      rcases C with C|C
      .left
       unfold renI at C⊢;split
       .rename_i ab
        rw[if_pos ab]at C;exfalso;have ad:=I s1.last i.l0;have t:=W6 ad;simp only[yX,qq,decide_eq_true_eq]at t;exact t.1 C
       .rfl
      .exact .inr C
     generalize ah:renI ts es env n.name body s1=ae at *
     obtain⟨⟨a6,aj⟩,s2⟩:=ae;simp only at l a5 w1 w2 C w4 e;have a7:StOk (qp ts es) s2:=⟨l.1,by rw[l.2.2];exact i.c0,by rw[l.2.2];exact i.c1,by
      have:=a4.p;have h3:=l.2.1;have h4:=l.2.2;unfold pot at *
      rw[h4];omega⟩
     split at e
     .cases e
     .rename_i ak al m3 s3 e3
      split at e3
      .cases e3
      .rename_i g' m2 s4 e2
       cases e3;cases e;cases a1:exam (mkCk ts m) ((n.name,k) :: s) B g with
       |error er=>rw[a1]at x;cases x
       |ok kg =>
        rw[a1]at x;cases x;have af:ScOk ts.sorts.length ((n.name,k) :: s):=fun v hv=>by
         rcases qu.1 hv with rfl|hv
         .exact ⟨a9,R⟩
         .exact hs v hv
        have j:=ih a6 g body s2 g' m2 T ((n.name,k) :: s) ((o,k') :: s') B m _ hm (hw.kid mg) (ht.kid mg) (ho.kid mg) af a7 a5 w1 e2 a1;obtain⟨an,z1,_⟩:=j.ex;refine⟨⟨some k',?_,fun _=>⟨k,k',rfl,rfl,y3⟩⟩,?_,rfl,zW2 out.le j.le⟩
        .rw [yw]
         show (if (inn&&zF (ckF ts) n.op o)=true then _ else if n.op=1 then _ else if n.op=47 then _ else if n.op=15\/n.op=45\/n.op=46 then zH (ckF ts) s' (inn||decide (n.op=15)) o n.pos [a',g'] else _)=_;rw[Zl h47,if_neg a0,if_neg h1,if_neg h47,if_pos hb,hB];simp only[zH,qP];rw[x1];simp only;rw[if_pos (by rw[y3.1];exact R),z1]
        .refine jE.node hw (by rw[P];simp[out.kd,j.kd]) (fun y hy=>?_) h47 (ho n (vu n)) ?_
         .rcases qu.1 hy with rfl|hy
          .exact out.good.mono (zW1 j.le)
          .rw [qN]at hy;subst hy;exact j.good
         .rcases w4 with w4|w4
          .exact .inl ⟨w4,by rw[w4];exact ht n (vu n)⟩
          .exact .inr ⟨w4.mono j.le,na (ho n (vu n)) (by unfold ua;rcases hb with h|h|h<;>simp[h])⟩
   .rw [if_neg R]at x;cases x
theorem nj(ts:TS)(h:okTS ts)(es:List (ByteArray×Bool))(hP:W8 ts es)(hF:qp ts es<=200000)(i:Free ts es):∀ f:Nat,IHx ts es f
 | 0=>fun env n body st n' z j s s' inn m I _ _ _ _ _ _ _ _ e _=>by cases e
 |f+1=>fun env n body st n' z j s s' inn m I T J P R U o r hr e x=>by
  have ih:=nj ts h es hP hF i f;simp only[expI]at e;split at e
  .rename_i hc
   have hp:=w9 o (n:=1) zOm hc;have g:=hp.ok o;have l:Rl (ckF ts) es (payS 1 st).last body s s' env:=hr;have a0:st.last=(payS 1 st).last:=rfl;rw[a0];split at e
   .rename_i h1
    exact qiD (c:=mkCk ts m) (c0:=ckF ts) rfl h1 J (P n (vu n)) (R n (vu n)) l e x
   .rename_i h1
    split at e
    .rename_i h47
     exact qiF ts h es hP i f ih env n body (payS 1 st) n' z j s s' inn m I T J P R U g r l h47 e x
    .rename_i h47
     obtain⟨⟨t,C,z'⟩,s1,e1,e2⟩:=Zi e;cases e2;by_cases hb:n.op=15\/n.op=45\/n.op=46
     .refine qiI ts h es hF i f ih env n body (payS 1 st) t C z' j s s' inn m I T J P R U g ?_ r l hb e1 x
      rw[Zj];have:=o.p;omega
     .exact qiH ts h es i f ih env n body (payS 1 st) t C z' j s s' inn m I T J P R U g r l h47 h1 hb e1 x
  .cases e
end
end PE
namespace ED
end ED
namespace EG
end EG
end Go.Proofs.YtahmfpfdgiemoaaGreatDoor
