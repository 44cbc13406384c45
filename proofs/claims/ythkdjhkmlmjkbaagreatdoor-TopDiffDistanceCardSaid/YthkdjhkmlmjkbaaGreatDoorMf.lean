/-
  Own library, part 6: an abstract reading of values and a calculus over it; contracts of functions; plain lemmas.
-/
import Derived.Test.YthkdjhkmlmjkbaaGreatDoorMe
set_option linter.unusedVariables false
set_option linter.unusedSimpArgs false
set_option maxRecDepth 100000
open Go renaming FuncId->j1
open Go.Proofs.Tryz renaming prog->qc
open List renaming getElem?_eq_some_iff->qi,mem_cons->ql,mem_map->qp,range->qq,getElem_mem->qv,getElem?_eq_getElem->qx,mem_cons_of_mem->qB,not_mem_nil->qG,mem_append->qI,mem_singleton->qL,mem_cons_self->qN,length_append->qW,all_eq_true->q8,take_length->za,getElem?_append_left->ze,getD_eq_getElem?_getD->zf,mem_of_getElem?->zh,append_assoc->zm,take_of_length_le->zn,replicate->zo,drop_eq_getElem_cons->zB,length_cons->zC,map_append->zF,mem_range->zG,getElem?_append_right->zK,length_map->yi,append_nil->yj,getElem?_set_self->yq,drop_length->yr,mem_filter->yT,mem_of_mem_take->ja,take_succ_eq_append_getElem->jx,getElem?_eq_none->jG,mem_flatMap->ul,flatMap_cons->uW,nil_append->uX
open Option.some renaming injEq->qo
open Nat renaming le_refl->qs,le_trans->zS
open Bool renaming and_eq_true->qu
open Go.IntKind renaming i64->qw
open Int renaming le_refl->jy
namespace Go.Proofs.YthkdjhkmlmjkbaaGreatDoor
open Go Go.Ev Go.Proofs Tryz
namespace QJ
open YF Y1 P1 QD QE QF
abbrev Vr:=cL×RS
abbrev cVr(v:Vr):List AV:=aS v.1 :: cRS v.2
abbrev lVr(l:List Vr):AV := .lst false (l.map cVr)
theorem mB(v):∀ c,c∈cVr v->HF c:=fun c g=>by
 rcases ql.1 g with rfl|g
 .exact HF.sc _
 .exact ((setC v.2).sc c g).2
theorem qkH(l):HF (lVr l):=HF.lst fun r g c i=>by
 obtain⟨v,_,rfl⟩:=qp.1 g;exact mB v c i
theorem Xv(v):∀ c,c∈cVr v->c.one=true:=fun c g=>by
 rcases ql.1 g with rfl|g
 .rfl
 .exact ((setC v.2).sc c g).1
theorem Xw(l:List Vr):zb 66 (l.map cVr):=fun r g=>by
 obtain⟨v,_,rfl⟩:=qp.1 g;exact⟨by simp[hB],q8.2 (Xv v)⟩
theorem Xx{mu lo s x}{xs ys:List Vr}{K}(g:OwnF lo mu 66 s (xs.map cVr))(j:qF mu x=some (ys.map cVr))(t:xs.length+ys.length<=100000)(o:∀ av l,OwnF lo l 66 av ((xs++ys).map cVr)->(∀ i,i<lo->l[i]?=mu[i]?)->K av l) :
  qD qc mu #[179,179] s x K:=by
 refine qD.ownF (lo:=lo) (e:=209) (sz:=66) (bt:=88) (zv := .agg (aS ⟨#[]⟩ :: aI 0 :: zs)) (xs:=xs.map cVr) (ys:=ys.map cVr) zSi zSi (by simp[go_sem];rfl) rfl rfl zOm zOm g j (Xw xs) (Xw ys) zSo ?_;intro av l h r;exact o av l (by rw[zF];exact h) r
theorem rdVr{lo mu av l}(g:OwnF lo mu 66 av (l.map cVr)):Rd mu av (lVr l):=
 Own.rd (sz:=66) g.1 (Xw l).ok fun r i c j=>by
  obtain⟨v,_,rfl⟩:=qp.1 i;exact mB v c j
theorem pcV(n q):qQ (aS n :: aI 0 :: zs) 1 (aI q.1 :: hB q.2)=cVr (n,q):=by
 have g:zs.length=64:=rfl;rw[jk _ _ _ (by simp[qm,g])];simp[qm,g,List.drop_of_length_le]
def envV(env:List (cL×Int)):List Vr:=env.map fun p=>(p.1,qk (kOf [p.2]))
theorem envU(env)(hl:env.length<=1000)(hr:∀ p,p∈env->0<=p.2/\p.2<4):qh qc 111 [lPm env] (lVr (envV env)):=by
 refine qSU call111 func111 rfl ?_;refine aC env.length (fun k st=>st.tm 0=lPm env/\st.tm 4=aI k/\OwnF 0 st.mu 66 (st.tm 3) ((envV (env.take k)).map cVr)) ?_ ?_
 .exact ⟨zSi,zSi,by simp[go_sem,envV];exact OwnF.nil (Nat.zero_le _)⟩
 rintro k st hk ⟨j,o,t⟩;by_cases g:k<env.length
 .have w1:=zWk k
  generalize I:st.tm 3=P at *
  have hp:=hr _ (qv g);have c1:qh qc 144 [lI [env[k].2]] (eRS (qk (kOf [env[k].2]))):=by
   have:=oneU [env[k].2] zSp;rw[Xj]at this;rw[<-QF.Xs (l:=[env[k].2]) zSp (fun x hx=>by rw[qL]at hx;subst hx;exact hp)];exact this
  have i:envV (env.take (k+1))=envV (env.take k)++[(env[k].1,qk (kOf [env[k].2]))]:=by
   unfold envV;rw[jx g,zF];rfl
  have a1:(envV (env.take k)).length=k:=by simp[envV];omega
  generalize qk (kOf [env[k].2])=q at *
  simp[go_sem,j,o,g];refine cN zKr ?_;simp[go_sem,j,o,I,g];refine fY c1 (.cons (QD.wk1 _) .nil) ?_;rw[if_pos ⟨qm _,qP _⟩];generalize hC:qQ _ 1 _=C;have J:C=cVr (env[k].1,q):=by rw[<-hC];exact pcV _ _
  subst J;clear hC;have R:(cVr (env[k].1,q)).length=66:=by simp[qm]
  have T:=Xv (env[k].1,q);generalize hV:cVr (env[k].1,q)=V at *
  simp[go_sem,R];rw[if_pos T];simp[go_sem];refine Xx (ys:=[(env[k].1,q)]) t (by simp[qF,hV]) zSo fun a2 m' U _=>?_
  simp[go_sem,o,g,w1];exact aP ⟨zS1 j,zSi,by rw[i];simpa[go_sem] using U⟩
 .have a0:k=env.length:=by omega
  subst a0;rw[za]at t;generalize I:st.tm 3=P at *
  simp[go_sem,j,o,I];exact rdVr t
end QJ
namespace QK
open Y9 Y2 P1 QD QE QF
def fin(c:List AV)(l:List Kd):List AV:=match l.getLast? with|some k=>cRS (qk k)|none=>c
theorem YN(c l m):fin c (l++m)=fin (fin c l) m:=by
 unfold fin;rw[List.getLast?_append];cases m.getLast?<;>rfl
theorem VJ(c k):fin c [k]=cRS (qk k):=rfl
theorem oneK{l}(h:1<=l.length/\l.length<=3)(g:∀ x,x∈l->0<=x/\x<4):oneC l=cRS (qk (kOf l)):=by
 rw[Xj];exact AV.agg.inj (QF.Xs h g)
theorem mC(nm):∀ l c k,(∀ f,f∈l->(1<=f.sS.length/\f.sS.length<=3)/\∀ x,x∈f.sS->0<=x/\x<4)->nmF nm l (c,k)=(fin c (vf l nm),k+(vf l nm).length)
 | [],c,k,_=>rfl
 |f :: l,c,k,h=>by
  have hf:=h f (qN ..);have j:=fun c k=>mC nm l c k fun g o=>h g (qB _ o)
  by_cases i:f.name=nm
  .have e:vf (f :: l) nm=[kOf f.sS]++vf l nm:=by simp[vf,i]
   rw[e,YN,VJ];simp only[nmF,stF,if_pos i];rw[j,oneK hf.1 hf.2];simp;omega
  .have e:vf (f :: l) nm=vf l nm:=by simp[vf,i]
   rw[e];simp only[nmF,stF,if_neg i];exact j c k
theorem st_eq(nm i)(C:i<4)(x c k):st3 nm i x (st2 nm i x (st1 nm i x (c,k)))=(fin c (wY i x nm),k+(wY i x nm).length):=by
 have j:=oneK (l:=[(i:Int)]) zSp (fun y g=>by simp at g;subst g;omega);have o:=oneK (l:=[(i:Int),(i:Int)]) zSp (fun y g=>by simp at g;rcases g with rfl|rfl<;>omega);have p:∀ c k,st1 nm i x (c,k)=(fin c (if x.1=nm then [kOf [(i:Int)]] else []),k+(if x.1=nm then [kOf [(i:Int)]] else []).length):=fun c k=>by
  unfold st1;split
  .rw [VJ,j];rfl
  .rfl
 have r:∀ c k,st2 nm i x (c,k)=(fin c (if x.2=true/\x.1++uG=nm then [kOf [(i:Int)]] else []),k+(if x.2=true/\x.1++uG=nm then [kOf [(i:Int)]] else []).length):=fun c k=>by
  unfold st2;split
  .rw [VJ,j];rfl
  .rfl
 have t:∀ c k,st3 nm i x (c,k)=(fin c (if x.2=true/\x.1++uH=nm then [kOf [(i:Int),(i:Int)]] else []),k+(if x.2=true/\x.1++uH=nm then [kOf [(i:Int),(i:Int)]] else []).length):=fun c k=>by
  unfold st3;split
  .rw [VJ,o];rfl
  .rfl
 unfold wY;rw[p,r,t,YN,YN,qW,qW];simp only[Nat.add_assoc]
theorem mD(nm):∀ l i c k,i+l.length<=4->nmS nm i l (c,k)=(fin c (v6 i l nm),k+(v6 i l nm).length)
 | [],i,c,k,_=>rfl
 |x :: l,i,c,k,h=>by
  simp only[zC]at h;have g:=fun c k=>mD nm l (i+1) c k zOm
  simp only[nmS,v6];rw[st_eq nm i zOm,g,YN,qW,Nat.add_assoc]
theorem Xy{ts}(h:okTS ts)(nm):named ts nm=(fin (aI 0 :: zs) (means ts nm),(means ts nm).length):=by
 unfold named means;rw[mC nm ts.sA _ _ fun f hf=>?_,mD nm ts.sS _ _ _ (zW1 h.ns),YN,qW,Nat.zero_add];have:=h.fl f hf;have g:=h.ns;exact⟨zOm,fun x i=>zW1 (this.2.2 x i)⟩
end QK
namespace QL
open YF Y9 Y1 Y2 P1 QD QE QF QI QJ QK
abbrev cVw(c:Ck)(inn:Bool):List AV:=[lSo c.ts.sS,lFl c.ts.sA,lPd c.ts.sT,lFa c.ts.sP,lBo c.timed,aI c.calls,aB inn]
abbrev eVw(c:Ck)(inn:Bool):AV := .agg (cVw c inn)
def envS(s:Scp):List Vr:=s.reverse.map fun v=>(v.1,qk v.2)
theorem VK(s):(envS s).length=s.length:=by simp[envS]
theorem mE(env):envV env=envS (yP env):=by
 have h:∀(l:List (cL×Int))(a:Scp),l.foldl (fun s p=>(p.1,kOf [p.2]) :: s) a=(l.map fun p=>(p.1,kOf [p.2])).reverse++a:=by
  intro l;induction l with
  |nil=>intro a;rfl
  |cons p l g=>intro a;rw[List.foldl_cons,g];simp
 unfold envV envS yP;rw[h,yj,List.reverse_reverse,List.map_map];rfl
theorem qkI(s d h g):(envS s)[s.length-1-d]=(s[d].1,qk s[d].2):=by
 have e:s.length-1-(s.length-1-d)=d:=zOm;simp[envS,List.getElem_reverse,e]
abbrev zR:RS:=(0,fun _=>false)
abbrev eDg(d:Dg):AV := .agg [aI d.1,aI d.2]
def endR(z:RS):Res->AV
 | .error e => .tup [eRS z,eDg e]
 | .ok (some k) => .tup [eRS (qk k),eDg (0,0)]
 | .ok none => .tup [eRS zR,eDg (0,0)]
theorem jv(s d):HF (.tup [eRS s,eDg d]):=HF.tup fun x g=>by
 rcases ql.1 g with rfl|g
 .exact zY s
 .rw [qL]at g;subst g
  exact HF.agg fun c i=>by
   rcases ql.1 i with rfl|i
   .exact HF.sc _
   .rw [qL]at i;subst i;exact HF.sc _
theorem cS{ts}(h:okTS ts):okNm ts:=⟨h.sl,zW1 h.ns,zW1 h.nf,fun f hf=>zW1 (h.fl f hf)⟩
theorem nameU(c)(hc:okCk c)(inn s n)(hs:s.length<=100000):qh qc 139 [eVw c inn,lVr (envS s),eNd n] (endR zR (y0 c s n.name n.pos)):=by
 generalize i:endR zR (y0 c s n.name n.pos)=R;unfold y0 at i;refine qSV call139 func139 rfl ?_;have a0:=VK s;have w0:qw.wrap ((s.length:Int)-1)=(s.length:Int)-1:=zWr;simp[go_sem,a0,w0];refine aC s.length (fun d st=>st.tm 1=lVr (envS s)/\st.tm 3 = .ip (cVw c inn)/\st.tm 5 = .ip (cNd n)/\st.tm 6 = .ptr 0 0/\st.tm 7 = .ptr 1 0/\st.tm 8=aI ((s.length:Int)-1-d)/\st.mu=[.arr (aI 0 :: hB fun _=>false),.arr [aI 0,aI 0]]/\jD n.name (s.drop d)=jD n.name s) ?_ ?_
 .exact ⟨zSi,zSi,zSi,zSi,zSi,zSi,by simp[go_sem];first|rfl|exact⟨rfl,rfl⟩,rfl⟩
 rintro d st hd ⟨e1,e3,r,p,I,j,hm,t⟩;by_cases J:d<s.length
 .have T:s.length-1-d<(envS s).length:=by omega
  have g:=qkI s d J T;obtain⟨e,he⟩:∃ e:Nat,e=s.length-1-d:=⟨_,rfl⟩;have a1:(s.length:Int)-1-d=(e:Int):=zOm;rw[a1]at j;rw[<-he]at T;have g:(envS s)[e]=(s[d].1,qk s[d].2):=by simp only[he];exact g
  have w1:qw.wrap ((e:Int)-1)=(s.length:Int)-1-((d+1:Nat):Int):=by rw[zWr];omega
  rw[zB J]at t;have h0:(0:Int)<=(e:Int):=zOm;by_cases hq:s[d].1=n.name
  .have hf:jD n.name s=s[d] :: s.drop (d+1):=by rw[<-t,jD,if_pos hq]
   rw[hf]at i;simp only[endR]at i;have i:R = .tup [eRS (qk s[d].2),eDg (0,0)]:=i.symm;subst i;simp[go_sem,j,hm];refine cN zKr ?_;simp[go_sem,e1,j,T,g,hq];generalize qk s[d].2=q at *
   simp[go_sem,e1,r,p,j,T,g,qm,tk,pc];rw[if_pos (qP _)];simp[go_sem,p,I,qm,tk];exact .hf _ (jv q (0,0))
  .rw [jD,if_neg hq]at t
   simp[go_sem,j,hm];refine cN zKr ?_;simp[go_sem,e1,r,j,T,g,jN hq,w1,qm];exact⟨zOm,aP ⟨zS1 e1,zS1 e3,zS1 r,zS1 p,zS1 I,zSi,zSi,t⟩⟩
 .have a2:d=s.length:=by omega
  subst a2;have j:st.tm 8=aI (-1):=by rw[j];congr 2;omega
  rw[yr]at t;rw[<-t]at i;simp only[jD]at i;have hN:=Xi c.ts (cS hc.ts) n.name;have U:=Xh c.ts n.name;rw[Xy hc.ts]at hN U;simp[go_sem,e3,r,j,hm];refine cY hN (.zk (zt _) (.zs .nil)) ?_;have o:SetC (fin (aI 0 :: zs) (means c.ts n.name)):=U;generalize a3:means c.ts n.name=ms at *
  match ms,a3 with
  | [],_ =>
   simp only[endR]at i;subst i;generalize fin (aI 0 :: zs) []=C at *
   simp[go_sem,o.len];rw[if_pos o.one];simp[go_sem];refine fW [0,1,2,3,4,5] [(0,0,[]),(1,0,[]),(2,0,[]),(3,0,[]),(4,1,[2]),(5,1,[])] zKr zKr zSi ?_;simp[go_sem,r,p,I,kF,qm];exact .hf _ (jv zR (_,n.pos))
  | [k],_ =>
   simp only[endR]at i;subst i;have e:fin (aI 0 :: zs) [k]=aI (qk k).1 :: hB (qk k).2:=rfl;rw[e]at o⊢;generalize qk k=q at *
   simp[go_sem,o.len];rw[if_pos (qP _)];generalize hP:qQ _ 0 (aI q.1 :: hB q.2)=P;have a4:P=aI q.1 :: hB q.2:=by rw[<-hP];exact pc (aI 0) _ (fun _=>false) _
   subst a4;clear hP;simp[go_sem,p,o.len,qm,tk,pc];rw[if_pos (qP _)];simp[go_sem,p,I,o.len,tk];exact .hf _ (jv q (0,0))
  |k1 :: k2 :: l,_ =>
   simp only[endR]at i;subst i;generalize fin (aI 0 :: zs) (k1 :: k2 :: l)=C at *
   simp[go_sem,o.len];rw[if_pos o.one];simp[go_sem];have a5:¬((l.length:Int)+1+1=0):=zOm;have a6:(1:Int)<(l.length:Int)+1+1:=zOm;simp[go_sem,a5,a6];refine fW [0,1,2,3,4,5] [(0,0,[]),(1,0,[]),(2,0,[]),(3,0,[]),(4,1,[2]),(5,1,[])] zKr zKr zSi ?_;simp[go_sem,r,p,I,kF,qm];exact .hf _ (jv zR (_,n.pos))
end QL
namespace QM
open Y1
theorem qkJ(n):qh qc 108 [eNd n] (aB (decide (30<=n.op))):=by
 refine qSV call108 func108 rfl ?_;by_cases h:30<=n.op
 .simp [go_sem,h];exact .zsc _
 .simp [go_sem,h];exact .zsc _
end QM
namespace QN
open Y1 Y2 YF Y9 P1 P2 QD QE QF QH QL
def setO:Option Kd->RS
 |some k=>qk k
 |none=>zR
abbrev lRS(l:List RS):AV := .lst false (l.map cRS)
theorem qkK(v):∀ c,c∈cRS v->HF c:=fun c g=>((setC v).sc c g).2
theorem qkL(v):∀ c,c∈cRS v->c.one=true:=fun c g=>((setC v).sc c g).1
theorem Xz(l:List RS):zb 65 (l.map cRS):=fun r g=>by
 obtain⟨v,_,rfl⟩:=qp.1 g
 grind [hB,q8,qkL]
theorem appRS{mu lo s x}{xs ys:List RS}{K}(g:OwnF lo mu 65 s (xs.map cRS))(j:qF mu x=some (ys.map cRS))(o:xs.length+ys.length<=100000)(r:∀ av l,OwnF lo l 65 av ((xs++ys).map cRS)->(∀ i,i<lo->l[i]?=mu[i]?)->K av l) :
  qD qc mu #[203,203] s x K:=by
 refine qD.ownF (lo:=lo) (e:=173) (sz:=65) (bt:=72) (zv := .agg (aI 0 :: zs)) (xs:=xs.map cRS) (ys:=ys.map cRS) zSi zSi (by simp[go_sem];rfl) rfl rfl zOm zOm g j (Xz xs) (Xz ys) zSo ?_
 grind
theorem rdRS{lo mu av l}(g:OwnF lo mu 65 av (l.map cRS)):Rd mu av (lRS l):=
 Own.rd (sz:=65) g.1 (Xz l).ok fun r i c j=>by
  obtain⟨v,_,rfl⟩:=qp.1 i;exact qkK v c j
theorem y8(s b):HF (.tup [eRS s,aB b]):=HF.tup fun x g=>by
 rcases ql.1 g with rfl|g
 .exact zY s
 grind [qL,HF.sc]
def ApE(op:Int):Res->RS->Bool->Prop
 | .ok k,S,b=>b=true/\(kd op=101->∃ q,k=some q/\S=qk q)
 | .error _,S,b=>b=false
theorem wkS1(a):WKs [eRS a] [eRS a] := .zk (zY _) .nil
theorem wkS2(a b):WKs [eRS a,eRS b] [eRS a,eRS b] := .zk (zY _) (.zk (zY _) .nil)
theorem wkTI(ts k):WKs [eTS ts,aI k] [eTS ts,aI k] := .zk (zt _) (.zs .nil)
theorem mF(n):eRS (n,fun _=>false)=eRS (qk ⟨n,[]⟩):=uS rfl fun j _=>(decide_eq_false fun h=>absurd h.2 qG).symm
def itS:Nat->RS->RS
 | 0,s=>s
 |i+1,s=>uniS (itS i s) (Qg (itS i s) (itS i s))
theorem mG(s):∀ i,(itS i s).1=s.1
 | 0=>rfl
 |i+1=>mG s i
theorem mH(g)(h:1<=g.1/\g.1<=3):qh qc 167 [eRS g] (eRS (itS 4 g)):=by
 refine qSQ call167 func167 rfl { mt:=[1] } ?_;simp[go_sem];refine⟨qP _,?_⟩;refine aC 4 (fun i st=>st.tm 1 = .ptr 0 0/\st.tm 2 = .ptr 1 0/\st.tm 3=aI i/\st.mu=[.arr (cRS (itS i g)),.arr (aI 0 :: hB fun _=>false)]) ?_ ?_
 .exact ⟨zSi,zSi,zSi,by simp[go_sem];exact⟨⟨rfl,rfl⟩,rfl⟩⟩
 rintro i st U ⟨l,p,r,t⟩;by_cases J:i<4
 .have j:(i:Int)<4:=by omega
  have w1:=zWk i;have P:=mG g i;have R:=VF (itS i g) (itS i g) zOm zOm;have C:=uR (itS i g) (Qg (itS i g) (itS i g));have I:uniS (itS i g) (Qg (itS i g) (itS i g))=itS (i+1) g:=rfl;rw[I]at C;clear I;generalize T:itS (i+1) g=s' at *
  generalize Qg (itS i g) (itS i g)=q at *
  generalize itS i g=s at *
  simp[go_sem,r,t,j];refine cN zKr ?_;simp[go_sem,l,qm,tk];refine fY R (.zk (zY _) (.zk (zY _) .nil)) ?_;refine cY C (.zk (zY _) (.zk (zY _) .nil)) ?_;simp[go_sem,l,qm,pc];rw[if_pos (qP _)];simp_all[go_sem,aP]
 .have o:i=4:=by omega
  subst o;generalize itS 4 g=s at *
  simp[go_sem,l,p,r,t,qm,tk,pc];rw[if_pos (qP _)];simp[go_sem,p,qm,tk];exact .hf _ (zY s)
def prC(ts:TS)(n:Nd)(l:List RS)(S:RS)(b:Bool):Prop:=qh qc 142 [eTS ts,eNd n,lRS l] (.tup [eRS S,aB b])
theorem ap2(ts n L)(h:n.op=2):prC ts n L (n.n,fun _=>false) true:=by
 unfold prC;refine qSV call142 func142 rfl ?_;simp[go_sem,h];exact .hf _ (y8 (n.n,fun _=>false) true)
theorem ap3(ts)(ok:okTS ts)(n L)(h:n.op=3):prC ts n L (qk (zr ts.sS.length 1)) true:=by
 unfold prC;refine qSV call142 func142 rfl ?_;have c1:=allU ts ok 1 zOm;generalize qk (zr ts.sS.length 1)=q at *
 simp[go_sem,h];refine cY c1 (wkTI ts 1) ?_;simp[go_sem,qm];rw[if_pos (qP _)];generalize i:qQ _ 0 (aI q.1 :: hB q.2)=P;have g:P=aI q.1 :: hB q.2:=by rw[<-i];exact pc (aI 0) _ (fun _=>false) _
 subst g;clear i;simp[go_sem,qm,tk];exact .hf _ (y8 q _)
theorem ap4(ts)(ok:okTS ts)(n L)(h:n.op=4):prC ts n L (qk (zr ts.sS.length 2)) true:=by
 unfold prC;refine qSV call142 func142 rfl ?_;have c1:=allU ts ok 2 zOm;generalize qk (zr ts.sS.length 2)=q at *
 simp[go_sem,h];refine cY c1 (wkTI ts 2) ?_;simp[go_sem,qm];rw[if_pos (qP _)];generalize i:qQ _ 0 (aI q.1 :: hB q.2)=P;have g:P=aI q.1 :: hB q.2:=by rw[<-i];exact pc (aI 0) _ (fun _=>false) _
 subst g;clear i;simp[go_sem,qm,tk];exact .hf _ (y8 q _)
theorem ap5(ts n q)(h:n.op=5):prC ts n [q] q true:=by
 unfold prC;refine qSV call142 func142 rfl ?_;simp[go_sem,h,qm,tk];rw[if_pos (qP _)];generalize i:qQ _ 0 (aI q.1 :: hB q.2)=P;have g:P=aI q.1 :: hB q.2:=by rw[<-i];exact pc (aI 0) _ (fun _=>false) _
 subst g;clear i;simp[go_sem,qm,tk];exact .hf _ (y8 q _)
theorem ap6(ts n q r S)(h:n.op=6)(c:qh qc 162 [eRS q,eRS r] (eRS S)):prC ts n [q,r] S (decide (q.1=r.1)):=by
 unfold prC;refine qSV call142 func142 rfl ?_;simp[go_sem,h];refine fW [0,1,2,3,4,5,7,8,9,10,11,12,13,14,15,17,6,16] [(0,0,[]),(1,0,[]),(2,0,[]),(3,0,[]),(4,0,[]),(5,0,[]),(7,0,[]),(8,0,[]),(9,0,[]),(10,0,[]),(11,0,[]),(12,0,[]),(13,0,[]),(14,0,[]),(15,0,[]),(17,0,[]),(6,1,[10,14]),(16,1,[10,14])] zKr zKr zSi ?_;simp[go_sem,qm,tk];refine cY c (wkS2 q r) ?_;simp[go_sem,qm];rw[if_pos (qP _)];generalize i:qQ _ 0 (aI S.1 :: hB S.2)=P;have g:P=aI S.1 :: hB S.2:=by rw[<-i];exact pc (aI 0) _ (fun _=>false) _
 subst g;clear i;simp[go_sem,qm,tk];exact .hf _ (y8 S _)
theorem ap14(ts n q r S)(h:n.op=14)(c:qh qc 162 [eRS q,eRS r] (eRS S)):prC ts n [q,r] S (decide (q.1=r.1)):=by
 unfold prC;refine qSV call142 func142 rfl ?_;simp[go_sem,h];refine fW [0,1,2,3,4,5,7,8,9,10,11,12,13,14,15,17,6,16] [(0,0,[]),(1,0,[]),(2,0,[]),(3,0,[]),(4,0,[]),(5,0,[]),(7,0,[]),(8,0,[]),(9,0,[]),(10,0,[]),(11,0,[]),(12,0,[]),(13,0,[]),(14,0,[]),(15,0,[]),(17,0,[]),(6,1,[10,14]),(16,1,[10,14])] zKr zKr zSi ?_;simp[go_sem,qm,tk];refine cY c (wkS2 q r) ?_;simp[go_sem,qm];rw[if_pos (qP _)];generalize i:qQ _ 0 (aI S.1 :: hB S.2)=P;have g:P=aI S.1 :: hB S.2:=by rw[<-i];exact pc (aI 0) _ (fun _=>false) _
 subst g;clear i;simp[go_sem,qm,tk];exact .hf _ (y8 S _)
theorem ap7(ts n q r S)(h:n.op=7)(c:qh qc 163 [eRS q,eRS r] (eRS S)):prC ts n [q,r] S (decide (q.1=r.1)):=by
 unfold prC;refine qSV call142 func142 rfl ?_;simp[go_sem,h];refine fW [0,1,2,3,4,5,7,8,9,10,11,12,13,14,15,17,6,16] [(0,0,[]),(1,0,[]),(2,0,[]),(3,0,[]),(4,0,[]),(5,0,[]),(7,0,[]),(8,0,[]),(9,0,[]),(10,0,[]),(11,0,[]),(12,0,[]),(13,0,[]),(14,0,[]),(15,0,[]),(17,0,[]),(6,1,[10,14]),(16,1,[10,14])] zKr zKr zSi ?_;simp[go_sem,qm,tk];refine cY c (wkS2 q r) ?_;simp[go_sem,qm];rw[if_pos (qP _)];generalize i:qQ _ 0 (aI S.1 :: hB S.2)=P;have g:P=aI S.1 :: hB S.2:=by rw[<-i];exact pc (aI 0) _ (fun _=>false) _
 subst g;clear i;simp[go_sem,qm,tk];exact .hf _ (y8 S _)
theorem ap8(ts n q r)(h:n.op=8):prC ts n [q,r] q (decide (q.1=r.1)):=by
 unfold prC;refine qSV call142 func142 rfl ?_;simp[go_sem,h];refine fW [0,1,2,3,4,5,6,7,8,9,10,11,13,12] [(0,0,[]),(1,0,[]),(2,0,[]),(3,0,[]),(4,0,[]),(5,0,[]),(6,0,[]),(7,0,[]),(8,0,[]),(9,0,[]),(10,0,[]),(11,0,[]),(13,0,[]),(12,1,[6,10])] zKr zKr zSi ?_;simp[go_sem,qm,tk];rw[if_pos (qP _)];generalize i:qQ _ 0 (aI q.1 :: hB q.2)=P;have g:P=aI q.1 :: hB q.2:=by rw[<-i];exact pc (aI 0) _ (fun _=>false) _
 subst g;clear i;simp[go_sem,qm,tk];exact .hf _ (y8 q _)
theorem ap32(ts n q r)(h:n.op=32):prC ts n [q,r] zR (decide (q.1=r.1)):=by
 unfold prC;refine qSV call142 func142 rfl ?_;simp[go_sem,h];refine fW [0,1,2,3,4,5,6,7,8,9,11,10] [(0,0,[]),(1,0,[]),(2,0,[]),(3,0,[]),(4,0,[]),(5,0,[]),(6,0,[]),(7,0,[]),(8,0,[]),(9,0,[]),(11,0,[]),(10,1,[4,8])] zKr zKr zSi ?_;simp[go_sem,qm];exact .hf _ (y8 zR _)
theorem ap33(ts n q r)(h:n.op=33):prC ts n [q,r] zR (decide (q.1=r.1)):=by
 unfold prC;refine qSV call142 func142 rfl ?_;simp[go_sem,h];refine fW [0,1,2,3,4,5,6,7,8,9,11,10] [(0,0,[]),(1,0,[]),(2,0,[]),(3,0,[]),(4,0,[]),(5,0,[]),(6,0,[]),(7,0,[]),(8,0,[]),(9,0,[]),(11,0,[]),(10,1,[4,8])] zKr zKr zSi ?_;simp[go_sem,qm];exact .hf _ (y8 zR _)
theorem ap9(ts n q r S)(h:n.op=9)(p:0<=q.1/\q.1<=1000)(t:0<=r.1/\r.1<=1000)(c:qh qc 164 [eRS q,eRS r] (eRS S)):prC ts n [q,r] S (decide (1<=q.1+r.1-2/\q.1+r.1-2<=3)):=by
 unfold prC;refine qSV call142 func142 rfl ?_;have l:qw.wrap (q.1+r.1)=q.1+r.1:=zWr;have o:qw.wrap (q.1+r.1-2)=q.1+r.1-2:=zWr;simp[go_sem,h];refine cN zKr ?_;simp[go_sem,qm,l,o];refine cN zKr ?_;by_cases j:1<=q.1+r.1-2
 .simp [go_sem,qm,tk,j]
  refine cY c (wkS2 q r) ?_;simp[go_sem,qm,j];rw[if_pos (qP _)];generalize i:qQ _ 0 (aI S.1 :: hB S.2)=P;have g:P=aI S.1 :: hB S.2:=by rw[<-i];exact pc (aI 0) _ (fun _=>false) _
  subst g;clear i;simp[go_sem,qm,tk];exact .hf _ (y8 S _)
 .simp [go_sem,qm,tk,j]
  refine cY c (wkS2 q r) ?_;simp[go_sem,qm,j];rw[if_pos (qP _)];generalize i:qQ _ 0 (aI S.1 :: hB S.2)=P;have g:P=aI S.1 :: hB S.2:=by rw[<-i];exact pc (aI 0) _ (fun _=>false) _
  subst g;clear i;simp[go_sem,qm,tk];exact .hf _ (y8 S _)
theorem ap10(ts n q r S)(h:n.op=10)(l:0<=q.1/\q.1<=1000)(o:0<=r.1/\r.1<=1000)(c:qh qc 165 [eRS q,eRS r] (eRS S)):prC ts n [q,r] S (decide (q.1+r.1<=3)):=by
 unfold prC;refine qSV call142 func142 rfl ?_;have j:qw.wrap (q.1+r.1)=q.1+r.1:=zWr;simp[go_sem,h];refine fW [0,1,2,3,4,5,7,8,9,10,11,12,13,14,15,16,18,6,17] [(0,0,[]),(1,0,[]),(2,0,[]),(3,0,[]),(4,0,[]),(5,0,[]),(7,0,[]),(8,0,[]),(9,0,[]),(10,0,[]),(11,0,[]),(12,0,[]),(13,0,[]),(14,0,[]),(15,0,[]),(16,0,[]),(18,0,[]),(6,1,[10,14]),(17,1,[10,14])] zKr zKr zSi ?_;simp[go_sem,qm,tk,j];refine cY c (wkS2 q r) ?_;simp[go_sem,qm];rw[if_pos (qP _)];generalize i:qQ _ 0 (aI S.1 :: hB S.2)=P;have g:P=aI S.1 :: hB S.2:=by rw[<-i];exact pc (aI 0) _ (fun _=>false) _
 subst g;clear i;simp[go_sem,qm,tk];exact .hf _ (y8 S _)
theorem ap11(ts n q S)(h:n.op=11)(c:qh qc 166 [eRS q] (eRS S)):prC ts n [q] S (decide (q.1=2)):=by
 unfold prC;refine qSV call142 func142 rfl ?_;simp[go_sem,h];refine fW [0,1,2,4,5,6,7,8,10,3,9] [(0,0,[]),(1,0,[]),(2,0,[]),(4,0,[]),(5,0,[]),(6,0,[]),(7,0,[]),(8,0,[]),(10,0,[]),(3,1,[7]),(9,1,[7])] zKr zKr zSi ?_;simp[go_sem,qm,tk];refine cY c (wkS1 q) ?_;simp[go_sem,qm];rw[if_pos (qP _)];generalize i:qQ _ 0 (aI S.1 :: hB S.2)=P;have g:P=aI S.1 :: hB S.2:=by rw[<-i];exact pc (aI 0) _ (fun _=>false) _
 subst g;clear i;simp[go_sem,qm,tk];exact .hf _ (y8 S _)
theorem ap12(ts n q S)(h:n.op=12)(c:qh qc 167 [eRS q] (eRS S)):prC ts n [q] S (decide (q.1=2)):=by
 unfold prC;refine qSV call142 func142 rfl ?_;simp[go_sem,h];refine fW [0,1,2,4,5,6,7,8,10,3,9] [(0,0,[]),(1,0,[]),(2,0,[]),(4,0,[]),(5,0,[]),(6,0,[]),(7,0,[]),(8,0,[]),(10,0,[]),(3,1,[7]),(9,1,[7])] zKr zKr zSi ?_;simp[go_sem,qm,tk];refine cY c (wkS1 q) ?_;simp[go_sem,qm];rw[if_pos (qP _)];generalize i:qQ _ 0 (aI S.1 :: hB S.2)=P;have g:P=aI S.1 :: hB S.2:=by rw[<-i];exact pc (aI 0) _ (fun _=>false) _
 subst g;clear i;simp[go_sem,qm,tk];exact .hf _ (y8 S _)
theorem ap13(ts)(ok:okTS ts)(n q C S)(h:n.op=13)(c:qh qc 167 [eRS q] (eRS C))(c2:qh qc 162 [eRS C,eRS (qk (zr ts.sS.length 2))] (eRS S)):prC ts n [q] S (decide (q.1=2)):=by
 unfold prC;refine qSV call142 func142 rfl ?_;have c1:=allU ts ok 2 zOm;generalize qk (zr ts.sS.length 2)=D at *
 simp[go_sem,h];refine fW [0,1,2,4,7,8,9,10,11,13,3,5,6,12] [(0,0,[]),(1,0,[]),(2,0,[]),(4,0,[]),(7,0,[]),(8,0,[]),(9,0,[]),(10,0,[]),(11,0,[]),(13,0,[]),(3,1,[4,10]),(5,1,[10]),(6,1,[10]),(12,1,[10])] zKr zKr zSi ?_;simp[go_sem,qm,tk];refine cY c (wkS1 q) ?_;simp[go_sem,qm];refine cY c1 (wkTI ts 2) ?_;simp[go_sem,qm];refine cY c2 (wkS2 C D) ?_;simp[go_sem,qm];rw[if_pos (qP _)];generalize i:qQ _ 0 (aI S.1 :: hB S.2)=P;have g:P=aI S.1 :: hB S.2:=by rw[<-i];exact pc (aI 0) _ (fun _=>false) _
 subst g;clear i;simp[go_sem,qm,tk];exact .hf _ (y8 S _)
theorem apO(ts n L)(t:n.op≠2)(C:n.op≠3)(I:n.op≠4)(J:n.op≠5)(P:n.op≠6)(g:n.op≠14)(R:n.op≠7)(T:n.op≠8)(i:n.op≠32)(j:n.op≠33)(U:n.op≠9)(l:n.op≠10)(o:n.op≠11)(p:n.op≠12)(r:n.op≠13):prC ts n L zR true:=by
 unfold prC;refine qSV call142 func142 rfl ?_;simp[go_sem,t,C,I,J,P,g,R,T,i,j,U,l,o,p,r];exact .hf _ (y8 zR true)
end QN
namespace PC
open YS P1 P2 Y1 Y2 Y9 Y10 Y12 YZ YA PA YC YG Q1 Q3 Q4 PB
section
variable {nm:cL}{es:List (cL×Bool)}
theorem qkM{a i b b'}(j:Sub i a)(l:Sub b' b):Sub (Zb i b') (Zb a b):=⟨j.1,fun t g=>by
 simp only[Zb,yT,decide_eq_true_eq]at g⊢;exact⟨j.2 t g.1,l.2 t g.2⟩⟩
theorem qkN{op a g b b'}(i:Sub g a)(j:Sub b' b):Sub (v7 op g b') (v7 op a b):=by
 unfold v7;split
 .exact mm i j.2
 grind [qkM]
theorem qkO{ns}(i:ns<=4){op a g}(h:Sub g a)(ok:okKd ns a)(j:a.ar=2):Sub (binK ns op g) (binK ns op a):=by
 grind [binK,qjZ,mm,qjY]
theorem apK1(ns op n pos a):zO ns op n pos [some a]=if op=2 then .ok (some ⟨n,[]⟩) else if op=3 then .ok (some (zr ns 1)) else if op=4 then .ok (some (zr ns 2)) else
  if op=5 then .ok (some a) else if op=11\/op=12\/op=13 then (if a.ar=2 then .ok (some (binK ns op a)) else .error (42,pos)) else .ok none:=rfl
theorem apK2(ns op n pos a b) : zO ns op n pos [some a, some b] = if op = 2 then .ok (some ⟨n, []⟩) else if op = 3 then .ok (some (zr ns 1)) else if op = 4 then .ok (some (zr ns 2)) else
      if op=6\/op=14\/op=7\/op=8\/op=32\/op=33 then (if a.ar=b.ar then .ok (some (v7 op a b)) else .error (42,pos))
      else if op=9 then (if 1<=a.ar+b.ar-2/\a.ar+b.ar-2<=3 then .ok (some (zD a b)) else .error (42,pos))
      else if op=10 then (if a.ar+b.ar<=3 then .ok (some (v5 a b)) else .error (42,pos))
      else .ok none:=rfl
theorem qkP{ns}(J:ns<=4){op num pos l l' R}(e1:op≠1)(a0:op≠15)
  (h1:op=5\/op=11\/op=12\/op=13->∃ a j,l=[some a]/\l'=[some j]/\Sub j a/\okKd ns a)
  (h2:op=6\/op=14\/op=7\/op=8\/op=32\/op=33\/op=9\/op=10->∃ a b j b',l=[some a,some b]/\l'=[some j,some b']/\Sub j a/\Sub b' b)
  (h:zO ns op num pos l = .ok R):∃ p,zO ns op num pos l' = .ok p/\(kd op=101->∃ k k',R=some k/\p=some k'/\Sub k' k):=by
 by_cases o:op=2
 .unfold zO at h⊢
  rw[if_pos o]at h⊢;cases h;exact⟨_,rfl,fun _=>⟨_,_,rfl,rfl,Sub.refl _⟩⟩
 by_cases r:op=3
 .unfold zO at h⊢
  rw[if_neg o,if_pos r]at h⊢;cases h;exact⟨_,rfl,fun _=>⟨_,_,rfl,rfl,Sub.refl _⟩⟩
 by_cases t:op=4
 .unfold zO at h⊢
  rw[if_neg o,if_neg r,if_pos t]at h⊢;cases h;exact⟨_,rfl,fun _=>⟨_,_,rfl,rfl,Sub.refl _⟩⟩
 by_cases g1:op=5\/op=11\/op=12\/op=13
 .obtain ⟨a,j,rfl,rfl,T,ok⟩:=h1 g1
  rw[apK1,if_neg o,if_neg r,if_neg t]at h⊢;by_cases U:op=5
  .rw [if_pos U]at h⊢
   cases h
   grind
  have g:op=11\/op=12\/op=13:=zOm;rw[if_neg U,if_pos g]at h⊢;by_cases i:a.ar=2
  .rw [if_pos i]at h
   rw[if_pos (T.1.trans i)];cases h;exact⟨_,rfl,fun _=>⟨_,_,rfl,rfl,qkO J T ok i⟩⟩
  grind
 by_cases g2:op=6\/op=14\/op=7\/op=8\/op=32\/op=33\/op=9\/op=10
 .obtain ⟨a,b,j,b',rfl,rfl,C,I⟩:=h2 g2
  have q1:=C.1;have q2:=I.1;rw[apK2,if_neg o,if_neg r,if_neg t]at h⊢;by_cases g3:op=6\/op=14\/op=7\/op=8\/op=32\/op=33
  .rw [if_pos g3]at h⊢
   by_cases i:a.ar=b.ar
   .rw [if_pos i]at h
    rw[if_pos zOm];cases h;exact⟨_,rfl,fun _=>⟨_,_,rfl,rfl,qkN C I⟩⟩
   grind
  rw[if_neg g3]at h⊢;by_cases e9:op=9
  .rw [if_pos e9]at h⊢
   by_cases i:1<=a.ar+b.ar-2/\a.ar+b.ar-2<=3
   .rw [if_pos i]at h
    rw[if_pos zOm];cases h;exact⟨_,rfl,fun _=>⟨_,_,rfl,rfl,VG C I⟩⟩
   grind
  have P:op=10:=zOm;rw[if_neg e9,if_pos P]at h⊢;by_cases i:a.ar+b.ar<=3
  .rw [if_pos i]at h
   rw[if_pos zOm];cases h;exact⟨_,rfl,fun _=>⟨_,_,rfl,rfl,qjX C I⟩⟩
  grind
 refine⟨none,Wr o r t zOm zOm zOm zOm zOm zOm zOm zOm zOm zOm zOm zOm,fun hk=>?_⟩;have:=Vh hk;omega
theorem qkQ{c n k}(h:ym c n=false)(g:k∈n.sD):ym c k=false:=by
 grind [Wg,Bool.or_eq_false_iff,List.any_eq_false]
theorem XA{c b b'}:∀{ks s},(∀ k,k∈ks->∀ s,exam c s b k=exam c s b' k)->qS c s b ks=qS c s b' ks
 | [],s,_=>by simp only[qS]
 |k :: ks,s,h=>by
  simp only[qS];rw[h k (qN ..) s,XA fun k g s=>h k (qB _ g) s]
theorem qkR{c b b' pos}:∀{ks s},(∀ k,k∈ks->∀ s,exam c s b k=exam c s b' k)->zQ c s b nm pos ks=zQ c s b' nm pos ks
 | [],s,_=>by simp only[zQ]
 |k :: ks,s,h=>by
  grind [zQ,qN,exam,XA,qB]
theorem mI(c):∀ m n s b b',szN n<=m->ym c n=false->exam c s b n=exam c s b' n
 | 0,n,_,_,_,g,_=>by obtain⟨op,nm,i,ks,p⟩:=n;simp[szN]at g
 |m+1,n,s,b,b',g,h=>by
  have j:∀ b b' k,k∈n.sD->∀ s,exam c s b k=exam c s b' k:=fun b b' k l s=>mI c m k s b b' (zW1 (yw l)) (qkQ h l)
  have o:zN c n.op n.name=false:=by rw[Wg,Bool.or_eq_false_iff]at h;exact h.1
  rw[yx,yx,o,Bool.and_false,Bool.and_false];rw[qkR (b:=b||decide (n.op=15)) (b':=b'||decide (n.op=15)) (j _ _),XA (b:=b||decide (n.op=12)||decide (n.op=13)) (b':=b'||decide (n.op=12)||decide (n.op=13)) (j _ _)]
theorem VL(ts i):∀ m,i<m->m<=ts.sT.length->∀ j,(tmsL ts m).getD i false=ym (mkCk ts i) ts.sT[i].body
 | 0,h,_,_=>absurd h zOm
 |m+1,h,r,j=>by
  have l:=Zk ts m zOm;have g:m<ts.sT.length:=zOm;have e:tmsL ts (m+1)=tmsL ts m++[ym (mkCk ts m) ts.sT[m].body]:=by
   show tmsL ts m++(match ts.sT[m]? with|some p=>[ym ⟨ts,m,tmsL ts m⟩ p.body] | none=>[])=_;rw[qx g];rfl
  rw[e];by_cases o:i<m
  .rw [<-VL ts i m o zOm j]
   simp only[zf];rw[zGa]
  .have:i=m:=by omega
   subst this;simp only[zf];rw[zK zOm,l];simp
abbrev tkn(es:List (cL×Bool))(nm:cL):Prop:=getK nm es=some true
def Tk(es:List (cL×Bool))(n:Nd):Prop:=∀ x,x∈preN n->tkn es x.name
def OwnT(n:Nd):Prop:=∀ x,x∈preN n->ownB x=true
def vLe(es:List (cL×Bool))(L:Int)(nm:cL):Prop:=∃ j:Nat,(j:Int)<=L/\nm=vN j/\¬tkn es nm/\yn nm=true
structure qkS (es:List (cL×Bool)) (L:Int) (x:Nd):Prop where
 nc:x.op≠47
 own:ownB x=true
 nm:tkn es x.name\/vLe es L x.name
structure jF (es:List (cL×Bool)) (L:Int) (n:Nd):Prop where
 wf:WfN n
 all:∀ x,x∈preN n->qkS es L x
theorem vLe.mono{L L'}(h:vLe es L nm)(g:L<=L'):vLe es L' nm:=by
 obtain⟨j,a,b⟩:=h;exact⟨j,zOm,b⟩
theorem jF.mono{L L' n}(h:jF es L n)(i:L<=L'):jF es L' n:=
 ⟨h.wf,fun x g=>⟨(h.all x g).nc,(h.all x g).own,(h.all x g).nm.imp id fun v=>v.mono i⟩⟩
theorem Tk.kid{n k}(h:Tk es n)(g:k∈n.sD):Tk es k:=fun x i=>h x (W6 g i)
theorem OwnT.kid{n k}(h:OwnT n)(g:k∈n.sD):OwnT k:=fun x i=>h x (W6 g i)
theorem VM{ks x}(h:x∈zl ks):∃ k,k∈ks/\x∈preN k:=by
 induction ks with
 |nil=>simp[zl]at h
 |cons a l g =>
  simp only[zl,qI]at h;rcases h with h|h
  .exact ⟨a,qN ..,h⟩
  .obtain ⟨k,i,j⟩:=g h
   exact⟨k,qB _ i,j⟩
theorem qkT{n}(h:ud nm n):∃ x,x∈preN n/\x.name=nm:=by
 unfold ud at h;rw[Xe _ (szN n) n (qs _),List.any_eq_true]at h
 grind
theorem XB{ts es}:∀{f k},(∃ j:Nat,1<=j/\j<=f/\y6 ts es (vN (k+j))=true)->y6 ts es (vN (zz ts es f k))=true
 | 0,k,⟨j,i,l,_⟩=>zOm
 |f+1,k,⟨j,i,l,g⟩=>by
  simp only[zz];split
  .rename_i h;exact h
  .rename_i o
   have p:j≠1:=fun e=>by subst e;exact o g
   exact XB (ts:=ts) (es:=es) (f:=f) (k:=k+1) ⟨j-1,zOm,zOm,by rw[show k+1+((j-1:Nat):Int)=k+j by omega];exact g⟩
theorem mJ:∀ m u,u<10 ^ (m+1)->(Lib.decDigits u).length<=m+1
 | 0,u,h=>by
  grind [Lib.decDigits]
 |m+1,u,h=>by
  rw[Lib.decDigits];split
  .simp
  .rw [qW]
   have:=mJ m (u / 10) (by rw[Nat.pow_succ]at h;omega);simp only[zC,List.length_nil];omega
theorem mK:∀ m u,u<=m->∀ x,x∈Lib.decDigits u->48<=x.toNat/\x.toNat<=57
 |m,u,i,x,g=>by
  rw[Lib.decDigits]at g;split at g
  .rename_i h
   rw[qL]at g;subst g;rw[UInt8.toNat_ofNat_of_lt' (by simp[UInt8.size];omega)];omega
  .rename_i h
   rcases qI.1 g with g|g
   .match m with
    | 0=>omega
    |m+1=>exact mK m (u / 10) zOm x g
   .rw [qL]at g
    subst g;rw[UInt8.toNat_ofNat_of_lt' (by simp[UInt8.size];omega)];omega
theorem qkU(u):Lib.decDigits u≠[]:=by
 rw[Lib.decDigits];split<;>simp
theorem qkV(j:Nat):(vN (j:Int)).data.toList=118 :: Lib.decDigits j:=by
 simp_all[vN,jf,Lib.itoa,if_neg]
theorem qkW:∀ x,x∈kwL->∀ c,x.data.toList[1]?=some c->¬(48<=c.toNat/\c.toNat<=57):=by decide +kernel
theorem qkX{j:Nat}(h:j<1000000000000):yn (vN (j:Int))=true:=by
 have l:=qkV j;have J:=mJ 11 j zOm;have p:=mK j j (qs _);have t:=qkU j;obtain⟨d,r,e⟩:=List.exists_cons_of_ne_nil t;have C:(vN (j:Int)).size=1+(Lib.decDigits j).length:=by
  have e:(vN (j:Int)).size=(vN (j:Int)).data.toList.length:=by rw[Array.length_toList];rfl
  rw[e,l,zC,Nat.add_comm]
 have o:kwB (vN (j:Int))=false:=by
  unfold kwB;rw[List.any_eq_false];intro x I g;have g:x=vN (j:Int):=zUs g;refine qkW x I d ?_ (p d (by rw[e];exact qN ..));rw[g,l,e];rfl
 unfold yn;simp only[qu,decide_eq_true_eq,o,Bool.not_false,and_true];refine⟨⟨zOm,zOm⟩,?_⟩;rw[q8];intro i _;rw[<-Array.getElem?_toList,l];cases i with
 |zero=>show chB 0 ((118:UInt8).toNat:Int)=true;decide
 |succ i =>
  rw[List.getElem?_cons_succ];cases g:(Lib.decDigits j)[i]? with
  |none=>rfl
  |some c =>
   have:=p c (zh g);simp[chB];right;right;omega
end
end PC
namespace PG
open Y1 Y2 P1 P2 Y9 YZ
section
variable {nm:cL}
theorem qkY{ns op n pos l e}(h:zO ns op n pos l = .error e):40<=e.1:=by
 unfold zO at h
 repeat' split at h
 all_goals first
  | (cases h;done)
  | (cases h;simp)
theorem qkZ{c s pos e}(h:y0 c s nm pos = .error e):40<=e.1:=by
 unfold y0 at h
 repeat' split at h
 all_goals first
  | (cases h;done)
  | (cases h;simp)
section
variable {c:Ck}
theorem XC{inn}:∀{ks s e},(∀ k,k∈ks->∀ s e,exam c s inn k = .error e->40<=e.1)->qS c s inn ks = .error e->40<=e.1
 | [],s,e,_,h=>by simp only[qS]at h;cases h
 |k :: ks,s,e,i,h=>by
  simp only[qS]at h;split at h
  .rename_i j g
   cases h;exact i k (qN ..) s _ g
  .split at h
   .rename_i j g
    cases h;exact XC (fun k l=>i k (qB _ l)) g
   .cases h
theorem mL{pos}:∀{ks ps s e},(∀ k,k∈ks->∀ s e,exam c s true k = .error e->40<=e.1)->z6 c s pos ps ks = .error e->40<=e.1
 | [],ps,s,e,_,h=>by cases ps<;>(simp only[z6]at h;cases h)
 |k :: ks,[],s,e,_,h=>by simp only[z6]at h;cases h
 |k :: ks,p :: ps,s,e,g,h=>by
  simp only[z6]at h;split at h
  .rename_i l i
   cases h;exact g k (qN ..) s _ i
  .cases h;simp
  .split at h
   .split at h
    .exact mL (fun k j=>g k (qB _ j)) h
    .cases h;simp
   .cases h;simp
theorem qk0{inn pos}:∀{ks s e},(∀ k,k∈ks->∀ s e,exam c s inn k = .error e->40<=e.1)->zQ c s inn nm pos ks = .error e->40<=e.1
 | [],s,e,_,h=>by simp only[zQ]at h;cases h
 |k :: ks,s,e,i,h=>by
  simp only[zQ]at h;split at h
  .rename_i j g
   cases h;exact i k (qN ..) s _ g
  .cases h;simp
  .split at h
   .split at h
    .rename_i j g
     cases h;exact XC (fun k l=>i k (qB _ l)) g
    .cases h
   .cases h;simp
theorem YO(c):∀ m n s inn e,szN n<=m->exam c s inn n = .error e->40<=e.1
 | 0,n,_,_,_,j,_=>by obtain⟨op,nm,i,ks,p⟩:=n;simp[szN]at j
 |m+1,n,s,inn,e,j,h=>by
  have g:∀ inn k,k∈n.sD->∀ s e,exam c s inn k = .error e->40<=e.1:=fun inn k l s e h=>YO c m k s inn e (zW1 (yw l)) h
  rw[yx]at h;split at h
  .cases h;simp
  split at h
  .exact qkZ h
  split at h
  .split at h
   .split at h
    .cases h;simp
    .split at h
     .cases h;simp
     .split at h
      .exact mL (g true) h
      .cases h;simp
   .cases h;simp
  split at h
  .exact qk0 (g _) h
  .split at h
   .rename_i r o
    cases h;exact XC (g _) o
   .exact qkY h
end
end
theorem mM{ks k}(h:k∈ks):depN k<=ya ks:=by
 induction ks with
 |nil=>simp at h
 |cons a l g =>
  simp only[ya];rcases ql.1 h with rfl|h
  .omega
  .have:=g h;omega
theorem mN(n):1<=depN n:=by
 rw[Zs];have:∀ ks:List Nd,0<=ya ks:=by
  intro ks;induction ks with
  |nil=>simp[ya]
  |cons a l g=>simp only[ya];omega
 have:=this n.sD;omega
end PG
namespace QO
open YF Y9 Y10 Y1 Y2 Y3 Y12 Y13 P1 P2 QD QE QF QH QI QJ QL QN PG PC
section
variable {nm:cL}{ts:TS}
theorem mO{n L S g b}(e:eRS S=eRS g)(h:prC ts n L S b):prC ts n L g b:=by
 grind [prC]
theorem qk1{n a b}(j:n.op=6\/n.op=14\/n.op=7\/n.op=8\/n.op=32\/n.op=33):∃ S,prC ts n [qk a,qk b] S (decide (a.ar=b.ar))/\(a.ar=b.ar->kd n.op=101->S=qk (v7 n.op a b)):=by
 have l:∀ op:Int,op=6\/op=14->v7 op a b=kSum a b:=fun op h=>by unfold v7;rw[if_pos h]
 by_cases g:a.ar=b.ar
 .rcases j with h|h|h|h|h|h
  .exact ⟨_,ap6 ts n _ _ _ h (by have:=uR (qk a) (qk b);rw[Yy g]at this;exact this),fun _ _=>by grind⟩
  .exact ⟨_,ap14 ts n _ _ _ h (by have:=uR (qk a) (qk b);rw[Yy g]at this;exact this),fun _ _=>by grind⟩
  .exact ⟨_,ap7 ts n _ _ _ h (by have:=mf (qk a) (qk b);rw[qj0 g]at this;exact this),fun _ _=>by rw[h];rfl⟩
  .exact ⟨_,ap8 ts n _ _ h,fun _ _=>by rw[h];rfl⟩
  .exact ⟨_,ap32 ts n _ _ h,fun _ i=>by rw[h]at i;exact absurd i zDe⟩
  .exact ⟨_,ap33 ts n _ _ h,fun _ i=>by rw[h]at i;exact absurd i zDe⟩
 .rcases j with h|h|h|h|h|h
  .exact ⟨_,ap6 ts n _ _ _ h (uR (qk a) (qk b)),fun e=>absurd e g⟩
  .exact ⟨_,ap14 ts n _ _ _ h (uR (qk a) (qk b)),fun e=>absurd e g⟩
  .exact ⟨_,ap7 ts n _ _ _ h (mf (qk a) (qk b)),fun e=>absurd e g⟩
  .exact ⟨_,ap8 ts n _ _ h,fun e=>absurd e g⟩
  .exact ⟨_,ap32 ts n _ _ h,fun e=>absurd e g⟩
  .exact ⟨_,ap33 ts n _ _ h,fun e=>absurd e g⟩
theorem qk2(ok:okTS ts){n a}(l:okKd ts.sS.length a)(o:n.op=11\/n.op=12\/n.op=13):∃ S,prC ts n [qk a] S (decide (a.ar=2))/\(a.ar=2->S=qk (binK ts.sS.length n.op a)):=by
 have i:=ok.ns;by_cases g:a.ar=2
 .have p:=qkB l g i
  rcases o with h|h|h
  .exact ⟨_,ap11 ts n _ _ h (by have:=mi (qk a);rw[qj6 l i g]at this;exact this),fun _=>by rw[h];rfl⟩
  .exact ⟨_,ap12 ts n _ _ h p,fun _=>by rw[h];rfl⟩
  .refine ⟨_,ap13 ts ok n _ _ (qk (kSum (kClo a) (zr ts.sS.length 2))) h p ?_,fun _=>by rw[h];rfl⟩
   have:=uR (qk (kClo a)) (qk (zr ts.sS.length 2));rw[Yy (show (kClo a).ar=2 from (Vf l g).2)]at this;exact this
 .have j:=l.ar
  rcases o with h|h|h
  .exact ⟨_,ap11 ts n _ _ h (mi (qk a)),fun e=>absurd e g⟩
  .exact ⟨_,ap12 ts n _ _ h (mH (qk a) j),fun e=>absurd e g⟩
  .exact ⟨_,ap13 ts ok n _ _ _ h (mH (qk a) j) (uR _ _),fun e=>absurd e g⟩
theorem qk3(ts)(ok:okTS ts)(n l L)(e1:n.op≠1)(a0:n.op≠15)
  (h1:n.op=5\/n.op=11\/n.op=12\/n.op=13->∃ a,l=[some a]/\L=[qk a]/\okKd ts.sS.length a)
  (h2:n.op=6\/n.op=14\/n.op=7\/n.op=8\/n.op=32\/n.op=33\/n.op=9\/n.op=10->∃ a b,l=[some a,some b]/\L=[qk a,qk b]/\okKd ts.sS.length a/\okKd ts.sS.length b) :
  ∃ S b,prC ts n L S b/\ApE n.op (zO ts.sS.length n.op n.n n.pos l) S b:=by
 have t:=ok.ns;by_cases j:n.op=2
 .refine ⟨qk ⟨n.n,[]⟩,true,mO (mF n.n) (ap2 ts n L j),?_⟩
  unfold zO;rw[if_pos j];exact⟨rfl,fun _=>⟨_,rfl,rfl⟩⟩
 by_cases o:n.op=3
 .refine ⟨_,true,ap3 ts ok n L o,?_⟩
  unfold zO;rw[if_neg j,if_pos o];exact⟨rfl,fun _=>⟨_,rfl,rfl⟩⟩
 by_cases r:n.op=4
 .refine ⟨_,true,ap4 ts ok n L r,?_⟩
  unfold zO;rw[if_neg j,if_neg o,if_pos r];exact⟨rfl,fun _=>⟨_,rfl,rfl⟩⟩
 by_cases g1:n.op=5\/n.op=11\/n.op=12\/n.op=13
 .obtain ⟨a,rfl,rfl,C⟩:=h1 g1
  rw[apK1,if_neg j,if_neg o,if_neg r];by_cases J:n.op=5
  .rw [if_pos J]
   exact⟨_,true,ap5 ts n _ J,rfl,fun _=>⟨_,rfl,rfl⟩⟩
  have g:n.op=11\/n.op=12\/n.op=13:=zOm;rw[if_neg J,if_pos g];obtain⟨S,P,R⟩:=qk2 ok C g;refine⟨S,_,P,?_⟩;by_cases i:a.ar=2
  .rw [if_pos i]
   exact⟨decide_eq_true i,fun _=>⟨_,rfl,R i⟩⟩
  .rw [if_neg i]
   exact decide_eq_false i
 by_cases g2:n.op=6\/n.op=14\/n.op=7\/n.op=8\/n.op=32\/n.op=33\/n.op=9\/n.op=10
 .obtain ⟨a,b,rfl,rfl,C,T⟩:=h2 g2
  have ra:=C.ar;have rb:=T.ar;rw[apK2,if_neg j,if_neg o,if_neg r];by_cases U:n.op=6\/n.op=14\/n.op=7\/n.op=8\/n.op=32\/n.op=33
  .rw [if_pos U]
   obtain⟨S,P,R⟩:=qk1 (ts:=ts) (n:=n) (a:=a) (b:=b) U;refine⟨S,_,P,?_⟩;by_cases i:a.ar=b.ar
   .rw [if_pos i]
    exact⟨decide_eq_true i,fun hk=>⟨_,rfl,R i hk⟩⟩
   .rw [if_neg i]
    exact decide_eq_false i
  rw[if_neg U];by_cases I:n.op=9
  .rw [if_pos I]
   by_cases i:1<=a.ar+b.ar-2/\a.ar+b.ar-2<=3
   .rw [if_pos i]
    refine⟨_,_,ap9 ts n _ _ (qk (zD a b)) I (by show 0<=a.ar/\a.ar<=1000;omega) (by show 0<=b.ar/\b.ar<=1000;omega) ?_,decide_eq_true i,fun _=>⟨_,rfl,rfl⟩⟩;rw[<-mw C T t i];exact VF _ _ (by show 0<=a.ar/\a.ar<=1000;omega) (by show 1<=b.ar/\b.ar<=1000;omega)
   .rw [if_neg i]
    exact⟨_,_,ap9 ts n _ _ _ I (by show 0<=a.ar/\a.ar<=1000;omega) (by show 0<=b.ar/\b.ar<=1000;omega) (VF _ _ (by show 0<=a.ar/\a.ar<=1000;omega) (by show 1<=b.ar/\b.ar<=1000;omega)),decide_eq_false i⟩
  have p:n.op=10:=zOm;rw[if_neg I,if_pos p];by_cases i:a.ar+b.ar<=3
  .rw [if_pos i]
   refine⟨_,_,ap10 ts n _ _ (qk (v5 a b)) p (by show 0<=a.ar/\a.ar<=1000;omega) (by show 0<=b.ar/\b.ar<=1000;omega) ?_,decide_eq_true i,fun _=>⟨_,rfl,rfl⟩⟩;rw[<-qj1 C T t i];exact mj _ _ (by show 0<=a.ar/\a.ar<=1000;omega) (by show 0<=b.ar/\b.ar<=1000;omega)
  .rw [if_neg i]
   exact⟨_,_,ap10 ts n _ _ _ p (by show 0<=a.ar/\a.ar<=1000;omega) (by show 0<=b.ar/\b.ar<=1000;omega) (mj _ _ (by show 0<=a.ar/\a.ar<=1000;omega) (by show 0<=b.ar/\b.ar<=1000;omega)),decide_eq_false i⟩
 refine⟨zR,true,apO ts n L j o r zOm zOm zOm zOm zOm zOm zOm zOm zOm zOm zOm zOm,?_⟩;rw[Wr j o r zOm zOm zOm zOm zOm zOm zOm zOm zOm zOm zOm zOm];refine⟨rfl,fun hk=>?_⟩;have:=Vh hk;omega
theorem qk4{ns}(o:ns<=4){q}(h:okKd ns q)(l:q.ar=1)(i):wZ i q=true↔∀ k,k<4->(qk q).2 k=true->(k:Int)=i:=by
 unfold wZ;rw[q8];constructor
 .intro p k J r
  rw[yb,l]at r;have:=p _ r.2;simpa[dig,pad] using this
 .intro p t C
  obtain⟨j,I,e⟩:=Zw h o C;rw[l]at I e;have g:j<4:=I;have:=p j g ((yb q j).2 ⟨by rw[l];exact g,by rw[l,<-e];exact C⟩);rw[e];simp[dig,pad,this]
def ExR(c:Ck)(s:Scp)(inn:Bool)(n:Nd):Prop:=∃ S:RS,qh qc 109 [eVw c inn,lVr (envS s),eNd n] (.tup [eRS S,eDg (dgOf (exam c s inn n))])/\(kd n.op=101->∀ q,exam c s inn n = .ok (some q)->S=qk q)
theorem mP(c inn):HF (eVw c inn):=HF.agg fun x g=>by
 simp only[ql,qG,or_false]at g;rcases g with rfl|rfl|rfl|rfl|rfl|rfl|rfl
 .exact kM _
 .exact kN _
 .exact kK _
 .exact kL _
 .exact YL _
 .exact HF.sc _
 .exact HF.sc _
theorem wkE(c inn l n):WKs [eVw c inn,lVr l,eNd n] [eVw c inn,lVr l,eNd n] := .zk (mP c inn) (.zk (qkH _) (.zk (zd n) .nil))
theorem uf(d):HF (eDg d):=HF.agg fun x g=>by
 simp only[ql,qG,or_false]at g;rcases g with rfl|rfl<;>exact HF.sc _
theorem mQ{c p}(i:okCk c)(h:q9 c nm=some p):(c.ts.sT.any fun p=>decide (p.name=nm))=true:=by
 obtain⟨_,j⟩:=Ze i h;unfold q9 at h;rw[List.findIdx?_eq_some_iff_getElem]at h;obtain⟨l,g,_⟩:=h;simp only[List.getElem_take]at g;exact List.any_eq_true.2 ⟨_,qv j,g⟩
theorem qk5(h:q9 (mkCk ts ts.sT.length) nm=none):(ts.sT.any fun p=>decide (p.name=nm))=false:=by
 unfold q9 at h;rw[List.findIdx?_eq_none_iff]at h;rw[List.any_eq_false];intro p g;have:p∈ts.sT.take ts.sT.length:=by rw[za];exact g
 have:=h p this
 grind
theorem XD{n}(i:WfN n)(h:n.op=47):∀ k,k∈n.sD->kd k.op=101:=by
 have g:=i.shape;have e:shp n.op n.sD.length=some (zo (min n.sD.length 401) 101):=by
  unfold shp;rw[zIn,zIn,zIn,zIn,zIn,zIn,zIn,if_pos h]
 rw[e]at g;simp only[qo]at g;intro k j;have:kd k.op∈n.sD.map fun k=>kd k.op:=qp.2 ⟨k,j,rfl⟩
 grind
theorem qk6(c)(hc:okCk c)(s)(hs:ScOk c.ts.sS.length s)(n)(hw:WfN n)(b0:n.op=47)(ih:∀ k,k∈n.sD->ExR c s true k)(inn) :
  qh qc 140 [eVw c inn,lVr (envS s),eNd n] (eDg (dgOf (Yj c s n))):=by
 generalize hR:Yj c s n=R;unfold Yj at hR;refine qSQ call140 func140 rfl { mt:=[3] } ?_;have bc:=hc.ts.np;have be:=hw.len;have b1:=YK c hc n.name;have b2:=YK (mkCk c.ts c.ts.sT.length) (uK hc.ts (qs _)) n.name;have an:∀ k:Int,WKs [eTS c.ts,aI k,aS n.name] [eTS c.ts,aI k,aS n.name]:=fun k => .zk (zt _) (.zs (.zs .nil))
 simp[go_sem];refine cY b1 (an _) ?_;cases T:q9 c n.name with
 |none =>
  rw[T]at hR;simp[go_sem,idxO];refine cY b2 (an _) ?_;cases a2:q9 (mkCk c.ts c.ts.sT.length) n.name with
  |none =>
   rw[qk5 a2]at hR;subst hR;simp[go_sem,idxO,dgOf];exact .hf _ (uf (40,n.pos))
  |some p =>
   have ha:(c.ts.sT.any fun p=>decide (p.name=n.name))=true:=mQ (c:=mkCk c.ts c.ts.sT.length) (uK hc.ts (qs _)) a2;rw[ha]at hR;subst hR;have aa:¬(p:Int)<0:=zOm;simp[go_sem,idxO,dgOf,aa];exact .hf _ (uf (45,n.pos))
 |some p =>
  obtain⟨_,ab⟩:=Ze hc T;rw[mQ hc T,if_pos rfl,T]at hR;simp only[qx ab]at hR;have aa:¬(p:Int)<0:=zOm;have bg:=hc.ts.pl _ (qv ab);simp[go_sem,idxO,ab,aa];generalize bh:c.ts.sT[p]=C at *
  by_cases a0:C.params.length=n.sD.length
  .rw [if_pos a0]at hR
   simp[go_sem,a0];have b3:=XD hw b0;refine aC C.params.length (fun k st=>st.tm 1=lVr (envS s)/\st.tm 3 = .ptr 0 0/\st.tm 5 = .ip (cNd n)/\st.tm 6 = .ptr 1 0/\st.tm 8=lPm C.params/\st.tm 9=aI k/\st.mu[0]?=some (.arr (cVw c true))/\st.mu[1]?=some (.arr [aI 0,aI 0])/\z6 c s n.pos (C.params.drop k) (n.sD.drop k)=R) ?_ ?_
   .simp [go_sem, *]
   rintro k st hk ⟨e1,e3,e5,e6,e8,e9,m0,m1,t⟩;have a7:1<st.mu.length:=(qi.1 m1).1;have I:∀(l:List Cell)(i:Nat),i<st.mu.length->(st.mu++l)[i]?=st.mu[i]?:=fun l i hi=>ze hi
   have U:∀ c,(st.mu.set 1 c)[1]?=some c:=fun c=>yq a7
   have ad:∀ c (l:List Cell),((st.mu++l).set 1 c)[1]?=some c:=fun c l=>yq zSo
   have ae:∀(l:List Cell)(h:0<(st.mu++l).length),(st.mu++l)[0] = .arr (cVw c true):=fun l h=>by
    grind
   have af:∀(l:List Cell)(h:1<(st.mu++l).length),(st.mu++l)[1] = .arr [aI 0,aI 0]:=fun l h=>by
    grind
   by_cases ao:k=C.params.length
   .subst ao
    rw[yr,a0,yr]at t;simp only[z6]at t;subst t;simp[go_sem,e6,e8,e9,m1,a0,dgOf,U];exact .hf _ (uf (0,0))
   have o:k<C.params.length:=zOm;have r:k<n.sD.length:=zOm;have w1:=zWk k;obtain⟨S,hi,hS⟩:=ih n.sD[k] (qv r);rw[zB o,zB r]at t;simp only[z6]at t;have b4:=uL hc (szN n.sD[k]) n.sD[k] s true;have aq:=b3 n.sD[k] (qv r);have au:=hw.kid (qv r);simp[go_sem,e8,e9,o];refine fW [0,1,2,3,4,5,6,7,8,9,10,11,12,13,14] [(0,0,[]),(1,0,[]),(2,0,[]),(3,0,[]),(4,0,[]),(5,0,[]),(6,0,[]),(7,1,[]),(8,0,[]),(9,0,[]),(10,0,[]),(11,2,[0,3,6]),(12,2,[0,3,6]),(13,1,[]),(14,1,[])] zKr zKr zSi ?_;simp[go_sem,e1,e3,e5,e9,m0,r];refine cY hi (wkE c true _ _) ?_;cases hx:exam c s true n.sD[k] with
   |error e =>
    rw[hx]at t;subst t;have he:=YO c (szN n.sD[k]) n.sD[k] s true e (qs _) hx;have b5:¬e.1=0:=zOm;simp[go_sem,e3,qm,ae,dgOf];rw[if_pos (qP _)];generalize hP:qQ _ 0 (aI S.1 :: hB S.2)=P;have ag:P=aI S.1 :: hB S.2:=by rw[<-hP];exact pc (aI 0) _ (fun _=>false) _
    subst ag;clear hP;simp[go_sem,e6,b5];simp[go_sem,af,e6];exact .hf _ (uf e)
   |ok ko =>
    obtain⟨q,rfl,hq⟩:=b4 ko (qs _) au hs hx aq;have b6:=hS aq q hx;subst b6;rw[hx]at t;simp only at t;have b7:=hc.ts.ns;have av:(qk q).1=q.ar:=rfl;have aw:=fun h=>qk4 b7 hq h C.params[k].2
    generalize qk q=Q at *
    simp[go_sem,e3,qm,ae,dgOf];rw[if_pos (qP _)];generalize hP:qQ _ 0 (aI Q.1 :: hB Q.2)=P;have ag:P=aI Q.1 :: hB Q.2:=by rw[<-hP];exact pc (aI 0) _ (fun _=>false) _
    subst ag;clear hP;by_cases a1:q.ar=1
    .rw [if_pos a1]at t
     have a3:Q.1=1:=av.trans a1;simp[go_sem,qm,a3];have bb:C.params[k].2<4/\0<=C.params[k].2:=by grind
     refine aC 4 (fun j g=>∃ b,2<=b/\g.tm 10 = .ptr b 0/\g.mu[b]?=some (.arr (aI 1 :: hB Q.2))/\g.tm 1=lVr (envS s)/\g.tm 3 = .ptr 0 0/\g.tm 5 = .ip (cNd n)/\g.tm 6 = .ptr 1 0/\g.tm 8=lPm C.params/\g.tm 9=aI k/\g.tm 12=aI j/\g.mu[0]?=some (.arr (cVw c true))/\g.mu[1]?=some (.arr [aI 0,aI 0]) /\
      ∀ i:Nat,i<j->Q.2 i=true->(i:Int)=C.params[k].2) ?_ ?_
     .exact ⟨st.mu.length,zOm,zSi,zSi,zS1 e1,zS1 e3,zS1 e5,zS1 e6,zS1 e8,zS1 e9,zSi,by simp only[yO];rw[I _ _ zOm];exact m0,by simp only[yO];rw[I _ _ zOm];exact m1,fun i hi=>zOm⟩
     .clear e1 e3 e5 e6 e8 e9 m0 m1 I U ad ae af a7
      rintro j st2 hj ⟨b,hb,a4,mb,e1,e3,e5,e6,e8,e9,a8,m0,m1,a5⟩;have a7:1<st2.mu.length:=(qi.1 m1).1;have U:∀ c,(st2.mu.set 1 c)[1]?=some c:=fun c=>yq a7
      by_cases ah:j<4
      .have ai:(j:Int)<4:=by omega
       have ax:j<64:=zOm;have J:(j:Int)<64:=zOm;have wj:=zWk j;have a6:=d1 (aI 1) Q.2 j ax;have aj:1+j<=64:=zOm;by_cases hQ:Q.2 j=true
       .rw [hQ]at a6
        by_cases a9:(j:Int)=C.params[k].2
        .have b8:=eq_true a9
         simp[go_sem,a4,mb,e8,e9,a8,ai,J,a6,aj,qm,o,b8,wj];refine⟨ah,aP ⟨b,hb,zS1 a4,zS1 mb,zS1 e1,zS1 e3,zS1 e5,zS1 e6,zS1 e8,zS1 e9,zSi,zS1 m0,zS1 m1,fun i hi h=>?_⟩⟩;by_cases ak:i=j
         .subst ak;exact a9
         .exact a5 i zOm h
        .have ay:¬wZ C.params[k].2 q=true:=fun h=>a9 ((aw a1).1 h j ah hQ)
         rw[if_neg ay]at t;subst t;simp[go_sem,a4,mb,e5,e6,e8,e9,a8,ai,J,a6,aj,qm,o,a9,m1,U];exact .hf _ (uf (43,n.pos))
       .have hQ:Q.2 j=false:=by simpa using hQ
        rw[hQ]at a6;simp[go_sem,a4,mb,a8,ai,J,a6,aj,qm,wj];refine⟨ah,aP ⟨b,hb,zS1 a4,zS1 mb,zS1 e1,zS1 e3,zS1 e5,zS1 e6,zS1 e8,zS1 e9,zSi,zS1 m0,zS1 m1,fun i hi h=>?_⟩⟩;by_cases ak:i=j
        .subst ak;rw[hQ]at h;cases h
        .exact a5 i zOm h
      .have b9:j=4:=by omega
       subst b9;have al:wZ C.params[k].2 q=true:=(aw a1).2 fun i hi h=>a5 i hi h
       rw[if_pos al]at t;simp[go_sem,e9,a8,w1];exact⟨o,aP ⟨zS1 e1,zS1 e3,zS1 e5,zS1 e6,zS1 e8,zSi,zS1 m0,zS1 m1,t⟩⟩
    .rw [if_neg a1]at t
     subst t;have a3:¬Q.1=1:=fun e=>a1 (av.symm.trans e)
     simp[go_sem,e5,qm,a3,af,e6];exact .hf _ (uf (42,n.pos))
  .rw [if_neg a0]at hR
   subst hR;have az:¬n.sD.length=C.params.length:=fun e=>a0 e.symm
   simp[go_sem,az,dgOf];exact .hf _ (uf (45,n.pos))
end
end QO
namespace QR
open Y9 Y1 Y2 Y12 P1 P2 QE QF QJ QL QN PG QO
theorem VN{n}(i:WfN n)(h:n.op=15\/n.op=45\/n.op=46):∃ a f,n.sD=[a,f]/\kd a.op=101:=by
 have g:=i.shape;unfold shp at g;rw[zIn,zIn,zIn,if_pos zOm]at g;simp only[qo]at g
 match j:n.sD,g with
 | [a,f],g =>
  grind
 | [],g=>simp at g
 | [_],g=>simp at g
 |_ :: _ :: _ :: _,g=>simp at g
theorem five{C:Type}{l}{a b c d e:C}(g:l[0]?=some a)(i:l[1]?=some b)(j:l[2]?=some c)(o:l[3]?=some d)(p:l[4]?=some e):∃ r,l=a :: b :: c :: d :: e :: r:=by
 match l,g,i,j,o,p with
 |_ :: _ :: _ :: _ :: _ :: r,g,i,j,o,p =>
  simp_all
def YP:Res->RS
 | .ok (some k)=>if k.ar=1 then qk k else zR
 |_=>zR
theorem qk7(s d):FL (.tup [eRS s,eDg d]):=FL.tup fun x i=>by
 rcases ql.1 i with rfl|i
 .exact FL.agg fun c g=>by
   rcases ql.1 g with rfl|g
   .exact FL.sc _
   .obtain ⟨j,_,rfl⟩:=qp.1 g
    exact FL.sc _
 .rw [qL]at i;subst i
  exact FL.agg fun c g=>by
   rcases ql.1 g with rfl|g
   .exact FL.sc _
   .rw [qL]at g;subst g;exact FL.sc _
theorem qk8(c)(hc:okCk c)(s)(hs:ScOk c.ts.sS.length s)(az:s.length<=90000)(n a g)(hw:WfN n)(hb:n.op=15\/n.op=45\/n.op=46)(p:n.sD=[a,g])(a7:kd a.op=101)(inn)
  (ag:ExR c s (inn||decide (n.op=15)) a) (ah:∀ k,okKd c.ts.sS.length k->k.ar=1->ExR c ((n.name,k) :: s) (inn||decide (n.op=15)) g) :
  qh qc 141 [eVw c inn,lVr (envS s),eNd n] (.tup [eRS (YP (exam c s (inn||decide (n.op=15)) a)),eDg (dgOf (zQ c s (inn||decide (n.op=15)) n.name n.pos n.sD))]):=by
 have wa:=hw.kid (k:=a) (by rw[p];simp);obtain⟨S,ca,hS⟩:=ag;have ai:=uL hc (szN a) a s (inn||decide (n.op=15));have a8:=YO c (szN a) a s (inn||decide (n.op=15));rw[p];have w1:=wkE c (inn||decide (n.op=15)) (envS s) a;have aj:n.op=15->(inn||decide (n.op=15))=true:=fun h=>zP1 h
 have ak:¬n.op=15->(inn||decide (n.op=15))=inn:=fun h=>zP1 h
 generalize (inn||decide (n.op=15))=B at *
 generalize hE:dgOf (zQ c s B n.name n.pos [a,g])=E;generalize hX:exam c s B a=X at *
 have a9:∀ k,okKd c.ts.sS.length k->k.ar=1->X = .ok (some k)->∃ S2,qh qc 109 [eVw c B,lVr (envS ((n.name,k) :: s)),eNd g] (.tup [eRS S2,eDg E]):=fun k hk o al=>by
  obtain⟨S2,cg,_⟩:=ah k hk o;refine⟨S2,?_⟩;have a1:E=dgOf (exam c ((n.name,k) :: s) B g):=by
   rw[<-hE];simp only[zQ,qS];rw[hX,al];simp only;rw[if_pos o];cases exam c ((n.name,k) :: s) B g<;>rfl
  grind
 refine qSQ call141 func141 rfl { mt:=[3] } ?_;by_cases a3:n.op=15
 case' pos =>
  have a4:=aj a3;subst a4
 case' neg =>
  have a4:=ak a3;subst a4
 all_goals
  simp[go_sem,a3];refine fW [0,1,2,3,4,5,6,7,8,9,10,11,12,13] [(0,0,[]),(1,0,[]),(2,0,[]),(3,0,[]),(4,0,[]),(5,0,[]),(6,1,[]),(7,0,[]),(8,0,[]),(9,0,[]),(10,2,[0,3,5]),(11,2,[0,3,5]),(12,1,[]),(13,1,[])] zKr zKr zSi ?_;simp[go_sem,p];refine cY ca w1 ?_;simp[go_sem,qm,p];rw[if_pos (qP _)];generalize hP:qQ _ 0 (aI S.1 :: hB S.2)=P;have R:P=aI S.1 :: hB S.2:=by rw[<-hP];exact pc (aI 0) _ (fun _=>false) _
  subst R;clear hP;simp[go_sem]
 all_goals
  cases X with
  |error e =>
   have he:=a8 e (qs _) rfl;have an:¬e.1=0:=zOm;have a1:E=e:=by rw[<-hE];simp only[zQ];rw[hX];rfl
   subst a1;clear hE;simp[go_sem,dgOf,an];refine fW [0,1,2,3] [(0,0,[]),(1,0,[]),(2,1,[1]),(3,1,[])] zKr zKr zSi ?_;simp[go_sem];exact .hf _ (jv zR E)
  |ok ko =>
   obtain⟨q,rfl,hq⟩:=ai ko (qs _) wa hs rfl a7;have ao:=hS a7 q rfl;subst ao;have aa:(qk q).1=q.ar:=rfl;by_cases o:q.ar=1
   .have T:(qk q).1=1:=aa.trans o
    obtain⟨S2,cg⟩:=a9 q hq o rfl;have a5:YP (.ok (some q))=qk q:=if_pos o;rw[a5];have ab:envS ((n.name,q) :: s)=envS s++[(n.name,qk q)]:=by simp[envS]
    rw[ab]at cg;generalize qk q=Q at *
    obtain⟨qa,U⟩:=Q;have a6:qa=1:=T;subst a6;simp[go_sem,dgOf];refine fW [0,1,2,4,5,6,7,8,10,11,12,13,3,9,14,15,16,17,18,19,20,21] [(0,0,[]),(1,0,[]),(2,0,[]),(4,0,[]),(5,0,[]),(6,0,[]),(7,0,[]),(8,0,[]),(10,0,[]),(11,0,[]),(12,0,[]),(13,0,[]),(3,1,[0,5,6,11,13]),(9,1,[0,11,13]),(14,1,[]),(15,0,[]),(16,0,[]),(17,0,[]),(18,2,[0,5,6,11,13]),(19,2,[0,5,6,11,13]),(20,1,[]),(21,1,[])] zKr zKr zSi ?_;simp[go_sem,qm,tk];rw[if_pos (qP _)];generalize hC:qQ _ 1 _=C;have aq:C=cVr (n.name,(1,U)):=by rw[<-hC];exact pcV n.name (1,U)
    subst aq;clear hC;have au:(cVr (n.name,((1:Int),U))).length=66:=by simp[qm]
    have av:=Xv (n.name,((1:Int),U));generalize hV:cVr (n.name,((1:Int),U))=V at *
    simp[go_sem,au];rw[if_pos av];simp[go_sem,p];refine Xx (lo:=5) (xs:=[]) (ys:=envS s) (OwnF.nil zSp) (by simp[qF]) (by simp[VK];omega) fun b0 m1 aw a0=>?_
    have k0:=a0 0 zOm;have k1:=a0 1 zOm;have k2:=a0 2 zOm;have k3:=a0 3 zOm;have k4:=a0 4 zOm;simp at k0 k1 k2 k3 k4;simp[go_sem,qm,tk,p,k0,k3];refine Xx (xs:=[]++envS s) (ys:=[(n.name,(1,U))]) aw (by simp[qF,hV]) (by simp[VK];omega) fun b1 m2 a2 I=>?_
    rw[uX]at a2;have ax:=a2.2.2;replace k0:=(I 0 zOm).trans k0;replace k1:=(I 1 zOm).trans k1;replace k2:=(I 2 zOm).trans k2;replace k3:=(I 3 zOm).trans k3;replace k4:=(I 4 zOm).trans k4;have j:∀(l:List Cell)(i:Nat),i<m2.length->(m2++l)[i]?=m2[i]?:=fun l i hi=>ze hi
    have g0:=(qi.1 k0).2;have g1:=(qi.1 k1).2;have g2:=(qi.1 k2).2;have g3:=(qi.1 k3).2;simp[go_sem,p,k0];refine fH (args':=[eVw c _,lVr (envS s++[(n.name,(1,U))]),eNd g]) cg ⟨.hf _ (mP c _),rdVr a2,.hf _ (zd g),trivial⟩ (qk7 S2 _) ?_;have p0:=fun l=>(j l 0 zOm).trans k0
    have p1:=fun l=>(j l 1 zOm).trans k1
    have p2:=fun l=>(j l 2 zOm).trans k2
    have p3:=fun l=>(j l 3 zOm).trans k3
    have p4:=fun l=>(j l 4 zOm).trans k4
    have ad:0<m2.length:=zOm;have ae:3<m2.length:=zOm;simp[go_sem,qm,tk,p,g0,g3,ad,ae,p3];rw[if_pos (qP _)];generalize hP:qQ _ 0 (cRS S2)=P;have R:P=cRS S2:=by rw[<-hP];exact pc (aI 0) _ (fun _=>false) _
    subst R;clear hP;simp[go_sem];obtain⟨rr,af⟩:=five k0 k1 k2 k3 k4;have b2:m2.length=rr.length+5:=by rw[af];rfl
    clear g0 g1 g2 g3 p0 p1 p2 p3 p4 j a2 I k0 k1 k2 k3 k4 ax ad ae;refine fW [0,1,2,3] [(0,0,[]),(1,0,[]),(2,1,[1]),(3,1,[])] zKr zKr zSi ?_;simp[go_sem,qm,tk,af];rw[if_pos (qP _)];generalize hP:qQ _ 0 (aI 1 :: hB U)=P;have R:P=aI 1 :: hB U:=by rw[<-hP];exact pc (aI 0) (aI 1) (fun _=>false) U
    subst R;clear hP;simp[go_sem,qm,tk];exact .hf _ (jv (1,U) E)
   .have T:¬(qk q).1=1:=fun e=>o (aa.symm.trans e)
    have a5:YP (.ok (some q))=zR:=if_neg o;rw[a5];have a1:E=(42,n.pos):=by
     rw[<-hE];simp only[zQ];rw[hX];simp only;rw[if_neg o];rfl
    subst a1;clear hE;generalize qk q=Q at *
    simp[go_sem,dgOf,T];refine fW [0,1,2,3,4,5] [(0,0,[]),(1,0,[]),(2,0,[]),(3,0,[]),(4,1,[2]),(5,1,[])] zKr zKr zSi ?_;simp[go_sem];exact .hf _ (jv zR (42,n.pos))
theorem qk9(ts)(ok:okTS ts)(n l)(r:n.op≠1)(o:n.op≠15)
  (t:n.op=5\/n.op=11\/n.op=12\/n.op=13->∃ a,l=[some a]/\okKd ts.sS.length a)
  (C:n.op=6\/n.op=14\/n.op=7\/n.op=8\/n.op=32\/n.op=33\/n.op=9\/n.op=10->∃ a b,l=[some a,some b]/\okKd ts.sS.length a/\okKd ts.sS.length b) :
  ∃ S b,(∀ L,((n.op=5\/n.op=11\/n.op=12\/n.op=13)\/(n.op=6\/n.op=14\/n.op=7\/n.op=8\/n.op=32\/n.op=33\/n.op=9\/n.op=10)->L=l.map setO)->prC ts n L S b)/\ApE n.op (zO ts.sS.length n.op n.n n.pos l) S b:=by
 by_cases P:(n.op=5\/n.op=11\/n.op=12\/n.op=13)\/(n.op=6\/n.op=14\/n.op=7\/n.op=8\/n.op=32\/n.op=33\/n.op=9\/n.op=10)
 .obtain ⟨S,b,c,a⟩:=qk3 ts ok n l (l.map setO) r o (fun h=>by obtain⟨a,rfl,p⟩:=t h;exact⟨a,rfl,rfl,p⟩) (fun h=>by obtain⟨a,b,rfl,p,I⟩:=C h;exact⟨a,b,rfl,rfl,p,I⟩)
  grind
 by_cases g:n.op=2
 .refine ⟨qk ⟨n.n,[]⟩,true,fun L _=>mO (mF n.n) (ap2 ts n L g),?_⟩
  unfold zO;rw[if_pos g];exact⟨rfl,fun _=>⟨_,rfl,rfl⟩⟩
 by_cases i:n.op=3
 .refine ⟨_,true,fun L _=>ap3 ts ok n L i,?_⟩
  unfold zO;rw[if_neg g,if_pos i];exact⟨rfl,fun _=>⟨_,rfl,rfl⟩⟩
 by_cases j:n.op=4
 .refine ⟨_,true,fun L _=>ap4 ts ok n L j,?_⟩
  unfold zO;rw[if_neg g,if_neg i,if_pos j];exact⟨rfl,fun _=>⟨_,rfl,rfl⟩⟩
 refine⟨zR,true,fun L _=>apO ts n L g i j zOm zOm zOm zOm zOm zOm zOm zOm zOm zOm zOm zOm,?_⟩;rw[Wr g i j zOm zOm zOm zOm zOm zOm zOm zOm zOm zOm zOm zOm];refine⟨rfl,fun J=>?_⟩;have:=Vh J;omega
def resS:Res->RS
 | .ok (some k)=>qk k
 |_=>zR
theorem qlA(R):endR zR R = .tup [eRS (resS R),eDg (dgOf R)]:=by
 cases R with
 |error e=>rfl
 |ok k=>cases k<;>rfl
end QR
namespace QS
open YZ YF Y9 Y10 Y1 Y2 Y13 P1 P2 QE QF QI QJ QL QN PG QO QR
theorem VO(c op nm):zN c op nm=(zW op||(decide (op=47)&&tpB c nm)):=rfl
theorem qlB{ns op n pos l e}(h:zO ns op n pos l = .error e):e=(42,pos):=by
 unfold zO at h
 repeat' split at h
 all_goals grind
theorem wkTP(c:Ck)(nm):WKs [eTS c.ts,lBo c.timed,aI c.calls,aS nm] [eTS c.ts,lBo c.timed,aI c.calls,aS nm] := .zk (zt _) (.zk (YL _) (.zs (.zs .nil)))
theorem wk1I(k):WKs [aI k] [aI k] := .zs .nil
theorem fl_sb(s b):FL (.tup [eRS s,aB b]):=FL.tup fun x i=>by
 rcases ql.1 i with rfl|i
 .exact FL.agg fun c g=>by
   rcases ql.1 g with rfl|g
   .exact FL.sc _
   .obtain ⟨j,_,rfl⟩:=qp.1 g
    exact FL.sc _
 grind [qL,FL.sc]
theorem qlC(c)(i:okCk c)(s n)(g:zN c n.op n.name=true):ExR c s true n:=by
 refine⟨zR,?_,fun _ q h=>?_⟩
 case refine_2=>simp_all[yx,if_pos]
 have j:exam c s true n = .error (46,n.pos):=by simp_all[yx,if_pos]
 rw[j];rw[VO]at g;refine qSQ call109 func109 rfl { mt:=[3] } ?_;have l:=Zy n.op;have o:=Zz c i n.name;simp[go_sem];refine cY l (wk1I _) ?_;cases hT:zW n.op with
 |true =>
  simp[go_sem];refine fW [0,1,2,3,4,5] [(0,0,[]),(1,0,[]),(2,0,[]),(3,0,[]),(4,1,[2]),(5,1,[])] zKr zKr zSi ?_;simp[go_sem,dgOf];exact .hf _ (jv zR (46,n.pos))
 |false =>
  rw[hT,Bool.false_or,qu]at g;obtain⟨h47,hB⟩:=g;have h47:n.op=47:=by simpa using h47
  simp[go_sem,h47];refine cY o (wkTP c n.name) ?_;rw[hB];simp[go_sem];refine fW [0,1,2,3,4,5] [(0,0,[]),(1,0,[]),(2,0,[]),(3,0,[]),(4,1,[2]),(5,1,[])] zKr zKr zSi ?_;simp[go_sem,dgOf];exact .hf _ (jv zR (46,n.pos))
theorem qlD(c)(l:okCk c)(s)(g:s.length<=100000)(inn n)(i:n.op=1):ExR c s inn n:=by
 have o:exam c s inn n=y0 c s n.name n.pos:=by
  rw[yx,VO,i,show zW 1=false from rfl];simp
 refine⟨resS (y0 c s n.name n.pos),?_,fun _ q h=>by rw[o]at h;rw[h];rfl⟩;rw[o];have p:=nameU c l inn s n g;rw[qlA]at p;generalize resS (y0 c s n.name n.pos)=S at *
 generalize dgOf (y0 c s n.name n.pos)=D at *
 refine qSQ call109 func109 rfl { mt:=[3] } ?_;have r:=Zy n.op;have I:=Zz c l n.name;have hT:zW n.op=false:=by rw[i];rfl
 rw[hT]at r;have C:=wkE c inn (envS s) n;cases inn
 case' true =>
  simp[go_sem];refine cY r (wk1I _) ?_
 all_goals
  simp[go_sem,i];refine cY p C ?_;simp[go_sem,qm];rw[if_pos (qP _)];generalize t:qQ _ 0 (aI S.1 :: hB S.2)=P;have j:P=aI S.1 :: hB S.2:=by rw[<-t];exact pc (aI 0) _ (fun _=>false) _
  subst j;clear t;simp[go_sem,qm,QE.tk];exact .hf _ (jv S D)
theorem qlE(c)(i:okCk c)(s)(p:ScOk c.ts.sS.length s)(inn n)(r:WfN n)(h47:n.op=47)(g:(inn&&zN c n.op n.name)=false)(t:∀ k,k∈n.sD->ExR c s true k):ExR c s inn n:=by
 have C:exam c s inn n=Yj c s n:=by
  rw[yx,g,if_neg zSp,zIn,if_pos h47];rfl
 have I:=qk6 c i s p n r h47 t inn;refine⟨zR,?_,fun j=>by rw[h47]at j;exact absurd j zDe⟩;rw[C];generalize dgOf (Yj c s n)=D at *
 refine qSQ call109 func109 rfl { mt:=[3] } ?_;have l:=Zy n.op;have o:=Zz c i n.name;have hT:zW n.op=false:=by rw[h47];rfl
 rw[hT]at l;have J:=wkE c inn (envS s) n;cases inn
 case' true =>
  rw[Bool.true_and,VO,hT,h47]at g;have hB:tpB c n.name=false:=zUs g;rw[hB]at o;simp[go_sem];refine cY l (wk1I _) ?_;simp[go_sem,h47];refine cY o (wkTP c n.name) ?_
 all_goals
  simp[go_sem,h47];refine fY I J ?_;exact .hf _ (jv zR D)
theorem qlF(c)(J:okCk c)(s)(o:ScOk c.ts.sS.length s)(p:s.length<=90000)(inn n)(R:WfN n)(l:n.op=15\/n.op=45\/n.op=46)(ht:(inn&&zN c n.op n.name)=false)(T:∀ k,k∈n.sD->∀ s',ScOk c.ts.sS.length s'->s'.length<=s.length+1->∀ inn,ExR c s' inn k):ExR c s inn n:=by
 have U:exam c s inn n=zQ c s (inn||decide (n.op=15)) n.name n.pos n.sD:=by
  rw[yx,ht,if_neg zSp,zIn,zIn,if_pos l]
 obtain⟨a,g,i,r⟩:=VN R l;have cb:=qk8 c J s o p n a g R l i r inn (T a (by rw[i];simp) s o zOm _) (fun k hk j=>T g (by rw[i];simp) _ (fun v t=>by
  rcases ql.1 t with rfl|t
  .grind
  .exact o v t) zSp _)
 refine⟨YP (exam c s (inn||decide (n.op=15)) a),?_,fun _ q h=>?_⟩
 case refine_2 =>
  rw[U,i]at h;simp only[zQ]at h;split at h
  .cases h
  .cases h
  .rename_i k hk
   split at h
   .rename_i j
    split at h
    .cases h
    .cases h
     rw[hk];exact if_pos j
   .cases h
 rw[U];generalize YP (exam c s (inn||decide (n.op=15)) a)=S at *
 generalize dgOf (zQ c s (inn||decide (n.op=15)) n.name n.pos n.sD)=D at *
 refine qSQ call109 func109 rfl { mt:=[3] } ?_;have C:=Zy n.op;have cp:=Zz c J n.name;have h47:¬n.op=47:=zOm;have hT:zW n.op=false:=by grind [zW]
 rw[hT]at C;have wn:=wkE c inn (envS s) n;rcases l with h|h|h
 all_goals
  rw[h]at C;cases inn
 all_goals
  simp[go_sem,h]
  try (refine cY C (wk1I _) ?_)
  try simp[go_sem,h]
  refine cY cb wn ?_;simp[go_sem,qm];rw[if_pos (qP _)];generalize hP:qQ _ 0 (aI S.1 :: hB S.2)=P;have I:P=aI S.1 :: hB S.2:=by rw[<-hP];exact pc (aI 0) _ (fun _=>false) _
  subst I;clear hP;simp[go_sem,qm,QE.tk];exact .hf _ (jv S D)
def seqL(X:Nd->Res):List Nd->Except Dg (List (Option Kd))
 | [] => .ok []
 |k :: ks=>match X k with
  | .error e => .error e
  | .ok a=>match seqL X ks with
   | .error e => .error e
   | .ok l => .ok (a :: l)
theorem mR(c s B):∀ ks,qS c s B ks=seqL (exam c s B) ks
 | []=>by simp only[qS,seqL]
 |k :: ks=>by simp only[qS,seqL];rw[mR c s B ks];cases exam c s B k with
  |error e=>rfl
  |ok a=>cases seqL (exam c s B) ks<;>rfl
theorem XF{C:Type}{l}{a b c:C}(g:l[0]?=some a)(i:l[1]?=some b)(j:l[2]?=some c):∃ r,l=a :: b :: c :: r:=by
 match l,g,i,j with
 |_ :: _ :: _ :: r,g,i,j =>
  grind
theorem qlG{n}(j:WfN n)(h:(n.op=5\/n.op=11\/n.op=12\/n.op=13)\/(n.op=6\/n.op=14\/n.op=7\/n.op=8\/n.op=32\/n.op=33\/n.op=9\/n.op=10)):∀ x,x∈n.sD->kd x.op=101:=by
 have g:=j.shape;intro x l;have i:kd x.op∈n.sD.map fun k=>kd k.op:=qp.2 ⟨x,l,rfl⟩
 rcases h with h|h
 .unfold shp at g
  rw[zIn,if_pos zOm]at g
  grind
 .unfold shp at g
  rw[zIn,zIn,if_pos zOm]at g;simp only[qo]at g;rw[<-g]at i;simpa using i
set_option maxHeartbeats 2000000 in
theorem ex_t(c)(hc:okCk c)(s n inn B X S D)(h1:¬n.op=1)(h47:¬n.op=47)(hb:¬(n.op=15\/n.op=45\/n.op=46))(hw:WfN n)(au:n.sD.length<=401)(hT:inn=true->zW n.op=false)(a5:n.op=12->B=true)(a6:n.op=13->B=true)(af:¬n.op=12->¬n.op=13->B=inn)
  (ag:∀ k,k∈n.sD->∃ S,qh qc 109 [eVw c B,lVr (envS s),eNd k] (.tup [eRS S,eDg (dgOf (X k))])/\(kd k.op=101->∀ q,X k = .ok (some q)->S=qk q))
  (a7:∀ k a,k∈n.sD->X k = .ok a->kd k.op=101->∃ q,a=some q/\okKd c.ts.sS.length q)
  (a1:∀ k e,X k = .error e->40<=e.1)
  (ah:∀ e,seqL X n.sD = .error e->S=zR/\D=e)
  (ai:∀ l,seqL X n.sD = .ok l->∃ S' b,(∀ L,((n.op=5\/n.op=11\/n.op=12\/n.op=13)\/(n.op=6\/n.op=14\/n.op=7\/n.op=8\/n.op=32\/n.op=33\/n.op=9\/n.op=10)->L=l.map setO)->prC c.ts n L S' b)/\(b=true->S=S'/\D=(0,0))/\(b=false->S=zR/\D=(42,n.pos))) :
  qh qc 109 [eVw c inn,lVr (envS s),eNd n] (.tup [eRS S,eDg D]):=by
 simp only[not_or]at hb;obtain⟨b1,b2,b3⟩:=hb;refine qSQ call109 func109 rfl { mt:=[3] } ?_;have ct:=Zy n.op;have cp:=Zz c hc n.name;cases inn
 all_goals first
  | (rw[hT rfl]at ct;simp[go_sem];refine cY ct (wk1I _) ?_)
  |skip
 all_goals simp[go_sem,h1,h47,b1,b2,b3]
 all_goals rcases (show n.op=12\/(¬n.op=12/\n.op=13)\/(¬n.op=12/\¬n.op=13) by omega) with p|⟨p,U⟩|⟨p,U⟩
 all_goals first|simp[go_sem,p,U] | simp[go_sem,p]
 all_goals first|have a2:=a5 p|have a2:=a6 U|have a2:=af p U
 all_goals
  refine aC n.sD.length (fun k st=>∃(j:List (Option Kd)) (L:List RS),j.length=k/\L.length=k/\st.tm 1=lVr (envS s)/\st.tm 3 = .ptr 0 0/\st.tm 5 = .ip (cNd n)/\st.tm 6 = .ptr 1 0/\st.tm 7 = .ptr 2 0/\st.tm 9=aI k/\st.mu[0]?=some (.arr (cVw c B))/\st.mu[1]?=some (.arr (aI 0 :: hB fun _=>false))/\st.mu[2]?=some (.arr [aI 0,aI 0])/\OwnF 3 st.mu 65 (st.tm 8) (L.map cRS)/\(∀(i:Nat) x,n.sD[i]?=some x->i<k->kd x.op=101->∃ q,j[i]?=some (some q)/\L[i]?=some (qk q))/\seqL X n.sD=(match seqL X (n.sD.drop k) with | .error e => .error e | .ok l => .ok (j++l))) ?_ ?_
  .refine ⟨[],[],rfl,rfl,zSi,zSi,zSi,zSi,zSi,zSi,by rw[a2];simp[go_sem],by simp[go_sem];rfl,zSi,by simp_all[go_sem,OwnF.nil],fun i x _ h=>absurd h zOm,?_⟩
   grind
  rintro k st hk ⟨j,L,a8,a9,e1,e3,e5,e6,e7,e9,m0,m1,m2,ho,a0,C⟩;generalize h8:st.tm 8=av at *
  by_cases o:k<n.sD.length
  .have w1:=zWk k
   obtain⟨Sk,ck,aj⟩:=ag n.sD[k] (qv o);rw[zB o]at C;simp only[seqL]at C;simp[go_sem,e5,e9,o];refine fW [0,1,2,3,4,5,6,7,8,9,10,11,12,13,14] [(0,0,[]),(1,0,[]),(2,0,[]),(3,0,[]),(4,0,[]),(5,0,[]),(6,0,[]),(7,1,[]),(8,0,[]),(9,0,[]),(10,0,[]),(11,2,[0,3,6]),(12,2,[0,3,6]),(13,1,[]),(14,1,[])] zKr zKr zSi ?_;have aa:2<st.mu.length:=(qi.1 m2).1;have g:∀(l:List Cell)(i:Nat),i<st.mu.length->(st.mu++l)[i]?=st.mu[i]?:=fun l i I=>ze I
   have p0:=fun l=>(g l 0 zOm).trans m0
   have p1:=fun l=>(g l 1 zOm).trans m1
   have p2:=fun l=>(g l 2 zOm).trans m2
   have g0:=(qi.1 m0).2;have g1:=(qi.1 m1).2;have g2:=(qi.1 m2).2;have a3:0<st.mu.length:=zOm;have ak:1<st.mu.length:=zOm;simp[go_sem,e1,e3,e5,e9,o,m0];refine cY ck (wkE c _ _ _) ?_;cases hx:X n.sD[k] with
   |error e =>
    have he:=a1 _ _ hx;have al:¬e.1=0:=zOm;rw[hx]at C;have C:seqL X n.sD = .error e:=C;obtain⟨an,ao⟩:=ah e C;rw[an,ao];simp[go_sem,e3,g0,a3,qm,dgOf];rw[if_pos (qP _)];generalize hP:qQ _ 0 (cRS Sk)=P;have R:P=cRS Sk:=by rw[<-hP];exact pc (aI 0) _ (fun _=>false) _
    subst R;clear hP;simp[go_sem,al];refine fW [0,1,2,3] [(0,0,[]),(1,0,[]),(2,1,[1]),(3,1,[])] zKr zKr zSi ?_;simp[go_sem,e6,e7,a3,qm,g1,g2,ak,aa];exact .hf _ (jv zR e)
   |ok a =>
    rw[hx]at C;simp only at C;simp[go_sem,e3,g0,a3,qm,dgOf];rw[if_pos (qP _)];generalize hP:qQ _ 0 (cRS Sk)=P;have R:P=cRS Sk:=by rw[<-hP];exact pc (aI 0) _ (fun _=>false) _
    subst R;clear hP;simp[go_sem,h8,qm,QE.tk];rw[if_pos (qP _)];simp[go_sem];refine appRS (lo:=3) (xs:=L) (ys:=[Sk]) ⟨by simpa using Wp (Wp ho.1 _) _,ho.2.1,by grind⟩ (by simp[qF]) zSo fun aw m' aq a4=>?_
    simp[go_sem,e9,o,w1];refine aP ⟨j++[a],L++[Sk],zP1 a8,zP1 a9,zS1 e1,zS1 e3,zS1 e5,zS1 e6,zS1 e7,zSi,?_,?_,?_,zVs aq,fun i x I ax T=>?_,?_⟩
    .simp only[yO];exact(a4 0 zOm).trans (p0 _)
    .simp only[yO];exact(a4 1 zOm).trans (p1 _)
    .simp only[yO];exact(a4 2 zOm).trans (p2 _)
    .by_cases ab:i=k
     .subst ab
      rw[qx o]at I;cases I;obtain⟨q,rfl,_⟩:=a7 _ a (qv o) hx T;refine⟨q,?_,?_⟩
      .rw [zK zOm,a8];simp
      .rw [zK zOm,a9];simp[aj T q hx]
     .obtain ⟨q,q1,q2⟩:=a0 i x I zOm T
      exact⟨q,by rw[zGa];exact q1,by rw[zGa];exact q2⟩
    grind
  .have ad:k=n.sD.length:=by omega
   subst ad;rw[yr]at C;have C:seqL X n.sD = .ok j:=by rw[C];simp only[seqL,yj]
   obtain⟨S',b,q1,q2,q3⟩:=ai j C;have hL:((n.op=5\/n.op=11\/n.op=12\/n.op=13)\/(n.op=6\/n.op=14\/n.op=7\/n.op=8\/n.op=32\/n.op=33\/n.op=9\/n.op=10))->L=j.map setO:=fun h=>by
    have T:∀ x,x∈n.sD->kd x.op=101:=fun x hx=>qlG hw h x hx
    refine List.ext_getElem? fun i=>?_
    by_cases I:i<n.sD.length
    .obtain ⟨q,e1,e2⟩:=a0 i n.sD[i] (zP1 I) I (T _ (qv I))
     rw[e2,List.getElem?_map,e1];rfl
    .rw [jG zOm,jG zSo]
   have hp:=q1 L hL;unfold prC at hp;have aa:2<st.mu.length:=(qi.1 m2).1;have g:∀(l:List Cell)(i:Nat),i<st.mu.length->(st.mu++l)[i]?=st.mu[i]?:=fun l i I=>ze I
   obtain⟨rr,ae⟩:=XF m0 m1 m2;simp[go_sem,e3,e5,e9,h8,m0];refine fH (args':=[eTS c.ts,eNd n,lRS L]) hp ⟨.hf _ (zt _),.hf _ (zd n),rdRS ho,trivial⟩ (fl_sb S' b) ?_;have ay:st.mu.length=rr.length+3:=by rw[ae];rfl
   clear m0 m1 m2 g ho;simp[go_sem,ae,qm];rw[if_pos (qP _)];generalize hP:qQ _ 0 (cRS S')=P;have R:P=cRS S':=by rw[<-hP];exact pc (aI 0) _ (fun _=>false) _
   subst R;clear hP;cases b with
   |true =>
    obtain⟨rfl,rfl⟩:=q2 rfl;simp[go_sem,e6,qm,QE.tk,pc];rw[if_pos (qP _)];simp[go_sem,e6,e7,qm,QE.tk];exact .hf _ (jv S (0,0))
   |false =>
    obtain⟨rfl,rfl⟩:=q3 rfl;simp[go_sem];refine fW [0,1,2,3,4,5] [(0,0,[]),(1,0,[]),(2,0,[]),(3,0,[]),(4,1,[2]),(5,1,[])] zKr zKr zSi ?_;simp[go_sem,e5,e6,e7,qm];exact .hf _ (jv zR (42,n.pos))
theorem qlH(c)(p:okCk c)(s)(hs:ScOk c.ts.sS.length s)(inn n)(r:WfN n)(h1:¬n.op=1)(h47:¬n.op=47)(hb:¬(n.op=15\/n.op=45\/n.op=46))(ht:(inn&&zN c n.op n.name)=false)(ih:∀ k,k∈n.sD->∀ inn,ExR c s inn k):ExR c s inn n:=by
 have hx:exam c s inn n=match qS c s (inn||decide (n.op=12)||decide (n.op=13)) n.sD with | .error e => .error e | .ok l=>zO c.ts.sS.length n.op n.n n.pos l:=by
  rw[yx,ht,if_neg zSp,if_neg h1,if_neg h47,if_neg hb]
  grind
 have t:n.op=12\/n.op=13->(inn||decide (n.op=12)||decide (n.op=13))=true:=fun h=>by grind
 have a0:¬n.op=12->¬n.op=13->(inn||decide (n.op=12)||decide (n.op=13))=inn:=fun h h'=>by simp[h,h']
 generalize (inn||decide (n.op=12)||decide (n.op=13))=B at *
 obtain⟨S,D,C,hq,I,J⟩:∃ S D,dgOf (exam c s inn n)=D/\(kd n.op=101->∀ q,exam c s inn n = .ok (some q)->S=qk q)/\(∀ e,qS c s B n.sD = .error e->S=zR/\D=e) /\
   (∀ l,qS c s B n.sD = .ok l->∃ P b,(∀ L:List RS,((n.op=5\/n.op=11\/n.op=12\/n.op=13)\/(n.op=6\/n.op=14\/n.op=7\/n.op=8\/n.op=32\/n.op=33\/n.op=9\/n.op=10)->L=l.map setO)->prC c.ts n L P b)/\(b=true->S=P/\D=(0,0))/\(b=false->S=zR/\D=(42,n.pos))):=by
  rw[hx];cases hE:qS c s B n.sD with
  |error e=>exact⟨zR,e,rfl,(fun _ q h=>by cases h),(fun e' h=>by grind),(fun l h=>by cases h)⟩
  |ok l =>
   obtain⟨a1,a2⟩:=Vg hE;have a3:=(pw p.ts.ns r a1 (fun i k' a hi ha g=>uL p (szN k') k' s B a (qs _) (r.kid (zh hi)) hs (a2 i k' a hi ha) g)).2;obtain⟨P,b,p1,o⟩:=qk9 c.ts p.ts n l h1 (fun h=>hb (.inl h)) (fun h=>by
    grind) a3.2.2
   simp only;cases hA:zO c.ts.sS.length n.op n.n n.pos l with
   |error e =>
    rw[hA]at o;have o:b=false:=o;refine⟨zR,e,rfl,(fun _ q h=>by cases h),(fun e' h=>by cases h),(fun l' h=>by cases h;exact⟨P,b,p1,(fun h=>by grind),(fun _=>⟨rfl,qlB hA⟩)⟩)⟩
   |ok ko =>
    rw[hA]at o;obtain⟨o,p3⟩:=o;refine⟨P,(0,0),rfl,(fun U q h=>?_),(fun e' h=>by cases h),(fun l' h=>by simp_all)⟩
    grind
 refine⟨S,?_,hq⟩;rw[C];clear C hx hq;obtain⟨X,R⟩:∃ X:Nd->Res,X=exam c s B:=⟨_,rfl⟩;have a4:∀ k,k∈n.sD->∃ S,qh qc 109 [eVw c B,lVr (envS s),eNd k] (.tup [eRS S,eDg (dgOf (X k))])/\(kd k.op=101->∀ q,X k = .ok (some q)->S=qk q):=fun k U=>by rw[R];exact ih k U B
 have T:∀ k a,k∈n.sD->X k = .ok a->kd k.op=101->∃ q,a=some q/\okKd c.ts.sS.length q:=fun k a U h g=>by rw[R]at h;exact uL p (szN k) k s B a (qs _) (r.kid U) hs h g
 have j:∀ k e,X k = .error e->40<=e.1:=fun k e h=>by rw[R]at h;exact YO c (szN k) k s B e (qs _) h
 rw[mR,<-R]at I J;clear R ih;have a5:=r.len;exact ex_t c p s n inn B X S D h1 h47 hb r a5 (fun hi=>by
  simp_all[Bool.true_and,VO,Bool.or_eq_false_iff]) (fun h=>t (.inl h)) (fun h=>t (.inr h)) a0 a4 T j I J
theorem mS(c)(l:okCk c):∀(m:Nat)(n),depN n<=m->WfN n->∀ s,ScOk c.ts.sS.length s->s.length+m<=80000->∀ inn,ExR c s inn n
 | 0,n,i,_,_,_,_,_=>zW1 (mN n)
 |m+1,n,i,o,s,r,p,inn=>by
  have t:∀ k,k∈n.sD->∀ s',ScOk c.ts.sS.length s'->s'.length<=s.length+1->∀ inn,ExR c s' inn k:=fun k j s' g C inn=>mS c l m k (by have:=mM j;rw[Zs]at i;omega) (o.kid j) s' g zOm inn
  cases I:inn&&zN c n.op n.name with
  |true =>
   simp_all[qu,qlC]
  |false =>
   grind [qlD,qlE,qlF,qlH]
end QS
namespace QT
open YF Y9 Y10 Y1 Y2 Y14 Y15 Y16 YZ P1 P2 PA Q5 QD QE QI QJ QL QM QO QS
section
variable {ts:TS}
def ckR(ts:TS)(i:Nat):Ck:=⟨ts,i,tmsL ts ts.sT.length⟩
theorem VP(h:okTS ts){i}(g:i<=ts.sT.length):okCk (ckR ts i):=⟨h,g,by show i<=(tmsL ts ts.sT.length).length;rw[Zk ts _ (qs _)];exact g⟩
theorem mU{c c'}(g:c'.ts=c.ts)(l:∀ nm,q9 c' nm=q9 c nm)(o:∀ op nm,zN c' op nm=zN c op nm):∀ m n s inn,szN n<=m->exam c s inn n=exam c' s inn n
 | 0,n,_,_,t=>by obtain⟨op,nm,i,ks,p⟩:=n;simp[szN]at t
 |m+1,n,s,inn,t=>by
  have r:∀ k,k∈n.sD->∀(s:Scp)(inn:Bool),exam c s inn k=exam c' s inn k:=fun k r s inn=>mU g l o m k s inn (zW1 (yw r))
  refine nu rfl rfl rfl rfl (o _ _) (fun _=>?_) (by rw[g]) (l _) (by rw[g]) rfl (fun _ I=>nz fun k j=>r k j s true) (fun _ inn=>?_) (fun _ _ _ inn=>Vv fun k j=>r k j s inn)
  .grind [Qc]
  .cases C:n.sD with
   |nil=>rfl
   |cons k ks =>
    grind [ks,zQ,qN,qS,Vv,qB]
theorem qlI(h:okTS ts){i}(o:i<=ts.sT.length)(n s inn):exam (ckR ts i) s inn n=exam (mkCk ts i) s inn n:=by
 refine(mU (c:=mkCk ts i) (c':=ckR ts i) rfl (fun j=>rfl) (fun op j=>?_) (szN n) n s inn (qs _)).symm;unfold zN;have e:q9 (ckR ts i) j=q9 (mkCk ts i) j:=rfl;rw[e];cases r:q9 (mkCk ts i) j with
 |none=>rfl
 |some p =>
  obtain⟨l,g⟩:=Ze (uK h o) r;have l:p<i:=l;have g:p<ts.sT.length:=g;simp only;have t:=PC.VL ts p ts.sT.length g (qs _) g;have C:=PC.VL ts p i l o g;show (zW op||(decide (op=47)&&(tmsL ts ts.sT.length).getD p false))=(zW op||(decide (op=47)&&(tmsL ts i).getD p false));rw[t,C]
theorem qlJ(h:okTS ts){i}(g:i<=ts.sT.length)(env n):vg (mkCk ts i) env n=if 30<=n.op then dgOf (exam (ckR ts i) (yP env) false n) else (43,n.pos):=by
 grind [vg,qlI]
theorem mV(ts)(h:okTS ts)(J:∀ p,p∈ts.sT->WfN p.body)(i)(o:i<=ts.sT.length)(env)(t:Wu ts.sS.length env)(j:env.length<=1000)(n)(R:WfN n)(T:depN n<=24) :
  qh qc 79 [eTS ts,aI i,lPm env,eNd n] (eDg (vg (mkCk ts i) env n)):=by
 rw[qlJ h o];have U:=h.ns;have hs:=pz t;have a0:(yP env).length=env.length:=by
  have:=congrArg List.length (mE env)
  grind [VK,envV]
 obtain⟨S,ce,_⟩:=mS (ckR ts i) (VP h o) 24 n T R (yP env) hs zOm false;have C:=envU env j (fun p hp=>zW1 (t.r p hp));rw[mE]at C;have c1:=qkJ n;have c2:=qkG ts h J;refine qSU call79 func79 rfl ?_;refine cY c1 (.zk (zd n) .nil) ?_;by_cases g:30<=n.op
 .rw [if_pos g]
  generalize dgOf (exam (ckR ts i) (yP env) false n)=D at *
  simp[go_sem,g];refine fW [0,1,3,5,7,2,4,6,8,9,10,11,12,13,14,15] [(0,0,[]),(1,0,[]),(3,0,[]),(5,0,[]),(7,0,[]),(2,1,[0,7]),(4,0,[]),(6,1,[0,7]),(8,1,[]),(9,0,[]),(10,0,[]),(11,0,[]),(12,2,[0,1,7]),(13,2,[0,1,7]),(14,1,[]),(15,1,[])] zKr zKr zSi ?_;simp[go_sem];refine fY c2 (.zk (zt ts) .nil) ?_;refine fY C (.zk (Ye env) .nil) ?_;refine cY ce (wkE (ckR ts i) false _ n) ?_;simp[go_sem,qm];rw[if_pos (qP _)];generalize I:qQ _ 0 (cRS S)=P;have l:P=cRS S:=by rw[<-I];exact pc (aI 0) _ (fun _=>false) _
  subst l;clear I;simp[go_sem];exact .hf _ (uf D)
 .rw [if_neg g]
  simp[go_sem,g];exact .hf _ (uf (43,n.pos))
theorem XG(ts)(h:okTS ts)(i:∀ p,p∈ts.sT->WfN p.body)(env)(j:Wu ts.sS.length env)(g:env.length<=1000)(n)(l:WfN n)(o:depN n<=24) :
  qh qc 38 [eTS ts,lPm env,eNd n] (eDg (ye ts env n)):=by
 have c1:=mV ts h i ts.sT.length (qs _) env j g n l o;have e:vg (mkCk ts ts.sT.length) env n=ye ts env n:=rfl;rw[e]at c1;generalize ye ts env n=D at *
 refine qSU call38 func38 rfl ?_;refine fY c1 (.zk (zt ts) (.zs (.zk (Ye env) (.zk (zd n) .nil)))) ?_;exact .hf _ (uf D)
theorem ZA(a b):dups (a++b)=dups a++dups b:=by simp[dups]
theorem ug(b):dups [b]=if b=true then [(41,0)] else []:=by cases b<;>rfl
theorem uO(l):(dups l).length<=l.length:=by
 grind [dups,yi,List.length_filter_le]
theorem XH{C}(g)(l:List C)(k h):(repL g l).take (k+1)=(repL g l).take k++[(l.take k).any fun y=>g l[k] y]:=by
 grind [repL,uM,jx,pA,qx,Option.some.inj]
theorem VQ{C:Type}(p)(l:List C)(k h):(l.take (k+1)).any p=((l.take k).any p||p l[k]):=by
 rw[jx h,List.any_append];simp only[List.any_cons,List.any_nil,Bool.or_false]
abbrev eS:cL×Bool->cL×Bool->Bool:=fun x y=>decide (x.1=y.1)
abbrev eF:Fld->Fld->Bool:=fun x y=>decide (x.name=y.name)&&decide (x.sS=y.sS)
abbrev eP:Pd->Pd->Bool:=fun x y=>decide (x.name=y.name)
abbrev eM:cL×Int->cL×Int->Bool:=fun x y=>decide (x.1=y.1)
abbrev eA:cL×Nd->cL×Nd->Bool:=fun x y=>decide (x.1=y.1)
theorem uT{mu lo s x}{xs ys:List Dg}{K}(o:OwnF lo mu 2 s (xs.map cDg))(t:qF mu x=some (ys.map cDg))(I:xs.length+ys.length<=100000)(J:∀ av j,OwnF lo j 2 av ((xs++ys).map cDg)->(∀ i,i<lo->j[i]?=mu[i]?)->K av j) :
  qD qc mu #[85,85] s x K:=by
 have g:∀ l:List Dg,zb 2 (l.map cDg):=fun l r C=>by
  obtain⟨n,_,rfl⟩:=qp.1 C;exact⟨rfl,rfl⟩
 refine qD.ownF (lo:=lo) (e:=81) (sz:=2) (bt:=16) (zv := .agg [aI 0,aI 0]) (xs:=xs.map cDg) (ys:=ys.map cDg) zSi zSi zSi rfl rfl zOm zOm o t (g xs) (g ys) zSo ?_
 grind
theorem qlK(ts)(h:okTS ts)(mu):qU qc 77 [eTS ts] mu fun e m=>∃ av,e = .ret av/\OwnF mu.length m 2 av ((dups (repL eS ts.sS)++dups (repL eF ts.sA)).map cDg)/\∀ i,i<mu.length->m[i]?=mu[i]?:=by
 refine qSW call77 func77 rfl {} ?_;have a6:=h.ns;have ab:=h.nf;simp[go_sem];refine aC ts.sS.length (fun i st=>st.tm 1 = .ip (cTS ts)/\st.tm 4=aI i/\OwnF mu.length st.mu 2 (st.tm 3) ((dups ((repL eS ts.sS).take i)).map cDg)/\∀ i,i<mu.length->st.mu[i]?=mu[i]?) ?_ ?_
 .simp_all [go_sem,dups,OwnF.nil,qs]
 rintro i st P ⟨R,e4,I,U⟩;have a0:(dups ((repL eS ts.sS).take i)).length<=i:=zS (uO _) (List.length_take_le ..);generalize h3:st.tm 3=av at *
 by_cases l:i<ts.sS.length
 .have o:=XH eS ts.sS i l
  have wi:=zWk i;simp[go_sem,R,e4,l];refine aC i (fun k st2=>st2.tm 1 = .ip (cTS ts)/\st2.tm 4=aI i/\st2.tm 3=av/\st2.tm 6=aI k/\st2.tm 5=aB ((ts.sS.take k).any fun y=>eS ts.sS[i] y)/\st2.mu=st.mu) ?_ ?_
  .simp [go_sem, *]
  rintro k st2 hk ⟨f1,f4,f3,f6,f5,C⟩;generalize hT:(ts.sS.take k).any (fun y=>eS ts.sS[i] y)=T at *
  by_cases p:k<i
  .have t:k<ts.sS.length:=by omega
   have wk:=zWk k;have g:=VQ (fun y=>eS ts.sS[i] y) ts.sS k t;rw[hT]at g;simp[go_sem,f4,f6,p];refine cN zKr ?_;cases T with
   |true =>
    simp_all[go_sem,Bool.true_or,aP]
   |false =>
    rw[Bool.false_or]at g;by_cases hq:ts.sS[k].1=ts.sS[i].1
    .simp_all [go_sem,eS,decide_eq_true,aP]
    .have j:(ts.sS.take (k+1)).any (fun y=>eS ts.sS[i] y)=false:=by rw[g];exact decide_eq_false fun e=>hq e.symm
     simp_all[go_sem,jN,aP]
  .have a1:k=i:=by omega
   subst a1;rw[hT]at o;cases T with
   |true =>
    simp[go_sem,f4,f3,f6,f5,C];refine uT (ys:=[(41,0)]) I (by simp[qF]) zSo fun a7 m' a2 a3=>?_
    simp[go_sem,f4,wi];exact⟨l,aP ⟨zS1 f1,zSi,by rw[o,ZA,ug,if_pos rfl];simpa[go_sem] using a2,by simp only[yO];exact fun i P=>(a3 i P).trans (U i P)⟩⟩
   |false =>
    simp[go_sem,f4,f6,f5,C,wi];exact⟨l,aP ⟨zS1 f1,zSi,by rw[o,ZA,ug,if_neg zSp,yj];simpa[go_sem,f3,C] using I,by simp only[yO];exact U⟩⟩
 .have a4:i=ts.sS.length:=by omega
  subst a4;rw[zn (by rw[uM];exact qs _)]at I;simp[go_sem,R,e4];generalize a8:dups (repL eS ts.sS)=a5 at *
  have ad:a5.length<=4:=by rw[<-a8];exact zS (uO _) (by rw[uM];exact a6)
  refine aC ts.sA.length (fun i st=>st.tm 1 = .ip (cTS ts)/\st.tm 7=aI i/\OwnF mu.length st.mu 2 (st.tm 3) ((a5++dups ((repL eF ts.sA).take i)).map cDg)/\∀ i,i<mu.length->st.mu[i]?=mu[i]?) ?_ ?_
  .exact ⟨zS1 R,zSi,by simpa[go_sem,dups,h3] using I,zVs U⟩
  clear a0 I U R e4 h3 l P st;rintro i st P ⟨R,e4,I,U⟩;have a0:(dups ((repL eF ts.sA).take i)).length<=i:=zS (uO _) (List.length_take_le ..);generalize h3:st.tm 3=a9 at *
  by_cases l:i<ts.sA.length
  .have o:=XH eF ts.sA i l
   have wi:=zWk i;simp[go_sem,R,e4,l];refine aC i (fun k st2=>st2.tm 1 = .ip (cTS ts)/\st2.tm 7=aI i/\st2.tm 3=a9/\st2.tm 9=aI k/\st2.tm 8=aB ((ts.sA.take k).any fun y=>eF ts.sA[i] y)/\st2.mu=st.mu) ?_ ?_
   .exact ⟨zS1 R,zS1 e4,zS1 h3,zSi,zSi,zSi⟩
   rintro k st2 hk ⟨f1,f4,f3,f6,f5,C⟩;generalize hT:(ts.sA.take k).any (fun y=>eF ts.sA[i] y)=T at *
   by_cases p:k<i
   .have t:k<ts.sA.length:=by omega
    have wk:=zWk k;have g:=VQ (fun y=>eF ts.sA[i] y) ts.sA k t;rw[hT]at g;have ae:=h.fl _ (qv t);have aa:=qgW ts.sA[k].sS ts.sA[i].sS zOm;simp[go_sem,f4,f6,p];refine cN zKr ?_;cases T with
    |true =>
     rw[Bool.true_or]at g;simp[go_sem,f6,f5,p,wk];exact aP ⟨zS1 f1,zS1 f4,zS1 f3,zSi,by rw[g];simp[go_sem],zS1 C⟩
    |false =>
     rw[Bool.false_or]at g;by_cases hq:ts.sA[k].name=ts.sA[i].name
     .simp [go_sem,f1,f4,f6,f5,t,l,hq]
      refine cY aa (.zk (qR _) (.zk (qR _) .nil)) ?_;by_cases J:ts.sA[k].sS=ts.sA[i].sS
      .have j:(ts.sA.take (k+1)).any (fun y=>eF ts.sA[i] y)=true:=by rw[g];simp[eF,hq.symm,J.symm]
       simp[go_sem,f6,p,wk,J];exact aP ⟨zS1 f1,zS1 f4,zS1 f3,zSi,by rw[j];simp[go_sem],zS1 C⟩
      .have j:(ts.sA.take (k+1)).any (fun y=>eF ts.sA[i] y)=false:=by rw[g];simp[eF,hq.symm];exact fun e=>J e.symm
       simp[go_sem,f6,p,wk,J];exact aP ⟨zS1 f1,zS1 f4,zS1 f3,zSi,by rw[j];simp[go_sem],zS1 C⟩
     .have j:(ts.sA.take (k+1)).any (fun y=>eF ts.sA[i] y)=false:=by rw[g];simp[eF];exact fun e=>absurd e.symm hq
      simp[go_sem,f1,f4,f6,f5,p,t,l,wk,jN hq];exact aP ⟨zS1 f1,zS1 f4,zS1 f3,zSi,by rw[j];simp[go_sem],zS1 C⟩
   .have a1:k=i:=by omega
    subst a1;rw[hT]at o;cases T with
    |true =>
     simp[go_sem,f4,f3,f6,f5,C];refine uT (ys:=[(41,0)]) I (by simp[qF]) zSo fun a7 m' a2 a3=>?_
     simp[go_sem,f4,wi];exact⟨l,aP ⟨zS1 f1,zSi,by rw[o,ZA,ug,if_pos rfl,<-zm];simpa[go_sem] using a2,by simp only[yO];exact fun i P=>(a3 i P).trans (U i P)⟩⟩
    |false =>
     simp[go_sem,f4,f6,f5,C,wi];exact⟨l,aP ⟨zS1 f1,zSi,by rw[o,ZA,ug,if_neg zSp,yj];simpa[go_sem,f3,C] using I,by simp only[yO];exact U⟩⟩
  .have a4:i=ts.sA.length:=by omega
   subst a4;rw[zn (by rw[uM];exact qs _)]at I;simp[go_sem,R,e4,h3];exact⟨zUs I,U⟩
end
end QT
namespace QU
open YF Y9 Y10 Y1 Y2 Y15 Y16 YZ P1 P2 PA QD QI QK QT
theorem qlL{ts i}(l):(∃ p,q9 (ckR ts i) ts.sT[i].name=some p/\(ts.sT.take i).any (fun y=>eP ts.sT[i] y)=true)\/(q9 (ckR ts i) ts.sT[i].name=none/\(ts.sT.take i).any (fun y=>eP ts.sT[i] y)=false):=by
 cases h:q9 (ckR ts i) ts.sT[i].name with
 |some p =>
  left;refine⟨p,rfl,?_⟩;unfold q9 at h;rw[List.findIdx?_eq_some_iff_getElem]at h;obtain⟨g,o,_⟩:=h;refine List.any_eq_true.2 ⟨_,qv g,?_⟩
  grind
 |none =>
  right;refine⟨rfl,?_⟩;unfold q9 at h;rw[List.findIdx?_eq_none_iff]at h;rw[List.any_eq_false];intro x j;have:=h x j
  grind
theorem rdDg{lo mu av xs}(h:OwnF lo mu 2 av (xs.map cDg)):Rd mu av (lDg xs):=by
 refine h.1.rd (zb.ok fun r g=>?_) fun r g c i=>?_
 .obtain ⟨n,_,rfl⟩:=qp.1 g
  exact⟨rfl,rfl⟩
 .obtain ⟨n,_,rfl⟩:=qp.1 g
  rcases ql.1 i with rfl|i
  .exact HF.sc _
  grind [qL,HF.sc]
theorem ZB{lo sz mu av xs}(h:OwnF lo mu sz av xs)(c):OwnF lo (mu++[c]) sz av xs:=⟨Wp h.1 c,h.2.1,by have:=h.2.2;simp;omega⟩
theorem qlM(ts)(h:okTS ts)(wp:∀ p,p∈ts.sT->WfN p.body)(i)(U:i<ts.sT.length)(hd:depN ts.sT[i].body<=24):qh qc 78 [eTS ts,aI i] (lDg (jR ts i)):=by
 have a6:=h.pl _ (qv U);have ag:=h.np;have c1:=mV ts h wp i zOm ts.sT[i].params ⟨zOm,a6.2⟩ zOm ts.sT[i].body (wp _ (qv U)) hd;have c2:=YK (ckR ts i) (VP h zOm) ts.sT[i].name;have a7:=qlL U;have hp:jR ts i=dups [(ts.sT.take i).any (fun y=>eP ts.sT[i] y)]++(dups (repL eM ts.sT[i].params)++rp (vg (mkCk ts i) ts.sT[i].params ts.sT[i].body)):=by
  grind [jR,qx,nB]
 rw[hp];generalize hD:vg (mkCk ts i) ts.sT[i].params ts.sT[i].body=D at *
 generalize hb:(ts.sT.take i).any (fun y=>eP ts.sT[i] y)=b at *
 have ah:(dups [b]).length<=1:=by grind [dups]
 refine qSU call78 func78 rfl ?_;refine cN zKr ?_;simp[go_sem,U];refine cY c2 (.zk (zt _) (.zs (.zs .nil))) ?_;have wk:WKs [eTS ts,aI i,lPm ts.sT[i].params,eNd ts.sT[i].body] [eTS ts,aI i,lPm ts.sT[i].params,eNd ts.sT[i].body] := .zk (zt _) (.zs (.zk (Ye _) (.zk (zd _) .nil)));have af:=J4;have fin:∀ st:St,True:=fun _=>trivial
 rcases a7 with ⟨p,hc,a0⟩|⟨hc,a0⟩
 case' inl =>
  subst a0;rw[hc];have a8:(0:Int)<=(p:Int):=zOm;simp[go_sem,idxO,a8];refine uT (lo:=0) (xs:=[]) (ys:=[(41,0)]) (OwnF.nil zSp) (by simp[qF]) zSp fun ai m0 aj _=>?_
  simp[go_sem,U]
 case' inr =>
  subst a0;rw[hc];simp[go_sem,idxO,U]
 all_goals
  generalize a9:ts.sT[i]=g at *
 case' inl =>
  refine aC g.params.length (fun k st=>st.tm 2 = .ip (cTS ts)/\st.tm 1=aI i/\st.tm 6=lPm g.params/\st.tm 7=aI k/\OwnF 0 st.mu 2 (st.tm 5) ((dups [true]++dups ((repL eM g.params).take k)).map cDg)) ?_ ?_
  .simp_all [go_sem,dups]
 case' inr =>
  refine aC g.params.length (fun k st=>st.tm 2 = .ip (cTS ts)/\st.tm 1=aI i/\st.tm 6=lPm g.params/\st.tm 7=aI k/\OwnF 0 st.mu 2 (st.tm 5) ((dups [false]++dups ((repL eM g.params).take k)).map cDg)) ?_ ?_
  .simp_all [go_sem,dups,OwnF.nil]
 all_goals
  rintro k st hk ⟨e2,e1,e6,e7,ho⟩;have a5:(dups ((repL eM g.params).take k)).length<=k:=zS (Y16.uO _) (List.length_take_le ..);generalize h5:st.tm 5=P at *
  by_cases C:k<g.params.length
  .have a1:=XH eM g.params k C
   have wi:=zWk k;simp[go_sem,e6,e7,C];refine aC k (fun j st2=>st2.tm 2 = .ip (cTS ts)/\st2.tm 1=aI i/\st2.tm 6=lPm g.params/\st2.tm 7=aI k/\st2.tm 5=P/\st2.tm 9=aI j/\st2.tm 8=aB ((g.params.take j).any fun y=>eM g.params[k] y)/\st2.mu=st.mu) ?_ ?_
   .simp [go_sem, *]
   rintro j st2 hj ⟨f2,f1,f6,f7,f5,f9,f8,fm⟩;generalize hT:(g.params.take j).any (fun y=>eM g.params[k] y)=T at *
   by_cases a2:j<k
   .have a3:j<g.params.length:=by omega
    have wj:=zWk j;have o:=VQ (fun y=>eM g.params[k] y) g.params j a3;rw[hT]at o;simp[go_sem,f7,f9,a2];refine cN zKr ?_;cases T with
    |true =>
     simp_all[go_sem,Bool.true_or,aP]
    |false =>
     rw[Bool.false_or]at o;by_cases hq:g.params[j].1=g.params[k].1
     .have l:(g.params.take (j+1)).any (fun y=>eM g.params[k] y)=true:=by rw[o];exact decide_eq_true hq.symm
      simp[go_sem,f6,f7,f9,f8,a2,a3,C,wj,hq];exact aP ⟨zS1 f2,zS1 f1,zS1 f6,zS1 f7,zS1 f5,zSi,by rw[l];simp[go_sem],zS1 fm⟩
     .have l:(g.params.take (j+1)).any (fun y=>eM g.params[k] y)=false:=by rw[o];exact decide_eq_false fun e=>hq e.symm
      simp[go_sem,f6,f7,f9,f8,a2,a3,C,wj,jN hq];exact aP ⟨zS1 f2,zS1 f1,zS1 f6,zS1 f7,zS1 f5,zSi,by rw[l];simp[go_sem],zS1 fm⟩
   .have aa:j=k:=by omega
    subst aa;rw[hT]at a1;cases T with
    |true =>
     simp[go_sem,f7,f5,f9,f8,fm];refine uT (ys:=[(41,0)]) ho (by simp[qF]) zSo fun ab m' I ad=>?_
     simp[go_sem,f7,wi];exact⟨C,aP ⟨zS1 f2,zS1 f1,zS1 f6,zSi,by rw[a1,ZA,<-zm];simpa[go_sem,ug] using I⟩⟩
    |false =>
     simp[go_sem,f7,f9,f8,fm,wi];exact⟨C,aP ⟨zS1 f2,zS1 f1,zS1 f6,zSi,by rw[a1,ZA];simpa[go_sem,ug,f5,fm] using ho⟩⟩
  .have ae:k=g.params.length:=by omega
   subst ae;rw[zn (by rw[uM];exact qs _)]at ho a5;simp[go_sem,e6,e7];refine cN zKr ?_;simp[go_sem,e2,e1,e6,U,a9];refine cY c1 wk ?_;by_cases R:D.1=0
   .have a4:rp D=[]:=if_pos R
    rw[a4];simp[go_sem,h5,R];exact rdDg (ZB ho _)
   .have a4:rp D=[D]:=if_neg R
    rw[a4];simp[go_sem,h5,R];refine uT (ys:=[D]) (ZB ho _) (by simp[qF]) (by simp only[qW,List.length_singleton];omega) fun ab m' I ad=>?_
    simp[go_sem];rw[zm]at I;exact rdDg I
theorem Yf(f:Nat->List Dg)(n):(qq (n+1)).flatMap f=(qq n).flatMap f++f n:=by
 rw[List.range_succ,List.flatMap_append];simp only[uW,List.flatMap_nil,yj]
theorem qlN(ts)(h:okTS ts)(wp:∀ p,p∈ts.sT->WfN p.body)(wf:∀ f,f∈ts.sP->WfN f.2)(dp:∀ p,p∈ts.sT->depN p.body<=24)(df:∀ f,f∈ts.sP->depN f.2<=24):qh qc 37 [eTS ts] (lDg (y5 ts)):=by
 have aj:=h.np;have ak:=h.nfa;have hD:(dups (repL eS ts.sS)++dups (repL eF ts.sA)).length<=10:=by
  have a1:=Y16.uO (repL eS ts.sS);have a2:=Y16.uO (repL eF ts.sA);rw[uM]at a1 a2;have:=h.ns;have:=h.nf;rw[qW];omega
 have hC:y5 ts=(dups (repL eS ts.sS)++dups (repL eF ts.sA))++((qq ts.sT.length).flatMap (jR ts)++(qq ts.sP.length).flatMap (uN ts ts.sP)):=by
  unfold y5;rw[zm]
 rw[hC];have a8:=qlK ts h [];generalize dups (repL eS ts.sS)++dups (repL eF ts.sA)=D0 at *
 refine qSU call37 func37 rfl ?_;refine aA a8 (fun r m hr=>?_) (fun r m hr=>?_)
 case refine_2 =>
  grind
 obtain⟨al,e,an,_⟩:=hr;cases e;simp[go_sem];refine aC ts.sT.length (fun i st=>st.tm 1 = .ip (cTS ts)/\st.tm 4=aI i/\OwnF 0 st.mu 2 (st.tm 3) ((D0++(qq i).flatMap (jR ts)).map cDg)) ?_ ?_
 .simp_all [go_sem]
 rintro i st hi ⟨U,e4,J⟩;have ai:=Y16.Wv (jR ts) (Y16.pD h) i;generalize h3:st.tm 3=P at *
 by_cases g:i<ts.sT.length
 .have j:=Yf (jR ts) i
  have ao:=Y16.pD h i;have a9:=qlM ts h wp i g (dp _ (qv g));have wi:=zWk i;generalize jR ts i=PD at *
  simp[go_sem,U,e4,h3,g];refine fY a9 (.zk (zt ts) (.zs .nil)) ?_;refine uT (ys:=PD) J (by simp[qF]) (by simp only[qW];omega) fun aa m' a0 ab=>?_
  simp_all[go_sem,aP,zm]
 .have a3:i=ts.sT.length:=by omega
  subst a3;simp[go_sem,U,e4];generalize (qq ts.sT.length).flatMap (jR ts)=P0 at *
  refine aC ts.sP.length (fun i st=>st.tm 1 = .ip (cTS ts)/\st.tm 5=aI i/\OwnF 0 st.mu 2 (st.tm 3) (((D0++P0)++(qq i).flatMap (uN ts ts.sP)).map cDg)) ?_ ?_
  .exact ⟨zS1 U,zSi,by simpa[go_sem,h3] using J⟩
  clear J U e4 h3 g hi st;rintro i st hi ⟨U,e4,J⟩;have ad:=Y16.Wv (uN ts ts.sP) (Y16.qgO ts ts.sP) i;generalize h3:st.tm 3=ae at *
  by_cases g:i<ts.sP.length
  .have j:=Yf (uN ts ts.sP) i
   have af:uN ts ts.sP i=dups [(ts.sP.take i).any (fun y=>eA ts.sP[i] y)]++rp (ye ts [] ts.sP[i].2):=by
    unfold uN;rw[qx g];simp only;rw[nB,qx g]
   rw[af]at j;have cf:=XG ts h wp [] ⟨zSp,zSp⟩ zSp ts.sP[i].2 (wf _ (qv g)) (df _ (qv g));have wi:=zWk i;generalize ye ts [] ts.sP[i].2=D at *
   simp[go_sem,U,e4,g];refine aC i (fun k st2=>st2.tm 1 = .ip (cTS ts)/\st2.tm 5=aI i/\st2.tm 3=ae/\st2.tm 7=aI k/\st2.tm 6=aB ((ts.sP.take k).any fun y=>eA ts.sP[i] y)/\st2.mu=st.mu) ?_ ?_
   .exact ⟨zS1 U,zS1 e4,zS1 h3,zSi,zSi,zSi⟩
   rintro k st2 hk ⟨f1,f4,f3,f6,f5,fm⟩;generalize hT:(ts.sP.take k).any (fun y=>eA ts.sP[i] y)=T at *
   by_cases R:k<i
   .have a4:k<ts.sP.length:=by omega
    have wk:=zWk k;have l:=VQ (fun y=>eA ts.sP[i] y) ts.sP k a4;rw[hT]at l;simp[go_sem,f4,f6,R];refine cN zKr ?_;cases T with
    |true =>
     rw[Bool.true_or]at l;simp[go_sem,f6,f5,R,wk];exact aP ⟨zS1 f1,zS1 f4,zS1 f3,zSi,by rw[l];simp[go_sem],zS1 fm⟩
    |false =>
     rw[Bool.false_or]at l;by_cases hq:ts.sP[k].1=ts.sP[i].1
     .have t:(ts.sP.take (k+1)).any (fun y=>eA ts.sP[i] y)=true:=by rw[l];exact decide_eq_true hq.symm
      simp[go_sem,f1,f4,f6,f5,R,a4,g,wk,hq];exact aP ⟨zS1 f1,zS1 f4,zS1 f3,zSi,by rw[t];simp[go_sem],zS1 fm⟩
     .have t:(ts.sP.take (k+1)).any (fun y=>eA ts.sP[i] y)=false:=by rw[l];exact decide_eq_false fun e=>hq e.symm
      simp[go_sem,f1,f4,f6,f5,R,a4,g,wk,jN hq];exact aP ⟨zS1 f1,zS1 f4,zS1 f3,zSi,by rw[t];simp[go_sem],zS1 fm⟩
   .have ag:k=i:=by omega
    subst ag;rw[hT]at j;have a5:WKs [eTS ts,.lst true [],eNd ts.sP[k].2] [eTS ts,lPm [],eNd ts.sP[k].2] := .zk (zt ts) (.cons (WK.lst fun r hr=>absurd hr qG) (.zk (zd _) .nil));have aq:=kO;cases T with
    |true =>
     simp[go_sem,f4,f3,f6,f5,fm];refine uT (ys:=[(41,0)]) J (by simp[qF]) (by simp only[qW,List.length_singleton];omega) fun aa m' a0 ab=>?_
     simp[go_sem];refine cN zKr ?_;simp[go_sem,f1,f4,g];refine cY cf a5 ?_;by_cases o:D.1=0
     .have C:rp D=[]:=if_pos o
      rw[C,yj]at j;simp[go_sem,f4,wi,o];exact⟨g,aP ⟨zS1 f1,zSi,by rw[j,<-zm];simpa[go_sem,ug] using ZB a0 (.arr [aI 0,aI D.2])⟩⟩
     .have C:rp D=[D]:=if_neg o
      rw[C]at j;simp[go_sem,o];refine uT (ys:=[D]) (ZB a0 _) (by simp[qF]) (by simp only[qW,List.length_singleton];omega) fun a6 ah I a7=>?_
      simp[go_sem,f4,wi];exact⟨g,aP ⟨zS1 f1,zSi,by rw[j,<-zm];simpa[go_sem,ug,zm] using I⟩⟩
    |false =>
     simp[go_sem,f4,f6,f5,fm];refine cN zKr ?_;simp[go_sem,f1,f4,g];refine cY cf a5 ?_;by_cases o:D.1=0
     .have C:rp D=[]:=if_pos o
      rw[C,yj]at j;simp[go_sem,f4,wi,o];exact⟨g,aP ⟨zS1 f1,zSi,by rw[j,<-zm];simpa[go_sem,ug,f3] using ZB J (.arr [aI 0,aI D.2])⟩⟩
     .have C:rp D=[D]:=if_neg o
      rw[C]at j;simp[go_sem,f3,o];refine uT (ys:=[D]) (ZB J _) (by simp[qF]) (by simp only[qW,List.length_singleton];omega) fun a6 ah I a7=>?_
      simp[go_sem,f4,wi];exact⟨g,aP ⟨zS1 f1,zSi,by rw[j,<-zm];simpa[go_sem,ug,zm] using I⟩⟩
  .have a3:i=ts.sP.length:=by omega
   subst a3;simp[go_sem,U,e4,h3];rw[zm]at J;exact rdDg J
end QU
namespace PD
open P1 P2 Y1 Y2 Y9 YX YZ YA YB PA YC YG Q3 Q4 PB PC
section
variable {body:Bool}{nm:cL}{c0:Ck}{env:IEnv}{L:Int}{es:List (cL×Bool)}{l l':List (Option Kd)}{s s':Scp}
structure ArgR (c0:Ck) (es:List (cL×Bool)) (L:Int) (s':Scp) (k:Kd) (a:Nd):Prop where
 ex:∃ k',exam c0 s' true a = .ok (some k')/\Sub k' k
 good:jF es L a
 kd:kd a.op=101
def RlV(c0:Ck)(es:List (cL×Bool))(L:Int)(s':Scp)(v:cL):Option Kd->Option IV->Prop
 |none,none=>True
 |none,some _=>False
 |some k,none=>∃ g,zi v s'=some g/\Sub g k
 |some k,some ⟨some a,_,_⟩=>ArgR c0 es L s' k a
 |some k,some ⟨none,_,i⟩=>(∃ g,zi i s'=some g/\Sub g k)/\vLe es L i
structure Rl (c0:Ck) (es:List (cL×Bool)) (L:Int) (body:Bool) (s s':Scp) (env:IEnv):Prop where
 mean:∀ v,v∈s'->means c0.ts v.1=[]
 rel:∀ v,tkn es v->RlV c0 es L s' v (zi v s) (getK v env)
 arg:body=false->∀ v iv,getK v env=some iv->iv.arg=none
theorem RlV.mono{L' v g i}(h:RlV c0 es L s' v g i)(j:L<=L'):RlV c0 es L' s' v g i:=by
 match g,i with
 |none,none=>exact h
 |none,some _=>exact h
 |some k,none=>exact h
 |some k,some ⟨some a,_,_⟩ =>
  have h:ArgR c0 es L s' k a:=h;exact(⟨h.ex,h.good.mono j,h.kd⟩:ArgR c0 es L' s' k a)
 |some k,some ⟨none,_,l⟩=>exact⟨h.1,h.2.mono j⟩
theorem Rl.mono{L'}(h:Rl c0 es L body s s' env)(g:L<=L'):Rl c0 es L' body s s' env:=
 ⟨h.mean,fun v i=>(h.rel v i).mono g,h.arg⟩
theorem VR:∀{s k},zi nm s=some k->(nm,k)∈s
 | [],k,h=>by simp[qiS]at h
 |v :: s,k,h=>by
  rw[wv]at h;split at h
  .rename_i e
   cases h;rw[<-e];exact qN ..
  .exact qB _ (VR h)
theorem Rl.bind{st:ISt}{k k'}(a4:Free c0.ts es)(a0:(env.map Prod.fst).Nodup)(h:Rl c0 es st.last body s s' env)(h0:0<=st.last)(hb:st.last+(qt c0.ts es:Nat)<1000000000000)(ht:tkn es nm)(hs:Sub k' k) :
  Rl c0 es (renI c0.ts es env nm body st).2.last body ((nm,k) :: s) (((renI c0.ts es env nm body st).1.2,k') :: s') (renI c0.ts es env nm body st).1.1/\st.last<=(renI c0.ts es env nm body st).2.last/\(tkn es (renI c0.ts es env nm body st).1.2\/vLe es (renI c0.ts es env nm body st).2.last (renI c0.ts es env nm body st).1.2):=by
 have a1:∀ v,zi v ((nm,k) :: s)=if nm=v then some k else zi v s:=fun v=>wv v _ _
 unfold renI;by_cases hc:body=true\/means c0.ts nm≠[]
 .rw [if_pos hc]
  have a2:=a4 st.last h0;have o:=XB a2;have a9:=W7 c0.ts es (qt c0.ts es) st.last;have a7:=W8 a2;generalize zz c0.ts es (qt c0.ts es) st.last=J at *
  obtain⟨j,rfl⟩:∃ j:Nat,J=j:=⟨J.toNat,zOm⟩;simp only[y6,qu,decide_eq_true_eq]at o;obtain⟨f1,f2⟩:=o;have hv:vLe es (j:Int) (vN j):=⟨j,jy _,rfl,f1,qkX zOm⟩;have T:∀ v,v≠vN (j:Int)->zi v ((vN (j:Int),k') :: s')=zi v s':=fun v hv=>by
   rw[wv,if_neg (fun e=>hv e.symm)]
  have a5:∀{v:cL},vLe es st.last v->v≠vN (j:Int):=fun⟨i,hi,e,_⟩ r=>by
   grind [nQ]
  have a3:∀ v,getK v (setK nm ⟨none,0,vN (j:Int)⟩ (delK nm env))=if v=nm then some ⟨none,0,vN (j:Int)⟩ else getK v env:=fun v=>by
   grind [uI,we]
  refine⟨⟨fun v U=>?_,fun v C=>?_,fun p v I g=>?_⟩,by grind,.inr hv⟩
  .rcases ql.1 U with rfl|U
   .exact f2
   .exact h.mean v U
  .show RlV c0 es (j:Int) ((vN (j:Int),k') :: s') v (zi v ((nm,k) :: s)) (getK v (setK nm ⟨none,0,vN (j:Int)⟩ (delK nm env)))
   rw[a1,a3];by_cases t:nm=v
   .rw [if_pos t,if_pos t.symm]
    exact⟨⟨k',by rw[wv,if_pos rfl],hs⟩,hv⟩
   .rw [if_neg t,if_neg (fun e=>t e.symm)]
    have l:=(h.rel v C).mono (L':=(j:Int)) zOm;have P:=h.rel v C;generalize zi v s=lk at *
    generalize getK v env=I at *
    match lk,I with
    |none,none=>trivial
    |none,some _=>exact l
    |some q,none =>
     obtain⟨R,e1,r⟩:=l;exact⟨R,by grind,r⟩
    |some q,some ⟨some a,_,_⟩ =>
     have l:ArgR c0 es (j:Int) s' q a:=l;have P:ArgR c0 es st.last s' q a:=P;refine(⟨?_,l.good,l.kd⟩:ArgR c0 es (j:Int) ((vN (j:Int),k') :: s') q a);obtain⟨R,e1,r⟩:=l.ex;refine⟨R,?_,r⟩;rw[<-e1];refine nA (ue.refl c0) (szN a) a _ _ true (qs _) fun x hx=>?_
     obtain⟨y,hy,rfl⟩:=qkT hx;rcases (P.good.all y hy).nm with h1|h1
     .grind
     grind
    |some q,some ⟨none,_,to⟩ =>
     obtain⟨⟨R,e1,r⟩,e3⟩:=l;exact⟨⟨R,by rw[T to (a5 P.2)];exact e1,r⟩,e3⟩
  .have g:getK v (setK nm ⟨none,0,vN (j:Int)⟩ (delK nm env))=some I:=g
   rw[a3]at g;split at g
   .cases g;rfl
   .exact h.arg p v I g
 .rw [if_neg hc]
  have p:body=false:=by
   grind
  have a6:means c0.ts nm=[]:=by
   grind
  have T:∀ v,v≠nm->zi v ((nm,k') :: s')=zi v s':=fun v hv=>by
   rw[wv,if_neg (fun e=>hv e.symm)]
  refine⟨⟨fun v U=>?_,fun v C=>?_,fun p v I g=>?_⟩,jy _,.inl ht⟩
  .rcases ql.1 U with rfl|U
   .exact a6
   .exact h.mean v U
  .show RlV c0 es st.last ((nm,k') :: s') v (zi v ((nm,k) :: s)) (getK v (delK nm env))
   rw[a1,we a0];by_cases t:nm=v
   .rw [if_pos t,if_pos t.symm]
    exact⟨k',by rw[wv,if_pos t],hs⟩
   .rw [if_neg t,if_neg (fun e=>t e.symm)]
    have l:=h.rel v C;have a8:=h.arg p v;generalize zi v s=lk at *
    generalize getK v env=I at *
    match lk,I with
    |none,none=>trivial
    |none,some _=>exact l
    |some q,none =>
     obtain⟨R,e1,r⟩:=l;exact⟨R,by grind,r⟩
    |some q,some ⟨some a,_,_⟩=>grind
    |some q,some ⟨none,_,to⟩ =>
     obtain⟨⟨R,e1,r⟩,e3⟩:=l;refine⟨⟨R,?_,r⟩,e3⟩;rw[T to fun e=>?_]
     .exact e1
     .obtain ⟨_,_,_,hn,_⟩:=e3
      grind
  .have g:getK v (delK nm env)=some I:=g
   rw[we a0]at g;split at g
   .cases g
   .exact h.arg p v I g
structure Out (c0:Ck) (es:List (cL×Bool)) (s':Scp) (inn:Bool) (n n':Nd) (ko:Option Kd) (L L':Int):Prop where
 ex:∃ ko',exam c0 s' inn n' = .ok ko'/\(kd n.op=101->∃ k k',ko=some k/\ko'=some k'/\Sub k' k)
 good:jF es L' n'
 kd:kd n'.op=kd n.op
 le:L<=L'
def Pt(es:List (cL×Bool))(L:Int):List Nd->List Nd->List (Option Kd)->List (Option Kd)->Prop
 | [],[],[],[]=>True
 |k :: ks,i :: g,a :: l,o :: p=>((kd k.op=101->∃ q j,a=some q/\o=some j/\Sub j q)/\kd i.op=kd k.op/\jF es L i)/\Pt es L ks g l p
 |_,_,_,_=>False
theorem Pt.spec:∀{ks g l l'},Pt es L ks g l l'->(g.map fun k=>kd k.op)=(ks.map fun k=>kd k.op)/\∀ k,k∈g->jF es L k
 | [],[],[],[],_=>⟨rfl,fun k j=>absurd j qG⟩
 |k :: ks,k' :: g,a :: l,r :: l',h=>by
  obtain⟨⟨t,C,o⟩,p⟩:=h;obtain⟨I,J⟩:=Pt.spec p;refine⟨by grind,fun x i=>?_⟩;rcases ql.1 i with rfl|i
  .exact o
  grind
theorem Pt.cons{k ks j}(h:Pt es L (k :: ks) j l l'):∃ k' g a l2 o i,j=k' :: g/\l=a :: l2/\l'=o :: i/\(kd k.op=101->∃ q p,a=some q/\o=some p/\Sub p q)/\Pt es L ks g l2 i:=by
 cases j with
 |nil=>cases l<;>cases l'<;>exact h.elim
 |cons k' g =>
  cases l with
  |nil=>cases l'<;>exact h.elim
  |cons a l2 =>
   cases l' with
   |nil=>exact h.elim
   |cons o i=>exact⟨k',g,a,l2,o,i,rfl,rfl,rfl,h.1.1,h.2⟩
theorem Pt.nil{g}(h:Pt es L [] g l l'):l=[]/\l'=[]:=by
 cases g with
 |nil =>
  cases l with
  |nil=>cases l' with
   |nil=>exact⟨rfl,rfl⟩
   |cons a l=>exact h.elim
  |cons a l=>cases l'<;>exact h.elim
 |cons k ks=>cases l<;>cases l'<;>exact h.elim
theorem Pt.one{ks i}(h:Pt es L ks i l l')(g:(ks.map fun k=>kd k.op)=[101]):∃ a j,l=[some a]/\l'=[some j]/\Sub j a:=by
 match ks,g with
 | [k],g =>
  obtain⟨t,o,a,C,j,p,rfl,rfl,rfl,I,r⟩:=h.cons;obtain⟨rfl,rfl⟩:=r.nil
  grind
 | [],g=>simp at g
 |_ :: _ :: _,g=>simp at g
theorem Pt.two{ks i}(h:Pt es L ks i l l')(g:(ks.map fun k=>kd k.op)=[101,101]):∃ a b o b',l=[some a,some b]/\l'=[some o,some b']/\Sub o a/\Sub b' b:=by
 match ks,g with
 | [k,j],g =>
  have g:kd k.op=101/\kd j.op=101:=zUs g;obtain⟨k',r,a,l2,o,t,rfl,rfl,rfl,C,I⟩:=h.cons;obtain⟨_,_,b,l3,b',J,rfl,rfl,rfl,P,R⟩:=I.cons;obtain⟨rfl,rfl⟩:=R.nil;obtain⟨q,T,rfl,rfl,e⟩:=C g.1;obtain⟨p,U,rfl,rfl,e2⟩:=P g.2;exact⟨q,p,T,U,rfl,rfl,e,e2⟩
 | [],g=>simp at g
 | [_],g=>simp at g
 |_ :: _ :: _ :: _,g=>simp at g
theorem mW{c F inn E R} :
  ∀{ks i nm o st g j J l},
  (∀ k,k∈ks->∀ st n' z g I,StOk F st->Rl c0 es st.last body s s' env->E env k st = .ok ((n',z),g)->exam c s inn k = .ok I->Out c0 es s' inn k n' I st.last g.last/\StOk F g) ->
  StOk F st->Rl c0 es st.last body s s' env->yR E R false i env nm ks st = .ok ((o,j,J),g)->qS c s inn ks = .ok l ->
  o=nm/\st.last<=g.last/\∃ l',qS c0 s' inn j = .ok l'/\Pt es g.last ks j l l'
 | [],i,nm,o,st,g,j,J,l,_,p,P,e,el=>by
  cases e;simp only[qS,Except.ok.injEq]at el;subst el;exact⟨rfl,jy _,[],by simp only[qS],trivial⟩
 |k :: ks,i,nm,o,st,g,j,J,l,U,p,P,e,el=>by
  simp only[yR,Bool.false_eq_true,false_and,if_false]at e;simp only[qS]at el;split at e
  .cases e
  .rename_i k' m1 s1 h1
   cases hx:exam c s inn k with
   |error er=>grind
   |ok I =>
    rw[hx]at el;simp only at el;obtain⟨r,t⟩:=U k (qN ..) st k' m1 s1 I p P h1 hx;cases C:qS c s inn ks with
    |error er=>grind
    |ok l1 =>
     rw[C]at el;cases el;split at e
     .cases e
     .rename_i a0 a1 m2 s2 h2
      obtain⟨e1,e2,l',e3,e4⟩:=mW (fun k hk=>U k (qB _ hk)) t (P.mono r.le) h2 C;cases e;obtain⟨T,x1,x2⟩:=r.ex;refine⟨e1,zW1 r.le,T :: l',?_,⟨⟨x2,r.kd,r.good.mono e2⟩,e4⟩⟩;simp only[qS];rw[x1,e3]
theorem ZC{c op}(h:op≠47):zN c op nm=zW op:=by
 simp[zN,h]
theorem cT{n ks}(C:WfN n)(g:(ks.map fun k=>kd k.op)=(n.sD.map fun k=>kd k.op))(I:∀ k,k∈ks->jF es L k)(h47:n.op≠47)(o:ownB n=true)
  (J:nm=n.name/\tkn es nm\/vLe es L nm/\yn n.name=true):jF es L (.mk n.op nm n.n ks n.pos):=by
 have l:ks.length=n.sD.length:=by have:=congrArg List.length g;grind
 have p:yn nm=yn n.name/\(nm=⟨#[]⟩↔n.name=⟨#[]⟩):=by
  rcases J with ⟨rfl,_⟩|⟨P,r⟩
  .exact ⟨rfl,Iff.rfl⟩
  .obtain ⟨j,_,_,_,t⟩:=P
   refine⟨t.trans r.symm,fun e=>?_,fun e=>?_⟩
   .rw [e]at t;exact absurd t zDe
   .rw [e]at r;exact absurd r zDe
 refine⟨.mk _ ?_ (fun h=>?_) fun k g=>(I k g).wf,fun x i=>?_⟩
 .show shp n.op ks.length=some (ks.map fun k=>kd k.op)
  rw[l,g];exact C.shape
 .exact C.num h
 .rw [uQ]at i
  rcases ql.1 i with rfl|i
  .refine ⟨h47,?_,?_⟩
   .unfold ownB at o⊢
    show (if v8 n.op=yn nm/\(v8 n.op=true\/nm=⟨#[]⟩) then numB n.op n.n else false)=true;split at o
    .rename_i R
     rw[if_pos ⟨by grind,R.2.imp id p.2.2⟩];exact o
    .cases o
   .rcases J with ⟨_,h⟩|⟨h,_⟩
    .exact .inl h
    .exact .inr h
  .obtain ⟨k,g,i⟩:=VM i
   exact(I k g).all x i
end
end PD
namespace PE
open P1 P2 Y1 Y2 Y3 Y9 Y10 Y14 YX YZ YA YB PA YC Q3 Q4 PB PC PD
section
variable {inn:Bool}{c c0:Ck}{es:List (cL×Bool)}{s s':Scp}
theorem VS{n}(h:n.op=1):exam c s inn n=y0 c s n.name n.pos:=by
 rw[yx,ZC zOm,h,show zW 1=false from rfl,Bool.and_false,if_neg zSp,if_pos rfl]
theorem qlO{n k}(h:exam c s true n = .ok k):exam c s inn n = .ok k:=by
 cases inn with
 |true=>exact h
 |false=>exact mn c (szN n) n s k (qs _) h
theorem XI{n}(g:WfN n)(h:n.op=1):n.sD=[]:=by
 have i:=g.shape;simp_all[shp,if_pos,qo,List.map_eq_nil_iff]
theorem mX{L n}(i:WfN n)(h:n.op=1)(j:tkn es n.name)(l:ownB n=true):jF es L n:=
 ⟨i,fun x g=>by
  rw[uQ,XI i h]at g;simp[zl]at g;subst g;exact⟨zOm,l,.inl j⟩⟩
theorem mY{n}(g:ownB n=true)(h:v8 n.op=true):yn n.name=true:=by
 grind [ownB]
theorem qlP{body env n n' z st j J}(P:c.ts=c0.ts)(i:n.op=1)(C:WfN n)(R:tkn es n.name)(I:ownB n=true)(T:Rl c0 es st.last body s s' env)
  (e:wo env n st = .ok ((n',z),j)) (x:exam c s inn n = .ok J):Out c0 es s' inn n n' J st.last j.last:=by
 rw[VS i,Qc]at x;have g:=T.rel n.name R;unfold wo at e;cases U:getK n.name env with
 |none =>
  rw[U]at e g;cases e;cases l:zi n.name s with
  |some k =>
   rw[l]at g x;obtain⟨o,r,t⟩:=g;cases x;exact⟨⟨some o,by rw[VS i,Qc,r],fun _=>⟨_,_,rfl,rfl,t⟩⟩,mX C i R I,rfl,jy _⟩
  |none =>
   rw[l]at x;simp only at x;have hq:zi n.name s'=none:=by
    cases hq:zi n.name s' with
    |none=>rfl
    |some q =>
     have:=T.mean _ (VR hq);rw[P,this]at x;cases x
   refine⟨⟨J,by grind [VS,Qc],fun _=>?_⟩,mX C i R I,rfl,jy _⟩;split at x
   .cases x
   .cases x;exact⟨_,_,rfl,rfl,Sub.refl _⟩
   .cases x
 |some iv =>
  obtain⟨a,p,to⟩:=iv;rw[U]at e g;simp only at e;cases l:zi n.name s with
  |none=>rw[l]at g;exact g.elim
  |some k =>
   rw[l]at g x;cases x;cases a with
   |none =>
    cases e;obtain⟨⟨o,r,t⟩,e3⟩:=g;refine⟨⟨some o,by rw[VS (n := .mk n.op to n.n n.sD n.pos) i,Qc];show (match zi to s' with|some k=>_|none=>_)=_;rw[r],fun _=>⟨_,_,rfl,rfl,t⟩⟩,?_,rfl,jy _⟩;refine cT C rfl (fun k hk=>?_) zOm I (.inr ⟨e3,mY I (by rw[i];rfl)⟩);rw[XI C i]at hk;exact absurd hk qG
   |some a =>
    simp only at e;have g:ArgR c0 es st.last s' k a:=g;obtain⟨o,r,t⟩:=g.ex;split at e
    .cases e
     exact⟨⟨some o,qlO r,fun _=>⟨_,_,rfl,rfl,t⟩⟩,g.good,by rw[g.kd,i];rfl,jy _⟩
    .cases e
def OwnV(c0:Ck)(es:List (cL×Bool))(L:Int)(s':Scp):Option Kd->Option IV->Prop
 |none,none=>True
 |some k,some ⟨some a,_,_⟩=>ArgR c0 es L s' k a
 |_,_=>False
theorem OwnV.mono{L L' g i}(h:OwnV c0 es L s' g i)(j:L<=L'):OwnV c0 es L' s' g i:=by
 match g,i with
 |none,none=>exact h
 |none,some _=>exact h.elim
 |some k,none=>exact h.elim
 |some k,some ⟨some a,_,_⟩ =>
  have h:ArgR c0 es L s' k a:=h;exact(⟨h.ex,h.good.mono j,h.kd⟩:ArgR c0 es L' s' k a)
 |some k,some ⟨none,_,l⟩=>exact h.elim
theorem qlQ{ns i a}(h:okKd ns a)(g:a.ar=1)(p:wZ i a=true):Sub a (kOf [i]):=⟨by rw[g];rfl,fun t j=>by
 obtain⟨l,rfl,o,_⟩:=h.ts t j;rw[g]at o
 match l,o with
 | [y],_ =>
  have:=q8.1 p _ j;simp[pad]at this;subst this;exact qL.2 rfl⟩
theorem mZ{ns F body env pos E P} :
  ∀{ks ps}{own i:IEnv}{sc st g},
  (∀ k,k∈ks->∀ st n' z g P,StOk F st->Rl c0 es st.last body s s' env->E k st = .ok ((n',z),g)->exam c s true k = .ok P->Out c0 es s' true k n' P st.last g.last/\StOk F g) ->
  (∀ k,k∈ks->kd k.op=101)->(∀ k,k∈ks->∀ a,exam c s true k = .ok (some a)->okKd ns a)->StOk F st->Rl c0 es st.last body s s' env ->
  (∀ v,OwnV c0 es st.last s' (zi v sc) (getK v own))->ps.length=ks.length->z6 c s pos ps ks = .ok P->jh E ps ks own st = .ok (i,g) ->
  st.last<=g.last/\∀ v,OwnV c0 es g.last s' (zi v (ps.foldl (fun s p=>(p.1,kOf [p.2]) :: s) sc)) (getK v i)
 | [],[],own,i,sc,st,g,_,_,_,_,_,U,_,_,e=>by
  cases e;exact⟨jy _,U⟩
 |k :: ks,p :: ps,own,i,sc,st,g,hE,R,j,a0,hr,U,l,x,e=>by
  simp only[z6]at x;simp only[jh]at e;cases hx:exam c s true k with
  |error er=>grind
  |ok ka =>
   cases ka with
   |none=>grind
   |some a =>
    rw[hx]at x;simp only at x;by_cases o:a.ar=1
    .rw [if_pos o]at x
     by_cases r:wZ p.2 a=true
     .rw [if_pos r]at x
      split at e
      .cases e
      .rename_i k' m s1 h1
       obtain⟨out,t⟩:=hE k (qN ..) st k' m s1 _ a0 hr h1 hx;obtain⟨a1,x1,x2⟩:=out.ex;have C:=R k (qN ..);obtain⟨q,q',y1,y2,y3⟩:=x2 C;cases y1;subst y2;have hs:=y3.trans (qlQ (j k (qN ..) a hx) o r);have I:ArgR c0 es s1.last s' (kOf [p.2]) k':=⟨⟨q',x1,hs⟩,out.good,by rw[out.kd];exact C⟩;have J:∀ v,OwnV c0 es s1.last s' (zi v ((p.1,kOf [p.2]) :: sc)) (getK v (setK p.1 ⟨some k',m,⟨#[]⟩⟩ own)):=fun v=>by
        rw[wv,uI];by_cases T:p.1=v
        .rw [if_pos T,if_pos T.symm]
         exact I
        .rw [if_neg T,if_neg (fun e=>T e.symm)]
         exact(U v).mono out.le
       obtain⟨r1,r2⟩:=mZ (sc:=(p.1,kOf [p.2]) :: sc) (fun k R=>hE k (qB _ R)) (fun k h=>R k (qB _ h)) (fun k h=>j k (qB _ h)) t (hr.mono out.le) J (zUs l) x e;exact⟨zW1 out.le,r2⟩
     grind
    grind
 | [],_ :: _,_,_,_,_,_,_,_,_,_,_,_,l,_,_=>by simp at l
 |_ :: _,[],_,_,_,_,_,_,_,_,_,_,_,l,_,_=>by simp at l
def XJ(ts:TS)(es:List (cL×Bool)):Prop:=∀(i:Nat)(j:i<ts.sT.length),(∃ g,exam (mkCk ts i) (yP ts.sT[i].params) false ts.sT[i].body = .ok g)/\30<=ts.sT[i].body.op/\WfN ts.sT[i].body/\Tk es ts.sT[i].body/\OwnT ts.sT[i].body
abbrev ckF(ts:TS):Ck:=mkCk ts ts.sT.length
def IHx(ts:TS)(es:List (cL×Bool))(f:Nat):Prop:=∀(env:IEnv)(n:Nd)(g:Bool)(st:ISt)(l:Nd)(z:Int)(i:ISt)(s o:Scp)(j:Bool)(m:Nat)(p:Option Kd),
 m<=ts.sT.length->WfN n->Tk es n->OwnT n->ScOk ts.sS.length s->StOk (qt ts es) st->qV env->Rl (ckF ts) es st.last g s o env ->
 expI ts es f env n g st = .ok ((l,z),i)->exam (mkCk ts m) s j n = .ok p->Out (ckF ts) es o j n l p st.last i.last
theorem m5{n}(i:WfN n)(h:30<=n.op):kd n.op=102:=by
 have g:=i.shape;have:n.op<=51:=by
  by_cases j:n.op<=51
  .exact j
  .exfalso
   unfold shp at g;rw[zIn,zIn,zIn,zIn,zIn,zIn,zIn,zIn]at g;cases g
 unfold kd;omega
theorem XD{n}(i:WfN n)(h:n.op=47):∀ k,k∈n.sD->kd k.op=101:=by
 have g:=i.shape;have e:shp n.op n.sD.length=some (zo (min n.sD.length 401) 101):=by
  unfold shp;rw[zIn,zIn,zIn,zIn,zIn,zIn,zIn,if_pos h]
 rw[e]at g;simp only[qo]at g;intro k j;have:kd k.op∈n.sD.map fun k=>kd k.op:=qp.2 ⟨k,j,rfl⟩
 grind
theorem qlR(ts)(h:okTS ts)(es)(hP:XJ ts es)(a3:Free ts es)(f)(ih:IHx ts es f)(env n body st n' z g s s' inn m ko)
  (hm:m<=ts.sT.length) (hw:WfN n) (ht:Tk es n) (ho:OwnT n) (hs:ScOk ts.sS.length s) (r:StOk (qt ts es) st) (R:qV env) (hr:Rl (ckF ts) es st.last body s s' env) (h47:n.op=47)
  (e:((match ts.sT.find? fun p=>decide (p.name=n.name) with
    |none=>Except.error (2,0)
    |some p=>Qd (jh (fun k s=>expI ts es f env k body s) p.params n.sD [] st) fun own s'=>expI ts es f own p.body true s'):XR (Nd×Int)) = .ok ((n',z),g))
  (x:exam (mkCk ts m) s inn n = .ok ko):Out (ckF ts) es s' inn n n' ko st.last g.last:=by
 have hc:okCk (mkCk ts m):=uK h hm;rw[yx,if_neg (show ¬n.op=1 by omega),if_pos h47]at x;split at x
 .cases x
 rename_i I;split at x
 .cases l:q9 (mkCk ts m) n.name with
  |none=>grind
  |some i =>
   obtain⟨T,t⟩:=Ze hc l;have T:i<m:=T;have t:i<ts.sT.length:=t;rw[l]at x;simp only at x;have x:((match ts.sT[i]? with|none=>Except.error (45,n.pos)|some C=>if C.params.length=n.sD.length then z6 (mkCk ts m) s n.pos C.params n.sD else .error (45,n.pos)):Res) = .ok ko:=x;rw[qx t]at x;simp only at x;have U:(ts.sT.find? fun p=>decide (p.name=n.name))=some ts.sT[i]:=by
    unfold q9 at l;rw[List.findIdx?_eq_some_iff_getElem]at l;obtain⟨hi,a1,a2⟩:=l;rw[List.find?_eq_some_iff_getElem];refine⟨?_,i,t,rfl,fun j hj=>?_⟩
    .have:=a1
     simp only[List.getElem_take]at this;exact this
    .have:=a2 j hj
     simp only[List.getElem_take]at this;have h3:¬decide (ts.sT[j].name=n.name)=true:=this
     grind
   rw[U]at e;simp only at e;obtain⟨⟨kb,hb⟩,a4,a5,ad,ae⟩:=hP i t;have af:=h.pl _ (qv t);generalize ag:ts.sT[i]=C at *
   by_cases P:C.params.length=n.sD.length
   .rw [if_pos P]at x
    obtain⟨own,s1,h1,e⟩:=Zt e;have a6:=XD hw h47;have a7:∀ k,k∈n.sD->∀ st n' z g,StOk (qt ts es) st->expI ts es f env k body st = .ok ((n',z),g)->StOk (qt ts es) g:=fun k J st n' z g r e=>(vj ts a3 f r R e).ok r
    obtain⟨g1,g2⟩:=mZ (c:=mkCk ts m) (c0:=ckF ts) (ns:=ts.sS.length) (F:=qt ts es) (body:=body) (s:=s) (s':=s') (env:=env) (sc:=[]) (own:=[])
     (fun k J st n' z g ko r hr e x=>⟨ih env k body st n' z g s s' true m ko hm (hw.kid J) (ht.kid J) (ho.kid J) hs r R hr e x,a7 k J st n' z g r e⟩)
     a6 (fun k J a hx=>by
      obtain⟨q,e1,e2⟩:=uL hc (szN k) k s true _ (qs _) (hw.kid J) hs hx (a6 k J);cases e1;exact e2)
     r hr (fun v=>trivial) P x h1
    obtain⟨a8,ah⟩:=W9 (F:=qt ts es) (fun k n' z s s' _ hs hE=>vj ts a3 f hs R hE) r .nil h1;have a9:=ah.ok r;have ai:Rl (ckF ts) es s1.last true (yP C.params) s' own:=⟨hr.mean,fun v hv=>by
     have:=g2 v;have:OwnV (ckF ts) es s1.last s' (zi v (yP C.params)) (getK v own):=this;generalize zi v (yP C.params)=lk at *
     generalize getK v own=iv at *
     match lk,iv with
     |none,none=>trivial
     |some k,some ⟨some a,_,_⟩=>exact this
     |none,some _=>exact this.elim
     |some k,none=>exact this.elim
     |some k,some ⟨none,_,_⟩=>exact this.elim,fun aj=>by cases aj⟩
    have aa:ScOk ts.sS.length (yP C.params):=pz ⟨zOm,af.2⟩;have ak:exam (mkCk ts i) (yP C.params) inn C.body = .ok kb:=by
     cases ab:inn with
     |false=>exact hb
     |true =>
      rw[<-hb];refine mI _ (szN C.body) C.body _ _ _ (qs _) ?_;rw[ab]at I;have a0:zN (mkCk ts m) n.op n.name=false:=by simpa using I
      unfold zN at a0;rw[l,h47]at a0;have:=VL ts i m T hm t;rw[ag]at this;rw[<-this];have an:(zW 47||(decide ((47:Int)=47)&&(tmsL ts m).getD i false))=false:=a0
      grind
    have out:=ih own C.body true s1 n' z g (yP C.params) s' inn i kb zOm a5 ad ae aa a9 a8 ai e ak;obtain⟨al,x1,_⟩:=out.ex;refine⟨⟨al,x1,fun J=>?_⟩,out.good,?_,zW1 out.le⟩
    .rw [h47]at J;exact absurd J zDe
    .rw [out.kd,m5 a5 a4,h47];rfl
   grind
 .cases x
theorem m6{n}(i:WfN n)(h:n.op=5\/n.op=11\/n.op=12\/n.op=13):(n.sD.map fun k=>kd k.op)=[101]:=by
 have g:=i.shape;unfold shp at g;rw[zIn,if_pos zOm]at g
 grind
theorem qlS{n}(i:WfN n)(h:n.op=6\/n.op=14\/n.op=7\/n.op=8\/n.op=32\/n.op=33\/n.op=9\/n.op=10):(n.sD.map fun k=>kd k.op)=[101,101]:=by
 have g:=i.shape;unfold shp at g;rw[zIn,zIn,if_pos zOm]at g
 grind
theorem VN{n}(i:WfN n)(h:n.op=15\/n.op=45\/n.op=46):∃ a f,n.sD=[a,f]/\kd a.op=101:=by
 have g:=i.shape;unfold shp at g;rw[zIn,zIn,zIn,if_pos zOm]at g;simp only[qo]at g
 match j:n.sD,g with
 | [a,f],g =>
  grind
 | [],g=>simp at g
 | [_],g=>simp at g
 |_ :: _ :: _ :: _,g=>simp at g
theorem qlT(ts)(h:okTS ts)(es)(a1:Free ts es)(f)(ih:IHx ts es f)(env n body st P t z p s s' inn m ko)
  (hm:m<=ts.sT.length) (J:WfN n) (ht:Tk es n) (ho:OwnT n) (hs:ScOk ts.sS.length s) (j:StOk (qt ts es) st) (R:qV env) (hr:Rl (ckF ts) es st.last body s s' env) (h47:n.op≠47) (h1:n.op≠1) (hb:¬(n.op=15\/n.op=45\/n.op=46))
  (e:yR (fun env k s=>expI ts es f env k body s) (fun env nm s=>renI ts es env nm body s) (binB n.op) 0 env n.name n.sD st = .ok ((P,t,z),p))
  (x:exam (mkCk ts m) s inn n = .ok ko):Out (ckF ts) es s' inn n (.mk n.op P n.n t n.pos) ko st.last p.last:=by
 have hc:okCk (mkCk ts m):=uK h hm;have a2:binB n.op=false:=by
  simp_all[binB,not_or]
 rw[a2]at e;rw[yx,ZC h47,if_neg h1,if_neg h47,if_neg hb]at x;split at x
 .cases x
 rename_i a3;have r:=x;clear x;generalize hB:(inn||decide (n.op=12)||decide (n.op=13))=B at r;cases hl:qS (mkCk ts m) s B n.sD with
 |error er=>grind
 |ok l =>
  rw[hl]at r;simp only at r;obtain⟨rfl,a4,l',a6,C⟩:=mW (c:=mkCk ts m) (c0:=ckF ts) (F:=qt ts es) (body:=body) (s:=s) (s':=s') (env:=env)
   (fun k hk st n' z p ko j hr e x=>⟨ih env k body st n' z p s s' B m ko hm (J.kid hk) (ht.kid hk) (ho.kid hk) hs j R hr e x,(vj ts a1 f j R e).ok j⟩) j hr e hl
  obtain⟨T,I⟩:=C.spec;have U:=Vg hl;obtain⟨a5,y1,y2⟩:=qkP (ns:=ts.sS.length) h.ns (op:=n.op) (num:=n.n) (pos:=n.pos) (l:=l) (l':=l') h1 (fun e=>hb (.inl e)) (fun g=>by
    obtain⟨a,a',rfl,rfl,e3⟩:=C.one (m6 J g);refine⟨a,a',rfl,rfl,e3,?_⟩;have i:=m6 J g
    match a0:n.sD,i with
    | [k],i =>
     rw[a0]at U;have hx:=U.2 0 k (some a) rfl rfl;obtain⟨q,e1,e2⟩:=uL hc (szN k) k s B _ (qs _) (J.kid (by rw[a0];simp)) hs hx (zUs i);cases e1;exact e2
    | [],i=>simp at i
    |_ :: _ :: _,i=>simp at i)
   (fun g=>C.two (qlS J g)) r
  refine⟨⟨a5,?_,y2⟩,cT J T I h47 (ho n (vI n)) (.inl ⟨rfl,ht n (vI n)⟩),rfl,a4⟩;rw[yx];show (if (inn&&zN (ckF ts) n.op n.name)=true then _ else if n.op=1 then _ else if n.op=47 then _ else if n.op=15\/n.op=45\/n.op=46 then _ else match qS (ckF ts) s' (inn||decide (n.op=12)||decide (n.op=13)) t with | .error e=>_ | .ok l=>zO ts.sS.length n.op n.n n.pos l)=_;simp_all[ZC,if_neg]
theorem qlU(ts)(h:okTS ts)(es)(hF:qt ts es<=200000)(o:Free ts es)(f)(ih:IHx ts es f)(env n body st l a0 z J s s' inn m ko)
  (hm:m<=ts.sT.length) (hw:WfN n) (ht:Tk es n) (ho:OwnT n) (hs:ScOk ts.sS.length s) (P:StOk (qt ts es) st) (ag:(qt ts es:Nat)<=pot (qt ts es) st) (r:qV env) (hr:Rl (ckF ts) es st.last body s s' env) (hb:n.op=15\/n.op=45\/n.op=46)
  (e:yR (fun env k s=>expI ts es f env k body s) (fun env nm s=>renI ts es env nm body s) (binB n.op) 0 env n.name n.sD st = .ok ((l,a0,z),J))
  (x:exam (mkCk ts m) s inn n = .ok ko):Out (ckF ts) es s' inn n (.mk n.op l n.n a0 n.pos) ko st.last J.last:=by
 have hc:okCk (mkCk ts m):=uK h hm;have a7:binB n.op=true:=by
  grind [binB]
 have h47:n.op≠47:=zOm;have h1:n.op≠1:=zOm;rw[a7]at e;rw[yx,ZC h47,if_neg h1,if_neg h47,if_pos hb]at x;split at x
 .cases x
 rename_i R;obtain⟨a,g,t,a1⟩:=VN hw hb;have ma:a∈n.sD:=by rw[t];simp
 have mg:g∈n.sD:=by rw[t];simp
 rw[t]at e x;generalize hB:(inn||decide (n.op=15))=B at x;simp only[zQ,qS]at x;simp only[yR,Nat.zero_add,true_and,Nat.zero_ne_one,if_false,if_true]at e;cases T:exam (mkCk ts m) s B a with
 |error er=>grind
 |ok ka =>
  cases ka with
  |none=>grind
  |some k =>
   rw[T]at x;simp only at x;by_cases U:k.ar=1
   .rw [if_pos U]at x
    split at e
    .cases e
    .rename_i a' m1 s1 e1
     have out:=ih env a body st a' m1 s1 s s' B m _ hm (hw.kid ma) (ht.kid ma) (ho.kid ma) hs P r hr e1 T;have a2:=vj ts o f P r e1;have i:=a2.ok P;obtain⟨ai,x1,x2⟩:=out.ex;obtain⟨q,k',y1,y2,y3⟩:=x2 a1;cases y1;subst y2;obtain⟨q,y4,a8⟩:=uL hc (szN a) a s B _ (qs _) (hw.kid ma) hs T a1;cases y4;have C:=Vx o (env:=env) (nm:=n.name) (body:=body) i.l0;have a3:=Vw (ts:=ts) (es:=es) (nm:=n.name) (body:=body) (s:=s1) r;have a9:=i.last;obtain⟨w1,w2,I⟩:=Rl.bind (c0:=ckF ts) (st:=s1) (nm:=n.name) (k:=k) (k':=k') o r.nd (hr.mono out.le) i.l0 (by show s1.last+(qt ts es:Nat)<_;omega) (ht n (vI n)) y3;have w1:Rl (ckF ts) es (renI ts es env n.name body s1).2.last body ((n.name,k) :: s) (((renI ts es env n.name body s1).1.2,k') :: s') (renI ts es env n.name body s1).1.1:=w1;have w2:s1.last<=(renI ts es env n.name body s1).2.last:=w2;have I:tkn es (renI ts es env n.name body s1).1.2\/vLe es (renI ts es env n.name body s1).2.last (renI ts es env n.name body s1).1.2:=I;have w4:(renI ts es env n.name body s1).1.2=n.name\/vLe es (renI ts es env n.name body s1).2.last (renI ts es env n.name body s1).1.2:=by
      rcases I with I|I
      .left
       unfold renI at I⊢;split
       .rename_i aa
        rw[if_pos aa]at I;exfalso;have ab:=o s1.last i.l0;have ad:=XB ab;simp_all[y6,qu,decide_eq_true_eq]
       .rfl
      grind
     generalize ah:renI ts es env n.name body s1=ae at *
     obtain⟨⟨a4,aj⟩,s2⟩:=ae;simp only at C a3 w1 w2 I w4 e;have a5:StOk (qt ts es) s2:=⟨C.1,by rw[C.2.2];exact i.c0,by rw[C.2.2];exact i.c1,by
      have:=a2.p
      grind [pot]⟩
     split at e
     .cases e
     .rename_i ak al m3 s3 e3
      split at e3
      .cases e3
      .rename_i g' m2 s4 e2
       cases e3;cases e;cases a6:exam (mkCk ts m) ((n.name,k) :: s) B g with
       |error er=>grind
       |ok kg =>
        rw[a6]at x;cases x;have af:ScOk ts.sS.length ((n.name,k) :: s):=fun v hv=>by
         rcases ql.1 hv with rfl|hv
         .exact ⟨a8,U⟩
         .exact hs v hv
        have j:=ih a4 g body s2 g' m2 J ((n.name,k) :: s) ((l,k') :: s') B m _ hm (hw.kid mg) (ht.kid mg) (ho.kid mg) af a5 a3 w1 e2 a6;obtain⟨an,z1,_⟩:=j.ex;refine⟨⟨some k',?_,fun _=>⟨k,k',rfl,rfl,y3⟩⟩,?_,rfl,zW2 out.le j.le⟩
        .rw [yx]
         show (if (inn&&zN (ckF ts) n.op l)=true then _ else if n.op=1 then _ else if n.op=47 then _ else if n.op=15\/n.op=45\/n.op=46 then zQ (ckF ts) s' (inn||decide (n.op=15)) l n.pos [a',g'] else _)=_;rw[ZC h47,if_neg R,if_neg h1,if_neg h47,if_pos hb,hB];simp only[zQ,qS];rw[x1];simp only;rw[if_pos (by rw[y3.1];exact U),z1]
        .refine cT hw (by rw[t];simp[out.kd,j.kd]) (fun y hy=>?_) h47 (ho n (vI n)) ?_
         .rcases ql.1 hy with rfl|hy
          .exact out.good.mono (zW1 j.le)
          .rw [qL]at hy;subst hy;exact j.good
         .rcases w4 with w4|w4
          .exact .inl ⟨w4,by rw[w4];exact ht n (vI n)⟩
          .exact .inr ⟨w4.mono j.le,mY (ho n (vI n)) (by unfold v8;rcases hb with h|h|h<;>simp[h])⟩
   grind
theorem m7(ts)(h:okTS ts)(es)(hP:XJ ts es)(J:qt ts es<=200000)(i:Free ts es):∀ f,IHx ts es f
 | 0=>fun env n body st n' z j s s' inn m P _ _ _ _ _ _ _ _ e _=>by cases e
 |f+1=>fun env n body st n' z j s s' inn m P hm R T U hs g r hr e x=>by
  have ih:=m7 ts h es hP J i f;simp only[expI]at e;split at e
  .rename_i hc
   have hp:=Qe g (n:=1) zOm hc;have l:=hp.ok g;have o:Rl (ckF ts) es (payS 1 st).last body s s' env:=hr;have t:st.last=(payS 1 st).last:=rfl;rw[t];split at e
   .rename_i h1
    exact qlP (c:=mkCk ts m) (c0:=ckF ts) rfl h1 R (T n (vI n)) (U n (vI n)) o e x
   .rename_i h1
    split at e
    .grind [qlR,payS]
    .rename_i h47
     obtain⟨⟨C,I,z'⟩,s1,e1,e2⟩:=Zt e;cases e2;by_cases hb:n.op=15\/n.op=45\/n.op=46
     .refine qlU ts h es J i f ih env n body (payS 1 st) C I z' j s s' inn m P hm R T U hs l ?_ r o hb e1 x
      rw[Zu];have:=g.p;omega
     grind [qlT,payS]
  .cases e
end
end PE
namespace PF
open P1 P2 Y1 Y2 Y9 Y16 YZ YB YC YE YG Q2 Q4 Q6 PC PE PG
mutual
theorem XK:∀(n:Nd)(left:Int),cntT n<=left->cntN n left=cntT n
 | .mk op g i ks p,left,h=>by
  simp only[cntT,cntN]at h⊢;exact m8 ks left 1 h
theorem m8:∀(ks:List Nd)(left sum:Int),sum+yp ks<=left->yg ks left sum=sum+yp ks
 | [],left,sum,h=>by simp only[yp,yg];omega
 |k :: ks,left,sum,h=>by
  simp only[yp,yg]at h⊢;have g:=Xc k;have i:=Vz ks;rw[if_pos zOm,XK k (left-sum) zOm,m8 ks left _ zOm];omega
end
mutual
theorem m9:∀(n:Nd)(left:Int),cntN n left<=left->cntT n<=left
 | .mk op g i ks p,left,h=>by
  simp only[cntT,cntN]at h⊢;exact qaA ks left 1 h
theorem qaA:∀(ks:List Nd)(left sum:Int),yg ks left sum<=left->sum+yp ks<=left
 | [],left,sum,h=>by simp only[yp,yg]at h⊢;omega
 |k :: ks,left,sum,h=>by
  simp only[yp,yg]at h⊢;split at h
  .have i:=(Wx ks left (sum+cntN k (left-sum))).1
   have g:cntN k (left-sum)<=left-sum:=zOm;have j:=XK k (left-sum) (m9 k _ g);have l:=qaA ks left _ h;omega
  .omega
end
section
variable {c:Ck}
theorem qlV{ks d}(g:0<=d)(h:∀ k,k∈ks->depN k<=d):ya ks<=d:=by
 induction ks with
 |nil=>grind [ya]
 |cons a l i =>
  grind [ya,qN,qB]
theorem qlW{ks g}(h:∀ k,k∈ks->forN k g=true):vG ks g=true:=by
 induction ks with
 |nil=>rfl
 |cons a l i =>
  simp_all[vG,qu,qN,qB]
theorem qaB:∀ m n g,szN n<=m->WfN n->OwnT n->depN n<=g->forN n g=true
 | 0,n,_,l,_,_,_=>by obtain⟨op,nm,i,ks,p⟩:=n;simp[szN]at l
 |m+1,n,g,l,o,r,t=>by
  have C:=mN n;rw[Vl,zIn,r n (vI n),Bool.true_and,qu];refine⟨?_,qlW fun k j=>qaB m k (g-1) (zW1 (yw j)) (o.kid j) (r.kid j) ?_⟩
  .unfold fitB
   rw[decide_eq_true_eq];exact o.shape
  .have:=mM j
   rw[Zs]at t;omega
theorem qaC:∀ m n l,szN n<=m->forN n l=true->OwnT n/\depN n<=l
 | 0,n,_,o,_=>by obtain⟨op,nm,i,ks,p⟩:=n;simp[szN]at o
 |m+1,n,l,o,h=>by
  rw[Vl]at h;split at h
  .cases h
  .rename_i I
   simp only[qu]at h;obtain⟨t,J,C⟩:=h;have r:=fun k (g:k∈n.sD)=>qaC m k (l-1) (zW1 (yw g)) (pK C k g)
   refine⟨fun x j=>?_,?_⟩
   .rw [uQ]at j
    rcases ql.1 j with rfl|j
    .exact t
    .obtain ⟨k,g,j⟩:=VM j
     exact(r k g).1 x j
   .rw [Zs]
    have:=qlV (ks:=n.sD) (d:=l-1) zOm fun k g=>(r k g).2
    omega
theorem uh{n}:qY n=true↔WfN n/\OwnT n/\cntT n<=400/\depN n<=24:=by
 constructor
 .intro h
  have l:=v9 h;simp only[qY,qu,decide_eq_true_eq]at h;obtain⟨a,b⟩:=qaC (szN n) n 24 (qs _) h.2;simp_all[m9]
 .rintro ⟨g,i,o,j⟩
  simp only[qY,qu,decide_eq_true_eq];exact⟨by grind [XK],qaB (szN n) n 24 (qs _) g i j⟩
theorem qaD{nm i}(h:q9 c nm=some i)(g):(c.ts.sT.find? fun p=>decide (p.name=nm))=some c.ts.sT[i]:=by
 unfold q9 at h;rw[List.findIdx?_eq_some_iff_getElem]at h;obtain⟨l,o,r⟩:=h;rw[List.find?_eq_some_iff_getElem];refine⟨?_,i,g,rfl,fun j t=>?_⟩
 .grind
 grind
theorem qaE{s pos}:∀{ks ps l},ps.length=ks.length->z6 c s pos ps ks = .ok l->∀ k,k∈ks->∃ a,exam c s true k = .ok a
 | [],_,_,_,_,k,g=>absurd g qG
 |k :: ks,[],_,i,_,_,_=>by simp at i
 |k :: ks,p :: ps,l,i,h,x,j=>by
  simp only[z6]at h;split at h
  .cases h
  .cases h
  .rename_i a g
   split at h
   .split at h
    .rcases ql.1 j with rfl|j
     .exact ⟨_,g⟩
     .exact qaE (zUs i) h x j
    .cases h
   .cases h
theorem XL{s inn}:∀{ks l},qS c s inn ks = .ok l->∀ k,k∈ks->∃ a,exam c s inn k = .ok a
 | [],_,_,k,g=>absurd g qG
 |k :: ks,l,h,x,i=>by
  simp only[qS]at h;split at h
  .cases h
  .rename_i a g
   split at h
   .cases h
   .rename_i o j
    rcases ql.1 i with rfl|i
    .exact ⟨_,g⟩
    .exact XL j x i
theorem XM(hc:okCk c):∀ m n s inn o,szN n<=m->exam c s inn n = .ok o->WfN n->ju c.ts n
 | 0,n,_,_,_,hm,_,_=>by obtain⟨op,nm,i,ks,p⟩:=n;simp[szN]at hm
 |m+1,n,s,inn,o,hm,h,U=>fun x j ho=>by
  have ih:∀ k,k∈n.sD->∀ s inn o,exam c s inn k = .ok o->ju c.ts k:=fun k t s inn o h=>XM hc m k s inn o (zW1 (yw t)) h (U.kid t)
  rw[yx]at h;rw[uQ]at j;split at h
  .cases h
  by_cases h1:n.op=1
  .rw [XI U h1]at j
   rcases ql.1 j with rfl|j
   .omega
   .simp [zl]at j
  rw[if_neg h1]at h;have C:∀(s:Nd->Scp)(inn:Nd->Bool),(∀ k,k∈n.sD->∃ o,exam c (s k) (inn k) k = .ok o)->x∈zl n.sD->∃ p,(c.ts.sT.find? fun p=>decide (p.name=x.name))=some p/\p.params.length=x.sD.length:=fun s inn t j=>by
   obtain⟨k,I,j⟩:=VM j;obtain⟨o,a0⟩:=t k I;exact ih k I _ _ _ a0 x j ho
  by_cases h47:n.op=47
  .rw [if_pos h47]at h
   split at h
   .split at h
    .cases h
    .rename_i i J
     obtain⟨_,a1⟩:=Ze hc J;rw[qx a1]at h;simp only at h;split at h
     .rename_i P
      rcases ql.1 j with rfl|j
      .grind [qaD]
      .exact C (fun _=>s) (fun _=>true) (qaE P h) j
     .cases h
   .cases h
  rw[if_neg h47]at h;have j:x∈zl n.sD:=by
   rcases ql.1 j with rfl|j
   .omega
   .exact j
  by_cases R:n.op=15\/n.op=45\/n.op=46
  .rw [if_pos R]at h
   obtain⟨a,g,r,_⟩:=VN U R;rw[r]at h;simp only[zQ]at h;split at h
   .cases h
   .cases h
   .rename_i k t
    split at h
    .split at h
     .cases h
     .rename_i l hl
      obtain⟨y,T,j⟩:=VM j;rw[r]at T;rcases ql.1 T with rfl|T
      .exact ih y (by rw[r];simp) _ _ _ t x j ho
      .rw [qL]at T
       subst T;obtain⟨b,R⟩:=XL hl y zSp;exact ih y (by rw[r];simp) _ _ _ R x j ho
    .cases h
  .rw [if_neg R]at h
   split at h
   .cases h
   .rename_i l hl
    exact C (fun _=>s) (fun _=>_) (fun k t=>XL hl k t) j
theorem VT{env n}(h:(vg c env n).1=0):30<=n.op/\∃ g,exam c (yP env) false n = .ok g:=by
 unfold vg at h;split at h
 .rename_i i
  refine⟨i,?_⟩;cases j:exam c (yP env) false n with
  |ok g=>exact⟨g,rfl⟩
  |error e =>
   rw[j]at h;have:=PG.YO c (szN n) n _ _ e (qs _) j;have h:e.1=0:=h;omega
 omega
theorem qaF{ts}(h:y5 ts=[])(i g):(vg (mkCk ts i) ts.sT[i].params ts.sT[i].body).1=0:=by
 simp_all[y5,List.append_eq_nil_iff,List.flatMap_eq_nil_iff,zG,jR,qx,rp]
theorem XN(l):∀ es nm,(getK nm es=some true\/∃ x,x∈l/\x.name=nm)->getK nm (putN es l)=some true:=by
 induction l with
 |nil =>
  intro es nm h;rcases h with h|⟨x,g,_⟩
  .exact h
  .exact absurd g qG
 |cons a l i =>
  intro es nm h;refine i _ nm ?_;rw[uI];by_cases e:nm=a.name
  .rw [if_pos e];exact .inl rfl
  .rw [if_neg e]
   rcases h with h|⟨x,g,j⟩
   .exact .inl h
   .rcases ql.1 g with rfl|g
    .grind
    grind
theorem qlX(ts n):Tk (yS ts n) n/\∀ p,p∈ts.sT->Tk (yS ts n) p.body:=by
 have o:∀(l:List Pd)(T:List (cL×Bool))(i:cL),(getK i T=some true\/∃ p,p∈l/\∃ x,x∈preN p.body/\x.name=i)->getK i (l.foldl (fun T p=>putN T (preN p.body)) T)=some true:=by
  intro l;induction l with
  |nil =>
   simp
  |cons a l r =>
   intro T i h;refine r _ i ?_;rcases h with h|⟨p,g,j⟩
   .grind [XN]
   .rcases ql.1 g with rfl|g
    .grind [XN]
    grind
 refine⟨fun x j=>o _ _ _ (.inl (XN _ _ _ (.inr ⟨x,j,rfl⟩))),fun p g x j=>o _ _ _ (.inr ⟨p,g,x,j,rfl⟩)⟩
theorem qaG(l):∀ es,(putN es l).length<=es.length+l.length:=by
 have i:∀(es:List (cL×Bool))(k:cL),(setK k true es).length<=es.length+1:=by
  intro es k;induction es with
  |nil=>simp[setK]
  |cons a es g=>grind [setK]
 induction l with
 |nil=>grind [putN]
 |cons a l g =>
  grind [setK,putN,zC]
mutual
theorem YQ:∀ n:Nd,((preN n).length:Int)=cntT n
 | .mk op nm i ks p=>by simp only[preN,cntT,zC];have:=qaH ks;omega
theorem qaH:∀ ks:List Nd,((zl ks).length:Int)=yp ks
 | []=>rfl
 |k :: ks=>by simp only[zl,yp,qW];have:=YQ k;have:=qaH ks;omega
end
end
theorem qaI{ts}(h:okTS ts)(g:∀ p,p∈ts.sT->qY p.body=true){n}(i:qY n=true):qt ts (yS ts n)<=200000:=by
 have j:∀(l:List Pd)(T:List (cL×Bool)),(∀ p,p∈l->qY p.body=true)->(l.foldl (fun T p=>putN T (preN p.body)) T).length<=T.length+400*l.length:=by
  intro l;induction l with
  |nil=>intro T _;simp
  |cons a l o =>
   grind [putN,preN,qB,qaG,YQ,uh,qN]
 have r:=j ts.sT (putN [] (preN n)) g;have t:=qaG (preN n) [];have C:=YQ n;have I:=(uh.1 i).2.2.1;have:=h.np;have:=h.nf;have:=h.ns
 grind [qt,yS,List.length_nil]
theorem qlY{ts}(h:okTS ts)(hb:∀ p,p∈ts.sT->qY p.body=true)(hk:y5 ts=[]){n x}(P:qY n=true)(hc:(ye ts [] n).1=0)(o:anyN (fun n=>decide (n.op=47)) n=true)(l:yz ts n=(x,0)) :
  qY x=true/\anyN (fun n=>decide (n.op=47)) x=false/\ye ts [] x=(0,0)/\yz ts x=(x,0):=by
 have R:=v9 P;have U:=(uh.1 P).2.1;have hF:=qaI h hb P;obtain⟨t1,t2⟩:=qlX ts n;generalize a0:yS ts n=T at *
 have hP:XJ ts T:=fun i l=>by
  have hm:=qv l;obtain⟨a,b⟩:=VT (qaF hk i l)
  grind [v9,uh]
 unfold yz at l;rw[if_neg (zUs hc),if_neg (by simp[o]),a0]at l;unfold outI at l;split at l
 .rename_i d hd
  exfalso;have h1:=qiY hd
  grind
 .rename_i j g
  have e:j=x:=congrArg Prod.fst l;subst e;split at g
  .cases g
  .rename_i n2 z a1 I
   split at g
   .rename_i hz
    cases g;obtain⟨a2,ko,t⟩:=VT (c:=mkCk ts ts.sT.length) (env:=[]) hc;have a3:StOk (qt ts T) ⟨0,0⟩:=⟨zSp,zSp,zSp,by simp[pot]⟩;have out:=m7 ts h T hP hF (nR ts T) 4001 [] n false ⟨0,0⟩ j z a1 [] [] false ts.sT.length ko (qs _) R t1 U (fun v J=>absurd J qG) a3 .nil
     ⟨fun v J=>absurd J qG,fun v _=>trivial,fun _ v iv e=>by cases e⟩ I t
    obtain⟨a6,a7⟩:=Ys ts (fun p hp=>v9 (hb p hp)) T 4001 (env:=[]) (fun e I=>absurd I qG) R I;have J:qY j=true:=uh.2 ⟨out.good.wf,fun x t=>(out.good.all x t).own,zOm,hz.2⟩;have a8:anyN (fun n=>decide (n.op=47)) j=false:=by
     rw[Xe _ (szN j) j (qs _),List.any_eq_false];intro x t;have:=(out.good.all x t).nc
     grind
    have a5:kd j.op=102:=by rw[out.kd];exact m5 R a2
    have C:30<=j.op:=by
     grind [kd]
    obtain⟨a4,r,_⟩:=out.ex;have a9:ye ts [] j=(0,0):=by
     unfold ye vg;rw[if_pos C];have r:exam (mkCk ts ts.sT.length) (yP []) false j = .ok a4:=r;rw[r];rfl
    simp_all[yz,if_neg,if_pos]
   .cases g
end PF
set_option maxHeartbeats 1000000
namespace HU
end HU
namespace HV
open Y1 JF JG
def nOne:Nd := .mk 36 (bA []) 0 [nF] 0
end HV
namespace JL
open Y1 YF E3 GB GC GG JE JF JG HF1 HS HT HV
def mT(l:List Int):Md:=⟨scH,[[⟨1,l⟩]],0⟩
theorem inlT1:qh qc 180 [eTS tsH,eNd nOne] (.tup [eNd nOne,aI 0]):=wq ua (n:=1000) zKr
def qaJ:List (List AV×AV):=[([eTS tsH,eNd nOne],.tup [eNd nOne,aI 0])]
def qaK:List (List AV×AV):=(subL [] csH).map fun c=>([eTS tsH,eMd (inH 0 c),eNd nOne],.tup [aB (decide ((((inH 0 c).sK.getD 0 []).getD 0 ⟨0,[]⟩).ts.length=1)),aI 0])
noncomputable def T1:List (j1×je):=(181,jC (WE H0)) :: (180,jC (tabX qaJ)) :: H0
theorem qaL:∀ p,p∈T1->jp qc p.1 p.2:=
 Qb (Qb qhN (Yp zKr fun p g=>by
  simp only[qaJ,qL]at g;subst g;exact inlT1)) (qg7 ua)
theorem qlZ:qaK.all (fun p=>eqLi (eqV 64) (p.1.map (nV 64)) p.1&&Ym (envL T1) 3000 159 p.1 p.2)=true:=by kernel_rfl
def qaM:List (List AV×AV):=[([eTS tsH,lBd bsH,eMd (mT [0,2]),lEd [⟨2,0,0,0⟩]],outA (mT [0,2]) (.ok [[⟨1,[2]⟩]]))]
theorem shpT:∀ l,l.Pairwise (·<·)->l.length<=2->ShpS 1 1 1000 (mT l).sK:=fun l i o=>⟨⟨rfl,by intro st g;simp[mT]at g;subst g;rfl,fun s f j hf=>by obtain rfl:s=0:=zOm;obtain rfl:f=0:=zOm;exact i⟩,fun s f j hf=>by obtain rfl:s=0:=zOm;obtain rfl:f=0:=zOm;show l.length<=1000;omega⟩
theorem ql0:qh qc 14 [eTS tsH,lBd bsH,eMd (mT [0,2]),lEd [⟨2,0,0,0⟩]] (outA (mT [0,2]) (.ok [[⟨1,[2]⟩]])):=
 g7 tsH bsH (mT [0,2]) [⟨2,0,0,0⟩] zDe zDe (shpT _ zDe zDe) zDe zDe zDe zDe
def qaN:List (List AV×AV):=[([eMd (mT [0,2]),eMd (mT [2])],lEd [⟨2,0,0,0⟩])]
theorem ql1:qh qc 12 [eMd (mT [0,2]),eMd (mT [2])] (lEd [⟨2,0,0,0⟩]):=by
 have e:jg 1 1 (mT [0,2]).sK (mT [2]).sK=[⟨2,0,0,0⟩]:=by simp[jg,mT,getR,zx,List.range_succ]
 exact e ▸ nn (mT [0,2]) (mT [2]) 1 1 rfl rfl (show [3].length<=1000000 by decide) (shpT _ zDe zDe) (shpT _ zDe zDe) zDe zDe
theorem ql2:qh qc 10 [eTS tsH,eSc scH] (lBd bsH):=wq ua (n:=1000) zKr
def qaO:List (List AV×AV):=[([eTS tsH,eSc scH],lBd bsH)]
noncomputable def T2:List (j1×je):=(10,jC (tabX qaO)) :: (14,jC (tabX qaM)) :: (12,jC (tabX qaN)) :: (158,jC (tabX insT)) :: (159,jC (tabX qaK)) :: T1
theorem ql3:∀ p,p∈T2->jp qc p.1 p.2:=
 Qb (Qb (Qb (Qb (Qb qaL (tabOf (WD qaL) 3000 qlZ)) (Yp zKr fun p g=>by
  simp only[insT,qL]at g;subst g;exact instH)) (Yp zKr fun p g=>by
  simp only[qaN,qL]at g;subst g;exact ql1)) (Yp zKr fun p g=>by
  simp only[qaM,qL]at g;subst g;exact ql0)) (Yp zKr fun p g=>by
  simp only[qaO,qL]at g;subst g;exact ql2)
theorem ql4:qh qc 8 [] (aB true):=wq (WD ql3) (n:=3000) zKr
end JL
namespace LA
open E9 EW G5 GW
theorem YR(a l):sumI (a :: l)=a+sumI l:=rfl
theorem VU:∀ m,(∀ a,a∈m->0<=a)->0<=sumI m
 | [],_=>jy _
 |a :: m,h=>by have:=VU m fun b g=>h b (zP1 g);have:=h a zSp;rw[YR];omega
theorem qaP:∀ m j i,(∀ a,a∈m->0<=a)->sumI (m.take j)+m[j]<=sumI m
 |a :: m,0,_,h=>by have:=VU m fun b g=>h b (zP1 g);show (0:Int)+a<=_;rw[YR];omega
 |a :: m,j+1,i,h=>by have:=qaP m j (zUs i) fun b g=>h b (zP1 g);rw[List.take_succ_cons,YR,YR,List.getElem_cons_succ];omega
theorem qaQ:∀ l j k i r,(∀ a,a∈l->0<=a)->0<=k->k<l[j]->jP l (sumI (l.take j)+k) i=i+j
 |a :: l,0,k,i,_,_,t,g=>by
  have:sumI ([]:List Int)=0:=rfl;simp only[List.getElem_cons_zero]at g;rw[jP,List.take_zero,this,if_pos zOm];simp
 |a :: l,j+1,k,i,r,o,t,g=>by
  have C:=o a zSp;have I:=VU (l.take j) fun b p=>o b (by simp[ja p])
  rw[jP,List.take_succ_cons,YR,zIn];have:=qaQ l j k (i+1) (zUs r) (fun b p=>o b (zP1 p)) t (zUs g);rw[show a+sumI (l.take j)+k-a=sumI (l.take j)+k by omega,this]
  push_cast;omega
def OkL(sc:Sc)(l:List Int):Prop:=∀ s,s∈l->0<=s/\s<sc.sC.length
theorem VV(sc)(g:∀ a,a∈sc.sC->0<=a):∀ l,OkL sc l->∀ p x,x∈tupR sc l p->∃ ds,ds.length=l.length/\x=z9 (sumI sc.sC) ds p/\(∀ d,d∈ds->0<=d/\d<sumI sc.sC)/\∀(i h)(r:i<l.length),jQ sc ds[i]=l[i]
 | [],_,p,x,h=>by
  simp[tupR]at h;exact⟨[],rfl,by simp[z9,h],zSp,zSp⟩
 |s :: l,t,p,x,h=>by
  rw[tupR,ul]at h;obtain⟨k,C,h⟩:=h;rw[zG]at C;obtain⟨h0,h1⟩:=t s zSp;have j:s.toNat<sc.sC.length:=zOm;rw[vD j]at C;obtain⟨ds,J,P,R,T⟩:=VV sc g l (fun s U=>t s (zP1 U)) _ x h;have I:=qaP _ _ j g;have a0:=VU (sc.sC.take s.toNat) fun b hb=>g b (ja hb)
  refine⟨(sumI (sc.sC.take s.toNat)+k) :: ds,zP1 J,by rw[P];rfl,fun d o=>?_,fun i h r=>?_⟩
  .rcases ql.1 o with rfl|o
   .omega
   .exact R d o
  .cases i with
   |zero =>
    have:=qaQ sc.sC s.toNat k 0 j g zOm zOm;simp only[List.getElem_cons_zero,jQ];rw[this];omega
   |succ i=>simpa using T i (zUs h) (zUs r)
theorem ql5(n ds d p):z9 n (ds++[d]) p=z9 n ds p*n+d:=by simp[z9]
theorem qaR(n)(g:0<n):∀ k ds,ds.length=k->(∀ d,d∈ds->0<=d/\d<n)->(0<=z9 n ds 0/\z9 n ds 0<n ^ k)/\digs n k (z9 n ds 0)=ds
 | 0,ds,h,_=>by
  obtain rfl:=List.eq_nil_of_length_eq_zero h;simp[z9,digs]
 |k+1,ds,h,j=>by
  obtain⟨T,d,rfl⟩:∃ T d,ds=T++[d]:=⟨ds.dropLast,ds.getLast (by intro e;simp[e]at h),(List.dropLast_concat_getLast _).symm⟩;obtain⟨⟨l,t⟩,o⟩:=qaR n g k T (zUs h) fun d i=>j d (zP1 i)
  obtain⟨d1,d2⟩:=j d zSp;rw[ql5];have p:(z9 n T 0*n+d) / n=z9 n T 0:=by
   rw[Int.add_comm,Int.add_mul_ediv_right _ _ zOm,Int.ediv_eq_zero_of_lt d1 d2];omega
  have r:(z9 n T 0*n+d) % n=d:=by
   rw[Int.add_comm,Int.add_mul_emod_self_right,Int.emod_eq_of_lt d1 d2]
  refine⟨⟨?_,?_⟩,?_⟩
  .have:=Int.mul_nonneg l (Int.le_of_lt g);omega
  .have:=Int.mul_le_mul_of_nonneg_right (show z9 n T 0+1<=n ^ k by omega) (Int.le_of_lt g)
   rw[Int.pow_succ];rw[Int.add_mul]at this;omega
  .rw [digs,p,r,o]
theorem XP(n)(g:0<n):∀ ds p,(∀ d,d∈ds->0<=d/\d<n)->p*n ^ ds.length<=z9 n ds p/\z9 n ds p<(p+1)*n ^ ds.length
 | [],p,_=>by simp[z9];omega
 |d :: ds,p,h=>by
  obtain⟨d1,d2⟩:=h d zSp;obtain⟨a,b⟩:=XP n g ds (p*n+d) fun e j=>h e (zP1 j)
  have i:0<n ^ ds.length:=Int.pow_pos g;have e:n ^ (d :: ds).length=n ^ ds.length*n:=Int.pow_succ ..;have l:z9 n (d :: ds) p=z9 n ds (p*n+d):=rfl;rw[l,e];have c1:p*(n ^ ds.length*n)<=(p*n+d)*n ^ ds.length:=by
   rw[Int.add_mul,show p*(n ^ ds.length*n)=p*n*n ^ ds.length by rw[Int.mul_comm (n ^ ds.length),Int.mul_assoc]];have:=Int.mul_nonneg d1 (Int.le_of_lt i);omega
  have c2:(p*n+d+1)*n ^ ds.length<=(p+1)*(n ^ ds.length*n):=by
   rw[show (p+1)*(n ^ ds.length*n)=((p+1)*n)*n ^ ds.length by rw[Int.mul_comm (n ^ ds.length),Int.mul_assoc]];refine Int.mul_le_mul_of_nonneg_right ?_ (Int.le_of_lt i);rw[Int.add_mul];omega
  omega
theorem qaS(sc)(i:0<sumI sc.sC)(o:∀ a,a∈sc.sC->0<=a):∀ l,OkL sc l->∀ p,(tupR sc l p).Pairwise (·<·)
 | [],_,p=>by simp[tupR]
 |s :: l,t,p=>by
  have g:OkL sc l:=fun s C=>t s (zP1 C)
  rw[tupR];have:∀ m:Nat,((qq m).flatMap fun k:Nat=>tupR sc l (p*sumI sc.sC+(sumI (sc.sC.take s.toNat)+k))).Pairwise (·<·):=fun m=>by
   induction m with
   |zero=>simp
   |succ m I =>
    rw[List.range_succ,List.flatMap_append,List.pairwise_append];refine⟨I,by simpa using qaS sc i o l g _,fun x j y r=>?_⟩;rw[ul]at j;obtain⟨k,J,j⟩:=j;rw[zG]at J;simp only[uW,List.flatMap_nil,yj]at r;obtain⟨P,R,U,a3,_⟩:=VV sc o l g _ x j;obtain⟨T,b1,b2,b3,_⟩:=VV sc o l g _ y r;have h1:=(XP _ i P (p*sumI sc.sC+(sumI (sc.sC.take s.toNat)+k)) a3).2;have h2:=(XP _ i T (p*sumI sc.sC+(sumI (sc.sC.take s.toNat)+m)) b3).1;rw[<-U,R]at h1;rw[<-b2,b1]at h2;have:=Int.mul_le_mul_of_nonneg_right (show p*sumI sc.sC+(sumI (sc.sC.take s.toNat)+k)+1<=p*sumI sc.sC+(sumI (sc.sC.take s.toNat)+m) by omega) (Int.le_of_lt (Int.pow_pos i:0<sumI sc.sC ^ l.length));omega
  exact this _
theorem ql6(sc)(g:GSc sc)(o:0<sumI sc.sC)(l)(C:l.length<=3)(p:OkL sc l):tupR sc l 0=zT sc l:=by
 have r:∀ a,a∈sc.sC->0<=a:=fun a I=>(g.2 a I).1
 have s1:=qaS sc o r l p 0;have J:(zT sc l).Pairwise (·<·):=Yo _ _ _;have j:∀ x,x∈tupR sc l 0->x∈zT sc l:=fun x P=>by
  obtain⟨R,T,U,a3,a4⟩:=VV sc r l p 0 x P;obtain⟨⟨b1,b2⟩,t⟩:=qaR _ o l.length R T a3;rw[<-U]at b1 b2 t;unfold zT jr;refine qp.2 ⟨x.toNat,yT.2 ⟨zG.2 zOm,?_⟩,zOm⟩;rw[show ((x.toNat:Nat):Int)=x by omega,t];exact JW.2 fun i hi=>by
   have:=a4 i zOm zOm
   grind [vD]
 exact GA.Wk s1 J fun x=>⟨j x,qh0 sc g o l C p x⟩
end LA
namespace HW
theorem XQ{C i:Type}{g:C->List i}{K}:∀{l:List C},(∀ x,x∈l->(g x).length<=K)->(l.flatMap g).length<=l.length*K
 | [],_=>zSp
 |x :: l,h=>by
  have o:=h x (qN ..);have p:=XQ (l:=l) fun y j=>h y (qB _ j)
  rw[uW,qW,zC,Nat.succ_mul];omega
end HW
set_option maxHeartbeats 1000000
namespace W62
open GA GD
theorem qaT{C j:Type}{f}{g:Nat->List j}{xs ys:List C}(i:xs.length=ys.length)(h:∀ k (o) (p:k<ys.length),((g k).length:Int)=f xs[k] ys[k]):(((qq xs.length).flatMap g).length:Int)=sumZ f xs ys:=by
 have:∀ k,k<=xs.length->(((qq k).flatMap g).length:Int)=sumZ f (xs.take k) (ys.take k):=fun k r=>by
  induction k with
  |zero=>simp[sumZ]
  |succ k l =>
   rw[List.range_succ,List.flatMap_append,qW,Vc f xs ys k zOm zOm,<-l zOm,<-h k zOm zOm];simp
 have h:=this xs.length (qs _)
 rwa[za,i,za,<-i]at h
end W62
namespace E6
end E6
namespace ED
end ED
namespace EG
end EG
namespace EH
end EH
namespace FJ
end FJ
namespace IA
end IA
namespace QP
end QP
namespace QV
end QV
namespace QW
open YS YF Y9 Y1 Y2 YZ YA P1 P2
section
variable {nm:cL}{l:List cL}
abbrev rNm(b:cL):List AV:=[aS b]
abbrev lNm(l:List cL):AV := .lst false (l.map rNm)
def namL(n:Nd):List cL:=((preN n).filter fun x=>decide (x.name≠⟨#[]⟩)).map Nd.name
def jw(l:List Nd):List cL:=((zl l).filter fun x=>decide (x.name≠⟨#[]⟩)).map Nd.name
theorem ql7(n):namL n=(if n.name=⟨#[]⟩ then [] else [n.name])++jw n.sD:=by
 unfold namL jw;rw[uQ,List.filter_cons];by_cases h:n.name=⟨#[]⟩
 .simp [h]
 .simp [h]
theorem VW:∀ a b,zl (a++b)=zl a++zl b
 | [],b=>rfl
 |x :: a,b=>by rw[List.cons_append];simp only[zl];rw[VW a b,zm]
theorem ql8(a k):jw (a++[k])=jw a++namL k:=by
 grind [jw,namL,VW,zl]
theorem ql9(l):(jw l).length<=(zl l).length:=by
 grind [jw,yi,List.length_filter_le]
theorem VX(n):(namL n).length<=(preN n).length:=by
 grind [namL,yi,List.length_filter_le]
theorem XS(l:List cL):zb 1 (l.map rNm):=fun r g=>by
 obtain⟨x,_,rfl⟩:=qp.1 g;exact⟨rfl,rfl⟩
theorem qaU(l):HF (lNm l):=HF.lst fun r g c i=>by
 obtain⟨x,_,rfl⟩:=qp.1 g
 grind [qL,HF.sc]
theorem rdNm{lo mu av}(h:OwnF lo mu 1 av (l.map rNm)):Rd mu av (lNm l):=
 h.1.rd (XS l).ok fun r g c i=>by
  obtain⟨x,_,rfl⟩:=qp.1 g
  grind [qL,HF.sc]
theorem appNm{mu lo s x}{xs ys:List cL}{K}(g:OwnF lo mu 1 s (xs.map rNm))(j:qF mu x=some (ys.map rNm))(o:xs.length+ys.length<=1000000)(r:∀ av l,OwnF lo l 1 av ((xs++ys).map rNm)->(∀ i,i<lo->l[i]?=mu[i]?)->K av l) :
  qD qc mu #[181,181] s x K:=by
 refine qD.ownF (lo:=lo) (e:=9) (sz:=1) (bt:=16) (zv:=aS ⟨#[]⟩) (xs:=xs.map rNm) (ys:=ys.map rNm) zSi zSi zSi rfl rfl zOm zOm g j (XS xs) (XS ys) zSo ?_
 grind
theorem qmA(l k):(zl (l.take k)).length<=(zl l).length:=by
 grind [zl,VW,List.take_append_drop,qW]
theorem XT:∀ m n,szN n<=m->yf n->∀ lo mu av xs,OwnF lo mu 1 av (xs.map rNm)->xs.length+(preN n).length<=500000 ->
  qU qc 149 [av,eNd n] mu fun e t=>∃ g,e = .ret g/\OwnF lo t 1 g ((xs++namL n).map rNm)/\∀ i,i<lo->t[i]?=mu[i]?
 | 0,n,I,_=>by obtain⟨op,nm,i,ks,p⟩:=n;simp[szN]at I
 |m+1,n,I,hs=>by
  intro lo mu av xs C hl;have ih:∀ k,k∈n.sD->∀(lo:Nat)(mu:Mu)(av:AV)(xs:List cL),OwnF lo mu 1 av (xs.map rNm)->xs.length+(preN k).length<=500000->qU qc 149 [av,eNd k] mu fun e t=>∃ g,e = .ret g/\OwnF lo t 1 g ((xs++namL k).map rNm)/\∀ i,i<lo->t[i]?=mu[i]?:=fun k P =>
   XT m k (zW1 (yw P)) (hs.kid P)
  have a1:=hs.len;have l:=ql7 n;have a2:(preN n).length=1+(zl n.sD).length:=by rw[uQ,zC];omega
  refine qSW call149 func149 rfl {} ?_;by_cases J:n.name=⟨#[]⟩
  case' pos =>
   rw[if_pos J,uX]at l;simp[go_sem,J];refine aC n.sD.length (fun k st=>st.tm 3 = .ip (cNd n)/\st.tm 5=aI k/\OwnF lo st.mu 1 (st.tm 0) ((xs++jw (n.sD.take k)).map rNm)/\∀ i,i<lo->st.mu[i]?=mu[i]?) ?_ ?_
   .simp_all [go_sem,jw,zl]
   generalize hX:xs=X at *
   have R:X.length+(zl n.sD).length<=500000:=zOm;have j:X++jw n.sD=X++namL n:=by rw[l]
  case' neg =>
   rw[if_neg J]at l;have T:n.name.toList.isEmpty=false:=by simpa using jN J
   simp[go_sem,T];refine appNm (ys:=[n.name]) C (by simp[qF]) (by grind) fun g t a3 a4=>?_
   simp[go_sem];refine aC n.sD.length (fun k st=>st.tm 3 = .ip (cNd n)/\st.tm 5=aI k/\OwnF lo st.mu 1 (st.tm 0) (((xs++[n.name])++jw (n.sD.take k)).map rNm)/\∀ i,i<lo->st.mu[i]?=mu[i]?) ?_ ?_
   .simp_all [go_sem,jw,zl]
   generalize hX:xs++[n.name]=X at *
   have R:X.length+(zl n.sD).length<=500000:=by grind
   have j:X++jw n.sD=xs++namL n:=by grind
  all_goals
   rintro k st P ⟨e3,e5,C,I⟩;generalize h0:st.tm 0=U at *
   by_cases o:k<n.sD.length
   .have w1:=zWk k
    have a5:jw (n.sD.take (k+1))=jw (n.sD.take k)++namL n.sD[k]:=by rw[jx o,ql8]
    have a6:(zl (n.sD.take (k+1))).length=(zl (n.sD.take k)).length+(preN n.sD[k]).length:=by grind [jx,VW,zl]
    have h1:=qmA n.sD (k+1);have h2:=ql9 (n.sD.take k);simp[go_sem,e3,e5,h0,o,qO];refine aA (ih n.sD[k] (qv o) lo st.mu U _ C (by rw[qW];omega)) (fun r m2 hr=>?_) (fun r m2 hr=>?_)
    .simp_all [go_sem,aP,zm,yO,trans]
    grind
   .have a0:k=n.sD.length:=by omega
    subst a0;rw[za,j]at C;simp[go_sem,e3,e5,h0];exact⟨zUs C,I⟩
def takL(ts:TS)(n:Nd):List cL:=namL n++ts.sT.flatMap fun p=>namL p.body
theorem qmB(ts)(h:okTS ts)(wp:∀ p,p∈ts.sT->WfN p.body)(n)(hw:WfN n)(hl:(preN n).length<=400)(hp:∀ p,p∈ts.sT->(preN p.body).length<=400):qh qc 114 [eTS ts,eNd n] (lNm (takL ts n)):=by
 have a2:=h.np;have hk:∀ i (o:i<ts.sT.length),ts.sT.take (i+1)=ts.sT.take i++[ts.sT[i]]:=fun i o=>jx o
 have I:∀ i,((ts.sT.take i).flatMap fun p=>namL p.body).length<=400*i:=by
  intro i;induction i with
  |zero=>simp
  |succ i ih =>
   by_cases o:i<ts.sT.length
   .rw [hk i o,List.flatMap_append,qW]
    have h1:=VX ts.sT[i].body;have h2:=hp _ (qv o);simp only[uW,List.flatMap_nil,yj];omega
   .have e1:ts.sT.take (i+1)=ts.sT:=zn zOm
    have l:ts.sT.take i=ts.sT:=zn zOm;rw[e1];rw[l]at ih;omega
 have hn:=VX n;refine qSU call114 func114 rfl ?_;refine aA (XT (szN n) n (qs _) hw.small 0 [] (.lst true []) [] (OwnF.nil zSp) zSo) (fun r J j=>?_) (fun r J j=>?_)
 case refine_2 =>
  obtain⟨t,e,_⟩:=j;cases e
 obtain⟨a3,e,C,_⟩:=j;cases e;rw[uX]at C;simp[go_sem];refine aC ts.sT.length (fun k st=>st.tm 2 = .ip (cTS ts)/\st.tm 6=aI k/\OwnF 0 st.mu 1 (st.tm 5) ((namL n++(ts.sT.take k).flatMap fun p=>namL p.body).map rNm)) ?_ ?_
 .exact ⟨zSi,zSi,zVs C⟩
 rintro k st a4 ⟨l,P,R⟩;generalize h5:st.tm 5=T at *
 by_cases g:k<ts.sT.length
 .have w1:=zWk k
  have U:(ts.sT.take (k+1)).flatMap (fun p=>namL p.body)=(ts.sT.take k).flatMap (fun p=>namL p.body)++namL ts.sT[k].body:=by
   rw[hk k g,List.flatMap_append];simp only[uW,List.flatMap_nil,yj]
  have h1:=I k;have h2:=hp _ (qv g);simp[go_sem,l,P,h5,g,J4];refine aA (XT (szN ts.sT[k].body) ts.sT[k].body (qs _) (wp _ (qv g)).small 0 st.mu T _ R (by rw[qW];omega)) (fun r J j=>?_) (fun r J j=>?_)
  .obtain ⟨t,e,a0,_⟩:=j
   cases e;simp[go_sem,l,P,w1];exact⟨g,aP ⟨zS1 l,zSi,by rw[U,<-zm];simpa[go_sem] using a0⟩⟩
  .obtain ⟨t,e,_⟩:=j
   cases e
 .have a1:k=ts.sT.length:=by omega
  subst a1;rw[za]at R;simp[go_sem,l,P,h5];exact rdNm R
def inL(nm:cL)(l:List cL):Bool:=l.any fun x=>decide (x=nm)
theorem XU:inL nm l=true↔nm∈l:=by
 unfold inL;simp
theorem qaV(h:¬nm∈l):inL nm l=false:=by
 grind [inL,absurd,XU]
theorem hasU(l nm)(P:l.length<=1000000):qh qc 169 [lNm l,aS nm] (aB (inL nm l)):=by
 refine qSU call169 func169 rfl ?_;refine aC l.length (fun k st=>st.tm 0=lNm l/\st.tm 1=aS nm/\st.tm 5=aI k/\∀ x,x∈l.take k->x≠nm) ?_ ?_
 .simp [go_sem, *]
 rintro k st R ⟨i,j,r,t⟩;by_cases g:k<l.length
 .have J:=zWk k
  by_cases o:l[k]=nm
  .have C:inL nm l=true:=XU.2 (o ▸ qv g)
   rw[C];simp[go_sem,i,j,r,g,o];exact .zsc _
  .simp [go_sem,i,j,r,g,jN o,J]
   refine aP ⟨zS1 i,zS1 j,zSi,fun x p=>?_⟩;rw[jx g,qI,qL]at p;rcases p with p|rfl
   .exact t x p
   .exact o
 .have I:k=l.length:=by omega
  subst I;rw[za]at t;have C:inL nm l=false:=qaV fun h=>t nm h rfl
  rw[C];simp[go_sem,i,j,r];exact .zsc _
theorem qmC(u:Nat)(h:u<10):ByteArray.empty.push (UInt8.ofNat ((48:Int)+(u:Int)).toNat)=jf u:=by
 unfold jf;rw[Lib.itoa_nonneg,Lib.decDigits_one h,show ((48:Int)+(u:Int)).toNat=48+u by omega];rfl
theorem qmD(u)(h:¬u<10):jf ((u / 10:Nat):Int)++ByteArray.empty.push (UInt8.ofNat ((48:Int)+((u % 10:Nat):Int)).toNat)=jf u:=by
 unfold jf;rw[Lib.itoa_nonneg,Lib.itoa_nonneg,Lib.decDigits.eq_1 u,dif_neg h,show ((48:Int)+((u % 10:Nat):Int)).toNat=48+u % 10 by omega];apply ByteArray.ext;simp
theorem digU:∀(m u:Nat),u<=m->u<=1000000000->qh qc 168 [aI u] (aS (jf u))
 |m,u,J,P=>by
  have r:qw.wrap (48+(u:Int))=48+(u:Int):=zWr;refine qSV call168 func168 rfl ?_;by_cases h:u<10
  .have i:(u:Int)<10:=by omega
   have t:IntKind.u8.wrap (48+(u:Int))=48+(u:Int):=IntWalk.u8_in _ ⟨zOm,zOm⟩;have g:=qmC u h;simp[go_sem,i,r,t,g];exact .zsc _
  .have i:¬(u:Int)<10:=by omega
   have C:=digU (u / 10) (u / 10) (qs _) zOm;have g:=qmD u h;simp[go_sem,i];refine cN zKr ?_;have I:qw.wrap ((u:Int) / 10)=((u / 10:Nat):Int):=by rw[show ((u:Int) / 10)=((u / 10:Nat):Int) from rfl];grind [jb]
   have t3:(u:Int).tmod 10=((u % 10:Nat):Int):=rfl;have o:qw.wrap (48+((u % 10:Nat):Int))=48+((u % 10:Nat):Int):=zWr;have p:IntKind.u8.wrap (48+((u % 10:Nat):Int))=48+((u % 10:Nat):Int):=IntWalk.u8_in _ ⟨zOm,zOm⟩;have j:=nD ((u / 10:Nat):Int) zOm zOm;simp[go_sem,I];refine cY C (.zs .nil) ?_;have c1:((u / 10:Nat):Int)=(u:Int) / 10:=rfl;have c2:((u % 10:Nat):Int)=(u:Int) % 10:=rfl;rw[c1]at j g;rw[c2]at o p g;have l:(jf ((u:Int) / 10)).size<=9223372036854775806:=zOm;simp[go_sem,t3,o,p,l,g];exact .zsc _
end
end QW
namespace QX
open YS YF Y9 Y1 Y2 YX YZ YA YB P1 QD QK QW
abbrev cWk(ts:TS)(l:List cL)(s:ISt):List AV:=cTS ts++[lNm l,aI s.last,aI s.sM]
abbrev eWk(ts:TS)(l:List cL)(s:ISt):AV := .agg (cWk ts l s)
theorem qmE(ts l s):∀ c,c∈cWk ts l s->HF c:=fun c g=>by
 rcases qI.1 g with g|g
 .exact We ts c g
 .simp only[ql,qG,or_false]at g
  rcases g with rfl|rfl|rfl
  .exact qaU l
  .exact HF.sc _
  .exact HF.sc _
theorem ui(ts l s):HF (eWk ts l s):=HF.agg (qmE ts l s)
structure Tn (l:List cL) (es:List (cL×Bool)):Prop where
 mem:∀ nm:cL,nm≠⟨#[]⟩->(nm∈l↔getK nm es=some true)
 len:es.length<=l.length+1
theorem vN_ne(k):vN k≠⟨#[]⟩:=fun e=>by
 have:=congrArg ByteArray.size e;unfold vN at this;rw[ByteArray.size_append]at this;have g:(⟨#[118]⟩:cL).size=1:=rfl;have i:(⟨#[]⟩:cL).size=0:=rfl;omega
theorem qmF{ts l es}(t:Tn l es)(k):y6 ts es (vN k)=(decide ((means ts (vN k)).length=0)&&!inL (vN k) l):=by
 unfold y6;have i:=t.mem (vN k) (vN_ne k);have g:decide (means ts (vN k)=[])=decide ((means ts (vN k)).length=0):=by
  simp[List.length_eq_zero_iff]
 rw[g,Bool.and_comm];congr 1;by_cases j:vN k∈l
 .grind [XU]
 simp_all[qaV,Bool.not_false,decide_eq_true_eq]
theorem two{C:Type}{l}{a b:C}(g:l[0]?=some a)(i:l[1]?=some b):∃ r,l=a :: b :: r:=by
 match l,g,i with
 |_ :: _ :: r,g,i =>
  grind
abbrev zWc:List AV:=[.lst true [],.lst true [],.lst true [],.lst true [],.lst true [],aI 0,aI 0]
theorem qmG(ts)(h:okTS ts)(l es)(t:Tn l es)(hl:l.length<=400000)(s:ISt)(hs:0<=s.last/\s.last+(qt ts es:Nat)<=1000000000)(a4:∃ j,1<=j/\j<=qt ts es/\y6 ts es (vN (s.last+j))=true) :
  qh qc 148 [eWk ts l s] (.tup [eWk ts l ⟨zz ts es (qt ts es) s.last,s.sM⟩,aS (vN (zz ts es (qt ts es) s.last))]):=by
 have a8:=h.ns;have a9:=h.nf;have hF:qt ts es<=l.length+40:=by have:=t.len;unfold qt;omega
 have a5:okNm ts:=⟨h.sl,zOm,zOm,fun f hf=>zW1 (h.fl f hf)⟩;generalize aa:qt ts es=F at *
 generalize hR:zz ts es F s.last=R;refine qSQ call148 func148 rfl { mt:=[1] } ?_;simp[go_sem];refine cH (fun m st=>∃(i:Nat) (k:Int),i+m=F/\0<=k/\k+m<=1000000000/\st.tm 1 = .ptr 0 0/\st.tm 2 = .ptr 1 0/\st.tm 4=aI i/\st.mu[0]?=some (.arr (cWk ts l ⟨k,s.sM⟩))/\st.mu[1]?=some (.arr zWc)/\zz ts es m k=R/\∃ j:Nat,1<=j/\j<=m/\y6 ts es (vN (k+j))=true) F ?_ ?_
 .exact ⟨0,s.last,zOm,hs.1,zOm,zSi,zSi,zSi,zSi,zSi,hR,a4⟩
 rintro m st ⟨i,k,ab,ad,ae,I,J,U,m0,m1,hI,j,af,ag,ah⟩;obtain⟨m,rfl⟩:∃ m',m=m'+1:=⟨m-1,zOm⟩;obtain⟨rr,o⟩:=two m0 m1;have w1:qw.wrap (k+1)=k+1:=zWr;have w2:qw.wrap ((l.length:Int)+40)=(l.length:Int)+40:=zWr;have w3:=zWk i;have g:(i:Int)<=(l.length:Int)+40:=zOm;obtain⟨u,hu⟩:∃ u:Nat,k+1=(u:Int):=⟨(k+1).toNat,zOm⟩;have cd:=digU u u (qs _) zOm;have ai:=nD (u:Int) zOm zOm;have a2:1+(jf (u:Int)).size<=9223372036854775807:=zOm;have hv:(⟨#[118]⟩:cL)++jf (u:Int)=vN (k+1):=by rw[hu];rfl
 have p:=qmF (ts:=ts) t (k+1);have cn:=Xi ts a5 (vN (k+1));have T:=Xh ts (vN (k+1));have hk:(named ts (vN (k+1))).2=(means ts (vN (k+1))).length:=by rw[Xy h]
 rw[hk]at cn;generalize (named ts (vN (k+1))).1=C at *
 have ch:=hasU l (vN (k+1)) zOm;clear m0 m1;simp[go_sem,I,J,U,o,w1,w2,g];refine cY cd (.cons (by rw[hu];exact .hf (HF.sc _)) .nil) ?_;simp[go_sem,I,J,U,o,w1,w2,g,a2,hv];refine cY cn (.zk (zt ts) (.zs .nil)) ?_;simp[go_sem,I,J,U,o,w1,w2,g,T.len];rw[if_pos T.one];generalize qQ _ 0 C=PC;have next:y6 ts es (vN (k+1))=false->∃ k':Int,k'=k+1/\zz ts es m k'=R/\∃ j:Nat,1<=j/\j<=m/\y6 ts es (vN (k'+j))=true:=fun hn=>by
  refine⟨k+1,rfl,?_,j-1,?_,zOm,?_⟩
  .simp_all [zz,if_neg]
  .have:j≠1:=fun e=>by grind
   omega
  grind
 by_cases P:means ts (vN (k+1))=[]
 .rw [P]at p
  simp[go_sem,I,J,U,o,w1,w2,g,P];refine cY ch (.zk (qaU l) (.zs .nil)) ?_;cases a3:inL (vN (k+1)) l with
  |true =>
   rw[a3]at p;obtain⟨k',r,a0,a1⟩:=next p;simp[go_sem,I,J,U,o,w1,w2,w3,g];exact⟨m,zOm,aP ⟨i+1,k+1,zOm,zOm,zOm,zS1 I,zS1 J,zSi,zSi,zSi,by rw[<-r];exact a0,by rw[<-r];exact a1⟩⟩
  |false =>
   rw[a3]at p;have a6:R=k+1:=by rw[<-hI];simp only[zz];rw[if_pos (by rw[p];rfl)]
   simp[go_sem,I,J,U,o,w1,w2,g];rw[a6];exact .hf _ (HF.tup fun x hx=>by
    simp only[ql,qG,or_false]at hx;rcases hx with rfl|rfl
    .exact ui ts l ⟨k+1,s.sM⟩
    .exact HF.sc _)
 .have a7:¬(means ts (vN (k+1))).length=0:=fun e=>P (List.length_eq_zero_iff.1 e)
  rw[decide_eq_false a7]at p;obtain⟨k',r,a0,a1⟩:=next p;simp[go_sem,I,J,U,o,w1,w2,w3,g,P];exact⟨m,zOm,aP ⟨i+1,k+1,zOm,zOm,zOm,zS1 I,zS1 J,zSi,zSi,zSi,by rw[<-r];exact a0,by rw[<-r];exact a1⟩⟩
abbrev Sb:=cL×IV
def cAr:Option Nd->List AV
 |some a=>cNd a
 |none=>[aI 0,aS ⟨#[]⟩,aI 0,.lst true [],aI 0]
@[go_sem] theorem cAr_some(a):cAr (some a)=cNd a:=rfl
@[go_sem] theorem cAr_none:cAr none=[aI 0,aS ⟨#[]⟩,aI 0,.lst true [],aI 0]:=rfl
@[go_sem] theorem qmH(o):(cAr o).length=5:=by cases o<;>simp[go_sem,yD]
theorem qmI(o):∀ c,c∈cAr o->HF c:=by
 cases o with
 |some a=>exact wX a
 |none =>
  intro c g;simp only[cAr,ql,qG,or_false]at g;rcases g with rfl|rfl|rfl|rfl|rfl
  .exact HF.sc _
  .exact HF.sc _
  .exact HF.sc _
  .exact HF.lst fun r i=>absurd i qG
  .exact HF.sc _
abbrev cSb(x:Sb):List AV:=[aS x.1,aS x.2.name,aB x.2.arg.isSome]++cAr x.2.arg++[aI x.2.size]
abbrev lSb(l:List Sb):AV := .lst false (l.map cSb)
def vL(nm:cL)(l:List Sb):Option IV:=l.foldl (fun r e=>if e.1=nm then some e.2 else r) none
theorem VY(nm l e):vL nm (l++[e])=if e.1=nm then some e.2 else vL nm l:=by
 unfold vL;rw[List.foldl_append];rfl
theorem XV{mu}(ts l s n z):Rd mu (.tup [eWk ts l s,eNd n,aI z]) (.tup [eWk ts l s,eNd n,aI z]) := .hf _ (HF.tup fun x g=>by
 simp only[ql,qG,or_false]at g;rcases g with rfl|rfl|rfl
 .exact ui ts l s
 .exact zd n
 .exact HF.sc _)
def uU(sc:List Sb)(n:Nd)(s:ISt):(Nd×Int)×ISt:=match vL n.name sc with
 |none=>((n,1),s)
 |some v=>match v.arg with
  |none=>((.mk n.op v.name n.n n.sD n.pos,1),s)
  |some a=>((a,v.size),payS v.size s)
theorem leafU(ts l sc)(hl:sc.length<=1000000)(n s)(hs:0<=s.sM/\s.sM<=1000000)(hz:∀ e,e∈sc->0<=e.2.size/\e.2.size<=1000000) :
  qh qc 145 [eWk ts l s,lSb sc,eNd n] (.tup [eWk ts l (uU sc n s).2,eNd (uU sc n s).1.1,aI (uU sc n s).1.2]):=by
 unfold uU;generalize hR:vL n.name sc=R;have wl:qw.wrap ((sc.length:Int)-1)=(sc.length:Int)-1:=zWr;refine qSQ call145 func145 rfl { mt:=[3,5] } ?_;simp[go_sem,wl,qO];refine cH (fun m st=>m<=sc.length/\st.tm 1=lSb sc/\st.tm 3 = .ptr 0 0/\st.tm 5 = .ptr 1 0/\st.tm 6 = .ptr 2 0/\st.tm 7 = .ptr 3 0/\st.tm 9=aI ((m:Int)-1)/\st.mu=[.arr (cWk ts l s),.arr (cNd n),.arr zWc,.arr [aI 0,aS ⟨#[]⟩,aI 0,.lst true [],aI 0]]/\vL n.name (sc.take m)=R) sc.length ?_ ?_
 .simp [go_sem, *]
 rintro m st ⟨a1,j,o,p,r,t,C,I,P⟩;cases m with
 |zero =>
  have a0:R=none:=by rw[<-P];rfl
  subst a0;simp[go_sem,j,o,p,r,t,C,I,qO];refine fW [0,1,4,2,3] [(0,0,[]),(1,0,[]),(4,0,[]),(2,1,[1]),(3,1,[])] zKr zKr zSi ?_;simp[go_sem,j,o,p,r,t,C,I,qO]
  grind [XV]
 |succ m =>
  have g:m<sc.length:=zOm;have a2:(0:Int)<=((m+1:Nat):Int)-1:=zOm;have T:((m+1:Nat):Int)-1=(m:Int):=zOm;rw[T]at C;rw[jx g,VY]at P;have w1:qw.wrap ((m:Int)-1)=(m:Int)-1:=zWr;have a3:=hz _ (qv g);generalize i:sc[m]=e at *
  by_cases J:e.1=n.name
  .rw [if_pos J]at P
   subst P;have w2:qw.wrap (s.sM+e.2.size)=s.sM+e.2.size:=zWr;simp[go_sem,j,o,p,r,t,C,I,qO,g];refine cN zKr ?_;simp[go_sem,j,o,p,r,t,C,I,qO,g,i,J];cases ha:e.2.arg with
   |none =>
    simp[go_sem,j,o,p,r,t,C,I,qO,g,i,J,ha];refine fW [0,1,4,2,3] [(0,0,[]),(1,0,[]),(4,0,[]),(2,1,[1]),(3,1,[])] zKr zKr zSi ?_;have U:(cNd n).set 1 (AV.sc (.string e.2.name))=cNd (.mk n.op e.2.name n.n n.sD n.pos):=by rw[yD n,yD];rfl
    rw[U];simp[go_sem,j,o,p,r,t,C,I,qO]
    grind [XV]
   |some a =>
    simp[go_sem,j,o,p,r,t,C,I,qO,g,i,J,ha];refine fW [0,1,2,3,4,5,6,7,8,9] [(0,0,[]),(1,0,[]),(2,0,[]),(3,0,[]),(4,0,[]),(5,0,[]),(6,0,[]),(7,0,[]),(8,0,[]),(9,1,[])] zKr zKr zSi ?_;simp[go_sem,j,o,p,r,t,C,I,qO,g,i,J,ha,w2];refine fW [0,1,2,3,4,5,6,7,8,9,10,13,11,12] [(0,0,[]),(1,0,[]),(2,0,[]),(3,0,[]),(4,0,[]),(5,0,[]),(6,0,[]),(7,0,[]),(8,0,[]),(9,0,[]),(10,0,[]),(13,0,[]),(11,1,[5,10]),(12,1,[10])] zKr zKr zSi ?_;simp[go_sem,j,o,p,r,t,C,I,qO,g,i,J,ha,w2]
    grind [XV,payS]
  .rw [if_neg J]at P
   simp[go_sem,j,o,p,r,t,C,I,qO,g];refine cN zKr ?_;simp[go_sem,j,o,p,r,t,C,I,qO,g,i,jN J,w1];exact⟨m,zOm,aP ⟨zOm,zS1 j,zS1 o,zS1 p,zS1 r,zS1 t,zSi,zS1 I,P⟩⟩
theorem XW:∀ m n,szN n<=m->yf n->depN n<=1000000->qh qc 115 [eNd n] (aI (depN n))
 | 0,n,J,_,_=>by obtain⟨op,nm,i,ks,p⟩:=n;simp[szN]at J
 |m+1,n,J,P,R=>by
  have U:∀ k,k∈n.sD->qh qc 115 [eNd k] (aI (depN k)):=fun k j =>
   XW m k (zW1 (yw j)) (P.kid j) (by rw[Zs]at R;have:=qiU j;omega)
  rw[Zs]at R⊢;have T:=P.len;have a0:=W5 n.sD;generalize hD:ya n.sD=D at *
  refine qSU call115 func115 rfl ?_;refine aC n.sD.length (fun k st=>∃ d,st.tm 3=aI d/\st.tm 1 = .ip (cNd n)/\st.tm 4=aI k/\0<=d/\max d (ya (n.sD.drop k))=D) ?_ ?_
  .exact ⟨0,zSi,zSi,zSi,zOm,by grind⟩
  .rintro k st j ⟨d,r,l,t,a1,o⟩
   by_cases C:k=n.sD.length
   .subst C
    rw[yr]at o;simp only[ya]at o;have I:d=D:=zOm;subst I;have w:qw.wrap (d+1)=d+1:=zWr;simp[go_sem,r,l,t,w];exact .zsc _
   .have g:k<n.sD.length:=by omega
    have w1:=zWk k;rw[zB g]at o;simp only[ya]at o;simp[go_sem,r,l,t,g,qO];refine cY (U n.sD[k] (qv g)) (.zk (zd _) .nil) ?_;simp[go_sem,r,l,t,w1];refine⟨g,aP ?_⟩;refine⟨if d<depN n.sD[k] then depN n.sD[k] else d,zSi,zS1 l,zSi,?_,?_⟩
    .omega
    omega
end QX
namespace QY
open Y1 YX YA YB YC P1 P2 PA QE QX
section
variable {es:List (cL×Bool)}
structure ScOf (ts:TS) (body:Bool) (sc:List Sb) (env:IEnv):Prop where
 look:∀ nm,vL nm sc=getK nm env
 own:body=false->∀ nm v,getK nm env=some v->means ts nm≠[]
 sz:∀ e,e∈sc->0<=e.2.size/\e.2.size<=4000
def OutR(r:XR (Nd×Int))(s':ISt)(n':Nd)(z:Int):Prop:=match r with
 | .ok ((m,y),t)=>n'=m/\z=y/\s'=t
 | .error _=>4000<s'.sM/\s'.sM<=9000/\0<=z/\z<=4000
def renR(ts:TS)(es:List (cL×Bool))(sc:List Sb)(nm:cL)(body:Bool)(s:ISt):(List Sb×cL)×ISt:=
 if body=true\/means ts nm≠[] then
  ((sc++[(nm,⟨none,0,vN (zz ts es (qt ts es) s.last)⟩)],vN (zz ts es (qt ts es) s.last)),⟨zz ts es (qt ts es) s.last,s.sM⟩)
 else ((sc,nm),s)
abbrev XO:=ISt×Nd×Int
def jU(E:Nd->ISt->XO):List (cL×Int)->List Nd->List Sb->ISt->Except ISt (List Sb×ISt)
 |p :: g,k :: ks,own,s=>if 4000<(E k s).1.sM then .error (E k s).1 else jU E g ks (own++[(p.1,⟨some (E k s).2.1,(E k s).2.2,⟨#[]⟩⟩)]) (E k s).1
 |_,_,own,s => .ok (own,s)
def vo(E:List Sb->Nd->ISt->XO)(R:List Sb->cL->ISt->(List Sb×cL)×ISt)(bin:Bool):Nat->List Sb->cL->List Nd->ISt->Except ISt ((cL×List Nd×Int)×ISt)
 |_,_,g,[],s => .ok ((g,[],0),s)
 |i,sc,g,k :: ks,s =>
  let r:=if bin=true/\i=1 then R sc g s else ((sc,g),s)
  let q:=E r.1.1 k r.2
  if 4000<q.1.sM then .error q.1 else match vo E R bin (i+1) r.1.1 r.1.2 ks q.1 with
   | .error e => .error e
   | .ok ((j,l,p),o) => .ok ((j,q.2.1 :: l,q.2.2+p),o)
def expR(ts:TS)(es:List (cL×Bool)):Nat->List Sb->Nd->Bool->ISt->XO
 | 0,_,n,_,s=>(s,n,0)
 |f+1,sc,n,g,s =>
  if s.sM+1<=4000 then
   if n.op=1 then ((uU sc n (payS 1 s)).2,(uU sc n (payS 1 s)).1.1,(uU sc n (payS 1 s)).1.2)
   else if n.op=47 then match ts.sT.find? fun p=>decide (p.name=n.name) with
    |none=>(payS 1 s,n,1)
    |some p=>match jU (fun k s=>expR ts es f sc k g s) p.params n.sD [] (payS 1 s) with
     | .error j=>(j,nd0,0)
     | .ok (own,j)=>expR ts es f own p.body true j
   else match vo (fun sc k s=>expR ts es f sc k g s) (fun sc i s=>renR ts es sc i g s) (binB n.op) 0 sc n.name n.sD (payS 1 s) with
    | .error j=>(j,nd0,0)
    | .ok ((i,ks,m),j)=>(j,.mk n.op i n.n ks n.pos,1+m)
  else (payS 1 s,nd0,0)
theorem VZ{F s s' z}(g:Gos F s s' z)(h:StOk F s):StOk F s'/\s.sM<=s'.sM/\z<=4000:=⟨g.ok h,zW2 g.cz g.z0,by have:=g.cz;have:=g.c1;have:=h.c0;omega⟩
theorem qaW{F f:Nat}{E E'}:∀ ps ks own i s,
  (∀ k,k∈ks->∀ s,StOk F s->4000<s.sM+(f:Int)->OutR (E k s) (E' k s).1 (E' k s).2.1 (E' k s).2.2)->(∀ k n' z s s',k∈ks->StOk F s->E k s = .ok ((n',z),s')->Gos F s s' z) ->
  StOk F s->4000<s.sM+(f:Int)->qV own->(∀ nm,vL nm i=getK nm own)->(∀ e,e∈i->0<=e.2.size/\e.2.size<=4000) ->
  match jh E ps ks own s with
  | .error _=>∃ t,jU E' ps ks i s = .error t/\4000<t.sM/\t.sM<=9000
  | .ok (l,s')=>∃ j,jU E' ps ks i s = .ok (j,s')/\qV l/\(∀ nm,vL nm j=getK nm l)/\(∀ e,e∈j->0<=e.2.size/\e.2.size<=4000)/\StOk F s'/\s.sM<=s'.sM
 | [],ks,own,i,s,_,_,o,_,J,P,R=>by simp only[jh,jU];exact⟨i,rfl,J,P,R,o,jy _⟩
 |p :: ps,[],own,i,s,_,_,o,_,J,P,R=>by simp only[jh,jU];exact⟨i,rfl,J,P,R,o,jy _⟩
 |p :: ps,k :: ks,own,i,s,hE,hG,o,hf,J,P,R=>by
  simp only[jh,jU];have C:=hE k (qN ..) s o hf;have h2:=fun n' z s'=>hG k n' z s s' (qN ..) o
  generalize E' k s=Q at *
  cases T:E k s with
  |error d =>
   rw[T]at C;simp only;rw[if_pos C.1];exact⟨_,rfl,C.1,C.2.1⟩
  |ok r =>
   obtain⟨⟨m,y⟩,t⟩:=r;rw[T]at C;obtain⟨e1,e2,e3⟩:=C;have g:=h2 m y t T;obtain⟨g1,g2,g3⟩:=VZ g o;have hc:=g.c1;simp only;rw[if_neg (by rw[e3];omega),e1,e2,e3];have ih:=qaW (F:=F) (f:=f) ps ks (setK p.1 ⟨some m,y,⟨#[]⟩⟩ own) (i++[(p.1,⟨some m,y,⟨#[]⟩⟩)]) t (fun k U=>hE k (qB _ U)) (fun k n' z s s' U=>hG k n' z s s' (qB _ U)) g1 zOm (J.set ⟨g.z0,g3⟩) (fun nm=>by
    rw[VY,uI,P];by_cases e:p.1=nm
    .grind
    .rw [if_neg e,if_neg fun x=>e x.symm]) (fun e I=>by
    rcases qI.1 I with I|I
    .exact R e I
    .rw [qL]at I;subst I;exact⟨g.z0,g3⟩)
   grind
theorem qaX{ts env sc nm body s}(j:qV env)(h:ScOf ts body sc env) :
  ScOf ts body (renR ts es sc nm body s).1.1 (renI ts es env nm body s).1.1/\(renR ts es sc nm body s).1.2=(renI ts es env nm body s).1.2/\(renR ts es sc nm body s).2=(renI ts es env nm body s).2:=by
 unfold renR renI;by_cases l:body=true\/means ts nm≠[]
 .rw [if_pos l,if_pos l]
  refine⟨⟨fun x=>?_,fun i x v g=>?_,fun e o=>?_⟩,rfl,rfl⟩
  .simp only
   rw[VY,uI,we j.nd,h.look];by_cases e:nm=x
   .grind
   .rw [if_neg e,if_neg fun y=>e y.symm,if_neg fun y=>e y.symm]
  .simp only at g
   rw[uI,we j.nd]at g;by_cases e:x=nm
   .grind
   .rw [if_neg e,if_neg e]at g
    exact h.own i x v g
  .rcases qI.1 o with o|o
   .exact h.sz e o
   grind
 .rw [if_neg l,if_neg l]
  refine⟨⟨fun x=>?_,fun i x v g=>?_,h.sz⟩,rfl,rfl⟩
  .simp only
   rw[we j.nd,h.look];by_cases e:x=nm
   .rw [if_pos e]
    cases p:getK x env with
    |none=>rfl
    |some v =>
     have i:body=false:=by grind
     exact absurd (h.own i x v p) (by grind)
   .rw [if_neg e]
  .simp only at g
   rw[we j.nd]at g;split at g
   .cases g
   .exact h.own i x v g
theorem qaY{ts es}(C:Free ts es){f:Nat}{body E E' bin}:∀ ks i env sc nm s,
  (∀ k,k∈ks->∀ env sc s,StOk (qt ts es) s->4000<s.sM+(f:Int)->qV env->ScOf ts body sc env->OutR (E env k s) (E' sc k s).1 (E' sc k s).2.1 (E' sc k s).2.2) ->
  (∀ env k n' z s s',k∈ks->StOk (qt ts es) s->qV env->E env k s = .ok ((n',z),s')->Gos (qt ts es) s s' z) ->
  0<=s.last->0<=s.sM->s.sM<=4000->dueN (qt ts es) bin i<=pot (qt ts es) s->4000<s.sM+(f:Int)->qV env->ScOf ts body sc env ->
  match yR E (fun env nm s=>renI ts es env nm body s) bin i env nm ks s with
  | .error _=>∃ t,vo E' (fun sc nm s=>renR ts es sc nm body s) bin i sc nm ks s = .error t/\4000<t.sM/\t.sM<=9000
  | .ok r=>vo E' (fun sc nm s=>renR ts es sc nm body s) bin i sc nm ks s = .ok r
 | [],i,env,sc,nm,s,_,_,_,_,_,_,_,_,_=>by simp only[yR,vo]
 |k :: ks,i,env,sc,nm,s,hE,hG,l0,c0,c1,hp,hf,R,I=>by
  simp only[yR,vo];obtain⟨r,J⟩:∃ r,(if bin=true/\i=1 then renI ts es env nm body s else ((env,nm),s))=r:=⟨_,rfl⟩;obtain⟨l,j⟩:∃ l,(if bin=true/\i=1 then renR ts es sc nm body s else ((sc,nm),s))=l:=⟨_,rfl⟩;have hR:ScOf ts body l.1.1 r.1.1/\l.1.2=r.1.2/\l.2=r.2/\qV r.1.1/\StOk (qt ts es) r.2/\r.2.sM=s.sM/\dueN (qt ts es) bin (i+1)<=pot (qt ts es) r.2:=by
   by_cases hb:bin=true/\i=1
   .rw [if_pos hb]at J j
    subst J;subst j;obtain⟨a1,a2,a3⟩:=qaX (es:=es) (nm:=nm) (s:=s) R I;have a4:=Vw (ts:=ts) (es:=es) (nm:=nm) (body:=body) (s:=s) R;obtain⟨b1,b2,T⟩:=Vx (body:=body) (nm:=nm) (env:=env) C l0;have hd:dueN (qt ts es) bin i=(qt ts es:Int):=by simp_all[dueN,if_pos]
    have a0:dueN (qt ts es) bin (i+1)=0:=by simp_all[dueN,if_neg]
    rw[hd]at hp;have P:0<=pot (qt ts es) (renI ts es env nm body s).2:=by
     grind [pot]
    exact⟨a1,a2,a3,a4,⟨b1,by rw[T];exact c0,by rw[T];exact c1,P⟩,T,zOm⟩
   .rw [if_neg hb]at J j
    subst J;subst j;have hd:dueN (qt ts es) bin (i+1)<=dueN (qt ts es) bin i:=by
     unfold dueN;split
     .grind
     omega
    have a5:0<=dueN (qt ts es) bin i:=by grind [dueN]
    exact⟨I,rfl,rfl,R,⟨l0,c0,c1,by grind⟩,rfl,by grind⟩
  rw[J,j];obtain⟨q1,q2,q3,U,q5,q6,q7⟩:=hR;rw[q2,q3];have o:=hE k (qN ..) r.1.1 l.1.1 r.2 q5 zOm U q1;have h2:=fun n' z s'=>hG r.1.1 k n' z r.2 s' (qN ..) q5 U
  generalize E' l.1.1 k r.2=Q at *
  cases hq:E r.1.1 k r.2 with
  |error d =>
   rw[hq]at o;simp only;rw[if_pos o.1];exact⟨_,rfl,o.1,o.2.1⟩
  |ok x =>
   obtain⟨⟨m,y⟩,t⟩:=x;rw[hq]at o;obtain⟨e1,e2,e3⟩:=o;have g:=h2 m y t hq;obtain⟨g1,g2,g3⟩:=VZ g q5;have hc:=g.c1;have a6:=g.p;simp only;rw[if_neg (by rw[e3];omega),e1,e2,e3];have ih:=qaY C (f:=f) (body:=body) (E:=E) (E':=E') (bin:=bin) ks (i+1) r.1.1 l.1.1 r.1.2 t (fun k hk=>hE k (qB _ hk)) (fun env k n' z s s' hk=>hG env k n' z s s' (qB _ hk)) g1.l0 g1.c0 g1.c1 zOm zOm U q1;cases hx:yR E (fun env nm s=>renI ts es env nm body s) bin (i+1) r.1.1 r.1.2 ks t with
   |error d =>
    rw[hx]at ih;obtain⟨t',a1,a2,a3⟩:=ih
    grind
   |ok x =>
    grind
theorem ZD(ts es)(j:Free ts es)(hb:∀ p,p∈ts.sT->WfN p.body/\ju ts p.body):∀(f:Nat)(env sc n body s),
  4000<s.sM+(f:Int)->StOk (qt ts es) s->qV env->WfN n->ju ts n->ScOf ts body sc env->OutR (expI ts es f env n body s) (expR ts es f sc n body s).1 (expR ts es f sc n body s).2.1 (expR ts es f sc n body s).2.2
 | 0,env,sc,n,body,s,hf,g,_,_,_,_=>zW1 g.c1
 |f+1,env,sc,n,body,s,hf,g,r,hw,I,o=>by
  have a8:=g.c0;have a9:=g.c1;have p1:(payS 1 s).sM=s.sM+1:=rfl;simp only[expI,expR];by_cases J:s.sM+1<=4000
  case neg =>
   rw[if_neg J,if_neg J];exact⟨by rw[p1];omega,by rw[p1];omega,zSp,zSp⟩
  rw[if_pos J,if_pos J];have C:=(Qe g (n:=1) zOm J).ok g;by_cases h1:n.op=1
  .rw [if_pos h1,if_pos h1]
   unfold uU wo;rw[o.look];cases hg:getK n.name env with
   |none=>exact⟨rfl,rfl,rfl⟩
   |some v =>
    have hv:=r.sz _ ((Yd r.nd).1 hg);have hv:0<=v.size/\v.size<=4000:=hv;simp only;cases P:v.arg with
    |none=>exact⟨rfl,rfl,rfl⟩
    |some a =>
     simp only;have e2:(payS v.size (payS 1 s)).sM=(payS 1 s).sM+v.size:=rfl;by_cases R:(payS 1 s).sM+v.size<=4000
     .rw [if_pos R];exact⟨rfl,rfl,rfl⟩
     .rw [if_neg R]
      exact⟨by rw[e2];omega,by rw[e2];omega,hv.1,hv.2⟩
  rw[if_neg h1,if_neg h1];by_cases h47:n.op=47
  .rw [if_pos h47,if_pos h47]
   obtain⟨p,T,a7⟩:=I n (vI n) h47;have a0:=List.mem_of_find?_eq_some T;rw[T];simp only;have P:=qaW (F:=qt ts es) (f:=f) (E:=fun k s=>expI ts es f env k body s) (E':=fun k s=>expR ts es f sc k body s) p.params n.sD [] [] (payS 1 s)
    (fun k l s g hf=>ZD ts es j hb f env sc k body s hf g r (hw.kid l) (I.kid l) o)
    (fun k n' z s s' l g e=>vj ts j f g r e) C (by rw[p1];omega) .nil (fun i=>rfl) (fun e hm=>absurd hm qG)
   cases U:jh (fun k s=>expI ts es f env k body s) p.params n.sD [] (payS 1 s) with
   |error d =>
    rw[U]at P;obtain⟨t,a1,a2,a3⟩:=P;rw[a1];exact⟨a2,a3,zSp,zSp⟩
   |ok x =>
    obtain⟨own,s'⟩:=x;rw[U]at P;obtain⟨L,a1,a2,a3,a4,a5,a6⟩:=P;rw[a1];obtain⟨b1,b2⟩:=hb p a0;exact ZD ts es j hb f own L p.body true s' zOm a5 a2 b1 b2 ⟨a3,fun h=>absurd h zSp,a4⟩
  .rw [if_neg h47,if_neg h47]
   have l:=qaY j (f:=f) (body:=body) (E:=fun env k s=>expI ts es f env k body s) (E':=fun sc k s=>expR ts es f sc k body s) (bin:=binB n.op) n.sD 0 env sc n.name (payS 1 s)
    (fun k l env sc s g hf r o=>ZD ts es j hb f env sc k body s hf g r (hw.kid l) (I.kid l) o)
    (fun env k n' z s s' l g r e=>vj ts j f g r e) C.l0 C.c0 C.c1 (by
     rw[Zu];have:=g.p
     grind [dueN]) (by rw[p1];omega) r o
   cases U:yR (fun env k s=>expI ts es f env k body s) (fun env i s=>renI ts es env i body s) (binB n.op) 0 env n.name n.sD (payS 1 s) with
   |error d =>
    rw[U]at l;obtain⟨t,a1,a2,a3⟩:=l;rw[a1];exact⟨a2,a3,zSp,zSp⟩
   |ok x =>
    obtain⟨⟨i,ks,m⟩,s'⟩:=x;rw[U]at l;rw[l];exact⟨rfl,rfl,rfl⟩
end
end QY
end Go.Proofs.YthkdjhkmlmjkbaaGreatDoor
