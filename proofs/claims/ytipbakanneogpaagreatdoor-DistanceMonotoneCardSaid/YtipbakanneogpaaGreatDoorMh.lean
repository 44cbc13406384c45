/-
  Own library, part 8: an abstract reading of values and a calculus over it; contracts of functions; plain lemmas.
-/
import Derived.Test.YtipbakanneogpaaGreatDoorMg
set_option linter.unusedVariables false
set_option linter.unusedSimpArgs false
set_option maxRecDepth 100000
open Go renaming Program->qb
open Go.Proofs.Tryz renaming prog->qe
open List renaming getElem?_eq_some_iff->qk,mem_map->qn,getElem_mem->qs,range->qu,mem_cons->qy,getElem?_eq_getElem->qA,not_mem_nil->qG,getElem?_set_self->qL,mem_append->qM,getElem?_append_left->qN,take_length->qO,mem_singleton->qV,mem_cons_of_mem->q8,length_append->zd,mem_cons_self->zg,drop_eq_getElem_cons->zu,append_assoc->zB,all_eq_true->zF,length_cons->zG,getElem?_append_right->zM,append_nil->zO,getD_eq_getElem?_getD->zS,length_map->zT,take_of_length_le->z6,drop_length->yd,mem_range->yi,mem_filter->jH,nil_append->vw,foldl_append->vM,take_append_drop->vO,take_succ_eq_append_getElem->vZ,getElem?_cons_succ->v6,getElem?_eq_none->uK,flatMap_cons->w7,mem_flatMap->Qa,drop_eq_nil_of_le->WT
open Go.IntKind renaming i64->qq
open Nat renaming le_refl->qr,le_trans->zQ
open Option.some renaming injEq->qv
open Bool renaming and_eq_true->qH
open Int renaming mul_le_mul->jJ,le_refl->v7
open Prod.mk renaming injEq->uM
namespace Go.Proofs.YtipbakanneogpaaGreatDoor
open Go Go.Ev Go.Proofs Tryz
namespace QL
open YF Y9 Y1 Y2 P1 QD QE QF QI QJ QK
abbrev cVw(c:Ck)(inn:Bool):List AV:=[lSo c.ts.sS,lFl c.ts.sA,lPd c.ts.sT,lFa c.ts.sP,lBo c.timed,aI c.calls,aB inn]
abbrev eVw(c:Ck)(inn:Bool):AV := .agg (cVw c inn)
def envS(s:Scp):List Vr:=s.reverse.map fun v=>(v.1,qt v.2)
theorem WC(s):(envS s).length=s.length:=by simp[envS]
theorem qeR(env):envV env=envS (zW env):=by
 have h:∀(l:List (tP×Int))(a:Scp),l.foldl (fun s p=>(p.1,kOf [p.2]) :: s) a=(l.map fun p=>(p.1,kOf [p.2])).reverse++a:=by
  intro l;induction l with
  |nil=>intro a;rfl
  |cons p l g=>intro a;rw[List.foldl_cons,g];simp
 unfold envV envS zW;rw[h,zO,List.reverse_reverse,List.map_map];rfl
theorem qr1(s d h g):(envS s)[s.length-1-d]=(s[d].1,qt s[d].2):=by
 have e:s.length-1-(s.length-1-d)=d:=zOm;simp[envS,List.getElem_reverse,e]
abbrev zR:RS:=(0,fun _=>false)
abbrev eDg(d:Dg):AV := .agg [aI d.1,aI d.2]
def endR(z:RS):Res->AV
 | .error e => .tup [eRS z,eDg e]
 | .ok (some k) => .tup [eRS (qt k),eDg (0,0)]
 | .ok none => .tup [eRS zR,eDg (0,0)]
theorem vJ(s d):HF (.tup [eRS s,eDg d]):=HF.tup fun x g=>by
 rcases qy.1 g with rfl|g
 .exact yO s
 .rw [qV]at g;subst g
  exact HF.agg fun c i=>by
   rcases qy.1 i with rfl|i
   .exact HF.sc _
   .rw [qV]at i;subst i;exact HF.sc _
theorem cH{ts}(h:okTS ts):okNm ts:=⟨h.sl,zW1 h.ns,zW1 h.nf,fun f hf=>zW1 (h.fl f hf)⟩
theorem KC(c)(hc:okCk c)(inn s n)(hs:s.length<=100000):qi qe 144 [eVw c inn,lVr (envS s),eNd n] (endR zR (jD c s n.name n.pos)):=by
 generalize i:endR zR (jD c s n.name n.pos)=R;unfold jD at i;refine qSV call144 func144 rfl ?_;have a1:=WC s;have w0:qq.wrap ((s.length:Int)-1)=(s.length:Int)-1:=zWr;simp[go_sem,a1,w0];refine aK s.length (fun d T=>T.tm 1=lVr (envS s)/\T.tm 3 = .ip (cVw c inn)/\T.tm 5 = .ip (cNd n)/\T.tm 6 = .ptr 0 0/\T.tm 7 = .ptr 1 0/\T.tm 8=aI ((s.length:Int)-1-d)/\T.mu=[.arr (aI 0 :: hB fun _=>false),.arr [aI 0,aI 0]]/\jx n.name (s.drop d)=jx n.name s) ?_ ?_
 .exact ⟨zSi,zSi,zSi,zSi,zSi,zSi,by simp[go_sem];first|rfl|exact⟨rfl,rfl⟩,rfl⟩
 rintro d T hd ⟨e1,e3,r,p,I,j,hm,t⟩;by_cases J:d<s.length
 .have U:s.length-1-d<(envS s).length:=by omega
  have g:=qr1 s d J U;obtain⟨e,he⟩:∃ e:Nat,e=s.length-1-d:=⟨_,rfl⟩;have a2:(s.length:Int)-1-d=(e:Int):=zOm;rw[a2]at j;rw[<-he]at U;have g:(envS s)[e]=(s[d].1,qt s[d].2):=by simp only[he];exact g
  have w1:qq.wrap ((e:Int)-1)=(s.length:Int)-1-((d+1:Nat):Int):=by rw[zWr];omega
  rw[zu J]at t;have h0:(0:Int)<=(e:Int):=zOm;by_cases hq:s[d].1=n.name
  .have hf:jx n.name s=s[d] :: s.drop (d+1):=by rw[<-t,jx,if_pos hq]
   rw[hf]at i;simp only[endR]at i;have i:R = .tup [eRS (qt s[d].2),eDg (0,0)]:=i.symm;subst i;simp[go_sem,j,hm];refine cJ zKr ?_;simp[go_sem,e1,j,U,g,hq];generalize qt s[d].2=q at *
   simp[go_sem,e1,r,p,j,U,g,qw,tk,pc];rw[if_pos (zj _)];simp[go_sem,p,I,qw,tk];exact .hf _ (vJ q (0,0))
  .rw [jx,if_neg hq]at t
   simp[go_sem,j,hm];refine cJ zKr ?_;simp[go_sem,e1,r,j,U,g,j0 hq,w1,qw];exact⟨zOm,aA ⟨zS1 e1,zS1 e3,zS1 r,zS1 p,zS1 I,zSi,zSi,t⟩⟩
 .have a3:d=s.length:=by omega
  subst a3;have j:T.tm 8=aI (-1):=by rw[j];congr 2;omega
  rw[yd]at t;rw[<-t]at i;simp only[jx]at i;have hN:=kX c.ts (cH hc.ts) n.name;have a0:=kW c.ts n.name;rw[pj hc.ts]at hN a0;simp[go_sem,e3,r,j,hm];refine tS hN (.zk (zp _) (.zs .nil)) ?_;have o:SetC (fin (aI 0 :: zs) (means c.ts n.name)):=a0;generalize a4:means c.ts n.name=ms at *
  match ms,a4 with
  | [],_ =>
   simp only[endR]at i;subst i;generalize fin (aI 0 :: zs) []=C at *
   simp[go_sem,o.len];rw[if_pos o.one];simp[go_sem];refine fD [0,1,2,3,4,5] [(0,0,[]),(1,0,[]),(2,0,[]),(3,0,[]),(4,1,[2]),(5,1,[])] zKr zKr zSi ?_;simp[go_sem,r,p,I,nX,qw];exact .hf _ (vJ zR (_,n.pos))
  | [k],_ =>
   simp only[endR]at i;subst i;have e:fin (aI 0 :: zs) [k]=aI (qt k).1 :: hB (qt k).2:=rfl;rw[e]at o⊢;generalize qt k=q at *
   simp[go_sem,o.len];rw[if_pos (zj _)];generalize hP:putCells _ 0 (aI q.1 :: hB q.2)=P;have a5:P=aI q.1 :: hB q.2:=by rw[<-hP];exact pc (aI 0) _ (fun _=>false) _
   subst a5;clear hP;simp[go_sem,p,o.len,qw,tk,pc];rw[if_pos (zj _)];simp[go_sem,p,I,o.len,tk];exact .hf _ (vJ q (0,0))
  |k1 :: k2 :: l,_ =>
   simp only[endR]at i;subst i;generalize fin (aI 0 :: zs) (k1 :: k2 :: l)=C at *
   simp[go_sem,o.len];rw[if_pos o.one];simp[go_sem];have a6:¬((l.length:Int)+1+1=0):=zOm;have a7:(1:Int)<(l.length:Int)+1+1:=zOm;simp[go_sem,a6,a7];refine fD [0,1,2,3,4,5] [(0,0,[]),(1,0,[]),(2,0,[]),(3,0,[]),(4,1,[2]),(5,1,[])] zKr zKr zSi ?_;simp[go_sem,r,p,I,nX,qw];exact .hf _ (vJ zR (_,n.pos))
end QL
namespace QM
open Y1
theorem qr2(n):qi qe 91 [eNd n] (aB (decide (30<=n.op))):=by
 refine qSV call91 func91 rfl ?_;by_cases h:30<=n.op
 .simp [go_sem,h];exact .zsc _
 .simp [go_sem,h];exact .zsc _
end QM
namespace QN
open Y1 Y2 YF Y9 Y10 P1 P2 QD QE QF QH QL
def setO:Option Kd->RS
 |some k=>qt k
 |none=>zR
abbrev lRS(l:List RS):AV := .lst false (l.map cRS)
theorem qr3(v):∀ c,c∈cRS v->HF c:=fun c g=>((setC v).sc c g).2
theorem qr4(v):∀ c,c∈cRS v->c.one=true:=fun c g=>((setC v).sc c g).1
theorem pm(l:List RS):zo 65 (l.map cRS):=fun r g=>by
 obtain⟨v,_,rfl⟩:=qn.1 g
 grind [hB,zF,qr4]
theorem appRS{mu lo s x}{xs ys:List RS}{K}(j:OwnF lo mu 65 s (xs.map cRS))(l:qE mu x=some (ys.map cRS))(o:xs.length+ys.length<=100000)(p:∀ av mu',OwnF lo mu' 65 av ((xs++ys).map cRS)->(∀ i,i<lo->mu'[i]?=mu[i]?)->K av mu') :
  qz qe mu #[232,232] s x K:=by
 refine qz.ownF (lo:=lo) (e:=165) (sz:=65) (bt:=72) (zv := .agg (aI 0 :: zs)) (xs:=xs.map cRS) (ys:=ys.map cRS) zSi zSi (by simp[go_sem];rfl) rfl rfl zOm zOm j l (pm xs) (pm ys) zSo ?_
 grind
theorem rdRS{lo mu av l}(i:OwnF lo mu 65 av (l.map cRS)):Rd mu av (lRS l):=
 Own.rd (sz:=65) i.1 (pm l).ok fun r j c o=>by
  obtain⟨v,_,rfl⟩:=qn.1 j;exact qr3 v c o
theorem j7(s b):HF (.tup [eRS s,aB b]):=HF.tup fun x g=>by
 rcases qy.1 g with rfl|g
 .exact yO s
 grind [qV,HF.sc]
def ApE(op:Int):Res->RS->Bool->Prop
 | .ok k,S,b=>b=true/\(kd op=101->∃ q,k=some q/\S=qt q)
 | .error _,S,b=>b=false
theorem wkS1(a):WKs [eRS a] [eRS a] := .zk (yO _) .nil
theorem wkS2(a b):WKs [eRS a,eRS b] [eRS a,eRS b] := .zk (yO _) (.zk (yO _) .nil)
theorem wkTI(ts k):WKs [eTS ts,aI k] [eTS ts,aI k] := .zk (zp _) (.zs .nil)
theorem qeS(n):eRS (n,fun _=>false)=eRS (qt ⟨n,[]⟩):=Ze rfl fun j _=>(decide_eq_false fun h=>absurd h.2 qG).symm
def itS:Nat->RS->RS
 | 0,s=>s
 |i+1,s=>uniS (itS i s) (Yi (itS i s) (itS i s))
theorem qeT(s):∀ i,(itS i s).1=s.1
 | 0=>rfl
 |i+1=>qeT s i
theorem qeU(g)(h:1<=g.1/\g.1<=3):qi qe 198 [eRS g] (eRS (itS 4 g)):=by
 refine qSQ call198 func198 rfl { mt:=[1] } ?_;simp[go_sem];refine⟨zj _,?_⟩;refine aK 4 (fun i T=>T.tm 1 = .ptr 0 0/\T.tm 2 = .ptr 1 0/\T.tm 3=aI i/\T.mu=[.arr (cRS (itS i g)),.arr (aI 0 :: hB fun _=>false)]) ?_ ?_
 .exact ⟨zSi,zSi,zSi,by simp[go_sem];exact⟨⟨rfl,rfl⟩,rfl⟩⟩
 rintro i T hi ⟨l,p,r,t⟩;by_cases J:i<4
 .have j:(i:Int)<4:=by omega
  have w1:=zWk i;have P:=qeT g i;have R:=wG (itS i g) (itS i g) zOm zOm;have C:=vF (itS i g) (Yi (itS i g) (itS i g));have I:uniS (itS i g) (Yi (itS i g) (itS i g))=itS (i+1) g:=rfl;rw[I]at C;clear I;generalize U:itS (i+1) g=s' at *
  generalize Yi (itS i g) (itS i g)=q at *
  generalize itS i g=s at *
  simp[go_sem,r,t,j];refine cJ zKr ?_;simp[go_sem,l,qw,tk];refine fR R (.zk (yO _) (.zk (yO _) .nil)) ?_;refine tS C (.zk (yO _) (.zk (yO _) .nil)) ?_;simp[go_sem,l,qw,pc];rw[if_pos (zj _)];simp_all[go_sem,aA]
 .have o:i=4:=by omega
  subst o;generalize itS 4 g=s at *
  simp[go_sem,l,p,r,t,qw,tk,pc];rw[if_pos (zj _)];simp[go_sem,p,qw,tk];exact .hf _ (yO s)
def prC(ts:TS)(n:Nd)(l:List RS)(S:RS)(b:Bool):Prop:=qi qe 147 [eTS ts,eNd n,lRS l] (.tup [eRS S,aB b])
theorem ap2(ts n L)(h:n.op=2):prC ts n L (n.n,fun _=>false) true:=by
 unfold prC;refine qSV call147 func147 rfl ?_;simp[go_sem,h];exact .hf _ (j7 (n.n,fun _=>false) true)
theorem ap3(ts)(ok:okTS ts)(n L)(h:n.op=3):prC ts n L (qt (zH ts.sS.length 1)) true:=by
 unfold prC;refine qSV call147 func147 rfl ?_;have c1:=allU ts ok 1 zOm;generalize qt (zH ts.sS.length 1)=q at *
 simp[go_sem,h];refine tS c1 (wkTI ts 1) ?_;simp[go_sem,qw];rw[if_pos (zj _)];generalize i:putCells _ 0 (aI q.1 :: hB q.2)=P;have g:P=aI q.1 :: hB q.2:=by rw[<-i];exact pc (aI 0) _ (fun _=>false) _
 subst g;clear i;simp[go_sem,qw,tk];exact .hf _ (j7 q _)
theorem ap4(ts)(ok:okTS ts)(n L)(h:n.op=4):prC ts n L (qt (zH ts.sS.length 2)) true:=by
 unfold prC;refine qSV call147 func147 rfl ?_;have c1:=allU ts ok 2 zOm;generalize qt (zH ts.sS.length 2)=q at *
 simp[go_sem,h];refine tS c1 (wkTI ts 2) ?_;simp[go_sem,qw];rw[if_pos (zj _)];generalize i:putCells _ 0 (aI q.1 :: hB q.2)=P;have g:P=aI q.1 :: hB q.2:=by rw[<-i];exact pc (aI 0) _ (fun _=>false) _
 subst g;clear i;simp[go_sem,qw,tk];exact .hf _ (j7 q _)
theorem ap5(ts n q)(h:n.op=5):prC ts n [q] q true:=by
 unfold prC;refine qSV call147 func147 rfl ?_;simp[go_sem,h,qw,tk];rw[if_pos (zj _)];generalize i:putCells _ 0 (aI q.1 :: hB q.2)=P;have g:P=aI q.1 :: hB q.2:=by rw[<-i];exact pc (aI 0) _ (fun _=>false) _
 subst g;clear i;simp[go_sem,qw,tk];exact .hf _ (j7 q _)
theorem ap6(ts n q r S)(h:n.op=6)(c:qi qe 193 [eRS q,eRS r] (eRS S)):prC ts n [q,r] S (decide (q.1=r.1)):=by
 unfold prC;refine qSV call147 func147 rfl ?_;simp[go_sem,h];refine fD [0,1,2,3,4,5,7,8,9,10,11,12,13,14,15,17,6,16] [(0,0,[]),(1,0,[]),(2,0,[]),(3,0,[]),(4,0,[]),(5,0,[]),(7,0,[]),(8,0,[]),(9,0,[]),(10,0,[]),(11,0,[]),(12,0,[]),(13,0,[]),(14,0,[]),(15,0,[]),(17,0,[]),(6,1,[10,14]),(16,1,[10,14])] zKr zKr zSi ?_;simp[go_sem,qw,tk];refine tS c (wkS2 q r) ?_;simp[go_sem,qw];rw[if_pos (zj _)];generalize i:putCells _ 0 (aI S.1 :: hB S.2)=P;have g:P=aI S.1 :: hB S.2:=by rw[<-i];exact pc (aI 0) _ (fun _=>false) _
 subst g;clear i;simp[go_sem,qw,tk];exact .hf _ (j7 S _)
theorem ap14(ts n q r S)(h:n.op=14)(c:qi qe 193 [eRS q,eRS r] (eRS S)):prC ts n [q,r] S (decide (q.1=r.1)):=by
 unfold prC;refine qSV call147 func147 rfl ?_;simp[go_sem,h];refine fD [0,1,2,3,4,5,7,8,9,10,11,12,13,14,15,17,6,16] [(0,0,[]),(1,0,[]),(2,0,[]),(3,0,[]),(4,0,[]),(5,0,[]),(7,0,[]),(8,0,[]),(9,0,[]),(10,0,[]),(11,0,[]),(12,0,[]),(13,0,[]),(14,0,[]),(15,0,[]),(17,0,[]),(6,1,[10,14]),(16,1,[10,14])] zKr zKr zSi ?_;simp[go_sem,qw,tk];refine tS c (wkS2 q r) ?_;simp[go_sem,qw];rw[if_pos (zj _)];generalize i:putCells _ 0 (aI S.1 :: hB S.2)=P;have g:P=aI S.1 :: hB S.2:=by rw[<-i];exact pc (aI 0) _ (fun _=>false) _
 subst g;clear i;simp[go_sem,qw,tk];exact .hf _ (j7 S _)
theorem ap7(ts n q r S)(h:n.op=7)(c:qi qe 194 [eRS q,eRS r] (eRS S)):prC ts n [q,r] S (decide (q.1=r.1)):=by
 unfold prC;refine qSV call147 func147 rfl ?_;simp[go_sem,h];refine fD [0,1,2,3,4,5,7,8,9,10,11,12,13,14,15,17,6,16] [(0,0,[]),(1,0,[]),(2,0,[]),(3,0,[]),(4,0,[]),(5,0,[]),(7,0,[]),(8,0,[]),(9,0,[]),(10,0,[]),(11,0,[]),(12,0,[]),(13,0,[]),(14,0,[]),(15,0,[]),(17,0,[]),(6,1,[10,14]),(16,1,[10,14])] zKr zKr zSi ?_;simp[go_sem,qw,tk];refine tS c (wkS2 q r) ?_;simp[go_sem,qw];rw[if_pos (zj _)];generalize i:putCells _ 0 (aI S.1 :: hB S.2)=P;have g:P=aI S.1 :: hB S.2:=by rw[<-i];exact pc (aI 0) _ (fun _=>false) _
 subst g;clear i;simp[go_sem,qw,tk];exact .hf _ (j7 S _)
theorem ap8(ts n q r)(h:n.op=8):prC ts n [q,r] q (decide (q.1=r.1)):=by
 unfold prC;refine qSV call147 func147 rfl ?_;simp[go_sem,h];refine fD [0,1,2,3,4,5,6,7,8,9,10,11,13,12] [(0,0,[]),(1,0,[]),(2,0,[]),(3,0,[]),(4,0,[]),(5,0,[]),(6,0,[]),(7,0,[]),(8,0,[]),(9,0,[]),(10,0,[]),(11,0,[]),(13,0,[]),(12,1,[6,10])] zKr zKr zSi ?_;simp[go_sem,qw,tk];rw[if_pos (zj _)];generalize i:putCells _ 0 (aI q.1 :: hB q.2)=P;have g:P=aI q.1 :: hB q.2:=by rw[<-i];exact pc (aI 0) _ (fun _=>false) _
 subst g;clear i;simp[go_sem,qw,tk];exact .hf _ (j7 q _)
theorem ap32(ts n q r)(h:n.op=32):prC ts n [q,r] zR (decide (q.1=r.1)):=by
 unfold prC;refine qSV call147 func147 rfl ?_;simp[go_sem,h];refine fD [0,1,2,3,4,5,6,7,8,9,11,10] [(0,0,[]),(1,0,[]),(2,0,[]),(3,0,[]),(4,0,[]),(5,0,[]),(6,0,[]),(7,0,[]),(8,0,[]),(9,0,[]),(11,0,[]),(10,1,[4,8])] zKr zKr zSi ?_;simp[go_sem,qw];exact .hf _ (j7 zR _)
theorem ap33(ts n q r)(h:n.op=33):prC ts n [q,r] zR (decide (q.1=r.1)):=by
 unfold prC;refine qSV call147 func147 rfl ?_;simp[go_sem,h];refine fD [0,1,2,3,4,5,6,7,8,9,11,10] [(0,0,[]),(1,0,[]),(2,0,[]),(3,0,[]),(4,0,[]),(5,0,[]),(6,0,[]),(7,0,[]),(8,0,[]),(9,0,[]),(11,0,[]),(10,1,[4,8])] zKr zKr zSi ?_;simp[go_sem,qw];exact .hf _ (j7 zR _)
theorem ap9(ts n q r S)(h:n.op=9)(p:0<=q.1/\q.1<=1000)(t:0<=r.1/\r.1<=1000)(c:qi qe 195 [eRS q,eRS r] (eRS S)):prC ts n [q,r] S (decide (1<=q.1+r.1-2/\q.1+r.1-2<=3)):=by
 unfold prC;refine qSV call147 func147 rfl ?_;have l:qq.wrap (q.1+r.1)=q.1+r.1:=zWr;have o:qq.wrap (q.1+r.1-2)=q.1+r.1-2:=zWr;simp[go_sem,h];refine cJ zKr ?_;simp[go_sem,qw,l,o];refine cJ zKr ?_;by_cases j:1<=q.1+r.1-2
 .simp [go_sem,qw,tk,j]
  refine tS c (wkS2 q r) ?_;simp[go_sem,qw,j];rw[if_pos (zj _)];generalize i:putCells _ 0 (aI S.1 :: hB S.2)=P;have g:P=aI S.1 :: hB S.2:=by rw[<-i];exact pc (aI 0) _ (fun _=>false) _
  subst g;clear i;simp[go_sem,qw,tk];exact .hf _ (j7 S _)
 .simp [go_sem,qw,tk,j]
  refine tS c (wkS2 q r) ?_;simp[go_sem,qw,j];rw[if_pos (zj _)];generalize i:putCells _ 0 (aI S.1 :: hB S.2)=P;have g:P=aI S.1 :: hB S.2:=by rw[<-i];exact pc (aI 0) _ (fun _=>false) _
  subst g;clear i;simp[go_sem,qw,tk];exact .hf _ (j7 S _)
theorem ap10(ts n q r S)(h:n.op=10)(l:0<=q.1/\q.1<=1000)(o:0<=r.1/\r.1<=1000)(c:qi qe 196 [eRS q,eRS r] (eRS S)):prC ts n [q,r] S (decide (q.1+r.1<=3)):=by
 unfold prC;refine qSV call147 func147 rfl ?_;have j:qq.wrap (q.1+r.1)=q.1+r.1:=zWr;simp[go_sem,h];refine fD [0,1,2,3,4,5,7,8,9,10,11,12,13,14,15,16,18,6,17] [(0,0,[]),(1,0,[]),(2,0,[]),(3,0,[]),(4,0,[]),(5,0,[]),(7,0,[]),(8,0,[]),(9,0,[]),(10,0,[]),(11,0,[]),(12,0,[]),(13,0,[]),(14,0,[]),(15,0,[]),(16,0,[]),(18,0,[]),(6,1,[10,14]),(17,1,[10,14])] zKr zKr zSi ?_;simp[go_sem,qw,tk,j];refine tS c (wkS2 q r) ?_;simp[go_sem,qw];rw[if_pos (zj _)];generalize i:putCells _ 0 (aI S.1 :: hB S.2)=P;have g:P=aI S.1 :: hB S.2:=by rw[<-i];exact pc (aI 0) _ (fun _=>false) _
 subst g;clear i;simp[go_sem,qw,tk];exact .hf _ (j7 S _)
theorem ap11(ts n q S)(h:n.op=11)(c:qi qe 197 [eRS q] (eRS S)):prC ts n [q] S (decide (q.1=2)):=by
 unfold prC;refine qSV call147 func147 rfl ?_;simp[go_sem,h];refine fD [0,1,2,4,5,6,7,8,10,3,9] [(0,0,[]),(1,0,[]),(2,0,[]),(4,0,[]),(5,0,[]),(6,0,[]),(7,0,[]),(8,0,[]),(10,0,[]),(3,1,[7]),(9,1,[7])] zKr zKr zSi ?_;simp[go_sem,qw,tk];refine tS c (wkS1 q) ?_;simp[go_sem,qw];rw[if_pos (zj _)];generalize i:putCells _ 0 (aI S.1 :: hB S.2)=P;have g:P=aI S.1 :: hB S.2:=by rw[<-i];exact pc (aI 0) _ (fun _=>false) _
 subst g;clear i;simp[go_sem,qw,tk];exact .hf _ (j7 S _)
theorem ap12(ts n q S)(h:n.op=12)(c:qi qe 198 [eRS q] (eRS S)):prC ts n [q] S (decide (q.1=2)):=by
 unfold prC;refine qSV call147 func147 rfl ?_;simp[go_sem,h];refine fD [0,1,2,4,5,6,7,8,10,3,9] [(0,0,[]),(1,0,[]),(2,0,[]),(4,0,[]),(5,0,[]),(6,0,[]),(7,0,[]),(8,0,[]),(10,0,[]),(3,1,[7]),(9,1,[7])] zKr zKr zSi ?_;simp[go_sem,qw,tk];refine tS c (wkS1 q) ?_;simp[go_sem,qw];rw[if_pos (zj _)];generalize i:putCells _ 0 (aI S.1 :: hB S.2)=P;have g:P=aI S.1 :: hB S.2:=by rw[<-i];exact pc (aI 0) _ (fun _=>false) _
 subst g;clear i;simp[go_sem,qw,tk];exact .hf _ (j7 S _)
theorem ap13(ts)(ok:okTS ts)(n q C S)(h:n.op=13)(c:qi qe 198 [eRS q] (eRS C))(c2:qi qe 193 [eRS C,eRS (qt (zH ts.sS.length 2))] (eRS S)):prC ts n [q] S (decide (q.1=2)):=by
 unfold prC;refine qSV call147 func147 rfl ?_;have c1:=allU ts ok 2 zOm;generalize qt (zH ts.sS.length 2)=D at *
 simp[go_sem,h];refine fD [0,1,2,4,7,8,9,10,11,13,3,5,6,12] [(0,0,[]),(1,0,[]),(2,0,[]),(4,0,[]),(7,0,[]),(8,0,[]),(9,0,[]),(10,0,[]),(11,0,[]),(13,0,[]),(3,1,[4,10]),(5,1,[10]),(6,1,[10]),(12,1,[10])] zKr zKr zSi ?_;simp[go_sem,qw,tk];refine tS c (wkS1 q) ?_;simp[go_sem,qw];refine tS c1 (wkTI ts 2) ?_;simp[go_sem,qw];refine tS c2 (wkS2 C D) ?_;simp[go_sem,qw];rw[if_pos (zj _)];generalize i:putCells _ 0 (aI S.1 :: hB S.2)=P;have g:P=aI S.1 :: hB S.2:=by rw[<-i];exact pc (aI 0) _ (fun _=>false) _
 subst g;clear i;simp[go_sem,qw,tk];exact .hf _ (j7 S _)
theorem apO(ts n L)(t:n.op≠2)(C:n.op≠3)(I:n.op≠4)(J:n.op≠5)(P:n.op≠6)(g:n.op≠14)(R:n.op≠7)(T:n.op≠8)(i:n.op≠32)(j:n.op≠33)(U:n.op≠9)(l:n.op≠10)(o:n.op≠11)(p:n.op≠12)(r:n.op≠13):prC ts n L zR true:=by
 unfold prC;refine qSV call147 func147 rfl ?_;simp[go_sem,t,C,I,J,P,g,R,T,i,j,U,l,o,p,r];exact .hf _ (j7 zR true)
end QN
namespace QO
open YF Y9 Y10 Y1 Y2 Y3 Y12 Y13 P1 P2 QD QE QF QH QI QJ QL QN PG PC
section
variable {nm:tP}{ts:TS}
theorem qeV{n L S g b}(e:eRS S=eRS g)(h:prC ts n L S b):prC ts n L g b:=by
 grind [prC]
theorem qr5{n a b}(j:n.op=6\/n.op=14\/n.op=7\/n.op=8\/n.op=32\/n.op=33):∃ S,prC ts n [qt a,qt b] S (decide (a.ar=b.ar))/\(a.ar=b.ar->kd n.op=101->S=qt (uz n.op a b)):=by
 have l:∀ op:Int,op=6\/op=14->uz op a b=kSum a b:=fun op h=>by unfold uz;rw[if_pos h]
 by_cases g:a.ar=b.ar
 .rcases j with h|h|h|h|h|h
  .exact ⟨_,ap6 ts n _ _ _ h (by have:=vF (qt a) (qt b);rw[VJ g]at this;exact this),fun _ _=>by grind⟩
  .exact ⟨_,ap14 ts n _ _ _ h (by have:=vF (qt a) (qt b);rw[VJ g]at this;exact this),fun _ _=>by grind⟩
  .exact ⟨_,ap7 ts n _ _ _ h (by have:=US (qt a) (qt b);rw[qrK g]at this;exact this),fun _ _=>by rw[h];rfl⟩
  .exact ⟨_,ap8 ts n _ _ h,fun _ _=>by rw[h];rfl⟩
  .exact ⟨_,ap32 ts n _ _ h,fun _ i=>by rw[h]at i;exact absurd i zDe⟩
  .exact ⟨_,ap33 ts n _ _ h,fun _ i=>by rw[h]at i;exact absurd i zDe⟩
 .rcases j with h|h|h|h|h|h
  .exact ⟨_,ap6 ts n _ _ _ h (vF (qt a) (qt b)),fun e=>absurd e g⟩
  .exact ⟨_,ap14 ts n _ _ _ h (vF (qt a) (qt b)),fun e=>absurd e g⟩
  .exact ⟨_,ap7 ts n _ _ _ h (US (qt a) (qt b)),fun e=>absurd e g⟩
  .exact ⟨_,ap8 ts n _ _ h,fun e=>absurd e g⟩
  .exact ⟨_,ap32 ts n _ _ h,fun e=>absurd e g⟩
  .exact ⟨_,ap33 ts n _ _ h,fun e=>absurd e g⟩
theorem qr6(ok:okTS ts){n a}(l:okKd ts.sS.length a)(o:n.op=11\/n.op=12\/n.op=13):∃ S,prC ts n [qt a] S (decide (a.ar=2))/\(a.ar=2->S=qt (binK ts.sS.length n.op a)):=by
 have i:=ok.ns;by_cases g:a.ar=2
 .have p:=UF l g i
  rcases o with h|h|h
  .exact ⟨_,ap11 ts n _ _ h (by have:=qeF (qt a);rw[qrQ l i g]at this;exact this),fun _=>by rw[h];rfl⟩
  .exact ⟨_,ap12 ts n _ _ h p,fun _=>by rw[h];rfl⟩
  .refine ⟨_,ap13 ts ok n _ _ (qt (kSum (kClo a) (zH ts.sS.length 2))) h p ?_,fun _=>by rw[h];rfl⟩
   have:=vF (qt (kClo a)) (qt (zH ts.sS.length 2));rw[VJ (show (kClo a).ar=2 from (U0 l g).2)]at this;exact this
 .have j:=l.ar
  rcases o with h|h|h
  .exact ⟨_,ap11 ts n _ _ h (qeF (qt a)),fun e=>absurd e g⟩
  .exact ⟨_,ap12 ts n _ _ h (qeU (qt a) j),fun e=>absurd e g⟩
  .exact ⟨_,ap13 ts ok n _ _ _ h (qeU (qt a) j) (vF _ _),fun e=>absurd e g⟩
theorem qr7(ts)(ok:okTS ts)(n l L)(e1:n.op≠1)(a0:n.op≠15)
  (h1:n.op=5\/n.op=11\/n.op=12\/n.op=13->∃ a,l=[some a]/\L=[qt a]/\okKd ts.sS.length a)
  (h2:n.op=6\/n.op=14\/n.op=7\/n.op=8\/n.op=32\/n.op=33\/n.op=9\/n.op=10->∃ a b,l=[some a,some b]/\L=[qt a,qt b]/\okKd ts.sS.length a/\okKd ts.sS.length b) :
  ∃ S b,prC ts n L S b/\ApE n.op (yq ts.sS.length n.op n.n n.pos l) S b:=by
 have t:=ok.ns;by_cases j:n.op=2
 .refine ⟨qt ⟨n.n,[]⟩,true,qeV (qeS n.n) (ap2 ts n L j),?_⟩
  unfold yq;rw[if_pos j];exact⟨rfl,fun _=>⟨_,rfl,rfl⟩⟩
 by_cases o:n.op=3
 .refine ⟨_,true,ap3 ts ok n L o,?_⟩
  unfold yq;rw[if_neg j,if_pos o];exact⟨rfl,fun _=>⟨_,rfl,rfl⟩⟩
 by_cases r:n.op=4
 .refine ⟨_,true,ap4 ts ok n L r,?_⟩
  unfold yq;rw[if_neg j,if_neg o,if_pos r];exact⟨rfl,fun _=>⟨_,rfl,rfl⟩⟩
 by_cases g1:n.op=5\/n.op=11\/n.op=12\/n.op=13
 .obtain ⟨a,rfl,rfl,C⟩:=h1 g1
  rw[apK1,if_neg j,if_neg o,if_neg r];by_cases J:n.op=5
  .rw [if_pos J]
   exact⟨_,true,ap5 ts n _ J,rfl,fun _=>⟨_,rfl,rfl⟩⟩
  have g:n.op=11\/n.op=12\/n.op=13:=zOm;rw[if_neg J,if_pos g];obtain⟨S,P,R⟩:=qr6 ok C g;refine⟨S,_,P,?_⟩;by_cases i:a.ar=2
  .rw [if_pos i]
   exact⟨decide_eq_true i,fun _=>⟨_,rfl,R i⟩⟩
  .rw [if_neg i]
   exact decide_eq_false i
 by_cases g2:n.op=6\/n.op=14\/n.op=7\/n.op=8\/n.op=32\/n.op=33\/n.op=9\/n.op=10
 .obtain ⟨a,b,rfl,rfl,C,T⟩:=h2 g2
  have ra:=C.ar;have rb:=T.ar;rw[apK2,if_neg j,if_neg o,if_neg r];by_cases U:n.op=6\/n.op=14\/n.op=7\/n.op=8\/n.op=32\/n.op=33
  .rw [if_pos U]
   obtain⟨S,P,R⟩:=qr5 (ts:=ts) (n:=n) (a:=a) (b:=b) U;refine⟨S,_,P,?_⟩;by_cases i:a.ar=b.ar
   .rw [if_pos i]
    exact⟨decide_eq_true i,fun hk=>⟨_,rfl,R i hk⟩⟩
   .rw [if_neg i]
    exact decide_eq_false i
  rw[if_neg U];by_cases I:n.op=9
  .rw [if_pos I]
   by_cases i:1<=a.ar+b.ar-2/\a.ar+b.ar-2<=3
   .rw [if_pos i]
    refine⟨_,_,ap9 ts n _ _ (qt (zV a b)) I (by show 0<=a.ar/\a.ar<=1000;omega) (by show 0<=b.ar/\b.ar<=1000;omega) ?_,decide_eq_true i,fun _=>⟨_,rfl,rfl⟩⟩;rw[<-qeK C T t i];exact wG _ _ (by show 0<=a.ar/\a.ar<=1000;omega) (by show 1<=b.ar/\b.ar<=1000;omega)
   .rw [if_neg i]
    exact⟨_,_,ap9 ts n _ _ _ I (by show 0<=a.ar/\a.ar<=1000;omega) (by show 0<=b.ar/\b.ar<=1000;omega) (wG _ _ (by show 0<=a.ar/\a.ar<=1000;omega) (by show 1<=b.ar/\b.ar<=1000;omega)),decide_eq_false i⟩
  have p:n.op=10:=zOm;rw[if_neg I,if_pos p];by_cases i:a.ar+b.ar<=3
  .rw [if_pos i]
   refine⟨_,_,ap10 ts n _ _ (qt (uY a b)) p (by show 0<=a.ar/\a.ar<=1000;omega) (by show 0<=b.ar/\b.ar<=1000;omega) ?_,decide_eq_true i,fun _=>⟨_,rfl,rfl⟩⟩;rw[<-qrL C T t i];exact qeG _ _ (by show 0<=a.ar/\a.ar<=1000;omega) (by show 0<=b.ar/\b.ar<=1000;omega)
  .rw [if_neg i]
   exact⟨_,_,ap10 ts n _ _ _ p (by show 0<=a.ar/\a.ar<=1000;omega) (by show 0<=b.ar/\b.ar<=1000;omega) (qeG _ _ (by show 0<=a.ar/\a.ar<=1000;omega) (by show 0<=b.ar/\b.ar<=1000;omega)),decide_eq_false i⟩
 refine⟨zR,true,apO ts n L j o r zOm zOm zOm zOm zOm zOm zOm zOm zOm zOm zOm zOm,?_⟩;rw[UZ j o r zOm zOm zOm zOm zOm zOm zOm zOm zOm zOm zOm zOm];refine⟨rfl,fun hk=>?_⟩;have:=U1 hk;omega
theorem qr8{ns}(o:ns<=4){q}(h:okKd ns q)(l:q.ar=1)(i):uA i q=true↔∀ k,k<4->(qt q).2 k=true->(k:Int)=i:=by
 unfold uA;rw[zF];constructor
 .intro p k J r
  rw[y8,l]at r;have:=p _ r.2;simpa[dig,pad] using this
 .intro p t C
  obtain⟨j,I,e⟩:=Ju h o C;rw[l]at I e;have g:j<4:=I;have:=p j g ((y8 q j).2 ⟨by rw[l];exact g,by rw[l,<-e];exact C⟩);rw[e];simp[dig,pad,this]
def ExR(c:Ck)(s:Scp)(inn:Bool)(n:Nd):Prop:=∃ S:RS,qi qe 92 [eVw c inn,lVr (envS s),eNd n] (.tup [eRS S,eDg (dgOf (exam c s inn n))])/\(kd n.op=101->∀ q,exam c s inn n = .ok (some q)->S=qt q)
theorem qeW(c inn):HF (eVw c inn):=HF.agg fun x g=>by
 simp only[qy,qG,or_false]at g;rcases g with rfl|rfl|rfl|rfl|rfl|rfl|rfl
 .exact UJ _
 .exact J5 _
 .exact Zu _
 .exact UI _
 .exact VO _
 .exact HF.sc _
 .exact HF.sc _
theorem wkE(c inn l n):WKs [eVw c inn,lVr l,eNd n] [eVw c inn,lVr l,eNd n] := .zk (qeW c inn) (.zk (qr0 _) (.zk (qK n) .nil))
theorem wV(d):HF (eDg d):=HF.agg fun x g=>by
 simp only[qy,qG,or_false]at g;rcases g with rfl|rfl<;>exact HF.sc _
theorem qeX{c p}(i:okCk c)(h:zx c nm=some p):(c.ts.sT.any fun p=>decide (p.name=nm))=true:=by
 obtain⟨_,j⟩:=Qu i h;unfold zx at h;rw[List.findIdx?_eq_some_iff_getElem]at h;obtain⟨l,g,_⟩:=h;simp only[List.getElem_take]at g;exact List.any_eq_true.2 ⟨_,qs j,g⟩
theorem qr9(h:zx (mkCk ts ts.sT.length) nm=none):(ts.sT.any fun p=>decide (p.name=nm))=false:=by
 unfold zx at h;rw[List.findIdx?_eq_none_iff]at h;rw[List.any_eq_false];intro p g;have:p∈ts.sT.take ts.sT.length:=by rw[qO];exact g
 have:=h p this
 grind
theorem Wv{n}(i:WfN n)(h:n.op=47):∀ k,k∈n.sD->kd k.op=101:=by
 have g:=i.shape;have e:shp n.op n.sD.length=some (List.replicate (min n.sD.length 401) 101):=by
  unfold shp;rw[zIn,zIn,zIn,zIn,zIn,zIn,zIn,if_pos h]
 rw[e]at g;simp only[qv]at g;intro k j;have:kd k.op∈n.sD.map fun k=>kd k.op:=qn.2 ⟨k,j,rfl⟩
 grind
theorem qsA(c)(hc:okCk c)(s)(hs:ScOk c.ts.sS.length s)(n)(hw:WfN n)(b1:n.op=47)(ih:∀ k,k∈n.sD->ExR c s true k)(inn) :
  qi qe 145 [eVw c inn,lVr (envS s),eNd n] (eDg (dgOf (u4 c s n))):=by
 generalize hR:u4 c s n=R;unfold u4 at hR;refine qSQ call145 func145 rfl { mt:=[3] } ?_;have be:=hc.ts.np;have bg:=hw.len;have b2:=VN c hc n.name;have b3:=VN (mkCk c.ts c.ts.sT.length) (uj hc.ts (qr _)) n.name;have ao:∀ k:Int,WKs [eTS c.ts,aI k,aS n.name] [eTS c.ts,aI k,aS n.name]:=fun k => .zk (zp _) (.zs (.zs .nil))
 simp[go_sem];refine tS b2 (ao _) ?_;cases U:zx c n.name with
 |none =>
  rw[U]at hR;simp[go_sem,idxO];refine tS b3 (ao _) ?_;cases a3:zx (mkCk c.ts c.ts.sT.length) n.name with
  |none =>
   rw[qr9 a3]at hR;subst hR;simp[go_sem,idxO,dgOf];exact .hf _ (wV (40,n.pos))
  |some p =>
   have ha:(c.ts.sT.any fun p=>decide (p.name=n.name))=true:=qeX (c:=mkCk c.ts c.ts.sT.length) (uj hc.ts (qr _)) a3;rw[ha]at hR;subst hR;have ab:¬(p:Int)<0:=zOm;simp[go_sem,idxO,dgOf,ab];exact .hf _ (wV (45,n.pos))
 |some p =>
  obtain⟨_,ad⟩:=Qu hc U;rw[qeX hc U,if_pos rfl,U]at hR;simp only[qA ad]at hR;have ab:¬(p:Int)<0:=zOm;have bh:=hc.ts.pl _ (qs ad);simp[go_sem,idxO,ad,ab];generalize bi:c.ts.sT[p]=C at *
  by_cases a1:C.params.length=n.sD.length
  .rw [if_pos a1]at hR
   simp[go_sem,a1];have b4:=Wv hw b1;refine aK C.params.length (fun k T=>T.tm 1=lVr (envS s)/\T.tm 3 = .ptr 0 0/\T.tm 5 = .ip (cNd n)/\T.tm 6 = .ptr 1 0/\T.tm 8=lPm C.params/\T.tm 9=aI k/\T.mu[0]?=some (.arr (cVw c true))/\T.mu[1]?=some (.arr [aI 0,aI 0])/\yb c s n.pos (C.params.drop k) (n.sD.drop k)=R) ?_ ?_
   .simp [go_sem, *]
   rintro k T hk ⟨e1,e3,e5,e6,e8,e9,m0,m1,t⟩;have a8:1<T.mu.length:=(qk.1 m1).1;have I:∀(l:List Cell)(i:Nat),i<T.mu.length->(T.mu++l)[i]?=T.mu[i]?:=fun l i hi=>qN hi
   have a0:∀ c,(T.mu.set 1 c)[1]?=some c:=fun c=>qL a8
   have ae:∀ c (l:List Cell),((T.mu++l).set 1 c)[1]?=some c:=fun c l=>qL zSo
   have af:∀(l:List Cell)(h:0<(T.mu++l).length),(T.mu++l)[0] = .arr (cVw c true):=fun l h=>by
    grind
   have ag:∀(l:List Cell)(h:1<(T.mu++l).length),(T.mu++l)[1] = .arr [aI 0,aI 0]:=fun l h=>by
    grind
   by_cases aq:k=C.params.length
   .subst aq
    rw[yd,a1,yd]at t;simp only[yb]at t;subst t;simp[go_sem,e6,e8,e9,m1,a1,dgOf,a0];exact .hf _ (wV (0,0))
   have o:k<C.params.length:=zOm;have r:k<n.sD.length:=zOm;have w1:=zWk k;obtain⟨S,hi,hS⟩:=ih n.sD[k] (qs r);rw[zu o,zu r]at t;simp only[yb]at t;have b5:=vU hc (szN n.sD[k]) n.sD[k] s true;have au:=b4 n.sD[k] (qs r);have av:=hw.kid (qs r);simp[go_sem,e8,e9,o];refine fD [0,1,2,3,4,5,6,7,8,9,10,11,12,13,14] [(0,0,[]),(1,0,[]),(2,0,[]),(3,0,[]),(4,0,[]),(5,0,[]),(6,0,[]),(7,1,[]),(8,0,[]),(9,0,[]),(10,0,[]),(11,2,[0,3,6]),(12,2,[0,3,6]),(13,1,[]),(14,1,[])] zKr zKr zSi ?_;simp[go_sem,e1,e3,e5,e9,m0,r];refine tS hi (wkE c true _ _) ?_;cases hx:exam c s true n.sD[k] with
   |error e =>
    rw[hx]at t;subst t;have he:=VE c (szN n.sD[k]) n.sD[k] s true e (qr _) hx;have b6:¬e.1=0:=zOm;simp[go_sem,e3,qw,af,dgOf];rw[if_pos (zj _)];generalize hP:putCells _ 0 (aI S.1 :: hB S.2)=P;have ah:P=aI S.1 :: hB S.2:=by rw[<-hP];exact pc (aI 0) _ (fun _=>false) _
    subst ah;clear hP;simp[go_sem,e6,b6];simp[go_sem,ag,e6];exact .hf _ (wV e)
   |ok ko =>
    obtain⟨q,rfl,hq⟩:=b5 ko (qr _) av hs hx au;have b7:=hS au q hx;subst b7;rw[hx]at t;simp only at t;have b8:=hc.ts.ns;have aw:(qt q).1=q.ar:=rfl;have ax:=fun h=>qr8 b8 hq h C.params[k].2
    generalize qt q=Q at *
    simp[go_sem,e3,qw,af,dgOf];rw[if_pos (zj _)];generalize hP:putCells _ 0 (aI Q.1 :: hB Q.2)=P;have ah:P=aI Q.1 :: hB Q.2:=by rw[<-hP];exact pc (aI 0) _ (fun _=>false) _
    subst ah;clear hP;by_cases a2:q.ar=1
    .rw [if_pos a2]at t
     have a4:Q.1=1:=aw.trans a2;simp[go_sem,qw,a4];have bc:C.params[k].2<4/\0<=C.params[k].2:=by grind
     refine aK 4 (fun j g=>∃ b,2<=b/\g.tm 10 = .ptr b 0/\g.mu[b]?=some (.arr (aI 1 :: hB Q.2))/\g.tm 1=lVr (envS s)/\g.tm 3 = .ptr 0 0/\g.tm 5 = .ip (cNd n)/\g.tm 6 = .ptr 1 0/\g.tm 8=lPm C.params/\g.tm 9=aI k/\g.tm 12=aI j/\g.mu[0]?=some (.arr (cVw c true))/\g.mu[1]?=some (.arr [aI 0,aI 0]) /\
      ∀ i:Nat,i<j->Q.2 i=true->(i:Int)=C.params[k].2) ?_ ?_
     .exact ⟨T.mu.length,zOm,zSi,zSi,zS1 e1,zS1 e3,zS1 e5,zS1 e6,zS1 e8,zS1 e9,zSi,by simp only[qC];rw[I _ _ zOm];exact m0,by simp only[qC];rw[I _ _ zOm];exact m1,fun i hi=>zOm⟩
     .clear e1 e3 e5 e6 e8 e9 m0 m1 I a0 ae af ag a8
      rintro j st2 hj ⟨b,hb,a5,mb,e1,e3,e5,e6,e8,e9,a9,m0,m1,a6⟩;have a8:1<st2.mu.length:=(qk.1 m1).1;have a0:∀ c,(st2.mu.set 1 c)[1]?=some c:=fun c=>qL a8
      by_cases ai:j<4
      .have aj:(j:Int)<4:=by omega
       have ay:j<64:=zOm;have J:(j:Int)<64:=zOm;have wj:=zWk j;have a7:=d1 (aI 1) Q.2 j ay;have ak:1+j<=64:=zOm;by_cases hQ:Q.2 j=true
       .rw [hQ]at a7
        by_cases aa:(j:Int)=C.params[k].2
        .have b9:=eq_true aa
         simp[go_sem,a5,mb,e8,e9,a9,aj,J,a7,ak,qw,o,b9,wj];refine⟨ai,aA ⟨b,hb,zS1 a5,zS1 mb,zS1 e1,zS1 e3,zS1 e5,zS1 e6,zS1 e8,zS1 e9,zSi,zS1 m0,zS1 m1,fun i hi h=>?_⟩⟩;by_cases al:i=j
         .subst al;exact aa
         .exact a6 i zOm h
        .have az:¬uA C.params[k].2 q=true:=fun h=>aa ((ax a2).1 h j ai hQ)
         rw[if_neg az]at t;subst t;simp[go_sem,a5,mb,e5,e6,e8,e9,a9,aj,J,a7,ak,qw,o,aa,m1,a0];exact .hf _ (wV (43,n.pos))
       .have hQ:Q.2 j=false:=by simpa using hQ
        rw[hQ]at a7;simp[go_sem,a5,mb,a9,aj,J,a7,ak,qw,wj];refine⟨ai,aA ⟨b,hb,zS1 a5,zS1 mb,zS1 e1,zS1 e3,zS1 e5,zS1 e6,zS1 e8,zS1 e9,zSi,zS1 m0,zS1 m1,fun i hi h=>?_⟩⟩;by_cases al:i=j
        .subst al;rw[hQ]at h;cases h
        .exact a6 i zOm h
      .have bb:j=4:=by omega
       subst bb;have an:uA C.params[k].2 q=true:=(ax a2).2 fun i hi h=>a6 i hi h
       rw[if_pos an]at t;simp[go_sem,e9,a9,w1];exact⟨o,aA ⟨zS1 e1,zS1 e3,zS1 e5,zS1 e6,zS1 e8,zSi,zS1 m0,zS1 m1,t⟩⟩
    .rw [if_neg a2]at t
     subst t;have a4:¬Q.1=1:=fun e=>a2 (aw.symm.trans e)
     simp[go_sem,e5,qw,a4,ag,e6];exact .hf _ (wV (42,n.pos))
  .rw [if_neg a1]at hR
   subst hR;have b0:¬n.sD.length=C.params.length:=fun e=>a1 e.symm
   simp[go_sem,b0,dgOf];exact .hf _ (wV (45,n.pos))
end
end QO
namespace QR
open Y9 Y10 Y1 Y2 Y12 P1 P2 QE QF QJ QL QN PG QO
theorem VC{n}(i:WfN n)(h:n.op=15\/n.op=45\/n.op=46):∃ a f,n.sD=[a,f]/\kd a.op=101:=by
 have g:=i.shape;unfold shp at g;rw[zIn,zIn,zIn,if_pos zOm]at g;simp only[qv]at g
 match j:n.sD,g with
 | [a,f],g =>
  grind
 | [],g=>simp at g
 | [_],g=>simp at g
 |_ :: _ :: _ :: _,g=>simp at g
theorem five{I:Type}{l}{a b c d e:I}(g:l[0]?=some a)(i:l[1]?=some b)(j:l[2]?=some c)(o:l[3]?=some d)(p:l[4]?=some e):∃ r,l=a :: b :: c :: d :: e :: r:=by
 match l,g,i,j,o,p with
 |_ :: _ :: _ :: _ :: _ :: r,g,i,j,o,p =>
  simp_all
def VR:Res->RS
 | .ok (some k)=>if k.ar=1 then qt k else zR
 |_=>zR
theorem qsB(s d):FL (.tup [eRS s,eDg d]):=FL.tup fun x i=>by
 rcases qy.1 i with rfl|i
 .exact FL.agg fun c g=>by
   rcases qy.1 g with rfl|g
   .exact FL.sc _
   .obtain ⟨j,_,rfl⟩:=qn.1 g
    exact FL.sc _
 .rw [qV]at i;subst i
  exact FL.agg fun c g=>by
   rcases qy.1 g with rfl|g
   .exact FL.sc _
   .rw [qV]at g;subst g;exact FL.sc _
theorem qsC(c)(hc:okCk c)(s)(hs:ScOk c.ts.sS.length s)(ax:s.length<=90000)(n a g)(hw:WfN n)(hb:n.op=15\/n.op=45\/n.op=46)(p:n.sD=[a,g])(a5:kd a.op=101)(inn)
  (ae:ExR c s (inn||decide (n.op=15)) a) (af:∀ k,okKd c.ts.sS.length k->k.ar=1->ExR c ((n.name,k) :: s) (inn||decide (n.op=15)) g) :
  qi qe 146 [eVw c inn,lVr (envS s),eNd n] (.tup [eRS (VR (exam c s (inn||decide (n.op=15)) a)),eDg (dgOf (yr c s (inn||decide (n.op=15)) n.name n.pos n.sD))]):=by
 have wa:=hw.kid (k:=a) (by rw[p];simp);obtain⟨S,ca,hS⟩:=ae;have ag:=vU hc (szN a) a s (inn||decide (n.op=15));have a6:=VE c (szN a) a s (inn||decide (n.op=15));rw[p];have w1:=wkE c (inn||decide (n.op=15)) (envS s) a;have ah:n.op=15->(inn||decide (n.op=15))=true:=fun h=>zP1 h
 have ai:¬n.op=15->(inn||decide (n.op=15))=inn:=fun h=>zP1 h
 generalize (inn||decide (n.op=15))=B at *
 generalize hE:dgOf (yr c s B n.name n.pos [a,g])=E;generalize hX:exam c s B a=X at *
 have a7:∀ k,okKd c.ts.sS.length k->k.ar=1->X = .ok (some k)->∃ S2,qi qe 92 [eVw c B,lVr (envS ((n.name,k) :: s)),eNd g] (.tup [eRS S2,eDg E]):=fun k hk o aj=>by
  obtain⟨S2,cg,_⟩:=af k hk o;refine⟨S2,?_⟩;have U:E=dgOf (exam c ((n.name,k) :: s) B g):=by
   rw[<-hE];simp only[yr,za];rw[hX,aj];simp only;rw[if_pos o];cases exam c ((n.name,k) :: s) B g<;>rfl
  grind
 refine qSQ call146 func146 rfl { mt:=[3] } ?_;by_cases a1:n.op=15
 case' pos =>
  have a2:=ah a1;subst a2
 case' neg =>
  have a2:=ai a1;subst a2
 all_goals
  simp[go_sem,a1];refine fD [0,1,2,3,4,5,6,7,8,9,10,11,12,13] [(0,0,[]),(1,0,[]),(2,0,[]),(3,0,[]),(4,0,[]),(5,0,[]),(6,1,[]),(7,0,[]),(8,0,[]),(9,0,[]),(10,2,[0,3,5]),(11,2,[0,3,5]),(12,1,[]),(13,1,[])] zKr zKr zSi ?_;simp[go_sem,p];refine tS ca w1 ?_;simp[go_sem,qw,p];rw[if_pos (zj _)];generalize hP:putCells _ 0 (aI S.1 :: hB S.2)=P;have t:P=aI S.1 :: hB S.2:=by rw[<-hP];exact pc (aI 0) _ (fun _=>false) _
  subst t;clear hP;simp[go_sem]
 all_goals
  cases X with
  |error e =>
   have he:=a6 e (qr _) rfl;have ak:¬e.1=0:=zOm;have U:E=e:=by rw[<-hE];simp only[yr];rw[hX];rfl
   subst U;clear hE;simp[go_sem,dgOf,ak];refine fD [0,1,2,3] [(0,0,[]),(1,0,[]),(2,1,[1]),(3,1,[])] zKr zKr zSi ?_;simp[go_sem];exact .hf _ (vJ zR E)
  |ok ko =>
   obtain⟨q,rfl,hq⟩:=ag ko (qr _) wa hs rfl a5;have al:=hS a5 q rfl;subst al;have a8:(qt q).1=q.ar:=rfl;by_cases o:q.ar=1
   .have I:(qt q).1=1:=a8.trans o
    obtain⟨S2,cg⟩:=a7 q hq o rfl;have a3:VR (.ok (some q))=qt q:=if_pos o;rw[a3];have a9:envS ((n.name,q) :: s)=envS s++[(n.name,qt q)]:=by simp[envS]
    rw[a9]at cg;generalize qt q=Q at *
    obtain⟨qa,R⟩:=Q;have a4:qa=1:=I;subst a4;simp[go_sem,dgOf];refine fD [0,1,2,4,5,6,7,8,10,11,12,13,3,9,14,15,16,17,18,19,20,21] [(0,0,[]),(1,0,[]),(2,0,[]),(4,0,[]),(5,0,[]),(6,0,[]),(7,0,[]),(8,0,[]),(10,0,[]),(11,0,[]),(12,0,[]),(13,0,[]),(3,1,[0,5,6,11,13]),(9,1,[0,11,13]),(14,1,[]),(15,0,[]),(16,0,[]),(17,0,[]),(18,2,[0,5,6,11,13]),(19,2,[0,5,6,11,13]),(20,1,[]),(21,1,[])] zKr zKr zSi ?_;simp[go_sem,qw,tk];rw[if_pos (zj _)];generalize hC:putCells _ 1 _=C;have an:C=cVr (n.name,(1,R)):=by rw[<-hC];exact pcV n.name (1,R)
    subst an;clear hC;have ao:(cVr (n.name,((1:Int),R))).length=66:=by simp[qw]
    have aq:=pg (n.name,((1:Int),R));generalize hV:cVr (n.name,((1:Int),R))=V at *
    simp[go_sem,ao];rw[if_pos aq];simp[go_sem,p];refine pi (lo:=5) (xs:=[]) (ys:=envS s) (OwnF.nil zSp) (by simp[qE]) (by simp[WC];omega) fun ay m1 au T=>?_
    have k0:=T 0 zOm;have k1:=T 1 zOm;have k2:=T 2 zOm;have k3:=T 3 zOm;have k4:=T 4 zOm;simp at k0 k1 k2 k3 k4;simp[go_sem,qw,tk,p,k0,k3];refine pi (xs:=[]++envS s) (ys:=[(n.name,(1,R))]) au (by simp[qE,hV]) (by simp[WC];omega) fun az m2 a0 r=>?_
    rw[vw]at a0;have av:=a0.2.2;replace k0:=(r 0 zOm).trans k0;replace k1:=(r 1 zOm).trans k1;replace k2:=(r 2 zOm).trans k2;replace k3:=(r 3 zOm).trans k3;replace k4:=(r 4 zOm).trans k4;have j:∀(l:List Cell)(i:Nat),i<m2.length->(m2++l)[i]?=m2[i]?:=fun l i hi=>qN hi
    have g0:=(qk.1 k0).2;have g1:=(qk.1 k1).2;have g2:=(qk.1 k2).2;have g3:=(qk.1 k3).2;simp[go_sem,p,k0];refine fY (args':=[eVw c _,lVr (envS s++[(n.name,(1,R))]),eNd g]) cg ⟨.hf _ (qeW c _),rdVr a0,.hf _ (qK g),trivial⟩ (qsB S2 _) ?_;have p0:=fun l=>(j l 0 zOm).trans k0
    have p1:=fun l=>(j l 1 zOm).trans k1
    have p2:=fun l=>(j l 2 zOm).trans k2
    have p3:=fun l=>(j l 3 zOm).trans k3
    have p4:=fun l=>(j l 4 zOm).trans k4
    have aa:0<m2.length:=zOm;have ab:3<m2.length:=zOm;simp[go_sem,qw,tk,p,g0,g3,aa,ab,p3];rw[if_pos (zj _)];generalize hP:putCells _ 0 (cRS S2)=P;have t:P=cRS S2:=by rw[<-hP];exact pc (aI 0) _ (fun _=>false) _
    subst t;clear hP;simp[go_sem];obtain⟨rr,ad⟩:=five k0 k1 k2 k3 k4;have b0:m2.length=rr.length+5:=by rw[ad];rfl
    clear g0 g1 g2 g3 p0 p1 p2 p3 p4 j a0 r k0 k1 k2 k3 k4 av aa ab;refine fD [0,1,2,3] [(0,0,[]),(1,0,[]),(2,1,[1]),(3,1,[])] zKr zKr zSi ?_;simp[go_sem,qw,tk,ad];rw[if_pos (zj _)];generalize hP:putCells _ 0 (aI 1 :: hB R)=P;have t:P=aI 1 :: hB R:=by rw[<-hP];exact pc (aI 0) (aI 1) (fun _=>false) R
    subst t;clear hP;simp[go_sem,qw,tk];exact .hf _ (vJ (1,R) E)
   .have I:¬(qt q).1=1:=fun e=>o (a8.symm.trans e)
    have a3:VR (.ok (some q))=zR:=if_neg o;rw[a3];have U:E=(42,n.pos):=by
     rw[<-hE];simp only[yr];rw[hX];simp only;rw[if_neg o];rfl
    subst U;clear hE;generalize qt q=Q at *
    simp[go_sem,dgOf,I];refine fD [0,1,2,3,4,5] [(0,0,[]),(1,0,[]),(2,0,[]),(3,0,[]),(4,1,[2]),(5,1,[])] zKr zKr zSi ?_;simp[go_sem];exact .hf _ (vJ zR (42,n.pos))
theorem qsD(ts)(ok:okTS ts)(n l)(r:n.op≠1)(o:n.op≠15)
  (t:n.op=5\/n.op=11\/n.op=12\/n.op=13->∃ a,l=[some a]/\okKd ts.sS.length a)
  (C:n.op=6\/n.op=14\/n.op=7\/n.op=8\/n.op=32\/n.op=33\/n.op=9\/n.op=10->∃ a b,l=[some a,some b]/\okKd ts.sS.length a/\okKd ts.sS.length b) :
  ∃ S b,(∀ L,((n.op=5\/n.op=11\/n.op=12\/n.op=13)\/(n.op=6\/n.op=14\/n.op=7\/n.op=8\/n.op=32\/n.op=33\/n.op=9\/n.op=10)->L=l.map setO)->prC ts n L S b)/\ApE n.op (yq ts.sS.length n.op n.n n.pos l) S b:=by
 by_cases P:(n.op=5\/n.op=11\/n.op=12\/n.op=13)\/(n.op=6\/n.op=14\/n.op=7\/n.op=8\/n.op=32\/n.op=33\/n.op=9\/n.op=10)
 .obtain ⟨S,b,c,a⟩:=qr7 ts ok n l (l.map setO) r o (fun h=>by obtain⟨a,rfl,p⟩:=t h;exact⟨a,rfl,rfl,p⟩) (fun h=>by obtain⟨a,b,rfl,p,I⟩:=C h;exact⟨a,b,rfl,rfl,p,I⟩)
  grind
 by_cases g:n.op=2
 .refine ⟨qt ⟨n.n,[]⟩,true,fun L _=>qeV (qeS n.n) (ap2 ts n L g),?_⟩
  unfold yq;rw[if_pos g];exact⟨rfl,fun _=>⟨_,rfl,rfl⟩⟩
 by_cases i:n.op=3
 .refine ⟨_,true,fun L _=>ap3 ts ok n L i,?_⟩
  unfold yq;rw[if_neg g,if_pos i];exact⟨rfl,fun _=>⟨_,rfl,rfl⟩⟩
 by_cases j:n.op=4
 .refine ⟨_,true,fun L _=>ap4 ts ok n L j,?_⟩
  unfold yq;rw[if_neg g,if_neg i,if_pos j];exact⟨rfl,fun _=>⟨_,rfl,rfl⟩⟩
 refine⟨zR,true,fun L _=>apO ts n L g i j zOm zOm zOm zOm zOm zOm zOm zOm zOm zOm zOm zOm,?_⟩;rw[UZ g i j zOm zOm zOm zOm zOm zOm zOm zOm zOm zOm zOm zOm];refine⟨rfl,fun J=>?_⟩;have:=U1 J;omega
def resS:Res->RS
 | .ok (some k)=>qt k
 |_=>zR
theorem qsE(R):endR zR R = .tup [eRS (resS R),eDg (dgOf R)]:=by
 cases R with
 |error e=>rfl
 |ok k=>cases k<;>rfl
end QR
namespace QS
open YZ YF Y9 Y10 Y1 Y2 Y13 P1 P2 QE QF QI QJ QL QN PG QO QR
theorem WD(c op nm):zY c op nm=(yD op||(decide (op=47)&&tpB c nm)):=rfl
theorem qsF{ns op n pos l e}(h:yq ns op n pos l = .error e):e=(42,pos):=by
 unfold yq at h
 repeat' split at h
 all_goals grind
theorem wkTP(c:Ck)(nm):WKs [eTS c.ts,lBo c.timed,aI c.calls,aS nm] [eTS c.ts,lBo c.timed,aI c.calls,aS nm] := .zk (zp _) (.zk (VO _) (.zs (.zs .nil)))
theorem wk1I(k):WKs [aI k] [aI k] := .zs .nil
theorem fl_sb(s b):FL (.tup [eRS s,aB b]):=FL.tup fun x i=>by
 rcases qy.1 i with rfl|i
 .exact FL.agg fun c g=>by
   rcases qy.1 g with rfl|g
   .exact FL.sc _
   .obtain ⟨j,_,rfl⟩:=qn.1 g
    exact FL.sc _
 grind [qV,FL.sc]
theorem qsG(c)(i:okCk c)(s n)(g:zY c n.op n.name=true):ExR c s true n:=by
 refine⟨zR,?_,fun _ q h=>?_⟩
 case refine_2=>simp_all[yU,if_pos]
 have j:exam c s true n = .error (46,n.pos):=by simp_all[yU,if_pos]
 rw[j];rw[WD]at g;refine qSQ call92 func92 rfl { mt:=[3] } ?_;have l:=Jw n.op;have o:=Jx c i n.name;simp[go_sem];refine tS l (wk1I _) ?_;cases p:yD n.op with
 |true =>
  simp[go_sem];refine fD [0,1,2,3,4,5] [(0,0,[]),(1,0,[]),(2,0,[]),(3,0,[]),(4,1,[2]),(5,1,[])] zKr zKr zSi ?_;simp[go_sem,dgOf];exact .hf _ (vJ zR (46,n.pos))
 |false =>
  rw[p,Bool.false_or,qH]at g;obtain⟨h47,hB⟩:=g;have h47:n.op=47:=by simpa using h47
  simp[go_sem,h47];refine tS o (wkTP c n.name) ?_;rw[hB];simp[go_sem];refine fD [0,1,2,3,4,5] [(0,0,[]),(1,0,[]),(2,0,[]),(3,0,[]),(4,1,[2]),(5,1,[])] zKr zKr zSi ?_;simp[go_sem,dgOf];exact .hf _ (vJ zR (46,n.pos))
theorem qsH(c)(l:okCk c)(s)(g:s.length<=100000)(inn n)(i:n.op=1):ExR c s inn n:=by
 have o:exam c s inn n=jD c s n.name n.pos:=by
  rw[yU,WD,i,show yD 1=false from rfl];simp
 refine⟨resS (jD c s n.name n.pos),?_,fun _ q h=>by rw[o]at h;rw[h];rfl⟩;rw[o];have p:=KC c l inn s n g;rw[qsE]at p;generalize resS (jD c s n.name n.pos)=S at *
 generalize dgOf (jD c s n.name n.pos)=D at *
 refine qSQ call92 func92 rfl { mt:=[3] } ?_;have r:=Jw n.op;have J:=Jx c l n.name;have C:yD n.op=false:=by rw[i];rfl
 rw[C]at r;have I:=wkE c inn (envS s) n;cases inn
 case' true =>
  simp[go_sem];refine tS r (wk1I _) ?_
 all_goals
  simp[go_sem,i];refine tS p I ?_;simp[go_sem,qw];rw[if_pos (zj _)];generalize t:putCells _ 0 (aI S.1 :: hB S.2)=P;have j:P=aI S.1 :: hB S.2:=by rw[<-t];exact pc (aI 0) _ (fun _=>false) _
  subst j;clear t;simp[go_sem,qw,QE.tk];exact .hf _ (vJ S D)
theorem qsI(c)(i:okCk c)(s)(r:ScOk c.ts.sS.length s)(inn n)(t:WfN n)(h47:n.op=47)(g:(inn&&zY c n.op n.name)=false)(C:∀ k,k∈n.sD->ExR c s true k):ExR c s inn n:=by
 have I:exam c s inn n=u4 c s n:=by
  rw[yU,g,if_neg zSp,zIn,if_pos h47];rfl
 have J:=qsA c i s r n t h47 C inn;refine⟨zR,?_,fun j=>by rw[h47]at j;exact absurd j zDe⟩;rw[I];generalize dgOf (u4 c s n)=D at *
 refine qSQ call92 func92 rfl { mt:=[3] } ?_;have l:=Jw n.op;have o:=Jx c i n.name;have p:yD n.op=false:=by rw[h47];rfl
 rw[p]at l;have P:=wkE c inn (envS s) n;cases inn
 case' true =>
  rw[Bool.true_and,WD,p,h47]at g;have hB:tpB c n.name=false:=zUs g;rw[hB]at o;simp[go_sem];refine tS l (wk1I _) ?_;simp[go_sem,h47];refine tS o (wkTP c n.name) ?_
 all_goals
  simp[go_sem,h47];refine fR J P ?_;exact .hf _ (vJ zR D)
theorem qsJ(c)(J:okCk c)(s)(o:ScOk c.ts.sS.length s)(p:s.length<=90000)(inn n)(R:WfN n)(l:n.op=15\/n.op=45\/n.op=46)(ht:(inn&&zY c n.op n.name)=false)(T:∀ k,k∈n.sD->∀ s',ScOk c.ts.sS.length s'->s'.length<=s.length+1->∀ inn,ExR c s' inn k):ExR c s inn n:=by
 have U:exam c s inn n=yr c s (inn||decide (n.op=15)) n.name n.pos n.sD:=by
  rw[yU,ht,if_neg zSp,zIn,zIn,if_pos l]
 obtain⟨a,g,i,r⟩:=VC R l;have cb:=qsC c J s o p n a g R l i r inn (T a (by rw[i];simp) s o zOm _) (fun k hk j=>T g (by rw[i];simp) _ (fun v t=>by
  rcases qy.1 t with rfl|t
  .grind
  .exact o v t) zSp _)
 refine⟨VR (exam c s (inn||decide (n.op=15)) a),?_,fun _ q h=>?_⟩
 case refine_2 =>
  rw[U,i]at h;simp only[yr]at h;split at h
  .cases h
  .cases h
  .rename_i k hk
   split at h
   .rename_i j
    split at h
    .cases h
    .cases h
     rw[hk];exact if_pos j
   .cases h
 rw[U];generalize VR (exam c s (inn||decide (n.op=15)) a)=S at *
 generalize dgOf (yr c s (inn||decide (n.op=15)) n.name n.pos n.sD)=D at *
 refine qSQ call92 func92 rfl { mt:=[3] } ?_;have C:=Jw n.op;have cp:=Jx c J n.name;have h47:¬n.op=47:=zOm;have hT:yD n.op=false:=by grind [yD]
 rw[hT]at C;have wn:=wkE c inn (envS s) n;rcases l with h|h|h
 all_goals
  rw[h]at C;cases inn
 all_goals
  simp[go_sem,h]
  try (refine tS C (wk1I _) ?_)
  try simp[go_sem,h]
  refine tS cb wn ?_;simp[go_sem,qw];rw[if_pos (zj _)];generalize hP:putCells _ 0 (aI S.1 :: hB S.2)=P;have I:P=aI S.1 :: hB S.2:=by rw[<-hP];exact pc (aI 0) _ (fun _=>false) _
  subst I;clear hP;simp[go_sem,qw,QE.tk];exact .hf _ (vJ S D)
def seqL(X:Nd->Res):List Nd->Except Dg (List (Option Kd))
 | [] => .ok []
 |k :: ks=>match X k with
  | .error e => .error e
  | .ok a=>match seqL X ks with
   | .error e => .error e
   | .ok l => .ok (a :: l)
theorem qeY(c s B):∀ ks,za c s B ks=seqL (exam c s B) ks
 | []=>by simp only[za,seqL]
 |k :: ks=>by simp only[za,seqL];rw[qeY c s B ks];cases exam c s B k with
  |error e=>rfl
  |ok a=>cases seqL (exam c s B) ks<;>rfl
theorem pn{I:Type}{l}{a b c:I}(g:l[0]?=some a)(i:l[1]?=some b)(j:l[2]?=some c):∃ r,l=a :: b :: c :: r:=by
 match l,g,i,j with
 |_ :: _ :: _ :: r,g,i,j =>
  grind
theorem qsK{n}(j:WfN n)(h:(n.op=5\/n.op=11\/n.op=12\/n.op=13)\/(n.op=6\/n.op=14\/n.op=7\/n.op=8\/n.op=32\/n.op=33\/n.op=9\/n.op=10)):∀ x,x∈n.sD->kd x.op=101:=by
 have g:=j.shape;intro x l;have i:kd x.op∈n.sD.map fun k=>kd k.op:=qn.2 ⟨x,l,rfl⟩
 rcases h with h|h
 .unfold shp at g
  rw[zIn,if_pos zOm]at g
  grind
 .unfold shp at g
  rw[zIn,zIn,if_pos zOm]at g;simp only[qv]at g;rw[<-g]at i;simpa using i
set_option maxHeartbeats 2000000 in
theorem ex_t(c)(hc:okCk c)(s n inn B X S D)(h1:¬n.op=1)(h47:¬n.op=47)(hb:¬(n.op=15\/n.op=45\/n.op=46))(hw:WfN n)(au:n.sD.length<=401)(hT:inn=true->yD n.op=false)(a5:n.op=12->B=true)(a6:n.op=13->B=true)(af:¬n.op=12->¬n.op=13->B=inn)
  (ag:∀ k,k∈n.sD->∃ S,qi qe 92 [eVw c B,lVr (envS s),eNd k] (.tup [eRS S,eDg (dgOf (X k))])/\(kd k.op=101->∀ q,X k = .ok (some q)->S=qt q))
  (a7:∀ k a,k∈n.sD->X k = .ok a->kd k.op=101->∃ q,a=some q/\okKd c.ts.sS.length q)
  (a1:∀ k e,X k = .error e->40<=e.1)
  (ah:∀ e,seqL X n.sD = .error e->S=zR/\D=e)
  (ai:∀ l,seqL X n.sD = .ok l->∃ S' b,(∀ L,((n.op=5\/n.op=11\/n.op=12\/n.op=13)\/(n.op=6\/n.op=14\/n.op=7\/n.op=8\/n.op=32\/n.op=33\/n.op=9\/n.op=10)->L=l.map setO)->prC c.ts n L S' b)/\(b=true->S=S'/\D=(0,0))/\(b=false->S=zR/\D=(42,n.pos))) :
  qi qe 92 [eVw c inn,lVr (envS s),eNd n] (.tup [eRS S,eDg D]):=by
 simp only[not_or]at hb;obtain⟨b1,b2,b3⟩:=hb;refine qSQ call92 func92 rfl { mt:=[3] } ?_;have ct:=Jw n.op;have cp:=Jx c hc n.name;cases inn
 all_goals first
  | (rw[hT rfl]at ct;simp[go_sem];refine tS ct (wk1I _) ?_)
  |skip
 all_goals simp[go_sem,h1,h47,b1,b2,b3]
 all_goals rcases (show n.op=12\/(¬n.op=12/\n.op=13)\/(¬n.op=12/\¬n.op=13) by omega) with p|⟨p,U⟩|⟨p,U⟩
 all_goals first|simp[go_sem,p,U] | simp[go_sem,p]
 all_goals first|have a2:=a5 p|have a2:=a6 U|have a2:=af p U
 all_goals
  refine aK n.sD.length (fun k T=>∃(j:List (Option Kd)) (L:List RS),j.length=k/\L.length=k/\T.tm 1=lVr (envS s)/\T.tm 3 = .ptr 0 0/\T.tm 5 = .ip (cNd n)/\T.tm 6 = .ptr 1 0/\T.tm 7 = .ptr 2 0/\T.tm 9=aI k/\T.mu[0]?=some (.arr (cVw c B))/\T.mu[1]?=some (.arr (aI 0 :: hB fun _=>false))/\T.mu[2]?=some (.arr [aI 0,aI 0])/\OwnF 3 T.mu 65 (T.tm 8) (L.map cRS)/\(∀(i:Nat) x,n.sD[i]?=some x->i<k->kd x.op=101->∃ q,j[i]?=some (some q)/\L[i]?=some (qt q))/\seqL X n.sD=(match seqL X (n.sD.drop k) with | .error e => .error e | .ok l => .ok (j++l))) ?_ ?_
  .refine ⟨[],[],rfl,rfl,zSi,zSi,zSi,zSi,zSi,zSi,by rw[a2];simp[go_sem],by simp[go_sem];rfl,zSi,by simp_all[go_sem,OwnF.nil],fun i x _ h=>absurd h zOm,?_⟩
   grind
  rintro k T hk ⟨j,L,a8,a9,e1,e3,e5,e6,e7,e9,m0,m1,m2,ho,a0,r⟩;generalize h8:T.tm 8=t at *
  by_cases o:k<n.sD.length
  .have w1:=zWk k
   obtain⟨Sk,ck,aj⟩:=ag n.sD[k] (qs o);rw[zu o]at r;simp only[seqL]at r;simp[go_sem,e5,e9,o];refine fD [0,1,2,3,4,5,6,7,8,9,10,11,12,13,14] [(0,0,[]),(1,0,[]),(2,0,[]),(3,0,[]),(4,0,[]),(5,0,[]),(6,0,[]),(7,1,[]),(8,0,[]),(9,0,[]),(10,0,[]),(11,2,[0,3,6]),(12,2,[0,3,6]),(13,1,[]),(14,1,[])] zKr zKr zSi ?_;have aa:2<T.mu.length:=(qk.1 m2).1;have g:∀(l:List Cell)(i:Nat),i<T.mu.length->(T.mu++l)[i]?=T.mu[i]?:=fun l i C=>qN C
   have p0:=fun l=>(g l 0 zOm).trans m0
   have p1:=fun l=>(g l 1 zOm).trans m1
   have p2:=fun l=>(g l 2 zOm).trans m2
   have g0:=(qk.1 m0).2;have g1:=(qk.1 m1).2;have g2:=(qk.1 m2).2;have a3:0<T.mu.length:=zOm;have ak:1<T.mu.length:=zOm;simp[go_sem,e1,e3,e5,e9,o,m0];refine tS ck (wkE c _ _ _) ?_;cases hx:X n.sD[k] with
   |error e =>
    have he:=a1 _ _ hx;have al:¬e.1=0:=zOm;rw[hx]at r;have r:seqL X n.sD = .error e:=r;obtain⟨an,ao⟩:=ah e r;rw[an,ao];simp[go_sem,e3,g0,a3,qw,dgOf];rw[if_pos (zj _)];generalize hP:putCells _ 0 (cRS Sk)=P;have I:P=cRS Sk:=by rw[<-hP];exact pc (aI 0) _ (fun _=>false) _
    subst I;clear hP;simp[go_sem,al];refine fD [0,1,2,3] [(0,0,[]),(1,0,[]),(2,1,[1]),(3,1,[])] zKr zKr zSi ?_;simp[go_sem,e6,e7,a3,qw,g1,g2,ak,aa];exact .hf _ (vJ zR e)
   |ok a =>
    rw[hx]at r;simp only at r;simp[go_sem,e3,g0,a3,qw,dgOf];rw[if_pos (zj _)];generalize hP:putCells _ 0 (cRS Sk)=P;have I:P=cRS Sk:=by rw[<-hP];exact pc (aI 0) _ (fun _=>false) _
    subst I;clear hP;simp[go_sem,h8,qw,QE.tk];rw[if_pos (zj _)];simp[go_sem];refine appRS (lo:=3) (xs:=L) (ys:=[Sk]) ⟨by simpa using Ve (Ve ho.1 _) _,ho.2.1,by grind⟩ (by simp[qE]) zSo fun aw m' aq a4=>?_
    simp[go_sem,e9,o,w1];refine aA ⟨j++[a],L++[Sk],zP1 a8,zP1 a9,zS1 e1,zS1 e3,zS1 e5,zS1 e6,zS1 e7,zSi,?_,?_,?_,zVs aq,fun i x C ax R=>?_,?_⟩
    .simp only[qC];exact(a4 0 zOm).trans (p0 _)
    .simp only[qC];exact(a4 1 zOm).trans (p1 _)
    .simp only[qC];exact(a4 2 zOm).trans (p2 _)
    .by_cases ab:i=k
     .subst ab
      rw[qA o]at C;cases C;obtain⟨q,rfl,_⟩:=a7 _ a (qs o) hx R;refine⟨q,?_,?_⟩
      .rw [zM zOm,a8];simp
      .rw [zM zOm,a9];simp[aj R q hx]
     .obtain ⟨q,q1,q2⟩:=a0 i x C zOm R
      exact⟨q,by rw[zGa];exact q1,by rw[zGa];exact q2⟩
    grind
  .have ad:k=n.sD.length:=by omega
   subst ad;rw[yd]at r;have r:seqL X n.sD = .ok j:=by rw[r];simp only[seqL,zO]
   obtain⟨S',b,q1,q2,q3⟩:=ai j r;have hL:((n.op=5\/n.op=11\/n.op=12\/n.op=13)\/(n.op=6\/n.op=14\/n.op=7\/n.op=8\/n.op=32\/n.op=33\/n.op=9\/n.op=10))->L=j.map setO:=fun h=>by
    have R:∀ x,x∈n.sD->kd x.op=101:=fun x hx=>qsK hw h x hx
    refine List.ext_getElem? fun i=>?_
    by_cases C:i<n.sD.length
    .obtain ⟨q,e1,e2⟩:=a0 i n.sD[i] (zP1 C) C (R _ (qs C))
     rw[e2,List.getElem?_map,e1];rfl
    .rw [uK zOm,uK zSo]
   have hp:=q1 L hL;unfold prC at hp;have aa:2<T.mu.length:=(qk.1 m2).1;have g:∀(l:List Cell)(i:Nat),i<T.mu.length->(T.mu++l)[i]?=T.mu[i]?:=fun l i C=>qN C
   obtain⟨rr,ae⟩:=pn m0 m1 m2;simp[go_sem,e3,e5,e9,h8,m0];refine fY (args':=[eTS c.ts,eNd n,lRS L]) hp ⟨.hf _ (zp _),.hf _ (qK n),rdRS ho,trivial⟩ (fl_sb S' b) ?_;have ay:T.mu.length=rr.length+3:=by rw[ae];rfl
   clear m0 m1 m2 g ho;simp[go_sem,ae,qw];rw[if_pos (zj _)];generalize hP:putCells _ 0 (cRS S')=P;have I:P=cRS S':=by rw[<-hP];exact pc (aI 0) _ (fun _=>false) _
   subst I;clear hP;cases b with
   |true =>
    obtain⟨rfl,rfl⟩:=q2 rfl;simp[go_sem,e6,qw,QE.tk,pc];rw[if_pos (zj _)];simp[go_sem,e6,e7,qw,QE.tk];exact .hf _ (vJ S (0,0))
   |false =>
    obtain⟨rfl,rfl⟩:=q3 rfl;simp[go_sem];refine fD [0,1,2,3,4,5] [(0,0,[]),(1,0,[]),(2,0,[]),(3,0,[]),(4,1,[2]),(5,1,[])] zKr zKr zSi ?_;simp[go_sem,e5,e6,e7,qw];exact .hf _ (vJ zR (42,n.pos))
theorem qsL(c)(p:okCk c)(s)(hs:ScOk c.ts.sS.length s)(inn n)(r:WfN n)(h1:¬n.op=1)(h47:¬n.op=47)(hb:¬(n.op=15\/n.op=45\/n.op=46))(ht:(inn&&zY c n.op n.name)=false)(ih:∀ k,k∈n.sD->∀ inn,ExR c s inn k):ExR c s inn n:=by
 have hx:exam c s inn n=match za c s (inn||decide (n.op=12)||decide (n.op=13)) n.sD with | .error e => .error e | .ok l=>yq c.ts.sS.length n.op n.n n.pos l:=by
  rw[yU,ht,if_neg zSp,if_neg h1,if_neg h47,if_neg hb]
  grind
 have t:n.op=12\/n.op=13->(inn||decide (n.op=12)||decide (n.op=13))=true:=fun h=>by grind
 have a0:¬n.op=12->¬n.op=13->(inn||decide (n.op=12)||decide (n.op=13))=inn:=fun h h'=>by simp[h,h']
 generalize (inn||decide (n.op=12)||decide (n.op=13))=B at *
 obtain⟨S,D,C,hq,I,J⟩:∃ S D,dgOf (exam c s inn n)=D/\(kd n.op=101->∀ q,exam c s inn n = .ok (some q)->S=qt q)/\(∀ e,za c s B n.sD = .error e->S=zR/\D=e) /\
   (∀ l,za c s B n.sD = .ok l->∃ P b,(∀ L:List RS,((n.op=5\/n.op=11\/n.op=12\/n.op=13)\/(n.op=6\/n.op=14\/n.op=7\/n.op=8\/n.op=32\/n.op=33\/n.op=9\/n.op=10)->L=l.map setO)->prC c.ts n L P b)/\(b=true->S=P/\D=(0,0))/\(b=false->S=zR/\D=(42,n.pos))):=by
  rw[hx];cases hE:za c s B n.sD with
  |error e=>exact⟨zR,e,rfl,(fun _ q h=>by cases h),(fun e' h=>by grind),(fun l h=>by cases h)⟩
  |ok l =>
   obtain⟨a1,a2⟩:=Vi hE;have a3:=(KG p.ts.ns r a1 (fun i k' a hi ha g=>vU p (szN k') k' s B a (qr _) (r.kid (List.mem_of_getElem? hi)) hs (a2 i k' a hi ha) g)).2;obtain⟨P,b,p1,o⟩:=qsD c.ts p.ts n l h1 (fun h=>hb (.inl h)) (fun h=>by
    grind) a3.2.2
   simp only;cases hA:yq c.ts.sS.length n.op n.n n.pos l with
   |error e =>
    rw[hA]at o;have o:b=false:=o;refine⟨zR,e,rfl,(fun _ q h=>by cases h),(fun e' h=>by cases h),(fun l' h=>by cases h;exact⟨P,b,p1,(fun h=>by grind),(fun _=>⟨rfl,qsF hA⟩)⟩)⟩
   |ok ko =>
    rw[hA]at o;obtain⟨o,p3⟩:=o;refine⟨P,(0,0),rfl,(fun U q h=>?_),(fun e' h=>by cases h),(fun l' h=>by simp_all)⟩
    grind
 refine⟨S,?_,hq⟩;rw[C];clear C hx hq;obtain⟨X,R⟩:∃ X:Nd->Res,X=exam c s B:=⟨_,rfl⟩;have a4:∀ k,k∈n.sD->∃ S,qi qe 92 [eVw c B,lVr (envS s),eNd k] (.tup [eRS S,eDg (dgOf (X k))])/\(kd k.op=101->∀ q,X k = .ok (some q)->S=qt q):=fun k U=>by rw[R];exact ih k U B
 have T:∀ k a,k∈n.sD->X k = .ok a->kd k.op=101->∃ q,a=some q/\okKd c.ts.sS.length q:=fun k a U h g=>by rw[R]at h;exact vU p (szN k) k s B a (qr _) (r.kid U) hs h g
 have j:∀ k e,X k = .error e->40<=e.1:=fun k e h=>by rw[R]at h;exact VE c (szN k) k s B e (qr _) h
 rw[qeY,<-R]at I J;clear R ih;have a5:=r.len;exact ex_t c p s n inn B X S D h1 h47 hb r a5 (fun hi=>by
  simp_all[Bool.true_and,WD,Bool.or_eq_false_iff]) (fun h=>t (.inl h)) (fun h=>t (.inr h)) a0 a4 T j I J
theorem qeZ(c)(l:okCk c):∀(m:Nat)(n),depN n<=m->WfN n->∀ s,ScOk c.ts.sS.length s->s.length+m<=80000->∀ inn,ExR c s inn n
 | 0,n,i,_,_,_,_,_=>zW1 (qdP n)
 |m+1,n,i,o,s,r,p,inn=>by
  have t:∀ k,k∈n.sD->∀ s',ScOk c.ts.sS.length s'->s'.length<=s.length+1->∀ inn,ExR c s' inn k:=fun k j s' g C inn=>qeZ c l m k (by have:=qdO j;rw[wQ]at i;omega) (o.kid j) s' g zOm inn
  cases I:inn&&zY c n.op n.name with
  |true =>
   simp_all[qH,qsG]
  |false =>
   grind [qsH,qsI,qsJ,qsL]
end QS
namespace QT
open YF Y9 Y10 Y1 Y2 Y14 Y15 Y16 YZ P1 P2 PA Q5 QD QE QI QJ QL QM QO QS
section
variable {ts:TS}
def ckR(ts:TS)(i:Nat):Ck:=⟨ts,i,tmsL ts ts.sT.length⟩
theorem WE(h:okTS ts){i}(g:i<=ts.sT.length):okCk (ckR ts i):=⟨h,g,by show i<=(tmsL ts ts.sT.length).length;rw[Ya ts _ (qr _)];exact g⟩
theorem qe0{c c'}(g:c'.ts=c.ts)(l:∀ nm,zx c' nm=zx c nm)(o:∀ op nm,zY c' op nm=zY c op nm):∀ m n s inn,szN n<=m->exam c s inn n=exam c' s inn n
 | 0,n,_,_,t=>by obtain⟨op,nm,i,ks,p⟩:=n;simp[szN]at t
 |m+1,n,s,inn,t=>by
  have r:∀ k,k∈n.sD->∀(s:Scp)(inn:Bool),exam c s inn k=exam c' s inn k:=fun k r s inn=>qe0 g l o m k s inn (zW1 (yu r))
  refine qcL rfl rfl rfl rfl (o _ _) (fun _=>?_) (by rw[g]) (l _) (by rw[g]) rfl (fun _ I=>qcO fun k j=>r k j s true) (fun _ inn=>?_) (fun _ _ _ inn=>Wd fun k j=>r k j s inn)
  .grind [ZC]
  .cases C:n.sD with
   |nil=>rfl
   |cons k ks =>
    grind [ks,yr,zg,za,Wd,q8]
theorem qsM(h:okTS ts){i}(l:i<=ts.sT.length)(n s inn):exam (ckR ts i) s inn n=exam (mkCk ts i) s inn n:=by
 refine(qe0 (c:=mkCk ts i) (c':=ckR ts i) rfl (fun o=>rfl) (fun op o=>?_) (szN n) n s inn (qr _)).symm;unfold zY;have e:zx (ckR ts i) o=zx (mkCk ts i) o:=rfl;rw[e];cases r:zx (mkCk ts i) o with
 |none=>rfl
 |some p =>
  obtain⟨j,g⟩:=Qu (uj h l) r;have j:p<i:=j;have g:p<ts.sT.length:=g;simp only;have t:=PC.Vz ts p ts.sT.length g (qr _) g;have C:=PC.Vz ts p i j l g;show (yD op||(decide (op=47)&&(tmsL ts ts.sT.length).getD p false))=(yD op||(decide (op=47)&&(tmsL ts i).getD p false));rw[t,C]
theorem qsN(h:okTS ts){i}(g:i<=ts.sT.length)(env n):jO (mkCk ts i) env n=if 30<=n.op then dgOf (exam (ckR ts i) (zW env) false n) else (43,n.pos):=by
 grind [jO,qsM]
theorem qe1(ts)(h:okTS ts)(J:∀ p,p∈ts.sT->WfN p.body)(i)(o:i<=ts.sT.length)(env)(t:Jc ts.sS.length env)(j:env.length<=1000)(n)(R:WfN n)(T:depN n<=24) :
  qi qe 51 [eTS ts,aI i,lPm env,eNd n] (eDg (jO (mkCk ts i) env n)):=by
 rw[qsN h o];have U:=h.ns;have hs:=U2 t;have a0:(zW env).length=env.length:=by
  have:=congrArg List.length (qeR env)
  grind [WC,envV]
 obtain⟨S,ce,_⟩:=qeZ (ckR ts i) (WE h o) 24 n T R (zW env) hs zOm false;have C:=envU env j (fun p hp=>zW1 (t.r p hp));rw[qeR]at C;have c1:=qr2 n;have c2:=qrZ ts h J;refine qSU call51 func51 rfl ?_;refine tS c1 (.zk (qK n) .nil) ?_;by_cases g:30<=n.op
 .rw [if_pos g]
  generalize dgOf (exam (ckR ts i) (zW env) false n)=D at *
  simp[go_sem,g];refine fD [0,1,3,5,7,2,4,6,8,9,10,11,12,13,14,15] [(0,0,[]),(1,0,[]),(3,0,[]),(5,0,[]),(7,0,[]),(2,1,[0,7]),(4,0,[]),(6,1,[0,7]),(8,1,[]),(9,0,[]),(10,0,[]),(11,0,[]),(12,2,[0,1,7]),(13,2,[0,1,7]),(14,1,[]),(15,1,[])] zKr zKr zSi ?_;simp[go_sem];refine fR c2 (.zk (zp ts) .nil) ?_;refine fR C (.zk (uB env) .nil) ?_;refine tS ce (wkE (ckR ts i) false _ n) ?_;simp[go_sem,qw];rw[if_pos (zj _)];generalize I:putCells _ 0 (cRS S)=P;have l:P=cRS S:=by rw[<-I];exact pc (aI 0) _ (fun _=>false) _
  subst l;clear I;simp[go_sem];exact .hf _ (wV D)
 .rw [if_neg g]
  simp[go_sem,g];exact .hf _ (wV (43,n.pos))
theorem pp(ts)(h:okTS ts)(i:∀ p,p∈ts.sT->WfN p.body)(env)(j:Jc ts.sS.length env)(g:env.length<=1000)(n)(l:WfN n)(o:depN n<=24) :
  qi qe 25 [eTS ts,lPm env,eNd n] (eDg (yf ts env n)):=by
 have c1:=qe1 ts h i ts.sT.length (qr _) env j g n l o;have e:jO (mkCk ts ts.sT.length) env n=yf ts env n:=rfl;rw[e]at c1;generalize yf ts env n=D at *
 refine qSU call25 func25 rfl ?_;refine fR c1 (.zk (zp ts) (.zs (.zk (uB env) (.zk (qK n) .nil)))) ?_;exact .hf _ (wV D)
theorem Jy(a b):dups (a++b)=dups a++dups b:=by simp[dups]
theorem wW(b):dups [b]=if b=true then [(41,0)] else []:=by cases b<;>rfl
theorem Za(l):(dups l).length<=l.length:=by
 grind [dups,zT,List.length_filter_le]
theorem pq{I}(g)(l:List I)(k h):(repL g l).take (k+1)=(repL g l).take k++[(l.take k).any fun y=>g l[k] y]:=by
 grind [repL,Qz,vZ,qaU,qA,Option.some.inj]
theorem WG{I:Type}(p)(l:List I)(k h):(l.take (k+1)).any p=((l.take k).any p||p l[k]):=by
 rw[vZ h,List.any_append];simp only[List.any_cons,List.any_nil,Bool.or_false]
abbrev eS:tP×Bool->tP×Bool->Bool:=fun x y=>decide (x.1=y.1)
abbrev eF:Fld->Fld->Bool:=fun x y=>decide (x.name=y.name)&&decide (x.sS=y.sS)
abbrev eP:Pd->Pd->Bool:=fun x y=>decide (x.name=y.name)
abbrev eM:tP×Int->tP×Int->Bool:=fun x y=>decide (x.1=y.1)
abbrev eA:tP×Nd->tP×Nd->Bool:=fun x y=>decide (x.1=y.1)
theorem Zf{mu lo s x}{xs ys:List Dg}{K}(o:OwnF lo mu 2 s (xs.map cDg))(p:qE mu x=some (ys.map cDg))(C:xs.length+ys.length<=100000)(I:∀ av mu',OwnF lo mu' 2 av ((xs++ys).map cDg)->(∀ i,i<lo->mu'[i]?=mu[i]?)->K av mu') :
  qz qe mu #[76,76] s x K:=by
 have j:∀ l:List Dg,zo 2 (l.map cDg):=fun l r t=>by
  obtain⟨n,_,rfl⟩:=qn.1 t;exact⟨rfl,rfl⟩
 refine qz.ownF (lo:=lo) (e:=71) (sz:=2) (bt:=16) (zv := .agg [aI 0,aI 0]) (xs:=xs.map cDg) (ys:=ys.map cDg) zSi zSi zSi rfl rfl zOm zOm o p (j xs) (j ys) zSo ?_
 grind
theorem qsO(ts)(h:okTS ts)(mu):qD qe 49 [eTS ts] mu fun e m=>∃ av,e = .ret av/\OwnF mu.length m 2 av ((dups (repL eS ts.sS)++dups (repL eF ts.sA)).map cDg)/\∀ i,i<mu.length->m[i]?=mu[i]?:=by
 refine qSW call49 func49 rfl {} ?_;have a6:=h.ns;have ab:=h.nf;simp[go_sem];refine aK ts.sS.length (fun i o=>o.tm 1 = .ip (cTS ts)/\o.tm 4=aI i/\OwnF mu.length o.mu 2 (o.tm 3) ((dups ((repL eS ts.sS).take i)).map cDg)/\∀ i,i<mu.length->o.mu[i]?=mu[i]?) ?_ ?_
 .simp_all [go_sem,dups,OwnF.nil,qr]
 rintro i o P ⟨R,e4,I,U⟩;have a0:(dups ((repL eS ts.sS).take i)).length<=i:=zQ (Za _) (List.length_take_le ..);generalize h3:o.tm 3=av at *
 by_cases l:i<ts.sS.length
 .have p:=pq eS ts.sS i l
  have wi:=zWk i;simp[go_sem,R,e4,l];refine aK i (fun k st2=>st2.tm 1 = .ip (cTS ts)/\st2.tm 4=aI i/\st2.tm 3=av/\st2.tm 6=aI k/\st2.tm 5=aB ((ts.sS.take k).any fun y=>eS ts.sS[i] y)/\st2.mu=o.mu) ?_ ?_
  .simp [go_sem, *]
  rintro k st2 hk ⟨f1,f4,f3,f6,f5,C⟩;generalize hT:(ts.sS.take k).any (fun y=>eS ts.sS[i] y)=T at *
  by_cases r:k<i
  .have t:k<ts.sS.length:=by omega
   have wk:=zWk k;have g:=WG (fun y=>eS ts.sS[i] y) ts.sS k t;rw[hT]at g;simp[go_sem,f4,f6,r];refine cJ zKr ?_;cases T with
   |true =>
    simp_all[go_sem,Bool.true_or,aA]
   |false =>
    rw[Bool.false_or]at g;by_cases hq:ts.sS[k].1=ts.sS[i].1
    .simp_all [go_sem,eS,decide_eq_true,aA]
    .have j:(ts.sS.take (k+1)).any (fun y=>eS ts.sS[i] y)=false:=by rw[g];exact decide_eq_false fun e=>hq e.symm
     simp_all[go_sem,j0,aA]
  .have a1:k=i:=by omega
   subst a1;rw[hT]at p;cases T with
   |true =>
    simp[go_sem,f4,f3,f6,f5,C];refine Zf (ys:=[(41,0)]) I (by simp[qE]) zSo fun a7 m' a2 a3=>?_
    simp[go_sem,f4,wi];exact⟨l,aA ⟨zS1 f1,zSi,by rw[p,Jy,wW,if_pos rfl];simpa[go_sem] using a2,by simp only[qC];exact fun i P=>(a3 i P).trans (U i P)⟩⟩
   |false =>
    simp[go_sem,f4,f6,f5,C,wi];exact⟨l,aA ⟨zS1 f1,zSi,by rw[p,Jy,wW,if_neg zSp,zO];simpa[go_sem,f3,C] using I,by simp only[qC];exact U⟩⟩
 .have a4:i=ts.sS.length:=by omega
  subst a4;rw[z6 (by rw[Qz];exact qr _)]at I;simp[go_sem,R,e4];generalize a8:dups (repL eS ts.sS)=a5 at *
  have ad:a5.length<=4:=by rw[<-a8];exact zQ (Za _) (by rw[Qz];exact a6)
  refine aK ts.sA.length (fun i o=>o.tm 1 = .ip (cTS ts)/\o.tm 7=aI i/\OwnF mu.length o.mu 2 (o.tm 3) ((a5++dups ((repL eF ts.sA).take i)).map cDg)/\∀ i,i<mu.length->o.mu[i]?=mu[i]?) ?_ ?_
  .exact ⟨zS1 R,zSi,by simpa[go_sem,dups,h3] using I,zVs U⟩
  clear a0 I U R e4 h3 l P o;rintro i o P ⟨R,e4,I,U⟩;have a0:(dups ((repL eF ts.sA).take i)).length<=i:=zQ (Za _) (List.length_take_le ..);generalize h3:o.tm 3=a9 at *
  by_cases l:i<ts.sA.length
  .have p:=pq eF ts.sA i l
   have wi:=zWk i;simp[go_sem,R,e4,l];refine aK i (fun k st2=>st2.tm 1 = .ip (cTS ts)/\st2.tm 7=aI i/\st2.tm 3=a9/\st2.tm 9=aI k/\st2.tm 8=aB ((ts.sA.take k).any fun y=>eF ts.sA[i] y)/\st2.mu=o.mu) ?_ ?_
   .exact ⟨zS1 R,zS1 e4,zS1 h3,zSi,zSi,zSi⟩
   rintro k st2 hk ⟨f1,f4,f3,f6,f5,C⟩;generalize hT:(ts.sA.take k).any (fun y=>eF ts.sA[i] y)=T at *
   by_cases r:k<i
   .have t:k<ts.sA.length:=by omega
    have wk:=zWk k;have g:=WG (fun y=>eF ts.sA[i] y) ts.sA k t;rw[hT]at g;have ae:=h.fl _ (qs t);have aa:=qmP ts.sA[k].sS ts.sA[i].sS zOm;simp[go_sem,f4,f6,r];refine cJ zKr ?_;cases T with
    |true =>
     rw[Bool.true_or]at g;simp[go_sem,f6,f5,r,wk];exact aA ⟨zS1 f1,zS1 f4,zS1 f3,zSi,by rw[g];simp[go_sem],zS1 C⟩
    |false =>
     rw[Bool.false_or]at g;by_cases hq:ts.sA[k].name=ts.sA[i].name
     .simp [go_sem,f1,f4,f6,f5,t,l,hq]
      refine tS aa (.zk (zh _) (.zk (zh _) .nil)) ?_;by_cases J:ts.sA[k].sS=ts.sA[i].sS
      .have j:(ts.sA.take (k+1)).any (fun y=>eF ts.sA[i] y)=true:=by rw[g];simp[eF,hq.symm,J.symm]
       simp[go_sem,f6,r,wk,J];exact aA ⟨zS1 f1,zS1 f4,zS1 f3,zSi,by rw[j];simp[go_sem],zS1 C⟩
      .have j:(ts.sA.take (k+1)).any (fun y=>eF ts.sA[i] y)=false:=by rw[g];simp[eF,hq.symm];exact fun e=>J e.symm
       simp[go_sem,f6,r,wk,J];exact aA ⟨zS1 f1,zS1 f4,zS1 f3,zSi,by rw[j];simp[go_sem],zS1 C⟩
     .have j:(ts.sA.take (k+1)).any (fun y=>eF ts.sA[i] y)=false:=by rw[g];simp[eF];exact fun e=>absurd e.symm hq
      simp[go_sem,f1,f4,f6,f5,r,t,l,wk,j0 hq];exact aA ⟨zS1 f1,zS1 f4,zS1 f3,zSi,by rw[j];simp[go_sem],zS1 C⟩
   .have a1:k=i:=by omega
    subst a1;rw[hT]at p;cases T with
    |true =>
     simp[go_sem,f4,f3,f6,f5,C];refine Zf (ys:=[(41,0)]) I (by simp[qE]) zSo fun a7 m' a2 a3=>?_
     simp[go_sem,f4,wi];exact⟨l,aA ⟨zS1 f1,zSi,by rw[p,Jy,wW,if_pos rfl,<-zB];simpa[go_sem] using a2,by simp only[qC];exact fun i P=>(a3 i P).trans (U i P)⟩⟩
    |false =>
     simp[go_sem,f4,f6,f5,C,wi];exact⟨l,aA ⟨zS1 f1,zSi,by rw[p,Jy,wW,if_neg zSp,zO];simpa[go_sem,f3,C] using I,by simp only[qC];exact U⟩⟩
  .have a4:i=ts.sA.length:=by omega
   subst a4;rw[z6 (by rw[Qz];exact qr _)]at I;simp[go_sem,R,e4,h3];exact⟨zUs I,U⟩
end
end QT
namespace QU
open YF Y9 Y10 Y1 Y2 Y15 Y16 YZ P1 P2 PA QD QI QK QT
theorem qsP{ts i}(l):(∃ p,zx (ckR ts i) ts.sT[i].name=some p/\(ts.sT.take i).any (fun y=>eP ts.sT[i] y)=true)\/(zx (ckR ts i) ts.sT[i].name=none/\(ts.sT.take i).any (fun y=>eP ts.sT[i] y)=false):=by
 cases h:zx (ckR ts i) ts.sT[i].name with
 |some p =>
  left;refine⟨p,rfl,?_⟩;unfold zx at h;rw[List.findIdx?_eq_some_iff_getElem]at h;obtain⟨g,o,_⟩:=h;refine List.any_eq_true.2 ⟨_,qs g,?_⟩
  grind
 |none =>
  right;refine⟨rfl,?_⟩;unfold zx at h;rw[List.findIdx?_eq_none_iff]at h;rw[List.any_eq_false];intro x j;have:=h x j
  grind
theorem rdDg{lo mu av xs}(h:OwnF lo mu 2 av (xs.map cDg)):Rd mu av (lDg xs):=by
 refine h.1.rd (zo.ok fun r g=>?_) fun r g c i=>?_
 .obtain ⟨n,_,rfl⟩:=qn.1 g
  exact⟨rfl,rfl⟩
 .obtain ⟨n,_,rfl⟩:=qn.1 g
  rcases qy.1 i with rfl|i
  .exact HF.sc _
  grind [qV,HF.sc]
theorem Jz{lo sz mu av xs}(h:OwnF lo mu sz av xs)(c):OwnF lo (mu++[c]) sz av xs:=⟨Ve h.1 c,h.2.1,by have:=h.2.2;simp;omega⟩
theorem qsQ(ts)(h:okTS ts)(wp:∀ p,p∈ts.sT->WfN p.body)(i)(U:i<ts.sT.length)(hd:depN ts.sT[i].body<=24):qi qe 50 [eTS ts,aI i] (lDg (ul ts i)):=by
 have a6:=h.pl _ (qs U);have ag:=h.np;have c1:=qe1 ts h wp i zOm ts.sT[i].params ⟨zOm,a6.2⟩ zOm ts.sT[i].body (wp _ (qs U)) hd;have c2:=VN (ckR ts i) (WE h zOm) ts.sT[i].name;have a7:=qsP U;have hp:ul ts i=dups [(ts.sT.take i).any (fun y=>eP ts.sT[i] y)]++(dups (repL eM ts.sT[i].params)++rp (jO (mkCk ts i) ts.sT[i].params ts.sT[i].body)):=by
  grind [ul,qA,qcQ]
 rw[hp];generalize hD:jO (mkCk ts i) ts.sT[i].params ts.sT[i].body=D at *
 generalize hb:(ts.sT.take i).any (fun y=>eP ts.sT[i] y)=b at *
 have ah:(dups [b]).length<=1:=by grind [dups]
 refine qSU call50 func50 rfl ?_;refine cJ zKr ?_;simp[go_sem,U];refine tS c2 (.zk (zp _) (.zs (.zs .nil))) ?_;have wk:WKs [eTS ts,aI i,lPm ts.sT[i].params,eNd ts.sT[i].body] [eTS ts,aI i,lPm ts.sT[i].params,eNd ts.sT[i].body] := .zk (zp _) (.zs (.zk (uB _) (.zk (qK _) .nil)));have af:=Zv;have fin:∀ l:St,True:=fun _=>trivial
 rcases a7 with ⟨p,hc,a0⟩|⟨hc,a0⟩
 case' inl =>
  subst a0;rw[hc];have a8:(0:Int)<=(p:Int):=zOm;simp[go_sem,idxO,a8];refine Zf (lo:=0) (xs:=[]) (ys:=[(41,0)]) (OwnF.nil zSp) (by simp[qE]) zSp fun ai m0 aj _=>?_
  simp[go_sem,U]
 case' inr =>
  subst a0;rw[hc];simp[go_sem,idxO,U]
 all_goals
  generalize a9:ts.sT[i]=g at *
 case' inl =>
  refine aK g.params.length (fun k l=>l.tm 2 = .ip (cTS ts)/\l.tm 1=aI i/\l.tm 6=lPm g.params/\l.tm 7=aI k/\OwnF 0 l.mu 2 (l.tm 5) ((dups [true]++dups ((repL eM g.params).take k)).map cDg)) ?_ ?_
  .simp_all [go_sem,dups]
 case' inr =>
  refine aK g.params.length (fun k l=>l.tm 2 = .ip (cTS ts)/\l.tm 1=aI i/\l.tm 6=lPm g.params/\l.tm 7=aI k/\OwnF 0 l.mu 2 (l.tm 5) ((dups [false]++dups ((repL eM g.params).take k)).map cDg)) ?_ ?_
  .simp_all [go_sem,dups,OwnF.nil]
 all_goals
  rintro k l hk ⟨e2,e1,e6,e7,ho⟩;have a5:(dups ((repL eM g.params).take k)).length<=k:=zQ (Y16.Za _) (List.length_take_le ..);generalize h5:l.tm 5=t at *
  by_cases C:k<g.params.length
  .have a1:=pq eM g.params k C
   have wi:=zWk k;simp[go_sem,e6,e7,C];refine aK k (fun j st2=>st2.tm 2 = .ip (cTS ts)/\st2.tm 1=aI i/\st2.tm 6=lPm g.params/\st2.tm 7=aI k/\st2.tm 5=t/\st2.tm 9=aI j/\st2.tm 8=aB ((g.params.take j).any fun y=>eM g.params[k] y)/\st2.mu=l.mu) ?_ ?_
   .simp [go_sem, *]
   rintro j st2 hj ⟨f2,f1,f6,f7,f5,f9,f8,fm⟩;generalize hT:(g.params.take j).any (fun y=>eM g.params[k] y)=T at *
   by_cases a2:j<k
   .have a3:j<g.params.length:=by omega
    have wj:=zWk j;have r:=WG (fun y=>eM g.params[k] y) g.params j a3;rw[hT]at r;simp[go_sem,f7,f9,a2];refine cJ zKr ?_;cases T with
    |true =>
     simp_all[go_sem,Bool.true_or,aA]
    |false =>
     rw[Bool.false_or]at r;by_cases hq:g.params[j].1=g.params[k].1
     .have o:(g.params.take (j+1)).any (fun y=>eM g.params[k] y)=true:=by rw[r];exact decide_eq_true hq.symm
      simp[go_sem,f6,f7,f9,f8,a2,a3,C,wj,hq];exact aA ⟨zS1 f2,zS1 f1,zS1 f6,zS1 f7,zS1 f5,zSi,by rw[o];simp[go_sem],zS1 fm⟩
     .have o:(g.params.take (j+1)).any (fun y=>eM g.params[k] y)=false:=by rw[r];exact decide_eq_false fun e=>hq e.symm
      simp[go_sem,f6,f7,f9,f8,a2,a3,C,wj,j0 hq];exact aA ⟨zS1 f2,zS1 f1,zS1 f6,zS1 f7,zS1 f5,zSi,by rw[o];simp[go_sem],zS1 fm⟩
   .have aa:j=k:=by omega
    subst aa;rw[hT]at a1;cases T with
    |true =>
     simp[go_sem,f7,f5,f9,f8,fm];refine Zf (ys:=[(41,0)]) ho (by simp[qE]) zSo fun ab m' I ad=>?_
     simp[go_sem,f7,wi];exact⟨C,aA ⟨zS1 f2,zS1 f1,zS1 f6,zSi,by rw[a1,Jy,<-zB];simpa[go_sem,wW] using I⟩⟩
    |false =>
     simp[go_sem,f7,f9,f8,fm,wi];exact⟨C,aA ⟨zS1 f2,zS1 f1,zS1 f6,zSi,by rw[a1,Jy];simpa[go_sem,wW,f5,fm] using ho⟩⟩
  .have ae:k=g.params.length:=by omega
   subst ae;rw[z6 (by rw[Qz];exact qr _)]at ho a5;simp[go_sem,e6,e7];refine cJ zKr ?_;simp[go_sem,e2,e1,e6,U,a9];refine tS c1 wk ?_;by_cases R:D.1=0
   .have a4:rp D=[]:=if_pos R
    rw[a4];simp[go_sem,h5,R];exact rdDg (Jz ho _)
   .have a4:rp D=[D]:=if_neg R
    rw[a4];simp[go_sem,h5,R];refine Zf (ys:=[D]) (Jz ho _) (by simp[qE]) (by simp only[zd,List.length_singleton];omega) fun ab m' I ad=>?_
    simp[go_sem];rw[zB]at I;exact rdDg I
theorem Vb(f:Nat->List Dg)(n):(qu (n+1)).flatMap f=(qu n).flatMap f++f n:=by
 rw[List.range_succ,List.flatMap_append];simp only[w7,List.flatMap_nil,zO]
theorem qsR(ts)(h:okTS ts)(wp:∀ p,p∈ts.sT->WfN p.body)(wf:∀ f,f∈ts.sP->WfN f.2)(dp:∀ p,p∈ts.sT->depN p.body<=24)(df:∀ f,f∈ts.sP->depN f.2<=24):qi qe 24 [eTS ts] (lDg (yZ ts)):=by
 have aj:=h.np;have ak:=h.nfa;have hD:(dups (repL eS ts.sS)++dups (repL eF ts.sA)).length<=10:=by
  have a1:=Y16.Za (repL eS ts.sS);have a2:=Y16.Za (repL eF ts.sA);rw[Qz]at a1 a2;have:=h.ns;have:=h.nf;rw[zd];omega
 have hC:yZ ts=(dups (repL eS ts.sS)++dups (repL eF ts.sA))++((qu ts.sT.length).flatMap (ul ts)++(qu ts.sP.length).flatMap (Q0 ts ts.sP)):=by
  unfold yZ;rw[zB]
 rw[hC];have a8:=qsO ts h [];generalize dups (repL eS ts.sS)++dups (repL eF ts.sA)=D0 at *
 refine qSU call24 func24 rfl ?_;refine fZ a8 (fun r m hr=>?_) (fun r m hr=>?_)
 case refine_2 =>
  grind
 obtain⟨al,e,an,_⟩:=hr;cases e;simp[go_sem];refine aK ts.sT.length (fun i C=>C.tm 1 = .ip (cTS ts)/\C.tm 4=aI i/\OwnF 0 C.mu 2 (C.tm 3) ((D0++(qu i).flatMap (ul ts)).map cDg)) ?_ ?_
 .simp_all [go_sem]
 rintro i C hi ⟨e1,e4,R⟩;have ai:=Y16.KI (ul ts) (Y16.qaX h) i;generalize h3:C.tm 3=t at *
 by_cases g:i<ts.sT.length
 .have j:=Vb (ul ts) i
  have ao:=Y16.qaX h i;have a9:=qsQ ts h wp i g (dp _ (qs g));have wi:=zWk i;generalize ul ts i=PD at *
  simp[go_sem,e1,e4,h3,g];refine fR a9 (.zk (zp ts) (.zs .nil)) ?_;refine Zf (ys:=PD) R (by simp[qE]) (by simp only[zd];omega) fun aa m' a0 ab=>?_
  simp_all[go_sem,aA,zB]
 .have a3:i=ts.sT.length:=by omega
  subst a3;simp[go_sem,e1,e4];generalize (qu ts.sT.length).flatMap (ul ts)=P0 at *
  refine aK ts.sP.length (fun i C=>C.tm 1 = .ip (cTS ts)/\C.tm 5=aI i/\OwnF 0 C.mu 2 (C.tm 3) (((D0++P0)++(qu i).flatMap (Q0 ts ts.sP)).map cDg)) ?_ ?_
  .exact ⟨zS1 e1,zSi,by simpa[go_sem,h3] using R⟩
  clear R e1 e4 h3 g hi C;rintro i C hi ⟨e1,e4,R⟩;have ad:=Y16.KI (Q0 ts ts.sP) (Y16.qmE ts ts.sP) i;generalize h3:C.tm 3=ae at *
  by_cases g:i<ts.sP.length
  .have j:=Vb (Q0 ts ts.sP) i
   have af:Q0 ts ts.sP i=dups [(ts.sP.take i).any (fun y=>eA ts.sP[i] y)]++rp (yf ts [] ts.sP[i].2):=by
    unfold Q0;rw[qA g];simp only;rw[qcQ,qA g]
   rw[af]at j;have cf:=pp ts h wp [] ⟨zSp,zSp⟩ zSp ts.sP[i].2 (wf _ (qs g)) (df _ (qs g));have wi:=zWk i;generalize yf ts [] ts.sP[i].2=D at *
   simp[go_sem,e1,e4,g];refine aK i (fun k st2=>st2.tm 1 = .ip (cTS ts)/\st2.tm 5=aI i/\st2.tm 3=ae/\st2.tm 7=aI k/\st2.tm 6=aB ((ts.sP.take k).any fun y=>eA ts.sP[i] y)/\st2.mu=C.mu) ?_ ?_
   .exact ⟨zS1 e1,zS1 e4,zS1 h3,zSi,zSi,zSi⟩
   rintro k st2 hk ⟨f1,f4,f3,f6,f5,fm⟩;generalize hT:(ts.sP.take k).any (fun y=>eA ts.sP[i] y)=T at *
   by_cases U:k<i
   .have a4:k<ts.sP.length:=by omega
    have wk:=zWk k;have l:=WG (fun y=>eA ts.sP[i] y) ts.sP k a4;rw[hT]at l;simp[go_sem,f4,f6,U];refine cJ zKr ?_;cases T with
    |true =>
     rw[Bool.true_or]at l;simp[go_sem,f6,f5,U,wk];exact aA ⟨zS1 f1,zS1 f4,zS1 f3,zSi,by rw[l];simp[go_sem],zS1 fm⟩
    |false =>
     rw[Bool.false_or]at l;by_cases hq:ts.sP[k].1=ts.sP[i].1
     .have I:(ts.sP.take (k+1)).any (fun y=>eA ts.sP[i] y)=true:=by rw[l];exact decide_eq_true hq.symm
      simp[go_sem,f1,f4,f6,f5,U,a4,g,wk,hq];exact aA ⟨zS1 f1,zS1 f4,zS1 f3,zSi,by rw[I];simp[go_sem],zS1 fm⟩
     .have I:(ts.sP.take (k+1)).any (fun y=>eA ts.sP[i] y)=false:=by rw[l];exact decide_eq_false fun e=>hq e.symm
      simp[go_sem,f1,f4,f6,f5,U,a4,g,wk,j0 hq];exact aA ⟨zS1 f1,zS1 f4,zS1 f3,zSi,by rw[I];simp[go_sem],zS1 fm⟩
   .have ag:k=i:=by omega
    subst ag;rw[hT]at j;have a5:WKs [eTS ts,.lst true [],eNd ts.sP[k].2] [eTS ts,lPm [],eNd ts.sP[k].2] := .zk (zp ts) (.cons (WK.lst fun r hr=>absurd hr qG) (.zk (qK _) .nil));have aq:=mv;cases T with
    |true =>
     simp[go_sem,f4,f3,f6,f5,fm];refine Zf (ys:=[(41,0)]) R (by simp[qE]) (by simp only[zd,List.length_singleton];omega) fun aa m' a0 ab=>?_
     simp[go_sem];refine cJ zKr ?_;simp[go_sem,f1,f4,g];refine tS cf a5 ?_;by_cases o:D.1=0
     .have J:rp D=[]:=if_pos o
      rw[J,zO]at j;simp[go_sem,f4,wi,o];exact⟨g,aA ⟨zS1 f1,zSi,by rw[j,<-zB];simpa[go_sem,wW] using Jz a0 (.arr [aI 0,aI D.2])⟩⟩
     .have J:rp D=[D]:=if_neg o
      rw[J]at j;simp[go_sem,o];refine Zf (ys:=[D]) (Jz a0 _) (by simp[qE]) (by simp only[zd,List.length_singleton];omega) fun a6 ah P a7=>?_
      simp[go_sem,f4,wi];exact⟨g,aA ⟨zS1 f1,zSi,by rw[j,<-zB];simpa[go_sem,wW,zB] using P⟩⟩
    |false =>
     simp[go_sem,f4,f6,f5,fm];refine cJ zKr ?_;simp[go_sem,f1,f4,g];refine tS cf a5 ?_;by_cases o:D.1=0
     .have J:rp D=[]:=if_pos o
      rw[J,zO]at j;simp[go_sem,f4,wi,o];exact⟨g,aA ⟨zS1 f1,zSi,by rw[j,<-zB];simpa[go_sem,wW,f3] using Jz R (.arr [aI 0,aI D.2])⟩⟩
     .have J:rp D=[D]:=if_neg o
      rw[J]at j;simp[go_sem,f3,o];refine Zf (ys:=[D]) (Jz R _) (by simp[qE]) (by simp only[zd,List.length_singleton];omega) fun a6 ah P a7=>?_
      simp[go_sem,f4,wi];exact⟨g,aA ⟨zS1 f1,zSi,by rw[j,<-zB];simpa[go_sem,wW,zB] using P⟩⟩
  .have a3:i=ts.sP.length:=by omega
   subst a3;simp[go_sem,e1,e4,h3];rw[zB]at R;exact rdDg R
end QU
namespace QP
end QP
namespace QV
end QV
namespace QW
open YS YF Y9 Y10 Y1 Y2 YZ YA P1 P2
section
variable {nm:tP}{l:List tP}
abbrev rNm(b:tP):List AV:=[aS b]
abbrev lNm(l:List tP):AV := .lst false (l.map rNm)
def namL(n:Nd):List tP:=((preN n).filter fun x=>decide (x.name≠⟨#[]⟩)).map Nd.name
def vK(l:List Nd):List tP:=((zD l).filter fun x=>decide (x.name≠⟨#[]⟩)).map Nd.name
theorem qsS(n):namL n=(if n.name=⟨#[]⟩ then [] else [n.name])++vK n.sD:=by
 unfold namL vK;rw[uG,List.filter_cons];by_cases h:n.name=⟨#[]⟩
 .simp [h]
 .simp [h]
theorem Jl:∀ a b,zD (a++b)=zD a++zD b
 | [],b=>rfl
 |x :: a,b=>by rw[List.cons_append];simp only[zD];rw[Jl a b,zB]
theorem qsT(a k):vK (a++[k])=vK a++namL k:=by
 grind [vK,namL,Jl,zD]
theorem qsU(l):(vK l).length<=(zD l).length:=by
 grind [vK,zT,List.length_filter_le]
theorem WH(n):(namL n).length<=(preN n).length:=by
 grind [namL,zT,List.length_filter_le]
theorem pr(l:List tP):zo 1 (l.map rNm):=fun r g=>by
 obtain⟨x,_,rfl⟩:=qn.1 g;exact⟨rfl,rfl⟩
theorem qe2(l):HF (lNm l):=HF.lst fun r g c i=>by
 obtain⟨x,_,rfl⟩:=qn.1 g
 grind [qV,HF.sc]
theorem rdNm{lo mu av}(h:OwnF lo mu 1 av (l.map rNm)):Rd mu av (lNm l):=
 h.1.rd (pr l).ok fun r g c i=>by
  obtain⟨x,_,rfl⟩:=qn.1 g
  grind [qV,HF.sc]
theorem appNm{mu lo s x}{xs ys:List tP}{K}(j:OwnF lo mu 1 s (xs.map rNm))(l:qE mu x=some (ys.map rNm))(o:xs.length+ys.length<=1000000)(p:∀ av mu',OwnF lo mu' 1 av ((xs++ys).map rNm)->(∀ i,i<lo->mu'[i]?=mu[i]?)->K av mu') :
  qz qe mu #[173,173] s x K:=by
 refine qz.ownF (lo:=lo) (e:=9) (sz:=1) (bt:=16) (zv:=aS ⟨#[]⟩) (xs:=xs.map rNm) (ys:=ys.map rNm) zSi zSi zSi rfl rfl zOm zOm j l (pr xs) (pr ys) zSo ?_
 grind
theorem qsV(l k):(zD (l.take k)).length<=(zD l).length:=by
 grind [zD,Jl,vO,zd]
theorem pt:∀ m n,szN n<=m->Small n->∀ lo mu av xs,OwnF lo mu 1 av (xs.map rNm)->xs.length+(preN n).length<=500000 ->
  qD qe 154 [av,eNd n] mu fun e t=>∃ g,e = .ret g/\OwnF lo t 1 g ((xs++namL n).map rNm)/\∀ i,i<lo->t[i]?=mu[i]?
 | 0,n,I,_=>by obtain⟨op,nm,i,ks,p⟩:=n;simp[szN]at I
 |m+1,n,I,hs=>by
  intro lo mu av xs C hl;have ih:∀ k,k∈n.sD->∀(lo:Nat)(mu:Mu)(av:AV)(xs:List tP),OwnF lo mu 1 av (xs.map rNm)->xs.length+(preN k).length<=500000->qD qe 154 [av,eNd k] mu fun e t=>∃ g,e = .ret g/\OwnF lo t 1 g ((xs++namL k).map rNm)/\∀ i,i<lo->t[i]?=mu[i]?:=fun k P =>
   pt m k (zW1 (yu P)) (hs.kid P)
  have a2:=hs.len;have l:=qsS n;have a3:(preN n).length=1+(zD n.sD).length:=by rw[uG,zG];omega
  refine qSW call154 func154 rfl {} ?_;by_cases J:n.name=⟨#[]⟩
  case' pos =>
   rw[if_pos J,vw]at l;simp[go_sem,J];refine aK n.sD.length (fun k T=>T.tm 3 = .ip (cNd n)/\T.tm 5=aI k/\OwnF lo T.mu 1 (T.tm 0) ((xs++vK (n.sD.take k)).map rNm)/\∀ i,i<lo->T.mu[i]?=mu[i]?) ?_ ?_
   .simp_all [go_sem,vK,zD]
   generalize hX:xs=X at *
   have R:X.length+(zD n.sD).length<=500000:=zOm;have j:X++vK n.sD=X++namL n:=by rw[l]
  case' neg =>
   rw[if_neg J]at l;have U:n.name.toList.isEmpty=false:=by simpa using j0 J
   simp[go_sem,U];refine appNm (ys:=[n.name]) C (by simp[qE]) (by grind) fun g t a4 a5=>?_
   simp[go_sem];refine aK n.sD.length (fun k T=>T.tm 3 = .ip (cNd n)/\T.tm 5=aI k/\OwnF lo T.mu 1 (T.tm 0) (((xs++[n.name])++vK (n.sD.take k)).map rNm)/\∀ i,i<lo->T.mu[i]?=mu[i]?) ?_ ?_
   .simp_all [go_sem,vK,zD]
   generalize hX:xs++[n.name]=X at *
   have R:X.length+(zD n.sD).length<=500000:=by grind
   have j:X++vK n.sD=xs++namL n:=by grind
  all_goals
   rintro k T P ⟨e3,e5,C,I⟩;generalize h0:T.tm 0=a0 at *
   by_cases o:k<n.sD.length
   .have w1:=zWk k
    have a6:vK (n.sD.take (k+1))=vK (n.sD.take k)++namL n.sD[k]:=by rw[vZ o,qsT]
    have a7:(zD (n.sD.take (k+1))).length=(zD (n.sD.take k)).length+(preN n.sD[k]).length:=by grind [vZ,Jl,zD]
    have h1:=qsV n.sD (k+1);have h2:=qsU (n.sD.take k);simp[go_sem,e3,e5,h0,o,zi];refine fZ (ih n.sD[k] (qs o) lo T.mu a0 _ C (by rw[zd];omega)) (fun r m2 hr=>?_) (fun r m2 hr=>?_)
    .simp_all [go_sem,aA,zB,qC,trans]
    grind
   .have a1:k=n.sD.length:=by omega
    subst a1;rw[qO,j]at C;simp[go_sem,e3,e5,h0];exact⟨zUs C,I⟩
def takL(ts:TS)(n:Nd):List tP:=namL n++ts.sT.flatMap fun p=>namL p.body
theorem qsW(ts)(h:okTS ts)(wp:∀ p,p∈ts.sT->WfN p.body)(n)(hw:WfN n)(hl:(preN n).length<=400)(hp:∀ p,p∈ts.sT->(preN p.body).length<=400):qi qe 97 [eTS ts,eNd n] (lNm (takL ts n)):=by
 have a3:=h.np;have hk:∀ i (o:i<ts.sT.length),ts.sT.take (i+1)=ts.sT.take i++[ts.sT[i]]:=fun i o=>vZ o
 have I:∀ i,((ts.sT.take i).flatMap fun p=>namL p.body).length<=400*i:=by
  intro i;induction i with
  |zero=>simp
  |succ i ih =>
   by_cases o:i<ts.sT.length
   .rw [hk i o,List.flatMap_append,zd]
    have h1:=WH ts.sT[i].body;have h2:=hp _ (qs o);simp only[w7,List.flatMap_nil,zO];omega
   .have e1:ts.sT.take (i+1)=ts.sT:=z6 zOm
    have l:ts.sT.take i=ts.sT:=z6 zOm;rw[e1];rw[l]at ih;omega
 have hn:=WH n;refine qSU call97 func97 rfl ?_;refine fZ (pt (szN n) n (qr _) hw.small 0 [] (.lst true []) [] (OwnF.nil zSp) zSo) (fun r J j=>?_) (fun r J j=>?_)
 case refine_2 =>
  obtain⟨t,e,_⟩:=j;cases e
 obtain⟨a4,e,C,_⟩:=j;cases e;rw[vw]at C;simp[go_sem];refine aK ts.sT.length (fun k T=>T.tm 2 = .ip (cTS ts)/\T.tm 6=aI k/\OwnF 0 T.mu 1 (T.tm 5) ((namL n++(ts.sT.take k).flatMap fun p=>namL p.body).map rNm)) ?_ ?_
 .exact ⟨zSi,zSi,zVs C⟩
 rintro k T a5 ⟨l,P,R⟩;generalize h5:T.tm 5=U at *
 by_cases g:k<ts.sT.length
 .have w1:=zWk k
  have a0:(ts.sT.take (k+1)).flatMap (fun p=>namL p.body)=(ts.sT.take k).flatMap (fun p=>namL p.body)++namL ts.sT[k].body:=by
   rw[hk k g,List.flatMap_append];simp only[w7,List.flatMap_nil,zO]
  have h1:=I k;have h2:=hp _ (qs g);simp[go_sem,l,P,h5,g,Zv];refine fZ (pt (szN ts.sT[k].body) ts.sT[k].body (qr _) (wp _ (qs g)).small 0 T.mu U _ R (by rw[zd];omega)) (fun r J j=>?_) (fun r J j=>?_)
  .obtain ⟨t,e,a1,_⟩:=j
   cases e;simp[go_sem,l,P,w1];exact⟨g,aA ⟨zS1 l,zSi,by rw[a0,<-zB];simpa[go_sem] using a1⟩⟩
  .obtain ⟨t,e,_⟩:=j
   cases e
 .have a2:k=ts.sT.length:=by omega
  subst a2;rw[qO]at R;simp[go_sem,l,P,h5];exact rdNm R
def inL(nm:tP)(l:List tP):Bool:=l.any fun x=>decide (x=nm)
theorem pu:inL nm l=true↔nm∈l:=by
 unfold inL;simp
theorem qe3(h:¬nm∈l):inL nm l=false:=by
 grind [inL,absurd,pu]
theorem hasU(l nm)(P:l.length<=1000000):qi qe 200 [lNm l,aS nm] (aB (inL nm l)):=by
 refine qSU call200 func200 rfl ?_;refine aK l.length (fun k T=>T.tm 0=lNm l/\T.tm 1=aS nm/\T.tm 5=aI k/\∀ x,x∈l.take k->x≠nm) ?_ ?_
 .simp [go_sem, *]
 rintro k T R ⟨i,j,r,t⟩;by_cases g:k<l.length
 .have J:=zWk k
  by_cases o:l[k]=nm
  .have C:inL nm l=true:=pu.2 (o ▸ qs g)
   rw[C];simp[go_sem,i,j,r,g,o];exact .zsc _
  .simp [go_sem,i,j,r,g,j0 o,J]
   refine aA ⟨zS1 i,zS1 j,zSi,fun x p=>?_⟩;rw[vZ g,qM,qV]at p;rcases p with p|rfl
   .exact t x p
   .exact o
 .have I:k=l.length:=by omega
  subst I;rw[qO]at t;have C:inL nm l=false:=qe3 fun h=>t nm h rfl
  rw[C];simp[go_sem,i,j,r];exact .zsc _
theorem qsX(u:Nat)(h:u<10):ByteArray.empty.push (UInt8.ofNat ((48:Int)+(u:Int)).toNat)=jE u:=by
 unfold jE;rw[Lib.itoa_nonneg,Lib.decDigits_one h,show ((48:Int)+(u:Int)).toNat=48+u by omega];rfl
theorem qsY(u)(h:¬u<10):jE ((u / 10:Nat):Int)++ByteArray.empty.push (UInt8.ofNat ((48:Int)+((u % 10:Nat):Int)).toNat)=jE u:=by
 unfold jE;rw[Lib.itoa_nonneg,Lib.itoa_nonneg,Lib.decDigits.eq_1 u,dif_neg h,show ((48:Int)+((u % 10:Nat):Int)).toNat=48+u % 10 by omega];apply ByteArray.ext;simp
theorem digU:∀(m u:Nat),u<=m->u<=1000000000->qi qe 199 [aI u] (aS (jE u))
 |m,u,J,P=>by
  have r:qq.wrap (48+(u:Int))=48+(u:Int):=zWr;refine qSV call199 func199 rfl ?_;by_cases h:u<10
  .have i:(u:Int)<10:=by omega
   have t:IntKind.u8.wrap (48+(u:Int))=48+(u:Int):=IntWalk.u8_in _ ⟨zOm,zOm⟩;have g:=qsX u h;simp[go_sem,i,r,t,g];exact .zsc _
  .have i:¬(u:Int)<10:=by omega
   have C:=digU (u / 10) (u / 10) (qr _) zOm;have g:=qsY u h;simp[go_sem,i];refine cJ zKr ?_;have I:qq.wrap ((u:Int) / 10)=((u / 10:Nat):Int):=by rw[show ((u:Int) / 10)=((u / 10:Nat):Int) from rfl];grind [z8]
   have t3:(u:Int).tmod 10=((u % 10:Nat):Int):=rfl;have o:qq.wrap (48+((u % 10:Nat):Int))=48+((u % 10:Nat):Int):=zWr;have p:IntKind.u8.wrap (48+((u % 10:Nat):Int))=48+((u % 10:Nat):Int):=IntWalk.u8_in _ ⟨zOm,zOm⟩;have j:=kc ((u / 10:Nat):Int) zOm zOm;simp[go_sem,I];refine tS C (.zs .nil) ?_;have c1:((u / 10:Nat):Int)=(u:Int) / 10:=rfl;have c2:((u % 10:Nat):Int)=(u:Int) % 10:=rfl;rw[c1]at j g;rw[c2]at o p g;have l:(jE ((u:Int) / 10)).size<=9223372036854775806:=zOm;simp[go_sem,t3,o,p,l,g];exact .zsc _
end
end QW
namespace QX
open YS YF Y9 Y1 Y2 YX YZ YA YB P1 QD QK QW
abbrev cWk(ts:TS)(l:List tP)(s:ISt):List AV:=cTS ts++[lNm l,aI s.last,aI s.sM]
abbrev eWk(ts:TS)(l:List tP)(s:ISt):AV := .agg (cWk ts l s)
theorem qsZ(ts l s):∀ c,c∈cWk ts l s->HF c:=fun c g=>by
 rcases qM.1 g with g|g
 .exact YO ts c g
 .simp only[qy,qG,or_false]at g
  rcases g with rfl|rfl|rfl
  .exact qe2 l
  .exact HF.sc _
  .exact HF.sc _
theorem wX(ts l s):HF (eWk ts l s):=HF.agg (qsZ ts l s)
structure Tn (l:List tP) (es:List (tP×Bool)):Prop where
 mem:∀ nm:tP,nm≠⟨#[]⟩->(nm∈l↔getK nm es=some true)
 len:es.length<=l.length+1
theorem vN_ne(k):vN k≠⟨#[]⟩:=fun e=>by
 have:=congrArg ByteArray.size e;unfold vN at this;rw[ByteArray.size_append]at this;have g:(⟨#[118]⟩:tP).size=1:=rfl;have i:(⟨#[]⟩:tP).size=0:=rfl;omega
theorem qs0{ts l es}(t:Tn l es)(k):yI ts es (vN k)=(decide ((means ts (vN k)).length=0)&&!inL (vN k) l):=by
 unfold yI;have i:=t.mem (vN k) (vN_ne k);have g:decide (means ts (vN k)=[])=decide ((means ts (vN k)).length=0):=by
  simp[List.length_eq_zero_iff]
 rw[g,Bool.and_comm];congr 1;by_cases j:vN k∈l
 .grind [pu]
 simp_all[qe3,Bool.not_false,decide_eq_true_eq]
theorem two{I:Type}{l}{a b:I}(g:l[0]?=some a)(i:l[1]?=some b):∃ r,l=a :: b :: r:=by
 match l,g,i with
 |_ :: _ :: r,g,i =>
  grind
abbrev zWc:List AV:=[.lst true [],.lst true [],.lst true [],.lst true [],.lst true [],aI 0,aI 0]
theorem qs1(ts)(h:okTS ts)(l es)(t:Tn l es)(hl:l.length<=400000)(s:ISt)(hs:0<=s.last/\s.last+(qo ts es:Nat)<=1000000000)(a4:∃ j,1<=j/\j<=qo ts es/\yI ts es (vN (s.last+j))=true) :
  qi qe 153 [eWk ts l s] (.tup [eWk ts l ⟨zC ts es (qo ts es) s.last,s.sM⟩,aS (vN (zC ts es (qo ts es) s.last))]):=by
 have a8:=h.ns;have a9:=h.nf;have hF:qo ts es<=l.length+40:=by have:=t.len;unfold qo;omega
 have a5:okNm ts:=⟨h.sl,zOm,zOm,fun f hf=>zW1 (h.fl f hf)⟩;generalize aa:qo ts es=F at *
 generalize hR:zC ts es F s.last=R;refine qSQ call153 func153 rfl { mt:=[1] } ?_;simp[go_sem];refine tT (fun m T=>∃(i:Nat) (k:Int),i+m=F/\0<=k/\k+m<=1000000000/\T.tm 1 = .ptr 0 0/\T.tm 2 = .ptr 1 0/\T.tm 4=aI i/\T.mu[0]?=some (.arr (cWk ts l ⟨k,s.sM⟩))/\T.mu[1]?=some (.arr zWc)/\zC ts es m k=R/\∃ j:Nat,1<=j/\j<=m/\yI ts es (vN (k+j))=true) F ?_ ?_
 .exact ⟨0,s.last,zOm,hs.1,zOm,zSi,zSi,zSi,zSi,zSi,hR,a4⟩
 rintro m T ⟨i,k,ab,ad,ae,I,J,e4,m0,m1,hI,j,af,ag,ah⟩;obtain⟨m,rfl⟩:∃ m',m=m'+1:=⟨m-1,zOm⟩;obtain⟨rr,o⟩:=two m0 m1;have w1:qq.wrap (k+1)=k+1:=zWr;have w2:qq.wrap ((l.length:Int)+40)=(l.length:Int)+40:=zWr;have w3:=zWk i;have g:(i:Int)<=(l.length:Int)+40:=zOm;obtain⟨u,hu⟩:∃ u:Nat,k+1=(u:Int):=⟨(k+1).toNat,zOm⟩;have cd:=digU u u (qr _) zOm;have ai:=kc (u:Int) zOm zOm;have a2:1+(jE (u:Int)).size<=9223372036854775807:=zOm;have hv:(⟨#[118]⟩:tP)++jE (u:Int)=vN (k+1):=by rw[hu];rfl
 have p:=qs0 (ts:=ts) t (k+1);have cn:=kX ts a5 (vN (k+1));have U:=kW ts (vN (k+1));have hk:(named ts (vN (k+1))).2=(means ts (vN (k+1))).length:=by rw[pj h]
 rw[hk]at cn;generalize (named ts (vN (k+1))).1=C at *
 have ch:=hasU l (vN (k+1)) zOm;clear m0 m1;simp[go_sem,I,J,e4,o,w1,w2,g];refine tS cd (.cons (by rw[hu];exact .hf (HF.sc _)) .nil) ?_;simp[go_sem,I,J,e4,o,w1,w2,g,a2,hv];refine tS cn (.zk (zp ts) (.zs .nil)) ?_;simp[go_sem,I,J,e4,o,w1,w2,g,U.len];rw[if_pos U.one];generalize putCells _ 0 C=PC;have next:yI ts es (vN (k+1))=false->∃ k':Int,k'=k+1/\zC ts es m k'=R/\∃ j:Nat,1<=j/\j<=m/\yI ts es (vN (k'+j))=true:=fun hn=>by
  refine⟨k+1,rfl,?_,j-1,?_,zOm,?_⟩
  .simp_all [zC,if_neg]
  .have:j≠1:=fun e=>by grind
   omega
  grind
 by_cases P:means ts (vN (k+1))=[]
 .rw [P]at p
  simp[go_sem,I,J,e4,o,w1,w2,g,P];refine tS ch (.zk (qe2 l) (.zs .nil)) ?_;cases a3:inL (vN (k+1)) l with
  |true =>
   rw[a3]at p;obtain⟨k',r,a0,a1⟩:=next p;simp[go_sem,I,J,e4,o,w1,w2,w3,g];exact⟨m,zOm,aA ⟨i+1,k+1,zOm,zOm,zOm,zS1 I,zS1 J,zSi,zSi,zSi,by rw[<-r];exact a0,by rw[<-r];exact a1⟩⟩
  |false =>
   rw[a3]at p;have a6:R=k+1:=by rw[<-hI];simp only[zC];rw[if_pos (by rw[p];rfl)]
   simp[go_sem,I,J,e4,o,w1,w2,g];rw[a6];exact .hf _ (HF.tup fun x hx=>by
    simp only[qy,qG,or_false]at hx;rcases hx with rfl|rfl
    .exact wX ts l ⟨k+1,s.sM⟩
    .exact HF.sc _)
 .have a7:¬(means ts (vN (k+1))).length=0:=fun e=>P (List.length_eq_zero_iff.1 e)
  rw[decide_eq_false a7]at p;obtain⟨k',r,a0,a1⟩:=next p;simp[go_sem,I,J,e4,o,w1,w2,w3,g,P];exact⟨m,zOm,aA ⟨i+1,k+1,zOm,zOm,zOm,zS1 I,zS1 J,zSi,zSi,zSi,by rw[<-r];exact a0,by rw[<-r];exact a1⟩⟩
abbrev Sb:=tP×IV
def cAr:Option Nd->List AV
 |some a=>cNd a
 |none=>[aI 0,aS ⟨#[]⟩,aI 0,.lst true [],aI 0]
@[go_sem] theorem cAr_some(a):cAr (some a)=cNd a:=rfl
@[go_sem] theorem cAr_none:cAr none=[aI 0,aS ⟨#[]⟩,aI 0,.lst true [],aI 0]:=rfl
@[go_sem] theorem qs2(o):(cAr o).length=5:=by cases o<;>simp[go_sem,yp]
theorem qs3(o):∀ c,c∈cAr o->HF c:=by
 cases o with
 |some a=>exact vE a
 |none =>
  intro c g;simp only[cAr,qy,qG,or_false]at g;rcases g with rfl|rfl|rfl|rfl|rfl
  .exact HF.sc _
  .exact HF.sc _
  .exact HF.sc _
  .exact HF.lst fun r i=>absurd i qG
  .exact HF.sc _
abbrev cSb(x:Sb):List AV:=[aS x.1,aS x.2.name,aB x.2.arg.isSome]++cAr x.2.arg++[aI x.2.size]
abbrev lSb(l:List Sb):AV := .lst false (l.map cSb)
def wm(nm:tP)(l:List Sb):Option IV:=l.foldl (fun r e=>if e.1=nm then some e.2 else r) none
theorem WI(nm l e):wm nm (l++[e])=if e.1=nm then some e.2 else wm nm l:=by
 unfold wm;rw[vM];rfl
theorem pv{mu}(ts l s n z):Rd mu (.tup [eWk ts l s,eNd n,aI z]) (.tup [eWk ts l s,eNd n,aI z]) := .hf _ (HF.tup fun x g=>by
 simp only[qy,qG,or_false]at g;rcases g with rfl|rfl|rfl
 .exact wX ts l s
 .exact qK n
 .exact HF.sc _)
def Zg(sc:List Sb)(n:Nd)(s:ISt):(Nd×Int)×ISt:=match wm n.name sc with
 |none=>((n,1),s)
 |some v=>match v.arg with
  |none=>((.mk n.op v.name n.n n.sD n.pos,1),s)
  |some a=>((a,v.size),payS v.size s)
theorem leafU(ts l sc)(hl:sc.length<=1000000)(n s)(hs:0<=s.sM/\s.sM<=1000000)(hz:∀ e,e∈sc->0<=e.2.size/\e.2.size<=1000000) :
  qi qe 150 [eWk ts l s,lSb sc,eNd n] (.tup [eWk ts l (Zg sc n s).2,eNd (Zg sc n s).1.1,aI (Zg sc n s).1.2]):=by
 unfold Zg;generalize hR:wm n.name sc=R;have wl:qq.wrap ((sc.length:Int)-1)=(sc.length:Int)-1:=zWr;refine qSQ call150 func150 rfl { mt:=[3,5] } ?_;simp[go_sem,wl,zi];refine tT (fun m T=>m<=sc.length/\T.tm 1=lSb sc/\T.tm 3 = .ptr 0 0/\T.tm 5 = .ptr 1 0/\T.tm 6 = .ptr 2 0/\T.tm 7 = .ptr 3 0/\T.tm 9=aI ((m:Int)-1)/\T.mu=[.arr (cWk ts l s),.arr (cNd n),.arr zWc,.arr [aI 0,aS ⟨#[]⟩,aI 0,.lst true [],aI 0]]/\wm n.name (sc.take m)=R) sc.length ?_ ?_
 .simp [go_sem, *]
 rintro m T ⟨a2,j,o,p,r,t,C,I,P⟩;cases m with
 |zero =>
  have a1:R=none:=by rw[<-P];rfl
  subst a1;simp[go_sem,j,o,p,r,t,C,I,zi];refine fD [0,1,4,2,3] [(0,0,[]),(1,0,[]),(4,0,[]),(2,1,[1]),(3,1,[])] zKr zKr zSi ?_;simp[go_sem,j,o,p,r,t,C,I,zi]
  grind [pv]
 |succ m =>
  have g:m<sc.length:=zOm;have a3:(0:Int)<=((m+1:Nat):Int)-1:=zOm;have U:((m+1:Nat):Int)-1=(m:Int):=zOm;rw[U]at C;rw[vZ g,WI]at P;have w1:qq.wrap ((m:Int)-1)=(m:Int)-1:=zWr;have a4:=hz _ (qs g);generalize i:sc[m]=e at *
  by_cases J:e.1=n.name
  .rw [if_pos J]at P
   subst P;have w2:qq.wrap (s.sM+e.2.size)=s.sM+e.2.size:=zWr;simp[go_sem,j,o,p,r,t,C,I,zi,g];refine cJ zKr ?_;simp[go_sem,j,o,p,r,t,C,I,zi,g,i,J];cases ha:e.2.arg with
   |none =>
    simp[go_sem,j,o,p,r,t,C,I,zi,g,i,J,ha];refine fD [0,1,4,2,3] [(0,0,[]),(1,0,[]),(4,0,[]),(2,1,[1]),(3,1,[])] zKr zKr zSi ?_;have a0:(cNd n).set 1 (AV.sc (.string e.2.name))=cNd (.mk n.op e.2.name n.n n.sD n.pos):=by rw[yp n,yp];rfl
    rw[a0];simp[go_sem,j,o,p,r,t,C,I,zi]
    grind [pv]
   |some a =>
    simp[go_sem,j,o,p,r,t,C,I,zi,g,i,J,ha];refine fD [0,1,2,3,4,5,6,7,8,9] [(0,0,[]),(1,0,[]),(2,0,[]),(3,0,[]),(4,0,[]),(5,0,[]),(6,0,[]),(7,0,[]),(8,0,[]),(9,1,[])] zKr zKr zSi ?_;simp[go_sem,j,o,p,r,t,C,I,zi,g,i,J,ha,w2];refine fD [0,1,2,3,4,5,6,7,8,9,10,13,11,12] [(0,0,[]),(1,0,[]),(2,0,[]),(3,0,[]),(4,0,[]),(5,0,[]),(6,0,[]),(7,0,[]),(8,0,[]),(9,0,[]),(10,0,[]),(13,0,[]),(11,1,[5,10]),(12,1,[10])] zKr zKr zSi ?_;simp[go_sem,j,o,p,r,t,C,I,zi,g,i,J,ha,w2]
    grind [pv,payS]
  .rw [if_neg J]at P
   simp[go_sem,j,o,p,r,t,C,I,zi,g];refine cJ zKr ?_;simp[go_sem,j,o,p,r,t,C,I,zi,g,i,j0 J,w1];exact⟨m,zOm,aA ⟨zOm,zS1 j,zS1 o,zS1 p,zS1 r,zS1 t,zSi,zS1 I,P⟩⟩
theorem pw:∀ m n,szN n<=m->Small n->depN n<=1000000->qi qe 98 [eNd n] (aI (depN n))
 | 0,n,J,_,_=>by obtain⟨op,nm,i,ks,p⟩:=n;simp[szN]at J
 |m+1,n,J,P,R=>by
  have ih:∀ k,k∈n.sD->qi qe 98 [eNd k] (aI (depN k)):=fun k j =>
   pw m k (zW1 (yu j)) (P.kid j) (by rw[wQ]at R;have:=K8 j;omega)
  rw[wQ]at R⊢;have U:=P.len;have a0:=Vu n.sD;generalize hD:yF n.sD=D at *
  refine qSU call98 func98 rfl ?_;refine aK n.sD.length (fun k T=>∃ d,T.tm 3=aI d/\T.tm 1 = .ip (cNd n)/\T.tm 4=aI k/\0<=d/\max d (yF (n.sD.drop k))=D) ?_ ?_
  .exact ⟨0,zSi,zSi,zSi,zOm,by grind⟩
  .rintro k T j ⟨d,r,l,t,a1,o⟩
   by_cases C:k=n.sD.length
   .subst C
    rw[yd]at o;simp only[yF]at o;have I:d=D:=zOm;subst I;have w:qq.wrap (d+1)=d+1:=zWr;simp[go_sem,r,l,t,w];exact .zsc _
   .have g:k<n.sD.length:=by omega
    have w1:=zWk k;rw[zu g]at o;simp only[yF]at o;simp[go_sem,r,l,t,g,zi];refine tS (ih n.sD[k] (qs g)) (.zk (qK _) .nil) ?_;simp[go_sem,r,l,t,w1];refine⟨g,aA ?_⟩;refine⟨if d<depN n.sD[k] then depN n.sD[k] else d,zSi,zS1 l,zSi,?_,?_⟩
    .omega
    omega
end QX
namespace QY
open Y1 YX YA YB YC P1 P2 PA QE QX
section
variable {es:List (tP×Bool)}
structure ScOf (ts:TS) (body:Bool) (sc:List Sb) (env:IEnv):Prop where
 look:∀ nm,wm nm sc=getK nm env
 own:body=false->∀ nm v,getK nm env=some v->means ts nm≠[]
 sz:∀ e,e∈sc->0<=e.2.size/\e.2.size<=4000
def OutR(r:XR (Nd×Int))(s':ISt)(n':Nd)(z:Int):Prop:=match r with
 | .ok ((m,y),t)=>n'=m/\z=y/\s'=t
 | .error _=>4000<s'.sM/\s'.sM<=9000/\0<=z/\z<=4000
def renR(ts:TS)(es:List (tP×Bool))(sc:List Sb)(nm:tP)(body:Bool)(s:ISt):(List Sb×tP)×ISt:=
 if body=true\/means ts nm≠[] then
  ((sc++[(nm,⟨none,0,vN (zC ts es (qo ts es) s.last)⟩)],vN (zC ts es (qo ts es) s.last)),⟨zC ts es (qo ts es) s.last,s.sM⟩)
 else ((sc,nm),s)
abbrev XO:=ISt×Nd×Int
def uq(E:Nd->ISt->XO):List (tP×Int)->List Nd->List Sb->ISt->Except ISt (List Sb×ISt)
 |p :: g,k :: ks,own,s=>if 4000<(E k s).1.sM then .error (E k s).1 else uq E g ks (own++[(p.1,⟨some (E k s).2.1,(E k s).2.2,⟨#[]⟩⟩)]) (E k s).1
 |_,_,own,s => .ok (own,s)
def uJ(E:List Sb->Nd->ISt->XO)(R:List Sb->tP->ISt->(List Sb×tP)×ISt)(bin:Bool):Nat->List Sb->tP->List Nd->ISt->Except ISt ((tP×List Nd×Int)×ISt)
 |_,_,o,[],s => .ok ((o,[],0),s)
 |i,sc,o,k :: ks,s =>
  let r:=if bin=true/\i=1 then R sc o s else ((sc,o),s)
  let q:=E r.1.1 k r.2
  if 4000<q.1.sM then .error q.1 else match uJ E R bin (i+1) r.1.1 r.1.2 ks q.1 with
   | .error e => .error e
   | .ok ((g,j,p),l) => .ok ((g,q.2.1 :: j,q.2.2+p),l)
def expR(ts:TS)(es:List (tP×Bool)):Nat->List Sb->Nd->Bool->ISt->XO
 | 0,_,n,_,s=>(s,n,0)
 |f+1,sc,n,g,s =>
  if s.sM+1<=4000 then
   if n.op=1 then ((Zg sc n (payS 1 s)).2,(Zg sc n (payS 1 s)).1.1,(Zg sc n (payS 1 s)).1.2)
   else if n.op=47 then match ts.sT.find? fun p=>decide (p.name=n.name) with
    |none=>(payS 1 s,n,1)
    |some p=>match uq (fun k s=>expR ts es f sc k g s) p.params n.sD [] (payS 1 s) with
     | .error i=>(i,nd0,0)
     | .ok (own,i)=>expR ts es f own p.body true i
   else match uJ (fun sc k s=>expR ts es f sc k g s) (fun sc o s=>renR ts es sc o g s) (binB n.op) 0 sc n.name n.sD (payS 1 s) with
    | .error i=>(i,nd0,0)
    | .ok ((o,ks,m),i)=>(i,.mk n.op o n.n ks n.pos,1+m)
  else (payS 1 s,nd0,0)
theorem WJ{F s s' z}(g:Gos F s s' z)(h:StOk F s):StOk F s'/\s.sM<=s'.sM/\z<=4000:=⟨g.ok h,zW2 g.cz g.z0,by have:=g.cz;have:=g.c1;have:=h.c0;omega⟩
theorem qe4{F f:Nat}{E E'}:∀ ps ks own i s,
  (∀ k,k∈ks->∀ s,StOk F s->4000<s.sM+(f:Int)->OutR (E k s) (E' k s).1 (E' k s).2.1 (E' k s).2.2)->(∀ k n' z s s',k∈ks->StOk F s->E k s = .ok ((n',z),s')->Gos F s s' z) ->
  StOk F s->4000<s.sM+(f:Int)->zt own->(∀ nm,wm nm i=getK nm own)->(∀ e,e∈i->0<=e.2.size/\e.2.size<=4000) ->
  match y7 E ps ks own s with
  | .error _=>∃ t,uq E' ps ks i s = .error t/\4000<t.sM/\t.sM<=9000
  | .ok (l,s')=>∃ j,uq E' ps ks i s = .ok (j,s')/\zt l/\(∀ nm,wm nm j=getK nm l)/\(∀ e,e∈j->0<=e.2.size/\e.2.size<=4000)/\StOk F s'/\s.sM<=s'.sM
 | [],ks,own,i,s,_,_,o,_,J,P,R=>by simp only[y7,uq];exact⟨i,rfl,J,P,R,o,v7 _⟩
 |p :: ps,[],own,i,s,_,_,o,_,J,P,R=>by simp only[y7,uq];exact⟨i,rfl,J,P,R,o,v7 _⟩
 |p :: ps,k :: ks,own,i,s,hE,hG,o,hf,J,P,R=>by
  simp only[y7,uq];have C:=hE k (zg ..) s o hf;have h2:=fun n' z s'=>hG k n' z s s' (zg ..) o
  generalize E' k s=Q at *
  cases T:E k s with
  |error d =>
   rw[T]at C;simp only;rw[if_pos C.1];exact⟨_,rfl,C.1,C.2.1⟩
  |ok r =>
   obtain⟨⟨m,y⟩,t⟩:=r;rw[T]at C;obtain⟨e1,e2,e3⟩:=C;have g:=h2 m y t T;obtain⟨g1,g2,g3⟩:=WJ g o;have hc:=g.c1;simp only;rw[if_neg (by rw[e3];omega),e1,e2,e3];have ih:=qe4 (F:=F) (f:=f) ps ks (setK p.1 ⟨some m,y,⟨#[]⟩⟩ own) (i++[(p.1,⟨some m,y,⟨#[]⟩⟩)]) t (fun k U=>hE k (q8 _ U)) (fun k n' z s s' U=>hG k n' z s s' (q8 _ U)) g1 zOm (J.set ⟨g.z0,g3⟩) (fun nm=>by
    rw[WI,j5,P];by_cases e:p.1=nm
    .grind
    .rw [if_neg e,if_neg fun x=>e x.symm]) (fun e I=>by
    rcases qM.1 I with I|I
    .exact R e I
    .rw [qV]at I;subst I;exact⟨g.z0,g3⟩)
   grind
theorem qe5{ts env sc nm body s}(j:zt env)(h:ScOf ts body sc env) :
  ScOf ts body (renR ts es sc nm body s).1.1 (renI ts es env nm body s).1.1/\(renR ts es sc nm body s).1.2=(renI ts es env nm body s).1.2/\(renR ts es sc nm body s).2=(renI ts es env nm body s).2:=by
 unfold renR renI;by_cases l:body=true\/means ts nm≠[]
 .rw [if_pos l,if_pos l]
  refine⟨⟨fun x=>?_,fun i x v g=>?_,fun e o=>?_⟩,rfl,rfl⟩
  .simp only
   rw[WI,j5,wF j.nd,h.look];by_cases e:nm=x
   .grind
   .rw [if_neg e,if_neg fun y=>e y.symm,if_neg fun y=>e y.symm]
  .simp only at g
   rw[j5,wF j.nd]at g;by_cases e:x=nm
   .grind
   .rw [if_neg e,if_neg e]at g
    exact h.own i x v g
  .rcases qM.1 o with o|o
   .exact h.sz e o
   grind
 .rw [if_neg l,if_neg l]
  refine⟨⟨fun x=>?_,fun i x v g=>?_,h.sz⟩,rfl,rfl⟩
  .simp only
   rw[wF j.nd,h.look];by_cases e:x=nm
   .rw [if_pos e]
    cases p:getK x env with
    |none=>rfl
    |some v =>
     have i:body=false:=by grind
     exact absurd (h.own i x v p) (by grind)
   .rw [if_neg e]
  .simp only at g
   rw[wF j.nd]at g;split at g
   .cases g
   .exact h.own i x v g
theorem qe6{ts es}(C:Free ts es){f:Nat}{body E E' bin}:∀ ks i env sc nm s,
  (∀ k,k∈ks->∀ env sc s,StOk (qo ts es) s->4000<s.sM+(f:Int)->zt env->ScOf ts body sc env->OutR (E env k s) (E' sc k s).1 (E' sc k s).2.1 (E' sc k s).2.2) ->
  (∀ env k n' z s s',k∈ks->StOk (qo ts es) s->zt env->E env k s = .ok ((n',z),s')->Gos (qo ts es) s s' z) ->
  0<=s.last->0<=s.sM->s.sM<=4000->dueN (qo ts es) bin i<=pot (qo ts es) s->4000<s.sM+(f:Int)->zt env->ScOf ts body sc env ->
  match yx E (fun env nm s=>renI ts es env nm body s) bin i env nm ks s with
  | .error _=>∃ t,uJ E' (fun sc nm s=>renR ts es sc nm body s) bin i sc nm ks s = .error t/\4000<t.sM/\t.sM<=9000
  | .ok r=>uJ E' (fun sc nm s=>renR ts es sc nm body s) bin i sc nm ks s = .ok r
 | [],i,env,sc,nm,s,_,_,_,_,_,_,_,_,_=>by simp only[yx,uJ]
 |k :: ks,i,env,sc,nm,s,hE,hG,l0,c0,c1,hp,hf,R,I=>by
  simp only[yx,uJ];obtain⟨r,J⟩:∃ r,(if bin=true/\i=1 then renI ts es env nm body s else ((env,nm),s))=r:=⟨_,rfl⟩;obtain⟨l,j⟩:∃ l,(if bin=true/\i=1 then renR ts es sc nm body s else ((sc,nm),s))=l:=⟨_,rfl⟩;have hR:ScOf ts body l.1.1 r.1.1/\l.1.2=r.1.2/\l.2=r.2/\zt r.1.1/\StOk (qo ts es) r.2/\r.2.sM=s.sM/\dueN (qo ts es) bin (i+1)<=pot (qo ts es) r.2:=by
   by_cases hb:bin=true/\i=1
   .rw [if_pos hb]at J j
    subst J;subst j;obtain⟨a1,a2,a3⟩:=qe5 (es:=es) (nm:=nm) (s:=s) R I;have a4:=Jm (ts:=ts) (es:=es) (nm:=nm) (body:=body) (s:=s) R;obtain⟨b1,b2,T⟩:=Jn (body:=body) (nm:=nm) (env:=env) C l0;have hd:dueN (qo ts es) bin i=(qo ts es:Int):=by simp_all[dueN,if_pos]
    have a0:dueN (qo ts es) bin (i+1)=0:=by simp_all[dueN,if_neg]
    rw[hd]at hp;have P:0<=pot (qo ts es) (renI ts es env nm body s).2:=by
     grind [pot]
    exact⟨a1,a2,a3,a4,⟨b1,by rw[T];exact c0,by rw[T];exact c1,P⟩,T,zOm⟩
   .rw [if_neg hb]at J j
    subst J;subst j;have hd:dueN (qo ts es) bin (i+1)<=dueN (qo ts es) bin i:=by
     unfold dueN;split
     .grind
     omega
    have a5:0<=dueN (qo ts es) bin i:=by grind [dueN]
    exact⟨I,rfl,rfl,R,⟨l0,c0,c1,by grind⟩,rfl,by grind⟩
  rw[J,j];obtain⟨q1,q2,q3,U,q5,q6,q7⟩:=hR;rw[q2,q3];have o:=hE k (zg ..) r.1.1 l.1.1 r.2 q5 zOm U q1;have h2:=fun n' z s'=>hG r.1.1 k n' z r.2 s' (zg ..) q5 U
  generalize E' l.1.1 k r.2=Q at *
  cases hq:E r.1.1 k r.2 with
  |error d =>
   rw[hq]at o;simp only;rw[if_pos o.1];exact⟨_,rfl,o.1,o.2.1⟩
  |ok x =>
   obtain⟨⟨m,y⟩,t⟩:=x;rw[hq]at o;obtain⟨e1,e2,e3⟩:=o;have g:=h2 m y t hq;obtain⟨g1,g2,g3⟩:=WJ g q5;have hc:=g.c1;have a6:=g.p;simp only;rw[if_neg (by rw[e3];omega),e1,e2,e3];have ih:=qe6 C (f:=f) (body:=body) (E:=E) (E':=E') (bin:=bin) ks (i+1) r.1.1 l.1.1 r.1.2 t (fun k hk=>hE k (q8 _ hk)) (fun env k n' z s s' hk=>hG env k n' z s s' (q8 _ hk)) g1.l0 g1.c0 g1.c1 zOm zOm U q1;cases hx:yx E (fun env nm s=>renI ts es env nm body s) bin (i+1) r.1.1 r.1.2 ks t with
   |error d =>
    rw[hx]at ih;obtain⟨t',a1,a2,a3⟩:=ih
    grind
   |ok x =>
    grind
theorem JA(ts es)(i:Free ts es)(hb:∀ p,p∈ts.sT->WfN p.body/\yW ts p.body):∀(f:Nat)(env sc n body s),
  4000<s.sM+(f:Int)->StOk (qo ts es) s->zt env->WfN n->yW ts n->ScOf ts body sc env->OutR (expI ts es f env n body s) (expR ts es f sc n body s).1 (expR ts es f sc n body s).2.1 (expR ts es f sc n body s).2.2
 | 0,env,sc,n,body,s,hf,g,_,_,_,_=>zW1 g.c1
 |f+1,env,sc,n,body,s,hf,g,r,hw,I,l=>by
  have a8:=g.c0;have a9:=g.c1;have p1:(payS 1 s).sM=s.sM+1:=rfl;simp only[expI,expR];by_cases J:s.sM+1<=4000
  case neg =>
   rw[if_neg J,if_neg J];exact⟨by rw[p1];omega,by rw[p1];omega,zSp,zSp⟩
  rw[if_pos J,if_pos J];have C:=(wT g (n:=1) zOm J).ok g;by_cases h1:n.op=1
  .rw [if_pos h1,if_pos h1]
   unfold Zg vI;rw[l.look];cases hg:getK n.name env with
   |none=>exact⟨rfl,rfl,rfl⟩
   |some v =>
    have hv:=r.sz _ ((Zq r.nd).1 hg);have hv:0<=v.size/\v.size<=4000:=hv;simp only;cases P:v.arg with
    |none=>exact⟨rfl,rfl,rfl⟩
    |some a =>
     simp only;have e2:(payS v.size (payS 1 s)).sM=(payS 1 s).sM+v.size:=rfl;by_cases R:(payS 1 s).sM+v.size<=4000
     .rw [if_pos R];exact⟨rfl,rfl,rfl⟩
     .rw [if_neg R]
      exact⟨by rw[e2];omega,by rw[e2];omega,hv.1,hv.2⟩
  rw[if_neg h1,if_neg h1];by_cases h47:n.op=47
  .rw [if_pos h47,if_pos h47]
   obtain⟨p,T,a7⟩:=I n (vr n) h47;have a0:=List.mem_of_find?_eq_some T;rw[T];simp only;have P:=qe4 (F:=qo ts es) (f:=f) (E:=fun k s=>expI ts es f env k body s) (E':=fun k s=>expR ts es f sc k body s) p.params n.sD [] [] (payS 1 s)
    (fun k j s g hf=>JA ts es i hb f env sc k body s hf g r (hw.kid j) (I.kid j) l)
    (fun k n' z s s' j g e=>jq ts i f g r e) C (by rw[p1];omega) .nil (fun o=>rfl) (fun e hm=>absurd hm qG)
   cases U:y7 (fun k s=>expI ts es f env k body s) p.params n.sD [] (payS 1 s) with
   |error d =>
    rw[U]at P;obtain⟨t,a1,a2,a3⟩:=P;rw[a1];exact⟨a2,a3,zSp,zSp⟩
   |ok x =>
    obtain⟨own,s'⟩:=x;rw[U]at P;obtain⟨L,a1,a2,a3,a4,a5,a6⟩:=P;rw[a1];obtain⟨b1,b2⟩:=hb p a0;exact JA ts es i hb f own L p.body true s' zOm a5 a2 b1 b2 ⟨a3,fun h=>absurd h zSp,a4⟩
  .rw [if_neg h47,if_neg h47]
   have j:=qe6 i (f:=f) (body:=body) (E:=fun env k s=>expI ts es f env k body s) (E':=fun sc k s=>expR ts es f sc k body s) (bin:=binB n.op) n.sD 0 env sc n.name (payS 1 s)
    (fun k j env sc s g hf r l=>JA ts es i hb f env sc k body s hf g r (hw.kid j) (I.kid j) l)
    (fun env k n' z s s' j g r e=>jq ts i f g r e) C.l0 C.c0 C.c1 (by
     rw[ZE];have:=g.p
     grind [dueN]) (by rw[p1];omega) r l
   cases U:yx (fun env k s=>expI ts es f env k body s) (fun env o s=>renI ts es env o body s) (binB n.op) 0 env n.name n.sD (payS 1 s) with
   |error d =>
    rw[U]at j;obtain⟨t,a1,a2,a3⟩:=j;rw[a1];exact⟨a2,a3,zSp,zSp⟩
   |ok x =>
    obtain⟨⟨o,ks,m⟩,s'⟩:=x;rw[U]at j;rw[j];exact⟨rfl,rfl,rfl⟩
end
end QY
namespace QZ
open YF Y9 Y10 Y1 YX YB YC P1 P2 PA QE QI QS QT QX QY
section
variable {mu:Mu}
abbrev eXO(ts:TS)(l:List tP)(q:XO):AV := .tup [eWk ts l q.1,eNd q.2.1,aI q.2.2]
theorem WL(x):∀ c,c∈cSb x->HF c:=fun c g=>by
 rcases qM.1 g with g|g
 .rcases qM.1 g with g|g
  .simp only[qy,qG,or_false]at g
   rcases g with rfl|rfl|rfl<;>exact HF.sc _
  grind [qs3]
 grind [qV,HF.sc]
theorem qs4(x):(cSb x).length=9:=by simp[qs2]
theorem JC(l:List Sb):zo 9 (l.map cSb):=fun r g=>by
 obtain⟨x,_,rfl⟩:=qn.1 g;refine⟨qs4 x,?_⟩;obtain⟨o,⟨a,z,w⟩⟩:=x;cases a<;>simp[yp,go_sem]
theorem qe7(l):HF (lSb l):=HF.lst fun r g c i=>by
 obtain⟨x,_,rfl⟩:=qn.1 g;exact WL x c i
theorem wkX(ts l s sc n b):WKs [eWk ts l s,lSb sc,eNd n,aB b] [eWk ts l s,lSb sc,eNd n,aB b] := .zk (wX ts l s) (.zk (qe7 sc) (.zk (qK n) (.zs .nil)))
theorem px(ts l q):HF (eXO ts l q):=HF.tup fun x g=>by
 simp only[qy,qG,or_false]at g;rcases g with rfl|rfl|rfl
 .exact wX ts l _
 .exact qK _
 .exact HF.sc _
structure Pre (ts:TS) (es:List (tP×Bool)) (f:Nat) (env:IEnv) (sc:List Sb) (n:Nd) (body:Bool) (s:ISt):Prop where
 fu:4000<s.sM+(f:Int)
 st:StOk (qo ts es) s
 en:zt env
 wf:WfN n
 cl:yW ts n
 so:ScOf ts body sc env
 le:(sc.length:Int)<=s.sM+8
theorem rd0:Rd mu (.agg [aI 0,aS ⟨#[]⟩,aI 0,.lst true [],aI 0]) (eNd nd0) := .agg _ _ rfl fun k x y g i=>by
 match k,g,i with
 | 0,g,i=>cases g;cases i;exact .zsc _
 | 1,g,i=>cases g;cases i;exact .zsc _
 | 2,g,i=>cases g;cases i;exact .zsc _
 | 3,g,i=>cases g;cases i;exact .wk _ true _ (.hf _ (HF.lst fun r j=>absurd j qG))
 | 4,g,i=>cases g;cases i;exact .zsc _
 |k+5,g,i=>cases g
theorem rdZ(ts l s):Rd mu (.tup [eWk ts l s,.agg [aI 0,aS ⟨#[]⟩,aI 0,.lst true [],aI 0],aI 0]) (eXO ts l (s,nd0,0)) := .tup _ _ rfl fun k x y g i=>by
 match k,g,i with
 | 0,g,i=>cases g;cases i;exact .hf _ (wX ts l s)
 | 1,g,i=>grind [rd0]
 | 2,g,i=>cases g;cases i;exact .zsc _
 |k+3,g,i=>cases g
theorem qe8{lo s xs y K}(j:OwnF lo mu 9 s (xs.map cSb))(l:xs.length<=100000)(o:∀ av mu',OwnF lo mu' 9 av ((xs++[y]).map cSb)->(∀ i,i<lo->mu'[i]?=mu[i]?)->K av mu') :
  qz qe mu #[239,239] s (.lst true [cSb y]) K:=by
 refine qz.ownF (lo:=lo) (e:=246) (sz:=9) (bt:=112) (zv := .agg [aS ⟨#[]⟩,aS ⟨#[]⟩,aB false,aI 0,aS ⟨#[]⟩,aI 0,.lst true [],aI 0,aI 0]) (xs:=xs.map cSb) (ys:=[cSb y]) zSi zSi zSi rfl rfl zOm zOm j (by simp[qE]) (JC xs) (JC [y]) zSo ?_
 grind
abbrev ExpW(ts:TS)(l:List tP)(es:List (tP×Bool))(f:Nat)(sc:List Sb)(n:Nd)(body:Bool)(s:ISt):Prop:=
 qi qe 96 [eWk ts l s,lSb sc,eNd n,aB body] (eXO ts l (expR ts es f sc n body s))
theorem expN(ts l es f env sc n body s)(p:Pre ts es (f+1) env sc n body s)(j:s.sM+1<=4000)(i:n.op=1):ExpW ts l es (f+1) sc n body s:=by
 have o:=p.st.c0;have I:=p.le;have r:=leafU ts l sc zOm n (payS 1 s) ⟨by show 0<=s.sM+1;omega,by show s.sM+1<=_;omega⟩ (fun e t=>zW1 (p.so.sz e t));unfold ExpW;simp only[expR];rw[if_pos j,if_pos i];have C:qq.wrap (s.sM+1)=s.sM+1:=zWr;have g:¬ 4000<s.sM+1:=zOm;generalize Zg sc n (payS 1 s)=Q at *
 refine qSQ call96 func96 rfl { mt:=[4] } ?_;simp[go_sem,C,g,i,zi];refine tS r (.zk (wX ts l (payS 1 s)) (.zk (qe7 sc) (.zk (qK n) .nil))) ?_;simp[go_sem,zi];exact .hf _ (px ts l (Q.2,Q.1.1,Q.1.2))
theorem expZ(ts l es f env sc n body s)(p:Pre ts es (f+1) env sc n body s)(i:¬s.sM+1<=4000):ExpW ts l es (f+1) sc n body s:=by
 have j:=p.st.c0;have o:=p.st.c1;unfold ExpW;simp only[expR];rw[if_neg i];have r:qq.wrap (s.sM+1)=s.sM+1:=zWr;have g:4000<s.sM+1:=zOm;refine qSQ call96 func96 rfl { mt:=[4] } ?_;simp[go_sem,r,g,zi]
 grind [rdZ,payS]
def repR(ts : TS)(es : List (tP × Bool))(f : Nat)(sc : List Sb)(n : Nd)(body : Bool)(s : ISt)(p : Pd) : XO := match uq (fun k s => expR ts es f sc k body s) p.params n.sD [] s with
          | .error g=>(g,nd0,0)
          | .ok (own,g)=>expR ts es f own p.body true g
theorem expC(ts l es f env sc n body s)(p:Pre ts es (f+1) env sc n body s)(j:s.sM+1<=4000)(h47:n.op=47)(g)(o:(ts.sT.find? fun p=>decide (p.name=n.name))=some g)
  (r:qi qe 151 [eWk ts l (payS 1 s),lSb sc,eNd n,aB body] (eXO ts l (repR ts es f sc n body (payS 1 s) g))):ExpW ts l es (f+1) sc n body s:=by
 have t:=p.st.c0;unfold ExpW;simp only[expR];rw[if_pos j,zIn,if_pos h47,o];simp only;have C:qq.wrap (s.sM+1)=s.sM+1:=zWr;have i:¬ 4000<s.sM+1:=zOm;show qi qe 96 [eWk ts l s,lSb sc,eNd n,aB body] (eXO ts l (repR ts es f sc n body (payS 1 s) g));generalize repR ts es f sc n body (payS 1 s) g=Q at *
 refine qSQ call96 func96 rfl { mt:=[4] } ?_;simp[go_sem,C,i,h47,zi];refine tS r (wkX ts l (payS 1 s) sc n body) ?_;simp[go_sem,zi];exact .hf _ (px ts l Q)
theorem replW(ts)(h:okTS ts)(l es)(ai:Free ts es)(hb:∀ p,p∈ts.sT->WfN p.body/\yW ts p.body)(f)(ih:∀ env sc n body s,Pre ts es f env sc n body s->ExpW ts l es f sc n body s)(env sc n body s)(p:Pre ts es f env sc n body s)(h47:n.op=47)
  (pd) (hp:(ts.sT.find? fun p=>decide (p.name=n.name))=some pd) (az:pd.params.length=n.sD.length):qi qe 151 [eWk ts l s,lSb sc,eNd n,aB body] (eXO ts l (repR ts es f sc n body s pd)):=by
 have a9:=List.mem_of_find?_eq_some hp;have b1:=(h.pl pd a9).1;have b2:=h.np;obtain⟨i,hi,a3,aj⟩:∃ i,∃ hi:i<ts.sT.length,ts.sT[i]=pd/\zx (ckR ts ts.sT.length) n.name=some i:=by
  cases hc:zx (ckR ts ts.sT.length) n.name with
  |none =>
   unfold zx at hc;rw[List.findIdx?_eq_none_iff]at hc;have:=hc pd (by show pd∈ts.sT.take ts.sT.length;rw[qO];exact a9);have h2:=List.find?_some hp;rw[h2]at this;cases this
  |some i =>
   obtain⟨h1,h2⟩:=Qu (WE h (qr _)) hc;have h2:i<ts.sT.length:=h2;have h3:=PF.qdV hc h2;have h3:(ts.sT.find? fun p=>decide (p.name=n.name))=some ts.sT[i]:=h3;rw[hp]at h3;exact⟨i,h2,(Option.some.inj h3).symm,rfl⟩
 have cp:=VN (ckR ts ts.sT.length) (WE h (qr _)) n.name;rw[aj]at cp;have I:=Zv;have aa:¬(i:Int)<0:=zOm;obtain⟨E',hE⟩:∃ E':Nd->ISt->XO,E'=fun k s=>expR ts es f sc k body s:=⟨_,rfl⟩
 obtain⟨a7,a8⟩:∃ a7,a7=repR ts es f sc n body s pd:=⟨_,rfl⟩;have an:∀ k,k∈n.sD->∀ C,StOk (qo ts es) C->s.sM<=C.sM->qi qe 96 [eWk ts l C,lSb sc,eNd k,aB body] (eXO ts l (E' k C)):=fun k hk C R aa=>by
  rw[hE];exact ih env sc k body C ⟨zW1 p.fu,R,p.en,p.wf.kid hk,p.cl.kid hk,p.so,zW1 p.le⟩
 have ao:∀ k,k∈n.sD->∀ C,StOk (qo ts es) C->s.sM<=C.sM->4000<(E' k C).1.sM\/(¬ 4000<(E' k C).1.sM/\Gos (qo ts es) C (E' k C).1 (E' k C).2.2):=fun k hk C R aa=>by
  have ho:=JA ts es ai hb f env sc k body C (zW1 p.fu) R p.en (p.wf.kid hk) (p.cl.kid hk) p.so;have aq:E' k C=expR ts es f sc k body C:=by rw[hE]
  rw[aq];cases hx:expI ts es f env k body C with
  |error d=>rw[hx]at ho;exact .inl ho.1
  |ok r =>
   obtain⟨⟨m,y⟩,t⟩:=r;rw[hx]at ho;obtain⟨e1,e2,e3⟩:=ho;have g:=jq ts ai f R p.en hx;rw[e2,e3];exact .inr ⟨zW1 g.c1,g⟩
 have ar:∀ t,uq E' pd.params n.sD [] s = .error t->a7=(t,nd0,0):=fun t ht=>by
  rw[a8];unfold repR;rw[<-hE,ht]
 have au:∀ own t O,uq E' pd.params n.sD [] s = .ok (own,t)->StOk (qo ts es) t->s.sM<=t.sM->zt O->(∀ o,wm o own=getK o O)->(∀ e,e∈own->0<=e.2.size/\e.2.size<=4000)->own.length<=8->qi qe 96 [eWk ts l t,lSb own,eNd pd.body,aB true] (eXO ts l a7):=fun own t O ht R aa hO ab ad h8=>by
  have e:a7=expR ts es f own pd.body true t:=by rw[a8];unfold repR;rw[<-hE,ht]
  rw[e];have b3:=R.c0;exact ih O own pd.body true t ⟨zW1 p.fu,R,hO,(hb pd a9).1,(hb pd a9).2,⟨ab,fun h=>absurd h zSp,ad⟩,zOm⟩
 rw[<-a8];have ak:=p.st;clear a8 hE ih;refine qSQ call151 func151 rfl { mt:=[4] } ?_;simp[go_sem,zi];refine tS cp (.zk (zp ts) (.zs (.zs .nil))) ?_;simp[go_sem,zi,idxO,aa];refine aK n.sD.length (fun k T=>∃(C:ISt) (L:List Sb) (O:IEnv),T.tm 1=lSb sc/\T.tm 3=aB body/\T.tm 4 = .ptr 0 0/\T.tm 6 = .ip (cNd n)/\T.tm 8 = .ptr 1 0/\T.tm 9 = .ptr 2 0/\T.tm 12=aI i/\T.tm 14=aI k/\T.mu[0]?=some (.arr (cWk ts l C))/\T.mu[1]?=some (.arr zWc)/\T.mu[2]?=some (.arr [aI 0,aS ⟨#[]⟩,aI 0,.lst true [],aI 0])/\OwnF 3 T.mu 9 (T.tm 13) (L.map cSb)/\uq E' pd.params n.sD [] s=uq E' (pd.params.drop k) (n.sD.drop k) L C/\StOk (qo ts es) C/\s.sM<=C.sM/\zt O/\(∀ o,wm o L=getK o O)/\(∀ e,e∈L->0<=e.2.size/\e.2.size<=4000)/\L.length=k) ?_ ?_
 .exact ⟨s,[],[],zSi,zSi,zSi,zSi,zSi,zSi,zSi,zSi,zSi,zSi,zSi,by simp[go_sem];exact OwnF.nil zSp,rfl,ak,v7 _,.nil,fun o=>rfl,fun e he=>absurd he qG,rfl⟩
 rintro k T hk ⟨C,L,O,e1,e3,e4,e6,e8,e9,a2,a4,m0,m1,m2,ho,hI,R,ae,hO,ab,ad,aw⟩;generalize a5:T.tm 13=av at *
 obtain⟨rr,a0⟩:=pn m0 m1 m2;have b4:T.mu.length=rr.length+3:=by rw[a0];rfl
 have b0:n.sD.length<=8:=zOm;by_cases U:k<n.sD.length
 .have a6:k<pd.params.length:=by omega
  have w1:=zWk k;rw[zu U,zu a6]at hI;simp only[uq]at hI;have x1:=an n.sD[k] (qs U) C R ae;have x2:=ao n.sD[k] (qs U) C R ae;generalize E' n.sD[k] C=q at *
  clear m0 m1 m2;simp[go_sem,e1,e3,e4,e6,e8,e9,a2,a4,a5,a0,U,a6,hi,a3,I,zi];refine fD [0,1,2,3,4,5,6,7,8,9,10,11,12,17,13,14,15,16] [(0,0,[]),(1,0,[]),(2,0,[]),(3,0,[]),(4,0,[]),(5,0,[]),(6,0,[]),(7,0,[]),(8,1,[]),(9,0,[]),(10,0,[]),(11,0,[]),(12,0,[]),(17,0,[]),(13,2,[0,3,6]),(14,2,[0,3,6]),(15,1,[]),(16,1,[])] zKr zKr zSi ?_;simp[go_sem,e1,e3,e4,e6,e8,e9,a2,a4,a5,a0,U,a6,hi,a3,I,zi];refine tS x1 (wkX ts l C sc n.sD[k] body) ?_;simp[go_sem,e1,e3,e4,e6,e8,e9,a2,a4,a5,a0,U,a6,hi,a3,I,zi];by_cases a1:4000<q.1.sM
  .have ax:a7=(q.1,nd0,0):=ar _ (by rw[hI,if_pos a1])
   simp[go_sem,e1,e3,e4,e6,e8,e9,a2,a4,a5,a0,U,a6,hi,a3,I,zi,a1];rw[ax];exact rdZ ts l q.1
  .rcases x2 with x2|⟨_,g⟩
   .exact absurd x2 a1
   rw[if_neg a1]at hI;simp[go_sem,e1,e3,e4,e6,e8,e9,a2,a4,a5,a0,U,a6,hi,a3,I,zi,a1];refine cJ zKr ?_;simp[go_sem,e1,e3,e4,e6,e8,e9,a2,a4,a5,a0,U,a6,hi,a3,I,zi,a1];obtain⟨g1,g2,g3⟩:=WJ g R;have gz:=g.z0;have hy:(AV.sc (.string pd.params[k].1) :: AV.sc (.string ⟨#[]⟩) :: AV.sc (.bool true) :: (cNd q.2.1++[AV.sc (.int .i64 q.2.2)]))=cSb (pd.params[k].1,⟨some q.2.1,q.2.2,⟨#[]⟩⟩):=zSi;rw[hy];generalize af:(pd.params[k].1,(⟨some q.2.1,q.2.2,⟨#[]⟩⟩:IV))=en at *
   refine qe8 (lo:=3) (xs:=L) (y:=en) ?_ zOm ?_
   .have h1:OwnF 3 (T.mu++[Cell.arr (cWk ts l q.1),Cell.arr (cNd q.2.1)]) 9 av (L.map cSb):=YD.ZF ho zSo fun i _ hi=>qN hi
    rw[a0]at h1;have h2:=OwnF.set (i:=0) (c:=Cell.arr (cWk ts l q.1)) h1 zOm;simpa using h2
   intro b5 b6 ag ah;have n0:=ah 0 zOm;have n1:=ah 1 zOm;have n2:=ah 2 zOm;simp at n0 n1 n2;obtain⟨r2,al⟩:=pn n0 n1 n2;simp[go_sem,e1,e3,e4,e6,e8,e9,a2,a4,a5,al,U,a6,hi,a3,I,zi,a1,w1];refine aA ⟨q.1,L++[en],setK en.1 en.2 O,zS1 e1,zS1 e3,zS1 e4,zS1 e6,zS1 e8,zS1 e9,zS1 a2,zSi,zSi,zSi,zSi,?_,?_,g1,?_,?_,?_,?_,?_⟩
   .have h2:=OwnF.set (i:=0) (c:=Cell.arr (cWk ts l q.1)) ag zOm
    simp[go_sem];rw[al]at ag;simpa using ag
   .rw [hI,<-af]
   .omega
   .rw [<-af];exact hO.set ⟨gz,g3⟩
   .intro o
    rw[WI,j5,ab];by_cases e:en.1=o
    .rw [if_pos e,if_pos e.symm]
    .rw [if_neg e,if_neg fun x=>e x.symm]
   .intro e he
    rcases qM.1 he with he|he
    .exact ad e he
    .rw [qV]at he;subst he;rw[<-af];exact⟨gz,g3⟩
   .simp [aw]
 .simp [go_sem,e1,e3,e4,e6,e8,e9,a2,a4,a5,a0,U,hi,a3,I,zi]
  refine fD [0,1,2,3,4,5,6,7,8,9,10,11,12,15,13,14] [(0,0,[]),(1,0,[]),(2,0,[]),(3,0,[]),(4,0,[]),(5,0,[]),(6,0,[]),(7,0,[]),(8,0,[]),(9,1,[]),(10,0,[]),(11,0,[]),(12,0,[]),(15,0,[]),(13,1,[]),(14,1,[])] zKr zKr zSi ?_;simp[go_sem,e1,e3,e4,e6,e8,e9,a2,a4,a5,a0,U,hi,a3,I,zi];refine fZ (qD.freeze (args1:=[eWk ts l C,lSb L,eNd pd.body,aB true]) (fun j=>decide (3<=j)) ⟨.inl rfl,.inr ?_,.inl rfl,.inl rfl,trivial⟩ (qi.toSound _ (au L C O ?_ R ae hO ab ad zOm) (wkX ts l C L pd.body true))) ?_ ?_
  .have h1:=Y13.KH ho (JC L).ok fun r hr c hc=>by
    obtain⟨x,_,rfl⟩:=qn.1 hr;exact WL x c hc
   rw[a0]at h1;exact h1
  .rw [hI,WT zOm,WT zOm];rfl
  .rintro r m ⟨hv,rfl⟩
   cases hv;simp[go_sem,cutM,zi,e1,e3,e4,e6,e8,e9];exact .hf _ (px ts l a7)
  .rintro r m ⟨hv,rfl⟩
   cases hv
end
end QZ
end Go.Proofs.YtipbakanneogpaaGreatDoor
set_option maxHeartbeats 1000000
namespace Go.Ev
theorem awp.cut{P pl l j g C i Q st}(J)
  (h:awp P pl l (seqQ (awp P pl j (seqQ (Keep J .mk) (ue i (seqQ (awp P pl C Q) Q)))) Q) st)
  (o:∀ st,J st->awp P pl g (ue i (seqQ (awp P pl C Q) Q)) st):awp P pl (.seq l (.seq (.block i (.seq j g)) C)) Q st:=by
 refine awp.mono l (Q:=seqQ (awp P pl j (seqQ (Keep J .mk) (ue i (seqQ (awp P pl C Q) Q)))) Q) h (fun e st h=>?_);cases e with
 |normal =>
  refine awp.mono j (Q:=seqQ (Keep J .mk) (ue i (seqQ (awp P pl C Q) Q))) h (fun e st h=>?_);cases e with
  |normal=>exact o st h
  |exit i=>exact h
  |ret=>exact h
  |pan v=>exact h
 |exit i=>exact h
 |ret=>exact h
 |pan v=>exact h
theorem qs5{K:St->Prop}(J){st}(h:FzQ (fun _=>J) (.exit 0) st)(k:∀ st2,J st2->K st2):FzQ (fun _ st=>K st) (.exit 0) st:=by
 obtain⟨g,f,q,j⟩:=h;exact⟨g,f,q,k _ j⟩
end Go.Ev
namespace Go.Proofs.YtipbakanneogpaaGreatDoor
open Go Go.Ev Go.Proofs Tryz
namespace RA
open YF Y9 Y10 Y1 YX YA YB YC P1 P2 PA QD QE QK QX QY QZ
section
variable {av:AV}{es:List (tP×Bool)}{l:List tP}
theorem four{I:Type}{l}{a b c d:I}(g:l[0]?=some a)(i:l[1]?=some b)(j:l[2]?=some c)(o:l[3]?=some d):∃ r,l=a :: b :: c :: d :: r:=by
 match l,g,i,j,o with
 |_ :: _ :: _ :: _ :: r,g,i,j,o =>
  grind
def resK(n:Nd)(acc:List Nd)(z:Int):Except ISt ((tP×List Nd×Int)×ISt)->XO
 | .error s=>(s,nd0,0)
 | .ok ((o,ks,m),s)=>(s,.mk n.op o n.n (acc++ks) n.pos,z+m)
structure AtK (ts:TS) (l:List tP) (es:List (tP×Bool)) (n:Nd) (body:Bool) (s:ISt) (k:Nat) (sc2:List Sb) (env2:IEnv) (nm2:tP) (s3:ISt) (acc:List Nd) (av:AV) (z:Int) (st:St):Prop where
 e3:st.tm 3=aB body
 e4:st.tm 4 = .ptr 0 0
 e6:st.tm 6 = .ip (cNd n)
 e8:st.tm 8 = .ptr 1 0
 e9:st.tm 9 = .ptr 2 0
 e11:st.tm 11 = .ptr 3 0
 e12:st.tm 12=aI z
 e13:st.tm 13=aI k
 m0:st.mu[0]?=some (.arr (cWk ts l s3))
 m1:st.mu[1]?=some (.arr zWc)
 m2:st.mu[2]?=some (.arr [aI 0,aS ⟨#[]⟩,aI 0,.lst true [],aI 0])
 m3:st.mu[3]?=some (.arr [aI n.op,aS nm2,aI n.n,av,aI n.pos])
 ho:OwnF 4 st.mu 5 av (acc.map cNd)
 so:ScOf ts body sc2 env2
 en:zt env2
 al:acc.length=k
 l0:0<=s3.last
 c0:s.sM+1<=s3.sM
 c1:s3.sM<=4000
 z1:0<=z
 z2:z<=1+4000*(k:Int)
theorem AtK.same{ts n body s k j i o C acc z st g}(A:AtK ts l es n body s k j i o C acc av z st)
  (I:g.tm 3=aB body) (J:g.tm 4 = .ptr 0 0) (P:g.tm 6 = .ip (cNd n)) (R:g.tm 8 = .ptr 1 0) (T:g.tm 9 = .ptr 2 0) (p:g.tm 11 = .ptr 3 0) (r:g.tm 12=aI z) (t:g.tm 13=aI k) (em:g.mu=st.mu):AtK ts l es n body s k j i o C acc av z g:=
 ⟨I,J,P,R,T,p,r,t,by rw[em];exact A.m0,by rw[em];exact A.m1,by rw[em];exact A.m2,by rw[em];exact A.m3,by rw[em];exact A.ho,A.so,A.en,A.al,A.l0,A.c0,A.c1,A.z1,A.z2⟩
theorem qe9{g lo sz mu mu' xs}(h:OwnF g mu sz av xs)(i:∀ b s o q,av = .sl b s o q->b<lo)(p:g<=mu'.length)(r:∀ j,g<=j->j<lo->mu'[j]?=mu[j]?):OwnF g mu' sz av xs:=by
 obtain⟨t,l,_⟩:=h;refine⟨?_,l,p⟩;rcases t with rfl|⟨b,rfl,C⟩
 .exact .inl rfl
 .exact .inr ⟨b,rfl,by rw[r b (l b _ _ _ rfl) (i b _ _ _ rfl)];exact C⟩
theorem AtK.keep{ts n body s k p i r R acc z st g}(A:AtK ts l es n body s k p i r R acc av z st)
  (T:g.tm 3=aB body) (U:g.tm 4 = .ptr 0 0) (e6:g.tm 6 = .ip (cNd n)) (e8:g.tm 8 = .ptr 1 0) (e9:g.tm 9 = .ptr 2 0) (C:g.tm 11 = .ptr 3 0) (I:g.tm 12=aI z) (J:g.tm 13=aI k) (lo) (h4:4<=lo) (P:∀ b s o q,av = .sl b s o q->b<lo) (hl:4<=g.mu.length) (t:∀ j,j<lo->g.mu[j]?=st.mu[j]?):AtK ts l es n body s k p i r R acc av z g:=
 ⟨T,U,e6,e8,e9,C,I,J,by rw[t 0 zOm];exact A.m0,by rw[t 1 zOm];exact A.m1,by rw[t 2 zOm];exact A.m2,by rw[t 3 zOm];exact A.m3,qe9 A.ho P hl (fun j _=>t j),A.so,A.en,A.al,A.l0,A.c0,A.c1,A.z1,A.z2⟩
theorem qs6{mu lo s x}{xs ys:List Sb}{K}(j:OwnF lo mu 9 s (xs.map cSb))(l:qE mu x=some (ys.map cSb))(r:xs.length+ys.length<=100000)(o:∀ av mu',OwnF lo mu' 9 av ((xs++ys).map cSb)->(∀ i,i<lo->mu'[i]?=mu[i]?)->K av mu') :
  qz qe mu #[239,239] s x K:=by
 refine qz.ownF (lo:=lo) (e:=246) (sz:=9) (bt:=112) (zv := .agg [aS ⟨#[]⟩,aS ⟨#[]⟩,aB false,aI 0,aS ⟨#[]⟩,aI 0,.lst true [],aI 0,aI 0]) (xs:=xs.map cSb) (ys:=ys.map cSb) zSi zSi zSi rfl rfl zOm zOm j l (JC xs) (JC ys) zSo ?_;intro av mu' h p;exact o av mu' (by rw[List.map_append];exact h) p
theorem expK(ts)(h:okTS ts)(l es)(t:Tn l es)(hl:l.length<=400000)(hF:qo ts es<=200000)(b6:Free ts es)(hb:∀ p,p∈ts.sT->WfN p.body/\yW ts p.body)(f)(ih:∀ env sc n body s,Pre ts es f env sc n body s->ExpW ts l es f sc n body s)
  (env) (sc) (n) (body) (s) (p:Pre ts es (f+1) env sc n body s) (hc:s.sM+1<=4000) (h1:¬n.op=1) (h47:¬n.op=47):ExpW ts l es (f+1) sc n body s:=by
 have dk:=p.st.c0;have dm:=p.st.c1;have dn:=p.wf.len;obtain⟨E',hE⟩:∃ E':List Sb->Nd->ISt->XO,E'=fun sc k s=>expR ts es f sc k body s:=⟨_,rfl⟩
 obtain⟨R',bi⟩:∃ R':List Sb->tP->ISt->(List Sb×tP)×ISt,R'=fun sc nm s=>renR ts es sc nm body s:=⟨_,rfl⟩
 have bj:∀ k,k∈n.sD->∀ a0 I sk,StOk (qo ts es) sk->s.sM+1<=sk.sM->zt a0->ScOf ts body I a0->(I.length:Int)<=sk.sM+8->qi qe 96 [eWk ts l sk,lSb I,eNd k,aB body] (eXO ts l (E' I k sk)):=fun k hk a0 I sk b7 cm b8 bk bm=>by
  rw[hE];exact ih a0 I k body sk ⟨zW1 p.fu,b7,b8,p.wf.kid hk,p.cl.kid hk,bk,bm⟩
 have bn:∀ k,k∈n.sD->∀ a0 I sk,StOk (qo ts es) sk->s.sM+1<=sk.sM->zt a0->ScOf ts body I a0->4000<(E' I k sk).1.sM\/(¬ 4000<(E' I k sk).1.sM/\Gos (qo ts es) sk (E' I k sk).1 (E' I k sk).2.2):=fun k hk a0 I sk b7 cm b8 bk=>by
  have ho:=JA ts es b6 hb f a0 I k body sk (zW1 p.fu) b7 b8 (p.wf.kid hk) (p.cl.kid hk) bk;have cp:E' I k sk=expR ts es f I k body sk:=by rw[hE]
  rw[cp];cases hx:expI ts es f a0 k body sk with
  |error d=>rw[hx]at ho;exact .inl ho.1
  |ok r =>
   obtain⟨⟨m,y⟩,t⟩:=r;rw[hx]at ho;obtain⟨e1,e2,e3⟩:=ho;have g:=jq ts b6 f b7 b8 hx;rw[e2,e3];exact .inr ⟨zW1 g.c1,g⟩
 obtain⟨az,bc⟩:∃ az,az=resK n [] 1 (uJ E' R' (binB n.op) 0 sc n.name n.sD (payS 1 s)):=⟨_,rfl⟩;have be:expR ts es (f+1) sc n body s=az:=by
  simp only[expR];rw[if_pos hc,if_neg h1,if_neg h47,bc,hE,bi];cases uJ (fun sc k s=>expR ts es f sc k body s) (fun sc nm s=>renR ts es sc nm body s) (binB n.op) 0 sc n.name n.sD (payS 1 s) with
  |error e=>rfl
  |ok r=>rfl
 unfold ExpW;rw[be];clear hE be ih;have bg:StOk (qo ts es) (payS 1 s):=(wT p.st zOm hc).ok p.st;have w1:qq.wrap (s.sM+1)=s.sM+1:=zWr;have bm:¬ 4000<s.sM+1:=zOm;have cq:=yp n;refine qSQ call96 func96 rfl { mt:=[4] } ?_;simp[go_sem,w1,bm,h1,h47,cq];refine aK n.sD.length (fun k T=>∃(full:Bool) (I:List Sb) (a0:IEnv) (ab:tP) (s2:ISt) (af:List Nd) (av:AV) (z:Int),T.tm 1 = .lst full (I.map cSb)/\AtK ts l es n body s k I a0 ab s2 af av z T/\(I.length:Int)+(if k<=1 then 1 else 0)<=s2.sM+8/\dueN (qo ts es) (binB n.op) k<=pot (qo ts es) s2/\(k<=1->ab=n.name)/\resK n af z (uJ E' R' (binB n.op) k I ab (n.sD.drop k) s2)=az) ?_ ?_
 .refine ⟨false,sc,env,n.name,payS 1 s,[],.lst true [],1,zSi,⟨zSi,zSi,by simp[go_sem,yp n],zSi,zSi,zSi,zSi,zSi,by simp[go_sem];exact⟨rfl,rfl⟩,zSi,zSi,zSi,by simp[go_sem];exact OwnF.nil zSp,p.so,p.en,rfl,bg.l0,by show _<=s.sM+1;omega,bg.c1,zOm,zOm⟩,by show _<=s.sM+1+8;have:=p.le;simp;omega,?_,fun _=>rfl,bc.symm⟩
  rw[ZE];have:=p.st.p;unfold dueN;split<;>omega
 .rintro k T hk ⟨full,I,a0,ab,s2,af,av,z,U,A,ah,aq,b9,hI⟩
  obtain⟨rr,a5⟩:=four A.m0 A.m1 A.m2 A.m3;have e3:=A.e3;have e4:=A.e4;have e6:=A.e6;have e8:=A.e8;have e9:=A.e9;have a6:=A.e11;have a7:=A.e12;have a8:=A.e13;have ak:=A.ho.one;have an:=A.ho.cells;by_cases a9:k<n.sD.length
  .have w2:=zWk k
   rw[zu a9]at hI;simp only[uJ]at hI;refine awp.cut (fun T=>∃(full:Bool) (P:Nat) (sl:AV) (ae:List Sb) (ai:IEnv) (aw:tP) (s3:ISt) (av:AV),(if binB n.op=true/\k=1 then R' I ab s2 else ((I,ab),s2))=((ae,aw),s3)/\T.tm 1=sl/\(sl = .lst full (ae.map cSb)\/(OwnF P T.mu 9 sl (ae.map cSb)/\(∀ b s o q,av = .sl b s o q->b<P)/\4<=P))/\AtK ts l es n body s k ae ai aw s3 af av z T/\(ae.length:Int)+(if k+1<=1 then 1 else 0)<=s3.sM+8/\dueN (qo ts es) (binB n.op) (k+1)<=pot (qo ts es) s3/\(k+1<=1->aw=n.name)) ?_ ?_
   .clear bj bn
    by_cases au:k=1
    .subst au
     have bh:=b9 (qr _);have di:T.mu.length=rr.length+4:=by rw[a5];rfl
     have b4:∀ b s o q,av = .sl b s o q->b<rr.length+4:=fun b s o q e=>by
      rcases A.ho.1 with h|⟨c,h,hc⟩
      .rw [h]at e;cases e
      .rw [h]at e;cases e;have:=(qk.1 hc).1;omega
     have ad:(1:Int)<n.sD.length:=zOm;have cr:=A.c0;have bb:=A.l0;have cs:=A.c1;by_cases ao:binB n.op=true
     .have aa:n.op=15\/n.op=45\/n.op=46:=by simpa[binB,or_assoc] using ao
      have dp:=h.ns;have dq:=h.nf;have dr:qo ts es<=l.length+40:=by have:=t.len;unfold qo;omega
      have ct:okNm ts:=⟨h.sl,zOm,zOm,fun f hf=>zW1 (h.fl f hf)⟩;have cn:=kX ts ct n.name;have ay:=kW ts n.name;have cu:(named ts n.name).2=(means ts n.name).length:=by rw[pj h]
      rw[cu]at cn;generalize (named ts n.name).1=C at *
      have bw:StOk (qo ts es) s2:=⟨bb,zOm,cs,zW1 (Ye (qo ts es) (binB n.op) 1)⟩;have cv:=bw.last;have cf:=qs1 ts h l es t hl s2 ⟨bb,zOm⟩ (b6 s2.last bb);by_cases ag:body=true\/means ts n.name≠[]
      .have hq:(if binB n.op=true/\1=1 then R' I ab s2 else ((I,ab),s2))=((I++[(n.name,⟨none,0,vN (zC ts es (qo ts es) s2.last)⟩)],vN (zC ts es (qo ts es) s2.last)),⟨zC ts es (qo ts es) s2.last,s2.sM⟩):=by
        rw[if_pos ⟨ao,rfl⟩,bi,bh];show renR ts es I n.name body s2=_;unfold renR;rw[if_pos ag]
       have cw:body=true\/(body=false/\0<(means ts n.name).length):=by
        cases body with
        |true=>exact .inl rfl
        |false=>exact .inr ⟨rfl,List.length_pos_iff.2 (ag.resolve_left zSp)⟩
       clear hI;have ca:renR ts es I n.name body s2=((I++[(n.name,⟨none,0,vN (zC ts es (qo ts es) s2.last)⟩)],vN (zC ts es (qo ts es) s2.last)),⟨zC ts es (qo ts es) s2.last,s2.sM⟩):=by
        unfold renR;rw[if_pos ag]
       obtain⟨a1,a2,a3⟩:=qe5 (es:=es) (nm:=n.name) (s:=s2) A.en A.so;have a4:=Jm (ts:=ts) (es:=es) (nm:=n.name) (body:=body) (s:=s2) A.en;obtain⟨b1,b2,b3⟩:=Jn (body:=body) (nm:=n.name) (env:=a0) b6 bb;rw[ca]at a1 a3;rw[<-a3]at b1 b2;simp only at b1 b2 a1;have bo:dueN (qo ts es) (binB n.op) 1=(qo ts es:Int):=by unfold dueN;rw[if_pos ⟨ao,zOm⟩]
       have bq:dueN (qo ts es) (binB n.op) 2=0:=by unfold dueN;rw[zIn]
       rw[bo]at aq;unfold pot at aq;generalize (renI ts es a0 n.name body s2).1.1=ai at *
       clear a2 a3 b3;generalize ds:zC ts es (qo ts es) s2.last=R at *
       rcases aa with aa|aa|aa<;>rcases cw with ax|⟨ax,cx⟩
       all_goals
        simp[go_sem,e3,e4,e6,e8,e9,a6,a7,a8,U,a5,a9,ad,aa,zi];refine tS cn (.zk (zp ts) (.zs .nil)) ?_;simp[go_sem,e3,e4,e6,e8,e9,a6,a7,a8,U,a5,a9,ad,aa,zi,ay.len];rw[if_pos ay.one];generalize putCells _ 0 C=PC
        first
        |simp[go_sem,e3,e4,e6,e8,e9,a6,a7,a8,U,a5,a9,ad,aa,zi,ax,cx]
        |simp[go_sem,e3,e4,e6,e8,e9,a6,a7,a8,U,a5,a9,ad,aa,zi,ax]
        refine tS cf (.zk (wX ts l s2) .nil) ?_;simp[go_sem,e3,e4,e6,e8,e9,a6,a7,a8,U,a5,a9,ad,aa,zi,ax];refine qj.move 2 2 zKr zKr ?_ ?_
        all_goals
         simp[go_sem,e3,e4,e6,e8,e9,a6,a7,a8,U,a5,a9,ad,aa,zi,ax];refine qs6 (lo:=rr.length+6) (xs:=[]) (ys:=I) (OwnF.nil zSp) (by simp[qE]) (by simp at ah⊢;omega) ?_;intro dt du cy au;simp[go_sem,e3,e4,e6,e8,e9,a6,a7,a8,U,a5,a9,ad,aa,zi,ax];refine qe8 (y:=(n.name,⟨none,0,vN R⟩)) cy (by simp at ah⊢;omega) ?_;intro da dv b0 aj;have n0:=(aj 0 zOm).trans (au 0 zOm);have n1:=(aj 1 zOm).trans (au 1 zOm);have n2:=(aj 2 zOm).trans (au 2 zOm);have n3:=(aj 3 zOm).trans (au 3 zOm);simp at n0 n1 n2 n3;simp[go_sem,e3,e4,e6,e8,e9,a6,a7,a8,U,a9,ad,aa,zi,ax];refine aA ⟨false,rr.length+6,da,I++[(n.name,⟨none,0,vN R⟩)],ai,vN R,⟨R,s2.sM⟩,av,hq,zSi,.inr ⟨zVs b0,?_,zOm⟩,⟨zS2 e3 ax,zS1 e4,zS1 e6,zS1 e8,zS1 e9,zS1 a6,zS1 a7,zS1 a8,zS1 n0,zS1 n1,zS1 n2,zS2 n3 aa,?_,a1,a4,A.al,b1,A.c0,A.c1,A.z1,A.z2⟩,?_,?_,fun h=>zOm⟩
         .intro b s o q e;have:=b4 b s o q e;omega
         .simp only[qC]
          refine qe9 A.ho b4 (zW1 b0.2.2) fun j h4 hj=>?_
          obtain⟨i,rfl⟩:∃ i,j=i+4:=⟨j-4,zOm⟩;rw[aj _ zOm,au _ zOm,a5];simp only[v6];rw[zGa]
         .simp at ah⊢;omega
         .rw [bq];unfold pot;simp only;omega
      .have cb:body=false:=by cases body with
        |true=>exact absurd (.inl rfl) ag
        |false=>rfl
       have db:means ts n.name=[]:=Classical.byContradiction fun x=>ag (.inr x)
       have hq:(if binB n.op=true/\1=1 then R' I ab s2 else ((I,ab),s2))=((I,ab),s2):=by
        rw[if_pos ⟨ao,rfl⟩,bi,bh];show renR ts es I n.name body s2=_;unfold renR;rw[if_neg ag]
       rcases aa with aa|aa|aa
       all_goals
        simp[go_sem,e3,e4,e6,e8,e9,a6,a7,a8,U,a5,a9,ad,aa,zi];refine tS cn (.zk (zp ts) (.zs .nil)) ?_;simp[go_sem,e3,e4,e6,e8,e9,a6,a7,a8,U,a5,a9,ad,aa,zi,ay.len];rw[if_pos ay.one];generalize putCells _ 0 C=PC;simp[go_sem,e3,e4,e6,e8,e9,a6,a7,a8,U,a5,a9,ad,aa,zi,cb,db];refine aA ⟨full,rr.length+5,.lst full (I.map cSb),I,a0,ab,s2,av,hq,zS1 U,.inl rfl,A.keep (zS2 e3 cb) (zS1 e4) (zS1 e6) (zS1 e8) (zS1 e9) (zS1 a6) (zS1 a7) (zS1 a8) (rr.length+4) zOm ?_ zSi (fun j hj=>?_),?_,?_,fun h=>zOm⟩
        .exact b4
        .simp only[qC]
         rw[a5]
         match j,hj with
         | 0,_=>rfl
         | 1,_=>rfl
         | 2,_=>rfl
         | 3,_=>simp[aa]
         |i+4,hj =>
          simp only[v6];rw[zGa]
        .simp at ah⊢;omega
        .have bo:dueN (qo ts es) (binB n.op) 1=(qo ts es:Int):=by unfold dueN;rw[if_pos ⟨ao,zOm⟩]
         have bq:dueN (qo ts es) (binB n.op) 2=0:=by unfold dueN;rw[zIn]
         rw[bo]at aq;rw[bq];omega
     .have cc:¬n.op=15:=fun e=>ao (by simp[binB,e])
      have cd:¬n.op=45:=fun e=>ao (by simp[binB,e])
      have cg:¬n.op=46:=fun e=>ao (by simp[binB,e])
      simp[go_sem,e3,e4,e6,e8,e9,a6,a7,a8,U,a5,a9,ad,cc,cd,cg,zi];refine aA ⟨full,4,.lst full (I.map cSb),I,a0,ab,s2,av,by rw[if_neg (fun x=>ao x.1)],zS1 U,.inl rfl,A.same (zS1 e3) (zS1 e4) (zS1 e6) (zS1 e8) (zS1 e9) (zS1 a6) (zS1 a7) (zS1 a8) (zS1 a5),?_,?_,fun h=>zOm⟩
      .simp at ah⊢;omega
      .rw [<-Wh (fun x=>ao x.1)];exact aq
    .have ch:¬(k:Int)=1:=by omega
     simp[go_sem,e3,e4,e6,e8,e9,a6,a7,a8,U,a5,a9,ch,zi];refine aA ⟨full,4,.lst full (I.map cSb),I,a0,ab,s2,av,by rw[if_neg (fun x=>au x.2)],zS1 U,.inl rfl,A.same (zS1 e3) (zS1 e4) (zS1 e6) (zS1 e8) (zS1 e9) (zS1 a6) (zS1 a7) (zS1 a8) (zS1 a5),?_,?_,fun h=>b9 zOm⟩
     .split at ah<;>split<;>omega
     .rw [<-Wh (fun x=>au x.2)];exact aq
   .rintro T ⟨full,P,sl,ae,ai,aw,s3,av,hq,U,br,A,ah,aq,b9⟩
    rw[hq]at hI;simp only at hI;have b5:StOk (qo ts es) s3:=⟨A.l0,zW1 A.c0,A.c1,zW1 (Ye (qo ts es) (binB n.op) (k+1))⟩;have bs:(ae.length:Int)<=s3.sM+8:=by split at ah<;>omega
    have x1:=bj n.sD[k] (qs a9) ai ae s3 b5 A.c0 A.en A.so bs;have x2:=bn n.sD[k] (qs a9) ai ae s3 b5 A.c0 A.en A.so;generalize E' ae n.sD[k] s3=q at *
    clear bj bn;rw[qjC,qjD];refine qj.fz (qs5 (fun T=>∃ full,T.tm 1 = .lst full (ae.map cSb)/\AtK ts l es n body s k ae ai aw s3 af av z T) ?_ ?_)
    .rcases br with br|⟨dc,b4,h4⟩
     .exact FzQ.skip ⟨full,by rw[U,br],A⟩
     .refine FzQ.own (d:=1) U dc (JC ae) (fun r hr c hc=>by obtain⟨x,_,rfl⟩:=qn.1 hr;exact WL x c hc) ?_
      intro dd bt dw aj;refine⟨bt,zSi,A.keep (by simp[go_sem,A.e3]) (by simp[go_sem,A.e4]) (by simp[go_sem,A.e6]) (by simp[go_sem,A.e8]) (by simp[go_sem,A.e9]) (by simp[go_sem,A.e11]) (by simp[go_sem,A.e12]) (by simp[go_sem,A.e13]) P h4 b4 ?_ ?_⟩
      .have:=A.ho.2.2;simp only[qC];omega
      .intro j hj;simp only[qC];exact aj j hj
    rintro T ⟨full,U,A⟩;obtain⟨rr,a5⟩:=four A.m0 A.m1 A.m2 A.m3;have e3:=A.e3;have e4:=A.e4;have e6:=A.e6;have e8:=A.e8;have e9:=A.e9;have a6:=A.e11;have a7:=A.e12;have a8:=A.e13;have ak:=A.ho.one;have an:=A.ho.cells;refine fD [0,1,2,3,4,5,6,7,8,9,10,11,12,17,13,14,15,16] [(0,0,[]),(1,0,[]),(2,0,[]),(3,0,[]),(4,0,[]),(5,0,[]),(6,0,[]),(7,0,[]),(8,1,[]),(9,0,[]),(10,0,[]),(11,0,[]),(12,0,[]),(17,0,[]),(13,2,[0,3,6]),(14,2,[0,3,6]),(15,1,[]),(16,1,[])] zKr zKr zSi ?_;simp[go_sem,e3,e4,e6,e8,e9,a6,a7,a8,U,a5,a9,zi,ak,an];refine tS x1 (.zk (wX ts l s3) (.cons (WK.lst fun r hr c hc=>by
     obtain⟨x,_,rfl⟩:=qn.1 hr;exact WL x c hc) (.zk (qK _) (.zs .nil)))) ?_
    simp[go_sem,e3,e4,e6,e8,e9,a6,a7,a8,U,a5,a9,zi,ak,an];by_cases ar:4000<q.1.sM
    .rw [if_pos ar]at hI
     have hI:az=(q.1,nd0,0):=hI.symm;simp[go_sem,e3,e4,e6,e8,e9,a6,a7,a8,U,a5,a9,zi,ak,an,ar];rw[hI];exact rdZ ts l q.1
    .rcases x2 with x2|⟨_,g⟩
     .exact absurd x2 ar
     rw[if_neg ar]at hI;simp[go_sem,e3,e4,e6,e8,e9,a6,a7,a8,U,a5,a9,zi,ak,an,ar];obtain⟨g1,g2,g3⟩:=WJ g b5;have gz:=g.z0;have dx:=g.cz;have de:=g.c1;have gp:=g.p;have dy:=A.z1;have dz:=A.z2;have cr:=A.c0;have df:=A.al;have dj:=A.ho.2.2;refine YD.Wk (lo:=4) (xs:=af) ?_ zOm ?_
     .have h1:OwnF 4 (T.mu++[Cell.arr (cWk ts l q.1),Cell.arr (cNd q.2.1)]) 5 av (af.map cNd):=YD.ZF A.ho zSo fun i _ hi=>qN hi
      rw[a5]at h1;have h2:=OwnF.set (i:=0) (c:=Cell.arr (cWk ts l q.1)) h1 zOm;simpa using h2
     intro cj dd b0 aj;have n0:=aj 0 zOm;have n1:=aj 1 zOm;have n2:=aj 2 zOm;have n3:=aj 3 zOm;simp at n0 n1 n2 n3;obtain⟨r2,ck⟩:=four n0 n1 n2 n3;have bu:=b0.one;have bv:=b0.cells;have w3:qq.wrap (z+q.2.2)=z+q.2.2:=zWr;simp[go_sem,e3,e4,e6,e8,e9,a6,a7,a8,U,ck,a9,zi,bu,bv,ar,w2,w3];refine aA ⟨full,ae,ai,aw,q.1,af++[q.2.1],cj,z+q.2.2,zS1 U,⟨zS1 e3,zS1 e4,zS1 e6,zS1 e8,zS1 e9,zS1 a6,zSi,zSi,zSi,zSi,zSi,zSi,?_,A.so,A.en,zP1 df,g1.l0,zOm,de,zOm,zOm⟩,zOm,zOm,b9,?_⟩
     .have h2:=OwnF.set (i:=3) (c:=Cell.arr [aI n.op,aS aw,aI n.n,cj,aI n.pos]) b0 zOm
      rw[ck]at h2;simpa[go_sem] using h2
     .rw [<-hI]
      generalize uJ E' R' (binB n.op) (k+1) ae aw (List.drop (k+1) n.sD) q.1=X;cases X with
      |error e=>rfl
      |ok r =>
       obtain⟨⟨a,b,c⟩,d⟩:=r;simp[resK];omega
  .simp [go_sem,e3,e4,e6,e8,e9,a6,a7,a8,U,a5,a9,zi,ak,an]
   refine fD [0,1,2,5,3,4] [(0,0,[]),(1,0,[]),(2,0,[]),(5,0,[]),(3,1,[1]),(4,1,[])] zKr zKr zSi ?_;simp[go_sem,e3,e4,e6,e8,e9,a6,a7,a8,U,a5,a9,zi,ak,an];rw[WT zOm]at hI;have hI:az=(s2,.mk n.op ab n.n af n.pos,z):=by rw[<-hI];simp[uJ,resK]
   rw[hI];refine .tup _ _ rfl fun k x y hx hy=>?_
   match k,hx,hy with
   | 0,hx,hy=>cases hx;cases hy;exact .hf _ (wX ts l s2)
   | 1,hx,hy =>
    cases hx;cases hy;have dh:eNd (.mk n.op ab n.n af n.pos) = .agg [aI n.op,aS ab,aI n.n,.lst false (af.map cNd),aI n.pos]:=by
     show AV.agg (cNd _)=_;rw[yp];rfl
    show Rd _ _ (eNd (.mk n.op ab n.n af n.pos));rw[dh];refine .agg _ _ rfl fun k x y hx hy=>?_
    match k,hx,hy with
    | 0,hx,hy=>cases hx;cases hy;exact .zsc _
    | 1,hx,hy=>cases hx;cases hy;exact .zsc _
    | 2,hx,hy=>cases hx;cases hy;exact .zsc _
    | 3,hx,hy =>
     cases hx;cases hy;have h1:=OwnF.set (i:=1) (c:=Cell.arr (cWk ts l s2)) A.ho zOm;have h2:=OwnF.set (i:=2) (c:=Cell.arr [aI n.op,aS ab,aI n.n,av,aI n.pos]) h1 zOm;rw[a5]at h2;exact h2.1.rd (YD.Wj af).ok fun r hr c hc=>by
      obtain⟨x,_,rfl⟩:=qn.1 hr;exact vE x c hc
    | 4,hx,hy=>cases hx;cases hy;exact .zsc _
    |k+5,hx,hy=>cases hx
   | 2,hx,hy=>cases hx;cases hy;exact .zsc _
   |k+3,hx,hy=>cases hx
end
end RA
namespace RB
open YF Y9 Y1 YX YZ YB YC YE YG YH P1 P2 Q4 Q6 PF QE QT QW QX QY QZ RA
theorem qfA(l):∀ es nm,getK nm (putN es l)=some true↔(getK nm es=some true\/∃ x,x∈l/\x.name=nm):=by
 induction l with
 |nil=>intro es nm;exact⟨fun h => .inl h,fun h=>h.elim id fun⟨x,g,_⟩=>absurd g qG⟩
 |cons a l i =>
  intro es nm;have e:putN es (a :: l)=putN (setK a.name true es) l:=rfl;rw[e,i,j5];by_cases e:nm=a.name
  .grind
  .rw [if_neg e]
   constructor
   .grind
   .rintro (h|⟨x,g,j⟩)
    .exact .inl h
    .rcases qy.1 g with rfl|g
     .grind
     grind
theorem qs7(l:List Pd):∀ es nm,getK nm (l.foldl (fun es p=>putN es (preN p.body)) es)=some true↔(getK nm es=some true\/∃ p,p∈l/\∃ x,x∈preN p.body/\x.name=nm):=by
 induction l with
 |nil=>simp
 |cons a l i =>
  intro es nm;rw[List.foldl_cons,i,qfA];constructor
  .grind
  .rintro (h|⟨p,g,h⟩)
   .grind
   .rcases qy.1 g with rfl|g
    .grind
    grind
structure Ti (es:List (tP×Bool)):Prop where
 nd:(es.map Prod.fst).Nodup
 tr:∀ e,e∈es->e.2=true
theorem Ti.put(l):∀{es},Ti es->Ti (putN es l):=by
 induction l with
 |nil=>intro es h;exact h
 |cons a l i =>
  intro es h;refine i (es:=setK a.name true es) ⟨wE h.nd,fun e g=>?_⟩;rcases Wm g with rfl|g
  .rfl
  .exact h.tr e g
theorem cU(l:List Pd):∀{es},Ti es->Ti (l.foldl (fun es p=>putN es (preN p.body)) es):=by
 induction l with
 |nil=>grind
 |cons a l g=>intro es h;exact g (h.put _)
theorem py{nm}(n)(i:nm≠⟨#[]⟩):nm∈namL n↔∃ x,x∈preN n/\x.name=nm:=by
 unfold namL;rw[qn];constructor
 .rintro ⟨x,g,e⟩
  exact⟨x,(jH.1 g).1,e⟩
 .rintro ⟨x,g,e⟩
  exact⟨x,jH.2 ⟨g,by rw[e];simpa using i⟩,e⟩
theorem takTn(ts n):Tn (takL ts n) (yX ts n):=by
 have i:∀ o:tP,o≠⟨#[]⟩->(o∈takL ts n↔getK o (yX ts n)=some true):=fun o r=>by
  unfold takL yX;rw[qs7,qfA,qM,py n r,Qa];constructor
  .grind [py]
  .rintro ((h|h)|⟨p,P,h⟩)
   .cases h
   .exact .inl h
   grind [py]
 refine⟨i,?_⟩;have g:Ti (yX ts n):=cU _ (Ti.put _ ⟨.nil,fun e t=>absurd t qG⟩);have:=List.Nodup.length_le_of_subset (l₂:=⟨#[]⟩ :: takL ts n) g.nd fun x C=>by
  by_cases e:x=⟨#[]⟩
  .grind
  .refine q8 _ ((i x e).2 ?_)
   obtain⟨q,l,rfl⟩:=qn.1 C;have I:=g.tr q l;have J:=(Zq g.nd (k:=q.1) (v:=q.2)).2 l;rw[J,I]
 grind
theorem qfB(ts)(h:okTS ts)(l es)(t:Tn l es)(I:l.length<=400000)(J:qo ts es<=200000)(g:Free ts es)(j:∀ p,p∈ts.sT->WfN p.body/\yW ts p.body):∀ f env sc n body s,Pre ts es f env sc n body s->ExpW ts l es f sc n body s
 | 0,env,sc,n,body,s,p=>zW2 p.fu p.st.c1
 |f+1,env,sc,n,body,s,p=>by
  have P:=qfB ts h l es t I J g j f;by_cases o:s.sM+1<=4000
  case neg=>grind [expZ]
  by_cases R:n.op=1
  .grind [expN]
  by_cases h47:n.op=47
  .obtain ⟨r,C,i⟩:=p.cl n (vr n) h47
   have T:(payS 1 s).sM=s.sM+1:=rfl;exact expC ts l es f env sc n body s p o h47 r C (replW ts h l es g j f P env sc n body (payS 1 s) ⟨zW1 p.fu,(wT p.st zOm o).ok p.st,p.en,p.wf,p.cl,p.so,zW1 p.le⟩ h47 r C i)
  grind [expK]
theorem inlRU(ts)(h:okTS ts)(hv:∀ p,p∈ts.sT->qT p.body=true)(hb:∀ p,p∈ts.sT->WfN p.body/\yW ts p.body)(n)(hn:qT n=true)(a7:(yf ts [] n).1=0->yW ts n):qi qe 52 [eTS ts,eNd n] (.tup [eNd (zf ts n).1,aI (zf ts n).2]):=by
 have hw:=vV hn;have a8:=uI.1 hn;have J:∀ p,p∈ts.sT->WfN p.body:=fun p hp=>(hb p hp).1
 have a9:∀ p,p∈ts.sT->(preN p.body).length<=400:=fun p hp=>by grind [uI,VF]
 have aa:(preN n).length<=400:=by grind [VF]
 have hF:=Wz h hv hn;have hT:=takTn ts n;have af:=h.np;have ab:(takL ts n).length<=400000:=by
  have h1:∀ L:List Pd,(∀ p,p∈L->(preN p.body).length<=400)->(L.flatMap fun p=>namL p.body).length<=400*L.length:=by
   intro L;induction L with
   |nil=>intro _;simp
   |cons a L ih =>
    intro hL;have a1:=ih fun p hp=>hL p (q8 _ hp)
    have a2:=WH a.body;have a3:=hL a (zg ..);rw[w7,zd,zG];omega
  grind [WH,takL,zd]
 have P:=Wo ts (yX ts n);have T:StOk (qo ts (yX ts n)) ⟨0,0⟩:=⟨zSp,zSp,zSp,by simp[pot]⟩;have cf:=pp ts h J [] ⟨zSp,zSp⟩ zSp n hw a8.2.2.2;have l:=qa7 (szN n) n (qr _) hw.small;have ct:=qsW ts h J n hw aa a9;have U:WKs [eTS ts,.lst true [],eNd n] [eTS ts,lPm [],eNd n] := .zk (zp ts) (.cons (WK.lst fun r hr=>absurd hr qG) (.zk (qK n) .nil));have ad:WKs [eTS ts,eNd n] [eTS ts,eNd n] := .zk (zp ts) (.zk (qK n) .nil);generalize i:zf ts n=R;unfold zf at i;by_cases j:(yf ts [] n).1=0
 case neg =>
  rw[if_pos j]at i;subst i;refine qSU call52 func52 rfl ?_;refine tS cf U ?_;simp[go_sem,j];refine fD [0,1,2,4,3] [(0,0,[]),(1,0,[]),(2,0,[]),(4,0,[]),(3,1,[2])] zKr zKr zSi ?_;simp_all[go_sem,Jp]
 rw[if_neg (zUs j)]at i;cases ha:anyN (fun n=>decide (n.op=47)) n with
 |false =>
  rw[ha]at i l;rw[if_pos rfl]at i;subst i;refine qSU call52 func52 rfl ?_;refine tS cf U ?_;simp[go_sem,j];refine tS l (.zk (qK n) .nil) ?_;simp[go_sem,j];exact .hf _ (HF.tup fun x hx=>by
   simp only[qy,qG,or_false]at hx;rcases hx with rfl|rfl
   .exact qK n
   .exact HF.sc _)
 |true =>
  rw[ha]at i l;rw[if_neg zSp]at i;have a0:=a7 j;have cx:=qfB ts h (takL ts n) (yX ts n) hT ab hF P hb 4001 [] [] n false ⟨0,0⟩ ⟨zSp,T,.nil,hw,a0,⟨fun o=>rfl,fun _ o v hv=>(by cases hv),fun e he=>absurd he qG⟩,zSp⟩;have ho:=JA ts (yX ts n) P hb 4001 [] [] n false ⟨0,0⟩ zSp T .nil hw a0 ⟨fun o=>rfl,fun _ o v hv=>(by cases hv),fun e he=>absurd he qG⟩;have a4:=fun {n' z s'}=>Jo ts J (yX ts n) 4001 (env:=[]) (n:=n) (n':=n') (body:=false) (s:=⟨0,0⟩) (s':=s') (z:=z) (fun e he=>absurd he qG) hw
  have a5:=fun {n' z s'}=>jq ts P 4001 (env:=[]) (n:=n) (n':=n') (body:=false) (s':=s') (z:=z) T .nil
  have a6:=fun {d}=>Vv ts (yX ts n) 4001 (env:=[]) (n:=n) (body:=false) (s:=⟨0,0⟩) (d:=d)
  unfold outI at i;unfold ExpW at cx;generalize expR ts (yX ts n) 4001 [] n false ⟨0,0⟩=q at *
  generalize expI ts (yX ts n) 4001 [] n false ⟨0,0⟩=E at *
  have ae:(4000<q.1.sM/\R=(nd0,2))\/(¬ 4000<q.1.sM/\Small q.2.1/\depN q.2.1<=1000000/\((400<q.2.2/\R=(nd0,2))\/(¬ 400<q.2.2/\24<depN q.2.1/\R=(nd0,2))\/(¬ 400<q.2.2/\¬ 24<depN q.2.1/\R=(q.2.1,0)))):=by
   cases E with
   |error d =>
    have:=a6 rfl;subst this;exact .inl ⟨ho.1,i.symm⟩
   |ok r =>
    obtain⟨⟨m,y⟩,t⟩:=r;obtain⟨o1,o2,o3⟩:=ho;obtain⟨s1,s2⟩:=a4 rfl;have g:=a5 rfl;have gc:=g.c1;have gz:=g.cz;have dl:=kq m;rw[o1,o2,o3];have gz:0+y<=t.sM:=gz;refine .inr ⟨zOm,s2,zOm,?_⟩;simp only at i;by_cases z1:y<=400
    .by_cases z2:depN m<=24
     .grind
     grind
    .rw [if_neg (fun x=>z1 x.1)]at i
     grind
  clear i ho a4 a5 a6;refine qSU call52 func52 rfl ?_;refine tS cf U ?_;simp[go_sem,j];refine tS l (.zk (qK n) .nil) ?_;simp[go_sem,j];refine fD [0,1,2,5,3,4,6,7,8,9,10,15,11,12,13,14] [(0,0,[]),(1,0,[]),(2,0,[]),(5,0,[]),(3,1,[0,5]),(4,0,[]),(6,1,[]),(7,0,[]),(8,0,[]),(9,0,[]),(10,0,[]),(15,0,[]),(11,2,[0,1,2,5]),(12,2,[0,1,2,5]),(13,1,[]),(14,1,[])] zKr zKr zSi ?_;simp[go_sem,j];refine tS ct ad ?_;simp[go_sem,j];refine tS cx ?_ ?_
  .exact .zk (wX ts (takL ts n) ⟨0,0⟩) (.cons (WK.lst fun r hr=>absurd hr qG) (.zk (qK n) (.zs .nil)))
  simp[go_sem,j];have ag:∀ C:Mu,Rd C (.tup [eNd q.2.1,aI 0]) (.tup [eNd q.2.1,aI 0]):=fun C => .hf _ (HF.tup fun x hx=>by
   simp only[qy,qG,or_false]at hx;rcases hx with rfl|rfl
   .exact qK _
   .exact HF.sc _)
  rcases ae with ⟨g1,g2⟩|⟨g1,gs,gd,⟨g2,g3⟩|⟨g2,g3,g4⟩|⟨g2,g3,g4⟩⟩
  .simp_all [go_sem,g1,Jp]
  .rw [g3]
   simp[go_sem,j,g1,g2];exact Jp _ _
  .rw [g4]
   simp[go_sem,j,g1,g2];refine tS (pw (szN q.2.1) q.2.1 (qr _) gs gd) (.zk (qK _) .nil) ?_;simp_all[go_sem,g1,Jp]
  .rw [g4]
   simp[go_sem,j,g1,g2];refine tS (pw (szN q.2.1) q.2.1 (qr _) gs gd) (.zk (qK _) .nil) ?_;simp[go_sem, *]
end RB
namespace FE
open Y1 Y9
def yy(op a s:Int)(i:Nat)(k:Int):Int:=if op=48\/op=49\/op=51 then k*s else if i=1/\(op=45\/op=46\/op=15) then k*a else k
def minW(v:Int):Int:=if 1000000<v then 1000000 else v
mutual
def wkN(a s:Int):Nd->Int
 | .mk op _ _ ks _=>wkNs a s op 0 ks 1
def wkNs(a s op:Int):Nat->List Nd->Int->Int
 |_,[],sum=>sum
 |i,k :: ks,sum=>wkNs a s op (i+1) ks (minW (sum+yy op a s i (wkN a s k)))
end
theorem qs8(a s n):wkN a s n=wkNs a s n.op 0 n.sD 1:=by
 obtain⟨op,o,i,ks,q⟩:=n;rw[wkN];rfl
theorem qfC{op a s i k}(j:0<=a/\a<=100)(l:0<=s/\s<=100)(g:0<=k/\k<=1000000):0<=yy op a s i k/\yy op a s i k<=100000000:=by
 unfold yy;have o:=Int.mul_nonneg g.1 j.1;have p:=Int.mul_nonneg g.1 l.1;have r:k*a<=1000000*100:=jJ g.2 j.2 j.1 zOm;have t:k*s<=1000000*100:=jJ g.2 l.2 l.1 zOm;split
 .omega
 omega
theorem qfD{v}(h:0<=v):0<=minW v/\minW v<=1000000:=by unfold minW;split<;>omega
mutual
theorem qfE(a s:Int)(g:0<=a/\a<=100)(i:0<=s/\s<=100):∀ n:Nd,0<=wkN a s n/\wkN a s n<=1000000
 | .mk op _ _ ks _=>by rw[wkN];exact qfF a s g i op ks 0 1 zOm
theorem qfF(a s:Int)(g:0<=a/\a<=100)(j:0<=s/\s<=100)(op:Int):∀(ks:List Nd)(i:Nat)(sum:Int),0<=sum/\sum<=1000000->0<=wkNs a s op i ks sum/\wkNs a s op i ks sum<=1000000
 | [],_,sum,h=>by rw[wkNs];exact h
 |k :: ks,i,sum,h=>by
  rw[wkNs];have l:=qfE a s g j k;have o:=qfC (op:=op) (i:=i) g j l;exact qfF a s g j op ks (i+1) _ (qfD zOm)
end
theorem qfG(a s)(ha:0<=a/\a<=100)(hs:0<=s/\s<=100):∀ m n,szN n<=m->Small n->qi qe 53 [eNd n,aI a,aI s] (aI (wkN a s n))
 | 0,n,hm,_=>by obtain⟨op,nm,i,ks,p⟩:=n;simp[szN]at hm
 |m+1,n,hm,a7=>by
  have ih:∀ k,k∈n.sD->qi qe 53 [eNd k,aI a,aI s] (aI (wkN a s k)):=fun k hk=>qfG a s ha hs m k (zW1 (yu hk)) (a7.kid hk)
  rw[qs8];have a9:=a7.len;generalize hR:wkNs a s n.op 0 n.sD 1=R;refine qSU call53 func53 rfl ?_;refine aK n.sD.length (fun k T=>∃ sum:Int,T.tm 1=aI a/\T.tm 2=aI s/\T.tm 3 = .ip (cNd n)/\T.tm 7=aI sum/\T.tm 8=aI k/\(0<=sum/\sum<=1000000)/\wkNs a s n.op k (n.sD.drop k) sum=R) ?_ ?_
  .simp [go_sem, *]
  .rintro k T hk ⟨sum,r,t,C,e7,e8,aa,o⟩
   by_cases a8:k=n.sD.length
   .subst a8
    rw[yd,wkNs]at o;subst o;simp[go_sem,r,t,C,e7,e8];exact .zsc _
   .have l:k<n.sD.length:=by omega
    rw[zu l,wkNs]at o;have w1:=zWk k;have a3:=qfE a s ha hs n.sD[k];have ab:=qfC (op:=n.op) (i:=k) ha hs a3;have j:=qfD (v:=sum+yy n.op a s k (wkN a s n.sD[k])) zOm;have m1:=Int.mul_nonneg a3.1 ha.1;have m2:=Int.mul_nonneg a3.1 hs.1;have m3:wkN a s n.sD[k] * a<=1000000*100:=jJ a3.2 ha.2 ha.1 zOm;have m4:wkN a s n.sD[k] * s<=1000000*100:=jJ a3.2 hs.2 hs.1 zOm;simp[go_sem,r,t,C,e7,e8,l,zi];refine tS (ih n.sD[k] (qs l)) (.zk (qK _) (.zs (.zs .nil))) ?_;generalize wkN a s n.sD[k]=K at *
    by_cases I:k=1
    .have g:(k:Int)=1:=by omega
     by_cases a0:n.op=48
     .have J:yy n.op a s k K=K*s:=by simp[yy,a0,I,g]
      rw[J]at o j;have P:qq.wrap (K*s)=K*s:=zWr;have U:qq.wrap (sum+K*s)=sum+K*s:=zWr;simp[go_sem,r,t,C,e7,e8,w1,P,U,l,a0,eq_true I,eq_true g];simp_all[go_sem,aA,minW]
     by_cases a1:n.op=49
     .have J:yy n.op a s k K=K*s:=by simp[yy,a1,I,g]
      rw[J]at o j;have P:qq.wrap (K*s)=K*s:=zWr;have U:qq.wrap (sum+K*s)=sum+K*s:=zWr;simp[go_sem,r,t,C,e7,e8,w1,P,U,l,a1,eq_true I,eq_true g];exact aA ⟨_,zS1 r,zS1 t,zS1 C,by simp[go_sem,minW],zSi,j,o⟩
     by_cases a2:n.op=51
     .have J:yy n.op a s k K=K*s:=by simp[yy,a2,I,g]
      rw[J]at o j;have P:qq.wrap (K*s)=K*s:=zWr;have U:qq.wrap (sum+K*s)=sum+K*s:=zWr;simp[go_sem,r,t,C,e7,e8,w1,P,U,l,a2,eq_true I,eq_true g];exact aA ⟨_,zS1 r,zS1 t,zS1 C,by simp[go_sem,minW],zSi,j,o⟩
     by_cases a4:n.op=45
     .have J:yy n.op a s k K=K*a:=by simp[yy,a4,I,g]
      rw[J]at o j;have P:qq.wrap (K*a)=K*a:=zWr;have U:qq.wrap (sum+K*a)=sum+K*a:=zWr;simp[go_sem,r,t,C,e7,e8,w1,P,U,l,a4,eq_true I,eq_true g];exact aA ⟨_,zS1 r,zS1 t,zS1 C,by simp[go_sem,minW],zSi,j,o⟩
     by_cases a5:n.op=46
     .have J:yy n.op a s k K=K*a:=by simp[yy,a5,I,g]
      rw[J]at o j;have P:qq.wrap (K*a)=K*a:=zWr;have U:qq.wrap (sum+K*a)=sum+K*a:=zWr;simp[go_sem,r,t,C,e7,e8,w1,P,U,l,a5,eq_true I,eq_true g];exact aA ⟨_,zS1 r,zS1 t,zS1 C,by simp[go_sem,minW],zSi,j,o⟩
     by_cases a6:n.op=15
     .have J:yy n.op a s k K=K*a:=by simp[yy,a6,I,g]
      rw[J]at o j;have P:qq.wrap (K*a)=K*a:=zWr;have U:qq.wrap (sum+K*a)=sum+K*a:=zWr;simp[go_sem,r,t,C,e7,e8,w1,P,U,l,a6,eq_true I,eq_true g];exact aA ⟨_,zS1 r,zS1 t,zS1 C,by simp[go_sem,minW],zSi,j,o⟩
     have J:yy n.op a s k K=K:=by simp[yy,a0,a1,a2,a4,a5,a6,I,g]
     rw[J]at o j;have P:=w1;have U:qq.wrap (sum+K)=sum+K:=zWr;simp[go_sem,r,t,C,e7,e8,w1,P,U,l,a0,a1,a2,a4,a5,a6,eq_true I,eq_true g];simp_all[go_sem,aA,minW]
    .have g:¬(k:Int)=1:=by omega
     by_cases a0:n.op=48
     .have J:yy n.op a s k K=K*s:=by simp[yy,a0,I,g]
      rw[J]at o j;have P:qq.wrap (K*s)=K*s:=zWr;have U:qq.wrap (sum+K*s)=sum+K*s:=zWr;simp[go_sem,r,t,C,e7,e8,w1,P,U,l,a0,I,g];exact aA ⟨_,zS1 r,zS1 t,zS1 C,by simp[go_sem,minW],zSi,j,o⟩
     by_cases a1:n.op=49
     .have J:yy n.op a s k K=K*s:=by simp[yy,a1,I,g]
      rw[J]at o j;have P:qq.wrap (K*s)=K*s:=zWr;have U:qq.wrap (sum+K*s)=sum+K*s:=zWr;simp[go_sem,r,t,C,e7,e8,w1,P,U,l,a1,I,g];exact aA ⟨_,zS1 r,zS1 t,zS1 C,by simp[go_sem,minW],zSi,j,o⟩
     by_cases a2:n.op=51
     .have J:yy n.op a s k K=K*s:=by simp[yy,a2,I,g]
      rw[J]at o j;have P:qq.wrap (K*s)=K*s:=zWr;have U:qq.wrap (sum+K*s)=sum+K*s:=zWr;simp[go_sem,r,t,C,e7,e8,w1,P,U,l,a2,I,g];exact aA ⟨_,zS1 r,zS1 t,zS1 C,by simp[go_sem,minW],zSi,j,o⟩
     have J:yy n.op a s k K=K:=by simp[yy,a0,a1,a2,I,g]
     rw[J]at o j;have P:=w1;have U:qq.wrap (sum+K)=sum+K:=zWr;simp[go_sem,r,t,C,e7,e8,w1,P,U,l,a0,a1,a2,I,g];exact aA ⟨_,zS1 r,zS1 t,zS1 C,by simp[go_sem,minW],zSi,j,o⟩
end FE
namespace FF
end FF
namespace IB
open QU P1 P2 Y1 YF Y9 Y10 Y16 PA YC YG YH Q4 Q6 Q8 PF QT RB QL E3 F2 FC FD FE IA
section
variable {ts:TS}
abbrev bigT(ts:TS):Prop:=∀ x,x∈ts.sS->x.1.size<=4611686018427387904
structure SpD (ts:TS):Prop where
 h:okTS ts
 wp:∀ p,p∈ts.sT->WfN p.body
 wf:∀ f,f∈ts.sP->WfN f.2
 hv:∀ p,p∈ts.sT->qT p.body=true
 hf:∀ f,f∈ts.sP->qT f.2=true
theorem WM(h:yV ts=true)(i:bigT ts):SpD ts:=by
 obtain⟨ok,j,wf⟩:=qmT h i;simp only[yV,limB,fldB,qH,decide_eq_true_eq,zF]at h;obtain⟨⟨⟨⟨r,t⟩,C⟩,I⟩,hf,l,o⟩:=h;exact⟨ok,j,wf,fun p g=>(l p g).2,fun f g=>o f g⟩
theorem SpD.sp(S:SpD ts)(g:yZ ts=[]):OkSp ts:=⟨S.h,S.hv,g⟩
theorem SpD.chk(S:SpD ts):qi qe 24 [eTS ts] (lDg (yZ ts)):=
 qsR ts S.h S.wp S.wf (fun p g=>(uI.1 (S.hv p g)).2.2.2) (fun f hf=>(uI.1 (S.hf f hf)).2.2.2)
theorem SpD.chkF(S:SpD ts){n}(g:qT n=true):qi qe 25 [eTS ts,lPm [],eNd n] (eDg (yf ts [] n)):=
 pp ts S.h S.wp [] ⟨zSp,zSp⟩ zSp n (vV g) (uI.1 g).2.2.2
theorem qfH(S:SpD ts)(j:yZ ts=[]):∀ p,p∈ts.sT->WfN p.body/\yW ts p.body:=fun p g=>⟨S.wp p g,by
 obtain⟨i,l,rfl⟩:=List.mem_iff_getElem.1 g;obtain⟨_,r,o⟩:=Js (kP j i l);exact kO (uj S.h zOm) (szN ts.sT[i].body) _ _ _ _ (qr _) o (S.wp _ g)⟩
theorem qfI(S:SpD ts){n}(g:qT n=true)(i:(yf ts [] n).1=0):yW ts n:=by
 obtain⟨_,l,j⟩:=Js i;exact kO (uj S.h (qr _)) (szN n) _ _ _ _ (qr _) j (vV g)
theorem inlC(S:SpD ts)(i:yZ ts=[]){n}(g:qT n=true):qi qe 34 [eTS ts,eNd n] (.tup [eNd (zf ts n).1,aI (zf ts n).2]):=
 qpL ts S.h (qfH S i) n (vV g) (qfI S g) (Wz S.h S.hv g)
theorem inlR(S:SpD ts)(i:yZ ts=[]){n}(g:qT n=true):qi qe 52 [eTS ts,eNd n] (.tup [eNd (zf ts n).1,aI (zf ts n).2]):=
 inlRU ts S.h S.hv (qfH S i) n g (qfI S g)
theorem qfJ(S:SpD ts)(o:yZ ts=[]){n}(j:qT n=true)(g:(zf ts n).2=0):qT (zf ts n).1=true:=by
 by_cases i:(yf ts [] n).1=0
 .cases l:anyN (fun n=>decide (n.op=47)) n with
  |false =>
   have:zf ts n=(n,0):=by unfold zf;rw[if_neg (zUs i),if_pos l]
   rw[this];exact j
  |true=>exact(qq9 S.h S.hv o j i l (Prod.ext rfl g)).1
 .unfold zf at g
  rw[if_pos i]at g;exact absurd g i
theorem qs9(S:SpD ts)(g:yZ ts=[]){m}(j:OkMa ⟨ts,m⟩ m.sK.length)(l:0<m.sK.length){n}(o:qT n=true):qi qe 10 [eTS ts,eMd m,eNd n] (.tup [aB (hV ⟨ts,m⟩ n).1,aI (hV ⟨ts,m⟩ n).2]):=by
 refine qn4 ⟨ts,m⟩ m.sK.length j l (zf ts) n (by have:=S.h.nfa;show ts.sP.length<=_;omega) fun b p=>?_
 have i:qT b=true:=by
  rcases qM.1 p with h|h
  .obtain ⟨f,hf,rfl⟩:=qn.1 h
   exact S.hf f hf
  .rw [qV]at h;subst h;exact o
 refine⟨inlC S g i,fun r=>?_⟩;have:=qfJ S g i r;exact⟨vV this,zW1 (qn6 this)⟩
def qtA(ts:TS)(a s:Int)(l:List Nd):Bool:=l.all fun b=>!(decide ((zf ts b).2=0)&&decide (3000<wkN a s (zf ts b).1))
def WN(ts:TS)(a s:Int)(n:Nd):Bool:=qtA ts a s (ts.sP.map Prod.snd++[n])
theorem qtB(S:SpD ts)(g:yZ ts=[]){n}(i:qT n=true)(j:(zf ts n).2=0):Small (zf ts n).1:=(vV (qfJ S g i j)).small
end
end IB
namespace IN
open Y1 P1 YF
def ZJ(I:Nd->Nd×Int)(W:Nd->Int)(l:List Nd):Bool:=l.all fun b=>!(decide ((I b).2=0)&&decide (3000<W (I b).1))
theorem qtC(ts I W)(a3:ts.sP.length<=1000)(a s n)(step:∀ b,b∈ts.sP.map Prod.snd++[n]->qi qe 52 [eTS ts,eNd b] (.tup [eNd (I b).1,aI (I b).2]))(yy:∀ b,b∈ts.sP.map Prod.snd++[n]->(I b).2=0->qi qe 53 [eNd (I b).1,aI a,aI s] (aI (W (I b).1))):qi qe 26 [eTS ts,aI a,aI s,eNd n] (aB (ZJ I W (ts.sP.map Prod.snd++[n]))):=by
 have a4:(ts.sP.map Prod.snd++[n]).length=ts.sP.length+1:=zSp;have t:∀(k:Nat)(h:k<ts.sP.length)(h2:k<(ts.sP.map Prod.snd++[n]).length),(ts.sP.map Prod.snd++[n])[k]=ts.sP[k].2:=fun k h h2=>by grind
 have C:∀(h2:ts.sP.length<(ts.sP.map Prod.snd++[n]).length),(ts.sP.map Prod.snd++[n])[ts.sP.length]=n:=fun h2=>zSp
 generalize ts.sP.map Prod.snd++[n]=L at *
 generalize hR:ZJ I W L=R;refine qSU call26 func26 rfl ?_;refine aK (ts.sP.length+1) (fun k T=>T.tm 1=aI a/\T.tm 2=aI s/\T.tm 4 = .ip (cTS ts)/\T.tm 7 = .ip (cNd n)/\T.tm 9=aI k/\ZJ I W (L.drop k)=R) ?_ ?_
 .simp [go_sem, *]
 rintro k T a5 ⟨J,P,p,U,r,g⟩;have wi:∀ b:Nd,WKs [eTS ts,eNd b] [eTS ts,eNd b]:=fun b => .zk (zp ts) (.zk (qK b) .nil)
 have ww:∀ b:Nd,WKs [eNd b,aI a,aI s] [eNd b,aI a,aI s]:=fun b => .zk (qK b) (.zs (.zs .nil))
 have w1:=zWk k;by_cases l:k<ts.sP.length+1
 .have i:k<L.length:=by omega
  have a1:k<=ts.sP.length:=zOm;have a0:(k:Int)<=ts.sP.length:=zOm;have c1:=step _ (qs i);have c2:=yy _ (qs i);rw[zu i,ZJ,List.all_cons]at g;by_cases hf:k<ts.sP.length
  .rw [t k hf i]at g c1 c2
   generalize I ts.sP[k].2=ib at *
   obtain⟨b',e'⟩:=ib;simp only at g c1 c2;simp[go_sem,p,U,r,hf,a1,a0];refine fR c1 (wi _) ?_;by_cases he:e'=0
   .subst he
    have c3:=c2 rfl;simp[go_sem,J,P];refine tS c3 (ww b') ?_;generalize W b'=w at *
    by_cases j:3000<w
    .simp [j]at g
     subst g;simp[go_sem,j];exact .zsc _
    .simp [j]at g
     simp[go_sem,j,r,w1,l];exact aA ⟨zS1 J,zS1 P,zS1 p,zS1 U,zSi,by simpa[ZJ] using g⟩
   simp_all[go_sem,aA,ZJ]
  .have o:k=ts.sP.length:=by omega
   subst o;rw[C i]at g c1 c2;generalize I n=ib at *
   obtain⟨b',e'⟩:=ib;simp only at g c1 c2;simp[go_sem,p,U,r];refine fR c1 (wi _) ?_;by_cases he:e'=0
   .subst he
    have c3:=c2 rfl;simp[go_sem,J,P];refine tS c3 (ww b') ?_;generalize W b'=w at *
    by_cases j:3000<w
    .simp [j]at g
     subst g;simp[go_sem,j];exact .zsc _
    .simp [j]at g
     simp[go_sem,j,r,w1,l];exact aA ⟨zS1 J,zS1 P,zS1 p,zS1 U,zSi,by simpa[ZJ] using g⟩
   .simp [he]at g
    simp[go_sem,he,r,w1,l];exact aA ⟨zS1 J,zS1 P,zS1 p,zS1 U,zSi,by simpa[ZJ] using g⟩
 .have o:k=ts.sP.length+1:=by omega
  subst o;rw[WT zOm]at g;have a2:R=true:=by rw[<-g];rfl
  subst a2;simp[go_sem,p,r,show ¬((ts.sP.length:Int)+1<=ts.sP.length) by omega];exact .zsc _
end IN
namespace IF
open P1 Y1 YF Y16 YG Q4 FE IB IN
theorem qtD{ts}(S:SpD ts)(i:yZ ts=[])(a s)(l:0<=a/\a<=100)(o:0<=s/\s<=100){n}(p:qT n=true):qi qe 26 [eTS ts,aI a,aI s,eNd n] (aB (WN ts a s n)):=by
 have j:∀ b,b∈ts.sP.map Prod.snd++[n]->qT b=true:=fun b g=>by
  rcases qM.1 g with h|h
  .obtain ⟨f,hf,rfl⟩:=qn.1 h
   exact S.hf f hf
  .rw [qV]at h;subst h;exact p
 exact qtC ts (zf ts) (wkN a s) (zW1 S.h.nfa) a s n (fun b g=>inlR S i (j b g)) (fun b g r=>qfG a s l o _ _ (qr _) (qtB S i (j b g) r))
end IF
namespace GZ
open E1 GB GF GP GU GY
theorem qfK(g s f t):t∈selT g s f↔((s:Int),(f:Int),t)∈g:=by
 simp only[selT,qn,jH,qH,decide_eq_true_eq];constructor
 .rintro ⟨⟨a,b,c⟩,⟨h,i,j⟩,rfl⟩
  simp only at i j;subst i j;exact h
 .intro h
  exact⟨_,⟨h,rfl,rfl⟩,rfl⟩
theorem pz:∀ g k p t,(p,t)∈qP g k↔∃(f:Nat) (h:f<g.length),p=((k+f:Nat):Int)/\t∈u7 g[f]
 | [],k,p,t=>by simp[qP]
 |b :: g,k,p,t=>by
  simp only[qP,qM,jo,qn,uM,pz g (k+1)];constructor
  .rintro (⟨a,j,rfl,rfl⟩|⟨f,hf,rfl,i⟩)
   .exact ⟨0,zSp,zSp,zUs j⟩
   .exact ⟨f+1,by simpa using hf,zOm,zUs i⟩
  .rintro ⟨f,hf,rfl,i⟩
   cases f with
   |zero=>grind
   |succ f=>grind
theorem qfL(i g)(N s f:Nat)(t):((s:Int),(f:Int),t)∈chs i (qP g 0) N↔s<N/\(s=0\/i.getD f true=true)/\∃ h,t∈u7 g[f]:=by
 simp only[chs,Qa,yi,chA,qn,jH,Bool.or_eq_true,decide_eq_true_eq,uM,Prod.exists];constructor
 .rintro ⟨C,l,p,I,⟨J,j⟩,P,rfl,rfl⟩
  grind [pz]
 .rintro ⟨o,j,hf,r⟩
  exact⟨s,o,f,t,⟨(pz _ _ _ _).2 ⟨f,hf,zSp,r⟩,zUs j⟩,rfl,rfl,rfl⟩
theorem qfM(g lo t)(i:t∈lo.ts):∀(ts:List Int)(q),t∈q.1\/t∈ts->t∈(ts.foldl (vH g lo) q).1
 | [],q,h=>by
  grind
 |a :: ts,q,h=>by
  rw[List.foldl_cons];refine qfM g lo t i ts _ ?_;rcases h with h|h
  .grind [vH,List.mem_append_left]
  .rcases qy.1 h with rfl|h
   .refine .inl ?_
    unfold vH;rw[if_pos i];exact List.mem_append_right _ (qV.2 rfl)
   grind
theorem qfN(g):∀(i:List Bd)(q),∃ l,(i.foldl (insB g) q).1=q.1++l
 | [],q=>⟨[],zSp⟩
 |b :: i,q=>by
  obtain⟨l,h⟩:=qfN g i (insB g q b);exact⟨_,by rw[List.foldl_cons,h];simp only[insB,zB];rfl⟩
theorem qtE(g i f)(h:f<g.length):∃ n,(yE g i)[f]?=some ⟨g[f].up.ar,(insF i g[f].lo g[f].up.ts n).1⟩:=by
 have e:g=g.take (f+1)++g.drop (f+1):=(vO ..).symm;have j:jz g i=(g.drop (f+1)).foldl (insB i) (jz (g.take (f+1)) i):=by
  rw[jz,jz,<-vM,vO]
 obtain⟨l,o⟩:=qfN i (g.drop (f+1)) (jz (g.take (f+1)) i);rw[<-j,qaJ g i f h]at o;have p:(yE (g.take f) i).length=f:=by rw[Zx];simp;omega
 grind [jz,yE,insB,zB,zM]
theorem qfO(b t):t∈u7 b↔t∈b.up.ts/\¬t∈b.lo.ts:=by simp[u7]
theorem qtF(g i f h)(r:g[f].lo.ar=g[f].up.ar)(C:sorted g[f].up.ts)(j:∀ t,t∈g[f].lo.ts->t∈g[f].up.ts)(ts)
  (l:∀ t,t∈ts↔t∈u7 g[f]/\t∈((yE g i).getD f noR).ts):unR g[f].lo ⟨g[f].lo.ar,ts⟩=(yE g i).getD f noR:=by
 obtain⟨n,I⟩:=qtE g i f h;rw[zS,I]at l⊢;simp only[Option.getD_some]at l⊢;have o:(insF i g[f].lo g[f].up.ts n).1.Sublist g[f].up.ts:=by
  have:=Vd i g[f].lo g[f].up.ts ([],n) [] (List.Sublist.refl _)
  grind [insF]
 have J:∀ t,t∈g[f].lo.ts->t∈(insF i g[f].lo g[f].up.ts n).1:=fun t h=>qfM i g[f].lo t h g[f].up.ts ([],n) (.inr (j t h))
 obtain⟨P,R⟩:=Z6 (g[f].lo.ts++ts);unfold unR;rw[r];congr 1;refine mE P (C.sublist o) fun x=>?_
 rw[R,qM,l x,qfO];constructor
 .rintro (h|⟨_,h⟩)
  .exact J x h
  .exact h
 .intro h
  by_cases p:x∈g[f].lo.ts
  .exact .inl p
  .exact .inr ⟨⟨o.subset h,p⟩,h⟩
theorem qfP(sc:Sc)(j g i)(N k:Nat)(hN:sc.sN=N)(P:k<N)
  (R:∀ b,b∈g->b.lo.ar=b.up.ar) (T:∀ b,b∈g->sorted b.up.ts) (o:∀ b,b∈g->∀ t,t∈b.lo.ts->t∈b.up.ts) :
  anyM sc j g i k∈Zc sc j g (chs j (qP g 0) N) N:=by
 refine Wc.2 ⟨k,(chs j (qP g 0) N).filter fun c=>decide (c.2.2∈((yE g (i.getD c.1.toNat [])).getD c.2.1.toNat noR).ts),P,List.filter_sublist,?_⟩;unfold anyM jQ;have r:sc.sN.toNat=N:=zOm;rw[r];congr 1;refine List.map_congr_left fun s p=>?_
 rw[yi]at p;have key:∀(s f:Nat)(hf:f<g.length),s<N->(s=0\/j.getD f true=true) ->
   wd ((chs j (qP g 0) N).filter fun c=>decide (c.2.2∈((yE g (i.getD c.1.toNat [])).getD c.2.1.toNat noR).ts)) s f g[f]=(yE g (i.getD s [])).getD f noR:=fun s f hf U hc=>by
  have C:=qs hf;refine qtF g (i.getD s []) f hf (R _ C) (T _ C) (o _ C) _ fun t=>?_
  simp_all[qfK,jH,qfL,decide_eq_true_eq,Int.toNat_natCast]
 refine List.ext_getElem (by rw[Ky,Ji]) fun f h1 h2=>?_
 have hf:f<g.length:=by grind [Ky]
 rw[Vp _ _ _ _ _ hf];have hi:∀ l,f<(yE g l).length:=fun l=>by rw[Zx];exact hf
 have hg:∀ l,(yE g l)[f]'(hi l)=(yE g l).getD f noR:=fun l=>by grind
 by_cases I:s=0
 .subst I
  rw[if_neg zSp,key 0 f hf p (.inl rfl)];simp only[anyS,if_true];exact hg _
 .simp only[anyS,if_neg I,List.getElem_mapIdx]
  by_cases J:j.getD f true=true
  .grind
  .rw [if_neg J,if_pos ⟨I,zUs J⟩,key 0 f hf zOm (.inl rfl)]
end GZ
namespace GX
open YF P1 E3 E4 EO ER G5 GQ GR GW
theorem qtG(xs l p)(hf:EO.FnOk qe l (fun x=>aI x) (·∈xs) (fun x=>aB (p x)))(R:xs.length<=1000000000):qi qe 155 [lI xs,l] (aI (jP p xs 0)):=by
 refine qSU call155 func155 rfl ?_;refine qm.up xs.length (fun k T=>T.tm 0=lI xs/\T.tm 1=l/\T.tm 7=aI xs.length/\T.tm 8=aI k/\T.mu=[]/\jP p (xs.drop k) k=jP p xs 0) ?_ ?_
 .simp [go_sem]
 rintro k T U ⟨C,I,o,r,J,i⟩;by_cases g:k<xs.length
 .rw [Kb _ _ _ _ g]at i
  simp[go_sem,C,I,o,r,J,g];refine FnOk.call (enc:=fun x=>aI x) hf (qs g) ?_;by_cases j:p xs[k]=true
  .rw [if_pos j]at i
   simp[go_sem,j];rw[<-i];exact .zsc _
  .rw [if_neg j]at i
   simp only[Bool.not_eq_true]at j;simp[go_sem,C,I,o,r,g,j]
   grind [z8]
 .have t:k=xs.length:=by omega
  subst t;rw[yd]at i;simp[go_sem,o,r,J];rw[<-i];exact .zsc _
theorem qtH(xs g p)(hf:EO.FnOk qe g (fun x=>aI x) (·∈xs) (fun x=>aB (p x)))(i:xs.length<=1000000000):qi qe 102 [lI xs,g] (aB (xs.any p)):=by
 refine qSU call102 func102 rfl ?_;refine tS (qtG xs g p hf i) (.zk (zh _) (.cons (.hf hf.1) .nil)) ?_;rw[<-UN p xs 0 zOm];simp[go_sem];exact .zsc _
theorem qtI(ts sc)(F:Fit9 ts sc)(f)(hf:f∈ts.sA):qi qe 57 [eTS ts,Uu f] (aB true):=by
 have t:=F.f1 f hf;have l:=F.fs f hf;have C:=F.ns;have o:HF (.ip (cTS ts)):=HF.ip fun c j=>YO _ c j
 have p:∀ s,s∈f.sS->qi qe 103 [aI s,.ip (cTS ts)] (aB false):=fun s I=>by
  have:=l s I;have r:¬s<0:=zOm;have J:¬(ts.sS.length:Int)<=s:=zOm;refine qSV call103 func103 rfl ?_;simp[go_sem,r,J];exact .zsc _
 have g:HF (.fn (.func 103) [] [.ip (cTS ts)]):=HF.fn (fun c j=>by simp at j) (fun c j=>by grind);have i:=qtH f.sS (.fn (.func 103) [] [.ip (cTS ts)]) (fun _=>false) ⟨g,_,[],_,rfl,fun x P=>⟨[aI x,.ip (cTS ts)],by simpa using WKs.zs (.zk o .nil),p x P⟩⟩ zOm;rw[show (f.sS.any fun _=>false)=false by simp]at i;refine qSV call57 func57 rfl ?_;have r:¬(f.sS.length:Int)<1:=zOm;have R:¬(3:Int)<f.sS.length:=zOm;simp[go_sem,r,R];refine fR i (.zk (zh _) (.zk g .nil)) ?_;exact .zsc _
structure MdV (ts:TS) (m:Md):Prop where
 f:Fit9 ts m.sc
 z:y5 m.sc=true
 ns:(m.sK.length:Int)=m.sc.sN
 l0:0<=m.loop
 l1:m.loop<m.sK.length
 len:∀ s,s∈m.sK->s.length=ts.sA.length
 ar:∀ s,s∈m.sK->∀(i:Nat)(h:i<s.length)(h2:i<ts.sA.length),s[i].ar=ts.sA[i].sS.length/\s[i].ts.Pairwise (·<·)/\∀ t,t∈s[i].ts->t∈yN m.sc ts.sA[i].sS
 fix:∀(k:Nat)(h:k<m.sK.length)(h0:0<m.sK.length)(i:Nat)(h1:i<m.sK[k].length)(h3:i<m.sK[0].length)(h2:i<ts.sA.length),ts.sA[i].var=false->m.sK[k][i]=m.sK[0][i]
theorem pA{sc}(h:y5 sc=true):sumI sc.sC<=12:=by
 simp_all[y5,qH,decide_eq_true_eq]
theorem pB(ts m)(V:MdV ts m):qi qe 29 [eTS ts,eMd m] (aB true):=by
 have F:=V.f;have af:=V.ns;have an:=V.l0;have ao:=V.l1;have aq:=F.s1;have au:=F.s4;have av:=F.nf;have ag:=pA V.z;refine qSU call29 func29 rfl ?_;refine tS (qcB ts m.sc F V.z) (.zk (zp _) (.zk (zA _) .nil)) ?_;have n1:¬m.loop<0:=zOm;have n2:¬(m.sK.length:Int)<=m.loop:=zOm;simp[go_sem,af,n1];have n3:¬m.sc.sN<=m.loop:=zOm;simp[go_sem,n3];refine fR (YP m.sc F.g) (.zk (zA _) .nil) ?_;refine aK ts.sA.length (fun k T=>T.tm 2 = .ip (cTS ts)/\T.tm 3 = .ip (cMd m)/\T.tm 5=aI (sumI m.sc.sC)/\T.tm 44 = .lst false (ts.sA.map jY)/\T.tm 45=aI ts.sA.length/\T.tm 46=aI k) ?_ ?_
 .simp [go_sem, *]
 rintro k T hk ⟨P,I,R,a8,U,a0⟩;by_cases i:k<ts.sA.length
 .have w1:=zWk k
  simp[go_sem,P,a8,U,a0,i];refine tS (qtI ts m.sc F _ (qs i)) (.zk (zp _) (.zk (nV _) .nil)) ?_;simp_all[go_sem,aA]
 have J:k=ts.sA.length:=zOm;simp[go_sem,I,U,a0,J];refine aK m.sK.length (fun k T=>T.tm 2 = .ip (cTS ts)/\T.tm 3 = .ip (cMd m)/\T.tm 5=aI (sumI m.sc.sC)/\T.tm 56=lSt m.sK/\T.tm 57=aI m.sK.length/\T.tm 58=aI k) ?_ ?_
 .simp [go_sem, *]
 clear P I R a8 U a0 hk i J k T;rintro k T hk ⟨P,I,R,t,l,o⟩;by_cases i:k<m.sK.length
 .have w1:=zWk k
  have a9:=qs i;have aa:=V.len _ a9;simp[go_sem,P,t,l,o,i,aa];refine aK ts.sA.length (fun j T=>T.tm 2 = .ip (cTS ts)/\T.tm 3 = .ip (cMd m)/\T.tm 5=aI (sumI m.sc.sC)/\T.tm 56=lSt m.sK/\T.tm 57=aI m.sK.length/\T.tm 58=aI k/\T.tm 9=lRel m.sK[k]/\T.tm 69 = .lst false (ts.sA.map jY)/\T.tm 70=aI ts.sA.length/\T.tm 71=aI j) ?_ ?_
  .simp [go_sem, *]
  clear P I R t l o T;rintro j T hj ⟨P,I,R,t,l,o,e9,ab,a4,a5⟩;by_cases p:j<ts.sA.length
  .have w2:=zWk j
   have a6:j<m.sK[k].length:=zOm;have a7:0<m.sK.length:=zOm;have ad:j<m.sK[0].length:=by rw[V.len _ (qs a7)];exact p
   obtain⟨a1,a2,a3⟩:=V.ar _ a9 j a6 p;have ae:=V.fix k i a7 j a6 ad p;have C:=qs p;obtain⟨v1,l1⟩:=relT ts m.sc F ag _ C _ a1 a2 a3;have i2:=qcF ts m.sc F _ C _ l1 a3;have ah:=EW.Kk m.sc F.g (fun a ha=>(F.g.2 a ha).1) ts.sA[j].sS (F.fs _ C) (F.f1 _ C).1 (F.f1 _ C).2;have heq:=Ka m.sK[k][j] m.sK[0][j] zOm;generalize hr:m.sK[k][j]=r at *
   generalize ai:m.sK[0][j]=r0 at *
   simp[go_sem,e9,ab,a4,a5,p,a6,hr];have wr:WK (.agg [aI ts.sA[j].sS.length,lI r.ts]) (eRel r):=by rw[<-a1];exact .hf (qY r)
   have aj:WK (.agg [lI m.sc.sC,aI m.sc.sN]) (eSc m.sc) := .hf (zA _);generalize hX:T.mu.length=X at *
   refine cJ zKr ?_;have g0:∀ a b:Cell,(T.mu++[a,b])[X]?=some a:=fun a b=>by grind
   have g1:∀ a b:Cell,(T.mu++[a,b])[X+1]?=some b:=fun a b=>by grind
   simp[go_sem,R,hX,a1];refine tS v1 (.zs (.cons wr .nil)) ?_;simp[go_sem,I,hX];refine fR ah (.cons aj (.zk (zh _) .nil)) ?_;refine fR i2 (.cons wr (.zk (qY _) .nil)) ?_;refine cJ zKr ?_;cases hv:ts.sA[j].var with
   |true =>
    simp_all[go_sem,aA]
   |false =>
    have ak:=ae hv;simp[go_sem,I,hX,a7,ad,ai];refine tS heq (.cons wr (.zk (qY _) .nil)) ?_;rw[decide_eq_true ak];simp[go_sem,a5,p,w2];exact aA ⟨zS1 P,zS1 I,zS1 R,zS1 t,zS1 l,zS1 o,zS1 e9,zS1 ab,zS1 a4,zSi⟩
  .have al:j=ts.sA.length:=by omega
   simp[go_sem,o,a4,a5,al,w1]
   try refine⟨i,aA ?_⟩
   try refine aA ?_
   exact⟨zS1 P,zS1 I,zS1 R,zS1 t,zS1 l,zSi⟩
 .have J:k=m.sK.length:=by omega
  simp[go_sem,l,o,J];exact .zsc _
end GX
namespace HA
open P1 E1 GF GQ GR GS GU GW GX GZ
section
variable {g:List Bd}{ts:TS}
theorem qfQ(c s f b t):t∈(wd c s f b).ts↔t∈b.lo.ts\/((s:Int),(f:Int),t)∈c:=by
 unfold wd unR;rw[(Z6 _).2,qM,qfK]
theorem qfR(c s f b):sorted (wd c s f b).ts:=(Z6 _).1
theorem qfS{sc}(B:BndV ts sc g){i N c}(j:c.Sublist (chs i (qP g 0) N))(s f hf) :
  (∀ t,t∈g[f].lo.ts->t∈(wd c s f g[f]).ts)/\∀ t,t∈(wd c s f g[f]).ts->t∈g[f].up.ts:=by
 refine⟨fun t h=>(qfQ ..).2 (.inl h),fun t h=>?_⟩;rcases (qfQ ..).1 h with h|h
 .exact B.sub _ (qs hf) t h
 .obtain ⟨_,_,_,h⟩:=(qfL ..).1 (j.subset h)
  exact((qfO ..).1 h).1
theorem qfT{sc}(B:BndV ts sc g){i N c}(j:c.Sublist (chs i (qP g 0) N))(s f hf)(l:f<(vq i g c s).length) :
  (vq i g c s)[f].ar=g[f].lo.ar/\sorted (vq i g c s)[f].ts/\(∀ t,t∈g[f].lo.ts->t∈(vq i g c s)[f].ts)/\∀ t,t∈(vq i g c s)[f].ts->t∈g[f].up.ts:=by
 rw[Vp _ _ _ _ _ hf];split
 .exact ⟨rfl,qfR ..,qfS B j _ _ hf⟩
 .exact ⟨rfl,qfR ..,qfS B j _ _ hf⟩
theorem qfU{sc}(F:Fit9 ts sc)(z:y5 sc=true)(B:BndV ts sc g){N k:Nat}(J:sc.sN=N)(hk:k<N){c}(P:c.Sublist (chs (vsT ts) (qP g 0) N)):MdV ts (jQ sc (vsT ts) g c N k):=by
 have l:∀ s,s∈(jQ sc (vsT ts) g c N k).sK->∃ j,s=vq (vsT ts) g c j:=fun s o=>by
  obtain⟨j,_,rfl⟩:=qn.1 o;exact⟨j,rfl⟩
 have C:(jQ sc (vsT ts) g c N k).sK.length=N:=by simp[jQ]
 refine⟨F,z,by rw[C];exact J.symm,by simp[jQ],by rw[C];simp only[jQ];omega,fun s o=>?_,fun s o i h p=>?_,fun j h h0 i h1 h3 p R=>?_⟩
 .obtain ⟨j,rfl⟩:=l s o
  rw[Ji];exact B.len
 .obtain ⟨j,rfl⟩:=l s o
  have hf:i<g.length:=by rw[Ji]at h;exact h
  obtain⟨T,U,a3,a4⟩:=qfT B P j i hf h;exact⟨T.trans (B.lo i hf p).1,U,fun t ht=>B.full i hf p t (a4 t ht)⟩
 .have hf:i<g.length:=by rw[B.len];exact p
  have r:(vsT ts).getD i true=false:=by
   rw[zS];simp[p,R]
  simp only[jQ,List.getElem_map,List.getElem_range,Vp _ _ _ _ _ hf];by_cases I:j=0
  .subst I;rfl
  .rw [if_pos ⟨I,r⟩,if_neg zSp]
end
end HA
namespace HB
end HB
namespace HC
end HC
namespace HD
end HD
end Go.Proofs.YtipbakanneogpaaGreatDoor
