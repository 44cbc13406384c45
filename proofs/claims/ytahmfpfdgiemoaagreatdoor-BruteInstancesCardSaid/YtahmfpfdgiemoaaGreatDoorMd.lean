/-
  Own library, part 4: an abstract reading of values and a calculus over it; contracts of functions; plain lemmas.
-/
import Derived.Test.YtahmfpfdgiemoaaGreatDoorMc
set_option linter.unusedVariables false
set_option linter.unusedSimpArgs false
set_option maxRecDepth 100000
open Go renaming Program->qf,FuncId->us,Code->vn,TypeId->j1,Oper->wg,undef->va,Value->j3,World->j2
open Go.Proofs.Tryz renaming prog->qb
open List renaming getElem?_eq_some_iff->qe,mem_map->qk,range->qo,getElem_mem->qt,mem_cons->qu,getElem?_eq_getElem->qv,mem_append->qC,not_mem_nil->qD,getElem?_append_left->qI,all_eq_true->qJ,mem_cons_of_mem->qK,mem_singleton->qN,mem_cons_self->qR,getElem?_append_right->qT,length_append->qU,take_length->qX,mem_of_getElem?->qZ,getD_eq_getElem?_getD->q8,append_assoc->zc,map_append->zd,getElem?_map->zm,getElem?_set_self->zo,replicate->zp,length_cons->zq,drop_eq_getElem_cons->zD,length_map->zJ,take_of_length_le->zK,mem_range->yj,getElem?_eq_none->yC,cons_append->yD,getElem?_set_ne->yP,drop_length->yR,getElem?_take->y6,mem_filter->jg,ext_getElem?->jx,take_succ_eq_append_getElem->jF,mem_of_mem_take->vd,getElem?_toArray->vG,length_take->vH,flatMap_cons->wC,foldl_append->Qd,mem_flatMap->Qe,getElem?_range->YO
open Option.some renaming injEq->qj
open Nat renaming le_refl->qn,le_trans->zV,zero_add->yc,le_of_ble_eq_true->yi
open Bool renaming and_eq_true->qq
open Go.IntKind renaming i64->qs
open Option renaming map_some->qS,map_eq_some_iff->yQ
open Except.ok renaming injEq->jG
open Int renaming mul_le_mul->ve
namespace Go.Proofs.YtahmfpfdgiemoaaGreatDoor
open Go Go.Ev Go.Proofs Tryz
namespace EO
open YS
section
variable {C:Type}{s:AV}{K:AV->Mu->Prop}{l:List Int}{mu:Mu}{P:qf}
def FnOk(P:qf)(o:AV){C:Type}(enc:C->AV)(ok:C->Prop)(g:C->AV):Prop:=
 HF o/\∃ l first j,o = .fn (.func l) first j/\∀ x,ok x->∃ i,WKs (first++[enc x]++j) i/\qd P l i (g x)
theorem FnOk.call{o:AV}{enc:C->AV}{ok:C->Prop}{g:C->AV}(h:FnOk P o enc ok g){x:C}(p:ok x){det:Bool}{mu:Mu}{K r:AV->Mu->Prop}(k:K (g x) mu):qc P det mu o [enc x] K r:=by
 obtain⟨_,l,first,j,rfl,h⟩:=h;obtain⟨i,t,I⟩:=h x p;exact .inl ⟨g x,.inl ⟨l,first,j,i,rfl,I,.inl t⟩,k⟩
def qr:AV->Option Nat
 | .sl b _ _ _=>some b
 |_=>none
def OwnI(mu:Mu)(s:AV)(l:List Int):Prop:=(s = .lst true []/\l=[])\/∃ b,s = .sl b 1 0 l.length/\mu[b]?=some (.arr (l.map aI))
def OwnV(mu:Mu)(s:AV)(l:List Int):Prop:=(s = .lst true []/\l=[])\/∃ b cells,s = .sl b 1 0 l.length/\mu[b]?=some (.arr cells)/\l.length<=cells.length/\cells.take l.length=l.map aI
theorem OwnI.v(h:OwnI mu s l):OwnV mu s l:=by
 rcases h with h|⟨b,g,i⟩
 .exact .inl h
 .exact .inr ⟨b,_,g,i,zSp,by rw[zK zSp]⟩
theorem OwnV.one(h:OwnV mu s l):s.one=true:=by
 rcases h with ⟨rfl,_⟩|⟨b,c,rfl,_⟩<;>rfl
theorem OwnV.cells(h:OwnV mu s l):s.cells=[s]:=by
 rcases h with ⟨rfl,_⟩|⟨b,c,rfl,_⟩<;>rfl
theorem OwnV.same{g:Mu}(h:OwnV mu s l)(i:∀ b,qr s=some b->g[b]?=mu[b]?):OwnV g s l:=by
 rcases h with h|⟨b,c,rfl,j,o,p⟩
 .exact .inl h
 .exact .inr ⟨b,c,rfl,by rw[i b rfl];exact j,o,p⟩
theorem OwnI.same{g:Mu}(h:OwnI mu s l)(i:∀ b,qr s=some b->g[b]?=mu[b]?):OwnI g s l:=by
 rcases h with h|⟨b,rfl,j⟩
 .exact .inl h
 .exact .inr ⟨b,rfl,by rw[i b rfl];exact j⟩
theorem OwnV.lt(h:OwnV mu s l){b:Nat}(g:qr s=some b):b<mu.length:=by
 rcases h with ⟨rfl,_⟩|⟨j,c,rfl,i,_⟩
 .cases g
 .cases g;exact(qe.1 i).1
theorem OwnV.rd(h:OwnV mu s l):Rd mu s (lI l):=by
 rcases h with ⟨rfl,rfl⟩|⟨b,cells,rfl,p,t,o⟩
 .exact .wk _ true _ (.hf _ (HF.lst fun r C=>by simp at C))
 .refine .sl b 1 0 _ cells _ p (zUs t) zSp (fun x g=>by
   obtain⟨l,_,rfl⟩:=qk.1 g;rfl) (fun k x y g j=>?_)
  rw[yc]at g;rw[Qx,<-o,y6]at j;split at j
  .rw [g]at j;cases j
   have:x∈cells.take l.length:=by
    refine qZ (i:=k) ?_;rw[y6,if_pos (by assumption)];exact g
   rw[o]at this;obtain⟨z,_,rfl⟩:=qk.1 this;exact .zsc _
  .exact absurd j zSp
theorem qA.ownVs{t j e bt:Nat}{x:AV}{ys:List Int}{z:Int}(J:qz P t=some (e,1,bt))(o:(qz P j).isSome=true)(R:qx P e=some (aI z))
  (T:bt<=16384) (U:OwnV mu s l) (hx:qH mu x=some (ys.map rI)) (I:l.length+ys.length<=4294967296)
  (k:∀ av g,OwnI g av (l++ys)->(∀ i,i<mu.length->qr s≠some i->g[i]?=mu[i]?)->mu.length<=g.length->(∀ b,qr av=some b->b=mu.length)->K av g):qA P mu #[t,j] s x K:=by
 refine .inl ⟨t,j,e,1,bt,ys.map rI,rfl,J,o,⟨_,R,rfl,rfl⟩,zOm,T,hx,zU ys,?_⟩;rcases U with ⟨rfl,rfl⟩|⟨b,cells,rfl,hc,h1,h2⟩
 .refine .inl ⟨[],rfl,fun r hr=>by simp at hr,zUs I,fun h=>?_,fun h=>?_⟩
  .have:ys=[]:=by simpa using h
   subst this;exact k _ _ (.inl ⟨rfl,rfl⟩) (fun _ _ _=>rfl) (qn _) (fun _ h=>by cases h)
  .refine k _ _ (.inr ⟨mu.length,zSp,by simp[Qx]⟩) (fun i p _=>?_) zSp (fun b h=>by cases h;rfl)
   rw[qI p]
 .refine .inr ⟨b,l.length,cells,rfl,hc,zUs h1,zUs I,?_⟩
  have e1:cells.take (l.length*1)++(ys.map rI).flatten=(l++ys).map aI:=by rw[Nat.mul_one,h2,zd,Qx]
  have e2:l.length+(ys.map rI).length=(l++ys).length:=zSp;rw[e1,e2];refine k _ _ (.inr ⟨mu.length,rfl,?_⟩) (fun i p C=>?_) zSp (fun b h=>by cases h;rfl)
  .rw [qT zSp];simp
  .rw [qI (zUs p),yP (fun h=>C (by rw[h];rfl))]
theorem qA.ownV1{t p e bt:Nat}{x z:Int}(r:qz P t=some (e,1,bt))(o:(qz P p).isSome=true)(C:qx P e=some (aI z))
  (I:bt<=16384) (J:OwnV mu s l) (R:l.length+1<=4294967296)
  (k:∀ av g,OwnI g av (l++[x])->(∀ i,i<mu.length->qr s≠some i->g[i]?=mu[i]?)->mu.length<=g.length->(∀ b,qr av=some b->b=mu.length)->K av g):qA P mu #[t,p] s (.lst true [[aI x]]) K:=
 qA.ownVs (ys:=[x]) r o C I J rfl R k
theorem sumG(l:List Int)(P:l.length<=1000000)(I:∀ k,0<=sumI (l.take k)/\sumI (l.take k)<=1000000):qd qb 104 [lI l] (aI (sumI l)):=by
 refine qSU call104 func104 rfl ?_;refine qh.up l.length (fun k st=>st.tm 6=lI l/\st.tm 7=aI l.length/\st.tm 3=aI (sumI (l.take k))/\st.tm 8=aI k/\st.mu=[]) ?_ ?_
 .simp [go_sem,sumI]
 rintro k st R ⟨J,o,p,r,t⟩;by_cases g:k<l.length
 .have C:=uF l k g
  have i:=I (k+1);rw[C]at i;simp[go_sem,J,o,p,r,t,g];exact⟨by rw[C,zWr],zWr⟩
 .have j:k=l.length:=by omega
  subst j;simp[go_sem,o,p,r,t];exact .zsc _
theorem J0(sc:Sc)(g:GSc sc):qd qb 57 [eSc sc] (aI (sumI sc.atoms)):=by
 refine qSU call57 func57 rfl ?_;refine qc.zP (sumG _ (zV g.1 zOm) fun k=>zW1 (g.sum k)) (.zk (zf _) .nil) ?_;exact .zsc _
theorem qd6(sc:Sc)(g:GSc sc)(s:Nat)(i:s<=sc.atoms.length):qd qb 156 [eSc sc,aI s] (aI (sumI (sc.atoms.take s))):=by
 refine qSV call156 func156 rfl ?_;have j:WKs [.lst false ((sc.atoms.map rI).take s)] [lI (sc.atoms.take s)] := .cons (by rw[<-List.map_take];exact .hf (zf _)) .nil;simp[go_sem,i];refine⟨⟨_,_,⟨rfl,rfl⟩,(zU sc.atoms).ok⟩,?_⟩;refine qc.zP (sumG (sc.atoms.take s) (by simp;have:=g.1;omega) fun k=>by rw[List.take_take];have:=g.sum (min k s);omega) j ?_;exact .zsc _
def jO(p:C->Bool):List C->Int->Int
 | [],_ => -1
 |x :: l,i=>if p x=true then i else jO p l (i+1)
theorem kJ(p:C->Bool)(l:List C)(k:Nat)(i:Int)(h:k<l.length):jO p (l.drop k) i=if p l[k]=true then i else jO p (l.drop (k+1)) (i+1):=by
 rw[zD h,jO]
theorem U7(p:C->Bool):∀(l:List C) (i:Int),0<=i->decide (0<=jO p l i)=l.any p
 | [],i,h=>by simp[jO]
 |x :: l,i,h=>by
  rw[jO,List.any_cons];cases g:p x with
  |true=>simp[h]
  |false=>simpa using U7 p l (i+1) zOm
abbrev lB(xs:List Bool):AV := .lst false (xs.map fun b=>[aB b])
end
end EO
namespace F1
open E3
theorem Z7(l:List (List Rl)):HF (lSt l):=HF.lst fun r i c g=>by
 obtain⟨n,_,rfl⟩:=qk.1 i;simp at g;subst g;exact Z0 _
theorem qd7(m:Md):∀ c,c∈cMd m->HF c:=by
 intro c g;simp at g;rcases g with rfl|rfl|rfl|rfl
 .exact zf _
 .exact HF.sc _
 .exact Z7 _
 .exact HF.sc _
theorem Qz(m:Md):HF (eMd m):=HF.agg (qd7 m)
abbrev errV(e:Int):AV := .ifc 51 (aI e)
def endE:XE Rl->AEnd
 | .ok r => .ret (eRel r)
 | .error e => .pan (errV e)
def endN:XE Int->AEnd
 | .ok r => .ret (aI r)
 | .error e => .pan (errV e)
def endB:XE Bool->AEnd
 | .ok r => .ret (aB r)
 | .error e => .pan (errV e)
def end2:XE (Rl×Rl)->AEnd
 | .ok r => .ret (.tup [eRel r.1,eRel r.2])
 | .error e => .pan (errV e)
@[go_sem] theorem endE_ok(r:Rl):endE (.ok r) = .ret (eRel r):=rfl
@[go_sem] theorem endE_err(e:Int):endE (.error e) = .pan (errV e):=rfl
@[go_sem] theorem endN_ok(r:Int):endN (.ok r) = .ret (aI r):=rfl
@[go_sem] theorem endN_err(e:Int):endN (.error e) = .pan (errV e):=rfl
@[go_sem] theorem endB_ok(r:Bool):endB (.ok r) = .ret (aB r):=rfl
@[go_sem] theorem endB_err(e:Int):endB (.error e) = .pan (errV e):=rfl
@[go_sem] theorem end2_ok(r:Rl×Rl):end2 (.ok r) = .ret (.tup [eRel r.1,eRel r.2]):=rfl
@[go_sem] theorem end2_err(e:Int):end2 (.error e) = .pan (errV e):=rfl
theorem qd8(mu:Mu)(b:Nat)(e:Int)(g:mu[b]?=some (.arr [aI e])):jo qb 92 [.ptr b 0] mu none fun l=>l=mu:=by
 refine jo.of_awp call92 func92 rfl ⟨_,_,_,_,rfl⟩ (yi zKr) zKr zKr (pl:={}) ?_;simp[go_sem]
end F1
namespace EP
theorem keyI:KeyT qb 3 (fun n:Int=>aI n) (fun _=>True):=by
 refine⟨fun a b _ _=>?_,fun a _=>zSi⟩;simp[go_sem]
theorem uJ{C:Type}{l:List C}{n:Nat}(h:n<l.length):l.take (n+1)=l.take n++[l[n]]:=by rw[List.take_add_one,qv h];rfl
def cntK(f:Int->Int)(ts:List Int):List (Int×Int):=ts.foldl (fun m t=>setK (f t) ((getK (f t) m).getD 0+1) m) []
theorem kK(f:Int->Int)(ts:List Int)(t:Int):cntK f (ts++[t])=setK (f t) ((getK (f t) (cntK f ts)).getD 0+1) (cntK f ts):=by simp[cntK,Qd]
theorem J1(f:Int->Int)(ts:List Int):∀ n,n<=ts.length->∀ k:Int,0<=(getK k (cntK f (ts.take n))).getD 0/\(getK k (cntK f (ts.take n))).getD 0<=n/\(0<(getK k (cntK f (ts.take n))).getD 0↔∃ t,t∈ts.take n/\f t=k)
 | 0,_,k=>by simp[cntK,getK]
 |n+1,h,k=>by
  obtain⟨l,p,o⟩:=J1 f ts n zOm k;have j:n<ts.length:=zOm;obtain⟨g1,r,_⟩:=J1 f ts n zOm (f ts[n]);rw[uJ j,kK,v6];by_cases i:k=f ts[n]
  .rw [if_pos i]
   simp only[Option.getD_some];exact⟨zOm,zOm,fun _=>⟨ts[n],List.mem_append_right _ (qN.2 rfl),i.symm⟩,fun _=>zOm⟩
  .rw [if_neg i]
   refine⟨l,zOm,o.trans ⟨fun⟨t,g,e⟩=>⟨t,List.mem_append_left _ g,e⟩,fun⟨t,g,e⟩=>?_⟩⟩;rcases qC.1 g with g|g
   .exact ⟨t,g,e⟩
   .rw [qN]at g;subst g;exact absurd e.symm i
theorem qd9(f:Int->Int)(ts:List Int)(k:Int):0<=(getK k (cntK f ts)).getD 0/\(0<(getK k (cntK f ts)).getD 0↔∃ t,t∈ts/\f t=k):=by
 have:=J1 f ts ts.length (qn _) k;rw[qX]at this;exact⟨this.1,this.2.2⟩
end EP
namespace EQ
open E1 EJ EM EN EO
theorem qA.zeros{P:qf}{mu:Mu}{t g e bt n:Nat}{z:Int}{K:AV->Mu->Prop}(i:qz P t=some (e,1,bt))(j:P.underlying g=some (.int .i64))(l:qx P e=some (aI z))(o:bt<=16384)(p:0<n)(C:n<=4294967296)
  (k:∀ c:List AV,K (.sl mu.length 1 0 n) (mu++[.arr c])):qA P mu #[t,g] (.lst true []) (aI n) K:=
 .inr (.inr ⟨t,g,e,1,bt,_,n,[],rfl,i,j,l,rfl,rfl,zOm,o,rfl,p,rfl,fun r I=>by simp at I,zUs C,by simpa using k _⟩)
theorem growE(mu:Mu)(n:Nat)(I:n<=1000000):qL qb 152 [.lst true [],aI n] mu fun e m=>∃ av,e = .ret av/\OwnV m av []/\(∀ i,i<mu.length->m[i]?=mu[i]?)/\mu.length<=m.length/\∀ b,qr av=some b->mu.length<=b:=by
 refine qSW call152 func152 rfl {} ?_;have j:qs.wrap 0=0:=zWr;have o:qs.wrap (n:Int)=n:=zWr;have g:¬(n:Int)<0:=zOm;by_cases p:n=0
 .subst p
  simp[go_sem,j];exact⟨.inl ⟨rfl,rfl⟩,by simp[qr]⟩
 .have l:0<n:=by omega
  simp[go_sem,j,o,g,l];refine⟨⟨_,_,⟨rfl,rfl⟩,fun r t=>by simp at t⟩,?_⟩;refine qA.zeros (e:=3) (bt:=8) (z:=0) zSi zSi zSi zOm l zOm ?_;intro c;simp[go_sem];refine⟨.inr ⟨mu.length,c,rfl,zSp,zSp,zSp⟩,fun i C=>by rw[qI C],by simp[qr]⟩
theorem qeA(mu:Mu)(a b:List Int)(ha:a.length<=100000)(hb:b.length<=100000):qL qb 97 [.lst true [[lI a],[lI b]]] mu fun e m=>∃ av,e = .ret av/\OwnI m av (a++b)/\(∀ i,i<mu.length->m[i]?=mu[i]?)/\mu.length<=m.length/\∀ x,qr av=some x->mu.length<=x:=by
 refine qSW call97 func97 rfl {} ?_;have v1:qs.wrap 1=1:=zWr;have v2:qs.wrap 2=2:=zWr;simp[go_sem];have n0:¬((a.length:Int)+b.length)<0:=zOm;refine qh.up 2 (fun k st=>st.tm 0 = .lst true [[lI a],[lI b]]/\st.tm 3=aI ((if 0<k then (a.length:Int) else 0)+(if 1<k then (b.length:Int) else 0))/\st.tm 9 = .lst true [[lI a],[lI b]]/\st.tm 10=aI 2/\st.tm 11=aI k/\st.mu=mu) ?_ ?_
 .simp [go_sem]
 rintro k st hk ⟨T,U,e9,C,I,hm⟩;by_cases a0:k<2
 .have:k=0\/k=1:=by omega
  rcases this with rfl|rfl
  .have w1:qs.wrap (a.length:Int)=a.length:=zWr
   have n1:¬(a.length:Int)<0:=zOm;simp[go_sem,T,U,e9,C,I,hm,w1,n1,v1]
  .have w1:qs.wrap ((a.length:Int)+b.length)=a.length+b.length:=zWr
   simp[go_sem,T,U,e9,C,I,hm,w1,n0,v2]
 .have:k=2:=by omega
  subst this;have g:=growE mu (a.length+b.length) zOm;simp[go_sem,U,C,I,hm];refine qc.eff0 (zUs g) ?_ ?_
  .rintro r m ⟨av,h,t,R,hl,o⟩
   cases h;simp[go_sem,T];refine qh.up 2 (fun k st=>st.tm 25 = .lst true [[lI a],[lI b]]/\st.tm 26=aI 2/\st.tm 27=aI k/\(if k=0 then OwnV st.mu (st.tm 6) [] else OwnI st.mu (st.tm 6) (if k=1 then a else a++b))/\(∀ i,i<mu.length->st.mu[i]?=mu[i]?)/\mu.length<=st.mu.length/\∀ x,qr (st.tm 6)=some x->mu.length<=x) ?_ ?_
   .simp [go_sem]
    exact⟨t,R,hl,o⟩
   rintro k a4 hk ⟨f25,f26,f27,t,R,hl,o⟩;by_cases a0:k<2
   .have:k=0\/k=1:=by omega
    rcases this with rfl|rfl
    .rw [if_pos rfl]at t
     simp[go_sem,f25,f26,f27];refine qA.ownVs (e:=3) (bt:=8) (z:=0) (l:=[]) (ys:=a) zSi zSi zSi zOm t (by simp[qH]) zSo ?_;intro a1 a2 p J a3 P;simp at p;simp[go_sem,f25,f26,f27,v1];refine⟨p,fun i hi=>?_,zOm,fun x hx=>?_⟩
     .rw [J i zOm (fun e=>zW1 (o i e))];exact R i hi
     .have:=P x hx;omega
    .rw [zIn,if_pos rfl]at t
     simp[go_sem,f25,f26,f27];refine qA.ownVs (e:=3) (bt:=8) (z:=0) (l:=a) (ys:=b) zSi zSi zSi zOm t.v (by simp[qH]) zOm ?_;intro a1 a2 p J a3 P;simp[go_sem,f25,f26,f27,v2];refine⟨p,fun i hi=>?_,zOm,fun x hx=>?_⟩
     .rw [J i zOm (fun e=>zW1 (o i e))];exact R i hi
     .have:=P x hx;omega
   .have:k=2:=by omega
    subst this;rw[zIn,zIn]at t;simp[go_sem,f26,f27];exact⟨t,R,hl,o⟩
  .rintro r m ⟨av,h,_⟩
   cases h
theorem qeB(mu:Mu):qL qb 150 [.lst true []] mu fun e m=>e = .ret (.tup [])/\m=mu:=by
 refine⟨call150,fun G w o s g=>?_⟩;obtain⟨v,rfl,i⟩:=g.one_inv;obtain⟨p,cap,rfl⟩:∃ p cap,v = .slice p 0 cap:=by cases i<;>exact⟨_,_,rfl⟩
 refine(Tryz.slices_Sort_int_none p cap w).mono fun e r ⟨j,l⟩=>?_
 subst l;exact⟨G,mu,.refl s,.inl ⟨_,_,⟨rfl,rfl⟩,j,.tup [] #[] rfl zSp⟩⟩
theorem sortA(mu:Mu)(av:AV)(l:List Int)(r:l.length<=1000000)(j:OwnI mu av l):qL qb 150 [av] mu fun e m=>e = .ret (.tup [])/\OwnI m av (srtI l)/\(∀ i,qr av≠some i->m[i]?=mu[i]?)/\m.length=mu.length:=by
 rcases j with ⟨rfl,rfl⟩|⟨b,rfl,g⟩
 .refine (qeB mu).monoR ?_
  rintro e m ⟨rfl,rfl⟩;exact⟨rfl,.inl ⟨rfl,by simp[srtI]⟩,fun _ _=>rfl,rfl⟩
 .refine (sortE g zOm).monoR ?_
  rintro e m ⟨rfl,rfl⟩;have o:b<mu.length:=(qe.1 g).1;exact⟨rfl,.inr ⟨b,by rw[Z5],by rw[zo o]⟩,fun i p=>by rw[yP (fun e=>p (by rw[e];rfl))],zSp⟩
theorem qeC(mu:Mu)(av:AV)(l:List Int)(o:l.length<=1000000)(p:OwnI mu av l):qL qb 151 [av] mu fun e m=>∃ x,e = .ret x/\OwnV m x (cmpc eqI l)/\(∀ i,qr av≠some i->m[i]?=mu[i]?)/\m.length=mu.length/\∀ b,qr x=some b->qr av=some b:=by
 rcases p with ⟨rfl,rfl⟩|⟨b,rfl,g⟩
 .refine qSW call151 func151 rfl {} ?_
  simp[go_sem];exact .inl ⟨rfl,rfl⟩
 .refine (qd1 mu b l o g).monoR ?_
  rintro e m ⟨cells,rfl,rfl,I,j⟩;have r:b<mu.length:=(qe.1 g).1;refine⟨_,rfl,.inr ⟨b,cells,rfl,by rw[zo r],?_,j⟩,fun i t=>by rw[yP (fun e=>t (by rw[e];rfl))],zSp,fun x C=>C⟩;have:=congrArg List.length j;simp at this;omega
theorem qeD(mu:Mu)(ar:Int)(av:AV)(l:List Int)(hl:l.length<=1000000)(I:OwnI mu av l):qL qb 96 [aI ar,av] mu fun e m=>∃ x,e = .ret (.agg [aI ar,x])/\OwnV m x (ofL l)/\(∀ i,i<mu.length->qr av≠some i->m[i]?=mu[i]?)/\mu.length<=m.length/\∀ b,qr x=some b->qr av=some b:=by
 refine qSW call96 func96 rfl {} ?_;have J:OwnI (mu++[.arr [aI 0,.lst true []]]) av l:=I.same fun b P=>by rw[qI (I.v.lt P)]
 have j:qr av≠some mu.length:=fun h=>zW1 (I.v.lt h)
 simp[go_sem];refine qc.eff0 (sortA _ av l hl J) ?_ ?_
 .rintro r m ⟨h,R,o,T⟩
  cases h;have a0:m.length=mu.length+1:=zUs T;simp[go_sem];refine qc.eff0 (qeC _ av _ (by rw[Z5];exact hl) R) ?_ ?_
  .rintro r U ⟨x,h,g,p,a1,t⟩
   cases h;rw[qdZ]at g;have hc:U[mu.length]?=some (.arr [aI 0,.lst true []]):=by rw[p _ j,o _ j];simp
   have C:∀ c,(U.set mu.length c)[mu.length]?=some c:=fun c=>zo zOm
   have hx:qr r≠some mu.length:=fun h=>j (t _ h)
   simp[go_sem,hc,C,g.one,g.cells];refine⟨?_,fun i hi hn=>?_,zOm,t⟩
   .exact g.same fun b P=>by rw[yP (fun e=>hx (by rw[e];exact P))]
   .rw [zGl,p i hn,o i hn,qI hi]
  .rintro r U ⟨x,h,_⟩
   cases h
 .rintro r m ⟨h,_⟩
  cases h
theorem OwnV.rdRel{mu:Mu}{j:Int}{av:AV}{l:List Int}(h:OwnV mu av l):Rd mu (.agg [aI j,av]) (eRel ⟨j,l⟩):=by
 refine .agg _ _ rfl fun k u v g i=>?_
 match k with
 | 0=>simp at g i;subst g;subst i;exact .zsc _
 | 1=>simp at g i;subst g;subst i;exact h.rd
 |k+2=>simp at g
theorem vo(a b:Rl)(R:a.ts.length<=100000)(l:b.ts.length<=100000):qd qb 53 [eRel a,eRel b] (eRel (unR a b)):=by
 refine qSU call53 func53 rfl ?_;refine qg.seg [0,1,2,3,4,5,6,7,8,9] [(0,0,[]),(1,0,[]),(2,0,[]),(3,0,[]),(4,0,[]),(5,0,[]),(6,0,[]),(7,1,[1]),(8,1,[]),(9,1,[])] zKr zKr zSi ?_;simp[go_sem];refine qc.eff0 (qeA _ a.ts b.ts R l) ?_ ?_
 .rintro r m ⟨P,h,T,U,hl,o⟩
  cases h;have p:=U 0 zSp;simp at p;have g:qr r≠some 0:=fun h=>by have:=o 0 h;simp at this
  simp[go_sem];refine qc.eff0 (qeD m a.ar r _ zSo T) ?_ ?_
  .rintro r J ⟨x,h,i,t,a0,C⟩
   cases h;have I:=t 0 (qe.1 p).1 g;rw[p]at I;have j:∀ c,(J.set 0 c)[0]?=some c:=fun c=>zo (qe.1 I).1
   have hx:qr x≠some 0:=fun h=>g (C _ h)
   simp[go_sem,I,j,i.one];refine OwnV.rdRel ?_;exact i.same fun b l=>by rw[yP (fun e=>hx (by rw[e];exact l))]
  .rintro r J ⟨x,h,_⟩
   cases h
 .rintro r m ⟨x,h,_⟩
  cases h
end EQ
namespace ER
open E1 EO EP EQ
theorem keepU(l:List Int)(r:AV)(p:Int->Bool)(hf:FnOk qb r (fun x:Int=>aI x) (·∈l) (fun x=>aB (p x)))(hl:l.length<=1000000):qd qb 100 [lI l,r] (lI (l.filter p)):=by
 refine qSU call100 func100 rfl ?_;refine qh.keep (fun m st=>∃ k,m=l.length-k/\k<=l.length/\st.tm 1=r/\st.tm 8=lI l/\st.tm 9=aI l.length/\st.tm 10=aI (k:Nat)/\OwnI st.mu (st.tm 5) ((l.take k).filter p)) l.length ?_ ?_
 .exact ⟨0,zOm,zOm,zSi,zSi,zSi,zSi,.inl ⟨zSi,rfl⟩⟩
 rintro m st ⟨k,rfl,hk,t,C,j,g,o⟩;by_cases i:k<l.length
 .have T:=zWk k
  have U:((l.take k).filter p).length<=k:=zV (List.length_filter_le _ _) zSo;simp[go_sem,t,C,j,g,i];refine FnOk.call (enc:=fun x:Int=>aI x) hf (qt i) ?_;cases hp:p l[k] with
  |true =>
   have I:(l.take (k+1)).filter p=(l.take k).filter p++[l[k]]:=by rw[uJ i,List.filter_append];simp[hp]
   simp[go_sem];refine qA.ownV1 (e:=3) (bt:=8) (z:=0) (l:=(l.take k).filter p) zSi zSi zSi zOm o.v zOm ?_;intro P a1 J _ _ _;simp[go_sem,g,T];refine Keep.loop (l.length-(k+1)) zOm ⟨k+1,rfl,zOm,zS1 t,zS1 C,zS1 j,zSi,?_⟩;rw[I];simpa[go_sem] using J
  |false =>
   have I:(l.take (k+1)).filter p=(l.take k).filter p:=by rw[uJ i,List.filter_append];simp[hp]
   simp[go_sem,g,T];refine Keep.loop (l.length-(k+1)) zOm ⟨k+1,rfl,zOm,zS1 t,zS1 C,zS1 j,zSi,?_⟩;rw[I];simpa[go_sem] using o
 .have R:k=l.length:=by omega
  subst R;rw[qX]at o;simp[go_sem,j,g];exact o.v.rd
theorem sameU(x:Int):qd qb 99 [aI x] (aI x):=by
 refine qSU call99 func99 rfl ?_;exact .zsc _
abbrev imC(l:List (Int×Int)):AV := .im (encK (fun n:Int=>aI n) (fun n:Int=>aI n) l)
theorem U8(l:List (Int×Int)):HF (imC l):=HF.im fun p g=>by
 obtain⟨q,_,rfl⟩:=qk.1 g;exact⟨HF.sc _,HF.sc _⟩
theorem setU(r:Rl)(fv:AV)(f:Int->Int)(hf:FnOk qb fv (fun x:Int=>aI x) (·∈r.ts) (fun x=>aI (f x)))(hl:r.ts.length<=1000000):qd qb 98 [eRel r,fv] (imC (cntK f r.ts)):=by
 refine qSU call98 func98 rfl ?_;obtain⟨B,hB⟩:∃ B,B=AV.mp 0:=⟨_,rfl⟩;refine qh.up r.ts.length (fun k st=>st.tm 1=fv/\st.tm 5=B/\st.tm 10=lI r.ts/\st.tm 11=aI r.ts.length/\st.tm 12=aI k/\st.mu[0]?=some (.mp (encK (fun n:Int=>aI n) (fun n:Int=>aI n) (cntK f (r.ts.take k))))) ?_ ?_
 .simp [go_sem,cntK,encK,hB]
 rintro k st hk ⟨e1,e5,p,j,l,C⟩;by_cases g:k<r.ts.length
 .have w1:=zWk k
  obtain⟨c1,c2,_⟩:=J1 f r.ts k zOm (f r.ts[k]);have hs:=kK f (r.ts.take k) r.ts[k];rw[<-uJ g]at hs;have a0:=keyI.look (et:=3) (t:=172) zSi (mu:=st.mu) (m := .mp 0) (venc:=fun n:Int=>aI n) (es:=cntK f (r.ts.take k)) (by simp only[jz,C]) (k:=f r.ts[k]) trivial (fun _ _=>trivial) (z:=aI 0) zSi false;have o:yG qb st.mu 172 B (aI (f r.ts[k])) false=some (aI ((getK (f r.ts[k]) (cntK f (r.ts.take k))).getD 0)):=by
   rw[hB];refine Eq.trans a0 ?_;cases getK (f r.ts[k]) (cntK f (r.ts.take k))<;>rfl
  have i:vM qb st.mu 172 (.mp 0) (aI (f r.ts[k])) (aI ((getK (f r.ts[k]) (cntK f (r.ts.take k))).getD 0+1))=_:=keyI.update (et:=3) (t:=172) zSi (mu:=st.mu) (b:=0) (venc:=fun n:Int=>aI n) (es:=cntK f (r.ts.take k)) C (k:=f r.ts[k]) (v:=(getK (f r.ts[k]) (cntK f (r.ts.take k))).getD 0+1) trivial (fun _ _=>trivial);rw[<-hs,<-hB]at i;have P:0<st.mu.length:=(qe.1 C).1;generalize (getK (f r.ts[k]) (cntK f (r.ts.take k))).getD 0=c at *
  have w2:qs.wrap (c+1)=c+1:=zWr;simp[go_sem,e1,e5,p,j,l,g];refine FnOk.call (enc:=fun x:Int=>aI x) hf (qt g) ?_;simp[go_sem,o,w2];subst hB;refine OptK.intro _ i ?_;simp[go_sem,e1,e5,p,j,l,g,w1,P]
 .have a1:k=r.ts.length:=by omega
  subst a1;rw[qX]at C;simp[go_sem,e5,j,l];rw[hB];exact .mp 0 _ _ C rfl (fun k x y R U=>by rw[R]at U;cases U;obtain⟨q,_,e⟩:=qk.1 (qZ R);rw[<-e];exact .zsc _) (fun k x y R U=>by rw[R]at U;cases U;obtain⟨q,_,e⟩:=qk.1 (qZ R);rw[<-e];exact .zsc _)
theorem FnOk.same(ok:Int->Prop):FnOk qb (.fn (.func 99) [] []) (fun x:Int=>aI x) ok (fun x=>aI x):=
 ⟨HF.fn zSp zSp,_,[],[],rfl,fun x _=>⟨_,.zs .nil,sameU x⟩⟩
theorem lookC(mu:Mu)(f:Int->Int)(ts:List Int)(k:Int):yG qb mu 172 (imC (cntK f ts)) (aI k) false=some (aI ((getK k (cntK f ts)).getD 0)):=by
 have:=keyI.look (et:=3) (t:=172) zSi (mu:=mu) (m:=imC (cntK f ts)) (venc:=fun n:Int=>aI n) (es:=cntK f ts) rfl (k:=k) trivial (fun _ _=>trivial) (z:=aI 0) zSi false;simp only[yG];refine Eq.trans this ?_;cases getK k (cntK f ts)<;>rfl
theorem qeE(f:Int->Int)(ts:List Int)(x:Int):qd qb 153 [aI x,.ip [imC (cntK f ts)]] (aB (decide ((getK x (cntK f ts)).getD 0=0))):=by
 refine qSV call153 func153 rfl ?_;have g:=fun I=>lookC I f ts x
 generalize imC (cntK f ts)=B at *
 simp[go_sem,g];exact .zsc _
theorem w6{x:AV}(h:HF x):HF (.ip [x]):=HF.ip fun c g=>by simp at g;subst g;exact h
theorem qeF(ts:List Int)(x:Int):(0<(getK x (cntK (fun x=>x) ts)).getD 0↔x∈ts)/\((getK x (cntK (fun x=>x) ts)).getD 0=0↔¬x∈ts):=by
 obtain⟨l,g⟩:=qd9 (fun x=>x) ts x;have i:(∃ t,t∈ts/\t=x)↔x∈ts:=⟨fun⟨t,j,e⟩=>e ▸ j,fun h=>⟨x,h,rfl⟩⟩;rw[i]at g;exact⟨g,by rw[<-g];omega⟩
theorem Rd.ip1{mu:Mu}{b:Nat}{x y:AV}(j:mu[b]?=some (.arr [x]))(h:Rd mu x y):Rd mu (.ptr b 0) (.ip [y]):=by
 refine .ptr b 0 [x] [y] j zSp fun k u v i g=>?_
 match k with
 | 0=>simp at i g;subst i;subst g;exact h
 |k+1=>simp at g
theorem diffU(a b:Rl)(o:a.ts.length<=1000000)(p:b.ts.length<=1000000):qd qb 102 [eRel a,eRel b] (eRel (diR a b)):=by
 refine qSV call102 func102 rfl ?_;have r:=setU b _ _ (FnOk.same (·∈b.ts)) p;have C:=keepU a.ts (.fn (.func 153) [] [.ip [imC (cntK (fun x=>x) b.ts)]]) (fun t=>decide (¬t∈b.ts)) ⟨HF.fn zSp (by simp;exact w6 (U8 _)),_,[],_,rfl,fun x _=>⟨_,.zs (.zk (w6 (U8 _)) .nil),by have:=qeE (fun x=>x) b.ts x;simp only[(qeF b.ts x).2]at this;exact this⟩⟩ o;have I:WKs [eRel b,.fn (.func 99) [] []] [eRel b,.fn (.func 99) [] []] := .zk (zZ b) (.zk (HF.fn zSp zSp) .nil);have g:=U8 (cntK (fun x=>x) b.ts);have i:(imC (cntK (fun x=>x) b.ts)).cells=[imC (cntK (fun x=>x) b.ts)]:=rfl;have j:(imC (cntK (fun x=>x) b.ts)).one=true:=rfl;generalize imC (cntK (fun x=>x) b.ts)=B at *
 have l:WKs [lI a.ts,.fn (.func 153) [] [.ip [B]]] [lI a.ts,.fn (.func 153) [] [.ip [B]]] := .zk (zf _) (.zk (HF.fn zSp (by simp;exact w6 g)) .nil);simp[go_sem];refine qc.pure r I ?_;simp[go_sem,i,j];refine qg.fz (FzQ.one (d:=5) (b:=1) (x := .ip [B]) (Rd.ip1 rfl (.hf _ g)) ?_);simp[go_sem,cutM];refine qg.zI ?_;refine qc.zP C l ?_;have e:diR a b=⟨a.ar,a.ts.filter fun t=>!decide (t∈b.ts)⟩:=by simp[diR]
 have h:=zZ (diR a b);rw[e]at h⊢;exact .hf _ h
theorem inU(a b:Rl)(g:a.ts.length<=1000000)(i:b.ts.length<=1000000):qd qb 55 [eRel a,eRel b] (aB (decide ((diR a b).ts=[]))):=by
 refine qSU call55 func55 rfl ?_;refine qc.zP (diffU a b g i) (.zk (zZ a) (.zk (zZ b) .nil)) ?_;exact .zsc _
end ER
namespace E2
open E1
theorem qeG{n k:Int}(g:0<=k)(i:k<=3):powI n k=n ^ k.toNat:=by
 unfold powI powN;congr 1;omega
theorem qeH(n:Int):powI n 1=n:=by rw[qeG zOm zOm];exact Int.pow_succ n 0 ▸ by simp
theorem GR.one{n a:Int}(i:0<=a)(j:a<n):GR n ⟨1,[a]⟩:=
 ⟨by show (1:Int)<=1;omega,by show (1:Int)<=3;omega,fun t g=>by rw[qN]at g;subst g;show _/\_<powI n 1;rw[qeH];exact⟨i,j⟩,List.pairwise_singleton _ _⟩
end E2
namespace ET
open EO
def RelM(mu:Mu)(g:Int)(l:List Int):Prop:=∃ P,mu[0]?=some (.arr [aI 0,.lst true []])/\mu[1]?=some (.arr [aI g,P])/\OwnI mu P l/\qr P≠some 0/\qr P≠some 1
theorem RelM.step{mu j:Mu}{o:Int}{av g:AV}{l:List Int}(J:mu[0]?=some (.arr [aI 0,.lst true []]))(r:mu[1]?=some (.arr [aI o,av]))(P:qr av≠some 0)(R:qr av≠some 1)(T:OwnI j g l)
  (t:∀ i,i<mu.length->qr av≠some i->j[i]?=mu[i]?) (hl:mu.length<=j.length) (C:∀ b,qr g=some b->b=mu.length):j[1]?=some (.arr [aI o,av])/\RelM (j.set 1 (.arr [aI o,g])) o l:=by
 have U:1<mu.length:=(qe.1 r).1;have m0:qr g≠some 0:=fun e=>zW1 (C 0 e)
 have I:qr g≠some 1:=fun e=>zW1 (C 1 e)
 refine⟨by rw[t 1 U R];exact r,g,by rw[zGl,t 0 zOm P];exact J,by rw[zo zOm],T.same fun b p=>?_,m0,I⟩;rw[yP (fun e=>I (by rw[e];exact p))]
end ET
namespace EW
open EO EP EQ ER ET
inductive TagM (p:Mu->Prop):Type where
 |mk:TagM p
def uK(p:Mu->Prop)(_:TagM p)(mu:Mu):Prop:=p mu
theorem uK.intro{p:Mu->Prop}{mu:Mu}(h:p mu):uK p .mk mu:=h
theorem vR.keep{P:qf}{pl:Pol}{l:us}{caps:List AV}{ps:Array Tmp}{g body:vn}{Q:qM->St->Prop}{st:St}{rows:List (List AV)}(j:jl P l caps rows)(I:Nat->Mu->Prop)(i:qM->Mu->Prop)
  (o:I 0 (st.mu++[.dead])) (p:∀ k mu,I k mu->I k (mu++[.dead])) (r:∀ e mu,i e mu->i e (mu++[.dead]))
  (t:∀ k x mu,rows[k]?=some x->I k mu->x.length=ps.size/\awp P pl g (asQ (fun st=>awp P pl body (rndQ (fun k=>uK (I k) .mk) (fun e=>uK (i e) .mk) k) st)) ⟨vh st.tm ps.toList x,mu⟩)
  (C:∀ mu,I rows.length mu->Q .normal ⟨st.tm,mu⟩) (J:∀ e mu,i e mu->Q e ⟨st.tm,mu⟩):vR P pl (.fn (.func l) [] caps) ps g body Q st:=
 vR.intro j I i o p r t C J
abbrev tupCl(sc:Sc)(p:Int)(l:List Int):AV := .fn (.func 155) [] [.ip [lI l],.ip [aI p],.ip [lI sc.atoms,aI sc.steps]]
theorem kL(sc:Sc)(p:Int)(l:List Int):qd qb 108 [eSc sc,aI p,lI l] (tupCl sc p l):=by
 refine qSU call108 func108 rfl ?_;refine .hf _ (HF.fn (fun c g=>by simp at g) (fun c g=>?_));simp at g;rcases g with rfl|rfl|rfl
 .exact w6 (zf _)
 .exact w6 (HF.sc _)
 .exact HF.ip fun c g=>by simp at g;rcases g with rfl|rfl<;>first|exact zf _|exact HF.sc _
def tupR(sc:Sc):List Int->Int->List Int
 | [],p=>[p]
 |s :: l,p=>(qo (gI sc.atoms s.toNat).toNat).flatMap fun k:Nat=>tupR sc l (p*sumI sc.atoms+(sumI (sc.atoms.take s.toNat)+k))
@[go_sem] theorem yl_cells(i:Nat):(AV.yl i).cells=[.yl i]:=rfl
@[go_sem] theorem yl_one(i:Nat):(AV.yl i).one=true:=rfl
theorem qeI(sc:Sc)(p:Int):jl qb 155 [.ip [lI []],.ip [aI p],.ip [lI sc.atoms,aI sc.steps]] [[aI p]]:=by
 refine jl.of call155 fun i I C J P o r t=>?_
 refine qSW call155 func155 rfl {} ?_;simp[go_sem];refine qc.yield (o 0 [aI p] r rfl t) ?_;rintro b l (⟨rfl,g⟩|⟨rfl,j⟩)
 .simp [go_sem]
  exact .inl g
 .simp [go_sem]
  exact .inr j
theorem qeJ{i r:Nat}(h:i<r):∃ l,qo r=qo i++i :: l:=by
 refine⟨(qo r).drop (i+1),?_⟩;apply jx;intro j;by_cases g:j<i
 .rw [qI (zUs g),YO g,YO zOm]
 .rw [qT zSo,List.length_range]
  by_cases e:j=i
  .subst e;simp[h]
  .obtain ⟨d,o⟩:∃ d,j-i=d+1:=⟨j-i-1,zOm⟩
   rw[o,List.getElem?_cons_succ,List.getElem?_drop];congr 1;omega
theorem qeK{C:Type}(f:Nat->List C){N k j:Nat}{x:C}(g:k<N)(h:(f k)[j]?=some x):((qo N).flatMap f)[((qo k).flatMap f).length+j]?=some x:=by
 obtain⟨l,e⟩:=qeJ g;rw[e,List.flatMap_append,qT zOm,Nat.add_sub_cancel_left,wC,qI (qe.1 h).1];exact h
theorem Z8{C:Type}(f:Nat->List C)(k:Nat):(qo (k+1)).flatMap f=(qo k).flatMap f++f k:=by
 rw[List.range_succ,List.flatMap_append];simp
theorem qeL(sc:Sc)(g:GSc sc)(hA:∀ a,a∈sc.atoms->0<=a)(s:Nat)(C:s<sc.atoms.length)(l:List Int)(hl:l.length<=10)(p:Int)(hp:0<=p/\p<=1000000)
  (ih:∀ k:Nat,k<(gI sc.atoms s).toNat->jl qb 155 [.ip [lI l],.ip [aI (p*sumI sc.atoms+(sumI (sc.atoms.take s)+k))],.ip [lI sc.atoms,aI sc.steps]] ((tupR sc l (p*sumI sc.atoms+(sumI (sc.atoms.take s)+k))).map fun t=>[aI t])) :
  jl qb 155 [.ip [lI (s :: l)],.ip [aI p],.ip [lI sc.atoms,aI sc.steps]] ((tupR sc (s :: l) p).map fun t=>[aI t]):=by
 refine jl.of call155 fun i I Ix hS hX hY mu h0=>?_
 refine qSW call155 func155 rfl {} ?_;have hz:¬(l.length:Int)+1=0:=zOm;have a0:=qd6 sc g s zOm;have a1:WKs [eSc sc,aI s] [eSc sc,aI s] := .zk (zx sc) (.zs .nil);obtain⟨s0,s1⟩:=g.sum s;obtain⟨t0,t1⟩:=g.sum sc.atoms.length;rw[qX]at t0 t1;have J:gI sc.atoms s=sc.atoms[s]:=vV C;have ae:=hA _ (qt C);obtain⟨u0,u1⟩:=g.sum (s+1);rw[uF _ _ C]at u1;have a2:=J0 sc g;have a3:WKs [eSc sc] [eSc sc] := .zk (zx sc) .nil;have o:tupR sc (s :: l) p=(qo (sc.atoms[s]).toNat).flatMap fun k:Nat=>tupR sc l (p*sumI sc.atoms+(sumI (sc.atoms.take s)+k)):=by
  rw[tupR,show (s:Int).toNat=s by omega,J]
 rw[J]at ih;obtain⟨m0,m1⟩:0<=p*sumI sc.atoms/\p*sumI sc.atoms<=1000000*20:=⟨Int.mul_nonneg hp.1 t0,ve hp.2 t1 t0 zOm⟩;have w2:qs.wrap (p*sumI sc.atoms)=p*sumI sc.atoms:=zWr;have w3:qs.wrap (sumI (sc.atoms.take s)+sc.atoms[s])=sumI (sc.atoms.take s)+sc.atoms[s]:=zWr;generalize hF:(fun k:Nat=>tupR sc l (p*sumI sc.atoms+(sumI (sc.atoms.take s)+k)))=F at *
 have a4:∀ k:Nat,tupR sc l (p*sumI sc.atoms+(sumI (sc.atoms.take s)+k))=F k:=fun k=>by rw[<-hF]
 simp only[a4]at ih;simp[go_sem,hz];refine qg.zI ?_;refine qc.pure a0 a1 ?_;generalize hn:sumI sc.atoms=n at *
 generalize hf:sumI (sc.atoms.take s)=f at *
 simp[go_sem];refine qh.keep (fun m st=>∃ k,m=(sc.atoms[s]).toNat-k/\k<=(sc.atoms[s]).toNat/\st.tm 1 = .ip [lI (s :: l)]/\st.tm 2 = .ip [aI p]/\st.tm 3 = .ip [lI sc.atoms,aI sc.steps]/\st.tm 4 = .ip [.yl i]/\st.tm 5=aI f/\st.tm 6=aI (f+(k:Nat))/\I ((qo k).flatMap F).length st.mu) (sc.atoms[s]).toNat ?_ ?_
 .exact ⟨0,zOm,zOm,zSi,zSi,zSi,zSi,zSi,zSi,zVs h0⟩
 rintro m st ⟨k,rfl,hk,T,e2,U,e4,e5,e6,hI⟩;simp[go_sem];refine qg.intro zKr ?_;by_cases P:k<(sc.atoms[s]).toNat
 .have hb:f+(k:Int)<f+sc.atoms[s]:=by omega
  have w4:qs.wrap (p*n+(f+k))=p*n+(f+k):=zWr;have w5:qs.wrap (f+(k:Int)+1)=f+((k+1:Nat):Int):=by rw[zWr];omega
  have R:WKs [eSc sc,aI (p*n+(f+k)),.lst false (l.map rI)] [eSc sc,aI (p*n+(f+k)),lI l] := .zk (zx sc) (.zs (.zk (zf l) .nil));have a5:=kL sc (p*n+(f+k)) l;simp[go_sem,T,U,e5,e6,C,w3,hb];refine qg.intro zKr ?_;simp[go_sem,e2,U];refine qc.pure a2 a3 ?_;have a6:(1:Int)<=l.length+1:=zOm;have a7:List.take l.length (l.map rI)=l.map rI:=zK zSp;simp[go_sem,T,e6,w2,w4,a6,a7];refine⟨⟨_,_,⟨rfl,rfl⟩,(zU (s :: l)).ok⟩,?_⟩;refine qc.zP a5 R ?_;refine vR.keep (ih k P) (fun j M=>I (((qo k).flatMap F).length+j) M) (fun e M=>e = .ret/\Ix M) ?_ ?_ ?_ ?_ ?_ ?_
  .simpa [go_sem] using hS _ _ hI
  .intro j M h;exact hS _ _ h
  .rintro e M ⟨h1,h2⟩;exact⟨h1,hX _ h2⟩
  .rintro j x M hj a8
   rw[zm,yQ]at hj;obtain⟨t,ht,rfl⟩:=hj;have r:(((qo (sc.atoms[s]).toNat).flatMap F).map fun t=>[aI t])[((qo k).flatMap F).length+j]?=some [aI t]:=by
    rw[zm,qeK F P ht];rfl
   rw[<-o]at r;refine⟨rfl,?_⟩;simp[go_sem,e4];refine qc.yield (hY _ _ _ r a8) ?_;rintro b af (⟨rfl,a9⟩|⟨rfl,aa⟩)
   .simp [go_sem]
    exact uK.intro a9
   .simp [go_sem]
    exact uK.intro ⟨rfl,aa⟩
  .rintro M ab
   simp[go_sem,e6,w5];refine Keep.loop ((sc.atoms[s]).toNat-(k+1)) zOm ⟨k+1,rfl,zOm,zS1 T,zS1 e2,zS1 U,zS1 e4,zS1 e5,zSi,?_⟩;rw[Z8,qU];simpa[go_sem] using ab
  .rintro e M ⟨rfl,h2⟩
   simp[go_sem];exact .inr h2
 .have ad:k=(sc.atoms[s]).toNat:=by omega
  have hb:¬f+(k:Int)<f+sc.atoms[s]:=zOm;simp[go_sem,T,U,e5,e6,C,w3,hb];rw[o,<-ad];exact .inl hI
def bdT:Nat->Int
 | 0=>1000000000
 | 1=>1000000
 | 2=>40000
 |_=>1000
theorem kM(d:Nat)(i:d<3){p q n:Int}(j:0<=p)(l:p<=bdT (d+1))(g:0<=n)(o:n<=20)(r:0<=q)(t:q<=20):0<=p*n+q/\p*n+q<=bdT d/\p<=1000000:=by
 have a:0<=p*n:=Int.mul_nonneg j g;have b:p*n<=bdT (d+1)*20:=ve l o g zOm
 match d,i with
 | 0,_=>simp only[bdT]at *;omega
 | 1,_=>simp only[bdT]at *;omega
 | 2,_=>simp only[bdT]at *;omega
def OkS(sc:Sc)(l:List Int):Prop:=∀ s,s∈l->0<=s/\s<sc.atoms.length
theorem kN(sc:Sc)(g:GSc sc)(C:∀ a,a∈sc.atoms->0<=a):∀(l:List Int),OkS sc l->l.length<=3->∀ p:Int,0<=p->p<=bdT l.length->jl qb 155 [.ip [lI l],.ip [aI p],.ip [lI sc.atoms,aI sc.steps]] ((tupR sc l p).map fun t=>[aI t])
 | [],_,_,p,_,_=>qeI sc p
 |s :: l,i,I,p,j,o=>by
  obtain⟨n,rfl⟩:∃ n:Nat,s=n:=⟨s.toNat,zW1 ((i s zSp).1)⟩;have r:n<sc.atoms.length:=zW1 ((i n zSp).2);simp only[zq]at I o;obtain⟨t0,t1⟩:=g.sum sc.atoms.length;rw[qX]at t0 t1;refine qeL sc g C n r l zOm p ⟨j,(kM l.length zOm j o t0 t1 (q:=0) zOm zOm).2.2⟩ fun k J=>?_
  obtain⟨u0,P⟩:=g.sum (n+1);rw[uF _ _ r]at P;rw[vV r]at J;obtain⟨s0,s1⟩:=g.sum n;obtain⟨R,T,_⟩:=kM l.length zOm j o t0 t1 (q:=sumI (sc.atoms.take n)+k) zOm zOm;exact kN sc g C l (fun x U=>i x (zP1 U)) zOm _ R T
theorem U9(sc:Sc)(g:GSc sc)(o:∀ a,a∈sc.atoms->0<=a):∀(l:List Int),OkS sc l->∀ p,(tupR sc l p).length<=20 ^ l.length
 | [],_,p=>by simp[tupR]
 |s :: l,i,p=>by
  obtain⟨n,rfl⟩:∃ n:Nat,s=n:=⟨s.toNat,zW1 ((i s zSp).1)⟩;have j:n<sc.atoms.length:=zW1 ((i n zSp).2);obtain⟨J,r⟩:=g.sum (n+1);obtain⟨P,s1⟩:=g.sum n;rw[uF _ _ j]at r;have t:=U9 sc g o l (fun x C=>i x (zP1 C));rw[tupR,show (n:Int).toNat=n by omega,vV j];have key:∀ m:Nat,((qo m).flatMap fun k:Nat=>tupR sc l (p*sumI sc.atoms+(sumI (sc.atoms.take n)+k))).length<=m*20 ^ l.length:=by
   intro m;induction m with
   |zero=>simp
   |succ m I =>
    rw[Z8,qU,Nat.succ_mul];have:=t (p*sumI sc.atoms+(sumI (sc.atoms.take n)+m));omega
  refine zV (key _) ?_;rw[zq,Nat.pow_succ,Nat.mul_comm];exact Nat.mul_le_mul_left _ zOm
theorem Z9(n a b:Int):qd qb 75 [aI n,aI a,aI b] (aB (decide (a<=n)&&decide (n<=b))):=by
 refine qSV call75 func75 rfl ?_;by_cases g:a<=n
 .simp [go_sem,g]
  exact .zsc _
 .simp [go_sem,g]
  exact .zsc _
theorem wk3I(a b c:Int):WKs [aI a,aI b,aI c] [aI a,aI b,aI c] := .zs (.zs (.zs .nil))
theorem Ya(sc:Sc)(g:GSc sc)(hA:∀ a,a∈sc.atoms->0<=a)(l:List Int)(hs:OkS sc l)(h1:1<=l.length)(h3:l.length<=3):qd qb 60 [eSc sc,lI l] (eRel ⟨l.length,tupR sc l 0⟩):=by
 refine qSV call60 func60 rfl ?_;have b1:(1:Int)<=l.length:=zOm;have b3:(l.length:Int)<=3:=zOm;have hg:=g.1;have w1:=Z9 l.length 1 3;rw[decide_eq_true b1,decide_eq_true b3]at w1;simp[go_sem];refine qc.zP w1 (wk3I _ _ _) ?_;refine qh.upK l.length (fun k st=>st.tm 1=lI l/\st.tm 2 = .ip [lI sc.atoms,aI sc.steps]/\st.tm 4 = .ptr 0 0/\st.tm 14=lI l/\st.tm 15=aI l.length/\st.tm 16=aI k/\st.mu=[.arr [aI 0,.lst true []]]) ?_ ?_
 .simp [go_sem]
 rintro k st hk ⟨e1,e2,e4,J,o,p,hm⟩;by_cases r:k<l.length
 .have wk:=zWk k
  have wl:qs.wrap ((sc.atoms.length:Int)-1)=(sc.atoms.length:Int)-1:=zWr;obtain⟨q0,q1⟩:=hs _ (qt r);have w2:=Z9 l[k] 0 ((sc.atoms.length:Int)-1);rw[decide_eq_true q0,decide_eq_true (by omega:l[k]<=(sc.atoms.length:Int)-1)]at w2;simp[go_sem,e2,J,o,p,hm,r,wl];refine qc.pure w2 (wk3I _ _ _) ?_;simp[go_sem,p,r,wk];exact Keep.mk' ⟨zS1 e1,zS1 e2,zS1 e4,zS1 J,zS1 o,zSi,zSi⟩
 .have a0:k=l.length:=by omega
  subst a0;have a7:=U9 sc g hA l hs 0;have hp:20 ^ l.length<=8000:=by
   have:l.length=1\/l.length=2\/l.length=3:=zOm;rcases this with h|h|h<;>rw[h]<;>omega
  have a1:(0:Int)<=bdT l.length:=by
   have:l.length=1\/l.length=2\/l.length=3:=zOm;rcases this with h|h|h<;>rw[h]<;>simp[bdT]
  simp[go_sem,e1,e2,o,p,hm];refine qc.zP (kL sc 0 l) (.zk (zx sc) (.zs (.zk (zf l) .nil))) ?_;refine vR.keep (kN sc g hA l hs h3 0 zOm a1) (fun j M=>RelM M l.length ((tupR sc l 0).take j)) (fun _ _=>False) ?_ ?_ ?_ ?_ ?_ ?_
  .exact ⟨.lst true [],zSi,zSi,.inl ⟨rfl,rfl⟩,by simp[qr],by simp[qr]⟩
  .rintro j M ⟨P,C,g1,i,R,U⟩
   exact⟨P,by rw[qI (qe.1 C).1];exact C,by rw[qI (qe.1 g1).1];exact g1,i.same fun b hb=>by rw[qI (i.v.lt hb)],R,U⟩
  .intro e M h;exact h
  .rintro j x M hj ⟨P,C,g1,i,R,U⟩
   rw[zm,yQ]at hj;obtain⟨t,ht,rfl⟩:=hj;obtain⟨a2,a3⟩:=qe.1 ht;refine⟨rfl,?_⟩;simp[go_sem,g1];refine qA.ownV1 (e:=3) (bt:=8) (z:=0) zSi zSi zSi zOm i.v zSo ?_;intro a8 a9 I a4 a5 a6;obtain⟨k1,k2⟩:=RelM.step C g1 R U I a4 a5 a6;simp[go_sem,k1,I.v.one,I.v.cells];refine uK.intro ?_;rw[uJ a2,a3];exact k2
  .rintro M ⟨P,C,g1,i,R,U⟩
   rw[zJ,qX]at i;have T:∀ c,(M.set 0 c)[0]?=some c:=fun c=>zo (qe.1 C).1
   simp[go_sem,e4,C,g1,T,i.v.one];refine OwnV.rdRel (i.v.same fun b hb=>?_);rw[yP (fun e=>R (by rw[e];exact hb))]
  .intro e M h;exact h.elim
end EW
namespace JC
theorem backX(f:Bool):Uy qb 254 [.ip [.lst f []]] []:=by
 refine⟨call254,fun i I p r g j=>?_⟩;refine qSW call254 func254 rfl {} ?_;simp[go_sem];refine qh.keep (fun _ st=>st.tm 3=aI (-1)/\st.mu=g) 0 ?_ ?_
 .simp [go_sem,Jb]
 rintro _ st ⟨l,o⟩;simp[go_sem,l,o];exact .inl j
end JC
namespace GG
open ER
@[go_sem ↓] theorem qnM(P:qf)(pl:Pol)(l:List wg)(Q:St->Prop)(o:AV->St->Prop)(k:Nat)(r:List Nat)(T:List (Nat×Nat×List Nat))(st:St)(i:Option Tmp)(op:Op)(ty:j1)(pos:String)(after:Array Edge)(j:Nat)(g:Bool) :
  segO P pl l Q o k r T st (some ⟨i,op,ty,pos,after,some (j,g)⟩)=wQ ((l[j]?).bind (·.dst)) st g (fun st=>segO P pl l Q o k r T st (some ⟨i,op,ty,pos,after,none⟩)) (fun st=>awpT P pl l.toArray Q o T (st.put i (.sc va) st.mu)):=by
 simp only[segO,zE,wQ,vG];congr 1;funext b;simp[brK,BrS,OptK,Br]
@[go_sem ↓] theorem qnN(P:qf)(pl:Pol)(l:List wg)(st:St)(d:Tmp)(op:Op)(ty:j1)(pos:String)(after:Array Edge)(j:Nat)(g:Bool) :
  Jx P pl l st (some ⟨some d,op,ty,pos,after,some (j,g)⟩)=wQ ((l[j]?).bind (·.dst)) st g (fun st=>qw P pl true (some d) op st.ev st.mu (wN st d st.mu) noK) (fun _=>True):=by
 simp only[Jx,zE,wQ,vG];congr 1
def subL:List (List AV)->List (List AV)->List (List (List AV))
 |c,[]=>[c]
 |c,x :: r=>subL c r++subL (c++[x]) r
def uL(l:List (List AV)):Prop:=∀ r,r∈l->r.length=3/\(r.all AV.one=true/\∀ x,x∈r->HF x)
theorem clipU(c:List (List AV))(i:uL c)(l:c.length<=1000000):qd qb 80 [.lst false c] (.lst true c):=by
 refine qSU call80 func80 rfl ?_;refine⟨⟨_,_,⟨rfl,rfl⟩,fun r g=>(i r g).1⟩,.hf _ (HF.lst fun r g x j=>(i r g).2.2 x j)⟩
abbrev extV(i b:Nat):AV := .fn (.func 79) [] [.ip [.yl i],.ptr b 0]
def ExtR(i b:Nat)(I:Nat->Mu->Prop)(g:Mu->Prop)(k:Nat)(e:AEnd)(m:Mu):Prop:=m[b]?=some (.arr [extV i b])/\((e = .ret (aB true)/\I k (m.set b .dead))\/(e = .ret (aB false)/\g (m.set b .dead)))
theorem extU{i b:Nat}{rows:List (List AV)}{I:Nat->Mu->Prop}{Ix:Mu->Prop}(hS:∀ k mu,I k mu->I k (mu++[.dead]))(hX:∀ mu,Ix mu->Ix (mu++[.dead]))(hY:Yld qb i rows I Ix) :
  ∀(r c:List (List AV)) (k:Nat) (mu:Mu),uL r->uL c->c.length+r.length<=1000->(∀(j:Nat) x,(subL c r)[j]?=some x->rows[k+j]?=some [.lst false x])->mu[b]?=some (.arr [extV i b])->I k (mu.set b .dead) ->
   qL qb 79 ([.lst false c,.lst false r]++[.ip [.yl i],.ptr b 0]) mu (ExtR i b I Ix (k+(subL c r).length))
 | [],c,k,mu,hr,hc,hl,J,hb,h0=>by
  refine qSW call79 func79 rfl {} ?_;simp[go_sem];have h1:=J 0 c rfl;refine qc.yield (u9.hid hb zSp (hY k _ _ h1 h0)) ?_;rintro bb m ⟨g,hm,hd,rfl⟩;have R:b<g.length:=(qe.1 hd).1;have a4:(g.set b (Cell.arr [extV i b])).set b .dead=g:=by
   rw[List.set_set];apply jx;intro j;by_cases U:j=b
   .subst U;rw[zo R];exact hd.symm
   .rw [yP (fun e=>U e.symm)]
  simp[go_sem];refine⟨by rw[zo R],?_⟩;rw[a4];rcases hm with ⟨rfl,hI⟩|⟨rfl,hI⟩
  .exact .inl ⟨rfl,hI⟩
  .exact .inr ⟨rfl,hI⟩
 |x :: r,c,k,mu,hr,hc,hl,J,hb,h0=>by
  have hx:=hr x zSp;obtain⟨l,o,t,rfl⟩:∃ l o t,x=[l,o,t]:=by
   match x,hx.1 with
   | [a,b,c],_=>exact⟨a,b,c,rfl⟩
  refine qSW call79 func79 rfl {} ?_;have af:¬(r.length:Int)+1=0:=zOm;simp[go_sem,af];refine qg.seg [0,1,2,3,4,5,6,7,9,10,11,12,14,15,8,13,16,17,18] [(0,0,[]),(1,0,[]),(2,0,[]),(3,0,[]),(4,1,[]),(5,0,[]),(6,0,[]),(7,0,[]),(9,0,[]),(10,0,[]),(11,0,[]),(12,0,[]),(14,0,[]),(15,0,[]),(8,1,[6,11]),(13,1,[6]),(16,1,[]),(17,0,[]),(18,0,[])] zKr zKr zSi ?_;have a5:(1:Int)<=(r.length:Int)+1:=zOm;have a6:∃ e p,(144=e/\3=p)/\zX p ([l,o,t] :: r):=⟨_,_,⟨rfl,rfl⟩,fun y C=>(hr y C).1⟩;simp[go_sem,hb,a5];refine⟨a6,?_⟩;have a7:uL r:=fun y C=>hr y (zP1 C)
  have a0:subL c ([l,o,t] :: r)=subL c r++subL (c++[[l,o,t]]) r:=rfl;have ag:=extU hS hX hY r c k mu a7 hc (by simp at hl;omega) (fun j y U=>J j y (by rw[a0,qI (qe.1 U).1];exact U)) hb h0;refine qc.eff (caps:=[.ip [.yl i],.ptr b 0]) ag ?_ (by rintro q m ⟨_,h|h⟩<;>exact absurd h.1 zSp);rintro q g ⟨T,⟨hq,hI⟩|⟨hq,hI⟩⟩
  .cases hq
   have a9:l.one=true/\o.one=true/\t.one=true:=by have:=hx.2.1;simpa using this
   have ah:∀ y,y∈c->∀ z,z∈y->HF z:=fun y C=>(hc y C).2.2
   simp[go_sem,T,a5,a9];refine⟨a6,?_⟩;refine qc.pure (clipU c hc (by simp at hl;omega)) (.zk (HF.lst ah) .nil) ?_;simp[go_sem,T];refine .inl ⟨100,100,144,3,24,[[l,o,t]],rfl,zSi,zSi,⟨.agg [aI 0,aI 0,aI 0],zSi,rfl,rfl⟩,zOm,zOm,by simp[qH],fun y C=>by simp at C;subst C;exact⟨rfl,hx.2.1⟩,.inl ⟨c,rfl,fun y C=>⟨(hc y C).1,(hc y C).2.1⟩,by simp at hl;simp;omega,fun h=>absurd h zSp,fun _=>?_⟩⟩;have R:b<g.length:=(qe.1 T).1;have ai:(c++[[l,o,t]]).flatten=c.flatten++[l,o,t]:=zSp;generalize hM:g++[Cell.arr (c.flatten++[[l,o,t]].flatten)]=m2;have a1:g++[Cell.arr (c.flatten++[l,o,t])]=m2:=by rw[<-hM];simp
   have aj:m2[b]?=some (.arr [extV i b]):=by rw[<-hM,qI R];exact T
   have ak:m2[g.length]?=some (.arr (c++[[l,o,t]]).flatten):=by rw[<-a1,ai];simp
   have aa:(g++[Cell.arr (c.flatten++[l,o,t])])[b]?=some (.arr [extV i b]):=by rw[a1];exact aj
   simp[go_sem,aa];rw[a1];have ab:cutM (fun j=>!(j == g.length)) m2 0=g++[.dead]:=by
    apply jx;intro j;rw[jI,<-hM];by_cases U:j<g.length
    .rw [qI U,qI U,qv U]
     have:¬j=g.length:=zOm;simp[this]
    .by_cases al:j=g.length
     .subst al;simp
     .rw [qT zOm,qT zOm]
      obtain⟨d,hd⟩:∃ d,j-g.length=d+1:=⟨j-g.length-1,zOm⟩;rw[hd];rfl
   have a2:uL (c++[[l,o,t]]):=fun y C=>by
    rcases qC.1 C with h|h
    .exact hc y h
    .rw [qN]at h;subst h;exact hx
   have an:=extU hS hX hY r (c++[[l,o,t]]) (k+(subL c r).length) (g++[.dead]) a7 a2 (by simp at hl⊢;omega) (fun j y U=>by
    have:=J ((subL c r).length+j) y (by rw[a0,qT zOm];simpa using U);rw[<-this];congr 1;omega) (by rw[qI R];exact T) (by
    rw[List.set_append_left _ _ R];exact hS _ _ hI)
   have ao:Rd (cutM (fun j=>j == g.length) m2 0) (.sl g.length 3 0 (c.length+1)) (.lst false (c++[[l,o,t]])):=by
    have aq:(cutM (fun j=>j == g.length) m2 0)[g.length]?=some (.arr (c++[[l,o,t]]).flatten):=by rw[ki];exact ak
    have:=Own.rd (mu:=cutM (fun j=>j == g.length) m2 0) (sz:=3) (av := .sl g.length 3 0 (c++[[l,o,t]]).length) (.inr ⟨_,rfl,aq⟩) (fun y C=>(a2 y C).1) (fun y C=>(a2 y C).2.2);simpa using this
   have ar:qL qb 79 ([.sl g.length 3 0 (c.length+1),.lst false r]++[.ip [.yl i],.ptr b 0]) m2 (ExtR i b I Ix (k+(subL c r).length+(subL (c++[[l,o,t]]) r).length)):=
    qL.freeze (args:=[.sl g.length 3 0 (c.length+1),.lst false r,.ip [.yl i],.ptr b 0]) (args1:=[.lst false (c++[[l,o,t]]),.lst false r,.ip [.yl i],.ptr b 0]) (fun j=>j == g.length) ⟨.inr ao,.inl rfl,.inl rfl,.inl rfl,trivial⟩ (by rw[ab];exact an)
   refine qc.eff (caps:=[.ip [.yl i],.ptr b 0]) ar ?_ (by rintro q m ⟨_,h|h⟩<;>exact absurd h.1 zSp);have ad:k+(subL c r).length+(subL (c++[[l,o,t]]) r).length=k+(subL c ([l,o,t] :: r)).length:=by rw[a0,qU];omega
   rw[ad];rintro q m ⟨ae,⟨hq,a3⟩|⟨hq,a3⟩⟩
   .cases hq
    simp[go_sem];exact⟨ae,.inl ⟨rfl,a3⟩⟩
   .cases hq
    simp[go_sem];exact⟨ae,.inr ⟨rfl,a3⟩⟩
  .cases hq
   simp[go_sem];exact⟨T,.inr ⟨rfl,hI⟩⟩
theorem qeM(l:List (List AV))(U:uL l)(hn:l.length<=1000):jl qb 78 [.ip [.lst false l]] ((subL [] l).map fun c=>[.lst false c]):=by
 refine jl.of call78 fun i I J P hX hY g h0=>?_
 refine qL.give ?_;refine qSW call78 func78 rfl {} ?_;simp[go_sem];have hx:=extU (i:=i) (b:=g.length) P hX hY l [] 0 (g++[.arr [extV i g.length]]) U (fun r t=>by simp at t) (zUs hn) (fun j x o=>by rw[yc,zm,o];rfl) zSp (by simpa using P 0 g h0);have hf:qL qb 79 ([.lst true [],.lst false l]++[.ip [.yl i],.ptr g.length 0]) (g++[.arr [extV i g.length]]) (ExtR i g.length I J (0+(subL [] l).length)):=
  qL.freeze (args:=[.lst true [],.lst false l,.ip [.yl i],.ptr g.length 0]) (args1:=[.lst false [],.lst false l,.ip [.yl i],.ptr g.length 0]) (fun _=>false) ⟨.inr (.wk _ true _ (.hf _ (HF.lst fun r t=>by simp at t))),.inl rfl,.inl rfl,.inl rfl,trivial⟩ (by rw[KY];exact hx)
 refine qc.eff (caps:=[.ip [.yl i],.ptr g.length 0]) hf ?_ (by rintro q m ⟨_,h|h⟩<;>exact absurd h.1 zSp);rintro q m ⟨T,h⟩;have p:cutM (fun j=>!(j == g.length)) m 0=m.set g.length .dead:=by
  apply jx;intro j;rw[jI];by_cases o:j=g.length
  .subst o
   rw[T,zo (qe.1 T).1];simp
  .rw [yP (fun e=>o e.symm)]
   cases hm:m[j]? with
   |none=>rfl
   |some c=>simp[o]
 simp[go_sem];refine .inr ⟨fun j=>j == g.length,⟨_,.same _⟩,?_⟩;show I _ (cutM (fun j=>!(j == g.length)) m 0)\/J (cutM (fun j=>!(j == g.length)) m 0);rw[p];rw[yc]at h;rcases h with ⟨_,h⟩|⟨_,h⟩
 .exact .inl h
 .exact .inr h
theorem qeN(l:List (List AV))(i:uL l):qd qb 41 [.lst false l] (.fn (.func 78) [] [.ip [.lst false l]]):=by
 refine qSU call41 func41 rfl ?_;refine .hf _ (HF.fn (fun c g=>by simp at g) (fun c g=>?_));simp at g;subst g;exact w6 (HF.lst fun r j x o=>(i r j).2.2 x o)
end GG
namespace GA
theorem qeO{a:List Int}(h:a.Pairwise (·<·)):a.Nodup:=h.imp fun h=>by omega
section
variable {α:Type} {f:α->α->Int} {P:α->Prop}
end
end GA
namespace GB
structure Ed where
 kind:Int
 state:Int
 field:Int
 tup:Int
abbrev Sts:=List (List Rl)
def noR:Rl:=⟨0,[]⟩
end GB
namespace GC
end GC
namespace EU
end EU
namespace EC
end EC
namespace EY
end EY
namespace GD
open GB
theorem Qx(xs:List Int):(xs.map rI).flatten=xs.map aI:=by
 induction xs with
 |nil=>rfl
 |cons x xs g=>simp[g]
theorem qeP{G:Gh}{h:Array Obj}{xs:List Int}{v:j3}(r:VRel G h (lI xs) v):xs=[]/\(∃ a c,v = .slice a 0 c)\/xs≠[]/\∃ b off c arr e t,v = .slice (some ⟨b,off,none⟩) xs.length c/\h[b]?=some (.cells arr e t)/\∀ j,j<xs.length->arr[off+j]?=some (.int .i64 (xs.getD j 0)):=by
 by_cases C:xs=[]
 .subst C
  refine .inl ⟨rfl,?_⟩;change VRel G h (.lst false []) v at r;cases r with
  |nil=>exact⟨_,_,rfl⟩
  |emp _ a cap I=>exact⟨_,_,rfl⟩
  |lst _ _ p a cap T e t rd J P hl I hi hz R U=>exact⟨_,_,rfl⟩
 .refine .inr ⟨C,?_⟩
  change VRel G h (.lst false (xs.map rI)) v at r;generalize g:xs.map rI=l at r;have i:l.length=xs.length:=by rw[<-g];simp
  cases r with
  |nil=>simp at g;exact absurd g C
  |emp _ a cap I=>simp at g;exact absurd g C
  |lst _ _ p a cap T e t rd J P hl I hi hz R U =>
   obtain⟨b,off,a0⟩:=a;simp only at P J R;subst P;refine⟨b,off,cap,T,e,t,by rw[i],J,fun j hj=>?_⟩;have o:l.flatten[j]?=some (aI (xs.getD j 0)):=by
    rw[<-g];have:(xs.map rI).flatten=xs.map aI:=Qx xs;rw[this,zm,qv hj,q8,qv hj];rfl
   have h1:=R j _ o;have h2:=U j _ o;generalize rd j=u at h1 h2;cases h2;exact h1
def Wa(xs:List Int)(x:Int):Nat:=xs.countP (fun y=>decide (y<x))
theorem binU(xs:List Int)(x:Int)(hl:xs.length<=1000000000)(J:xs.Pairwise (·<=·)):qd qb 34 [lI xs,aI x] (.tup [aI (Wa xs x),aB (decide (x∈xs))]):=by
 refine⟨call34,fun i w vs I P=>?_⟩;obtain⟨u,v,rfl,R,T⟩:=P.two_inv;cases T;have g:∀ t:j2,VRel ⟨i,[]⟩ t.heap (.tup [aI (Wa xs x),aB (decide (x∈xs))]) (.tuple #[.int .i64 (Wa xs x:Nat),.bool (decide (x∈xs))]):=by
  intro t;refine .tup _ _ rfl (fun k y p=>?_);cases k with
  |zero=>simp at p;subst p;exact .sc _ rfl
  |succ k=>cases k with
   |zero=>simp at p;subst p;exact .sc _ rfl
   |succ k=>simp at p
 rcases qeP R with ⟨rfl,a,c,rfl⟩|⟨U,b,off,c,arr,e,fr,rfl,l,hc⟩
 .refine (Tryz.slices_BinarySearch_int_empty a c x w).mono fun e t ⟨r,C⟩=>?_
  subst C;refine⟨i,_,r,fun _ h=>h,fun b l=>⟨I.imm b l,.inl l⟩,⟨RowKit.Below.refl _ _,qn _⟩,?_⟩;exact g _
 .have o:∀ j,j<xs.length->w.cell? ⟨b,off+j,none⟩=some (.int .i64 (xs.getD j 0)):=by
   intro j hj;simp only[World.cell?,l,Option.isSome_none,Bool.false_eq_true,if_false];exact hc j hj
  refine(Tryz.slices_BinarySearch_int b off xs.length c xs x w (qn _) zOm o (by rw[qX];exact J)).mono fun e t ⟨r,q,C⟩=>?_
  subst C;rw[qX]at r;have e2:xs.contains x=decide (x∈xs):=by
   rw[Bool.eq_iff_iff];simp
  rw[e2]at r;refine⟨i,_,r,fun _ h=>h,fun b l=>⟨I.imm b l,.inl l⟩,⟨⟨rfl,rfl,rfl,qn _,fun _ _=>rfl⟩,Nat.le_add_right _ _⟩,?_⟩;exact g _
theorem qeQ(f:us):HF (.fn (.func f) [] []):=HF.fn (fun c g=>by simp at g) (fun c g=>by simp at g)
structure SmS (S:Sts):Prop where
 n:S.length<=1000
 f:∀ s,s∈S->s.length<=1000
 t:∀ s,s∈S->∀ r,r∈s->r.ts.length<=1000/\r.ts.Pairwise (·<·)
end GD
namespace EZ
end EZ
namespace Y10
open Y2 P1 Y9
theorem Q0(ts:TS):∀ k,k<=ts.preds.length->(tmsL ts k).length=k
 | 0,_=>rfl
 |k+1,h=>by
  have g:k<ts.preds.length:=zOm;simp[tmsL,Q0 ts k zOm,qv g]
theorem uM{ts:TS}(h:okTS ts){k:Nat}(g:k<=ts.preds.length):okCk (mkCk ts k):=⟨h,g,Nat.le_of_eq (Q0 ts k g).symm⟩
theorem kO(a b:ByteArray):(a.toList == b.toList)=decide (a=b):=by
 by_cases h:a=b
 .subst h;simp
 .rw [jM h,decide_eq_false h]
theorem Wb{mu:Mu}{sz:Nat}{s:AV}{xs:List (List AV)}(h:Own mu sz s xs)(c:Cell):Own (mu++[c]) sz s xs:=by
 rcases h with rfl|⟨b,rfl,g⟩
 .exact .inl rfl
 .exact .inr ⟨b,rfl,by rw[qI (qe.1 g).1];exact g⟩
end Y10
namespace Y11
open Y1 Y2 P1
def cKo:Option Kd->List AV
 |some k=>cKd k
 |none=>[aI 0,.sc (.map none)]
@[go_sem] theorem cKo_some(k:Kd):cKo (some k)=cKd k:=rfl
@[go_sem] theorem cKo_none:cKo none=[aI 0,.sc (.map none)]:=rfl
def endK:Res->AEnd
 | .ok k => .ret (.agg (cKo k))
 | .error e => .pan (JT e.1 e.2)
@[go_sem] theorem endK_ok(k:Option Kd):endK (.ok k) = .ret (.agg (cKo k)):=rfl
@[go_sem] theorem qnO(e:Dg):endK (.error e) = .pan (JT e.1 e.2):=rfl
end Y11
namespace Y12
open Y2 P1 Y6 Y8
def trF(t:Tp):Tp:=[t.getD 1 0,t.getD 0 0,0]
theorem Wc{a:List Tp}{t:Tp}:t∈uni [] (a.map fun t=>[t.getD 1 0,t.getD 0 0,0])↔∃ x,x∈a/\trF x=t:=by
 rw[vj];simp[trF]
structure ApOk (op:Int) (l:List (Option Kd)):Prop where
 one:op=5->∃ a,l=[a]
 bin:op=11\/op=12\/op=13->∃ a,l=[some a]/\okK a/\(a.ar=2->ok2 a)
 two:op=6\/op=14\/op=7\/op=8\/op=32\/op=33\/op=9\/op=10->∃ a b,l=[some a,some b]/\okK a/\okK b
theorem Wd{ns:Nat}{op n pos:Int}{l:List (Option Kd)}(i:op≠2)(j:op≠3)(o:op≠4)(p:op≠5)(r:op≠11)(t:op≠12)(C:op≠13)(t1:op≠6)(t2:op≠14)(t3:op≠7)(t4:op≠8)(t5:op≠32)(t6:op≠33)(I:op≠9)(g:op≠10):zG ns op n pos l = .ok none:=by
 unfold zG;rw[if_neg i,if_neg j,if_neg o];split
 .simp only[p,r,t,C,or_self,if_false]
  split<;>rfl
 .simp only[t1,t2,t3,t4,t5,t6,I,g,or_self,if_false]
 .rfl
end Y12
namespace P2
open Y1 Y2 Y3 P1 Y6 Y8 Y9 Y12
section
variable {a b k:Kd}{l:List Int}{ns:Nat}
def kd(op:Int):Int:=if 1<=op/\op<=15 then 101 else if 20<=op/\op<=23 then 105 else if 30<=op/\op<=51 then 102 else 0
def shp(op:Int)(nk:Nat):Option (List Int):=
 if op=1\/op=2\/op=3\/op=4\/op=20\/op=30\/op=31 then some []
 else if op=5\/op=11\/op=12\/op=13\/op=21\/op=34\/op=35\/op=36\/op=37 then some [101]
 else if op=6\/op=7\/op=8\/op=9\/op=10\/op=14\/op=32\/op=33 then some [101,101]
 else if op=15\/op=45\/op=46 then some [101,102]
 else if op=22\/op=23\/op=38\/op=39 then some [105,105]
 else if op=40\/op=48\/op=49\/op=50 then some [102]
 else if op=41\/op=42\/op=43\/op=44\/op=51 then some [102,102]
 else if op=47 then some (zp (min nk 401) 101)
 else none
inductive WfN:Nd->Prop where
 |mk (n:Nd) (h:shp n.op n.kids.length=some (n.kids.map fun k=>kd k.op)) (hn:n.op=2->1<=n.n/\n.n<=3) (hk:∀ k,k∈n.kids->WfN k):WfN n
theorem WfN.shape{n:Nd}(h:WfN n):shp n.op n.kids.length=some (n.kids.map fun k=>kd k.op):=by cases h;assumption
theorem WfN.num{n:Nd}(h:WfN n):n.op=2->1<=n.n/\n.n<=3:=by cases h;assumption
theorem WfN.kid{n k:Nd}(h:WfN n)(g:k∈n.kids):WfN k:=by
 cases h with
 |mk _ _ _ h=>exact h k g
theorem kP{op:Int}{nk:Nat}(h:shp op nk=some l):l.length<=401:=by
 unfold shp at h
 repeat' (split at h)
 all_goals try cases h
 all_goals try simp
 all_goals try omega
theorem WfN.len{n:Nd}(h:WfN n):n.kids.length<=401:=by
 have:=kP h.shape;simpa using this
theorem WfN.small{n:Nd}(h:WfN n):yf n:=by
 induction h with
 |mk n g j l i=>exact .mk n (by have:=kP g;simp at this;omega) i
structure okKd (ns:Nat) (k:Kd):Prop where
 ar:1<=k.ar/\k.ar<=3
 nd:k.ts.Nodup
 ts:∀ t,t∈k.ts->∃ l,t=pad l/\(l.length:Int)=k.ar/\∀ x,x∈l->0<=x/\x<ns
theorem okKd.okK(h:okKd ns k):okK k:=⟨h.ar,fun t g=>by obtain⟨l,rfl,_⟩:=h.ts t g;rfl,h.nd⟩
theorem okKd.ok2(h:okKd ns k)(o:ns<=4)(g:k.ar=2):ok2 k:=⟨g,h.nd,fun t p=>by
 obtain⟨l,rfl,i,j⟩:=h.ts t p;rw[g]at i
 match l,i with
 | [x,y],_ =>
  have r:=j x zSp;have g:=j y zSp;exact⟨x,y,rfl,zOm,zOm,zOm,zOm⟩⟩
theorem okKd.of2(j:k.ar=2)(g:k.ts.Nodup)(h:∀ t,t∈k.ts->∃ x y:Int,t=[x,y,0]/\0<=x/\x<ns/\0<=y/\y<ns):okKd ns k:=⟨zOm,g,fun t l=>by
 obtain⟨x,y,rfl,o,p,r,C⟩:=h t l;exact⟨[x,y],rfl,by rw[j];rfl,fun z i=>by simp at i;rcases i with rfl|rfl<;>omega⟩⟩
theorem okKd.pairs(h:okKd ns k)(g:k.ar=2):∀ t,t∈k.ts->∃ x y:Int,t=[x,y,0]/\0<=x/\x<ns/\0<=y/\y<ns:=fun t p=>by
 obtain⟨l,rfl,i,j⟩:=h.ts t p;rw[g]at i
 match l,i with
 | [x,y],_ =>
  have o:=j x zSp;have g:=j y zSp;exact⟨x,y,rfl,o.1,o.2,g.1,g.2⟩
theorem J2(j:1<=l.length)(o:l.length<=3)(i:∀ x,x∈l->0<=x/\x<ns):okKd ns (kOf l):=
 ⟨by simp only[kOf];omega,by simp[kOf],fun t g=>by
  have g:t∈[pad l]:=g;rw[qN]at g;exact⟨l,g,rfl,i⟩⟩
theorem qeR{n:Int}(h:1<=n/\n<=3):okKd ns ⟨n,[]⟩:=⟨h,zSp,fun t g=>by simp at g⟩
theorem We(ns g:Nat)(C:1<=g)(I:g<=3):okKd ns (zt ns g):=by
 refine⟨by simp only[zt];omega,?_,fun t l=>?_⟩
 .refine List.pairwise_map.2 ((List.pairwise_iff_getElem.2 fun i j o J p=>?_))
  simp only[List.getElem_range];obtain⟨a,rfl⟩:∃ a,g=a+1:=⟨g-1,zOm⟩;intro e;simp[pad,List.replicate_succ]at e;omega
 .have l:t∈(qo ns).map fun (i:Nat)=>pad (zp g (i:Int)):=l
  obtain⟨i,o,rfl⟩:=qk.1 l;rw[yj]at o;exact⟨_,rfl,by simp[zt],fun x r=>by rw[List.eq_of_mem_replicate r];omega⟩
theorem Yb(i:okKd ns a)(j:okKd ns b)(h:a.ar=b.ar):okKd ns (kSum a b):=by
 refine⟨i.ar,Z2 (Z2 zSp),fun t g=>?_⟩;have g:t∈uni (uni [] a.ts) b.ts:=g;simp only[vj,qD,false_or]at g;rcases g with g|g
 .exact i.ts t g
 .obtain ⟨l,e,o,p⟩:=j.ts t g
  exact⟨l,e,by rw[o,<-h];rfl,p⟩
theorem qeS(g:okKd ns a):okKd ns (Qw a b):=
 ⟨g.ar,g.nd.filter _,fun t i=>g.ts t (jg.1 i).1⟩
theorem qeT{op:Int}(g:okKd ns a)(i:okKd ns b)(h:a.ar=b.ar):okKd ns (vZ op a b):=by
 unfold vZ;split
 .exact Yb g i h
 .split
  .exact qeS g
  .exact g
theorem wo(h:l.length<=3)(k:Nat)(g:k<=l.length):(pad l).take k=l.take k:=by
 match l,h with
 | [],_=>simp at g;subst g;rfl
 | [a],_=>match k,g with
  | 0,_=>rfl
  | 1,_=>rfl
 | [a,b],_=>match k,g with
  | 0,_=>rfl
  | 1,_=>rfl
  | 2,_=>rfl
 | [a,b,c],_=>match k,g with
  | 0,_=>rfl
  | 1,_=>rfl
  | 2,_=>rfl
  | 3,_=>rfl
theorem Yc{g i:List Int}(j:g.length<=3)(l:i.length<=3)(s:Nat):conc (pad g) g.length (pad i) i.length s=pad (g.take (g.length-s)++i.drop s):=by
 unfold conc;rw[wo j _ zOm,wo l _ (qn _),qX]
theorem Yd(o:okKd ns a)(p:okKd ns b)(C:1<=a.ar+b.ar-2)(I:a.ar+b.ar-2<=3):okKd ns (zA a b):=by
 refine⟨⟨C,I⟩,qdL,fun t J=>?_⟩;obtain⟨x,y,⟨P,R⟩,hf⟩:=wZ.1 J;obtain⟨i,rfl,T,j⟩:=o.ts x P;obtain⟨r,rfl,U,l⟩:=p.ts y R;have a0:=o.ar;have a1:=p.ar;unfold UZ at hf;split at hf
 .simp only[qj]at hf
  rw[show a.ar.toNat=i.length by omega,show b.ar.toNat=r.length by omega,Yc zOm zOm]at hf;refine⟨_,hf.symm,?_,fun z g=>?_⟩
  .show ((i.take (i.length-1)++r.drop 1).length:Int)=a.ar+b.ar-2
   simp only[qU,vH,List.length_drop];omega
  .rcases qC.1 g with g|g
   .exact j z (vd g)
   .exact l z (List.mem_of_mem_drop g)
 .exact absurd hf zSp
theorem qeU(o:okKd ns a)(p:okKd ns b)(C:a.ar+b.ar<=3):okKd ns (vX a b):=by
 have I:=o.ar;have J:=p.ar;refine⟨⟨by simp only[vX];omega,C⟩,qdM,fun t P=>?_⟩;obtain⟨x,y,⟨R,T⟩,hf⟩:=Z4.1 P;obtain⟨i,rfl,U,j⟩:=o.ts x R;obtain⟨r,rfl,a0,l⟩:=p.ts y T;unfold wm at hf;simp only[qj]at hf;rw[show a.ar.toNat=i.length by omega,show b.ar.toNat=r.length by omega,Yc zOm zOm]at hf;refine⟨_,hf.symm,?_,fun z g=>?_⟩
 .show ((i.take (i.length-0)++r.drop 0).length:Int)=a.ar+b.ar
  simp only[qU,vH,List.length_drop];omega
 .rcases qC.1 g with g|g
  .exact j z (vd g)
  .exact l z (List.mem_of_mem_drop g)
theorem qeV(g:okKd ns a)(i:a.ar=2):okKd ns (kTr a):=by
 refine okKd.of2 rfl (Z2 zSp) (fun t j=>?_);obtain⟨x,l,rfl⟩:=Wc.1 j;obtain⟨p,q,rfl,o,r,C,I⟩:=g.pairs i x l;exact⟨q,p,rfl,C,I,o,r⟩
theorem J3(i:okKd ns a)(g:a.ar=2):okKd ns (kClo a)/\(kClo a).ar=2:=by
 have:∀(f n:Nat) (a:Kd),okKd ns a->a.ar=2->okKd ns (cloN f n a)/\(cloN f n a).ar=2:=by
  intro f;induction f with
  |zero=>intro n a h g;exact⟨h,g⟩
  |succ f j =>
   intro n a h g;unfold cloN;split
   .exact j _ _ (Yb h (Yd h h zOm zOm) (by simp only[zA];omega)) g
   .exact ⟨h,g⟩
 exact this 70 0 a i g
theorem qeW{op:Int}(g:okKd ns a)(i:a.ar=2):okKd ns (binK ns op a):=by
 unfold binK;split
 .exact (J3 g i).1
 .split
  .exact Yb (J3 g i).1 (We ns 2 zOm zOm) (by rw[(J3 g i).2];rfl)
  .exact qeV g i
def ScOk(ns:Nat)(s:Scp):Prop:=∀ v,v∈s->okKd ns v.2/\v.2.ar=1
theorem kQ{nm:ByteArray}:∀{s:Scp} {v:ByteArray×Kd} {r:Scp},jC nm s=v :: r->v∈s
 | [],v,r,h=>by simp[jC]at h
 |w :: s,v,r,h=>by
  unfold jC at h;split at h
  .cases h;exact qR
  .exact qK _ (kQ h)
theorem qeX{ts:TS}(h:okTS ts){nm:ByteArray}{k:Kd}(g:k∈means ts nm):okKd ts.sorts.length k:=by
 unfold means at g;rcases qC.1 g with g|g
 .unfold j5 at g
  obtain⟨f,hf,e⟩:=List.mem_filterMap.1 g;split at e
  .cases e
   have:=h.fl f hf;exact J2 this.1 this.2.1 this.2.2
  .exact absurd e zSp
 .have:∀(j:List (ByteArray×Bool)) (i:Nat),i+j.length<=ts.sorts.length->∀ k,k∈vY i j nm->okKd ts.sorts.length k:=by
   intro j;induction j with
   |nil=>intro i _ k g;simp[vY]at g
   |cons s j p =>
    intro i r k g;simp only[zq]at r;have o:okKd ts.sorts.length (kOf [(i:Int)]):=J2 zSp zSp (fun x l=>by simp at l;subst l;omega);have t:okKd ts.sorts.length (kOf [(i:Int),(i:Int)]):=J2 zSp zSp (fun x l=>by simp at l;subst l;omega);simp only[vY,wX,qC]at g;rcases g with (g|g|g)|g
    .split at g<;>simp at g;subst g;exact o
    .split at g<;>simp at g;subst g;exact o
    .split at g<;>simp at g;subst g;exact t
    .exact p (i+1) zOm k g
  exact this ts.sorts 0 zOm k g
theorem yw(c:Ck)(s:Scp)(inn:Bool)(n:Nd):exam c s inn n =
  if (inn&&zF c n.op n.name)=true then .error (46,n.pos)
  else if n.op=1 then yV c s n.name n.pos
  else if n.op=47 then
   if (c.ts.preds.any fun p=>decide (p.name=n.name))=true then
    match zb c n.name with
    |none => .error (45,n.pos)
    |some p=>match c.ts.preds[p]? with
     |none => .error (45,n.pos)
     |some g=>if g.params.length=n.kids.length then z6 c s n.pos g.params n.kids else .error (45,n.pos)
   else .error (40,n.pos)
  else if n.op=15\/n.op=45\/n.op=46 then zH c s (inn||decide (n.op=15)) n.name n.pos n.kids
  else match qP c s (inn||decide (n.op=12)||decide (n.op=13)) n.kids with
   | .error e => .error e
   | .ok l=>zG c.ts.sorts.length n.op n.n n.pos l:=by
 obtain⟨op,t,k,ks,pos⟩:=n;simp only[exam,Nd.op,Nd.name,Nd.n,Nd.kids,Nd.pos];rfl
theorem J4{c:Ck}{s:Scp}{inn:Bool}:∀{ks:List Nd} {l:List (Option Kd)},qP c s inn ks = .ok l->l.length=ks.length/\∀(i:Nat) k a,ks[i]?=some k->l[i]?=some a->exam c s inn k = .ok a
 | [],l,h=>by simp only[qP,jG]at h;subst h;simp
 |k :: ks,l,h=>by
  simp only[qP]at h;cases g:exam c s inn k with
  |error e=>rw[g]at h;exact absurd h zSp
  |ok a =>
   rw[g]at h;simp only at h;cases j:qP c s inn ks with
   |error e=>rw[j]at h;exact absurd h zSp
   |ok r =>
    rw[j]at h;simp only[jG]at h;subst h;obtain⟨t,C⟩:=J4 j;refine⟨zP1 t,fun i I J o p=>?_⟩;cases i with
    |zero=>simp at o p;subst o;subst p;exact g
    |succ i=>exact C i I J (zUs o) (zUs p)
theorem J5{op:Int}(h:kd op=101):1<=op/\op<=15:=by
 unfold kd at h;split at h
 .assumption
 .split at h
  .exact absurd h zOm
  .split at h<;>exact absurd h zOm
theorem kR(C:ns<=4){n:Nd}(R:WfN n){l:List (Option Kd)}(p:l.length=n.kids.length)(h:∀(i:Nat) k a,n.kids[i]?=some k->l[i]?=some a->kd k.op=101->∃ q,a=some q/\okKd ns q) :
  ApOk n.op l/\(n.op=5->∃ a,l=[some a]/\okKd ns a)/\(n.op=11\/n.op=12\/n.op=13->∃ a,l=[some a]/\okKd ns a)/\(n.op=6\/n.op=14\/n.op=7\/n.op=8\/n.op=32\/n.op=33\/n.op=9\/n.op=10->∃ a b,l=[some a,some b]/\okKd ns a/\okKd ns b):=by
 have g:=R.shape;have r:n.op=5\/n.op=11\/n.op=12\/n.op=13->∃ a,l=[some a]/\okKd ns a:=by
  intro j;have e:shp n.op n.kids.length=some [101]:=by
   unfold shp;rw[zIn,if_pos zOm]
  rw[e]at g;simp only[qj]at g
  match o:n.kids,g with
  | [k],g =>
   simp at g;rw[o]at p
   match l,p with
   | [a],_ =>
    obtain⟨q,rfl,I⟩:=h 0 k a (by rw[o];rfl) rfl g.symm;exact⟨q,rfl,I⟩
  | [],g=>simp at g
  |_ :: _ :: _,g=>simp at g
 have P:n.op=6\/n.op=14\/n.op=7\/n.op=8\/n.op=32\/n.op=33\/n.op=9\/n.op=10->∃ a b,l=[some a,some b]/\okKd ns a/\okKd ns b:=by
  intro j;have e:shp n.op n.kids.length=some [101,101]:=by
   unfold shp;rw[zIn,zIn,if_pos zOm]
  rw[e]at g;simp only[qj]at g
  match o:n.kids,g with
  | [k,T],g =>
   simp at g;rw[o]at p
   match l,p with
   | [a,b],_ =>
    obtain⟨q,rfl,I⟩:=h 0 k a (by rw[o];rfl) rfl g.1.symm;obtain⟨U,rfl,J⟩:=h 1 T b (by rw[o];rfl) rfl g.2.symm;exact⟨q,U,rfl,I,J⟩
  | [],g=>simp at g
  | [_],g=>simp at g
  |_ :: _ :: _ :: _,g=>simp at g
 refine⟨⟨fun j=>?_,fun j=>?_,fun j=>?_⟩,fun j=>r (.inl j),fun j=>r (.inr j),P⟩
 .obtain ⟨a,rfl,_⟩:=r (.inl j);exact⟨_,rfl⟩
 .obtain ⟨a,rfl,t⟩:=r (.inr j);exact⟨a,rfl,t.okK,t.ok2 C⟩
 .obtain ⟨a,b,rfl,t,hb⟩:=P j;exact⟨a,b,rfl,t.okK,hb.okK⟩
theorem uN{c:Ck}(P:okCk c):∀(m:Nat) (n:Nd) (s:Scp) (inn:Bool) (T:Option Kd),szN n<=m->WfN n->ScOk c.ts.sorts.length s->exam c s inn n = .ok T->kd n.op=101->∃ k,T=some k/\okKd c.ts.sorts.length k
 | 0,n,_,_,_,hm,_,_,_,_=>by obtain⟨op,nm,i,ks,p⟩:=n;simp[szN]at hm
 |m+1,n,s,inn,T,hm,C,U,h,a0=>by
  have ho:=J5 a0;have a3:=P.ts.ns;rw[yw]at h;split at h
  .exact absurd h zSp
  split at h
  .unfold yV at h
   split at h
   .rename_i v r hf
    simp only[jG]at h;exact⟨v.2,h.symm,(U v (kQ hf)).1⟩
   .split at h
    .exact absurd h zSp
    .rename_i k I
     simp only[jG]at h;exact⟨k,h.symm,qeX P.ts (by rw[I];simp)⟩
    .exact absurd h zSp
  split at h
  .omega
  split at h
  .rename_i R
   have g:=C.shape;have e:shp n.op n.kids.length=some [101,102]:=by
    unfold shp;rw[zIn,zIn,zIn,if_pos zOm]
   rw[e]at g;simp only[qj]at g
   match I:n.kids,g with
   | [a,f],g =>
    simp at g;rw[I]at h;simp only[zH]at h;cases hq:exam c s (inn||decide (n.op=15)) a with
    |error e=>rw[hq]at h;exact absurd h zSp
    |ok q =>
     obtain⟨k,rfl,a4⟩:=uN P m a s _ q (by have:=yv (n:=n) (k:=a) (by rw[I];simp);omega) (C.kid (by rw[I];simp)) U hq g.1.symm;rw[hq]at h;simp only at h;split at h
     .split at h
      .exact absurd h zSp
      .simp only[jG]at h
       exact⟨k,h.symm,a4⟩
     .exact absurd h zSp
   | [],g=>simp at g
   | [_],g=>simp at g
   |_ :: _ :: _ :: _,g=>simp at g
  .rename_i n1 a8 nb
   cases hl:qP c s (inn||decide (n.op=12)||decide (n.op=13)) n.kids with
   |error e=>rw[hl]at h;exact absurd h zSp
   |ok l =>
    rw[hl]at h;simp only at h;obtain⟨J,a6⟩:=J4 hl;obtain⟨_,a5,a1,a2⟩:=kR (ns:=c.ts.sorts.length) a3 C J (fun i k a hi j a7=>uN P m k s _ a (zW1 (yv (n:=n) (qZ hi))) (C.kid (qZ hi)) U (a6 i k a hi j) a7);unfold zG at h;split at h
    .rename_i h2
     simp only[jG]at h;exact⟨_,h.symm,qeR (C.num h2)⟩
    split at h
    .simp only[jG]at h
     exact⟨_,h.symm,We _ 1 zOm zOm⟩
    split at h
    .simp only[jG]at h
     exact⟨_,h.symm,We _ 2 zOm zOm⟩
    have t:n.op=5\/(n.op=11\/n.op=12\/n.op=13)\/(n.op=6\/n.op=14\/n.op=7\/n.op=8\/n.op=32\/n.op=33\/n.op=9\/n.op=10):=zOm;rcases t with h5|h1|h2
    .obtain ⟨a,rfl,j⟩:=a5 h5
     simp only[if_pos h5,jG]at h;exact⟨a,h.symm,j⟩
    .obtain ⟨a,rfl,j⟩:=a1 h1
     have n5:n.op≠5:=zOm;simp only[if_neg n5,if_pos h1]at h;split at h
     .simp only[jG]at h
      exact⟨_,h.symm,qeW j (by assumption)⟩
     .exact absurd h zSp
    .obtain ⟨a,b,rfl,j,R⟩:=a2 h2
     simp only at h;split at h
     .split at h
      .simp only[jG]at h
       exact⟨_,h.symm,qeT j R (by assumption)⟩
      .exact absurd h zSp
     .split at h
      .split at h
       .rename_i hj
        simp only[jG]at h;exact⟨_,h.symm,Yd j R hj.1 hj.2⟩
       .exact absurd h zSp
      .split at h
       .split at h
        .simp only[jG]at h
         exact⟨_,h.symm,qeU j R (by assumption)⟩
        .exact absurd h zSp
       .omega
end
end P2
namespace EA
end EA
namespace F2
end F2
namespace F3
end F3
namespace F4
open E3 EO EQ F1
section
variable {av:AV}{xs:List (List AV)}{mu:Mu}{sz:Nat}
theorem Own.one(h:Own mu sz av xs):av.one=true:=by
 rcases h with rfl|⟨b,rfl,_⟩<;>rfl
theorem Own.cells(h:Own mu sz av xs):av.cells=[av]:=by
 rcases h with rfl|⟨b,rfl,_⟩<;>rfl
theorem Own.push(h:Own mu sz av xs)(c:List Cell):Own (mu++c) sz av xs:=by
 rcases h with rfl|⟨b,rfl,g⟩
 .exact .inl rfl
 .exact .inr ⟨b,rfl,by rw[qI (qe.1 g).1];exact g⟩
theorem Own.set(h:Own mu sz av xs){i:Nat}(c:Cell)(g:qr av≠some i):Own (mu.set i c) sz av xs:=by
 rcases h with rfl|⟨b,rfl,j⟩
 .exact .inl rfl
 .exact .inr ⟨b,rfl,by rw[yP (fun e=>g (by rw[e];rfl))];exact j⟩
theorem Own.lt(h:Own mu sz av xs){b:Nat}(g:qr av=some b):b<mu.length:=by
 rcases h with rfl|⟨j,rfl,i⟩
 .cases g
 .cases g;exact(qe.1 i).1
theorem qA.ownB{P:qf}{t g e bt:Nat}{s x:AV}{ys:List (List AV)}{zv:AV}{K:AV->Mu->Prop}(U:qz P t=some (e,sz,bt))(j:(qz P g).isSome=true)(hz:qx P e=some zv)
  (o:zv.cells.length=sz) (p:zv.cells.all AV.one=true) (r:sz≠0) (hb:bt<=16384) (ho:Own mu sz s xs) (hx:qH mu x=some ys) (R:zg sz xs) (wy:zg sz ys) (T:xs.length+ys.length<=4294967296)
  (k:∀ av l,Own l sz av (xs++ys)->(∀ i,i<mu.length->qr s≠some i->l[i]?=mu[i]?)->(∀ b,qr av=some b->b=mu.length)->mu.length<=l.length->K av l):qA P mu #[t,g] s x K:=by
 refine .inl ?_;refine⟨t,g,e,sz,bt,ys,rfl,U,j,⟨zv,hz,o,p⟩,r,hb,hx,wy,?_⟩;rcases ho with rfl|⟨b,rfl,hc⟩
 .refine .inl ⟨xs,rfl,R,T,fun h=>?_,fun h=>?_⟩
  .subst h
   exact k _ _ (.inl zSp) (fun _ _ _=>rfl) (fun b h=>by cases h) (qn _)
  .refine k _ _ (.inr ⟨mu.length,zSp,zSp⟩) (fun i C _=>?_) (fun b h=>by cases h;rfl) zSp
   rw[qI C]
 .have a0:=zW R.ok
  refine .inr ⟨b,xs.length,xs.flatten,rfl,hc,zOm,T,?_⟩;have I:xs.flatten.take (xs.length*sz)=xs.flatten:=zK zOm;refine k _ _ (.inr ⟨mu.length,zSp,?_⟩) (fun i C J=>?_) (fun b h=>by cases h;rfl) zSp
  .rw [I,qT zSp];simp
  .rw [qI (zUs C)]
   rw[yP (fun e=>J (by rw[e];rfl))]
abbrev rB(b:Bool):List AV:=[aB b]
def endL:XE (List Bool)->AEnd
 | .ok l => .ret (lB l)
 | .error e => .pan (errV e)
@[go_sem] theorem endL_ok(l:List Bool):endL (.ok l) = .ret (lB l):=rfl
@[go_sem] theorem endL_err(e:Int):endL (.error e) = .pan (errV e):=rfl
end
end F4
namespace F5
end F5
namespace F6
end F6
namespace F7
end F7
namespace F8
end F8
namespace E8
end E8
namespace EB
end EB
namespace EK
end EK
namespace F9
end F9
namespace FA
end FA
namespace FB
end FB
namespace FC
end FC
namespace E9
theorem kS(sc:Sc)(g:GSc sc):qd qb 28 [eSc sc] (aI (sumI sc.atoms)):=by
 refine qSU call28 func28 rfl ?_;refine qh.up sc.atoms.length (fun k st=>st.tm 1 = .ip [lI sc.atoms,aI sc.steps]/\st.tm 3=aI (sumI (sc.atoms.take k))/\st.tm 4=aI k/\st.mu=[]) ?_ ?_
 .simp [go_sem,sumI]
 rintro k st I ⟨o,p,r,C⟩;have J:=g.1;simp[go_sem,o,r,C];refine BrS.intro (fun i=>?_) (fun j=>?_)
 .have i:k<sc.atoms.length:=by simpa using i
  have t:=uF sc.atoms k i;have l:=g.sum (k+1);rw[t]at l;simp[go_sem,o,p,r,i];exact⟨by rw[t,zWr],zWr⟩
 .have j:k=sc.atoms.length:=by simp at j;omega
  subst j;simp[go_sem,p];exact .zsc _
def v7:List Int->Int->Int->Int
 | [],_,_ => -1
 |a :: l,x,i=>if x<a then i else v7 l (x-a) (i+1)
def vp(sc:Sc)(x:Int):Int:=v7 sc.atoms x 0
theorem kT(l:List Int)(k:Nat)(x i:Int)(h:k<l.length):v7 (l.drop k) x i=if x<l[k] then i else v7 (l.drop (k+1)) (x-l[k]) (i+1):=by
 rw[zD h,v7]
def divN(n x:Int):Nat->Int
 | 0=>x
 |j+1=>divN n x j / n
theorem J6{C:Type}{l:List C}{p:C->Bool}:l.all p=true↔∀(i:Nat) (h:i<l.length),p l[i]=true:=by
 rw[qJ];refine⟨fun h i g=>h _ (qt g),fun h a j=>?_⟩;obtain⟨i,g,rfl⟩:=List.getElem_of_mem j;exact h i g
theorem J7{C:Type}{l:List C}{p:C->Bool}{i:Nat}(h:i<l.length)(g:p l[i]=false):l.all p=false:=by
 rw[<-Bool.not_eq_true,J6];intro j;have:=j i h;simp[g]at this
end E9
namespace Y13
open Y1 Y2 P1 Y6
def Ye(c:Ck)(s:Scp)(n:Nd):Res:=
 if (c.ts.preds.any fun p=>decide (p.name=n.name))=true then
  match zb c n.name with
  |none => .error (45,n.pos)
  |some p=>match c.ts.preds[p]? with
   |none => .error (45,n.pos)
   |some g=>if g.params.length=n.kids.length then z6 c s n.pos g.params n.kids else .error (45,n.pos)
 else .error (40,n.pos)
def endC:Res->AEnd
 | .ok _ => .ret (.tup [])
 | .error e => .pan (JT e.1 e.2)
@[go_sem] theorem endC_ok(k:Option Kd):endC (.ok k) = .ret (.tup []):=rfl
@[go_sem] theorem qnP(e:Dg):endC (.error e) = .pan (JT e.1 e.2):=rfl
theorem qeY{lo sz:Nat}{mu:Mu}{av:AV}{xs:List (List AV)}(h:OwnF lo mu sz av xs)(w:zX sz xs)(hf:∀ r,r∈xs->∀ c,c∈r->HF c):Rd (cutM (fun i=>decide (lo<=i)) mu 0) av (.lst false xs):=by
 obtain⟨g,j,o⟩:=h;refine Own.rd (sz:=sz) ?_ w hf;rcases g with rfl|⟨b,rfl,l⟩
 .exact .inl rfl
 .refine .inr ⟨b,rfl,?_⟩
  rw[jI,l];simp[j b _ _ _ rfl]
end Y13
namespace Y14
open P1 P2
structure Wf (ns:Nat) (env:List (ByteArray×Int)):Prop where
 len:env.length<=1000000
 r:∀ p,p∈env->0<=p.2/\p.2<ns
theorem kU{ns:Nat}{env:List (ByteArray×Int)}(h:Wf ns env):ScOk ns (yL env):=by
 have:∀(l:List (ByteArray×Int)) (s:Scp),(∀ p,p∈l->0<=p.2/\p.2<(ns:Int))->ScOk ns s->ScOk ns (l.foldl (fun s p=>(p.1,kOf [p.2]) :: s) s):=by
  intro l;induction l with
  |nil=>intro s _ i;exact i
  |cons a l t =>
   intro s j i;refine t _ (fun p C=>j p (qK _ C)) fun v g=>?_
   rcases qu.1 g with rfl|g
   .exact ⟨J2 zSp zSp (fun x o=>by rw[qN]at o;subst o;exact j a (qR ..)),rfl⟩
   .exact i v g
 exact this env [] h.r fun v g=>absurd g qD
end Y14
namespace Y15
section
variable {C:Type}
def repL(g:C->C->Bool)(l:List C):List Bool:=(qo l.length).map fun i=>match l[i]? with|some x=>(l.take i).any fun y=>g x y|none=>false
theorem uO(g:C->C->Bool)(l:List C):(repL g l).length=l.length:=by simp[repL]
theorem kV(g:C->C->Bool)(l:List C){i:Nat}(h:i<l.length):(repL g l)[i]?=some ((l.take i).any fun y=>g l[i] y):=by
 simp[repL,h]
end
end Y15
namespace Y16
open P1 Y1 Y9 Y15
abbrev cDg(d:Dg):List AV:=[aI d.1,aI d.2]
def dups(l:List Bool):List Dg:=(l.filter id).map fun _=>(41,0)
def repB{C:Type}(g:C->C->Bool)(l:List C)(i:Nat):List Bool:=((repL g l).take (i+1)).drop i
def rp(d:Dg):List Dg:=if d.1=0 then [] else [d]
def jP(ts:TS)(i:Nat):List Dg:=match ts.preds[i]? with
 |some p=>dups (repB (fun x y:Pd=>decide (x.name=y.name)) ts.preds i)++(dups (repL (fun x y:ByteArray×Int=>decide (x.1=y.1)) p.params)++rp (jN (mkCk ts i) p.params p.body))
 |none=>[]
def uP(ts:TS)(g:List (ByteArray×Nd))(i:Nat):List Dg:=match g[i]? with
 |some f=>dups (repB (fun x y:ByteArray×Nd=>decide (x.1=y.1)) g i)++rp (ye ts [] f.2)
 |none=>[]
def yW(ts:TS):List Dg:=
 dups (repL (fun x y:ByteArray×Bool=>decide (x.1=y.1)) ts.sorts)++(dups (repL (fun x y:Fld=>decide (x.name=y.name)&&decide (x.sorts=y.sorts)) ts.fields) ++
  ((qo ts.preds.length).flatMap (jP ts)++(qo ts.facts.length).flatMap (uP ts ts.facts)))
abbrev lDg(l:List Dg):AV := .lst false (l.map cDg)
theorem v8(l:List Bool):(dups l).length<=l.length:=by
 unfold dups;rw[zJ];exact List.length_filter_le _ _
theorem kW(d:Dg):(rp d).length<=1:=by unfold rp;split<;>simp
theorem Wg(f:Nat->List Dg)(hf:∀ i,(f i).length<=10):∀ k,((qo k).flatMap f).length<=10*k
 | 0=>zSp
 |k+1=>by
  rw[List.range_succ,List.flatMap_append,qU];have:=Wg f hf k;have:=hf k;simp only[wC,List.flatMap_nil,List.append_nil];omega
theorem kX{C:Type}(g:C->C->Bool)(l:List C)(i:Nat):(repB g l i).length<=1:=by
 unfold repB;rw[List.length_drop,vH];omega
theorem kY{ts:TS}(h:okTS ts)(i:Nat):(jP ts i).length<=10:=by
 unfold jP;split
 .rename_i p g
  have l:=(h.pl p (qZ g)).1;have o:=v8 (repB (fun x y:Pd=>decide (x.name=y.name)) ts.preds i);have r:=kX (fun x y:Pd=>decide (x.name=y.name)) ts.preds i;have j:=v8 (repL (fun x y:ByteArray×Int=>decide (x.1=y.1)) p.params);rw[uO]at j;have t:=kW (jN (mkCk ts i) p.params p.body);simp only[qU];omega
 .simp
theorem qeZ(ts:TS)(g:List (ByteArray×Nd))(i:Nat):(uP ts g i).length<=10:=by
 unfold uP;split
 .rename_i f hf
  have j:=v8 (repB (fun x y:ByteArray×Nd=>decide (x.1=y.1)) g i);have l:=kX (fun x y:ByteArray×Nd=>decide (x.1=y.1)) g i;have o:=kW (ye ts [] f.2);simp only[qU];omega
 .simp
end Y16
namespace YU
open Go.RowKit
end YU
namespace YV
end YV
namespace YW
open P2 Y2 Y3
theorem okKd.le64{ns:Nat}{k:Kd}(h:okKd ns k)(C:ns<=4):k.ts.length<=64:=by
 have o:∀ t,t∈k.ts->t∈([0,1,2,3]:List Int).flatMap fun a=>([0,1,2,3]:List Int).flatMap fun b=>([0,1,2,3]:List Int).map fun c=>[a,b,c]:=fun t I=>by
  obtain⟨l,rfl,j,i⟩:=h.ts t I;have J:=h.ar.2;have g:∀ x:Int,0<=x->x<ns->x∈([0,1,2,3]:List Int):=fun x p r=>zSo
  match l,j,i with
  | [],j,i=>simp[pad]
  | [a],j,i =>
   have:=g a (i a zSp).1 (i a zSp).2;simp only[Qe,qk];exact⟨a,this,0,zSp,0,zSp,by simp[pad]⟩
  | [a,b],j,i =>
   have p:=g a (i a zSp).1 (i a zSp).2;have r:=g b (i b zSp).1 (i b zSp).2;simp only[Qe,qk];exact⟨a,p,b,r,0,zSp,by simp[pad]⟩
  | [a,b,c],j,i =>
   have p:=g a (i a zSp).1 (i a zSp).2;have r:=g b (i b zSp).1 (i b zSp).2;have P:=g c (i c zSp).1 (i c zSp).2;simp only[Qe,qk];exact⟨a,p,b,r,c,P,by simp[pad]⟩
  |_ :: _ :: _ :: _ :: _,j,i=>simp at j;omega
 have:=List.Nodup.length_le_of_subset h.nd o;simpa using this
end YW
namespace YX
open P1 Y1
structure IV where
 arg:Option Nd
 size:Int
 name:ByteArray
abbrev IEnv:=List (ByteArray×IV)
structure ISt where
 last:Int
 cost:Int
def nd0:Nd := .mk 0 ⟨#[]⟩ 0 [] 0
abbrev eN0:AV := .agg [aI 0,aS ⟨#[]⟩,aI 0,.lst true [],aI 0]
def payS(n:Int)(s:ISt):ISt:=⟨s.last,s.cost+n⟩
def wq(env:IEnv)(n:Nd)(s:ISt):Except Dg ((Nd×Int)×ISt):=
 match getK n.name env with
 |none => .ok ((n,1),s)
 |some v=>match v.arg with
  |none => .ok ((.mk n.op v.name n.n n.kids n.pos,1),s)
  |some a=>if s.cost+v.size<=4000 then .ok ((a,v.size),payS v.size s) else .error (2,0)
end YX
namespace Q1
open P2 Y1 Y2 Y6
abbrev aU(x:Int):AV := .sc (.int .u8 x)
theorem kindU(op:Int):qd qb 129 [aI op] (aU (kd op)):=by
 refine qSU call129 func129 rfl ?_;unfold kd;by_cases g:1<=op<;>by_cases i:op<=15<;>by_cases j:20<=op<;>by_cases l:op<=23<;>by_cases o:30<=op<;>by_cases p:op<=51<;>first|omega | (simp[go_sem,g,i,j,l,o,p];exact .zsc _)
def kwL:List ByteArray:=[⟨#[115,111,114,116]⟩,⟨#[111,114,100,101,114,101,100]⟩,⟨#[118,97,114]⟩,⟨#[102,105,101,108,100]⟩,⟨#[112,114,101,100]⟩,⟨#[102,97,99,116]⟩,⟨#[97,108,108]⟩,⟨#[115,111,109,101]⟩,⟨#[110,111]⟩,⟨#[111,110,101]⟩,⟨#[108,111,110,101]⟩,⟨#[97,108,119,97,121,115]⟩,⟨#[101,118,101,110,116,117,97,108,108,121]⟩,⟨#[97,102,116,101,114]⟩,⟨#[117,110,116,105,108]⟩,⟨#[110,111,110,101]⟩,⟨#[117,110,105,118]⟩,⟨#[105,100,101,110]⟩,⟨#[105,110]⟩,⟨#[110,111,116]⟩,⟨#[116,114,117,101]⟩,⟨#[102,97,108,115,101]⟩]
def kwB(s:ByteArray):Bool:=kwL.any fun x=>decide (x=s)
theorem qe0(s:ByteArray):qd qb 173 [aS s] (aB (kwB s)):=by
 refine qSU call173 func173 rfl ?_;have g:kwL.length=22:=rfl;refine qh.upK 22 (fun k st=>st.tm 0=aS s/\st.tm 3 = .lst true (kwL.map fun s=>[aS s])/\st.tm 4=aI k/\st.mu=[]/\∀ j x,j<k->kwL[j]?=some x->x≠s) ?_ ?_
 .refine ⟨zSi,?_,zSi,zSi,fun j x r=>absurd r zOm⟩
  simp[go_sem,kwL]
 .rintro k st hk ⟨I,C,J,P,hI⟩
  unfold kwB;generalize hK:kwL=K at *
  by_cases R:k=22
  .subst R
   have T:(K.any fun x=>decide (x=s))=false:=by
    rw[List.any_eq_false];intro x p;obtain⟨j,r⟩:=List.mem_iff_getElem?.1 p;simpa using hI j x (by have:=(qe.1 r).1;omega) r
   rw[T];simp[go_sem,C,J,P,g];exact .zsc _
  .have t:k<K.length:=by omega
   have i:k<22:=zOm;have l:(k:Int)<22:=zOm;have w1:=zWk k;by_cases p:K[k]=s
   .have U:(K.any fun x=>decide (x=s))=true:=List.any_eq_true.2 ⟨K[k],qt t,zUs p⟩
    rw[U];simp[go_sem,I,C,J,P,g,i,l,p];exact .zsc _
   .simp [go_sem,I,C,J,P,g,i,l,jM p,w1]
    try refine⟨i,Keep.mk' ?_⟩
    try refine Keep.mk' ?_
    refine⟨zS1 I,zS1 C,zSi,zSi,fun j x r o=>?_⟩;by_cases a0:j=k
    .subst a0
     rw[qv t]at o;cases o;exact p
    .exact hI j x zOm o
def bys(l:List Int):ByteArray:=⟨(l.map fun x=>UInt8.ofNat x.toNat).toArray⟩
theorem qe1(l:List Int)(x:Int):bys (l++[x])=bys l++⟨#[UInt8.ofNat x.toNat]⟩:=by
 apply ByteArray.ext;simp[bys]
theorem kZ(l:List Int):(bys l).size=l.length:=by simp[bys,ByteArray.size]
def shpV(op:Int)(nk:Nat):AV:=match shp op nk with
 |some l => .tup [aS (bys l),aB true]
 |none => .tup [aS ⟨#[]⟩,aB false]
theorem J8(mu:Mu)(a:ByteArray)(b:Bool):Rd mu (.tup [aS a,aB b]) (.tup [aS a,aB b]) := .hf _ (HF.tup fun c g=>by simp at g;rcases g with rfl|rfl<;>exact HF.sc _)
theorem qe2(nk:Nat)(J:nk<=100000):qd qb 128 [aI 47,aI nk] (shpV 47 nk):=by
 refine qSU call128 func128 rfl ?_;refine qh.upK (min nk 401) (fun k st=>st.tm 1=aI nk/\st.tm 6=aS (bys (zp k 101))/\st.tm 7=aI k) ?_ ?_
 .exact ⟨zSi,by simp[go_sem,bys],zSi⟩
 .rintro k st hk ⟨i,j,l⟩
  by_cases o:k=min nk 401
  .have P:shpV 47 nk = .tup [aS (bys (zp k 101)),aB true]:=by
    rw[o];rfl
   rw[P];by_cases h1:nk<=k
   .have p:¬k<nk:=by omega
    simp[go_sem,i,j,l,p];exact J8 _ _ _
   .have R:k=401:=by omega
    subst R;have h3:401<nk:=zOm;have T:(401:Int)<nk:=zOm;simp[go_sem,i,j,l,T];exact J8 _ _ _
  .have r:k<nk:=by omega
   have I:k<401:=zOm;have g:(k:Int)<401:=zOm;have U:=zWk k;have t:(bys (zp k 101)).size+1<=9223372036854775807:=by rw[kZ,List.length_replicate];omega
   have C:bys (zp k 101)++⟨#[101]⟩=bys (zp (k+1) 101):=by
    rw[List.replicate_succ',qe1];rfl
   generalize bys (zp k 101)=B at *
   simp[go_sem,i,j,l,r,g,t,U];refine⟨zOm,Keep.mk' ?_⟩;exact⟨zS1 i,zS1 C,zSi⟩
theorem qe3(op:Int)(nk:Nat)(g:nk<=100000):qd qb 128 [aI op,aI nk] (shpV op nk):=by
 by_cases h47:op=47
 .subst h47;exact qe2 nk g
 by_cases o:1<=op/\op<=51
 .have j:op=1\/op=2\/op=3\/op=4\/op=5\/op=6\/op=7\/op=8\/op=9\/op=10\/op=11\/op=12\/op=13\/op=14\/op=15\/op=16\/op=17\/op=18\/op=19\/op=20\/op=21\/op=22\/op=23\/op=24\/op=25\/op=26\/op=27\/op=28\/op=29\/op=30\/op=31\/op=32\/op=33\/op=34\/op=35\/op=36\/op=37\/op=38\/op=39\/op=40\/op=41\/op=42\/op=43\/op=44\/op=45\/op=46\/op=48\/op=49\/op=50\/op=51:=by omega
  rcases j with rfl|rfl|rfl|rfl|rfl|rfl|rfl|rfl|rfl|rfl|rfl|rfl|rfl|rfl|rfl|rfl|rfl|rfl|rfl|rfl|rfl|rfl|rfl|rfl|rfl|rfl|rfl|rfl|rfl|rfl|rfl|rfl|rfl|rfl|rfl|rfl|rfl|rfl|rfl|rfl|rfl|rfl|rfl|rfl|rfl|rfl|rfl|rfl|rfl|rfl
  all_goals
   refine qSV call128 func128 rfl ?_;simp[go_sem,shpV,shp];exact J8 _ _ _
 .have i:∀ c:Int,1<=c->c<=51->(op=c)=False:=fun c p r=>eq_false zOm
  have l:shp op nk=none:=by
   unfold shp
   repeat rw[zIn]
  rw[shpV,l];refine qSV call128 func128 rfl ?_;simp[go_sem,i];exact J8 _ _ _
end Q1
namespace Q2
open P2 Y1 Q1
def fitB(op:Int)(ks:List Nd):Bool:=decide (shp op ks.length=some (ks.map fun k=>kd k.op))
theorem qe4(l:List Int)(g:∀ x,x∈l->0<=x/\x<256)(i:Nat)(h:i<l.length)(j:i<(bys l).data.size):(((bys l).data[i]).toNat:Int)=l[i]:=by
 have o:=g l[i] (qt h);simp only[bys,List.getElem_toArray,List.getElem_map,UInt8.toNat_ofNat'];omega
theorem qe5{op:Int}{nk:Nat}{l:List Int}(h:shp op nk=some l):∀ x,x∈l->0<=x/\x<256:=by
 unfold shp at h
 repeat' split at h
 all_goals first
  | (cases h;done)
  | (cases h;intro x g;cases g;done)
  | (cases h;intro x g;rw[List.mem_replicate]at g;omega)
  | (cases h;intro x g;simp at g;omega)
theorem fitsU(op:Int)(ks:List Nd)(hk:ks.length<=1000):qd qb 82 [aI op,lNd ks] (aB (fitB op ks)):=by
 have C:=qe3 op ks.length zOm;unfold shpV at C;cases o:shp op ks.length with
 |none =>
  simp only[o]at C;have hf:fitB op ks=false:=by simp[fitB,o]
  rw[hf];refine qSU call82 func82 rfl ?_;refine qc.zP C (.zs (.zs .nil)) ?_;exact .zsc _
 |some l =>
  simp only[o]at C;have i:=kZ l;have I:=qe4 l (qe5 o);generalize bys l=B at *
  refine qSU call82 func82 rfl ?_;refine qc.pure C (.zs (.zs .nil)) ?_;by_cases t:l.length=ks.length
  .simp [go_sem,i,t]
   refine qh.upK ks.length (fun k st=>st.tm 1=lNd ks/\st.tm 5=aS B/\st.tm 7=aI k/\∀ j,j<k->(ks[j]?).map (fun k=>kd k.op)=l[j]?) ?_ ?_
   .exact ⟨zSi,zSi,zSi,fun j P=>absurd P zOm⟩
   .rintro k st hk ⟨R,U,J,hI⟩
    by_cases a0:k=ks.length
    .subst a0
     have hf:fitB op ks=true:=by
      rw[fitB,o,decide_eq_true];congr 1;apply jx;intro j;by_cases P:j<ks.length
      .rw [zm,hI j P]
      .rw [yC zOm,yC zSo]
     rw[hf];simp[go_sem,R,J];exact .zsc _
    .have g:k<ks.length:=by omega
     have w1:=zWk k;simp[go_sem,R,J,g];refine qg.intro zKr ?_;simp[go_sem,R,J,g];refine qc.pure (kindU ks[k].op) (.zs .nil) ?_;have p:k<l.length:=zOm;have a1:k<B.data.size:=by have:B.data.size=l.length:=i;omega
     have hg:=I k p a1;by_cases T:kd ks[k].op=l[k]
     .have r:kd ks[k].op=((B.data[k]).toNat:Int):=by rw[hg];exact T
      simp[go_sem,U,J,g,i,t,r,w1];refine Keep.mk' ?_;refine⟨zS1 R,zS1 U,zSi,fun j P=>?_⟩;by_cases a2:j=k
      .subst a2
       rw[qv g,qv p,qS,T]
      .exact hI j zOm
     .have r:¬kd ks[k].op=((B.data[k]).toNat:Int):=by rw[hg];exact T
      have hf:fitB op ks=false:=by
       rw[fitB,o,decide_eq_false];intro e;injection e with e;apply T;have:l[k]?=some (kd ks[k].op):=by rw[e,zm,qv g,qS]
       rw[qv p]at this;simpa using this.symm
      rw[hf];simp[go_sem,U,J,g,i,t,r];exact .zsc _
  .have hf:fitB op ks=false:=by
    rw[fitB,o,decide_eq_false];intro e;injection e with e;rw[e]at t;simp at t
   rw[hf];simp[go_sem,i,t];exact .zsc _
end Q2
namespace Q3
open Y1 Q1
def letC(c:Int):Bool:=(decide (97<=c)&&decide (c<=122))||(decide (65<=c)&&decide (c<=90))
def chB(i:Nat)(c:Int):Bool:=letC c||(!decide (i=0)&&(decide (c=95)||(decide (48<=c)&&decide (c<=57))))
def ym(s:ByteArray):Bool:=decide (1<=s.size)&&decide (s.size<=16)&&!kwB s&&(qo s.size).all fun i=>match s.data[i]? with|some c=>chB i c.toNat|none=>true
theorem qe6(s:ByteArray):qd qb 127 [aS s] (aB (ym s)):=by
 refine qSV call127 func127 rfl ?_;by_cases h0:s.size=0
 .have r:ym s=false:=by simp[ym,h0]
  rw[r];simp[go_sem,h0];exact .zsc _
 by_cases aa:16<s.size
 .have r:ym s=false:=by
   have:¬s.size<=16:=zOm;simp[ym,this]
  rw[r];have l:(16:Int)<s.size:=zOm;simp[go_sem,h0,l];exact .zsc _
 have l:¬(16:Int)<s.size:=zOm;simp[go_sem,h0,l];refine qc.pure (qe0 s) (.zs .nil) ?_;cases hk:kwB s with
 |true =>
  have r:ym s=false:=by simp[ym,hk]
  rw[r];simp[go_sem];exact .zsc _
 |false =>
  simp[go_sem];refine qh.upK s.size (fun k st=>st.tm 0=aS s/\st.tm 3=aI k/\∀ j c,j<k->s.data[j]?=some c->chB j c.toNat=true) ?_ ?_
  .exact ⟨zSi,zSi,fun j c hj=>absurd hj zOm⟩
  .rintro k st ab ⟨e0,e2,hI⟩
   by_cases a0:k=s.size
   .have r:ym s=true:=by
     simp only[ym,hk,Bool.not_false,Bool.and_true,qq,decide_eq_true_eq,qJ,yj];refine⟨⟨zOm,zOm⟩,fun i hi=>?_⟩;cases hc:s.data[i]? with
     |none=>rfl
     |some c=>exact hI i c zOm hc
    rw[r];simp[go_sem,e0,e2,a0];exact .zsc _
   .have o:k<s.size:=by omega
    have T:k<s.data.size:=o;have w1:=zWk k;have z1:qs.wrap 1=1:=rfl;have U:s.data[k]?=some s.data[k]:=Array.getElem?_eq_getElem T;simp[go_sem,e0,e2,o];generalize hc:((s.data[k]).toNat:Int)=c at *
    cases g:chB k c with
    |false =>
     have r:ym s=false:=by
      rw[ym,Bool.and_eq_false_iff];refine .inr (List.all_eq_false.2 ⟨k,yj.2 o,?_⟩);simp only[U,hc,g];simp
     rw[r];by_cases C:97<=c<;>by_cases I:c<=122<;>by_cases J:65<=c<;>by_cases P:c<=90<;>by_cases R:c=95<;>by_cases a6:c<48<;>by_cases a7:57<c<;>by_cases t:k=0<;>first|omega | (exfalso;simp[chB,letC,C,I,J,P,R,a6,a7,t]at g;done) | (exfalso;simp[chB,letC,C,I,J,P,R,a6,a7,t]at g;omega)|skip
     all_goals
      simp[go_sem,e2,C,I,J,P,R,a6,a7,t];exact .zsc _
    |true =>
     have p:∀ j d,j<k+1->s.data[j]?=some d->chB j d.toNat=true:=fun j d hj hd=>by
      by_cases a9:j=k
      .subst a9
       rw[U]at hd;cases hd;rw[hc];exact g
      .exact hI j d zOm hd
     by_cases C:97<=c<;>by_cases I:c<=122<;>by_cases J:65<=c<;>by_cases P:c<=90<;>by_cases R:c=95<;>by_cases a6:c<48<;>by_cases a7:57<c<;>by_cases t:k=0<;>first|omega | (exfalso;simp[chB,letC,C,I,J,P,R,t]at g;done) | (exfalso;simp[chB,letC,C,I,J,P,R,t]at g;omega)|skip
     all_goals
      simp[go_sem,e2,C,I,J,P,R,a6,a7,t,w1,z1]
      first
       |exact⟨o,Keep.mk' ⟨zS1 e0,zSi,p⟩⟩
       | (subst t;exact⟨o,Keep.mk' ⟨zS1 e0,zSi,fun j d hj hd=>p j d zOm hd⟩⟩)
end Q3
namespace Q4
open P2 Y1 Y2 Y9 Q2 Q3
def ua(op:Int):Bool:=decide (op=1)||decide (op=15)||decide (op=45)||decide (op=46)||decide (op=47)
def numB(op n:Int):Bool:=if op=2 then decide (1<=n)&&decide (n<=3) else if op=20 then decide (-64<=n)&&decide (n<=64) else decide (n=0)
def ownB(n:Nd):Bool:=if ua n.op=ym n.name/\(ua n.op=true\/n.name=⟨#[]⟩) then numB n.op n.n else false
theorem ownU(n:Nd):qd qb 81 [eNd n] (aB (ownB n)):=by
 refine qSV call81 func81 rfl ?_;have o:=qe6 n.name;generalize p:ym n.name=N at *
 by_cases r:n.op=1\/n.op=15\/n.op=45\/n.op=46\/n.op=47
 .have g:ua n.op=true:=by rcases r with h|h|h|h|h<;>simp[ua,h]
  have t:¬n.op=2:=zOm;have i:¬n.op=20:=zOm;rcases r with h|h|h|h|h
  all_goals
   simp[go_sem,h];refine qc.pure o (.zs .nil) ?_;cases N with
   |true =>
    have j:ownB n=decide (n.n=0):=by simp[ownB,g,p,numB,t,i]
    rw[j];simp[go_sem,h];exact .zsc _
   |false =>
    have j:ownB n=false:=by simp[ownB,g,p]
    rw[j];simp[go_sem];exact .zsc _
 .simp only[not_or]at r
  obtain⟨d1,d2,d3,d4,d5⟩:=r;have g:ua n.op=false:=by simp[ua,d1,d2,d3,d4,d5]
  simp[go_sem,d1,d2,d3,d4,d5];refine qc.pure o (.zs .nil) ?_;cases N with
  |true =>
   have j:ownB n=false:=by simp[ownB,g,p]
   rw[j];simp[go_sem];exact .zsc _
  |false =>
   by_cases l:n.name=⟨#[]⟩
   .have j:ownB n=numB n.op n.n:=by
     unfold ownB;rw[if_pos ⟨by rw[g,p],.inr l⟩]
    rw[j];unfold numB;by_cases t:n.op=2
    .by_cases C:1<=n.n<;>by_cases I:n.n<=3<;>(simp[go_sem,t,l,C,I];exact .zsc _)
    .by_cases i:n.op=20
     .by_cases C : -64<=n.n<;>by_cases I:n.n<=64<;>(simp[go_sem,i,l,C,I];exact .zsc _)
     .simp [go_sem,t,i,l]
      exact .zsc _
   .have j:ownB n=false:=by simp[ownB,g,l]
    rw[j];have J:n.name.toList.isEmpty=false:=by simpa using jM l
    simp[go_sem,J];exact .zsc _
mutual
def cntN:Nd->Int->Int
 | .mk _ _ _ ks _,left=>yg ks left 1
def yg:List Nd->Int->Int->Int
 | [],_,sum=>sum
 |k :: ks,left,sum=>if sum<=left then yg ks left (sum+cntN k (left-sum)) else sum
end
theorem k5(n:Nd)(left:Int):cntN n left=yg n.kids left 1:=by
 obtain⟨op,t,i,ks,p⟩:=n;simp[cntN,Nd.kids]
mutual
theorem Wh:∀(n:Nd) (left:Int),1<=cntN n left/\(cntN n left<=left+1\/cntN n left=1)
 | .mk _ _ _ ks _,left=>by
  simp only[cntN];have:=Wi ks left 1;omega
theorem Wi:∀(ks:List Nd) (left sum:Int),sum<=yg ks left sum/\(yg ks left sum<=left+1\/yg ks left sum=sum)
 | [],left,sum=>by simp[yg]
 |k :: ks,left,sum=>by
  simp only[yg];split
  .have g:=Wh k (left-sum)
   have i:=Wi ks left (sum+cntN k (left-sum));omega
  .omega
end
theorem k6:∀(m:Nat) (n:Nd),szN n<=m->∀ left:Int,-1000000<=left/\left<=1000000->qd qb 43 [eNd n,aI left] (aI (cntN n left))
 | 0,n,J,_,_=>by obtain⟨op,nm,i,ks,p⟩:=n;simp[szN]at J
 |m+1,n,J,left,hl=>by
  have T:∀ k,k∈n.kids->∀ left:Int,-1000000<=left/\left<=1000000->qd qb 43 [eNd k,aI left] (aI (cntN k left)):=fun k P =>
   k6 m k (zW1 (yv P))
  rw[k5];generalize U:yg n.kids left 1=R;refine qSU call43 func43 rfl ?_;refine qh.upK n.kids.length (fun k st=>∃ sum:Int,st.tm 1=aI left/\st.tm 2 = .ip (cNd n)/\st.tm 5=aI sum/\st.tm 6=aI k/\(k:Int)+1<=sum/\(sum<=left+1\/sum=1)/\yg (n.kids.drop k) left sum=R) ?_ ?_
  .exact ⟨1,zSi,zSi,zSi,zSi,zOm,zOm,zUs U⟩
  .rintro k st P ⟨sum,t,l,C,o,a0,a1,j⟩
   by_cases I:k=n.kids.length
   .subst I
    rw[yR]at j;simp only[yg]at j;subst j;simp[go_sem,l,C,o];exact .zsc _
   .have g:k<n.kids.length:=by omega
    rw[zD g]at j;simp only[yg]at j;by_cases r:sum<=left
    .rw [if_pos r]at j
     have w1:=zWk k;have w2:qs.wrap (left-sum)=left-sum:=zWr;have a2:=Wh n.kids[k] (left-sum);have w3:qs.wrap (sum+cntN n.kids[k] (left-sum))=sum+cntN n.kids[k] (left-sum):=zWr;simp[go_sem,t,l,C,o,g,r,w2];refine qc.pure (T n.kids[k] (qt g) (left-sum) ⟨zOm,zOm⟩) (.zk (za _) (.zs .nil)) ?_;simp[go_sem,o,w1,w3];refine⟨g,Keep.mk' ?_⟩;exact⟨sum+cntN n.kids[k] (left-sum),zS1 t,zS1 l,zSi,zSi,zOm,zOm,j⟩
    .rw [if_neg r]at j
     subst j;simp[go_sem,t,l,C,o,g,r];exact .zsc _
mutual
def forN:Nd->Int->Bool
 | .mk op t i ks p,g=>if g<1 then false else ownB (.mk op t i ks p)&&(fitB op ks&&vq ks (g-1))
def vq:List Nd->Int->Bool
 | [],_=>true
 |k :: ks,g=>forN k g&&vq ks g
end
theorem J9(n:Nd)(g:Int):forN n g=if g<1 then false else ownB n&&(fitB n.op n.kids&&vq n.kids (g-1)):=by
 obtain⟨op,t,i,ks,p⟩:=n;simp[forN,Nd.kids,Nd.op]
theorem k7:∀(m:Nat) (n:Nd),szN n<=m->yf n->∀ g:Int,-1000000<=g/\g<=1000000->qd qb 44 [eNd n,aI g] (aB (forN n g))
 | 0,n,U,_,_,_=>by obtain⟨op,nm,i,ks,p⟩:=n;simp[szN]at U
 |m+1,n,U,hs,g,hl=>by
  have ih:∀ k,k∈n.kids->∀ g:Int,-1000000<=g/\g<=1000000->qd qb 44 [eNd k,aI g] (aB (forN k g)):=fun k I =>
   k7 m k (zW1 (yv I)) (hs.kid I)
  have C:=hs.len;rw[J9];have l:=ownU n;have o:=fitsU n.op n.kids C;by_cases j:g<1
  .rw [if_pos j]
   refine qSV call44 func44 rfl ?_;simp[go_sem,j];exact .zsc _
  rw[if_neg j];cases ho:ownB n with
  |false =>
   rw[ho]at l;refine qSV call44 func44 rfl ?_;simp[go_sem,j];refine qc.zP l (.zk (za _) .nil) ?_;exact .zsc _
  |true =>
   rw[ho]at l;cases hf:fitB n.op n.kids with
   |false =>
    rw[hf]at o;refine qSV call44 func44 rfl ?_;simp[go_sem,j];refine qc.zP l (.zk (za _) .nil) ?_;refine qc.zP o (.zs (.zk (kq _) .nil)) ?_;exact .zsc _
   |true =>
    rw[hf]at o;have wl:qs.wrap (g-1)=g-1:=zWr;generalize hR:vq n.kids (g-1)=R;simp only[Bool.true_and];refine qSV call44 func44 rfl ?_;simp[go_sem,j];refine qc.zP l (.zk (za _) .nil) ?_;refine qc.zP o (.zs (.zk (kq _) .nil)) ?_;refine qh.upK n.kids.length (fun k st=>st.tm 1=aI g/\st.tm 2 = .ip (cNd n)/\st.tm 5=aI k/\vq (n.kids.drop k) (g-1)=R) ?_ ?_
    .exact ⟨zSi,zSi,zSi,zUs hR⟩
    .rintro k st I ⟨e1,J,P,r⟩
     by_cases T:k=n.kids.length
     .subst T
      rw[yR]at r;simp only[vq]at r;subst r;simp[go_sem,J,P];exact .zsc _
     .have t:k<n.kids.length:=by omega
      have w1:=zWk k;rw[zD t]at r;simp only[vq]at r;have hi:=ih n.kids[k] (qt t) (g-1) ⟨zOm,zOm⟩;simp[go_sem,e1,J,P,t,wl];refine qc.pure hi (.zk (za _) (.zs .nil)) ?_;cases hq:forN n.kids[k] (g-1) with
      |true =>
       rw[hq,Bool.true_and]at r;simp[go_sem,P,w1];refine⟨t,Keep.mk' ?_⟩;exact⟨zS1 e1,zS1 J,zSi,r⟩
      |false =>
       rw[hq,Bool.false_and]at r;subst r;simp[go_sem];exact .zsc _
theorem k8:∀(ks:List Nd) (left sum:Int),0<=sum->yg ks left sum<=left->sum+ks.length<=yg ks left sum/\∀ k,k∈ks->∃ l',l'<=left/\cntN k l'<=l'
 | [],left,sum,_,h=>by simp[yg]
 |k :: ks,left,sum,l,h=>by
  simp only[yg]at h⊢;split at h
  .rename_i j
   rw[if_pos j];have o:=Wh k (left-sum);have i:=k8 ks left (sum+cntN k (left-sum)) zOm h;have p:=i.1;refine⟨by simp only[zq];omega,fun q g=>?_⟩;rcases qu.1 g with rfl|g
   .exact ⟨left-sum,zOm,zOm⟩
   .exact i.2 q g
  .omega
theorem k9:∀(m:Nat) (n:Nd) (left:Int),szN n<=m->left<=1000->cntN n left<=left->yf n
 | 0,n,_,g,_,_=>by obtain⟨op,nm,i,ks,p⟩:=n;simp[szN]at g
 |m+1,n,left,g,C,h=>by
  rw[k5]at h;obtain⟨I,l⟩:=k8 n.kids left 1 zOm h;refine .mk n zOm fun k j=>?_
  obtain⟨o,r,t⟩:=l k j;exact k9 m k o (zW1 (yv j)) zOm t
def qY(n:Nd):Bool:=decide (cntN n 400<=400)&&forN n 24
theorem Wj(n:Nd):qd qb 15 [eNd n] (aB (qY n)):=by
 have i:=k6 (szN n) n (qn _) 400 zOm;by_cases h:cntN n 400<=400
 .have j:=k9 (szN n) n 400 (qn _) zOm h
  have hf:=k7 (szN n) n (qn _) j 24 zOm;have g:qY n=forN n 24:=by simp[qY,h]
  rw[g];refine qSU call15 func15 rfl ?_;refine qc.pure i (.zk (za _) (.zs .nil)) ?_;simp[go_sem,h];refine qc.zP hf (.zk (za _) (.zs .nil)) ?_;exact .zsc _
 .have g:qY n=false:=by simp[qY,h]
  rw[g];refine qSU call15 func15 rfl ?_;refine qc.pure i (.zk (za _) (.zs .nil)) ?_;simp[go_sem,h];exact .zsc _
theorem pa{ks:List Nd}{i:Int}(h:vq ks i=true):∀ k,k∈ks->forN k i=true:=by
 induction ks with
 |nil=>intro k g;simp at g
 |cons a l j =>
  simp only[vq,qq]at h;intro k g;rcases qu.1 g with rfl|g
  .exact h.1
  .exact j h.2 k g
theorem pb:∀(m:Nat) (n:Nd) (j:Int),szN n<=m->forN n j=true->WfN n
 | 0,n,_,l,_=>by obtain⟨op,nm,i,ks,p⟩:=n;simp[szN]at l
 |m+1,n,j,l,h=>by
  rw[J9]at h;split at h
  .exact absurd h zSp
  .simp only[qq]at h
   obtain⟨g,r,t⟩:=h;refine .mk n ?_ (fun C=>?_) fun k o=>pb m k (j-1) (zW1 (yv o)) (pa t k o)
   .simpa [fitB] using r
   .unfold ownB at g
    split at g
    .rw [numB,if_pos C]at g
     simpa using g
    .exact absurd g zSp
theorem ub{n:Nd}(h:qY n=true):WfN n:=by
 simp only[qY,qq]at h;exact pb (szN n) n 24 (qn _) h.2
end Q4
namespace Q5
theorem qe7(a b:List Int)(ha:a.length<=1000000):qd qb 114 [lI a,lI b] (aB (decide (a=b))):=by
 refine qSV call114 func114 rfl ?_;by_cases j:a.length=b.length
 case neg =>
  rw[decide_eq_false (by rintro rfl;exact j rfl)];simp[go_sem,j];exact .zsc _
 simp[go_sem,j];refine qh.upK a.length (fun k st=>st.tm 0=lI a/\st.tm 1=lI b/\st.tm 5=aI k/\∀(i:Nat) (h:i<a.length) (o:i<b.length),i<k->a[i]=b[i]) ?_ ?_
 .exact ⟨zSi,zSi,zSi,fun i h o P=>absurd P zOm⟩
 .rintro k st hk ⟨l,C,p,R⟩
  by_cases T:k=a.length
  .rw [decide_eq_true (List.ext_getElem j fun i h o=>R i h o zOm)]
   have I:k=b.length:=zOm;simp[go_sem,l,p,I,j];exact .zsc _
  .have U:k<a.length:=by omega
   have r:k<b.length:=zOm;have w1:=zWk k;have g:(k:Int)<(b.length:Int):=zOm;by_cases t:a[k]=b[k]
   .simp [go_sem,l,p,j,g]
    try refine qg.intro zKr ?_
    simp[go_sem,l,C,p,r,j,g,t,w1]
    try refine⟨zOm,Keep.mk' ?_⟩
    try refine Keep.mk' ?_
    refine⟨zS1 l,zS1 C,zSi,fun i h o P=>?_⟩;by_cases J:i=k
    .subst J;exact t
    .exact R i h o zOm
   .rw [decide_eq_false (fun e=>t (zP1 e))]
    simp[go_sem,l,p,j,g]
    try refine qg.intro zKr ?_
    simp[go_sem,l,C,p,r,j,g,t];exact .zsc _
end Q5
namespace Q6
open Y1 Y9
mutual
def anyN(p:Nd->Bool):Nd->Bool
 | .mk op t i ks q=>p (.mk op t i ks q)||j6 p ks
def j6(p:Nd->Bool):List Nd->Bool
 | []=>false
 |k :: ks=>anyN p k||j6 p ks
end
theorem Va(p:Nd->Bool)(n:Nd):anyN p n=(p n||j6 p n.kids):=by
 obtain⟨op,t,i,ks,q⟩:=n;simp[anyN,Nd.kids]
theorem pf:∀(m:Nat) (n:Nd),szN n<=m->yf n->qd qb 120 [eNd n] (aB (anyN (fun n=>decide (n.op=47)) n))
 | 0,n,I,_=>by obtain⟨op,nm,i,ks,p⟩:=n;simp[szN]at I
 |m+1,n,I,J=>by
  have U:∀ k,k∈n.kids->qd qb 120 [eNd k] (aB (anyN (fun n=>decide (n.op=47)) k)):=fun k r =>
   pf m k (zW1 (yv r)) (J.kid r)
  have P:=J.len;rw[Va];generalize hR:j6 (fun n=>decide (n.op=47)) n.kids=R;refine qSV call120 func120 rfl ?_;by_cases t:n.op=47
  .simp [go_sem,t]
   exact .zsc _
  .rw [decide_eq_false t,Bool.false_or]
   simp[go_sem,t];refine qh.upK n.kids.length (fun k st=>st.tm 1 = .ip (cNd n)/\st.tm 3=aI k/\j6 (fun n=>decide (n.op=47)) (n.kids.drop k)=R) ?_ ?_
   .exact ⟨zSi,zSi,zUs hR⟩
   .rintro k st r ⟨l,o,j⟩
    by_cases C:k=n.kids.length
    .subst C
     rw[yR]at j;simp only[j6]at j;subst j;simp[go_sem,l,o];exact .zsc _
    .have g:k<n.kids.length:=by omega
     have w1:=zWk k;rw[zD g]at j;simp only[j6]at j;have hi:=U n.kids[k] (qt g);simp[go_sem,l,o,g,qO]
     try refine qg.intro zKr ?_
     try simp[go_sem,l,o,g,qO]
     refine qc.pure hi (.zk (za _) .nil) ?_;cases T:anyN (fun n=>decide (n.op=47)) n.kids[k] with
     |true =>
      rw[T,Bool.true_or]at j;subst j;simp[go_sem,l,o];exact .zsc _
     |false =>
      rw[T,Bool.false_or]at j;simp[go_sem,l,o,w1]
      try refine⟨g,Keep.mk' ?_⟩
      try refine Keep.mk' ?_
      exact⟨zS1 l,zSi,j⟩
end Q6
namespace Q7
open YF P1
def parB(ns:Nat)(l:List (ByteArray×Int)):Bool:=decide (l.length<=8)&&l.all fun p=>decide (0<=p.2)&&decide (p.2<ns)
theorem qe8(ts:TS)(l:List (ByteArray×Int)):qd qb 63 [eTS ts,lPm l] (aB (parB ts.sorts.length l)):=by
 refine qSV call63 func63 rfl ?_;by_cases U:l.length<=8
 case neg =>
  have i:parB ts.sorts.length l=false:=by simp[parB,U]
  have r:(8:Int)<l.length:=zOm;rw[i];simp[go_sem,r];exact .zsc _
 have r:¬(8:Int)<l.length:=zOm;simp[go_sem,r];refine qh.upK l.length (fun k st=>st.tm 1=lPm l/\st.tm 2 = .ip (cTS ts)/\st.tm 5=aI k/\∀ j p,j<k->l[j]?=some p->0<=p.2/\p.2<ts.sorts.length) ?_ ?_
 .exact ⟨zSi,zSi,zSi,fun j p C=>absurd C zOm⟩
 .rintro k st hk ⟨o,J,t,hI⟩
  by_cases P:k=l.length
  .have i:parB ts.sorts.length l=true:=by
    simp only[parB,qq,decide_eq_true_eq,qJ];refine⟨U,fun p i=>?_⟩;obtain⟨j,C⟩:=List.mem_iff_getElem?.1 i;exact hI j p (by have:=(qe.1 C).1;omega) C
   rw[i];simp[go_sem,o,t,P];exact .zsc _
  .have g:k<l.length:=by omega
   have w1:=zWk k;have hg:l[k]?=some l[k]:=qv g;by_cases hq:0<=l[k].2/\l[k].2<ts.sorts.length
   .have I:¬l[k].2<0:=by omega
    have R:¬(ts.sorts.length:Int)<=l[k].2:=zOm;simp[go_sem,o,t,g];refine qg.intro zKr ?_;simp[go_sem,o,J,t,g,I,R,w1]
    try refine⟨g,Keep.mk' ?_⟩
    try refine Keep.mk' ?_
    refine⟨zS1 o,zS1 J,zSi,fun j p C i=>?_⟩;by_cases T:j=k
    .subst T;rw[hg]at i;cases i;exact hq
    .exact hI j p zOm i
   .have i:parB ts.sorts.length l=false:=by
     rw[parB,Bool.and_eq_false_iff];refine .inr (List.all_eq_false.2 ⟨l[k],qt g,?_⟩);simp only[qq,decide_eq_true_eq];exact hq
    rw[i];by_cases I:l[k].2<0
    .simp [go_sem,o,t,g]
     refine qg.intro zKr ?_;simp[go_sem,o,t,g,I];exact .zsc _
    .have R:(ts.sorts.length:Int)<=l[k].2:=by omega
     simp[go_sem,o,t,g];refine qg.intro zKr ?_;simp[go_sem,o,J,t,g,I,R];exact .zsc _
theorem qe9{ns:Nat}{l:List (ByteArray×Int)}(h:parB ns l=true):l.length<=8/\∀ p,p∈l->0<=p.2/\p.2<ns:=by
 simp only[parB,qq,decide_eq_true_eq,qJ]at h;exact⟨h.1,fun p g=>h.2 p g⟩
end Q7
namespace Q8
open YF P1 P2 Y1 Y9 Q4 Q7
def limB(ts:TS):Bool:=decide (ts.sorts.length<=4)&&decide (ts.fields.length<=6)&&decide (ts.preds.length<=8)&&decide (ts.facts.length<=16)
def fldB(ns:Nat)(f:Fld):Bool:=decide (1<=f.sorts.length)&&decide (f.sorts.length<=3)&&f.sorts.all fun x=>decide (0<=x)&&decide (x<ns)
def z7(ts:TS):Bool:=limB ts&&(ts.fields.all (fldB ts.sorts.length)&&(ts.preds.all (fun p=>parB ts.sorts.length p.params&&qY p.body)&&ts.facts.all fun f=>qY f.2))
theorem qfA(ts:TS):qd qb 26 [eTS ts] (aB (z7 ts)):=by
 refine qSV call26 func26 rfl ?_;by_cases h1:ts.sorts.length<=4
 case neg =>
  have hf:z7 ts=false:=by simp[z7,limB,h1]
  have P:(4:Int)<ts.sorts.length:=zOm;rw[hf];simp[go_sem,P];exact .zsc _
 have P:¬(4:Int)<ts.sorts.length:=zOm;by_cases h2:ts.fields.length<=6
 case neg =>
  have hf:z7 ts=false:=by simp[z7,limB,h2]
  have T:(6:Int)<ts.fields.length:=zOm;rw[hf];simp[go_sem,P,T];exact .zsc _
 have T:¬(6:Int)<ts.fields.length:=zOm;by_cases h3:ts.preds.length<=8
 case neg =>
  have hf:z7 ts=false:=by simp[z7,limB,h3]
  have a2:(8:Int)<ts.preds.length:=zOm;rw[hf];simp[go_sem,P,T,a2];exact .zsc _
 have a2:¬(8:Int)<ts.preds.length:=zOm;by_cases h4:ts.facts.length<=16
 case neg =>
  have hf:z7 ts=false:=by simp[z7,limB,h4]
  have a5:(16:Int)<ts.facts.length:=zOm;rw[hf];simp[go_sem,P,T,a2,a5];exact .zsc _
 have a5:¬(16:Int)<ts.facts.length:=zOm;simp[go_sem,P,T,a2,a5];have a9:limB ts=true:=by simp[limB,h1,h2,h3,h4]
 generalize R:ts.sorts.length=o at *
 refine qh.upK ts.fields.length (fun k st=>st.tm 1 = .ip (cTS ts)/\st.tm 3=aI k/\∀ j f,j<k->ts.fields[j]?=some f->fldB o f=true) ?_ ?_
 .exact ⟨zSi,zSi,fun j p I=>absurd I zOm⟩
 .rintro k st hk ⟨r,e3,hI⟩
  by_cases J:k=ts.fields.length
  .have ab:ts.fields.all (fldB o)=true:=by
    rw[qJ];intro f hf;obtain⟨j,I⟩:=List.mem_iff_getElem?.1 hf;exact hI j f (by have:=(qe.1 I).1;omega) I
   simp[go_sem,r,e3,J];refine qh.upK ts.preds.length (fun k st=>st.tm 1 = .ip (cTS ts)/\st.tm 6=aI k/\∀ j p,j<k->ts.preds[j]?=some p->(parB o p.params&&qY p.body)=true) ?_ ?_
   .exact ⟨zS1 r,zSi,fun j p I=>absurd I zOm⟩
   .clear r e3 hI J hk k st
    rintro k st hk ⟨r,e6,hI⟩;by_cases J:k=ts.preds.length
    .have ad:(ts.preds.all fun p=>parB o p.params&&qY p.body)=true:=by
      rw[qJ];intro f hf;obtain⟨j,I⟩:=List.mem_iff_getElem?.1 hf;exact hI j f (by have:=(qe.1 I).1;omega) I
     simp[go_sem,r,e6,J];refine qh.upK ts.facts.length (fun k st=>st.tm 1 = .ip (cTS ts)/\st.tm 7=aI k/\∀ j f,j<k->ts.facts[j]?=some f->qY f.2=true) ?_ ?_
     .exact ⟨zS1 r,zSi,fun j p I=>absurd I zOm⟩
     .clear r e6 hI J hk k st
      rintro k st hk ⟨r,e7,hI⟩;by_cases J:k=ts.facts.length
      .have aa:(ts.facts.all fun f=>qY f.2)=true:=by
        rw[qJ];intro f hf;obtain⟨j,I⟩:=List.mem_iff_getElem?.1 hf;exact hI j f (by have:=(qe.1 I).1;omega) I
       have ae:z7 ts=true:=by
        unfold z7;rw[R,a9,ab,ad,aa];rfl
       rw[ae];simp[go_sem,r,e7,J];exact .zsc _
      .have g:k<ts.facts.length:=by omega
       have w1:=zWk k;have hg:ts.facts[k]?=some ts.facts[k]:=qv g;have U:=Wj ts.facts[k].2;simp[go_sem,r,e7,g]
       try refine qg.intro zKr ?_
       try simp[go_sem,r,e7,g]
       refine qc.pure U (.zk (za _) .nil) ?_;cases a0:qY ts.facts[k].2 with
       |false =>
        have hb:z7 ts=false:=by
         have:(ts.facts.all fun f=>qY f.2)=false:=List.all_eq_false.2 ⟨_,qt g,zP1 a0⟩;simp[z7,this]
        rw[hb];simp[go_sem];exact .zsc _
       |true =>
        simp[go_sem,e7,g,w1]
        try refine⟨g,Keep.mk' ?_⟩
        try refine Keep.mk' ?_
        refine⟨zS1 r,zSi,fun i f hi hf=>?_⟩;by_cases a1:i=k
        .subst a1;rw[hg]at hf;cases hf;exact a0
        .exact hI i f zOm hf
    .have g:k<ts.preds.length:=by omega
     have w1:=zWk k;have hg:ts.preds[k]?=some ts.preds[k]:=qv g;have t:(parB o ts.preds[k].params&&qY ts.preds[k].body)=false->z7 ts=false:=fun hb=>by
      have:(ts.preds.all fun p=>parB o p.params&&qY p.body)=false:=List.all_eq_false.2 ⟨_,qt g,zP1 hb⟩;simp[z7,R,this]
     have a4:=qe8 ts ts.preds[k].params;rw[R]at a4;have U:=Wj ts.preds[k].body;have af:WKs [eTS ts,lPm ts.preds[k].params] [eTS ts,lPm ts.preds[k].params] := .zk (zn ts) (.zk (Z6 _) .nil);simp[go_sem,r,e6,g];refine qg.intro zKr ?_;simp[go_sem,r,e6,g];refine qc.pure a4 af ?_;cases a6:parB o ts.preds[k].params with
     |false =>
      rw[t (by rw[a6];rfl)];simp[go_sem];exact .zsc _
     |true =>
      simp[go_sem,r,e6,g];refine qc.pure U (.zk (za _) .nil) ?_;cases a0:qY ts.preds[k].body with
      |false =>
       rw[t (by rw[a6,a0];rfl)];simp[go_sem];exact .zsc _
      |true =>
       simp[go_sem,e6,g,w1]
       try refine⟨g,Keep.mk' ?_⟩
       try refine Keep.mk' ?_
       refine⟨zS1 r,zSi,fun i f hi hf=>?_⟩;by_cases a1:i=k
       .subst a1;rw[hg]at hf;cases hf;rw[a6,a0];rfl
       .exact hI i f zOm hf
  .have g:k<ts.fields.length:=by omega
   have hg:ts.fields[k]?=some ts.fields[k]:=qv g;have t:fldB o ts.fields[k]=false->z7 ts=false:=fun hb=>by
    have:ts.fields.all (fldB o)=false:=List.all_eq_false.2 ⟨_,qt g,zP1 hb⟩;simp[z7,R,this]
   by_cases c1:1<=ts.fields[k].sorts.length
   case neg =>
    rw[t (by simp[fldB,c1])];have a3:(ts.fields[k].sorts.length:Int)<1:=zOm;simp[go_sem,r,e3,g,a3];exact .zsc _
   have a3:¬(ts.fields[k].sorts.length:Int)<1:=zOm;by_cases c3:ts.fields[k].sorts.length<=3
   case neg =>
    rw[t (by simp[fldB,c3])];have a7:(3:Int)<ts.fields[k].sorts.length:=zOm;simp[go_sem,r,e3,g,a3,a7];exact .zsc _
   have a7:¬(3:Int)<ts.fields[k].sorts.length:=zOm;simp[go_sem,r,e3,g,a3,a7];refine qh.upK ts.fields[k].sorts.length (fun j s=>s.tm 1 = .ip (cTS ts)/\s.tm 3=aI k/\s.tm 4=lI ts.fields[k].sorts/\s.tm 5=aI j/\∀ i x,i<j->ts.fields[k].sorts[i]?=some x->0<=x/\x<o) ?_ ?_
   .exact ⟨zS1 r,zS1 e3,zSi,zSi,fun i x hi=>absurd hi zOm⟩
   .rintro j s I ⟨f1,f3,f4,f5,hJ⟩
    generalize hl:ts.fields[k].sorts=l at *
    by_cases ag:j=l.length
    .have w1:=zWk k
     have a8:fldB o ts.fields[k]=true:=by
      simp only[fldB,hl,qq,decide_eq_true_eq,qJ];refine⟨⟨c1,c3⟩,fun x hx=>?_⟩;obtain⟨i,hi⟩:=List.mem_iff_getElem?.1 hx;exact hJ i x (by have:=(qe.1 hi).1;omega) hi
     simp[go_sem,f3,f4,f5,ag,w1]
     try refine⟨g,Keep.mk' ?_⟩
     try refine Keep.mk' ?_
     refine⟨zS1 f1,zSi,fun i f hi hf=>?_⟩;by_cases a1:i=k
     .subst a1;rw[hg]at hf;cases hf;exact a8
     .exact hI i f zOm hf
    .have C:j<l.length:=by omega
     have w1:=zWk j;have ah:l[j]?=some l[j]:=qv C;by_cases hq:0<=l[j]/\l[j]<o
     .have q1:¬l[j]<0:=by omega
      have q2:¬(o:Int)<=l[j]:=zOm;simp[go_sem,f4,f5,C];refine qg.intro zKr ?_;simp[go_sem,f1,f4,f5,C,q1,q2,w1,R]
      try refine⟨C,Keep.mk' ?_⟩
      try refine Keep.mk' ?_
      refine⟨zS1 f1,zS1 f3,zS1 f4,zSi,fun i x hi hx=>?_⟩;by_cases ai:i=j
      .subst ai;rw[ah]at hx;cases hx;exact hq
      .exact hJ i x zOm hx
     .rw [t (by
       rw[fldB,hl,Bool.and_eq_false_iff];refine .inr (List.all_eq_false.2 ⟨l[j],qt C,?_⟩);simp only[qq,decide_eq_true_eq];exact hq)]
      by_cases q1:l[j]<0
      .simp [go_sem,f4,f5,C]
       refine qg.intro zKr ?_;simp[go_sem,f4,f5,C,q1];exact .zsc _
      .have q2:(o:Int)<=l[j]:=by omega
       simp[go_sem,f4,f5,C];refine qg.intro zKr ?_;simp[go_sem,f1,f4,f5,C,q1,q2,R];exact .zsc _
theorem qfB{ts:TS}(h:z7 ts=true)(j:∀ x,x∈ts.sorts->x.1.size<=4611686018427387904):okTS ts/\(∀ p,p∈ts.preds->WfN p.body)/\∀ f,f∈ts.facts->WfN f.2:=by
 simp only[z7,limB,fldB,qq,decide_eq_true_eq,qJ]at h;obtain⟨⟨⟨⟨l,o⟩,r⟩,t⟩,hf,i,C⟩:=h;refine⟨⟨l,o,r,t,j,fun f g=>?_,fun p g=>?_⟩,fun p g=>ub (i p g).2,fun f g=>ub (C f g)⟩
 .obtain ⟨⟨a,b⟩,c⟩:=hf f g
  exact⟨a,b,fun x I=>c x I⟩
 .exact qe9 (i p g).1
end Q8
namespace FD
end FD
namespace GF
open E1 EO EQ EW F4 GD
abbrev rP(p:Int×Int):List AV:=[aI p.1,aI p.2]
abbrev lP(ps:List (Int×Int)):AV := .lst false (ps.map rP)
theorem Yf(xs:List (Int×Int)):zg 2 (xs.map rP):=fun r g=>by
 obtain⟨n,_,rfl⟩:=qk.1 g;exact⟨rfl,rfl⟩
abbrev eBd(b:Bd):AV := .agg (cBd b)
theorem Wk(b:Bd):∀ c,c∈cBd b->HF c:=by
 intro c g;simp at g;rcases g with rfl|rfl|rfl|rfl
 .exact HF.sc _
 .exact zf _
 .exact HF.sc _
 .exact zf _
theorem Wl(b:Bd):HF (eBd b):=HF.agg (Wk b)
theorem qfC(x:Bd):qd qb 73 [eBd x] (.fn (.func 126) [] [.ip (cBd x)]):=by
 refine qSU call73 func73 rfl ?_;refine .hf _ (HF.fn (fun c g=>by simp at g) (fun c g=>?_));simp at g;subst g;exact HF.ip (Wk x)
def vr(x:Bd):List Int:=x.up.ts.filter fun t=>!decide (t∈x.lo.ts)
theorem qfD{C:Type}(p:C->Bool)(l:List C)(k:Nat)(h:k<l.length)(g:p l[k]=true):(l.filter p)[((l.take k).filter p).length]?=some l[k]:=by
 have e:l=l.take k++l[k] :: l.drop (k+1):=by
  rw[<-zD h,List.take_append_drop]
 have i:l.filter p=(l.take k).filter p++l[k] :: (l.drop (k+1)).filter p:=by
  conv=>lhs;rw[e]
  rw[List.filter_append,List.filter_cons,if_pos g]
 rw[i,qT (qn _)];simp
theorem qfE{C:Type}(p:C->Bool)(l:List C)(k:Nat)(h:k<l.length):((l.take (k+1)).filter p).length=((l.take k).filter p).length+(if p l[k]=true then 1 else 0):=by
 rw[List.take_add_one,qv h,List.filter_append];cases g:p l[k]<;>simp[g]
theorem qfF(x:Bd)(hl:x.up.ts.length<=1000000000)(P:x.lo.ts.length<=1000000000)(hs:x.lo.ts.Pairwise (·<=·)):jl qb 126 [.ip (cBd x)] ((vr x).map fun t=>[aI t]):=by
 refine jl.of call126 fun i I Ix hS hX hY mu h0=>?_
 refine qSW call126 func126 rfl {} ?_;simp[go_sem];refine qh.keep (fun m st=>∃ k,m=x.up.ts.length-k/\k<=x.up.ts.length/\st.tm 0 = .yl i/\st.tm 1 = .ip (cBd x)/\st.tm 9=lI x.up.ts/\st.tm 10=aI x.up.ts.length/\st.tm 11=aI (k:Nat)/\I ((x.up.ts.take k).filter fun t=>!decide (t∈x.lo.ts)).length st.mu) x.up.ts.length ?_ ?_
 .exact ⟨0,zOm,zOm,zSi,zSi,zSi,zSi,zSi,zVs h0⟩
 rintro m st ⟨k,rfl,hk,R,T,U,o,p,J⟩;by_cases r:k<x.up.ts.length
 .simp [go_sem,T,U,o,p,r]
  refine qc.pure (binU x.lo.ts x.up.ts[k] P hs) (.zk (zf _) (.zs .nil)) ?_;have g:=qfE (fun t=>!decide (t∈x.lo.ts)) x.up.ts k r;by_cases j:x.up.ts[k]∈x.lo.ts
  .simp [go_sem,p,j]
   rw[if_neg (zUs j),Nat.add_zero]at g;refine Keep.loop (x.up.ts.length-(k+1)) zOm ⟨k+1,rfl,zOm,zS1 R,zS1 T,zS1 U,zS1 o,?_,?_⟩
   .simp [go_sem];exact zWr
   .rw [g];simpa[go_sem] using J
  .simp [go_sem,R,j]
   rw[if_pos (zUs j)]at g;have C:((vr x).map fun t=>[aI t])[((x.up.ts.take k).filter fun t=>!decide (t∈x.lo.ts)).length]?=some [aI x.up.ts[k]]:=by
    rw[zm,vr,qfD _ _ k r (zUs j)];rfl
   refine qc.yield (hY _ _ _ C J) ?_;rintro b l (⟨rfl,a0⟩|⟨rfl,a1⟩)
   .simp [go_sem,p]
    refine Keep.loop (x.up.ts.length-(k+1)) zOm ⟨k+1,rfl,zOm,zS1 R,zS1 T,zS1 U,zS1 o,?_,?_⟩
    .simp [go_sem];exact zWr
    .rw [g];simpa[go_sem] using a0
   .simp [go_sem]
    exact .inr a1
 .have a2:k=x.up.ts.length:=by omega
  subst a2;rw[qX]at J;simp[go_sem,o,p];exact .inl J
def yh(k:Nat)(x:Bd):List (Int×Int):=(vr x).map fun t=>((k:Int),t)
def qy:List Bd->Nat->List (Int×Int)
 | [],_=>[]
 |x :: l,k=>yh k x++qy l (k+1)
theorem pg:∀(l m:List Bd) (k:Nat),qy (l++m) k=qy l k++qy m (k+l.length)
 | [],m,k=>by simp[qy]
 |x :: l,m,k=>by
  rw[yD,qy,qy,pg l m (k+1),zc];have:k+1+l.length=k+(x :: l).length:=zSo;rw[this]
theorem ph(l:List Bd)(k:Nat)(h:k<l.length):qy (l.take (k+1)) 0=qy (l.take k) 0++yh k l[k]:=by
 rw[List.take_add_one,qv h];show qy (l.take k++[l[k]]) 0=_;rw[pg];have:(l.take k).length=k:=zSo;rw[this,yc];simp[qy]
structure wt (x:Bd):Prop where
 up:x.up.ts.length<=1000000
 lo:x.lo.ts.length<=1000000
 sorted:x.lo.ts.Pairwise (·<=·)
theorem Vb:∀(l:List Bd) (k:Nat),(∀ x,x∈l->wt x)->(qy l k).length<=l.length*1000000
 | [],k,_=>by simp[qy]
 |x :: l,k,h=>by
  have i:=Vb l (k+1) (fun y g=>h y (zP1 g));have j:(yh k x).length<=1000000:=by
   rw[yh,zJ];exact zV (List.length_filter_le _ _) (h x zSp).up
  simp only[qy,qU,zq];omega
theorem Own.rdP2{mu:Mu}{av:AV}{xs:List (Int×Int)}(h:Own mu 2 av (xs.map rP)):Rd mu av (lP xs):=
 h.rd (Yf xs).ok fun r i c g=>by
  obtain⟨n,_,rfl⟩:=qk.1 i;simp at g;rcases g with rfl|rfl<;>exact HF.sc _
theorem Wm(o:List Bd)(hl:o.length<=1000)(hb:∀ x,x∈o->wt x):qd qb 35 [lBd o] (lP (qy o 0)):=by
 refine qSU call35 func35 rfl ?_;refine qh.keep (fun m st=>∃ k P I,m=o.length-k/\k<=o.length/\st.tm 3 = .ptr 0 0/\st.tm 7=lBd o/\st.tm 8=aI o.length/\st.tm 9=aI (k:Nat)/\st.mu = .arr [P] :: I/\Own st.mu 2 P ((qy (o.take k) 0).map rP)/\qr P≠some 0) o.length ?_ ?_
 .refine ⟨0,.lst true [],[],zOm,zOm,zSi,zSi,zSi,zSi,zSi,?_,by simp[qr]⟩
  simp[go_sem,qy];exact .inl rfl
 rintro m st ⟨k,P,I,rfl,hk,e3,e7,e8,e9,hm,ho,ad⟩;by_cases a1:k<o.length
 .have hx:=hb _ (qt a1)
  have aj:(qy (o.take (k+1)) 0).length<=1000000000:=by
   have:=Vb (o.take (k+1)) 0 (fun y hy=>hb y (vd hy));have U:(o.take (k+1)).length<=1000:=zSo;have h3:=Nat.mul_le_mul_right 1000000 U;omega
  have R:=ph o k a1;rw[hm]at ho;have ae:qr P≠some (I.length+1):=fun h=>by have:=Own.lt ho h;simp at this
  simp[go_sem,e7,e8,e9,hm,a1];refine qc.zP (qfC o[k]) (.zk (Wl _) .nil) ?_;refine vR.keep (qfF o[k] (zW1 hx.up) (zW1 hx.lo) hx.sorted) (fun j M=>∃ P C,M = .arr [P] :: C/\M[I.length+1]?=some (.arr [aI k])/\Own M 2 P ((qy (o.take k) 0++(yh k o[k]).take j).map rP)/\qr P≠some 0/\qr P≠some (I.length+1)) (fun _ _=>False) ?_ ?_ ?_ ?_ ?_ ?_
  .refine ⟨P,_,by simp only[zi,yD];rfl,zSi,?_,ad,ae⟩
   have:=Own.push ho [Cell.arr [aI k],Cell.arr (cBd o[k]),.dead];simpa[go_sem] using this
  .rintro j M ⟨P,C,rfl,h1,U,h3,h4⟩
   exact⟨P,C++[.dead],rfl,by rw[qI (qe.1 h1).1];exact h1,Own.push U _,h3,h4⟩
  .intro e M h;exact h
  .rintro j x M hj ⟨P,C,rfl,h1,U,h3,h4⟩
   rw[zm,yQ]at hj;obtain⟨t,ht,rfl⟩:=hj;have al:j<(vr o[k]).length:=(qe.1 ht).1;have af:(yh k o[k]).take (j+1)=(yh k o[k]).take j++[((k:Int),t)]:=by
    rw[List.take_add_one];have:(yh k o[k])[j]?=some ((k:Int),t):=by rw[yh,zm,ht];rfl
    rw[this];rfl
   have ag:(qy (o.take k) 0++(yh k o[k]).take j).length<=1000000000:=by
    have:(qy (o.take k) 0++(yh k o[k]).take j).length<=(qy (o.take (k+1)) 0).length:=by
     rw[R,qU,qU,vH];omega
    omega
   refine⟨rfl,?_⟩;have ah:=(qe.1 h1).1;have a5:=h1;simp at a5;simp[go_sem,e3,a5];refine qA.ownB (e:=91) (sz:=2) (bt:=16) (zv := .agg [aI 0,aI 0]) (xs:=(qy (o.take k) 0++(yh k o[k]).take j).map rP) (ys:=[rP ((k:Int),t)]) zSi zSi zSi rfl rfl zOm zOm U (by simp[qH]) (Yf _) (Yf [((k:Int),t)]) (by simp at ag⊢;omega) ?_;intro T l a2 a6 a7 an;have a3:=a6 0 zSp h3;have a8:=a6 (I.length+1) ah h4;rw[h1]at a8;obtain⟨J,rfl⟩:∃ J,l = .arr [P] :: J:=by
    cases l with
    |nil=>simp at a3
    |cons c r=>simp at a3;exact⟨r,by rw[a3]⟩
   have a0:qr T≠some 0:=fun h=>by have:=a7 _ h;simp at this
   have a9:qr T≠some (I.length+1):=fun h=>zW1 (a7 _ h)
   have aa:=Own.set a2 (i:=0) (.arr [T]) a0;have ab:(qy (o.take k) 0++(yh k o[k]).take j).map rP++[rP ((k:Int),t)]=(qy (o.take k) 0++(yh k o[k]).take (j+1)).map rP:=by
    rw[af,<-zc,zd (l₂:=[((k:Int),t)])];rfl
   rw[ab]at aa;simp[go_sem,e3,Own.one a2,Own.cells a2];exact uK.intro ⟨T,J,rfl,zUs a8,zUs aa,a0,a9⟩
  .rintro M ⟨P,C,rfl,h1,U,h3,h4⟩
   have a4:(yh k o[k]).take ((vr o[k]).map fun t=>[aI t]).length=yh k o[k]:=by
    rw[zJ,zK (by rw[yh,zJ];exact qn _)]
   rw[a4,<-R]at U;simp[go_sem,e9];refine Keep.loop (o.length-(k+1)) zOm ⟨k+1,P,C,rfl,zOm,zS1 e3,zS1 e7,zS1 e8,?_,zSi,zVs U,h3⟩;simp[go_sem];exact zWr
  .intro e M h;exact h.elim
 .have ai:k=o.length:=by omega
  subst ai;rw[qX,hm]at ho;simp[go_sem,e3,e8,e9,hm];exact Own.rdP2 ho
end GF
namespace GH
open P1 YF E3 EO EQ ER EW F1 F4 GF GG
abbrev lMd(l:List Md):AV := .lst false (l.map cMd)
theorem Wn(xs:List Md):zg 4 (xs.map cMd):=fun r g=>by
 obtain⟨n,_,rfl⟩:=qk.1 g;exact⟨rfl,rfl⟩
theorem Wo:∀(r c x:List (List AV)),x∈subL c r->∀ y,y∈x->y∈c\/y∈r
 | [],c,x,h,y,g=>by rw[subL,qN]at h;subst h;exact .inl g
 |z :: r,c,x,h,y,g=>by
  rw[subL,qC]at h;rcases h with h|h
  .rcases Wo r c x h y g with h|h
   .exact .inl h
   .exact .inr (zP1 h)
  .rcases Wo r _ x h y g with h|h
   .rcases qC.1 h with h|h
    .exact .inl h
    .rw [qN]at h;subst h;exact .inr zSp
   .exact .inr (zP1 h)
def jD(inst:Nat->List (List AV)->Md)(cs:List (List AV))(k:Nat):List Md:=(qo k).flatMap fun s=>(subL [] cs).map (inst s)
theorem Wp(inst:Nat->List (List AV)->Md)(cs:List (List AV))(k:Nat):jD inst cs (k+1)=jD inst cs k++(subL [] cs).map (inst k):=by
 unfold jD;rw[List.range_succ,List.flatMap_append];simp
theorem Vc(inst:Nat->List (List AV)->Md)(cs:List (List AV)):∀ k,(jD inst cs k).length=k*(subL [] cs).length
 | 0=>by simp[jD]
 |k+1=>by rw[Wp,qU,Vc inst cs k,zJ,Nat.succ_mul]
theorem Own.rdMd{mu:Mu}{av:AV}{xs:List Md}(h:Own mu 4 av (xs.map cMd)):Rd mu av (lMd xs):=
 h.rd (Wn xs).ok fun r i c g=>by
  obtain⟨n,_,rfl⟩:=qk.1 i;simp at g;rcases g with rfl|rfl|rfl|rfl<;>first|exact HF.sc _|exact zf _|exact Z7 _
theorem qfG(ts:TS)(sc:Sc)(bs:List Bd)(cs:List (List AV))(inst:Nat->List (List AV)->Md)(S:Nat)(hS:sc.steps=S)(b2:S<=4)(hr:uL cs)(hl:cs.length<=14)(ax:S*(subL [] cs).length<=1000000)
  (ai:S*2 ^ cs.length<=16384)
  (J:qd qb 38 [eTS ts,eSc sc] (aB true)) (U:qd qb 39 [eTS ts,eSc sc,lBd bs] (aB true)) (h3:qd qb 40 [eTS ts,eSc sc,lBd bs] (.lst false cs))
  (hi:∀ k,k<S->∀ c,c∈subL [] cs->qd qb 42 [eTS ts,eSc sc,lBd bs,aI (k:Nat),.lst false c] (eMd (inst k c))):qd qb 13 [eTS ts,eSc sc,lBd bs] (.tup [lMd (jD inst cs S),aI 0]):=by
 refine qSU call13 func13 rfl ?_;refine qc.zP J (.zk (zn _) (.zk (zx _) .nil)) ?_;refine qc.zP U (.zk (zn _) (.zk (zx _) (.zk (j0 _) .nil))) ?_;refine qc.pure h3 (.zk (zn _) (.zk (zx _) (.zk (j0 _) .nil))) ?_;have aj:¬(14:Int)<cs.length:=zOm;have n0:¬(cs.length:Int)<0:=zOm;have t:min cs.length 64=cs.length:=zOm;have ay:(S:Int)*2 ^ cs.length<=16384:=by exact_mod_cast ai
 have az:(0:Int)<=(S:Int)*2 ^ cs.length:=by exact_mod_cast Nat.zero_le _
 have ak:qs.wrap ((S:Int)*2 ^ cs.length)=(S:Int)*2 ^ cs.length:=zWr;have al:¬(16384:Int)<(S:Int)*2 ^ cs.length:=zOm;simp[go_sem,aj,hS,n0,t,ak,al];refine qh.keep (fun m st=>∃ k P C,m=S-k/\k<=S/\st.tm 3 = .ip (cTS ts)/\st.tm 4 = .ip [lI sc.atoms,aI sc.steps]/\st.tm 5 = .ip [lBd bs]/\st.tm 8 = .lst false cs/\st.tm 9 = .ptr 0 0/\st.tm 39=aI S/\st.tm 40=aI (k:Nat)/\st.mu = .arr [P] :: C/\Own st.mu 4 P ((jD inst cs k).map cMd)/\qr P≠some 0) S ?_ ?_
 .refine ⟨0,.lst true [],[],zOm,zOm,zSi,zS1 hS,zSi,zSi,zSi,zSi,zSi,zSi,?_,by simp[qr]⟩
  simp[go_sem,jD];exact .inl rfl
 rintro m st ⟨k,P,C,rfl,hk,e3,e4,e5,e8,e9,a1,a2,hm,ho,an⟩;by_cases a8:k<S
 .have ao:=Vc inst cs (k+1)
  have b0:=Nat.mul_le_mul_right (subL [] cs).length (show k+1<=S by omega);have a3:=Wp inst cs k;rw[hm]at ho;have aq:qr P≠some (C.length+1):=fun h=>by have:=Own.lt ho h;simp at this
  simp[go_sem,e8,a1,a2,hm,a8];refine qc.zP (qeN cs hr) (.zk (HF.lst fun r a4 x R=>(hr r a4).2.2 x R) .nil) ?_;refine vR.keep (qeM cs hr zOm) (fun j M=>∃ P o,M = .arr [P] :: o/\M[C.length+1]?=some (.arr [aI k])/\Own M 4 P ((jD inst cs k++((subL [] cs).map (inst k)).take j).map cMd)/\qr P≠some 0/\qr P≠some (C.length+1)) (fun _ _=>False) ?_ ?_ ?_ ?_ ?_ ?_
  .refine ⟨P,_,by simp only[zi,yD];rfl,zSi,?_,an,aq⟩
   have:=Own.push ho [Cell.arr [aI k],.dead];simpa[go_sem] using this
  .rintro j M ⟨P,o,rfl,J,U,h3,h4⟩
   exact⟨P,o++[.dead],rfl,by rw[qI (qe.1 J).1];exact J,Own.push U _,h3,h4⟩
  .intro e M h;exact h
  .rintro j x M hj ⟨P,o,rfl,J,U,h3,h4⟩
   rw[zm,yQ]at hj;obtain⟨c,hc,rfl⟩:=hj;have b3:j<(subL [] cs).length:=(qe.1 hc).1;have a9:c∈subL [] cs:=qZ hc;have ar:((subL [] cs).map (inst k)).take (j+1)=((subL [] cs).map (inst k)).take j++[inst k c]:=by
    rw[List.take_add_one];have:((subL [] cs).map (inst k))[j]?=some (inst k c):=by rw[zm,hc];rfl
    rw[this];rfl
   refine⟨rfl,?_⟩;have au:=(qe.1 J).1;have aa:=J;simp at aa;simp[go_sem];refine qg.intro zKr ?_;simp[go_sem,e3,e4,e5,e9,aa];refine qc.pure (hi k a8 c a9) (.zk (zn _) (.zk (zx _) (.zk (j0 _) (.zs (.zk (HF.lst ?_) .nil))))) ?_
   .exact fun r a4 x R=>(hr r (by rcases Wo cs [] c a9 r a4 with h|h;exact absurd h zSp;exact h)).2.2 x R
   simp[go_sem];refine qA.ownB (e:=44) (sz:=4) (bt:=64) (zv := .agg [.lst true [],aI 0,.lst true [],aI 0]) (xs:=jD inst cs k++((subL [] cs).map (inst k)).take j |>.map cMd) (ys:=[cMd (inst k c)]) zSi zSi zSi rfl rfl zOm zOm U (by simp[qH]) (Wn _) (Wn [inst k c]) ?_ ?_
   .have b4:=Vc inst cs k
    rw[Wp,qU,zJ]at ao;simp;omega
   intro T l a5 ab ad b5;have a6:=ab 0 zSp h3;have ae:=ab (C.length+1) au h4;rw[J]at ae;obtain⟨I,rfl⟩:∃ I,l = .arr [P] :: I:=by
    cases l with
    |nil=>simp at a6
    |cons c r=>simp at a6;exact⟨r,by rw[a6]⟩
   have a0:qr T≠some 0:=fun h=>by have:=ad _ h;simp at this
   have af:qr T≠some (C.length+1):=fun h=>zW1 (ad _ h)
   have ag:=Own.set a5 (i:=0) (.arr [T]) a0;have ah:(jD inst cs k++((subL [] cs).map (inst k)).take j).map cMd++[cMd (inst k c)]=(jD inst cs k++((subL [] cs).map (inst k)).take (j+1)).map cMd:=by
    rw[ar,<-zc,zd (l₂:=[inst k c])];rfl
   rw[ah]at ag;simp[go_sem,e9,Own.one a5,Own.cells a5];exact uK.intro ⟨T,I,rfl,zUs ae,zUs ag,a0,af⟩
  .rintro M ⟨P,o,rfl,J,U,h3,h4⟩
   have a7:((subL [] cs).map (inst k)).take ((subL [] cs).map fun c=>[AV.lst false c]).length=(subL [] cs).map (inst k):=by
    rw[zJ,zK zSp]
   rw[a7,<-a3]at U;simp[go_sem,a2];refine Keep.loop (S-(k+1)) zOm ⟨k+1,P,o,rfl,zOm,zS1 e3,zS1 e4,zS1 e5,zS1 e8,zS1 e9,zS1 a1,?_,zSi,zVs U,h3⟩;simp[go_sem];exact zWr
  .intro e M h;exact h.elim
 .have aw:k=S:=by omega
  subst aw;rw[hm]at ho;simp[go_sem,e9,a1,a2,hm];refine .tup _ _ rfl fun j x y R hy=>?_
  match j with
  | 0=>simp at R hy;subst R;subst hy;exact Own.rdMd ho
  | 1=>simp at R hy;subst R;subst hy;exact .zsc _
  |j+2=>simp at R
end GH
namespace JE
open E4 F1 JB JC
section
variable {l:List (us×jc)}
def Vd:List (us×jc)->us->Option jc
 | [],_=>none
 |p :: l,f=>if f=p.1 then some p.2 else Vd l f
def pi(f:us)(c:List AV):Bool:=match c with
 | [.ip [.lst _ []]]=>f == 254
 |_=>false
def envL(l:List (us×jc)):EnvJ:=⟨Vd l,pi,fun _=>[],fun f=>calL.any fun x=>x.1 == f⟩
theorem pj{P:qf}:∀{l:List (us×jc)},(∀ p,p∈l->jm P p.1 p.2)->∀ f h,Vd l f=some h->jm P f h
 | [],_,_,_,h=>by cases h
 |p :: l,g,f,h,e=>by
  unfold Vd at e;split at e
  .rename_i i;cases e;subst i;exact g p (qR ..)
  .exact pj (fun q j=>g q (qK _ j)) f h e
theorem Wq(g:∀ p,p∈l->jm qb p.1 p.2):qW qb (envL l):=by
 refine⟨pj g,fun f hf=>?_,fun f c h=>?_⟩
 .simp only[envL,List.any_eq_true,beq_iff_eq]at hf
  obtain⟨x,_,rfl⟩:=hf;exact x.2
 .simp only[envL,pi]at h
  split at h
  .rw [beq_iff_eq]at h;subst h;exact backX _
  .cases h
theorem qd.wk{P:qf}{f:us}{args:List AV}{v w:AV}(h:qd P f args v)(k:WK v w):qd P f args w:=by
 exact⟨h.1,fun i w j l o=>(h.2 i w j l o).mono fun e J ⟨g,u,p,r,t,C,I⟩=>⟨g,u,p,r,t,C,k _ _ _ I⟩⟩
noncomputable def Ve(E:EnvJ)(n:Nat)(f:us)(args:List AV)(w:AV):Bool:=match ZZ qb E n f args with
 |some v=>hfB 64 v&&eqV 64 (nV 64 v) w
 |none=>false
theorem uQ{E:EnvJ}(g:qW qb E){n:Nat}{f:us}{args:List AV}{w:AV}(h:Ve E n f args w=true):qd qb f args w:=by
 unfold Ve at h;split at h
 .rename_i v i
  rw[qq]at h;rw[<-Qu h.2];exact qd.wk (UP g i) (UO 64 64 v h.1)
 .cases h
theorem qfH{i j l o p t C I J P R T e4 x:AV}{r:Bool}(ho:[i,j,l,o,p,t,C,I,J,P,R,T,e4].all AV.one=true)(ha:HF (.agg [i,j,l,o]))(hb:HF (.agg [p,t,C,I]))(he:HF (.agg [J,P,R,T,e4]))(hx:HF x)(h1:qd qb 93 [.agg [i,j,l,o],.agg [p,t,C,I]] x)(h2:qd qb 94 [x,.agg [aI 0,.lst false []],.agg [J,P,R,T,e4]] (aB r)) :
  qd qb 46 [.agg [i,j,l,o],.agg [p,t,C,I],aI 0,.lst false [],.agg [J,P,R,T,e4]] (.tup [aB r,aI 0]):=by
 simp only[List.all_cons,List.all_nil,Bool.and_true,qq]at ho;obtain⟨o0,o1,o2,o3,o4,o5,o6,o7,o8,o9,oa,ob,oc⟩:=ho;refine US.toP ?_;refine JQ.of_sound ?_;refine qL.of_awpD call46 func46 rfl (yi zKr) zKr (pl:={}) ?_;simp[go_sem,o0,o1,o2,o3,o4,o5,o6,o7,o8,o9,oa,ob,oc];refine wV.intro (g:=92) (first:=[]) (caps:=[]) zSi call92 ?_;simp[go_sem];refine qg.tail 7 zKr ?_;simp[go_sem];refine qc.zP h1 (.zk ha (.zk hb .nil)) ?_;refine qc.pure h2 (.zk hx (.zk (HF.agg fun c hc=>by
  simp at hc;rcases hc with rfl|rfl
  .exact HF.sc _
  .exact HF.lst fun r hr=>by simp at hr) (.zk he .nil))) ?_
 simp[go_sem];refine jo.mono (qd8 [.arr [aI 0]] 0 0 rfl) ?_;rintro _ rfl;simp[go_sem];exact .hf _ (HF.tup (by simp only[qu,qD,or_false,forall_eq_or_imp,forall_eq];exact⟨HF.sc _,HF.sc _⟩))
noncomputable def Wr(l:List (us×jc)):List AV->Option AV:=fun args=>match args with
 | [.agg [g,i,j,o],.agg [p,t,C,I],.sc (.int .i64 0),.lst false [],.agg [J,P,R,T,U]]=>match ZZ qb (envL l) 2000 93 [.agg [g,i,j,o],.agg [p,t,C,I]] with
  |some x=>match ZZ qb (envL l) 2000 94 [x,.agg [aI 0,.lst false []],.agg [J,P,R,T,U]] with
   |some (.sc (.bool r))=>if [g,i,j,o,p,t,C,I,J,P,R,T,U].all AV.one&&(hfB 64 x&&allJ (hfB 64) [.agg [g,i,j,o],.agg [p,t,C,I],.agg [J,P,R,T,U]]) then some (.tup [aB r,aI 0]) else none
   |_=>none
  |none=>none
 |_=>none
theorem qfI(i:qW qb (envL l)):jm qb 46 (jZ (Wr l)):=by
 refine ZX fun args v h=>?_
 unfold Wr at h;split at h
 .rename_i j o p t C I J P R T U e3 e4
  split at h
  .rename_i x h1
   split at h
   .rename_i r h2
    split at h
    .rename_i g
     cases h;rw[qq,qq]at g;exact qfH g.1 (jY (jX g.2.2 (.agg [j,o,p,t]) zSp)) (jY (jX g.2.2 (.agg [C,I,J,P]) zSp)) (jY (jX g.2.2 (.agg [R,T,U,e3,e4]) zSp)) (jY g.2.1) (UP i h1) (UP i h2)
    .cases h
   .cases h
  .cases h
 .cases h
end
end JE
namespace JF
def bA(l:List UInt8):ByteArray:=⟨⟨l⟩⟩
end JF
namespace G5
open E9 EO EQ
theorem Ws(sc:Sc)(g:GSc sc)(n:Nat)(J:n<=1000000):qd qb 199 [eSc sc,aI n] (aI (sumI (sc.atoms.take n))):=by
 have P:=g.1;refine qSU call199 func199 rfl ?_;refine qh.up (min n sc.atoms.length) (fun k st=>st.tm 1=aI n/\st.tm 2 = .ip [lI sc.atoms,aI sc.steps]/\st.tm 5=aI (sumI (sc.atoms.take k))/\st.tm 6=aI k) ?_ ?_
 .simp [go_sem,sumI]
 rintro k st R ⟨l,C,o,p⟩;by_cases j:k<n
 .by_cases i:k<sc.atoms.length
  .have I:=uF sc.atoms k i
   have r:=g.sum (k+1);rw[I]at r;simp[go_sem,l,C,o,p,j,i];exact⟨zOm,by rw[I,zWr],zWr⟩
  .have e:sc.atoms.take n=sc.atoms.take k:=by rw[zK zOm,zK zOm]
   rw[e];simp[go_sem,l,C,o,p,j,i];exact .zsc _
 .have t:k=n:=by omega
  subst t;simp[go_sem,l,o,p];exact .zsc _
theorem pm(sc:Sc)(g:GSc sc):qd qb 157 [eSc sc] (aI (sumI sc.atoms)):=by
 have i:=g.1;have h:=Ws sc g sc.atoms.length zOm;rw[qX]at h;refine qSU call157 func157 rfl ?_;refine qc.zP h (.zk (zx _) (.zs .nil)) ?_;exact .zsc _
theorem Za(n:Int)(g:0<=n)(i:n<=20):∀ k:Nat,k<=3->0<=n ^ k/\n ^ k<=8000
 | 0,_=>zSp
 | 1,_=>by rw[show n ^ 1=n by rw[Int.pow_succ,Int.pow_zero,Int.one_mul]];omega
 | 2,_=>by
  have:n*n<=20*20:=ve i i g zOm;have l:=Int.mul_nonneg g g;rw[show n ^ 2=n*n by rw[Int.pow_succ,Int.pow_succ,Int.pow_zero,Int.one_mul]];omega
 | 3,_=>by
  have l:n*n<=20*20:=ve i i g zOm;have j:=Int.mul_nonneg g g;have p:n*n*n<=400*20:=ve l i g zOm;have o:=Int.mul_nonneg j g;rw[show n ^ 3=n*n*n by rw[Int.pow_succ,Int.pow_succ,Int.pow_succ,Int.pow_zero,Int.one_mul]];omega
 |k+4,h=>zOm
theorem pn(sc:Sc)(g:GSc sc)(n:Nat)(J:n<=3):qd qb 110 [eSc sc,aI n] (aI (sumI sc.atoms ^ n)):=by
 have j:=g.sum sc.atoms.length;rw[qX]at j;refine qSU call110 func110 rfl ?_;refine qh.up n (fun k st=>st.tm 1=aI n/\st.tm 2 = .ip [lI sc.atoms,aI sc.steps]/\st.tm 5=aI (sumI sc.atoms ^ k)/\st.tm 6=aI k) ?_ ?_
 .simp [go_sem]
 rintro k st P ⟨l,r,t,o⟩;by_cases i:k<n
 .have C:=Za (sumI sc.atoms) j.1 j.2 (k+1) zOm
  have e:sumI sc.atoms ^ (k+1)=sumI sc.atoms ^ k*sumI sc.atoms:=Int.pow_succ ..;rw[e]at C;have I:(k:Int)<3:=zOm;simp[go_sem,l,r,t,o,i,I];refine qc.pure (pm sc g) (.zk (zx _) .nil) ?_;simp[go_sem,l,r,o,i];exact⟨by rw[e,zWr],zWr⟩
 .have p:k=n:=by omega
  subst p;simp[go_sem,l,t,o];exact .zsc _
theorem pp(l:List Int)(x:Int)(g:∀ a,a∈l->0<=a):∀(k:Nat) (i:Int),k<=l.length->sumI (l.take k)<=x->v7 l x i=v7 (l.drop k) (x-sumI (l.take k)) (i+k):=by
 intro k;induction k with
 |zero=>intro i _ _;simp[sumI]
 |succ k j =>
  intro i p r;have o:=uF l k zOm;have t:=g _ (qt (show k<l.length by omega));rw[j i zOm zOm,kT l k _ _ zOm,zIn,o];congr 1<;>omega
theorem qfJ(sc:Sc)(g:GSc sc)(x:Nat)(T:x<=1000):qd qb 158 [eSc sc,aI x] (aI (vp sc x)):=by
 have U:=g.1;have l:∀ a,a∈sc.atoms->0<=a:=fun a R=>(g.2 a R).1
 refine qSU call158 func158 rfl ?_;refine qh.up sc.atoms.length (fun k st=>st.tm 1=aI x/\st.tm 2 = .ip [lI sc.atoms,aI sc.steps]/\st.tm 5=aI k/\sumI (sc.atoms.take k)<=x) ?_ ?_
 .simp [go_sem,sumI]
 rintro k st I ⟨r,p,o,t⟩;by_cases j:k<sc.atoms.length
 .have hs:=uF sc.atoms k j
  have i:=pp sc.atoms x l k 0 I t;rw[kT sc.atoms k _ _ j]at i;have J:qs.wrap ((k:Int)+1)=((k+1:Nat):Int):=by rw[zWr];omega
  simp[go_sem,r,p,o,j];refine qc.pure (Ws sc g k zOm) (.zk (zx _) (.zs .nil)) ?_;simp[go_sem,r,p,o,t,J];refine qc.pure (Ws sc g (k+1) zOm) (.zk (zx _) (.zs .nil)) ?_;by_cases P:(x:Int)<sumI (sc.atoms.take (k+1))
  .have e:vp sc x=k:=by
    unfold vp;rw[i,if_pos zOm];omega
   rw[e];simp[go_sem,o,P];exact .zsc _
  .simp [go_sem,r,p,o,j,P,J]
   omega
 .have C:k=sc.atoms.length:=by omega
  subst C;have e:vp sc x = -1:=by
   unfold vp;rw[pp sc.atoms x l sc.atoms.length 0 I t,yR];rfl
  rw[e];simp[go_sem,p,o];exact .zsc _
def digs(n:Int):Nat->Int->List Int
 | 0,_=>[]
 |k+1,r=>digs n k (r / n)++[r % n]
theorem Zb(n:Int):∀(k:Nat) (r:Int),(digs n k r).length=k
 | 0,_=>rfl
 |k+1,r=>by rw[digs,qU,Zb n k];rfl
theorem pq(n:Int):∀(j:Nat) (x:Int),divN n (x / n) j=divN n x (j+1)
 | 0,x=>rfl
 |j+1,x=>by rw[divN,pq n j x];rfl
theorem pr(n:Int):∀(j:Nat) (r:Int),digs n (j+1) r=(divN n r j % n) :: digs n j r
 | 0,r=>by simp[digs,divN]
 |j+1,r=>by
  rw[digs,pr n j (r / n),pq,yD];rfl
theorem Wt(n r:Int)(i:0<n)(g:0<=r):∀ j,0<=divN n r j/\divN n r j<=r
 | 0=>⟨g,by simp[divN]⟩
 |j+1=>by
  have:=Wt n r i g j;rw[divN];have l:=Int.ediv_le_self n this.1;exact⟨Int.ediv_nonneg this.1 zOm,zOm⟩
theorem qfK{mu:Mu}{b:Nat}{cells:List AV}{ds:List Int}(o:mu[b]?=some (.arr cells))(h:∀ i (I:i<ds.length),cells[i]?=some (aI ds[i])):Rd mu (.sl b 1 0 ds.length) (lI ds):=by
 refine .sl b 1 0 ds.length cells (ds.map rI) o ?_ zSp (fun r p=>by obtain⟨x,_,rfl⟩:=qk.1 p;rfl) fun k x y g l=>?_
 .by_cases J:ds.length=0
  .omega
  .have:=h (ds.length-1) zOm
   have:=(qe.1 this).1;omega
 .rw [yc]at g
  rw[GD.Qx,zm,yQ]at l;obtain⟨z,t,rfl⟩:=l;have C:=(qe.1 t);obtain⟨j,rfl⟩:=C;rw[h k j]at g;cases g;exact .zsc _
theorem qfL(sc:Sc)(g:GSc sc)(hp:0<sumI sc.atoms)(k:Nat)(hk:k<=3)(r:Nat)(hr:(r:Int)<sumI sc.atoms ^ k):qd qb 111 [eSc sc,aI k,aI r] (lI (digs (sumI sc.atoms) k r)):=by
 have hs:=g.sum sc.atoms.length;rw[qX]at hs;have a7:=Za (sumI sc.atoms) hs.1 hs.2 k hk;refine qSV call111 func111 rfl ?_;have a1:¬(3:Int)<k:=zOm;have a2:¬(k:Int)<0:=zOm;have a3:¬(r:Int)<0:=zOm;simp[go_sem,a1,a2,a3];refine qc.pure (pn sc g k hk) (.zk (zx _) (.zs .nil)) ?_;have a4:¬sumI sc.atoms ^ k<=(r:Int):=zOm;simp[go_sem,a4];refine qc.pure (pm sc g) (.zk (zx _) .nil) ?_;generalize hN:sumI sc.atoms=N at *
 have w0:qs.wrap ((k:Int)-1)=(k:Int)-1:=zWr;simp[go_sem,w0];refine qh.keep (fun m st=>∃ j:Nat,m=k-j/\j<=k/\st.tm 1=aI k/\st.tm 7 = .sl 0 1 0 3/\st.tm 8=aI N/\st.tm 9=aI (divN N r j)/\st.tm 10=aI ((k:Int)-1-j)/\∃ c0 c1 c2,st.mu=[.arr [aI c0,aI c1,aI c2]]/\∀ i (R:i<j),[c0,c1,c2][k-j+i]?=some ((digs N j r)[i]'(by rw[Zb];exact R))) k ?_ ?_
 .exact ⟨0,zOm,zOm,zSi,zSi,zSi,by simp[go_sem,divN],zSi,0,0,0,zSi,fun i R=>zOm⟩
 rintro m st ⟨j,rfl,hj,e1,C,T,e9,o,c0,c1,c2,hm,hc⟩;by_cases a8:j<k
 .obtain ⟨d,rfl⟩:∃ d:Nat,k=j+1+d:=⟨k-(j+1),zOm⟩
  have t:d=0\/d=1\/d=2:=zOm;have ex:(((j+1+d:Nat):Int)-1-j)=(d:Int):=zOm;rw[ex]at o;have U:=Wt N r hp zOm j;have a9:(r:Int)<=8000:=zOm;have hq:(divN N r j).tdiv N=divN N r (j+1):=by rw[divN,Int.tdiv_eq_ediv_of_nonneg U.1]
  have J:(divN N r j).tmod N=divN N r j % N:=Int.tmod_eq_emod_of_nonneg U.1;have a6:=Wt N r hp zOm (j+1);have w1:qs.wrap (divN N r (j+1))=divN N r (j+1):=zWr;have P:¬N=0:=zOm;have p:(digs N (j+1) r)=(divN N r j % N) :: digs N j r:=pr N j r;have a0:=Zb N j r;rcases t with t|t|t
  .have l:st.tm 10=aI 0:=by rw[o,t];rfl
   have w2:qs.wrap (-1) = -1:=zWr;simp[go_sem,C,T,e9,l,hm,P,hq,J,w1,w2];refine Keep.loop (j+1+d-(j+1)) zOm ⟨j+1,rfl,zOm,zS1 e1,zS1 C,zS1 T,zSi,by simp[go_sem];omega,divN N r j % N,c1,c2,zSi,fun i R=>?_⟩;cases i with
   |zero=>simp[p,t]
   |succ i =>
    have:=hc i zOm;rw[show j+1+d-j+i=i+1 by omega]at this;rw[show j+1+d-(j+1)+(i+1)=i+1 by omega];simp[p]at this⊢
    try exact this
  .have l:st.tm 10=aI 1:=by rw[o,t];rfl
   have w2:qs.wrap (0)=0:=zWr;simp[go_sem,C,T,e9,l,hm,P,hq,J,w1,w2];refine Keep.loop (j+1+d-(j+1)) zOm ⟨j+1,rfl,zOm,zS1 e1,zS1 C,zS1 T,zSi,by simp[go_sem];omega,c0,divN N r j % N,c2,zSi,fun i R=>?_⟩;cases i with
   |zero=>simp[p,t]
   |succ i =>
    have:=hc i zOm;rw[show j+1+d-j+i=i+2 by omega]at this;rw[show j+1+d-(j+1)+(i+1)=i+2 by omega];simp[p]at this⊢
    try exact this
  .have l:st.tm 10=aI 2:=by rw[o,t];rfl
   have w2:qs.wrap (1)=1:=zWr;simp[go_sem,C,T,e9,l,hm,P,hq,J,w1,w2];refine Keep.loop (j+1+d-(j+1)) zOm ⟨j+1,rfl,zOm,zS1 e1,zS1 C,zS1 T,zSi,by simp[go_sem];omega,c0,c1,divN N r j % N,zSi,fun i R=>?_⟩;cases i with
   |zero=>simp[p,t]
   |succ i =>
    have:=hc i zOm;rw[show j+1+d-j+i=i+3 by omega]at this;rw[show j+1+d-(j+1)+(i+1)=i+3 by omega];simp at this⊢
    try exact this
 .have a5:j=k:=by omega
  subst a5;have hn:¬(j:Int)<=(j:Int)-1:=zOm;have h3:(j:Int)<=3:=zOm;simp[go_sem,e1,C,o,hm,hn,h3];have a0:=Zb N j r;have:=qfK (mu:=[.arr [aI c0,aI c1,aI c2]]) (b:=0) (cells:=[aI c0,aI c1,aI c2]) (ds:=digs N j r) rfl fun i R=>by
   have:=hc i zOm;rw[Nat.sub_self,yc]at this;rw[show [aI c0,aI c1,aI c2]=[c0,c1,c2].map aI from rfl,zm,this];rfl
  rw[a0]at this;exact this
def fitB(sc:Sc)(ds g:List Int):Bool:=allN (fun i=>decide (vp sc (gI ds i)=gI g i)) g.length
theorem qfM(sc:Sc)(g:GSc sc)(ds j:List Int)(hl:ds.length=j.length)(a0:j.length<=3)(hd:∀ d,d∈ds->0<=d/\d<=1000):qd qb 112 [eSc sc,lI ds,lI j] (aB (fitB sc ds j)):=by
 refine qSU call112 func112 rfl ?_;refine qh.up j.length (fun k st=>st.tm 1=lI ds/\st.tm 2=lI j/\st.tm 3 = .ip [lI sc.atoms,aI sc.steps]/\st.tm 7=aI k/\∀ i,i<k->vp sc (gI ds i)=gI j i) ?_ ?_
 .simp [go_sem]
 rintro k st hk ⟨P,r,R,p,T⟩;by_cases l:k<j.length
 .have o:k<ds.length:=by omega
  have C:=hd ds[k] (qt o);obtain⟨d,I⟩:=Int.eq_ofNat_of_zero_le C.1;simp[go_sem,r,p,l];refine qg.intro zKr ?_;simp[go_sem,P,R,p,o];have U:=qfJ sc g d zOm;rw[<-I]at U;refine qc.pure U (.zk (zx _) (.zs .nil)) ?_;have g1:gI ds k=ds[k]:=vV o;have g2:gI j k=j[k]:=vV l;by_cases t:vp sc ds[k]=j[k]
  .simp [go_sem,P,r,R,p,l,t]
   refine⟨zWr,fun i a1=>?_⟩;by_cases h:i=k
   .subst h;rw[g1,g2];exact t
   .exact T i zOm
  .have hf:fitB sc ds j=false:=qdC l (by rw[g1,g2];simpa using t)
   rw[hf];simp[go_sem,r,p,l,t];exact .zsc _
 .have J:k=j.length:=by omega
  subst J;have hf:fitB sc ds j=true:=UQ.2 fun i h=>by simpa using T i h
  rw[hf];simp[go_sem,r,p];exact .zsc _
theorem Wu(n:Int)(i:0<n)(g:n<=20):∀(k:Nat) (r:Int),∀ d,d∈digs n k r->0<=d/\d<=1000
 | 0,_,d,h=>by simp[digs]at h
 |k+1,r,d,h=>by
  rw[digs,qC]at h;rcases h with h|h
  .exact Wu n i g k _ d h
  .rw [qN]at h;subst h
   have j:=Int.emod_nonneg r (show n≠0 by omega);have l:=Int.emod_lt_of_pos r i;omega
def jq(sc:Sc)(g:List Int)(r:Nat):List Int:=((qo r).filter fun k:Nat=>fitB sc (digs (sumI sc.atoms) g.length k) g).map fun k:Nat=>(k:Int)
theorem qfN(sc:Sc)(g:List Int)(r:Nat):jq sc g (r+1)=jq sc g r++(if fitB sc (digs (sumI sc.atoms) g.length r) g then [(r:Int)] else []):=by
 unfold jq;rw[List.range_succ,List.filter_append,zd];by_cases h:fitB sc (digs (sumI sc.atoms) g.length r) g=true<;>simp[h]
theorem Wv(sc:Sc)(g:List Int)(r:Nat):(jq sc g r).length<=r:=by
 have:=List.length_filter_le (fun k:Nat=>fitB sc (digs (sumI sc.atoms) g.length k) g) (qo r);rw[List.length_range]at this;rw[jq,zJ];exact this
theorem Ww(sc:Sc)(g:List Int)(r:Nat):(jq sc g r).Pairwise (·<·):=by
 unfold jq;rw[List.pairwise_map];exact(List.pairwise_lt_range.filter _).imp fun h=>zOm
theorem qfO(sc:Sc)(g:List Int)(r:Nat):∀ x,x∈jq sc g r->0<=x/\x<r:=fun x i=>by
 obtain⟨k,j,rfl⟩:=qk.1 i;have:=yj.1 (jg.1 j).1;omega
def zQ(sc:Sc)(g:List Int):List Int:=jq sc g (sumI sc.atoms ^ g.length).toNat
theorem pt(sc:Sc)(g:GSc sc)(hp:0<sumI sc.atoms)(i:List Int)(h1:1<=i.length)(h3:i.length<=3)(hs:∀ s,s∈i->0<=s/\s<sc.atoms.length):qd qb 62 [eSc sc,lI i] (eRel ⟨i.length,zQ sc i⟩):=by
 have J:=g.sum sc.atoms.length;rw[qX]at J;have a1:=Za (sumI sc.atoms) J.1 J.2 i.length h3;obtain⟨R,hR⟩:=Int.eq_ofNat_of_zero_le a1.1;have a2:zQ sc i=jq sc i R:=by rw[zQ,hR];rfl
 refine qSV call62 func62 rfl ?_;have n1:¬(i.length:Int)<1:=zOm;have n3:¬(3:Int)<(i.length:Int):=zOm;simp[go_sem,n1,n3];refine qh.up i.length (fun k st=>st.tm 1=lI i/\st.tm 2 = .ip [lI sc.atoms,aI sc.steps]/\st.tm 4 = .ptr 0 0/\st.tm 5=aI i.length/\st.tm 6=aI k/\st.mu=[.arr [aI 0,.lst true []]]) ?_ ?_
 .simp [go_sem]
 rintro k st hk ⟨e1,I,e4,t,e6,hm⟩;by_cases o:k<i.length
 .have a4:=hs i[k] (qt o)
  have m1:¬i[k]<0:=zOm;have m2:¬(sc.atoms.length:Int)<=i[k]:=zOm;simp[go_sem,t,e6,hm,o];refine qg.intro zKr ?_;simp[go_sem,e1,I,e4,t,e6,o,m1,m2];exact zWr
 have T:k=i.length:=zOm;subst T;simp[go_sem,t,e6,hm];refine qh.keep (fun m st=>∃ k P l,m=R-k/\k<=R/\st.tm 1=lI i/\st.tm 2 = .ip [lI sc.atoms,aI sc.steps]/\st.tm 4 = .ptr 0 0/\st.tm 5=aI i.length/\st.tm 7 = .ptr 1 0/\st.tm 8=aI (k:Nat) /\
  st.mu=[.arr [aI 0,.lst true []],.arr [aI i.length,P]]++l/\OwnF 2 ([.dead,.dead]++l) 1 P ((jq sc i k).map rI)) R ?_ ?_
 .exact ⟨0,.lst true [],[],zOm,zOm,zS1 e1,zS1 I,zS1 e4,zS1 t,zSi,zSi,zSi,by simpa[jq] using OwnF.nil zSp⟩
 rintro m st ⟨k,P,l,rfl,hk,e1,I,e4,t,e7,e8,hm,ho⟩;have ho:=ho.low (low:=[.dead,.dead]) (low':=[.arr [aI 0,.lst true []],.arr [aI i.length,P]]) rfl;simp[go_sem,I,t,e8,hm];refine qc.pure (pn sc g i.length h3) (.zk (zx _) (.zs .nil)) ?_;rw[hR];by_cases o:k<R
 .simp [go_sem,I,t,e8,o]
  refine qc.pure (qfL sc g hp i.length h3 k zOm) (.zk (zx _) (.zs (.zs .nil))) ?_;simp[go_sem,e1,I];refine qc.pure (qfM sc g _ i (Zb _ _ _) h3 (Wu _ hp zOm _ _)) (.zk (zx _) (.zk (zf _) (.zk (zf _) .nil))) ?_;have C:=qfN sc i k;have a5:=Wv sc i k;cases hb:fitB sc (digs (sumI sc.atoms) i.length k) i with
  |false =>
   rw[hb]at C;simp[go_sem,e8];refine Keep.loop (R-(k+1)) zOm ⟨k+1,P,l,rfl,zOm,zS1 e1,zS1 I,zS1 e4,zS1 t,zS1 e7,?_,zSi,?_⟩
   .simp [go_sem];exact zWr
   .rw [C];simpa[go_sem] using ho.low (low':=[.dead,.dead]) rfl
  |true =>
   rw[hb]at C;simp[go_sem,e7,e8];refine qA.intsL (low:=[.arr [aI 0,.lst true []],.arr [aI i.length,P]]) (e:=3) (bt:=8) (z:=0) (xs:=jq sc i k) (ys:=[(k:Int)]) zSi zSi zSi zOm ho (by simp[qH]) zSo ?_;intro a3 U a0;simp[go_sem,e7,e8,a0.cells,a0.one];refine Keep.loop (R-(k+1)) zOm ⟨k+1,a3,U,rfl,zOm,zS1 e1,zS1 I,zS1 e4,zS1 t,zS1 e7,?_,zSi,?_⟩
   .simp [go_sem];exact zWr
   .rw [C]
    simpa[go_sem] using a0.low (low':=[.dead,.dead]) rfl
 .have T:k=R:=by omega
  subst T;simp[go_sem,e4,e7,ho.one];rw[a2];exact Rd.rel (r:=⟨i.length,jq sc i k⟩) (ho.low (low:=[.arr [aI 0,.lst true []],.arr [aI i.length,P]]) (low':=[.arr [aI i.length,P],.arr [aI i.length,P]]) rfl).rdI
end G5
namespace GM
end GM
namespace GP
open P1 E3 GB G5
def jr(g:List Bool)(lo:Rl)(q:List Int×Nat)(t:Int):List Int×Nat:=
 if t∈lo.ts then (q.1++[t],q.2) else (q.1++(if g.getD q.2 false=true then [t] else []),q.2+1)
def insF(g:List Bool)(lo:Rl)(ts:List Int)(n:Nat):List Int×Nat:=ts.foldl (jr g lo) ([],n)
theorem qfP(g:List Bool)(lo:Rl)(ts:List Int)(n k:Nat)(h:k<ts.length):insF g lo (ts.take (k+1)) n=jr g lo (insF g lo (ts.take k) n) ts[k]:=by
 rw[jF h,insF,Qd];rfl
theorem Vf(g:List Bool)(lo:Rl):∀(ts:List Int) (q:List Int×Nat) (w:List Int),q.1.Sublist w->(ts.foldl (jr g lo) q).1.Sublist (w++ts)
 | [],q,w,h=>zUs h
 |t :: ts,q,w,h=>by
  rw[List.foldl_cons,show w++t :: ts=(w++[t])++ts by simp];refine Vf g lo ts _ _ ?_;unfold jr;split
  .exact h.append (List.Sublist.refl _)
  .split
   .exact h.append (List.Sublist.refl _)
   .exact h.append (List.nil_sublist _)
theorem Wx(g:List Bool)(lo:Rl):∀(ts:List Int) (q:List Int×Nat),(ts.foldl (jr g lo) q).2<=q.2+ts.length
 | [],q=>zSp
 |t :: ts,q=>by
  rw[List.foldl_cons];have:=Wx g lo ts (jr g lo q t);have i:(jr g lo q t).2<=q.2+1:=by unfold jr;split<;>simp
  simp only[zq];omega
def insB(g:List Bool)(q:List Rl×Nat)(b:Bd):List Rl×Nat:=(q.1++[⟨b.up.ar,(insF g b.lo b.up.ts q.2).1⟩],(insF g b.lo b.up.ts q.2).2)
def yx(g:List Bd)(i:List Bool):List Rl×Nat:=g.foldl (insB i) ([],0)
def zS(g:List Bd)(i:List Bool):List Rl:=(yx g i).1
theorem pu(g:List Bd)(i:List Bool)(k:Nat)(h:k<g.length):yx (g.take (k+1)) i=insB i (yx (g.take k) i) g[k]:=by
 rw[jF h,yx,Qd];rfl
theorem pv(g:List Bool)(M:Nat):∀(i:List Bd) (q:List Rl×Nat),(∀ b,b∈i->b.up.ts.length<=M)->(i.foldl (insB g) q).2<=q.2+i.length*M
 | [],q,_=>zSp
 |b :: i,q,h=>by
  rw[List.foldl_cons];have:=pv g M i (insB g q b) fun x j=>h x (qK _ j)
  have l:(insB g q b).2<=q.2+M:=zV (Wx g b.lo b.up.ts _) (by have:=h b (qR ..);simp only;omega);rw[zq,Nat.add_mul];omega
theorem Wy(i:List Bool):∀(g:List Bd) (q:List Rl×Nat),(g.foldl (insB i) q).1.map Rl.ar=q.1.map Rl.ar++g.map fun b=>b.up.ar
 | [],q=>zSp
 |b :: g,q=>by rw[List.foldl_cons,Wy i g];simp[insB]
theorem qfQ(g:List Bd)(i:List Bool):(zS g i).map Rl.ar=g.map fun b=>b.up.ar:=by
 rw[zS,yx,Wy];simp
theorem w7(g:List Bd)(i:List Bool):(zS g i).length=g.length:=by
 rw[<-zJ (f:=Rl.ar),qfQ,zJ]
def anyS(j:List Bool)(i:List Bd)(g:List (List Bool))(s:Nat):List Rl:=
 if s=0 then zS i (g.getD 0 []) else (zS i (g.getD s [])).mapIdx fun f r=>if j.getD f true=true then r else (zS i (g.getD 0 [])).getD f noR
def anyM(sc:Sc)(i:List Bool)(j:List Bd)(g:List (List Bool))(loop:Int):Md:=⟨sc,(qo sc.steps.toNat).map (anyS i j g),loop⟩
theorem pw(j:List Bool)(i:List Bd)(g:List (List Bool))(s:Nat):(anyS j i g s).length=i.length:=by
 unfold anyS;split
 .exact w7 ..
 .rw [List.length_mapIdx];exact w7 ..
def defB(ts:TS)(sc:Sc):List Bd:=ts.fields.map fun f=>⟨⟨f.sorts.length,[]⟩,⟨f.sorts.length,zQ sc f.sorts⟩⟩
end GP
namespace GQ
open YF P1 E9 Q8
def yn(sc:Sc):Bool:=decide (sc.atoms.length<=4)&&(decide (1<=sc.steps)&&(decide (sc.steps<=4)&&(sc.atoms.all (fun a=>decide (1<=a)&&decide (a<=5))&&decide (sumI sc.atoms<=12))))
theorem qfR{sc:Sc}(h:yn sc=true):GSc sc:=by
 simp only[yn,qq,decide_eq_true_eq,qJ]at h;exact⟨h.1,fun a g=>zW1 (h.2.2.2.1 a g)⟩
theorem qfS(sc:Sc):qd qb 113 [eSc sc] (aB (yn sc)):=by
 refine qSV call113 func113 rfl ?_;by_cases o:(4:Int)<sc.atoms.length
 case pos =>
  simp[go_sem,o,yn,show ¬sc.atoms.length<=4 by omega];exact .zsc _
 by_cases I:sc.steps<1
 case pos =>
  simp[go_sem,o,I,yn,show ¬ 1<=sc.steps by omega];exact .zsc _
 by_cases T:4<sc.steps
 case pos =>
  simp[go_sem,o,I,T,yn,show ¬sc.steps<=4 by omega];exact .zsc _
 simp[go_sem,o,I,T];refine qh.up sc.atoms.length (fun k st=>st.tm 1 = .ip [lI sc.atoms,aI sc.steps]/\st.tm 3=aI (sumI (sc.atoms.take k))/\st.tm 4=aI k/\st.mu=[]/\0<=sumI (sc.atoms.take k)/\sumI (sc.atoms.take k)<=5*k/\∀(i:Nat) (h:i<sc.atoms.length),i<k->1<=sc.atoms[i]/\sc.atoms[i]<=5) ?_ ?_
 .simp [go_sem,sumI]
 rintro k st hk ⟨p,J,r,t,s0,s1,U⟩;by_cases g:k<sc.atoms.length
 .by_cases hb:sc.atoms[k]<1\/5<sc.atoms[k]
  .have:sc.atoms.all (fun a=>decide (1<=a)&&decide (a<=5))=false:=J7 g zSo
   have:yn sc=false:=by simp only[yn,this,Bool.and_false,Bool.false_and]
   rw[this];by_cases j:sc.atoms[k]<1
   .simp [go_sem,p,r,t,g,j]
    exact .zsc _
   .simp [go_sem,p,r,t,g,j,show 5<sc.atoms[k] by omega]
    exact .zsc _
  .have hs:=uF sc.atoms k g
   generalize hS:sumI (sc.atoms.take k)=S at *
   simp[go_sem,p,J,r,t,g,hs,show ¬sc.atoms[k]<1 by omega,show ¬ 5<sc.atoms[k] by omega];refine⟨zWr,zWr,zOm,zOm,fun i h C=>?_⟩;rcases Nat.lt_succ_iff_lt_or_eq.1 C with P|P
   .exact U i h P
   .subst P;exact⟨zOm,zOm⟩
 .have R:k=sc.atoms.length:=by omega
  subst R;rw[qX]at J;have l:sc.atoms.all (fun a=>decide (1<=a)&&decide (a<=5))=true:=by
   rw[J6];intro i C;have:=U i C C;simp;omega
  simp[go_sem,p,J,r,t];simp only[yn,l,show sc.atoms.length<=4 by omega,show 1<=sc.steps by omega,show sc.steps<=4 by omega];simp;exact .zsc _
theorem qfT(ts:TS)(sc:Sc):qd qb 64 [eTS ts,eSc sc] (aB (decide (ts.sorts.length=sc.atoms.length)&&yn sc)):=by
 refine qSV call64 func64 rfl ?_;by_cases h:ts.sorts.length=sc.atoms.length
 .simp [go_sem,h]
  refine qc.zP (qfS sc) (.zk (zx sc) .nil) ?_;exact .zsc _
 .simp [go_sem,h]
  exact .zsc _
def yM(ts:TS)(sc:Sc):Bool:=decide (1<=ts.sorts.length)&&(decide (ts.sorts.length<=4)&&(decide (ts.fields.length<=6)&&(decide (sc.atoms.length<=4)&&(ts.fields.all (fldB ts.sorts.length)&&(decide (ts.sorts.length=sc.atoms.length)&&yn sc)))))
theorem qfU(ts:TS)(sc:Sc):qd qb 27 [eTS ts,eSc sc] (aB (yM ts sc)):=by
 refine qSV call27 func27 rfl ?_;by_cases P:ts.sorts.length=0
 case pos =>
  have hf:yM ts sc=false:=by simp[yM,show ¬ 1<=ts.sorts.length by omega]
  rw[hf];simp[go_sem,P];exact .zsc _
 by_cases U:(4:Int)<ts.sorts.length
 case pos =>
  have hf:yM ts sc=false:=by simp[yM,show ¬ts.sorts.length<=4 by omega]
  rw[hf];simp[go_sem,P,U];exact .zsc _
 by_cases h2:(6:Int)<ts.fields.length
 case pos =>
  have hf:yM ts sc=false:=by simp[yM,show ¬ts.fields.length<=6 by omega]
  rw[hf];simp[go_sem,P,U,h2];exact .zsc _
 by_cases h3:(4:Int)<sc.atoms.length
 case pos =>
  have hf:yM ts sc=false:=by simp[yM,show ¬sc.atoms.length<=4 by omega]
  rw[hf];simp[go_sem,P,U,h2,h3];exact .zsc _
 simp[go_sem,P,U,h2,h3];refine qh.upK ts.fields.length (fun k st=>st.tm 2 = .ip (cTS ts)/\st.tm 3 = .ip [lI sc.atoms,aI sc.steps]/\st.tm 5=aI k/\∀(j:Nat) (h:j<ts.fields.length),j<k->fldB ts.sorts.length ts.fields[j]=true) ?_ ?_
 .exact ⟨zSi,zSi,zSi,fun j h hj=>absurd hj zOm⟩
 rintro k st hk ⟨o,I,r,hI⟩;by_cases p:k<ts.fields.length
 .have w1:=zWk k
  have l:fldB ts.sorts.length ts.fields[k]=false->yM ts sc=false:=fun hb=>by
   simp only[yM,J7 p hb,Bool.and_false,Bool.false_and]
  by_cases l1:(ts.fields[k].sorts.length:Int)<1
  .rw [l (by simp[fldB,show ¬ 1<=ts.fields[k].sorts.length by omega])]
   simp[go_sem,o,r,p,l1];exact .zsc _
  by_cases l3:(3:Int)<ts.fields[k].sorts.length
  .rw [l (by simp[fldB,show ¬ts.fields[k].sorts.length<=3 by omega])]
   simp[go_sem,o,r,p,l1,l3];exact .zsc _
  simp[go_sem,o,r,p,l1,l3];refine qh.upK ts.fields[k].sorts.length (fun j st=>st.tm 2 = .ip (cTS ts)/\st.tm 3 = .ip [lI sc.atoms,aI sc.steps]/\st.tm 5=aI k/\st.tm 6=lI ts.fields[k].sorts/\st.tm 7=aI j/\∀(i:Nat) (h:i<ts.fields[k].sorts.length),i<j->0<=ts.fields[k].sorts[i]/\ts.fields[k].sorts[i]<ts.sorts.length) ?_ ?_
  .exact ⟨zS1 o,zS1 I,zS1 r,zSi,zSi,fun j h hj=>absurd hj zOm⟩
  clear o I r st;rintro j st hj ⟨o,I,r,J,R,hJ⟩;by_cases g:j<ts.fields[k].sorts.length
  .have w2:=zWk j
   simp[go_sem,J,R,g];refine qg.intro zKr ?_;by_cases q1:ts.fields[k].sorts[j]<0
   .rw [l (by rw[fldB,J7 g zSo,Bool.and_false])]
    simp[go_sem,J,R,g,q1];exact .zsc _
   by_cases q2:(ts.sorts.length:Int)<=ts.fields[k].sorts[j]
   .rw [l (by rw[fldB,J7 g zSo,Bool.and_false])]
    simp[go_sem,o,J,R,g,q1,q2];exact .zsc _
   simp[go_sem,o,J,R,g,q1,q2,w2]
   try refine⟨g,Keep.mk' ?_⟩
   try refine Keep.mk' ?_
   refine⟨zS1 o,zS1 I,zS1 r,zS1 J,zSi,fun i h hi=>?_⟩;by_cases t:i=j
   .subst t;exact⟨zOm,zOm⟩
   .exact hJ i h zOm
  .have C:j=ts.fields[k].sorts.length:=by omega
   simp[go_sem,r,J,R,C,w1]
   try refine⟨p,Keep.mk' ?_⟩
   try refine Keep.mk' ?_
   refine⟨zS1 o,zS1 I,zSi,fun i h hi=>?_⟩;by_cases t:i=k
   .subst t
    have:ts.fields[i].sorts.all (fun x=>decide (0<=x)&&decide (x<ts.sorts.length))=true:=J6.2 fun a ha=>by
     have:=hJ a ha zOm;simp;omega
    simp only[fldB,this,Bool.and_true,qq,decide_eq_true_eq];omega
   .exact hI i h zOm
 .have C:k=ts.fields.length:=by omega
  have T:ts.fields.all (fldB ts.sorts.length)=true:=J6.2 fun i h=>hI i h zOm
  simp[go_sem,o,I,r,C];refine qc.zP (qfT ts sc) (.zk (zn ts) (.zk (zx sc) .nil)) ?_;have hf:yM ts sc=(decide (ts.sorts.length=sc.atoms.length)&&yn sc):=by
   simp only[yM,T,show 1<=ts.sorts.length by omega,show ts.sorts.length<=4 by omega,show ts.fields.length<=6 by omega,show sc.atoms.length<=4 by omega];simp
  rw[hf];exact .zsc _
end GQ
namespace GR
open YF P1 E1 E4 EO EP EQ F4 Q8 G5 GP GQ
section
variable {xs:List (List AV)}{mu:Mu}{sz:Nat}
theorem y9.ownB{P:qf}{t g e bt:Nat}{s x:AV}{ys:List (List AV)}{zv:AV}{K:AV->Mu->Prop}(U:qz P t=some (e,sz,bt))(j:(qz P g).isSome=true)(hz:qx P e=some zv)
  (o:zv.cells.length=sz) (p:zv.cells.all AV.one=true) (r:sz≠0) (hb:bt<=16384) (ho:Own mu sz s xs) (hx:qH mu x=some ys) (R:zg sz xs) (wy:zg sz ys) (T:xs.length+ys.length<=4294967296)
  (k:∀ av l,Own l sz av (xs++ys)->(∀ i,i<mu.length->qr s≠some i->l[i]?=mu[i]?)->(∀ b,qr av=some b->b=mu.length)->mu.length<=l.length->(ys≠[]->∃ b,qr av=some b)->K av l):y9 P mu #[t,g] s x K:=by
 refine⟨t,g,e,sz,bt,ys,rfl,U,j,⟨zv,hz,o,p⟩,r,hb,hx,wy,?_⟩;rcases ho with rfl|⟨b,rfl,hc⟩
 .refine .inl ⟨xs,rfl,R,T,fun h=>?_,fun h=>?_⟩
  .subst h
   exact k _ _ (.inl zSp) (fun _ _ _=>rfl) (fun b h=>by cases h) (qn _) (fun h=>absurd rfl h)
  .refine k _ _ (.inr ⟨mu.length,zSp,zSp⟩) (fun i C _=>?_) (fun b h=>by cases h;rfl) zSp (fun _=>⟨_,rfl⟩)
   rw[qI C]
 .have a0:=zW R.ok
  refine .inr ⟨b,xs.length,xs.flatten,rfl,hc,zOm,T,?_⟩;have I:xs.flatten.take (xs.length*sz)=xs.flatten:=zK zOm;refine k _ _ (.inr ⟨mu.length,zSp,?_⟩) (fun i C J=>?_) (fun b h=>by cases h;rfl) zSp (fun _=>⟨_,rfl⟩)
  .rw [I,qT zSp];simp
  .rw [qI (zUs C)]
   rw[yP (fun e=>J (by rw[e];rfl))]
theorem qA.giveB{P:qf}{t t' e bt:Nat}{s:AV}{y:List AV}(p:List AV){zv:AV}{full:Bool}{K:AV->Mu->Prop}(R:Nat)(hs:qz P t=some (e,sz,bt))(r:(qz P t').isSome=true)(hz:qx P e=some zv)
  (C:zv.cells.length=sz) (I:zv.cells.all AV.one=true) (J:sz≠0) (g:bt<=16384) (ho:Own mu sz s xs) (T:∀ b,qr s=some b->b<R) (U:Rds (cutM (fun i=>decide (R<=i)) mu 0) y p) (wx:zg sz xs) (wy:zg sz [p]) (hl:xs.length+1<=4294967296)
  (k:∀ av l,Own l sz av (xs++[p])->(∀ i,i<mu.length->i<R->qr s≠some i->l[i]?=mu[i]?)->(∀ b,qr av=some b->b=mu.length)->mu.length<=l.length->(∃ b,qr av=some b)->K av l):qA P mu #[t,t'] s (.lst full [y]) K:=by
 have cg:∀ i,i<R->(cutM (fun i=>!decide (R<=i)) mu 0)[i]?=mu[i]?:=fun i hi=>by
  rw[jI];simp only[yc,decide_eq_false (show ¬R<=i by omega),Bool.not_false,if_true];cases mu[i]?<;>rfl
 have o:Rd (cutM (fun i=>decide (R<=i)) mu 0) (.lst full [y]) (.lst full [p]):=by
  obtain⟨h1,h2⟩:=U.get;refine .lst full _ _ rfl (fun k a b j g=>?_) (fun k a b j g=>?_)
  .cases k with
   |zero=>simp at j g;subst j;subst g;exact h1.symm
   |succ k=>simp at j
  .simp at j g;exact h2 k a b j g
 have a0:Own (cutM (fun i=>!decide (R<=i)) mu 0) sz s xs:=by
  rcases ho with h|⟨b,h,hc⟩
  .exact .inl h
  .exact .inr ⟨b,h,by rw[cg b (T b (by rw[h];rfl))];exact hc⟩
 refine .inr (.inl ⟨_,_,o,y9.ownB hs r hz C I J g a0 rfl wx wy hl fun av l h1 h2 h3 h4 h5=>k av l h1 (fun i hi hR a1=>?_) (fun b g=>?_) ?_ (h5 zSp)⟩)
 .rw [h2 i (by rw[uq];exact hi) a1,cg i hR]
 .have:=h3 b g;rw[uq]at this;exact this
 .rw [uq]at h4;exact h4
theorem Wz{C:Type}{f g:C->List AV}:∀{l:List C},(∀ a,a∈l->Rds mu (f a) (g a))->∀(k:Nat) x y,(l.map f).flatten[k]?=some x->(l.map g).flatten[k]?=some y->Rd mu x y
 | [],_,k,x,y,i,_=>by simp at i
 |a :: l,h,k,x,y,i,j=>by
  obtain⟨o,p⟩:=(h a (qR ..)).get;simp only[List.map_cons,List.flatten_cons]at i j;by_cases r:k<(f a).length
  .rw [qI r]at i
   rw[zGa]at j;exact p k x y i j
  .rw [qT zOm]at i
   rw[qT zOm,o]at j;exact Wz (fun b t=>h b (qK _ t)) _ x y i j
theorem Own.rdM{C:Type}{av:AV}{f g:C->List AV}{l:List C}(h:Own mu sz av (l.map f))(wf:zX sz (l.map f))(o:zX sz (l.map g))(p:∀ a,a∈l->Rds mu (f a) (g a)):Rd mu av (.lst false (l.map g)):=by
 rcases h with rfl|⟨b,rfl,r⟩
 .refine .wk _ true _ (.lst true _ _ zSp (fun k x y i j=>?_) (Wz p))
  rw[wf x (qZ i),o y (qZ j)]
 .refine .sl b sz 0 _ _ _ r (zW1 (zW wf)) zSp o (fun k x y i j=>?_)
  rw[yc]at i;exact Wz p k x y i j
theorem px:∀{l:List Int},l≠[]->(∀ a,a∈l->1<=a)->1<=sumI l
 | [],h,_=>absurd rfl h
 | [a],_,h=>by have:=h a zSp;simp[sumI];omega
 |a :: b :: l,_,h=>by
  have j:=h a zSp;have g:=px (l:=b :: l) zSp fun x i=>h x (qK _ i)
  simp only[sumI,List.foldr_cons]at g⊢;omega
structure Fit9 (ts:TS) (sc:Sc):Prop where
 g:GSc sc
 p:0<sumI sc.atoms
 nf:ts.fields.length<=6
 ns:ts.sorts.length=sc.atoms.length
 s1:1<=sc.steps
 s4:sc.steps<=4
 f1:∀ f,f∈ts.fields->1<=f.sorts.length/\f.sorts.length<=3
 fs:∀ f,f∈ts.fields->∀ s,s∈f.sorts->0<=s/\s<sc.atoms.length
theorem Vg{ts:TS}{sc:Sc}(h:yM ts sc=true):Fit9 ts sc:=by
 simp only[yM,qq,decide_eq_true_eq,qJ,fldB]at h;obtain⟨C,I,p,J,o,j,i⟩:=h;have g:=qfR i;simp only[yn,qq,decide_eq_true_eq,qJ]at i;refine⟨g,?_,p,j,i.2.1,i.2.2.1,fun f hf=>(o f hf).1,fun f hf s r=>?_⟩
 .have:=px (l:=sc.atoms) (fun e=>by rw[e,List.length_nil]at j;omega) fun a t=>(i.2.2.2.1 a t).1
  omega
 .have:=(o f hf).2 s r
  rw[j]at this;exact this
def rowD(sc:Sc)(f:Fld):List AV:=[aI f.sorts.length,.lst true [],aI f.sorts.length,lI (zQ sc f.sorts)]
theorem Yg(sc:Sc)(l:List Fld):zg 4 (l.map (rowD sc)):=fun r g=>by
 obtain⟨n,_,rfl⟩:=qk.1 g;exact⟨rfl,rfl⟩
theorem WA(ts:TS)(sc:Sc)(F:Fit9 ts sc):qd qb 24 [eTS ts,eSc sc] (lBd (defB ts sc)):=by
 have a0:=F.nf;refine qSU call24 func24 rfl ?_;refine qh.upK ts.fields.length (fun k st=>st.tm 2 = .ip (cTS ts)/\st.tm 3 = .ip [lI sc.atoms,aI sc.steps]/\st.tm 6=aI k/\Own st.mu 4 (st.tm 5) ((ts.fields.take k).map (rowD sc))) ?_ ?_
 .exact ⟨zSi,zSi,zSi,.inl zSi⟩
 rintro k st hk ⟨C,U,I,J⟩;by_cases i:k<ts.fields.length
 .have w1:=zWk k
  have o:=qt i;have t:=pt sc F.g F.p ts.fields[k].sorts (F.f1 _ o).1 (F.f1 _ o).2 (F.fs _ o);simp[go_sem,C,I,i];refine qg.intro zKr ?_;simp[go_sem,C,U,I,i];refine qc.zP t (.zk (zx _) (.zk (zf _) .nil)) ?_;refine qA.ownB (e:=113) (sz:=4) (bt:=64) (zv := .agg [aI 0,.lst true [],aI 0,.lst true []]) (xs:=(ts.fields.take k).map (rowD sc)) (ys:=[rowD sc ts.fields[k]]) zSi zSi zSi rfl rfl zOm zOm J (by simp[qH,rowD]) (Yg sc _) (Yg sc [_]) zSo ?_;intro a1 l P _ _ _;simp[go_sem,I,i,w1];refine Keep.mk' ⟨zS1 C,zS1 U,zSi,?_⟩;rw[uJ i,zd];simpa[go_sem] using P
 .have R:k=ts.fields.length:=by omega
  subst R;rw[qX]at J;simp[go_sem,C,I];have:=Own.rdM (g:=fun f=>cBd ⟨⟨f.sorts.length,[]⟩,⟨f.sorts.length,zQ sc f.sorts⟩⟩) J (Yg sc _).ok (fun r T=>by
   obtain⟨n,_,rfl⟩:=qk.1 T;rfl) fun f _=>⟨.hf _ (HF.sc _),.wk _ true _ (.hf _ (HF.lst fun r T=>by simp at T)),.hf _ (HF.sc _),.hf _ (zf _),trivial⟩
  show Rd _ _ (.lst false ((defB ts sc).map cBd));rw[defB,List.map_map];exact this
structure WB (b:Bd):Prop where
 u:b.up.ts.length<=100000
 l:b.lo.ts.length<=100000
 s:sorted b.lo.ts
theorem qfV(g t:Int)(lo:Rl):inOk ⟨g,[t]⟩ lo=decide (t∈lo.ts):=by simp[inOk]
theorem Zc{R:Nat}{av:AV}(h:Own mu sz av xs)(g:∀ b,qr av=some b->R<=b):Own (cutM (fun i=>decide (R<=i)) mu 0) sz av xs:=by
 rcases h with h|⟨b,h,j⟩
 .exact .inl h
 .refine .inr ⟨b,h,?_⟩
  rw[jI,j];simp[g b (by rw[h];rfl)]
theorem qfW(fl:Bool)(o:List Bd)(C:List Bool)(mu:Mu)(hl:o.length<=1000)(hb:∀ b,b∈o->WB b) :
  qL qb 32 [lBd o,.lst fl (C.map rB)] mu (fun e m=>∃ av,e = .ret av/\Own m 2 av ((zS o C).map cRel)/\(∀ i,i<mu.length->m[i]?=mu[i]?)/\(∀ b,qr av=some b->mu.length<=b)/\mu.length<=m.length/\(0<o.length->∃ b,qr av=some b)):=by
 refine qSW call32 func32 rfl {} ?_;simp[go_sem];refine qh.upK o.length (fun k st=>st.tm 0=lBd o/\st.tm 1 = .lst fl (C.map rB)/\st.tm 6=aI (yx (o.take k) C).2/\st.tm 7=aI k/\Own st.mu 2 (st.tm 5) ((yx (o.take k) C).1.map cRel)/\(∀ i,i<mu.length->st.mu[i]?=mu[i]?)/\(∀ b,qr (st.tm 5)=some b->mu.length<=b)/\mu.length<=st.mu.length/\(0<k->∃ b,qr (st.tm 5)=some b)) ?_ ?_
 .exact ⟨zSi,zSi,by simp[go_sem,yx],zSi,.inl (by simp[go_sem,yx]),zSi,by simp[go_sem,qr],zSi,fun h=>absurd h zOm⟩
 rintro k st hk ⟨U,e1,e6,e7,ho,hs,ah,an,ao⟩;by_cases I:k<o.length
 .have w1:=zWk k
  obtain⟨bu,bl,aq⟩:=hb _ (qt I);have au:=pv C 100000 (o.take k) ([],0) fun x hx=>(hb x (vd hx)).u
  have b0:(yx (o.take k) C).2<=100000000:=by
   have:=List.length_take_le k o;have h2:(o.take k).length*100000<=1000*100000:=Nat.mul_le_mul_right _ zOm;have h3:(yx (o.take k) C).2<=0+(o.take k).length*100000:=au;omega
  have a3:=pu o C k I;generalize hq:yx (o.take k) C=q at *
  generalize aw:st.tm 5=s at *
  have ai:∀ b,qr s=some b->b<st.mu.length:=fun b h=>Own.lt ho h
  generalize hR:st.mu.length=R at *
  simp[go_sem,U,e7,I];refine qh.upK o[k].up.ts.length (fun j st2=>st2.tm 0=lBd o/\st2.tm 1 = .lst fl (C.map rB)/\st2.tm 5=s/\st2.tm 7=aI k/\st2.tm 8 = .ptr R 0/\st2.tm 9=aI j/\st2.tm 6=aI (insF C o[k].lo (o[k].up.ts.take j) q.2).2 /\
   ∃ av,st2.mu[R]?=some (.arr [aI o[k].up.ar,av])/\Own st2.mu 1 av ((insF C o[k].lo (o[k].up.ts.take j) q.2).1.map rI)/\(∀ b,qr av=some b->R<b)/\(∀ i,i<R->st2.mu[i]?=st.mu[i]?)) ?_ ?_
  .exact ⟨zS1 U,zS1 e1,zS1 aw,zS1 e7,zS1 hR,zSi,by simp[go_sem,e6,insF],.lst true [],zS1 hR,.inl (by simp[insF]),by simp[qr],fun i hi=>by simp[go_sem];rw[zGa]⟩
  clear U e1 e6 e7;rintro j st2 hj ⟨U,e1,e5,e7,e8,e9,e6,av,a0,a2,a4,a5⟩;by_cases J:j<o[k].up.ts.length
  .have w2:=zWk j
   have ax:=Wx C o[k].lo (o[k].up.ts.take j) ([],q.2);have b1:(insF C o[k].lo (o[k].up.ts.take j) q.2).2<=100100000:=by
    have:=List.length_take_le j o[k].up.ts;have h3:(insF C o[k].lo (o[k].up.ts.take j) q.2).2<=q.2+(o[k].up.ts.take j).length:=ax;omega
   have aj:=(Vf C o[k].lo (o[k].up.ts.take j) ([],q.2) [] (List.Sublist.refl _)).length_le;have b2:(insF C o[k].lo (o[k].up.ts.take j) q.2).1.length<=100000:=by
    have:=List.length_take_le j o[k].up.ts;have h3:(insF C o[k].lo (o[k].up.ts.take j) q.2).1.length<=([]++o[k].up.ts.take j).length:=aj;simp at h3;omega
   have a8:=qfP C o[k].lo o[k].up.ts q.2 j J;generalize hp:insF C o[k].lo (o[k].up.ts.take j) q.2=p at *
   have w3:qs.wrap ((p.2:Int)+1)=(p.2:Int)+1:=zWr;have ak:R<st2.mu.length:=(qe.1 a0).1;have b3:qr av≠some st2.mu.length:=fun h=>zW1 (Own.lt a2 h)
   have al:qr av≠some R:=fun h=>zW1 (a4 R h)
   have a1:∀ c,(st2.mu++[c])[R]?=some (.arr [aI o[k].up.ar,av]):=fun c=>by rw[qI ak];exact a0
   have a6:=in06 ⟨o[k].up.ar,[o[k].up.ts[j]]⟩ o[k].lo zSp zOm aq;rw[qfV]at a6;have a9:WKs [.agg [aI o[k].up.ar,.lst true [[aI o[k].up.ts[j]]]],eRel o[k].lo] [eRel ⟨o[k].up.ar,[o[k].up.ts[j]]⟩,eRel o[k].lo] := .cons (WK.aggs (.zs (.cons (WK.ints [o[k].up.ts[j]]) .nil))) (.zk (zZ _) .nil);have ad:∀(K:AV->Mu->Prop),(∀ T l,Own l 1 T ((p.1++[o[k].up.ts[j]]).map rI)->l[R]?=some (.arr [aI o[k].up.ar,av])->(∀ b,qr T=some b->R<b)->(∀ i,i<R->l[i]?=st.mu[i]?)->K T l)->qA qb (st2.mu++[.arr [aI o[k].up.ar,.lst true [[aI o[k].up.ts[j]]]]]) #[28,28] av (.lst true [[aI o[k].up.ts[j]]]) K:=fun K hK=>by
    refine qA.ownB (e:=3) (sz:=1) (bt:=8) (zv:=aI 0) (xs:=p.1.map rI) (ys:=[rI o[k].up.ts[j]]) zSi zSi zSi rfl rfl zOm zOm (Own.push a2 _) (by simp[qH]) (zU _) (zU [_]) zSo ?_;intro T l ae aa af ay;refine hK T l (by rw[zd];exact ae) (by rw[aa R zSo al];exact a1 _) (fun b h=>by have:=af b h;simp at this;omega) fun i hi=>?_
    rw[aa i zSo (fun h=>zW1 (a4 i h)),zGa];exact a5 i hi
   by_cases P:o[k].up.ts[j]∈o[k].lo.ts
   .have t:insF C o[k].lo (o[k].up.ts.take (j+1)) q.2=(p.1++[o[k].up.ts[j]],p.2):=by rw[a8,jr,if_pos P]
    simp[go_sem,U,e7,e8,e9,I,J,a0];refine qg.intro zKr ?_;simp[go_sem,U,e7,I];refine qc.pure a6 a9 ?_;simp[go_sem,e8,a1,P];refine ad _ fun T l h1 h2 h3 h4=>?_
    simp[go_sem,e8,e9,J,h2,w2,Own.one h1,Own.cells h1]
    try refine⟨J,Keep.mk' ?_⟩
    try refine Keep.mk' ?_
    refine⟨zS1 U,zS1 e1,zS1 e5,zS1 e7,zS1 e8,zSi,zS2 e6 t,T,by simp[go_sem,(qe.1 h2).1],?_,h3,fun i hi=>?_⟩
    .rw [t]
     simpa[go_sem] using Own.set h1 (.arr [aI o[k].up.ar,T]) (fun h=>zW1 (h3 R h))
    .simp [go_sem]
     rw[zGl];exact h4 i hi
   .by_cases a7:p.2<C.length
    .cases ab:C[p.2] with
     |true =>
      have t:insF C o[k].lo (o[k].up.ts.take (j+1)) q.2=(p.1++[o[k].up.ts[j]],p.2+1):=by rw[a8,jr,if_neg P,q8,qv a7,ab];rfl
      simp[go_sem,U,e7,e8,e9,I,J,a0];refine qg.intro zKr ?_;simp[go_sem,U,e7,I];refine qc.pure a6 a9 ?_;simp[go_sem,e1,e8,e6,a1,P,a7,ab];refine ad _ fun T l h1 h2 h3 h4=>?_
      simp[go_sem,e8,e9,e6,J,h2,w2,w3,Own.one h1,Own.cells h1]
      try refine⟨J,Keep.mk' ?_⟩
      try refine Keep.mk' ?_
      refine⟨zS1 U,zS1 e1,zS1 e5,zS1 e7,zS1 e8,zSi,zS1 t,T,by simp[go_sem,(qe.1 h2).1],?_,h3,fun i hi=>?_⟩
      .rw [t]
       simpa[go_sem] using Own.set h1 (.arr [aI o[k].up.ar,T]) (fun h=>zW1 (h3 R h))
      .simp [go_sem]
       rw[zGl];exact h4 i hi
     |false =>
      have t:insF C o[k].lo (o[k].up.ts.take (j+1)) q.2=(p.1,p.2+1):=by rw[a8,jr,if_neg P,q8,qv a7,ab];simp
      simp[go_sem,U,e7,e8,e9,I,J,a0];refine qg.intro zKr ?_;simp[go_sem,U,e7,I];refine qc.pure a6 a9 ?_;simp[go_sem,e1,e9,e6,J,P,a7,ab,w2,w3]
      try refine⟨J,Keep.mk' ?_⟩
      try refine Keep.mk' ?_
      refine⟨zS1 U,zS1 e1,zS1 e5,zS1 e7,zS1 e8,zSi,zS1 t,av,zS1 a1,?_,a4,fun i hi=>?_⟩
      .rw [t];simpa[go_sem] using Own.push a2 _
      .simp [go_sem];rw[zGa];exact a5 i hi
    .have t:insF C o[k].lo (o[k].up.ts.take (j+1)) q.2=(p.1,p.2+1):=by rw[a8,jr,if_neg P,q8,yC zOm];simp
     simp[go_sem,U,e7,e8,e9,I,J,a0];refine qg.intro zKr ?_;simp[go_sem,U,e7,I];refine qc.pure a6 a9 ?_;simp[go_sem,e1,e9,e6,J,P,a7,w2,w3]
     try refine⟨J,Keep.mk' ?_⟩
     try refine Keep.mk' ?_
     refine⟨zS1 U,zS1 e1,zS1 e5,zS1 e7,zS1 e8,zSi,zS1 t,av,zS1 a1,?_,a4,fun i hi=>?_⟩
     .rw [t];simpa[go_sem] using Own.push a2 _
     .simp [go_sem];rw[zGa];exact a5 i hi
  .have ag:j=o[k].up.ts.length:=by omega
   subst ag;rw[qX]at e6 a2;have b4:=Vf C o[k].lo o[k].up.ts ([],q.2) [] (List.Sublist.refl _);have b5:q.1.length=k:=by
    rw[<-hq];have:=congrArg List.length (Wy C (o.take k) ([],0));simp at this;show (yx (o.take k) C).1.length=k;rw[yx,this];omega
   simp[go_sem,U,e5,e7,e8,e9,I,a0,Own.one a2];refine qA.giveB (e:=90) (sz:=2) (bt:=32) (zv := .agg [aI 0,.lst true []]) (xs:=q.1.map cRel) (cRel ⟨o[k].up.ar,(insF C o[k].lo o[k].up.ts q.2).1⟩) R zSi zSi zSi rfl rfl zOm zOm ?_ ai ?_ (wT _) (wT [_]) zSo ?_
   .rcases ho with h|⟨b,h,hc⟩
    .exact .inl h
    .refine .inr ⟨b,h,?_⟩
     rw[a5 b (ai b (by rw[h];rfl))];exact hc
   .refine ⟨.hf _ (HF.sc _),?_,trivial⟩
    exact Own.rd (Zc a2 fun b h=>zW1 (a4 b h)) (zU _).ok fun r hr c hc=>by
     obtain⟨n,_,rfl⟩:=qk.1 hr;simp at hc;subst hc;exact HF.sc _
   intro T l ae aa af ay az;have ak:R<st2.mu.length:=(qe.1 a0).1;simp[go_sem,e7,I,w1]
   try refine⟨I,Keep.mk' ?_⟩
   try refine Keep.mk' ?_
   refine⟨zS1 U,zS1 e1,by simp[go_sem,e6,a3,insB],zSi,?_,fun i hi=>?_,fun b h=>?_,by simp[go_sem];omega,fun _=>by simp[go_sem];exact az⟩
   .rw [a3,insB,zd]
    simpa[go_sem] using ae
   .simp [go_sem]
    rw[aa i zOm zOm (fun h=>zW1 (ah i h)),a5 i zOm];exact hs i hi
   .simp [go_sem]at h
    have:=af b h;omega
 .have ag:k=o.length:=by omega
  subst ag;rw[qX]at ho e6;simp[go_sem,U,e7];exact⟨ho,hs,ah,an,ao⟩
end
end GR
namespace JG
open Y1 JE JF
def nF:Nd := .mk 1 (bA [102]) 0 [] 0
theorem tabOf{E:EnvJ}(g:qW qb E)(n:Nat){f:us}{l:List (List AV×AV)}(h:l.all (fun p=>eqLi (eqV 64) (p.1.map (nV 64)) p.1&&Ve E n f p.1 p.2)=true):jm qb f (jZ (tabX l)):=by
 refine ZX (ZY fun p i=>?_);have:=qJ.1 h p i;rw[qq]at this;rw[uC (fun a b=>Qu) this.1];exact uQ g this.2
theorem WC{f:us}{l:List (List AV×AV)}(h:l.all (fun p=>eqLi (eqV 64) (p.1.map (nV 64)) p.1)=true)(i:∀ p,p∈l->qd qb f p.1 p.2):jm qb f (jZ (tabX l)):=by
 refine ZX (ZY fun p g=>?_);rw[uC (fun a b=>Qu) (qJ.1 h p g)];exact i p g
theorem Yh{l:List (us×jc)}{f:us}{h:jc}(i:∀ p,p∈l->jm qb p.1 p.2)(j:jm qb f h):∀ p,p∈(f,h) :: l->jm qb p.1 p.2:=fun p g=>by
 rcases qu.1 g with rfl|g
 .exact j
 .exact i p g
end JG
end Go.Proofs.YtahmfpfdgiemoaaGreatDoor
