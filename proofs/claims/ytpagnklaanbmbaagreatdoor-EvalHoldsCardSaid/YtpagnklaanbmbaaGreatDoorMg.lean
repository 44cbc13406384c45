/-
  Own library, part 7: an abstract reading of values and a calculus over it; contracts of functions; plain lemmas.
-/
import Derived.Test.YtpagnklaanbmbaaGreatDoorMf
set_option linter.unusedVariables false
set_option linter.unusedSimpArgs false
set_option maxRecDepth 100000
open Go.Proofs.Tryz renaming prog->qb
open Nat renaming le_of_ble_eq_true->qh,le_refl->qm,le_trans->zP,zero_add->yy
open Go.IntKind renaming i64->qj
open List renaming getElem?_eq_some_iff->qk,getElem?_append_left->qo,mem_map->qr,mem_cons->qt,range->qu,getElem_mem->qy,getElem?_eq_getElem->qA,not_mem_nil->qE,all_eq_true->qI,getElem?_set_self->qJ,mem_singleton->qL,mem_append->qM,mem_of_getElem?->qV,mem_cons_of_mem->qY,replicate->qZ,mem_cons_self->q8,length_append->zc,getElem?_append_right->zf,drop_eq_getElem_cons->zt,take_length->zw,map_append->zx,append_assoc->zE,length_cons->zG,getD_eq_getElem?_getD->zT,append_nil->zV,take_of_length_le->ye,drop_length->yk,mem_range->yx,length_map->yI,getElem?_eq_none->jj,nil_append->jq,mem_filter->vt,flatMap_cons->uG,take_succ_eq_append_getElem->Ze,getElem_append_left->UV
open Option.some renaming injEq->qp
open Bool renaming and_eq_true->qB,eq_iff_iff->vO
open Int renaming le_refl->j9
namespace Go.Proofs.YtpagnklaanbmbaaGreatDoor
open Go Go.Ev Go.Proofs Tryz
namespace QF
open Y2 Y3 P1 P2 QD QE
section
variable {p q:Int}{a b:Kd}{l:List Int}{m ns:Nat}
def dig(k:Int)(j:Nat):List Int:=if k=0 then [] else if k=1 then [(j:Int)] else if k=2 then [((j / 4:Nat):Int),((j % 4:Nat):Int)] else [((j / 16:Nat):Int),((j / 4 % 4:Nat):Int),((j % 4:Nat):Int)]
theorem ZJ{k:Int}(h:0<=k/\k<=3)(j:Nat):((dig k j).length:Int)=k:=by
 unfold dig;split
 .simp;omega
 .split
  .simp;omega
  .split
   .simp;omega
   .simp;omega
theorem szA1:szA 1=4:=rfl
theorem szA2:szA 2=16:=rfl
theorem szA3:szA 3=64:=rfl
theorem JC(h:0<=p/\p<=3):p=0\/p=1\/p=2\/p=3:=by omega
theorem qaB(hp:0<=p)(g:0<=q)(h:p+q<=3){j:Nat}(i:j<szA (p+q)):j / szA q<szA p/\j % szA q<szA q/\dig (p+q) j=dig p (j / szA q)++dig q (j % szA q):=by
 rcases JC (p:=p) ⟨hp,zOm⟩ with rfl|rfl|rfl|rfl<;>rcases JC (p:=q) ⟨g,zOm⟩ with rfl|rfl|rfl|rfl<;>first | (exfalso;omega)|skip
 all_goals simp[dig,szA]at i⊢
 all_goals omega
theorem Kn(hp:0<=p)(g:0<=q)(h:p+q<=3){i k:Nat}(j:i<szA p)(l:k<szA q):i*szA q+k<szA (p+q)/\dig (p+q) (i*szA q+k)=dig p i++dig q k:=by
 rcases JC (p:=p) ⟨hp,zOm⟩ with rfl|rfl|rfl|rfl<;>rcases JC (p:=q) ⟨g,zOm⟩ with rfl|rfl|rfl|rfl<;>first | (exfalso;omega)|skip
 all_goals simp[dig,szA]at j l⊢
 all_goals omega
theorem Ko(h:0<=p/\p<=3){i j:Nat}(g:i<szA p)(l:j<szA p)(e:dig p i=dig p j):i=j:=by
 rcases JC h with rfl|rfl|rfl|rfl
 all_goals simp[dig,szA]at g l e
 all_goals omega
theorem qaC(h:1<=p/\p<=3){l:List Int}(g:(l.length:Int)=p)(hx:∀ x,x∈l->0<=x/\x<4):∃ i,i<szA p/\l=dig p i:=by
 match l,g,hx with
 | [],g,_=>simp at g;omega
 | [a],g,hx =>
  obtain rfl:p=1:=by simpa using g.symm
  have:=hx a zSp;exact⟨a.toNat,by rw[szA1];omega,by simp[dig];omega⟩
 | [a,b],g,hx =>
  obtain rfl:p=2:=by simpa using g.symm
  have:=hx a zSp;have:=hx b zSp;exact⟨(a*4+b).toNat,by rw[szA2];omega,by simp[dig];omega⟩
 | [a,b,c],g,hx =>
  obtain rfl:p=3:=by simpa using g.symm
  have:=hx a zSp;have:=hx b zSp;have:=hx c zSp;exact⟨(a*16+b*4+c).toNat,by rw[szA3];omega,by simp[dig];omega⟩
 |a :: b :: c :: d :: l,g,_=>simp at g;omega
theorem Kq{l':List Int}(h:l.length=l'.length)(j:l.length<=3)(e:pad l=pad l'):l=l':=by
 have g:=Qt j l.length (qm _);have i:=Qt (l:=l') zOm l'.length (qm _);rw[zw]at g i;rw[<-g,<-i,e,h]
theorem Yn{k:Kd}(h:okKd ns k)(g:ns<=4){t:Tp}(j:t∈k.ts):∃ i,i<szA k.ar/\t=pad (dig k.ar i):=by
 obtain⟨l,rfl,o,hx⟩:=h.ts t j;obtain⟨i,p,e⟩:=qaC h.ar o fun x r=>zW1 (hx x r)
 exact⟨i,p,by rw[e]⟩
def qq(k:Kd):RS:=(k.ar,fun j=>decide (j<szA k.ar/\pad (dig k.ar j)∈k.ts))
theorem yN(k:Kd)(j:Nat):(qq k).2 j=true↔j<szA k.ar/\pad (dig k.ar j)∈k.ts:=decide_eq_true_iff
theorem Qb{a b:RS}(g:a.1=b.1)(i:∀ j,j<64->a.2 j=b.2 j):eRS a=eRS b:=by
 simp only[eRS,cRS,g,uE i]
theorem JD(h:a.ar=b.ar):eRS (uniS (qq a) (qq b))=eRS (qq (kSum a b)):=by
 refine Qb rfl fun j l=>?_
 rw[vO,yN];show ((qq a).2 j||(qq b).2 j)=true↔j<szA a.ar/\pad (dig a.ar j)∈uni (uni [] a.ts) b.ts;rw[Bool.or_eq_true,yN,yN,<-h,vE,vE];constructor
 .rintro (⟨i,g⟩|⟨i,g⟩)
  .exact ⟨i,.inl (.inr g)⟩
  .exact ⟨i,.inr g⟩
 .rintro ⟨i,(g|g)|g⟩
  .cases g
  .exact .inl ⟨i,g⟩
  .exact .inr ⟨i,g⟩
theorem qlG(h:a.ar=b.ar):eRS (intS (qq a) (qq b))=eRS (qq (Z6 a b)):=by
 refine Qb rfl fun j o=>?_
 rw[vO,yN];show ((qq a).2 j&&(qq b).2 j)=true↔j<szA a.ar/\pad (dig a.ar j)∈a.ts.filter fun t=>decide (t∈b.ts)
 rw[qB,yN,yN,<-h,vt,decide_eq_true_eq];constructor
 .rintro ⟨⟨g,i⟩,_,l⟩;exact⟨g,i,l⟩
 .rintro ⟨g,i,l⟩;exact⟨⟨g,i⟩,g,l⟩
theorem Z7{n:Nat}{a b:List Tp}{t:Tp}:t∈wO n m a b↔∃ x y,x∈a/\y∈b/\conc x n y m 0=t:=by
 unfold wO;rw[vE];simp only[qE,false_or,qr,Prod.exists,Z5];constructor
 .rintro ⟨x,y,⟨g,i⟩,j⟩;exact⟨x,y,g,i,j⟩
 .rintro ⟨x,y,g,i,j⟩;exact⟨x,y,⟨g,i⟩,j⟩
theorem Jr{l':List Int}{n:Nat}(h:l.length=n)(g:l'.length=m)(i:n<=3)(j:m<=3):conc (pad l) n (pad l') m 0=pad (l++l'):=by
 unfold conc;rw[Nat.sub_zero,List.drop_zero,Qt zOm n zOm,Qt zOm m zOm,<-h,<-g,zw,zw]
theorem qlH(J:okKd ns a)(P:okKd ns b)(o:ns<=4)(R:a.ar+b.ar<=3):eRS (Ki (qq a) (qq b))=eRS (qq (uy a b)):=by
 have a0:=J.ar;have a1:=P.ar;have T:=fun i=>ZJ (k:=a.ar) zOm i
 have U:=fun i=>ZJ (k:=b.ar) zOm i
 have g:=fun i=>ZJ (k:=a.ar+b.ar) zOm i
 refine Qb rfl fun j hj=>?_
 rw[vO,yN];show (decide (j<szA a.ar*szA b.ar)&&((qq a).2 (j / szA b.ar)&&(qq b).2 (j % szA b.ar)))=true↔j<szA (a.ar+b.ar)/\pad (dig (a.ar+b.ar) j)∈wO a.ar.toNat b.ar.toNat a.ts b.ts;rw[qB,qB,yN,yN,Z7,decide_eq_true_eq];constructor
 .rintro ⟨_,⟨t,h2⟩,h4,h5⟩
  have l:=Kn (p:=a.ar) (q:=b.ar) zOm zOm R t h4;have hd:j / szA b.ar*szA b.ar+j % szA b.ar=j:=Nat.div_add_mod' j _;rw[hd]at l;refine⟨l.1,_,_,h2,h5,?_⟩;rw[l.2];exact Jr (zW1 (T (j / szA b.ar))) (zW1 (U (j % szA b.ar))) zOm zOm
 .rintro ⟨t,x,y,hx,hy,e⟩
  obtain⟨i,C,rfl⟩:=Yn J o hx;obtain⟨k,r,rfl⟩:=Yn P o hy;rw[Jr (zW1 (T i)) (zW1 (U k)) zOm zOm]at e;have l:=Kn (p:=a.ar) (q:=b.ar) zOm zOm R C r;rw[<-l.2]at e;have e2:=Kq (zW2 (g (i*szA b.ar+k)) (g j)) (zW1 (g (i*szA b.ar+k))) e;have I:=Ko zOm l.1 t e2;have a2:=JB b.ar;have d1:j / szA b.ar=i:=by rw[<-I,Nat.add_comm,Nat.add_mul_div_right _ _ zOm,Nat.div_eq_of_lt r,yy]
  have d2:j % szA b.ar=k:=by rw[<-I,Nat.add_comm,Nat.add_mul_mod_self_right,Nat.mod_eq_of_lt r]
  rw[d1,d2];refine⟨?_,⟨C,hx⟩,r,hy⟩;rw[<-I]
  calc i*szA b.ar+k<i*szA b.ar+szA b.ar:=by omega
   _=(i+1)*szA b.ar:=by rw[Nat.add_mul,Nat.one_mul]
   _<=szA a.ar*szA b.ar:=Nat.mul_le_mul_right _ C
theorem wP{n:Nat}{a b:List Tp}{t:Tp}:t∈ux n m a b↔∃ x y,x∈a/\y∈b/\x.getD (n-1) 0=y.getD 0 0/\conc x n y m 1=t:=by
 unfold ux;rw[vE];simp only[qE,false_or,List.mem_filterMap,Prod.exists,Z5];constructor
 .rintro ⟨x,y,⟨i,j⟩,g⟩
  split at g
  .rename_i h;cases g;exact⟨x,y,i,j,h,rfl⟩
  .cases g
 .rintro ⟨x,y,i,j,g,l⟩;exact⟨x,y,⟨i,j⟩,by rw[if_pos g,l]⟩
theorem qlI{u v:List Int}{e f:Int}{n:Nat}(h:u.length+1=n)(g:v.length+1=m)(i:n<=3)(j:m<=3):conc (pad (u++[e])) n (pad ([f]++v)) m 1=pad (u++v):=by
 unfold conc;rw[Qt zSo (n-1) zSo,Qt zSo m zSo,List.take_append_of_le_length zOm,ye zOm,ye zSo];rfl
theorem qaD{k:Nat}(h:k<3):(pad l).getD k 0=l.getD k 0:=by
 match k,h with
 | 0,_=>rfl
 | 1,_=>rfl
 | 2,_=>rfl
theorem qlJ(hp:0<=p/\p<=2){i:Nat}(g:i<szA (p+1)):i / 4<szA p/\dig (p+1) i=dig p (i / 4)++[((i % 4:Nat):Int)]:=by
 have:=qaB (p:=p) (q:=1) hp.1 zOm zOm g;rw[szA1]at this;exact⟨this.1,this.2.2⟩
theorem qlK(g:0<=q/\q<=2){k:Nat}(i:k<szA (1+q)):k % szA q<szA q/\dig (1+q) k=[((k / szA q:Nat):Int)]++dig q (k % szA q):=by
 have:=qaB (p:=1) (q:=q) zOm g.1 zOm i;exact⟨this.2.1,this.2.2⟩
theorem qlL(g:0<=q/\q<=2):szA (q+1) / 4=szA q/\szA (q+1)=4*szA q:=by
 rcases (show q=0\/q=1\/q=2 by omega) with rfl|rfl|rfl<;>exact⟨rfl,rfl⟩
theorem qaE(ha:okKd ns a)(hb:okKd ns b)(r:ns<=4)(h3:1<=a.ar+b.ar-2/\a.ar+b.ar-2<=3):eRS (ZI (qq a) (qq b))=eRS (qq (zI a b)):=by
 have a0:=ha.ar;have a3:=hb.ar;obtain⟨p,hp⟩:∃ p,p=a.ar-1:=⟨_,rfl⟩;obtain⟨q,hq⟩:∃ q,q=b.ar-1:=⟨_,rfl⟩;have ea:a.ar=p+1:=zOm;have eb:b.ar=1+q:=zOm;have t:b.ar=q+1:=zOm;have C:a.ar+b.ar-2=p+q:=zOm;have I:=qlL (q:=q) zOm;have hn:szA b.ar / 4=szA q:=by rw[t];exact I.1
 have lp:=fun i=>ZJ (k:=p) zOm i
 have lq:=fun i=>ZJ (k:=q) zOm i
 have o:=fun i=>ZJ (k:=p+q) zOm i
 have A:∀ i,i<szA a.ar->i / 4<szA p/\dig a.ar i=dig p (i / 4)++[((i % 4:Nat):Int)]:=fun i g=>by rw[ea]at g⊢;exact qlJ zOm g
 have B:∀ k,k<szA b.ar->k % szA q<szA q/\dig b.ar k=[((k / szA q:Nat):Int)]++dig q (k % szA q):=fun k l=>by rw[eb]at l⊢;exact qlK zOm l
 have J:∀ i k,i<szA a.ar->k<szA b.ar->i / 4*szA q+k % szA q<szA (p+q)/\(pad (dig a.ar i)).getD (a.ar.toNat-1) 0=((i % 4:Nat):Int)/\(pad (dig b.ar k)).getD 0 0=((k / szA q:Nat):Int)/\conc (pad (dig a.ar i)) a.ar.toNat (pad (dig b.ar k)) b.ar.toNat 1=pad (dig (p+q) (i / 4*szA q+k % szA q)):=fun i k g l=>by
  obtain⟨a1,a2⟩:=A i g;obtain⟨b1,b2⟩:=B k l;have hm:=Kn (p:=p) (q:=q) zOm zOm zOm a1 b1;have l1:=lp (i / 4);have l2:=lq (k % szA q);refine⟨hm.1,?_,?_,?_⟩
  .rw [qaD zOm,a2,show a.ar.toNat-1=(dig p (i / 4)).length by omega];simp
  .rw [qaD zOm,b2];rfl
  .rw [a2,b2,hm.2];exact qlI zOm zOm zOm zOm
 refine Qb rfl fun j hj=>?_
 rw[vO,yN];show ((qu (szA a.ar)).any fun i=>(qu (szA b.ar)).any fun k=>decide (i / 4*(szA b.ar / 4)+k % (szA b.ar / 4)=j)&&(decide (i % 4=k / (szA b.ar / 4))&&((qq a).2 i&&(qq b).2 k)))=true↔j<szA (a.ar+b.ar-2)/\pad (dig (a.ar+b.ar-2) j)∈ux a.ar.toNat b.ar.toNat a.ts b.ts;rw[wP,List.any_eq_true,hn,C];constructor
 .rintro ⟨i,g,h⟩
  obtain⟨k,l,h⟩:=List.any_eq_true.1 h;rw[yx]at g l;rw[qB,qB,qB,decide_eq_true_eq,decide_eq_true_eq,yN,yN]at h;obtain⟨rfl,P,⟨_,h4⟩,_,h5⟩:=h;obtain⟨R,T,U,j4⟩:=J i k g l;exact⟨R,_,_,h4,h5,by rw[T,U,P],j4⟩
 .rintro ⟨h1,x,y,hx,hy,P,e⟩
  obtain⟨i,g,rfl⟩:=Yn ha r hx;obtain⟨k,l,rfl⟩:=Yn hb r hy;obtain⟨R,T,U,j4⟩:=J i k g l;rw[j4]at e;have e2:=Kq (zW2 (o (i / 4*szA q+k % szA q)) (o j)) (zW1 (o (i / 4*szA q+k % szA q))) e;have e3:=Ko zOm R h1 e2;rw[T,U]at P;refine⟨i,yx.2 g,List.any_eq_true.2 ⟨k,yx.2 l,?_⟩⟩;rw[qB,qB,qB,decide_eq_true_eq,decide_eq_true_eq,yN,yN];exact⟨e3,zOm,⟨g,hx⟩,l,hy⟩
theorem qlM(C:okKd ns a)(g:ns<=4)(l:a.ar=2):eRS (trS (qq a))=eRS (qq (kTr a)):=by
 refine Qb rfl fun j J=>?_
 rw[vO,yN];show (decide (j<16)&&(qq a).2 (j % 4*4+j / 4))=true↔j<16/\pad (dig 2 j)∈uni [] (a.ts.map fun t=>[t.getD 1 0,t.getD 0 0,0]);rw[qB,yN,vE,decide_eq_true_eq,l,szA2];simp only[qE,false_or,qr];constructor
 .rintro ⟨o,P,I⟩
  refine⟨o,_,I,?_⟩;simp[dig,pad];omega
 .rintro ⟨o,t,p,e⟩
  obtain⟨i,r,rfl⟩:=Yn C g p;rw[l,szA2]at r;rw[l]at e p;simp[dig,pad]at e;have:j % 4*4+j / 4=i:=zOm;rw[this];exact⟨o,r,p⟩
theorem Kr(h:1<=l.length/\l.length<=3)(hx:∀ x,x∈l->0<=x/\x<4):eRS (oneS l)=eRS (qq (kOf l)):=by
 refine Qb rfl fun j J=>?_
 obtain⟨i,g,e⟩:=qaC (p:=(l.length:Int)) zOm rfl hx;have o:atF 0 l=i:=by
  match l,h,hx,g,e with
  | [x],_,hx,g,e =>
   have:=hx x zSp;simp[dig]at e;simp[atF,IntKind.wrap,IntKind.signed,IntKind.bits];omega
  | [x,y],_,hx,g,e =>
   have:=hx x zSp;have:=hx y zSp;simp[dig]at e;simp[atF,IntKind.wrap,IntKind.signed,IntKind.bits];omega
  | [x,y,z],_,hx,g,e =>
   have:=hx x zSp;have:=hx y zSp;have:=hx z zSp;simp[dig]at e;simp[atF,IntKind.wrap,IntKind.signed,IntKind.bits];omega
 rw[vO,yN];show decide ((j:Int)=atF 0 l)=true↔j<szA (l.length:Int)/\pad (dig (l.length:Int) j)∈[pad l];rw[decide_eq_true_eq,o,qL];have t:=fun j=>ZJ (k:=(l.length:Int)) zOm j
 constructor
 .intro C
  obtain rfl:j=i:=zOm;exact⟨g,by rw[<-e]⟩
 .rintro ⟨C,I⟩
  have r:=Kq (zW1 (t j)) (zW1 (t j)) I;rw[e]at r;have:=Ko (p:=(l.length:Int)) zOm C g (by rw[<-e]at r⊢;exact r);omega
end
end QF
namespace QG
open Y2 P1 P2 PB QE QF
section
variable {k:Kd}{ns:Nat}
def JE(k:Kd):Kd:=kSum k (zI k k)
def itK:Nat->Kd->Kd
 | 0,k=>k
 |i+1,k=>JE (itK i k)
theorem qlN(h:okKd ns k)(g:k.ar=2):okKd ns (JE k)/\(JE k).ar=2:=
 ⟨Jq h (Js h h zOm zOm) (by simp only[zI];omega),g⟩
theorem okIt(h:okKd ns k)(g:k.ar=2):∀ i,okKd ns (itK i k)/\(itK i k).ar=2
 | 0=>⟨h,g⟩
 |i+1=>qlN (okIt h g i).1 (okIt h g i).2
abbrev Ed(k:Kd)(u v:Int):Prop:=[u,v,0]∈k.ts
theorem Uw(h:okKd ns k)(j:k.ar=2){t:Tp}(i:t∈k.ts):∃ u v,t=[u,v,0]/\(0<=u/\u<ns)/\(0<=v/\v<ns):=by
 obtain⟨l,rfl,g,hx⟩:=h.ts t i
 match l,g,hx with
 | [u,v],_,hx=>exact⟨u,v,rfl,hx u zSp,hx v zSp⟩
 | [],g,_=>simp at g;omega
 | [_],g,_=>simp at g;omega
 |_ :: _ :: _ :: _,g,_=>simp at g;omega
theorem qaF(h:okKd ns k)(j:k.ar=2){u v:Int}:[u,v,0]∈(zI k k).ts↔∃ w,Ed k u w/\Ed k w v:=by
 show [u,v,0]∈ux k.ar.toNat k.ar.toNat k.ts k.ts↔_;rw[QF.wP,j];constructor
 .rintro ⟨x,y,hx,o,g,i⟩
  obtain⟨a,b,rfl,_,_⟩:=Uw h j hx;obtain⟨c,d,rfl,_,_⟩:=Uw h j o;have g:b=c:=g;have i:[a,d,0]=[u,v,0]:=i;injection i with p l;injection l with l _;subst p l g;exact⟨b,hx,o⟩
 .rintro ⟨w,g,i⟩
  exact⟨[u,w,0],[w,v,0],g,i,rfl,rfl⟩
theorem Ks(h:okKd ns k)(g:k.ar=2){u v:Int}:Ed (JE k) u v↔Ed k u v\/∃ w,Ed k u w/\Ed k w v:=by
 unfold Ed JE;rw[Za,qaF h g]
def Path(k:Kd)(n:Nat)(u v:Int):Prop:=∃ f:Nat->Int,f 0=u/\f n=v/\∀ i,i<n->Ed k (f i) (f (i+1))
theorem Path.one{u v:Int}(h:Ed k u v):Path k 1 u v:=⟨fun i=>if i=0 then u else v,rfl,rfl,fun i g=>by
 obtain rfl:i=0:=zOm;exact h⟩
theorem Path.comp{n m:Nat}{u w v:Int}(h:Path k n u w)(p:Path k m w v):Path k (n+m) u v:=by
 obtain⟨f,f0,fn,hf⟩:=h;obtain⟨g,o,r,hg⟩:=p;refine⟨fun i=>if i<n then f i else g (i-n),?_,?_,fun i C=>?_⟩
 .by_cases t:0<n
  .simp [t,f0]
  .have:n=0:=by omega
   subst this;simp[o,<-fn,f0]
 .simp only[if_neg (show ¬n+m<n by omega),Nat.add_sub_cancel_left,r]
 .by_cases j:i+1<n
  .simp only[if_pos j,if_pos (show i<n by omega)];exact hf i zOm
  .by_cases l:i<n
   .have e:i+1=n:=by omega
    simp only[if_neg j,if_pos l];have:=hf i l;rw[e,fn]at this;rw[show i+1-n=0 by omega,o];exact this
   .simp only[if_neg j,if_neg l,show i+1-n=(i-n)+1 by omega]
    exact hg (i-n) zOm
theorem Path.short(h:okKd ns k)(t:k.ar=2)(g:ns<=4):∀(N n:Nat) (u v:Int),n<=N->1<=n->Path k n u v->∃ m,1<=m/\m<=4/\Path k m u v
 | 0,n,u,v,T,C,_=>zOm
 | N+1,n,u,v,T,C,hp=>by
  by_cases U:n<=4
  .exact ⟨n,C,U,hp⟩
  obtain⟨f,f0,fn,hf⟩:=hp;have hr:∀ i,i<5->0<=f i/\f i<4:=fun i I=>by
   obtain⟨a,b,e,ha,J⟩:=Uw h t (hf i zOm);injection e with P _;omega
  obtain⟨i,j,a0,hj,e⟩:∃ i j,i<j/\j<5/\f i=f j:=by
   apply Classical.byContradiction;intro l;have o:((qu 5).map f).Nodup:=List.pairwise_map.2 (List.pairwise_lt_range.imp_of_mem fun {a b} ha J p e=>l ⟨a,b,p,yx.1 J,e⟩);have:=List.Nodup.length_le_of_subset o (l₂:=[0,1,2,3]) fun x hx=>by
    obtain⟨i,I,rfl⟩:=qr.1 hx;have:=hr i (yx.1 I);simp;omega
   simp at this
  refine Path.short h t g N (n-(j-i)) u v zOm zOm ⟨fun x=>if x<i then f x else f (x+(j-i)),?_,?_,fun x hx=>?_⟩
  .by_cases h0:0<i
   .simp [h0,f0]
   .have:i=0:=by omega
    subst this;simp[<-e,f0]
  .simp only[if_neg (show ¬n-(j-i)<i by omega),show n-(j-i)+(j-i)=n by omega,fn]
  .by_cases r:x+1<i
   .simp only[if_pos r,if_pos (show x<i by omega)];exact hf x zOm
   .by_cases R:x<i
    .have P:x+1=i:=by omega
     simp only[if_neg r,if_pos R];rw[show x+1+(j-i)=j by omega,<-e,<-P];exact hf x zOm
    .simp only[if_neg r,if_neg R,show x+1+(j-i)=(x+(j-i))+1 by omega]
     exact hf _ zOm
theorem JF(h:okKd ns k)(g:k.ar=2):∀(i:Nat) (u v:Int),Ed (itK i k) u v->∃ n,1<=n/\Path k n u v
 | 0,u,v,j=>⟨1,zOm,.one j⟩
 |i+1,u,v,j=>by
  rcases (Ks (okIt h g i).1 (okIt h g i).2).1 j with j|⟨w,l,o⟩
  .exact JF h g i u v j
  .obtain ⟨n,r,p⟩:=JF h g i u w l
   obtain⟨m,t,q⟩:=JF h g i w v o;exact⟨n+m,zOm,p.comp q⟩
theorem Yo(i:Nat):Sub (itK i k) (itK (i+1) k):=Kj _ _
theorem qlO(h:okKd ns k)(g:k.ar=2){m:Nat}{u v:Int}(o:1<=m)(p:m<=4)(hp:Path k m u v):Ed (itK 4 k) u v:=by
 obtain⟨f,rfl,rfl,hf⟩:=hp;have up:∀{u v},Ed (itK 2 k) u v->Ed (itK 4 k) u v:=fun i=>(Yo 3).2 _ ((Yo 2).2 _ i)
 have s1:∀{u w v},Ed (itK 0 k) u w->Ed (itK 0 k) w v->Ed (itK 1 k) u v:=fun a b=>(Ks (okIt h g 0).1 (okIt h g 0).2).2 (.inr ⟨_,a,b⟩)
 have j:∀{u w v},Ed (itK 1 k) u w->Ed (itK 1 k) w v->Ed (itK 2 k) u v:=fun a b=>(Ks (okIt h g 1).1 (okIt h g 1).2).2 (.inr ⟨_,a,b⟩)
 have l:∀{u v},Ed (itK 0 k) u v->Ed (itK 1 k) u v:=fun i=>(Yo 0).2 _ i
 refine up ?_;rcases (show m=1\/m=2\/m=3\/m=4 by omega) with rfl|rfl|rfl|rfl
 .exact (Yo 1).2 _ (l (hf 0 zOm))
 .exact (Yo 1).2 _ (s1 (hf 0 zOm) (hf 1 zOm))
 .exact j (s1 (hf 0 zOm) (hf 1 zOm)) (l (hf 2 zOm))
 .exact j (s1 (hf 0 zOm) (hf 1 zOm)) (s1 (hf 2 zOm) (hf 3 zOm))
theorem qlP(h:okKd ns k)(g:k.ar=2)(i:ns<=4):Uv (itK 4 k):=fun t l=>by
 have ok:=okIt h g 4;have j:=Js ok.1 ok.1 (by rw[ok.2];omega) (by rw[ok.2];omega);obtain⟨u,v,rfl,_,_⟩:=Uw j (by simp only[zI];rw[ok.2];rfl) l;obtain⟨w,o,r⟩:=(qaF ok.1 ok.2).1 l;obtain⟨n,I,p⟩:=JF h g 4 u w o;obtain⟨m,J,q⟩:=JF h g 4 w v r;obtain⟨c,c1,c4,C⟩:=Path.short h g i (n+m) (n+m) u v (qm _) zOm (p.comp q);exact qlO h g c1 c4 C
theorem JG{S:Kd}(g:Uv S){k:Kd}(h:Sub k S):∀ i,Sub (itK i k) S
 | 0=>h
 |i+1=>⟨(JG g h i).1,fun t j=>by
  rcases Za.1 j with j|j
  .exact (JG g h i).2 t j
  .exact g t ((Uu (JG g h i) (JG g h i)).2 t j)⟩
theorem qaG:∀ i,Sub k (itK i k)
 | 0 => .refl k
 |i+1=>(qaG i).trans (Yo i)
theorem qlQ(h:okKd ns k)(l:k.ar=2)(g:ns<=4):eRS (qq (itK 4 k))=eRS (qq (kClo k)):=by
 have o:Sub (kClo k) (itK 4 k):=Kl (qlP h l g) 70 0 k (qaG 4);have i:Sub (itK 4 k) (kClo k):=JG (Km g 70 0 k h l zOm (.inl rfl)) (Kk 70 0 k) 4;refine Qb i.1 fun j p=>?_
 rw[vO,yN,yN,i.1];exact⟨fun x=>⟨x.1,i.2 _ x.2⟩,fun x=>⟨x.1,o.2 _ x.2⟩⟩
end
end QG
namespace QH
open YF Y9 Y2 Y3 P1 P2 PB QD QE QF QG
theorem VN{ns:Nat}{a:Kd}(h:okKd ns a)(I:a.ar=2)(g:ns<=4):qd qb 312 [eRS (qq a)] (eRS (qq (kClo a))):=by
 refine qd.of_sound (qe.of_awp call312 func312 rfl (qh zKr) zKr (pl:={ mt:=[1] }) ?_);rw[<-qlQ h I g];simp[go_sem];refine⟨zb _,?_⟩;refine qn.upK 4 (fun i U=>U.tm 1 = .ptr 0 0/\U.tm 2 = .ptr 1 0/\U.tm 3=aI i/\U.mu=[.arr (cRS (qq (itK i a))),.arr (aI 0 :: hB fun _=>false)]) ?_ ?_
 .exact ⟨zSi,zSi,zSi,by simp[go_sem];exact⟨⟨rfl,rfl⟩,rfl⟩⟩
 rintro i U hi ⟨l,o,p,J⟩;by_cases r:i<4
 .have j:(i:Int)<4:=by omega
  have P:qj.wrap ((i:Int)+1)=(i:Int)+1:=qi zOm zOm;obtain⟨ok,o2⟩:=okIt h I i;have R:qd qb 309 [eRS (qq (itK i a)),eRS (qq (itK i a))] (eRS (qq (zI (itK i a) (itK i a)))):=by
   rw[<-qaE ok ok g zOm];exact uX _ _ (by show 0<=(itK i a).ar/\(itK i a).ar<=1000;omega) (by show 1<=(itK i a).ar/\(itK i a).ar<=1000;omega)
  have cu:qd qb 307 [eRS (qq (itK i a)),eRS (qq (zI (itK i a) (itK i a)))] (eRS (qq (itK (i+1) a))):=by
   have:=ve (qq (itK i a)) (qq (zI (itK i a) (itK i a)));rw[JD (by simp only[zI];omega)]at this;exact this
  generalize t:qq (itK (i+1) a)=s' at *
  generalize qq (zI (itK i a) (itK i a))=q at *
  generalize qq (itK i a)=s at *
  simp[go_sem,p,J,j];refine qg.intro zKr ?_;simp[go_sem,l,qs,tk];refine qc.pure R (.zk (yw _) (.zk (yw _) .nil)) ?_;simp[go_sem];refine qc.pure cu (.zk (yw _) (.zk (yw _) .nil)) ?_;simp[go_sem,l,qs,pc];rw[if_pos (zb _)];simp[go_sem,p,P];exact⟨r,Keep.mk' ⟨zS1 l,zS1 o,zSi,zS1 t⟩⟩
 .have C:i=4:=by omega
  subst C;generalize qq (itK 4 a)=s at *
  simp[go_sem,l,o,p,J,qs,tk,pc];rw[if_pos (zb _)];simp[go_sem,o,qs,tk];exact .hf _ (yw s)
theorem qlR(i k:Nat)(g:k=1\/k=2):eRS (qq (kSum (zz i k) (kOf (qZ k (i:Int)))))=eRS (qq (zz (i+1) k)):=by
 refine Qb rfl fun j l=>?_
 rw[vO,yN,yN];show j<szA (k:Int)/\pad (dig (k:Int) j)∈(kSum (zz i k) (kOf (qZ k (i:Int)))).ts↔j<szA (k:Int)/\pad (dig (k:Int) j)∈(qu (i+1)).map fun (x:Nat)=>pad (qZ k (x:Int))
 rw[Za,List.range_succ,zx,qM];rfl
theorem qlS(k:Nat):hB (qq (zz 0 k)).2=hB fun _=>false:=uE fun j _=>decide_eq_false fun h=>absurd h.2 qE
theorem allU(ts:TS)(h:okTS ts)(k:Nat)(R:k=1\/k=2):qd qb 306 [eTS ts,aI k] (eRS (qq (zz ts.sorts.length k))):=by
 refine qd.of_sound (qe.of_awp call306 func306 rfl (qh zKr) zKr (pl:={}) ?_);have a1:=h.ns;have hz:=qlS k;simp[go_sem];refine qn.upK ts.sorts.length (fun i U=>U.tm 1=aI k/\U.tm 2 = .ip (cTS ts)/\U.tm 4 = .ptr 0 0/\U.tm 5 = .ptr 1 0/\U.tm 6=aI i/\U.mu=[.arr (aI 0 :: hB fun _=>false),.arr (cRS (qq (zz i k)))]) ?_ ?_
 .exact ⟨zSi,zSi,zSi,zSi,zSi,by
   have e:cRS (qq (zz 0 k))=aI k :: hB fun _=>false:=by simp only[cRS,hz];rfl
   rw[e];simp[go_sem];first|rfl|exact⟨rfl,rfl⟩⟩
 rintro i U hi ⟨C,r,I,j,o,J⟩;by_cases g:i<ts.sorts.length
 .have w1:qj.wrap ((i:Int)+1)=(i:Int)+1:=qi zOm zOm
  have c1:∀ l:List Int,l=qZ k (i:Int)->qd qb 261 [lI l] (eRS (qq (kOf l))):=fun l p=>by
   have a0:l.length=k:=by rw[p,List.length_replicate]
   have:=oneU l zOm;rw[Kh]at this;rw[<-QF.Kr (l:=l) zOm (fun x hx=>by rw[p]at hx;rw[List.eq_of_mem_replicate hx];omega)];exact this
  have cu:∀ l:List Int,l=qZ k (i:Int)->qd qb 307 [eRS (qq (zz i k)),eRS (qq (kOf l))] (eRS (qq (zz (i+1) k))):=fun l p=>by
   have:=ve (qq (zz i k)) (qq (kOf l));rw[JD (by show (k:Int)=l.length;rw[p,List.length_replicate]),p,qlR i k R]at this;rw[p];exact this
  generalize t:qq (zz (i+1) k)=s' at *
  generalize qq (zz i k)=s at *
  rcases R with rfl|rfl
  .have d1:=c1 [(i:Int)] rfl
   have d2:=cu [(i:Int)] rfl;generalize qq (kOf [(i:Int)])=q at *
   simp[go_sem,C,r,o,J,g];refine qg.intro zKr ?_;simp[go_sem,j,o,qs,tk];refine qc.pure d1 (.cons (QD.wk1 _) .nil) ?_;simp[go_sem];refine qc.pure d2 (.zk (yw _) (.zk (yw _) .nil)) ?_;simp[go_sem,j,qs,pc];rw[if_pos (zb _)];simp[go_sem,o,w1];exact⟨g,Keep.mk' ⟨zS1 C,zS1 r,zS1 I,zS1 j,zSi,zS1 t⟩⟩
  .have d1:=c1 [(i:Int),(i:Int)] rfl
   have d2:=cu [(i:Int),(i:Int)] rfl;generalize qq (kOf [(i:Int),(i:Int)])=q at *
   simp[go_sem,C,r,o,J,g];refine qg.intro zKr ?_;simp[go_sem,j,o,qs,tk];refine qc.pure d1 (.cons (QD.wk2 _ _) .nil) ?_;simp[go_sem];refine qc.pure d2 (.zk (yw _) (.zk (yw _) .nil)) ?_;simp[go_sem,j,qs,pc];rw[if_pos (zb _)];simp[go_sem,o,w1];exact⟨g,Keep.mk' ⟨zS1 C,zS1 r,zS1 I,zS1 j,zSi,zS1 t⟩⟩
 .have P:i=ts.sorts.length:=by omega
  subst P;generalize qq (zz ts.sorts.length k)=s at *
  simp[go_sem,r,I,j,o,J,qs,tk,pc];rw[if_pos (zb _)];simp[go_sem,I,qs,tk];exact .hf _ (yw s)
end QH
namespace QI
open YF Y9 Y10 Y1 Y2 P1 P2
theorem qlT{c:Ck}{nm:ByteArray}{k:Nat}(l:k<c.calls)(hp:k<c.ts.preds.length)(h:c.ts.preds[k].name=nm)(i:∀(j:Nat) (g:j<c.ts.preds.length),j<k->c.ts.preds[j].name≠nm):zn c nm=some k:=by
 unfold zn;rw[List.findIdx?_eq_some_iff_getElem];refine⟨zSo,zP1 h,fun j g=>?_⟩;simp[i j zOm g]
theorem qlU{c:Ck}{nm:ByteArray}(i:∀(j:Nat) (g:j<c.ts.preds.length),j<c.calls->c.ts.preds[j].name≠nm):zn c nm=none:=by
 unfold zn;rw[List.findIdx?_eq_none_iff];intro p hp;obtain⟨j,g,e⟩:=List.mem_iff_getElem.1 hp;simp at g;rw[List.getElem_take]at e;rw[<-e];exact decide_eq_false (i j zOm zOm)
abbrev idxO:Option Nat->Int
 |some i=>i
 |none => -1
theorem JH(c:Ck)(P:okCk c)(nm:ByteArray):qd qb 208 [eTS c.ts,aI c.calls,aS nm] (aI (idxO (zn c nm))):=by
 refine qd.of_sound (qe.of_awp call208 func208 rfl (qh zKr) zKr (pl:={}) ?_);have R:=P.calls;have a0:=P.ts.np;simp[go_sem];refine qn.upK c.calls (fun k U=>U.tm 1=aI c.calls/\U.tm 2=aS nm/\U.tm 3 = .ip (cTS c.ts)/\U.tm 7=aI k/\∀(j:Nat) (p:j<c.ts.preds.length),j<k->c.ts.preds[j].name≠nm) ?_ ?_
 .exact ⟨zSi,zSi,zSi,zSi,fun j p h=>zOm⟩
 rintro k U hk ⟨l,r,t,C,I⟩;by_cases g:k<c.calls
 .have w1:qj.wrap ((k:Int)+1)=(k:Int)+1:=qi zOm zOm
  have i:k<c.ts.preds.length:=zOm;by_cases o:c.ts.preds[k].name=nm
  .rw [qlT g i o I]
   simp[go_sem,l,r,t,C,g,i,o];exact .zsc _
  .simp [go_sem,l,r,t,C,g,i,jA o,w1]
   refine Keep.mk' ⟨zS1 l,zS1 r,zS1 t,zSi,fun j p a1=>?_⟩;by_cases he:j=k
   .subst he;exact o
   .exact I j p zOm
 .have J:k=c.calls:=by omega
  subst J;rw[qlU I];simp[go_sem,l,C];exact .zsc _
theorem Yp(op:Int):qd qb 273 [aI op] (aB (yh op)):=by
 refine qd.of_sound (qe.of_awp call273 func273 rfl (qh zKr) zKr (pl:={}) ?_);by_cases g:op=5
 .rw [show yh op=true by simp[yh,g]]
  simp[go_sem,g];exact .zsc _
 by_cases i:48<=op
 .by_cases j:op<=51
  .rw [show yh op=true by unfold yh;rcases (show op=48\/op=49\/op=50\/op=51 by omega) with h|h|h|h<;>simp[h]]
   simp[go_sem,g,i,j];exact .zsc _
  .rw [show yh op=false by simp[yh,g,show ¬op=48 by omega,show ¬op=49 by omega,show ¬op=50 by omega,show ¬op=51 by omega]]
   simp[go_sem,g,i,j];exact .zsc _
 .rw [show yh op=false by simp[yh,g,show ¬op=48 by omega,show ¬op=49 by omega,show ¬op=50 by omega,show ¬op=51 by omega]]
  simp[go_sem,g,i];exact .zsc _
abbrev rBo(b:Bool):List AV:=[aB b]
abbrev lBo(l:List Bool):AV := .lst false (l.map rBo)
theorem JI(l:List Bool):HF (lBo l):=HF.lst fun r i c g=>by
 obtain⟨b,_,rfl⟩:=qr.1 i;rw[qL]at g;subst g;exact HF.sc _
def tpB(c:Ck)(nm:ByteArray):Bool:=match zn c nm with|some p=>c.timed.getD p false|none=>false
theorem Yq(c:Ck)(l:okCk c)(nm:ByteArray):qd qb 274 [eTS c.ts,lBo c.timed,aI c.calls,aS nm] (aB (tpB c nm)):=by
 generalize i:tpB c nm=r;unfold tpB at i;refine qd.of_sound (qe.of_awp call274 func274 rfl (qh zKr) zKr (pl:={}) ?_);simp[go_sem];refine qc.pure (JH c l nm) (.zk (zA _) (.zs (.zs .nil))) ?_;cases j:zn c nm with
 |none =>
  rw[j]at i;subst i;simp[go_sem,idxO];exact .zsc _
 |some p =>
  rw[j]at i;by_cases hp:p<c.timed.length
  .have g:r=c.timed[p]:=by rw[<-i];simp[List.getD,hp]
   subst g;simp[go_sem,idxO,hp];exact .zsc _
  .have g:r=false:=by rw[<-i];simp[List.getD,hp]
   subst g;simp[go_sem,idxO,hp];exact .zsc _
theorem qaH(c:Ck)(hc:okCk c)(hl:c.timed.length=c.calls):∀(m:Nat) (n:Nd),szN n<=m->Small n->qd qb 279 [eTS c.ts,lBo c.timed,eNd n] (aB (zX c n))
 | 0,n,hm,_=>by obtain⟨op,nm,i,ks,p⟩:=n;simp[szN]at hm
 |m+1,n,hm,hs=>by
  have ih:∀ k,k∈n.kids->qd qb 279 [eTS c.ts,lBo c.timed,eNd k] (aB (zX c k)):=fun k J =>
   qaH c hc hl m k (zW1 (zS J)) (hs.kid J)
  have a0:=hs.len;have P:zL c n.op n.name=(yh n.op||(decide (n.op=47)&&tpB c n.name)):=rfl;rw[VT,P];generalize hR:n.kids.any (zX c)=R;have ct:=Yp n.op;have cp:=Yq c hc n.name;generalize yh n.op=T at *
  generalize tpB c n.name=B at *
  refine qd.of_sound (qe.of_awp call279 func279 rfl (qh zKr) zKr (pl:={}) ?_);simp[go_sem];refine qc.pure ct (.zs .nil) ?_;cases T with
  |true =>
   simp[go_sem];exact .zsc _
  |false =>
  rw[Bool.false_or];by_cases h47:n.op=47
  .rw [decide_eq_true h47,Bool.true_and]
   simp[go_sem,h47,hl];refine qc.pure cp (.zk (zA _) (.zk (JI _) (.zs (.zs .nil)))) ?_;cases B with
   |true =>
    simp[go_sem];exact .zsc _
   |false =>
   rw[Bool.false_or];simp[go_sem];refine qn.upK n.kids.length (fun k U=>U.tm 1=lBo c.timed/\U.tm 3 = .ip (cTS c.ts)/\U.tm 5 = .ip (cNd n)/\U.tm 7=aI k/\(n.kids.drop k).any (zX c)=R) ?_ ?_
   .exact ⟨zSi,zSi,zSi,zSi,zUs hR⟩
   rintro k U J ⟨t,C,l,o,j⟩;by_cases r:k=n.kids.length
   .subst r
    rw[yk]at j;have j:R=false:=by rw[<-j];rfl
    subst j;simp[go_sem,l,o];exact .zsc _
   have g:k<n.kids.length:=zOm;have w1:qj.wrap ((k:Int)+1)=(k:Int)+1:=qi zOm zOm;rw[zt g,List.any_cons]at j;have hi:=ih n.kids[k] (qy g);simp[go_sem,l,o,g];refine qg.intro zKr ?_;simp[go_sem,t,C,l,o,g];refine qc.pure hi (.zk (zA _) (.zk (JI _) (.zk (qz _) .nil))) ?_;cases I:zX c n.kids[k] with
   |true =>
    rw[I,Bool.true_or]at j;subst j;simp[go_sem];exact .zsc _
   |false =>
    rw[I,Bool.false_or]at j;simp[go_sem,o,g,w1];exact Keep.mk' ⟨zS1 t,zS1 C,zS1 l,zSi,j⟩
  .rw [decide_eq_false h47,Bool.false_and,Bool.false_or]
   simp[go_sem,h47];refine qn.upK n.kids.length (fun k U=>U.tm 1=lBo c.timed/\U.tm 3 = .ip (cTS c.ts)/\U.tm 5 = .ip (cNd n)/\U.tm 7=aI k/\(n.kids.drop k).any (zX c)=R) ?_ ?_
   .exact ⟨zSi,zSi,zSi,zSi,zUs hR⟩
   rintro k U J ⟨t,C,l,o,j⟩;by_cases r:k=n.kids.length
   .subst r
    rw[yk]at j;have j:R=false:=by rw[<-j];rfl
    subst j;simp[go_sem,l,o];exact .zsc _
   have g:k<n.kids.length:=zOm;have w1:qj.wrap ((k:Int)+1)=(k:Int)+1:=qi zOm zOm;rw[zt g,List.any_cons]at j;have hi:=ih n.kids[k] (qy g);simp[go_sem,l,o,g];refine qg.intro zKr ?_;simp[go_sem,t,C,l,o,g];refine qc.pure hi (.zk (zA _) (.zk (JI _) (.zk (qz _) .nil))) ?_;cases I:zX c n.kids[k] with
   |true =>
    rw[I,Bool.true_or]at j;subst j;simp[go_sem];exact .zsc _
   |false =>
    rw[I,Bool.false_or]at j;simp[go_sem,o,g,w1];exact Keep.mk' ⟨zS1 t,zS1 C,zS1 l,zSi,j⟩
theorem Kt(l:List Bool):zy 1 (l.map rBo):=fun r g=>by
 obtain⟨b,_,rfl⟩:=qr.1 g;exact⟨rfl,rfl⟩
theorem appBo{mu:Mu}{lo:Nat}{s:AV}{xs:List Bool}{b:Bool}{K:AV->Mu->Prop}(g:OwnF lo mu 1 s (xs.map rBo))(r:xs.length<=100000)(o:∀ av mu',OwnF lo mu' 1 av ((xs++[b]).map rBo)->(∀ i,i<lo->mu'[i]?=mu[i]?)->K av mu') :
  qF qb mu #[89,89] s (.lst true [[aB b]]) K:=by
 refine qF.ownF (lo:=lo) (e:=4) (sz:=1) (bt:=1) (zv:=aB false) (xs:=xs.map rBo) (ys:=[rBo b]) zSi zSi zSi rfl rfl zOm zOm g (by simp[qO]) (Kt xs) (Kt [b]) zSo ?_;intro av mu' h p;exact o av mu' (by rw[zx];exact h) p
theorem rdBo{lo:Nat}{mu:Mu}{av:AV}{l:List Bool}(i:OwnF lo mu 1 av (l.map rBo)):Rd mu av (lBo l):=
 Own.rd (sz:=1) i.1 (Kt l).ok fun r j c g=>by
  obtain⟨b,_,rfl⟩:=qr.1 j;rw[qL]at g;subst g;exact HF.sc _
theorem qlV(ts:TS)(h:okTS ts)(hp:∀ p,p∈ts.preds->WfN p.body):qd qb 234 [eTS ts] (lBo (tmsL ts ts.preds.length)):=by
 refine qd.of_sound (qe.of_awp call234 func234 rfl (qh zKr) zKr (pl:={}) ?_);have a0:=h.np;simp[go_sem];refine qn.upK ts.preds.length (fun k U=>U.tm 1 = .ip (cTS ts)/\U.tm 4=aI k/\OwnF 0 U.mu 1 (U.tm 3) ((tmsL ts k).map rBo)) ?_ ?_
 .exact ⟨zSi,zSi,by simp[go_sem,tmsL];exact OwnF.nil (Nat.zero_le _)⟩
 rintro k U hk ⟨j,l,o⟩;by_cases g:k<ts.preds.length
 .have w1:qj.wrap ((k:Int)+1)=(k:Int)+1:=qi zOm zOm
  generalize r:U.tm 3=t at *
  have C:=rdBo o;have ht:=qaH (mkCk ts k) (vG h zOm) (ZA ts k zOm) (szN ts.preds[k].body) ts.preds[k].body (qm _) (hp _ (qy g)).small;have R:=ZA ts k zOm;have i:tmsL ts (k+1)=tmsL ts k++[zX (mkCk ts k) ts.preds[k].body]:=by
   show tmsL ts k++(match ts.preds[k]? with|some p=>[zX ⟨ts,k,tmsL ts k⟩ p.body] | none=>[])=_;rw[qA g];rfl
  simp[go_sem,j,l,g];refine qg.intro zKr ?_;simp[go_sem,j,l,r,g];refine qc.lend (args':=[eTS ts,lBo (tmsL ts k),eNd ts.preds[k].body]) ht ⟨.hf _ (zA ts),C,.hf _ (qz _),trivial⟩ (FL.sc _) ?_;simp[go_sem];refine appBo o zOm fun a1 m' J _=>?_
  simp[go_sem,l,g,w1];exact Keep.mk' ⟨zS1 j,zSi,by rw[i];simpa[go_sem] using J⟩
 .have P:k=ts.preds.length:=by omega
  subst P;generalize r:U.tm 3=t at *
  simp[go_sem,j,l,r];exact rdBo o
end QI
namespace QJ
open YF Y10 Y1 P1 QD QE QF
abbrev Vr:=ByteArray×RS
abbrev cVr(v:Vr):List AV:=aS v.1 :: cRS v.2
abbrev lVr(l:List Vr):AV := .lst false (l.map cVr)
theorem qaI(v:Vr):∀ c,c∈cVr v->HF c:=fun c g=>by
 rcases qt.1 g with rfl|g
 .exact HF.sc _
 .exact ((setC v.2).sc c g).2
theorem qlW(l:List Vr):HF (lVr l):=HF.lst fun r g c i=>by
 obtain⟨v,_,rfl⟩:=qr.1 g;exact qaI v c i
theorem Ku(v:Vr):∀ c,c∈cVr v->c.one=true:=fun c g=>by
 rcases qt.1 g with rfl|g
 .rfl
 .exact ((setC v.2).sc c g).1
theorem Kv(l:List Vr):zy 66 (l.map cVr):=fun r g=>by
 obtain⟨v,_,rfl⟩:=qr.1 g;exact⟨by simp[hB],qI.2 (Ku v)⟩
theorem Kw{mu:Mu}{lo:Nat}{s x:AV}{xs ys:List Vr}{K:AV->Mu->Prop}(g:OwnF lo mu 66 s (xs.map cVr))(hx:qO mu x=some (ys.map cVr))(p:xs.length+ys.length<=100000)(j:∀ av mu',OwnF lo mu' 66 av ((xs++ys).map cVr)->(∀ i,i<lo->mu'[i]?=mu[i]?)->K av mu') :
  qF qb mu #[306,306] s x K:=by
 refine qF.ownF (lo:=lo) (e:=348) (sz:=66) (bt:=88) (zv := .agg (aS ⟨#[]⟩ :: aI 0 :: zs)) (xs:=xs.map cVr) (ys:=ys.map cVr) zSi zSi (by simp[go_sem];rfl) rfl rfl zOm zOm g hx (Kv xs) (Kv ys) zSo ?_;intro av mu' h o;exact j av mu' (by rw[zx];exact h) o
theorem rdVr{lo:Nat}{mu:Mu}{av:AV}{l:List Vr}(g:OwnF lo mu 66 av (l.map cVr)):Rd mu av (lVr l):=
 Own.rd (sz:=66) g.1 (Kv l).ok fun r i c j=>by
  obtain⟨v,_,rfl⟩:=qr.1 i;exact qaI v c j
theorem pcV(n:ByteArray)(q:RS):putCells (aS n :: aI 0 :: zs) 1 (aI q.1 :: hB q.2)=cVr (n,q):=by
 have g:zs.length=64:=rfl;rw[jl _ _ _ (by simp[qs,g])];simp[qs,g,List.drop_of_length_le]
def envV(env:List (ByteArray×Int)):List Vr:=env.map fun p=>(p.1,qq (kOf [p.2]))
theorem envU(env:List (ByteArray×Int))(hl:env.length<=1000)(hr:∀ p,p∈env->0<=p.2/\p.2<4):qd qb 235 [lPm env] (lVr (envV env)):=by
 refine qd.of_sound (qe.of_awp call235 func235 rfl (qh zKr) zKr (pl:={}) ?_);simp[go_sem];refine qn.upK env.length (fun k U=>U.tm 0=lPm env/\U.tm 4=aI k/\OwnF 0 U.mu 66 (U.tm 3) ((envV (env.take k)).map cVr)) ?_ ?_
 .exact ⟨zSi,zSi,by simp[go_sem,envV];exact OwnF.nil (Nat.zero_le _)⟩
 rintro k U hk ⟨o,r,I⟩;by_cases g:k<env.length
 .have w1:qj.wrap ((k:Int)+1)=(k:Int)+1:=qi zOm zOm
  generalize J:U.tm 3=t at *
  have hp:=hr _ (qy g);have c1:qd qb 261 [lI [env[k].2]] (eRS (qq (kOf [env[k].2]))):=by
   have:=oneU [env[k].2] zSp;rw[Kh]at this;rw[<-QF.Kr (l:=[env[k].2]) zSp (fun x hx=>by rw[qL]at hx;subst hx;exact hp)];exact this
  have i:envV (env.take (k+1))=envV (env.take k)++[(env[k].1,qq (kOf [env[k].2]))]:=by
   unfold envV;rw[Ze g,zx];rfl
  have a3:(envV (env.take k)).length=k:=by simp[envV];omega
  generalize qq (kOf [env[k].2])=q at *
  simp[go_sem,o,r,g];refine qg.intro zKr ?_;simp[go_sem,o,r,J,g];refine qc.pure c1 (.cons (QD.wk1 _) .nil) ?_;simp[go_sem];rw[if_pos ⟨qs _,zb _⟩];generalize hC:putCells _ 1 _=C;have P:C=cVr (env[k].1,q):=by rw[<-hC];exact pcV _ _
  subst P;clear hC;have R:(cVr (env[k].1,q)).length=66:=by simp[qs]
  have a0:=Ku (env[k].1,q);generalize hV:cVr (env[k].1,q)=V at *
  simp[go_sem,R];rw[if_pos a0];simp[go_sem];refine Kw (ys:=[(env[k].1,q)]) I (by simp[qO,hV]) zSo fun a4 m' a1 _=>?_
  simp[go_sem,r,g,w1];exact Keep.mk' ⟨zS1 o,zSi,by rw[i];simpa[go_sem] using a1⟩
 .have a2:k=env.length:=by omega
  subst a2;rw[zw]at I;generalize J:U.tm 3=t at *
  simp[go_sem,o,r,J];exact rdVr I
end QJ
namespace QK
open Y9 Y2 P1 QD QE QF
def fin(c:List AV)(l:List Kd):List AV:=match l.getLast? with|some k=>cRS (qq k)|none=>c
theorem JK(c:List AV)(l m:List Kd):fin c (l++m)=fin (fin c l) m:=by
 unfold fin;rw[List.getLast?_append];cases m.getLast?<;>rfl
theorem Ux(c:List AV)(k:Kd):fin c [k]=cRS (qq k):=rfl
theorem oneK{l:List Int}(h:1<=l.length/\l.length<=3)(hx:∀ x,x∈l->0<=x/\x<4):oneC l=cRS (qq (kOf l)):=by
 rw[Kh];exact AV.agg.inj (QF.Kr h hx)
theorem qaJ(nm:ByteArray):∀(l:List Fld) (c:List AV) (k:Nat),(∀ f,f∈l->(1<=f.sorts.length/\f.sorts.length<=3)/\∀ x,x∈f.sorts->0<=x/\x<4)->nmF nm l (c,k)=(fin c (yB l nm),k+(yB l nm).length)
 | [],c,k,_=>rfl
 |f :: l,c,k,h=>by
  have hf:=h f (q8 ..);have j:=fun c k=>qaJ nm l c k fun g hg=>h g (qY _ hg)
  by_cases i:f.name=nm
  .have e:yB (f :: l) nm=[kOf f.sorts]++yB l nm:=by simp[yB,i]
   rw[e,JK,Ux];simp only[nmF,stF,if_pos i];rw[j,oneK hf.1 hf.2];simp;omega
  .have e:yB (f :: l) nm=yB l nm:=by simp[yB,i]
   rw[e];simp only[nmF,stF,if_neg i];exact j c k
theorem st_eq(nm:ByteArray)(i:Nat)(C:i<4)(x:ByteArray×Bool)(c:List AV)(k:Nat):st3 nm i x (st2 nm i x (st1 nm i x (c,k)))=(fin c (vS i x nm),k+(vS i x nm).length):=by
 have j:=oneK (l:=[(i:Int)]) zSp (fun y g=>by simp at g;subst g;omega);have o:=oneK (l:=[(i:Int),(i:Int)]) zSp (fun y g=>by simp at g;rcases g with rfl|rfl<;>omega);have p:∀ c k,st1 nm i x (c,k)=(fin c (if x.1=nm then [kOf [(i:Int)]] else []),k+(if x.1=nm then [kOf [(i:Int)]] else []).length):=fun c k=>by
  unfold st1;split
  .rw [Ux,j];rfl
  .rfl
 have r:∀ c k,st2 nm i x (c,k)=(fin c (if x.2=true/\x.1++yV=nm then [kOf [(i:Int)]] else []),k+(if x.2=true/\x.1++yV=nm then [kOf [(i:Int)]] else []).length):=fun c k=>by
  unfold st2;split
  .rw [Ux,j];rfl
  .rfl
 have t:∀ c k,st3 nm i x (c,k)=(fin c (if x.2=true/\x.1++jM=nm then [kOf [(i:Int),(i:Int)]] else []),k+(if x.2=true/\x.1++jM=nm then [kOf [(i:Int),(i:Int)]] else []).length):=fun c k=>by
  unfold st3;split
  .rw [Ux,o];rfl
  .rfl
 unfold vS;rw[p,r,t,JK,JK,zc,zc];simp only[Nat.add_assoc]
theorem qaK(nm:ByteArray):∀(l:List (ByteArray×Bool)) (i:Nat) (c:List AV) (k:Nat),i+l.length<=4->nmS nm i l (c,k)=(fin c (yC i l nm),k+(yC i l nm).length)
 | [],i,c,k,_=>rfl
 |x :: l,i,c,k,h=>by
  simp only[zG]at h;have g:=fun c k=>qaK nm l (i+1) c k zOm
  simp only[nmS,yC];rw[st_eq nm i zOm,g,JK,zc,Nat.add_assoc]
theorem Kx{ts:TS}(h:okTS ts)(nm:ByteArray):named ts nm=(fin (aI 0 :: zs) (means ts nm),(means ts nm).length):=by
 unfold named means;rw[qaJ nm ts.fields _ _ fun f hf=>?_,qaK nm ts.sorts _ _ _ (zW1 h.ns),JK,zc,yy];have:=h.fl f hf;have g:=h.ns;exact⟨zOm,fun x hx=>zW1 (this.2.2 x hx)⟩
end QK
namespace QL
open YF Y9 Y1 Y2 P1 QD QE QF QI QJ QK
abbrev cVw(c:Ck)(inn:Bool):List AV:=[lSo c.ts.sorts,lFl c.ts.fields,lPd c.ts.preds,lFa c.ts.facts,lBo c.timed,aI c.calls,aB inn]
abbrev eVw(c:Ck)(inn:Bool):AV := .agg (cVw c inn)
def envS(s:Scp):List Vr:=s.reverse.map fun v=>(v.1,qq v.2)
theorem Uy(s:Scp):(envS s).length=s.length:=by simp[envS]
theorem qaL(env:List (ByteArray×Int)):envV env=envS (zJ env):=by
 have h:∀(l:List (ByteArray×Int)) (a:Scp),l.foldl (fun s p=>(p.1,kOf [p.2]) :: s) a=(l.map fun p=>(p.1,kOf [p.2])).reverse++a:=by
  intro l;induction l with
  |nil=>intro a;rfl
  |cons p l g=>intro a;rw[List.foldl_cons,g];simp
 unfold envV envS zJ;rw[h,zV,List.reverse_reverse,List.map_map];rfl
theorem qlX(s:Scp)(d:Nat)(h:d<s.length)(g:s.length-1-d<(envS s).length):(envS s)[s.length-1-d]=(s[d].1,qq s[d].2):=by
 have e:s.length-1-(s.length-1-d)=d:=zOm;simp[envS,List.getElem_reverse,e]
abbrev zR:RS:=(0,fun _=>false)
abbrev eDg(d:Dg):AV := .agg [aI d.1,aI d.2]
def endR(z:RS):Res->AV
 | .error e => .tup [eRS z,eDg e]
 | .ok (some k) => .tup [eRS (qq k),eDg (0,0)]
 | .ok none => .tup [eRS zR,eDg (0,0)]
theorem j5(s:RS)(d:Dg):HF (.tup [eRS s,eDg d]):=HF.tup fun x hx=>by
 rcases qt.1 hx with rfl|hx
 .exact yw s
 .rw [qL]at hx;subst hx
  exact HF.agg fun c g=>by
   rcases qt.1 g with rfl|g
   .exact HF.sc _
   .rw [qL]at g;subst g;exact HF.sc _
theorem okNm.ofTS{ts:TS}(h:okTS ts):okNm ts:=⟨h.sl,zW1 h.ns,zW1 h.nf,fun f hf=>zW1 (h.fl f hf)⟩
theorem Xn(c:Ck)(hc:okCk c)(inn:Bool)(s:Scp)(n:Nd)(hs:s.length<=100000):qd qb 275 [eVw c inn,lVr (envS s),eNd n] (endR zR (jg c s n.name n.pos)):=by
 generalize i:endR zR (jg c s n.name n.pos)=R;unfold jg at i;refine qd.of_sound (qe.of_awp call275 func275 rfl (qh zKr) zKr (pl:={}) ?_);have a1:=Uy s;have w0:qj.wrap ((s.length:Int)-1)=(s.length:Int)-1:=qi zOm zOm;simp[go_sem,a1,w0];refine qn.upK s.length (fun d U=>U.tm 1=lVr (envS s)/\U.tm 3 = .ip (cVw c inn)/\U.tm 5 = .ip (cNd n)/\U.tm 6 = .ptr 0 0/\U.tm 7 = .ptr 1 0/\U.tm 8=aI ((s.length:Int)-1-d)/\U.mu=[.arr (aI 0 :: hB fun _=>false),.arr [aI 0,aI 0]]/\y8 n.name (s.drop d)=y8 n.name s) ?_ ?_
 .exact ⟨zSi,zSi,zSi,zSi,zSi,zSi,by simp[go_sem];first|rfl|exact⟨rfl,rfl⟩,rfl⟩
 rintro d U hd ⟨e1,e3,r,p,I,j,hm,t⟩;by_cases J:d<s.length
 .have hl:s.length-1-d<(envS s).length:=by omega
  have g:=qlX s d J hl;obtain⟨e,he⟩:∃ e:Nat,e=s.length-1-d:=⟨_,rfl⟩;have a2:(s.length:Int)-1-d=(e:Int):=zOm;rw[a2]at j;rw[<-he]at hl;have g:(envS s)[e]=(s[d].1,qq s[d].2):=by simp only[he];exact g
  have w1:qj.wrap ((e:Int)-1)=(s.length:Int)-1-((d+1:Nat):Int):=by rw[qi zOm zOm];omega
  rw[zt J]at t;have h0:(0:Int)<=(e:Int):=zOm;by_cases hq:s[d].1=n.name
  .have hf:y8 n.name s=s[d] :: s.drop (d+1):=by rw[<-t,y8,if_pos hq]
   rw[hf]at i;simp only[endR]at i;have i:R = .tup [eRS (qq s[d].2),eDg (0,0)]:=i.symm;subst i;simp[go_sem,j,hm];refine qg.intro zKr ?_;simp[go_sem,e1,j,hl,g,hq];generalize qq s[d].2=q at *
   simp[go_sem,e1,r,p,j,hl,g,qs,tk,pc];rw[if_pos (zb _)];simp[go_sem,p,I,qs,tk];exact .hf _ (j5 q (0,0))
  .rw [y8,if_neg hq]at t
   simp[go_sem,j,hm];refine qg.intro zKr ?_;simp[go_sem,e1,r,j,hl,g,jA hq,w1,qs];exact⟨zOm,Keep.mk' ⟨zS1 e1,zS1 e3,zS1 r,zS1 p,zS1 I,zSi,zSi,t⟩⟩
 .have a3:d=s.length:=by omega
  subst a3;have j:U.tm 8=aI (-1):=by rw[j];congr 2;omega
  rw[yk]at t;rw[<-t]at i;simp only[y8]at i;have hN:=Kg c.ts (okNm.ofTS hc.ts) n.name;have a0:=Kf c.ts n.name;rw[Kx hc.ts]at hN a0;simp[go_sem,e3,r,j,hm];refine qc.pure hN (.zk (zA _) (.zs .nil)) ?_;have o:SetC (fin (aI 0 :: zs) (means c.ts n.name)):=a0;generalize a4:means c.ts n.name=ms at *
  match ms,a4 with
  | [],_ =>
   simp only[endR]at i;subst i;generalize fin (aI 0 :: zs) []=C at *
   simp[go_sem,o.len];rw[if_pos o.one];simp[go_sem];refine qg.seg [0,1,2,3,4,5] [(0,0,[]),(1,0,[]),(2,0,[]),(3,0,[]),(4,1,[2]),(5,1,[])] zKr zKr zSi ?_;simp[go_sem,r,p,I,pN,qs];exact .hf _ (j5 zR (_,n.pos))
  | [k],_ =>
   simp only[endR]at i;subst i;have e:fin (aI 0 :: zs) [k]=aI (qq k).1 :: hB (qq k).2:=rfl;rw[e]at o⊢;generalize qq k=q at *
   simp[go_sem,o.len];rw[if_pos (zb _)];generalize hP:putCells _ 0 (aI q.1 :: hB q.2)=P;have a5:P=aI q.1 :: hB q.2:=by rw[<-hP];exact pc (aI 0) _ (fun _=>false) _
   subst a5;clear hP;simp[go_sem,p,o.len,qs,tk,pc];rw[if_pos (zb _)];simp[go_sem,p,I,o.len,tk];exact .hf _ (j5 q (0,0))
  |k1 :: k2 :: l,_ =>
   simp only[endR]at i;subst i;generalize fin (aI 0 :: zs) (k1 :: k2 :: l)=C at *
   simp[go_sem,o.len];rw[if_pos o.one];simp[go_sem];have a6:¬((l.length:Int)+1+1=0):=zOm;have a7:(1:Int)<(l.length:Int)+1+1:=zOm;simp[go_sem,a6,a7];refine qg.seg [0,1,2,3,4,5] [(0,0,[]),(1,0,[]),(2,0,[]),(3,0,[]),(4,1,[2]),(5,1,[])] zKr zKr zSi ?_;simp[go_sem,r,p,I,pN,qs];exact .hf _ (j5 zR (_,n.pos))
end QL
namespace QM
open Y1
theorem qlY(n:Nd):qd qb 232 [eNd n] (aB (decide (30<=n.op))):=by
 refine qd.of_sound (qe.of_awp call232 func232 rfl (qh zKr) zKr (pl:={}) ?_);by_cases h:30<=n.op
 .simp [go_sem,h];exact .zsc _
 .simp [go_sem,h];exact .zsc _
end QM
namespace QN
open Y1 Y2 YF Y9 Y10 P1 P2 QD QE QF QH QL
def setO:Option Kd->RS
 |some k=>qq k
 |none=>zR
abbrev lRS(l:List RS):AV := .lst false (l.map cRS)
theorem qlZ(v:RS):∀ c,c∈cRS v->HF c:=fun c g=>((setC v).sc c g).2
theorem ql0(v:RS):∀ c,c∈cRS v->c.one=true:=fun c g=>((setC v).sc c g).1
theorem Ky(l:List RS):zy 65 (l.map cRS):=fun r g=>by
 obtain⟨v,_,rfl⟩:=qr.1 g;exact⟨by simp[hB],qI.2 (ql0 v)⟩
theorem appRS{mu:Mu}{lo:Nat}{s x:AV}{xs ys:List RS}{K:AV->Mu->Prop}(g:OwnF lo mu 65 s (xs.map cRS))(hx:qO mu x=some (ys.map cRS))(p:xs.length+ys.length<=100000)(j:∀ av mu',OwnF lo mu' 65 av ((xs++ys).map cRS)->(∀ i,i<lo->mu'[i]?=mu[i]?)->K av mu') :
  qF qb mu #[343,343] s x K:=by
 refine qF.ownF (lo:=lo) (e:=273) (sz:=65) (bt:=72) (zv := .agg (aI 0 :: zs)) (xs:=xs.map cRS) (ys:=ys.map cRS) zSi zSi (by simp[go_sem];rfl) rfl rfl zOm zOm g hx (Ky xs) (Ky ys) zSo ?_;intro av mu' h o;exact j av mu' (by rw[zx];exact h) o
theorem rdRS{lo:Nat}{mu:Mu}{av:AV}{l:List RS}(g:OwnF lo mu 65 av (l.map cRS)):Rd mu av (lRS l):=
 Own.rd (sz:=65) g.1 (Ky l).ok fun r i c j=>by
  obtain⟨v,_,rfl⟩:=qr.1 i;exact qlZ v c j
theorem jE(s:RS)(b:Bool):HF (.tup [eRS s,aB b]):=HF.tup fun x hx=>by
 rcases qt.1 hx with rfl|hx
 .exact yw s
 .rw [qL]at hx;subst hx;exact HF.sc _
def ApE(op:Int):Res->RS->Bool->Prop
 | .ok k,S,b=>b=true/\(kd op=101->∃ q,k=some q/\S=qq q)
 | .error _,S,b=>b=false
theorem wkS1(a:RS):WKs [eRS a] [eRS a] := .zk (yw _) .nil
theorem wkS2(a b:RS):WKs [eRS a,eRS b] [eRS a,eRS b] := .zk (yw _) (.zk (yw _) .nil)
theorem wkTI(ts:TS)(k:Int):WKs [eTS ts,aI k] [eTS ts,aI k] := .zk (zA _) (.zs .nil)
theorem qaM(n:Int):eRS (n,fun _=>false)=eRS (qq ⟨n,[]⟩):=Qb rfl fun j _=>(decide_eq_false fun h=>absurd h.2 qE).symm
def itS:Nat->RS->RS
 | 0,s=>s
 |i+1,s=>uniS (itS i s) (ZI (itS i s) (itS i s))
theorem qaN(s:RS):∀ i,(itS i s).1=s.1
 | 0=>rfl
 |i+1=>qaN s i
theorem qaO(g:RS)(h:1<=g.1/\g.1<=3):qd qb 312 [eRS g] (eRS (itS 4 g)):=by
 refine qd.of_sound (qe.of_awp call312 func312 rfl (qh zKr) zKr (pl:={ mt:=[1] }) ?_);simp[go_sem];refine⟨zb _,?_⟩;refine qn.upK 4 (fun i U=>U.tm 1 = .ptr 0 0/\U.tm 2 = .ptr 1 0/\U.tm 3=aI i/\U.mu=[.arr (cRS (itS i g)),.arr (aI 0 :: hB fun _=>false)]) ?_ ?_
 .exact ⟨zSi,zSi,zSi,by simp[go_sem];exact⟨⟨rfl,rfl⟩,rfl⟩⟩
 rintro i U hi ⟨l,o,p,I⟩;by_cases r:i<4
 .have j:(i:Int)<4:=by omega
  have R:qj.wrap ((i:Int)+1)=(i:Int)+1:=qi zOm zOm;have a0:=qaN g i;have cj:=uX (itS i g) (itS i g) zOm zOm;have J:=ve (itS i g) (ZI (itS i g) (itS i g));have P:uniS (itS i g) (ZI (itS i g) (itS i g))=itS (i+1) g:=rfl;rw[P]at J;clear P;generalize t:itS (i+1) g=s' at *
  generalize ZI (itS i g) (itS i g)=q at *
  generalize itS i g=s at *
  simp[go_sem,p,I,j];refine qg.intro zKr ?_;simp[go_sem,l,qs,tk];refine qc.pure cj (.zk (yw _) (.zk (yw _) .nil)) ?_;simp[go_sem];refine qc.pure J (.zk (yw _) (.zk (yw _) .nil)) ?_;simp[go_sem,l,qs,pc];rw[if_pos (zb _)];simp[go_sem,p,R];exact⟨r,Keep.mk' ⟨zS1 l,zS1 o,zSi,zS1 t⟩⟩
 .have C:i=4:=by omega
  subst C;generalize itS 4 g=s at *
  simp[go_sem,l,o,p,I,qs,tk,pc];rw[if_pos (zb _)];simp[go_sem,o,qs,tk];exact .hf _ (yw s)
def prC(ts:TS)(n:Nd)(l:List RS)(S:RS)(b:Bool):Prop:=qd qb 278 [eTS ts,eNd n,lRS l] (.tup [eRS S,aB b])
theorem ap2(ts:TS)(n:Nd)(L:List RS)(h:n.op=2):prC ts n L (n.n,fun _=>false) true:=by
 unfold prC;refine qd.of_sound (qe.of_awp call278 func278 rfl (qh zKr) zKr (pl:={}) ?_);simp[go_sem,h];exact .hf _ (jE (n.n,fun _=>false) true)
theorem ap3(ts:TS)(ok:okTS ts)(n:Nd)(L:List RS)(h:n.op=3):prC ts n L (qq (zz ts.sorts.length 1)) true:=by
 unfold prC;refine qd.of_sound (qe.of_awp call278 func278 rfl (qh zKr) zKr (pl:={}) ?_);have c1:=allU ts ok 1 zOm;generalize qq (zz ts.sorts.length 1)=q at *
 simp[go_sem,h];refine qc.pure c1 (wkTI ts 1) ?_;simp[go_sem,qs];rw[if_pos (zb _)];generalize i:putCells _ 0 (aI q.1 :: hB q.2)=P;have g:P=aI q.1 :: hB q.2:=by rw[<-i];exact pc (aI 0) _ (fun _=>false) _
 subst g;clear i;simp[go_sem,qs,tk];exact .hf _ (jE q _)
theorem ap4(ts:TS)(ok:okTS ts)(n:Nd)(L:List RS)(h:n.op=4):prC ts n L (qq (zz ts.sorts.length 2)) true:=by
 unfold prC;refine qd.of_sound (qe.of_awp call278 func278 rfl (qh zKr) zKr (pl:={}) ?_);have c1:=allU ts ok 2 zOm;generalize qq (zz ts.sorts.length 2)=q at *
 simp[go_sem,h];refine qc.pure c1 (wkTI ts 2) ?_;simp[go_sem,qs];rw[if_pos (zb _)];generalize i:putCells _ 0 (aI q.1 :: hB q.2)=P;have g:P=aI q.1 :: hB q.2:=by rw[<-i];exact pc (aI 0) _ (fun _=>false) _
 subst g;clear i;simp[go_sem,qs,tk];exact .hf _ (jE q _)
theorem ap5(ts:TS)(n:Nd)(q:RS)(h:n.op=5):prC ts n [q] q true:=by
 unfold prC;refine qd.of_sound (qe.of_awp call278 func278 rfl (qh zKr) zKr (pl:={}) ?_);simp[go_sem,h,qs,tk];rw[if_pos (zb _)];generalize i:putCells _ 0 (aI q.1 :: hB q.2)=P;have g:P=aI q.1 :: hB q.2:=by rw[<-i];exact pc (aI 0) _ (fun _=>false) _
 subst g;clear i;simp[go_sem,qs,tk];exact .hf _ (jE q _)
theorem ap6(ts:TS)(n:Nd)(q r S:RS)(h:n.op=6)(c:qd qb 307 [eRS q,eRS r] (eRS S)):prC ts n [q,r] S (decide (q.1=r.1)):=by
 unfold prC;refine qd.of_sound (qe.of_awp call278 func278 rfl (qh zKr) zKr (pl:={}) ?_);simp[go_sem,h];refine qg.seg [0,1,2,3,4,5,7,8,9,10,11,12,13,14,15,17,6,16] [(0,0,[]),(1,0,[]),(2,0,[]),(3,0,[]),(4,0,[]),(5,0,[]),(7,0,[]),(8,0,[]),(9,0,[]),(10,0,[]),(11,0,[]),(12,0,[]),(13,0,[]),(14,0,[]),(15,0,[]),(17,0,[]),(6,1,[10,14]),(16,1,[10,14])] zKr zKr zSi ?_;simp[go_sem,qs,tk];refine qc.pure c (wkS2 q r) ?_;simp[go_sem,qs];rw[if_pos (zb _)];generalize i:putCells _ 0 (aI S.1 :: hB S.2)=P;have g:P=aI S.1 :: hB S.2:=by rw[<-i];exact pc (aI 0) _ (fun _=>false) _
 subst g;clear i;simp[go_sem,qs,tk];exact .hf _ (jE S _)
theorem ap14(ts:TS)(n:Nd)(q r S:RS)(h:n.op=14)(c:qd qb 307 [eRS q,eRS r] (eRS S)):prC ts n [q,r] S (decide (q.1=r.1)):=by
 unfold prC;refine qd.of_sound (qe.of_awp call278 func278 rfl (qh zKr) zKr (pl:={}) ?_);simp[go_sem,h];refine qg.seg [0,1,2,3,4,5,7,8,9,10,11,12,13,14,15,17,6,16] [(0,0,[]),(1,0,[]),(2,0,[]),(3,0,[]),(4,0,[]),(5,0,[]),(7,0,[]),(8,0,[]),(9,0,[]),(10,0,[]),(11,0,[]),(12,0,[]),(13,0,[]),(14,0,[]),(15,0,[]),(17,0,[]),(6,1,[10,14]),(16,1,[10,14])] zKr zKr zSi ?_;simp[go_sem,qs,tk];refine qc.pure c (wkS2 q r) ?_;simp[go_sem,qs];rw[if_pos (zb _)];generalize i:putCells _ 0 (aI S.1 :: hB S.2)=P;have g:P=aI S.1 :: hB S.2:=by rw[<-i];exact pc (aI 0) _ (fun _=>false) _
 subst g;clear i;simp[go_sem,qs,tk];exact .hf _ (jE S _)
theorem ap7(ts:TS)(n:Nd)(q r S:RS)(h:n.op=7)(c:qd qb 308 [eRS q,eRS r] (eRS S)):prC ts n [q,r] S (decide (q.1=r.1)):=by
 unfold prC;refine qd.of_sound (qe.of_awp call278 func278 rfl (qh zKr) zKr (pl:={}) ?_);simp[go_sem,h];refine qg.seg [0,1,2,3,4,5,7,8,9,10,11,12,13,14,15,17,6,16] [(0,0,[]),(1,0,[]),(2,0,[]),(3,0,[]),(4,0,[]),(5,0,[]),(7,0,[]),(8,0,[]),(9,0,[]),(10,0,[]),(11,0,[]),(12,0,[]),(13,0,[]),(14,0,[]),(15,0,[]),(17,0,[]),(6,1,[10,14]),(16,1,[10,14])] zKr zKr zSi ?_;simp[go_sem,qs,tk];refine qc.pure c (wkS2 q r) ?_;simp[go_sem,qs];rw[if_pos (zb _)];generalize i:putCells _ 0 (aI S.1 :: hB S.2)=P;have g:P=aI S.1 :: hB S.2:=by rw[<-i];exact pc (aI 0) _ (fun _=>false) _
 subst g;clear i;simp[go_sem,qs,tk];exact .hf _ (jE S _)
theorem ap8(ts:TS)(n:Nd)(q r:RS)(h:n.op=8):prC ts n [q,r] q (decide (q.1=r.1)):=by
 unfold prC;refine qd.of_sound (qe.of_awp call278 func278 rfl (qh zKr) zKr (pl:={}) ?_);simp[go_sem,h];refine qg.seg [0,1,2,3,4,5,6,7,8,9,10,11,13,12] [(0,0,[]),(1,0,[]),(2,0,[]),(3,0,[]),(4,0,[]),(5,0,[]),(6,0,[]),(7,0,[]),(8,0,[]),(9,0,[]),(10,0,[]),(11,0,[]),(13,0,[]),(12,1,[6,10])] zKr zKr zSi ?_;simp[go_sem,qs,tk];rw[if_pos (zb _)];generalize i:putCells _ 0 (aI q.1 :: hB q.2)=P;have g:P=aI q.1 :: hB q.2:=by rw[<-i];exact pc (aI 0) _ (fun _=>false) _
 subst g;clear i;simp[go_sem,qs,tk];exact .hf _ (jE q _)
theorem ap32(ts:TS)(n:Nd)(q r:RS)(h:n.op=32):prC ts n [q,r] zR (decide (q.1=r.1)):=by
 unfold prC;refine qd.of_sound (qe.of_awp call278 func278 rfl (qh zKr) zKr (pl:={}) ?_);simp[go_sem,h];refine qg.seg [0,1,2,3,4,5,6,7,8,9,11,10] [(0,0,[]),(1,0,[]),(2,0,[]),(3,0,[]),(4,0,[]),(5,0,[]),(6,0,[]),(7,0,[]),(8,0,[]),(9,0,[]),(11,0,[]),(10,1,[4,8])] zKr zKr zSi ?_;simp[go_sem,qs];exact .hf _ (jE zR _)
theorem ap33(ts:TS)(n:Nd)(q r:RS)(h:n.op=33):prC ts n [q,r] zR (decide (q.1=r.1)):=by
 unfold prC;refine qd.of_sound (qe.of_awp call278 func278 rfl (qh zKr) zKr (pl:={}) ?_);simp[go_sem,h];refine qg.seg [0,1,2,3,4,5,6,7,8,9,11,10] [(0,0,[]),(1,0,[]),(2,0,[]),(3,0,[]),(4,0,[]),(5,0,[]),(6,0,[]),(7,0,[]),(8,0,[]),(9,0,[]),(11,0,[]),(10,1,[4,8])] zKr zKr zSi ?_;simp[go_sem,qs];exact .hf _ (jE zR _)
theorem ap9(ts:TS)(n:Nd)(q r S:RS)(h:n.op=9)(p:0<=q.1/\q.1<=1000)(t:0<=r.1/\r.1<=1000)(c:qd qb 309 [eRS q,eRS r] (eRS S)):prC ts n [q,r] S (decide (1<=q.1+r.1-2/\q.1+r.1-2<=3)):=by
 unfold prC;refine qd.of_sound (qe.of_awp call278 func278 rfl (qh zKr) zKr (pl:={}) ?_);have l:qj.wrap (q.1+r.1)=q.1+r.1:=qi zOm zOm;have o:qj.wrap (q.1+r.1-2)=q.1+r.1-2:=qi zOm zOm;simp[go_sem,h];refine qg.intro zKr ?_;simp[go_sem,qs,l,o];refine qg.intro zKr ?_;by_cases j:1<=q.1+r.1-2
 .simp [go_sem,qs,tk,j]
  refine qc.pure c (wkS2 q r) ?_;simp[go_sem,qs,j];rw[if_pos (zb _)];generalize i:putCells _ 0 (aI S.1 :: hB S.2)=P;have g:P=aI S.1 :: hB S.2:=by rw[<-i];exact pc (aI 0) _ (fun _=>false) _
  subst g;clear i;simp[go_sem,qs,tk];exact .hf _ (jE S _)
 .simp [go_sem,qs,tk,j]
  refine qc.pure c (wkS2 q r) ?_;simp[go_sem,qs,j];rw[if_pos (zb _)];generalize i:putCells _ 0 (aI S.1 :: hB S.2)=P;have g:P=aI S.1 :: hB S.2:=by rw[<-i];exact pc (aI 0) _ (fun _=>false) _
  subst g;clear i;simp[go_sem,qs,tk];exact .hf _ (jE S _)
theorem ap10(ts:TS)(n:Nd)(q r S:RS)(h:n.op=10)(l:0<=q.1/\q.1<=1000)(o:0<=r.1/\r.1<=1000)(c:qd qb 310 [eRS q,eRS r] (eRS S)):prC ts n [q,r] S (decide (q.1+r.1<=3)):=by
 unfold prC;refine qd.of_sound (qe.of_awp call278 func278 rfl (qh zKr) zKr (pl:={}) ?_);have j:qj.wrap (q.1+r.1)=q.1+r.1:=qi zOm zOm;simp[go_sem,h];refine qg.seg [0,1,2,3,4,5,7,8,9,10,11,12,13,14,15,16,18,6,17] [(0,0,[]),(1,0,[]),(2,0,[]),(3,0,[]),(4,0,[]),(5,0,[]),(7,0,[]),(8,0,[]),(9,0,[]),(10,0,[]),(11,0,[]),(12,0,[]),(13,0,[]),(14,0,[]),(15,0,[]),(16,0,[]),(18,0,[]),(6,1,[10,14]),(17,1,[10,14])] zKr zKr zSi ?_;simp[go_sem,qs,tk,j];refine qc.pure c (wkS2 q r) ?_;simp[go_sem,qs];rw[if_pos (zb _)];generalize i:putCells _ 0 (aI S.1 :: hB S.2)=P;have g:P=aI S.1 :: hB S.2:=by rw[<-i];exact pc (aI 0) _ (fun _=>false) _
 subst g;clear i;simp[go_sem,qs,tk];exact .hf _ (jE S _)
theorem ap11(ts:TS)(n:Nd)(q S:RS)(h:n.op=11)(c:qd qb 311 [eRS q] (eRS S)):prC ts n [q] S (decide (q.1=2)):=by
 unfold prC;refine qd.of_sound (qe.of_awp call278 func278 rfl (qh zKr) zKr (pl:={}) ?_);simp[go_sem,h];refine qg.seg [0,1,2,4,5,6,7,8,10,3,9] [(0,0,[]),(1,0,[]),(2,0,[]),(4,0,[]),(5,0,[]),(6,0,[]),(7,0,[]),(8,0,[]),(10,0,[]),(3,1,[7]),(9,1,[7])] zKr zKr zSi ?_;simp[go_sem,qs,tk];refine qc.pure c (wkS1 q) ?_;simp[go_sem,qs];rw[if_pos (zb _)];generalize i:putCells _ 0 (aI S.1 :: hB S.2)=P;have g:P=aI S.1 :: hB S.2:=by rw[<-i];exact pc (aI 0) _ (fun _=>false) _
 subst g;clear i;simp[go_sem,qs,tk];exact .hf _ (jE S _)
theorem ap12(ts:TS)(n:Nd)(q S:RS)(h:n.op=12)(c:qd qb 312 [eRS q] (eRS S)):prC ts n [q] S (decide (q.1=2)):=by
 unfold prC;refine qd.of_sound (qe.of_awp call278 func278 rfl (qh zKr) zKr (pl:={}) ?_);simp[go_sem,h];refine qg.seg [0,1,2,4,5,6,7,8,10,3,9] [(0,0,[]),(1,0,[]),(2,0,[]),(4,0,[]),(5,0,[]),(6,0,[]),(7,0,[]),(8,0,[]),(10,0,[]),(3,1,[7]),(9,1,[7])] zKr zKr zSi ?_;simp[go_sem,qs,tk];refine qc.pure c (wkS1 q) ?_;simp[go_sem,qs];rw[if_pos (zb _)];generalize i:putCells _ 0 (aI S.1 :: hB S.2)=P;have g:P=aI S.1 :: hB S.2:=by rw[<-i];exact pc (aI 0) _ (fun _=>false) _
 subst g;clear i;simp[go_sem,qs,tk];exact .hf _ (jE S _)
theorem ap13(ts:TS)(ok:okTS ts)(n:Nd)(q C S:RS)(h:n.op=13)(c:qd qb 312 [eRS q] (eRS C))(c2:qd qb 307 [eRS C,eRS (qq (zz ts.sorts.length 2))] (eRS S)):prC ts n [q] S (decide (q.1=2)):=by
 unfold prC;refine qd.of_sound (qe.of_awp call278 func278 rfl (qh zKr) zKr (pl:={}) ?_);have c1:=allU ts ok 2 zOm;generalize qq (zz ts.sorts.length 2)=D at *
 simp[go_sem,h];refine qg.seg [0,1,2,4,7,8,9,10,11,13,3,5,6,12] [(0,0,[]),(1,0,[]),(2,0,[]),(4,0,[]),(7,0,[]),(8,0,[]),(9,0,[]),(10,0,[]),(11,0,[]),(13,0,[]),(3,1,[4,10]),(5,1,[10]),(6,1,[10]),(12,1,[10])] zKr zKr zSi ?_;simp[go_sem,qs,tk];refine qc.pure c (wkS1 q) ?_;simp[go_sem,qs];refine qc.pure c1 (wkTI ts 2) ?_;simp[go_sem,qs];refine qc.pure c2 (wkS2 C D) ?_;simp[go_sem,qs];rw[if_pos (zb _)];generalize i:putCells _ 0 (aI S.1 :: hB S.2)=P;have g:P=aI S.1 :: hB S.2:=by rw[<-i];exact pc (aI 0) _ (fun _=>false) _
 subst g;clear i;simp[go_sem,qs,tk];exact .hf _ (jE S _)
theorem apO(ts:TS)(n:Nd)(L:List RS)(t:n.op≠2)(C:n.op≠3)(I:n.op≠4)(J:n.op≠5)(P:n.op≠6)(g:n.op≠14)(R:n.op≠7)(U:n.op≠8)(i:n.op≠32)(j:n.op≠33)(h9:n.op≠9)(l:n.op≠10)(o:n.op≠11)(p:n.op≠12)(r:n.op≠13):prC ts n L zR true:=by
 unfold prC;refine qd.of_sound (qe.of_awp call278 func278 rfl (qh zKr) zKr (pl:={}) ?_);simp[go_sem,t,C,I,J,P,g,R,U,i,j,h9,l,o,p,r];exact .hf _ (jE zR true)
end QN
namespace PC
open YS P1 P2 Y1 Y2 Y9 Y10 Y12 YZ YA PA YC YG Q1 Q3 Q4 PB
section
variable {es:List (ByteArray×Bool)}
theorem ql1{a i b b':Kd}(j:Sub i a)(l:Sub b' b):Sub (Z6 i b') (Z6 a b):=⟨j.1,fun t g=>by
 simp only[Z6,vt,decide_eq_true_eq]at g⊢;exact⟨j.2 t g.1,l.2 t g.2⟩⟩
theorem ql2{op:Int}{a i b b':Kd}(g:Sub i a)(j:Sub b' b):Sub (vT op i b') (vT op a b):=by
 unfold vT;split
 .exact m8 g j.2
 .split
  .exact ql1 g j
  .exact g
theorem ql3{ns:Nat}(g:ns<=4){op:Int}{a i:Kd}(h:Sub i a)(ok:okKd ns a)(j:a.ar=2):Sub (binK ns op i) (binK ns op a):=by
 unfold binK;split
 .exact m9 g h ok j
 .split
  .exact m8 (m9 g h ok j) fun _ h=>h
  .exact qlF h
theorem apK1(ns:Nat)(op n pos:Int)(a:Kd):z7 ns op n pos [some a]=if op=2 then .ok (some ⟨n,[]⟩) else if op=3 then .ok (some (zz ns 1)) else if op=4 then .ok (some (zz ns 2)) else
  if op=5 then .ok (some a) else if op=11\/op=12\/op=13 then (if a.ar=2 then .ok (some (binK ns op a)) else .error (42,pos)) else .ok none:=rfl
theorem apK2(ns : Nat)(op n pos : Int)(a b : Kd) : z7 ns op n pos [some a, some b] = if op = 2 then .ok (some ⟨n, []⟩) else if op = 3 then .ok (some (zz ns 1)) else if op = 4 then .ok (some (zz ns 2)) else
      if op=6\/op=14\/op=7\/op=8\/op=32\/op=33 then (if a.ar=b.ar then .ok (some (vT op a b)) else .error (42,pos))
      else if op=9 then (if 1<=a.ar+b.ar-2/\a.ar+b.ar-2<=3 then .ok (some (zI a b)) else .error (42,pos))
      else if op=10 then (if a.ar+b.ar<=3 then .ok (some (uy a b)) else .error (42,pos))
      else .ok none:=rfl
theorem ql4{ns:Nat}(J:ns<=4){op num pos:Int}{l l':List (Option Kd)}{T:Option Kd}(e1:op≠1)(a0:op≠15)
  (h1:op=5\/op=11\/op=12\/op=13->∃ a j,l=[some a]/\l'=[some j]/\Sub j a/\okKd ns a)
  (h2:op=6\/op=14\/op=7\/op=8\/op=32\/op=33\/op=9\/op=10->∃ a b j b',l=[some a,some b]/\l'=[some j,some b']/\Sub j a/\Sub b' b)
  (h:z7 ns op num pos l = .ok T):∃ p,z7 ns op num pos l' = .ok p/\(kd op=101->∃ k k',T=some k/\p=some k'/\Sub k' k):=by
 by_cases o:op=2
 .unfold z7 at h⊢
  rw[if_pos o]at h⊢;cases h;exact⟨_,rfl,fun _=>⟨_,_,rfl,rfl,Sub.refl _⟩⟩
 by_cases r:op=3
 .unfold z7 at h⊢
  rw[if_neg o,if_pos r]at h⊢;cases h;exact⟨_,rfl,fun _=>⟨_,_,rfl,rfl,Sub.refl _⟩⟩
 by_cases t:op=4
 .unfold z7 at h⊢
  rw[if_neg o,if_neg r,if_pos t]at h⊢;cases h;exact⟨_,rfl,fun _=>⟨_,_,rfl,rfl,Sub.refl _⟩⟩
 by_cases g1:op=5\/op=11\/op=12\/op=13
 .obtain ⟨a,j,rfl,rfl,P,ok⟩:=h1 g1
  rw[apK1,if_neg o,if_neg r,if_neg t]at h⊢;by_cases U:op=5
  .rw [if_pos U]at h⊢
   cases h;exact⟨_,rfl,fun _=>⟨_,_,rfl,rfl,P⟩⟩
  have g:op=11\/op=12\/op=13:=zOm;rw[if_neg U,if_pos g]at h⊢;by_cases i:a.ar=2
  .rw [if_pos i]at h
   rw[if_pos (P.1.trans i)];cases h;exact⟨_,rfl,fun _=>⟨_,_,rfl,rfl,ql3 J P ok i⟩⟩
  .rw [if_neg i]at h;cases h
 by_cases g2:op=6\/op=14\/op=7\/op=8\/op=32\/op=33\/op=9\/op=10
 .obtain ⟨a,b,j,b',rfl,rfl,C,I⟩:=h2 g2
  have q1:=C.1;have q2:=I.1;rw[apK2,if_neg o,if_neg r,if_neg t]at h⊢;by_cases g3:op=6\/op=14\/op=7\/op=8\/op=32\/op=33
  .rw [if_pos g3]at h⊢
   by_cases i:a.ar=b.ar
   .rw [if_pos i]at h
    rw[if_pos zOm];cases h;exact⟨_,rfl,fun _=>⟨_,_,rfl,rfl,ql2 C I⟩⟩
   .rw [if_neg i]at h;cases h
  rw[if_neg g3]at h⊢;by_cases e9:op=9
  .rw [if_pos e9]at h⊢
   by_cases i:1<=a.ar+b.ar-2/\a.ar+b.ar-2<=3
   .rw [if_pos i]at h
    rw[if_pos zOm];cases h;exact⟨_,rfl,fun _=>⟨_,_,rfl,rfl,Uu C I⟩⟩
   .rw [if_neg i]at h;cases h
  have R:op=10:=zOm;rw[if_neg e9,if_pos R]at h⊢;by_cases i:a.ar+b.ar<=3
  .rw [if_pos i]at h
   rw[if_pos zOm];cases h;exact⟨_,rfl,fun _=>⟨_,_,rfl,rfl,qlE C I⟩⟩
  .rw [if_neg i]at h;cases h
 refine⟨none,V6 o r t zOm zOm zOm zOm zOm zOm zOm zOm zOm zOm zOm zOm,fun hk=>?_⟩;have:=V9 hk;omega
theorem ql5{c:Ck}{n k:Nd}(h:zX c n=false)(i:k∈n.kids):zX c k=false:=by
 rw[VT,Bool.or_eq_false_iff]at h;have g:=h.2;rw[List.any_eq_false]at g;simpa using g k i
theorem Kz{c:Ck}{b b':Bool}:∀{ks:List Nd} {s:Scp},(∀ k,k∈ks->∀ s,exam c s b k=exam c s b' k)->qQ c s b ks=qQ c s b' ks
 | [],s,_=>by simp only[qQ]
 |k :: ks,s,h=>by
  simp only[qQ];rw[h k (q8 ..) s,Kz fun k g s=>h k (qY _ g) s]
theorem ql6{c:Ck}{b b':Bool}{nm:ByteArray}{pos:Int}:∀{ks:List Nd} {s:Scp},(∀ k,k∈ks->∀ s,exam c s b k=exam c s b' k)->z8 c s b nm pos ks=z8 c s b' nm pos ks
 | [],s,_=>by simp only[z8]
 |k :: ks,s,h=>by
  simp only[z8];rw[h k (q8 ..) s];cases exam c s b' k with
  |error e=>rfl
  |ok a =>
   cases a with
   |none=>rfl
   |some a =>
    simp only;rw[Kz (s:=(nm,a) :: s) fun k g s=>h k (qY _ g) s]
theorem KA(c:Ck):∀(m:Nat) (n:Nd) (s:Scp) (b b':Bool),szN n<=m->zX c n=false->exam c s b n=exam c s b' n
 | 0,n,_,_,_,g,_=>by obtain⟨op,nm,i,ks,p⟩:=n;simp[szN]at g
 |m+1,n,s,b,b',g,h=>by
  have j:∀ b b' k,k∈n.kids->∀ s,exam c s b k=exam c s b' k:=fun b b' k l s=>KA c m k s b b' (zW1 (zS l)) (ql5 h l)
  have o:zL c n.op n.name=false:=by rw[VT,Bool.or_eq_false_iff]at h;exact h.1
  rw[yD,yD,o,Bool.and_false,Bool.and_false];rw[ql6 (b:=b||decide (n.op=15)) (b':=b'||decide (n.op=15)) (j _ _),Kz (b:=b||decide (n.op=12)||decide (n.op=13)) (b':=b'||decide (n.op=12)||decide (n.op=13)) (j _ _)]
theorem JL(ts:TS)(i:Nat):∀ m,i<m->m<=ts.preds.length->∀(j:i<ts.preds.length),(tmsL ts m).getD i false=zX (mkCk ts i) ts.preds[i].body
 | 0,h,_,_=>absurd h zOm
 |m+1,h,r,j=>by
  have l:=ZA ts m zOm;have g:m<ts.preds.length:=zOm;have e:tmsL ts (m+1)=tmsL ts m++[zX (mkCk ts m) ts.preds[m].body]:=by
   show tmsL ts m++(match ts.preds[m]? with|some p=>[zX ⟨ts,m,tmsL ts m⟩ p.body] | none=>[])=_;rw[qA g];rfl
  rw[e];by_cases o:i<m
  .rw [<-JL ts i m o zOm j]
   simp only[zT];rw[qo zOm]
  .have:i=m:=by omega
   subst this;simp only[zT];rw[zf zOm,l];simp
abbrev tkn(es:List (ByteArray×Bool))(nm:ByteArray):Prop:=getK nm es=some true
def Tk(es:List (ByteArray×Bool))(n:Nd):Prop:=∀ x,x∈preN n->tkn es x.name
def OwnT(n:Nd):Prop:=∀ x,x∈preN n->ownB x=true
def vLe(es:List (ByteArray×Bool))(L:Int)(nm:ByteArray):Prop:=∃ j:Nat,(j:Int)<=L/\nm=vN j/\¬tkn es nm/\yY nm=true
structure ql7 (es:List (ByteArray×Bool)) (L:Int) (x:Nd):Prop where
 nc:x.op≠47
 own:ownB x=true
 nm:tkn es x.name\/vLe es L x.name
structure vr (es:List (ByteArray×Bool)) (L:Int) (n:Nd):Prop where
 wf:WfN n
 all:∀ x,x∈preN n->ql7 es L x
theorem vLe.mono{L L':Int}{nm:ByteArray}(h:vLe es L nm)(g:L<=L'):vLe es L' nm:=by
 obtain⟨j,a,b⟩:=h;exact⟨j,zOm,b⟩
theorem vr.mono{L L':Int}{n:Nd}(h:vr es L n)(g:L<=L'):vr es L' n:=
 ⟨h.wf,fun x hx=>⟨(h.all x hx).nc,(h.all x hx).own,(h.all x hx).nm.imp id fun v=>v.mono g⟩⟩
theorem Tk.kid{n k:Nd}(h:Tk es n)(g:k∈n.kids):Tk es k:=fun x hx=>h x (Ui g hx)
theorem OwnT.kid{n k:Nd}(h:OwnT n)(g:k∈n.kids):OwnT k:=fun x hx=>h x (Ui g hx)
theorem Uz{ks:List Nd}{x:Nd}(h:x∈zo ks):∃ k,k∈ks/\x∈preN k:=by
 induction ks with
 |nil=>simp[zo]at h
 |cons a l g =>
  simp only[zo,qM]at h;rcases h with h|h
  .exact ⟨a,q8 ..,h⟩
  .obtain ⟨k,i,hx⟩:=g h
   exact⟨k,qY _ i,hx⟩
theorem ql8{nm:ByteArray}{n:Nd}(h:wc nm n):∃ x,x∈preN n/\x.name=nm:=by
 unfold wc at h;rw[Yl _ (szN n) n (qm _),List.any_eq_true]at h;obtain⟨x,hx,e⟩:=h;exact⟨x,hx,zUs e⟩
theorem UA{ts:TS}:∀{f:Nat} {k:Int},(∃ j:Nat,1<=j/\j<=f/\yr ts es (vN (k+j))=true)->yr ts es (vN (zj ts es f k))=true
 | 0,k,⟨j,i,l,_⟩=>zOm
 |f+1,k,⟨j,i,l,g⟩=>by
  simp only[zj];split
  .rename_i h;exact h
  .rename_i o
   have p:j≠1:=fun e=>by subst e;exact o g
   exact UA (ts:=ts) (f:=f) (k:=k+1) ⟨j-1,zOm,zOm,by rw[show k+1+((j-1:Nat):Int)=k+j by omega];exact g⟩
theorem qaP:∀(m u:Nat),u<10 ^ (m+1)->(Lib.decDigits u).length<=m+1
 | 0,u,h=>by
  rw[Lib.decDigits];split
  .simp
  .omega
 |m+1,u,h=>by
  rw[Lib.decDigits];split
  .simp
  .rw [zc]
   have:=qaP m (u / 10) (by rw[Nat.pow_succ]at h;omega);simp only[zG,List.length_nil];omega
theorem qaQ:∀(m u:Nat),u<=m->∀ x,x∈Lib.decDigits u->48<=x.toNat/\x.toNat<=57
 |m,u,g,x,hx=>by
  rw[Lib.decDigits]at hx;split at hx
  .rename_i h
   rw[qL]at hx;subst hx;rw[UInt8.toNat_ofNat_of_lt' (by simp[UInt8.size];omega)];omega
  .rename_i h
   rcases qM.1 hx with hx|hx
   .match m with
    | 0=>omega
    |m+1=>exact qaQ m (u / 10) zOm x hx
   .rw [qL]at hx
    subst hx;rw[UInt8.toNat_ofNat_of_lt' (by simp[UInt8.size];omega)];omega
theorem ql9(u:Nat):Lib.decDigits u≠[]:=by
 rw[Lib.decDigits];split<;>simp
theorem qmA(j:Nat):(vN (j:Int)).data.toList=118 :: Lib.decDigits j:=by
 unfold vN jh Lib.itoa;rw[if_neg zOm];simp
theorem qmB:∀ x,x∈kwL->∀ c,x.data.toList[1]?=some c->¬(48<=c.toNat/\c.toNat<=57):=by decide +kernel
theorem qmC{j:Nat}(h:j<1000000000000):yY (vN (j:Int))=true:=by
 have l:=qmA j;have I:=qaP 11 j zOm;have p:=qaQ j j (qm _);have t:=ql9 j;obtain⟨d,r,e⟩:=List.exists_cons_of_ne_nil t;have C:(vN (j:Int)).size=1+(Lib.decDigits j).length:=by
  have e:(vN (j:Int)).size=(vN (j:Int)).data.toList.length:=by rw[Array.length_toList];rfl
  rw[e,l,zG,Nat.add_comm]
 have o:kwB (vN (j:Int))=false:=by
  unfold kwB;rw[List.any_eq_false];intro x hx g;have g:x=vN (j:Int):=zUs g;refine qmB x hx d ?_ (p d (by rw[e];exact q8 ..));rw[g,l,e];rfl
 unfold yY;simp only[qB,decide_eq_true_eq,o,Bool.not_false,and_true];refine⟨⟨zOm,zOm⟩,?_⟩;rw[qI];intro i _;rw[<-Array.getElem?_toList,l];cases i with
 |zero=>show chB 0 ((118:UInt8).toNat:Int)=true;decide
 |succ i =>
  rw[List.getElem?_cons_succ];cases g:(Lib.decDigits j)[i]? with
  |none=>rfl
  |some c =>
   have:=p c (qV g);simp[chB];right;right;omega
end
end PC
namespace PG
open Y1 Y2 P1 P2 Y9 YZ
theorem qmD{ns:Nat}{op n pos:Int}{l:List (Option Kd)}{e:Dg}(h:z7 ns op n pos l = .error e):40<=e.1:=by
 unfold z7 at h
 repeat' split at h
 all_goals first
  | (cases h;done)
  | (cases h;simp)
theorem qmE{c:Ck}{s:Scp}{nm:ByteArray}{pos:Int}{e:Dg}(h:jg c s nm pos = .error e):40<=e.1:=by
 unfold jg at h
 repeat' split at h
 all_goals first
  | (cases h;done)
  | (cases h;simp)
section
variable {c:Ck}
theorem KB{inn:Bool}:∀{ks:List Nd} {s:Scp} {e:Dg},(∀ k,k∈ks->∀ s e,exam c s inn k = .error e->40<=e.1)->qQ c s inn ks = .error e->40<=e.1
 | [],s,e,_,h=>by simp only[qQ]at h;cases h
 |k :: ks,s,e,g,h=>by
  simp only[qQ]at h;split at h
  .rename_i i hx
   cases h;exact g k (q8 ..) s _ hx
  .split at h
   .rename_i i hx
    cases h;exact KB (fun k j=>g k (qY _ j)) hx
   .cases h
theorem qaR{pos:Int}:∀{ks:List Nd} {ps:List (ByteArray×Int)} {s:Scp} {e:Dg},(∀ k,k∈ks->∀ s e,exam c s true k = .error e->40<=e.1)->zN c s pos ps ks = .error e->40<=e.1
 | [],ps,s,e,_,h=>by cases ps<;>(simp only[zN]at h;cases h)
 |k :: ks,[],s,e,_,h=>by simp only[zN]at h;cases h
 |k :: ks,p :: ps,s,e,g,h=>by
  simp only[zN]at h;split at h
  .rename_i j hx
   cases h;exact g k (q8 ..) s _ hx
  .cases h;simp
  .split at h
   .split at h
    .exact qaR (fun k i=>g k (qY _ i)) h
    .cases h;simp
   .cases h;simp
theorem qmF{inn:Bool}{nm:ByteArray}{pos:Int}:∀{ks:List Nd} {s:Scp} {e:Dg},(∀ k,k∈ks->∀ s e,exam c s inn k = .error e->40<=e.1)->z8 c s inn nm pos ks = .error e->40<=e.1
 | [],s,e,_,h=>by simp only[z8]at h;cases h
 |k :: ks,s,e,g,h=>by
  simp only[z8]at h;split at h
  .rename_i i hx
   cases h;exact g k (q8 ..) s _ hx
  .cases h;simp
  .split at h
   .split at h
    .rename_i i hx
     cases h;exact KB (fun k j=>g k (qY _ j)) hx
    .cases h
   .cases h;simp
theorem JM(c:Ck):∀(m:Nat) (n:Nd) (s:Scp) (inn:Bool) (e:Dg),szN n<=m->exam c s inn n = .error e->40<=e.1
 | 0,n,_,_,_,j,_=>by obtain⟨op,nm,i,ks,p⟩:=n;simp[szN]at j
 |m+1,n,s,inn,e,j,h=>by
  have g:∀ inn k,k∈n.kids->∀ s e,exam c s inn k = .error e->40<=e.1:=fun inn k l s e h=>JM c m k s inn e (zW1 (zS l)) h
  rw[yD]at h;split at h
  .cases h;simp
  split at h
  .exact qmE h
  split at h
  .split at h
   .split at h
    .cases h;simp
    .split at h
     .cases h;simp
     .split at h
      .exact qaR (g true) h
      .cases h;simp
   .cases h;simp
  split at h
  .exact qmF (g _) h
  .split at h
   .rename_i o hx
    cases h;exact KB (g _) hx
   .exact qmD h
end
theorem qaS{ks:List Nd}{k:Nd}(h:k∈ks):depN k<=zZ ks:=by
 induction ks with
 |nil=>simp at h
 |cons a l g =>
  simp only[zZ];rcases qt.1 h with rfl|h
  .omega
  .have:=g h;omega
theorem qaT(n:Nd):1<=depN n:=by
 rw[wd];have:∀ ks:List Nd,0<=zZ ks:=by
  intro ks;induction ks with
  |nil=>simp[zZ]
  |cons a l g=>simp only[zZ];omega
 have:=this n.kids;omega
end PG
namespace QO
open YF Y9 Y10 Y1 Y2 Y3 Y12 Y13 P1 P2 QD QE QF QH QI QJ QL QN PG PC
section
variable {ts:TS}
theorem qaU{n:Nd}{L:List RS}{S g:RS}{b:Bool}(e:eRS S=eRS g)(h:prC ts n L S b):prC ts n L g b:=by
 unfold prC at h⊢;rw[<-e];exact h
theorem qmG{n:Nd}{a b:Kd}(j:n.op=6\/n.op=14\/n.op=7\/n.op=8\/n.op=32\/n.op=33):∃ S,prC ts n [qq a,qq b] S (decide (a.ar=b.ar))/\(a.ar=b.ar->kd n.op=101->S=qq (vT n.op a b)):=by
 have l:∀ op:Int,op=6\/op=14->vT op a b=kSum a b:=fun op h=>by unfold vT;rw[if_pos h]
 by_cases g:a.ar=b.ar
 .rcases j with h|h|h|h|h|h
  .exact ⟨_,ap6 ts n _ _ _ h (by have:=ve (qq a) (qq b);rw[JD g]at this;exact this),fun _ _=>by rw[h,l 6 (.inl rfl)]⟩
  .exact ⟨_,ap14 ts n _ _ _ h (by have:=ve (qq a) (qq b);rw[JD g]at this;exact this),fun _ _=>by rw[h,l 14 (.inr rfl)]⟩
  .exact ⟨_,ap7 ts n _ _ _ h (by have:=V3 (qq a) (qq b);rw[qlG g]at this;exact this),fun _ _=>by rw[h];rfl⟩
  .exact ⟨_,ap8 ts n _ _ h,fun _ _=>by rw[h];rfl⟩
  .exact ⟨_,ap32 ts n _ _ h,fun _ i=>by rw[h]at i;exact absurd i zDe⟩
  .exact ⟨_,ap33 ts n _ _ h,fun _ i=>by rw[h]at i;exact absurd i zDe⟩
 .rcases j with h|h|h|h|h|h
  .exact ⟨_,ap6 ts n _ _ _ h (ve (qq a) (qq b)),fun e=>absurd e g⟩
  .exact ⟨_,ap14 ts n _ _ _ h (ve (qq a) (qq b)),fun e=>absurd e g⟩
  .exact ⟨_,ap7 ts n _ _ _ h (V3 (qq a) (qq b)),fun e=>absurd e g⟩
  .exact ⟨_,ap8 ts n _ _ h,fun e=>absurd e g⟩
  .exact ⟨_,ap32 ts n _ _ h,fun e=>absurd e g⟩
  .exact ⟨_,ap33 ts n _ _ h,fun e=>absurd e g⟩
theorem qmH(ok:okTS ts){n:Nd}{a:Kd}(l:okKd ts.sorts.length a)(o:n.op=11\/n.op=12\/n.op=13):∃ S,prC ts n [qq a] S (decide (a.ar=2))/\(a.ar=2->S=qq (binK ts.sorts.length n.op a)):=by
 have i:=ok.ns;by_cases g:a.ar=2
 .have p:=VN l g i
  rcases o with h|h|h
  .exact ⟨_,ap11 ts n _ _ h (by have:=m6 (qq a);rw[qlM l i g]at this;exact this),fun _=>by rw[h];rfl⟩
  .exact ⟨_,ap12 ts n _ _ h p,fun _=>by rw[h];rfl⟩
  .refine ⟨_,ap13 ts ok n _ _ (qq (kSum (kClo a) (zz ts.sorts.length 2))) h p ?_,fun _=>by rw[h];rfl⟩
   have:=ve (qq (kClo a)) (qq (zz ts.sorts.length 2));rw[JD (show (kClo a).ar=2 from (V8 l g).2)]at this;exact this
 .have j:=l.ar
  rcases o with h|h|h
  .exact ⟨_,ap11 ts n _ _ h (m6 (qq a)),fun e=>absurd e g⟩
  .exact ⟨_,ap12 ts n _ _ h (qaO (qq a) j),fun e=>absurd e g⟩
  .exact ⟨_,ap13 ts ok n _ _ _ h (qaO (qq a) j) (ve _ _),fun e=>absurd e g⟩
theorem qmI(ts:TS)(ok:okTS ts)(n:Nd)(l:List (Option Kd))(L:List RS)(e1:n.op≠1)(a0:n.op≠15)
  (h1:n.op=5\/n.op=11\/n.op=12\/n.op=13->∃ a,l=[some a]/\L=[qq a]/\okKd ts.sorts.length a)
  (h2:n.op=6\/n.op=14\/n.op=7\/n.op=8\/n.op=32\/n.op=33\/n.op=9\/n.op=10->∃ a b,l=[some a,some b]/\L=[qq a,qq b]/\okKd ts.sorts.length a/\okKd ts.sorts.length b) :
  ∃ S b,prC ts n L S b/\ApE n.op (z7 ts.sorts.length n.op n.n n.pos l) S b:=by
 have t:=ok.ns;by_cases j:n.op=2
 .refine ⟨qq ⟨n.n,[]⟩,true,qaU (qaM n.n) (ap2 ts n L j),?_⟩
  unfold z7;rw[if_pos j];exact⟨rfl,fun _=>⟨_,rfl,rfl⟩⟩
 by_cases o:n.op=3
 .refine ⟨_,true,ap3 ts ok n L o,?_⟩
  unfold z7;rw[if_neg j,if_pos o];exact⟨rfl,fun _=>⟨_,rfl,rfl⟩⟩
 by_cases r:n.op=4
 .refine ⟨_,true,ap4 ts ok n L r,?_⟩
  unfold z7;rw[if_neg j,if_neg o,if_pos r];exact⟨rfl,fun _=>⟨_,rfl,rfl⟩⟩
 by_cases g1:n.op=5\/n.op=11\/n.op=12\/n.op=13
 .obtain ⟨a,rfl,rfl,C⟩:=h1 g1
  rw[apK1,if_neg j,if_neg o,if_neg r];by_cases J:n.op=5
  .rw [if_pos J]
   exact⟨_,true,ap5 ts n _ J,rfl,fun _=>⟨_,rfl,rfl⟩⟩
  have g:n.op=11\/n.op=12\/n.op=13:=zOm;rw[if_neg J,if_pos g];obtain⟨S,P,R⟩:=qmH ok C g;refine⟨S,_,P,?_⟩;by_cases i:a.ar=2
  .rw [if_pos i]
   exact⟨decide_eq_true i,fun _=>⟨_,rfl,R i⟩⟩
  .rw [if_neg i]
   exact decide_eq_false i
 by_cases g2:n.op=6\/n.op=14\/n.op=7\/n.op=8\/n.op=32\/n.op=33\/n.op=9\/n.op=10
 .obtain ⟨a,b,rfl,rfl,C,T⟩:=h2 g2
  have ra:=C.ar;have rb:=T.ar;rw[apK2,if_neg j,if_neg o,if_neg r];by_cases U:n.op=6\/n.op=14\/n.op=7\/n.op=8\/n.op=32\/n.op=33
  .rw [if_pos U]
   obtain⟨S,P,R⟩:=qmG (ts:=ts) (n:=n) (a:=a) (b:=b) U;refine⟨S,_,P,?_⟩;by_cases i:a.ar=b.ar
   .rw [if_pos i]
    exact⟨decide_eq_true i,fun hk=>⟨_,rfl,R i hk⟩⟩
   .rw [if_neg i]
    exact decide_eq_false i
  rw[if_neg U];by_cases I:n.op=9
  .rw [if_pos I]
   by_cases i:1<=a.ar+b.ar-2/\a.ar+b.ar-2<=3
   .rw [if_pos i]
    refine⟨_,_,ap9 ts n _ _ (qq (zI a b)) I (by show 0<=a.ar/\a.ar<=1000;omega) (by show 0<=b.ar/\b.ar<=1000;omega) ?_,decide_eq_true i,fun _=>⟨_,rfl,rfl⟩⟩;rw[<-qaE C T t i];exact uX _ _ (by show 0<=a.ar/\a.ar<=1000;omega) (by show 1<=b.ar/\b.ar<=1000;omega)
   .rw [if_neg i]
    exact⟨_,_,ap9 ts n _ _ _ I (by show 0<=a.ar/\a.ar<=1000;omega) (by show 0<=b.ar/\b.ar<=1000;omega) (uX _ _ (by show 0<=a.ar/\a.ar<=1000;omega) (by show 1<=b.ar/\b.ar<=1000;omega)),decide_eq_false i⟩
  have p:n.op=10:=zOm;rw[if_neg I,if_pos p];by_cases i:a.ar+b.ar<=3
  .rw [if_pos i]
   refine⟨_,_,ap10 ts n _ _ (qq (uy a b)) p (by show 0<=a.ar/\a.ar<=1000;omega) (by show 0<=b.ar/\b.ar<=1000;omega) ?_,decide_eq_true i,fun _=>⟨_,rfl,rfl⟩⟩;rw[<-qlH C T t i];exact m7 _ _ (by show 0<=a.ar/\a.ar<=1000;omega) (by show 0<=b.ar/\b.ar<=1000;omega)
  .rw [if_neg i]
   exact⟨_,_,ap10 ts n _ _ _ p (by show 0<=a.ar/\a.ar<=1000;omega) (by show 0<=b.ar/\b.ar<=1000;omega) (m7 _ _ (by show 0<=a.ar/\a.ar<=1000;omega) (by show 0<=b.ar/\b.ar<=1000;omega)),decide_eq_false i⟩
 refine⟨zR,true,apO ts n L j o r zOm zOm zOm zOm zOm zOm zOm zOm zOm zOm zOm zOm,?_⟩;rw[V6 j o r zOm zOm zOm zOm zOm zOm zOm zOm zOm zOm zOm zOm];refine⟨rfl,fun hk=>?_⟩;have:=V9 hk;omega
theorem qmJ{ns:Nat}(o:ns<=4){q:Kd}(h:okKd ns q)(l:q.ar=1)(i:Int):vU i q=true↔∀ k:Nat,k<4->(qq q).2 k=true->(k:Int)=i:=by
 unfold vU;rw[qI];constructor
 .intro p k J r
  rw[yN,l]at r;have:=p _ r.2;simpa[dig,pad] using this
 .intro p t C
  obtain⟨j,I,e⟩:=Yn h o C;rw[l]at I e;have g:j<4:=I;have:=p j g ((yN q j).2 ⟨by rw[l];exact g,by rw[l,<-e];exact C⟩);rw[e];simp[dig,pad,this]
def ExR(c:Ck)(s:Scp)(inn:Bool)(n:Nd):Prop:=∃ S:RS,qd qb 233 [eVw c inn,lVr (envS s),eNd n] (.tup [eRS S,eDg (dgOf (exam c s inn n))])/\(kd n.op=101->∀ q,exam c s inn n = .ok (some q)->S=qq q)
theorem qaV(c:Ck)(inn:Bool):HF (eVw c inn):=HF.agg fun x hx=>by
 simp only[qt,qE,or_false]at hx;rcases hx with rfl|rfl|rfl|rfl|rfl|rfl|rfl
 .exact VR _
 .exact VS _
 .exact wR _
 .exact Jj _
 .exact JI _
 .exact HF.sc _
 .exact HF.sc _
theorem wkE(c:Ck)(inn:Bool)(l:List Vr)(n:Nd):WKs [eVw c inn,lVr l,eNd n] [eVw c inn,lVr l,eNd n] := .zk (qaV c inn) (.zk (qlW _) (.zk (qz n) .nil))
theorem wg(d:Dg):HF (eDg d):=HF.agg fun x hx=>by
 simp only[qt,qE,or_false]at hx;rcases hx with rfl|rfl<;>exact HF.sc _
theorem qaW{c:Ck}{nm:ByteArray}{p:Nat}(i:okCk c)(h:zn c nm=some p):(c.ts.preds.any fun p=>decide (p.name=nm))=true:=by
 obtain⟨_,hp⟩:=wT i h;unfold zn at h;rw[List.findIdx?_eq_some_iff_getElem]at h;obtain⟨j,g,_⟩:=h;simp only[List.getElem_take]at g;exact List.any_eq_true.2 ⟨_,qy hp,g⟩
theorem qmK{nm:ByteArray}(h:zn (mkCk ts ts.preds.length) nm=none):(ts.preds.any fun p=>decide (p.name=nm))=false:=by
 unfold zn at h;rw[List.findIdx?_eq_none_iff]at h;rw[List.any_eq_false];intro p hp;have:p∈ts.preds.take ts.preds.length:=by rw[zw];exact hp
 have:=h p this;simpa using this
theorem UB{n:Nd}(i:WfN n)(h:n.op=47):∀ k,k∈n.kids->kd k.op=101:=by
 have g:=i.shape;have e:shp n.op n.kids.length=some (qZ (min n.kids.length 401) 101):=by
  unfold shp;rw[if_neg zOm,if_neg zOm,if_neg zOm,if_neg zOm,if_neg zOm,if_neg zOm,if_neg zOm,if_pos h]
 rw[e]at g;simp only[qp]at g;intro k j;have:kd k.op∈n.kids.map fun k=>kd k.op:=qr.2 ⟨k,j,rfl⟩
 rw[<-g]at this;exact List.eq_of_mem_replicate this
theorem qmL(c:Ck)(hc:okCk c)(s:Scp)(hs:ScOk c.ts.sorts.length s)(n:Nd)(hw:WfN n)(b2:n.op=47)(ih:∀ k,k∈n.kids->ExR c s true k)(inn:Bool) :
  qd qb 276 [eVw c inn,lVr (envS s),eNd n] (eDg (dgOf (uB c s n))):=by
 generalize hR:uB c s n=R;unfold uB at hR;refine qd.of_sound (qe.of_awp call276 func276 rfl (qh zKr) zKr (pl:={ mt:=[3] }) ?_);have bh:=hc.ts.np;have bi:=hw.len;have b3:=JH c hc n.name;have b4:=JH (mkCk c.ts c.ts.preds.length) (vG hc.ts (qm _)) n.name;have aq:∀ k:Int,WKs [eTS c.ts,aI k,aS n.name] [eTS c.ts,aI k,aS n.name]:=fun k => .zk (zA _) (.zs (.zs .nil))
 simp[go_sem];refine qc.pure b3 (aq _) ?_;cases a0:zn c n.name with
 |none =>
  rw[a0]at hR;simp[go_sem,idxO];refine qc.pure b4 (aq _) ?_;cases a4:zn (mkCk c.ts c.ts.preds.length) n.name with
  |none =>
   rw[qmK a4]at hR;subst hR;simp[go_sem,idxO,dgOf];exact .hf _ (wg (40,n.pos))
  |some p =>
   have ha:(c.ts.preds.any fun p=>decide (p.name=n.name))=true:=qaW (c:=mkCk c.ts c.ts.preds.length) (vG hc.ts (qm _)) a4;rw[ha]at hR;subst hR;have ad:¬(p:Int)<0:=zOm;simp[go_sem,idxO,dgOf,ad];exact .hf _ (wg (45,n.pos))
 |some p =>
  obtain⟨_,ae⟩:=wT hc a0;rw[qaW hc a0,if_pos rfl,a0]at hR;simp only[qA ae]at hR;have ad:¬(p:Int)<0:=zOm;have b5:=hc.ts.pl _ (qy ae);simp[go_sem,idxO,ae,ad];generalize bj:c.ts.preds[p]=C at *
  by_cases a2:C.params.length=n.kids.length
  .rw [if_pos a2]at hR
   simp[go_sem,a2];have b6:=UB hw b2;refine qn.upK C.params.length (fun k U=>U.tm 1=lVr (envS s)/\U.tm 3 = .ptr 0 0/\U.tm 5 = .ip (cNd n)/\U.tm 6 = .ptr 1 0/\U.tm 8=lPm C.params/\U.tm 9=aI k/\U.mu[0]?=some (.arr (cVw c true))/\U.mu[1]?=some (.arr [aI 0,aI 0])/\zN c s n.pos (C.params.drop k) (n.kids.drop k)=R) ?_ ?_
   .exact ⟨zSi,zSi,zSi,zSi,zSi,zSi,zSi,zSi,zUs hR⟩
   rintro k U hk ⟨e1,e3,e5,e6,e8,e9,m0,m1,t⟩;have a9:1<U.mu.length:=(qk.1 m1).1;have I:∀(l:List Cell) (i:Nat),i<U.mu.length->(U.mu++l)[i]?=U.mu[i]?:=fun l i hi=>qo hi
   have a1:∀ c,(U.mu.set 1 c)[1]?=some c:=fun c=>qJ a9
   have af:∀ c (l:List Cell),((U.mu++l).set 1 c)[1]?=some c:=fun c l=>qJ zSo
   have ag:∀(l:List Cell) (h:0<(U.mu++l).length),(U.mu++l)[0] = .arr (cVw c true):=fun l h=>by
    rw[UV zOm];exact(qk.1 m0).2
   have ah:∀(l:List Cell) (h:1<(U.mu++l).length),(U.mu++l)[1] = .arr [aI 0,aI 0]:=fun l h=>by
    rw[UV zOm];exact(qk.1 m1).2
   by_cases au:k=C.params.length
   .subst au
    rw[yk,a2,yk]at t;simp only[zN]at t;subst t;simp[go_sem,e6,e8,e9,m1,a2,dgOf,a1];exact .hf _ (wg (0,0))
   have o:k<C.params.length:=zOm;have r:k<n.kids.length:=zOm;have w1:qj.wrap ((k:Int)+1)=(k:Int)+1:=qi zOm zOm;obtain⟨S,hi,hS⟩:=ih n.kids[k] (qy r);rw[zt o,zt r]at t;simp only[zN]at t;have b7:=vj hc (szN n.kids[k]) n.kids[k] s true;have av:=b6 n.kids[k] (qy r);have aw:=hw.kid (qy r);simp[go_sem,e8,e9,o];refine qg.seg [0,1,2,3,4,5,6,7,8,9,10,11,12,13,14] [(0,0,[]),(1,0,[]),(2,0,[]),(3,0,[]),(4,0,[]),(5,0,[]),(6,0,[]),(7,1,[]),(8,0,[]),(9,0,[]),(10,0,[]),(11,2,[0,3,6]),(12,2,[0,3,6]),(13,1,[]),(14,1,[])] zKr zKr zSi ?_;simp[go_sem,e1,e3,e5,e9,m0,r];refine qc.pure hi (wkE c true _ _) ?_;cases hx:exam c s true n.kids[k] with
   |error e =>
    rw[hx]at t;subst t;have he:=JM c (szN n.kids[k]) n.kids[k] s true e (qm _) hx;have b8:¬e.1=0:=zOm;simp[go_sem,e3,qs,ag,dgOf];rw[if_pos (zb _)];generalize hP:putCells _ 0 (aI S.1 :: hB S.2)=P;have ai:P=aI S.1 :: hB S.2:=by rw[<-hP];exact pc (aI 0) _ (fun _=>false) _
    subst ai;clear hP;simp[go_sem,e6,b8];simp[go_sem,ah,e6];exact .hf _ (wg e)
   |ok ko =>
    obtain⟨q,rfl,hq⟩:=b7 ko (qm _) aw hs hx av;have b9:=hS av q hx;subst b9;rw[hx]at t;simp only at t;have bb:=hc.ts.ns;have ax:(qq q).1=q.ar:=rfl;have ay:=fun h=>qmJ bb hq h C.params[k].2
    generalize qq q=Q at *
    simp[go_sem,e3,qs,ag,dgOf];rw[if_pos (zb _)];generalize hP:putCells _ 0 (aI Q.1 :: hB Q.2)=P;have ai:P=aI Q.1 :: hB Q.2:=by rw[<-hP];exact pc (aI 0) _ (fun _=>false) _
    subst ai;clear hP;by_cases a3:q.ar=1
    .rw [if_pos a3]at t
     have a5:Q.1=1:=ax.trans a3;simp[go_sem,qs,a5];have bg:C.params[k].2<4/\0<=C.params[k].2:=zW1 (b5.2 _ (qy o));refine qn.upK 4 (fun j g=>∃ b,2<=b/\g.tm 10 = .ptr b 0/\g.mu[b]?=some (.arr (aI 1 :: hB Q.2))/\g.tm 1=lVr (envS s)/\g.tm 3 = .ptr 0 0/\g.tm 5 = .ip (cNd n)/\g.tm 6 = .ptr 1 0/\g.tm 8=lPm C.params/\g.tm 9=aI k/\g.tm 12=aI j/\g.mu[0]?=some (.arr (cVw c true))/\g.mu[1]?=some (.arr [aI 0,aI 0]) /\
      ∀ i:Nat,i<j->Q.2 i=true->(i:Int)=C.params[k].2) ?_ ?_
     .exact ⟨U.mu.length,zOm,zSi,zSi,zS1 e1,zS1 e3,zS1 e5,zS1 e6,zS1 e8,zS1 e9,zSi,by simp only[qP];rw[I _ _ zOm];exact m0,by simp only[qP];rw[I _ _ zOm];exact m1,fun i hi=>zOm⟩
     .clear e1 e3 e5 e6 e8 e9 m0 m1 I a1 af ag ah a9
      rintro j st2 hj ⟨b,hb,a6,mb,e1,e3,e5,e6,e8,e9,aa,m0,m1,a7⟩;have a9:1<st2.mu.length:=(qk.1 m1).1;have a1:∀ c,(st2.mu.set 1 c)[1]?=some c:=fun c=>qJ a9
      by_cases aj:j<4
      .have ak:(j:Int)<4:=by omega
       have az:j<64:=zOm;have J:(j:Int)<64:=zOm;have wj:qj.wrap ((j:Int)+1)=(j:Int)+1:=qi zOm zOm;have a8:=d1 (aI 1) Q.2 j az;have al:1+j<=64:=zOm;by_cases hQ:Q.2 j=true
       .rw [hQ]at a8
        by_cases ab:(j:Int)=C.params[k].2
        .have bc:=eq_true ab
         simp[go_sem,a6,mb,e8,e9,aa,ak,J,a8,al,qs,o,bc,wj];refine⟨aj,Keep.mk' ⟨b,hb,zS1 a6,zS1 mb,zS1 e1,zS1 e3,zS1 e5,zS1 e6,zS1 e8,zS1 e9,zSi,zS1 m0,zS1 m1,fun i hi h=>?_⟩⟩;by_cases an:i=j
         .subst an;exact ab
         .exact a7 i zOm h
        .have b0:¬vU C.params[k].2 q=true:=fun h=>ab ((ay a3).1 h j aj hQ)
         rw[if_neg b0]at t;subst t;simp[go_sem,a6,mb,e5,e6,e8,e9,aa,ak,J,a8,al,qs,o,ab,m1,a1];exact .hf _ (wg (43,n.pos))
       .have hQ:Q.2 j=false:=by simpa using hQ
        rw[hQ]at a8;simp[go_sem,a6,mb,aa,ak,J,a8,al,qs,wj];refine⟨aj,Keep.mk' ⟨b,hb,zS1 a6,zS1 mb,zS1 e1,zS1 e3,zS1 e5,zS1 e6,zS1 e8,zS1 e9,zSi,zS1 m0,zS1 m1,fun i hi h=>?_⟩⟩;by_cases an:i=j
        .subst an;rw[hQ]at h;cases h
        .exact a7 i zOm h
      .have be:j=4:=by omega
       subst be;have ao:vU C.params[k].2 q=true:=(ay a3).2 fun i hi h=>a7 i hi h
       rw[if_pos ao]at t;simp[go_sem,e9,aa,w1];exact⟨o,Keep.mk' ⟨zS1 e1,zS1 e3,zS1 e5,zS1 e6,zS1 e8,zSi,zS1 m0,zS1 m1,t⟩⟩
    .rw [if_neg a3]at t
     subst t;have a5:¬Q.1=1:=fun e=>a3 (ax.symm.trans e)
     simp[go_sem,e5,qs,a5,ah,e6];exact .hf _ (wg (42,n.pos))
  .rw [if_neg a2]at hR
   subst hR;have b1:¬n.kids.length=C.params.length:=fun e=>a2 e.symm
   simp[go_sem,b1,dgOf];exact .hf _ (wg (45,n.pos))
end
end QO
namespace QR
open Y9 Y10 Y1 Y2 Y12 P1 P2 QE QF QJ QL QN PG QO
theorem JN{n:Nd}(i:WfN n)(h:n.op=15\/n.op=45\/n.op=46):∃ a f,n.kids=[a,f]/\kd a.op=101:=by
 have g:=i.shape;unfold shp at g;rw[if_neg zOm,if_neg zOm,if_neg zOm,if_pos zOm]at g;simp only[qp]at g
 match j:n.kids,g with
 | [a,f],g =>
  simp at g;exact⟨a,f,rfl,g.1.symm⟩
 | [],g=>simp at g
 | [_],g=>simp at g
 |_ :: _ :: _ :: _,g=>simp at g
theorem five{J:Type}{l:List J}{a b c d e:J}(g:l[0]?=some a)(i:l[1]?=some b)(j:l[2]?=some c)(o:l[3]?=some d)(p:l[4]?=some e):∃ r,l=a :: b :: c :: d :: e :: r:=by
 match l,g,i,j,o,p with
 |_ :: _ :: _ :: _ :: _ :: r,g,i,j,o,p =>
  simp at g i j o p;exact⟨r,by rw[g,i,j,o,p]⟩
def JO:Res->RS
 | .ok (some k)=>if k.ar=1 then qq k else zR
 |_=>zR
theorem qmM(s:RS)(d:Dg):FL (.tup [eRS s,eDg d]):=FL.tup fun x hx=>by
 rcases qt.1 hx with rfl|hx
 .exact FL.agg fun c g=>by
   rcases qt.1 g with rfl|g
   .exact FL.sc _
   .obtain ⟨j,_,rfl⟩:=qr.1 g
    exact FL.sc _
 .rw [qL]at hx;subst hx
  exact FL.agg fun c g=>by
   rcases qt.1 g with rfl|g
   .exact FL.sc _
   .rw [qL]at g;subst g;exact FL.sc _
theorem qmN(c:Ck)(hc:okCk c)(s:Scp)(hs:ScOk c.ts.sorts.length s)(ay:s.length<=90000)(n a g:Nd)(hw:WfN n)(hb:n.op=15\/n.op=45\/n.op=46)(t:n.kids=[a,g])(a6:kd a.op=101)(inn:Bool)
  (af:ExR c s (inn||decide (n.op=15)) a) (ag:∀ k,okKd c.ts.sorts.length k->k.ar=1->ExR c ((n.name,k) :: s) (inn||decide (n.op=15)) g) :
  qd qb 277 [eVw c inn,lVr (envS s),eNd n] (.tup [eRS (JO (exam c s (inn||decide (n.op=15)) a)),eDg (dgOf (z8 c s (inn||decide (n.op=15)) n.name n.pos n.kids))]):=by
 have wa:=hw.kid (k:=a) (by rw[t];simp);obtain⟨S,ca,hS⟩:=af;have ah:=vj hc (szN a) a s (inn||decide (n.op=15));have a7:=JM c (szN a) a s (inn||decide (n.op=15));rw[t];have w1:=wkE c (inn||decide (n.op=15)) (envS s) a;have ai:n.op=15->(inn||decide (n.op=15))=true:=fun h=>zP1 h
 have aj:¬n.op=15->(inn||decide (n.op=15))=inn:=fun h=>zP1 h
 generalize (inn||decide (n.op=15))=B at *
 generalize hE:dgOf (z8 c s B n.name n.pos [a,g])=E;generalize hX:exam c s B a=X at *
 have a8:∀ k,okKd c.ts.sorts.length k->k.ar=1->X = .ok (some k)->∃ S2,qd qb 233 [eVw c B,lVr (envS ((n.name,k) :: s)),eNd g] (.tup [eRS S2,eDg E]):=fun k hk r ak=>by
  obtain⟨S2,cg,_⟩:=ag k hk r;refine⟨S2,?_⟩;have J:E=dgOf (exam c ((n.name,k) :: s) B g):=by
   rw[<-hE];simp only[z8,qQ];rw[hX,ak];simp only;rw[if_pos r];cases exam c ((n.name,k) :: s) B g<;>rfl
  rw[J];exact cg
 refine qd.of_sound (qe.of_awp call277 func277 rfl (qh zKr) zKr (pl:={ mt:=[3] }) ?_);by_cases a2:n.op=15
 case' pos =>
  have a3:=ai a2;subst a3
 case' neg =>
  have a3:=aj a2;subst a3
 all_goals
  simp[go_sem,a2];refine qg.seg [0,1,2,3,4,5,6,7,8,9,10,11,12,13] [(0,0,[]),(1,0,[]),(2,0,[]),(3,0,[]),(4,0,[]),(5,0,[]),(6,1,[]),(7,0,[]),(8,0,[]),(9,0,[]),(10,2,[0,3,5]),(11,2,[0,3,5]),(12,1,[]),(13,1,[])] zKr zKr zSi ?_;simp[go_sem,t];refine qc.pure ca w1 ?_;simp[go_sem,qs,t];rw[if_pos (zb _)];generalize hP:putCells _ 0 (aI S.1 :: hB S.2)=P;have R:P=aI S.1 :: hB S.2:=by rw[<-hP];exact pc (aI 0) _ (fun _=>false) _
  subst R;clear hP;simp[go_sem]
 all_goals
  cases X with
  |error e =>
   have he:=a7 e (qm _) rfl;have al:¬e.1=0:=zOm;have J:E=e:=by rw[<-hE];simp only[z8];rw[hX];rfl
   subst J;clear hE;simp[go_sem,dgOf,al];refine qg.seg [0,1,2,3] [(0,0,[]),(1,0,[]),(2,1,[1]),(3,1,[])] zKr zKr zSi ?_;simp[go_sem];exact .hf _ (j5 zR E)
  |ok ko =>
   obtain⟨q,rfl,hq⟩:=ah ko (qm _) wa hs rfl a6;have an:=hS a6 q rfl;subst an;have a9:(qq q).1=q.ar:=rfl;by_cases r:q.ar=1
   .have U:(qq q).1=1:=a9.trans r
    obtain⟨S2,cg⟩:=a8 q hq r rfl;have a4:JO (.ok (some q))=qq q:=if_pos r;rw[a4];have aa:envS ((n.name,q) :: s)=envS s++[(n.name,qq q)]:=by simp[envS]
    rw[aa]at cg;generalize qq q=Q at *
    obtain⟨qa,qf⟩:=Q;have a5:qa=1:=U;subst a5;simp[go_sem,dgOf];refine qg.seg [0,1,2,4,5,6,7,8,10,11,12,13,3,9,14,15,16,17,18,19,20,21] [(0,0,[]),(1,0,[]),(2,0,[]),(4,0,[]),(5,0,[]),(6,0,[]),(7,0,[]),(8,0,[]),(10,0,[]),(11,0,[]),(12,0,[]),(13,0,[]),(3,1,[0,5,6,11,13]),(9,1,[0,11,13]),(14,1,[]),(15,0,[]),(16,0,[]),(17,0,[]),(18,2,[0,5,6,11,13]),(19,2,[0,5,6,11,13]),(20,1,[]),(21,1,[])] zKr zKr zSi ?_;simp[go_sem,qs,tk];rw[if_pos (zb _)];generalize hC:putCells _ 1 _=C;have ao:C=cVr (n.name,(1,qf)):=by rw[<-hC];exact pcV n.name (1,qf)
    subst ao;clear hC;have aq:(cVr (n.name,((1:Int),qf))).length=66:=by simp[qs]
    have au:=Ku (n.name,((1:Int),qf));generalize hV:cVr (n.name,((1:Int),qf))=V at *
    simp[go_sem,aq];rw[if_pos au];simp[go_sem,t];refine Kw (lo:=5) (xs:=[]) (ys:=envS s) (OwnF.nil zSp) (by simp[qO]) (by simp[Uy];omega) fun az m1 av a0=>?_
    have k0:=a0 0 zOm;have k1:=a0 1 zOm;have k2:=a0 2 zOm;have k3:=a0 3 zOm;have k4:=a0 4 zOm;simp at k0 k1 k2 k3 k4;simp[go_sem,qs,tk,t,k0,k3];refine Kw (xs:=[]++envS s) (ys:=[(n.name,(1,qf))]) av (by simp[qO,hV]) (by simp[Uy];omega) fun b0 m2 a1 I=>?_
    rw[jq]at a1;have aw:=a1.2.2;replace k0:=(I 0 zOm).trans k0;replace k1:=(I 1 zOm).trans k1;replace k2:=(I 2 zOm).trans k2;replace k3:=(I 3 zOm).trans k3;replace k4:=(I 4 zOm).trans k4;have o:∀(l:List Cell) (i:Nat),i<m2.length->(m2++l)[i]?=m2[i]?:=fun l i hi=>qo hi
    have g0:=(qk.1 k0).2;have g1:=(qk.1 k1).2;have g2:=(qk.1 k2).2;have g3:=(qk.1 k3).2;simp[go_sem,t,k0];refine qc.lend (args':=[eVw c _,lVr (envS s++[(n.name,(1,qf))]),eNd g]) cg ⟨.hf _ (qaV c _),rdVr a1,.hf _ (qz g),trivial⟩ (qmM S2 _) ?_;have p0:=fun l=>(o l 0 zOm).trans k0
    have p1:=fun l=>(o l 1 zOm).trans k1
    have p2:=fun l=>(o l 2 zOm).trans k2
    have p3:=fun l=>(o l 3 zOm).trans k3
    have p4:=fun l=>(o l 4 zOm).trans k4
    have ab:0<m2.length:=zOm;have ad:3<m2.length:=zOm;simp[go_sem,qs,tk,t,g0,g3,ab,ad,p3];rw[if_pos (zb _)];generalize hP:putCells _ 0 (cRS S2)=P;have R:P=cRS S2:=by rw[<-hP];exact pc (aI 0) _ (fun _=>false) _
    subst R;clear hP;simp[go_sem];obtain⟨rr,ae⟩:=five k0 k1 k2 k3 k4;have b1:m2.length=rr.length+5:=by rw[ae];rfl
    clear g0 g1 g2 g3 p0 p1 p2 p3 p4 o a1 I k0 k1 k2 k3 k4 aw ab ad;refine qg.seg [0,1,2,3] [(0,0,[]),(1,0,[]),(2,1,[1]),(3,1,[])] zKr zKr zSi ?_;simp[go_sem,qs,tk,ae];rw[if_pos (zb _)];generalize hP:putCells _ 0 (aI 1 :: hB qf)=P;have R:P=aI 1 :: hB qf:=by rw[<-hP];exact pc (aI 0) (aI 1) (fun _=>false) qf
    subst R;clear hP;simp[go_sem,qs,tk];exact .hf _ (j5 (1,qf) E)
   .have U:¬(qq q).1=1:=fun e=>r (a9.symm.trans e)
    have a4:JO (.ok (some q))=zR:=if_neg r;rw[a4];have J:E=(42,n.pos):=by
     rw[<-hE];simp only[z8];rw[hX];simp only;rw[if_neg r];rfl
    subst J;clear hE;generalize qq q=Q at *
    simp[go_sem,dgOf,U];refine qg.seg [0,1,2,3,4,5] [(0,0,[]),(1,0,[]),(2,0,[]),(3,0,[]),(4,1,[2]),(5,1,[])] zKr zKr zSi ?_;simp[go_sem];exact .hf _ (j5 zR (42,n.pos))
theorem qmO(ts:TS)(ok:okTS ts)(n:Nd)(l:List (Option Kd))(r:n.op≠1)(o:n.op≠15)
  (t:n.op=5\/n.op=11\/n.op=12\/n.op=13->∃ a,l=[some a]/\okKd ts.sorts.length a)
  (C:n.op=6\/n.op=14\/n.op=7\/n.op=8\/n.op=32\/n.op=33\/n.op=9\/n.op=10->∃ a b,l=[some a,some b]/\okKd ts.sorts.length a/\okKd ts.sorts.length b) :
  ∃ S b,(∀ L:List RS,((n.op=5\/n.op=11\/n.op=12\/n.op=13)\/(n.op=6\/n.op=14\/n.op=7\/n.op=8\/n.op=32\/n.op=33\/n.op=9\/n.op=10)->L=l.map setO)->prC ts n L S b)/\ApE n.op (z7 ts.sorts.length n.op n.n n.pos l) S b:=by
 by_cases I:(n.op=5\/n.op=11\/n.op=12\/n.op=13)\/(n.op=6\/n.op=14\/n.op=7\/n.op=8\/n.op=32\/n.op=33\/n.op=9\/n.op=10)
 .obtain ⟨S,b,c,a⟩:=qmI ts ok n l (l.map setO) r o (fun h=>by obtain⟨a,rfl,p⟩:=t h;exact⟨a,rfl,rfl,p⟩) (fun h=>by obtain⟨a,b,rfl,p,J⟩:=C h;exact⟨a,b,rfl,rfl,p,J⟩)
  exact⟨S,b,fun L P=>by rw[P I];exact c,a⟩
 by_cases g:n.op=2
 .refine ⟨qq ⟨n.n,[]⟩,true,fun L _=>qaU (qaM n.n) (ap2 ts n L g),?_⟩
  unfold z7;rw[if_pos g];exact⟨rfl,fun _=>⟨_,rfl,rfl⟩⟩
 by_cases i:n.op=3
 .refine ⟨_,true,fun L _=>ap3 ts ok n L i,?_⟩
  unfold z7;rw[if_neg g,if_pos i];exact⟨rfl,fun _=>⟨_,rfl,rfl⟩⟩
 by_cases j:n.op=4
 .refine ⟨_,true,fun L _=>ap4 ts ok n L j,?_⟩
  unfold z7;rw[if_neg g,if_neg i,if_pos j];exact⟨rfl,fun _=>⟨_,rfl,rfl⟩⟩
 refine⟨zR,true,fun L _=>apO ts n L g i j zOm zOm zOm zOm zOm zOm zOm zOm zOm zOm zOm zOm,?_⟩;rw[V6 g i j zOm zOm zOm zOm zOm zOm zOm zOm zOm zOm zOm zOm];refine⟨rfl,fun R=>?_⟩;have:=V9 R;omega
def resS:Res->RS
 | .ok (some k)=>qq k
 |_=>zR
theorem qmP(R:Res):endR zR R = .tup [eRS (resS R),eDg (dgOf R)]:=by
 cases R with
 |error e=>rfl
 |ok k=>cases k<;>rfl
end QR
namespace QS
open YZ YF Y9 Y10 Y1 Y2 Y13 P1 P2 QE QF QI QJ QL QN PG QO QR
theorem UC(c:Ck)(op:Int)(nm:ByteArray):zL c op nm=(yh op||(decide (op=47)&&tpB c nm)):=rfl
theorem qmQ{ns:Nat}{op n pos:Int}{l:List (Option Kd)}{e:Dg}(h:z7 ns op n pos l = .error e):e=(42,pos):=by
 unfold z7 at h
 repeat' split at h
 all_goals first
  | (cases h;done)
  | (cases h;rfl)
theorem wkTP(c:Ck)(nm:ByteArray):WKs [eTS c.ts,lBo c.timed,aI c.calls,aS nm] [eTS c.ts,lBo c.timed,aI c.calls,aS nm] := .zk (zA _) (.zk (JI _) (.zs (.zs .nil)))
theorem wk1I(k:Int):WKs [aI k] [aI k] := .zs .nil
theorem fl_sb(s:RS)(b:Bool):FL (.tup [eRS s,aB b]):=FL.tup fun x hx=>by
 rcases qt.1 hx with rfl|hx
 .exact FL.agg fun c g=>by
   rcases qt.1 g with rfl|g
   .exact FL.sc _
   .obtain ⟨j,_,rfl⟩:=qr.1 g
    exact FL.sc _
 .rw [qL]at hx;subst hx;exact FL.sc _
theorem qmR(c:Ck)(j:okCk c)(s:Scp)(n:Nd)(i:zL c n.op n.name=true):ExR c s true n:=by
 refine⟨zR,?_,fun _ q h=>?_⟩
 case refine_2=>rw[yD,if_pos (zP1 i)]at h;cases h
 have hx:exam c s true n = .error (46,n.pos):=by rw[yD,if_pos (zP1 i)]
 rw[hx];rw[UC]at i;refine qd.of_sound (qe.of_awp call233 func233 rfl (qh zKr) zKr (pl:={ mt:=[3] }) ?_);have l:=Yp n.op;have o:=Yq c j n.name;simp[go_sem];refine qc.pure l (wk1I _) ?_;cases p:yh n.op with
 |true =>
  simp[go_sem];refine qg.seg [0,1,2,3,4,5] [(0,0,[]),(1,0,[]),(2,0,[]),(3,0,[]),(4,1,[2]),(5,1,[])] zKr zKr zSi ?_;simp[go_sem,dgOf];exact .hf _ (j5 zR (46,n.pos))
 |false =>
  rw[p,Bool.false_or,qB]at i;obtain⟨h47,hB⟩:=i;have h47:n.op=47:=by simpa using h47
  simp[go_sem,h47];refine qc.pure o (wkTP c n.name) ?_;rw[hB];simp[go_sem];refine qg.seg [0,1,2,3,4,5] [(0,0,[]),(1,0,[]),(2,0,[]),(3,0,[]),(4,1,[2]),(5,1,[])] zKr zKr zSi ?_;simp[go_sem,dgOf];exact .hf _ (j5 zR (46,n.pos))
theorem qmS(c:Ck)(l:okCk c)(s:Scp)(g:s.length<=100000)(inn:Bool)(n:Nd)(i:n.op=1):ExR c s inn n:=by
 have hx:exam c s inn n=jg c s n.name n.pos:=by
  rw[yD,UC,i,show yh 1=false from rfl];simp
 refine⟨resS (jg c s n.name n.pos),?_,fun _ q h=>by rw[hx]at h;rw[h];rfl⟩;rw[hx];have o:=Xn c l inn s n g;rw[qmP]at o;generalize resS (jg c s n.name n.pos)=S at *
 generalize dgOf (jg c s n.name n.pos)=D at *
 refine qd.of_sound (qe.of_awp call233 func233 rfl (qh zKr) zKr (pl:={ mt:=[3] }) ?_);have p:=Yp n.op;have I:=Yq c l n.name;have t:yh n.op=false:=by rw[i];rfl
 rw[t]at p;have C:=wkE c inn (envS s) n;cases inn
 case' true =>
  simp[go_sem];refine qc.pure p (wk1I _) ?_
 all_goals
  simp[go_sem,i];refine qc.pure o C ?_;simp[go_sem,qs];rw[if_pos (zb _)];generalize r:putCells _ 0 (aI S.1 :: hB S.2)=P;have j:P=aI S.1 :: hB S.2:=by rw[<-r];exact pc (aI 0) _ (fun _=>false) _
  subst j;clear r;simp[go_sem,qs,QE.tk];exact .hf _ (j5 S D)
theorem qmT(c:Ck)(i:okCk c)(s:Scp)(r:ScOk c.ts.sorts.length s)(inn:Bool)(n:Nd)(t:WfN n)(h47:n.op=47)(g:(inn&&zL c n.op n.name)=false)(C:∀ k,k∈n.kids->ExR c s true k):ExR c s inn n:=by
 have hx:exam c s inn n=uB c s n:=by
  rw[yD,g,if_neg zSp,if_neg zOm,if_pos h47];rfl
 have I:=qmL c i s r n t h47 C inn;refine⟨zR,?_,fun j=>by rw[h47]at j;exact absurd j zDe⟩;rw[hx];generalize dgOf (uB c s n)=D at *
 refine qd.of_sound (qe.of_awp call233 func233 rfl (qh zKr) zKr (pl:={ mt:=[3] }) ?_);have l:=Yp n.op;have o:=Yq c i n.name;have p:yh n.op=false:=by rw[h47];rfl
 rw[p]at l;have J:=wkE c inn (envS s) n;cases inn
 case' true =>
  rw[Bool.true_and,UC,p,h47]at g;have hB:tpB c n.name=false:=zUs g;rw[hB]at o;simp[go_sem];refine qc.pure l (wk1I _) ?_;simp[go_sem,h47];refine qc.pure o (wkTP c n.name) ?_
 all_goals
  simp[go_sem,h47];refine qc.pure I J ?_;simp[go_sem];exact .hf _ (j5 zR D)
theorem qmU(c:Ck)(U:okCk c)(s:Scp)(p:ScOk c.ts.sorts.length s)(r:s.length<=90000)(inn:Bool)(n:Nd)(hw:WfN n)(o:n.op=15\/n.op=45\/n.op=46)(ht:(inn&&zL c n.op n.name)=false)(ih:∀ k,k∈n.kids->∀ s',ScOk c.ts.sorts.length s'->s'.length<=s.length+1->∀ inn,ExR c s' inn k):ExR c s inn n:=by
 have hx:exam c s inn n=z8 c s (inn||decide (n.op=15)) n.name n.pos n.kids:=by
  rw[yD,ht,if_neg zSp,if_neg zOm,if_neg zOm,if_pos o]
 obtain⟨a,g,i,t⟩:=JN hw o;have cb:=qmN c U s p r n a g hw o i t inn (ih a (by rw[i];simp) s p zOm _) (fun k C j=>ih g (by rw[i];simp) _ (fun v I=>by
  rcases qt.1 I with rfl|I
  .exact ⟨C,j⟩
  .exact p v I) zSp _)
 refine⟨JO (exam c s (inn||decide (n.op=15)) a),?_,fun _ q h=>?_⟩
 case refine_2 =>
  rw[hx,i]at h;simp only[z8]at h;split at h
  .cases h
  .cases h
  .rename_i k C
   split at h
   .rename_i j
    split at h
    .cases h
    .cases h
     rw[C];exact if_pos j
   .cases h
 rw[hx];generalize JO (exam c s (inn||decide (n.op=15)) a)=S at *
 generalize dgOf (z8 c s (inn||decide (n.op=15)) n.name n.pos n.kids)=D at *
 refine qd.of_sound (qe.of_awp call233 func233 rfl (qh zKr) zKr (pl:={ mt:=[3] }) ?_);have J:=Yp n.op;have cp:=Yq c U n.name;have h47:¬n.op=47:=zOm;have hT:yh n.op=false:=by unfold yh;rcases o with h|h|h<;>rw[h]<;>decide
 rw[hT]at J;have wn:=wkE c inn (envS s) n;rcases o with h|h|h
 all_goals
  rw[h]at J;cases inn
 all_goals
  simp[go_sem,h]
  try (refine qc.pure J (wk1I _) ?_)
  try simp[go_sem,h]
  refine qc.pure cb wn ?_;simp[go_sem,qs];rw[if_pos (zb _)];generalize hP:putCells _ 0 (aI S.1 :: hB S.2)=P;have R:P=aI S.1 :: hB S.2:=by rw[<-hP];exact pc (aI 0) _ (fun _=>false) _
  subst R;clear hP;simp[go_sem,qs,QE.tk];exact .hf _ (j5 S D)
def seqL(X:Nd->Res):List Nd->Except Dg (List (Option Kd))
 | [] => .ok []
 |k :: ks=>match X k with
  | .error e => .error e
  | .ok a=>match seqL X ks with
   | .error e => .error e
   | .ok l => .ok (a :: l)
theorem qaX(c:Ck)(s:Scp)(B:Bool):∀ ks:List Nd,qQ c s B ks=seqL (exam c s B) ks
 | []=>by simp only[qQ,seqL]
 |k :: ks=>by simp only[qQ,seqL];rw[qaX c s B ks];cases exam c s B k with
  |error e=>rfl
  |ok a=>cases seqL (exam c s B) ks<;>rfl
theorem KC{J:Type}{l:List J}{a b c:J}(g:l[0]?=some a)(i:l[1]?=some b)(j:l[2]?=some c):∃ r,l=a :: b :: c :: r:=by
 match l,g,i,j with
 |_ :: _ :: _ :: r,g,i,j =>
  simp at g i j;exact⟨r,by rw[g,i,j]⟩
theorem qmV{n:Nd}(j:WfN n)(h:(n.op=5\/n.op=11\/n.op=12\/n.op=13)\/(n.op=6\/n.op=14\/n.op=7\/n.op=8\/n.op=32\/n.op=33\/n.op=9\/n.op=10)):∀ x,x∈n.kids->kd x.op=101:=by
 have g:=j.shape;intro x hx;have i:kd x.op∈n.kids.map fun k=>kd k.op:=qr.2 ⟨x,hx,rfl⟩
 rcases h with h|h
 .unfold shp at g
  rw[if_neg zOm,if_pos zOm]at g;simp only[qp]at g;rw[<-g]at i;simpa using i
 .unfold shp at g
  rw[if_neg zOm,if_neg zOm,if_pos zOm]at g;simp only[qp]at g;rw[<-g]at i;simpa using i
set_option maxHeartbeats 2000000 in
theorem ex_t(c:Ck)(hc:okCk c)(s:Scp)(n:Nd)(inn B:Bool)(X:Nd->Res)(S:RS)(D:Dg)(h1:¬n.op=1)(h47:¬n.op=47)(hb:¬(n.op=15\/n.op=45\/n.op=46))(hw:WfN n)(ax:n.kids.length<=401)(hT:inn=true->yh n.op=false)(a7:n.op=12->B=true)(a8:n.op=13->B=true)(ah:¬n.op=12->¬n.op=13->B=inn)
  (ai:∀ k,k∈n.kids->∃ S,qd qb 233 [eVw c B,lVr (envS s),eNd k] (.tup [eRS S,eDg (dgOf (X k))])/\(kd k.op=101->∀ q,X k = .ok (some q)->S=qq q))
  (a9:∀ k a,k∈n.kids->X k = .ok a->kd k.op=101->∃ q,a=some q/\okKd c.ts.sorts.length q)
  (a3:∀ k e,X k = .error e->40<=e.1)
  (aj:∀ e,seqL X n.kids = .error e->S=zR/\D=e)
  (ak:∀ l,seqL X n.kids = .ok l->∃ S' b,(∀ L:List RS,((n.op=5\/n.op=11\/n.op=12\/n.op=13)\/(n.op=6\/n.op=14\/n.op=7\/n.op=8\/n.op=32\/n.op=33\/n.op=9\/n.op=10)->L=l.map setO)->prC c.ts n L S' b)/\(b=true->S=S'/\D=(0,0))/\(b=false->S=zR/\D=(42,n.pos))) :
  qd qb 233 [eVw c inn,lVr (envS s),eNd n] (.tup [eRS S,eDg D]):=by
 simp only[not_or]at hb;obtain⟨b1,b2,b3⟩:=hb;refine qd.of_sound (qe.of_awp call233 func233 rfl (qh zKr) zKr (pl:={ mt:=[3] }) ?_);have ct:=Yp n.op;have cp:=Yq c hc n.name;cases inn
 all_goals first
  | (rw[hT rfl]at ct;simp[go_sem];refine qc.pure ct (wk1I _) ?_)
  |skip
 all_goals simp[go_sem,h1,h47,b1,b2,b3]
 all_goals rcases (show n.op=12\/(¬n.op=12/\n.op=13)\/(¬n.op=12/\¬n.op=13) by omega) with C|⟨C,a1⟩|⟨C,a1⟩
 all_goals first|simp[go_sem,C,a1] | simp[go_sem,C]
 all_goals first|have a4:=a7 C|have a4:=a8 a1|have a4:=ah C a1
 all_goals
  refine qn.upK n.kids.length (fun k U=>∃(o:List (Option Kd)) (L:List RS),o.length=k/\L.length=k/\U.tm 1=lVr (envS s)/\U.tm 3 = .ptr 0 0/\U.tm 5 = .ip (cNd n)/\U.tm 6 = .ptr 1 0/\U.tm 7 = .ptr 2 0/\U.tm 9=aI k/\U.mu[0]?=some (.arr (cVw c B))/\U.mu[1]?=some (.arr (aI 0 :: hB fun _=>false))/\U.mu[2]?=some (.arr [aI 0,aI 0])/\OwnF 3 U.mu 65 (U.tm 8) (L.map cRS)/\(∀(i:Nat) x,n.kids[i]?=some x->i<k->kd x.op=101->∃ q,o[i]?=some (some q)/\L[i]?=some (qq q))/\seqL X n.kids=(match seqL X (n.kids.drop k) with | .error e => .error e | .ok l => .ok (o++l))) ?_ ?_
  .refine ⟨[],[],rfl,rfl,zSi,zSi,zSi,zSi,zSi,zSi,by rw[a4];simp[go_sem],by simp[go_sem];rfl,zSi,by simp[go_sem];exact OwnF.nil zSp,fun i x _ h=>absurd h zOm,?_⟩
   simp only[List.drop_zero,jq];cases seqL X n.kids<;>rfl
  rintro k U hk ⟨o,L,aa,ab,e1,e3,e5,e6,e7,e9,m0,m1,m2,ho,a2,I⟩;generalize h8:U.tm 8=t at *
  by_cases r:k<n.kids.length
  .have w1:qj.wrap ((k:Int)+1)=(k:Int)+1:=qi zOm zOm
   obtain⟨Sk,ck,al⟩:=ai n.kids[k] (qy r);rw[zt r]at I;simp only[seqL]at I;simp[go_sem,e5,e9,r];refine qg.seg [0,1,2,3,4,5,6,7,8,9,10,11,12,13,14] [(0,0,[]),(1,0,[]),(2,0,[]),(3,0,[]),(4,0,[]),(5,0,[]),(6,0,[]),(7,1,[]),(8,0,[]),(9,0,[]),(10,0,[]),(11,2,[0,3,6]),(12,2,[0,3,6]),(13,1,[]),(14,1,[])] zKr zKr zSi ?_;have ad:2<U.mu.length:=(qk.1 m2).1;have g:∀(l:List Cell) (i:Nat),i<U.mu.length->(U.mu++l)[i]?=U.mu[i]?:=fun l i J=>qo J
   have p0:=fun l=>(g l 0 zOm).trans m0
   have p1:=fun l=>(g l 1 zOm).trans m1
   have p2:=fun l=>(g l 2 zOm).trans m2
   have g0:=(qk.1 m0).2;have g1:=(qk.1 m1).2;have g2:=(qk.1 m2).2;have a5:0<U.mu.length:=zOm;have an:1<U.mu.length:=zOm;simp[go_sem,e1,e3,e5,e9,r,m0];refine qc.pure ck (wkE c _ _ _) ?_;cases hx:X n.kids[k] with
   |error e =>
    have he:=a3 _ _ hx;have ao:¬e.1=0:=zOm;rw[hx]at I;have I:seqL X n.kids = .error e:=I;obtain⟨aq,ar⟩:=aj e I;rw[aq,ar];simp[go_sem,e3,g0,a5,qs,dgOf];rw[if_pos (zb _)];generalize hP:putCells _ 0 (cRS Sk)=P;have R:P=cRS Sk:=by rw[<-hP];exact pc (aI 0) _ (fun _=>false) _
    subst R;clear hP;simp[go_sem,ao];refine qg.seg [0,1,2,3] [(0,0,[]),(1,0,[]),(2,1,[1]),(3,1,[])] zKr zKr zSi ?_;simp[go_sem,e6,e7,a5,qs,g1,g2,an,ad];exact .hf _ (j5 zR e)
   |ok a =>
    rw[hx]at I;simp only at I;simp[go_sem,e3,g0,a5,qs,dgOf];rw[if_pos (zb _)];generalize hP:putCells _ 0 (cRS Sk)=P;have R:P=cRS Sk:=by rw[<-hP];exact pc (aI 0) _ (fun _=>false) _
    subst R;clear hP;simp[go_sem,h8,qs,QE.tk];rw[if_pos (zb _)];simp[go_sem];refine appRS (lo:=3) (xs:=L) (ys:=[Sk]) ⟨by simpa using Jp (Jp ho.1 _) _,ho.2.1,by have:=ho.2.2;simp;omega⟩ (by simp[qO]) zSo fun ay m' au a6=>?_
    simp[go_sem,e9,r,w1];refine Keep.mk' ⟨o++[a],L++[Sk],zP1 aa,zP1 ab,zS1 e1,zS1 e3,zS1 e5,zS1 e6,zS1 e7,zSi,?_,?_,?_,zVs au,fun i x J az a0=>?_,?_⟩
    .simp only[qP];exact(a6 0 zOm).trans (p0 _)
    .simp only[qP];exact(a6 1 zOm).trans (p1 _)
    .simp only[qP];exact(a6 2 zOm).trans (p2 _)
    .by_cases ae:i=k
     .subst ae
      rw[qA r]at J;cases J;obtain⟨q,rfl,_⟩:=a9 _ a (qy r) hx a0;refine⟨q,?_,?_⟩
      .rw [zf zOm,aa];simp
      .rw [zf zOm,ab];simp[al a0 q hx]
     .obtain ⟨q,q1,q2⟩:=a2 i x J zOm a0
      exact⟨q,by rw[qo zOm];exact q1,by rw[qo zOm];exact q2⟩
    .rw [I]
     cases seqL X (n.kids.drop (k+1)) with
     |error e=>rfl
     |ok l=>simp
  .have af:k=n.kids.length:=by omega
   subst af;rw[yk]at I;have I:seqL X n.kids = .ok o:=by rw[I];simp only[seqL,zV]
   obtain⟨S',b,q1,q2,q3⟩:=ak o I;have hL:((n.op=5\/n.op=11\/n.op=12\/n.op=13)\/(n.op=6\/n.op=14\/n.op=7\/n.op=8\/n.op=32\/n.op=33\/n.op=9\/n.op=10))->L=o.map setO:=fun h=>by
    have a0:∀ x,x∈n.kids->kd x.op=101:=fun x hx=>qmV hw h x hx
    refine List.ext_getElem? fun i=>?_
    by_cases J:i<n.kids.length
    .obtain ⟨q,e1,e2⟩:=a2 i n.kids[i] (zP1 J) J (a0 _ (qy J))
     rw[e2,List.getElem?_map,e1];rfl
    .rw [jj zOm,jj zSo]
   have hp:=q1 L hL;unfold prC at hp;have ad:2<U.mu.length:=(qk.1 m2).1;have g:∀(l:List Cell) (i:Nat),i<U.mu.length->(U.mu++l)[i]?=U.mu[i]?:=fun l i J=>qo J
   obtain⟨rr,ag⟩:=KC m0 m1 m2;simp[go_sem,e3,e5,e9,h8,m0];refine qc.lend (args':=[eTS c.ts,eNd n,lRS L]) hp ⟨.hf _ (zA _),.hf _ (qz n),rdRS ho,trivial⟩ (fl_sb S' b) ?_;have b0:U.mu.length=rr.length+3:=by rw[ag];rfl
   clear m0 m1 m2 g ho;simp[go_sem,ag,qs];rw[if_pos (zb _)];generalize hP:putCells _ 0 (cRS S')=P;have R:P=cRS S':=by rw[<-hP];exact pc (aI 0) _ (fun _=>false) _
   subst R;clear hP;cases b with
   |true =>
    obtain⟨rfl,rfl⟩:=q2 rfl;simp[go_sem,e6,qs,QE.tk,pc];rw[if_pos (zb _)];simp[go_sem,e6,e7,qs,QE.tk];exact .hf _ (j5 S (0,0))
   |false =>
    obtain⟨rfl,rfl⟩:=q3 rfl;simp[go_sem];refine qg.seg [0,1,2,3,4,5] [(0,0,[]),(1,0,[]),(2,0,[]),(3,0,[]),(4,1,[2]),(5,1,[])] zKr zKr zSi ?_;simp[go_sem,e5,e6,e7,qs];exact .hf _ (j5 zR (42,n.pos))
theorem qmW(c:Ck)(t:okCk c)(s:Scp)(hs:ScOk c.ts.sorts.length s)(inn:Bool)(n:Nd)(C:WfN n)(h1:¬n.op=1)(h47:¬n.op=47)(hb:¬(n.op=15\/n.op=45\/n.op=46))(ht:(inn&&zL c n.op n.name)=false)(ih:∀ k,k∈n.kids->∀ inn,ExR c s inn k):ExR c s inn n:=by
 have hx:exam c s inn n=match qQ c s (inn||decide (n.op=12)||decide (n.op=13)) n.kids with | .error e => .error e | .ok l=>z7 c.ts.sorts.length n.op n.n n.pos l:=by
  rw[yD,ht,if_neg zSp,if_neg h1,if_neg h47,if_neg hb];generalize qQ c s _ n.kids=Z;cases Z<;>rfl
 have I:n.op=12\/n.op=13->(inn||decide (n.op=12)||decide (n.op=13))=true:=fun h=>by rcases h with h|h<;>simp[h]
 have a1:¬n.op=12->¬n.op=13->(inn||decide (n.op=12)||decide (n.op=13))=inn:=fun h h'=>by simp[h,h']
 generalize (inn||decide (n.op=12)||decide (n.op=13))=B at *
 obtain⟨S,D,J,hq,P,R⟩:∃ S D,dgOf (exam c s inn n)=D/\(kd n.op=101->∀ q,exam c s inn n = .ok (some q)->S=qq q)/\(∀ e,qQ c s B n.kids = .error e->S=zR/\D=e) /\
   (∀ l,qQ c s B n.kids = .ok l->∃ r b,(∀ L:List RS,((n.op=5\/n.op=11\/n.op=12\/n.op=13)\/(n.op=6\/n.op=14\/n.op=7\/n.op=8\/n.op=32\/n.op=33\/n.op=9\/n.op=10)->L=l.map setO)->prC c.ts n L r b)/\(b=true->S=r/\D=(0,0))/\(b=false->S=zR/\D=(42,n.pos))):=by
  rw[hx];cases hE:qQ c s B n.kids with
  |error e=>exact⟨zR,e,rfl,(fun _ q h=>by cases h),(fun e' h=>by cases h;exact⟨rfl,rfl⟩),(fun l h=>by cases h)⟩
  |ok l =>
   obtain⟨a2,a3⟩:=Jt hE;have g:=(Xq t.ts.ns C a2 (fun i k' a hi ha o=>vj t (szN k') k' s B a (qm _) (C.kid (qV hi)) hs (a3 i k' a hi ha) o)).2;obtain⟨r,b,p1,j⟩:=qmO c.ts t.ts n l h1 (fun h=>hb (.inl h)) (fun h=>by
    rcases h with h|h|h|h
    .exact g.1 h
    .exact g.2.1 (.inl h)
    .exact g.2.1 (.inr (.inl h))
    .exact g.2.1 (.inr (.inr h))) g.2.2
   simp only;cases hA:z7 c.ts.sorts.length n.op n.n n.pos l with
   |error e =>
    rw[hA]at j;have j:b=false:=j;refine⟨zR,e,rfl,(fun _ q h=>by cases h),(fun e' h=>by cases h),(fun l' h=>by cases h;exact⟨r,b,p1,(fun h=>by rw[j]at h;cases h),(fun _=>⟨rfl,qmQ hA⟩)⟩)⟩
   |ok ko =>
    rw[hA]at j;obtain⟨j,p3⟩:=j;refine⟨r,(0,0),rfl,(fun T q h=>?_),(fun e' h=>by cases h),(fun l' h=>by cases h;exact⟨r,b,p1,(fun _=>⟨rfl,rfl⟩),(fun h=>by rw[j]at h;cases h)⟩)⟩;obtain⟨q',e1,e2⟩:=p3 T;cases h;cases e1;exact e2
 refine⟨S,?_,hq⟩;rw[J];clear J hx hq;obtain⟨X,U⟩:∃ X:Nd->Res,X=exam c s B:=⟨_,rfl⟩;have a4:∀ k,k∈n.kids->∃ S,qd qb 233 [eVw c B,lVr (envS s),eNd k] (.tup [eRS S,eDg (dgOf (X k))])/\(kd k.op=101->∀ q,X k = .ok (some q)->S=qq q):=fun k T=>by rw[U];exact ih k T B
 have a0:∀ k a,k∈n.kids->X k = .ok a->kd k.op=101->∃ q,a=some q/\okKd c.ts.sorts.length q:=fun k a T h o=>by rw[U]at h;exact vj t (szN k) k s B a (qm _) (C.kid T) hs h o
 have p:∀ k e,X k = .error e->40<=e.1:=fun k e h=>by rw[U]at h;exact JM c (szN k) k s B e (qm _) h
 rw[qaX,<-U]at P R;clear U ih;have a5:=C.len;exact ex_t c t s n inn B X S D h1 h47 hb C a5 (fun hi=>by
  rw[hi,Bool.true_and,UC,Bool.or_eq_false_iff]at ht;exact ht.1) (fun h=>I (.inl h)) (fun h=>I (.inr h)) a1 a4 a0 p P R
theorem qaY(c:Ck)(g:okCk c):∀(m:Nat) (n:Nd),depN n<=m->WfN n->∀(s:Scp),ScOk c.ts.sorts.length s->s.length+m<=80000->∀ inn,ExR c s inn n
 | 0,n,t,_,_,_,_,_=>zW1 (qaT n)
 |m+1,n,t,o,s,l,J,inn=>by
  have p:∀ k,k∈n.kids->∀ s',ScOk c.ts.sorts.length s'->s'.length<=s.length+1->∀ inn,ExR c s' inn k:=fun k i s' r P inn=>qaY c g m k (by have:=qaS i;rw[wd]at t;omega) (o.kid i) s' r zOm inn
  cases j:inn&&zL c n.op n.name with
  |true =>
   rw[qB]at j;rw[j.1];exact qmR c g s n j.2
  |false =>
   by_cases C:n.op=1
   .exact qmS c g s zOm inn n C
   by_cases h47:n.op=47
   .exact qmT c g s l inn n o h47 j fun k i=>p k i s l zOm true
   by_cases I:n.op=15\/n.op=45\/n.op=46
   .exact qmU c g s l zOm inn n o I j p
   .exact qmW c g s l inn n o C h47 I j fun k i inn=>p k i s l zOm inn
end QS
namespace QT
open YF Y9 Y10 Y1 Y2 Y14 Y15 Y16 YZ P1 P2 PA Q5 QD QE QI QJ QL QM QO QS
section
variable {ts:TS}
def ckR(ts:TS)(i:Nat):Ck:=⟨ts,i,tmsL ts ts.preds.length⟩
theorem UD(h:okTS ts){i:Nat}(g:i<=ts.preds.length):okCk (ckR ts i):=⟨h,g,by show i<=(tmsL ts ts.preds.length).length;rw[ZA ts _ (qm _)];exact g⟩
theorem qaZ{c c':Ck}(g:c'.ts=c.ts)(r:∀ nm,zn c' nm=zn c nm)(t:∀ op nm,zL c' op nm=zL c op nm):∀(m:Nat) (n:Nd) (s:Scp) (inn:Bool),szN n<=m->exam c s inn n=exam c' s inn n
 | 0,n,_,_,I=>by obtain⟨op,nm,i,ks,p⟩:=n;simp[szN]at I
 |m+1,n,s,inn,I=>by
  have o:∀ k,k∈n.kids->∀(s:Scp) (inn:Bool),exam c s inn k=exam c' s inn k:=fun k o s inn=>qaZ g r t m k s inn (zW1 (zS o))
  refine n8 rfl rfl rfl rfl (t _ _) (fun _=>?_) (by rw[g]) (r _) (by rw[g]) rfl (fun _ P=>me fun k l=>o k l s true) (fun _ inn=>?_) (fun _ _ _ inn=>Ug fun k l=>o k l s inn)
  .rw [w7,w7,g]
  .cases C:n.kids with
   |nil=>rfl
   |cons k ks =>
    have j:∀ x,x∈k :: ks->x∈n.kids:=fun x hx=>by rw[C];exact hx
    simp only[z8];rw[o k (j k (q8 ..)) s inn];have J:∀ a,qQ c ((n.name,a) :: s) inn ks=qQ c' ((n.name,a) :: s) inn ks:=fun a=>Ug fun x hx=>o x (j x (qY _ hx)) _ _
    simp only[J]
theorem qmX(h:okTS ts){i:Nat}(l:i<=ts.preds.length)(n:Nd)(s:Scp)(inn:Bool):exam (ckR ts i) s inn n=exam (mkCk ts i) s inn n:=by
 refine(qaZ (c:=mkCk ts i) (c':=ckR ts i) rfl (fun nm=>rfl) (fun op nm=>?_) (szN n) n s inn (qm _)).symm;unfold zL;have e:zn (ckR ts i) nm=zn (mkCk ts i) nm:=rfl;rw[e];cases o:zn (mkCk ts i) nm with
 |none=>rfl
 |some p =>
  obtain⟨j,g⟩:=wT (vG h l) o;have j:p<i:=j;have g:p<ts.preds.length:=g;simp only;have r:=PC.JL ts p ts.preds.length g (qm _) g;have t:=PC.JL ts p i j l g;show (yh op||(decide (op=47)&&(tmsL ts ts.preds.length).getD p false))=(yh op||(decide (op=47)&&(tmsL ts i).getD p false));rw[r,t]
theorem qmY(h:okTS ts){i:Nat}(g:i<=ts.preds.length)(env:List (ByteArray×Int))(n:Nd):yR (mkCk ts i) env n=if 30<=n.op then dgOf (exam (ckR ts i) (zJ env) false n) else (43,n.pos):=by
 unfold yR;rw[qmX h g]
theorem qa0(ts:TS)(h:okTS ts)(J:∀ p,p∈ts.preds->WfN p.body)(i:Nat)(o:i<=ts.preds.length)(env:List (ByteArray×Int))(t:Yg ts.sorts.length env)(j:env.length<=1000)(n:Nd)(R:WfN n)(U:depN n<=24) :
  qd qb 157 [eTS ts,aI i,lPm env,eNd n] (eDg (yR (mkCk ts i) env n)):=by
 rw[qmY h o];have a0:=h.ns;have hs:=Uc t;have a1:(zJ env).length=env.length:=by
  have:=congrArg List.length (qaL env);rw[Uy]at this;simpa[envV] using this.symm
 obtain⟨S,ce,_⟩:=qaY (ckR ts i) (UD h o) 24 n U R (zJ env) hs zOm false;have C:=envU env j (fun p hp=>zW1 (t.r p hp));rw[qaL]at C;have c1:=qlY n;have c2:=qlV ts h J;refine qd.of_sound (qe.of_awp call157 func157 rfl (qh zKr) zKr (pl:={}) ?_);simp[go_sem];refine qc.pure c1 (.zk (qz n) .nil) ?_;by_cases g:30<=n.op
 .rw [if_pos g]
  generalize dgOf (exam (ckR ts i) (zJ env) false n)=D at *
  simp[go_sem,g];refine qg.seg [0,1,3,5,7,2,4,6,8,9,10,11,12,13,14,15] [(0,0,[]),(1,0,[]),(3,0,[]),(5,0,[]),(7,0,[]),(2,1,[0,7]),(4,0,[]),(6,1,[0,7]),(8,1,[]),(9,0,[]),(10,0,[]),(11,0,[]),(12,2,[0,1,7]),(13,2,[0,1,7]),(14,1,[]),(15,1,[])] zKr zKr zSi ?_;simp[go_sem];refine qc.pure c2 (.zk (zA ts) .nil) ?_;simp[go_sem];refine qc.pure C (.zk (vV env) .nil) ?_;simp[go_sem];refine qc.pure ce (wkE (ckR ts i) false _ n) ?_;simp[go_sem,qs];rw[if_pos (zb _)];generalize I:putCells _ 0 (cRS S)=P;have l:P=cRS S:=by rw[<-I];exact pc (aI 0) _ (fun _=>false) _
  subst l;clear I;simp[go_sem];exact .hf _ (wg D)
 .rw [if_neg g]
  simp[go_sem,g];exact .hf _ (wg (43,n.pos))
theorem qa1(ts:TS)(h:okTS ts)(i:∀ p,p∈ts.preds->WfN p.body)(env:List (ByteArray×Int))(j:Yg ts.sorts.length env)(g:env.length<=1000)(n:Nd)(l:WfN n)(o:depN n<=24) :
  qd qb 75 [eTS ts,lPm env,eNd n] (eDg (yi ts env n)):=by
 have c1:=qa0 ts h i ts.preds.length (qm _) env j g n l o;have e:yR (mkCk ts ts.preds.length) env n=yi ts env n:=rfl;rw[e]at c1;generalize yi ts env n=D at *
 refine qd.of_sound (qe.of_awp call75 func75 rfl (qh zKr) zKr (pl:={}) ?_);simp[go_sem];refine qc.pure c1 (.zk (zA ts) (.zs (.zk (vV env) (.zk (qz n) .nil)))) ?_;simp[go_sem];exact .hf _ (wg D)
theorem Yr(a b:List Bool):dups (a++b)=dups a++dups b:=by simp[dups]
theorem wm(b:Bool):dups [b]=if b=true then [(41,0)] else []:=by cases b<;>rfl
theorem u7(l:List Bool):(dups l).length<=l.length:=by
 unfold dups;rw[yI];exact List.length_filter_le ..
theorem KD{J:Type}(g:J->J->Bool)(l:List J)(k:Nat)(h:k<l.length):(repL g l).take (k+1)=(repL g l).take k++[(l.take k).any fun y=>g l[k] y]:=by
 have i:k<(repL g l).length:=by rw[wY];exact h
 rw[Ze i];congr 2;have:=nN g l h;rw[qA i]at this;exact Option.some.inj this
theorem UE{J:Type}(p:J->Bool)(l:List J)(k:Nat)(h:k<l.length):(l.take (k+1)).any p=((l.take k).any p||p l[k]):=by
 rw[Ze h,List.any_append];simp only[List.any_cons,List.any_nil,Bool.or_false]
abbrev eS:ByteArray×Bool->ByteArray×Bool->Bool:=fun x y=>decide (x.1=y.1)
abbrev eF:Fld->Fld->Bool:=fun x y=>decide (x.name=y.name)&&decide (x.sorts=y.sorts)
abbrev eP:Pd->Pd->Bool:=fun x y=>decide (x.name=y.name)
abbrev eM:ByteArray×Int->ByteArray×Int->Bool:=fun x y=>decide (x.1=y.1)
abbrev eA:ByteArray×Nd->ByteArray×Nd->Bool:=fun x y=>decide (x.1=y.1)
theorem Qc{mu:Mu}{lo:Nat}{s x:AV}{xs ys:List Dg}{K:AV->Mu->Prop}(j:OwnF lo mu 2 s (xs.map cDg))(hx:qO mu x=some (ys.map cDg))(C:xs.length+ys.length<=100000)(o:∀ av mu',OwnF lo mu' 2 av ((xs++ys).map cDg)->(∀ i,i<lo->mu'[i]?=mu[i]?)->K av mu') :
  qF qb mu #[117,117] s x K:=by
 have g:∀ l:List Dg,zy 2 (l.map cDg):=fun l r p=>by
  obtain⟨n,_,rfl⟩:=qr.1 p;exact⟨rfl,rfl⟩
 refine qF.ownF (lo:=lo) (e:=137) (sz:=2) (bt:=16) (zv := .agg [aI 0,aI 0]) (xs:=xs.map cDg) (ys:=ys.map cDg) zSi zSi zSi rfl rfl zOm zOm j hx (g xs) (g ys) zSo ?_;intro av mu' h t;exact o av mu' (by rw[zx];exact h) t
theorem qmZ(ts:TS)(h:okTS ts)(mu:Mu):qe qb 134 [eTS ts] mu fun e m=>∃ av,e = .ret av/\OwnF mu.length m 2 av ((dups (repL eS ts.sorts)++dups (repL eF ts.fields)).map cDg)/\∀ i,i<mu.length->m[i]?=mu[i]?:=by
 refine qe.of_awp call134 func134 rfl (qh zKr) zKr (pl:={}) ?_;have a6:=h.ns;have ab:=h.nf;simp[go_sem];refine qn.upK ts.sorts.length (fun i U=>U.tm 1 = .ip (cTS ts)/\U.tm 4=aI i/\OwnF mu.length U.mu 2 (U.tm 3) ((dups ((repL eS ts.sorts).take i)).map cDg)/\∀ i,i<mu.length->U.mu[i]?=mu[i]?) ?_ ?_
 .exact ⟨zSi,zSi,by simp[go_sem,dups];exact OwnF.nil (qm _),zSi⟩
 rintro i U hi ⟨P,e4,I,hm⟩;have a0:(dups ((repL eS ts.sorts).take i)).length<=i:=zP (u7 _) (List.length_take_le ..);generalize h3:U.tm 3=av at *
 by_cases o:i<ts.sorts.length
 .have t:=KD eS ts.sorts i o
  have wi:qj.wrap ((i:Int)+1)=(i:Int)+1:=qi zOm zOm;simp[go_sem,P,e4,o];refine qn.upK i (fun k st2=>st2.tm 1 = .ip (cTS ts)/\st2.tm 4=aI i/\st2.tm 3=av/\st2.tm 6=aI k/\st2.tm 5=aB ((ts.sorts.take k).any fun y=>eS ts.sorts[i] y)/\st2.mu=U.mu) ?_ ?_
  .exact ⟨zS1 P,zS1 e4,zS1 h3,zSi,zSi,zSi⟩
  rintro k st2 hk ⟨f1,f4,f3,f6,f5,C⟩;generalize hT:(ts.sorts.take k).any (fun y=>eS ts.sorts[i] y)=T at *
  by_cases p:k<i
  .have r:k<ts.sorts.length:=by omega
   have wk:qj.wrap ((k:Int)+1)=(k:Int)+1:=qi zOm zOm;have g:=UE (fun y=>eS ts.sorts[i] y) ts.sorts k r;rw[hT]at g;simp[go_sem,f4,f6,p];refine qg.intro zKr ?_;cases T with
   |true =>
    rw[Bool.true_or]at g;simp[go_sem,f6,f5,p,wk];exact Keep.mk' ⟨zS1 f1,zS1 f4,zS1 f3,zSi,by rw[g];simp[go_sem],zS1 C⟩
   |false =>
    rw[Bool.false_or]at g;by_cases J:ts.sorts[k].1=ts.sorts[i].1
    .have l:(ts.sorts.take (k+1)).any (fun y=>eS ts.sorts[i] y)=true:=by rw[g];exact decide_eq_true J.symm
     simp[go_sem,f1,f4,f6,f5,p,r,o,wk,J];exact Keep.mk' ⟨zS1 f1,zS1 f4,zS1 f3,zSi,by rw[l];simp[go_sem],zS1 C⟩
    .have l:(ts.sorts.take (k+1)).any (fun y=>eS ts.sorts[i] y)=false:=by rw[g];exact decide_eq_false fun e=>J e.symm
     simp[go_sem,f1,f4,f6,f5,p,r,o,wk,jA J];exact Keep.mk' ⟨zS1 f1,zS1 f4,zS1 f3,zSi,by rw[l];simp[go_sem],zS1 C⟩
  .have a1:k=i:=by omega
   subst a1;rw[hT]at t;cases T with
   |true =>
    simp[go_sem,f4,f3,f6,f5,C];refine Qc (ys:=[(41,0)]) I (by simp[qO]) zSo fun a7 m' a2 a3=>?_
    simp[go_sem,f4,wi];exact⟨o,Keep.mk' ⟨zS1 f1,zSi,by rw[t,Yr,wm,if_pos rfl];simpa[go_sem] using a2,by simp only[qP];exact fun i hi=>(a3 i hi).trans (hm i hi)⟩⟩
   |false =>
    simp[go_sem,f4,f6,f5,C,wi];exact⟨o,Keep.mk' ⟨zS1 f1,zSi,by rw[t,Yr,wm,if_neg zSp,zV];simpa[go_sem,f3,C] using I,by simp only[qP];exact hm⟩⟩
 .have a4:i=ts.sorts.length:=by omega
  subst a4;rw[ye (by rw[wY];exact qm _)]at I;simp[go_sem,P,e4];generalize a8:dups (repL eS ts.sorts)=a5 at *
  have ad:a5.length<=4:=by rw[<-a8];exact zP (u7 _) (by rw[wY];exact a6)
  refine qn.upK ts.fields.length (fun i U=>U.tm 1 = .ip (cTS ts)/\U.tm 7=aI i/\OwnF mu.length U.mu 2 (U.tm 3) ((a5++dups ((repL eF ts.fields).take i)).map cDg)/\∀ i,i<mu.length->U.mu[i]?=mu[i]?) ?_ ?_
  .exact ⟨zS1 P,zSi,by simpa[go_sem,dups,h3] using I,zVs hm⟩
  clear a0 I hm P e4 h3 o hi U;rintro i U hi ⟨P,e4,I,hm⟩;have a0:(dups ((repL eF ts.fields).take i)).length<=i:=zP (u7 _) (List.length_take_le ..);generalize h3:U.tm 3=a9 at *
  by_cases o:i<ts.fields.length
  .have t:=KD eF ts.fields i o
   have wi:qj.wrap ((i:Int)+1)=(i:Int)+1:=qi zOm zOm;simp[go_sem,P,e4,o];refine qn.upK i (fun k st2=>st2.tm 1 = .ip (cTS ts)/\st2.tm 7=aI i/\st2.tm 3=a9/\st2.tm 9=aI k/\st2.tm 8=aB ((ts.fields.take k).any fun y=>eF ts.fields[i] y)/\st2.mu=U.mu) ?_ ?_
   .exact ⟨zS1 P,zS1 e4,zS1 h3,zSi,zSi,zSi⟩
   rintro k st2 hk ⟨f1,f4,f3,f6,f5,C⟩;generalize hT:(ts.fields.take k).any (fun y=>eF ts.fields[i] y)=T at *
   by_cases p:k<i
   .have r:k<ts.fields.length:=by omega
    have wk:qj.wrap ((k:Int)+1)=(k:Int)+1:=qi zOm zOm;have g:=UE (fun y=>eF ts.fields[i] y) ts.fields k r;rw[hT]at g;have ae:=h.fl _ (qy r);have aa:=qjS ts.fields[k].sorts ts.fields[i].sorts zOm;simp[go_sem,f4,f6,p];refine qg.intro zKr ?_;cases T with
    |true =>
     rw[Bool.true_or]at g;simp[go_sem,f6,f5,p,wk];exact Keep.mk' ⟨zS1 f1,zS1 f4,zS1 f3,zSi,by rw[g];simp[go_sem],zS1 C⟩
    |false =>
     rw[Bool.false_or]at g;by_cases J:ts.fields[k].name=ts.fields[i].name
     .simp [go_sem,f1,f4,f6,f5,r,o,J]
      refine qc.pure aa (.zk (yA _) (.zk (yA _) .nil)) ?_;by_cases R:ts.fields[k].sorts=ts.fields[i].sorts
      .have l:(ts.fields.take (k+1)).any (fun y=>eF ts.fields[i] y)=true:=by rw[g];simp[eF,J.symm,R.symm]
       simp[go_sem,f6,p,wk,R];exact Keep.mk' ⟨zS1 f1,zS1 f4,zS1 f3,zSi,by rw[l];simp[go_sem],zS1 C⟩
      .have l:(ts.fields.take (k+1)).any (fun y=>eF ts.fields[i] y)=false:=by rw[g];simp[eF,J.symm];exact fun e=>R e.symm
       simp[go_sem,f6,p,wk,R];exact Keep.mk' ⟨zS1 f1,zS1 f4,zS1 f3,zSi,by rw[l];simp[go_sem],zS1 C⟩
     .have l:(ts.fields.take (k+1)).any (fun y=>eF ts.fields[i] y)=false:=by rw[g];simp[eF];exact fun e=>absurd e.symm J
      simp[go_sem,f1,f4,f6,f5,p,r,o,wk,jA J];exact Keep.mk' ⟨zS1 f1,zS1 f4,zS1 f3,zSi,by rw[l];simp[go_sem],zS1 C⟩
   .have a1:k=i:=by omega
    subst a1;rw[hT]at t;cases T with
    |true =>
     simp[go_sem,f4,f3,f6,f5,C];refine Qc (ys:=[(41,0)]) I (by simp[qO]) zSo fun a7 m' a2 a3=>?_
     simp[go_sem,f4,wi];exact⟨o,Keep.mk' ⟨zS1 f1,zSi,by rw[t,Yr,wm,if_pos rfl,<-zE];simpa[go_sem] using a2,by simp only[qP];exact fun i hi=>(a3 i hi).trans (hm i hi)⟩⟩
    |false =>
     simp[go_sem,f4,f6,f5,C,wi];exact⟨o,Keep.mk' ⟨zS1 f1,zSi,by rw[t,Yr,wm,if_neg zSp,zV];simpa[go_sem,f3,C] using I,by simp only[qP];exact hm⟩⟩
  .have a4:i=ts.fields.length:=by omega
   subst a4;rw[ye (by rw[wY];exact qm _)]at I;simp[go_sem,P,e4,h3];exact⟨zUs I,hm⟩
end
end QT
namespace QU
open YF Y9 Y10 Y1 Y2 Y15 Y16 YZ P1 P2 PA QD QI QK QT
theorem qm0{ts:TS}{i:Nat}(j:i<ts.preds.length):(∃ p:Nat,zn (ckR ts i) ts.preds[i].name=some p/\(ts.preds.take i).any (fun y=>eP ts.preds[i] y)=true)\/(zn (ckR ts i) ts.preds[i].name=none/\(ts.preds.take i).any (fun y=>eP ts.preds[i] y)=false):=by
 cases h:zn (ckR ts i) ts.preds[i].name with
 |some p =>
  left;refine⟨p,rfl,?_⟩;unfold zn at h;rw[List.findIdx?_eq_some_iff_getElem]at h;obtain⟨hp,g,_⟩:=h;refine List.any_eq_true.2 ⟨_,qy hp,?_⟩;have g:decide ((ts.preds.take i)[p].name=ts.preds[i].name)=true:=g;have g:(ts.preds.take i)[p].name=ts.preds[i].name:=zUs g;exact decide_eq_true g.symm
 |none =>
  right;refine⟨rfl,?_⟩;unfold zn at h;rw[List.findIdx?_eq_none_iff]at h;rw[List.any_eq_false];intro x hx;have:=h x hx;have:¬x.name=ts.preds[i].name:=by simpa using this
  simpa using fun e:ts.preds[i].name=x.name=>this e.symm
theorem rdDg{lo:Nat}{mu:Mu}{av:AV}{xs:List Dg}(h:OwnF lo mu 2 av (xs.map cDg)):Rd mu av (lDg xs):=by
 refine h.1.rd (zy.ok fun r i=>?_) fun r i c g=>?_
 .obtain ⟨n,_,rfl⟩:=qr.1 i
  exact⟨rfl,rfl⟩
 .obtain ⟨n,_,rfl⟩:=qr.1 i
  rcases qt.1 g with rfl|g
  .exact HF.sc _
  .rw [qL]at g;subst g;exact HF.sc _
theorem Ys{lo sz:Nat}{mu:Mu}{av:AV}{xs:List (List AV)}(h:OwnF lo mu sz av xs)(c:Cell):OwnF lo (mu++[c]) sz av xs:=⟨Jp h.1 c,h.2.1,by have:=h.2.2;simp;omega⟩
theorem qm1(ts:TS)(h:okTS ts)(wp:∀ p,p∈ts.preds->WfN p.body)(i:Nat)(C:i<ts.preds.length)(hd:depN ts.preds[i].body<=24):qd qb 135 [eTS ts,aI i] (lDg (vI ts i)):=by
 have a5:=h.pl _ (qy C);have ag:=h.np;have c1:=qa0 ts h wp i zOm ts.preds[i].params ⟨zOm,a5.2⟩ zOm ts.preds[i].body (wp _ (qy C)) hd;have c2:=JH (ckR ts i) (UD h zOm) ts.preds[i].name;have a6:=qm0 C;have hp:vI ts i=dups [(ts.preds.take i).any (fun y=>eP ts.preds[i] y)]++(dups (repL eM ts.preds[i].params)++rp (yR (mkCk ts i) ts.preds[i].params ts.preds[i].body)):=by
  unfold vI;rw[qA C];simp only;rw[mj,qA C]
 rw[hp];generalize hD:yR (mkCk ts i) ts.preds[i].params ts.preds[i].body=D at *
 generalize hb:(ts.preds.take i).any (fun y=>eP ts.preds[i] y)=b at *
 have ah:(dups [b]).length<=1:=by cases b<;>simp[dups]
 refine qd.of_sound (qe.of_awp call135 func135 rfl (qh zKr) zKr (pl:={}) ?_);simp[go_sem];refine qg.intro zKr ?_;simp[go_sem,C];refine qc.pure c2 (.zk (zA _) (.zs (.zs .nil))) ?_;have wk:WKs [eTS ts,aI i,lPm ts.preds[i].params,eNd ts.preds[i].body] [eTS ts,aI i,lPm ts.preds[i].params,eNd ts.preds[i].body] := .zk (zA _) (.zs (.zk (vV _) (.zk (qz _) .nil)));have af:=Qo;have fin:∀ U:St,True:=fun _=>trivial
 rcases a6 with ⟨p,hc,a0⟩|⟨hc,a0⟩
 case' inl =>
  subst a0;rw[hc];have a7:(0:Int)<=(p:Int):=zOm;simp[go_sem,idxO,a7];refine Qc (lo:=0) (xs:=[]) (ys:=[(41,0)]) (OwnF.nil zSp) (by simp[qO]) zSp fun ai m0 a8 _=>?_
  simp[go_sem,C]
 case' inr =>
  subst a0;rw[hc];simp[go_sem,idxO,C]
 all_goals
  generalize a9:ts.preds[i]=g at *
 case' inl =>
  refine qn.upK g.params.length (fun k U=>U.tm 2 = .ip (cTS ts)/\U.tm 1=aI i/\U.tm 6=lPm g.params/\U.tm 7=aI k/\OwnF 0 U.mu 2 (U.tm 5) ((dups [true]++dups ((repL eM g.params).take k)).map cDg)) ?_ ?_
  .exact ⟨zSi,zSi,zSi,zSi,by simpa[go_sem,dups] using a8⟩
 case' inr =>
  refine qn.upK g.params.length (fun k U=>U.tm 2 = .ip (cTS ts)/\U.tm 1=aI i/\U.tm 6=lPm g.params/\U.tm 7=aI k/\OwnF 0 U.mu 2 (U.tm 5) ((dups [false]++dups ((repL eM g.params).take k)).map cDg)) ?_ ?_
  .exact ⟨zSi,zSi,zSi,zSi,by simp[go_sem,dups];exact OwnF.nil zSp⟩
 all_goals
  rintro k U hk ⟨e2,e1,e6,e7,ho⟩;have a4:(dups ((repL eM g.params).take k)).length<=k:=zP (Y16.u7 _) (List.length_take_le ..);generalize h5:U.tm 5=t at *
  by_cases r:k<g.params.length
  .have a1:=KD eM g.params k r
   have wi:qj.wrap ((k:Int)+1)=(k:Int)+1:=qi zOm zOm;simp[go_sem,e6,e7,r];refine qn.upK k (fun j st2=>st2.tm 2 = .ip (cTS ts)/\st2.tm 1=aI i/\st2.tm 6=lPm g.params/\st2.tm 7=aI k/\st2.tm 5=t/\st2.tm 9=aI j/\st2.tm 8=aB ((g.params.take j).any fun y=>eM g.params[k] y)/\st2.mu=U.mu) ?_ ?_
   .exact ⟨zS1 e2,zS1 e1,zS1 e6,zS1 e7,zS1 h5,zSi,zSi,zSi⟩
   rintro j st2 hj ⟨f2,f1,f6,f7,f5,f9,f8,fm⟩;generalize hT:(g.params.take j).any (fun y=>eM g.params[k] y)=T at *
   by_cases I:j<k
   .have a2:j<g.params.length:=by omega
    have wj:qj.wrap ((j:Int)+1)=(j:Int)+1:=qi zOm zOm;have l:=UE (fun y=>eM g.params[k] y) g.params j a2;rw[hT]at l;simp[go_sem,f7,f9,I];refine qg.intro zKr ?_;cases T with
    |true =>
     rw[Bool.true_or]at l;simp[go_sem,f9,f8,I,wj];exact Keep.mk' ⟨zS1 f2,zS1 f1,zS1 f6,zS1 f7,zS1 f5,zSi,by rw[l];simp[go_sem],zS1 fm⟩
    |false =>
     rw[Bool.false_or]at l;by_cases hq:g.params[j].1=g.params[k].1
     .have o:(g.params.take (j+1)).any (fun y=>eM g.params[k] y)=true:=by rw[l];exact decide_eq_true hq.symm
      simp[go_sem,f6,f7,f9,f8,I,a2,r,wj,hq];exact Keep.mk' ⟨zS1 f2,zS1 f1,zS1 f6,zS1 f7,zS1 f5,zSi,by rw[o];simp[go_sem],zS1 fm⟩
     .have o:(g.params.take (j+1)).any (fun y=>eM g.params[k] y)=false:=by rw[l];exact decide_eq_false fun e=>hq e.symm
      simp[go_sem,f6,f7,f9,f8,I,a2,r,wj,jA hq];exact Keep.mk' ⟨zS1 f2,zS1 f1,zS1 f6,zS1 f7,zS1 f5,zSi,by rw[o];simp[go_sem],zS1 fm⟩
   .have aa:j=k:=by omega
    subst aa;rw[hT]at a1;cases T with
    |true =>
     simp[go_sem,f7,f5,f9,f8,fm];refine Qc (ys:=[(41,0)]) ho (by simp[qO]) zSo fun ab m' J ad=>?_
     simp[go_sem,f7,wi];exact⟨r,Keep.mk' ⟨zS1 f2,zS1 f1,zS1 f6,zSi,by rw[a1,Yr,<-zE];simpa[go_sem,wm] using J⟩⟩
    |false =>
     simp[go_sem,f7,f9,f8,fm,wi];exact⟨r,Keep.mk' ⟨zS1 f2,zS1 f1,zS1 f6,zSi,by rw[a1,Yr];simpa[go_sem,wm,f5,fm] using ho⟩⟩
  .have ae:k=g.params.length:=by omega
   subst ae;rw[ye (by rw[wY];exact qm _)]at ho a4;simp[go_sem,e6,e7];refine qg.intro zKr ?_;simp[go_sem,e2,e1,e6,C,a9];refine qc.pure c1 wk ?_;by_cases R:D.1=0
   .have a3:rp D=[]:=if_pos R
    rw[a3];simp[go_sem,h5,R];exact rdDg (Ys ho _)
   .have a3:rp D=[D]:=if_neg R
    rw[a3];simp[go_sem,h5,R];refine Qc (ys:=[D]) (Ys ho _) (by simp[qO]) (by simp only[zc,List.length_singleton];omega) fun ab m' J ad=>?_
    simp[go_sem];rw[zE]at J;exact rdDg J
theorem Jo(f:Nat->List Dg)(n:Nat):(qu (n+1)).flatMap f=(qu n).flatMap f++f n:=by
 rw[List.range_succ,List.flatMap_append];simp only[uG,List.flatMap_nil,zV]
theorem qm2(ts:TS)(h:okTS ts)(wp:∀ p,p∈ts.preds->WfN p.body)(wf:∀ f,f∈ts.facts->WfN f.2)(dp:∀ p,p∈ts.preds->depN p.body<=24)(df:∀ f,f∈ts.facts->depN f.2<=24):qd qb 61 [eTS ts] (lDg (yT ts)):=by
 have an:=h.np;have ao:=h.nfa;have hD:(dups (repL eS ts.sorts)++dups (repL eF ts.fields)).length<=10:=by
  have a1:=Y16.u7 (repL eS ts.sorts);have a2:=Y16.u7 (repL eF ts.fields);rw[wY]at a1 a2;have:=h.ns;have:=h.nf;rw[zc];omega
 have hC:yT ts=(dups (repL eS ts.sorts)++dups (repL eF ts.fields))++((qu ts.preds.length).flatMap (vI ts)++(qu ts.facts.length).flatMap (wZ ts ts.facts)):=by
  unfold yT;rw[zE]
 rw[hC];have aa:=qmZ ts h [];generalize dups (repL eS ts.sorts)++dups (repL eF ts.fields)=D0 at *
 refine qd.of_sound (qe.of_awp call61 func61 rfl (qh zKr) zKr (pl:={}) ?_);simp[go_sem];refine qc.eff0 aa (fun r m hr=>?_) (fun r m hr=>?_)
 case refine_2 =>
  obtain⟨t,e,_⟩:=hr;cases e
 obtain⟨aq,e,ab,_⟩:=hr;cases e;simp[go_sem];refine qn.upK ts.preds.length (fun i U=>U.tm 1 = .ip (cTS ts)/\U.tm 4=aI i/\OwnF 0 U.mu 2 (U.tm 3) ((D0++(qu i).flatMap (vI ts)).map cDg)) ?_ ?_
 .exact ⟨zSi,zSi,zVs ab⟩
 rintro i U hi ⟨R,e4,ho⟩;have al:=Y16.XM (vI ts) (Y16.nQ h) i;generalize h3:U.tm 3=t at *
 by_cases g:i<ts.preds.length
 .have l:=Jo (vI ts) i
  have ar:=Y16.nQ h i;have ad:=qm1 ts h wp i g (dp _ (qy g));have wi:qj.wrap ((i:Int)+1)=(i:Int)+1:=qi zOm zOm;generalize vI ts i=PD at *
  simp[go_sem,R,e4,h3,g];refine qc.pure ad (.zk (zA ts) (.zs .nil)) ?_;simp[go_sem];refine Qc (ys:=PD) ho (by simp[qO]) (by simp only[zc];omega) fun ae m' a0 af=>?_
  simp[go_sem,e4,wi];exact⟨g,Keep.mk' ⟨zS1 R,zSi,by rw[l,<-zE];simpa[go_sem] using a0⟩⟩
 .have a4:i=ts.preds.length:=by omega
  subst a4;simp[go_sem,R,e4];generalize (qu ts.preds.length).flatMap (vI ts)=P0 at *
  refine qn.upK ts.facts.length (fun i U=>U.tm 1 = .ip (cTS ts)/\U.tm 5=aI i/\OwnF 0 U.mu 2 (U.tm 3) (((D0++P0)++(qu i).flatMap (wZ ts ts.facts)).map cDg)) ?_ ?_
  .exact ⟨zS1 R,zSi,by simpa[go_sem,h3] using ho⟩
  clear ho R e4 h3 g hi U;rintro i U hi ⟨R,e4,ho⟩;have ag:=Y16.XM (wZ ts ts.facts) (Y16.qjH ts ts.facts) i;generalize h3:U.tm 3=ah at *
  by_cases g:i<ts.facts.length
  .have l:=Jo (wZ ts ts.facts) i
   have ai:wZ ts ts.facts i=dups [(ts.facts.take i).any (fun y=>eA ts.facts[i] y)]++rp (yi ts [] ts.facts[i].2):=by
    unfold wZ;rw[qA g];simp only;rw[mj,qA g]
   rw[ai]at l;have cf:=qa1 ts h wp [] ⟨zSp,zSp⟩ zSp ts.facts[i].2 (wf _ (qy g)) (df _ (qy g));have wi:qj.wrap ((i:Int)+1)=(i:Int)+1:=qi zOm zOm;generalize yi ts [] ts.facts[i].2=D at *
   simp[go_sem,R,e4,g];refine qn.upK i (fun k st2=>st2.tm 1 = .ip (cTS ts)/\st2.tm 5=aI i/\st2.tm 3=ah/\st2.tm 7=aI k/\st2.tm 6=aB ((ts.facts.take k).any fun y=>eA ts.facts[i] y)/\st2.mu=U.mu) ?_ ?_
   .exact ⟨zS1 R,zS1 e4,zS1 h3,zSi,zSi,zSi⟩
   rintro k st2 hk ⟨f1,f4,f3,f6,f5,fm⟩;generalize hT:(ts.facts.take k).any (fun y=>eA ts.facts[i] y)=T at *
   by_cases a3:k<i
   .have a5:k<ts.facts.length:=by omega
    have wk:qj.wrap ((k:Int)+1)=(k:Int)+1:=qi zOm zOm;have o:=UE (fun y=>eA ts.facts[i] y) ts.facts k a5;rw[hT]at o;simp[go_sem,f4,f6,a3];refine qg.intro zKr ?_;cases T with
    |true =>
     rw[Bool.true_or]at o;simp[go_sem,f6,f5,a3,wk];exact Keep.mk' ⟨zS1 f1,zS1 f4,zS1 f3,zSi,by rw[o];simp[go_sem],zS1 fm⟩
    |false =>
     rw[Bool.false_or]at o;by_cases hq:ts.facts[k].1=ts.facts[i].1
     .have I:(ts.facts.take (k+1)).any (fun y=>eA ts.facts[i] y)=true:=by rw[o];exact decide_eq_true hq.symm
      simp[go_sem,f1,f4,f6,f5,a3,a5,g,wk,hq];exact Keep.mk' ⟨zS1 f1,zS1 f4,zS1 f3,zSi,by rw[I];simp[go_sem],zS1 fm⟩
     .have I:(ts.facts.take (k+1)).any (fun y=>eA ts.facts[i] y)=false:=by rw[o];exact decide_eq_false fun e=>hq e.symm
      simp[go_sem,f1,f4,f6,f5,a3,a5,g,wk,jA hq];exact Keep.mk' ⟨zS1 f1,zS1 f4,zS1 f3,zSi,by rw[I];simp[go_sem],zS1 fm⟩
   .have aj:k=i:=by omega
    subst aj;rw[hT]at l;have a7:WKs [eTS ts,.lst true [],eNd ts.facts[k].2] [eTS ts,lPm [],eNd ts.facts[k].2] := .zk (zA ts) (.cons (WK.lst fun r hr=>absurd hr qE) (.zk (qz _) .nil));have au:=p7;cases T with
    |true =>
     simp[go_sem,f4,f3,f6,f5,fm];refine Qc (ys:=[(41,0)]) ho (by simp[qO]) (by simp only[zc,List.length_singleton];omega) fun ae m' a0 af=>?_
     simp[go_sem];refine qg.intro zKr ?_;simp[go_sem,f1,f4,g];refine qc.pure cf a7 ?_;by_cases C:D.1=0
     .have J:rp D=[]:=if_pos C
      rw[J,zV]at l;simp[go_sem,f4,wi,C];exact⟨g,Keep.mk' ⟨zS1 f1,zSi,by rw[l,<-zE];simpa[go_sem,wm] using Ys a0 (.arr [aI 0,aI D.2])⟩⟩
     .have J:rp D=[D]:=if_neg C
      rw[J]at l;simp[go_sem,C];refine Qc (ys:=[D]) (Ys a0 _) (by simp[qO]) (by simp only[zc,List.length_singleton];omega) fun a8 ak P a9=>?_
      simp[go_sem,f4,wi];exact⟨g,Keep.mk' ⟨zS1 f1,zSi,by rw[l,<-zE];simpa[go_sem,wm,zE] using P⟩⟩
    |false =>
     simp[go_sem,f4,f6,f5,fm];refine qg.intro zKr ?_;simp[go_sem,f1,f4,g];refine qc.pure cf a7 ?_;by_cases C:D.1=0
     .have J:rp D=[]:=if_pos C
      rw[J,zV]at l;simp[go_sem,f4,wi,C];exact⟨g,Keep.mk' ⟨zS1 f1,zSi,by rw[l,<-zE];simpa[go_sem,wm,f3] using Ys ho (.arr [aI 0,aI D.2])⟩⟩
     .have J:rp D=[D]:=if_neg C
      rw[J]at l;simp[go_sem,f3,C];refine Qc (ys:=[D]) (Ys ho _) (by simp[qO]) (by simp only[zc,List.length_singleton];omega) fun a8 ak P a9=>?_
      simp[go_sem,f4,wi];exact⟨g,Keep.mk' ⟨zS1 f1,zSi,by rw[l,<-zE];simpa[go_sem,wm,zE] using P⟩⟩
  .have a4:i=ts.facts.length:=by omega
   subst a4;simp[go_sem,R,e4,h3];rw[zE]at ho;exact rdDg ho
end QU
namespace QP
end QP
namespace QV
end QV
namespace PD
open P1 P2 Y1 Y2 Y9 YX YZ YA YB PA YC YG Q3 Q4 PB PC
section
variable {body:Bool}{c0:Ck}{env:IEnv}{L:Int}{es:List (ByteArray×Bool)}{l l':List (Option Kd)}{s s':Scp}
structure ArgR (c0:Ck) (es:List (ByteArray×Bool)) (L:Int) (s':Scp) (k:Kd) (a:Nd):Prop where
 ex:∃ k',exam c0 s' true a = .ok (some k')/\Sub k' k
 good:vr es L a
 kd:kd a.op=101
def RlV(c0:Ck)(es:List (ByteArray×Bool))(L:Int)(s':Scp)(v:ByteArray):Option Kd->Option IV->Prop
 |none,none=>True
 |none,some _=>False
 |some k,none=>∃ g,lookS v s'=some g/\Sub g k
 |some k,some ⟨some a,_,_⟩=>ArgR c0 es L s' k a
 |some k,some ⟨none,_,i⟩=>(∃ g,lookS i s'=some g/\Sub g k)/\vLe es L i
structure Rl (c0:Ck) (es:List (ByteArray×Bool)) (L:Int) (body:Bool) (s s':Scp) (env:IEnv):Prop where
 mean:∀ v,v∈s'->means c0.ts v.1=[]
 rel:∀ v,tkn es v->RlV c0 es L s' v (lookS v s) (getK v env)
 arg:body=false->∀ v iv,getK v env=some iv->iv.arg=none
theorem RlV.mono{L':Int}{v:ByteArray}{g:Option Kd}{i:Option IV}(h:RlV c0 es L s' v g i)(j:L<=L'):RlV c0 es L' s' v g i:=by
 match g,i with
 |none,none=>exact h
 |none,some _=>exact h
 |some k,none=>exact h
 |some k,some ⟨some a,_,_⟩ =>
  have h:ArgR c0 es L s' k a:=h;exact(⟨h.ex,h.good.mono j,h.kd⟩:ArgR c0 es L' s' k a)
 |some k,some ⟨none,_,l⟩=>exact⟨h.1,h.2.mono j⟩
theorem Rl.mono{L':Int}(h:Rl c0 es L body s s' env)(g:L<=L'):Rl c0 es L' body s s' env:=
 ⟨h.mean,fun v i=>(h.rel v i).mono g,h.arg⟩
theorem JP{nm:ByteArray}:∀{s:Scp} {k:Kd},lookS nm s=some k->(nm,k)∈s
 | [],k,h=>by simp[qj1]at h
 |v :: s,k,h=>by
  rw[vJ]at h;split at h
  .rename_i e
   cases h;rw[<-e];exact q8 ..
  .exact qY _ (JP h)
theorem Rl.bind{st:ISt}{nm:ByteArray}{k k':Kd}(a6:Free c0.ts es)(a0:(env.map Prod.fst).Nodup)(h:Rl c0 es st.last body s s' env)(h0:0<=st.last)(hb:st.last+(ql c0.ts es:Nat)<1000000000000)(ht:tkn es nm)(hs:Sub k' k) :
  Rl c0 es (renI c0.ts es env nm body st).2.last body ((nm,k) :: s) (((renI c0.ts es env nm body st).1.2,k') :: s') (renI c0.ts es env nm body st).1.1/\st.last<=(renI c0.ts es env nm body st).2.last/\(tkn es (renI c0.ts es env nm body st).1.2\/vLe es (renI c0.ts es env nm body st).2.last (renI c0.ts es env nm body st).1.2):=by
 have a1:∀ v,lookS v ((nm,k) :: s)=if nm=v then some k else lookS v s:=fun v=>vJ v _ _
 unfold renI;by_cases hc:body=true\/means c0.ts nm≠[]
 .rw [if_pos hc]
  have a2:=a6 st.last h0;have r:=UA a2;have a9:=Uj c0.ts es (ql c0.ts es) st.last;have a8:=X2 a2;generalize zj c0.ts es (ql c0.ts es) st.last=J at *
  obtain⟨j,rfl⟩:∃ j:Nat,J=j:=⟨J.toNat,zOm⟩;simp only[yr,qB,decide_eq_true_eq]at r;obtain⟨f1,f2⟩:=r;have hv:vLe es (j:Int) (vN j):=⟨j,j9 _,rfl,f1,qmC zOm⟩;have l:∀ v,v≠vN (j:Int)->lookS v ((vN (j:Int),k') :: s')=lookS v s':=fun v hv=>by
   rw[vJ,if_neg (fun e=>hv e.symm)]
  have a3:∀{v:ByteArray},vLe es st.last v->v≠vN (j:Int):=fun⟨i,hi,e,_⟩ o=>by
   rw[e]at o;have:=Ka o;omega
  have a4:∀ v,getK v (setK nm ⟨none,0,vN (j:Int)⟩ (delK nm env))=if v=nm then some ⟨none,0,vN (j:Int)⟩ else getK v env:=fun v=>by
   rw[jB,uW a0];split<;>rfl
  refine⟨⟨fun v P=>?_,fun v t=>?_,fun C v R g=>?_⟩,by show st.last<=(j:Int);omega,.inr hv⟩
  .rcases qt.1 P with rfl|P
   .exact f2
   .exact h.mean v P
  .show RlV c0 es (j:Int) ((vN (j:Int),k') :: s') v (lookS v ((nm,k) :: s)) (getK v (setK nm ⟨none,0,vN (j:Int)⟩ (delK nm env)))
   rw[a1,a4];by_cases I:nm=v
   .rw [if_pos I,if_pos I.symm]
    exact⟨⟨k',by rw[vJ,if_pos rfl],hs⟩,hv⟩
   .rw [if_neg I,if_neg (fun e=>I e.symm)]
    have p:=(h.rel v t).mono (L':=(j:Int)) zOm;have T:=h.rel v t;generalize lookS v s=lk at *
    generalize getK v env=R at *
    match lk,R with
    |none,none=>trivial
    |none,some _=>exact p
    |some q,none =>
     obtain⟨U,e1,o⟩:=p;exact⟨U,by rw[l v (fun e=>f1 (e ▸ t))];exact e1,o⟩
    |some q,some ⟨some a,_,_⟩ =>
     have p:ArgR c0 es (j:Int) s' q a:=p;have T:ArgR c0 es st.last s' q a:=T;refine(⟨?_,p.good,p.kd⟩:ArgR c0 es (j:Int) ((vN (j:Int),k') :: s') q a);obtain⟨U,e1,o⟩:=p.ex;refine⟨U,?_,o⟩;rw[<-e1];refine XX (ua.refl c0) (szN a) a _ _ true (qm _) fun x hx=>?_
     obtain⟨y,hy,rfl⟩:=ql8 hx;rcases (T.good.all y hy).nm with h1|h1
     .exact l _ (fun e=>f1 (e ▸ h1))
     .exact l _ (a3 h1)
    |some q,some ⟨none,_,to⟩ =>
     obtain⟨⟨U,e1,o⟩,e3⟩:=p;exact⟨⟨U,by rw[l to (a3 T.2)];exact e1,o⟩,e3⟩
  .have g:getK v (setK nm ⟨none,0,vN (j:Int)⟩ (delK nm env))=some R:=g
   rw[a4]at g;split at g
   .cases g;rfl
   .exact h.arg C v R g
 .rw [if_neg hc]
  have C:body=false:=by
   cases body with
   |false=>rfl
   |true=>exact absurd (.inl rfl) hc
  have a7:means c0.ts nm=[]:=by
   by_cases P:means c0.ts nm=[]
   .exact P
   .exact absurd (.inr P) hc
  have l:∀ v,v≠nm->lookS v ((nm,k') :: s')=lookS v s':=fun v hv=>by
   rw[vJ,if_neg (fun e=>hv e.symm)]
  refine⟨⟨fun v P=>?_,fun v t=>?_,fun C v R g=>?_⟩,j9 _,.inl ht⟩
  .rcases qt.1 P with rfl|P
   .exact a7
   .exact h.mean v P
  .show RlV c0 es st.last ((nm,k') :: s') v (lookS v ((nm,k) :: s)) (getK v (delK nm env))
   rw[a1,uW a0];by_cases I:nm=v
   .rw [if_pos I,if_pos I.symm]
    exact⟨k',by rw[vJ,if_pos I],hs⟩
   .rw [if_neg I,if_neg (fun e=>I e.symm)]
    have p:=h.rel v t;have a5:=h.arg C v;generalize lookS v s=lk at *
    generalize getK v env=R at *
    match lk,R with
    |none,none=>trivial
    |none,some _=>exact p
    |some q,none =>
     obtain⟨U,e1,o⟩:=p;exact⟨U,by rw[l v (fun e=>I e.symm)];exact e1,o⟩
    |some q,some ⟨some a,_,_⟩=>exact absurd (a5 _ rfl) zSp
    |some q,some ⟨none,_,to⟩ =>
     obtain⟨⟨U,e1,o⟩,e3⟩:=p;refine⟨⟨U,?_,o⟩,e3⟩;rw[l to fun e=>?_]
     .exact e1
     .obtain ⟨_,_,_,hn,_⟩:=e3
      exact hn (e ▸ ht)
  .have g:getK v (delK nm env)=some R:=g
   rw[uW a0]at g;split at g
   .cases g
   .exact h.arg C v R g
structure Out (c0:Ck) (es:List (ByteArray×Bool)) (s':Scp) (inn:Bool) (n n':Nd) (ko:Option Kd) (L L':Int):Prop where
 ex:∃ ko',exam c0 s' inn n' = .ok ko'/\(kd n.op=101->∃ k k',ko=some k/\ko'=some k'/\Sub k' k)
 good:vr es L' n'
 kd:kd n'.op=kd n.op
 le:L<=L'
def Pt(es:List (ByteArray×Bool))(L:Int):List Nd->List Nd->List (Option Kd)->List (Option Kd)->Prop
 | [],[],[],[]=>True
 |k :: ks,i :: g,a :: l,o :: p=>((kd k.op=101->∃ q j,a=some q/\o=some j/\Sub j q)/\kd i.op=kd k.op/\vr es L i)/\Pt es L ks g l p
 |_,_,_,_=>False
theorem Pt.spec:∀{ks g:List Nd} {l l':List (Option Kd)},Pt es L ks g l l'->(g.map fun k=>kd k.op)=(ks.map fun k=>kd k.op)/\∀ k,k∈g->vr es L k
 | [],[],[],[],_=>⟨rfl,fun k i=>absurd i qE⟩
 |k :: ks,k' :: g,a :: l,C :: l',h=>by
  obtain⟨⟨I,j,o⟩,p⟩:=h;obtain⟨r,t⟩:=Pt.spec p;refine⟨by rw[List.map_cons,List.map_cons,j,r],fun x hx=>?_⟩;rcases qt.1 hx with rfl|hx
  .exact o
  .exact t x hx
theorem Pt.cons{k:Nd}{ks j:List Nd}(h:Pt es L (k :: ks) j l l'):∃ k' g a l2 o i,j=k' :: g/\l=a :: l2/\l'=o :: i/\(kd k.op=101->∃ q p,a=some q/\o=some p/\Sub p q)/\Pt es L ks g l2 i:=by
 cases j with
 |nil=>cases l<;>cases l'<;>exact h.elim
 |cons k' g =>
  cases l with
  |nil=>cases l'<;>exact h.elim
  |cons a l2 =>
   cases l' with
   |nil=>exact h.elim
   |cons o i=>exact⟨k',g,a,l2,o,i,rfl,rfl,rfl,h.1.1,h.2⟩
theorem Pt.nil{g:List Nd}(h:Pt es L [] g l l'):l=[]/\l'=[]:=by
 cases g with
 |nil =>
  cases l with
  |nil=>cases l' with
   |nil=>exact⟨rfl,rfl⟩
   |cons a l=>exact h.elim
  |cons a l=>cases l'<;>exact h.elim
 |cons k ks=>cases l<;>cases l'<;>exact h.elim
theorem Pt.one{ks i:List Nd}(h:Pt es L ks i l l')(g:(ks.map fun k=>kd k.op)=[101]):∃ a j,l=[some a]/\l'=[some j]/\Sub j a:=by
 match ks,g with
 | [k],g =>
  obtain⟨I,o,a,J,j,p,rfl,rfl,rfl,r,t⟩:=h.cons;obtain⟨rfl,rfl⟩:=t.nil;obtain⟨q,C,rfl,rfl,e⟩:=r (zUs g);exact⟨q,C,rfl,rfl,e⟩
 | [],g=>simp at g
 |_ :: _ :: _,g=>simp at g
theorem Pt.two{ks i:List Nd}(h:Pt es L ks i l l')(g:(ks.map fun k=>kd k.op)=[101,101]):∃ a b o b',l=[some a,some b]/\l'=[some o,some b']/\Sub o a/\Sub b' b:=by
 match ks,g with
 | [k,j],g =>
  have g:kd k.op=101/\kd j.op=101:=zUs g;obtain⟨k',r,a,l2,o,t,rfl,rfl,rfl,C,I⟩:=h.cons;obtain⟨_,_,b,l3,b',J,rfl,rfl,rfl,P,R⟩:=I.cons;obtain⟨rfl,rfl⟩:=R.nil;obtain⟨q,T,rfl,rfl,e⟩:=C g.1;obtain⟨p,U,rfl,rfl,e2⟩:=P g.2;exact⟨q,p,T,U,rfl,rfl,e,e2⟩
 | [],g=>simp at g
 | [_],g=>simp at g
 |_ :: _ :: _ :: _,g=>simp at g
theorem qa2{c:Ck}{F:Nat}{inn:Bool}{E:IEnv->Nd->ISt->XR (Nd×Int)}{R:IEnv->ByteArray->ISt->(IEnv×ByteArray)×ISt} :
  ∀{ks:List Nd} {i:Nat} {nm nm':ByteArray} {st g:ISt} {j:List Nd} {I:Int} {l:List (Option Kd)},
  (∀ k,k∈ks->∀ st n' z g C,StOk F st->Rl c0 es st.last body s s' env->E env k st = .ok ((n',z),g)->exam c s inn k = .ok C->Out c0 es s' inn k n' C st.last g.last/\StOk F g) ->
  StOk F st->Rl c0 es st.last body s s' env->ya E R false i env nm ks st = .ok ((nm',j,I),g)->qQ c s inn ks = .ok l ->
  nm'=nm/\st.last<=g.last/\∃ l',qQ c0 s' inn j = .ok l'/\Pt es g.last ks j l l'
 | [],i,nm,nm',st,g,j,I,l,_,p,J,e,el=>by
  cases e;simp only[qQ,Except.ok.injEq]at el;subst el;exact⟨rfl,j9 _,[],by simp only[qQ],trivial⟩
 |k :: ks,i,nm,nm',st,g,j,I,l,T,p,J,e,el=>by
  simp only[ya,Bool.false_eq_true,false_and,if_false]at e;simp only[qQ]at el;split at e
  .cases e
  .rename_i k' U s1 h1
   cases hx:exam c s inn k with
   |error er=>rw[hx]at el;cases el
   |ok C =>
    rw[hx]at el;simp only at el;obtain⟨r,t⟩:=T k (q8 ..) st k' U s1 C p J h1 hx;cases o:qQ c s inn ks with
    |error er=>rw[o]at el;cases el
    |ok l1 =>
     rw[o]at el;cases el;split at e
     .cases e
     .rename_i a0 a1 m2 s2 h2
      obtain⟨e1,e2,l',e3,e4⟩:=qa2 (fun k hk=>T k (qY _ hk)) t (J.mono r.le) h2 o;cases e;obtain⟨P,x1,x2⟩:=r.ex;refine⟨e1,zW1 r.le,P :: l',?_,⟨⟨x2,r.kd,r.good.mono e2⟩,e4⟩⟩;simp only[qQ];rw[x1,e3]
theorem Zb{c:Ck}{op:Int}{nm:ByteArray}(h:op≠47):zL c op nm=yh op:=by
 simp[zL,h]
theorem vr.node{n:Nd}{nm:ByteArray}{ks:List Nd}(t:WfN n)(g:(ks.map fun k=>kd k.op)=(n.kids.map fun k=>kd k.op))(hg:∀ k,k∈ks->vr es L k)(h47:n.op≠47)(o:ownB n=true)
  (C:nm=n.name/\tkn es nm\/vLe es L nm/\yY n.name=true):vr es L (.mk n.op nm n.n ks n.pos):=by
 have i:ks.length=n.kids.length:=by have:=congrArg List.length g;simpa using this
 have l:yY nm=yY n.name/\(nm=⟨#[]⟩↔n.name=⟨#[]⟩):=by
  rcases C with ⟨rfl,_⟩|⟨J,p⟩
  .exact ⟨rfl,Iff.rfl⟩
  .obtain ⟨j,_,_,_,r⟩:=J
   refine⟨r.trans p.symm,fun e=>?_,fun e=>?_⟩
   .rw [e]at r;exact absurd r zDe
   .rw [e]at p;exact absurd p zDe
 refine⟨.mk _ ?_ (fun h=>?_) fun k g=>(hg k g).wf,fun x hx=>?_⟩
 .show shp n.op ks.length=some (ks.map fun k=>kd k.op)
  rw[i,g];exact t.shape
 .exact t.num h
 .rw [ub]at hx
  rcases qt.1 hx with rfl|hx
  .refine ⟨h47,?_,?_⟩
   .unfold ownB at o⊢
    show (if u9 n.op=yY nm/\(u9 n.op=true\/nm=⟨#[]⟩) then numB n.op n.n else false)=true;split at o
    .rename_i I
     rw[if_pos ⟨by rw[l.1];exact I.1,I.2.imp id l.2.2⟩];exact o
    .cases o
   .rcases C with ⟨_,h⟩|⟨h,_⟩
    .exact .inl h
    .exact .inr h
  .obtain ⟨k,g,hx⟩:=Uz hx
   exact(hg k g).all x hx
end
end PD
namespace PE
open P1 P2 Y1 Y2 Y3 Y9 Y10 Y14 YX YZ YA YB PA YC Q3 Q4 PB PC PD
section
variable {inn:Bool}{c c0:Ck}{es:List (ByteArray×Bool)}{s s':Scp}
theorem JQ{n:Nd}(h:n.op=1):exam c s inn n=jg c s n.name n.pos:=by
 rw[yD,Zb zOm,h,show yh 1=false from rfl,Bool.and_false,if_neg zSp,if_pos rfl]
theorem qm3{n:Nd}{k:Option Kd}(h:exam c s true n = .ok k):exam c s inn n = .ok k:=by
 cases inn with
 |true=>exact h
 |false=>exact qaA c (szN n) n s k (qm _) h
theorem KE{n:Nd}(i:WfN n)(h:n.op=1):n.kids=[]:=by
 have g:=i.shape;unfold shp at g;rw[if_pos (.inl h)]at g;simp only[qp]at g;exact List.map_eq_nil_iff.1 g.symm
theorem qa3{L:Int}{n:Nd}(g:WfN n)(h:n.op=1)(i:tkn es n.name)(j:ownB n=true):vr es L n:=
 ⟨g,fun x hx=>by
  rw[ub,KE g h]at hx;simp[zo]at hx;subst hx;exact⟨zOm,j,.inl i⟩⟩
theorem qa4{n:Nd}(g:ownB n=true)(h:u9 n.op=true):yY n.name=true:=by
 unfold ownB at g;split at g
 .rename_i i;rw[<-i.1];exact h
 .cases g
theorem qm4{body:Bool}{env:IEnv}{n n':Nd}{z:Int}{st j:ISt}{P:Option Kd}(o:c.ts=c0.ts)(i:n.op=1)(I:WfN n)(R:tkn es n.name)(J:ownB n=true)(U:Rl c0 es st.last body s s' env)
  (e:j0 env n st = .ok ((n',z),j)) (x:exam c s inn n = .ok P):Out c0 es s' inn n n' P st.last j.last:=by
 rw[JQ i,w7]at x;have g:=U.rel n.name R;unfold j0 at e;cases hg:getK n.name env with
 |none =>
  rw[hg]at e g;cases e;cases p:lookS n.name s with
  |some k =>
   rw[p]at g x;obtain⟨r,t,C⟩:=g;cases x;exact⟨⟨some r,by rw[JQ i,w7,t],fun _=>⟨_,_,rfl,rfl,C⟩⟩,qa3 I i R J,rfl,j9 _⟩
  |none =>
   rw[p]at x;simp only at x;have T:lookS n.name s'=none:=by
    cases T:lookS n.name s' with
    |none=>rfl
    |some q =>
     have:=U.mean _ (JP T);rw[o,this]at x;cases x
   refine⟨⟨P,by rw[JQ i,w7,T,<-o];exact x,fun _=>?_⟩,qa3 I i R J,rfl,j9 _⟩;split at x
   .cases x
   .cases x;exact⟨_,_,rfl,rfl,Sub.refl _⟩
   .cases x
 |some iv =>
  obtain⟨a,l,to⟩:=iv;rw[hg]at e g;simp only at e;cases p:lookS n.name s with
  |none=>rw[p]at g;exact g.elim
  |some k =>
   rw[p]at g x;cases x;cases a with
   |none =>
    cases e;obtain⟨⟨r,t,C⟩,e3⟩:=g;refine⟨⟨some r,by rw[JQ (n := .mk n.op to n.n n.kids n.pos) i,w7];show (match lookS to s' with|some k=>_|none=>_)=_;rw[t],fun _=>⟨_,_,rfl,rfl,C⟩⟩,?_,rfl,j9 _⟩;refine vr.node I rfl (fun k hk=>?_) zOm J (.inr ⟨e3,qa4 J (by rw[i];rfl)⟩);rw[KE I i]at hk;exact absurd hk qE
   |some a =>
    simp only at e;have g:ArgR c0 es st.last s' k a:=g;obtain⟨r,t,C⟩:=g.ex;split at e
    .cases e
     exact⟨⟨some r,qm3 t,fun _=>⟨_,_,rfl,rfl,C⟩⟩,g.good,by rw[g.kd,i];rfl,j9 _⟩
    .cases e
def OwnV(c0:Ck)(es:List (ByteArray×Bool))(L:Int)(s':Scp):Option Kd->Option IV->Prop
 |none,none=>True
 |some k,some ⟨some a,_,_⟩=>ArgR c0 es L s' k a
 |_,_=>False
theorem OwnV.mono{L L':Int}{g:Option Kd}{i:Option IV}(h:OwnV c0 es L s' g i)(j:L<=L'):OwnV c0 es L' s' g i:=by
 match g,i with
 |none,none=>exact h
 |none,some _=>exact h.elim
 |some k,none=>exact h.elim
 |some k,some ⟨some a,_,_⟩ =>
  have h:ArgR c0 es L s' k a:=h;exact(⟨h.ex,h.good.mono j,h.kd⟩:ArgR c0 es L' s' k a)
 |some k,some ⟨none,_,l⟩=>exact h.elim
theorem qm5{ns:Nat}{i:Int}{a:Kd}(h:okKd ns a)(g:a.ar=1)(p:vU i a=true):Sub a (kOf [i]):=⟨by rw[g];rfl,fun t j=>by
 obtain⟨l,rfl,o,_⟩:=h.ts t j;rw[g]at o
 match l,o with
 | [y],_ =>
  have:=qI.1 p _ j;simp[pad]at this;subst this;exact qL.2 rfl⟩
theorem KF{ns:Nat}{F:Nat}{body:Bool}{env:IEnv}{pos:Int}{E:Nd->ISt->XR (Nd×Int)}{P:Option Kd} :
  ∀{ks:List Nd} {ps:List (ByteArray×Int)} {own i:IEnv} {sc:Scp} {st g:ISt},
  (∀ k,k∈ks->∀ st n' z g P,StOk F st->Rl c0 es st.last body s s' env->E k st = .ok ((n',z),g)->exam c s true k = .ok P->Out c0 es s' true k n' P st.last g.last/\StOk F g) ->
  (∀ k,k∈ks->kd k.op=101)->(∀ k,k∈ks->∀ a,exam c s true k = .ok (some a)->okKd ns a)->StOk F st->Rl c0 es st.last body s s' env ->
  (∀ v,OwnV c0 es st.last s' (lookS v sc) (getK v own))->ps.length=ks.length->zN c s pos ps ks = .ok P->yF E ps ks own st = .ok (i,g) ->
  st.last<=g.last/\∀ v,OwnV c0 es g.last s' (lookS v (ps.foldl (fun s p=>(p.1,kOf [p.2]) :: s) sc)) (getK v i)
 | [],[],own,i,sc,st,g,_,_,_,_,_,U,_,_,e=>by
  cases e;exact⟨j9 _,U⟩
 |k :: ks,p :: ps,own,i,sc,st,g,hE,R,o,a0,hr,U,r,x,e=>by
  simp only[zN]at x;simp only[yF]at e;cases hx:exam c s true k with
  |error er=>rw[hx]at x;cases x
  |ok ka =>
   cases ka with
   |none=>rw[hx]at x;cases x
   |some a =>
    rw[hx]at x;simp only at x;by_cases j:a.ar=1
    .rw [if_pos j]at x
     by_cases l:vU p.2 a=true
     .rw [if_pos l]at x
      split at e
      .cases e
      .rename_i k' m s1 h1
       obtain⟨out,t⟩:=hE k (q8 ..) st k' m s1 _ a0 hr h1 hx;obtain⟨a1,x1,x2⟩:=out.ex;have C:=R k (q8 ..);obtain⟨q,q',y1,y2,y3⟩:=x2 C;cases y1;subst y2;have hs:=y3.trans (qm5 (o k (q8 ..) a hx) j l);have I:ArgR c0 es s1.last s' (kOf [p.2]) k':=⟨⟨q',x1,hs⟩,out.good,by rw[out.kd];exact C⟩;have J:∀ v,OwnV c0 es s1.last s' (lookS v ((p.1,kOf [p.2]) :: sc)) (getK v (setK p.1 ⟨some k',m,⟨#[]⟩⟩ own)):=fun v=>by
        rw[vJ,jB];by_cases T:p.1=v
        .rw [if_pos T,if_pos T.symm]
         exact I
        .rw [if_neg T,if_neg (fun e=>T e.symm)]
         exact(U v).mono out.le
       obtain⟨r1,r2⟩:=KF (sc:=(p.1,kOf [p.2]) :: sc) (fun k R=>hE k (qY _ R)) (fun k h=>R k (qY _ h)) (fun k h=>o k (qY _ h)) t (hr.mono out.le) J (zUs r) x e;exact⟨zW1 out.le,r2⟩
     .rw [if_neg l]at x;cases x
    .rw [if_neg j]at x;cases x
 | [],_ :: _,_,_,_,_,_,_,_,_,_,_,_,r,_,_=>by simp at r
 |_ :: _,[],_,_,_,_,_,_,_,_,_,_,_,r,_,_=>by simp at r
def Zc(ts:TS)(es:List (ByteArray×Bool)):Prop:=∀(i:Nat) (j:i<ts.preds.length),(∃ g,exam (mkCk ts i) (zJ ts.preds[i].params) false ts.preds[i].body = .ok g)/\30<=ts.preds[i].body.op/\WfN ts.preds[i].body/\Tk es ts.preds[i].body/\OwnT ts.preds[i].body
abbrev ckF(ts:TS):Ck:=mkCk ts ts.preds.length
def IHx(ts:TS)(es:List (ByteArray×Bool))(f:Nat):Prop:=∀(env:IEnv) (n:Nd) (i:Bool) (U:ISt) (l:Nd) (z:Int) (g:ISt) (s o:Scp) (j:Bool) (m:Nat) (p:Option Kd),
 m<=ts.preds.length->WfN n->Tk es n->OwnT n->ScOk ts.sorts.length s->StOk (ql ts es) U->zl env->Rl (ckF ts) es U.last i s o env ->
 expI ts es f env n i U = .ok ((l,z),g)->exam (mkCk ts m) s j n = .ok p->Out (ckF ts) es o j n l p U.last g.last
theorem qa5{n:Nd}(i:WfN n)(h:30<=n.op):kd n.op=102:=by
 have g:=i.shape;have:n.op<=51:=by
  by_cases j:n.op<=51
  .exact j
  .exfalso
   unfold shp at g;rw[if_neg zOm,if_neg zOm,if_neg zOm,if_neg zOm,if_neg zOm,if_neg zOm,if_neg zOm,if_neg zOm]at g;cases g
 unfold kd;rw[if_neg zOm,if_neg zOm,if_pos ⟨h,this⟩]
theorem UB{n:Nd}(i:WfN n)(h:n.op=47):∀ k,k∈n.kids->kd k.op=101:=by
 have g:=i.shape;have e:shp n.op n.kids.length=some (qZ (min n.kids.length 401) 101):=by
  unfold shp;rw[if_neg zOm,if_neg zOm,if_neg zOm,if_neg zOm,if_neg zOm,if_neg zOm,if_neg zOm,if_pos h]
 rw[e]at g;simp only[qp]at g;intro k j;have:kd k.op∈n.kids.map fun k=>kd k.op:=qr.2 ⟨k,j,rfl⟩
 rw[<-g]at this;exact List.eq_of_mem_replicate this
theorem qm6(ts:TS)(h:okTS ts)(es:List (ByteArray×Bool))(hP:Zc ts es)(a3:Free ts es)(f:Nat)(ih:IHx ts es f)(env:IEnv)(n:Nd)(body:Bool)(st:ISt)(n':Nd)(z:Int)(l:ISt)(s s':Scp)(inn:Bool)(m:Nat)(ko:Option Kd)
  (hm:m<=ts.preds.length) (hw:WfN n) (ht:Tk es n) (ho:OwnT n) (hs:ScOk ts.sorts.length s) (r:StOk (ql ts es) st) (R:zl env) (hr:Rl (ckF ts) es st.last body s s' env) (h47:n.op=47)
  (e:((match ts.preds.find? fun p=>decide (p.name=n.name) with
    |none=>Except.error (2,0)
    |some p=>vq (yF (fun k s=>expI ts es f env k body s) p.params n.kids [] st) fun own s'=>expI ts es f own p.body true s'):XR (Nd×Int)) = .ok ((n',z),l))
  (x:exam (mkCk ts m) s inn n = .ok ko):Out (ckF ts) es s' inn n n' ko st.last l.last:=by
 have hc:okCk (mkCk ts m):=vG h hm;rw[yD,if_neg (show ¬n.op=1 by omega),if_pos h47]at x;split at x
 .cases x
 rename_i I;split at x
 .cases g:zn (mkCk ts m) n.name with
  |none=>rw[g]at x;cases x
  |some i =>
   obtain⟨T,t⟩:=wT hc g;have T:i<m:=T;have t:i<ts.preds.length:=t;rw[g]at x;simp only at x;have x:((match ts.preds[i]? with|none=>Except.error (45,n.pos)|some C=>if C.params.length=n.kids.length then zN (mkCk ts m) s n.pos C.params n.kids else .error (45,n.pos)):Res) = .ok ko:=x;rw[qA t]at x;simp only at x;have U:(ts.preds.find? fun p=>decide (p.name=n.name))=some ts.preds[i]:=by
    unfold zn at g;rw[List.findIdx?_eq_some_iff_getElem]at g;obtain⟨hi,a1,a2⟩:=g;rw[List.find?_eq_some_iff_getElem];refine⟨?_,i,t,rfl,fun j hj=>?_⟩
    .have:=a1
     simp only[List.getElem_take]at this;exact this
    .have:=a2 j hj
     simp only[List.getElem_take]at this;have h3:¬decide (ts.preds[j].name=n.name)=true:=this;simpa using h3
   rw[U]at e;simp only at e;obtain⟨⟨kb,hb⟩,a4,a5,ae,af⟩:=hP i t;have ag:=h.pl _ (qy t);generalize ah:ts.preds[i]=C at *
   by_cases J:C.params.length=n.kids.length
   .rw [if_pos J]at x
    obtain⟨own,s1,h1,e⟩:=Qx e;have a6:=UB hw h47;have a7:∀ k,k∈n.kids->∀ st n' z l,StOk (ql ts es) st->expI ts es f env k body st = .ok ((n',z),l)->StOk (ql ts es) l:=fun k P st n' z l r e=>(yZ ts a3 f r R e).ok r
    obtain⟨g1,g2⟩:=KF (c:=mkCk ts m) (c0:=ckF ts) (ns:=ts.sorts.length) (F:=ql ts es) (body:=body) (s:=s) (s':=s') (env:=env) (sc:=[]) (own:=[])
     (fun k P st n' z l ko r hr e x=>⟨ih env k body st n' z l s s' true m ko hm (hw.kid P) (ht.kid P) (ho.kid P) hs r R hr e x,a7 k P st n' z l r e⟩)
     a6 (fun k P a hx=>by
      obtain⟨q,e1,e2⟩:=vj hc (szN k) k s true _ (qm _) (hw.kid P) hs hx (a6 k P);cases e1;exact e2)
     r hr (fun v=>trivial) J x h1
    obtain⟨a8,ai⟩:=Uk (F:=ql ts es) (fun k n' z s s' _ hs hE=>yZ ts a3 f hs R hE) r .nil h1;have a9:=ai.ok r;have aj:Rl (ckF ts) es s1.last true (zJ C.params) s' own:=⟨hr.mean,fun v hv=>by
     have:=g2 v;have:OwnV (ckF ts) es s1.last s' (lookS v (zJ C.params)) (getK v own):=this;generalize lookS v (zJ C.params)=lk at *
     generalize getK v own=iv at *
     match lk,iv with
     |none,none=>trivial
     |some k,some ⟨some a,_,_⟩=>exact this
     |none,some _=>exact this.elim
     |some k,none=>exact this.elim
     |some k,some ⟨none,_,_⟩=>exact this.elim,fun ak=>by cases ak⟩
    have aa:ScOk ts.sorts.length (zJ C.params):=Uc ⟨zOm,ag.2⟩;have al:exam (mkCk ts i) (zJ C.params) inn C.body = .ok kb:=by
     cases ab:inn with
     |false=>exact hb
     |true =>
      rw[<-hb];refine KA _ (szN C.body) C.body _ _ _ (qm _) ?_;rw[ab]at I;have a0:zL (mkCk ts m) n.op n.name=false:=by simpa using I
      unfold zL at a0;rw[g,h47]at a0;have:=JL ts i m T hm t;rw[ah]at this;rw[<-this];have ad:(yh 47||(decide ((47:Int)=47)&&(tmsL ts m).getD i false))=false:=a0;simpa using (Bool.or_eq_false_iff.1 ad).2
    have out:=ih own C.body true s1 n' z l (zJ C.params) s' inn i kb zOm a5 ae af aa a9 a8 aj e al;obtain⟨an,x1,_⟩:=out.ex;refine⟨⟨an,x1,fun P=>?_⟩,out.good,?_,zW1 out.le⟩
    .rw [h47]at P;exact absurd P zDe
    .rw [out.kd,qa5 a5 a4,h47];rfl
   .rw [if_neg J]at x;cases x
 .cases x
theorem qa6{n:Nd}(i:WfN n)(h:n.op=5\/n.op=11\/n.op=12\/n.op=13):(n.kids.map fun k=>kd k.op)=[101]:=by
 have g:=i.shape;unfold shp at g;rw[if_neg zOm,if_pos zOm]at g;simp only[qp]at g;exact g.symm
theorem qm7{n:Nd}(i:WfN n)(h:n.op=6\/n.op=14\/n.op=7\/n.op=8\/n.op=32\/n.op=33\/n.op=9\/n.op=10):(n.kids.map fun k=>kd k.op)=[101,101]:=by
 have g:=i.shape;unfold shp at g;rw[if_neg zOm,if_neg zOm,if_pos zOm]at g;simp only[qp]at g;exact g.symm
theorem JN{n:Nd}(i:WfN n)(h:n.op=15\/n.op=45\/n.op=46):∃ a f,n.kids=[a,f]/\kd a.op=101:=by
 have g:=i.shape;unfold shp at g;rw[if_neg zOm,if_neg zOm,if_neg zOm,if_pos zOm]at g;simp only[qp]at g
 match j:n.kids,g with
 | [a,f],g =>
  simp at g;exact⟨a,f,rfl,g.1.symm⟩
 | [],g=>simp at g
 | [_],g=>simp at g
 |_ :: _ :: _ :: _,g=>simp at g
theorem qm8(ts:TS)(h:okTS ts)(es:List (ByteArray×Bool))(a2:Free ts es)(f:Nat)(ih:IHx ts es f)(env:IEnv)(n:Nd)(body:Bool)(st:ISt)(nm':ByteArray)(t:List Nd)(z:Int)(r:ISt)(s s':Scp)(inn:Bool)(m:Nat)(ko:Option Kd)
  (hm:m<=ts.preds.length) (P:WfN n) (ht:Tk es n) (ho:OwnT n) (hs:ScOk ts.sorts.length s) (p:StOk (ql ts es) st) (R:zl env) (hr:Rl (ckF ts) es st.last body s s' env) (h47:n.op≠47) (h1:n.op≠1) (T:¬(n.op=15\/n.op=45\/n.op=46))
  (e:ya (fun env k s=>expI ts es f env k body s) (fun env nm s=>renI ts es env nm body s) (binB n.op) 0 env n.name n.kids st = .ok ((nm',t,z),r))
  (x:exam (mkCk ts m) s inn n = .ok ko):Out (ckF ts) es s' inn n (.mk n.op nm' n.n t n.pos) ko st.last r.last:=by
 have hc:okCk (mkCk ts m):=vG h hm;have a3:binB n.op=false:=by
  unfold binB;simp only[not_or]at T;simp[T]
 rw[a3]at e;rw[yD,Zb h47,if_neg h1,if_neg h47,if_neg T]at x;split at x
 .cases x
 rename_i C;have j:=x;clear x;generalize hB:(inn||decide (n.op=12)||decide (n.op=13))=B at j;cases hl:qQ (mkCk ts m) s B n.kids with
 |error er=>rw[hl]at j;cases j
 |ok l =>
  rw[hl]at j;simp only at j;obtain⟨rfl,a4,l',a5,I⟩:=qa2 (c:=mkCk ts m) (c0:=ckF ts) (F:=ql ts es) (body:=body) (s:=s) (s':=s') (env:=env)
   (fun k hk st n' z r ko p hr e x=>⟨ih env k body st n' z r s s' B m ko hm (P.kid hk) (ht.kid hk) (ho.kid hk) hs p R hr e x,(yZ ts a2 f p R e).ok p⟩) p hr e hl
  obtain⟨U,J⟩:=I.spec;have a0:=Jt hl;obtain⟨a6,y1,y2⟩:=ql4 (ns:=ts.sorts.length) h.ns (op:=n.op) (num:=n.n) (pos:=n.pos) (l:=l) (l':=l') h1 (fun e=>T (.inl e)) (fun g=>by
    obtain⟨a,a',rfl,rfl,e3⟩:=I.one (qa6 P g);refine⟨a,a',rfl,rfl,e3,?_⟩;have i:=qa6 P g
    match a1:n.kids,i with
    | [k],i =>
     rw[a1]at a0;have hx:=a0.2 0 k (some a) rfl rfl;obtain⟨q,e1,e2⟩:=vj hc (szN k) k s B _ (qm _) (P.kid (by rw[a1];simp)) hs hx (zUs i);cases e1;exact e2
    | [],i=>simp at i
    |_ :: _ :: _,i=>simp at i)
   (fun g=>I.two (qm7 P g)) j
  refine⟨⟨a6,?_,y2⟩,vr.node P U J h47 (ho n (jQ n)) (.inl ⟨rfl,ht n (jQ n)⟩),rfl,a4⟩;rw[yD];show (if (inn&&zL (ckF ts) n.op n.name)=true then _ else if n.op=1 then _ else if n.op=47 then _ else if n.op=15\/n.op=45\/n.op=46 then _ else match qQ (ckF ts) s' (inn||decide (n.op=12)||decide (n.op=13)) t with | .error e=>_ | .ok l=>z7 ts.sorts.length n.op n.n n.pos l)=_;rw[Zb h47,if_neg C,if_neg h1,if_neg h47,if_neg T,hB,a5];exact y1
theorem qm9(ts:TS)(h:okTS ts)(es:List (ByteArray×Bool))(hF:ql ts es<=200000)(C:Free ts es)(f:Nat)(ih:IHx ts es f)(env:IEnv)(n:Nd)(body:Bool)(st:ISt)(nm':ByteArray)(a1:List Nd)(z:Int)(R:ISt)(s s':Scp)(inn:Bool)(m:Nat)(ko:Option Kd)
  (hm:m<=ts.preds.length) (hw:WfN n) (ht:Tk es n) (ho:OwnT n) (hs:ScOk ts.sorts.length s) (T:StOk (ql ts es) st) (af:(ql ts es:Nat)<=pot (ql ts es) st) (I:zl env) (hr:Rl (ckF ts) es st.last body s s' env) (hb:n.op=15\/n.op=45\/n.op=46)
  (e:ya (fun env k s=>expI ts es f env k body s) (fun env nm s=>renI ts es env nm body s) (binB n.op) 0 env n.name n.kids st = .ok ((nm',a1,z),R))
  (x:exam (mkCk ts m) s inn n = .ok ko):Out (ckF ts) es s' inn n (.mk n.op nm' n.n a1 n.pos) ko st.last R.last:=by
 have hc:okCk (mkCk ts m):=vG h hm;have a7:binB n.op=true:=by
  unfold binB;rcases hb with h|h|h<;>simp[h]
 have h47:n.op≠47:=zOm;have h1:n.op≠1:=zOm;rw[a7]at e;rw[yD,Zb h47,if_neg h1,if_neg h47,if_pos hb]at x;split at x
 .cases x
 rename_i U;obtain⟨a,g,J,a2⟩:=JN hw hb;have ma:a∈n.kids:=by rw[J];simp
 have mg:g∈n.kids:=by rw[J];simp
 rw[J]at e x;generalize hB:(inn||decide (n.op=15))=B at x;simp only[z8,qQ]at x;simp only[ya,yy,true_and,Nat.zero_ne_one,if_false,if_true]at e;cases o:exam (mkCk ts m) s B a with
 |error er=>rw[o]at x;cases x
 |ok ka =>
  cases ka with
  |none=>rw[o]at x;cases x
  |some k =>
   rw[o]at x;simp only at x;by_cases P:k.ar=1
   .rw [if_pos P]at x
    split at e
    .cases e
    .rename_i a' m1 s1 e1
     have out:=ih env a body st a' m1 s1 s s' B m _ hm (hw.kid ma) (ht.kid ma) (ho.kid ma) hs T I hr e1 o;have a3:=yZ ts C f T I e1;have i:=a3.ok T;obtain⟨ah,x1,x2⟩:=out.ex;obtain⟨q,k',y1,y2,y3⟩:=x2 a2;cases y1;subst y2;obtain⟨q,y4,a8⟩:=vj hc (szN a) a s B _ (qm _) (hw.kid ma) hs o a2;cases y4;have l:=Yj C (env:=env) (nm:=n.name) (body:=body) i.l0;have a4:=Yi (ts:=ts) (es:=es) (nm:=n.name) (body:=body) (s:=s1) I;have a9:=i.last;obtain⟨w1,w2,t⟩:=Rl.bind (c0:=ckF ts) (st:=s1) (nm:=n.name) (k:=k) (k':=k') C I.nd (hr.mono out.le) i.l0 (by show s1.last+(ql ts es:Nat)<_;omega) (ht n (jQ n)) y3;have w1:Rl (ckF ts) es (renI ts es env n.name body s1).2.last body ((n.name,k) :: s) (((renI ts es env n.name body s1).1.2,k') :: s') (renI ts es env n.name body s1).1.1:=w1;have w2:s1.last<=(renI ts es env n.name body s1).2.last:=w2;have t:tkn es (renI ts es env n.name body s1).1.2\/vLe es (renI ts es env n.name body s1).2.last (renI ts es env n.name body s1).1.2:=t;have w4:(renI ts es env n.name body s1).1.2=n.name\/vLe es (renI ts es env n.name body s1).2.last (renI ts es env n.name body s1).1.2:=by
      rcases t with t|t
      .left
       unfold renI at t⊢;split
       .rename_i aa
        rw[if_pos aa]at t;exfalso;have ab:=C s1.last i.l0;have r:=UA ab;simp only[yr,qB,decide_eq_true_eq]at r;exact r.1 t
       .rfl
      .exact .inr t
     generalize ag:renI ts es env n.name body s1=ad at *
     obtain⟨⟨a5,ai⟩,s2⟩:=ad;simp only at l a4 w1 w2 t w4 e;have a6:StOk (ql ts es) s2:=⟨l.1,by rw[l.2.2];exact i.c0,by rw[l.2.2];exact i.c1,by
      have:=a3.p;have h3:=l.2.1;have h4:=l.2.2;unfold pot at *
      rw[h4];omega⟩
     split at e
     .cases e
     .rename_i aj ak m3 s3 e3
      split at e3
      .cases e3
      .rename_i g' m2 s4 e2
       cases e3;cases e;cases a0:exam (mkCk ts m) ((n.name,k) :: s) B g with
       |error er=>rw[a0]at x;cases x
       |ok kg =>
        rw[a0]at x;cases x;have ae:ScOk ts.sorts.length ((n.name,k) :: s):=fun v hv=>by
         rcases qt.1 hv with rfl|hv
         .exact ⟨a8,P⟩
         .exact hs v hv
        have j:=ih a5 g body s2 g' m2 R ((n.name,k) :: s) ((nm',k') :: s') B m _ hm (hw.kid mg) (ht.kid mg) (ho.kid mg) ae a6 a4 w1 e2 a0;obtain⟨al,z1,_⟩:=j.ex;refine⟨⟨some k',?_,fun _=>⟨k,k',rfl,rfl,y3⟩⟩,?_,rfl,zW2 out.le j.le⟩
        .rw [yD]
         show (if (inn&&zL (ckF ts) n.op nm')=true then _ else if n.op=1 then _ else if n.op=47 then _ else if n.op=15\/n.op=45\/n.op=46 then z8 (ckF ts) s' (inn||decide (n.op=15)) nm' n.pos [a',g'] else _)=_;rw[Zb h47,if_neg U,if_neg h1,if_neg h47,if_pos hb,hB];simp only[z8,qQ];rw[x1];simp only;rw[if_pos (by rw[y3.1];exact P),z1]
        .refine vr.node hw (by rw[J];simp[out.kd,j.kd]) (fun y hy=>?_) h47 (ho n (jQ n)) ?_
         .rcases qt.1 hy with rfl|hy
          .exact out.good.mono (zW1 j.le)
          .rw [qL]at hy;subst hy;exact j.good
         .rcases w4 with w4|w4
          .exact .inl ⟨w4,by rw[w4];exact ht n (jQ n)⟩
          .exact .inr ⟨w4.mono j.le,qa4 (ho n (jQ n)) (by unfold u9;rcases hb with h|h|h<;>simp[h])⟩
   .rw [if_neg P]at x;cases x
theorem Yt(ts:TS)(h:okTS ts)(es:List (ByteArray×Bool))(hP:Zc ts es)(hF:ql ts es<=200000)(i:Free ts es):∀ f:Nat,IHx ts es f
 | 0=>fun env n body st n' z j s s' inn m I _ _ _ _ _ _ _ _ e _=>by cases e
 |f+1=>fun env n body st n' z j s s' inn m I T J P R U o r hr e x=>by
  have ih:=Yt ts h es hP hF i f;simp only[expI]at e;split at e
  .rename_i hc
   have hp:=we o (n:=1) zOm hc;have g:=hp.ok o;have l:Rl (ckF ts) es (payS 1 st).last body s s' env:=hr;have a0:st.last=(payS 1 st).last:=rfl;rw[a0];split at e
   .rename_i h1
    exact qm4 (c:=mkCk ts m) (c0:=ckF ts) rfl h1 J (P n (jQ n)) (R n (jQ n)) l e x
   .rename_i h1
    split at e
    .rename_i h47
     exact qm6 ts h es hP i f ih env n body (payS 1 st) n' z j s s' inn m I T J P R U g r l h47 e x
    .rename_i h47
     obtain⟨⟨t,C,z'⟩,s1,e1,e2⟩:=Qx e;cases e2;by_cases hb:n.op=15\/n.op=45\/n.op=46
     .refine qm9 ts h es hF i f ih env n body (payS 1 st) t C z' j s s' inn m I T J P R U g ?_ r l hb e1 x
      rw[Qy];have:=o.p;omega
     .exact qm8 ts h es i f ih env n body (payS 1 st) t C z' j s s' inn m I T J P R U g r l h47 h1 hb e1 x
  .cases e
end
end PE
namespace PF
open P1 P2 Y1 Y2 Y9 Y16 YZ YB YC YE YG Q2 Q4 Q6 PC PE PG
mutual
theorem KG:∀(n:Nd) (left:Int),cntT n<=left->cntN n left=cntT n
 | .mk op nm i ks p,left,h=>by
  simp only[cntT,cntN]at h⊢;exact qa7 ks left 1 h
theorem qa7:∀(ks:List Nd) (left sum:Int),sum+yU ks<=left->yp ks left sum=sum+yU ks
 | [],left,sum,h=>by simp only[yU,yp];omega
 |k :: ks,left,sum,h=>by
  simp only[yU,yp]at h⊢;have g:=X6 k;have i:=Uo ks;rw[if_pos zOm,KG k (left-sum) zOm,qa7 ks left _ zOm];omega
end
mutual
theorem KH:∀(n:Nd) (left:Int),cntN n left<=left->cntT n<=left
 | .mk op nm i ks p,left,h=>by
  simp only[cntT,cntN]at h⊢;exact qa8 ks left 1 h
theorem qa8:∀(ks:List Nd) (left sum:Int),yp ks left sum<=left->sum+yU ks<=left
 | [],left,sum,h=>by simp only[yU,yp]at h⊢;omega
 |k :: ks,left,sum,h=>by
  simp only[yU,yp]at h⊢;split at h
  .have i:=(XP ks left (sum+cntN k (left-sum))).1
   have g:cntN k (left-sum)<=left-sum:=zOm;have j:=KG k (left-sum) (KH k _ g);have l:=qa8 ks left _ h;omega
  .omega
end
section
variable {c:Ck}
theorem qnA{ks:List Nd}{d:Int}(j:0<=d)(h:∀ k,k∈ks->depN k<=d):zZ ks<=d:=by
 induction ks with
 |nil=>simp only[zZ];omega
 |cons a l g =>
  simp only[zZ];have o:=h a (q8 ..);have p:=g fun k i=>h k (qY _ i)
  omega
theorem qnB{ks:List Nd}{g:Int}(h:∀ k,k∈ks->forN k g=true):uC ks g=true:=by
 induction ks with
 |nil=>rfl
 |cons a l i =>
  simp only[uC,qB];exact⟨h a (q8 ..),i fun k j=>h k (qY _ j)⟩
theorem qa9:∀(m:Nat) (n:Nd) (g:Int),szN n<=m->WfN n->OwnT n->depN n<=g->forN n g=true
 | 0,n,_,l,_,_,_=>by obtain⟨op,nm,i,ks,p⟩:=n;simp[szN]at l
 |m+1,n,g,l,o,r,t=>by
  have C:=qaT n;rw[Jx,if_neg zOm,r n (jQ n),Bool.true_and,qB];refine⟨?_,qnB fun k j=>qa9 m k (g-1) (zW1 (zS j)) (o.kid j) (r.kid j) ?_⟩
  .unfold fitB
   rw[decide_eq_true_eq];exact o.shape
  .have:=qaS j
   rw[wd]at t;omega
theorem qbA:∀(m:Nat) (n:Nd) (j:Int),szN n<=m->forN n j=true->OwnT n/\depN n<=j
 | 0,n,_,l,_=>by obtain⟨op,nm,i,ks,p⟩:=n;simp[szN]at l
 |m+1,n,j,l,h=>by
  rw[Jx]at h;split at h
  .cases h
  .rename_i C
   simp only[qB]at h;obtain⟨r,I,t⟩:=h;have o:=fun k (g:k∈n.kids)=>qbA m k (j-1) (zW1 (zS g)) (XS t k g)
   refine⟨fun x hx=>?_,?_⟩
   .rw [ub]at hx
    rcases qt.1 hx with rfl|hx
    .exact r
    .obtain ⟨k,g,hx⟩:=Uz hx
     exact(o k g).1 x hx
   .rw [wd]
    have:=qnA (ks:=n.kids) (d:=j-1) zOm fun k g=>(o k g).2
    omega
theorem uc{n:Nd}:qS n=true↔WfN n/\OwnT n/\cntT n<=400/\depN n<=24:=by
 constructor
 .intro h
  have i:=yE h;simp only[qS,qB,decide_eq_true_eq]at h;obtain⟨a,b⟩:=qbA (szN n) n 24 (qm _) h.2;exact⟨i,a,KH n 400 h.1,b⟩
 .rintro ⟨j,l,g,o⟩
  simp only[qS,qB,decide_eq_true_eq];exact⟨by rw[KG n 400 g];exact g,qa9 (szN n) n 24 (qm _) j l o⟩
theorem qbB{nm:ByteArray}{i:Nat}(h:zn c nm=some i)(hp:i<c.ts.preds.length):(c.ts.preds.find? fun p=>decide (p.name=nm))=some c.ts.preds[i]:=by
 unfold zn at h;rw[List.findIdx?_eq_some_iff_getElem]at h;obtain⟨r,g,l⟩:=h;rw[List.find?_eq_some_iff_getElem];refine⟨?_,i,hp,rfl,fun j o=>?_⟩
 .have:=g
  simp only[List.getElem_take]at this;exact this
 .have:=l j o
  simp only[List.getElem_take]at this;simpa using this
theorem qbC{s:Scp}{pos:Int}:∀{ks:List Nd} {ps:List (ByteArray×Int)} {j:Option Kd},ps.length=ks.length->zN c s pos ps ks = .ok j->∀ k,k∈ks->∃ a,exam c s true k = .ok a
 | [],_,_,_,_,k,g=>absurd g qE
 |k :: ks,[],_,i,_,_,_=>by simp at i
 |k :: ks,p :: ps,j,i,h,x,hx=>by
  simp only[zN]at h;split at h
  .cases h
  .cases h
  .rename_i a g
   split at h
   .split at h
    .rcases qt.1 hx with rfl|hx
     .exact ⟨_,g⟩
     .exact qbC (zUs i) h x hx
    .cases h
   .cases h
theorem KI{s:Scp}{inn:Bool}:∀{ks:List Nd} {l:List (Option Kd)},qQ c s inn ks = .ok l->∀ k,k∈ks->∃ a,exam c s inn k = .ok a
 | [],_,_,k,g=>absurd g qE
 |k :: ks,l,h,x,hx=>by
  simp only[qQ]at h;split at h
  .cases h
  .rename_i a g
   split at h
   .cases h
   .rename_i j i
    rcases qt.1 hx with rfl|hx
    .exact ⟨_,g⟩
    .exact KI i x hx
theorem KJ(hc:okCk c):∀(m:Nat) (n:Nd) (s:Scp) (inn:Bool) (j:Option Kd),szN n<=m->exam c s inn n = .ok j->WfN n->yG c.ts n
 | 0,n,_,_,_,hm,_,_=>by obtain⟨op,nm,i,ks,p⟩:=n;simp[szN]at hm
 |m+1,n,s,inn,j,hm,h,hw=>fun x hx U=>by
  have ih:∀ k,k∈n.kids->∀ s inn j,exam c s inn k = .ok j->yG c.ts k:=fun k r s inn j h=>KJ hc m k s inn j (zW1 (zS r)) h (hw.kid r)
  rw[yD]at h;rw[ub]at hx;split at h
  .cases h
  by_cases h1:n.op=1
  .rw [KE hw h1]at hx
   rcases qt.1 hx with rfl|hx
   .omega
   .simp [zo]at hx
  rw[if_neg h1]at h;have t:∀(s:Nd->Scp) (inn:Nd->Bool),(∀ k,k∈n.kids->∃ j,exam c (s k) (inn k) k = .ok j)->x∈zo n.kids->∃ p,(c.ts.preds.find? fun p=>decide (p.name=x.name))=some p/\p.params.length=x.kids.length:=fun s inn r hx=>by
   obtain⟨k,J,hx⟩:=Uz hx;obtain⟨j,a0⟩:=r k J;exact ih k J _ _ _ a0 x hx U
  by_cases h47:n.op=47
  .rw [if_pos h47]at h
   split at h
   .split at h
    .cases h
    .rename_i i C
     obtain⟨_,P⟩:=wT hc C;rw[qA P]at h;simp only at h;split at h
     .rename_i I
      rcases qt.1 hx with rfl|hx
      .exact ⟨_,qbB C P,I⟩
      .exact t (fun _=>s) (fun _=>true) (qbC I h) hx
     .cases h
   .cases h
  rw[if_neg h47]at h;have hx:x∈zo n.kids:=by
   rcases qt.1 hx with rfl|hx
   .exact absurd U h47
   .exact hx
  by_cases R:n.op=15\/n.op=45\/n.op=46
  .rw [if_pos R]at h
   obtain⟨a,g,o,_⟩:=JN hw R;rw[o]at h;simp only[z8]at h;split at h
   .cases h
   .cases h
   .rename_i k r
    split at h
    .split at h
     .cases h
     .rename_i l hl
      obtain⟨y,T,hx⟩:=Uz hx;rw[o]at T;rcases qt.1 T with rfl|T
      .exact ih y (by rw[o];simp) _ _ _ r x hx U
      .rw [qL]at T
       subst T;obtain⟨b,R⟩:=KI hl y zSp;exact ih y (by rw[o];simp) _ _ _ R x hx U
    .cases h
  .rw [if_neg R]at h
   split at h
   .cases h
   .rename_i l hl
    exact t (fun _=>s) (fun _=>_) (fun k r=>KI hl k r) hx
theorem Yu{env:List (ByteArray×Int)}{n:Nd}(h:(yR c env n).1=0):30<=n.op/\∃ g,exam c (zJ env) false n = .ok g:=by
 unfold yR at h;split at h
 .rename_i i
  refine⟨i,?_⟩;cases hx:exam c (zJ env) false n with
  |ok g=>exact⟨g,rfl⟩
  |error e =>
   rw[hx]at h;have:=PG.JM c (szN n) n _ _ e (qm _) hx;have h:e.1=0:=h;omega
 .have h:(43:Int)=0:=h
  omega
theorem KL{ts:TS}(h:yT ts=[])(i:Nat)(g:i<ts.preds.length):(yR (mkCk ts i) ts.preds[i].params ts.preds[i].body).1=0:=by
 unfold yT at h;simp only[List.append_eq_nil_iff]at h;have:=h.2.2.1;rw[List.flatMap_eq_nil_iff]at this;have:=this i (yx.2 g);unfold vI at this;rw[qA g]at this;simp only[List.append_eq_nil_iff]at this;have:=this.2.2;unfold rp at this;split at this
 .assumption
 .cases this
theorem KM(l:List Nd):∀(es:List (ByteArray×Bool)) (nm:ByteArray),(getK nm es=some true\/∃ x,x∈l/\x.name=nm)->getK nm (putN es l)=some true:=by
 induction l with
 |nil =>
  intro es nm h;rcases h with h|⟨x,hx,_⟩
  .exact h
  .exact absurd hx qE
 |cons a l i =>
  intro es nm h;refine i _ nm ?_;rw[jB];by_cases e:nm=a.name
  .rw [if_pos e];exact .inl rfl
  .rw [if_neg e]
   rcases h with h|⟨x,hx,g⟩
   .exact .inl h
   .rcases qt.1 hx with rfl|hx
    .exact absurd g.symm e
    .exact .inr ⟨x,hx,g⟩
theorem qbD(ts:TS)(n:Nd):Tk (yH ts n) n/\∀ p,p∈ts.preds->Tk (yH ts n) p.body:=by
 have g:∀(l:List Pd) (I:List (ByteArray×Bool)) (nm:ByteArray),(getK nm I=some true\/∃ p,p∈l/\∃ x,x∈preN p.body/\x.name=nm)->getK nm (l.foldl (fun I p=>putN I (preN p.body)) I)=some true:=by
  intro l;induction l with
  |nil =>
   intro I nm h;rcases h with h|⟨p,hp,_⟩
   .exact h
   .exact absurd hp qE
  |cons a l i =>
   intro I nm h;refine i _ nm ?_;rcases h with h|⟨p,hp,hx⟩
   .exact .inl (KM _ _ _ (.inl h))
   .rcases qt.1 hp with rfl|hp
    .exact .inl (KM _ _ _ (.inr hx))
    .exact .inr ⟨p,hp,hx⟩
 refine⟨fun x hx=>g _ _ _ (.inl (KM _ _ _ (.inr ⟨x,hx,rfl⟩))),fun p hp x hx=>g _ _ _ (.inr ⟨p,hp,x,hx,rfl⟩)⟩
theorem qbE(l:List Nd):∀ es:List (ByteArray×Bool),(putN es l).length<=es.length+l.length:=by
 have i:∀(es:List (ByteArray×Bool)) (k:ByteArray),(setK k true es).length<=es.length+1:=by
  intro es k;induction es with
  |nil=>simp[setK]
  |cons a es g=>unfold setK;split<;>simp<;>omega
 induction l with
 |nil=>intro es;simp[putN]
 |cons a l g =>
  intro es;have:=g (setK a.name true es);have:=i es a.name;show (putN (setK a.name true es) l).length<=_;simp only[zG];omega
mutual
theorem JR:∀ n:Nd,((preN n).length:Int)=cntT n
 | .mk op nm i ks p=>by simp only[preN,cntT,zG];have:=qbF ks;omega
theorem qbF:∀ ks:List Nd,((zo ks).length:Int)=yU ks
 | []=>rfl
 |k :: ks=>by simp only[zo,yU,zc];have:=JR k;have:=qbF ks;omega
end
end
theorem JS{ts:TS}(h:okTS ts)(j:∀ p,p∈ts.preds->qS p.body=true){n:Nd}(o:qS n=true):ql ts (yH ts n)<=200000:=by
 have r:∀(l:List Pd) (I:List (ByteArray×Bool)),(∀ p,p∈l->qS p.body=true)->(l.foldl (fun I p=>putN I (preN p.body)) I).length<=I.length+400*l.length:=by
  intro l;induction l with
  |nil=>intro I _;simp
  |cons a l t =>
   intro I g;have C:=t (putN I (preN a.body)) fun p hp=>g p (qY _ hp)
   have i:=qbE (preN a.body) I;have J:=JR a.body;have P:=(uc.1 (g a (q8 ..))).2.2.1;rw[List.foldl_cons];simp only[zG];omega
 have C:=r ts.preds (putN [] (preN n)) j;have i:=qbE (preN n) [];have J:=JR n;have P:=(uc.1 o).2.2.1;have:=h.np;have:=h.nf;have:=h.ns;unfold ql yH;simp only[List.length_nil]at i;omega
theorem qnC{ts:TS}(h:okTS ts)(T:∀ p,p∈ts.preds->qS p.body=true)(hk:yT ts=[]){n x:Nd}(hn:qS n=true)(hc:(yi ts [] n).1=0)(r:anyN (fun n=>decide (n.op=47)) n=true)(o:qK ts n=(x,0)) :
  qS x=true/\anyN (fun n=>decide (n.op=47)) x=false/\yi ts [] x=(0,0)/\qK ts x=(x,0):=by
 have hw:=yE hn;have a0:=(uc.1 hn).2.1;have hF:=JS h T hn;obtain⟨t1,t2⟩:=qbD ts n;generalize a1:yH ts n=I at *
 have hP:Zc ts I:=fun i o=>by
  have hm:=qy o;obtain⟨a,b⟩:=Yu (KL hk i o);exact⟨b,a,yE (T _ hm),t2 _ hm,(uc.1 (T _ hm)).2.1⟩
 unfold qK at o;rw[if_neg (zUs hc),if_neg (by simp[r]),a1]at o;unfold outI at o;split at o
 .rename_i d hd
  exfalso;have h1:=X9 hd;have h2:d.1=0:=congrArg Prod.snd o;omega
 .rename_i l j
  have e:l=x:=congrArg Prod.fst o;subst e;split at j
  .cases j
  .rename_i n2 z a2 U
   split at j
   .rename_i hz
    cases j;obtain⟨a3,ko,hx⟩:=Yu (c:=mkCk ts ts.preds.length) (env:=[]) hc;have a4:StOk (ql ts I) ⟨0,0⟩:=⟨zSp,zSp,zSp,by simp[pot]⟩;have out:=Yt ts h I hP hF (Uq ts I) 4001 [] n false ⟨0,0⟩ l z a2 [] [] false ts.preds.length ko (qm _) hw t1 a0 (fun v C=>absurd C qE) a4 .nil
     ⟨fun v C=>absurd C qE,fun v _=>trivial,fun _ v iv e=>by cases e⟩ U hx
    obtain⟨a6,a7⟩:=Yk ts (fun p hp=>yE (T p hp)) I 4001 (env:=[]) (fun e U=>absurd U qE) hw U;have C:qS l=true:=uc.2 ⟨out.good.wf,fun x hx=>(out.good.all x hx).own,zOm,hz.2⟩;have J:anyN (fun n=>decide (n.op=47)) l=false:=by
     rw[Yl _ (szN l) l (qm _),List.any_eq_false];intro x hx;have:=(out.good.all x hx).nc;simpa using this
    have g:kd l.op=102:=by rw[out.kd];exact qa5 hw a3
    have P:30<=l.op:=by
     unfold kd at g;split at g
     .omega
     .split at g
      .omega
      .split at g<;>omega
    obtain⟨a5,t,_⟩:=out.ex;have R:yi ts [] l=(0,0):=by
     unfold yi yR;rw[if_pos P];have t:exam (mkCk ts ts.preds.length) (zJ []) false l = .ok a5:=t;rw[t];rfl
    refine⟨C,J,R,?_⟩;unfold qK;rw[R,if_neg zSp,if_pos J]
   .cases j
end PF
namespace QW
open YS YF Y9 Y10 Y1 Y2 YZ YA P1 P2
section
variable {l:List ByteArray}
abbrev rNm(b:ByteArray):List AV:=[aS b]
abbrev lNm(l:List ByteArray):AV := .lst false (l.map rNm)
def namL(n:Nd):List ByteArray:=((preN n).filter fun x=>decide (x.name≠⟨#[]⟩)).map Nd.name
def j6(l:List Nd):List ByteArray:=((zo l).filter fun x=>decide (x.name≠⟨#[]⟩)).map Nd.name
theorem qnD(n:Nd):namL n=(if n.name=⟨#[]⟩ then [] else [n.name])++j6 n.kids:=by
 unfold namL j6;rw[ub,List.filter_cons];by_cases h:n.name=⟨#[]⟩
 .simp [h]
 .simp [h]
theorem Yh:∀ a b:List Nd,zo (a++b)=zo a++zo b
 | [],b=>rfl
 |x :: a,b=>by rw[List.cons_append];simp only[zo];rw[Yh a b,zE]
theorem qnE(a:List Nd)(k:Nd):j6 (a++[k])=j6 a++namL k:=by
 unfold j6 namL;rw[Yh];simp[zo]
theorem qnF(l:List Nd):(j6 l).length<=(zo l).length:=by
 unfold j6;rw[yI];exact List.length_filter_le ..
theorem UF(n:Nd):(namL n).length<=(preN n).length:=by
 unfold namL;rw[yI];exact List.length_filter_le ..
theorem KN(l:List ByteArray):zy 1 (l.map rNm):=fun r g=>by
 obtain⟨x,_,rfl⟩:=qr.1 g;exact⟨rfl,rfl⟩
theorem qbG(l:List ByteArray):HF (lNm l):=HF.lst fun r i c g=>by
 obtain⟨x,_,rfl⟩:=qr.1 i;rw[qL]at g;subst g;exact HF.sc _
theorem rdNm{lo:Nat}{mu:Mu}{av:AV}(h:OwnF lo mu 1 av (l.map rNm)):Rd mu av (lNm l):=
 h.1.rd (KN l).ok fun r i c g=>by
  obtain⟨x,_,rfl⟩:=qr.1 i;rw[qL]at g;subst g;exact HF.sc _
theorem appNm{mu:Mu}{lo:Nat}{s x:AV}{xs ys:List ByteArray}{K:AV->Mu->Prop}(g:OwnF lo mu 1 s (xs.map rNm))(hx:qO mu x=some (ys.map rNm))(p:xs.length+ys.length<=1000000)(j:∀ av mu',OwnF lo mu' 1 av ((xs++ys).map rNm)->(∀ i,i<lo->mu'[i]?=mu[i]?)->K av mu') :
  qF qb mu #[197,197] s x K:=by
 refine qF.ownF (lo:=lo) (e:=9) (sz:=1) (bt:=16) (zv:=aS ⟨#[]⟩) (xs:=xs.map rNm) (ys:=ys.map rNm) zSi zSi zSi rfl rfl zOm zOm g hx (KN xs) (KN ys) zSo ?_;intro av mu' h o;exact j av mu' (by rw[zx];exact h) o
theorem qnG(l:List Nd)(k:Nat):(zo (l.take k)).length<=(zo l).length:=by
 have:zo l=zo (l.take k)++zo (l.drop k):=by rw[<-Yh,List.take_append_drop]
 rw[this,zc];omega
theorem KO:∀(m:Nat) (n:Nd),szN n<=m->Small n->∀(lo:Nat) (mu:Mu) (av:AV) (xs:List ByteArray),OwnF lo mu 1 av (xs.map rNm)->xs.length+(preN n).length<=500000 ->
  qe qb 213 [av,eNd n] mu fun e C=>∃ g,e = .ret g/\OwnF lo C 1 g ((xs++namL n).map rNm)/\∀ i,i<lo->C[i]?=mu[i]?
 | 0,n,J,_=>by obtain⟨op,nm,i,ks,p⟩:=n;simp[szN]at J
 |m+1,n,J,hs=>by
  intro lo mu av xs I hl;have ih:∀ k,k∈n.kids->∀(lo:Nat) (mu:Mu) (av:AV) (xs:List ByteArray),OwnF lo mu 1 av (xs.map rNm)->xs.length+(preN k).length<=500000->qe qb 213 [av,eNd k] mu fun e C=>∃ g,e = .ret g/\OwnF lo C 1 g ((xs++namL k).map rNm)/\∀ i,i<lo->C[i]?=mu[i]?:=fun k hk =>
   KO m k (zW1 (zS hk)) (hs.kid hk)
  have aa:=hs.len;have o:=qnD n;have ab:(preN n).length=1+(zo n.kids).length:=by rw[ub,zG];omega
  refine qe.of_awp call213 func213 rfl (qh zKr) zKr (pl:={}) ?_;by_cases P:n.name=⟨#[]⟩
  case' pos =>
   rw[if_pos P,jq]at o;simp[go_sem,P];refine qn.upK n.kids.length (fun k U=>U.tm 3 = .ip (cNd n)/\U.tm 5=aI k/\OwnF lo U.mu 1 (U.tm 0) ((xs++j6 (n.kids.take k)).map rNm)/\∀ i,i<lo->U.mu[i]?=mu[i]?) ?_ ?_
   .exact ⟨zSi,zSi,by simpa[go_sem,j6,zo] using I,zSi⟩
   generalize hX:xs=X at *
   have a0:X.length+(zo n.kids).length<=500000:=zOm;have t:X++j6 n.kids=X++namL n:=by rw[o]
  case' neg =>
   rw[if_neg P]at o;have a1:n.name.toList.isEmpty=false:=by simpa using jA P
   simp[go_sem,a1];refine appNm (ys:=[n.name]) I (by simp[qO]) (by simp only[List.length_singleton];omega) fun g C a2 a3=>?_
   simp[go_sem];refine qn.upK n.kids.length (fun k U=>U.tm 3 = .ip (cNd n)/\U.tm 5=aI k/\OwnF lo U.mu 1 (U.tm 0) (((xs++[n.name])++j6 (n.kids.take k)).map rNm)/\∀ i,i<lo->U.mu[i]?=mu[i]?) ?_ ?_
   .exact ⟨zSi,zSi,by simpa[go_sem,j6,zo] using a2,zVs a3⟩
   generalize hX:xs++[n.name]=X at *
   have a0:X.length+(zo n.kids).length<=500000:=by rw[<-hX,zc,List.length_singleton];omega
   have t:X++j6 n.kids=xs++namL n:=by rw[o,<-hX,zE]
  all_goals
   rintro k U hk ⟨R,e5,I,J⟩;generalize h0:U.tm 0=a4 at *
   by_cases l:k<n.kids.length
   .have w1:qj.wrap ((k:Int)+1)=(k:Int)+1:=qi zOm zOm
    have a5:j6 (n.kids.take (k+1))=j6 (n.kids.take k)++namL n.kids[k]:=by rw[Ze l,qnE]
    have ad:(zo (n.kids.take (k+1))).length=(zo (n.kids.take k)).length+(preN n.kids[k]).length:=by rw[Ze l,Yh];simp[zo]
    have h1:=qnG n.kids (k+1);have h2:=qnF (n.kids.take k);simp[go_sem,R,e5,h0,l,qw];refine qc.eff0 (ih n.kids[k] (qy l) lo U.mu a4 _ I (by rw[zc];omega)) (fun r m2 hr=>?_) (fun r m2 hr=>?_)
    .obtain ⟨a6,e,a7,a8⟩:=hr
     cases e;simp[go_sem,R,e5,w1];exact⟨l,Keep.mk' ⟨zS1 R,zSi,by rw[a5,<-zE];simpa[go_sem] using a7,by simp only[qP];exact fun i hi=>(a8 i hi).trans (J i hi)⟩⟩
    .obtain ⟨a6,e,_⟩:=hr
     cases e
   .have a9:k=n.kids.length:=by omega
    subst a9;rw[zw,t]at I;simp[go_sem,R,e5,h0];exact⟨zUs I,J⟩
def takL(ts:TS)(n:Nd):List ByteArray:=namL n++ts.preds.flatMap fun p=>namL p.body
theorem qnH(ts:TS)(h:okTS ts)(wp:∀ p,p∈ts.preds->WfN p.body)(n:Nd)(hw:WfN n)(hl:(preN n).length<=400)(hp:∀ p,p∈ts.preds->(preN p.body).length<=400):qd qb 137 [eTS ts,eNd n] (lNm (takL ts n)):=by
 have a4:=h.np;have hk:∀ i (t:i<ts.preds.length),ts.preds.take (i+1)=ts.preds.take i++[ts.preds[i]]:=fun i t=>Ze t
 have J:∀ i,((ts.preds.take i).flatMap fun p=>namL p.body).length<=400*i:=by
  intro i;induction i with
  |zero=>simp
  |succ i ih =>
   by_cases t:i<ts.preds.length
   .rw [hk i t,List.flatMap_append,zc]
    have h1:=UF ts.preds[i].body;have h2:=hp _ (qy t);simp only[uG,List.flatMap_nil,zV];omega
   .have e1:ts.preds.take (i+1)=ts.preds:=ye zOm
    have l:ts.preds.take i=ts.preds:=ye zOm;rw[e1];rw[l]at ih;omega
 have hn:=UF n;refine qd.of_sound (qe.of_awp call137 func137 rfl (qh zKr) zKr (pl:={}) ?_);simp[go_sem];refine qc.eff0 (KO (szN n) n (qm _) hw.small 0 [] (.lst true []) [] (OwnF.nil zSp) zSo) (fun r P j=>?_) (fun r P j=>?_)
 case refine_2 =>
  obtain⟨C,e,_⟩:=j;cases e
 obtain⟨a5,e,I,_⟩:=j;cases e;rw[jq]at I;simp[go_sem];refine qn.upK ts.preds.length (fun k U=>U.tm 2 = .ip (cTS ts)/\U.tm 6=aI k/\OwnF 0 U.mu 1 (U.tm 5) ((namL n++(ts.preds.take k).flatMap fun p=>namL p.body).map rNm)) ?_ ?_
 .exact ⟨zSi,zSi,zVs I⟩
 rintro k U a6 ⟨l,R,ho⟩;generalize h5:U.tm 5=a0 at *
 by_cases g:k<ts.preds.length
 .have w1:qj.wrap ((k:Int)+1)=(k:Int)+1:=qi zOm zOm
  have a1:(ts.preds.take (k+1)).flatMap (fun p=>namL p.body)=(ts.preds.take k).flatMap (fun p=>namL p.body)++namL ts.preds[k].body:=by
   rw[hk k g,List.flatMap_append];simp only[uG,List.flatMap_nil,zV]
  have h1:=J k;have h2:=hp _ (qy g);simp[go_sem,l,R,h5,g,Qo];refine qc.eff0 (KO (szN ts.preds[k].body) ts.preds[k].body (qm _) (wp _ (qy g)).small 0 U.mu a0 _ ho (by rw[zc];omega)) (fun r P j=>?_) (fun r P j=>?_)
  .obtain ⟨C,e,a2,_⟩:=j
   cases e;simp[go_sem,l,R,w1];exact⟨g,Keep.mk' ⟨zS1 l,zSi,by rw[a1,<-zE];simpa[go_sem] using a2⟩⟩
  .obtain ⟨C,e,_⟩:=j
   cases e
 .have a3:k=ts.preds.length:=by omega
  subst a3;rw[zw]at ho;simp[go_sem,l,R,h5];exact rdNm ho
def inL(nm:ByteArray)(l:List ByteArray):Bool:=l.any fun x=>decide (x=nm)
theorem KP{nm:ByteArray}:inL nm l=true↔nm∈l:=by
 unfold inL;simp
theorem qbH{nm:ByteArray}(h:¬nm∈l):inL nm l=false:=by
 cases e:inL nm l with
 |false=>rfl
 |true=>exact absurd (KP.1 e) h
theorem hasU(l:List ByteArray)(nm:ByteArray)(J:l.length<=1000000):qd qb 263 [lNm l,aS nm] (aB (inL nm l)):=by
 refine qd.of_sound (qe.of_awp call263 func263 rfl (qh zKr) zKr (pl:={}) ?_);simp[go_sem];refine qn.upK l.length (fun k U=>U.tm 0=lNm l/\U.tm 1=aS nm/\U.tm 5=aI k/\∀ x,x∈l.take k->x≠nm) ?_ ?_
 .exact ⟨zSi,zSi,zSi,zSp⟩
 rintro k U P ⟨i,j,p,r⟩;by_cases g:k<l.length
 .have I:qj.wrap ((k:Int)+1)=(k:Int)+1:=qi zOm zOm
  by_cases o:l[k]=nm
  .have t:inL nm l=true:=KP.2 (o ▸ qy g)
   rw[t];simp[go_sem,i,j,p,g,o];exact .zsc _
  .simp [go_sem,i,j,p,g,jA o,I]
   refine Keep.mk' ⟨zS1 i,zS1 j,zSi,fun x hx=>?_⟩;rw[Ze g,qM,qL]at hx;rcases hx with hx|rfl
   .exact r x hx
   .exact o
 .have C:k=l.length:=by omega
  subst C;rw[zw]at r;have t:inL nm l=false:=qbH fun h=>r nm h rfl
  rw[t];simp[go_sem,i,j,p];exact .zsc _
theorem qnI(u:Nat)(h:u<10):ByteArray.empty.push (UInt8.ofNat ((48:Int)+(u:Int)).toNat)=jh u:=by
 unfold jh;rw[Lib.itoa_nonneg,Lib.decDigits_one h,show ((48:Int)+(u:Int)).toNat=48+u by omega];rfl
theorem qnJ(u:Nat)(h:¬u<10):jh ((u / 10:Nat):Int)++ByteArray.empty.push (UInt8.ofNat ((48:Int)+((u % 10:Nat):Int)).toNat)=jh u:=by
 unfold jh;rw[Lib.itoa_nonneg,Lib.itoa_nonneg,Lib.decDigits.eq_1 u,dif_neg h,show ((48:Int)+((u % 10:Nat):Int)).toNat=48+u % 10 by omega];apply ByteArray.ext;simp
theorem digU:∀(m u:Nat),u<=m->u<=1000000000->qd qb 262 [aI u] (aS (jh u))
 |m,u,J,P=>by
  have r:qj.wrap (48+(u:Int))=48+(u:Int):=qi zOm zOm;refine qd.of_sound (qe.of_awp call262 func262 rfl (qh zKr) zKr (pl:={}) ?_);by_cases h:u<10
  .have i:(u:Int)<10:=by omega
   have t:IntKind.u8.wrap (48+(u:Int))=48+(u:Int):=IntWalk.u8_in _ ⟨zOm,zOm⟩;have g:=qnI u h;simp[go_sem,i,r,t,g];exact .zsc _
  .have i:¬(u:Int)<10:=by omega
   have C:=digU (u / 10) (u / 10) (qm _) zOm;have g:=qnJ u h;simp[go_sem,i];refine qg.intro zKr ?_;have I:qj.wrap ((u:Int) / 10)=((u / 10:Nat):Int):=by rw[show ((u:Int) / 10)=((u / 10:Nat):Int) from rfl];exact qi zOm zOm
   have t3:(u:Int).tmod 10=((u % 10:Nat):Int):=rfl;have o:qj.wrap (48+((u % 10:Nat):Int))=48+((u % 10:Nat):Int):=qi zOm zOm;have p:IntKind.u8.wrap (48+((u % 10:Nat):Int))=48+((u % 10:Nat):Int):=IntWalk.u8_in _ ⟨zOm,zOm⟩;have j:=XZ ((u / 10:Nat):Int) zOm zOm;simp[go_sem,I];refine qc.pure C (.zs .nil) ?_;have c1:((u / 10:Nat):Int)=(u:Int) / 10:=rfl;have c2:((u % 10:Nat):Int)=(u:Int) % 10:=rfl;rw[c1]at j g;rw[c2]at o p g;have l:(jh ((u:Int) / 10)).size<=9223372036854775806:=zOm;simp[go_sem,t3,o,p,l,g];exact .zsc _
end
end QW
end Go.Proofs.YtpagnklaanbmbaaGreatDoor
