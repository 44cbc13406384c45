/-
  Own library, part 7: an abstract reading of values and a calculus over it; contracts of functions; plain lemmas.
-/
import Derived.Test.YthflbhjlkgdafaaGreatDoorMf
set_option linter.unusedVariables false
set_option linter.unusedSimpArgs false
set_option maxRecDepth 100000
open Go.Proofs.Tryz renaming prog->qd
open List renaming getElem?_eq_some_iff->qj,mem_map->qn,range->qr,getElem_mem->qv,getElem?_eq_getElem->qw,mem_cons->qx,getElem?_set_self->qH,getElem?_append_left->qI,mem_append->qJ,replicate->qM,not_mem_nil->qN,mem_singleton->qQ,mem_cons_of_mem->qU,all_eq_true->qY,take_length->q8,drop_eq_getElem_cons->ze,length_append->zf,map_append->zh,mem_cons_self->zj,append_assoc->zE,take_of_length_le->zJ,mem_range->zK,getElem?_append_right->zN,append_nil->zV,length_map->zX,drop_length->zY,length_cons->yp,nil_append->jp,getElem?_eq_none->uy,take_succ_eq_append_getElem->uV,flatMap_cons->uX,drop_eq_nil_of_le->Wp
open Nat renaming le_refl->qk,le_trans->zH
open Go.IntKind renaming i64->qm
open Option.some renaming injEq->qp
open Bool renaming and_eq_true->qB,eq_iff_iff->vy
open Int renaming mul_le_mul->jq,le_refl->Z2
open List.cons renaming injEq->uD
namespace Go.Proofs.YthflbhjlkgdafaaGreatDoor
open Go Go.Ev Go.Proofs Tryz
namespace QF
open Y2 Y3 P1 P2 QD QE
section
variable {p q:Int}{a b:Kd}{l:List Int}{m ns:Nat}
def dig(k:Int)(j:Nat):List Int:=if k=0 then [] else if k=1 then [(j:Int)] else if k=2 then [((j / 4:Nat):Int),((j % 4:Nat):Int)] else [((j / 16:Nat):Int),((j / 4 % 4:Nat):Int),((j % 4:Nat):Int)]
theorem ZY{k}(h:0<=k/\k<=3)(j):((dig k j).length:Int)=k:=by
 grind [dig]
theorem szA1:szA 1=4:=rfl
theorem szA2:szA 2=16:=rfl
theorem szA3:szA 3=64:=rfl
theorem Vj(h:0<=p/\p<=3):p=0\/p=1\/p=2\/p=3:=by omega
theorem qdF(g:0<=p)(i:0<=q)(h:p+q<=3){j}(l:j<szA (p+q)):j / szA q<szA p/\j % szA q<szA q/\dig (p+q) j=dig p (j / szA q)++dig q (j % szA q):=by
 rcases Vj (p:=p) ⟨g,zOm⟩ with rfl|rfl|rfl|rfl<;>rcases Vj (p:=q) ⟨i,zOm⟩ with rfl|rfl|rfl|rfl<;>first | (exfalso;omega)|skip
 all_goals simp[dig,szA]at l⊢
 all_goals omega
theorem kl(g:0<=p)(j:0<=q)(h:p+q<=3){i k}(l:i<szA p)(o:k<szA q):i*szA q+k<szA (p+q)/\dig (p+q) (i*szA q+k)=dig p i++dig q k:=by
 rcases Vj (p:=p) ⟨g,zOm⟩ with rfl|rfl|rfl|rfl<;>rcases Vj (p:=q) ⟨j,zOm⟩ with rfl|rfl|rfl|rfl<;>first | (exfalso;omega)|skip
 all_goals simp[dig,szA]at l o⊢
 all_goals omega
theorem kn(h:0<=p/\p<=3){i j}(g:i<szA p)(l:j<szA p)(e:dig p i=dig p j):i=j:=by
 rcases Vj h with rfl|rfl|rfl|rfl
 all_goals grind [dig,szA]
 all_goals omega
theorem qdG(h:1<=p/\p<=3){l}(j:(l.length:Int)=p)(g:∀ x,x∈l->0<=x/\x<4):∃ i,i<szA p/\l=dig p i:=by
 match l,j,g with
 | [],j,_=>simp at j;omega
 | [a],j,g =>
  obtain rfl:p=1:=by grind
  have:=g a zSp;exact⟨a.toNat,by rw[szA1];omega,by simp[dig];omega⟩
 | [a,b],j,g =>
  obtain rfl:p=2:=by grind
  have:=g a zSp;have:=g b zSp;exact⟨(a*4+b).toNat,by rw[szA2];omega,by simp[dig];omega⟩
 | [a,b,c],j,g =>
  obtain rfl:p=3:=by grind
  have:=g a zSp;have:=g b zSp;have:=g c zSp;exact⟨(a*16+b*4+c).toNat,by rw[szA3];omega,by simp[dig];omega⟩
 |a :: b :: c :: d :: l,j,_=>simp at j;omega
theorem kq{g}(h:l.length=g.length)(i:l.length<=3)(e:pad l=pad g):l=g:=by
 have j:=ZO i l.length (qk _);have o:=ZO (l:=g) zOm g.length (qk _)
 grind
theorem Jd{k}(h:okKd ns k)(g:ns<=4){t:Tp}(j:t∈k.ts):∃ i,i<szA k.ar/\t=pad (dig k.ar i):=by
 obtain⟨l,rfl,o,p⟩:=h.ts t j;obtain⟨i,C,e⟩:=qdG h.ar o fun x I=>by grind
 grind
def qq(k:Kd):RS:=(k.ar,fun j=>decide (j<szA k.ar/\pad (dig k.ar j)∈k.ts))
theorem yV(k j):(qq k).2 j=true↔j<szA k.ar/\pad (dig k.ar j)∈k.ts:=decide_eq_true_iff
theorem Qi{a b}(g:a.1=b.1)(i:∀ j,j<64->a.2 j=b.2 j):eRS a=eRS b:=by
 simp only[eRS,cRS,g,uT i]
theorem Vk(h:a.ar=b.ar):eRS (uniS (qq a) (qq b))=eRS (qq (kSum a b)):=by
 refine Qi rfl fun j g=>?_
 rw[vy,yV];show ((qq a).2 j||(qq b).2 j)=true↔j<szA a.ar/\pad (dig a.ar j)∈uni (uni [] a.ts) b.ts;rw[Bool.or_eq_true,yV,yV,<-h,vX,vX]
 grind
theorem qoX(h:a.ar=b.ar):eRS (intS (qq a) (qq b))=eRS (qq (JM a b)):=by
 refine Qi rfl fun j g=>?_
 rw[vy,yV];show ((qq a).2 j&&(qq b).2 j)=true↔j<szA a.ar/\pad (dig a.ar j)∈a.ts.filter fun t=>decide (t∈b.ts)
 rw[qB,yV,yV,<-h,List.mem_filter,decide_eq_true_eq]
 grind
theorem Ui{n a b t}:t∈ZH n m a b↔∃ x y,x∈a/\y∈b/\conc x n y m 0=t:=by
 unfold ZH;rw[vX];simp only[qN,false_or,qn,Prod.exists,Yl]
 grind
theorem J2{g n}(h:l.length=n)(i:g.length=m)(j:n<=3)(o:m<=3):conc (pad l) n (pad g) m 0=pad (l++g):=by
 unfold conc;rw[Nat.sub_zero,List.drop_zero,ZO zOm n zOm,ZO zOm m zOm,<-h,<-i,q8,q8]
theorem qoY(P:okKd ns a)(R:okKd ns b)(l:ns<=4)(T:a.ar+b.ar<=3):eRS (kj (qq a) (qq b))=eRS (qq (Qv a b)):=by
 have a0:=P.ar;have a1:=R.ar;have la:=fun i=>ZY (k:=a.ar) zOm i
 have lb:=fun i=>ZY (k:=b.ar) zOm i
 have g:=fun i=>ZY (k:=a.ar+b.ar) zOm i
 refine Qi rfl fun j hj=>?_
 rw[vy,yV];show (decide (j<szA a.ar*szA b.ar)&&((qq a).2 (j / szA b.ar)&&(qq b).2 (j % szA b.ar)))=true↔j<szA (a.ar+b.ar)/\pad (dig (a.ar+b.ar) j)∈ZH a.ar.toNat b.ar.toNat a.ts b.ts;rw[qB,qB,yV,yV,Ui,decide_eq_true_eq];constructor
 .rintro ⟨_,⟨t,h2⟩,h4,h5⟩
  have C:=kl (p:=a.ar) (q:=b.ar) zOm zOm T t h4
  grind [szA,Nat.div_add_mod',J2]
 .rintro ⟨t,x,y,U,hy,e⟩
  obtain⟨i,I,rfl⟩:=Jd P l U;obtain⟨k,o,rfl⟩:=Jd R l hy;rw[J2 (zW1 (la i)) (zW1 (lb k)) zOm zOm]at e;have C:=kl (p:=a.ar) (q:=b.ar) zOm zOm T I o;rw[<-C.2]at e;have e2:=kq (zW2 (g (i*szA b.ar+k)) (g j)) (zW1 (g (i*szA b.ar+k))) e;have J:=kn zOm C.1 t e2;have a2:=Vi b.ar;have d1:j / szA b.ar=i:=by rw[<-J,Nat.add_comm,Nat.add_mul_div_right _ _ zOm,Nat.div_eq_of_lt o,Nat.zero_add]
  have d2:j % szA b.ar=k:=by rw[<-J,Nat.add_comm,Nat.add_mul_mod_self_right,Nat.mod_eq_of_lt o]
  rw[d1,d2];refine⟨?_,⟨I,U⟩,o,hy⟩;rw[<-J]
  calc i*szA b.ar+k<i*szA b.ar+szA b.ar:=by omega
   _=(i+1)*szA b.ar:=by rw[Nat.add_mul,Nat.one_mul]
   _<=szA a.ar*szA b.ar:=Nat.mul_le_mul_right _ I
theorem Qy{n a b t}:t∈uK n m a b↔∃ x y,x∈a/\y∈b/\x.getD (n-1) 0=y.getD 0 0/\conc x n y m 1=t:=by
 unfold uK;rw[vX];simp only[qN,false_or,List.mem_filterMap,Prod.exists,Yl];constructor
 .rintro ⟨x,y,⟨i,j⟩,g⟩
  split at g
  .rename_i h;cases g;exact⟨x,y,i,j,h,rfl⟩
  .cases g
 .rintro ⟨x,y,i,j,g,l⟩;exact⟨x,y,⟨i,j⟩,by rw[if_pos g,l]⟩
theorem qoZ{u v e f n}(h:u.length+1=n)(g:v.length+1=m)(i:n<=3)(j:m<=3):conc (pad (u++[e])) n (pad ([f]++v)) m 1=pad (u++v):=by
 unfold conc;rw[ZO zSo (n-1) zSo,ZO zSo m zSo,List.take_append_of_le_length zOm,zJ zOm,zJ zSo];rfl
theorem qdH{k}(h:k<3):(pad l).getD k 0=l.getD k 0:=by
 match k,h with
 | 0,_=>rfl
 | 1,_=>rfl
 | 2,_=>rfl
theorem qo0(g:0<=p/\p<=2){i}(j:i<szA (p+1)):i / 4<szA p/\dig (p+1) i=dig p (i / 4)++[((i % 4:Nat):Int)]:=by
 have:=qdF (p:=p) (q:=1) g.1 zOm zOm j;rw[szA1]at this;exact⟨this.1,this.2.2⟩
theorem qo1(g:0<=q/\q<=2){k}(i:k<szA (1+q)):k % szA q<szA q/\dig (1+q) k=[((k / szA q:Nat):Int)]++dig q (k % szA q):=by
 have:=qdF (p:=1) (q:=q) zOm g.1 zOm i;exact⟨this.2.1,this.2.2⟩
theorem qo2(g:0<=q/\q<=2):szA (q+1) / 4=szA q/\szA (q+1)=4*szA q:=by
 rcases (show q=0\/q=1\/q=2 by omega) with rfl|rfl|rfl<;>exact⟨rfl,rfl⟩
theorem qdI(ha:okKd ns a)(hb:okKd ns b)(t:ns<=4)(h3:1<=a.ar+b.ar-2/\a.ar+b.ar-2<=3):eRS (ZX (qq a) (qq b))=eRS (qq (zG a b)):=by
 have a0:=ha.ar;have a3:=hb.ar;obtain⟨p,hp⟩:∃ p,p=a.ar-1:=⟨_,rfl⟩;obtain⟨q,hq⟩:∃ q,q=b.ar-1:=⟨_,rfl⟩;have ea:a.ar=p+1:=zOm;have eb:b.ar=1+q:=zOm;have C:b.ar=q+1:=zOm;have I:a.ar+b.ar-2=p+q:=zOm;have P:=qo2 (q:=q) zOm;have hn:szA b.ar / 4=szA q:=by rw[C];exact P.1
 have lp:=fun i=>ZY (k:=p) zOm i
 have lq:=fun i=>ZY (k:=q) zOm i
 have o:=fun i=>ZY (k:=p+q) zOm i
 have A:∀ i,i<szA a.ar->i / 4<szA p/\dig a.ar i=dig p (i / 4)++[((i % 4:Nat):Int)]:=fun i g=>by rw[ea]at g⊢;exact qo0 zOm g
 have B:∀ k,k<szA b.ar->k % szA q<szA q/\dig b.ar k=[((k / szA q:Nat):Int)]++dig q (k % szA q):=fun k l=>by rw[eb]at l⊢;exact qo1 zOm l
 have J:∀ i k,i<szA a.ar->k<szA b.ar->i / 4*szA q+k % szA q<szA (p+q)/\(pad (dig a.ar i)).getD (a.ar.toNat-1) 0=((i % 4:Nat):Int)/\(pad (dig b.ar k)).getD 0 0=((k / szA q:Nat):Int)/\conc (pad (dig a.ar i)) a.ar.toNat (pad (dig b.ar k)) b.ar.toNat 1=pad (dig (p+q) (i / 4*szA q+k % szA q)):=fun i k g l=>by
  obtain⟨a1,a2⟩:=A i g;obtain⟨b1,b2⟩:=B k l;have hm:=kl (p:=p) (q:=q) zOm zOm zOm a1 b1;have l1:=lp (i / 4);have l2:=lq (k % szA q);refine⟨hm.1,?_,?_,?_⟩
  .rw [qdH zOm,a2,show a.ar.toNat-1=(dig p (i / 4)).length by omega];simp
  .rw [qdH zOm,b2];rfl
  .rw [a2,b2,hm.2];exact qoZ zOm zOm zOm zOm
 refine Qi rfl fun j hj=>?_
 rw[vy,yV];show ((qr (szA a.ar)).any fun i=>(qr (szA b.ar)).any fun k=>decide (i / 4*(szA b.ar / 4)+k % (szA b.ar / 4)=j)&&(decide (i % 4=k / (szA b.ar / 4))&&((qq a).2 i&&(qq b).2 k)))=true↔j<szA (a.ar+b.ar-2)/\pad (dig (a.ar+b.ar-2) j)∈uK a.ar.toNat b.ar.toNat a.ts b.ts;rw[Qy,List.any_eq_true,hn,I];constructor
 .rintro ⟨i,g,h⟩
  obtain⟨k,l,h⟩:=List.any_eq_true.1 h;rw[zK]at g l;rw[qB,qB,qB,decide_eq_true_eq,decide_eq_true_eq,yV,yV]at h;obtain⟨rfl,R,⟨_,h4⟩,_,h5⟩:=h;obtain⟨T,U,j3,j4⟩:=J i k g l;exact⟨T,_,_,h4,h5,by rw[U,j3,R],j4⟩
 .rintro ⟨h1,x,y,hx,hy,R,e⟩
  obtain⟨i,g,rfl⟩:=Jd ha t hx;obtain⟨k,l,rfl⟩:=Jd hb t hy;obtain⟨T,U,j3,j4⟩:=J i k g l;rw[j4]at e;have e2:=kq (zW2 (o (i / 4*szA q+k % szA q)) (o j)) (zW1 (o (i / 4*szA q+k % szA q))) e;have e3:=kn zOm T h1 e2;rw[U,j3]at R;refine⟨i,zK.2 g,List.any_eq_true.2 ⟨k,zK.2 l,?_⟩⟩;rw[qB,qB,qB,decide_eq_true_eq,decide_eq_true_eq,yV,yV];exact⟨e3,zOm,⟨g,hx⟩,l,hy⟩
theorem qo3(o:okKd ns a)(g:ns<=4)(p:a.ar=2):eRS (trS (qq a))=eRS (qq (kTr a)):=by
 refine Qi rfl fun j J=>?_
 rw[vy,yV];show (decide (j<16)&&(qq a).2 (j % 4*4+j / 4))=true↔j<16/\pad (dig 2 j)∈uni [] (a.ts.map fun t=>[t.getD 1 0,t.getD 0 0,0]);rw[qB,yV,vX,decide_eq_true_eq,p,szA2];simp only[qN,false_or,qn];constructor
 .rintro ⟨l,P,C⟩
  refine⟨l,_,C,?_⟩
  grind [dig,pad]
 .rintro ⟨l,t,I,e⟩
  obtain⟨i,R,rfl⟩:=Jd o g I
  grind [szA2,dig,pad]
theorem ku(h:1<=l.length/\l.length<=3)(g:∀ x,x∈l->0<=x/\x<4):eRS (oneS l)=eRS (qq (kOf l)):=by
 refine Qi rfl fun j R=>?_
 obtain⟨i,o,e⟩:=qdG (p:=(l.length:Int)) zOm rfl g;have t:atF 0 l=i:=by
  match l,h,g,o,e with
  | [x],_,g,o,e =>
   have:=g x zSp;simp[dig]at e;simp[atF,IntKind.wrap,IntKind.signed,IntKind.bits];omega
  | [x,y],_,g,o,e =>
   have:=g x zSp;have:=g y zSp;simp[dig]at e;simp[atF,IntKind.wrap,IntKind.signed,IntKind.bits];omega
  | [x,y,z],_,g,o,e =>
   have:=g x zSp;have:=g y zSp;have:=g z zSp;simp[dig]at e;simp[atF,IntKind.wrap,IntKind.signed,IntKind.bits];omega
 rw[vy,yV];show decide ((j:Int)=atF 0 l)=true↔j<szA (l.length:Int)/\pad (dig (l.length:Int) j)∈[pad l];rw[decide_eq_true_eq,t,qQ];have I:=fun j=>ZY (k:=(l.length:Int)) zOm j
 constructor
 .intro J
  obtain rfl:j=i:=zOm
  grind
 .rintro ⟨J,P⟩
  have C:=kq (zW1 (I j)) (zW1 (I j)) P;rw[e]at C;have:=kn (p:=(l.length:Int)) zOm J o (by rw[<-e]at C⊢;exact C);omega
end
end QF
namespace QG
open Y2 P1 P2 PB QE QF
section
variable {k:Kd}{ns:Nat}
def Vl(k:Kd):Kd:=kSum k (zG k k)
def itK:Nat->Kd->Kd
 | 0,k=>k
 |i+1,k=>Vl (itK i k)
theorem qo4(h:okKd ns k)(g:k.ar=2):okKd ns (Vl k)/\(Vl k).ar=2:=
 ⟨J1 h (J3 h h zOm zOm) (by grind [zG]),g⟩
theorem okIt(h:okKd ns k)(g:k.ar=2):∀ i,okKd ns (itK i k)/\(itK i k).ar=2
 | 0=>⟨h,g⟩
 |i+1=>qo4 (okIt h g i).1 (okIt h g i).2
abbrev Ed(k:Kd)(u v:Int):Prop:=[u,v,0]∈k.ts
theorem U6(h:okKd ns k)(o:k.ar=2){t:Tp}(j:t∈k.ts):∃ u v,t=[u,v,0]/\(0<=u/\u<ns)/\(0<=v/\v<ns):=by
 obtain⟨l,rfl,g,i⟩:=h.ts t j
 match l,g,i with
 | [u,v],_,i=>exact⟨u,v,rfl,i u zSp,i v zSp⟩
 | [],g,_=>simp at g;omega
 | [_],g,_=>simp at g;omega
 |_ :: _ :: _ :: _,g,_=>simp at g;omega
theorem qdJ(h:okKd ns k)(j:k.ar=2){u v}:[u,v,0]∈(zG k k).ts↔∃ w,Ed k u w/\Ed k w v:=by
 show [u,v,0]∈uK k.ar.toNat k.ar.toNat k.ts k.ts↔_;rw[QF.Qy,j];constructor
 .rintro ⟨x,y,l,o,g,i⟩
  obtain⟨a,b,rfl,_,_⟩:=U6 h j l;obtain⟨c,d,rfl,_,_⟩:=U6 h j o;have g:b=c:=g;have i:[a,d,0]=[u,v,0]:=i
  grind
 .rintro ⟨w,g,i⟩
  exact⟨[u,w,0],[w,v,0],g,i,rfl,rfl⟩
theorem kv(h:okKd ns k)(g:k.ar=2){u v}:Ed (Vl k) u v↔Ed k u v\/∃ w,Ed k u w/\Ed k w v:=by
 unfold Ed Vl;rw[Jb,qdJ h g]
def Path(k:Kd)(n:Nat)(u v:Int):Prop:=∃ f:Nat->Int,f 0=u/\f n=v/\∀ i,i<n->Ed k (f i) (f (i+1))
theorem Path.one{u v}(h:Ed k u v):Path k 1 u v:=⟨fun i=>if i=0 then u else v,rfl,rfl,fun i g=>by
 grind⟩
theorem Path.comp{n m u w v}(h:Path k n u w)(o:Path k m w v):Path k (n+m) u v:=by
 obtain⟨f,f0,fn,hf⟩:=h;obtain⟨g,p,t,C⟩:=o;refine⟨fun i=>if i<n then f i else g (i-n),?_,?_,fun i I=>?_⟩
 .grind
 .grind
 .by_cases j:i+1<n
  .simp only[if_pos j,if_pos (show i<n by omega)];grind
  .by_cases l:i<n
   .have e:i+1=n:=by omega
    simp only[if_neg j,if_pos l]
    grind
   .simp only[if_neg j,if_neg l,show i+1-n=(i-n)+1 by omega]
    grind
theorem tC(h:okKd ns k)(P:k.ar=2)(g:ns<=4):∀ N n u v,n<=N->1<=n->Path k n u v->∃ m,1<=m/\m<=4/\Path k m u v
 | 0,n,u,v,R,T,_=>zOm
 | N+1,n,u,v,R,T,U=>by
  by_cases h4:n<=4
  .grind
  obtain⟨f,f0,fn,hf⟩:=U;have hr:∀ i,i<5->0<=f i/\f i<4:=fun i C=>by
   grind [U6]
  obtain⟨i,j,a0,hj,e⟩:∃ i j,i<j/\j<5/\f i=f j:=by
   apply Classical.byContradiction;intro l;have o:((qr 5).map f).Nodup:=List.pairwise_map.2 (List.pairwise_lt_range.imp_of_mem fun {a b} ha hb p e=>l ⟨a,b,p,zK.1 hb,e⟩);have:=List.Nodup.length_le_of_subset o (l₂:=[0,1,2,3]) fun x I=>by
    obtain⟨i,C,rfl⟩:=qn.1 I;have:=hr i (zK.1 C);simp;omega
   simp at this
  refine tC h P g N (n-(j-i)) u v zOm zOm ⟨fun x=>if x<i then f x else f (x+(j-i)),?_,?_,fun x I=>?_⟩
  .grind
  .simp only[if_neg (show ¬n-(j-i)<i by omega),show n-(j-i)+(j-i)=n by omega,fn]
  .by_cases t:x+1<i
   .simp only[if_pos t,if_pos (show x<i by omega)];grind
   .by_cases J:x<i
    .have e1:x+1=i:=by omega
     simp only[if_neg t,if_pos J]
     grind
    .simp only[if_neg t,if_neg J,show x+1+(j-i)=(x+(j-i))+1 by omega]
     exact hf _ zOm
theorem Vm(h:okKd ns k)(g:k.ar=2):∀ i u v,Ed (itK i k) u v->∃ n,1<=n/\Path k n u v
 | 0,u,v,j=>⟨1,zOm,.one j⟩
 |i+1,u,v,j=>by
  rcases (kv (okIt h g i).1 (okIt h g i).2).1 j with j|⟨w,l,o⟩
  .exact Vm h g i u v j
  .obtain ⟨n,t,p⟩:=Vm h g i u w l
   obtain⟨m,C,q⟩:=Vm h g i w v o;exact⟨n+m,zOm,p.comp q⟩
theorem Je(i):Sub (itK i k) (itK (i+1) k):=KU _ _
theorem qo5(h:okKd ns k)(g:k.ar=2){m u v}(p:1<=m)(t:m<=4)(o:Path k m u v):Ed (itK 4 k) u v:=by
 obtain⟨f,rfl,rfl,hf⟩:=o;have up:∀{u v},Ed (itK 2 k) u v->Ed (itK 4 k) u v:=fun i=>(Je 3).2 _ ((Je 2).2 _ i)
 have s1:∀{u w v},Ed (itK 0 k) u w->Ed (itK 0 k) w v->Ed (itK 1 k) u v:=fun a b=>(kv (okIt h g 0).1 (okIt h g 0).2).2 (.inr ⟨_,a,b⟩)
 have j:∀{u w v},Ed (itK 1 k) u w->Ed (itK 1 k) w v->Ed (itK 2 k) u v:=fun a b=>(kv (okIt h g 1).1 (okIt h g 1).2).2 (.inr ⟨_,a,b⟩)
 have l:∀{u v},Ed (itK 0 k) u v->Ed (itK 1 k) u v:=fun i=>(Je 0).2 _ i
 refine up ?_;rcases (show m=1\/m=2\/m=3\/m=4 by omega) with rfl|rfl|rfl|rfl
 .exact (Je 1).2 _ (l (hf 0 zOm))
 .exact (Je 1).2 _ (s1 (hf 0 zOm) (hf 1 zOm))
 .exact j (s1 (hf 0 zOm) (hf 1 zOm)) (l (hf 2 zOm))
 .exact j (s1 (hf 0 zOm) (hf 1 zOm)) (s1 (hf 2 zOm) (hf 3 zOm))
theorem qo6(h:okKd ns k)(g:k.ar=2)(i:ns<=4):UW (itK 4 k):=fun t l=>by
 have ok:=okIt h g 4;have j:=J3 ok.1 ok.1 (by rw[ok.2];omega) (by rw[ok.2];omega);obtain⟨u,v,rfl,_,_⟩:=U6 j (by grind [zG]) l;obtain⟨w,o,C⟩:=(qdJ ok.1 ok.2).1 l;obtain⟨n,I,p⟩:=Vm h g 4 u w o;obtain⟨m,J,q⟩:=Vm h g 4 w v C;obtain⟨c,c1,c4,P⟩:=tC h g i (n+m) (n+m) u v (qk _) zOm (p.comp q)
 grind [qo5]
theorem Vn{S}(g:UW S){k}(h:Sub k S):∀ i,Sub (itK i k) S
 | 0=>h
 |i+1=>⟨(Vn g h i).1,fun t j=>by
  rcases Jb.1 j with j|j
  .exact (Vn g h i).2 t j
  .exact g t ((KS (Vn g h i) (Vn g h i)).2 t j)⟩
theorem qdK:∀ i,Sub k (itK i k)
 | 0 => .refl k
 |i+1=>(qdK i).trans (Je i)
theorem qo7(h:okKd ns k)(l:k.ar=2)(g:ns<=4):eRS (qq (itK 4 k))=eRS (qq (kClo k)):=by
 have o:Sub (kClo k) (itK 4 k):=qcJ (qo6 h l g) 70 0 k (qdK 4);have i:Sub (itK 4 k) (kClo k):=Vn (qcK g 70 0 k h l zOm (.inl rfl)) (qcI 70 0 k) 4;refine Qi i.1 fun j p=>?_
 rw[vy,yV,yV,i.1];exact⟨fun x=>⟨x.1,i.2 _ x.2⟩,fun x=>⟨x.1,o.2 _ x.2⟩⟩
end
end QG
namespace QH
open YF Y9 Y2 Y3 P1 P2 PB QD QE QF QG
theorem Uk{ns a}(h:okKd ns a)(J:a.ar=2)(g:ns<=4):qh qd 286 [eRS (qq a)] (eRS (qq (kClo a))):=by
 refine qSQ call286 func286 rfl { mt:=[1] } ?_;rw[<-qo7 h J g];simp[go_sem];refine⟨q9 _,?_⟩;refine aP 4 (fun i U=>U.tm 1 = .ptr 0 0/\U.tm 2 = .ptr 1 0/\U.tm 3=aI i/\U.mu=[.arr (cRS (qq (itK i a))),.arr (aI 0 :: hB fun _=>false)]) ?_ ?_
 .exact ⟨zSi,zSi,zSi,by simp[go_sem];exact⟨⟨rfl,rfl⟩,rfl⟩⟩
 rintro i U hi ⟨l,o,p,P⟩;by_cases t:i<4
 .have j:(i:Int)<4:=by omega
  have R:=zWk i;obtain⟨ok,o2⟩:=okIt h J i;have T:qh qd 283 [eRS (qq (itK i a)),eRS (qq (itK i a))] (eRS (qq (zG (itK i a) (itK i a)))):=by
   rw[<-qdI ok ok g zOm];exact uL _ _ (by show 0<=(itK i a).ar/\(itK i a).ar<=1000;omega) (by show 1<=(itK i a).ar/\(itK i a).ar<=1000;omega)
  have cu:qh qd 281 [eRS (qq (itK i a)),eRS (qq (zG (itK i a) (itK i a)))] (eRS (qq (itK (i+1) a))):=by
   have:=jm (qq (itK i a)) (qq (zG (itK i a) (itK i a)));rw[Vk (by simp only[zG];omega)]at this;exact this
  generalize C:qq (itK (i+1) a)=s' at *
  generalize qq (zG (itK i a) (itK i a))=q at *
  generalize qq (itK i a)=s at *
  simp[go_sem,p,P,j];refine tV zKr ?_;simp[go_sem,l,qt,tk];refine fW T (.zk (yI _) (.zk (yI _) .nil)) ?_;refine t7 cu (.zk (yI _) (.zk (yI _) .nil)) ?_;simp[go_sem,l,qt,pc];rw[if_pos (q9 _)];simp[go_sem,p,R];exact⟨t,aM ⟨zS1 l,zS1 o,zSi,zS1 C⟩⟩
 .have I:i=4:=by omega
  subst I;generalize qq (itK 4 a)=s at *
  simp[go_sem,l,o,p,P,qt,tk,pc];rw[if_pos (q9 _)];simp[go_sem,o,qt,tk];exact .hf _ (yI s)
theorem qo8(i k)(g:k=1\/k=2):eRS (qq (kSum (zt i k) (kOf (qM k (i:Int)))))=eRS (qq (zt (i+1) k)):=by
 refine Qi rfl fun j l=>?_
 rw[vy,yV,yV];show j<szA (k:Int)/\pad (dig (k:Int) j)∈(kSum (zt i k) (kOf (qM k (i:Int)))).ts↔j<szA (k:Int)/\pad (dig (k:Int) j)∈(qr (i+1)).map fun (x:Nat)=>pad (qM k (x:Int))
 rw[Jb,List.range_succ,zh,qJ];rfl
theorem qo9(k):hB (qq (zt 0 k)).2=hB fun _=>false:=uT fun j _=>decide_eq_false fun h=>absurd h.2 qN
theorem allU(ts)(h:okTS ts)(k:Nat)(T:k=1\/k=2):qh qd 280 [eTS ts,aI k] (eRS (qq (zt ts.sS.length k))):=by
 refine qSV call280 func280 rfl ?_;have a1:=h.ns;have hz:=qo9 k;simp[go_sem];refine aP ts.sS.length (fun i U=>U.tm 1=aI k/\U.tm 2 = .ip (cTS ts)/\U.tm 4 = .ptr 0 0/\U.tm 5 = .ptr 1 0/\U.tm 6=aI i/\U.mu=[.arr (aI 0 :: hB fun _=>false),.arr (cRS (qq (zt i k)))]) ?_ ?_
 .exact ⟨zSi,zSi,zSi,zSi,zSi,by
   have e:cRS (qq (zt 0 k))=aI k :: hB fun _=>false:=by simp only[cRS,hz];rfl
   rw[e];simp[go_sem];first|rfl|exact⟨rfl,rfl⟩⟩
 rintro i U hi ⟨I,t,J,j,o,P⟩;by_cases g:i<ts.sS.length
 .have w1:=zWk i
  have c1:∀ l:List Int,l=qM k (i:Int)->qh qd 261 [lI l] (eRS (qq (kOf l))):=fun l p=>by
   have a0:l.length=k:=by rw[p,List.length_replicate]
   have:=oneU l zOm;rw[ki]at this;rw[<-QF.ku (l:=l) zOm (fun x hx=>by rw[p]at hx;rw[List.eq_of_mem_replicate hx];omega)];exact this
  have cu:∀ l:List Int,l=qM k (i:Int)->qh qd 281 [eRS (qq (zt i k)),eRS (qq (kOf l))] (eRS (qq (zt (i+1) k))):=fun l p=>by
   have:=jm (qq (zt i k)) (qq (kOf l));rw[Vk (by show (k:Int)=l.length;rw[p,List.length_replicate]),p,qo8 i k T]at this;rw[p];exact this
  generalize C:qq (zt (i+1) k)=s' at *
  generalize qq (zt i k)=s at *
  rcases T with rfl|rfl
  .have d1:=c1 [(i:Int)] rfl
   have d2:=cu [(i:Int)] rfl;generalize qq (kOf [(i:Int)])=q at *
   simp[go_sem,I,t,o,P,g];refine tV zKr ?_;simp[go_sem,j,o,qt,tk];refine fW d1 (.cons (QD.wk1 _) .nil) ?_;refine t7 d2 (.zk (yI _) (.zk (yI _) .nil)) ?_;simp[go_sem,j,qt,pc];rw[if_pos (q9 _)];simp[go_sem,o,w1];exact⟨g,aM ⟨zS1 I,zS1 t,zS1 J,zS1 j,zSi,zS1 C⟩⟩
  .have d1:=c1 [(i:Int),(i:Int)] rfl
   have d2:=cu [(i:Int),(i:Int)] rfl;generalize qq (kOf [(i:Int),(i:Int)])=q at *
   simp[go_sem,I,t,o,P,g];refine tV zKr ?_;simp[go_sem,j,o,qt,tk];refine fW d1 (.cons (QD.wk2 _ _) .nil) ?_;refine t7 d2 (.zk (yI _) (.zk (yI _) .nil)) ?_;simp[go_sem,j,qt,pc];rw[if_pos (q9 _)];simp[go_sem,o,w1];exact⟨g,aM ⟨zS1 I,zS1 t,zS1 J,zS1 j,zSi,zS1 C⟩⟩
 .have R:i=ts.sS.length:=by omega
  subst R;generalize qq (zt ts.sS.length k)=s at *
  simp[go_sem,t,J,j,o,P,qt,tk,pc];rw[if_pos (q9 _)];simp[go_sem,J,qt,tk];exact .hf _ (yI s)
end QH
namespace QI
open YF Y9 Y10 Y1 Y2 P1 P2
theorem qpA{c nm k}(l:k<c.calls)(o)(h:c.ts.sT[k].name=nm)(i:∀(j) (g),j<k->c.ts.sT[j].name≠nm):zy c nm=some k:=by
 unfold zy;rw[List.findIdx?_eq_some_iff_getElem];refine⟨zSo,zP1 h,fun j g=>?_⟩;simp[i j zOm g]
theorem qpB{c nm}(i:∀(j) (g),j<c.calls->c.ts.sT[j].name≠nm):zy c nm=none:=by
 unfold zy;rw[List.findIdx?_eq_none_iff];intro p l;obtain⟨j,g,e⟩:=List.mem_iff_getElem.1 l;simp at g;rw[List.getElem_take]at e;rw[<-e];exact decide_eq_false (i j zOm zOm)
abbrev idxO:Option Nat->Int
 |some i=>i
 |none => -1
theorem Vo(c)(P:okCk c)(nm):qh qd 149 [eTS c.ts,aI c.calls,aS nm] (aI (idxO (zy c nm))):=by
 refine qSV call149 func149 rfl ?_;have R:=P.calls;have T:=P.ts.np;simp[go_sem];refine aP c.calls (fun k U=>U.tm 1=aI c.calls/\U.tm 2=aS nm/\U.tm 3 = .ip (cTS c.ts)/\U.tm 7=aI k/\∀(j:Nat)(p:j<c.ts.sT.length),j<k->c.ts.sT[j].name≠nm) ?_ ?_
 .exact ⟨zSi,zSi,zSi,zSi,fun j p h=>zOm⟩
 rintro k U hk ⟨l,t,C,e7,I⟩;by_cases g:k<c.calls
 .have w1:=zWk k
  have i:k<c.ts.sT.length:=zOm;by_cases o:c.ts.sT[k].name=nm
  .rw [qpA g i o I]
   simp[go_sem,l,t,C,e7,g,i,o];exact .zsc _
  .simp [go_sem,l,t,C,e7,g,i,jS o,w1]
   refine aM ⟨zS1 l,zS1 t,zS1 C,zSi,fun j p a0=>?_⟩;by_cases he:j=k
   .subst he;exact o
   .exact I j p zOm
 .have J:k=c.calls:=by omega
  subst J;rw[qpB I];simp[go_sem,l,e7];exact .zsc _
theorem Jf(op):qh qd 254 [aI op] (aB (yP op)):=by
 refine qSV call254 func254 rfl ?_;by_cases g:op=5
 .rw [show yP op=true by simp[yP,g]]
  simp[go_sem,g];exact .zsc _
 by_cases i:48<=op
 .by_cases j:op<=51
  .rw [show yP op=true by unfold yP;rcases (show op=48\/op=49\/op=50\/op=51 by omega) with h|h|h|h<;>simp[h]]
   simp[go_sem,g,i,j];exact .zsc _
  .rw [show yP op=false by simp[yP,g,show ¬op=48 by omega,show ¬op=49 by omega,show ¬op=50 by omega,show ¬op=51 by omega]]
   simp[go_sem,g,i,j];exact .zsc _
 .rw [show yP op=false by simp[yP,g,show ¬op=48 by omega,show ¬op=49 by omega,show ¬op=50 by omega,show ¬op=51 by omega]]
  simp[go_sem,g,i];exact .zsc _
abbrev rBo(b:Bool):List AV:=[aB b]
abbrev lBo(l:List Bool):AV := .lst false (l.map rBo)
theorem Vp(l):HF (lBo l):=HF.lst fun r i c g=>by
 obtain⟨b,_,rfl⟩:=qn.1 i;rw[qQ]at g;subst g;exact HF.sc _
def tpB(c:Ck)(nm:dA):Bool:=match zy c nm with|some p=>c.timed.getD p false|none=>false
theorem Jg(c)(o:okCk c)(nm):qh qd 255 [eTS c.ts,lBo c.timed,aI c.calls,aS nm] (aB (tpB c nm)):=by
 generalize i:tpB c nm=r;unfold tpB at i;refine qSU call255 func255 rfl ?_;refine t7 (Vo c o nm) (.zk (zA _) (.zs (.zs .nil))) ?_;cases j:zy c nm with
 |none =>
  rw[j]at i;subst i;simp[go_sem,idxO];exact .zsc _
 |some p =>
  rw[j]at i;by_cases l:p<c.timed.length
  .have g:r=c.timed[p]:=by rw[<-i];simp[List.getD,l]
   subst g;simp[go_sem,idxO,l];exact .zsc _
  .have g:r=false:=by rw[<-i];simp[List.getD,l]
   subst g;simp[go_sem,idxO,l];exact .zsc _
theorem qdL(c)(hc:okCk c)(hl:c.timed.length=c.calls):∀ m n,szN n<=m->Small n->qh qd 260 [eTS c.ts,lBo c.timed,eNd n] (aB (yQ c n))
 | 0,n,hm,_=>by obtain⟨op,nm,i,ks,p⟩:=n;simp[szN]at hm
 |m+1,n,hm,hs=>by
  have ih:∀ k,k∈n.sD->qh qd 260 [eTS c.ts,lBo c.timed,eNd k] (aB (yQ c k)):=fun k J =>
   qdL c hc hl m k (zW1 (qZ J)) (hs.kid J)
  have a0:=hs.len;have P:yZ c n.op n.name=(yP n.op||(decide (n.op=47)&&tpB c n.name)):=rfl;rw[nK,P];generalize hR:n.sD.any (yQ c)=R;have ct:=Jf n.op;have cp:=Jg c hc n.name;generalize yP n.op=T at *
  generalize tpB c n.name=B at *
  refine qSU call260 func260 rfl ?_;refine t7 ct (.zs .nil) ?_;cases T with
  |true =>
   simp[go_sem];exact .zsc _
  |false =>
  rw[Bool.false_or];by_cases h47:n.op=47
  .rw [decide_eq_true h47,Bool.true_and]
   simp[go_sem,h47,hl];refine t7 cp (.zk (zA _) (.zk (Vp _) (.zs (.zs .nil)))) ?_;cases B with
   |true =>
    simp[go_sem];exact .zsc _
   |false =>
   rw[Bool.false_or];simp[go_sem];refine aP n.sD.length (fun k U=>U.tm 1=lBo c.timed/\U.tm 3 = .ip (cTS c.ts)/\U.tm 5 = .ip (cNd n)/\U.tm 7=aI k/\(n.sD.drop k).any (yQ c)=R) ?_ ?_
   .exact ⟨zSi,zSi,zSi,zSi,zUs hR⟩
   rintro k U J ⟨t,C,l,e7,j⟩;by_cases o:k=n.sD.length
   .subst o
    rw[zY]at j;have j:R=false:=by rw[<-j];rfl
    subst j;simp[go_sem,l,e7];exact .zsc _
   have g:k<n.sD.length:=zOm;have w1:=zWk k;rw[ze g,List.any_cons]at j;have hi:=ih n.sD[k] (qv g);simp[go_sem,l,e7,g];refine tV zKr ?_;simp[go_sem,t,C,l,e7,g];refine t7 hi (.zk (zA _) (.zk (Vp _) (.zk (qC _) .nil))) ?_;cases I:yQ c n.sD[k] with
   |true =>
    rw[I,Bool.true_or]at j;subst j;simp[go_sem];exact .zsc _
   |false =>
    rw[I,Bool.false_or]at j;simp[go_sem,e7,g,w1];exact aM ⟨zS1 t,zS1 C,zS1 l,zSi,j⟩
  .rw [decide_eq_false h47,Bool.false_and,Bool.false_or]
   simp[go_sem,h47];refine aP n.sD.length (fun k U=>U.tm 1=lBo c.timed/\U.tm 3 = .ip (cTS c.ts)/\U.tm 5 = .ip (cNd n)/\U.tm 7=aI k/\(n.sD.drop k).any (yQ c)=R) ?_ ?_
   .exact ⟨zSi,zSi,zSi,zSi,zUs hR⟩
   rintro k U J ⟨t,C,l,e7,j⟩;by_cases o:k=n.sD.length
   .subst o
    rw[zY]at j;have j:R=false:=by rw[<-j];rfl
    subst j;simp[go_sem,l,e7];exact .zsc _
   have g:k<n.sD.length:=zOm;have w1:=zWk k;rw[ze g,List.any_cons]at j;have hi:=ih n.sD[k] (qv g);simp[go_sem,l,e7,g];refine tV zKr ?_;simp[go_sem,t,C,l,e7,g];refine t7 hi (.zk (zA _) (.zk (Vp _) (.zk (qC _) .nil))) ?_;cases I:yQ c n.sD[k] with
   |true =>
    rw[I,Bool.true_or]at j;subst j;simp[go_sem];exact .zsc _
   |false =>
    rw[I,Bool.false_or]at j;simp[go_sem,e7,g,w1];exact aM ⟨zS1 t,zS1 C,zS1 l,zSi,j⟩
theorem kw(l:List Bool):qS 1 (l.map rBo):=fun r g=>by
 obtain⟨b,_,rfl⟩:=qn.1 g;exact⟨rfl,rfl⟩
theorem appBo{mu lo s xs b K}(g:OwnF lo mu 1 s (xs.map rBo))(p:xs.length<=100000)(l:∀ av mu',OwnF lo mu' 1 av ((xs++[b]).map rBo)->(∀ i,i<lo->mu'[i]?=mu[i]?)->K av mu') :
  qu qd mu #[36,36] s (.lst true [[aB b]]) K:=by
 refine qu.ownF (lo:=lo) (e:=4) (sz:=1) (bt:=1) (zv:=aB false) (xs:=xs.map rBo) (ys:=[rBo b]) zSi zSi zSi rfl rfl zOm zOm g (by simp[qy]) (kw xs) (kw [b]) zSo ?_;intro av mu' h o;exact l av mu' (by rw[zh];exact h) o
theorem rdBo{lo mu av l}(i:OwnF lo mu 1 av (l.map rBo)):Rd mu av (lBo l):=
 Own.rd (sz:=1) i.1 (kw l).ok fun r j c g=>by
  obtain⟨b,_,rfl⟩:=qn.1 j;rw[qQ]at g;subst g;exact HF.sc _
theorem qpC(ts)(h:okTS ts)(hp:∀ p,p∈ts.sT->WfN p.body):qh qd 210 [eTS ts] (lBo (tmsL ts ts.sT.length)):=by
 refine qSV call210 func210 rfl ?_;have a0:=h.np;simp[go_sem];refine aP ts.sT.length (fun k U=>U.tm 1 = .ip (cTS ts)/\U.tm 4=aI k/\OwnF 0 U.mu 1 (U.tm 3) ((tmsL ts k).map rBo)) ?_ ?_
 .exact ⟨zSi,zSi,by simp[go_sem,tmsL];exact OwnF.nil (Nat.zero_le _)⟩
 rintro k U hk ⟨j,l,o⟩;by_cases g:k<ts.sT.length
 .have w1:=zWk k
  generalize C:U.tm 3=t at *
  have I:=rdBo o;have ht:=qdL (mkCk ts k) (uo h zOm) (ZN ts k zOm) (szN ts.sT[k].body) ts.sT[k].body (qk _) (hp _ (qv g)).small;have T:=ZN ts k zOm;have i:tmsL ts (k+1)=tmsL ts k++[yQ (mkCk ts k) ts.sT[k].body]:=by
   show tmsL ts k++(match ts.sT[k]? with|some p=>[yQ ⟨ts,k,tmsL ts k⟩ p.body] | none=>[])=_;rw[qw g];rfl
  simp[go_sem,j,l,g];refine tV zKr ?_;simp[go_sem,j,l,C,g];refine fX (args':=[eTS ts,lBo (tmsL ts k),eNd ts.sT[k].body]) ht ⟨.hf _ (zA ts),I,.hf _ (qC _),trivial⟩ (FL.sc _) ?_;simp[go_sem];refine appBo o zOm fun a1 m' P _=>?_
  simp[go_sem,l,g,w1];exact aM ⟨zS1 j,zSi,by rw[i];simpa[go_sem] using P⟩
 .have R:k=ts.sT.length:=by omega
  subst R;generalize C:U.tm 3=t at *
  simp[go_sem,j,l,C];exact rdBo o
end QI
namespace QJ
open YF Y10 Y1 P1 QD QE QF
abbrev Vr:=dA×RS
abbrev cVr(v:Vr):List AV:=aS v.1 :: cRS v.2
abbrev lVr(l:List Vr):AV := .lst false (l.map cVr)
theorem qdM(v):∀ c,c∈cVr v->HF c:=fun c g=>by
 rcases qx.1 g with rfl|g
 .exact HF.sc _
 .exact ((setC v.2).sc c g).2
theorem qpD(l):HF (lVr l):=HF.lst fun r g c i=>by
 obtain⟨v,_,rfl⟩:=qn.1 g;exact qdM v c i
theorem kz(v):∀ c,c∈cVr v->c.one=true:=fun c g=>by
 rcases qx.1 g with rfl|g
 .rfl
 .exact ((setC v.2).sc c g).1
theorem kA(l:List Vr):qS 66 (l.map cVr):=fun r g=>by
 obtain⟨v,_,rfl⟩:=qn.1 g;exact⟨by simp[hB],qY.2 (kz v)⟩
theorem kB{mu lo s x}{xs ys:List Vr}{K}(g:OwnF lo mu 66 s (xs.map cVr))(j:qy mu x=some (ys.map cVr))(p:xs.length+ys.length<=100000)(l:∀ av mu',OwnF lo mu' 66 av ((xs++ys).map cVr)->(∀ i,i<lo->mu'[i]?=mu[i]?)->K av mu') :
  qu qd mu #[272,272] s x K:=by
 refine qu.ownF (lo:=lo) (e:=323) (sz:=66) (bt:=88) (zv := .agg (aS ⟨#[]⟩ :: aI 0 :: zs)) (xs:=xs.map cVr) (ys:=ys.map cVr) zSi zSi (by simp[go_sem];rfl) rfl rfl zOm zOm g j (kA xs) (kA ys) zSo ?_;intro av mu' h o;exact l av mu' (by rw[zh];exact h) o
theorem rdVr{lo mu av l}(g:OwnF lo mu 66 av (l.map cVr)):Rd mu av (lVr l):=
 Own.rd (sz:=66) g.1 (kA l).ok fun r i c j=>by
  obtain⟨v,_,rfl⟩:=qn.1 i;exact qdM v c j
theorem pcV(n q):putCells (aS n :: aI 0 :: zs) 1 (aI q.1 :: hB q.2)=cVr (n,q):=by
 have g:zs.length=64:=rfl;rw[y9 _ _ _ (by simp[qt,g])];simp[qt,g,List.drop_of_length_le]
def envV(env:List (dA×Int)):List Vr:=env.map fun p=>(p.1,qq (kOf [p.2]))
theorem envU(env)(hl:env.length<=1000)(hr:∀ p,p∈env->0<=p.2/\p.2<4):qh qd 211 [lPm env] (lVr (envV env)):=by
 refine qSU call211 func211 rfl ?_;refine aP env.length (fun k U=>U.tm 0=lPm env/\U.tm 4=aI k/\OwnF 0 U.mu 66 (U.tm 3) ((envV (env.take k)).map cVr)) ?_ ?_
 .exact ⟨zSi,zSi,by simp[go_sem,envV];exact OwnF.nil (Nat.zero_le _)⟩
 rintro k U hk ⟨o,I,J⟩;by_cases g:k<env.length
 .have w1:=zWk k
  generalize P:U.tm 3=t at *
  have hp:=hr _ (qv g);have c1:qh qd 261 [lI [env[k].2]] (eRS (qq (kOf [env[k].2]))):=by
   have:=oneU [env[k].2] zSp;rw[ki]at this;rw[<-QF.ku (l:=[env[k].2]) zSp (fun x hx=>by rw[qQ]at hx;subst hx;exact hp)];exact this
  have i:envV (env.take (k+1))=envV (env.take k)++[(env[k].1,qq (kOf [env[k].2]))]:=by
   unfold envV;rw[uV g,zh];rfl
  have a3:(envV (env.take k)).length=k:=by simp[envV];omega
  generalize qq (kOf [env[k].2])=q at *
  simp[go_sem,o,I,g];refine tV zKr ?_;simp[go_sem,o,I,P,g];refine fW c1 (.cons (QD.wk1 _) .nil) ?_;rw[if_pos ⟨qt _,q9 _⟩];generalize hC:putCells _ 1 _=C;have R:C=cVr (env[k].1,q):=by rw[<-hC];exact pcV _ _
  subst R;clear hC;have T:(cVr (env[k].1,q)).length=66:=by simp[qt]
  have a0:=kz (env[k].1,q);generalize hV:cVr (env[k].1,q)=V at *
  simp[go_sem,T];rw[if_pos a0];simp[go_sem];refine kB (ys:=[(env[k].1,q)]) J (by simp[qy,hV]) zSo fun a4 m' a1 _=>?_
  simp[go_sem,I,g,w1];exact aM ⟨zS1 o,zSi,by rw[i];simpa[go_sem] using a1⟩
 .have a2:k=env.length:=by omega
  subst a2;rw[q8]at J;generalize P:U.tm 3=t at *
  simp[go_sem,o,I,P];exact rdVr J
end QJ
namespace QK
open Y9 Y2 P1 QD QE QF
def fin(c:List AV)(l:List Kd):List AV:=match l.getLast? with|some k=>cRS (qq k)|none=>c
theorem Vq(c l m):fin c (l++m)=fin (fin c l) m:=by
 unfold fin;rw[List.getLast?_append];cases m.getLast?<;>rfl
theorem U7(c k):fin c [k]=cRS (qq k):=rfl
theorem oneK{l}(h:1<=l.length/\l.length<=3)(g:∀ x,x∈l->0<=x/\x<4):oneC l=cRS (qq (kOf l)):=by
 rw[ki];exact AV.agg.inj (QF.ku h g)
theorem qdN(nm):∀ l c k,(∀ f,f∈l->(1<=f.sS.length/\f.sS.length<=3)/\∀ x,x∈f.sS->0<=x/\x<4)->nmF nm l (c,k)=(fin c (zQ l nm),k+(zQ l nm).length)
 | [],c,k,_=>rfl
 |f :: l,c,k,h=>by
  have hf:=h f (zj ..);have j:=fun c k=>qdN nm l c k fun g o=>h g (qU _ o)
  by_cases i:f.name=nm
  .have e:zQ (f :: l) nm=[kOf f.sS]++zQ l nm:=by simp[zQ,i]
   rw[e,Vq,U7];simp only[nmF,stF,if_pos i];rw[j,oneK hf.1 hf.2];simp;omega
  .have e:zQ (f :: l) nm=zQ l nm:=by simp[zQ,i]
   rw[e];simp only[nmF,stF,if_neg i];exact j c k
theorem st_eq(nm i)(I:i<4)(x c k):st3 nm i x (st2 nm i x (st1 nm i x (c,k)))=(fin c (vC i x nm),k+(vC i x nm).length):=by
 have j:=oneK (l:=[(i:Int)]) zSp (fun y g=>by simp at g;subst g;omega);have o:=oneK (l:=[(i:Int),(i:Int)]) zSp (fun y g=>by simp at g;rcases g with rfl|rfl<;>omega);have p:∀ c k,st1 nm i x (c,k)=(fin c (if x.1=nm then [kOf [(i:Int)]] else []),k+(if x.1=nm then [kOf [(i:Int)]] else []).length):=fun c k=>by
  unfold st1;split
  .rw [U7,j];rfl
  .rfl
 have t:∀ c k,st2 nm i x (c,k)=(fin c (if x.2=true/\x.1++yM=nm then [kOf [(i:Int)]] else []),k+(if x.2=true/\x.1++yM=nm then [kOf [(i:Int)]] else []).length):=fun c k=>by
  unfold st2;split
  .rw [U7,j];rfl
  .rfl
 have C:∀ c k,st3 nm i x (c,k)=(fin c (if x.2=true/\x.1++jl=nm then [kOf [(i:Int),(i:Int)]] else []),k+(if x.2=true/\x.1++jl=nm then [kOf [(i:Int),(i:Int)]] else []).length):=fun c k=>by
  unfold st3;split
  .rw [U7,o];rfl
  .rfl
 unfold vC;rw[p,t,C,Vq,Vq,zf,zf];simp only[Nat.add_assoc]
theorem qdO(nm):∀ l i c k,i+l.length<=4->nmS nm i l (c,k)=(fin c (yf i l nm),k+(yf i l nm).length)
 | [],i,c,k,_=>rfl
 |x :: l,i,c,k,h=>by
  simp only[yp]at h;have g:=fun c k=>qdO nm l (i+1) c k zOm
  simp only[nmS,yf];rw[st_eq nm i zOm,g,Vq,zf,Nat.add_assoc]
theorem kC{ts}(h:okTS ts)(nm):named ts nm=(fin (aI 0 :: zs) (zM ts nm),(zM ts nm).length):=by
 unfold named zM;rw[qdN nm ts.sA _ _ fun f hf=>?_,qdO nm ts.sS _ _ _ (zW1 h.ns),Vq,zf,Nat.zero_add];have:=h.fl f hf;have g:=h.ns;exact⟨zOm,fun x i=>zW1 (this.2.2 x i)⟩
end QK
namespace QL
open YF Y9 Y1 Y2 P1 QD QE QF QI QJ QK
abbrev cVw(c:Ck)(inn:Bool):List AV:=[lSo c.ts.sS,lFl c.ts.sA,lPd c.ts.sT,lFa c.ts.sP,lBo c.timed,aI c.calls,aB inn]
abbrev eVw(c:Ck)(inn:Bool):AV := .agg (cVw c inn)
def envS(s:Scp):List Vr:=s.reverse.map fun v=>(v.1,qq v.2)
theorem U8(s):(envS s).length=s.length:=by simp[envS]
theorem qdP(env):envV env=envS (yg env):=by
 have h:∀(l:List (dA×Int))(a:Scp),l.foldl (fun s p=>(p.1,kOf [p.2]) :: s) a=(l.map fun p=>(p.1,kOf [p.2])).reverse++a:=by
  intro l;induction l with
  |nil=>intro a;rfl
  |cons p l g=>intro a;rw[List.foldl_cons,g];simp
 unfold envV envS yg;rw[h,zV,List.reverse_reverse,List.map_map];rfl
theorem qpE(s d h g):(envS s)[s.length-1-d]=(s[d].1,qq s[d].2):=by
 have e:s.length-1-(s.length-1-d)=d:=zOm;simp[envS,List.getElem_reverse,e]
abbrev zR:RS:=(0,fun _=>false)
abbrev eDg(d:Dg):AV := .agg [aI d.1,aI d.2]
def endR(z:RS):Res->AV
 | .error e => .tup [eRS z,eDg e]
 | .ok (some k) => .tup [eRS (qq k),eDg (0,0)]
 | .ok none => .tup [eRS zR,eDg (0,0)]
theorem vt(s d):HF (.tup [eRS s,eDg d]):=HF.tup fun x g=>by
 rcases qx.1 g with rfl|g
 .exact yI s
 .rw [qQ]at g;subst g
  exact HF.agg fun c i=>by
   rcases qx.1 i with rfl|i
   .exact HF.sc _
   .rw [qQ]at i;subst i;exact HF.sc _
theorem tP{ts}(h:okTS ts):okNm ts:=⟨h.sl,zW1 h.ns,zW1 h.nf,fun f hf=>zW1 (h.fl f hf)⟩
theorem wC(c)(hc:okCk c)(inn s n)(hs:s.length<=100000):qh qd 256 [eVw c inn,lVr (envS s),eNd n] (endR zR (yG c s n.name n.pos)):=by
 generalize i:endR zR (yG c s n.name n.pos)=R;unfold yG at i;refine qSV call256 func256 rfl ?_;have a1:=U8 s;have w0:qm.wrap ((s.length:Int)-1)=(s.length:Int)-1:=zWr;simp[go_sem,a1,w0];refine aP s.length (fun d U=>U.tm 1=lVr (envS s)/\U.tm 3 = .ip (cVw c inn)/\U.tm 5 = .ip (cNd n)/\U.tm 6 = .ptr 0 0/\U.tm 7 = .ptr 1 0/\U.tm 8=aI ((s.length:Int)-1-d)/\U.mu=[.arr (aI 0 :: hB fun _=>false),.arr [aI 0,aI 0]]/\yL n.name (s.drop d)=yL n.name s) ?_ ?_
 .exact ⟨zSi,zSi,zSi,zSi,zSi,zSi,by simp[go_sem];first|rfl|exact⟨rfl,rfl⟩,rfl⟩
 rintro d U hd ⟨e1,e3,t,p,e7,j,hm,I⟩;by_cases J:d<s.length
 .have T:s.length-1-d<(envS s).length:=by omega
  have g:=qpE s d J T;obtain⟨e,he⟩:∃ e:Nat,e=s.length-1-d:=⟨_,rfl⟩;have a2:(s.length:Int)-1-d=(e:Int):=zOm;rw[a2]at j;rw[<-he]at T;have g:(envS s)[e]=(s[d].1,qq s[d].2):=by simp only[he];exact g
  have w1:qm.wrap ((e:Int)-1)=(s.length:Int)-1-((d+1:Nat):Int):=by rw[zWr];omega
  rw[ze J]at I;have h0:(0:Int)<=(e:Int):=zOm;by_cases hq:s[d].1=n.name
  .have hf:yL n.name s=s[d] :: s.drop (d+1):=by rw[<-I,yL,if_pos hq]
   rw[hf]at i;simp only[endR]at i;have i:R = .tup [eRS (qq s[d].2),eDg (0,0)]:=i.symm;subst i;simp[go_sem,j,hm];refine tV zKr ?_;simp[go_sem,e1,j,T,g,hq];generalize qq s[d].2=q at *
   simp[go_sem,e1,t,p,j,T,g,qt,tk,pc];rw[if_pos (q9 _)];simp[go_sem,p,e7,qt,tk];exact .hf _ (vt q (0,0))
  .rw [yL,if_neg hq]at I
   simp[go_sem,j,hm];refine tV zKr ?_;simp[go_sem,e1,t,j,T,g,jS hq,w1,qt];exact⟨zOm,aM ⟨zS1 e1,zS1 e3,zS1 t,zS1 p,by simp[go_sem,e7],zSi,zSi,I⟩⟩
 .have a3:d=s.length:=by omega
  subst a3;have j:U.tm 8=aI (-1):=by rw[j];congr 2;omega
  rw[zY]at I;rw[<-I]at i;simp only[yL]at i;have hN:=kh c.ts (tP hc.ts) n.name;have a0:=kg c.ts n.name;rw[kC hc.ts]at hN a0;simp[go_sem,e3,t,j,hm];refine t7 hN (.zk (zA _) (.zs .nil)) ?_;have o:SetC (fin (aI 0 :: zs) (zM c.ts n.name)):=a0;generalize a4:zM c.ts n.name=ms at *
  match ms,a4 with
  | [],_ =>
   simp only[endR]at i;subst i;generalize fin (aI 0 :: zs) []=C at *
   simp[go_sem,o.len];rw[if_pos o.one];simp[go_sem];refine fG [0,1,2,3,4,5] [(0,0,[]),(1,0,[]),(2,0,[]),(3,0,[]),(4,1,[2]),(5,1,[])] zKr zKr zSi ?_;simp[go_sem,t,p,e7,g8,qt];exact .hf _ (vt zR (_,n.pos))
  | [k],_ =>
   simp only[endR]at i;subst i;have e:fin (aI 0 :: zs) [k]=aI (qq k).1 :: hB (qq k).2:=rfl;rw[e]at o⊢;generalize qq k=q at *
   simp[go_sem,o.len];rw[if_pos (q9 _)];generalize hP:putCells _ 0 (aI q.1 :: hB q.2)=P;have a5:P=aI q.1 :: hB q.2:=by rw[<-hP];exact pc (aI 0) _ (fun _=>false) _
   subst a5;clear hP;simp[go_sem,p,o.len,qt,tk,pc];rw[if_pos (q9 _)];simp[go_sem,p,e7,o.len,tk];exact .hf _ (vt q (0,0))
  |k1 :: k2 :: l,_ =>
   simp only[endR]at i;subst i;generalize fin (aI 0 :: zs) (k1 :: k2 :: l)=C at *
   simp[go_sem,o.len];rw[if_pos o.one];simp[go_sem];have a6:¬((l.length:Int)+1+1=0):=zOm;have a7:(1:Int)<(l.length:Int)+1+1:=zOm;simp[go_sem,a6,a7];refine fG [0,1,2,3,4,5] [(0,0,[]),(1,0,[]),(2,0,[]),(3,0,[]),(4,1,[2]),(5,1,[])] zKr zKr zSi ?_;simp[go_sem,t,p,e7,g8,qt];exact .hf _ (vt zR (_,n.pos))
end QL
namespace QM
open Y1
theorem qpF(n):qh qd 208 [eNd n] (aB (decide (30<=n.op))):=by
 refine qSV call208 func208 rfl ?_;by_cases h:30<=n.op
 .simp [go_sem,h];exact .zsc _
 .simp [go_sem,h];exact .zsc _
end QM
namespace QN
open Y1 Y2 YF Y9 Y10 P1 P2 QD QE QF QH QL
def setO:Option Kd->RS
 |some k=>qq k
 |none=>zR
abbrev lRS(l:List RS):AV := .lst false (l.map cRS)
theorem qpG(v):∀ c,c∈cRS v->HF c:=fun c g=>((setC v).sc c g).2
theorem qpH(v):∀ c,c∈cRS v->c.one=true:=fun c g=>((setC v).sc c g).1
theorem kE(l:List RS):qS 65 (l.map cRS):=fun r g=>by
 obtain⟨v,_,rfl⟩:=qn.1 g
 grind [hB,qY,qpH]
theorem appRS{mu lo s x}{xs ys:List RS}{K}(g:OwnF lo mu 65 s (xs.map cRS))(j:qy mu x=some (ys.map cRS))(l:xs.length+ys.length<=100000)(o:∀ av mu',OwnF lo mu' 65 av ((xs++ys).map cRS)->(∀ i,i<lo->mu'[i]?=mu[i]?)->K av mu') :
  qu qd mu #[317,317] s x K:=by
 refine qu.ownF (lo:=lo) (e:=266) (sz:=65) (bt:=72) (zv := .agg (aI 0 :: zs)) (xs:=xs.map cRS) (ys:=ys.map cRS) zSi zSi (by simp[go_sem];rfl) rfl rfl zOm zOm g j (kE xs) (kE ys) zSo ?_
 grind
theorem rdRS{lo mu av l}(g:OwnF lo mu 65 av (l.map cRS)):Rd mu av (lRS l):=
 Own.rd (sz:=65) g.1 (kE l).ok fun r i c j=>by
  obtain⟨v,_,rfl⟩:=qn.1 i;exact qpG v c j
theorem jL(s b):HF (.tup [eRS s,aB b]):=HF.tup fun x g=>by
 rcases qx.1 g with rfl|g
 .exact yI s
 grind [qQ,HF.sc]
def ApE(op:Int):Res->RS->Bool->Prop
 | .ok k,S,b=>b=true/\(kd op=101->∃ q,k=some q/\S=qq q)
 | .error _,S,b=>b=false
theorem wkS1(a):WKs [eRS a] [eRS a] := .zk (yI _) .nil
theorem wkS2(a b):WKs [eRS a,eRS b] [eRS a,eRS b] := .zk (yI _) (.zk (yI _) .nil)
theorem wkTI(ts k):WKs [eTS ts,aI k] [eTS ts,aI k] := .zk (zA _) (.zs .nil)
theorem qdQ(n):eRS (n,fun _=>false)=eRS (qq ⟨n,[]⟩):=Qi rfl fun j _=>(decide_eq_false fun h=>absurd h.2 qN).symm
def itS:Nat->RS->RS
 | 0,s=>s
 |i+1,s=>uniS (itS i s) (ZX (itS i s) (itS i s))
theorem qdR(s):∀ i,(itS i s).1=s.1
 | 0=>rfl
 |i+1=>qdR s i
theorem qdS(g)(h:1<=g.1/\g.1<=3):qh qd 286 [eRS g] (eRS (itS 4 g)):=by
 refine qSQ call286 func286 rfl { mt:=[1] } ?_;simp[go_sem];refine⟨q9 _,?_⟩;refine aP 4 (fun i U=>U.tm 1 = .ptr 0 0/\U.tm 2 = .ptr 1 0/\U.tm 3=aI i/\U.mu=[.arr (cRS (itS i g)),.arr (aI 0 :: hB fun _=>false)]) ?_ ?_
 .exact ⟨zSi,zSi,zSi,by simp[go_sem];exact⟨⟨rfl,rfl⟩,rfl⟩⟩
 rintro i U hi ⟨l,p,t,C⟩;by_cases P:i<4
 .have j:(i:Int)<4:=by omega
  have w1:=zWk i;have R:=qdR g i;have T:=uL (itS i g) (itS i g) zOm zOm;have I:=jm (itS i g) (ZX (itS i g) (itS i g));have J:uniS (itS i g) (ZX (itS i g) (itS i g))=itS (i+1) g:=rfl;rw[J]at I;clear J;generalize a0:itS (i+1) g=s' at *
  generalize ZX (itS i g) (itS i g)=q at *
  generalize itS i g=s at *
  simp[go_sem,t,C,j];refine tV zKr ?_;simp[go_sem,l,qt,tk];refine fW T (.zk (yI _) (.zk (yI _) .nil)) ?_;refine t7 I (.zk (yI _) (.zk (yI _) .nil)) ?_;simp[go_sem,l,qt,pc];rw[if_pos (q9 _)];simp_all[go_sem,aM]
 .have o:i=4:=by omega
  subst o;generalize itS 4 g=s at *
  simp[go_sem,l,p,t,C,qt,tk,pc];rw[if_pos (q9 _)];simp[go_sem,p,qt,tk];exact .hf _ (yI s)
def prC(ts:TS)(n:Nd)(l:List RS)(S:RS)(b:Bool):Prop:=qh qd 259 [eTS ts,eNd n,lRS l] (.tup [eRS S,aB b])
theorem ap2(ts n L)(h:n.op=2):prC ts n L (n.n,fun _=>false) true:=by
 unfold prC;refine qSV call259 func259 rfl ?_;simp[go_sem,h];exact .hf _ (jL (n.n,fun _=>false) true)
theorem ap3(ts)(ok:okTS ts)(n L)(h:n.op=3):prC ts n L (qq (zt ts.sS.length 1)) true:=by
 unfold prC;refine qSV call259 func259 rfl ?_;have c1:=allU ts ok 1 zOm;generalize qq (zt ts.sS.length 1)=q at *
 simp[go_sem,h];refine t7 c1 (wkTI ts 1) ?_;simp[go_sem,qt];rw[if_pos (q9 _)];generalize i:putCells _ 0 (aI q.1 :: hB q.2)=P;have g:P=aI q.1 :: hB q.2:=by rw[<-i];exact pc (aI 0) _ (fun _=>false) _
 subst g;clear i;simp[go_sem,qt,tk];exact .hf _ (jL q _)
theorem ap4(ts)(ok:okTS ts)(n L)(h:n.op=4):prC ts n L (qq (zt ts.sS.length 2)) true:=by
 unfold prC;refine qSV call259 func259 rfl ?_;have c1:=allU ts ok 2 zOm;generalize qq (zt ts.sS.length 2)=q at *
 simp[go_sem,h];refine t7 c1 (wkTI ts 2) ?_;simp[go_sem,qt];rw[if_pos (q9 _)];generalize i:putCells _ 0 (aI q.1 :: hB q.2)=P;have g:P=aI q.1 :: hB q.2:=by rw[<-i];exact pc (aI 0) _ (fun _=>false) _
 subst g;clear i;simp[go_sem,qt,tk];exact .hf _ (jL q _)
theorem ap5(ts n q)(h:n.op=5):prC ts n [q] q true:=by
 unfold prC;refine qSV call259 func259 rfl ?_;simp[go_sem,h,qt,tk];rw[if_pos (q9 _)];generalize i:putCells _ 0 (aI q.1 :: hB q.2)=P;have g:P=aI q.1 :: hB q.2:=by rw[<-i];exact pc (aI 0) _ (fun _=>false) _
 subst g;clear i;simp[go_sem,qt,tk];exact .hf _ (jL q _)
theorem ap6(ts n q r S)(h:n.op=6)(c:qh qd 281 [eRS q,eRS r] (eRS S)):prC ts n [q,r] S (decide (q.1=r.1)):=by
 unfold prC;refine qSV call259 func259 rfl ?_;simp[go_sem,h];refine fG [0,1,2,3,4,5,7,8,9,10,11,12,13,14,15,17,6,16] [(0,0,[]),(1,0,[]),(2,0,[]),(3,0,[]),(4,0,[]),(5,0,[]),(7,0,[]),(8,0,[]),(9,0,[]),(10,0,[]),(11,0,[]),(12,0,[]),(13,0,[]),(14,0,[]),(15,0,[]),(17,0,[]),(6,1,[10,14]),(16,1,[10,14])] zKr zKr zSi ?_;simp[go_sem,qt,tk];refine t7 c (wkS2 q r) ?_;simp[go_sem,qt];rw[if_pos (q9 _)];generalize i:putCells _ 0 (aI S.1 :: hB S.2)=P;have g:P=aI S.1 :: hB S.2:=by rw[<-i];exact pc (aI 0) _ (fun _=>false) _
 subst g;clear i;simp[go_sem,qt,tk];exact .hf _ (jL S _)
theorem ap14(ts n q r S)(h:n.op=14)(c:qh qd 281 [eRS q,eRS r] (eRS S)):prC ts n [q,r] S (decide (q.1=r.1)):=by
 unfold prC;refine qSV call259 func259 rfl ?_;simp[go_sem,h];refine fG [0,1,2,3,4,5,7,8,9,10,11,12,13,14,15,17,6,16] [(0,0,[]),(1,0,[]),(2,0,[]),(3,0,[]),(4,0,[]),(5,0,[]),(7,0,[]),(8,0,[]),(9,0,[]),(10,0,[]),(11,0,[]),(12,0,[]),(13,0,[]),(14,0,[]),(15,0,[]),(17,0,[]),(6,1,[10,14]),(16,1,[10,14])] zKr zKr zSi ?_;simp[go_sem,qt,tk];refine t7 c (wkS2 q r) ?_;simp[go_sem,qt];rw[if_pos (q9 _)];generalize i:putCells _ 0 (aI S.1 :: hB S.2)=P;have g:P=aI S.1 :: hB S.2:=by rw[<-i];exact pc (aI 0) _ (fun _=>false) _
 subst g;clear i;simp[go_sem,qt,tk];exact .hf _ (jL S _)
theorem ap7(ts n q r S)(h:n.op=7)(c:qh qd 282 [eRS q,eRS r] (eRS S)):prC ts n [q,r] S (decide (q.1=r.1)):=by
 unfold prC;refine qSV call259 func259 rfl ?_;simp[go_sem,h];refine fG [0,1,2,3,4,5,7,8,9,10,11,12,13,14,15,17,6,16] [(0,0,[]),(1,0,[]),(2,0,[]),(3,0,[]),(4,0,[]),(5,0,[]),(7,0,[]),(8,0,[]),(9,0,[]),(10,0,[]),(11,0,[]),(12,0,[]),(13,0,[]),(14,0,[]),(15,0,[]),(17,0,[]),(6,1,[10,14]),(16,1,[10,14])] zKr zKr zSi ?_;simp[go_sem,qt,tk];refine t7 c (wkS2 q r) ?_;simp[go_sem,qt];rw[if_pos (q9 _)];generalize i:putCells _ 0 (aI S.1 :: hB S.2)=P;have g:P=aI S.1 :: hB S.2:=by rw[<-i];exact pc (aI 0) _ (fun _=>false) _
 subst g;clear i;simp[go_sem,qt,tk];exact .hf _ (jL S _)
theorem ap8(ts n q r)(h:n.op=8):prC ts n [q,r] q (decide (q.1=r.1)):=by
 unfold prC;refine qSV call259 func259 rfl ?_;simp[go_sem,h];refine fG [0,1,2,3,4,5,6,7,8,9,10,11,13,12] [(0,0,[]),(1,0,[]),(2,0,[]),(3,0,[]),(4,0,[]),(5,0,[]),(6,0,[]),(7,0,[]),(8,0,[]),(9,0,[]),(10,0,[]),(11,0,[]),(13,0,[]),(12,1,[6,10])] zKr zKr zSi ?_;simp[go_sem,qt,tk];rw[if_pos (q9 _)];generalize i:putCells _ 0 (aI q.1 :: hB q.2)=P;have g:P=aI q.1 :: hB q.2:=by rw[<-i];exact pc (aI 0) _ (fun _=>false) _
 subst g;clear i;simp[go_sem,qt,tk];exact .hf _ (jL q _)
theorem ap32(ts n q r)(h:n.op=32):prC ts n [q,r] zR (decide (q.1=r.1)):=by
 unfold prC;refine qSV call259 func259 rfl ?_;simp[go_sem,h];refine fG [0,1,2,3,4,5,6,7,8,9,11,10] [(0,0,[]),(1,0,[]),(2,0,[]),(3,0,[]),(4,0,[]),(5,0,[]),(6,0,[]),(7,0,[]),(8,0,[]),(9,0,[]),(11,0,[]),(10,1,[4,8])] zKr zKr zSi ?_;simp[go_sem,qt];exact .hf _ (jL zR _)
theorem ap33(ts n q r)(h:n.op=33):prC ts n [q,r] zR (decide (q.1=r.1)):=by
 unfold prC;refine qSV call259 func259 rfl ?_;simp[go_sem,h];refine fG [0,1,2,3,4,5,6,7,8,9,11,10] [(0,0,[]),(1,0,[]),(2,0,[]),(3,0,[]),(4,0,[]),(5,0,[]),(6,0,[]),(7,0,[]),(8,0,[]),(9,0,[]),(11,0,[]),(10,1,[4,8])] zKr zKr zSi ?_;simp[go_sem,qt];exact .hf _ (jL zR _)
theorem ap9(ts n q r S)(h:n.op=9)(o:0<=q.1/\q.1<=1000)(p:0<=r.1/\r.1<=1000)(c:qh qd 283 [eRS q,eRS r] (eRS S)):prC ts n [q,r] S (decide (1<=q.1+r.1-2/\q.1+r.1-2<=3)):=by
 unfold prC;refine qSV call259 func259 rfl ?_;have l:qm.wrap (q.1+r.1)=q.1+r.1:=zWr;have w2:qm.wrap (q.1+r.1-2)=q.1+r.1-2:=zWr;simp[go_sem,h];refine tV zKr ?_;simp[go_sem,qt,l,w2];refine tV zKr ?_;by_cases j:1<=q.1+r.1-2
 .simp [go_sem,qt,tk,j]
  refine t7 c (wkS2 q r) ?_;simp[go_sem,qt,j];rw[if_pos (q9 _)];generalize i:putCells _ 0 (aI S.1 :: hB S.2)=P;have g:P=aI S.1 :: hB S.2:=by rw[<-i];exact pc (aI 0) _ (fun _=>false) _
  subst g;clear i;simp[go_sem,qt,tk];exact .hf _ (jL S _)
 .simp [go_sem,qt,tk,j]
  refine t7 c (wkS2 q r) ?_;simp[go_sem,qt,j];rw[if_pos (q9 _)];generalize i:putCells _ 0 (aI S.1 :: hB S.2)=P;have g:P=aI S.1 :: hB S.2:=by rw[<-i];exact pc (aI 0) _ (fun _=>false) _
  subst g;clear i;simp[go_sem,qt,tk];exact .hf _ (jL S _)
theorem ap10(ts n q r S)(h:n.op=10)(l:0<=q.1/\q.1<=1000)(o:0<=r.1/\r.1<=1000)(c:qh qd 284 [eRS q,eRS r] (eRS S)):prC ts n [q,r] S (decide (q.1+r.1<=3)):=by
 unfold prC;refine qSV call259 func259 rfl ?_;have j:qm.wrap (q.1+r.1)=q.1+r.1:=zWr;simp[go_sem,h];refine fG [0,1,2,3,4,5,7,8,9,10,11,12,13,14,15,16,18,6,17] [(0,0,[]),(1,0,[]),(2,0,[]),(3,0,[]),(4,0,[]),(5,0,[]),(7,0,[]),(8,0,[]),(9,0,[]),(10,0,[]),(11,0,[]),(12,0,[]),(13,0,[]),(14,0,[]),(15,0,[]),(16,0,[]),(18,0,[]),(6,1,[10,14]),(17,1,[10,14])] zKr zKr zSi ?_;simp[go_sem,qt,tk,j];refine t7 c (wkS2 q r) ?_;simp[go_sem,qt];rw[if_pos (q9 _)];generalize i:putCells _ 0 (aI S.1 :: hB S.2)=P;have g:P=aI S.1 :: hB S.2:=by rw[<-i];exact pc (aI 0) _ (fun _=>false) _
 subst g;clear i;simp[go_sem,qt,tk];exact .hf _ (jL S _)
theorem ap11(ts n q S)(h:n.op=11)(c:qh qd 285 [eRS q] (eRS S)):prC ts n [q] S (decide (q.1=2)):=by
 unfold prC;refine qSV call259 func259 rfl ?_;simp[go_sem,h];refine fG [0,1,2,4,5,6,7,8,10,3,9] [(0,0,[]),(1,0,[]),(2,0,[]),(4,0,[]),(5,0,[]),(6,0,[]),(7,0,[]),(8,0,[]),(10,0,[]),(3,1,[7]),(9,1,[7])] zKr zKr zSi ?_;simp[go_sem,qt,tk];refine t7 c (wkS1 q) ?_;simp[go_sem,qt];rw[if_pos (q9 _)];generalize i:putCells _ 0 (aI S.1 :: hB S.2)=P;have g:P=aI S.1 :: hB S.2:=by rw[<-i];exact pc (aI 0) _ (fun _=>false) _
 subst g;clear i;simp[go_sem,qt,tk];exact .hf _ (jL S _)
theorem ap12(ts n q S)(h:n.op=12)(c:qh qd 286 [eRS q] (eRS S)):prC ts n [q] S (decide (q.1=2)):=by
 unfold prC;refine qSV call259 func259 rfl ?_;simp[go_sem,h];refine fG [0,1,2,4,5,6,7,8,10,3,9] [(0,0,[]),(1,0,[]),(2,0,[]),(4,0,[]),(5,0,[]),(6,0,[]),(7,0,[]),(8,0,[]),(10,0,[]),(3,1,[7]),(9,1,[7])] zKr zKr zSi ?_;simp[go_sem,qt,tk];refine t7 c (wkS1 q) ?_;simp[go_sem,qt];rw[if_pos (q9 _)];generalize i:putCells _ 0 (aI S.1 :: hB S.2)=P;have g:P=aI S.1 :: hB S.2:=by rw[<-i];exact pc (aI 0) _ (fun _=>false) _
 subst g;clear i;simp[go_sem,qt,tk];exact .hf _ (jL S _)
theorem ap13(ts)(ok:okTS ts)(n q C S)(h:n.op=13)(c:qh qd 286 [eRS q] (eRS C))(c2:qh qd 281 [eRS C,eRS (qq (zt ts.sS.length 2))] (eRS S)):prC ts n [q] S (decide (q.1=2)):=by
 unfold prC;refine qSV call259 func259 rfl ?_;have c1:=allU ts ok 2 zOm;generalize qq (zt ts.sS.length 2)=D at *
 simp[go_sem,h];refine fG [0,1,2,4,7,8,9,10,11,13,3,5,6,12] [(0,0,[]),(1,0,[]),(2,0,[]),(4,0,[]),(7,0,[]),(8,0,[]),(9,0,[]),(10,0,[]),(11,0,[]),(13,0,[]),(3,1,[4,10]),(5,1,[10]),(6,1,[10]),(12,1,[10])] zKr zKr zSi ?_;simp[go_sem,qt,tk];refine t7 c (wkS1 q) ?_;simp[go_sem,qt];refine t7 c1 (wkTI ts 2) ?_;simp[go_sem,qt];refine t7 c2 (wkS2 C D) ?_;simp[go_sem,qt];rw[if_pos (q9 _)];generalize i:putCells _ 0 (aI S.1 :: hB S.2)=P;have g:P=aI S.1 :: hB S.2:=by rw[<-i];exact pc (aI 0) _ (fun _=>false) _
 subst g;clear i;simp[go_sem,qt,tk];exact .hf _ (jL S _)
theorem apO(ts n L)(C:n.op≠2)(I:n.op≠3)(J:n.op≠4)(P:n.op≠5)(R:n.op≠6)(g:n.op≠14)(T:n.op≠7)(U:n.op≠8)(i:n.op≠32)(j:n.op≠33)(h9:n.op≠9)(l:n.op≠10)(o:n.op≠11)(p:n.op≠12)(t:n.op≠13):prC ts n L zR true:=by
 unfold prC;refine qSV call259 func259 rfl ?_;simp[go_sem,C,I,J,P,R,g,T,U,i,j,h9,l,o,p,t];exact .hf _ (jL zR true)
end QN
namespace QO
open YF Y9 Y10 Y1 Y2 Y3 Y12 Y13 P1 P2 QD QE QF QH QI QJ QL QN PG PC
section
variable {ts:TS}
theorem qdT{n L S g b}(e:eRS S=eRS g)(h:prC ts n L S b):prC ts n L g b:=by
 grind [prC]
theorem qpI{n a b}(j:n.op=6\/n.op=14\/n.op=7\/n.op=8\/n.op=32\/n.op=33):∃ S,prC ts n [qq a,qq b] S (decide (a.ar=b.ar))/\(a.ar=b.ar->kd n.op=101->S=qq (vY n.op a b)):=by
 have l:∀ op:Int,op=6\/op=14->vY op a b=kSum a b:=fun op h=>by unfold vY;rw[if_pos h]
 by_cases g:a.ar=b.ar
 .rcases j with h|h|h|h|h|h
  .exact ⟨_,ap6 ts n _ _ _ h (by have:=jm (qq a) (qq b);rw[Vk g]at this;exact this),fun _ _=>by grind⟩
  .exact ⟨_,ap14 ts n _ _ _ h (by have:=jm (qq a) (qq b);rw[Vk g]at this;exact this),fun _ _=>by grind⟩
  .exact ⟨_,ap7 ts n _ _ _ h (by have:=Yu (qq a) (qq b);rw[qoX g]at this;exact this),fun _ _=>by rw[h];rfl⟩
  .exact ⟨_,ap8 ts n _ _ h,fun _ _=>by rw[h];rfl⟩
  .exact ⟨_,ap32 ts n _ _ h,fun _ i=>by rw[h]at i;exact absurd i zDe⟩
  .exact ⟨_,ap33 ts n _ _ h,fun _ i=>by rw[h]at i;exact absurd i zDe⟩
 .rcases j with h|h|h|h|h|h
  .exact ⟨_,ap6 ts n _ _ _ h (jm (qq a) (qq b)),fun e=>absurd e g⟩
  .exact ⟨_,ap14 ts n _ _ _ h (jm (qq a) (qq b)),fun e=>absurd e g⟩
  .exact ⟨_,ap7 ts n _ _ _ h (Yu (qq a) (qq b)),fun e=>absurd e g⟩
  .exact ⟨_,ap8 ts n _ _ h,fun e=>absurd e g⟩
  .exact ⟨_,ap32 ts n _ _ h,fun e=>absurd e g⟩
  .exact ⟨_,ap33 ts n _ _ h,fun e=>absurd e g⟩
theorem qpJ(ok:okTS ts){n a}(l:okKd ts.sS.length a)(o:n.op=11\/n.op=12\/n.op=13):∃ S,prC ts n [qq a] S (decide (a.ar=2))/\(a.ar=2->S=qq (binK ts.sS.length n.op a)):=by
 have i:=ok.ns;by_cases g:a.ar=2
 .have p:=Uk l g i
  rcases o with h|h|h
  .exact ⟨_,ap11 ts n _ _ h (by have:=qdD (qq a);rw[qo3 l i g]at this;exact this),fun _=>by rw[h];rfl⟩
  .exact ⟨_,ap12 ts n _ _ h p,fun _=>by rw[h];rfl⟩
  .refine ⟨_,ap13 ts ok n _ _ (qq (kSum (kClo a) (zt ts.sS.length 2))) h p ?_,fun _=>by rw[h];rfl⟩
   have:=jm (qq (kClo a)) (qq (zt ts.sS.length 2));rw[Vk (show (kClo a).ar=2 from (Yp l g).2)]at this;exact this
 .have j:=l.ar
  rcases o with h|h|h
  .exact ⟨_,ap11 ts n _ _ h (qdD (qq a)),fun e=>absurd e g⟩
  .exact ⟨_,ap12 ts n _ _ h (qdS (qq a) j),fun e=>absurd e g⟩
  .exact ⟨_,ap13 ts ok n _ _ _ h (qdS (qq a) j) (jm _ _),fun e=>absurd e g⟩
theorem qpK(ts)(ok:okTS ts)(n l L)(e1:n.op≠1)(a0:n.op≠15)
  (h1:n.op=5\/n.op=11\/n.op=12\/n.op=13->∃ a,l=[some a]/\L=[qq a]/\okKd ts.sS.length a)
  (h2:n.op=6\/n.op=14\/n.op=7\/n.op=8\/n.op=32\/n.op=33\/n.op=9\/n.op=10->∃ a b,l=[some a,some b]/\L=[qq a,qq b]/\okKd ts.sS.length a/\okKd ts.sS.length b) :
  ∃ S b,prC ts n L S b/\ApE n.op (zz ts.sS.length n.op n.n n.pos l) S b:=by
 have C:=ok.ns;by_cases j:n.op=2
 .refine ⟨qq ⟨n.n,[]⟩,true,qdT (qdQ n.n) (ap2 ts n L j),?_⟩
  unfold zz;rw[if_pos j];exact⟨rfl,fun _=>⟨_,rfl,rfl⟩⟩
 by_cases o:n.op=3
 .refine ⟨_,true,ap3 ts ok n L o,?_⟩
  unfold zz;rw[if_neg j,if_pos o];exact⟨rfl,fun _=>⟨_,rfl,rfl⟩⟩
 by_cases t:n.op=4
 .refine ⟨_,true,ap4 ts ok n L t,?_⟩
  unfold zz;rw[if_neg j,if_neg o,if_pos t];exact⟨rfl,fun _=>⟨_,rfl,rfl⟩⟩
 by_cases g1:n.op=5\/n.op=11\/n.op=12\/n.op=13
 .obtain ⟨a,rfl,rfl,I⟩:=h1 g1
  rw[apK1,if_neg j,if_neg o,if_neg t];by_cases P:n.op=5
  .rw [if_pos P]
   exact⟨_,true,ap5 ts n _ P,rfl,fun _=>⟨_,rfl,rfl⟩⟩
  have g:n.op=11\/n.op=12\/n.op=13:=zOm;rw[if_neg P,if_pos g];obtain⟨S,R,T⟩:=qpJ ok I g;refine⟨S,_,R,?_⟩;by_cases i:a.ar=2
  .rw [if_pos i]
   exact⟨decide_eq_true i,fun _=>⟨_,rfl,T i⟩⟩
  .rw [if_neg i]
   exact decide_eq_false i
 by_cases g2:n.op=6\/n.op=14\/n.op=7\/n.op=8\/n.op=32\/n.op=33\/n.op=9\/n.op=10
 .obtain ⟨a,b,rfl,rfl,I,U⟩:=h2 g2
  have ra:=I.ar;have rb:=U.ar;rw[apK2,if_neg j,if_neg o,if_neg t];by_cases g3:n.op=6\/n.op=14\/n.op=7\/n.op=8\/n.op=32\/n.op=33
  .rw [if_pos g3]
   obtain⟨S,R,T⟩:=qpI (ts:=ts) (n:=n) (a:=a) (b:=b) g3;refine⟨S,_,R,?_⟩;by_cases i:a.ar=b.ar
   .rw [if_pos i]
    exact⟨decide_eq_true i,fun hk=>⟨_,rfl,T i hk⟩⟩
   .rw [if_neg i]
    exact decide_eq_false i
  rw[if_neg g3];by_cases J:n.op=9
  .rw [if_pos J]
   by_cases i:1<=a.ar+b.ar-2/\a.ar+b.ar-2<=3
   .rw [if_pos i]
    refine⟨_,_,ap9 ts n _ _ (qq (zG a b)) J (by show 0<=a.ar/\a.ar<=1000;omega) (by show 0<=b.ar/\b.ar<=1000;omega) ?_,decide_eq_true i,fun _=>⟨_,rfl,rfl⟩⟩;rw[<-qdI I U C i];exact uL _ _ (by show 0<=a.ar/\a.ar<=1000;omega) (by show 1<=b.ar/\b.ar<=1000;omega)
   .rw [if_neg i]
    exact⟨_,_,ap9 ts n _ _ _ J (by show 0<=a.ar/\a.ar<=1000;omega) (by show 0<=b.ar/\b.ar<=1000;omega) (uL _ _ (by show 0<=a.ar/\a.ar<=1000;omega) (by show 1<=b.ar/\b.ar<=1000;omega)),decide_eq_false i⟩
  have p:n.op=10:=zOm;rw[if_neg J,if_pos p];by_cases i:a.ar+b.ar<=3
  .rw [if_pos i]
   refine⟨_,_,ap10 ts n _ _ (qq (Qv a b)) p (by show 0<=a.ar/\a.ar<=1000;omega) (by show 0<=b.ar/\b.ar<=1000;omega) ?_,decide_eq_true i,fun _=>⟨_,rfl,rfl⟩⟩;rw[<-qoY I U C i];exact qdE _ _ (by show 0<=a.ar/\a.ar<=1000;omega) (by show 0<=b.ar/\b.ar<=1000;omega)
  .rw [if_neg i]
   exact⟨_,_,ap10 ts n _ _ _ p (by show 0<=a.ar/\a.ar<=1000;omega) (by show 0<=b.ar/\b.ar<=1000;omega) (qdE _ _ (by show 0<=a.ar/\a.ar<=1000;omega) (by show 0<=b.ar/\b.ar<=1000;omega)),decide_eq_false i⟩
 refine⟨zR,true,apO ts n L j o t zOm zOm zOm zOm zOm zOm zOm zOm zOm zOm zOm zOm,?_⟩;rw[Xu j o t zOm zOm zOm zOm zOm zOm zOm zOm zOm zOm zOm zOm];refine⟨rfl,fun hk=>?_⟩;have:=Yr hk;omega
theorem qpL{ns}(o:ns<=4){q}(h:okKd ns q)(l:q.ar=1)(i):w7 i q=true↔∀ k,k<4->(qq q).2 k=true->(k:Int)=i:=by
 unfold w7;rw[qY];constructor
 .intro p k P C
  rw[yV,l]at C;have:=p _ C.2;simpa[dig,pad] using this
 .intro p t I
  obtain⟨j,J,e⟩:=Jd h o I;rw[l]at J e;have g:j<4:=J;have:=p j g ((yV q j).2 ⟨by rw[l];exact g,by rw[l,<-e];exact I⟩);rw[e];simp[dig,pad,this]
def ExR(c:Ck)(s:Scp)(inn:Bool)(n:Nd):Prop:=∃ S:RS,qh qd 209 [eVw c inn,lVr (envS s),eNd n] (.tup [eRS S,eDg (dgOf (exam c s inn n))])/\(kd n.op=101->∀ q,exam c s inn n = .ok (some q)->S=qq q)
theorem qdU(c inn):HF (eVw c inn):=HF.agg fun x g=>by
 simp only[qx,qN,or_false]at g;rcases g with rfl|rfl|rfl|rfl|rfl|rfl|rfl
 .exact Um _
 .exact JS _
 .exact Q0 _
 .exact JR _
 .exact Vp _
 .exact HF.sc _
 .exact HF.sc _
theorem wkE(c inn l n):WKs [eVw c inn,lVr l,eNd n] [eVw c inn,lVr l,eNd n] := .zk (qdU c inn) (.zk (qpD _) (.zk (qC n) .nil))
theorem wI(d):HF (eDg d):=HF.agg fun x g=>by
 simp only[qx,qN,or_false]at g;rcases g with rfl|rfl<;>exact HF.sc _
theorem qdV{c nm p}(i:okCk c)(h:zy c nm=some p):(c.ts.sT.any fun p=>decide (p.name=nm))=true:=by
 obtain⟨_,j⟩:=ZK i h;unfold zy at h;rw[List.findIdx?_eq_some_iff_getElem]at h;obtain⟨l,g,_⟩:=h;simp only[List.getElem_take]at g;exact List.any_eq_true.2 ⟨_,qv j,g⟩
theorem qpM{nm}(h:zy (mkCk ts ts.sT.length) nm=none):(ts.sT.any fun p=>decide (p.name=nm))=false:=by
 unfold zy at h;rw[List.findIdx?_eq_none_iff]at h;rw[List.any_eq_false];intro p g;have:p∈ts.sT.take ts.sT.length:=by rw[q8];exact g
 have:=h p this
 grind
theorem qpN{n}(i:WfN n)(h:n.op=47):∀ k,k∈n.sD->kd k.op=101:=by
 have g:=i.shape;have e:shp n.op n.sD.length=some (qM (min n.sD.length 401) 101):=by
  unfold shp;rw[zIn,zIn,zIn,zIn,zIn,zIn,zIn,if_pos h]
 rw[e]at g;simp only[qp]at g;intro k j;have:kd k.op∈n.sD.map fun k=>kd k.op:=qn.2 ⟨k,j,rfl⟩
 grind
theorem qpO(c)(hc:okCk c)(s)(hs:ScOk c.ts.sS.length s)(n)(hw:WfN n)(b2:n.op=47)(ih:∀ k,k∈n.sD->ExR c s true k)(inn) :
  qh qd 257 [eVw c inn,lVr (envS s),eNd n] (eDg (dgOf (uM c s n))):=by
 generalize hR:uM c s n=R;unfold uM at hR;refine qSQ call257 func257 rfl { mt:=[3] } ?_;have bg:=hc.ts.np;have bh:=hw.len;have b3:=Vo c hc n.name;have b4:=Vo (mkCk c.ts c.ts.sT.length) (uo hc.ts (qk _)) n.name;have aq:∀ k:Int,WKs [eTS c.ts,aI k,aS n.name] [eTS c.ts,aI k,aS n.name]:=fun k => .zk (zA _) (.zs (.zs .nil))
 simp[go_sem];refine t7 b3 (aq _) ?_;cases a0:zy c n.name with
 |none =>
  rw[a0]at hR;simp[go_sem,idxO];refine t7 b4 (aq _) ?_;cases a4:zy (mkCk c.ts c.ts.sT.length) n.name with
  |none =>
   rw[qpM a4]at hR;subst hR;simp[go_sem,idxO,dgOf];exact .hf _ (wI (40,n.pos))
  |some p =>
   have ha:(c.ts.sT.any fun p=>decide (p.name=n.name))=true:=qdV (c:=mkCk c.ts c.ts.sT.length) (uo hc.ts (qk _)) a4;rw[ha]at hR;subst hR;have ad:¬(p:Int)<0:=zOm;simp[go_sem,idxO,dgOf,ad];exact .hf _ (wI (45,n.pos))
 |some p =>
  obtain⟨_,ae⟩:=ZK hc a0;rw[qdV hc a0,if_pos rfl,a0]at hR;simp only[qw ae]at hR;have ad:¬(p:Int)<0:=zOm;have bi:=hc.ts.pl _ (qv ae);simp[go_sem,idxO,ae,ad];generalize bj:c.ts.sT[p]=I at *
  by_cases a2:I.params.length=n.sD.length
  .rw [if_pos a2]at hR
   simp[go_sem,a2];have b5:=qpN hw b2;refine aP I.params.length (fun k U=>U.tm 1=lVr (envS s)/\U.tm 3 = .ptr 0 0/\U.tm 5 = .ip (cNd n)/\U.tm 6 = .ptr 1 0/\U.tm 8=lPm I.params/\U.tm 9=aI k/\U.mu[0]?=some (.arr (cVw c true))/\U.mu[1]?=some (.arr [aI 0,aI 0])/\zZ c s n.pos (I.params.drop k) (n.sD.drop k)=R) ?_ ?_
   .simp [go_sem, *]
   rintro k U hk ⟨e1,e3,e5,e6,e8,e9,m0,m1,C⟩;have a9:1<U.mu.length:=(qj.1 m1).1;have J:∀(l:List Cell)(i:Nat),i<U.mu.length->(U.mu++l)[i]?=U.mu[i]?:=fun l i hi=>qI hi
   have a1:∀ c,(U.mu.set 1 c)[1]?=some c:=fun c=>qH a9
   have af:∀ c (l:List Cell),((U.mu++l).set 1 c)[1]?=some c:=fun c l=>qH zSo
   have ag:∀(l:List Cell)(h:0<(U.mu++l).length),(U.mu++l)[0] = .arr (cVw c true):=fun l h=>by
    grind
   have ah:∀(l:List Cell)(h:1<(U.mu++l).length),(U.mu++l)[1] = .arr [aI 0,aI 0]:=fun l h=>by
    grind
   by_cases au:k=I.params.length
   .subst au
    rw[zY,a2,zY]at C;simp only[zZ]at C;subst C;simp[go_sem,e6,e8,e9,m1,a2,dgOf,a1];exact .hf _ (wI (0,0))
   have o:k<I.params.length:=zOm;have t:k<n.sD.length:=zOm;have w1:=zWk k;obtain⟨S,hi,hS⟩:=ih n.sD[k] (qv t);rw[ze o,ze t]at C;simp only[zZ]at C;have b6:=jI hc (szN n.sD[k]) n.sD[k] s true;have av:=b5 n.sD[k] (qv t);have aw:=hw.kid (qv t);simp[go_sem,e8,e9,o];refine fG [0,1,2,3,4,5,6,7,8,9,10,11,12,13,14] [(0,0,[]),(1,0,[]),(2,0,[]),(3,0,[]),(4,0,[]),(5,0,[]),(6,0,[]),(7,1,[]),(8,0,[]),(9,0,[]),(10,0,[]),(11,2,[0,3,6]),(12,2,[0,3,6]),(13,1,[]),(14,1,[])] zKr zKr zSi ?_;simp[go_sem,e1,e3,e5,e9,m0,t];refine t7 hi (wkE c true _ _) ?_;cases hx:exam c s true n.sD[k] with
   |error e =>
    rw[hx]at C;subst C;have he:=Zf c (szN n.sD[k]) n.sD[k] s true e (qk _) hx;have b7:¬e.1=0:=zOm;simp[go_sem,e3,qt,ag,dgOf];rw[if_pos (q9 _)];generalize hP:putCells _ 0 (aI S.1 :: hB S.2)=P;have ai:P=aI S.1 :: hB S.2:=by rw[<-hP];exact pc (aI 0) _ (fun _=>false) _
    subst ai;clear hP;simp[go_sem,e6,b7];simp[go_sem,ah,e6];exact .hf _ (wI e)
   |ok ko =>
    obtain⟨q,rfl,hq⟩:=b6 ko (qk _) aw hs hx av;have b8:=hS av q hx;subst b8;rw[hx]at C;simp only at C;have b9:=hc.ts.ns;have ax:(qq q).1=q.ar:=rfl;have ay:=fun h=>qpL b9 hq h I.params[k].2
    generalize qq q=Q at *
    simp[go_sem,e3,qt,ag,dgOf];rw[if_pos (q9 _)];generalize hP:putCells _ 0 (aI Q.1 :: hB Q.2)=P;have ai:P=aI Q.1 :: hB Q.2:=by rw[<-hP];exact pc (aI 0) _ (fun _=>false) _
    subst ai;clear hP;by_cases a3:q.ar=1
    .rw [if_pos a3]at C
     have a5:Q.1=1:=ax.trans a3;simp[go_sem,qt,a5];have be:I.params[k].2<4/\0<=I.params[k].2:=by grind
     refine aP 4 (fun j g=>∃ b,2<=b/\g.tm 10 = .ptr b 0/\g.mu[b]?=some (.arr (aI 1 :: hB Q.2))/\g.tm 1=lVr (envS s)/\g.tm 3 = .ptr 0 0/\g.tm 5 = .ip (cNd n)/\g.tm 6 = .ptr 1 0/\g.tm 8=lPm I.params/\g.tm 9=aI k/\g.tm 12=aI j/\g.mu[0]?=some (.arr (cVw c true))/\g.mu[1]?=some (.arr [aI 0,aI 0]) /\
      ∀ i:Nat,i<j->Q.2 i=true->(i:Int)=I.params[k].2) ?_ ?_
     .exact ⟨U.mu.length,zOm,zSi,zSi,zS1 e1,zS1 e3,zS1 e5,zS1 e6,zS1 e8,zS1 e9,zSi,by simp only[qK];rw[J _ _ zOm];exact m0,by simp only[qK];rw[J _ _ zOm];exact m1,fun i hi=>zOm⟩
     .clear e1 e3 e5 e6 e8 e9 m0 m1 J a1 af ag ah a9
      rintro j st2 hj ⟨b,hb,a6,mb,e1,e3,e5,e6,e8,e9,aa,m0,m1,a7⟩;have a9:1<st2.mu.length:=(qj.1 m1).1;have a1:∀ c,(st2.mu.set 1 c)[1]?=some c:=fun c=>qH a9
      by_cases aj:j<4
      .have ak:(j:Int)<4:=by omega
       have az:j<64:=zOm;have T:(j:Int)<64:=zOm;have wj:=zWk j;have a8:=d1 (aI 1) Q.2 j az;have al:1+j<=64:=zOm;by_cases hQ:Q.2 j=true
       .rw [hQ]at a8
        by_cases ab:(j:Int)=I.params[k].2
        .have bb:=eq_true ab
         simp[go_sem,a6,mb,e8,e9,aa,ak,T,a8,al,qt,o,bb,wj];refine⟨aj,aM ⟨b,hb,zS1 a6,zS1 mb,zS1 e1,zS1 e3,zS1 e5,zS1 e6,zS1 e8,zS1 e9,zSi,zS1 m0,zS1 m1,fun i hi h=>?_⟩⟩;by_cases an:i=j
         .subst an;exact ab
         .exact a7 i zOm h
        .have b0:¬w7 I.params[k].2 q=true:=fun h=>ab ((ay a3).1 h j aj hQ)
         rw[if_neg b0]at C;subst C;simp[go_sem,a6,mb,e5,e6,e8,e9,aa,ak,T,a8,al,qt,o,ab,m1,a1];exact .hf _ (wI (43,n.pos))
       .have hQ:Q.2 j=false:=by simpa using hQ
        rw[hQ]at a8;simp[go_sem,a6,mb,aa,ak,T,a8,al,qt,wj];refine⟨aj,aM ⟨b,hb,zS1 a6,zS1 mb,zS1 e1,zS1 e3,zS1 e5,zS1 e6,zS1 e8,zS1 e9,zSi,zS1 m0,zS1 m1,fun i hi h=>?_⟩⟩;by_cases an:i=j
        .subst an;rw[hQ]at h;cases h
        .exact a7 i zOm h
      .have bc:j=4:=by omega
       subst bc;have ao:w7 I.params[k].2 q=true:=(ay a3).2 fun i hi h=>a7 i hi h
       rw[if_pos ao]at C;simp[go_sem,e9,aa,w1];exact⟨o,aM ⟨zS1 e1,zS1 e3,zS1 e5,zS1 e6,zS1 e8,zSi,zS1 m0,zS1 m1,C⟩⟩
    .rw [if_neg a3]at C
     subst C;have a5:¬Q.1=1:=fun e=>a3 (ax.symm.trans e)
     simp[go_sem,e5,qt,a5,ah,e6];exact .hf _ (wI (42,n.pos))
  .rw [if_neg a2]at hR
   subst hR;have b1:¬n.sD.length=I.params.length:=fun e=>a2 e.symm
   simp[go_sem,b1,dgOf];exact .hf _ (wI (45,n.pos))
end
end QO
namespace QR
open Y9 Y10 Y1 Y2 Y12 P1 P2 QE QF QJ QL QN PG QO
theorem K0{n}(i:WfN n)(h:n.op=15\/n.op=45\/n.op=46):∃ a f,n.sD=[a,f]/\kd a.op=101:=by
 have g:=i.shape;unfold shp at g;rw[zIn,zIn,zIn,if_pos zOm]at g;simp only[qp]at g
 match j:n.sD,g with
 | [a,f],g =>
  grind
 | [],g=>simp at g
 | [_],g=>simp at g
 |_ :: _ :: _ :: _,g=>simp at g
theorem five{C:Type}{l}{a b c d e:C}(g:l[0]?=some a)(i:l[1]?=some b)(j:l[2]?=some c)(o:l[3]?=some d)(p:l[4]?=some e):∃ r,l=a :: b :: c :: d :: e :: r:=by
 match l,g,i,j,o,p with
 |_ :: _ :: _ :: _ :: _ :: r,g,i,j,o,p =>
  simp_all
def Vs:Res->RS
 | .ok (some k)=>if k.ar=1 then qq k else zR
 |_=>zR
theorem qpP(s d):FL (.tup [eRS s,eDg d]):=FL.tup fun x i=>by
 rcases qx.1 i with rfl|i
 .exact FL.agg fun c g=>by
   rcases qx.1 g with rfl|g
   .exact FL.sc _
   .obtain ⟨j,_,rfl⟩:=qn.1 g
    exact FL.sc _
 .rw [qQ]at i;subst i
  exact FL.agg fun c g=>by
   rcases qx.1 g with rfl|g
   .exact FL.sc _
   .rw [qQ]at g;subst g;exact FL.sc _
theorem qpQ(c)(hc:okCk c)(s)(hs:ScOk c.ts.sS.length s)(az:s.length<=90000)(n a g)(hw:WfN n)(hb:n.op=15\/n.op=45\/n.op=46)(I:n.sD=[a,g])(a7:kd a.op=101)(inn)
  (ag:ExR c s (inn||decide (n.op=15)) a) (ah:∀ k,okKd c.ts.sS.length k->k.ar=1->ExR c ((n.name,k) :: s) (inn||decide (n.op=15)) g) :
  qh qd 258 [eVw c inn,lVr (envS s),eNd n] (.tup [eRS (Vs (exam c s (inn||decide (n.op=15)) a)),eDg (dgOf (yR c s (inn||decide (n.op=15)) n.name n.pos n.sD))]):=by
 have wa:=hw.kid (k:=a) (by rw[I];simp);obtain⟨S,ca,hS⟩:=ag;have ai:=jI hc (szN a) a s (inn||decide (n.op=15));have a8:=Zf c (szN a) a s (inn||decide (n.op=15));rw[I];have w1:=wkE c (inn||decide (n.op=15)) (envS s) a;have aj:n.op=15->(inn||decide (n.op=15))=true:=fun h=>zP1 h
 have ak:¬n.op=15->(inn||decide (n.op=15))=inn:=fun h=>zP1 h
 generalize (inn||decide (n.op=15))=B at *
 generalize hE:dgOf (yR c s B n.name n.pos [a,g])=E;generalize hX:exam c s B a=X at *
 have a9:∀ k,okKd c.ts.sS.length k->k.ar=1->X = .ok (some k)->∃ S2,qh qd 209 [eVw c B,lVr (envS ((n.name,k) :: s)),eNd g] (.tup [eRS S2,eDg E]):=fun k hk t al=>by
  obtain⟨S2,cg,_⟩:=ah k hk t;refine⟨S2,?_⟩;have a1:E=dgOf (exam c ((n.name,k) :: s) B g):=by
   rw[<-hE];simp only[yR,zl];rw[hX,al];simp only;rw[if_pos t];cases exam c ((n.name,k) :: s) B g<;>rfl
  grind
 refine qSQ call258 func258 rfl { mt:=[3] } ?_;by_cases a3:n.op=15
 case' pos =>
  have a4:=aj a3;subst a4
 case' neg =>
  have a4:=ak a3;subst a4
 all_goals
  simp[go_sem,a3];refine fG [0,1,2,3,4,5,6,7,8,9,10,11,12,13] [(0,0,[]),(1,0,[]),(2,0,[]),(3,0,[]),(4,0,[]),(5,0,[]),(6,1,[]),(7,0,[]),(8,0,[]),(9,0,[]),(10,2,[0,3,5]),(11,2,[0,3,5]),(12,1,[]),(13,1,[])] zKr zKr zSi ?_;simp[go_sem,I];refine t7 ca w1 ?_;simp[go_sem,qt,I];rw[if_pos (q9 _)];generalize hP:putCells _ 0 (aI S.1 :: hB S.2)=P;have R:P=aI S.1 :: hB S.2:=by rw[<-hP];exact pc (aI 0) _ (fun _=>false) _
  subst R;clear hP;simp[go_sem]
 all_goals
  cases X with
  |error e =>
   have he:=a8 e (qk _) rfl;have an:¬e.1=0:=zOm;have a1:E=e:=by rw[<-hE];simp only[yR];rw[hX];rfl
   subst a1;clear hE;simp[go_sem,dgOf,an];refine fG [0,1,2,3] [(0,0,[]),(1,0,[]),(2,1,[1]),(3,1,[])] zKr zKr zSi ?_;simp[go_sem];exact .hf _ (vt zR E)
  |ok ko =>
   obtain⟨q,rfl,hq⟩:=ai ko (qk _) wa hs rfl a7;have ao:=hS a7 q rfl;subst ao;have aa:(qq q).1=q.ar:=rfl;by_cases t:q.ar=1
   .have T:(qq q).1=1:=aa.trans t
    obtain⟨S2,cg⟩:=a9 q hq t rfl;have a5:Vs (.ok (some q))=qq q:=if_pos t;rw[a5];have ab:envS ((n.name,q) :: s)=envS s++[(n.name,qq q)]:=by simp[envS]
    rw[ab]at cg;generalize qq q=Q at *
    obtain⟨qa,U⟩:=Q;have a6:qa=1:=T;subst a6;simp[go_sem,dgOf];refine fG [0,1,2,4,5,6,7,8,10,11,12,13,3,9,14,15,16,17,18,19,20,21] [(0,0,[]),(1,0,[]),(2,0,[]),(4,0,[]),(5,0,[]),(6,0,[]),(7,0,[]),(8,0,[]),(10,0,[]),(11,0,[]),(12,0,[]),(13,0,[]),(3,1,[0,5,6,11,13]),(9,1,[0,11,13]),(14,1,[]),(15,0,[]),(16,0,[]),(17,0,[]),(18,2,[0,5,6,11,13]),(19,2,[0,5,6,11,13]),(20,1,[]),(21,1,[])] zKr zKr zSi ?_;simp[go_sem,qt,tk];rw[if_pos (q9 _)];generalize hC:putCells _ 1 _=C;have aq:C=cVr (n.name,(1,U)):=by rw[<-hC];exact pcV n.name (1,U)
    subst aq;clear hC;have au:(cVr (n.name,((1:Int),U))).length=66:=by simp[qt]
    have av:=kz (n.name,((1:Int),U));generalize hV:cVr (n.name,((1:Int),U))=V at *
    simp[go_sem,au];rw[if_pos av];simp[go_sem,I];refine kB (lo:=5) (xs:=[]) (ys:=envS s) (OwnF.nil zSp) (by simp[qy]) (by simp[U8];omega) fun b0 m1 aw a0=>?_
    have k0:=a0 0 zOm;have k1:=a0 1 zOm;have k2:=a0 2 zOm;have k3:=a0 3 zOm;have k4:=a0 4 zOm;simp at k0 k1 k2 k3 k4;simp[go_sem,qt,tk,I,k0,k3];refine kB (xs:=[]++envS s) (ys:=[(n.name,(1,U))]) aw (by simp[qy,hV]) (by simp[U8];omega) fun b1 m2 a2 J=>?_
    rw[jp]at a2;have ax:=a2.2.2;replace k0:=(J 0 zOm).trans k0;replace k1:=(J 1 zOm).trans k1;replace k2:=(J 2 zOm).trans k2;replace k3:=(J 3 zOm).trans k3;replace k4:=(J 4 zOm).trans k4;have o:∀(l:List Cell)(i:Nat),i<m2.length->(m2++l)[i]?=m2[i]?:=fun l i hi=>qI hi
    have g0:=(qj.1 k0).2;have g1:=(qj.1 k1).2;have g2:=(qj.1 k2).2;have g3:=(qj.1 k3).2;simp[go_sem,I,k0];refine fX (args':=[eVw c _,lVr (envS s++[(n.name,(1,U))]),eNd g]) cg ⟨.hf _ (qdU c _),rdVr a2,.hf _ (qC g),trivial⟩ (qpP S2 _) ?_;have p0:=fun l=>(o l 0 zOm).trans k0
    have p1:=fun l=>(o l 1 zOm).trans k1
    have p2:=fun l=>(o l 2 zOm).trans k2
    have p3:=fun l=>(o l 3 zOm).trans k3
    have p4:=fun l=>(o l 4 zOm).trans k4
    have ad:0<m2.length:=zOm;have ae:3<m2.length:=zOm;simp[go_sem,qt,tk,I,g0,g3,ad,ae,p3];rw[if_pos (q9 _)];generalize hP:putCells _ 0 (cRS S2)=P;have R:P=cRS S2:=by rw[<-hP];exact pc (aI 0) _ (fun _=>false) _
    subst R;clear hP;simp[go_sem];obtain⟨rr,af⟩:=five k0 k1 k2 k3 k4;have b2:m2.length=rr.length+5:=by rw[af];rfl
    clear g0 g1 g2 g3 p0 p1 p2 p3 p4 o a2 J k0 k1 k2 k3 k4 ax ad ae;refine fG [0,1,2,3] [(0,0,[]),(1,0,[]),(2,1,[1]),(3,1,[])] zKr zKr zSi ?_;simp[go_sem,qt,tk,af];rw[if_pos (q9 _)];generalize hP:putCells _ 0 (aI 1 :: hB U)=P;have R:P=aI 1 :: hB U:=by rw[<-hP];exact pc (aI 0) (aI 1) (fun _=>false) U
    subst R;clear hP;simp[go_sem,qt,tk];exact .hf _ (vt (1,U) E)
   .have T:¬(qq q).1=1:=fun e=>t (aa.symm.trans e)
    have a5:Vs (.ok (some q))=zR:=if_neg t;rw[a5];have a1:E=(42,n.pos):=by
     rw[<-hE];simp only[yR];rw[hX];simp only;rw[if_neg t];rfl
    subst a1;clear hE;generalize qq q=Q at *
    simp[go_sem,dgOf,T];refine fG [0,1,2,3,4,5] [(0,0,[]),(1,0,[]),(2,0,[]),(3,0,[]),(4,1,[2]),(5,1,[])] zKr zKr zSi ?_;simp[go_sem];exact .hf _ (vt zR (42,n.pos))
theorem qpR(ts)(ok:okTS ts)(n l)(t:n.op≠1)(o:n.op≠15)
  (C:n.op=5\/n.op=11\/n.op=12\/n.op=13->∃ a,l=[some a]/\okKd ts.sS.length a)
  (I:n.op=6\/n.op=14\/n.op=7\/n.op=8\/n.op=32\/n.op=33\/n.op=9\/n.op=10->∃ a b,l=[some a,some b]/\okKd ts.sS.length a/\okKd ts.sS.length b) :
  ∃ S b,(∀ L,((n.op=5\/n.op=11\/n.op=12\/n.op=13)\/(n.op=6\/n.op=14\/n.op=7\/n.op=8\/n.op=32\/n.op=33\/n.op=9\/n.op=10)->L=l.map setO)->prC ts n L S b)/\ApE n.op (zz ts.sS.length n.op n.n n.pos l) S b:=by
 by_cases R:(n.op=5\/n.op=11\/n.op=12\/n.op=13)\/(n.op=6\/n.op=14\/n.op=7\/n.op=8\/n.op=32\/n.op=33\/n.op=9\/n.op=10)
 .obtain ⟨S,b,c,a⟩:=qpK ts ok n l (l.map setO) t o (fun h=>by obtain⟨a,rfl,p⟩:=C h;exact⟨a,rfl,rfl,p⟩) (fun h=>by obtain⟨a,b,rfl,p,J⟩:=I h;exact⟨a,b,rfl,rfl,p,J⟩)
  grind
 by_cases g:n.op=2
 .refine ⟨qq ⟨n.n,[]⟩,true,fun L _=>qdT (qdQ n.n) (ap2 ts n L g),?_⟩
  unfold zz;rw[if_pos g];exact⟨rfl,fun _=>⟨_,rfl,rfl⟩⟩
 by_cases i:n.op=3
 .refine ⟨_,true,fun L _=>ap3 ts ok n L i,?_⟩
  unfold zz;rw[if_neg g,if_pos i];exact⟨rfl,fun _=>⟨_,rfl,rfl⟩⟩
 by_cases j:n.op=4
 .refine ⟨_,true,fun L _=>ap4 ts ok n L j,?_⟩
  unfold zz;rw[if_neg g,if_neg i,if_pos j];exact⟨rfl,fun _=>⟨_,rfl,rfl⟩⟩
 refine⟨zR,true,fun L _=>apO ts n L g i j zOm zOm zOm zOm zOm zOm zOm zOm zOm zOm zOm zOm,?_⟩;rw[Xu g i j zOm zOm zOm zOm zOm zOm zOm zOm zOm zOm zOm zOm];refine⟨rfl,fun P=>?_⟩;have:=Yr P;omega
def resS:Res->RS
 | .ok (some k)=>qq k
 |_=>zR
theorem qpS(R):endR zR R = .tup [eRS (resS R),eDg (dgOf R)]:=by
 cases R with
 |error e=>rfl
 |ok k=>cases k<;>rfl
end QR
namespace QS
open YZ YF Y9 Y10 Y1 Y2 Y13 P1 P2 QE QF QI QJ QL QN PG QO QR
theorem U9(c op nm):yZ c op nm=(yP op||(decide (op=47)&&tpB c nm)):=rfl
theorem qpT{ns op n pos l e}(h:zz ns op n pos l = .error e):e=(42,pos):=by
 unfold zz at h
 repeat' split at h
 all_goals grind
theorem wkTP(c:Ck)(nm):WKs [eTS c.ts,lBo c.timed,aI c.calls,aS nm] [eTS c.ts,lBo c.timed,aI c.calls,aS nm] := .zk (zA _) (.zk (Vp _) (.zs (.zs .nil)))
theorem wk1I(k):WKs [aI k] [aI k] := .zs .nil
theorem fl_sb(s b):FL (.tup [eRS s,aB b]):=FL.tup fun x i=>by
 rcases qx.1 i with rfl|i
 .exact FL.agg fun c g=>by
   rcases qx.1 g with rfl|g
   .exact FL.sc _
   .obtain ⟨j,_,rfl⟩:=qn.1 g
    exact FL.sc _
 grind [qQ,FL.sc]
theorem qpU(c)(i:okCk c)(s n)(g:yZ c n.op n.name=true):ExR c s true n:=by
 refine⟨zR,?_,fun _ q h=>?_⟩
 case refine_2=>simp_all[jU,if_pos]
 have j:exam c s true n = .error (46,n.pos):=by simp_all[jU,if_pos]
 rw[j];rw[U9]at g;refine qSQ call209 func209 rfl { mt:=[3] } ?_;have l:=Jf n.op;have o:=Jg c i n.name;simp[go_sem];refine t7 l (wk1I _) ?_;cases p:yP n.op with
 |true =>
  simp[go_sem];refine fG [0,1,2,3,4,5] [(0,0,[]),(1,0,[]),(2,0,[]),(3,0,[]),(4,1,[2]),(5,1,[])] zKr zKr zSi ?_;simp[go_sem,dgOf];exact .hf _ (vt zR (46,n.pos))
 |false =>
  rw[p,Bool.false_or,qB]at g;obtain⟨h47,hB⟩:=g;have h47:n.op=47:=zUs h47;simp[go_sem,h47];refine t7 o (wkTP c n.name) ?_;rw[hB];simp[go_sem];refine fG [0,1,2,3,4,5] [(0,0,[]),(1,0,[]),(2,0,[]),(3,0,[]),(4,1,[2]),(5,1,[])] zKr zKr zSi ?_;simp[go_sem,dgOf];exact .hf _ (vt zR (46,n.pos))
theorem qpV(c)(l:okCk c)(s)(g:s.length<=100000)(inn n)(i:n.op=1):ExR c s inn n:=by
 have o:exam c s inn n=yG c s n.name n.pos:=by
  rw[jU,U9,i,show yP 1=false from rfl];simp
 refine⟨resS (yG c s n.name n.pos),?_,fun _ q h=>by rw[o]at h;rw[h];rfl⟩;rw[o];have p:=wC c l inn s n g;rw[qpS]at p;generalize resS (yG c s n.name n.pos)=S at *
 generalize dgOf (yG c s n.name n.pos)=D at *
 refine qSQ call209 func209 rfl { mt:=[3] } ?_;have t:=Jf n.op;have R:=Jg c l n.name;have I:yP n.op=false:=by rw[i];rfl
 rw[I]at t;have J:=wkE c inn (envS s) n;cases inn
 case' true =>
  simp[go_sem];refine t7 t (wk1I _) ?_
 all_goals
  simp[go_sem,i];refine t7 p J ?_;simp[go_sem,qt];rw[if_pos (q9 _)];generalize C:putCells _ 0 (aI S.1 :: hB S.2)=P;have j:P=aI S.1 :: hB S.2:=by rw[<-C];exact pc (aI 0) _ (fun _=>false) _
  subst j;clear C;simp[go_sem,qt,QE.tk];exact .hf _ (vt S D)
theorem qpW(c)(i:okCk c)(s)(t:ScOk c.ts.sS.length s)(inn n)(C:WfN n)(h47:n.op=47)(g:(inn&&yZ c n.op n.name)=false)(I:∀ k,k∈n.sD->ExR c s true k):ExR c s inn n:=by
 have J:exam c s inn n=uM c s n:=by
  rw[jU,g,if_neg zSp,zIn,if_pos h47];rfl
 have P:=qpO c i s t n C h47 I inn;refine⟨zR,?_,fun j=>by rw[h47]at j;exact absurd j zDe⟩;rw[J];generalize dgOf (uM c s n)=D at *
 refine qSQ call209 func209 rfl { mt:=[3] } ?_;have l:=Jf n.op;have o:=Jg c i n.name;have p:yP n.op=false:=by rw[h47];rfl
 rw[p]at l;have R:=wkE c inn (envS s) n;cases inn
 case' true =>
  rw[Bool.true_and,U9,p,h47]at g;have hB:tpB c n.name=false:=zUs g;rw[hB]at o;simp[go_sem];refine t7 l (wk1I _) ?_;simp[go_sem,h47];refine t7 o (wkTP c n.name) ?_
 all_goals
  simp[go_sem,h47];refine fW P R ?_;exact .hf _ (vt zR D)
theorem qpX(c)(R:okCk c)(s)(o:ScOk c.ts.sS.length s)(p:s.length<=90000)(inn n)(T:WfN n)(l:n.op=15\/n.op=45\/n.op=46)(ht:(inn&&yZ c n.op n.name)=false)(U:∀ k,k∈n.sD->∀ s',ScOk c.ts.sS.length s'->s'.length<=s.length+1->∀ inn,ExR c s' inn k):ExR c s inn n:=by
 have hx:exam c s inn n=yR c s (inn||decide (n.op=15)) n.name n.pos n.sD:=by
  rw[jU,ht,if_neg zSp,zIn,zIn,if_pos l]
 obtain⟨a,g,i,t⟩:=K0 T l;have cb:=qpQ c R s o p n a g T l i t inn (U a (by rw[i];simp) s o zOm _) (fun k hk j=>U g (by rw[i];simp) _ (fun v C=>by
  rcases qx.1 C with rfl|C
  .grind
  .exact o v C) zSp _)
 refine⟨Vs (exam c s (inn||decide (n.op=15)) a),?_,fun _ q h=>?_⟩
 case refine_2 =>
  rw[hx,i]at h;simp only[yR]at h;split at h
  .cases h
  .cases h
  .rename_i k hk
   split at h
   .rename_i j
    split at h
    .cases h
    .cases h
     rw[hk];exact if_pos j
   .cases h
 rw[hx];generalize Vs (exam c s (inn||decide (n.op=15)) a)=S at *
 generalize dgOf (yR c s (inn||decide (n.op=15)) n.name n.pos n.sD)=D at *
 refine qSQ call209 func209 rfl { mt:=[3] } ?_;have I:=Jf n.op;have cp:=Jg c R n.name;have h47:¬n.op=47:=zOm;have hT:yP n.op=false:=by grind [yP]
 rw[hT]at I;have wn:=wkE c inn (envS s) n;rcases l with h|h|h
 all_goals
  rw[h]at I;cases inn
 all_goals
  simp[go_sem,h]
  try (refine t7 I (wk1I _) ?_)
  try simp[go_sem,h]
  refine t7 cb wn ?_;simp[go_sem,qt];rw[if_pos (q9 _)];generalize hP:putCells _ 0 (aI S.1 :: hB S.2)=P;have J:P=aI S.1 :: hB S.2:=by rw[<-hP];exact pc (aI 0) _ (fun _=>false) _
  subst J;clear hP;simp[go_sem,qt,QE.tk];exact .hf _ (vt S D)
def seqL(X:Nd->Res):List Nd->Except Dg (List (Option Kd))
 | [] => .ok []
 |k :: ks=>match X k with
  | .error e => .error e
  | .ok a=>match seqL X ks with
   | .error e => .error e
   | .ok l => .ok (a :: l)
theorem qdW(c s B):∀ ks,zl c s B ks=seqL (exam c s B) ks
 | []=>by simp only[zl,seqL]
 |k :: ks=>by simp only[zl,seqL];rw[qdW c s B ks];cases exam c s B k with
  |error e=>rfl
  |ok a=>cases seqL (exam c s B) ks<;>rfl
theorem kF{C:Type}{l}{a b c:C}(g:l[0]?=some a)(i:l[1]?=some b)(j:l[2]?=some c):∃ r,l=a :: b :: c :: r:=by
 match l,g,i,j with
 |_ :: _ :: _ :: r,g,i,j =>
  grind
theorem qpY{n}(j:WfN n)(h:(n.op=5\/n.op=11\/n.op=12\/n.op=13)\/(n.op=6\/n.op=14\/n.op=7\/n.op=8\/n.op=32\/n.op=33\/n.op=9\/n.op=10)):∀ x,x∈n.sD->kd x.op=101:=by
 have g:=j.shape;intro x l;have i:kd x.op∈n.sD.map fun k=>kd k.op:=qn.2 ⟨x,l,rfl⟩
 rcases h with h|h
 .unfold shp at g
  rw[zIn,if_pos zOm]at g
  grind
 .unfold shp at g
  rw[zIn,zIn,if_pos zOm]at g;simp only[qp]at g;rw[<-g]at i;simpa using i
set_option maxHeartbeats 2000000 in
theorem ex_t(c)(hc:okCk c)(s n inn B X S D)(h1:¬n.op=1)(h47:¬n.op=47)(hb:¬(n.op=15\/n.op=45\/n.op=46))(hw:WfN n)(ax:n.sD.length<=401)(hT:inn=true->yP n.op=false)(a7:n.op=12->B=true)(a8:n.op=13->B=true)(ah:¬n.op=12->¬n.op=13->B=inn)
  (ai:∀ k,k∈n.sD->∃ S,qh qd 209 [eVw c B,lVr (envS s),eNd k] (.tup [eRS S,eDg (dgOf (X k))])/\(kd k.op=101->∀ q,X k = .ok (some q)->S=qq q))
  (a9:∀ k a,k∈n.sD->X k = .ok a->kd k.op=101->∃ q,a=some q/\okKd c.ts.sS.length q)
  (a3:∀ k e,X k = .error e->40<=e.1)
  (aj:∀ e,seqL X n.sD = .error e->S=zR/\D=e)
  (ak:∀ l,seqL X n.sD = .ok l->∃ S' b,(∀ L,((n.op=5\/n.op=11\/n.op=12\/n.op=13)\/(n.op=6\/n.op=14\/n.op=7\/n.op=8\/n.op=32\/n.op=33\/n.op=9\/n.op=10)->L=l.map setO)->prC c.ts n L S' b)/\(b=true->S=S'/\D=(0,0))/\(b=false->S=zR/\D=(42,n.pos))) :
  qh qd 209 [eVw c inn,lVr (envS s),eNd n] (.tup [eRS S,eDg D]):=by
 simp only[not_or]at hb;obtain⟨b1,b2,b3⟩:=hb;refine qSQ call209 func209 rfl { mt:=[3] } ?_;have ct:=Jf n.op;have cp:=Jg c hc n.name;cases inn
 all_goals first
  | (rw[hT rfl]at ct;simp[go_sem];refine t7 ct (wk1I _) ?_)
  |skip
 all_goals simp[go_sem,h1,h47,b1,b2,b3]
 all_goals rcases (show n.op=12\/(¬n.op=12/\n.op=13)\/(¬n.op=12/\¬n.op=13) by omega) with I|⟨I,a1⟩|⟨I,a1⟩
 all_goals first|simp[go_sem,I,a1] | simp[go_sem,I]
 all_goals first|have a4:=a7 I|have a4:=a8 a1|have a4:=ah I a1
 all_goals
  refine aP n.sD.length (fun k U=>∃(o:List (Option Kd)) (L:List RS),o.length=k/\L.length=k/\U.tm 1=lVr (envS s)/\U.tm 3 = .ptr 0 0/\U.tm 5 = .ip (cNd n)/\U.tm 6 = .ptr 1 0/\U.tm 7 = .ptr 2 0/\U.tm 9=aI k/\U.mu[0]?=some (.arr (cVw c B))/\U.mu[1]?=some (.arr (aI 0 :: hB fun _=>false))/\U.mu[2]?=some (.arr [aI 0,aI 0])/\OwnF 3 U.mu 65 (U.tm 8) (L.map cRS)/\(∀(i:Nat) x,n.sD[i]?=some x->i<k->kd x.op=101->∃ q,o[i]?=some (some q)/\L[i]?=some (qq q))/\seqL X n.sD=(match seqL X (n.sD.drop k) with | .error e => .error e | .ok l => .ok (o++l))) ?_ ?_
  .refine ⟨[],[],rfl,rfl,zSi,zSi,zSi,zSi,zSi,zSi,by rw[a4];simp[go_sem],by simp[go_sem];rfl,zSi,by simp_all[go_sem,OwnF.nil],fun i x _ h=>absurd h zOm,?_⟩
   grind
  rintro k U hk ⟨o,L,aa,ab,e1,e3,e5,e6,e7,e9,m0,m1,m2,ho,a2,J⟩;generalize h8:U.tm 8=t at *
  by_cases C:k<n.sD.length
  .have w1:=zWk k
   obtain⟨Sk,ck,al⟩:=ai n.sD[k] (qv C);rw[ze C]at J;simp only[seqL]at J;simp[go_sem,e5,e9,C];refine fG [0,1,2,3,4,5,6,7,8,9,10,11,12,13,14] [(0,0,[]),(1,0,[]),(2,0,[]),(3,0,[]),(4,0,[]),(5,0,[]),(6,0,[]),(7,1,[]),(8,0,[]),(9,0,[]),(10,0,[]),(11,2,[0,3,6]),(12,2,[0,3,6]),(13,1,[]),(14,1,[])] zKr zKr zSi ?_;have ad:2<U.mu.length:=(qj.1 m2).1;have g:∀(l:List Cell)(i:Nat),i<U.mu.length->(U.mu++l)[i]?=U.mu[i]?:=fun l i R=>qI R
   have p0:=fun l=>(g l 0 zOm).trans m0
   have p1:=fun l=>(g l 1 zOm).trans m1
   have p2:=fun l=>(g l 2 zOm).trans m2
   have g0:=(qj.1 m0).2;have g1:=(qj.1 m1).2;have g2:=(qj.1 m2).2;have a5:0<U.mu.length:=zOm;have an:1<U.mu.length:=zOm;simp[go_sem,e1,e3,e5,e9,C,m0];refine t7 ck (wkE c _ _ _) ?_;cases hx:X n.sD[k] with
   |error e =>
    have he:=a3 _ _ hx;have ao:¬e.1=0:=zOm;rw[hx]at J;have J:seqL X n.sD = .error e:=J;obtain⟨aq,ar⟩:=aj e J;rw[aq,ar];simp[go_sem,e3,g0,a5,qt,dgOf];rw[if_pos (q9 _)];generalize hP:putCells _ 0 (cRS Sk)=P;have T:P=cRS Sk:=by rw[<-hP];exact pc (aI 0) _ (fun _=>false) _
    subst T;clear hP;simp[go_sem,ao];refine fG [0,1,2,3] [(0,0,[]),(1,0,[]),(2,1,[1]),(3,1,[])] zKr zKr zSi ?_;simp[go_sem,e6,e7,a5,qt,g1,g2,an,ad];exact .hf _ (vt zR e)
   |ok a =>
    rw[hx]at J;simp only at J;simp[go_sem,e3,g0,a5,qt,dgOf];rw[if_pos (q9 _)];generalize hP:putCells _ 0 (cRS Sk)=P;have T:P=cRS Sk:=by rw[<-hP];exact pc (aI 0) _ (fun _=>false) _
    subst T;clear hP;simp[go_sem,h8,qt,QE.tk];rw[if_pos (q9 _)];simp[go_sem];refine appRS (lo:=3) (xs:=L) (ys:=[Sk]) ⟨by simpa using J0 (J0 ho.1 _) _,ho.2.1,by grind⟩ (by simp[qy]) zSo fun ay m' au a6=>?_
    simp[go_sem,e9,C,w1];refine aM ⟨o++[a],L++[Sk],zP1 aa,zP1 ab,zS1 e1,zS1 e3,zS1 e5,zS1 e6,by simp[go_sem,e7],zSi,?_,?_,?_,zVs au,fun i x R az a0=>?_,?_⟩
    .simp only[qK];exact(a6 0 zOm).trans (p0 _)
    .simp only[qK];exact(a6 1 zOm).trans (p1 _)
    .simp only[qK];exact(a6 2 zOm).trans (p2 _)
    .by_cases ae:i=k
     .subst ae
      rw[qw C]at R;cases R;obtain⟨q,rfl,_⟩:=a9 _ a (qv C) hx a0;refine⟨q,?_,?_⟩
      .rw [zN zOm,aa];simp
      .rw [zN zOm,ab];simp[al a0 q hx]
     .obtain ⟨q,q1,q2⟩:=a2 i x R zOm a0
      exact⟨q,by rw[zGa];exact q1,by rw[zGa];exact q2⟩
    grind
  .have af:k=n.sD.length:=by omega
   subst af;rw[zY]at J;have J:seqL X n.sD = .ok o:=by rw[J];simp only[seqL,zV]
   obtain⟨S',b,q1,q2,q3⟩:=ak o J;have hL:((n.op=5\/n.op=11\/n.op=12\/n.op=13)\/(n.op=6\/n.op=14\/n.op=7\/n.op=8\/n.op=32\/n.op=33\/n.op=9\/n.op=10))->L=o.map setO:=fun h=>by
    have a0:∀ x,x∈n.sD->kd x.op=101:=fun x hx=>qpY hw h x hx
    refine List.ext_getElem? fun i=>?_
    by_cases R:i<n.sD.length
    .obtain ⟨q,e1,e2⟩:=a2 i n.sD[i] (zP1 R) R (a0 _ (qv R))
     rw[e2,List.getElem?_map,e1];rfl
    .rw [uy zOm,uy zSo]
   have hp:=q1 L hL;unfold prC at hp;have ad:2<U.mu.length:=(qj.1 m2).1;have g:∀(l:List Cell)(i:Nat),i<U.mu.length->(U.mu++l)[i]?=U.mu[i]?:=fun l i R=>qI R
   obtain⟨rr,ag⟩:=kF m0 m1 m2;simp[go_sem,e3,e5,e9,h8,m0];refine fX (args':=[eTS c.ts,eNd n,lRS L]) hp ⟨.hf _ (zA _),.hf _ (qC n),rdRS ho,trivial⟩ (fl_sb S' b) ?_;have b0:U.mu.length=rr.length+3:=by rw[ag];rfl
   clear m0 m1 m2 g ho;simp[go_sem,ag,qt];rw[if_pos (q9 _)];generalize hP:putCells _ 0 (cRS S')=P;have T:P=cRS S':=by rw[<-hP];exact pc (aI 0) _ (fun _=>false) _
   subst T;clear hP;cases b with
   |true =>
    obtain⟨rfl,rfl⟩:=q2 rfl;simp[go_sem,e6,qt,QE.tk,pc];rw[if_pos (q9 _)];simp[go_sem,e6,e7,qt,QE.tk];exact .hf _ (vt S (0,0))
   |false =>
    obtain⟨rfl,rfl⟩:=q3 rfl;simp[go_sem];refine fG [0,1,2,3,4,5] [(0,0,[]),(1,0,[]),(2,0,[]),(3,0,[]),(4,1,[2]),(5,1,[])] zKr zKr zSi ?_;simp[go_sem,e5,e6,e7,qt];exact .hf _ (vt zR (42,n.pos))
theorem qpZ(c)(p:okCk c)(s)(hs:ScOk c.ts.sS.length s)(inn n)(t:WfN n)(h1:¬n.op=1)(h47:¬n.op=47)(hb:¬(n.op=15\/n.op=45\/n.op=46))(ht:(inn&&yZ c n.op n.name)=false)(ih:∀ k,k∈n.sD->∀ inn,ExR c s inn k):ExR c s inn n:=by
 have hx:exam c s inn n=match zl c s (inn||decide (n.op=12)||decide (n.op=13)) n.sD with | .error e => .error e | .ok l=>zz c.ts.sS.length n.op n.n n.pos l:=by
  rw[jU,ht,if_neg zSp,if_neg h1,if_neg h47,if_neg hb]
  grind
 have C:n.op=12\/n.op=13->(inn||decide (n.op=12)||decide (n.op=13))=true:=fun h=>by grind
 have a0:¬n.op=12->¬n.op=13->(inn||decide (n.op=12)||decide (n.op=13))=inn:=fun h h'=>by simp[h,h']
 generalize (inn||decide (n.op=12)||decide (n.op=13))=B at *
 obtain⟨S,D,I,hq,J,P⟩:∃ S D,dgOf (exam c s inn n)=D/\(kd n.op=101->∀ q,exam c s inn n = .ok (some q)->S=qq q)/\(∀ e,zl c s B n.sD = .error e->S=zR/\D=e) /\
   (∀ l,zl c s B n.sD = .ok l->∃ R b,(∀ L:List RS,((n.op=5\/n.op=11\/n.op=12\/n.op=13)\/(n.op=6\/n.op=14\/n.op=7\/n.op=8\/n.op=32\/n.op=33\/n.op=9\/n.op=10)->L=l.map setO)->prC c.ts n L R b)/\(b=true->S=R/\D=(0,0))/\(b=false->S=zR/\D=(42,n.pos))):=by
  rw[hx];cases hE:zl c s B n.sD with
  |error e=>exact⟨zR,e,rfl,(fun _ q h=>by cases h),(fun e' h=>by grind),(fun l h=>by cases h)⟩
  |ok l =>
   obtain⟨a1,a2⟩:=Yq hE;have a3:=(Xx p.ts.ns t a1 (fun i k' a hi ha g=>jI p (szN k') k' s B a (qk _) (t.kid (List.mem_of_getElem? hi)) hs (a2 i k' a hi ha) g)).2;obtain⟨R,b,p1,o⟩:=qpR c.ts p.ts n l h1 (fun h=>hb (.inl h)) (fun h=>by
    grind) a3.2.2
   simp only;cases hA:zz c.ts.sS.length n.op n.n n.pos l with
   |error e =>
    rw[hA]at o;have o:b=false:=o;refine⟨zR,e,rfl,(fun _ q h=>by cases h),(fun e' h=>by cases h),(fun l' h=>by cases h;exact⟨R,b,p1,(fun h=>by grind),(fun _=>⟨rfl,qpT hA⟩)⟩)⟩
   |ok ko =>
    rw[hA]at o;obtain⟨o,p3⟩:=o;refine⟨R,(0,0),rfl,(fun hk q h=>?_),(fun e' h=>by cases h),(fun l' h=>by simp_all)⟩
    grind
 refine⟨S,?_,hq⟩;rw[I];clear I hx hq;obtain⟨X,T⟩:∃ X:Nd->Res,X=exam c s B:=⟨_,rfl⟩;have a4:∀ k,k∈n.sD->∃ S,qh qd 209 [eVw c B,lVr (envS s),eNd k] (.tup [eRS S,eDg (dgOf (X k))])/\(kd k.op=101->∀ q,X k = .ok (some q)->S=qq q):=fun k hk=>by rw[T];exact ih k hk B
 have U:∀ k a,k∈n.sD->X k = .ok a->kd k.op=101->∃ q,a=some q/\okKd c.ts.sS.length q:=fun k a hk h g=>by rw[T]at h;exact jI p (szN k) k s B a (qk _) (t.kid hk) hs h g
 have j:∀ k e,X k = .error e->40<=e.1:=fun k e h=>by rw[T]at h;exact Zf c (szN k) k s B e (qk _) h
 rw[qdW,<-T]at J P;clear T ih;have a5:=t.len;exact ex_t c p s n inn B X S D h1 h47 hb t a5 (fun hi=>by
  simp_all[Bool.true_and,U9,Bool.or_eq_false_iff]) (fun h=>C (.inl h)) (fun h=>C (.inr h)) a0 a4 U j J P
theorem qdX(c)(l:okCk c):∀(m:Nat)(n),depN n<=m->WfN n->∀ s,ScOk c.ts.sS.length s->s.length+m<=80000->∀ inn,ExR c s inn n
 | 0,n,i,_,_,_,_,_=>zW1 (qcN n)
 |m+1,n,i,o,s,t,p,inn=>by
  have C:∀ k,k∈n.sD->∀ s',ScOk c.ts.sS.length s'->s'.length<=s.length+1->∀ inn,ExR c s' inn k:=fun k j s' g I inn=>qdX c l m k (by have:=qcM j;rw[Zm]at i;omega) (o.kid j) s' g zOm inn
  cases J:inn&&yZ c n.op n.name with
  |true =>
   simp_all[qB,qpU]
  |false =>
   grind [qpV,qpW,qpX,qpZ]
end QS
namespace QT
open YF Y9 Y10 Y1 Y2 Y14 Y15 Y16 YZ P1 P2 PA Q5 QD QE QI QJ QL QM QO QS
section
variable {ts:TS}
def ckR(ts:TS)(i:Nat):Ck:=⟨ts,i,tmsL ts ts.sT.length⟩
theorem Wa(h:okTS ts){i}(g:i<=ts.sT.length):okCk (ckR ts i):=⟨h,g,by show i<=(tmsL ts ts.sT.length).length;rw[ZN ts _ (qk _)];exact g⟩
theorem qdY{c c'}(g:c'.ts=c.ts)(l:∀ nm,zy c' nm=zy c nm)(o:∀ op nm,yZ c' op nm=yZ c op nm):∀ m n s inn,szN n<=m->exam c s inn n=exam c' s inn n
 | 0,n,_,_,C=>by obtain⟨op,nm,i,ks,p⟩:=n;simp[szN]at C
 |m+1,n,s,inn,C=>by
  have t:∀ k,k∈n.sD->∀(s:Scp)(inn:Bool),exam c s inn k=exam c' s inn k:=fun k t s inn=>qdY g l o m k s inn (zW1 (qZ t))
  refine qm3 rfl rfl rfl rfl (o _ _) (fun _=>?_) (by rw[g]) (l _) (by rw[g]) rfl (fun _ J=>qm4 fun k j=>t k j s true) (fun _ inn=>?_) (fun _ _ _ inn=>qbU fun k j=>t k j s inn)
  .grind [qm2]
  .cases I:n.sD with
   |nil=>rfl
   |cons k ks =>
    grind [ks,yR,zj,zl,qbU,qU]
theorem qp0(h:okTS ts){i}(l:i<=ts.sT.length)(n s inn):exam (ckR ts i) s inn n=exam (mkCk ts i) s inn n:=by
 refine(qdY (c:=mkCk ts i) (c':=ckR ts i) rfl (fun nm=>rfl) (fun op nm=>?_) (szN n) n s inn (qk _)).symm;unfold yZ;have e:zy (ckR ts i) nm=zy (mkCk ts i) nm:=rfl;rw[e];cases o:zy (mkCk ts i) nm with
 |none=>rfl
 |some p =>
  obtain⟨j,g⟩:=ZK (uo h l) o;have j:p<i:=j;have g:p<ts.sT.length:=g;simp only;have t:=PC.KY ts p ts.sT.length g (qk _) g;have C:=PC.KY ts p i j l g;show (yP op||(decide (op=47)&&(tmsL ts ts.sT.length).getD p false))=(yP op||(decide (op=47)&&(tmsL ts i).getD p false));rw[t,C]
theorem qp1(h:okTS ts){i}(g:i<=ts.sT.length)(env n):jF (mkCk ts i) env n=if 30<=n.op then dgOf (exam (ckR ts i) (yg env) false n) else (43,n.pos):=by
 grind [jF,qp0]
theorem qdZ(ts)(h:okTS ts)(J:∀ p,p∈ts.sT->WfN p.body)(i)(o:i<=ts.sT.length)(env)(t:Ze ts.sS.length env)(j:env.length<=1000)(n)(R:WfN n)(T:depN n<=24) :
  qh qd 150 [eTS ts,aI i,lPm env,eNd n] (eDg (jF (mkCk ts i) env n)):=by
 rw[qp1 h o];have U:=h.ns;have hs:=UG t;have a0:(yg env).length=env.length:=by
  have:=congrArg List.length (qdP env)
  grind [U8,envV]
 obtain⟨S,ce,_⟩:=qdX (ckR ts i) (Wa h o) 24 n T R (yg env) hs zOm false;have C:=envU env j (fun p hp=>zW1 (t.r p hp));rw[qdP]at C;have c1:=qpF n;have c2:=qpC ts h J;refine qSU call150 func150 rfl ?_;refine t7 c1 (.zk (qC n) .nil) ?_;by_cases g:30<=n.op
 .rw [if_pos g]
  generalize dgOf (exam (ckR ts i) (yg env) false n)=D at *
  simp[go_sem,g];refine fG [0,1,3,5,7,2,4,6,8,9,10,11,12,13,14,15] [(0,0,[]),(1,0,[]),(3,0,[]),(5,0,[]),(7,0,[]),(2,1,[0,7]),(4,0,[]),(6,1,[0,7]),(8,1,[]),(9,0,[]),(10,0,[]),(11,0,[]),(12,2,[0,1,7]),(13,2,[0,1,7]),(14,1,[]),(15,1,[])] zKr zKr zSi ?_;simp[go_sem];refine fW c2 (.zk (zA ts) .nil) ?_;refine fW C (.zk (vD env) .nil) ?_;refine t7 ce (wkE (ckR ts i) false _ n) ?_;simp[go_sem,qt];rw[if_pos (q9 _)];generalize I:putCells _ 0 (cRS S)=P;have l:P=cRS S:=by rw[<-I];exact pc (aI 0) _ (fun _=>false) _
  subst l;clear I;simp[go_sem];exact .hf _ (wI D)
 .rw [if_neg g]
  simp[go_sem,g];exact .hf _ (wI (43,n.pos))
theorem qd0(ts)(h:okTS ts)(i:∀ p,p∈ts.sT->WfN p.body)(env)(j:Ze ts.sS.length env)(g:env.length<=1000)(n)(l:WfN n)(o:depN n<=24) :
  qh qd 69 [eTS ts,lPm env,eNd n] (eDg (jd ts env n)):=by
 have c1:=qdZ ts h i ts.sT.length (qk _) env j g n l o;have e:jF (mkCk ts ts.sT.length) env n=jd ts env n:=rfl;rw[e]at c1;generalize jd ts env n=D at *
 refine qSU call69 func69 rfl ?_;refine fW c1 (.zk (zA ts) (.zs (.zk (vD env) (.zk (qC n) .nil)))) ?_;exact .hf _ (wI D)
theorem Jh(a b):dups (a++b)=dups a++dups b:=by simp[dups]
theorem wJ(b):dups [b]=if b=true then [(41,0)] else []:=by cases b<;>rfl
theorem Qh(l):(dups l).length<=l.length:=by
 grind [dups,zX,List.length_filter_le]
theorem kG{C}(g)(l:List C)(k h):(repL g l).take (k+1)=(repL g l).take k++[(l.take k).any fun y=>g l[k] y]:=by
 grind [repL,Qf,uV,qaA,qw,Option.some.inj]
theorem Wb{C:Type}(p)(l:List C)(k h):(l.take (k+1)).any p=((l.take k).any p||p l[k]):=by
 rw[uV h,List.any_append];simp only[List.any_cons,List.any_nil,Bool.or_false]
abbrev eS:dA×Bool->dA×Bool->Bool:=fun x y=>decide (x.1=y.1)
abbrev eF:Fld->Fld->Bool:=fun x y=>decide (x.name=y.name)&&decide (x.sS=y.sS)
abbrev eP:Pd->Pd->Bool:=fun x y=>decide (x.name=y.name)
abbrev eM:dA×Int->dA×Int->Bool:=fun x y=>decide (x.1=y.1)
abbrev eA:dA×Nd->dA×Nd->Bool:=fun x y=>decide (x.1=y.1)
theorem Qj{mu lo s x}{xs ys:List Dg}{K}(j:OwnF lo mu 2 s (xs.map cDg))(o:qy mu x=some (ys.map cDg))(t:xs.length+ys.length<=100000)(C:∀ av mu',OwnF lo mu' 2 av ((xs++ys).map cDg)->(∀ i,i<lo->mu'[i]?=mu[i]?)->K av mu') :
  qu qd mu #[88,88] s x K:=by
 have g:∀ l:List Dg,qS 2 (l.map cDg):=fun l r p=>by
  obtain⟨n,_,rfl⟩:=qn.1 p;exact⟨rfl,rfl⟩
 refine qu.ownF (lo:=lo) (e:=63) (sz:=2) (bt:=16) (zv := .agg [aI 0,aI 0]) (xs:=xs.map cDg) (ys:=ys.map cDg) zSi zSi zSi rfl rfl zOm zOm j o (g xs) (g ys) zSo ?_
 grind
theorem qp2(ts)(h:okTS ts)(mu):qz qd 67 [eTS ts] mu fun e m=>∃ av,e = .ret av/\OwnF mu.length m 2 av ((dups (repL eS ts.sS)++dups (repL eF ts.sA)).map cDg)/\∀ i,i<mu.length->m[i]?=mu[i]?:=by
 refine qSW call67 func67 rfl {} ?_;have a6:=h.ns;have ab:=h.nf;simp[go_sem];refine aP ts.sS.length (fun i U=>U.tm 1 = .ip (cTS ts)/\U.tm 4=aI i/\OwnF mu.length U.mu 2 (U.tm 3) ((dups ((repL eS ts.sS).take i)).map cDg)/\∀ i,i<mu.length->U.mu[i]?=mu[i]?) ?_ ?_
 .simp_all [go_sem,dups,OwnF.nil,qk]
 rintro i U R ⟨e1,e4,J,hm⟩;have a0:(dups ((repL eS ts.sS).take i)).length<=i:=zH (Qh _) (List.length_take_le ..);generalize h3:U.tm 3=av at *
 by_cases o:i<ts.sS.length
 .have p:=kG eS ts.sS i o
  have wi:=zWk i;simp[go_sem,e1,e4,o];refine aP i (fun k st2=>st2.tm 1 = .ip (cTS ts)/\st2.tm 4=aI i/\st2.tm 3=av/\st2.tm 6=aI k/\st2.tm 5=aB ((ts.sS.take k).any fun y=>eS ts.sS[i] y)/\st2.mu=U.mu) ?_ ?_
  .simp [go_sem, *]
  rintro k st2 hk ⟨f1,f4,f3,f6,f5,I⟩;generalize hT:(ts.sS.take k).any (fun y=>eS ts.sS[i] y)=T at *
  by_cases t:k<i
  .have C:k<ts.sS.length:=by omega
   have wk:=zWk k;have g:=Wb (fun y=>eS ts.sS[i] y) ts.sS k C;rw[hT]at g;simp[go_sem,f4,f6,t];refine tV zKr ?_;cases T with
   |true =>
    simp_all[go_sem,Bool.true_or,aM]
   |false =>
    rw[Bool.false_or]at g;by_cases hq:ts.sS[k].1=ts.sS[i].1
    .simp_all [go_sem,eS,decide_eq_true,aM]
    .have l:(ts.sS.take (k+1)).any (fun y=>eS ts.sS[i] y)=false:=by rw[g];exact decide_eq_false fun e=>hq e.symm
     simp_all[go_sem,jS,aM]
  .have a1:k=i:=by omega
   subst a1;rw[hT]at p;cases T with
   |true =>
    simp[go_sem,f4,f3,f6,f5,I];refine Qj (ys:=[(41,0)]) J (by simp[qy]) zSo fun a7 m' a2 a3=>?_
    simp[go_sem,f4,wi];exact⟨o,aM ⟨zS1 f1,zSi,by rw[p,Jh,wJ,if_pos rfl];simpa[go_sem] using a2,by simp only[qK];exact fun i R=>(a3 i R).trans (hm i R)⟩⟩
   |false =>
    simp[go_sem,f4,f6,f5,I,wi];exact⟨o,aM ⟨zS1 f1,zSi,by rw[p,Jh,wJ,if_neg zSp,zV];simpa[go_sem,f3,I] using J,by simp only[qK];exact hm⟩⟩
 .have a4:i=ts.sS.length:=by omega
  subst a4;rw[zJ (by rw[Qf];exact qk _)]at J;simp[go_sem,e1,e4];generalize a8:dups (repL eS ts.sS)=a5 at *
  have ad:a5.length<=4:=by rw[<-a8];exact zH (Qh _) (by rw[Qf];exact a6)
  refine aP ts.sA.length (fun i U=>U.tm 1 = .ip (cTS ts)/\U.tm 7=aI i/\OwnF mu.length U.mu 2 (U.tm 3) ((a5++dups ((repL eF ts.sA).take i)).map cDg)/\∀ i,i<mu.length->U.mu[i]?=mu[i]?) ?_ ?_
  .exact ⟨zS1 e1,zSi,by simpa[go_sem,dups,h3] using J,zVs hm⟩
  clear a0 J hm e1 e4 h3 o R U;rintro i U R ⟨e1,e4,J,hm⟩;have a0:(dups ((repL eF ts.sA).take i)).length<=i:=zH (Qh _) (List.length_take_le ..);generalize h3:U.tm 3=a9 at *
  by_cases o:i<ts.sA.length
  .have p:=kG eF ts.sA i o
   have wi:=zWk i;simp[go_sem,e1,e4,o];refine aP i (fun k st2=>st2.tm 1 = .ip (cTS ts)/\st2.tm 7=aI i/\st2.tm 3=a9/\st2.tm 9=aI k/\st2.tm 8=aB ((ts.sA.take k).any fun y=>eF ts.sA[i] y)/\st2.mu=U.mu) ?_ ?_
   .exact ⟨zS1 e1,zS1 e4,zS1 h3,zSi,zSi,zSi⟩
   rintro k st2 hk ⟨f1,f4,f3,f6,f5,I⟩;generalize hT:(ts.sA.take k).any (fun y=>eF ts.sA[i] y)=T at *
   by_cases t:k<i
   .have C:k<ts.sA.length:=by omega
    have wk:=zWk k;have g:=Wb (fun y=>eF ts.sA[i] y) ts.sA k C;rw[hT]at g;have ae:=h.fl _ (qv C);have aa:=ql3 ts.sA[k].sS ts.sA[i].sS zOm;simp[go_sem,f4,f6,t];refine tV zKr ?_;cases T with
    |true =>
     rw[Bool.true_or]at g;simp[go_sem,f6,f5,t,wk];exact aM ⟨zS1 f1,zS1 f4,zS1 f3,zSi,by rw[g];simp[go_sem],zS1 I⟩
    |false =>
     rw[Bool.false_or]at g;by_cases hq:ts.sA[k].name=ts.sA[i].name
     .simp [go_sem,f1,f4,f6,f5,C,o,hq]
      refine t7 aa (.zk (zx _) (.zk (zx _) .nil)) ?_;by_cases P:ts.sA[k].sS=ts.sA[i].sS
      .have l:(ts.sA.take (k+1)).any (fun y=>eF ts.sA[i] y)=true:=by rw[g];simp[eF,hq.symm,P.symm]
       simp[go_sem,f6,t,wk,P];exact aM ⟨zS1 f1,zS1 f4,zS1 f3,zSi,by rw[l];simp[go_sem],zS1 I⟩
      .have l:(ts.sA.take (k+1)).any (fun y=>eF ts.sA[i] y)=false:=by rw[g];simp[eF,hq.symm];exact fun e=>P e.symm
       simp[go_sem,f6,t,wk,P];exact aM ⟨zS1 f1,zS1 f4,zS1 f3,zSi,by rw[l];simp[go_sem],zS1 I⟩
     .have l:(ts.sA.take (k+1)).any (fun y=>eF ts.sA[i] y)=false:=by rw[g];simp[eF];exact fun e=>absurd e.symm hq
      simp[go_sem,f1,f4,f6,f5,t,C,o,wk,jS hq];exact aM ⟨zS1 f1,zS1 f4,zS1 f3,zSi,by rw[l];simp[go_sem],zS1 I⟩
   .have a1:k=i:=by omega
    subst a1;rw[hT]at p;cases T with
    |true =>
     simp[go_sem,f4,f3,f6,f5,I];refine Qj (ys:=[(41,0)]) J (by simp[qy]) zSo fun a7 m' a2 a3=>?_
     simp[go_sem,f4,wi];exact⟨o,aM ⟨zS1 f1,zSi,by rw[p,Jh,wJ,if_pos rfl,<-zE];simpa[go_sem] using a2,by simp only[qK];exact fun i R=>(a3 i R).trans (hm i R)⟩⟩
    |false =>
     simp[go_sem,f4,f6,f5,I,wi];exact⟨o,aM ⟨zS1 f1,zSi,by rw[p,Jh,wJ,if_neg zSp,zV];simpa[go_sem,f3,I] using J,by simp only[qK];exact hm⟩⟩
  .have a4:i=ts.sA.length:=by omega
   subst a4;rw[zJ (by rw[Qf];exact qk _)]at J;simp[go_sem,e1,e4,h3];exact⟨zUs J,hm⟩
end
end QT
namespace QU
open YF Y9 Y10 Y1 Y2 Y15 Y16 YZ P1 P2 PA QD QI QK QT
theorem qp3{ts i}(l):(∃ p,zy (ckR ts i) ts.sT[i].name=some p/\(ts.sT.take i).any (fun y=>eP ts.sT[i] y)=true)\/(zy (ckR ts i) ts.sT[i].name=none/\(ts.sT.take i).any (fun y=>eP ts.sT[i] y)=false):=by
 cases h:zy (ckR ts i) ts.sT[i].name with
 |some p =>
  left;refine⟨p,rfl,?_⟩;unfold zy at h;rw[List.findIdx?_eq_some_iff_getElem]at h;obtain⟨g,o,_⟩:=h;refine List.any_eq_true.2 ⟨_,qv g,?_⟩
  grind
 |none =>
  right;refine⟨rfl,?_⟩;unfold zy at h;rw[List.findIdx?_eq_none_iff]at h;rw[List.any_eq_false];intro x j;have:=h x j
  grind
theorem rdDg{lo mu av xs}(h:OwnF lo mu 2 av (xs.map cDg)):Rd mu av (lDg xs):=by
 refine h.1.rd (qS.ok fun r g=>?_) fun r g c i=>?_
 .obtain ⟨n,_,rfl⟩:=qn.1 g
  exact⟨rfl,rfl⟩
 .obtain ⟨n,_,rfl⟩:=qn.1 g
  rcases qx.1 i with rfl|i
  .exact HF.sc _
  grind [qQ,HF.sc]
theorem Ji{lo sz mu av xs}(h:OwnF lo mu sz av xs)(c):OwnF lo (mu++[c]) sz av xs:=⟨J0 h.1 c,h.2.1,by have:=h.2.2;simp;omega⟩
theorem qp4(ts)(h:okTS ts)(wp:∀ p,p∈ts.sT->WfN p.body)(i)(P:i<ts.sT.length)(hd:depN ts.sT[i].body<=24):qh qd 68 [eTS ts,aI i] (lDg (ue ts i)):=by
 have a5:=h.pl _ (qv P);have af:=h.np;have c1:=qdZ ts h wp i zOm ts.sT[i].params ⟨zOm,a5.2⟩ zOm ts.sT[i].body (wp _ (qv P)) hd;have c2:=Vo (ckR ts i) (Wa h zOm) ts.sT[i].name;have a6:=qp3 P;have hp:ue ts i=dups [(ts.sT.take i).any (fun y=>eP ts.sT[i] y)]++(dups (repL eM ts.sT[i].params)++rp (jF (mkCk ts i) ts.sT[i].params ts.sT[i].body)):=by
  grind [ue,qw,qbV]
 rw[hp];generalize hD:jF (mkCk ts i) ts.sT[i].params ts.sT[i].body=D at *
 generalize hb:(ts.sT.take i).any (fun y=>eP ts.sT[i] y)=b at *
 have ag:(dups [b]).length<=1:=by grind [dups]
 refine qSU call68 func68 rfl ?_;refine tV zKr ?_;simp[go_sem,P];refine t7 c2 (.zk (zA _) (.zs (.zs .nil))) ?_;have wk:WKs [eTS ts,aI i,lPm ts.sT[i].params,eNd ts.sT[i].body] [eTS ts,aI i,lPm ts.sT[i].params,eNd ts.sT[i].body] := .zk (zA _) (.zs (.zk (vD _) (.zk (qC _) .nil)));have ae:=Yn;have fin:∀ U:St,True:=fun _=>trivial
 rcases a6 with ⟨p,hc,R⟩|⟨hc,R⟩
 case' inl =>
  subst R;rw[hc];have a7:(0:Int)<=(p:Int):=zOm;simp[go_sem,idxO,a7];refine Qj (lo:=0) (xs:=[]) (ys:=[(41,0)]) (OwnF.nil zSp) (by simp[qy]) zSp fun ah m0 ai _=>?_
  simp[go_sem,P]
 case' inr =>
  subst R;rw[hc];simp[go_sem,idxO,P]
 all_goals
  generalize a8:ts.sT[i]=g at *
 case' inl =>
  refine aP g.params.length (fun k U=>U.tm 2 = .ip (cTS ts)/\U.tm 1=aI i/\U.tm 6=lPm g.params/\U.tm 7=aI k/\OwnF 0 U.mu 2 (U.tm 5) ((dups [true]++dups ((repL eM g.params).take k)).map cDg)) ?_ ?_
  .simp_all [go_sem,dups]
 case' inr =>
  refine aP g.params.length (fun k U=>U.tm 2 = .ip (cTS ts)/\U.tm 1=aI i/\U.tm 6=lPm g.params/\U.tm 7=aI k/\OwnF 0 U.mu 2 (U.tm 5) ((dups [false]++dups ((repL eM g.params).take k)).map cDg)) ?_ ?_
  .simp_all [go_sem,dups,OwnF.nil]
 all_goals
  rintro k U hk ⟨e2,e1,e6,e7,ho⟩;have a4:(dups ((repL eM g.params).take k)).length<=k:=zH (Y16.Qh _) (List.length_take_le ..);generalize h5:U.tm 5=t at *
  by_cases C:k<g.params.length
  .have a0:=kG eM g.params k C
   have wi:=zWk k;simp[go_sem,e6,e7,C];refine aP k (fun j st2=>st2.tm 2 = .ip (cTS ts)/\st2.tm 1=aI i/\st2.tm 6=lPm g.params/\st2.tm 7=aI k/\st2.tm 5=t/\st2.tm 9=aI j/\st2.tm 8=aB ((g.params.take j).any fun y=>eM g.params[k] y)/\st2.mu=U.mu) ?_ ?_
   .simp [go_sem, *]
   rintro j st2 hj ⟨f2,f1,f6,f7,f5,f9,f8,fm⟩;generalize hT:(g.params.take j).any (fun y=>eM g.params[k] y)=T at *
   by_cases a1:j<k
   .have a2:j<g.params.length:=by omega
    have wj:=zWk j;have o:=Wb (fun y=>eM g.params[k] y) g.params j a2;rw[hT]at o;simp[go_sem,f7,f9,a1];refine tV zKr ?_;cases T with
    |true =>
     simp_all[go_sem,Bool.true_or,aM]
    |false =>
     rw[Bool.false_or]at o;by_cases hq:g.params[j].1=g.params[k].1
     .have l:(g.params.take (j+1)).any (fun y=>eM g.params[k] y)=true:=by rw[o];exact decide_eq_true hq.symm
      simp[go_sem,f6,f7,f9,f8,a1,a2,C,wj,hq];exact aM ⟨zS1 f2,zS1 f1,zS1 f6,zS1 f7,zS1 f5,zSi,by rw[l];simp[go_sem],zS1 fm⟩
     .have l:(g.params.take (j+1)).any (fun y=>eM g.params[k] y)=false:=by rw[o];exact decide_eq_false fun e=>hq e.symm
      simp[go_sem,f6,f7,f9,f8,a1,a2,C,wj,jS hq];exact aM ⟨zS1 f2,zS1 f1,zS1 f6,zS1 f7,zS1 f5,zSi,by rw[l];simp[go_sem],zS1 fm⟩
   .have a9:j=k:=by omega
    subst a9;rw[hT]at a0;cases T with
    |true =>
     simp[go_sem,f7,f5,f9,f8,fm];refine Qj (ys:=[(41,0)]) ho (by simp[qy]) zSo fun aa m' I ab=>?_
     simp[go_sem,f7,wi];exact⟨C,aM ⟨zS1 f2,zS1 f1,zS1 f6,zSi,by rw[a0,Jh,<-zE];simpa[go_sem,wJ] using I⟩⟩
    |false =>
     simp[go_sem,f7,f9,f8,fm,wi];exact⟨C,aM ⟨zS1 f2,zS1 f1,zS1 f6,zSi,by rw[a0,Jh];simpa[go_sem,wJ,f5,fm] using ho⟩⟩
  .have ad:k=g.params.length:=by omega
   subst ad;rw[zJ (by rw[Qf];exact qk _)]at ho a4;simp[go_sem,e6,e7];refine tV zKr ?_;simp[go_sem,e2,e1,e6,P,a8];refine t7 c1 wk ?_;by_cases J:D.1=0
   .have a3:rp D=[]:=if_pos J
    rw[a3];simp[go_sem,h5,J];exact rdDg (Ji ho _)
   .have a3:rp D=[D]:=if_neg J
    rw[a3];simp[go_sem,h5,J];refine Qj (ys:=[D]) (Ji ho _) (by simp[qy]) (by simp only[zf,List.length_singleton];omega) fun aa m' I ab=>?_
    simp[go_sem];rw[zE]at I;exact rdDg I
theorem J5(f:Nat->List Dg)(n):(qr (n+1)).flatMap f=(qr n).flatMap f++f n:=by
 rw[List.range_succ,List.flatMap_append];simp only[uX,List.flatMap_nil,zV]
theorem qp5(ts)(h:okTS ts)(wp:∀ p,p∈ts.sT->WfN p.body)(wf:∀ f,f∈ts.sP->WfN f.2)(dp:∀ p,p∈ts.sT->depN p.body<=24)(df:∀ f,f∈ts.sP->depN f.2<=24):qh qd 29 [eTS ts] (lDg (uf ts)):=by
 have ak:=h.np;have al:=h.nfa;have hD:(dups (repL eS ts.sS)++dups (repL eF ts.sA)).length<=10:=by
  have a1:=Y16.Qh (repL eS ts.sS);have a2:=Y16.Qh (repL eF ts.sA);rw[Qf]at a1 a2;have:=h.ns;have:=h.nf;rw[zf];omega
 have hC:uf ts=(dups (repL eS ts.sS)++dups (repL eF ts.sA))++((qr ts.sT.length).flatMap (ue ts)++(qr ts.sP.length).flatMap (Qg ts ts.sP)):=by
  unfold uf;rw[zE]
 rw[hC];have a9:=qp2 ts h [];generalize dups (repL eS ts.sS)++dups (repL eF ts.sA)=D0 at *
 refine qSU call29 func29 rfl ?_;refine aA a9 (fun r m hr=>?_) (fun r m hr=>?_)
 case refine_2 =>
  grind
 obtain⟨an,e,ao,_⟩:=hr;cases e;simp[go_sem];refine aP ts.sT.length (fun i U=>U.tm 1 = .ip (cTS ts)/\U.tm 4=aI i/\OwnF 0 U.mu 2 (U.tm 3) ((D0++(qr i).flatMap (ue ts)).map cDg)) ?_ ?_
 .simp_all [go_sem]
 rintro i U hi ⟨e1,e4,R⟩;have aj:=Y16.X5 (ue ts) (Y16.qaD h) i;generalize h3:U.tm 3=t at *
 by_cases g:i<ts.sT.length
 .have l:=J5 (ue ts) i
  have aq:=Y16.qaD h i;have aa:=qp4 ts h wp i g (dp _ (qv g));have wi:=zWk i;generalize ue ts i=PD at *
  simp[go_sem,e1,e4,h3,g];refine fW aa (.zk (zA ts) (.zs .nil)) ?_;refine Qj (ys:=PD) R (by simp[qy]) (by simp only[zf];omega) fun ab m' a3 ad=>?_
  simp_all[go_sem,aM,zE]
 .have a4:i=ts.sT.length:=by omega
  subst a4;simp[go_sem,e1,e4];generalize (qr ts.sT.length).flatMap (ue ts)=P0 at *
  refine aP ts.sP.length (fun i U=>U.tm 1 = .ip (cTS ts)/\U.tm 5=aI i/\OwnF 0 U.mu 2 (U.tm 3) (((D0++P0)++(qr i).flatMap (Qg ts ts.sP)).map cDg)) ?_ ?_
  .exact ⟨zS1 e1,zSi,by simpa[go_sem,h3] using R⟩
  clear R e1 e4 h3 g hi U;rintro i U hi ⟨e1,e4,R⟩;have ae:=Y16.X5 (Qg ts ts.sP) (Y16.qlO ts ts.sP) i;generalize h3:U.tm 3=af at *
  by_cases g:i<ts.sP.length
  .have l:=J5 (Qg ts ts.sP) i
   have ag:Qg ts ts.sP i=dups [(ts.sP.take i).any (fun y=>eA ts.sP[i] y)]++rp (jd ts [] ts.sP[i].2):=by
    unfold Qg;rw[qw g];simp only;rw[qbV,qw g]
   rw[ag]at l;have cf:=qd0 ts h wp [] ⟨zSp,zSp⟩ zSp ts.sP[i].2 (wf _ (qv g)) (df _ (qv g));have wi:=zWk i;generalize jd ts [] ts.sP[i].2=D at *
   simp[go_sem,e1,e4,g];refine aP i (fun k st2=>st2.tm 1 = .ip (cTS ts)/\st2.tm 5=aI i/\st2.tm 3=af/\st2.tm 7=aI k/\st2.tm 6=aB ((ts.sP.take k).any fun y=>eA ts.sP[i] y)/\st2.mu=U.mu) ?_ ?_
   .exact ⟨zS1 e1,zS1 e4,zS1 h3,zSi,zSi,zSi⟩
   rintro k st2 hk ⟨f1,f4,f3,f6,f5,fm⟩;generalize hT:(ts.sP.take k).any (fun y=>eA ts.sP[i] y)=T at *
   by_cases a0:k<i
   .have a5:k<ts.sP.length:=by omega
    have wk:=zWk k;have o:=Wb (fun y=>eA ts.sP[i] y) ts.sP k a5;rw[hT]at o;simp[go_sem,f4,f6,a0];refine tV zKr ?_;cases T with
    |true =>
     rw[Bool.true_or]at o;simp[go_sem,f6,f5,a0,wk];exact aM ⟨zS1 f1,zS1 f4,zS1 f3,zSi,by rw[o];simp[go_sem],zS1 fm⟩
    |false =>
     rw[Bool.false_or]at o;by_cases hq:ts.sP[k].1=ts.sP[i].1
     .have I:(ts.sP.take (k+1)).any (fun y=>eA ts.sP[i] y)=true:=by rw[o];exact decide_eq_true hq.symm
      simp[go_sem,f1,f4,f6,f5,a0,a5,g,wk,hq];exact aM ⟨zS1 f1,zS1 f4,zS1 f3,zSi,by rw[I];simp[go_sem],zS1 fm⟩
     .have I:(ts.sP.take (k+1)).any (fun y=>eA ts.sP[i] y)=false:=by rw[o];exact decide_eq_false fun e=>hq e.symm
      simp[go_sem,f1,f4,f6,f5,a0,a5,g,wk,jS hq];exact aM ⟨zS1 f1,zS1 f4,zS1 f3,zSi,by rw[I];simp[go_sem],zS1 fm⟩
   .have ah:k=i:=by omega
    subst ah;rw[hT]at l;have a6:WKs [eTS ts,.lst true [],eNd ts.sP[k].2] [eTS ts,lPm [],eNd ts.sP[k].2] := .zk (zA ts) (.cons (WK.lst fun r hr=>absurd hr qN) (.zk (qC _) .nil));have ar:=nD;cases T with
    |true =>
     simp[go_sem,f4,f3,f6,f5,fm];refine Qj (ys:=[(41,0)]) R (by simp[qy]) (by simp only[zf,List.length_singleton];omega) fun ab m' a3 ad=>?_
     simp[go_sem];refine tV zKr ?_;simp[go_sem,f1,f4,g];refine t7 cf a6 ?_;by_cases C:D.1=0
     .have J:rp D=[]:=if_pos C
      rw[J,zV]at l;simp[go_sem,f4,wi,C];exact⟨g,aM ⟨zS1 f1,zSi,by rw[l,<-zE];simpa[go_sem,wJ] using Ji a3 (.arr [aI 0,aI D.2])⟩⟩
     .have J:rp D=[D]:=if_neg C
      rw[J]at l;simp[go_sem,C];refine Qj (ys:=[D]) (Ji a3 _) (by simp[qy]) (by simp only[zf,List.length_singleton];omega) fun a7 ai P a8=>?_
      simp[go_sem,f4,wi];exact⟨g,aM ⟨zS1 f1,zSi,by rw[l,<-zE];simpa[go_sem,wJ,zE] using P⟩⟩
    |false =>
     simp[go_sem,f4,f6,f5,fm];refine tV zKr ?_;simp[go_sem,f1,f4,g];refine t7 cf a6 ?_;by_cases C:D.1=0
     .have J:rp D=[]:=if_pos C
      rw[J,zV]at l;simp[go_sem,f4,wi,C];exact⟨g,aM ⟨zS1 f1,zSi,by rw[l,<-zE];simpa[go_sem,wJ,f3] using Ji R (.arr [aI 0,aI D.2])⟩⟩
     .have J:rp D=[D]:=if_neg C
      rw[J]at l;simp[go_sem,f3,C];refine Qj (ys:=[D]) (Ji R _) (by simp[qy]) (by simp only[zf,List.length_singleton];omega) fun a7 ai P a8=>?_
      simp[go_sem,f4,wi];exact⟨g,aM ⟨zS1 f1,zSi,by rw[l,<-zE];simpa[go_sem,wJ,zE] using P⟩⟩
  .have a4:i=ts.sP.length:=by omega
   subst a4;simp[go_sem,e1,e4,h3];rw[zE]at R;exact rdDg R
end QU
namespace QP
end QP
namespace QV
end QV
namespace QW
open YS YF Y9 Y10 Y1 Y2 YZ YA P1 P2
section
variable {l:List dA}
abbrev rNm(b:dA):List AV:=[aS b]
abbrev lNm(l:List dA):AV := .lst false (l.map rNm)
def namL(n:Nd):List dA:=((preN n).filter fun x=>decide (x.name≠⟨#[]⟩)).map Nd.name
def vu(l:List Nd):List dA:=((zq l).filter fun x=>decide (x.name≠⟨#[]⟩)).map Nd.name
theorem qp6(n):namL n=(if n.name=⟨#[]⟩ then [] else [n.name])++vu n.sD:=by
 unfold namL vu;rw[Zn,List.filter_cons];by_cases h:n.name=⟨#[]⟩
 .simp [h]
 .simp [h]
theorem YR:∀ a b,zq (a++b)=zq a++zq b
 | [],b=>rfl
 |x :: a,b=>by rw[List.cons_append];simp only[zq];rw[YR a b,zE]
theorem qp7(a k):vu (a++[k])=vu a++namL k:=by
 grind [vu,namL,YR,zq]
theorem qp8(l):(vu l).length<=(zq l).length:=by
 grind [vu,zX,List.length_filter_le]
theorem Wc(n):(namL n).length<=(preN n).length:=by
 grind [namL,zX,List.length_filter_le]
theorem kH(l:List dA):qS 1 (l.map rNm):=fun r g=>by
 obtain⟨x,_,rfl⟩:=qn.1 g;exact⟨rfl,rfl⟩
theorem qd1(l):HF (lNm l):=HF.lst fun r g c i=>by
 obtain⟨x,_,rfl⟩:=qn.1 g
 grind [qQ,HF.sc]
theorem rdNm{lo mu av}(h:OwnF lo mu 1 av (l.map rNm)):Rd mu av (lNm l):=
 h.1.rd (kH l).ok fun r g c i=>by
  obtain⟨x,_,rfl⟩:=qn.1 g
  grind [qQ,HF.sc]
theorem appNm{mu lo s x}{xs ys:List dA}{K}(g:OwnF lo mu 1 s (xs.map rNm))(j:qy mu x=some (ys.map rNm))(l:xs.length+ys.length<=1000000)(o:∀ av mu',OwnF lo mu' 1 av ((xs++ys).map rNm)->(∀ i,i<lo->mu'[i]?=mu[i]?)->K av mu') :
  qu qd mu #[214,214] s x K:=by
 refine qu.ownF (lo:=lo) (e:=9) (sz:=1) (bt:=16) (zv:=aS ⟨#[]⟩) (xs:=xs.map rNm) (ys:=ys.map rNm) zSi zSi zSi rfl rfl zOm zOm g j (kH xs) (kH ys) zSo ?_
 grind
theorem qp9(l k):(zq (l.take k)).length<=(zq l).length:=by
 grind [zq,YR,List.take_append_drop,zf]
theorem kI:∀ m n,szN n<=m->Small n->∀ lo mu av xs,OwnF lo mu 1 av (xs.map rNm)->xs.length+(preN n).length<=500000 ->
  qz qd 217 [av,eNd n] mu fun e C=>∃ g,e = .ret g/\OwnF lo C 1 g ((xs++namL n).map rNm)/\∀ i,i<lo->C[i]?=mu[i]?
 | 0,n,J,_=>by obtain⟨op,nm,i,ks,p⟩:=n;simp[szN]at J
 |m+1,n,J,hs=>by
  intro lo mu av xs I hl;have ih:∀ k,k∈n.sD->∀(lo:Nat)(mu:Mu)(av:AV)(xs:List dA),OwnF lo mu 1 av (xs.map rNm)->xs.length+(preN k).length<=500000->qz qd 217 [av,eNd k] mu fun e C=>∃ g,e = .ret g/\OwnF lo C 1 g ((xs++namL k).map rNm)/\∀ i,i<lo->C[i]?=mu[i]?:=fun k R =>
   kI m k (zW1 (qZ R)) (hs.kid R)
  have a3:=hs.len;have o:=qp6 n;have a4:(preN n).length=1+(zq n.sD).length:=by rw[Zn,yp];omega
  refine qSW call217 func217 rfl {} ?_;by_cases P:n.name=⟨#[]⟩
  case' pos =>
   rw[if_pos P,jp]at o;simp[go_sem,P];refine aP n.sD.length (fun k U=>U.tm 3 = .ip (cNd n)/\U.tm 5=aI k/\OwnF lo U.mu 1 (U.tm 0) ((xs++vu (n.sD.take k)).map rNm)/\∀ i,i<lo->U.mu[i]?=mu[i]?) ?_ ?_
   .simp_all [go_sem,vu,zq]
   generalize hX:xs=X at *
   have T:X.length+(zq n.sD).length<=500000:=zOm;have l:X++vu n.sD=X++namL n:=by rw[o]
  case' neg =>
   rw[if_neg P]at o;have a0:n.name.toList.isEmpty=false:=by simpa using jS P
   simp[go_sem,a0];refine appNm (ys:=[n.name]) I (by simp[qy]) (by grind) fun g C a5 a6=>?_
   simp[go_sem];refine aP n.sD.length (fun k U=>U.tm 3 = .ip (cNd n)/\U.tm 5=aI k/\OwnF lo U.mu 1 (U.tm 0) (((xs++[n.name])++vu (n.sD.take k)).map rNm)/\∀ i,i<lo->U.mu[i]?=mu[i]?) ?_ ?_
   .simp_all [go_sem,vu,zq]
   generalize hX:xs++[n.name]=X at *
   have T:X.length+(zq n.sD).length<=500000:=by grind
   have l:X++vu n.sD=xs++namL n:=by grind
  all_goals
   rintro k U R ⟨e3,e5,I,J⟩;generalize h0:U.tm 0=a1 at *
   by_cases t:k<n.sD.length
   .have w1:=zWk k
    have a7:vu (n.sD.take (k+1))=vu (n.sD.take k)++namL n.sD[k]:=by rw[uV t,qp7]
    have a8:(zq (n.sD.take (k+1))).length=(zq (n.sD.take k)).length+(preN n.sD[k]).length:=by grind [uV,YR,zq]
    have h1:=qp9 n.sD (k+1);have h2:=qp8 (n.sD.take k);simp[go_sem,e3,e5,h0,t,qW];refine aA (ih n.sD[k] (qv t) lo U.mu a1 _ I (by rw[zf];omega)) (fun r m2 hr=>?_) (fun r m2 hr=>?_)
    .simp_all [go_sem,aM,zE,qK,trans]
    grind
   .have a2:k=n.sD.length:=by omega
    subst a2;rw[q8,l]at I;simp[go_sem,e3,e5,h0];exact⟨zUs I,J⟩
def takL(ts:TS)(n:Nd):List dA:=namL n++ts.sT.flatMap fun p=>namL p.body
theorem qqA(ts)(h:okTS ts)(wp:∀ p,p∈ts.sT->WfN p.body)(n)(hw:WfN n)(hl:(preN n).length<=400)(hp:∀ p,p∈ts.sT->(preN p.body).length<=400):qh qd 157 [eTS ts,eNd n] (lNm (takL ts n)):=by
 have a3:=h.np;have hk:∀ i (o:i<ts.sT.length),ts.sT.take (i+1)=ts.sT.take i++[ts.sT[i]]:=fun i o=>uV o
 have I:∀ i,((ts.sT.take i).flatMap fun p=>namL p.body).length<=400*i:=by
  intro i;induction i with
  |zero=>simp
  |succ i ih =>
   by_cases o:i<ts.sT.length
   .rw [hk i o,List.flatMap_append,zf]
    have h1:=Wc ts.sT[i].body;have h2:=hp _ (qv o);simp only[uX,List.flatMap_nil,zV];omega
   .have e1:ts.sT.take (i+1)=ts.sT:=zJ zOm
    have l:ts.sT.take i=ts.sT:=zJ zOm;rw[e1];rw[l]at ih;omega
 have hn:=Wc n;refine qSU call157 func157 rfl ?_;refine aA (kI (szN n) n (qk _) hw.small 0 [] (.lst true []) [] (OwnF.nil zSp) zSo) (fun r J j=>?_) (fun r J j=>?_)
 case refine_2 =>
  obtain⟨t,e,_⟩:=j;cases e
 obtain⟨a4,e,C,_⟩:=j;cases e;rw[jp]at C;simp[go_sem];refine aP ts.sT.length (fun k U=>U.tm 2 = .ip (cTS ts)/\U.tm 6=aI k/\OwnF 0 U.mu 1 (U.tm 5) ((namL n++(ts.sT.take k).flatMap fun p=>namL p.body).map rNm)) ?_ ?_
 .exact ⟨zSi,zSi,zVs C⟩
 rintro k U a5 ⟨l,P,R⟩;generalize h5:U.tm 5=T at *
 by_cases g:k<ts.sT.length
 .have w1:=zWk k
  have a0:(ts.sT.take (k+1)).flatMap (fun p=>namL p.body)=(ts.sT.take k).flatMap (fun p=>namL p.body)++namL ts.sT[k].body:=by
   rw[hk k g,List.flatMap_append];simp only[uX,List.flatMap_nil,zV]
  have h1:=I k;have h2:=hp _ (qv g);simp[go_sem,l,P,h5,g,Yn];refine aA (kI (szN ts.sT[k].body) ts.sT[k].body (qk _) (wp _ (qv g)).small 0 U.mu T _ R (by rw[zf];omega)) (fun r J j=>?_) (fun r J j=>?_)
  .obtain ⟨t,e,a1,_⟩:=j
   cases e;simp[go_sem,l,P,w1];exact⟨g,aM ⟨zS1 l,zSi,by rw[a0,<-zE];simpa[go_sem] using a1⟩⟩
  .obtain ⟨t,e,_⟩:=j
   cases e
 .have a2:k=ts.sT.length:=by omega
  subst a2;rw[q8]at R;simp[go_sem,l,P,h5];exact rdNm R
def inL(nm:dA)(l:List dA):Bool:=l.any fun x=>decide (x=nm)
theorem kJ{nm}:inL nm l=true↔nm∈l:=by
 unfold inL;simp
theorem qd2{nm}(h:¬nm∈l):inL nm l=false:=by
 grind [inL,absurd,kJ]
theorem hasU(l nm)(R:l.length<=1000000):qh qd 263 [lNm l,aS nm] (aB (inL nm l)):=by
 refine qSU call263 func263 rfl ?_;refine aP l.length (fun k U=>U.tm 0=lNm l/\U.tm 1=aS nm/\U.tm 5=aI k/\∀ x,x∈l.take k->x≠nm) ?_ ?_
 .simp [go_sem, *]
 rintro k U T ⟨i,j,t,C⟩;by_cases g:k<l.length
 .have P:=zWk k
  by_cases o:l[k]=nm
  .have I:inL nm l=true:=kJ.2 (o ▸ qv g)
   rw[I];simp[go_sem,i,j,t,g,o];exact .zsc _
  .simp [go_sem,i,j,t,g,jS o,P]
   refine aM ⟨zS1 i,zS1 j,zSi,fun x p=>?_⟩;rw[uV g,qJ,qQ]at p;rcases p with p|rfl
   .exact C x p
   .exact o
 .have J:k=l.length:=by omega
  subst J;rw[q8]at C;have I:inL nm l=false:=qd2 fun h=>C nm h rfl
  rw[I];simp[go_sem,i,j,t];exact .zsc _
theorem qqB(u:Nat)(h:u<10):ByteArray.empty.push (UInt8.ofNat ((48:Int)+(u:Int)).toNat)=vg u:=by
 unfold vg;rw[Lib.itoa_nonneg,Lib.decDigits_one h,show ((48:Int)+(u:Int)).toNat=48+u by omega];rfl
theorem qqC(u)(h:¬u<10):vg ((u / 10:Nat):Int)++ByteArray.empty.push (UInt8.ofNat ((48:Int)+((u % 10:Nat):Int)).toNat)=vg u:=by
 unfold vg;rw[Lib.itoa_nonneg,Lib.itoa_nonneg,Lib.decDigits.eq_1 u,dif_neg h,show ((48:Int)+((u % 10:Nat):Int)).toNat=48+u % 10 by omega];apply ByteArray.ext;simp
theorem digU:∀(m u:Nat),u<=m->u<=1000000000->qh qd 262 [aI u] (aS (vg u))
 |m,u,C,I=>by
  have o:qm.wrap (48+(u:Int))=48+(u:Int):=zWr;refine qSV call262 func262 rfl ?_;by_cases h:u<10
  .have i:(u:Int)<10:=by omega
   have w2:IntKind.u8.wrap (48+(u:Int))=48+(u:Int):=IntWalk.u8_in _ ⟨zOm,zOm⟩;have g:=qqB u h;simp[go_sem,i,o,w2,g];exact .zsc _
  .have i:¬(u:Int)<10:=by omega
   have p:=digU (u / 10) (u / 10) (qk _) zOm;have g:=qqC u h;simp[go_sem,i];refine tV zKr ?_;have t:qm.wrap ((u:Int) / 10)=((u / 10:Nat):Int):=by rw[show ((u:Int) / 10)=((u / 10:Nat):Int) from rfl];grind [yn]
   have t3:(u:Int).tmod 10=((u % 10:Nat):Int):=rfl;have w4:qm.wrap (48+((u % 10:Nat):Int))=48+((u % 10:Nat):Int):=zWr;have w5:IntKind.u8.wrap (48+((u % 10:Nat):Int))=48+((u % 10:Nat):Int):=IntWalk.u8_in _ ⟨zOm,zOm⟩;have j:=qbP ((u / 10:Nat):Int) zOm zOm;simp[go_sem,t];refine t7 p (.zs .nil) ?_;have c1:((u / 10:Nat):Int)=(u:Int) / 10:=rfl;have c2:((u % 10:Nat):Int)=(u:Int) % 10:=rfl;rw[c1]at j g;rw[c2]at w4 w5 g;have l:(vg ((u:Int) / 10)).size<=9223372036854775806:=zOm;simp[go_sem,t3,w4,w5,l,g];exact .zsc _
end
end QW
namespace QX
open YS YF Y9 Y1 Y2 YX YZ YA YB P1 QD QK QW
abbrev cWk(ts:TS)(l:List dA)(s:ISt):List AV:=cTS ts++[lNm l,aI s.last,aI s.sM]
abbrev eWk(ts:TS)(l:List dA)(s:ISt):AV := .agg (cWk ts l s)
theorem qqD(ts l s):∀ c,c∈cWk ts l s->HF c:=fun c g=>by
 rcases qJ.1 g with g|g
 .exact JT ts c g
 .simp only[qx,qN,or_false]at g
  rcases g with rfl|rfl|rfl
  .exact qd1 l
  .exact HF.sc _
  .exact HF.sc _
theorem wK(ts l s):HF (eWk ts l s):=HF.agg (qqD ts l s)
structure Tn (l:List dA) (es:List (dA×Bool)):Prop where
 mem:∀ nm:dA,nm≠⟨#[]⟩->(nm∈l↔getK nm es=some true)
 len:es.length<=l.length+1
theorem vN_ne(k):vN k≠⟨#[]⟩:=fun e=>by
 have:=congrArg ByteArray.size e;unfold vN at this;rw[ByteArray.size_append]at this;have g:(⟨#[118]⟩:dA).size=1:=rfl;have i:(⟨#[]⟩:dA).size=0:=rfl;omega
theorem qqE{ts l es}(t:Tn l es)(k):ug ts es (vN k)=(decide ((zM ts (vN k)).length=0)&&!inL (vN k) l):=by
 unfold ug;have i:=t.mem (vN k) (vN_ne k);have g:decide (zM ts (vN k)=[])=decide ((zM ts (vN k)).length=0):=by
  simp[List.length_eq_zero_iff]
 rw[g,Bool.and_comm];congr 1;by_cases j:vN k∈l
 .grind [kJ]
 simp_all[qd2,Bool.not_false,decide_eq_true_eq]
theorem two{C:Type}{l}{a b:C}(g:l[0]?=some a)(i:l[1]?=some b):∃ r,l=a :: b :: r:=by
 match l,g,i with
 |_ :: _ :: r,g,i =>
  grind
abbrev zWc:List AV:=[.lst true [],.lst true [],.lst true [],.lst true [],.lst true [],aI 0,aI 0]
theorem qqF(ts)(h:okTS ts)(l es)(t:Tn l es)(hl:l.length<=400000)(s:ISt)(hs:0<=s.last/\s.last+(qE ts es:Nat)<=1000000000)(a5:∃ j,1<=j/\j<=qE ts es/\ug ts es (vN (s.last+j))=true) :
  qh qd 216 [eWk ts l s] (.tup [eWk ts l ⟨yv ts es (qE ts es) s.last,s.sM⟩,aS (vN (yv ts es (qE ts es) s.last))]):=by
 have a9:=h.ns;have aa:=h.nf;have hF:qE ts es<=l.length+40:=by have:=t.len;unfold qE;omega
 have a6:okNm ts:=⟨h.sl,zOm,zOm,fun f hf=>zW1 (h.fl f hf)⟩;generalize ab:qE ts es=F at *
 generalize hR:yv ts es F s.last=R;refine qSQ call216 func216 rfl { mt:=[1] } ?_;simp[go_sem];refine t8 (fun m U=>∃(i:Nat) (k:Int),i+m=F/\0<=k/\k+m<=1000000000/\U.tm 1 = .ptr 0 0/\U.tm 2 = .ptr 1 0/\U.tm 4=aI i/\U.mu[0]?=some (.arr (cWk ts l ⟨k,s.sM⟩))/\U.mu[1]?=some (.arr zWc)/\yv ts es m k=R/\∃ j:Nat,1<=j/\j<=m/\ug ts es (vN (k+j))=true) F ?_ ?_
 .exact ⟨0,s.last,zOm,hs.1,zOm,zSi,zSi,zSi,zSi,zSi,hR,a5⟩
 rintro m U ⟨i,k,ad,ae,af,J,P,e4,m0,m1,hI,j,ag,ah,ai⟩;obtain⟨m,rfl⟩:∃ m',m=m'+1:=⟨m-1,zOm⟩;obtain⟨rr,o⟩:=two m0 m1;have w1:qm.wrap (k+1)=k+1:=zWr;have w2:qm.wrap ((l.length:Int)+40)=(l.length:Int)+40:=zWr;have w3:=zWk i;have g:(i:Int)<=(l.length:Int)+40:=zOm;obtain⟨u,hu⟩:∃ u:Nat,k+1=(u:Int):=⟨(k+1).toNat,zOm⟩;have cd:=digU u u (qk _) zOm;have aj:=qbP (u:Int) zOm zOm;have a3:1+(vg (u:Int)).size<=9223372036854775807:=zOm;have hv:(⟨#[118]⟩:dA)++vg (u:Int)=vN (k+1):=by rw[hu];rfl
 have p:=qqE (ts:=ts) t (k+1);have cn:=kh ts a6 (vN (k+1));have a0:=kg ts (vN (k+1));have hk:(named ts (vN (k+1))).2=(zM ts (vN (k+1))).length:=by rw[kC h]
 rw[hk]at cn;generalize (named ts (vN (k+1))).1=C at *
 have ch:=hasU l (vN (k+1)) zOm;clear m0 m1;simp[go_sem,J,P,e4,o,w1,w2,g];refine t7 cd (.cons (by rw[hu];exact .hf (HF.sc _)) .nil) ?_;simp[go_sem,J,P,e4,o,w1,w2,g,a3,hv];refine t7 cn (.zk (zA ts) (.zs .nil)) ?_;simp[go_sem,J,P,e4,o,w1,w2,g,a0.len];rw[if_pos a0.one];generalize putCells _ 0 C=PC;have next:ug ts es (vN (k+1))=false->∃ k':Int,k'=k+1/\yv ts es m k'=R/\∃ j:Nat,1<=j/\j<=m/\ug ts es (vN (k'+j))=true:=fun hn=>by
  refine⟨k+1,rfl,?_,j-1,?_,zOm,?_⟩
  .simp_all [yv,if_neg]
  .have:j≠1:=fun e=>by grind
   omega
  grind
 by_cases T:zM ts (vN (k+1))=[]
 .rw [T]at p
  simp[go_sem,J,P,e4,o,w1,w2,g,T];refine t7 ch (.zk (qd1 l) (.zs .nil)) ?_;cases a4:inL (vN (k+1)) l with
  |true =>
   rw[a4]at p;obtain⟨k',I,a1,a2⟩:=next p;simp[go_sem,J,P,e4,o,w1,w2,w3,g];exact⟨m,zOm,aM ⟨i+1,k+1,zOm,zOm,zOm,zS1 J,zS1 P,zSi,zSi,zSi,by rw[<-I];exact a1,by rw[<-I];exact a2⟩⟩
  |false =>
   rw[a4]at p;have a7:R=k+1:=by rw[<-hI];simp only[yv];rw[if_pos (by rw[p];rfl)]
   simp[go_sem,J,P,e4,o,w1,w2,g];rw[a7];exact .hf _ (HF.tup fun x hx=>by
    simp only[qx,qN,or_false]at hx;rcases hx with rfl|rfl
    .exact wK ts l ⟨k+1,s.sM⟩
    .exact HF.sc _)
 .have a8:¬(zM ts (vN (k+1))).length=0:=fun e=>T (List.length_eq_zero_iff.1 e)
  rw[decide_eq_false a8]at p;obtain⟨k',I,a1,a2⟩:=next p;simp[go_sem,J,P,e4,o,w1,w2,w3,g,T];exact⟨m,zOm,aM ⟨i+1,k+1,zOm,zOm,zOm,zS1 J,zS1 P,zSi,zSi,zSi,by rw[<-I];exact a1,by rw[<-I];exact a2⟩⟩
abbrev Sb:=dA×IV
def cAr:Option Nd->List AV
 |some a=>cNd a
 |none=>[aI 0,aS ⟨#[]⟩,aI 0,.lst true [],aI 0]
@[go_sem] theorem cAr_some(a):cAr (some a)=cNd a:=rfl
@[go_sem] theorem cAr_none:cAr none=[aI 0,aS ⟨#[]⟩,aI 0,.lst true [],aI 0]:=rfl
@[go_sem] theorem qqG(o):(cAr o).length=5:=by cases o<;>simp[go_sem,jc]
theorem qqH(o):∀ c,c∈cAr o->HF c:=by
 cases o with
 |some a=>exact jE a
 |none =>
  intro c g;simp only[cAr,qx,qN,or_false]at g;rcases g with rfl|rfl|rfl|rfl|rfl
  .exact HF.sc _
  .exact HF.sc _
  .exact HF.sc _
  .exact HF.lst fun r i=>absurd i qN
  .exact HF.sc _
abbrev cSb(x:Sb):List AV:=[aS x.1,aS x.2.name,aB x.2.arg.isSome]++cAr x.2.arg++[aI x.2.size]
abbrev lSb(l:List Sb):AV := .lst false (l.map cSb)
def uU(nm:dA)(l:List Sb):Option IV:=l.foldl (fun r e=>if e.1=nm then some e.2 else r) none
theorem Wd(nm l e):uU nm (l++[e])=if e.1=nm then some e.2 else uU nm l:=by
 unfold uU;rw[List.foldl_append];rfl
theorem kK{mu}(ts l s n z):Rd mu (.tup [eWk ts l s,eNd n,aI z]) (.tup [eWk ts l s,eNd n,aI z]) := .hf _ (HF.tup fun x g=>by
 simp only[qx,qN,or_false]at g;rcases g with rfl|rfl|rfl
 .exact wK ts l s
 .exact qC n
 .exact HF.sc _)
def Qk(sc:List Sb)(n:Nd)(s:ISt):(Nd×Int)×ISt:=match uU n.name sc with
 |none=>((n,1),s)
 |some v=>match v.arg with
  |none=>((.mk n.op v.name n.n n.sD n.pos,1),s)
  |some a=>((a,v.size),payS v.size s)
theorem leafU(ts l sc)(hl:sc.length<=1000000)(n s)(hs:0<=s.sM/\s.sM<=1000000)(hz:∀ e,e∈sc->0<=e.2.size/\e.2.size<=1000000) :
  qh qd 213 [eWk ts l s,lSb sc,eNd n] (.tup [eWk ts l (Qk sc n s).2,eNd (Qk sc n s).1.1,aI (Qk sc n s).1.2]):=by
 unfold Qk;generalize hR:uU n.name sc=R;have wl:qm.wrap ((sc.length:Int)-1)=(sc.length:Int)-1:=zWr;refine qSQ call213 func213 rfl { mt:=[3,5] } ?_;simp[go_sem,wl,qW];refine t8 (fun m U=>m<=sc.length/\U.tm 1=lSb sc/\U.tm 3 = .ptr 0 0/\U.tm 5 = .ptr 1 0/\U.tm 6 = .ptr 2 0/\U.tm 7 = .ptr 3 0/\U.tm 9=aI ((m:Int)-1)/\U.mu=[.arr (cWk ts l s),.arr (cNd n),.arr zWc,.arr [aI 0,aS ⟨#[]⟩,aI 0,.lst true [],aI 0]]/\uU n.name (sc.take m)=R) sc.length ?_ ?_
 .simp [go_sem, *]
 rintro m U ⟨a2,j,o,p,t,e7,C,I,P⟩;cases m with
 |zero =>
  have a1:R=none:=by rw[<-P];rfl
  subst a1;simp[go_sem,j,o,p,t,e7,C,I,qW];refine fG [0,1,4,2,3] [(0,0,[]),(1,0,[]),(4,0,[]),(2,1,[1]),(3,1,[])] zKr zKr zSi ?_;simp[go_sem,j,o,p,t,e7,C,I,qW]
  grind [kK]
 |succ m =>
  have g:m<sc.length:=zOm;have a3:(0:Int)<=((m+1:Nat):Int)-1:=zOm;have T:((m+1:Nat):Int)-1=(m:Int):=zOm;rw[T]at C;rw[uV g,Wd]at P;have w1:qm.wrap ((m:Int)-1)=(m:Int)-1:=zWr;have a4:=hz _ (qv g);generalize i:sc[m]=e at *
  by_cases J:e.1=n.name
  .rw [if_pos J]at P
   subst P;have w2:qm.wrap (s.sM+e.2.size)=s.sM+e.2.size:=zWr;simp[go_sem,j,o,p,t,e7,C,I,qW,g];refine tV zKr ?_;simp[go_sem,j,o,p,t,e7,C,I,qW,g,i,J];cases ha:e.2.arg with
   |none =>
    simp[go_sem,j,o,p,t,e7,C,I,qW,g,i,J,ha];refine fG [0,1,4,2,3] [(0,0,[]),(1,0,[]),(4,0,[]),(2,1,[1]),(3,1,[])] zKr zKr zSi ?_;have a0:(cNd n).set 1 (AV.sc (.string e.2.name))=cNd (.mk n.op e.2.name n.n n.sD n.pos):=by rw[jc n,jc];rfl
    rw[a0];simp[go_sem,j,o,p,t,e7,C,I,qW]
    grind [kK]
   |some a =>
    simp[go_sem,j,o,p,t,e7,C,I,qW,g,i,J,ha];refine fG [0,1,2,3,4,5,6,7,8,9] [(0,0,[]),(1,0,[]),(2,0,[]),(3,0,[]),(4,0,[]),(5,0,[]),(6,0,[]),(7,0,[]),(8,0,[]),(9,1,[])] zKr zKr zSi ?_;simp[go_sem,j,o,p,t,e7,C,I,qW,g,i,J,ha,w2];refine fG [0,1,2,3,4,5,6,7,8,9,10,13,11,12] [(0,0,[]),(1,0,[]),(2,0,[]),(3,0,[]),(4,0,[]),(5,0,[]),(6,0,[]),(7,0,[]),(8,0,[]),(9,0,[]),(10,0,[]),(13,0,[]),(11,1,[5,10]),(12,1,[10])] zKr zKr zSi ?_;simp[go_sem,j,o,p,t,e7,C,I,qW,g,i,J,ha,w2]
    grind [kK,payS]
  .rw [if_neg J]at P
   simp[go_sem,j,o,p,t,e7,C,I,qW,g];refine tV zKr ?_;simp[go_sem,j,o,p,t,e7,C,I,qW,g,i,jS J,w1];exact⟨m,zOm,aM ⟨zOm,zS1 j,zS1 o,zS1 p,zS1 t,by simp[go_sem,e7],zSi,zS1 I,P⟩⟩
theorem kL:∀ m n,szN n<=m->Small n->depN n<=1000000->qh qd 158 [eNd n] (aI (depN n))
 | 0,n,P,_,_=>by obtain⟨op,nm,i,ks,p⟩:=n;simp[szN]at P
 |m+1,n,P,R,T=>by
  have ih:∀ k,k∈n.sD->qh qd 158 [eNd k] (aI (depN k)):=fun k j =>
   kL m k (zW1 (qZ j)) (R.kid j) (by rw[Zm]at T;have:=qbN j;omega)
  rw[Zm]at T⊢;have a0:=R.len;have a1:=UO n.sD;generalize hD:yu n.sD=D at *
  refine qSU call158 func158 rfl ?_;refine aP n.sD.length (fun k U=>∃ d,U.tm 3=aI d/\U.tm 1 = .ip (cNd n)/\U.tm 4=aI k/\0<=d/\max d (yu (n.sD.drop k))=D) ?_ ?_
  .exact ⟨0,zSi,zSi,zSi,zOm,by grind⟩
  .rintro k U j ⟨d,t,l,C,a2,o⟩
   by_cases I:k=n.sD.length
   .subst I
    rw[zY]at o;simp only[yu]at o;have J:d=D:=zOm;subst J;have w:qm.wrap (d+1)=d+1:=zWr;simp[go_sem,t,l,C,w];exact .zsc _
   .have g:k<n.sD.length:=by omega
    have w1:=zWk k;rw[ze g]at o;simp only[yu]at o;simp[go_sem,t,l,C,g,qW];refine t7 (ih n.sD[k] (qv g)) (.zk (qC _) .nil) ?_;simp[go_sem,t,l,C,w1];refine⟨g,aM ?_⟩;refine⟨if d<depN n.sD[k] then depN n.sD[k] else d,zSi,zS1 l,zSi,?_,?_⟩
    .omega
    omega
end QX
namespace FE
open Y1 Y9
def yk(op a s:Int)(i:Nat)(k:Int):Int:=if op=48\/op=49\/op=51 then k*s else if i=1/\(op=45\/op=46\/op=15) then k*a else k
def minW(v:Int):Int:=if 1000000<v then 1000000 else v
mutual
def wkN(a s:Int):Nd->Int
 | .mk op _ _ ks _=>wkNs a s op 0 ks 1
def wkNs(a s op:Int):Nat->List Nd->Int->Int
 |_,[],sum=>sum
 |i,k :: ks,sum=>wkNs a s op (i+1) ks (minW (sum+yk op a s i (wkN a s k)))
end
theorem qqI(a s n):wkN a s n=wkNs a s n.op 0 n.sD 1:=by
 obtain⟨op,nm,i,ks,q⟩:=n;rw[wkN];rfl
theorem qd3{op a s i k}(j:0<=a/\a<=100)(l:0<=s/\s<=100)(g:0<=k/\k<=1000000):0<=yk op a s i k/\yk op a s i k<=100000000:=by
 unfold yk;have o:=Int.mul_nonneg g.1 j.1;have p:=Int.mul_nonneg g.1 l.1;have t:k*a<=1000000*100:=jq g.2 j.2 j.1 zOm;have C:k*s<=1000000*100:=jq g.2 l.2 l.1 zOm;split
 .omega
 omega
theorem qd4{v}(h:0<=v):0<=minW v/\minW v<=1000000:=by unfold minW;split<;>omega
mutual
theorem qd5(a s:Int)(g:0<=a/\a<=100)(i:0<=s/\s<=100):∀ n:Nd,0<=wkN a s n/\wkN a s n<=1000000
 | .mk op _ _ ks _=>by rw[wkN];exact qd6 a s g i op ks 0 1 zOm
theorem qd6(a s:Int)(g:0<=a/\a<=100)(j:0<=s/\s<=100)(op:Int):∀(ks:List Nd)(i:Nat)(sum:Int),0<=sum/\sum<=1000000->0<=wkNs a s op i ks sum/\wkNs a s op i ks sum<=1000000
 | [],_,sum,h=>by rw[wkNs];exact h
 |k :: ks,i,sum,h=>by
  rw[wkNs];have l:=qd5 a s g j k;have o:=qd3 (op:=op) (i:=i) g j l;exact qd6 a s g j op ks (i+1) _ (qd4 zOm)
end
theorem kM(a s)(ha:0<=a/\a<=100)(hs:0<=s/\s<=100):∀ m n,szN n<=m->Small n->qh qd 34 [eNd n,aI a,aI s] (aI (wkN a s n))
 | 0,n,hm,_=>by obtain⟨op,nm,i,ks,p⟩:=n;simp[szN]at hm
 |m+1,n,hm,a7=>by
  have ih:∀ k,k∈n.sD->qh qd 34 [eNd k,aI a,aI s] (aI (wkN a s k)):=fun k hk=>kM a s ha hs m k (zW1 (qZ hk)) (a7.kid hk)
  rw[qqI];have a9:=a7.len;generalize hR:wkNs a s n.op 0 n.sD 1=R;refine qSU call34 func34 rfl ?_;refine aP n.sD.length (fun k U=>∃ sum:Int,U.tm 1=aI a/\U.tm 2=aI s/\U.tm 3 = .ip (cNd n)/\U.tm 7=aI sum/\U.tm 8=aI k/\(0<=sum/\sum<=1000000)/\wkNs a s n.op k (n.sD.drop k) sum=R) ?_ ?_
  .simp [go_sem, *]
  .rintro k U hk ⟨sum,t,C,I,e7,e8,aa,o⟩
   by_cases a8:k=n.sD.length
   .subst a8
    rw[zY,wkNs]at o;subst o;simp[go_sem,t,C,I,e7,e8];exact .zsc _
   .have l:k<n.sD.length:=by omega
    rw[ze l,wkNs]at o;have w1:=zWk k;have a3:=qd5 a s ha hs n.sD[k];have ab:=qd3 (op:=n.op) (i:=k) ha hs a3;have j:=qd4 (v:=sum+yk n.op a s k (wkN a s n.sD[k])) zOm;have m1:=Int.mul_nonneg a3.1 ha.1;have m2:=Int.mul_nonneg a3.1 hs.1;have m3:wkN a s n.sD[k] * a<=1000000*100:=jq a3.2 ha.2 ha.1 zOm;have m4:wkN a s n.sD[k] * s<=1000000*100:=jq a3.2 hs.2 hs.1 zOm;simp[go_sem,t,C,I,e7,e8,l,qW];refine t7 (ih n.sD[k] (qv l)) (.zk (qC _) (.zs (.zs .nil))) ?_;generalize wkN a s n.sD[k]=K at *
    by_cases J:k=1
    .have g:(k:Int)=1:=by omega
     by_cases a0:n.op=48
     .have P:yk n.op a s k K=K*s:=by simp[yk,a0,J,g]
      rw[P]at o j;have w2:qm.wrap (K*s)=K*s:=zWr;have T:qm.wrap (sum+K*s)=sum+K*s:=zWr;simp[go_sem,t,C,I,e7,e8,w1,w2,T,l,a0,eq_true J,eq_true g];simp_all[go_sem,aM,minW]
     by_cases a1:n.op=49
     .have P:yk n.op a s k K=K*s:=by simp[yk,a1,J,g]
      rw[P]at o j;have w2:qm.wrap (K*s)=K*s:=zWr;have T:qm.wrap (sum+K*s)=sum+K*s:=zWr;simp[go_sem,t,C,I,e7,e8,w1,w2,T,l,a1,eq_true J,eq_true g];exact aM ⟨_,zS1 t,zS1 C,zS1 I,by simp[go_sem,minW],zSi,j,o⟩
     by_cases a2:n.op=51
     .have P:yk n.op a s k K=K*s:=by simp[yk,a2,J,g]
      rw[P]at o j;have w2:qm.wrap (K*s)=K*s:=zWr;have T:qm.wrap (sum+K*s)=sum+K*s:=zWr;simp[go_sem,t,C,I,e7,e8,w1,w2,T,l,a2,eq_true J,eq_true g];exact aM ⟨_,zS1 t,zS1 C,zS1 I,by simp[go_sem,minW],zSi,j,o⟩
     by_cases a4:n.op=45
     .have P:yk n.op a s k K=K*a:=by simp[yk,a4,J,g]
      rw[P]at o j;have w2:qm.wrap (K*a)=K*a:=zWr;have T:qm.wrap (sum+K*a)=sum+K*a:=zWr;simp[go_sem,t,C,I,e7,e8,w1,w2,T,l,a4,eq_true J,eq_true g];exact aM ⟨_,zS1 t,zS1 C,zS1 I,by simp[go_sem,minW],zSi,j,o⟩
     by_cases a5:n.op=46
     .have P:yk n.op a s k K=K*a:=by simp[yk,a5,J,g]
      rw[P]at o j;have w2:qm.wrap (K*a)=K*a:=zWr;have T:qm.wrap (sum+K*a)=sum+K*a:=zWr;simp[go_sem,t,C,I,e7,e8,w1,w2,T,l,a5,eq_true J,eq_true g];exact aM ⟨_,zS1 t,zS1 C,zS1 I,by simp[go_sem,minW],zSi,j,o⟩
     by_cases a6:n.op=15
     .have P:yk n.op a s k K=K*a:=by simp[yk,a6,J,g]
      rw[P]at o j;have w2:qm.wrap (K*a)=K*a:=zWr;have T:qm.wrap (sum+K*a)=sum+K*a:=zWr;simp[go_sem,t,C,I,e7,e8,w1,w2,T,l,a6,eq_true J,eq_true g];exact aM ⟨_,zS1 t,zS1 C,zS1 I,by simp[go_sem,minW],zSi,j,o⟩
     have P:yk n.op a s k K=K:=by simp[yk,a0,a1,a2,a4,a5,a6,J,g]
     rw[P]at o j;have w2:=w1;have T:qm.wrap (sum+K)=sum+K:=zWr;simp[go_sem,t,C,I,e7,e8,w1,w2,T,l,a0,a1,a2,a4,a5,a6,eq_true J,eq_true g];simp_all[go_sem,aM,minW]
    .have g:¬(k:Int)=1:=by omega
     by_cases a0:n.op=48
     .have P:yk n.op a s k K=K*s:=by simp[yk,a0,J,g]
      rw[P]at o j;have w2:qm.wrap (K*s)=K*s:=zWr;have T:qm.wrap (sum+K*s)=sum+K*s:=zWr;simp[go_sem,t,C,I,e7,e8,w1,w2,T,l,a0,J,g];exact aM ⟨_,zS1 t,zS1 C,zS1 I,by simp[go_sem,minW],zSi,j,o⟩
     by_cases a1:n.op=49
     .have P:yk n.op a s k K=K*s:=by simp[yk,a1,J,g]
      rw[P]at o j;have w2:qm.wrap (K*s)=K*s:=zWr;have T:qm.wrap (sum+K*s)=sum+K*s:=zWr;simp[go_sem,t,C,I,e7,e8,w1,w2,T,l,a1,J,g];exact aM ⟨_,zS1 t,zS1 C,zS1 I,by simp[go_sem,minW],zSi,j,o⟩
     by_cases a2:n.op=51
     .have P:yk n.op a s k K=K*s:=by simp[yk,a2,J,g]
      rw[P]at o j;have w2:qm.wrap (K*s)=K*s:=zWr;have T:qm.wrap (sum+K*s)=sum+K*s:=zWr;simp[go_sem,t,C,I,e7,e8,w1,w2,T,l,a2,J,g];exact aM ⟨_,zS1 t,zS1 C,zS1 I,by simp[go_sem,minW],zSi,j,o⟩
     have P:yk n.op a s k K=K:=by simp[yk,a0,a1,a2,J,g]
     rw[P]at o j;have w2:=w1;have T:qm.wrap (sum+K)=sum+K:=zWr;simp[go_sem,t,C,I,e7,e8,w1,w2,T,l,a0,a1,a2,J,g];exact aM ⟨_,zS1 t,zS1 C,zS1 I,by simp[go_sem,minW],zSi,j,o⟩
end FE
set_option maxHeartbeats 1000000
namespace OI
open Y1 Y9 E1 E4 GF Q4
def RlOk(r:Rl):Prop:=r.ts.length<=1000000/\zn r.ts
def BdOk(b:Bd):Prop:=RlOk b.lo/\RlOk b.up
def insB(a b:Bd):Bool:=decide (a.lo.ar=b.lo.ar)&&(inOk b.lo a.lo&&inOk a.up b.up)
theorem qqJ(a b)(i:BdOk a)(j:BdOk b):qh qd 26 [eBd a,eBd b] (aB (insB a b)):=by
 obtain⟨⟨t,l⟩,C,I⟩:=i;obtain⟨⟨J,P⟩,R,o⟩:=j;have c1:=in06 b.lo a.lo zOm zOm l;have c2:=in06 a.up b.up zOm zOm o;refine qSV call26 func26 rfl ?_;unfold insB;by_cases h:a.lo.ar=b.lo.ar
 .obtain ⟨⟨p,g⟩,T⟩:=a
  simp only at h c1 c2⊢;subst h;simp[go_sem];refine t7 c1 (.zk (qs _) (.zk (qs ⟨b.lo.ar,g⟩) .nil)) ?_;cases inOk b.lo ⟨b.lo.ar,g⟩ with
  |true =>
   simp[go_sem];refine fW c2 (.zk (qs _) (.zk (qs _) .nil)) ?_;exact .zsc _
  |false =>
   simp[go_sem];exact .zsc _
 .simp [go_sem,h]
  exact .zsc _
theorem qqK(a b)(hl:a.length<=1000000)(P:∀ x,x∈a->x.lo.ts.length<=1000000/\x.up.ts.length<=1000000):qh qd 25 [lBd a,lBd b] (aB (decide (a=b))):=by
 refine qSV call25 func25 rfl ?_;by_cases h:a.length=b.length
 .generalize I:decide (a=b)=R
  simp[go_sem,h];refine aP a.length (fun k U=>U.tm 0=lBd a/\U.tm 1=lBd b/\U.tm 5=aI k/\decide (a.drop k=b.drop k)=R) ?_ ?_
  .exact ⟨zSi,zSi,zSi,zUs I⟩
  rintro k U hk ⟨l,o,p,j⟩;by_cases i:k<a.length
  .have g:k<b.length:=by omega
   have T:=zWk k;have hA:=P _ (qv i);rw[ze i,ze g]at j;have c1:=mw a[k].lo b[k].lo zOm;have c2:=mw a[k].up b[k].up zOm;simp[go_sem,l,o,p,h,g];refine fG [0,1,2,3,4,5,6,7,8,9,10,11,12,13,14,15,16,17,18,19,20,21,22,23,24,25] [(0,0,[]),(1,0,[]),(2,0,[]),(3,0,[]),(4,0,[]),(5,0,[]),(6,0,[]),(7,0,[]),(8,0,[]),(9,0,[]),(10,1,[]),(11,0,[]),(12,0,[]),(13,0,[]),(14,0,[]),(15,0,[]),(16,0,[]),(17,0,[]),(18,0,[]),(19,0,[]),(20,0,[]),(21,0,[]),(22,0,[]),(23,1,[]),(24,0,[]),(25,0,[])] zKr zKr zSi ?_;simp[go_sem,l,o,p,i,g];refine t7 c1 (.zk (qs _) (.zk (qs _) .nil)) ?_;by_cases g1:a[k].lo=b[k].lo
   .simp [go_sem,l,o,p,i,g,g1]
    refine t7 c2 (.zk (qs _) (.zk (qs _) .nil)) ?_;by_cases t:a[k].up=b[k].up
    .have g3:a[k]=b[k]:=by
      generalize a[k]=x at *
      generalize b[k]=y at *
      cases x;cases y;simp only at g1 t;rw[g1,t]
     rw[g3]at j;simp[go_sem,l,o,p,T,t];refine⟨g,aM ?_⟩;exact⟨zS1 l,zS1 o,zSi,by rw[<-j];exact decide_eq_decide.2 ⟨fun e=>by rw[e],fun e=>(List.cons.inj e).2⟩⟩
    .have C:R=false:=by
      rw[<-j,decide_eq_false_iff_not];intro e;rw[uD]at e;exact t (by rw[e.1])
     subst C;simp[go_sem,t];exact .zsc _
   .have C:R=false:=by
     rw[<-j,decide_eq_false_iff_not];intro e;rw[uD]at e;exact g1 (by rw[e.1])
    simp[go_sem,l,o,p,i,g,g1];rw[C];exact .zsc _
  .have J:k=a.length:=by omega
   subst J;rw[zY,List.drop_of_length_le zOm]at j;simp at j;subst j;simp[go_sem,l,p,h];exact .zsc _
 .have C:decide (a=b)=false:=by
   rw[decide_eq_false_iff_not];intro e;exact h (by rw[e])
  rw[C];simp[go_sem,h];exact .zsc _
theorem qd7:∀ m n,szN n<=m->∀ left,-1000000<=left/\left<=1000000->qh qd 145 [eNd n,aI left] (aI (cntN n left))
 | 0,n,P,_,_=>by obtain⟨op,nm,i,ks,p⟩:=n;simp[szN]at P
 |m+1,n,P,left,hl=>by
  have ih:∀ k,k∈n.sD->∀ left:Int,-1000000<=left/\left<=1000000->qh qd 145 [eNd k,aI left] (aI (cntN k left)):=fun k T =>
   qd7 m k (zW1 (qZ T))
  rw[X9];generalize hR:yB n.sD left 1=R;refine qSU call145 func145 rfl ?_;refine aP n.sD.length (fun k U=>∃ sum:Int,U.tm 1=aI left/\U.tm 2 = .ip (cNd n)/\U.tm 5=aI sum/\U.tm 6=aI k/\(k:Int)+1<=sum/\(sum<=left+1\/sum=1)/\yB (n.sD.drop k) left sum=R) ?_ ?_
  .exact ⟨1,zSi,zSi,zSi,zSi,zOm,zOm,zUs hR⟩
  .rintro k U T ⟨sum,l,o,t,C,a0,a1,j⟩
   by_cases J:k=n.sD.length
   .subst J
    rw[zY]at j;simp only[yB]at j;subst j;simp[go_sem,l,o,t,C];exact .zsc _
   .have g:k<n.sD.length:=by omega
    rw[ze g]at j;simp only[yB]at j;by_cases I:sum<=left
    .rw [if_pos I]at j
     have w1:=zWk k;have w2:qm.wrap (left-sum)=left-sum:=zWr;have a2:=UJ n.sD[k] (left-sum);have w3:qm.wrap (sum+cntN n.sD[k] (left-sum))=sum+cntN n.sD[k] (left-sum):=zWr;simp[go_sem,l,o,t,C,g,I,w2,qW];refine t7 (ih n.sD[k] (qv g) (left-sum) ⟨zOm,zOm⟩) (.zk (qC _) (.zs .nil)) ?_;simp[go_sem,l,o,t,C,w1,w3];refine⟨g,aM ?_⟩;exact⟨sum+cntN n.sD[k] (left-sum),zS1 l,zS1 o,zSi,zSi,zOm,zOm,j⟩
    .rw [if_neg I]at j
     subst j;simp[go_sem,l,o,t,C,g,I];exact .zsc _
theorem qqL(n left)(g : -1000000<=left/\left<=1000000):qh qd 65 [eNd n,aI left] (aB (decide (cntN n left<=left))):=by
 refine qSU call65 func65 rfl ?_;refine fW (qd7 _ n (qk _) left g) (.zk (qC _) (.zs .nil)) ?_;exact .zsc _
end OI
namespace E6
end E6
namespace ED
end ED
namespace EG
end EG
namespace EH
end EH
namespace FJ
end FJ
namespace IA
end IA
namespace QY
open Y1 YX YA YB YC P1 P2 PA QE QX
section
variable {es:List (dA×Bool)}
structure ScOf (ts:TS) (body:Bool) (sc:List Sb) (env:IEnv):Prop where
 look:∀ nm,uU nm sc=getK nm env
 own:body=false->∀ nm v,getK nm env=some v->zM ts nm≠[]
 sz:∀ e,e∈sc->0<=e.2.size/\e.2.size<=4000
def OutR(r:XR (Nd×Int))(s':ISt)(n':Nd)(z:Int):Prop:=match r with
 | .ok ((m,y),t)=>n'=m/\z=y/\s'=t
 | .error _=>4000<s'.sM/\s'.sM<=9000/\0<=z/\z<=4000
def renR(ts:TS)(es:List (dA×Bool))(sc:List Sb)(nm:dA)(body:Bool)(s:ISt):(List Sb×dA)×ISt:=
 if body=true\/zM ts nm≠[] then
  ((sc++[(nm,⟨none,0,vN (yv ts es (qE ts es) s.last)⟩)],vN (yv ts es (qE ts es) s.last)),⟨yv ts es (qE ts es) s.last,s.sM⟩)
 else ((sc,nm),s)
abbrev XO:=ISt×Nd×Int
def uh(E:Nd->ISt->XO):List (dA×Int)->List Nd->List Sb->ISt->Except ISt (List Sb×ISt)
 |p :: g,k :: ks,own,s=>if 4000<(E k s).1.sM then .error (E k s).1 else uh E g ks (own++[(p.1,⟨some (E k s).2.1,(E k s).2.2,⟨#[]⟩⟩)]) (E k s).1
 |_,_,own,s => .ok (own,s)
def ux(E:List Sb->Nd->ISt->XO)(R:List Sb->dA->ISt->(List Sb×dA)×ISt)(bin:Bool):Nat->List Sb->dA->List Nd->ISt->Except ISt ((dA×List Nd×Int)×ISt)
 |_,_,nm,[],s => .ok ((nm,[],0),s)
 |i,sc,nm,k :: ks,s =>
  let r:=if bin=true/\i=1 then R sc nm s else ((sc,nm),s)
  let q:=E r.1.1 k r.2
  if 4000<q.1.sM then .error q.1 else match ux E R bin (i+1) r.1.1 r.1.2 ks q.1 with
   | .error e => .error e
   | .ok ((g,j,o),l) => .ok ((g,q.2.1 :: j,q.2.2+o),l)
def expR(ts:TS)(es:List (dA×Bool)):Nat->List Sb->Nd->Bool->ISt->XO
 | 0,_,n,_,s=>(s,n,0)
 |f+1,sc,n,g,s =>
  if s.sM+1<=4000 then
   if n.op=1 then ((Qk sc n (payS 1 s)).2,(Qk sc n (payS 1 s)).1.1,(Qk sc n (payS 1 s)).1.2)
   else if n.op=47 then match ts.sT.find? fun p=>decide (p.name=n.name) with
    |none=>(payS 1 s,n,1)
    |some p=>match uh (fun k s=>expR ts es f sc k g s) p.params n.sD [] (payS 1 s) with
     | .error i=>(i,nd0,0)
     | .ok (own,i)=>expR ts es f own p.body true i
   else match ux (fun sc k s=>expR ts es f sc k g s) (fun sc nm s=>renR ts es sc nm g s) (binB n.op) 0 sc n.name n.sD (payS 1 s) with
    | .error i=>(i,nd0,0)
    | .ok ((nm,ks,m),i)=>(i,.mk n.op nm n.n ks n.pos,1+m)
  else (payS 1 s,nd0,0)
theorem We{F s s' z}(g:Gos F s s' z)(h:StOk F s):StOk F s'/\s.sM<=s'.sM/\z<=4000:=⟨g.ok h,zW2 g.cz g.z0,by have:=g.cz;have:=g.c1;have:=h.c0;omega⟩
theorem qd8{F f:Nat}{E E'}:∀ ps ks own i s,
  (∀ k,k∈ks->∀ s,StOk F s->4000<s.sM+(f:Int)->OutR (E k s) (E' k s).1 (E' k s).2.1 (E' k s).2.2)->(∀ k n' z s s',k∈ks->StOk F s->E k s = .ok ((n',z),s')->Gos F s s' z) ->
  StOk F s->4000<s.sM+(f:Int)->zU own->(∀ nm,uU nm i=getK nm own)->(∀ e,e∈i->0<=e.2.size/\e.2.size<=4000) ->
  match vo E ps ks own s with
  | .error _=>∃ t,uh E' ps ks i s = .error t/\4000<t.sM/\t.sM<=9000
  | .ok (l,s')=>∃ j,uh E' ps ks i s = .ok (j,s')/\zU l/\(∀ nm,uU nm j=getK nm l)/\(∀ e,e∈j->0<=e.2.size/\e.2.size<=4000)/\StOk F s'/\s.sM<=s'.sM
 | [],ks,own,i,s,_,_,o,_,J,P,R=>by simp only[vo,uh];exact⟨i,rfl,J,P,R,o,Z2 _⟩
 |p :: ps,[],own,i,s,_,_,o,_,J,P,R=>by simp only[vo,uh];exact⟨i,rfl,J,P,R,o,Z2 _⟩
 |p :: ps,k :: ks,own,i,s,hE,hG,o,hf,J,P,R=>by
  simp only[vo,uh];have C:=hE k (zj ..) s o hf;have h2:=fun n' z s'=>hG k n' z s s' (zj ..) o
  generalize E' k s=Q at *
  cases T:E k s with
  |error d =>
   rw[T]at C;simp only;rw[if_pos C.1];exact⟨_,rfl,C.1,C.2.1⟩
  |ok r =>
   obtain⟨⟨m,y⟩,t⟩:=r;rw[T]at C;obtain⟨e1,e2,e3⟩:=C;have g:=h2 m y t T;obtain⟨g1,g2,g3⟩:=We g o;have hc:=g.c1;simp only;rw[if_neg (by rw[e3];omega),e1,e2,e3];have ih:=qd8 (F:=F) (f:=f) ps ks (setK p.1 ⟨some m,y,⟨#[]⟩⟩ own) (i++[(p.1,⟨some m,y,⟨#[]⟩⟩)]) t (fun k U=>hE k (qU _ U)) (fun k n' z s s' U=>hG k n' z s s' (qU _ U)) g1 zOm (J.set ⟨g.z0,g3⟩) (fun nm=>by
    rw[Wd,vZ,P];by_cases e:p.1=nm
    .grind
    .rw [if_neg e,if_neg fun x=>e x.symm]) (fun e I=>by
    rcases qJ.1 I with I|I
    .exact R e I
    .rw [qQ]at I;subst I;exact⟨g.z0,g3⟩)
   grind
theorem qd9{ts env sc nm body s}(j:zU env)(h:ScOf ts body sc env) :
  ScOf ts body (renR ts es sc nm body s).1.1 (renI ts es env nm body s).1.1/\(renR ts es sc nm body s).1.2=(renI ts es env nm body s).1.2/\(renR ts es sc nm body s).2=(renI ts es env nm body s).2:=by
 unfold renR renI;by_cases l:body=true\/zM ts nm≠[]
 .rw [if_pos l,if_pos l]
  refine⟨⟨fun x=>?_,fun i x v g=>?_,fun e o=>?_⟩,rfl,rfl⟩
  .simp only
   rw[Wd,vZ,JN j.nd,h.look];by_cases e:nm=x
   .grind
   .rw [if_neg e,if_neg fun y=>e y.symm,if_neg fun y=>e y.symm]
  .simp only at g
   rw[vZ,JN j.nd]at g;by_cases e:x=nm
   .grind
   .rw [if_neg e,if_neg e]at g
    exact h.own i x v g
  .rcases qJ.1 o with o|o
   .exact h.sz e o
   grind
 .rw [if_neg l,if_neg l]
  refine⟨⟨fun x=>?_,fun i x v g=>?_,h.sz⟩,rfl,rfl⟩
  .simp only
   rw[JN j.nd,h.look];by_cases e:x=nm
   .rw [if_pos e]
    cases p:getK x env with
    |none=>rfl
    |some v =>
     have i:body=false:=by grind
     exact absurd (h.own i x v p) (by grind)
   .rw [if_neg e]
  .simp only at g
   rw[JN j.nd]at g;split at g
   .cases g
   .exact h.own i x v g
theorem qeA{ts es}(C:Free ts es){f:Nat}{body E E' bin}:∀ ks i env sc nm s,
  (∀ k,k∈ks->∀ env sc s,StOk (qE ts es) s->4000<s.sM+(f:Int)->zU env->ScOf ts body sc env->OutR (E env k s) (E' sc k s).1 (E' sc k s).2.1 (E' sc k s).2.2) ->
  (∀ env k n' z s s',k∈ks->StOk (qE ts es) s->zU env->E env k s = .ok ((n',z),s')->Gos (qE ts es) s s' z) ->
  0<=s.last->0<=s.sM->s.sM<=4000->dueN (qE ts es) bin i<=pot (qE ts es) s->4000<s.sM+(f:Int)->zU env->ScOf ts body sc env ->
  match vp E (fun env nm s=>renI ts es env nm body s) bin i env nm ks s with
  | .error _=>∃ t,ux E' (fun sc nm s=>renR ts es sc nm body s) bin i sc nm ks s = .error t/\4000<t.sM/\t.sM<=9000
  | .ok r=>ux E' (fun sc nm s=>renR ts es sc nm body s) bin i sc nm ks s = .ok r
 | [],i,env,sc,nm,s,_,_,_,_,_,_,_,_,_=>by simp only[vp,ux]
 |k :: ks,i,env,sc,nm,s,hE,hG,l0,c0,c1,hp,hf,R,I=>by
  simp only[vp,ux];obtain⟨r,J⟩:∃ r,(if bin=true/\i=1 then renI ts es env nm body s else ((env,nm),s))=r:=⟨_,rfl⟩;obtain⟨l,j⟩:∃ l,(if bin=true/\i=1 then renR ts es sc nm body s else ((sc,nm),s))=l:=⟨_,rfl⟩;have hR:ScOf ts body l.1.1 r.1.1/\l.1.2=r.1.2/\l.2=r.2/\zU r.1.1/\StOk (qE ts es) r.2/\r.2.sM=s.sM/\dueN (qE ts es) bin (i+1)<=pot (qE ts es) r.2:=by
   by_cases hb:bin=true/\i=1
   .rw [if_pos hb]at J j
    subst J;subst j;obtain⟨a1,a2,a3⟩:=qd9 (es:=es) (nm:=nm) (s:=s) R I;have a4:=Kw (ts:=ts) (es:=es) (nm:=nm) (body:=body) (s:=s) R;obtain⟨b1,b2,T⟩:=Kx (body:=body) (nm:=nm) (env:=env) C l0;have hd:dueN (qE ts es) bin i=(qE ts es:Int):=by simp_all[dueN,if_pos]
    have a0:dueN (qE ts es) bin (i+1)=0:=by simp_all[dueN,if_neg]
    rw[hd]at hp;have P:0<=pot (qE ts es) (renI ts es env nm body s).2:=by
     grind [pot]
    exact⟨a1,a2,a3,a4,⟨b1,by rw[T];exact c0,by rw[T];exact c1,P⟩,T,zOm⟩
   .rw [if_neg hb]at J j
    subst J;subst j;have hd:dueN (qE ts es) bin (i+1)<=dueN (qE ts es) bin i:=by
     unfold dueN;split
     .grind
     omega
    have a5:0<=dueN (qE ts es) bin i:=by grind [dueN]
    exact⟨I,rfl,rfl,R,⟨l0,c0,c1,by grind⟩,rfl,by grind⟩
  rw[J,j];obtain⟨q1,q2,q3,q4,q5,q6,q7⟩:=hR;rw[q2,q3];have o:=hE k (zj ..) r.1.1 l.1.1 r.2 q5 zOm q4 q1;have h2:=fun n' z s'=>hG r.1.1 k n' z r.2 s' (zj ..) q5 q4
  generalize E' l.1.1 k r.2=Q at *
  cases U:E r.1.1 k r.2 with
  |error d =>
   rw[U]at o;simp only;rw[if_pos o.1];exact⟨_,rfl,o.1,o.2.1⟩
  |ok x =>
   obtain⟨⟨m,y⟩,t⟩:=x;rw[U]at o;obtain⟨e1,e2,e3⟩:=o;have g:=h2 m y t U;obtain⟨g1,g2,g3⟩:=We g q5;have hc:=g.c1;have a6:=g.p;simp only;rw[if_neg (by rw[e3];omega),e1,e2,e3];have ih:=qeA C (f:=f) (body:=body) (E:=E) (E':=E') (bin:=bin) ks (i+1) r.1.1 l.1.1 r.1.2 t (fun k hk=>hE k (qU _ hk)) (fun env k n' z s s' hk=>hG env k n' z s s' (qU _ hk)) g1.l0 g1.c0 g1.c1 zOm zOm q4 q1;cases hx:vp E (fun env nm s=>renI ts es env nm body s) bin (i+1) r.1.1 r.1.2 ks t with
   |error d =>
    rw[hx]at ih;obtain⟨t',a1,a2,a3⟩:=ih
    grind
   |ok x =>
    grind
theorem Jj(ts es)(i:Free ts es)(hb:∀ p,p∈ts.sT->WfN p.body/\vq ts p.body):∀(f:Nat)(env sc n body s),
  4000<s.sM+(f:Int)->StOk (qE ts es) s->zU env->WfN n->vq ts n->ScOf ts body sc env->OutR (expI ts es f env n body s) (expR ts es f sc n body s).1 (expR ts es f sc n body s).2.1 (expR ts es f sc n body s).2.2
 | 0,env,sc,n,body,s,hf,g,_,_,_,_=>zW1 g.c1
 |f+1,env,sc,n,body,s,hf,g,o,hw,I,l=>by
  have a8:=g.c0;have a9:=g.c1;have p1:(payS 1 s).sM=s.sM+1:=rfl;simp only[expI,expR];by_cases J:s.sM+1<=4000
  case neg =>
   rw[if_neg J,if_neg J];exact⟨by rw[p1];omega,by rw[p1];omega,zSp,zSp⟩
  rw[if_pos J,if_pos J];have C:=(Y0 g (n:=1) zOm J).ok g;by_cases h1:n.op=1
  .rw [if_pos h1,if_pos h1]
   unfold Qk ZU;rw[l.look];cases hg:getK n.name env with
   |none=>exact⟨rfl,rfl,rfl⟩
   |some v =>
    have hv:=o.sz _ ((ZI o.nd).1 hg);have hv:0<=v.size/\v.size<=4000:=hv;simp only;cases P:v.arg with
    |none=>exact⟨rfl,rfl,rfl⟩
    |some a =>
     simp only;have e2:(payS v.size (payS 1 s)).sM=(payS 1 s).sM+v.size:=rfl;by_cases R:(payS 1 s).sM+v.size<=4000
     .rw [if_pos R];exact⟨rfl,rfl,rfl⟩
     .rw [if_neg R]
      exact⟨by rw[e2];omega,by rw[e2];omega,hv.1,hv.2⟩
  rw[if_neg h1,if_neg h1];by_cases h47:n.op=47
  .rw [if_pos h47,if_pos h47]
   obtain⟨p,T,a7⟩:=I n (Kv n) h47;have a0:=List.mem_of_find?_eq_some T;rw[T];simp only;have P:=qd8 (F:=qE ts es) (f:=f) (E:=fun k s=>expI ts es f env k body s) (E':=fun k s=>expR ts es f sc k body s) p.params n.sD [] [] (payS 1 s)
    (fun k j s g hf=>Jj ts es i hb f env sc k body s hf g o (hw.kid j) (I.kid j) l)
    (fun k n' z s s' j g e=>Zo ts i f g o e) C (by rw[p1];omega) .nil (fun nm=>rfl) (fun e hm=>absurd hm qN)
   cases U:vo (fun k s=>expI ts es f env k body s) p.params n.sD [] (payS 1 s) with
   |error d =>
    rw[U]at P;obtain⟨t,a1,a2,a3⟩:=P;rw[a1];exact⟨a2,a3,zSp,zSp⟩
   |ok x =>
    obtain⟨own,s'⟩:=x;rw[U]at P;obtain⟨L,a1,a2,a3,a4,a5,a6⟩:=P;rw[a1];obtain⟨b1,b2⟩:=hb p a0;exact Jj ts es i hb f own L p.body true s' zOm a5 a2 b1 b2 ⟨a3,fun h=>absurd h zSp,a4⟩
  .rw [if_neg h47,if_neg h47]
   have j:=qeA i (f:=f) (body:=body) (E:=fun env k s=>expI ts es f env k body s) (E':=fun sc k s=>expR ts es f sc k body s) (bin:=binB n.op) n.sD 0 env sc n.name (payS 1 s)
    (fun k j env sc s g hf o l=>Jj ts es i hb f env sc k body s hf g o (hw.kid j) (I.kid j) l)
    (fun env k n' z s s' j g o e=>Zo ts i f g o e) C.l0 C.c0 C.c1 (by
     rw[J9];have:=g.p
     grind [dueN]) (by rw[p1];omega) o l
   cases U:vp (fun env k s=>expI ts es f env k body s) (fun env nm s=>renI ts es env nm body s) (binB n.op) 0 env n.name n.sD (payS 1 s) with
   |error d =>
    rw[U]at j;obtain⟨t,a1,a2,a3⟩:=j;rw[a1];exact⟨a2,a3,zSp,zSp⟩
   |ok x =>
    obtain⟨⟨nm,ks,m⟩,s'⟩:=x;rw[U]at j;rw[j];exact⟨rfl,rfl,rfl⟩
end
end QY
namespace QZ
open YF Y9 Y10 Y1 YX YB YC P1 P2 PA QE QI QS QT QX QY
section
variable {mu:Mu}
abbrev eXO(ts:TS)(l:List dA)(q:XO):AV := .tup [eWk ts l q.1,eNd q.2.1,aI q.2.2]
theorem Wf(x):∀ c,c∈cSb x->HF c:=fun c g=>by
 rcases qJ.1 g with g|g
 .rcases qJ.1 g with g|g
  .simp only[qx,qN,or_false]at g
   rcases g with rfl|rfl|rfl<;>exact HF.sc _
  grind [qqH]
 grind [qQ,HF.sc]
theorem qqM(x):(cSb x).length=9:=by simp[qqG]
theorem Jk(l:List Sb):qS 9 (l.map cSb):=fun r g=>by
 obtain⟨x,_,rfl⟩:=qn.1 g;refine⟨qqM x,?_⟩;obtain⟨nm,⟨a,z,w⟩⟩:=x;cases a<;>simp[jc,go_sem]
theorem qeB(l):HF (lSb l):=HF.lst fun r g c i=>by
 obtain⟨x,_,rfl⟩:=qn.1 g;exact Wf x c i
theorem wkX(ts l s sc n b):WKs [eWk ts l s,lSb sc,eNd n,aB b] [eWk ts l s,lSb sc,eNd n,aB b] := .zk (wK ts l s) (.zk (qeB sc) (.zk (qC n) (.zs .nil)))
theorem kN(ts l q):HF (eXO ts l q):=HF.tup fun x g=>by
 simp only[qx,qN,or_false]at g;rcases g with rfl|rfl|rfl
 .exact wK ts l _
 .exact qC _
 .exact HF.sc _
structure Pre (ts:TS) (es:List (dA×Bool)) (f:Nat) (env:IEnv) (sc:List Sb) (n:Nd) (body:Bool) (s:ISt):Prop where
 fu:4000<s.sM+(f:Int)
 st:StOk (qE ts es) s
 en:zU env
 wf:WfN n
 cl:vq ts n
 so:ScOf ts body sc env
 le:(sc.length:Int)<=s.sM+8
theorem rd0:Rd mu (.agg [aI 0,aS ⟨#[]⟩,aI 0,.lst true [],aI 0]) (eNd nd0) := .agg _ _ rfl fun k x y g i=>by
 match k,g,i with
 | 0,g,i=>cases g;cases i;exact .zsc _
 | 1,g,i=>cases g;cases i;exact .zsc _
 | 2,g,i=>cases g;cases i;exact .zsc _
 | 3,g,i=>cases g;cases i;exact .wk _ true _ (.hf _ (HF.lst fun r j=>absurd j qN))
 | 4,g,i=>cases g;cases i;exact .zsc _
 |k+5,g,i=>cases g
theorem rdZ(ts l s):Rd mu (.tup [eWk ts l s,.agg [aI 0,aS ⟨#[]⟩,aI 0,.lst true [],aI 0],aI 0]) (eXO ts l (s,nd0,0)) := .tup _ _ rfl fun k x y g i=>by
 match k,g,i with
 | 0,g,i=>cases g;cases i;exact .hf _ (wK ts l s)
 | 1,g,i=>grind [rd0]
 | 2,g,i=>cases g;cases i;exact .zsc _
 |k+3,g,i=>cases g
theorem qeC{lo s xs y K}(g:OwnF lo mu 9 s (xs.map cSb))(l:xs.length<=100000)(o:∀ av mu',OwnF lo mu' 9 av ((xs++[y]).map cSb)->(∀ i,i<lo->mu'[i]?=mu[i]?)->K av mu') :
  qu qd mu #[274,274] s (.lst true [cSb y]) K:=by
 refine qu.ownF (lo:=lo) (e:=281) (sz:=9) (bt:=112) (zv := .agg [aS ⟨#[]⟩,aS ⟨#[]⟩,aB false,aI 0,aS ⟨#[]⟩,aI 0,.lst true [],aI 0,aI 0]) (xs:=xs.map cSb) (ys:=[cSb y]) zSi zSi zSi rfl rfl zOm zOm g (by simp[qy]) (Jk xs) (Jk [y]) zSo ?_
 grind
abbrev ExpW(ts:TS)(l:List dA)(es:List (dA×Bool))(f:Nat)(sc:List Sb)(n:Nd)(body:Bool)(s:ISt):Prop:=
 qh qd 156 [eWk ts l s,lSb sc,eNd n,aB body] (eXO ts l (expR ts es f sc n body s))
theorem expN(ts l es f env sc n body s)(p:Pre ts es (f+1) env sc n body s)(j:s.sM+1<=4000)(i:n.op=1):ExpW ts l es (f+1) sc n body s:=by
 have o:=p.st.c0;have J:=p.le;have t:=leafU ts l sc zOm n (payS 1 s) ⟨by show 0<=s.sM+1;omega,by show s.sM+1<=_;omega⟩ (fun e C=>zW1 (p.so.sz e C));unfold ExpW;simp only[expR];rw[if_pos j,if_pos i];have I:qm.wrap (s.sM+1)=s.sM+1:=zWr;have g:¬ 4000<s.sM+1:=zOm;generalize Qk sc n (payS 1 s)=Q at *
 refine qSQ call156 func156 rfl { mt:=[4] } ?_;simp[go_sem,I,g,i,qW];refine t7 t (.zk (wK ts l (payS 1 s)) (.zk (qeB sc) (.zk (qC n) .nil))) ?_;simp[go_sem,qW];exact .hf _ (kN ts l (Q.2,Q.1.1,Q.1.2))
theorem expZ(ts l es f env sc n body s)(p:Pre ts es (f+1) env sc n body s)(i:¬s.sM+1<=4000):ExpW ts l es (f+1) sc n body s:=by
 have j:=p.st.c0;have o:=p.st.c1;unfold ExpW;simp only[expR];rw[if_neg i];have t:qm.wrap (s.sM+1)=s.sM+1:=zWr;have g:4000<s.sM+1:=zOm;refine qSQ call156 func156 rfl { mt:=[4] } ?_;simp[go_sem,t,g,qW]
 grind [rdZ,payS]
def repR(ts : TS)(es : List (dA × Bool))(f : Nat)(sc : List Sb)(n : Nd)(body : Bool)(s : ISt)(p : Pd) : XO := match uh (fun k s => expR ts es f sc k body s) p.params n.sD [] s with
          | .error g=>(g,nd0,0)
          | .ok (own,g)=>expR ts es f own p.body true g
theorem expC(ts l es f env sc n body s)(p:Pre ts es (f+1) env sc n body s)(j:s.sM+1<=4000)(h47:n.op=47)(g)(o:(ts.sT.find? fun p=>decide (p.name=n.name))=some g)
  (t:qh qd 214 [eWk ts l (payS 1 s),lSb sc,eNd n,aB body] (eXO ts l (repR ts es f sc n body (payS 1 s) g))):ExpW ts l es (f+1) sc n body s:=by
 have C:=p.st.c0;unfold ExpW;simp only[expR];rw[if_pos j,zIn,if_pos h47,o];simp only;have I:qm.wrap (s.sM+1)=s.sM+1:=zWr;have i:¬ 4000<s.sM+1:=zOm;show qh qd 156 [eWk ts l s,lSb sc,eNd n,aB body] (eXO ts l (repR ts es f sc n body (payS 1 s) g));generalize repR ts es f sc n body (payS 1 s) g=Q at *
 refine qSQ call156 func156 rfl { mt:=[4] } ?_;simp[go_sem,I,i,h47,qW];refine t7 t (wkX ts l (payS 1 s) sc n body) ?_;simp[go_sem,qW];exact .hf _ (kN ts l Q)
theorem replW(ts)(h:okTS ts)(l es)(ah:Free ts es)(hb:∀ p,p∈ts.sT->WfN p.body/\vq ts p.body)(f)(ih:∀ env sc n body s,Pre ts es f env sc n body s->ExpW ts l es f sc n body s)(env sc n body s)(p:Pre ts es f env sc n body s)(h47:n.op=47)
  (P) (hp:(ts.sT.find? fun p=>decide (p.name=n.name))=some P) (ay:P.params.length=n.sD.length):qh qd 214 [eWk ts l s,lSb sc,eNd n,aB body] (eXO ts l (repR ts es f sc n body s P)):=by
 have a8:=List.mem_of_find?_eq_some hp;have b0:=(h.pl P a8).1;have b1:=h.np;obtain⟨i,hi,a2,ai⟩:∃ i,∃ hi:i<ts.sT.length,ts.sT[i]=P/\zy (ckR ts ts.sT.length) n.name=some i:=by
  cases hc:zy (ckR ts ts.sT.length) n.name with
  |none =>
   unfold zy at hc;rw[List.findIdx?_eq_none_iff]at hc;have:=hc P (by show P∈ts.sT.take ts.sT.length;rw[q8];exact a8);have h2:=List.find?_some hp;rw[h2]at this;cases this
  |some i =>
   obtain⟨h1,h2⟩:=ZK (Wa h (qk _)) hc;have h2:i<ts.sT.length:=h2;have h3:=PF.qcT hc h2;have h3:(ts.sT.find? fun p=>decide (p.name=n.name))=some ts.sT[i]:=h3;rw[hp]at h3;exact⟨i,h2,(Option.some.inj h3).symm,rfl⟩
 have cp:=Vo (ckR ts ts.sT.length) (Wa h (qk _)) n.name;rw[ai]at cp;have C:=Yn;have a9:¬(i:Int)<0:=zOm;obtain⟨E',hE⟩:∃ E':Nd->ISt->XO,E'=fun k s=>expR ts es f sc k body s:=⟨_,rfl⟩
 obtain⟨a6,a7⟩:∃ a6,a6=repR ts es f sc n body s P:=⟨_,rfl⟩;have al:∀ k,k∈n.sD->∀ o,StOk (qE ts es) o->s.sM<=o.sM->qh qd 156 [eWk ts l o,lSb sc,eNd k,aB body] (eXO ts l (E' k o)):=fun k hk o I a9=>by
  rw[hE];exact ih env sc k body o ⟨zW1 p.fu,I,p.en,p.wf.kid hk,p.cl.kid hk,p.so,zW1 p.le⟩
 have an:∀ k,k∈n.sD->∀ o,StOk (qE ts es) o->s.sM<=o.sM->4000<(E' k o).1.sM\/(¬ 4000<(E' k o).1.sM/\Gos (qE ts es) o (E' k o).1 (E' k o).2.2):=fun k hk o I a9=>by
  have ho:=Jj ts es ah hb f env sc k body o (zW1 p.fu) I p.en (p.wf.kid hk) (p.cl.kid hk) p.so;have ao:E' k o=expR ts es f sc k body o:=by rw[hE]
  rw[ao];cases hx:expI ts es f env k body o with
  |error d=>rw[hx]at ho;exact .inl ho.1
  |ok r =>
   obtain⟨⟨m,y⟩,t⟩:=r;rw[hx]at ho;obtain⟨e1,e2,e3⟩:=ho;have g:=Zo ts ah f I p.en hx;rw[e2,e3];exact .inr ⟨zW1 g.c1,g⟩
 have aq:∀ t,uh E' P.params n.sD [] s = .error t->a6=(t,nd0,0):=fun t ht=>by
  rw[a7];unfold repR;rw[<-hE,ht]
 have ar:∀ own t O,uh E' P.params n.sD [] s = .ok (own,t)->StOk (qE ts es) t->s.sM<=t.sM->zU O->(∀ nm,uU nm own=getK nm O)->(∀ e,e∈own->0<=e.2.size/\e.2.size<=4000)->own.length<=8->qh qd 156 [eWk ts l t,lSb own,eNd P.body,aB true] (eXO ts l a6):=fun own t O ht I a9 hO aa ab h8=>by
  have e:a6=expR ts es f own P.body true t:=by rw[a7];unfold repR;rw[<-hE,ht]
  rw[e];have b2:=I.c0;exact ih O own P.body true t ⟨zW1 p.fu,I,hO,(hb P a8).1,(hb P a8).2,⟨aa,fun h=>absurd h zSp,ab⟩,zOm⟩
 rw[<-a7];have aj:=p.st;clear a7 hE ih;refine qSQ call214 func214 rfl { mt:=[4] } ?_;simp[go_sem,qW];refine t7 cp (.zk (zA ts) (.zs (.zs .nil))) ?_;simp[go_sem,qW,idxO,a9];refine aP n.sD.length (fun k U=>∃(o:ISt) (L:List Sb) (O:IEnv),U.tm 1=lSb sc/\U.tm 3=aB body/\U.tm 4 = .ptr 0 0/\U.tm 6 = .ip (cNd n)/\U.tm 8 = .ptr 1 0/\U.tm 9 = .ptr 2 0/\U.tm 12=aI i/\U.tm 14=aI k/\U.mu[0]?=some (.arr (cWk ts l o))/\U.mu[1]?=some (.arr zWc)/\U.mu[2]?=some (.arr [aI 0,aS ⟨#[]⟩,aI 0,.lst true [],aI 0])/\OwnF 3 U.mu 9 (U.tm 13) (L.map cSb)/\uh E' P.params n.sD [] s=uh E' (P.params.drop k) (n.sD.drop k) L o/\StOk (qE ts es) o/\s.sM<=o.sM/\zU O/\(∀ nm,uU nm L=getK nm O)/\(∀ e,e∈L->0<=e.2.size/\e.2.size<=4000)/\L.length=k) ?_ ?_
 .exact ⟨s,[],[],zSi,zSi,zSi,zSi,zSi,zSi,zSi,zSi,zSi,zSi,zSi,by simp[go_sem];exact OwnF.nil zSp,rfl,aj,Z2 _,.nil,fun nm=>rfl,fun e he=>absurd he qN,rfl⟩
 rintro k U hk ⟨o,L,O,e1,e3,e4,e6,e8,e9,a1,a3,m0,m1,m2,ho,hI,I,ad,hO,aa,ab,au⟩;generalize a4:U.tm 13=av at *
 obtain⟨rr,T⟩:=kF m0 m1 m2;have b3:U.mu.length=rr.length+3:=by rw[T];rfl
 have az:n.sD.length<=8:=zOm;by_cases J:k<n.sD.length
 .have a5:k<P.params.length:=by omega
  have w1:=zWk k;rw[ze J,ze a5]at hI;simp only[uh]at hI;have x1:=al n.sD[k] (qv J) o I ad;have x2:=an n.sD[k] (qv J) o I ad;generalize E' n.sD[k] o=q at *
  clear m0 m1 m2;simp[go_sem,e1,e3,e4,e6,e8,e9,a1,a3,a4,T,J,a5,hi,a2,C,qW];refine fG [0,1,2,3,4,5,6,7,8,9,10,11,12,17,13,14,15,16] [(0,0,[]),(1,0,[]),(2,0,[]),(3,0,[]),(4,0,[]),(5,0,[]),(6,0,[]),(7,0,[]),(8,1,[]),(9,0,[]),(10,0,[]),(11,0,[]),(12,0,[]),(17,0,[]),(13,2,[0,3,6]),(14,2,[0,3,6]),(15,1,[]),(16,1,[])] zKr zKr zSi ?_;simp[go_sem,e1,e3,e4,e6,e8,e9,a1,a3,a4,T,J,a5,hi,a2,C,qW];refine t7 x1 (wkX ts l o sc n.sD[k] body) ?_;simp[go_sem,e1,e3,e4,e6,e8,e9,a1,a3,a4,T,J,a5,hi,a2,C,qW];by_cases a0:4000<q.1.sM
  .have aw:a6=(q.1,nd0,0):=aq _ (by rw[hI,if_pos a0])
   simp[go_sem,e1,e3,e4,e6,e8,e9,a1,a3,a4,T,J,a5,hi,a2,C,qW,a0];rw[aw];exact rdZ ts l q.1
  .rcases x2 with x2|⟨_,g⟩
   .exact absurd x2 a0
   rw[if_neg a0]at hI;simp[go_sem,e1,e3,e4,e6,e8,e9,a1,a3,a4,T,J,a5,hi,a2,C,qW,a0];refine tV zKr ?_;simp[go_sem,e1,e3,e4,e6,e8,e9,a1,a3,a4,T,J,a5,hi,a2,C,qW,a0];obtain⟨g1,g2,g3⟩:=We g I;have gz:=g.z0;have hy:(AV.sc (.string P.params[k].1) :: AV.sc (.string ⟨#[]⟩) :: AV.sc (.bool true) :: (cNd q.2.1++[AV.sc (.int .i64 q.2.2)]))=cSb (P.params[k].1,⟨some q.2.1,q.2.2,⟨#[]⟩⟩):=zSi;rw[hy];generalize ae:(P.params[k].1,(⟨some q.2.1,q.2.2,⟨#[]⟩⟩:IV))=en at *
   refine qeC (lo:=3) (xs:=L) (y:=en) ?_ zOm ?_
   .have h1:OwnF 3 (U.mu++[Cell.arr (cWk ts l q.1),Cell.arr (cNd q.2.1)]) 9 av (L.map cSb):=YD.qb2 ho zSo fun i _ hi=>qI hi
    rw[T]at h1;have h2:=OwnF.set (i:=0) (c:=Cell.arr (cWk ts l q.1)) h1 zOm;simpa using h2
   intro b4 R af ag;have n0:=ag 0 zOm;have n1:=ag 1 zOm;have n2:=ag 2 zOm;simp at n0 n1 n2;obtain⟨r2,ak⟩:=kF n0 n1 n2;simp[go_sem,e1,e3,e4,e6,e8,e9,a1,a3,a4,ak,J,a5,hi,a2,C,qW,a0,w1];refine aM ⟨q.1,L++[en],setK en.1 en.2 O,zS1 e1,zS1 e3,zS1 e4,zS1 e6,zS1 e8,zS1 e9,zS1 a1,zSi,zSi,zSi,zSi,?_,?_,g1,?_,?_,?_,?_,?_⟩
   .have h2:=OwnF.set (i:=0) (c:=Cell.arr (cWk ts l q.1)) af zOm
    simp[go_sem];rw[ak]at af;simpa using af
   .rw [hI,<-ae]
   .omega
   .rw [<-ae];exact hO.set ⟨gz,g3⟩
   .intro nm
    rw[Wd,vZ,aa];by_cases e:en.1=nm
    .rw [if_pos e,if_pos e.symm]
    .rw [if_neg e,if_neg fun x=>e x.symm]
   .intro e he
    rcases qJ.1 he with he|he
    .exact ab e he
    .rw [qQ]at he;subst he;rw[<-ae];exact⟨gz,g3⟩
   .simp [au]
 .simp [go_sem,e1,e3,e4,e6,e8,e9,a1,a3,a4,T,J,hi,a2,C,qW]
  refine fG [0,1,2,3,4,5,6,7,8,9,10,11,12,15,13,14] [(0,0,[]),(1,0,[]),(2,0,[]),(3,0,[]),(4,0,[]),(5,0,[]),(6,0,[]),(7,0,[]),(8,0,[]),(9,1,[]),(10,0,[]),(11,0,[]),(12,0,[]),(15,0,[]),(13,1,[]),(14,1,[])] zKr zKr zSi ?_;simp[go_sem,e1,e3,e4,e6,e8,e9,a1,a3,a4,T,J,hi,a2,C,qW];refine aA (fU (args1:=[eWk ts l o,lSb L,eNd P.body,aB true]) (fun j=>decide (3<=j)) ⟨.inl rfl,.inr ?_,.inl rfl,.inl rfl,trivial⟩ (qh.toSound _ (ar L o O ?_ I ad hO aa ab zOm) (wkX ts l o L P.body true))) ?_ ?_
  .have h1:=Y13.X3 ho (Jk L).ok fun r hr c hc=>by
    obtain⟨x,_,rfl⟩:=qn.1 hr;exact Wf x c hc
   rw[T]at h1;exact h1
  .rw [hI,Wp zOm,Wp zOm];rfl
  .rintro r m ⟨hv,rfl⟩
   cases hv;simp[go_sem,cutM,qW,e1,e3,e4,e6,e8,e9];exact .hf _ (kN ts l a6)
  .rintro r m ⟨hv,rfl⟩
   cases hv
end
end QZ
end Go.Proofs.YthflbhjlkgdafaaGreatDoor
