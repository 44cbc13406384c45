/-
  Own library, part 5: an abstract reading of values and a calculus over it; contracts of functions; plain lemmas.
-/
import Derived.Test.YtkglmpmlfjogkaaGreatDoorMd
set_option linter.unusedVariables false
set_option linter.unusedSimpArgs false
set_option maxRecDepth 100000
open Go.Proofs.Tryz renaming prog->qc
open List renaming getElem?_eq_some_iff->qk,mem_map->qq,getElem?_append_left->qr,range->qu,getElem?_eq_getElem->qv,getElem_mem->qw,mem_cons->qz,all_eq_true->qC,getElem?_set_ne->qK,mem_of_getElem?->qS,mem_append->qU,replicate->qW,mem_singleton->qY,getElem?_append_right->q6,getElem?_set_self->za,drop_eq_getElem_cons->zi,getElem?_map->zj,not_mem_nil->zk,append_nil->zl,length_append->zr,map_append->zt,take_length->zw,append_assoc->zx,mem_cons_of_mem->zD,getD_eq_getElem?_getD->zE,drop_length->zN,length_cons->zO,getElem?_eq_none->zQ,mem_range->zS,mem_cons_self->zW,take_of_length_le->zX,map_cons->yz,length_map->yO,cons_append->yY,getElem?_cons_succ->jS,take_append_drop->vh,length_take->vo,mem_of_mem_take->vI,getD_cons_zero->vJ,getElem?_range->vY,foldl_append->wK,getElem_of_mem->YQ
open Go.IntKind renaming i64->ql
open Option.some renaming injEq->qp
open Nat renaming le_refl->qs,le_trans->zz,zero_add->yE,le_of_ble_eq_true->jg,lt_succ_iff_lt_or_eq->vj
open Bool renaming and_eq_true->qA,eq_iff_iff->ji,or_eq_true->js
open Option renaming map_some->q8,map_eq_some_iff->ve
open Int renaming mul_le_mul->jt
open Except.ok renaming injEq->vp
namespace Go.Proofs.YtkglmpmlfjogkaaGreatDoor
open Go Go.Ev Go.Proofs Tryz
namespace P2
open Y1 Y2 Y3 P1 Y6 Y8 Y9 Y12
def kd(op:Int):Int:=if 1<=op/\op<=15 then 101 else if 20<=op/\op<=23 then 105 else if 30<=op/\op<=51 then 102 else 0
def shp(op:Int)(nk:Nat):Option (List Int):=
 if op=1\/op=2\/op=3\/op=4\/op=20\/op=30\/op=31 then some []
 else if op=5\/op=11\/op=12\/op=13\/op=21\/op=34\/op=35\/op=36\/op=37 then some [101]
 else if op=6\/op=7\/op=8\/op=9\/op=10\/op=14\/op=32\/op=33 then some [101,101]
 else if op=15\/op=45\/op=46 then some [101,102]
 else if op=22\/op=23\/op=38\/op=39 then some [105,105]
 else if op=40\/op=48\/op=49\/op=50 then some [102]
 else if op=41\/op=42\/op=43\/op=44\/op=51 then some [102,102]
 else if op=47 then some (qW (min nk 401) 101)
 else none
inductive WfN:Nd->Prop where
 |mk (n:Nd) (h:shp n.op n.kids.length=some (n.kids.map fun k=>kd k.op)) (hn:n.op=2->1<=n.n/\n.n<=3) (hk:∀ k,k∈n.kids->WfN k):WfN n
theorem WfN.shape{n:Nd}(h:WfN n):shp n.op n.kids.length=some (n.kids.map fun k=>kd k.op):=by cases h;assumption
theorem WfN.num{n:Nd}(h:WfN n):n.op=2->1<=n.n/\n.n<=3:=by cases h;assumption
theorem WfN.kid{n k:Nd}(h:WfN n)(hk:k∈n.kids):WfN k:=by
 cases h with
 |mk _ _ _ h=>exact h k hk
theorem kY{op:Int}{nk:Nat}{l:List Int}(h:shp op nk=some l):l.length<=401:=by
 unfold shp at h
 repeat' (split at h)
 all_goals try cases h
 all_goals try simp
 all_goals try omega
theorem WfN.len{n:Nd}(h:WfN n):n.kids.length<=401:=by
 have:=kY h.shape;simpa using this
theorem WfN.small{n:Nd}(h:WfN n):Small n:=by
 induction h with
 |mk n hs hn hk ih=>exact .mk n (by have:=kY hs;simp at this;omega) ih
structure okKd (ns:Nat) (k:Kd):Prop where
 ar:1<=k.ar/\k.ar<=3
 nd:k.ts.Nodup
 ts:∀ t,t∈k.ts->∃ l,t=pad l/\(l.length:Int)=k.ar/\∀ x,x∈l->0<=x/\x<ns
theorem okKd.okK{ns:Nat}{k:Kd}(h:okKd ns k):okK k:=⟨h.ar,fun t ht=>by obtain⟨l,rfl,_⟩:=h.ts t ht;rfl,h.nd⟩
theorem okKd.ok2{ns:Nat}{k:Kd}(h:okKd ns k)(hns:ns<=4)(h2:k.ar=2):ok2 k:=⟨h2,h.nd,fun t ht=>by
 obtain⟨l,rfl,hl,hr⟩:=h.ts t ht;rw[h2]at hl
 match l,hl with
 | [x,y],_ =>
  have h1:=hr x (by simp);have h2:=hr y (by simp);exact⟨x,y,rfl,by omega,by omega,by omega,by omega⟩⟩
theorem okKd.of2{ns:Nat}{k:Kd}(h2:k.ar=2)(hnd:k.ts.Nodup)(h:∀ t,t∈k.ts->∃ x y:Int,t=[x,y,0]/\0<=x/\x<ns/\0<=y/\y<ns):okKd ns k:=⟨by omega,hnd,fun t ht=>by
 obtain⟨x,y,rfl,h1,h3,h4,h5⟩:=h t ht;exact⟨[x,y],rfl,by rw[h2];rfl,fun z hz=>by simp at hz;rcases hz with rfl|rfl<;>omega⟩⟩
theorem okKd.pairs{ns:Nat}{k:Kd}(h:okKd ns k)(h2:k.ar=2):∀ t,t∈k.ts->∃ x y:Int,t=[x,y,0]/\0<=x/\x<ns/\0<=y/\y<ns:=fun t ht=>by
 obtain⟨l,rfl,hl,hr⟩:=h.ts t ht;rw[h2]at hl
 match l,hl with
 | [x,y],_ =>
  have h1:=hr x (by simp);have h2:=hr y (by simp);exact⟨x,y,rfl,h1.1,h1.2,h2.1,h2.2⟩
theorem J8{ns:Nat}{l:List Int}(h1:1<=l.length)(h3:l.length<=3)(hr:∀ x,x∈l->0<=x/\x<ns):okKd ns (kOf l):=
 ⟨by simp only[kOf];omega,by simp[kOf],fun t ht=>by
  have ht:t∈[pad l]:=ht;rw[qY]at ht;exact⟨l,ht,rfl,hr⟩⟩
theorem qd6{ns:Nat}{n:Int}(h:1<=n/\n<=3):okKd ns ⟨n,[]⟩:=⟨h,by simp,fun t ht=>by simp at ht⟩
theorem Wb(ns ar:Nat)(h1:1<=ar)(h3:ar<=3):okKd ns (zn ns ar):=by
 refine⟨by simp only[zn];omega,?_,fun t ht=>?_⟩
 .refine List.pairwise_map.2 ((List.pairwise_iff_getElem.2 fun i j hi hj hij=>?_))
  simp only[List.getElem_range];obtain⟨a,rfl⟩:∃ a,ar=a+1:=⟨ar-1,by omega⟩;intro e;simp[pad,List.replicate_succ]at e;omega
 .have ht:t∈(qu ns).map fun (i:Nat)=>pad (qW ar (i:Int)):=ht
  obtain⟨i,hi,rfl⟩:=qq.1 ht;rw[zS]at hi;exact⟨_,rfl,by simp[zn],fun x hx=>by rw[List.eq_of_mem_replicate hx];omega⟩
theorem Yl{ns:Nat}{a b:Kd}(ha:okKd ns a)(hb:okKd ns b)(h:a.ar=b.ar):okKd ns (kSum a b):=by
 refine⟨ha.ar,ui (ui (by simp)),fun t ht=>?_⟩;have ht:t∈uni (uni [] a.ts) b.ts:=ht;simp only[j7,zk,false_or]at ht;rcases ht with ht|ht
 .exact ha.ts t ht
 .obtain ⟨l,e,hl,hr⟩:=hb.ts t ht
  exact⟨l,e,by rw[hl,<-h];rfl,hr⟩
theorem qd7{ns:Nat}{a b:Kd}(ha:okKd ns a):okKd ns (UA a b):=
 ⟨ha.ar,ha.nd.filter _,fun t ht=>ha.ts t (List.mem_filter.1 ht).1⟩
theorem qd8{ns:Nat}{op:Int}{a b:Kd}(ha:okKd ns a)(hb:okKd ns b)(h:a.ar=b.ar):okKd ns (uS op a b):=by
 unfold uS;split
 .exact Yl ha hb h
 .split
  .exact qd7 ha
  .exact ha
theorem wG{l:List Int}(h:l.length<=3)(k:Nat)(hk:k<=l.length):(pad l).take k=l.take k:=by
 match l,h with
 | [],_=>simp at hk;subst hk;rfl
 | [a],_=>match k,hk with
  | 0,_=>rfl
  | 1,_=>rfl
 | [a,b],_=>match k,hk with
  | 0,_=>rfl
  | 1,_=>rfl
  | 2,_=>rfl
 | [a,b,c],_=>match k,hk with
  | 0,_=>rfl
  | 1,_=>rfl
  | 2,_=>rfl
  | 3,_=>rfl
theorem Ym{lx ly:List Int}(hx:lx.length<=3)(hy:ly.length<=3)(s:Nat):conc (pad lx) lx.length (pad ly) ly.length s=pad (lx.take (lx.length-s)++ly.drop s):=by
 unfold conc;rw[wG hx _ (by omega),wG hy _ (qs _),zw]
theorem Yn{ns:Nat}{a b:Kd}(ha:okKd ns a)(hb:okKd ns b)(h1:1<=a.ar+b.ar-2)(h3:a.ar+b.ar-2<=3):okKd ns (zy a b):=by
 refine⟨⟨h1,h3⟩,UG,fun t ht=>?_⟩;obtain⟨x,y,⟨hx,hy⟩,hf⟩:=uU.1 ht;obtain⟨lx,rfl,hlx,hrx⟩:=ha.ts x hx;obtain⟨ly,rfl,hly,hry⟩:=hb.ts y hy;have hax:=ha.ar;have hbx:=hb.ar;unfold Qf at hf;split at hf
 .simp only[qp]at hf
  rw[show a.ar.toNat=lx.length by omega,show b.ar.toNat=ly.length by omega,Ym (by omega) (by omega)]at hf;refine⟨_,hf.symm,?_,fun z hz=>?_⟩
  .show ((lx.take (lx.length-1)++ly.drop 1).length:Int)=a.ar+b.ar-2
   simp only[zr,vo,List.length_drop];omega
  .rcases qU.1 hz with hz|hz
   .exact hrx z (vI hz)
   .exact hry z (List.mem_of_mem_drop hz)
 .exact absurd hf (by simp)
theorem qd9{ns:Nat}{a b:Kd}(ha:okKd ns a)(hb:okKd ns b)(h3:a.ar+b.ar<=3):okKd ns (Qc a b):=by
 have hax:=ha.ar;have hbx:=hb.ar;refine⟨⟨by simp only[Qc];omega,h3⟩,KZ,fun t ht=>?_⟩;obtain⟨x,y,⟨hx,hy⟩,hf⟩:=JK.1 ht;obtain⟨lx,rfl,hlx,hrx⟩:=ha.ts x hx;obtain⟨ly,rfl,hly,hry⟩:=hb.ts y hy;unfold uV at hf;simp only[qp]at hf;rw[show a.ar.toNat=lx.length by omega,show b.ar.toNat=ly.length by omega,Ym (by omega) (by omega)]at hf;refine⟨_,hf.symm,?_,fun z hz=>?_⟩
 .show ((lx.take (lx.length-0)++ly.drop 0).length:Int)=a.ar+b.ar
  simp only[zr,vo,List.length_drop];omega
 .rcases qU.1 hz with hz|hz
  .exact hrx z (vI hz)
  .exact hry z (List.mem_of_mem_drop hz)
theorem qeA{ns:Nat}{a:Kd}(ha:okKd ns a)(h2:a.ar=2):okKd ns (kTr a):=by
 refine okKd.of2 rfl (ui (by simp)) (fun t ht=>?_);obtain⟨x,hx,rfl⟩:=kX.1 ht;obtain⟨p,q,rfl,h1,h3,h4,h5⟩:=ha.pairs h2 x hx;exact⟨q,p,rfl,h4,h5,h1,h3⟩
theorem J9{ns:Nat}{a:Kd}(ha:okKd ns a)(h2:a.ar=2):okKd ns (kClo a)/\(kClo a).ar=2:=by
 have:∀(f n:Nat) (a:Kd),okKd ns a->a.ar=2->okKd ns (cloN f n a)/\(cloN f n a).ar=2:=by
  intro f;induction f with
  |zero=>intro n a h h2;exact⟨h,h2⟩
  |succ f ih =>
   intro n a h h2;unfold cloN;split
   .exact ih _ _ (Yl h (Yn h h (by omega) (by omega)) (by simp only[zy];omega)) h2
   .exact ⟨h,h2⟩
 exact this 70 0 a ha h2
theorem qeB{ns:Nat}{op:Int}{a:Kd}(ha:okKd ns a)(h2:a.ar=2):okKd ns (binK ns op a):=by
 unfold binK;split
 .exact (J9 ha h2).1
 .split
  .exact Yl (J9 ha h2).1 (Wb ns 2 (by omega) (by omega)) (by rw[(J9 ha h2).2];rfl)
  .exact qeA ha h2
def ScOk(ns:Nat)(s:Scp):Prop:=∀ v,v∈s->okKd ns v.2/\v.2.ar=1
theorem kZ{nm:ByteArray}:∀{s:Scp} {v:ByteArray×Kd} {r:Scp},yT nm s=v :: r->v∈s
 | [],v,r,h=>by simp[yT]at h
 |w :: s,v,r,h=>by
  unfold yT at h;split at h
  .cases h;exact zW
  .exact zD _ (kZ h)
theorem qeC{ts:TS}(h:okTS ts){nm:ByteArray}{k:Kd}(hk:k∈jM ts nm):okKd ts.sorts.length k:=by
 unfold jM at hk;rcases qU.1 hk with hk|hk
 .unfold yw at hk
  obtain⟨f,hf,e⟩:=List.mem_filterMap.1 hk;split at e
  .cases e
   have:=h.fl f hf;exact J8 this.1 this.2.1 this.2.2
  .exact absurd e (by simp)
 .have:∀(so:List (ByteArray×Bool)) (i:Nat),i+so.length<=ts.sorts.length->∀ k,k∈yx i so nm->okKd ts.sorts.length k:=by
   intro so;induction so with
   |nil=>intro i _ k hk;simp[yx]at hk
   |cons s so ih =>
    intro i hi k hk;simp only[zO]at hi;have h1:okKd ts.sorts.length (kOf [(i:Int)]):=J8 (by simp) (by simp) (fun x hx=>by simp at hx;subst hx;omega);have h2:okKd ts.sorts.length (kOf [(i:Int),(i:Int)]):=J8 (by simp) (by simp) (fun x hx=>by simp at hx;subst hx;omega);simp only[yx,uj,qU]at hk;rcases hk with (hk|hk|hk)|hk
    .split at hk<;>simp at hk;subst hk;exact h1
    .split at hk<;>simp at hk;subst hk;exact h1
    .split at hk<;>simp at hk;subst hk;exact h2
    .exact ih (i+1) (by omega) k hk
  exact this ts.sorts 0 (by omega) k hk
theorem vC(c:Ck)(s:Scp)(inn:Bool)(n:Nd):exam c s inn n =
  if (inn&&yy c n.op n.name)=true then .error (46,n.pos)
  else if n.op=1 then yU c s n.name n.pos
  else if n.op=47 then
   if (c.ts.preds.any fun p=>decide (p.name=n.name))=true then
    match zA c n.name with
    |none => .error (45,n.pos)
    |some p=>match c.ts.preds[p]? with
     |none => .error (45,n.pos)
     |some pd=>if pd.params.length=n.kids.length then zP c s n.pos pd.params n.kids else .error (45,n.pos)
   else .error (40,n.pos)
  else if n.op=15\/n.op=45\/n.op=46 then yI c s (inn||decide (n.op=15)) n.name n.pos n.kids
  else match zo c s (inn||decide (n.op=12)||decide (n.op=13)) n.kids with
   | .error e => .error e
   | .ok l=>yi c.ts.sorts.length n.op n.n n.pos l:=by
 obtain⟨op,nm,k,ks,pos⟩:=n;simp only[exam,Nd.op,Nd.name,Nd.n,Nd.kids,Nd.pos];rfl
theorem Va{c:Ck}{s:Scp}{inn:Bool}:∀{ks:List Nd} {l:List (Option Kd)},zo c s inn ks = .ok l->l.length=ks.length/\∀(i:Nat) k a,ks[i]?=some k->l[i]?=some a->exam c s inn k = .ok a
 | [],l,h=>by simp only[zo,vp]at h;subst h;simp
 |k :: ks,l,h=>by
  simp only[zo]at h;cases hk:exam c s inn k with
  |error e=>rw[hk]at h;exact absurd h (by simp)
  |ok a =>
   rw[hk]at h;simp only at h;cases hl:zo c s inn ks with
   |error e=>rw[hl]at h;exact absurd h (by simp)
   |ok r =>
    rw[hl]at h;simp only[vp]at h;subst h;obtain⟨h1,h2⟩:=Va hl;refine⟨by simp[h1],fun i k' a' hi ha=>?_⟩;cases i with
    |zero=>simp at hi ha;subst hi;subst ha;exact hk
    |succ i=>exact h2 i k' a' (by simpa using hi) (by simpa using ha)
theorem Wc{op:Int}(h:kd op=101):1<=op/\op<=15:=by
 unfold kd at h;split at h
 .assumption
 .split at h
  .exact absurd h (by omega)
  .split at h<;>exact absurd h (by omega)
theorem Wd{ns:Nat}(hns:ns<=4){n:Nd}(hw:WfN n){l:List (Option Kd)}(hl:l.length=n.kids.length)(h:∀(i:Nat) k a,n.kids[i]?=some k->l[i]?=some a->kd k.op=101->∃ q,a=some q/\okKd ns q) :
  ApOk n.op l/\(n.op=5->∃ a,l=[some a]/\okKd ns a)/\(n.op=11\/n.op=12\/n.op=13->∃ a,l=[some a]/\okKd ns a)/\(n.op=6\/n.op=14\/n.op=7\/n.op=8\/n.op=32\/n.op=33\/n.op=9\/n.op=10->∃ a b,l=[some a,some b]/\okKd ns a/\okKd ns b):=by
 have hs:=hw.shape;have h1:n.op=5\/n.op=11\/n.op=12\/n.op=13->∃ a,l=[some a]/\okKd ns a:=by
  intro ho;have e:shp n.op n.kids.length=some [101]:=by
   unfold shp;rw[if_neg (by omega),if_pos (by omega)]
  rw[e]at hs;simp only[qp]at hs
  match hk:n.kids,hs with
  | [k],hs =>
   simp at hs;rw[hk]at hl
   match l,hl with
   | [a],_ =>
    obtain⟨q,rfl,hq⟩:=h 0 k a (by rw[hk];rfl) rfl hs.symm;exact⟨q,rfl,hq⟩
  | [],hs=>simp at hs
  |_ :: _ :: _,hs=>simp at hs
 have h2:n.op=6\/n.op=14\/n.op=7\/n.op=8\/n.op=32\/n.op=33\/n.op=9\/n.op=10->∃ a b,l=[some a,some b]/\okKd ns a/\okKd ns b:=by
  intro ho;have e:shp n.op n.kids.length=some [101,101]:=by
   unfold shp;rw[if_neg (by omega),if_neg (by omega),if_pos (by omega)]
  rw[e]at hs;simp only[qp]at hs
  match hk:n.kids,hs with
  | [k,k'],hs =>
   simp at hs;rw[hk]at hl
   match l,hl with
   | [a,b],_ =>
    obtain⟨q,rfl,hq⟩:=h 0 k a (by rw[hk];rfl) rfl hs.1.symm;obtain⟨q',rfl,hq'⟩:=h 1 k' b (by rw[hk];rfl) rfl hs.2.symm;exact⟨q,q',rfl,hq,hq'⟩
  | [],hs=>simp at hs
  | [_],hs=>simp at hs
  |_ :: _ :: _ :: _,hs=>simp at hs
 refine⟨⟨fun ho=>?_,fun ho=>?_,fun ho=>?_⟩,fun ho=>h1 (.inl ho),fun ho=>h1 (.inr ho),h2⟩
 .obtain ⟨a,rfl,_⟩:=h1 (.inl ho);exact⟨_,rfl⟩
 .obtain ⟨a,rfl,ha⟩:=h1 (.inr ho);exact⟨a,rfl,ha.okK,ha.ok2 hns⟩
 .obtain ⟨a,b,rfl,ha,hb⟩:=h2 ho;exact⟨a,b,rfl,ha.okK,hb.okK⟩
theorem u3{c:Ck}(hc:okCk c):∀(m:Nat) (n:Nd) (s:Scp) (inn:Bool) (ko:Option Kd),szN n<=m->WfN n->ScOk c.ts.sorts.length s->exam c s inn n = .ok ko->kd n.op=101->∃ k,ko=some k/\okKd c.ts.sorts.length k
 | 0,n,_,_,_,hm,_,_,_,_=>by obtain⟨op,nm,i,ks,p⟩:=n;simp[szN]at hm
 |m+1,n,s,inn,ko,hm,hw,hs,h,hop=>by
  have ho:=Wc hop;have hns:=hc.ts.ns;rw[vC]at h;split at h
  .exact absurd h (by simp)
  split at h
  .unfold yU at h
   split at h
   .rename_i v r hf
    simp only[vp]at h;exact⟨v.2,h.symm,(hs v (kZ hf)).1⟩
   .split at h
    .exact absurd h (by simp)
    .rename_i k hk
     simp only[vp]at h;exact⟨k,h.symm,qeC hc.ts (by rw[hk];simp)⟩
    .exact absurd h (by simp)
  split at h
  .omega
  split at h
  .rename_i hb
   have hsh:=hw.shape;have e:shp n.op n.kids.length=some [101,102]:=by
    unfold shp;rw[if_neg (by omega),if_neg (by omega),if_neg (by omega),if_pos (by omega)]
   rw[e]at hsh;simp only[qp]at hsh
   match hk:n.kids,hsh with
   | [a,f],hsh =>
    simp at hsh;rw[hk]at h;simp only[yI]at h;cases hq:exam c s (inn||decide (n.op=15)) a with
    |error e=>rw[hq]at h;exact absurd h (by simp)
    |ok q =>
     obtain⟨k,rfl,hkk⟩:=u3 hc m a s _ q (by have:=yj (n:=n) (k:=a) (by rw[hk];simp);omega) (hw.kid (by rw[hk];simp)) hs hq hsh.1.symm;rw[hq]at h;simp only at h;split at h
     .split at h
      .exact absurd h (by simp)
      .simp only[vp]at h
       exact⟨k,h.symm,hkk⟩
     .exact absurd h (by simp)
   | [],hsh=>simp at hsh
   | [_],hsh=>simp at hsh
   |_ :: _ :: _ :: _,hsh=>simp at hsh
  .rename_i n1 n47 nb
   cases hl:zo c s (inn||decide (n.op=12)||decide (n.op=13)) n.kids with
   |error e=>rw[hl]at h;exact absurd h (by simp)
   |ok l =>
    rw[hl]at h;simp only at h;obtain⟨hlen,hex⟩:=Va hl;obtain⟨_,a5,a1,a2⟩:=Wd (ns:=c.ts.sorts.length) hns hw hlen (fun i k a hi ha hkd=>u3 hc m k s _ a (by have:=yj (n:=n) (qS hi);omega) (hw.kid (qS hi)) hs (hex i k a hi ha) hkd);unfold yi at h;split at h
    .rename_i h2
     simp only[vp]at h;exact⟨_,h.symm,qd6 (hw.num h2)⟩
    split at h
    .simp only[vp]at h
     exact⟨_,h.symm,Wb _ 1 (by omega) (by omega)⟩
    split at h
    .simp only[vp]at h
     exact⟨_,h.symm,Wb _ 2 (by omega) (by omega)⟩
    have hcase:n.op=5\/(n.op=11\/n.op=12\/n.op=13)\/(n.op=6\/n.op=14\/n.op=7\/n.op=8\/n.op=32\/n.op=33\/n.op=9\/n.op=10):=by omega
    rcases hcase with h5|h1|h2
    .obtain ⟨a,rfl,ha⟩:=a5 h5
     simp only[if_pos h5,vp]at h;exact⟨a,h.symm,ha⟩
    .obtain ⟨a,rfl,ha⟩:=a1 h1
     have n5:n.op≠5:=by omega
     simp only[if_neg n5,if_pos h1]at h;split at h
     .simp only[vp]at h
      exact⟨_,h.symm,qeB ha (by assumption)⟩
     .exact absurd h (by simp)
    .obtain ⟨a,b,rfl,ha,hb⟩:=a2 h2
     simp only at h;split at h
     .split at h
      .simp only[vp]at h
       exact⟨_,h.symm,qd8 ha hb (by assumption)⟩
      .exact absurd h (by simp)
     .split at h
      .split at h
       .rename_i hj
        simp only[vp]at h;exact⟨_,h.symm,Yn ha hb hj.1 hj.2⟩
       .exact absurd h (by simp)
      .split at h
       .split at h
        .simp only[vp]at h
         exact⟨_,h.symm,qd9 ha hb (by assumption)⟩
        .exact absurd h (by simp)
       .omega
end P2
namespace EA
open Y1 Y9 P2 E1 E2 E3 E7
structure OkM (x:Mo) (N:Nat):Prop extends OkX x N where
 n0:0<=x.n
 n12:x.n<=12
 st:∀ s,s<N->(x.m.states.getD s []).length=x.ts.fields.length/\∀ r,r∈x.m.states.getD s []->GR x.n r
 at0:∀ i,i<x.ts.sorts.length->0<=gI x.m.sc.atoms i/\0<=sumI (x.m.sc.atoms.take i)/\sumI (x.m.sc.atoms.take i)+gI x.m.sc.atoms i<=x.n
structure OkP (x:Mo) (N:Nat) (p:Pl):Prop where
 st:p.st<N
 env:∀ e,e∈p.env->0<=e.2/\e.2<x.n
theorem OkP.nx{x:Mo}{N:Nat}{p:Pl}(h:OkM x N)(k:OkP x N p):OkP x N ⟨x.nx p.st,p.env⟩:=⟨h.nx _ k.st,k.env⟩
theorem OkP.bind{x:Mo}{N:Nat}{p:Pl}(k:OkP x N p){nm:ByteArray}{a:Int}(ha:0<=a/\a<x.n):OkP x N ⟨p.st,p.env++[(nm,a)]⟩:=⟨k.st,fun e he=>by
 rcases qU.1 he with he|he
 .exact k.env e he
 .rw [qY]at he;subst he;exact ha⟩
theorem yC{α β:Type}{q:XE α}{g:α->XE β}{r:β}(h:bX q g = .ok r):∃ a,q = .ok a/\g a = .ok r:=by
 cases q with
 |error e=>cases h
 |ok a=>exact⟨a,rfl,h⟩
theorem k5{nm:ByteArray}{a:Int}:∀{env:List (ByteArray×Int)} {r:Option Int},env.foldl (fun r e=>if e.1=nm then some e.2 else r) r=some a->r=some a\/∃ e,e∈env/\e.2=a
 | [],r,h => .inl h
 |e :: env,r,h=>by
  rw[List.foldl_cons]at h;rcases k5 h with h|⟨e',h1,h2⟩
  .split at h
   .cases h;exact .inr ⟨e,zW ..,rfl⟩
   .exact .inl h
  .exact .inr ⟨e',zD _ h1,h2⟩
theorem qeD{fs:List Fld}{rs:List Rl}{nm:ByteArray}{r:Rl}(h:r∈j8 fs rs nm):r∈rs:=by
 unfold j8 at h;obtain⟨e,he,hr⟩:=List.mem_filterMap.1 h;split at hr
 .cases hr;exact(List.of_mem_zip (a:=e.1) (b:=e.2) he).2
 .cases hr
theorem k6{x:Mo}{N:Nat}(h:OkM x N)(nm:ByteArray):∀(so:List (ByteArray×Bool)) (i:Nat),i+so.length<=x.ts.sorts.length->∀ r,r∈yA x nm i so->GR x.n r
 | [],i,_,r,hr=>by cases hr
 |s :: so,i,hl,r,hr=>by
  simp only[zO]at hl;obtain⟨a0,a1,a2⟩:=h.at0 i (by omega);rw[yA]at hr;simp only[qU]at hr;have hA:GR x.n ⟨1,zp x i⟩:=GR.run _ a1 (by omega);rcases hr with hr|hr|hr|hr
  .split at hr
   .rw [qY]at hr;subst hr;exact hA
   .cases hr
  .split at hr
   .rw [qY]at hr;subst hr
    exact⟨hA.ar1,hA.ar3,fun t ht=>hA.val t (vI ht),List.Pairwise.sublist (List.take_sublist _ _) hA.srt⟩
   .cases hr
  .split at hr
   .rw [qY]at hr;subst hr
    by_cases hz:(gI x.m.sc.atoms i).toNat=0
    .have e:um x i=[]:=by unfold um;rw[hz];rfl
     rw[e];exact GR.nil (by omega) (by omega)
    .exact GR.steps h.n0 _ a1 (by omega)
   .cases hr
  .exact k6 h nm so (i+1) (by omega) r hr
theorem qeE{l:List Rl}{r:Rl}(h:Zk l = .ok r):r∈l:=by
 match l,h with
 | [q],h=>cases h;exact zW ..
theorem qeF{x:Mo}{N:Nat}(h:OkM x N){p:Pl}(k:OkP x N p){nm:ByteArray}{r:Rl}(e:uY x p nm = .ok r):GR x.n r:=by
 unfold uY at e;cases hl:zI nm p.env with
 |some a =>
  rw[hl]at e;cases e;rcases k5 hl with h1|⟨b,hb,rfl⟩
  .cases h1
  .exact GR.one (k.env b hb).1 (k.env b hb).2
 |none =>
  rw[hl]at e;rcases qU.1 (qeE e) with h1|h1
  .exact (h.st _ k.st).2 r (qeD h1)
  .exact k6 h nm _ 0 (by omega) r h1
theorem We{α:Type}{g:Int->XE α}:∀{ts:List Int} {l:List (Int×α)},mapX (fun a=>bX (g a) fun b => .ok (a,b)) ts = .ok l->l.map Prod.fst=ts
 | [],l,h=>by cases h;rfl
 |t :: ts,l,h=>by
  rw[mapX]at h;obtain⟨b,h1,h2⟩:=yC h;obtain⟨c,h3,h4⟩:=yC h1;cases h4;obtain⟨r,h5,h6⟩:=yC h2;cases h6;rw[yz,We h5]
theorem k7{ds:List Den}{nm:ByteArray}{p:Pl}{l:List (Int×Bool)}(h:zY ds nm p = .ok l):∃ d,(kD ds 0).E p = .ok d/\d.ar=1/\l.map Prod.fst=d.ts:=by
 unfold zY at h;obtain⟨d,h1,h2⟩:=yC h;split at h2
 .rename_i h3;exact⟨d,h1,h3,We h2⟩
 .cases h2
theorem ur{ds:List Den}{p:Pl}{q:Rl×Rl}(h:zT ds p = .ok q):(kD ds 0).E p = .ok q.1/\(kD ds 1).E p = .ok q.2/\q.1.ar=q.2.ar:=by
 unfold zT at h;obtain⟨a,h1,h2⟩:=yC h;obtain⟨b,h3,h4⟩:=yC h2;split at h4
 .rename_i h5;cases h4;exact⟨h1,h3,h5⟩
 .cases h4
theorem Zp{ds:List Den}{p:Pl}{a:Rl}(h:binE ds p = .ok a):(kD ds 0).E p = .ok a/\a.ar=2:=by
 unfold binE at h;obtain⟨b,h1,h2⟩:=yC h;split at h2
 .rename_i h3;cases h2;exact⟨h1,h3⟩
 .cases h2
theorem qeG{x:Mo}{N:Nat}(h:OkM x N){op:Int}{nm:ByteArray}{i:Int}{ds:List Den}(hi:op=2->1<=i/\i<=3)(hK:∀ j p r,OkP x N p->(kD ds j).E p = .ok r->GR x.n r){p:Pl}(k:OkP x N p){r:Rl}(e:opE x op nm i ds p = .ok r):GR x.n r:=by
 have n0:=h.n0;unfold opE at e;by_cases o1:op=1
 .rw [if_pos o1]at e
  exact qeF h k e
 rw[if_neg o1]at e;by_cases o2:op=2
 .rw [if_pos o2]at e
  cases e;exact GR.nil (hi o2).1 (hi o2).2
 rw[if_neg o2]at e;by_cases o3:op=3
 .rw [if_pos o3]at e
  cases e;have:=GR.run (n:=x.n) (a:=0) x.n.toNat (by omega) (by omega);simpa using this
 rw[if_neg o3]at e;by_cases o4:op=4
 .rw [if_pos o4]at e
  cases e;exact GR.iden n0
 rw[if_neg o4]at e;by_cases o5:op=5
 .rw [if_pos o5]at e
  exact hK 0 _ r (k.nx h) e
 rw[if_neg o5]at e;by_cases o6:op=6
 .rw [if_pos o6]at e
  obtain⟨q,h1,h2⟩:=yC e;obtain⟨g1,g2,g3⟩:=ur h1;cases h2;exact GR.union (hK 0 p _ k g1) (hK 1 p _ k g2) g3
 rw[if_neg o6]at e;by_cases o7:op=7
 .rw [if_pos o7]at e
  obtain⟨q,h1,h2⟩:=yC e;obtain⟨g1,g2,g3⟩:=ur h1;cases h2;exact GR.filter (hK 0 p _ k g1) _
 rw[if_neg o7]at e;by_cases o8:op=8
 .rw [if_pos o8]at e
  obtain⟨q,h1,h2⟩:=yC e;obtain⟨g1,g2,g3⟩:=ur h1;cases h2;exact GR.filter (hK 0 p _ k g1) _
 rw[if_neg o8]at e;by_cases o9:op=9
 .rw [if_pos o9]at e
  obtain⟨a,h1,h2⟩:=yC e;obtain⟨b,h3,h4⟩:=yC h2;unfold un at h4;split at h4
  .rename_i h5;cases h4;exact GR.join n0 (hK 0 p _ k h1) (hK 1 p _ k h3) h5.1 h5.2
  .cases h4
 rw[if_neg o9]at e;by_cases o10:op=10
 .rw [if_pos o10]at e
  obtain⟨a,h1,h2⟩:=yC e;obtain⟨b,h3,h4⟩:=yC h2;unfold wD at h4;split at h4
  .rename_i h5;cases h4;exact GR.prod n0 (hK 0 p _ k h1) (hK 1 p _ k h3) h5
  .cases h4
 rw[if_neg o10]at e;by_cases o11:op=11
 .rw [if_pos o11]at e
  obtain⟨a,h1,h2⟩:=yC e;obtain⟨g1,g2⟩:=Zp h1;cases h2;exact GR.trans n0 (hK 0 p _ k g1) g2
 rw[if_neg o11]at e;by_cases o12:op=12
 .rw [if_pos o12]at e
  obtain⟨a,h1,h2⟩:=yC e;obtain⟨g1,g2⟩:=Zp h1;cases h2;exact(GR.clos n0 _ (hK 0 p _ k g1) g2).1
 rw[if_neg o12]at e;by_cases o13:op=13
 .rw [if_pos o13]at e
  obtain⟨a,h1,h2⟩:=yC e;obtain⟨g1,g2⟩:=Zp h1;obtain⟨c1,c2⟩:=GR.clos n0 200 (hK 0 p _ k g1) g2;cases h2;exact GR.union c1 (GR.iden n0) c2
 rw[if_neg o13]at e;by_cases o14:op=14
 .rw [if_pos o14]at e
  obtain⟨q,h1,h2⟩:=yC e;obtain⟨g1,g2,g3⟩:=ur h1;cases h2;exact GR.over (hK 0 p _ k g1) (hK 1 p _ k g2) g3
 rw[if_neg o14]at e;by_cases o15:op=15
 .rw [if_pos o15]at e
  obtain⟨l,h1,h2⟩:=yC e;obtain⟨d,g1,g2,g3⟩:=k7 h1;cases h2;have gd:=hK 0 p d k g1;have hs:List.Sublist ((l.filter fun e=>e.2).map fun e=>e.1) d.ts:=by rw[<-g3];exact List.Sublist.map _ List.filter_sublist
  refine⟨by show (1:Int)<=1;omega,by show (1:Int)<=3;omega,fun t ht=>?_,List.Pairwise.sublist hs gd.srt⟩;have:=gd.val t (hs.subset ht);rw[g2]at this;exact this
 rw[if_neg o15]at e;cases e
theorem Vb{x:Mo}{N:Nat}(h:OkM x N):∀(m:Nat) (n:Nd),szN n<=m->WfN n->∀(p:Pl) (r:Rl),OkP x N p->(den x n).E p = .ok r->GR x.n r
 | 0,n,hm,_,_,_,_,_=>by obtain⟨op,nm,i,ks,p⟩:=n;simp[szN]at hm
 |m+1,n,hm,hw,p,r,k,e=>by
  rw[Zl]at e;refine qeG h hw.num (fun j p r k e=>?_) k e;unfold kD at e;by_cases hj:j<n.kids.length
  .have hd:(n.kids.map (den x)).getD j noD=den x n.kids[j]:=by simp[List.getD,hj]
   rw[hd]at e;exact Vb h m n.kids[j] (by have:=yj (qw hj);omega) (hw.kid (qw hj)) p r k e
  .have hd:(n.kids.map (den x)).getD j noD=noD:=by simp[List.getD,hj]
   rw[hd]at e;cases e
end EA
namespace F2
open Y1 Y9 E1 E2 E3 EA EQ ER EY EZ F1
structure Ev3 (x:Mo) (p:Pl) (n:Nd):Prop where
 E:qL qc 53 [eMa x,ePl p,eNd n] (endE ((den x n).E p))
 N:qL qc 62 [eMa x,ePl p,eNd n] (endN ((den x n).N p))
 F:qL qc 63 [eMa x,ePl p,eNd n] (endB ((den x n).F p))
 G:∀ r,(den x n).E p = .ok r->GR x.n r
structure OkMa (x:Mo) (N:Nat):Prop extends OkM x N where
 gsc:GSc x.m.sc
 pos:∀ a,a∈x.m.sc.atoms->0<=a
 al:x.m.sc.atoms.length=x.ts.sorts.length
 loop:0<=x.m.loop
 N1:N<=1000
 ts:okTS x.ts
mutual
def dN:Nd->Nat
 | .mk _ _ _ ks _=>dNs ks+1
def dNs:List Nd->Nat
 | []=>0
 |k :: ks=>max (dN k) (dNs ks)
end
theorem k8(n:Nd):dN n=dNs n.kids+1:=by
 obtain⟨op,nm,i,ks,p⟩:=n;rfl
theorem qeH{ks:List Nd}{k:Nd}(h:k∈ks):dN k<=dNs ks:=by
 induction ks with
 |nil=>simp at h
 |cons a l ih =>
  simp only[dNs];rcases qz.1 h with rfl|h
  .omega
  .have:=ih h;omega
theorem qeI{n k:Nd}(h:k∈n.kids):dN k<dN n:=by
 have:=qeH h;rw[k8 n];omega
abbrev IH(x:Mo)(N:Nat)(n:Nd):Prop:=∀ k,k∈n.kids->∀ p:Pl,OkP x N p->p.env.length+dN n<=1000001->Ev3 x p k
abbrev bd(p:Pl)(n:Nd):Prop:=p.env.length+dN n<=1000000
theorem qeJ{mu:Mu}{r s:Rl}{x y:AV}(h:Rd mu x (eRel r))(h2:Rd mu y (eRel s)):Rd mu (.tup [x,y]) (.tup [eRel r,eRel s]):=by
 refine .tup _ _ rfl fun k u v hu hv=>?_
 match k with
 | 0=>simp at hu hv;subst hu;subst hv;exact h
 | 1=>simp at hu hv;subst hu;subst hv;exact h2
 |k+2=>simp at hu
theorem Zq(x:Mo)(N:Nat)(n a b:Nd)(hk:n.kids=[a,b])(ih:IH x N n)(p:Pl)(hp:OkP x N p)(hq:bd p n) :
  qL qc 122 [eMa x,ePl p,eNd n] (end2 (zT [den x a,den x b] p)):=by
 refine qT.of_sound ?_;refine qSW call122 func122 rfl {} ?_;have ha:=(ih a (by rw[hk];simp) p hp (by omega)).E;have hb:=(ih b (by rw[hk];simp) p hp (by omega)).E;have wa:=wk3 x p a;have wb:=wk3 x p b;have hM:=zq x;generalize hE:zT [den x a,den x b] p=E;unfold zT at hE;simp only[kD,vJ,List.getD_cons_succ]at hE;generalize eMa x=M at *
 simp[go_sem,hk];refine qg.seg [0,1,2,3,4,5,7,8,9,10,11,12,6,13,14,15,16,17] [(0,0,[]),(1,0,[]),(2,0,[]),(3,0,[]),(4,0,[]),(5,0,[]),(7,0,[]),(8,0,[]),(9,0,[]),(10,0,[]),(11,0,[]),(12,0,[]),(6,1,[8,10,12]),(13,1,[]),(14,2,[1,3,5,8,10,12]),(15,2,[1,3,5,8,10,12]),(16,1,[]),(17,1,[])] (by kernel_rfl) (by kernel_rfl) (by simp[go_sem]) ?_;simp[go_sem,hk];cases ea:(den x a).E p with
 |error e =>
  rw[ea]at ha hE;subst hE;refine qe.pans ha wa ?_;simp[go_sem];exact .hf _ (qG _)
 |ok r =>
  rw[ea]at ha hE;rw[qO]at hE;refine qe.pure ha.toP wa ?_;simp[go_sem,hk];cases eb:(den x b).E p with
  |error e =>
   rw[eb]at hb hE;subst hE;refine qe.pans hb wb ?_;simp[go_sem];exact .hf _ (qG _)
  |ok s =>
   rw[eb]at hb hE;rw[qO]at hE;refine qe.pure hb.toP wb ?_;by_cases he:r.ar=s.ar
   .rw [if_pos he]at hE
    subst hE;have hd:(r.ar=s.ar)=True:=eq_true he;simp[go_sem,hk,hd];refine qg.seg [0,1,2,3] [(0,0,[]),(1,0,[]),(2,1,[1]),(3,1,[])] (by kernel_rfl) (by kernel_rfl) (by simp[go_sem]) ?_;simp[go_sem,hk];exact qeJ (.hf _ (qR r)) (.hf _ (qR s))
   .rw [if_neg he]at hE
    subst hE;simp[go_sem,hk,he];refine qe.pans (uo 42) (wkI 42) ?_;simp[go_sem];exact .hf _ (qG _)
theorem qeK(x:Mo)(N:Nat)(n a b:Nd)(hM:OkMa x N)(hk:n.kids=[a,b])(ih:IH x N n)(p:Pl)(hp:OkP x N p)(hq:bd p n) :
  qL qc 98 [eMa x,ePl p,eNd n] (endE (bX (zT [den x a,den x b] p) fun q => .ok (unR q.1 q.2))):=by
 refine qT.of_sound ?_;refine qSW call98 func98 rfl {} ?_;have hpx:=Zq x N n a b hk ih p hp hq;have wx:=wk3 x p n;have hMf:=zq x;cases hE:zT [den x a,den x b] p with
 |error e =>
  rw[hE]at hpx;rw[q9];simp[go_sem];refine qe.pans hpx wx ?_;simp[go_sem];exact .hf _ (qG _)
 |ok q =>
  obtain⟨r,s⟩:=q;obtain⟨h1,h2,h3⟩:=ur hE;simp only[kD,vJ,List.getD_cons_succ]at h1 h2;have gr:=(ih a (by rw[hk];simp) p hp (by omega)).G _ h1;have gs:=(ih b (by rw[hk];simp) p hp (by omega)).G _ h2;have lr:=gr.len hM.n0 (by have:=hM.n12;omega);have ls:=gs.len hM.n0 (by have:=hM.n12;omega);rw[hE]at hpx;rw[qO];simp[go_sem];refine qe.pure hpx.toP wx ?_;simp[go_sem];refine qe.pure (jO r s (by omega) (by omega)) (wkR2 r s) ?_;simp[go_sem];exact .hf _ (qR _)
theorem qeL(x:Mo)(N:Nat)(n a b:Nd)(hM:OkMa x N)(hk:n.kids=[a,b])(ih:IH x N n)(p:Pl)(hp:OkP x N p)(hq:bd p n) :
  qL qc 99 [eMa x,ePl p,eNd n] (endE (bX (zT [den x a,den x b] p) fun q => .ok (inR q.1 q.2))):=by
 refine qT.of_sound ?_;refine qSW call99 func99 rfl {} ?_;have hpx:=Zq x N n a b hk ih p hp hq;have wx:=wk3 x p n;have hMf:=zq x;cases hE:zT [den x a,den x b] p with
 |error e =>
  rw[hE]at hpx;rw[q9];simp[go_sem];refine qe.pans hpx wx ?_;simp[go_sem];exact .hf _ (qG _)
 |ok q =>
  obtain⟨r,s⟩:=q;obtain⟨h1,h2,h3⟩:=ur hE;simp only[kD,vJ,List.getD_cons_succ]at h1 h2;have gr:=(ih a (by rw[hk];simp) p hp (by omega)).G _ h1;have gs:=(ih b (by rw[hk];simp) p hp (by omega)).G _ h2;have lr:=gr.len hM.n0 (by have:=hM.n12;omega);have ls:=gs.len hM.n0 (by have:=hM.n12;omega);rw[hE]at hpx;rw[qO];simp[go_sem];refine qe.pure hpx.toP wx ?_;simp[go_sem];refine qe.pure (J6 r s (by omega) (by omega)) (wkR2 r s) ?_;simp[go_sem];exact .hf _ (qR _)
theorem diffX(x:Mo)(N:Nat)(n a b:Nd)(hM:OkMa x N)(hk:n.kids=[a,b])(ih:IH x N n)(p:Pl)(hp:OkP x N p)(hq:bd p n) :
  qL qc 100 [eMa x,ePl p,eNd n] (endE (bX (zT [den x a,den x b] p) fun q => .ok (diR q.1 q.2))):=by
 refine qT.of_sound ?_;refine qSW call100 func100 rfl {} ?_;have hpx:=Zq x N n a b hk ih p hp hq;have wx:=wk3 x p n;have hMf:=zq x;cases hE:zT [den x a,den x b] p with
 |error e =>
  rw[hE]at hpx;rw[q9];simp[go_sem];refine qe.pans hpx wx ?_;simp[go_sem];exact .hf _ (qG _)
 |ok q =>
  obtain⟨r,s⟩:=q;obtain⟨h1,h2,h3⟩:=ur hE;simp only[kD,vJ,List.getD_cons_succ]at h1 h2;have gr:=(ih a (by rw[hk];simp) p hp (by omega)).G _ h1;have gs:=(ih b (by rw[hk];simp) p hp (by omega)).G _ h2;have lr:=gr.len hM.n0 (by have:=hM.n12;omega);have ls:=gs.len hM.n0 (by have:=hM.n12;omega);rw[hE]at hpx;rw[qO];simp[go_sem];refine qe.pure hpx.toP wx ?_;simp[go_sem];refine qe.pure (kM r s (by omega) (by omega)) (wkR2 r s) ?_;simp[go_sem];exact .hf _ (qR _)
theorem overX(x:Mo)(N:Nat)(n a b:Nd)(hM:OkMa x N)(hk:n.kids=[a,b])(ih:IH x N n)(p:Pl)(hp:OkP x N p)(hq:bd p n) :
  qL qc 101 [eMa x,ePl p,eNd n] (endE (bX (zT [den x a,den x b] p) fun q => .ok (ovR x.n q.1 q.2))):=by
 refine qT.of_sound ?_;refine qSW call101 func101 rfl {} ?_;have hpx:=Zq x N n a b hk ih p hp hq;have wx:=wk3 x p n;have hMf:=zq x;cases hE:zT [den x a,den x b] p with
 |error e =>
  rw[hE]at hpx;rw[q9];simp[go_sem];refine qe.pans hpx wx ?_;simp[go_sem];exact .hf _ (qG _)
 |ok q =>
  obtain⟨r,s⟩:=q;obtain⟨h1,h2,h3⟩:=ur hE;simp only[kD,vJ,List.getD_cons_succ]at h1 h2;have gr:=(ih a (by rw[hk];simp) p hp (by omega)).G _ h1;have gs:=(ih b (by rw[hk];simp) p hp (by omega)).G _ h2;have lr:=gr.len hM.n0 (by have:=hM.n12;omega);have ls:=gs.len hM.n0 (by have:=hM.n12;omega);rw[hE]at hpx;rw[qO];simp[go_sem];refine qe.pure hpx.toP wx ?_;simp[go_sem];refine qg.intro (by kernel_rfl) ?_;simp[go_sem];refine qe.pure (overU x.n hM.n0 hM.n12 r s gr gs h3) (wkJ x.n r s) ?_;simp[go_sem];exact .hf _ (qR _)
end F2
namespace F3
open Y1 E1 E2 E3 EA EL EQ ET EY F1 F2
theorem OkMa.n20{x:Mo}{N:Nat}(h:OkMa x N):x.n<=20:=by have:=h.n12;omega
theorem GR.lens{n:Int}(h0:0<=n)(h12:n<=12){a b:Rl}(ga:GR n a)(gb:GR n b)(h:a.ar+b.ar<=5):a.ts.length*b.ts.length<=1000000:=by
 have key:∀{c:Rl},GR n c->(c.ar=1->c.ts.length<=12)/\(c.ar=2->c.ts.length<=144)/\c.ts.length<=1728:=fun {c} g=>by
  have e2:n*n<=12*12:=jt h12 h12 h0 (by omega);have e20:0<=n*n:=Int.mul_nonneg h0 h0;have e3:n*n*n<=12*12*12:=jt e2 h12 h0 (by omega);have p1:powI n 1=n:=vB n;have p2:powI n 2=n*n:=EC.kQ n;have p3:powI n 3=n*n*n:=by
   have:=uq (n:=n) (i:=2) (j:=1) (by omega) (by omega) (by omega);rw[p1,p2]at this;exact this
  have c1:=g.ar1;have c3:=g.ar3;refine⟨fun e=>Yg g.srt fun t ht=>?_,fun e=>Yg g.srt fun t ht=>?_,Yg g.srt fun t ht=>?_⟩
  .have:=g.val t ht;rw[e,p1]at this;omega
  .have:=g.val t ht;rw[e,p2]at this;omega
  .have hv:=g.val t ht
   have:c.ar=1\/c.ar=2\/c.ar=3:=by omega
   rcases this with e|e|e
   .rw [e,p1]at hv;omega
   .rw [e,p2]at hv;omega
   .rw [e,p3]at hv;omega
 obtain⟨a1,a2,a3⟩:=key ga;obtain⟨b1,b2,b3⟩:=key gb;have:=ga.ar1;have:=gb.ar1;by_cases ea:a.ar=1
 .exact zz (Nat.mul_le_mul (a1 ea) b3) (by omega)
 .by_cases eb:b.ar=1
  .exact zz (Nat.mul_le_mul a3 (b1 eb)) (by omega)
  .by_cases ea2:a.ar=2
   .exact zz (Nat.mul_le_mul (a2 ea2) b3) (by omega)
   .exact zz (Nat.mul_le_mul a3 (b2 (by omega))) (by omega)
theorem k9(x:Mo)(N:Nat)(n a:Nd)(rest:List Nd)(hk:n.kids=a :: rest)(ih:IH x N n)(p:Pl)(hp:OkP x N p)(hq:bd p n) :
  qL qc 164 [eMa x,ePl p,eNd n] (endE (binE [den x a] p)):=by
 refine qT.of_sound ?_;refine qSW call164 func164 rfl {} ?_;have ha:=(ih a (by rw[hk];simp) p hp (by omega)).E;have wa:=wk3 x p a;generalize hE:binE [den x a] p=E;unfold binE at hE;simp only[kD,vJ]at hE;generalize eMa x=M at *
 simp[go_sem,hk];refine qg.seg [0,1,2,3,4,5,6,7,8] [(0,0,[]),(1,0,[]),(2,0,[]),(3,0,[]),(4,0,[]),(5,0,[]),(6,1,[]),(7,2,[1,3,5]),(8,1,[])] (by kernel_rfl) (by kernel_rfl) (by simp[go_sem]) ?_;simp[go_sem,hk];cases ea:(den x a).E p with
 |error e =>
  rw[ea]at ha hE;subst hE;refine qe.pans ha wa ?_;simp[go_sem,q9];exact .hf _ (qG _)
 |ok r =>
  rw[ea]at ha hE;rw[qO]at hE;refine qe.pure ha.toP wa ?_;by_cases he:r.ar=2
  .rw [if_pos he]at hE
   subst hE;have hd:(r.ar=2)=True:=eq_true he;simp[go_sem,hk,hd];exact .hf _ (qR r)
  .rw [if_neg he]at hE
   subst hE;simp[go_sem,hk,he];refine qe.pans (uo 42) (wkI 42) ?_;simp[go_sem];exact .hf _ (qG _)
theorem joinX(x:Mo)(N:Nat)(n a b:Nd)(hM:OkMa x N)(hk:n.kids=[a,b])(ih:IH x N n)(p:Pl)(hp:OkP x N p)(hq:bd p n) :
  qL qc 102 [eMa x,ePl p,eNd n] (endE (bX ((den x a).E p) fun r=>bX ((den x b).E p) fun s=>un x.n r s)):=by
 refine qT.of_sound ?_;refine qSW call102 func102 rfl {} ?_;have ia:=ih a (by rw[hk];simp) p hp (by omega);have ib:=ih b (by rw[hk];simp) p hp (by omega);have ha:=ia.E;have hb:=ib.E;have wa:=wk3 x p a;have wb:=wk3 x p b;have g0:=hM.n0;have g1:=hM.n12;generalize hE:(bX ((den x a).E p) fun r=>bX ((den x b).E p) fun s=>un x.n r s)=E;simp[go_sem,hk];refine qg.seg [0,1,2,3,4,5,7,8,9,10,11,12,6,13,14,15,16,17] [(0,0,[]),(1,0,[]),(2,0,[]),(3,0,[]),(4,0,[]),(5,0,[]),(7,0,[]),(8,0,[]),(9,0,[]),(10,0,[]),(11,0,[]),(12,0,[]),(6,1,[8,10,12]),(13,1,[]),(14,2,[1,3,5,8,10,12]),(15,2,[1,3,5,8,10,12]),(16,1,[]),(17,1,[])] (by kernel_rfl) (by kernel_rfl) (by simp[go_sem]) ?_;simp[go_sem,hk];cases ea:(den x a).E p with
 |error e =>
  rw[ea]at ha hE;subst hE;refine qe.pans ha wa ?_;simp[go_sem,q9];exact .hf _ (qG _)
 |ok r =>
  rw[ea]at ha hE;rw[qO]at hE;refine qe.pure ha.toP wa ?_;simp[go_sem,hk];cases eb:(den x b).E p with
  |error e =>
   rw[eb]at hb hE;subst hE;refine qe.pans hb wb ?_;simp[go_sem,q9];exact .hf _ (qG _)
  |ok s =>
   rw[eb]at hb hE;rw[qO]at hE;refine qe.pure hb.toP wb ?_;have gr:=ia.G _ ea;have gs:=ib.G _ eb;have lr:=gr.len g0 (by omega);have ls:=gs.len g0 (by omega);simp[go_sem,hk];refine qg.seg [0,1,2,3,4,5,6,7,8,9,10] [(0,0,[]),(1,0,[]),(2,0,[]),(3,0,[]),(4,0,[]),(5,0,[]),(6,1,[]),(7,0,[]),(8,0,[]),(9,1,[]),(10,1,[])] (by kernel_rfl) (by kernel_rfl) (by simp[go_sem]) ?_;simp[go_sem,hk];have hj:=ul x.n g0 g1 r s gr gs (GR.lens g0 g1 gr gs);cases ej:un x.n r s with
   |error e =>
    rw[ej]at hj hE;subst hE;have he:e≠0:=by
     unfold un at ej;split at ej
     .cases ej
     .cases ej;omega
    have hc:=J3 ⟨0,[]⟩ e;rw[if_neg he]at hc;refine qe.pure hj (wkJ x.n r s) ?_;simp[go_sem];refine qe.pans hc (.cons (.hf (qR _)) (.cons (.hf (HF.sc _)) .nil)) ?_;simp[go_sem];exact .hf _ (qG _)
   |ok u =>
    rw[ej]at hj hE;subst hE;have hc:=J3 u 0;rw[if_pos rfl]at hc;refine qe.pure hj (wkJ x.n r s) ?_;simp[go_sem];refine qe.pure hc.toP (.cons (.hf (qR _)) (.cons (.hf (HF.sc _)) .nil)) ?_;simp[go_sem];exact .hf _ (qR u)
theorem qeM(x:Mo)(N:Nat)(n a b:Nd)(hM:OkMa x N)(hk:n.kids=[a,b])(ih:IH x N n)(p:Pl)(hp:OkP x N p)(hq:bd p n) :
  qL qc 103 [eMa x,ePl p,eNd n] (endE (bX ((den x a).E p) fun r=>bX ((den x b).E p) fun s=>wD x.n r s)):=by
 refine qT.of_sound ?_;refine qSW call103 func103 rfl {} ?_;have ia:=ih a (by rw[hk];simp) p hp (by omega);have ib:=ih b (by rw[hk];simp) p hp (by omega);have ha:=ia.E;have hb:=ib.E;have wa:=wk3 x p a;have wb:=wk3 x p b;have g0:=hM.n0;have g1:=hM.n12;generalize hE:(bX ((den x a).E p) fun r=>bX ((den x b).E p) fun s=>wD x.n r s)=E;simp[go_sem,hk];refine qg.seg [0,1,2,3,4,5,7,8,9,10,11,12,6,13,14,15,16,17] [(0,0,[]),(1,0,[]),(2,0,[]),(3,0,[]),(4,0,[]),(5,0,[]),(7,0,[]),(8,0,[]),(9,0,[]),(10,0,[]),(11,0,[]),(12,0,[]),(6,1,[8,10,12]),(13,1,[]),(14,2,[1,3,5,8,10,12]),(15,2,[1,3,5,8,10,12]),(16,1,[]),(17,1,[])] (by kernel_rfl) (by kernel_rfl) (by simp[go_sem]) ?_;simp[go_sem,hk];cases ea:(den x a).E p with
 |error e =>
  rw[ea]at ha hE;subst hE;refine qe.pans ha wa ?_;simp[go_sem,q9];exact .hf _ (qG _)
 |ok r =>
  rw[ea]at ha hE;rw[qO]at hE;refine qe.pure ha.toP wa ?_;simp[go_sem,hk];cases eb:(den x b).E p with
  |error e =>
   rw[eb]at hb hE;subst hE;refine qe.pans hb wb ?_;simp[go_sem,q9];exact .hf _ (qG _)
  |ok s =>
   rw[eb]at hb hE;rw[qO]at hE;refine qe.pure hb.toP wb ?_;have gr:=ia.G _ ea;have gs:=ib.G _ eb;have lr:=gr.len g0 (by omega);have ls:=gs.len g0 (by omega);simp[go_sem,hk];refine qg.seg [0,1,2,3,4,5,6,7,8,9,10] [(0,0,[]),(1,0,[]),(2,0,[]),(3,0,[]),(4,0,[]),(5,0,[]),(6,1,[]),(7,0,[]),(8,0,[]),(9,1,[]),(10,1,[])] (by kernel_rfl) (by kernel_rfl) (by simp[go_sem]) ?_;simp[go_sem,hk];have hj:=UH x.n g0 g1 r s gr gs;cases ej:wD x.n r s with
   |error e =>
    rw[ej]at hj hE;subst hE;have he:e≠0:=by
     unfold wD at ej;split at ej
     .cases ej
     .cases ej;omega
    have hc:=J3 ⟨0,[]⟩ e;rw[if_neg he]at hc;refine qe.pure hj (wkJ x.n r s) ?_;simp[go_sem];refine qe.pans hc (.cons (.hf (qR _)) (.cons (.hf (HF.sc _)) .nil)) ?_;simp[go_sem];exact .hf _ (qG _)
   |ok u =>
    rw[ej]at hj hE;subst hE;have hc:=J3 u 0;rw[if_pos rfl]at hc;refine qe.pure hj (wkJ x.n r s) ?_;simp[go_sem];refine qe.pure hc.toP (.cons (.hf (qR _)) (.cons (.hf (HF.sc _)) .nil)) ?_;simp[go_sem];exact .hf _ (qR u)
theorem qeN(x:Mo)(N:Nat)(n a:Nd)(hM:OkMa x N)(hk:n.kids=[a])(ih:IH x N n)(p:Pl)(hp:OkP x N p)(hq:bd p n) :
  qL qc 107 [eMa x,ePl p,eNd n] (endE ((den x a).E ⟨x.nx p.st,p.env⟩)):=by
 refine qT.of_sound ?_;refine qSW call107 func107 rfl {} ?_;have ha:=(ih a (by rw[hk];simp) _ (OkP.nx hM.toOkM hp) (by show p.env.length+_<=_;omega)).E;have wa:=wk3 x ⟨x.nx p.st,p.env⟩ a;have hN:=hM.N1;have hl:=hM.len;have hnx:=J0 x hM.loop (by omega) p.st (by have:=hp.st;omega);have hnw:WKs [eMd x.m,aI p.st] [eMd x.m,aI p.st] := .cons (.hf (yB x.m)) (.cons (.hf (HF.sc _)) .nil);simp[go_sem,hk];refine qg.seg [0,1,2,3,4,5,6,8,9,11,12,13,14,7,10,15,16] [(0,0,[]),(1,0,[]),(2,0,[]),(3,0,[]),(4,0,[]),(5,0,[]),(6,0,[]),(8,0,[]),(9,0,[]),(11,0,[]),(12,0,[]),(13,0,[]),(14,0,[]),(7,1,[9,12,14]),(10,0,[]),(15,1,[]),(16,1,[])] (by kernel_rfl) (by kernel_rfl) (by simp[go_sem]) ?_;simp[go_sem,hk];refine qe.pure hnx hnw ?_;simp[go_sem,hk];cases ea:(den x a).E ⟨x.nx p.st,p.env⟩ with
 |error e =>
  rw[ea]at ha;refine qe.pans ha wa ?_;simp[go_sem];exact .hf _ (qG _)
 |ok r =>
  rw[ea]at ha;refine qe.pure ha.toP wa ?_;simp[go_sem];exact .hf _ (qR r)
theorem wkT(n:Int)(a:Rl):WKs [aI n,eRel a] [aI n,eRel a] := .cons (.hf (HF.sc _)) (.cons (.hf (qR a)) .nil)
theorem qeO(x:Mo)(N:Nat)(n a:Nd)(hM:OkMa x N)(hk:n.kids=[a])(ih:IH x N n)(p:Pl)(hp:OkP x N p)(hq:bd p n) :
  qL qc 104 [eMa x,ePl p,eNd n] (endE (bX (binE [den x a] p) fun a => .ok (trR x.n a))):=by
 refine qT.of_sound ?_;refine qSW call104 func104 rfl {} ?_;have hb:=k9 x N n a [] hk ih p hp hq;have wx:=wk3 x p n;have hMf:=zq x;have g0:=hM.n0;have g1:=hM.n12;simp[go_sem];refine qg.seg [0,1,2,3,4,5,6,7,8,9] [(0,0,[]),(1,0,[]),(2,0,[]),(3,0,[]),(4,0,[]),(5,0,[]),(6,0,[]),(7,1,[3]),(8,1,[]),(9,1,[])] (by kernel_rfl) (by kernel_rfl) (by simp[go_sem]) ?_;simp[go_sem];cases hE:binE [den x a] p with
 |error e =>
  rw[hE]at hb;refine qe.pans hb wx ?_;simp[go_sem,q9];exact .hf _ (qG _)
 |ok r =>
  rw[hE]at hb;obtain⟨h1,h2⟩:=Zp hE;simp only[kD,vJ]at h1;have gr:=(ih a (by rw[hk];simp) p hp (by omega)).G _ h1;refine qe.pure hb.toP wx ?_;simp[go_sem,qO];refine qe.pure (qdI x.n g0 g1 r gr h2) (wkT x.n r) ?_;simp[go_sem];exact .hf _ (qR _)
theorem pa(x:Mo)(N:Nat)(n a:Nd)(hM:OkMa x N)(hk:n.kids=[a])(ih:IH x N n)(p:Pl)(hp:OkP x N p)(hq:bd p n) :
  qL qc 105 [eMa x,ePl p,eNd n] (endE (bX (binE [den x a] p) fun a => .ok (clR x.n 200 a))):=by
 refine qT.of_sound ?_;refine qSW call105 func105 rfl {} ?_;have hb:=k9 x N n a [] hk ih p hp hq;have wx:=wk3 x p n;have hMf:=zq x;have g0:=hM.n0;have g1:=hM.n12;simp[go_sem];refine qg.seg [0,1,2,3,4,5,6,7,8,9] [(0,0,[]),(1,0,[]),(2,0,[]),(3,0,[]),(4,0,[]),(5,0,[]),(6,0,[]),(7,1,[3]),(8,1,[]),(9,1,[])] (by kernel_rfl) (by kernel_rfl) (by simp[go_sem]) ?_;simp[go_sem];cases hE:binE [den x a] p with
 |error e =>
  rw[hE]at hb;refine qe.pans hb wx ?_;simp[go_sem,q9];exact .hf _ (qG _)
 |ok r =>
  rw[hE]at hb;obtain⟨h1,h2⟩:=Zp hE;simp only[kD,vJ]at h1;have gr:=(ih a (by rw[hk];simp) p hp (by omega)).G _ h1;refine qe.pure hb.toP wx ?_;simp[go_sem,qO];refine qe.pure (closU x.n g0 g1 r gr h2) (wkT x.n r) ?_;simp[go_sem];exact .hf _ (qR _)
theorem pb(n:Int)(h0:0<=n)(h1:n<=12):qj qc 38 [aI n] (eRel (idR n)):=by
 have:=idenU n.toNat (by omega);rw[show ((n.toNat:Nat):Int)=n by omega]at this;exact this
theorem qeP(x:Mo)(N:Nat)(n a:Nd)(hM:OkMa x N)(hk:n.kids=[a])(ih:IH x N n)(p:Pl)(hp:OkP x N p)(hq:bd p n) :
  qL qc 106 [eMa x,ePl p,eNd n] (endE (bX (binE [den x a] p) fun a => .ok (unR (clR x.n 200 a) (idR x.n)))):=by
 refine qT.of_sound ?_;refine qSW call106 func106 rfl {} ?_;have hb:=pa x N n a hM hk ih p hp hq;have wx:=wk3 x p n;have hMf:=zq x;have g0:=hM.n0;have g1:=hM.n12;simp[go_sem];refine qg.seg [0,1,2,4,5,6,7,3,8,9,10] [(0,0,[]),(1,0,[]),(2,0,[]),(4,0,[]),(5,0,[]),(6,0,[]),(7,0,[]),(3,1,[7]),(8,1,[]),(9,1,[]),(10,1,[])] (by kernel_rfl) (by kernel_rfl) (by simp[go_sem]) ?_;simp[go_sem];cases hE:binE [den x a] p with
 |error e =>
  rw[hE]at hb;refine qe.pans hb wx ?_;simp[go_sem,q9];exact .hf _ (qG _)
 |ok r =>
  rw[hE]at hb;obtain⟨h1,h2⟩:=Zp hE;simp only[kD,vJ]at h1;have gr:=(ih a (by rw[hk];simp) p hp (by omega)).G _ h1;obtain⟨gc,c2⟩:=GR.clos g0 200 gr h2;have gi:=GR.iden g0;have l1:=gc.len g0 (by omega);have l2:=gi.len g0 (by omega);rw[qO]at hb;refine qe.pure hb.toP wx ?_;simp[go_sem,qO];refine qe.pure (pb x.n g0 g1) (.cons (.hf (HF.sc _)) .nil) ?_;simp[go_sem];refine qe.pure (jO _ _ (by omega) (by omega)) (wkR2 _ _) ?_;simp[go_sem];exact .hf _ (qR _)
end F3
namespace F4
open Y1 P2 E3 EA EL EO EP EQ ER F1 F2 F3
theorem Own.one{sz:Nat}{mu:Mu}{av:AV}{xs:List (List AV)}(h:Own mu sz av xs):av.one=true:=by
 rcases h with rfl|⟨b,rfl,_⟩<;>rfl
theorem Own.cells{sz:Nat}{mu:Mu}{av:AV}{xs:List (List AV)}(h:Own mu sz av xs):av.cells=[av]:=by
 rcases h with rfl|⟨b,rfl,_⟩<;>rfl
theorem Own.push{sz:Nat}{mu:Mu}{av:AV}{xs:List (List AV)}(h:Own mu sz av xs)(c:List Cell):Own (mu++c) sz av xs:=by
 rcases h with rfl|⟨b,rfl,hc⟩
 .exact .inl rfl
 .exact .inr ⟨b,rfl,by rw[qr (qk.1 hc).1];exact hc⟩
theorem Own.set{sz:Nat}{mu:Mu}{av:AV}{xs:List (List AV)}(h:Own mu sz av xs){i:Nat}(c:Cell)(hi:qt av≠some i):Own (mu.set i c) sz av xs:=by
 rcases h with rfl|⟨b,rfl,hc⟩
 .exact .inl rfl
 .exact .inr ⟨b,rfl,by rw[qK (fun e=>hi (by rw[e];rfl))];exact hc⟩
theorem Own.lt{sz:Nat}{mu:Mu}{av:AV}{xs:List (List AV)}(h:Own mu sz av xs){b:Nat}(hb:qt av=some b):b<mu.length:=by
 rcases h with rfl|⟨b',rfl,hc⟩
 .cases hb
 .cases hb;exact(qk.1 hc).1
theorem qF.ownB{P:Program}{mu:Mu}{t t' e sz bt:Nat}{s x:AV}{xs ys:List (List AV)}{zv:AV}{K:AV->Mu->Prop}(hs:qN P t=some (e,sz,bt))(hs':(qN P t').isSome=true)(hz:qB P e=some zv)
  (hz1:zv.cells.length=sz) (hz2:zv.cells.all AV.one=true) (hz0:sz≠0) (hb:bt<=16384) (ho:Own mu sz s xs) (hx:qI mu x=some ys) (wx:zm sz xs) (wy:zm sz ys) (hl:xs.length+ys.length<=4294967296)
  (k:∀ av mu',Own mu' sz av (xs++ys)->(∀ i,i<mu.length->qt s≠some i->mu'[i]?=mu[i]?)->(∀ b,qt av=some b->b=mu.length)->mu.length<=mu'.length->K av mu'):qF P mu #[t,t'] s x K:=by
 refine .inl ?_;refine⟨t,t',e,sz,bt,ys,rfl,hs,hs',⟨zv,hz,hz1,hz2⟩,hz0,hb,hx,wy,?_⟩;rcases ho with rfl|⟨b,rfl,hc⟩
 .refine .inl ⟨xs,rfl,wx,hl,fun h=>?_,fun h=>?_⟩
  .subst h
   exact k _ _ (.inl (by simp)) (fun _ _ _=>rfl) (fun b h=>by cases h) (qs _)
  .refine k _ _ (.inr ⟨mu.length,by simp,by simp⟩) (fun i hi _=>?_) (fun b h=>by cases h;rfl) (by simp)
   rw[qr hi]
 .have hfl:=jj wx.ok
  refine .inr ⟨b,xs.length,xs.flatten,rfl,hc,by omega,hl,?_⟩;have htk:xs.flatten.take (xs.length*sz)=xs.flatten:=zX (by omega);refine k _ _ (.inr ⟨mu.length,by simp,?_⟩) (fun i hi hne=>?_) (fun b h=>by cases h;rfl) (by simp)
  .rw [htk,q6 (by simp)];simp
  .rw [qr (by simpa using hi)]
   rw[qK (fun e=>hne (by rw[e];rfl))]
theorem FzQ.ownB{Q:qZ->St->Prop}{i d sz:Nat}{av:AV}{xs:List (List AV)}{st:St}(hd:st.tm d=av)(ho:Own st.mu sz av xs)(wf:zm sz xs)(hf:∀ r,r∈xs->∀ c,c∈r->HF c)
  (k:∀ mu' full,mu'.length=st.mu.length->(∀ j,qt av≠some j->mu'[j]?=st.mu[j]?)->Q (.exit i) (st.put (some d) (.lst full xs) mu')):FzQ Q (.exit i) st:=by
 rcases ho with h|⟨b,h,hc⟩
 .refine FzQ.one (b:=st.mu.length) (d:=d) (x := .lst true xs) ?_ (k _ _ (Qw _ _ _) fun j hj=>?_)
  .rw [hd,h]
   exact .hf _ (HF.lst hf)
  .by_cases hjl:j=st.mu.length
   .rw [hjl,zQ (by rw[Qw];exact qs _),zQ (qs _)]
   .exact KJ hjl _
 .refine FzQ.one (b:=b) (d:=d) (x := .lst false xs) ?_ (k _ _ (Qw _ _ _) fun j hj=>KJ (fun e=>hj (by rw[h,e];rfl)) _)
  rw[hd];exact Own.rd (.inr ⟨b,h,by rw[qbT];exact hc⟩) wf.ok hf
abbrev lN(l:List Nat):AV:=lI (l.map fun k:Nat=>(k:Int))
theorem qeQ(k:Nat)(l:List Nat):decide ((k:Int)∈l.map fun k:Nat=>(k:Int))=decide (k∈l):=by
 rw[ji,decide_eq_true_iff,decide_eq_true_iff,qq];exact⟨fun⟨a,h,e⟩=>by rwa[show a=k by omega]at h,fun h=>⟨k,h,rfl⟩⟩
theorem Wf(x:Mo)(N:Nat)(hM:OkMa x N)(s:Nat)(hs:s<N):qj qc 126 [eMa x,aI s] (lN (x.path s)):=by
 refine qSQ call126 func126 rfl {} ?_;have hN:=hM.N1;have hl:=hM.len;have hMf:=zq x;simp[go_sem];refine qn.keep (fun f st=>∃(cur:Nat) (acc:List Nat),uX x f cur acc=x.path s/\acc.Nodup/\(∀ t,t∈acc->t<N)/\cur<N/\N+1<=f+acc.length/\st.tm 0=eMa x/\st.tm 6=aI (cur:Nat)/\OwnI st.mu (st.tm 5) (acc.map fun k:Nat=>(k:Int))) (N+1) ?_ ?_
 .refine ⟨s,[],by unfold Mo.path;rw[hl],by simp,by simp,hs,by simp,by simp[go_sem],by simp[go_sem],.inl ⟨by simp[go_sem],rfl⟩⟩
 rintro f st ⟨cur,acc,hp,hnd,hlt,hc,hf,e0,e6,ho⟩;have hal:acc.length<=N:=UE N acc hnd hlt;obtain⟨f,rfl⟩:∃ g,f=g+1:=⟨f-1,by omega⟩;have hcon:=qc4 (acc.map fun k:Nat=>(k:Int)) cur (by simp;omega);rw[qeQ]at hcon;simp only[uX]at hp;simp[go_sem,e0,e6];refine qe.lend hcon ⟨ho.v.rd,.hf _ (HF.sc _),trivial⟩ (FL.sc _) ?_;by_cases hm:cur∈acc
 .rw [if_pos hm]at hp
  simp[go_sem,e0,e6,hm];rw[<-hp];exact ho.v.rd
 .rw [if_neg hm]at hp
  simp[go_sem,e0,e6,hm];refine qF.ownV1 (e:=3) (bt:=8) (z:=0) (l:=acc.map fun k:Nat=>(k:Int)) (by simp[go_sem]) (by simp[go_sem]) (by simp[go_sem]) (by omega) ho.v (by simp;omega) ?_;intro av' mu' ho' _ _ _;have hnx:=J0 x hM.loop (by omega) cur (by omega);have hnw:WKs [eMd x.m,aI cur] [eMd x.m,aI cur] := .cons (.hf (yB x.m)) (.cons (.hf (HF.sc _)) .nil);simp[go_sem,e0,e6,ho'.v.one];refine qe.pure hnx hnw ?_;simp[go_sem,e0,e6];refine Keep.loop f (by omega) ⟨x.nx cur,acc++[cur],hp,?_,fun t ht=>?_,hM.nx _ hc,by simp;omega,by simp[go_sem,e0],by simp[go_sem],?_⟩
  .rw [List.nodup_append]
   exact⟨hnd,by simp,fun a ha b hb e=>by rw[qY]at hb;subst hb;exact hm (e ▸ ha)⟩
  .rcases qU.1 ht with h|h
   .exact hlt t h
   .rw [qY]at h;omega
  .rw [zt]
   simpa[go_sem] using ho'
abbrev rB(b:Bool):List AV:=[aB b]
theorem uZ(xs:List Bool):zm 1 (xs.map rB):=fun r hr=>by
 obtain⟨n,_,rfl⟩:=qq.1 hr;exact⟨rfl,rfl⟩
theorem Own.rdB{mu:Mu}{av:AV}{xs:List Bool}(h:Own mu 1 av (xs.map rB)):Rd mu av (lB xs):=
 h.rd (uZ xs).ok fun r hr c hc=>by
  obtain⟨n,_,rfl⟩:=qq.1 hr;simp at hc;subst hc;exact HF.sc _
def endL:XE (List Bool)->AEnd
 | .ok l => .ret (lB l)
 | .error e => .pan (errV e)
@[go_sem] theorem endL_ok(l:List Bool):endL (.ok l) = .ret (lB l):=rfl
@[go_sem] theorem endL_err(e:Int):endL (.error e) = .pan (errV e):=rfl
theorem u4{α β:Type}{g:α->XE β}:∀{l1 l2:List α} {r:List β},mapX g l1 = .ok r->mapX g (l1++l2)=bX (mapX g l2) fun s => .ok (r++s)
 | [],l2,r,h=>by cases h;rw[List.nil_append];cases mapX g l2<;>rfl
 |a :: l1,l2,r,h=>by
  rw[mapX]at h;obtain⟨b,h1,h2⟩:=yC h;obtain⟨r',h3,h4⟩:=yC h2;cases h4;rw[yY,mapX,h1,qO,u4 h3];cases mapX g l2<;>rfl
theorem pf(x:Mo)(ss:List Nat)(hl:ss.length<=1000000)(p:Pl)(n:Nd)(ih:∀ s,s∈ss->Ev3 x ⟨s,p.env⟩ n) :
  qL qc 125 [eMa x,lN ss,ePl p,eNd n] (endL (mapX (fun s=>(den x n).F ⟨s,p.env⟩) ss)):=by
 refine qT.of_sound ?_;refine qSW call125 func125 rfl {} ?_;have hMf:=zq x;generalize hE:mapX (fun s=>(den x n).F ⟨s,p.env⟩) ss=E;simp[go_sem];refine qn.upK ss.length (fun k st=>∃ acc:List Bool,mapX (fun s=>(den x n).F ⟨s,p.env⟩) (ss.take k) = .ok acc/\acc.length=k/\st.tm 0=eMa x/\st.tm 6 = .ip (cPl p)/\st.tm 7 = .ip (cNd n)/\st.tm 12=lN ss/\st.tm 13=aI ss.length/\st.tm 14=aI k/\Own st.mu 1 (st.tm 9) (acc.map rB)) ?_ ?_
 .exact ⟨[],rfl,rfl,by simp[go_sem],by simp[go_sem],by simp[go_sem],by simp[go_sem],by simp[go_sem],by simp[go_sem],.inl (by simp[go_sem])⟩
 rintro k st hk ⟨acc,ha,hal,e0,e6,e7,e12,e13,e14,ho⟩;by_cases hlt:k<ss.length
 .have w1:ql.wrap ((k:Int)+1)=(k:Int)+1:=qi (by omega) (by omega)
  have hF:=(ih ss[k] (qw hlt)).F;have hw:=wk3 x ⟨ss[k],p.env⟩ n;have hsp:=u4 (l2:=ss.drop k) ha;rw[vh,zi hlt,mapX]at hsp;rw[hE]at hsp;simp[go_sem,e0,e6,e7,e12,e13,e14,hlt];cases ef:(den x n).F ⟨ss[k],p.env⟩ with
  |error e =>
   rw[ef]at hF hsp;subst hsp;refine qe.pans hF hw ?_;simp[go_sem,q9];exact .hf _ (qG _)
  |ok b =>
   rw[ef]at hF;refine qe.pure hF.toP hw ?_;simp[go_sem,e0,e6,e7,e12,e13,e14];refine qF.ownB (e:=4) (sz:=1) (bt:=1) (zv:=aB false) (xs:=acc.map rB) (ys:=[rB b]) (by simp[go_sem]) (by simp[go_sem]) (by simp[go_sem]) rfl rfl (by omega) (by omega) ho (by simp[qI]) (uZ acc) (uZ [b]) (by simp;omega) ?_;intro av' mu' ho' _ _ _;simp[go_sem,e0,e6,e7,e12,e13,e14,w1,Own.one ho'];refine⟨hlt,Keep.mk' ⟨acc++[b],?_,by simp[hal],by simp[go_sem,e0],by simp[go_sem,e6],by simp[go_sem,e7],by simp[go_sem,e12],by simp[go_sem,e13],by simp[go_sem],?_⟩⟩
   .rw [ya hlt,u4 ha,mapX,ef];rfl
   .rw [zt]
    simpa[go_sem] using ho'
 .have hge:k=ss.length:=by omega
  subst hge;rw[zw,hE]at ha;subst ha;simp[go_sem,e0,e6,e7,e12,e13,e14];exact Own.rdB ho
theorem pg(x:List Bool)(y:Bool)(hl:x.length<=1000000000):qj qc 124 [lB x,aB y] (aB (decide (y∈x))):=qc6 x y hl
theorem qeR(x:Mo)(N:Nat)(n a b:Nd)(hM:OkMa x N)(hk:n.kids=[a,b])(p:Pl)(hp:OkP x N p)(ih:∀ s,s∈x.path p.st->Ev3 x ⟨s,p.env⟩ a/\Ev3 x ⟨s,p.env⟩ b)(hl:(x.path p.st).length<=1000000) :
  qL qc 127 [eMa x,ePl p,eNd n] (endB (untX (fun s=>(den x a).F ⟨s,p.env⟩) (fun s=>(den x b).F ⟨s,p.env⟩) (x.path p.st) false false)):=by
 refine qT.of_sound ?_;refine qSW call127 func127 rfl {} ?_;have hMf:=zq x;have hpu:=Wf x N hM p.st hp.st;generalize hE:untX (fun s=>(den x a).F ⟨s,p.env⟩) (fun s=>(den x b).F ⟨s,p.env⟩) (x.path p.st) false false=E;generalize x.path p.st=ss at *
 simp[go_sem];refine qe.pure hpu (.cons (.hf hMf) (.cons (.hf (HF.sc _)) .nil)) ?_;simp[go_sem];refine qn.upK ss.length (fun k st=>∃ d q:Bool,untX (fun s=>(den x a).F ⟨s,p.env⟩) (fun s=>(den x b).F ⟨s,p.env⟩) (ss.drop k) d q=E/\st.tm 0=eMa x/\st.tm 4 = .ip (cPl p)/\st.tm 5 = .ip (cNd n)/\st.tm 7=aB d/\st.tm 8=aB q/\st.tm 17=lN ss/\st.tm 18=aI ss.length/\st.tm 19=aI k) ?_ ?_
 .exact ⟨false,false,hE,by simp[go_sem],by simp[go_sem],by simp[go_sem],by simp[go_sem],by simp[go_sem],by simp[go_sem],by simp[go_sem],by simp[go_sem]⟩
 rintro k st hk' ⟨d,q,hu,e0,e4,e5,e7,e8,e17,e18,e19⟩;by_cases hlt:k<ss.length
 .have w1:ql.wrap ((k:Int)+1)=(k:Int)+1:=qi (by omega) (by omega)
  obtain⟨iha,ihb⟩:=ih ss[k] (qw hlt);have hFa:=iha.F;have hFb:=ihb.F;have hwa:=wk3 x ⟨ss[k],p.env⟩ a;have hwb:=wk3 x ⟨ss[k],p.env⟩ b;rw[zi hlt,untX]at hu;simp[go_sem,e0,e4,e5,e7,e8,e17,e18,e19,hlt,hk];refine qg.seg [0,1,2,3,4,5,7,8,9,10,11,12,6,14,13,15] [(0,0,[]),(1,0,[]),(2,0,[]),(3,0,[]),(4,0,[]),(5,0,[]),(7,0,[]),(8,0,[]),(9,0,[]),(10,0,[]),(11,0,[]),(12,0,[]),(6,1,[8,10,12]),(14,0,[]),(13,1,[]),(15,0,[])] (by kernel_rfl) (by kernel_rfl) (by simp[go_sem]) ?_;simp[go_sem,e0,e4,e5,e7,e8,e17,e18,e19,hk];cases ea:(den x a).F ⟨ss[k],p.env⟩ with
  |error e =>
   rw[ea]at hFa hu;subst hu;refine qe.pans hFa hwa ?_;simp[go_sem,q9];exact .hf _ (qG _)
  |ok u =>
   rw[ea]at hFa hu;rw[qO]at hu;refine qe.pure hFa.toP hwa ?_;simp[go_sem,e0,e4,e5,e7,e8,e17,e18,e19,hk];cases eb:(den x b).F ⟨ss[k],p.env⟩ with
   |error e =>
    rw[eb]at hFb hu;subst hu;refine qe.pans hFb hwb ?_;simp[go_sem,q9];exact .hf _ (qG _)
   |ok v =>
    rw[eb]at hFb hu;rw[qO]at hu;refine qe.pure hFb.toP hwb ?_;cases d<;>cases q<;>cases u<;>cases v<;>simp[go_sem,e0,e4,e5,e7,e8,e17,e18,e19,hk,w1]<;>refine⟨hlt,Keep.mk' ⟨_,_,hu,by simp[go_sem,e0],by simp[go_sem,e4],by simp[go_sem,e5],by simp[go_sem,e7],by simp[go_sem,e8],by simp[go_sem,e17],by simp[go_sem,e18],by simp[go_sem]⟩⟩
 .have hge:k=ss.length:=by omega
  subst hge;rw[zN,untX]at hu;subst hu;simp[go_sem,e0,e4,e5,e7,e8,e17,e18,e19];exact .hf _ (HF.sc _)
theorem j9{n:Nd}(hw:WfN n)(h:n.op=5\/n.op=11\/n.op=12\/n.op=13\/n.op=21\/n.op=34\/n.op=35\/n.op=36\/n.op=37\/n.op=40\/n.op=48\/n.op=49\/n.op=50):∃ a,n.kids=[a]:=by
 have hsh:=hw.shape;have hl:n.kids.length=1:=by
  unfold shp at hsh;rw[if_neg (by omega)]at hsh;split at hsh
  .simpa using congrArg List.length (Option.some.inj hsh).symm
  .rw [if_neg (by omega),if_neg (by omega),if_neg (by omega),if_pos (by omega)]at hsh
   simpa using congrArg List.length (Option.some.inj hsh).symm
 match n.kids,hl with
 | [a],_=>exact⟨a,rfl⟩
theorem yL{n:Nd}(hw:WfN n)(h:(6<=n.op/\n.op<=10)\/n.op=14\/n.op=15\/n.op=22\/n.op=23\/n.op=32\/n.op=33\/n.op=38\/n.op=39\/(41<=n.op/\n.op<=46)\/n.op=51):∃ a b,n.kids=[a,b]:=by
 have hsh:=hw.shape;have hl:n.kids.length=2:=by
  unfold shp at hsh;rw[if_neg (by omega),if_neg (by omega)]at hsh;split at hsh
  .simpa using congrArg List.length (Option.some.inj hsh).symm
  .split at hsh
   .simpa using congrArg List.length (Option.some.inj hsh).symm
   .split at hsh
    .simpa using congrArg List.length (Option.some.inj hsh).symm
    .rw [if_neg (by omega),if_pos (by omega)]at hsh
     simpa using congrArg List.length (Option.some.inj hsh).symm
 match n.kids,hl with
 | [a,b],_=>exact⟨a,b,rfl⟩
theorem qeS(x:Mo)(N:Nat)(n:Nd)(hw:WfN n)(hM:OkMa x N)(ih:IH x N n)(p:Pl)(hp:OkP x N p)(hq:bd p n) :
  qL qc 62 [eMa x,ePl p,eNd n] (endN ((den x n).N p)):=by
 refine qT.of_sound ?_;refine qSW call62 func62 rfl {} ?_;have hMf:=zq x;rw[Zl];simp only[opD];unfold opN;by_cases o20:n.op=20
 .rw [if_pos o20]
  simp[go_sem,o20];exact .hf _ (HF.sc _)
 rw[if_neg o20];by_cases o21:n.op=21
 .rw [if_pos o21]
  obtain⟨a,hk⟩:=j9 hw (by omega);have ia:=(ih a (by rw[hk];simp) p hp (by omega)).E;have wa:=wk3 x p a;simp[go_sem,o21,hk,kD];refine qg.seg [0,1,2,3,4,5,6,7,8,9] [(0,0,[]),(1,0,[]),(2,0,[]),(3,0,[]),(4,0,[]),(5,0,[]),(6,1,[]),(7,0,[]),(8,0,[]),(9,0,[])] (by kernel_rfl) (by kernel_rfl) (by simp[go_sem]) ?_;simp[go_sem,hk];cases ea:(den x a).E p with
  |error e =>
   rw[ea]at ia;refine qe.pans ia wa ?_;simp[go_sem,q9];exact .hf _ (qG _)
  |ok r =>
   rw[ea]at ia;refine qe.pure ia.toP wa ?_;simp[go_sem,qO];exact .hf _ (HF.sc _)
 rw[if_neg o21];by_cases o22:n.op=22
 .rw [if_pos o22]
  obtain⟨a,b,hk⟩:=yL hw (by omega);have ia:=(ih a (by rw[hk];simp) p hp (by omega)).N;have ib:=(ih b (by rw[hk];simp) p hp (by omega)).N;have wa:=wk3 x p a;have wb:=wk3 x p b;simp[go_sem,o22,hk,kD];refine qg.seg [0,1,2,3,4,5,7,8,9,10,11,12,6,13,14,15] [(0,0,[]),(1,0,[]),(2,0,[]),(3,0,[]),(4,0,[]),(5,0,[]),(7,0,[]),(8,0,[]),(9,0,[]),(10,0,[]),(11,0,[]),(12,0,[]),(6,1,[8,10,12]),(13,1,[]),(14,0,[]),(15,0,[])] (by kernel_rfl) (by kernel_rfl) (by simp[go_sem]) ?_;simp[go_sem,hk];cases ea:(den x a).N p with
  |error e =>
   rw[ea]at ia;refine qe.pans ia wa ?_;simp[go_sem,q9];exact .hf _ (qG _)
  |ok r =>
   rw[ea]at ia;refine qe.pure ia.toP wa ?_;simp[go_sem,qO,hk];cases eb:(den x b).N p with
   |error e =>
    rw[eb]at ib;refine qe.pans ib wb ?_;simp[go_sem,q9];exact .hf _ (qG _)
   |ok s =>
    rw[eb]at ib;refine qe.pure ib.toP wb ?_;simp[go_sem,qO];exact .hf _ (HF.sc _)
 rw[if_neg o22];by_cases o23:n.op=23
 .rw [if_pos o23]
  obtain⟨a,b,hk⟩:=yL hw (by omega);have ia:=(ih a (by rw[hk];simp) p hp (by omega)).N;have ib:=(ih b (by rw[hk];simp) p hp (by omega)).N;have wa:=wk3 x p a;have wb:=wk3 x p b;simp[go_sem,o23,hk,kD];refine qg.seg [0,1,2,3,4,5,7,8,9,10,11,12,6,13,14,15] [(0,0,[]),(1,0,[]),(2,0,[]),(3,0,[]),(4,0,[]),(5,0,[]),(7,0,[]),(8,0,[]),(9,0,[]),(10,0,[]),(11,0,[]),(12,0,[]),(6,1,[8,10,12]),(13,1,[]),(14,0,[]),(15,0,[])] (by kernel_rfl) (by kernel_rfl) (by simp[go_sem]) ?_;simp[go_sem,hk];cases ea:(den x a).N p with
  |error e =>
   rw[ea]at ia;refine qe.pans ia wa ?_;simp[go_sem,q9];exact .hf _ (qG _)
  |ok r =>
   rw[ea]at ia;refine qe.pure ia.toP wa ?_;simp[go_sem,qO,hk];cases eb:(den x b).N p with
   |error e =>
    rw[eb]at ib;refine qe.pans ib wb ?_;simp[go_sem,q9];exact .hf _ (qG _)
   |ok s =>
    rw[eb]at ib;refine qe.pure ib.toP wb ?_;simp[go_sem,qO];exact .hf _ (HF.sc _)
 rw[if_neg o23];simp[go_sem,o20,o21,o22,o23];refine qe.pans (uo 43) (wkI 43) ?_;simp[go_sem];exact .hf _ (qG _)
end F4
namespace F5
open Y1 YF E2 E3 EA EO EP EQ ER ET EW F1 F2 F3 F4
theorem clipE(l:List (ByteArray×Int)):qj qc 173 [lPm l] (.lst true (l.map cPm)):=by
 refine qSQ call173 func173 rfl {} ?_;have htk:List.take l.length (l.map cPm)=l.map cPm:=zX (by simp);simp[go_sem,htk];exact⟨⟨_,_,⟨rfl,rfl⟩,fun r hr=>by obtain⟨q,_,rfl⟩:=qq.1 hr;rfl⟩,.hf _ (HF.lst fun r hr c hc=>by obtain⟨q,_,rfl⟩:=qq.1 hr;exact wA q c hc)⟩
theorem clipI(l:List Int):qj qc 167 [lI l] (lI l):=by
 refine qSQ call167 func167 rfl {} ?_;have htk:List.take l.length (l.map rI)=l.map rI:=zX (by simp);simp[go_sem,htk];exact⟨⟨_,_,⟨rfl,rfl⟩,(uO l).ok⟩,.wk _ true _ (.hf _ (HF.lst fun r hr c hc=>by obtain⟨q,_,rfl⟩:=qq.1 hr;simp at hc;subst hc;exact HF.sc _))⟩
theorem jd(xs:List (ByteArray×Int)):zm 2 (xs.map cPm):=fun r hr=>by
 obtain⟨n,_,rfl⟩:=qq.1 hr;exact⟨rfl,rfl⟩
abbrev insC(ar:Int)(ts:List Int)(vs:List Bool):List AV:=[.ip [aI ar,lI ts],.ip [lB vs]]
def Qj(ts:List Int)(vs:List Bool):List (List AV):=(ts.zip vs).map fun e=>[aI e.1,aB e.2]
theorem Wg(ar:Int)(ts:List Int)(vs:List Bool)(hl:ts.length=vs.length)(hb:ts.length<=1000000):y6 qc 174 (insC ar ts vs) (Qj ts vs):=by
 refine y6.of call174 fun i I Ix hS hX hY mu h0=>?_
 refine qSW call174 func174 rfl {} ?_;have hrl:(Qj ts vs).length=ts.length:=by simp[Qj,hl]
 simp[go_sem];refine qn.upK ts.length (fun k st=>st.tm 0 = .yl i/\st.tm 2 = .ip [lB vs]/\st.tm 7=lI ts/\st.tm 8=aI ts.length/\st.tm 9=aI k/\I k st.mu) ?_ ?_
 .exact ⟨by simp[go_sem],by simp[go_sem],by simp[go_sem],by simp[go_sem],by simp[go_sem],by simpa[go_sem] using h0⟩
 rintro k st hk ⟨e0,e2,e7,e8,e9,hI⟩;by_cases hlt:k<ts.length
 .have w1:ql.wrap ((k:Int)+1)=(k:Int)+1:=qi (by omega) (by omega)
  have hv:k<vs.length:=by omega
  have hget:(Qj ts vs)[k]?=some [aI ts[k],aB vs[k]]:=by
   rw[Qj,zj,List.getElem?_zip_eq_some (z:=(ts[k],vs[k])) |>.2 ⟨qv hlt,qv hv⟩];rfl
  simp[go_sem,e0,e2,e7,e8,e9,hlt,hv];refine qe.yield (hY _ _ _ hget hI) ?_;rintro b mu' (⟨rfl,hI'⟩|⟨rfl,hx'⟩)
  .simp [go_sem,e0,e2,e7,e8,e9,w1]
   exact⟨hlt,Keep.mk' ⟨by simp[go_sem,e0],by simp[go_sem,e2],by simp[go_sem,e7],by simp[go_sem,e8],by simp[go_sem],by simpa[go_sem] using hI'⟩⟩
  .simp [go_sem]
   exact .inr hx'
 .have hge:k=ts.length:=by omega
  subst hge;simp[go_sem,e0,e2,e7,e8,e9];exact .inl (by rw[hrl];exact hI)
def endI(l:XE (List (Int×Bool))):AEnd:=match l with
 | .ok l => .ret (.fn (.func 174) [] (insC 1 (l.map Prod.fst) (l.map Prod.snd)))
 | .error e => .pan (errV e)
theorem Vc(l:List (Int×Bool)):endI (.ok l) = .ret (.fn (.func 174) [] (insC 1 (l.map Prod.fst) (l.map Prod.snd))):=rfl
theorem Wh(e:Int):endI (.error e) = .pan (errV e):=rfl
theorem Wi(x:Mo)(N:Nat)(n a b:Nd)(hM:OkMa x N)(hk:n.kids=[a,b])(ih:IH x N n)(p:Pl)(hp:OkP x N p)(hq:bd p n) :
  qL qc 123 [eMa x,ePl p,eNd n] (endI (zY [den x a,den x b] n.name p)):=by
 refine qT.of_sound ?_;refine qSW call123 func123 rfl {} ?_;have ia:=ih a (by rw[hk];simp) p hp (by omega);have ha:=ia.E;have wa:=wk3 x p a;have hMf:=zq x;have ihb:=fun p' h1 h2=>(ih b (by rw[hk];simp) p' h1 h2).F
 generalize hE:zY [den x a,den x b] n.name p=E;unfold zY at hE;simp only[kD,vJ,List.getD_cons_succ]at hE;simp[go_sem,hk];refine qg.seg [0,1,2,3,4,5,6,7,8] [(0,0,[]),(1,0,[]),(2,0,[]),(3,0,[]),(4,0,[]),(5,0,[]),(6,1,[]),(7,2,[1,3,5]),(8,1,[])] (by kernel_rfl) (by kernel_rfl) (by simp[go_sem]) ?_;simp[go_sem,hk];cases ea:(den x a).E p with
 |error e =>
  rw[ea]at ha hE;subst hE;refine qe.pans ha wa ?_;simp[go_sem,q9,Wh];exact .hf _ (qG _)
 |ok d =>
  rw[ea]at ha hE;rw[qO]at hE;refine qe.pure ha.toP wa ?_;by_cases he:d.ar=1
  case neg =>
   rw[if_neg he]at hE;subst hE;simp[go_sem,hk,he];refine qe.pans (uo 42) (wkI 42) ?_;simp[go_sem,Wh];exact .hf _ (qG _)
  rw[if_pos he]at hE;have hd:(d.ar=1)=True:=eq_true he;have gd:=ia.G _ ea;have ld:=gd.len hM.n0 (OkMa.n20 hM);generalize hg:(fun a=>bX ((den x b).F ⟨p.st,p.env++[(n.name,a)]⟩) fun b=>(Except.ok (a,b):XE (Int×Bool)))=g at hE;simp[go_sem,hk,hd];refine qn.upK d.ts.length (fun k st=>∃(acc:List (Int×Bool)) (av:AV),mapX g (d.ts.take k) = .ok acc/\acc.length=k/\st.tm 0=eMa x/\st.tm 4 = .ip (cPl p)/\st.tm 5 = .ip (cNd n)/\st.tm 7 = .ptr 0 0/\st.tm 8 = .ptr 1 0/\st.tm 24=lI d.ts/\st.tm 25=aI d.ts.length/\st.tm 26=aI k /\
   st.mu[0]?=some (.arr (cRel d))/\st.mu[1]?=some (.arr [av])/\Own st.mu 1 av ((acc.map Prod.snd).map rB)/\qt av≠some 0/\qt av≠some 1) ?_ ?_
  .exact ⟨[],.lst true [],rfl,rfl,by simp[go_sem],by simp[go_sem],by simp[go_sem],by simp[go_sem],by simp[go_sem],by simp[go_sem],by simp[go_sem],by simp[go_sem],by simp[go_sem],by simp[go_sem],.inl rfl,by simp[qt],by simp[qt]⟩
  rintro k st hkk ⟨acc,av,ha',hal,e0,e4,e5,e7,e8,e24,e25,e26,g0,g1,ho,n0,n1⟩;by_cases hlt:k<d.ts.length
  .have w1:ql.wrap ((k:Int)+1)=(k:Int)+1:=qi (by omega) (by omega)
   have hv:=gd.val _ (qw hlt);rw[he,vB]at hv;have hF:=ihb ⟨p.st,p.env++[(n.name,d.ts[k])]⟩ (hp.bind hv) (by simp;omega);have hw:=wk3 x ⟨p.st,p.env++[(n.name,d.ts[k])]⟩ b;have hsp:=u4 (l2:=d.ts.drop k) ha';rw[vh,zi hlt,mapX]at hsp;rw[hE]at hsp;have hgk:g d.ts[k]=bX ((den x b).F ⟨p.st,p.env++[(n.name,d.ts[k])]⟩) fun b => .ok (d.ts[k],b):=by rw[<-hg]
   simp[go_sem,e0,e4,e5,e7,e8,e24,e25,e26,hlt];refine qg.seg [0,1,3,4,5,6,7,2,8,9] [(0,0,[]),(1,0,[]),(3,0,[]),(4,0,[]),(5,0,[]),(6,0,[]),(7,0,[]),(2,1,[4]),(8,1,[]),(9,0,[])] (by kernel_rfl) (by kernel_rfl) (by simp[go_sem]) ?_;simp[go_sem,e0,e4,e5,e7,e8,e24,e25,e26];refine qe.pure (clipE p.env) (.cons (.hf (yJ _)) .nil) ?_;simp[go_sem,e0,e4,e5,e7,e8,e24,e25,e26];refine qF.ownB (e:=68) (sz:=2) (bt:=24) (zv := .agg [aS ⟨#[]⟩,aI 0]) (xs:=p.env.map cPm) (ys:=[cPm (n.name,d.ts[k])]) (by simp[go_sem]) (by simp[go_sem]) (by simp[go_sem]) rfl rfl (by omega) (by omega) (.inl rfl) (by simp[qI]) (jd p.env) (jd [(n.name,d.ts[k])]) (by simp;omega) ?_;intro ev mu1 hoe hs1 hb1 hl1;have l1:1<st.mu.length:=(qk.1 g1).1;have hrow:p.env.map cPm++[cPm (n.name,d.ts[k])]=(p.env++[(n.name,d.ts[k])]).map cPm:=by rw[zt];rfl
   rw[hrow]at hoe;have hs1':∀ i,i<st.mu.length->mu1[i]?=st.mu[i]?:=fun i hi=>hs1 i hi (by simp[qt])
   simp[go_sem,Own.one hoe];refine qg.fz (FzQ.ownB (d:=11) (sz:=2) (av:=ev) (xs:=(p.env++[(n.name,d.ts[k])]).map cPm) (by simp[go_sem]) hoe (jd _) (fun r hr c hc=>by obtain⟨q,_,rfl⟩:=qq.1 hr;exact wA q c hc) fun mu2 full hl2 hs2=>?_);have hs3:∀ i,i<st.mu.length->mu2[i]?=st.mu[i]?:=fun i hi=>(hs2 i (fun e=>by have:=hb1 i e;omega)).trans (hs1' i hi)
   simp[go_sem,e0,e4,e5,e7,e8,e24,e25,e26];refine qg.seg [0,1,2,3,4,5,6,7,8,9,10,11,12,13] [(0,0,[]),(1,0,[]),(2,0,[]),(3,0,[]),(4,0,[]),(5,0,[]),(6,0,[]),(7,0,[]),(8,0,[]),(9,0,[]),(10,1,[0]),(11,0,[]),(12,1,[]),(13,1,[])] (by kernel_rfl) (by kernel_rfl) (by simp[go_sem]) ?_;have h0':=(hs3 0 (by omega)).trans g0;have h1':=(hs3 1 l1).trans g1;have hwa:∀ f,WKs [eMa x,.agg [aI p.st,.lst f ((p.env++[(n.name,d.ts[k])]).map cPm)],eNd b] [eMa x,ePl ⟨p.st,p.env++[(n.name,d.ts[k])]⟩,eNd b]:=fun f =>
    .cons (.hf hMf) (.cons (WK.aggs (.cons (.hf (HF.sc _)) (.cons (WK.lst fun r hr c hc=>by obtain⟨q,_,rfl⟩:=qq.1 hr;exact wA q c hc) .nil))) (.cons (.hf (qH b)) .nil))
   have ho2:Own mu2 1 av ((acc.map Prod.snd).map rB):=by
    rcases ho with h|⟨bb,h,hc⟩
    .exact .inl h
    .exact .inr ⟨bb,h,by rw[hs3 bb (qk.1 hc).1];exact hc⟩
   have hwa:WKs [eMa x,.agg [aI p.st,.lst full (p.env.map cPm++[cPm (n.name,d.ts[k])])],.agg (cNd b)] [eMa x,ePl ⟨p.st,p.env++[(n.name,d.ts[k])]⟩,eNd b]:=by rw[hrow];exact hwa full
   simp[go_sem,e0,e4,e5,e7,e8,e24,e25,e26,hk,h1'];cases ef:(den x b).F ⟨p.st,p.env++[(n.name,d.ts[k])]⟩ with
   |error e =>
    rw[ef]at hF hgk;rw[hgk]at hsp;subst hsp;refine qe.pans hF hwa ?_;simp[go_sem,q9,Wh];exact .hf _ (qG _)
   |ok v =>
    rw[ef]at hF hgk;refine qe.pure hF.toP hwa ?_;simp[go_sem,e0,e4,e5,e7,e8,e24,e25,e26,h1'];refine qF.ownB (e:=4) (sz:=1) (bt:=1) (zv:=aB false) (xs:=(acc.map Prod.snd).map rB) (ys:=[rB v]) (by simp[go_sem]) (by simp[go_sem]) (by simp[go_sem]) rfl rfl (by omega) (by omega) ho2 (by simp[qI]) (uZ _) (uZ [v]) (by simp;omega) ?_;intro av' mu' ho' hs' hb' hl';have hml:st.mu.length<=mu2.length:=by
     have:mu2.length=mu1.length:=hl2;omega
    have k0:mu'[0]?=some (.arr (cRel d)):=(hs' 0 (by omega) n0).trans h0';have k1:mu'[1]?=some (.arr [av]):=(hs' 1 (by omega) n1).trans h1';have m0:qt av'≠some 0:=fun e=>by have:=hb' 0 e;omega
    have m1:qt av'≠some 1:=fun e=>by have:=hb' 1 e;omega
    simp[go_sem,e0,e4,e5,e7,e8,e24,e25,e26,k1,Own.one ho',Own.cells ho',w1];refine⟨hlt,Keep.mk' ⟨acc++[(d.ts[k],v)],av',?_,by simp[hal],by simp[go_sem,e0],by simp[go_sem,e4],by simp[go_sem,e5],by simp[go_sem,e7],by simp[go_sem,e8],by simp[go_sem,e24],by simp[go_sem,e25],by simp[go_sem],?_,?_,?_,m0,m1⟩⟩
    .rw [ya hlt,u4 ha',mapX,hgk];rfl
    .simp only[qM];rw[qK (by omega)];exact k0
    .simp only[qM];rw[za (by omega)]
    .simp only[qM]
     rw[zt,zt];exact Own.set ho' _ m1
  .have hge:k=d.ts.length:=by omega
   subst hge;rw[zw,hE]at ha';subst ha';have hfst:=We (g:=fun a=>(den x b).F ⟨p.st,p.env++[(n.name,a)]⟩) (ts:=d.ts) (l:=acc) (by rw[hg];exact hE);have hend:=Vc acc;rw[hfst]at hend;generalize acc.map Prod.snd=vs at *
   simp[go_sem,e0,e4,e5,e7,e8,e24,e25,e26,hend];refine .fn _ _ _ _ _ rfl rfl (fun k x y hx=>by simp at hx) (fun k x y hx hy=>?_)
   match k with
   | 0 =>
    simp at hx hy;subst hx;subst hy;rw[<-he];refine .ptr 0 0 _ _ g0 (by simp) fun k u v hu hv=>?_
    rw[yE]at hu;rw[hu]at hv;cases hv;exact .hf _ (Z9 d _ (qS hu))
   | 1=>simp at hx hy;subst hx;subst hy;exact Rd.ip1 g1 (Own.rdB ho)
   |k+2=>simp at hx
theorem RelM.push{mu:Mu}{ar:Int}{l:List Int}(h:RelM mu ar l):RelM (mu++[.dead]) ar l:=by
 obtain⟨av,g0,g1,ho,n0,n1⟩:=h;exact⟨av,by rw[qr (qk.1 g0).1];exact g0,by rw[qr (qk.1 g1).1];exact g1,ho.same fun b hb=>by rw[qr (ho.v.lt hb)],n0,n1⟩
abbrev onL(l:List (Int×Bool)):List Int:=(l.filter fun e=>e.2).map fun e=>e.1
theorem Wj(l:List (Int×Bool)):Qj (l.map Prod.fst) (l.map Prod.snd)=l.map fun e=>[aI e.1,aB e.2]:=by
 rw[Qj,List.zip_map'];simp
theorem qeT(l:List (Int×Bool))(k:Nat)(h:k<l.length):onL (l.take (k+1))=onL (l.take k)++(if l[k].2=true then [l[k].1] else []):=by
 rw[ya h,onL,List.filter_append,zt];cases hb:l[k].2<;>simp[hb]
theorem Wk{ds:List Den}{nm:ByteArray}{p:Pl}{l:List (Int×Bool)}(h:zY ds nm p = .ok l)(B:Nat)(hB:∀ d,(kD ds 0).E p = .ok d->d.ts.length<=B):l.length<=B:=by
 obtain⟨d,h1,_,h3⟩:=k7 h;have:=congrArg List.length h3;rw[yO]at this;rw[this];exact hB d h1
theorem qeU(x:Mo)(N:Nat)(n a b:Nd)(hM:OkMa x N)(hk:n.kids=[a,b])(ih:IH x N n)(p:Pl)(hp:OkP x N p)(hq:bd p n) :
  qL qc 108 [eMa x,ePl p,eNd n] (endE (bX (zY [den x a,den x b] n.name p) fun l => .ok ⟨1,(l.filter fun e=>e.2).map fun e=>e.1⟩)):=by
 refine qT.of_sound ?_;refine qSW call108 func108 rfl {} ?_;have hi:=Wi x N n a b hM hk ih p hp hq;have wx:=wk3 x p n;simp[go_sem];cases hE:zY [den x a,den x b] n.name p with
 |error e =>
  rw[hE]at hi;refine qe.pans hi wx ?_;simp[go_sem,q9];exact .hf _ (qG _)
 |ok l =>
  rw[hE]at hi;have hl:l.length<=8000:=Wk hE 8000 fun d h=>((ih a (by rw[hk];simp) p hp (by omega)).G d h).len hM.n0 (OkMa.n20 hM)
  have hit:=Wg 1 (l.map Prod.fst) (l.map Prod.snd) (by simp) (by simp;omega);rw[Wj]at hit;rw[Vc]at hi;refine qe.pure hi.toP wx ?_;generalize insC 1 (l.map Prod.fst) (l.map Prod.snd)=C at *
  simp[go_sem,qO];refine j5.keep hit (fun j M=>RelM M 1 (onL (l.take j))) (fun _ _=>False) ?_ ?_ ?_ ?_ ?_ ?_
  .exact ⟨.lst true [],by simp[go_sem],by simp[go_sem],.inl ⟨rfl,rfl⟩,by simp[qt],by simp[qt]⟩
  .exact fun j M h=>RelM.push h
  .intro e M h;exact h
  .rintro j y M hj ⟨av,g0,g1,ho,n0,n1⟩
   rw[zj,ve]at hj;obtain⟨t,ht,rfl⟩:=hj;obtain⟨hjl,hte⟩:=qk.1 ht;have hon:=qeT l j hjl;rw[hte]at hon;refine⟨rfl,?_⟩;cases hb:t.2 with
   |true =>
    rw[if_pos hb]at hon;have hln:(onL (l.take j)).length<=8000:=by
     rw[onL,yO];exact zz (List.length_filter_le _ _) (by simp;omega)
    simp[go_sem,g1];refine qF.ownV1 (e:=3) (bt:=8) (z:=0) (by simp[go_sem]) (by simp[go_sem]) (by simp[go_sem]) (by omega) ho.v (by omega) ?_;intro av' mu' ho' hs' hl' hb';obtain⟨k1,k2⟩:=RelM.step g0 g1 n0 n1 ho' hs' hl' hb';simp[go_sem,k1,ho'.v.one,ho'.v.cells];refine jP.intro ?_;rw[hon];exact k2
   |false =>
    rw[if_neg (by rw[hb];simp),zl]at hon;simp[go_sem];refine jP.intro ?_;rw[hon];exact⟨av,g0,g1,ho,n0,n1⟩
  .rintro M ⟨av,g0,g1,ho,n0,n1⟩
   rw[yO,zw]at ho;have hset:∀ c,(M.set 0 c)[0]?=some c:=fun c=>za (qk.1 g0).1
   simp[go_sem,g0,g1,hset,ho.v.one,ho.v.cells];refine OwnV.rdRel (ho.v.same fun b hb=>?_);rw[qK (fun e=>n0 (by rw[e];exact hb))]
  .intro e M h;exact h.elim
end F5
namespace F6
open Y1 Y10 P1 YF E3 EA EO EP EQ ER EW F1 F2 F3 F4 F5
theorem backU(l:List (ByteArray×Int)):qj qc 165 [lPm l] (.fn (.func 201) [] [.ip [lPm l]]):=by
 refine qSQ call165 func165 rfl {} ?_;simp[go_sem];exact .hf _ (HF.fn (by simp) (by simp;exact yK (yJ _)))
def wH(l:List (ByteArray×Int)):List (List AV):=(qu l.length).map fun k:Nat=>[aI ((l.length-1-k:Nat):Int),.agg (cPm (l.getD (l.length-1-k) (⟨#[]⟩,0)))]
theorem qeV(l:List (ByteArray×Int))(hl:l.length<=1000000000):y6 qc 201 [.ip [lPm l]] (wH l):=by
 refine y6.of call201 fun i I Ix hS hX hY mu h0=>?_
 refine qSW call201 func201 rfl {} ?_;have hrl:(wH l).length=l.length:=by simp[wH]
 have w0:ql.wrap ((l.length:Int)-1)=(l.length:Int)-1:=qi (by omega) (by omega);simp[go_sem,w0];refine qn.upK l.length (fun k st=>st.tm 0 = .yl i/\st.tm 1 = .ip [lPm l]/\st.tm 3=aI ((l.length:Int)-1-k)/\I k st.mu) ?_ ?_
 .exact ⟨by simp[go_sem],by simp[go_sem],by simp[go_sem],by simpa[go_sem] using h0⟩
 rintro k st hk ⟨e0,e1,e3,hI⟩;by_cases hlt:k<l.length
 .have hj:((l.length:Int)-1-k)=((l.length-1-k:Nat):Int):=by omega
  have hjl:l.length-1-k<l.length:=by omega
  have hw:ql.wrap (((l.length-1-k:Nat):Int)-1)=(l.length:Int)-1-((k+1:Nat):Int):=by rw[qi (by omega) (by omega)];omega
  have hge0:(0:Int)<=((l.length-1-k:Nat):Int):=by omega
  have hget:(wH l)[k]?=some [aI ((l.length-1-k:Nat):Int),.agg (cPm l[l.length-1-k])]:=by
   rw[wH,zj,vY hlt];simp[zE,qv hjl]
  rw[hj]at e3;generalize l.length-1-k=j at *
  simp[go_sem,e0,e1,e3,hge0,hjl];refine qe.yield (hY _ _ _ hget hI) ?_;rintro b mu' (⟨rfl,hI'⟩|⟨rfl,hx'⟩)
  .simp [go_sem,e0,e1,e3,hw]
   exact⟨hlt,Keep.mk' ⟨by simp[go_sem,e0],by simp[go_sem,e1],by simp[go_sem],by simpa[go_sem] using hI'⟩⟩
  .simp [go_sem]
   exact .inr hx'
 .have hge:k=l.length:=by omega
  subst hge;rw[show (l.length:Int)-1-l.length = -1 by omega]at e3;simp[go_sem,e0,e1,e3];exact .inl (by rw[hrl];exact hI)
theorem Wl(nm:ByteArray):∀(l:List (ByteArray×Int)) (r:Option Int),(∀ e,e∈l->e.1≠nm)->l.foldl (fun r e=>if e.1=nm then some e.2 else r) r=r
 | [],r,_=>rfl
 |e :: l,r,h=>by rw[List.foldl_cons,if_neg (h e (by simp))];exact Wl nm l r fun x hx=>h x (by simp[hx])
theorem qeW{nm:ByteArray}{env:List (ByteArray×Int)}(h:∀ e,e∈env->e.1≠nm):zI nm env=none:=Wl nm env none h
theorem qeX{nm:ByteArray}{env:List (ByteArray×Int)}{j:Nat}(hj:j<env.length)(he:env[j].1=nm)(h:∀ e,e∈env.drop (j+1)->e.1≠nm):zI nm env=some env[j].2:=by
 have e:env=env.take j++env[j] :: env.drop (j+1):=by rw[<-zi hj,vh]
 unfold zI
 conv=>lhs;rw[e]
 rw[wK,List.foldl_cons,if_pos he];exact Wl nm _ _ h
theorem qeY(fs:List Fld)(rs:List Rl)(nm:ByteArray)(k:Nat)(h:k<fs.length)(h':k<rs.length):j8 (fs.take (k+1)) (rs.take (k+1)) nm=j8 (fs.take k) (rs.take k) nm++(if fs[k].name=nm then [rs[k]] else []):=by
 unfold j8;rw[ya h,ya h',List.zip_append (by simp;omega),List.filterMap_append];congr 1;by_cases e:fs[k].name=nm<;>simp[e]
theorem ph(fs:List Fld)(rs:List Rl)(nm:ByteArray):(j8 fs rs nm).length<=fs.length:=by
 unfold j8;refine zz (List.length_filterMap_le _ _) ?_;rw[List.length_zip];omega
def wI(x:Mo)(nm:ByteArray)(i:Nat)(s:ByteArray×Bool):List Rl:=(if s.1=nm then [⟨1,zp x i⟩] else [])++((if s.2=true/\s.1++jc=nm then [⟨1,(zp x i).take 1⟩] else [])++(if s.2=true/\s.1++vz=nm then [⟨2,um x i⟩] else []))
theorem pi(x:Mo)(nm:ByteArray):∀(a b:List (ByteArray×Bool)) (i:Nat),yA x nm i (a++b)=yA x nm i a++yA x nm (i+a.length) b
 | [],b,i=>rfl
 |s :: a,b,i=>by
  rw[yY,yA,yA,pi x nm a b (i+1),zO,show i+1+a.length=i+(a.length+1) by omega];simp only[zx]
theorem pj(x:Mo)(nm:ByteArray)(so:List (ByteArray×Bool))(k:Nat)(h:k<so.length):yA x nm 0 (so.take (k+1))=yA x nm 0 (so.take k)++wI x nm k so[k]:=by
 rw[ya h,pi,vo,Nat.min_eq_left (by omega),yE,yA];simp[wI,yA]
theorem qeZ(x:Mo)(nm:ByteArray)(i:Nat)(s:ByteArray×Bool):(wI x nm i s).length<=3:=by
 unfold wI;simp only[zr];split<;>split<;>split<;>simp
theorem pk(x:Mo)(nm:ByteArray)(so:List (ByteArray×Bool)):∀ k,k<=so.length->(yA x nm 0 (so.take k)).length<=3*k
 | 0,_=>by simp[yA]
 |k+1,h=>by
  rw[pj x nm so k (by omega),zr];have:=pk x nm so k (by omega);have:=qeZ x nm k so[k];omega
theorem qe0(sc:Sc)(i:Nat):tupR sc [(i:Int)] 0=(qu (gI sc.atoms i).toNat).map fun k:Nat=>sumI (sc.atoms.take i)+k:=by
 rw[tupR];simp only[tupR,Int.zero_mul,Int.zero_add,show (i:Int).toNat=i by omega];exact List.map_eq_flatMap.symm
theorem FzQ.above{Q:qZ->St->Prop}{i d L:Nat}{x:AV}{st:St}(hr:Rd (cutM (fun j=>decide (L<=j)) st.mu 0) (st.tm d) x)(k:Q (.exit i) (st.put (some d) x (cutM (fun j=>!decide (L<=j)) st.mu 0))):FzQ Q (.exit i) st:=by
 refine⟨_,⟨fun j=>decide (L<=j),rfl,fun j=>?_⟩,trivial,k⟩;simp only[St.put];split
 .rename_i h;subst h;exact .rd _ _ hr
 .exact .same _
def bR:Nat->Int
 | 0=>0
 |k+1=>bR k*20+20
theorem bR_ok:∀ k,k<=3->bR k<=100000
 | 0,_=>by decide
 | 1,_=>by decide
 | 2,_=>by decide
 | 3,_=>by decide
def vD(n:Int)(tuple:List Int):Int:=tuple.foldl (fun o t=>o*n+t) 0
theorem qe1(n:Int)(tuple:List Int)(k:Nat)(h:k<tuple.length):vD n (tuple.take (k+1))=vD n (tuple.take k)*n+tuple[k]:=by
 rw[List.take_add_one,qv h,vD,vD,wK];rfl
theorem rankU(sc:Sc)(g:GSc sc)(tuple:List Int)(ht:tuple.length<=3)(hd:∀ d,d∈tuple->0<=d/\d<sumI sc.atoms):qj qc 168 [eSc sc,lI tuple] (aI (vD (sumI sc.atoms) tuple)):=by
 refine qSQ call168 func168 rfl {} ?_;simp[go_sem,show ¬(3:Int)<tuple.length by omega];refine qe.pure (UT sc g) (.cons (.hf (jm sc)) .nil) ?_;have hsum:=g.sum sc.atoms.length;rw[zw]at hsum;generalize sumI sc.atoms=n at *
 simp[go_sem];refine qn.up tuple.length (fun k st=>st.tm 5=aI n/\st.tm 14=lI tuple/\st.tm 15=aI tuple.length/\st.tm 6=aI (vD n (tuple.take k))/\st.tm 16=aI k/\st.mu=[]/\0<=vD n (tuple.take k)/\vD n (tuple.take k)<=bR k) ?_ ?_
 .simp [go_sem,vD,bR]
 rintro k st hk ⟨e5,e14,e15,e6,e16,hm,hr0,hr1⟩;by_cases hlt:k<tuple.length
 .have hdk:=hd _ (qw hlt)
  have hs:=qe1 n tuple k hlt;have hb:=bR_ok k (by omega);have hbs:bR (k+1)=bR k*20+20:=rfl;generalize hre:vD n (tuple.take k)=r at *
  have m0:0<=r*n:=Int.mul_nonneg hr0 (by omega);have m1:r*n<=bR k*20:=jt hr1 (by omega) (by omega) (by omega);have hw:ql.wrap (n-1)=n-1:=qi (by omega) (by omega);simp[go_sem,e5,e14,e15,e6,e16,hm,hlt,hw];refine qe.pure (U5 tuple[k] 0 (n-1)) (.cons (.hf (HF.sc _)) (.cons (.hf (HF.sc _)) (.cons (.hf (HF.sc _)) .nil))) ?_;simp[go_sem,e5,e14,e15,e6,e16,hm,hlt,hdk.1,show tuple[k]<=n-1 by omega];rw[hs,qi (n:=r*n) (by omega) (by omega),qi (n:=r*n+tuple[k]) (by omega) (by omega),qi (n:=(k:Int)+1) (by omega) (by omega)];exact⟨rfl,rfl,by omega,by omega⟩
 .have hge:k=tuple.length:=by omega
  subst hge;simp[go_sem,e5,e14,e15,e6,e16,hm];exact .hf _ (HF.sc _)
theorem BrS.join{P:Program}{pl:Pol}{b:Bool}{st:St}{A B:Code}{K:St->Prop}{Q:qZ->St->Prop}(J:St->Prop)(h1:b=true->awp P pl A (seqQ (fun st=>Keep J .mk st) Q) st)(h2:b=false->awp P pl B (seqQ (fun st=>Keep J .mk st) Q) st)(hK:∀ st,J st->K st) :
  BrS b (awp P pl A (seqQ K Q)) (awp P pl B (seqQ K Q)) st:=by
 refine BrS.intro (fun h=>awp.mono A (h1 h) fun e st he=>?_) (fun h=>awp.mono B (h2 h) fun e st he=>?_)
 all_goals cases e with
  |normal=>exact hK st he
  |exit i=>exact he
  |ret=>exact he
  |pan v=>exact he
theorem BrS.at{b:Bool}{p q:St->Prop}{st:St}(J:St->Prop)(h:J st)(k:∀ st,J st->BrS b p q st):BrS b p q st:=k st h
def FndM(mu:Mu)(s:AV)(F:List Rl):Prop:=mu[0]?=some (.arr [aI 0,.lst true []])/\Own mu 2 s (F.map cRel)/\qt s≠some 0
theorem WK.intsF{full:Bool}(l:List Int):WK (.lst full (l.map rI)) (lI l):=WK.lst fun r hr c hc=>by
 obtain⟨n,_,rfl⟩:=qq.1 hr;simp at hc;subst hc;exact HF.sc _
structure SInv (x:Mo) (nm sn:ByteArray) (sb:Bool) (k c d:Nat) (F:List Rl) (st:St):Prop where
 e0:st.tm 0=eMa x
 e5:st.tm 5 = .ip [aS nm]
 e6:st.tm 6 = .ptr 0 0
 e13:st.tm 13 = .ptr c 0
 e14:st.tm 14 = .ptr d 0
 e65:st.tm 65=lSo x.ts.sorts
 e66:st.tm 66=aI x.ts.sorts.length
 e67:st.tm 67=aI k
 g0:st.mu[0]?=some (.arr [aI 0,.lst true []])
 gc:st.mu[c]?=some (.arr [aS sn,aB sb])
 gd:st.mu[d]?=some (.arr [aI 1,lI (zp x k)])
 ho:Own st.mu 2 (st.tm 9) (F.map cRel)
 n0:qt (st.tm 9)≠some 0
 nc:qt (st.tm 9)≠some c
 nd:qt (st.tm 9)≠some d
structure SNew (c d:Nat) (F:List Rl) (av:AV) (mu:Mu):Prop where
 g0:mu[0]?=some (.arr [aI 0,.lst true []])
 ho:Own mu 2 av (F.map cRel)
 n0:qt av≠some 0
 nc:qt av≠some c
 nd:qt av≠some d
theorem SInv.app{t t':TypeId}(hs:qN qc t=some (42,2,32))(hs':(qN qc t').isSome=true){x:Mo}{nm sn:ByteArray}{sb:Bool}{k c d:Nat}{F:List Rl}{st:St}(h:SInv x nm sn sb k c d F st)(hl:F.length<=100)(r:Rl){xv:AV}(hx:qI st.mu xv=some [cRel r]){K:AV->Mu->Prop}
  (kk:∀ av mu',SNew c d (F++[r]) av mu'->mu'[c]?=some (.arr [aS sn,aB sb])->mu'[d]?=some (.arr [aI 1,lI (zp x k)])->K av mu'):qF qc st.mu #[t,t'] (st.tm 9) xv K:=by
 have lc:=(qk.1 h.gc).1;have ld:=(qk.1 h.gd).1;have l0:=(qk.1 h.g0).1;refine qF.ownB (e:=42) (sz:=2) (bt:=32) (zv := .agg [aI 0,.lst true []]) (xs:=F.map cRel) (ys:=[cRel r]) hs hs' (by simp[go_sem]) rfl rfl (by omega) (by omega) h.ho hx (wZ _) (wZ [r]) (by simp;omega) ?_;intro av' mu' ho' hs' hb' hl';refine kk av' mu' ⟨by rw[hs' 0 l0 h.n0];exact h.g0,by rw[zt];exact ho',fun e=>by have:=hb' 0 e;omega,fun e=>by have:=hb' c e;omega,fun e=>by have:=hb' d e;omega⟩ (by rw[hs' c lc h.nc];exact h.gc) (by rw[hs' d ld h.nd];exact h.gd)
theorem appR{t t':TypeId}(hs:qN qc t=some (42,2,32))(hs':(qN qc t').isSome=true){mu:Mu}{s:AV}{F:List Rl}(h:FndM mu s F)(hl:F.length<=100)(r:Rl){xv:AV}(hx:qI mu xv=some [cRel r]){K:AV->Mu->Prop}
  (kk:∀ av mu',FndM mu' av (F++[r])->K av mu'):qF qc mu #[t,t'] s xv K:=by
 have l0:=(qk.1 h.1).1;refine qF.ownB (e:=42) (sz:=2) (bt:=32) (zv := .agg [aI 0,.lst true []]) (xs:=F.map cRel) (ys:=[cRel r]) hs hs' (by simp[go_sem]) rfl rfl (by omega) (by omega) h.2.1 hx (wZ _) (wZ [r]) (by simp;omega) ?_;intro av' mu' ho' hs' hb' hl';exact kk av' mu' ⟨by rw[hs' 0 l0 h.2.2];exact h.1,by rw[zt];exact ho',fun e=>by have:=hb' 0 e;omega⟩
theorem qe2(x:Mo)(N:Nat)(hM:OkMa x N)(nm:ByteArray)(p:Pl)(hp:OkP x N p)(hq:p.env.length<=1000000) :
  qL qc 109 [eMa x,ePl p,aS nm] (endE (uY x p nm)):=by
 refine qT.of_sound ?_;refine qSW call109 func109 rfl {} ?_;have hMf:=zq x;generalize hE:uY x p nm=E;unfold uY at hE;simp[go_sem];refine qe.pure (backU p.env) (.cons (.hf (yJ _)) .nil) ?_;simp[go_sem];refine j5.keep (qeV p.env (by omega)) (fun k M=>(∃ rest,M = .arr [aI 0,.lst true []] :: rest)/\∀ e,e∈p.env.drop (p.env.length-k)->e.1≠nm) (fun e M=>e = .ret/\∃ a rest,zI nm p.env=some a/\M = .arr [aI 1,.lst true [[aI a]]] :: rest) ?_ ?_ ?_ ?_ ?_ ?_
 .exact ⟨⟨_,by simp only[qM,yY];rfl⟩,by simp⟩
 .rintro k M ⟨⟨rest,rfl⟩,h⟩
  exact⟨⟨rest++[.dead],rfl⟩,h⟩
 .rintro e M ⟨h1,a,rest,h2,rfl⟩
  exact⟨h1,a,rest++[.dead],h2,rfl⟩
 .rintro k y M hk ⟨⟨rest,rfl⟩,h⟩
  have hkl:k<p.env.length:=by
   have:=(qk.1 hk).1;simpa[wH] using this
  have hjl:p.env.length-1-k<p.env.length:=by omega
  rw[wH,zj,vY hkl]at hk;simp only[q8,qp,zE,qv hjl,Option.getD_some]at hk;subst hk;have hj1:p.env.length-k=p.env.length-1-k+1:=by omega
  rw[hj1]at h;have hhit:=fun he=>qeX hjl he h
  have hd:p.env.drop (p.env.length-(k+1))=p.env[p.env.length-1-k] :: p.env.drop (p.env.length-1-k+1):=by
   rw[show p.env.length-(k+1)=p.env.length-1-k by omega,zi hjl]
  generalize hb:p.env[p.env.length-1-k]=b at *
  refine⟨rfl,?_⟩;by_cases he:b.1=nm
  .simp [go_sem,yb,he]
   exact jP.intro ⟨rfl,b.2,_,hhit he,rfl⟩
  .simp [go_sem,yb,he]
   refine jP.intro ⟨⟨_,rfl⟩,fun e hm=>?_⟩;rw[hd]at hm;rcases qz.1 hm with rfl|hm
   .exact he
   .exact h e hm
 .rintro M ⟨⟨rest,rfl⟩,h⟩
  have hno:zI nm p.env=none:=qeW fun e hm=>h e (by simpa[wH] using hm)
  rw[hno]at hE;simp only at hE;obtain⟨hrl,hrg⟩:=hM.st p.st hp.st;have hstl:p.st<x.m.states.length:=by have:=hM.len;have:=hp.st;omega
  have hrs:x.m.states.getD p.st []=x.m.states[p.st]:=by rw[zE,qv hstl];rfl
  have hnf:=hM.ts.nf;have hns:=hM.ts.ns;have hffl:=ph x.ts.fields (x.m.states.getD p.st []) nm;rw[hrs]at hE hrl hrg hffl;generalize hRS:x.m.states[p.st]=rs at *
  simp[go_sem];refine qn.upK x.ts.fields.length (fun k st=>st.tm 0=eMa x/\st.tm 4 = .ip (cPl p)/\st.tm 5 = .ip [aS nm]/\st.tm 6 = .ptr 0 0/\st.tm 34=lFl x.ts.fields/\st.tm 35=aI x.ts.fields.length/\st.tm 36=aI k/\FndM st.mu (st.tm 9) (j8 (x.ts.fields.take k) (rs.take k) nm)) ?_ ?_
  .exact ⟨by simp[go_sem],by simp[go_sem],by simp[go_sem],by simp[go_sem],by simp[go_sem],by simp[go_sem],by simp[go_sem],by simp[go_sem],.inl (by simp[go_sem,j8]),by simp[go_sem,qt]⟩
  rintro k st hk ⟨e0,e4,e5,e6,e34,e35,e36,g0,ho,hn⟩;by_cases hlt:k<x.ts.fields.length
  .have hrk:k<rs.length:=by omega
   have w1:ql.wrap ((k:Int)+1)=(k:Int)+1:=qi (by omega) (by omega);have hs:=qeY x.ts.fields rs nm k hlt hrk;have hfl:(j8 (x.ts.fields.take k) (rs.take k) nm).length<=6:=zz (ph _ _ _) (by simp;omega);have l0:0<st.mu.length:=(qk.1 g0).1;by_cases he:x.ts.fields[k].name=nm
   .rw [if_pos he]at hs
    simp[go_sem,yb,e0,e4,e5,e6,e34,e35,e36,hlt,he];refine qg.intro (by kernel_rfl) ?_;simp[go_sem,yb,e0,e4,e5,e6,e34,e35,e36,hlt,he,hstl,hRS,hrk];refine qF.ownB (e:=42) (sz:=2) (bt:=32) (zv := .agg [aI 0,.lst true []]) (xs:=(j8 (x.ts.fields.take k) (rs.take k) nm).map cRel) (ys:=[cRel rs[k]]) (by simp[go_sem]) (by simp[go_sem]) (by simp[go_sem]) rfl rfl (by omega) (by omega) (Own.push ho _) (by simp[qI]) (wZ _) (wZ [rs[k]]) (by simp;omega) ?_;intro av' mu' ho' hs' hb' hl';have k0:mu'[0]?=some (.arr [aI 0,.lst true []]):=by
     rw[hs' 0 (by simp) hn,qr l0];exact g0
    have m0:qt av'≠some 0:=fun e=>by have:=hb' 0 e;simp at this
    simp[go_sem,yb,e0,e4,e5,e6,e34,e35,e36,hlt,he,w1,Own.one ho'];refine Keep.mk' ⟨by simp[go_sem,e0],by simp[go_sem,e4],by simp[go_sem,e5],by simp[go_sem,e6],by simp[go_sem,e34],by simp[go_sem,e35],by simp[go_sem],by simpa[go_sem] using k0,?_,by simpa[go_sem] using m0⟩;rw[hs,zt];simpa[go_sem] using ho'
   .rw [if_neg he,zl]at hs
    simp[go_sem,yb,e0,e4,e5,e6,e34,e35,e36,hlt,he,w1];refine Keep.mk' ⟨by simp[go_sem,e0],by simp[go_sem,e4],by simp[go_sem,e5],by simp[go_sem,e6],by simp[go_sem,e34],by simp[go_sem,e35],by simp[go_sem],?_,?_,by simpa[go_sem] using hn⟩
    .simp only[qM];rw[qr l0];exact g0
    .rw [hs];simpa[go_sem] using Own.push ho _
  .have hge:k=x.ts.fields.length:=by omega
   rw[zX (by omega),zX (by omega)]at ho;generalize j8 x.ts.fields rs nm=F at *
   simp[go_sem,yb,e0,e4,e5,e6,e34,e35,e36,hge];refine qn.upF x.ts.sorts.length (fun k=>Keep (fun st=>st.tm 0=eMa x/\st.tm 5 = .ip [aS nm]/\st.tm 6 = .ptr 0 0/\st.tm 65=lSo x.ts.sorts/\st.tm 66=aI x.ts.sorts.length/\st.tm 67=aI k/\FndM st.mu (st.tm 9) (F++yA x nm 0 (x.ts.sorts.take k))) .mk) ?_ ?_
   .exact Keep.mk' ⟨by simp[go_sem,e0],by simp[go_sem,e5],by simp[go_sem,e6],by simp[go_sem],by simp[go_sem],by simp[go_sem],by simpa[go_sem] using g0,by simpa[go_sem,yA] using ho,by simpa[go_sem] using hn⟩
   rintro k st hk ⟨e0,e5,e6,e65,e66,e67,g0,ho,hn⟩;have hfs:=pk x nm x.ts.sorts k hk;by_cases hlt:k<x.ts.sorts.length
   .have w1:ql.wrap ((k:Int)+1)=(k:Int)+1:=qi (by omega) (by omega)
    have hs:=pj x nm x.ts.sorts k hlt;have hsz:=hM.ts.sl _ (qw hlt);have hka:k<x.m.sc.atoms.length:=by have:=hM.al;omega
    have hfull:=fullU x.m.sc hM.gsc hM.pos [(k:Int)] (fun s hs=>by rw[qY]at hs;omega) (by simp) (by simp);rw[qe0]at hfull;have hat:zp x k=(qu (gI x.m.sc.atoms k).toNat).map fun j:Nat=>sumI (x.m.sc.atoms.take k)+j:=rfl
    rw[<-hat]at hfull;have hfw:WKs [eSc x.m.sc,.lst true [rI k]] [eSc x.m.sc,lI [(k:Int)]] := .cons (.hf (jm _)) (.cons (WK.intsF [(k:Int)]) .nil);generalize hso:x.ts.sorts[k]=so at *
    obtain⟨sn,sb⟩:=so;have hs1:sn.size<=9223372036854775801:=by simp at hsz;omega
    have hs2:sn.size<=9223372036854775802:=by simp at hsz;omega
    generalize hF:F++yA x nm 0 (x.ts.sorts.take k)=F0 at *
    have hfin:F++yA x nm 0 (x.ts.sorts.take (k+1))=F0++wI x nm k (sn,sb):=by rw[hs,<-hF,zx]
    have hF0:F0.length<=18:=by rw[<-hF,zr];omega
    have l0:0<st.mu.length:=(qk.1 g0).1;simp[go_sem,yb,e0,e5,e6,e65,e66,e67,hlt,hso];refine qe.pure hfull hfw ?_;simp[go_sem,yb,e0,e5,e6,e65,e66,e67,hlt,hso];generalize hL:st.mu.length=L at *
    have hlt9:∀ b,qt (st.tm 9)=some b->b<L:=fun b hb=>by have:=Own.lt ho hb;omega
    have hpush:∀ c,Own (st.mu++c) 2 (st.tm 9) (F0.map cRel):=fun c=>Own.push ho c
    have g0':st.mu[0]'(qk.1 g0).1 = .arr [aI 0,.lst true []]:=(qk.1 g0).2;have hk0:∀ c:List Cell,(st.mu++c)[0]?=some (.arr [aI 0,.lst true []]):=fun c=>by rw[qr (by omega)];exact g0
    have hL0:∀ A B:Cell,(st.mu++[A,B])[L]?=some A:=fun A B=>by rw[q6 (by omega),hL];simp
    have hL1:∀ A B:Cell,(st.mu++[A,B])[L+1]?=some B:=fun A B=>by rw[q6 (by omega),hL];simp
    refine BrS.at (SInv x nm sn sb k L (L+1) F0) ⟨by simp[go_sem,e0],by simp[go_sem,e5],by simp[go_sem,e6],by simp[go_sem],by simp[go_sem],by simp[go_sem,e65],by simp[go_sem,e66],by simp[go_sem,e67],by simp[go_sem,List.getElem_append_left,hL,l0,g0'],by simp[go_sem,hL0],by simp[go_sem,hL1],by simp[go_sem,hpush],by simp[go_sem,hn],fun e=>?_,fun e=>?_⟩ fun st0 h0=>?_
    .have:=hlt9 L (by simpa[go_sem] using e);omega
    .have:=hlt9 (L+1) (by simpa[go_sem] using e);omega
    refine BrS.join (SInv x nm sn sb k L (L+1) (F0++if sn=nm then [⟨1,zp x k⟩] else [])) ?_ ?_ ?_
    .intro hd
     have hd:=of_decide_eq_true hd;rw[if_pos hd];simp[go_sem,h0.e14,h0.gd];refine h0.app (by simp[go_sem]) (by simp[go_sem]) (by omega) ⟨1,zp x k⟩ (by simp[qI]) fun av mu' hnw hc' hd'=>?_
     simp[go_sem,Own.one hnw.ho];refine Keep.mk' ?_;exact⟨by simp[go_sem,h0.e0],by simp[go_sem,h0.e5],by simp[go_sem,h0.e6],by simp[go_sem,h0.e13],by simp[go_sem,h0.e14],by simp[go_sem,h0.e65],by simp[go_sem,h0.e66],by simp[go_sem,h0.e67],hnw.g0,hc',hd',hnw.ho,hnw.n0,hnw.nc,hnw.nd⟩
    .intro hd
     have hd:=of_decide_eq_false hd;rw[if_neg hd,zl];simp[go_sem];exact Keep.mk' h0
    intro st1 h1;have hF1:(F0++if sn=nm then [(⟨1,zp x k⟩:Rl)] else []).length<=19:=by rw[zr];split<;>simp only[zO,List.length_nil]<;>omega
    cases sb with
    |false =>
     have hfk:F0++wI x nm k (sn,false)=F0++if sn=nm then [⟨1,zp x k⟩] else []:=by simp[wI]
     rw[<-hfk,<-hfin]at h1;simp[go_sem,yb,h1.e0,h1.e5,h1.e6,h1.e13,h1.e14,h1.e65,h1.e66,h1.e67,h1.gc,h1.gd,w1,hlt];exact Keep.mk' ⟨by simp[go_sem,h1.e0],by simp[go_sem,h1.e5],by simp[go_sem,h1.e6],by simp[go_sem,h1.e65],by simp[go_sem,h1.e66],by simp[go_sem],by simpa[go_sem] using h1.g0,by simpa[go_sem] using h1.ho,by simpa[go_sem] using h1.n0⟩
    |true =>
    generalize hF1':(F0++if sn=nm then [⟨1,zp x k⟩] else [])=F1 at *
    have hall:(zp x k).length<=100:=by
     obtain⟨u0,u1⟩:=hM.gsc.sum (k+1);obtain⟨v0,v1⟩:=hM.gsc.sum k;rw[w7 _ _ hka]at u1;unfold zp;rw[yO,List.length_range,w6 hka];omega
    simp[go_sem,yb,h1.e0,h1.e5,h1.e6,h1.e13,h1.e14,h1.e65,h1.e66,h1.e67,h1.gc,h1.gd,hs1];refine BrS.at (SInv x nm sn true k L (L+1) F1) ⟨by simp[go_sem,h1.e0],by simp[go_sem,h1.e5],by simp[go_sem,h1.e6],by simp[go_sem,h1.e13],by simp[go_sem,h1.e14],by simp[go_sem,h1.e65],by simp[go_sem,h1.e66],by simp[go_sem,h1.e67],h1.g0,h1.gc,h1.gd,h1.ho,h1.n0,h1.nc,h1.nd⟩ fun st2 h2=>?_
    refine BrS.join (SInv x nm sn true k L (L+1) (F1++if sn++jc=nm then [⟨1,(zp x k).take 1⟩] else [])) ?_ ?_ ?_
    .intro hd
     have hd:=of_decide_eq_true hd;have hd:sn++jc=nm:=by rw[hd];rfl
     rw[if_pos hd];obtain⟨m,hmi,hm1,hm2⟩:∃ m:Nat,(if ((zp x k).length:Int)<1 then ((zp x k).length:Int) else 1)=m/\m<=(zp x k).length/\(zp x k).take m=(zp x k).take 1:=by
      by_cases hz:(zp x k).length=0
      .exact ⟨0,by rw[if_pos (by omega),hz],by omega,by rw[List.length_eq_zero_iff.1 hz];rfl⟩
      .exact ⟨1,if_neg (by omega),by omega,rfl⟩
     have hcw:WKs [.lst false (((zp x k).map rI).take m)] [lI ((zp x k).take 1)] := .cons (by rw[<-List.map_take,hm2];exact .hf (yh _)) .nil;simp[go_sem,h2.e14,h2.gd,hmi,hm1];refine⟨⟨_,_,⟨rfl,rfl⟩,(uO _).ok⟩,?_⟩;refine qe.pure (clipI ((zp x k).take 1)) hcw ?_;generalize (zp x k).take 1=T1 at *
     simp[go_sem,h2.e14,h2.gd];refine h2.app (by simp[go_sem]) (by simp[go_sem]) (by omega) ⟨1,T1⟩ (by simp[qI]) fun av mu' hnw hc' hd'=>?_
     simp[go_sem,Own.one hnw.ho];refine Keep.mk' ?_;exact⟨by simp[go_sem,h2.e0],by simp[go_sem,h2.e5],by simp[go_sem,h2.e6],by simp[go_sem,h2.e13],by simp[go_sem,h2.e14],by simp[go_sem,h2.e65],by simp[go_sem,h2.e66],by simp[go_sem,h2.e67],hnw.g0,hc',hd',hnw.ho,hnw.n0,hnw.nc,hnw.nd⟩
    .intro hd
     have hd:=of_decide_eq_false hd;have hd:¬sn++jc=nm:=fun e=>hd (by rw[<-e];rfl)
     rw[if_neg hd,zl];simp[go_sem];exact Keep.mk' h2
    intro st3 h3;have hF2:(F1++if sn++jc=nm then [(⟨1,(zp x k).take 1⟩:Rl)] else []).length<=20:=by rw[zr];split<;>simp only[zO,List.length_nil]<;>omega
    have hfin2:F++yA x nm 0 (x.ts.sorts.take (k+1))=(F1++if sn++jc=nm then [⟨1,(zp x k).take 1⟩] else [])++(if sn++vz=nm then [⟨2,um x k⟩] else []):=by
     rw[hfin,<-hF1'];simp[wI]
    generalize (F1++if sn++jc=nm then [⟨1,(zp x k).take 1⟩] else [])=F2 at *
    simp[go_sem,yb,h3.e0,h3.e5,h3.e6,h3.e13,h3.e14,h3.e65,h3.e66,h3.e67,h3.gc,h3.gd,hs2];refine BrS.at (SInv x nm sn true k L (L+1) F2) ⟨by simp[go_sem,h3.e0],by simp[go_sem,h3.e5],by simp[go_sem,h3.e6],by simp[go_sem,h3.e13],by simp[go_sem,h3.e14],by simp[go_sem,h3.e65],by simp[go_sem,h3.e66],by simp[go_sem,h3.e67],h3.g0,h3.gc,h3.gd,h3.ho,h3.n0,h3.nc,h3.nd⟩ fun st4 h4=>?_
    refine BrS.intro ?_ ?_
    .intro hd
     have hd:=of_decide_eq_true hd;have hd:sn++vz=nm:=by rw[hd];rfl
     rw[if_pos hd]at hfin2;have gl:=(qk.1 h4.gd).1;have hA:∀(z:List Cell) (i:Nat),i<st4.mu.length->(st4.mu++z)[i]?=st4.mu[i]?:=fun z i hi=>qr hi
     obtain⟨A,hAe⟩:∃ A,A=st4.mu:=⟨_,rfl⟩;rw[<-hAe]at hA gl;have hAd:∀ z:List Cell,(A++z)[L+1]?=some (.arr [aI 1,lI (zp x k)]):=fun z=>by rw[hA z _ gl,hAe];exact h4.gd
     have hAL:∀(c:Cell) (z:List Cell),(A++c :: z)[A.length]?=some c:=fun c z=>by rw[q6 (qs _)];simp
     have hAs:∀(c d:Cell) (z:List Cell),(A++c :: z).set A.length d=A++d :: z:=fun c d z=>by rw[List.set_append_right _ _ (qs _)];simp
     have hT9:∀ b,qt (st4.tm 9)=some b->b<A.length:=fun b hb=>by rw[hAe];exact Own.lt h4.ho hb
     have hget:∀ j,j<(zp x k).length-1->∃ u v:Int,(zp x k)[j]?=some u/\(zp x k)[j+1]?=some v/\(0<=u/\u<x.n)/\(0<=v/\v<x.n)/\(um x k)[j]?=some (u*x.n+v):=by
      intro j hj;obtain⟨a0,a1,a2⟩:=hM.at0 k hlt;have hml:(zp x k).length=(gI x.m.sc.atoms k).toNat:=by simp[zp]
      refine⟨sumI (x.m.sc.atoms.take k)+j,sumI (x.m.sc.atoms.take k)+((j+1:Nat):Int),?_,?_,⟨by omega,by omega⟩,⟨by omega,by omega⟩,?_⟩
      .rw [zp,zj,vY (by omega)];rfl
      .rw [zp,zj,vY (by omega)];rfl
      .rw [um,zj,vY (by omega)]
       simp only[q8,qp];congr 1;omega
     have hNl:(um x k).length=(zp x k).length-1:=by simp[um,zp]
     generalize hAl:zp x k=al at *
     generalize hNx:um x k=nx at *
     simp[go_sem,<-hAe];refine qn.upF (al.length-1) (fun j=>Keep (fun st=>∃ av rest,st.mu=A++(.arr [aI 2,av] :: rest)/\OwnI st.mu av (nx.take j)/\(∀ b,qt av=some b->A.length<b)/\st.tm 0=eMa x/\st.tm 5 = .ip [aS nm]/\st.tm 6 = .ptr 0 0/\st.tm 9=st4.tm 9/\st.tm 14 = .ptr (L+1) 0/\st.tm 15 = .ptr A.length 0/\st.tm 16=aI ((j:Int)+1)/\st.tm 65=lSo x.ts.sorts/\st.tm 66=aI x.ts.sorts.length/\st.tm 67=aI k) .mk) ?_ ?_
     .exact Keep.mk' ⟨.lst true [],[],by simp[go_sem],.inl ⟨rfl,by simp⟩,by simp[qt],by simp[go_sem,h4.e0],by simp[go_sem,h4.e5],by simp[go_sem,h4.e6],by simp[go_sem],by simp[go_sem,h4.e14],by simp[go_sem],by simp[go_sem],by simp[go_sem,h4.e65],by simp[go_sem,h4.e66],by simp[go_sem,h4.e67]⟩
     rintro j st5 hj ⟨av,rest,hm5,ho5,hb5,i0,i5,i6,i9,i14,i15,i16,i65,i66,i67⟩;by_cases hjl:j<al.length-1
     .have hc:(j:Int)+1<al.length:=by omega
      obtain⟨u,v,hu,hv,hur,hvr,hnx⟩:=hget j hjl;obtain⟨hu1,hu2⟩:=qk.1 hu;obtain⟨hv1,hv2⟩:=qk.1 hv;obtain⟨hn1,hn2⟩:=qk.1 hnx;have wj:ql.wrap (j:Int)=j:=qi (by omega) (by omega);have wj':ql.wrap ((j:Int)+1+1)=(j:Int)+1+1:=qi (by omega) (by omega);have hrk:=rankU x.m.sc hM.gsc [u,v] (by simp) (fun d hd=>by
       rcases qz.1 hd with rfl|hd
       .exact hur
       .rw [qY]at hd;subst hd;exact hvr)
      have hrv:vD (sumI x.m.sc.atoms) [u,v]=u*x.n+v:=by simp[vD,Mo.n]
      rw[hrv]at hrk;have hrw:WKs [eSc x.m.sc,.lst true [[aI u],[aI v]]] [eSc x.m.sc,lI [u,v]] := .cons (.hf (jm _)) (.cons (WK.intsF [u,v]) .nil);simp[go_sem,i0,i5,i6,i9,i14,i15,i16,i65,i66,i67,hm5,hAd,hc];refine qg.seg [0,1,2,3,4,5,6,7,8,9,10,11,12,13,14,15,16,17,18,22,19,20,21,23] [(0,0,[]),(1,0,[]),(2,0,[]),(3,0,[]),(4,0,[]),(5,0,[]),(6,0,[]),(7,0,[]),(8,0,[]),(9,0,[]),(10,0,[]),(11,0,[]),(12,0,[]),(13,0,[]),(14,0,[]),(15,0,[]),(16,0,[]),(17,0,[]),(18,0,[]),(22,0,[]),(19,1,[1]),(20,0,[]),(21,1,[]),(23,1,[])] (by kernel_rfl) (by kernel_rfl) (by simp[go_sem]) ?_;simp[go_sem,i0,i5,i6,i9,i14,i15,i16,i65,i66,i67,hm5,hAd,hAL,hc,wj,hu1,hu2,hv1,hv2,show (0:Int)<=(j:Int)+1 by omega];refine qe.pure hrk hrw ?_;simp[go_sem,i0,i5,i6,i9,i14,i15,i16,i65,i66,i67,hm5,hAd,hAL];rw[hm5]at ho5;refine qF.ownV1 (e:=3) (bt:=8) (z:=0) (l:=nx.take j) (by simp[go_sem]) (by simp[go_sem]) (by simp[go_sem]) (by omega) ho5.v (by simp;omega) ?_;intro av' mu' ho' hs' hl' hb';have hAle:A.length<(A++(.arr [aI 2,av] :: rest)).length:=by simp
      have hme:mu'=A++(.arr [aI 2,av] :: mu'.drop (A.length+1)):=by
       apply List.ext_getElem?;intro i;by_cases hi:i<A.length
       .rw [qr hi,hs' i (by omega) (fun e=>by have:=hb5 i e;omega),qr hi]
       .rw [q6 (by omega)]
        by_cases hi2:i=A.length
        .subst hi2
         rw[hs' _ hAle (fun e=>by have:=hb5 _ e;omega),q6 (qs _)];simp
        .obtain ⟨q,hq⟩:∃ q,i-A.length=q+1:=⟨i-A.length-1,by omega⟩
         rw[hq,jS,List.getElem?_drop];congr 1;omega
      have hb'':∀ b,qt av'=some b->A.length<b:=fun b hb=>by have:=hb' b hb;omega
      rw[hme]at ho' ⊢;generalize mu'.drop (A.length+1)=rest' at *
      simp[go_sem,i0,i5,i6,i9,i14,i15,i16,i65,i66,i67,hAL,hAs,ho'.v.one,ho'.v.cells,wj'];refine⟨hjl,Keep.mk' ⟨av',rest',by simp[go_sem],?_,hb'',by simp[go_sem,i0],by simp[go_sem,i5],by simp[go_sem,i6],by simp[go_sem,i9],by simp[go_sem,i14],by simp[go_sem,i15],by simp[go_sem],by simp[go_sem,i65],by simp[go_sem,i66],by simp[go_sem,i67]⟩⟩;simp only[qM];rw[ya hn1,hn2];refine ho'.same fun b hb=>?_
      have:=hb'' b hb;rw[q6 (by omega),q6 (by omega)];obtain⟨q,hq⟩:∃ q,b-A.length=q+1:=⟨b-A.length-1,by omega⟩;rw[hq,jS,jS]
     .have hge:j=al.length-1:=by omega
      have hc:¬(j:Int)+1<al.length:=by omega
      rw[zX (by omega)]at ho5;simp[go_sem,i0,i5,i6,i9,i14,i15,i16,i65,i66,i67,hm5,hAd,hc];have hmL:(A++(.arr [aI 2,av] :: rest))[A.length]?=some (.arr [aI 2,av]):=hAL _ _;rw[hm5]at ho5;generalize hMM:A++(.arr [aI 2,av] :: rest)=MM at *
      have hkeep:∀ i,A.length<=i->(cutM (fun j=>decide (A.length<=j)) MM 0)[i]?=MM[i]?:=fun i hi=>by
       rw[uD,yE];cases MM[i]?<;>simp[hi]
      have hlow:∀ i,i<A.length->(cutM (fun j=>!decide (A.length<=j)) MM 0)[i]?=A[i]?:=fun i hi=>by
       rw[uD,yE,<-hMM,qr hi];cases A[i]?<;>simp<;>omega
      have hl0:0<A.length:=by omega
      have hfnd:FndM (cutM (fun j=>!decide (A.length<=j)) MM 0) (st4.tm 9) F2:=by
       refine⟨by rw[hlow 0 hl0,hAe];exact h4.g0,?_,h4.n0⟩;rcases h4.ho with h|⟨b,h,hcc⟩
       .exact .inl h
       .refine .inr ⟨b,h,?_⟩
        rw[hlow b (hT9 b (by rw[h];rfl)),hAe];exact hcc
      refine FzQ.above (d:=15) (L:=A.length) (x := .ip (cRel ⟨2,nx⟩)) ?_ ?_
      .simp only[qM,KE,i15]
       refine .ptr A.length 0 [aI 2,av] _ (by rw[hkeep _ (qs _)];exact hmL) (by simp) fun k u v hu hv=>?_
       match k with
       | 0=>simp at hu hv;subst hu;subst hv;exact .hf _ (HF.sc _)
       | 1 =>
        simp at hu hv;subst hu;subst hv;exact(ho5.v.same fun b hb=>hkeep b (by have:=hb5 b hb;omega)).rd
       |k+2=>simp at hv
      .simp [go_sem,i0,i5,i6,i9,i65,i66,i67]
       refine appR (F:=F2) (by simp[go_sem]) (by simp[go_sem]) hfnd (by omega) ⟨2,nx⟩ (by simp[qI]) fun av2 mu2 hf2=>?_
       rw[<-hfin2]at hf2;obtain⟨z0,z1,z2⟩:=hf2;simp[go_sem,i0,i5,i6,i9,i65,i66,i67,Own.one z1,w1,hlt];exact Keep.mk' ⟨by simp[go_sem,i0],by simp[go_sem,i5],by simp[go_sem,i6],by simp[go_sem,i65],by simp[go_sem,i66],by simp[go_sem],z0,z1,z2⟩
    .intro hd
     have hd:=of_decide_eq_false hd;have hd:¬sn++vz=nm:=fun e=>hd (by rw[<-e];rfl)
     rw[if_neg hd,zl]at hfin2;rw[<-hfin2]at h4;simp[go_sem,h4.e0,h4.e5,h4.e6,h4.e65,h4.e66,h4.e67,w1,hlt];exact Keep.mk' ⟨by simp[go_sem,h4.e0],by simp[go_sem,h4.e5],by simp[go_sem,h4.e6],by simp[go_sem,h4.e65],by simp[go_sem,h4.e66],by simp[go_sem],by simpa[go_sem] using h4.g0,by simpa[go_sem] using h4.ho,by simpa[go_sem] using h4.n0⟩
   .have hge:k=x.ts.sorts.length:=by omega
    subst hge;rw[zw]at ho;generalize F++yA x nm 0 x.ts.sorts=F0 at *
    simp[go_sem,yb,e0,e5,e6,e65,e66,e67];refine FzQ.ownB (d:=9) (sz:=2) (av:=st.tm 9) (xs:=F0.map cRel) (by simp[go_sem]) ho (wZ _) (fun r hr c hc=>by obtain⟨q,_,rfl⟩:=qq.1 hr;exact Z9 q c hc) fun mu' full hl hs=>?_
    have g0':mu'[0]?=some (.arr [aI 0,.lst true []]):=(hs 0 hn).trans g0;have hset:∀ c,(mu'.set 0 c)[0]?=some c:=fun c=>za (qk.1 g0').1
    match F0,hE with
    | [],hE =>
     simp only[Zk]at hE;subst hE;simp[go_sem,yb,e0,e5,e6,e65,e66,e67];refine qe.pans (uo 40) (wkI 40) ?_;simp[go_sem];exact .hf _ (qG _)
    | [r],hE =>
     simp only[Zk]at hE;subst hE;simp[go_sem,yb,e0,e5,e6,e65,e66,e67,g0',hset];exact .hf _ (qR r)
    |r :: s :: F1,hE =>
     have hne:¬(F1.length:Int)+1+1=0:=by omega
     have hne1:¬(F1.length:Int)+1+1=1:=by omega
     simp only[Zk]at hE;subst hE;simp[go_sem,yb,e0,e5,e6,e65,e66,e67,hne,hne1];refine qe.pans (uo 44) (wkI 44) ?_;simp[go_sem];exact .hf _ (qG _)
 .rintro e M ⟨rfl,a,rest,h2,rfl⟩
  rw[h2]at hE;simp only at hE;subst hE;simp[go_sem];refine .agg _ _ rfl fun k u v hu hv=>?_
  match k with
  | 0=>simp at hu hv;subst hu;subst hv;exact .hf _ (HF.sc _)
  | 1=>simp at hu hv;subst hu;subst hv;exact .wk _ true _ (.hf _ (HF.lst fun r hr c hc=>by simp at hr;subst hr;simp at hc;subst hc;exact HF.sc _))
  |k+2=>simp at hu
end F6
namespace F7
open Y1 P2 E1 E3 EA EO EP EQ ET F1 F2 F3 F4 F5 F6
theorem zU(a b:Int)(v:AV)(es:List (AV×AV))(i:Nat):zd qc 3 (.sc (.int .i64 a)) ((.sc (.int .i64 b),v) :: es) i=if a=b then some (some i) else zd qc 3 (.sc (.int .i64 a)) es (i+1):=by
 have h:ja qc 3 (.sc (.int .i64 a)) (.sc (.int .i64 b))=some (decide (a=b)):=keyI.eq a b trivial trivial;rw[zd,h];by_cases e:a=b<;>simp[e]
def RelN(mu:Mu)(ar:Int)(l:List Int):Prop:=∃ av,mu[0]?=some (.arr [aI 0,.lst true []])/\mu[2]?=some (.arr [aI ar,av])/\OwnI mu av l/\qt av≠some 0/\qt av≠some 2
theorem RelN.step{mu mu':Mu}{ar:Int}{av av':AV}{l:List Int}(h0:mu[0]?=some (.arr [aI 0,.lst true []]))(h1:mu[2]?=some (.arr [aI ar,av]))(n0:qt av≠some 0)(n1:qt av≠some 2)(ho:OwnI mu' av' l)
  (hs:∀ i,i<mu.length->qt av≠some i->mu'[i]?=mu[i]?) (hl:mu.length<=mu'.length) (hb:∀ b,qt av'=some b->b=mu.length):mu'[2]?=some (.arr [aI ar,av])/\RelN (mu'.set 2 (.arr [aI ar,av'])) ar l:=by
 have l1:2<mu.length:=(qk.1 h1).1;have m0:qt av'≠some 0:=fun e=>by have:=hb 0 e;omega
 have m1:qt av'≠some 2:=fun e=>by have:=hb 2 e;omega
 refine⟨by rw[hs 2 l1 n1];exact h1,av',by rw[qK (by omega),hs 0 (by omega) n0];exact h0,by rw[za (by omega)],ho.same fun b hb'=>?_,m0,m1⟩;rw[qK (fun e=>m1 (by rw[e];exact hb'))]
theorem vE{f:Nat}{l:List AV}{A E:XE Rl}(h:qL qc f l (endE A))(e:A=E):qL qc f l (endE E):=e ▸ h
theorem exprX(x:Mo)(N:Nat)(n:Nd)(hw:WfN n)(hM:OkMa x N)(ih:IH x N n)(p:Pl)(hp:OkP x N p)(hq:bd p n) :
  qL qc 53 [eMa x,ePl p,eNd n] (endE ((den x n).E p)):=by
 refine qT.of_sound ?_;refine qSW call53 func53 rfl {} ?_;have hMf:=zq x;have wx:=wk3 x p n;rw[Zl];simp only[opD];generalize hE:opE x n.op n.name n.n (n.kids.map (den x)) p=E;unfold opE at hE;by_cases o6:n.op=6
 .obtain ⟨a,b,hk⟩:=yL hw (by omega)
  have hr:=qeK x N n a b hM hk ih p hp hq;rw[o6,hk]at hE;replace hr:=vE hr hE;cases E with
  |error e =>
   simp[go_sem,o6,zU];refine qe.pans hr wx ?_;simp[go_sem];exact .hf _ (qG _)
  |ok r =>
   simp[go_sem,o6,zU];refine qe.pure hr.toP wx ?_;simp[go_sem];exact .hf _ (qR _)
 by_cases o7:n.op=7
 .obtain ⟨a,b,hk⟩:=yL hw (by omega)
  have hr:=qeL x N n a b hM hk ih p hp hq;rw[o7,hk]at hE;replace hr:=vE hr hE;cases E with
  |error e =>
   simp[go_sem,o7,zU];refine qe.pans hr wx ?_;simp[go_sem];exact .hf _ (qG _)
  |ok r =>
   simp[go_sem,o7,zU];refine qe.pure hr.toP wx ?_;simp[go_sem];exact .hf _ (qR _)
 by_cases o8:n.op=8
 .obtain ⟨a,b,hk⟩:=yL hw (by omega)
  have hr:=diffX x N n a b hM hk ih p hp hq;rw[o8,hk]at hE;replace hr:=vE hr hE;cases E with
  |error e =>
   simp[go_sem,o8,zU];refine qe.pans hr wx ?_;simp[go_sem];exact .hf _ (qG _)
  |ok r =>
   simp[go_sem,o8,zU];refine qe.pure hr.toP wx ?_;simp[go_sem];exact .hf _ (qR _)
 by_cases o14:n.op=14
 .obtain ⟨a,b,hk⟩:=yL hw (by omega)
  have hr:=overX x N n a b hM hk ih p hp hq;rw[o14,hk]at hE;replace hr:=vE hr hE;cases E with
  |error e =>
   simp[go_sem,o14,zU];refine qe.pans hr wx ?_;simp[go_sem];exact .hf _ (qG _)
  |ok r =>
   simp[go_sem,o14,zU];refine qe.pure hr.toP wx ?_;simp[go_sem];exact .hf _ (qR _)
 by_cases o9:n.op=9
 .obtain ⟨a,b,hk⟩:=yL hw (by omega)
  have hr:=joinX x N n a b hM hk ih p hp hq;rw[o9,hk]at hE;replace hr:=vE hr hE;cases E with
  |error e =>
   simp[go_sem,o9,zU];refine qe.pans hr wx ?_;simp[go_sem];exact .hf _ (qG _)
  |ok r =>
   simp[go_sem,o9,zU];refine qe.pure hr.toP wx ?_;simp[go_sem];exact .hf _ (qR _)
 by_cases o10:n.op=10
 .obtain ⟨a,b,hk⟩:=yL hw (by omega)
  have hr:=qeM x N n a b hM hk ih p hp hq;rw[o10,hk]at hE;replace hr:=vE hr hE;cases E with
  |error e =>
   simp[go_sem,o10,zU];refine qe.pans hr wx ?_;simp[go_sem];exact .hf _ (qG _)
  |ok r =>
   simp[go_sem,o10,zU];refine qe.pure hr.toP wx ?_;simp[go_sem];exact .hf _ (qR _)
 by_cases o11:n.op=11
 .obtain ⟨a,hk⟩:=j9 hw (by omega)
  have hr:=qeO x N n a hM hk ih p hp hq;rw[o11,hk]at hE;replace hr:=vE hr hE;cases E with
  |error e =>
   simp[go_sem,o11,zU];refine qe.pans hr wx ?_;simp[go_sem];exact .hf _ (qG _)
  |ok r =>
   simp[go_sem,o11,zU];refine qe.pure hr.toP wx ?_;simp[go_sem];exact .hf _ (qR _)
 by_cases o12:n.op=12
 .obtain ⟨a,hk⟩:=j9 hw (by omega)
  have hr:=pa x N n a hM hk ih p hp hq;rw[o12,hk]at hE;replace hr:=vE hr hE;cases E with
  |error e =>
   simp[go_sem,o12,zU];refine qe.pans hr wx ?_;simp[go_sem];exact .hf _ (qG _)
  |ok r =>
   simp[go_sem,o12,zU];refine qe.pure hr.toP wx ?_;simp[go_sem];exact .hf _ (qR _)
 by_cases o13:n.op=13
 .obtain ⟨a,hk⟩:=j9 hw (by omega)
  have hr:=qeP x N n a hM hk ih p hp hq;rw[o13,hk]at hE;replace hr:=vE hr hE;cases E with
  |error e =>
   simp[go_sem,o13,zU];refine qe.pans hr wx ?_;simp[go_sem];exact .hf _ (qG _)
  |ok r =>
   simp[go_sem,o13,zU];refine qe.pure hr.toP wx ?_;simp[go_sem];exact .hf _ (qR _)
 by_cases o5:n.op=5
 .obtain ⟨a,hk⟩:=j9 hw (by omega)
  have hr:=qeN x N n a hM hk ih p hp hq;rw[o5,hk]at hE;replace hr:=vE hr hE;cases E with
  |error e =>
   simp[go_sem,o5,zU];refine qe.pans hr wx ?_;simp[go_sem];exact .hf _ (qG _)
  |ok r =>
   simp[go_sem,o5,zU];refine qe.pure hr.toP wx ?_;simp[go_sem];exact .hf _ (qR _)
 by_cases o15:n.op=15
 .obtain ⟨a,b,hk⟩:=yL hw (by omega)
  have hr:=qeU x N n a b hM hk ih p hp hq;rw[o15,hk]at hE;replace hr:=vE hr hE;cases E with
  |error e =>
   simp[go_sem,o15,zU];refine qe.pans hr wx ?_;simp[go_sem];exact .hf _ (qG _)
  |ok r =>
   simp[go_sem,o15,zU];refine qe.pure hr.toP wx ?_;simp[go_sem];exact .hf _ (qR _)
 by_cases o1:n.op=1
 .have hr:=qe2 x N hM n.name p hp (by omega)
  have wn:WKs [eMa x,ePl p,aS n.name] [eMa x,ePl p,aS n.name] := .cons (.hf hMf) (.cons (.hf (J2 p)) (.cons (.hf (HF.sc _)) .nil));rw[o1]at hE;replace hr:=vE hr hE;cases E with
  |error e =>
   simp[go_sem,o1,zU];refine qe.pans hr wn ?_;simp[go_sem];exact .hf _ (qG _)
  |ok r =>
   simp[go_sem,o1,zU];refine qe.pure hr.toP wn ?_;simp[go_sem];exact .hf _ (qR _)
 by_cases o2:n.op=2
 .rw [o2]at hE
  replace hE:Except.ok ⟨n.n,[]⟩=E:=hE;subst hE;simp[go_sem,o2,zU];exact Qh
 by_cases o3:n.op=3
 .rw [o3]at hE
  replace hE:Except.ok ⟨1,(qu x.n.toNat).map fun k:Nat=>(k:Int)⟩=E:=hE;subst hE;have h0:=hM.n0;have h12:=hM.n12;obtain⟨m,hm⟩:=Int.eq_ofNat_of_zero_le h0;simp[go_sem,o3,zU];rw[hm]at h12;refine qn.upK m (fun k st=>st.tm 6 = .ptr 0 0/\st.tm 10 = .ptr 2 0/\st.tm 47=aI m/\st.tm 48=aI k/\RelN st.mu 1 ((qu k).map fun k:Nat=>(k:Int))) ?_ ?_
  .exact ⟨by simp[go_sem],by simp[go_sem],by simp[go_sem,hm],by simp[go_sem],.lst true [],by simp[go_sem],by simp[go_sem],.inl ⟨rfl,rfl⟩,by simp[qt],by simp[qt]⟩
  rintro k st hk ⟨e6,e10,e47,e48,av,g0,g2,ho,n0,n2⟩;by_cases hlt:k<m
  .have w1:ql.wrap ((k:Int)+1)=(k:Int)+1:=qi (by omega) (by omega)
   simp[go_sem,e6,e10,e47,e48,hlt,g2];refine qF.ownV1 (e:=3) (bt:=8) (z:=0) (by simp[go_sem]) (by simp[go_sem]) (by simp[go_sem]) (by omega) ho.v (by simp;omega) ?_;intro av' mu' ho' hs' hl' hb';obtain⟨k1,k2⟩:=RelN.step g0 g2 n0 n2 ho' hs' hl' hb';simp[go_sem,e6,e10,e47,e48,hlt,k1,ho'.v.one,ho'.v.cells,w1];refine Keep.mk' ⟨by simp[go_sem,e6],by simp[go_sem,e10],by simp[go_sem,e47],by simp[go_sem],?_⟩;rw[List.range_succ,zt];exact k2
  .have hge:k=m:=by omega
   subst hge;have hset:∀ c,(st.mu.set 0 c)[0]?=some c:=fun c=>za (qk.1 g0).1
   rw[hm];simp[go_sem,e6,e10,e47,e48,g0,g2,hset,ho.v.one,ho.v.cells];refine OwnV.rdRel (ho.v.same fun b hb=>?_);rw[qK (fun e=>n0 (by rw[e];exact hb))]
 by_cases o4:n.op=4
 .rw [o4]at hE
  replace hE:Except.ok (idR x.n)=E:=hE;subst hE;simp[go_sem,o4,zU];refine qe.pure (pb x.n hM.n0 hM.n12) (.cons (.hf (HF.sc _)) .nil) ?_;simp[go_sem];exact .hf _ (qR _)
 have hE:Except.error 43=E:=by
  rw[<-hE];rw[if_neg o1,if_neg o2,if_neg o3,if_neg o4,if_neg o5,if_neg o6,if_neg o7,if_neg o8,if_neg o9,if_neg o10,if_neg o11,if_neg o12,if_neg o13,if_neg o14,if_neg o15]
 subst hE;simp[go_sem,o1,o2,o3,o4,o5,o6,o7,o8,o9,o10,o11,o12,o13,o14,o15,zU];refine qe.pans (uo 43) (wkI 43) ?_;simp[go_sem];exact .hf _ (qG _)
end F7
namespace F8
open Y1 P2 E1 E3 EA ER EY F1 F2 F3
theorem f30(x:Mo)(N:Nat)(n:Nd)(hw:WfN n)(hM:OkMa x N)(ih:IH x N n)(p:Pl)(hp:OkP x N p)(hq:bd p n)(o30:n.op=30):qL qc 63 [eMa x,ePl p,eNd n] (endB (Except.ok true)):=by
 refine qT.of_sound ?_;refine qSW call63 func63 rfl {} ?_;have hMf:=zq x;simp[go_sem,o30];exact .hf _ (HF.sc _)
theorem f31(x:Mo)(N:Nat)(n:Nd)(hw:WfN n)(hM:OkMa x N)(ih:IH x N n)(p:Pl)(hp:OkP x N p)(hq:bd p n)(o31:n.op=31):qL qc 63 [eMa x,ePl p,eNd n] (endB (Except.ok false)):=by
 refine qT.of_sound ?_;refine qSW call63 func63 rfl {} ?_;have hMf:=zq x;simp[go_sem,o31];exact .hf _ (HF.sc _)
theorem f32(x:Mo)(N:Nat)(n a b:Nd)(hM:OkMa x N)(hk:n.kids=[a,b])(ih:IH x N n)(p:Pl)(hp:OkP x N p)(hq:bd p n)(o32:n.op=32):qL qc 63 [eMa x,ePl p,eNd n] (endB ((bX (zT [den x a,den x b] p) fun q => .ok (decide ((diR q.1 q.2).ts=[]))))):=by
 refine qT.of_sound ?_;refine qSW call63 func63 rfl {} ?_;have hMf:=zq x;have wx:=wk3 x p n;generalize hE:(bX (zT [den x a,den x b] p) fun q => .ok (decide ((diR q.1 q.2).ts=[])))=E;have hr:=Zq x N n a b hk ih p hp hq;simp[go_sem,o32];cases ea:zT [den x a,den x b] p with
 |error e =>
  rw[ea]at hr hE;subst hE;refine qe.pans hr wx ?_;simp[go_sem,q9];exact .hf _ (qG _)
 |ok q =>
  obtain⟨r,s⟩:=q;obtain⟨h1,h2,h3⟩:=ur ea;simp only[kD,vJ,List.getD_cons_succ]at h1 h2;have gr:=(ih a (by rw[hk];simp) p hp (by omega)).G _ h1;have gs:=(ih b (by rw[hk];simp) p hp (by omega)).G _ h2;have lr:=gr.len hM.n0 (OkMa.n20 hM);have ls:=gs.len hM.n0 (OkMa.n20 hM);rw[ea]at hr hE;rw[qO]at hE;subst hE;refine qe.pure hr.toP wx ?_;simp[go_sem];refine qe.pure (inU r s (by omega) (by omega)) (wkR2 r s) ?_;simp[go_sem];exact .hf _ (HF.sc _)
theorem f33(x:Mo)(N:Nat)(n a b:Nd)(hM:OkMa x N)(hk:n.kids=[a,b])(ih:IH x N n)(p:Pl)(hp:OkP x N p)(hq:bd p n)(o33:n.op=33):qL qc 63 [eMa x,ePl p,eNd n] (endB ((bX (zT [den x a,den x b] p) fun q => .ok (decide (q.1=q.2))))):=by
 refine qT.of_sound ?_;refine qSW call63 func63 rfl {} ?_;have hMf:=zq x;have wx:=wk3 x p n;generalize hE:(bX (zT [den x a,den x b] p) fun q => .ok (decide (q.1=q.2)))=E;have hr:=Zq x N n a b hk ih p hp hq;simp[go_sem,o33];cases ea:zT [den x a,den x b] p with
 |error e =>
  rw[ea]at hr hE;subst hE;refine qe.pans hr wx ?_;simp[go_sem,q9];exact .hf _ (qG _)
 |ok q =>
  obtain⟨r,s⟩:=q;obtain⟨h1,h2,h3⟩:=ur ea;simp only[kD,vJ,List.getD_cons_succ]at h1 h2;have gr:=(ih a (by rw[hk];simp) p hp (by omega)).G _ h1;have gs:=(ih b (by rw[hk];simp) p hp (by omega)).G _ h2;have lr:=gr.len hM.n0 (OkMa.n20 hM);have ls:=gs.len hM.n0 (OkMa.n20 hM);rw[ea]at hr hE;rw[qO]at hE;subst hE;refine qe.pure hr.toP wx ?_;simp[go_sem];refine qe.pure (E4.qc1 r s (by omega)) (wkR2 r s) ?_;simp[go_sem];exact .hf _ (HF.sc _)
theorem f34(x:Mo)(N:Nat)(n a:Nd)(hM:OkMa x N)(hk:n.kids=[a])(ih:IH x N n)(p:Pl)(hp:OkP x N p)(hq:bd p n)(o34:n.op=34):qL qc 63 [eMa x,ePl p,eNd n] (endB ((bX ((den x a).E p) fun a => .ok (decide (0<a.ts.length))))):=by
 refine qT.of_sound ?_;refine qSW call63 func63 rfl {} ?_;have hMf:=zq x;have wx:=wk3 x p n;generalize hE:(bX ((den x a).E p) fun a => .ok (decide (0<a.ts.length)))=E;have ia:=(ih a (by rw[hk];simp) p hp (by omega)).E;have wa:=wk3 x p a;simp[go_sem,o34,hk];refine qg.seg [0,1,2,3,4,5,6,7,8,9] [(0,0,[]),(1,0,[]),(2,0,[]),(3,0,[]),(4,0,[]),(5,0,[]),(6,1,[]),(7,0,[]),(8,0,[]),(9,0,[])] (by kernel_rfl) (by kernel_rfl) (by simp[go_sem]) ?_;simp[go_sem,hk];cases ea:(den x a).E p with
 |error e =>
  rw[ea]at ia hE;subst hE;refine qe.pans ia wa ?_;simp[go_sem,q9];exact .hf _ (qG _)
 |ok r =>
  rw[ea]at ia hE;rw[qO]at hE;subst hE;refine qe.pure ia.toP wa ?_;by_cases hc:0<r.ts.length
  .have hi:(0:Int)<r.ts.length:=by omega
   rw[decide_eq_true hc];simp[go_sem,o34,hc,hi];exact .hf _ (HF.sc _)
  .have hi:¬(0:Int)<r.ts.length:=by omega
   rw[decide_eq_false hc];simp[go_sem,o34,hc,hi];exact .hf _ (HF.sc _)
theorem f35(x:Mo)(N:Nat)(n a:Nd)(hM:OkMa x N)(hk:n.kids=[a])(ih:IH x N n)(p:Pl)(hp:OkP x N p)(hq:bd p n)(o35:n.op=35):qL qc 63 [eMa x,ePl p,eNd n] (endB ((bX ((den x a).E p) fun a => .ok (decide (a.ts.length=0))))):=by
 refine qT.of_sound ?_;refine qSW call63 func63 rfl {} ?_;have hMf:=zq x;have wx:=wk3 x p n;generalize hE:(bX ((den x a).E p) fun a => .ok (decide (a.ts.length=0)))=E;have ia:=(ih a (by rw[hk];simp) p hp (by omega)).E;have wa:=wk3 x p a;simp[go_sem,o35,hk];refine qg.seg [0,1,2,3,4,5,6,7,8,9] [(0,0,[]),(1,0,[]),(2,0,[]),(3,0,[]),(4,0,[]),(5,0,[]),(6,1,[]),(7,0,[]),(8,0,[]),(9,0,[])] (by kernel_rfl) (by kernel_rfl) (by simp[go_sem]) ?_;simp[go_sem,hk];cases ea:(den x a).E p with
 |error e =>
  rw[ea]at ia hE;subst hE;refine qe.pans ia wa ?_;simp[go_sem,q9];exact .hf _ (qG _)
 |ok r =>
  rw[ea]at ia hE;rw[qO]at hE;subst hE;refine qe.pure ia.toP wa ?_;by_cases hc:r.ts.length=0
  .have hi:r.ts=[]:=by exact List.length_eq_zero_iff.1 hc
   rw[decide_eq_true hc];simp[go_sem,o35,hc,hi];exact .hf _ (HF.sc _)
  .have hi:¬(r.ts=[]):=by exact fun e=>hc (List.length_eq_zero_iff.2 e)
   rw[decide_eq_false hc];simp[go_sem,o35,hc,hi];exact .hf _ (HF.sc _)
theorem f36(x:Mo)(N:Nat)(n a:Nd)(hM:OkMa x N)(hk:n.kids=[a])(ih:IH x N n)(p:Pl)(hp:OkP x N p)(hq:bd p n)(o36:n.op=36):qL qc 63 [eMa x,ePl p,eNd n] (endB ((bX ((den x a).E p) fun a => .ok (decide (a.ts.length=1))))):=by
 refine qT.of_sound ?_;refine qSW call63 func63 rfl {} ?_;have hMf:=zq x;have wx:=wk3 x p n;generalize hE:(bX ((den x a).E p) fun a => .ok (decide (a.ts.length=1)))=E;have ia:=(ih a (by rw[hk];simp) p hp (by omega)).E;have wa:=wk3 x p a;simp[go_sem,o36,hk];refine qg.seg [0,1,2,3,4,5,6,7,8,9] [(0,0,[]),(1,0,[]),(2,0,[]),(3,0,[]),(4,0,[]),(5,0,[]),(6,1,[]),(7,0,[]),(8,0,[]),(9,0,[])] (by kernel_rfl) (by kernel_rfl) (by simp[go_sem]) ?_;simp[go_sem,hk];cases ea:(den x a).E p with
 |error e =>
  rw[ea]at ia hE;subst hE;refine qe.pans ia wa ?_;simp[go_sem,q9];exact .hf _ (qG _)
 |ok r =>
  rw[ea]at ia hE;rw[qO]at hE;subst hE;refine qe.pure ia.toP wa ?_;by_cases hc:r.ts.length=1
  .have hi:(r.ts.length:Int)=1:=by omega
   rw[decide_eq_true hc];simp[go_sem,o36,hc,hi];exact .hf _ (HF.sc _)
  .have hi:¬(r.ts.length:Int)=1:=by omega
   rw[decide_eq_false hc];simp[go_sem,o36,hc,hi];exact .hf _ (HF.sc _)
theorem f37(x:Mo)(N:Nat)(n a:Nd)(hM:OkMa x N)(hk:n.kids=[a])(ih:IH x N n)(p:Pl)(hp:OkP x N p)(hq:bd p n)(o37:n.op=37):qL qc 63 [eMa x,ePl p,eNd n] (endB ((bX ((den x a).E p) fun a => .ok (decide (a.ts.length<=1))))):=by
 refine qT.of_sound ?_;refine qSW call63 func63 rfl {} ?_;have hMf:=zq x;have wx:=wk3 x p n;generalize hE:(bX ((den x a).E p) fun a => .ok (decide (a.ts.length<=1)))=E;have ia:=(ih a (by rw[hk];simp) p hp (by omega)).E;have wa:=wk3 x p a;simp[go_sem,o37,hk];refine qg.seg [0,1,2,3,4,5,6,7,8,9] [(0,0,[]),(1,0,[]),(2,0,[]),(3,0,[]),(4,0,[]),(5,0,[]),(6,1,[]),(7,0,[]),(8,0,[]),(9,0,[])] (by kernel_rfl) (by kernel_rfl) (by simp[go_sem]) ?_;simp[go_sem,hk];cases ea:(den x a).E p with
 |error e =>
  rw[ea]at ia hE;subst hE;refine qe.pans ia wa ?_;simp[go_sem,q9];exact .hf _ (qG _)
 |ok r =>
  rw[ea]at ia hE;rw[qO]at hE;subst hE;refine qe.pure ia.toP wa ?_;by_cases hc:r.ts.length<=1
  .have hi:(r.ts.length:Int)<=1:=by omega
   rw[decide_eq_true hc];simp[go_sem,o37,hc,hi];exact .hf _ (HF.sc _)
  .have hi:¬(r.ts.length:Int)<=1:=by omega
   rw[decide_eq_false hc];simp[go_sem,o37,hc,hi];exact .hf _ (HF.sc _)
theorem f38(x:Mo)(N:Nat)(n a b:Nd)(hM:OkMa x N)(hk:n.kids=[a,b])(ih:IH x N n)(p:Pl)(hp:OkP x N p)(hq:bd p n)(o38:n.op=38):qL qc 63 [eMa x,ePl p,eNd n] (endB ((bX ((den x a).N p) fun a=>bX ((den x b).N p) fun b => .ok (decide (a=b))))):=by
 refine qT.of_sound ?_;refine qSW call63 func63 rfl {} ?_;have hMf:=zq x;have wx:=wk3 x p n;generalize hE:(bX ((den x a).N p) fun a=>bX ((den x b).N p) fun b => .ok (decide (a=b)))=E;have ia:=(ih a (by rw[hk];simp) p hp (by omega)).N;have ib:=(ih b (by rw[hk];simp) p hp (by omega)).N;have wa:=wk3 x p a;have wb:=wk3 x p b;simp[go_sem,o38,hk];refine qg.seg [0,1,2,3,4,5,7,8,9,10,11,12,6,13,14,15] [(0,0,[]),(1,0,[]),(2,0,[]),(3,0,[]),(4,0,[]),(5,0,[]),(7,0,[]),(8,0,[]),(9,0,[]),(10,0,[]),(11,0,[]),(12,0,[]),(6,1,[8,10,12]),(13,1,[]),(14,0,[]),(15,0,[])] (by kernel_rfl) (by kernel_rfl) (by simp[go_sem]) ?_;simp[go_sem,hk];cases ea:(den x a).N p with
 |error e =>
  rw[ea]at ia hE;subst hE;refine qe.pans ia wa ?_;simp[go_sem,q9];exact .hf _ (qG _)
 |ok r =>
  rw[ea]at ia hE;rw[qO]at hE;refine qe.pure ia.toP wa ?_;simp[go_sem,hk];cases eb:(den x b).N p with
  |error e =>
   rw[eb]at ib hE;subst hE;refine qe.pans ib wb ?_;simp[go_sem,q9];exact .hf _ (qG _)
  |ok s =>
   rw[eb]at ib hE;rw[qO]at hE;subst hE;refine qe.pure ib.toP wb ?_;simp[go_sem];exact .hf _ (HF.sc _)
theorem f39(x:Mo)(N:Nat)(n a b:Nd)(hM:OkMa x N)(hk:n.kids=[a,b])(ih:IH x N n)(p:Pl)(hp:OkP x N p)(hq:bd p n)(o39:n.op=39):qL qc 63 [eMa x,ePl p,eNd n] (endB ((bX ((den x a).N p) fun a=>bX ((den x b).N p) fun b => .ok (decide (a<b))))):=by
 refine qT.of_sound ?_;refine qSW call63 func63 rfl {} ?_;have hMf:=zq x;have wx:=wk3 x p n;generalize hE:(bX ((den x a).N p) fun a=>bX ((den x b).N p) fun b => .ok (decide (a<b)))=E;have ia:=(ih a (by rw[hk];simp) p hp (by omega)).N;have ib:=(ih b (by rw[hk];simp) p hp (by omega)).N;have wa:=wk3 x p a;have wb:=wk3 x p b;simp[go_sem,o39,hk];refine qg.seg [0,1,2,3,4,5,7,8,9,10,11,12,6,13,14,15] [(0,0,[]),(1,0,[]),(2,0,[]),(3,0,[]),(4,0,[]),(5,0,[]),(7,0,[]),(8,0,[]),(9,0,[]),(10,0,[]),(11,0,[]),(12,0,[]),(6,1,[8,10,12]),(13,1,[]),(14,0,[]),(15,0,[])] (by kernel_rfl) (by kernel_rfl) (by simp[go_sem]) ?_;simp[go_sem,hk];cases ea:(den x a).N p with
 |error e =>
  rw[ea]at ia hE;subst hE;refine qe.pans ia wa ?_;simp[go_sem,q9];exact .hf _ (qG _)
 |ok r =>
  rw[ea]at ia hE;rw[qO]at hE;refine qe.pure ia.toP wa ?_;simp[go_sem,hk];cases eb:(den x b).N p with
  |error e =>
   rw[eb]at ib hE;subst hE;refine qe.pans ib wb ?_;simp[go_sem,q9];exact .hf _ (qG _)
  |ok s =>
   rw[eb]at ib hE;rw[qO]at hE;subst hE;refine qe.pure ib.toP wb ?_;simp[go_sem];exact .hf _ (HF.sc _)
theorem f40(x:Mo)(N:Nat)(n a:Nd)(hM:OkMa x N)(hk:n.kids=[a])(ih:IH x N n)(p:Pl)(hp:OkP x N p)(hq:bd p n)(o40:n.op=40):qL qc 63 [eMa x,ePl p,eNd n] (endB ((bX ((den x a).F p) fun a => .ok (!a)))):=by
 refine qT.of_sound ?_;refine qSW call63 func63 rfl {} ?_;have hMf:=zq x;have wx:=wk3 x p n;generalize hE:(bX ((den x a).F p) fun a => .ok (!a))=E;have ia:=(ih a (by rw[hk];simp) p hp (by omega)).F;have wa:=wk3 x p a;simp[go_sem,o40,hk];refine qg.seg [0,1,2,3,4,5,6,7,8] [(0,0,[]),(1,0,[]),(2,0,[]),(3,0,[]),(4,0,[]),(5,0,[]),(6,1,[]),(7,0,[]),(8,0,[])] (by kernel_rfl) (by kernel_rfl) (by simp[go_sem]) ?_;simp[go_sem,hk];cases ea:(den x a).F p with
 |error e =>
  rw[ea]at ia hE;subst hE;refine qe.pans ia wa ?_;simp[go_sem,q9];exact .hf _ (qG _)
 |ok r =>
  rw[ea]at ia hE;rw[qO]at hE;subst hE;refine qe.pure ia.toP wa ?_;simp[go_sem];exact .hf _ (HF.sc _)
theorem f41(x:Mo)(N:Nat)(n a b:Nd)(hM:OkMa x N)(hk:n.kids=[a,b])(ih:IH x N n)(p:Pl)(hp:OkP x N p)(hq:bd p n)(o41:n.op=41):qL qc 63 [eMa x,ePl p,eNd n] (endB ((bX ((den x a).F p) fun a=>bX ((den x b).F p) fun b => .ok (a&&b)))):=by
 refine qT.of_sound ?_;refine qSW call63 func63 rfl {} ?_;have hMf:=zq x;have wx:=wk3 x p n;generalize hE:(bX ((den x a).F p) fun a=>bX ((den x b).F p) fun b => .ok (a&&b))=E;have ia:=(ih a (by rw[hk];simp) p hp (by omega)).F;have ib:=(ih b (by rw[hk];simp) p hp (by omega)).F;have wa:=wk3 x p a;have wb:=wk3 x p b;simp[go_sem,o41,hk];refine qg.seg [0,1,2,3,4,5,7,8,9,10,11,12,6,14,13,15] [(0,0,[]),(1,0,[]),(2,0,[]),(3,0,[]),(4,0,[]),(5,0,[]),(7,0,[]),(8,0,[]),(9,0,[]),(10,0,[]),(11,0,[]),(12,0,[]),(6,1,[8,10,12]),(14,0,[]),(13,1,[]),(15,0,[])] (by kernel_rfl) (by kernel_rfl) (by simp[go_sem]) ?_;simp[go_sem,hk];cases ea:(den x a).F p with
 |error e =>
  rw[ea]at ia hE;subst hE;refine qe.pans ia wa ?_;simp[go_sem,q9];exact .hf _ (qG _)
 |ok r =>
  rw[ea]at ia hE;rw[qO]at hE;refine qe.pure ia.toP wa ?_;simp[go_sem,hk];cases eb:(den x b).F p with
  |error e =>
   rw[eb]at ib hE;subst hE;refine qe.pans ib wb ?_;simp[go_sem,q9];exact .hf _ (qG _)
  |ok s =>
   rw[eb]at ib hE;rw[qO]at hE;subst hE;refine qe.pure ib.toP wb ?_;cases r<;>cases s<;>simp[go_sem,o41]<;>exact .hf _ (HF.sc _)
theorem f42(x:Mo)(N:Nat)(n a b:Nd)(hM:OkMa x N)(hk:n.kids=[a,b])(ih:IH x N n)(p:Pl)(hp:OkP x N p)(hq:bd p n)(o42:n.op=42):qL qc 63 [eMa x,ePl p,eNd n] (endB ((bX ((den x a).F p) fun a=>bX ((den x b).F p) fun b => .ok (a||b)))):=by
 refine qT.of_sound ?_;refine qSW call63 func63 rfl {} ?_;have hMf:=zq x;have wx:=wk3 x p n;generalize hE:(bX ((den x a).F p) fun a=>bX ((den x b).F p) fun b => .ok (a||b))=E;have ia:=(ih a (by rw[hk];simp) p hp (by omega)).F;have ib:=(ih b (by rw[hk];simp) p hp (by omega)).F;have wa:=wk3 x p a;have wb:=wk3 x p b;simp[go_sem,o42,hk];refine qg.seg [0,1,2,3,4,5,7,8,9,10,11,12,6,14,13,15] [(0,0,[]),(1,0,[]),(2,0,[]),(3,0,[]),(4,0,[]),(5,0,[]),(7,0,[]),(8,0,[]),(9,0,[]),(10,0,[]),(11,0,[]),(12,0,[]),(6,1,[8,10,12]),(14,0,[]),(13,1,[]),(15,0,[])] (by kernel_rfl) (by kernel_rfl) (by simp[go_sem]) ?_;simp[go_sem,hk];cases ea:(den x a).F p with
 |error e =>
  rw[ea]at ia hE;subst hE;refine qe.pans ia wa ?_;simp[go_sem,q9];exact .hf _ (qG _)
 |ok r =>
  rw[ea]at ia hE;rw[qO]at hE;refine qe.pure ia.toP wa ?_;simp[go_sem,hk];cases eb:(den x b).F p with
  |error e =>
   rw[eb]at ib hE;subst hE;refine qe.pans ib wb ?_;simp[go_sem,q9];exact .hf _ (qG _)
  |ok s =>
   rw[eb]at ib hE;rw[qO]at hE;subst hE;refine qe.pure ib.toP wb ?_;cases r<;>cases s<;>simp[go_sem,o42]<;>exact .hf _ (HF.sc _)
theorem f43(x:Mo)(N:Nat)(n a b:Nd)(hM:OkMa x N)(hk:n.kids=[a,b])(ih:IH x N n)(p:Pl)(hp:OkP x N p)(hq:bd p n)(o43:n.op=43):qL qc 63 [eMa x,ePl p,eNd n] (endB ((bX ((den x a).F p) fun a=>bX ((den x b).F p) fun b => .ok (!a||b)))):=by
 refine qT.of_sound ?_;refine qSW call63 func63 rfl {} ?_;have hMf:=zq x;have wx:=wk3 x p n;generalize hE:(bX ((den x a).F p) fun a=>bX ((den x b).F p) fun b => .ok (!a||b))=E;have ia:=(ih a (by rw[hk];simp) p hp (by omega)).F;have ib:=(ih b (by rw[hk];simp) p hp (by omega)).F;have wa:=wk3 x p a;have wb:=wk3 x p b;simp[go_sem,o43,hk];refine qg.seg [0,1,2,3,4,5,7,8,9,10,11,12,6,14,13,15] [(0,0,[]),(1,0,[]),(2,0,[]),(3,0,[]),(4,0,[]),(5,0,[]),(7,0,[]),(8,0,[]),(9,0,[]),(10,0,[]),(11,0,[]),(12,0,[]),(6,1,[8,10,12]),(14,0,[]),(13,1,[]),(15,0,[])] (by kernel_rfl) (by kernel_rfl) (by simp[go_sem]) ?_;simp[go_sem,hk];cases ea:(den x a).F p with
 |error e =>
  rw[ea]at ia hE;subst hE;refine qe.pans ia wa ?_;simp[go_sem,q9];exact .hf _ (qG _)
 |ok r =>
  rw[ea]at ia hE;rw[qO]at hE;refine qe.pure ia.toP wa ?_;simp[go_sem,hk];cases eb:(den x b).F p with
  |error e =>
   rw[eb]at ib hE;subst hE;refine qe.pans ib wb ?_;simp[go_sem,q9];exact .hf _ (qG _)
  |ok s =>
   rw[eb]at ib hE;rw[qO]at hE;subst hE;refine qe.pure ib.toP wb ?_;cases r<;>cases s<;>simp[go_sem,o43]<;>exact .hf _ (HF.sc _)
theorem f44(x:Mo)(N:Nat)(n a b:Nd)(hM:OkMa x N)(hk:n.kids=[a,b])(ih:IH x N n)(p:Pl)(hp:OkP x N p)(hq:bd p n)(o44:n.op=44):qL qc 63 [eMa x,ePl p,eNd n] (endB ((bX ((den x a).F p) fun a=>bX ((den x b).F p) fun b => .ok (decide (a=b))))):=by
 refine qT.of_sound ?_;refine qSW call63 func63 rfl {} ?_;have hMf:=zq x;have wx:=wk3 x p n;generalize hE:(bX ((den x a).F p) fun a=>bX ((den x b).F p) fun b => .ok (decide (a=b)))=E;have ia:=(ih a (by rw[hk];simp) p hp (by omega)).F;have ib:=(ih b (by rw[hk];simp) p hp (by omega)).F;have wa:=wk3 x p a;have wb:=wk3 x p b;simp[go_sem,o44,hk];refine qg.seg [0,1,2,3,4,5,7,8,9,10,11,12,6,14,13,15] [(0,0,[]),(1,0,[]),(2,0,[]),(3,0,[]),(4,0,[]),(5,0,[]),(7,0,[]),(8,0,[]),(9,0,[]),(10,0,[]),(11,0,[]),(12,0,[]),(6,1,[8,10,12]),(14,0,[]),(13,1,[]),(15,0,[])] (by kernel_rfl) (by kernel_rfl) (by simp[go_sem]) ?_;simp[go_sem,hk];cases ea:(den x a).F p with
 |error e =>
  rw[ea]at ia hE;subst hE;refine qe.pans ia wa ?_;simp[go_sem,q9];exact .hf _ (qG _)
 |ok r =>
  rw[ea]at ia hE;rw[qO]at hE;refine qe.pure ia.toP wa ?_;simp[go_sem,hk];cases eb:(den x b).F p with
  |error e =>
   rw[eb]at ib hE;subst hE;refine qe.pans ib wb ?_;simp[go_sem,q9];exact .hf _ (qG _)
  |ok s =>
   rw[eb]at ib hE;rw[qO]at hE;subst hE;refine qe.pure ib.toP wb ?_;cases r<;>cases s<;>simp[go_sem,o44]<;>exact .hf _ (HF.sc _)
end F8
namespace E8
open Y1 E3 E5 E7
theorem pm{F G:Nat->XE Bool}:∀{l:List Nat} {d q b:Bool},untX F G l d q = .ok b->(∀ s,s∈l->∃ a,F s = .ok a)/\∀ s,s∈l->∃ a,G s = .ok a
 | [],d,q,b,_=>⟨fun s h=>absurd h zk,fun s h=>absurd h zk⟩
 |s :: l,d,q,b,e=>by
  rw[untX]at e;cases h1:F s with
  |error z=>rw[h1]at e;cases e
  |ok a =>
   rw[h1,qO]at e;cases h2:G s with
   |error z=>rw[h2]at e;cases e
   |ok c =>
    rw[h2,qO]at e;obtain⟨i1,i2⟩:=pm e;refine⟨fun y hy=>?_,fun y hy=>?_⟩
    .rcases qz.1 hy with rfl|hy
     .exact ⟨a,h1⟩
     .exact i1 y hy
    .rcases qz.1 hy with rfl|hy
     .exact ⟨c,h2⟩
     .exact i2 y hy
def okB:XE Bool->Bool
 | .ok b=>b
 | .error _=>false
theorem pn{q:XE Bool}(h:∃ a,q = .ok a):q = .ok (okB q):=by obtain⟨a,rfl⟩:=h;rfl
theorem pp{x:Mo}{N:Nat}(h:OkX x N){s:Nat}(hs:s<N)(k:Nat):it x k s∈x.path s:=by
 obtain⟨r,e,hr⟩:=Yi h hs;obtain⟨j,hj,e2,_⟩:=hr k;rw[e,e2];exact qq.2 ⟨j,zS.2 hj,rfl⟩
theorem pq{x:Mo}{N:Nat}(h:OkX x N){s:Nat}(hs:s<N){t:Nat}(ht:t∈x.path s):∃ k,it x k s=t:=by
 obtain⟨r,e,hr⟩:=Yi h hs;rw[e]at ht;obtain⟨j,_,e⟩:=qq.1 ht;exact⟨j,e⟩
theorem Yo(x:Mo)(p:Pl)(f g:Nd):(den x (nk 51 [f,g])).F p=untX (fun s=>(den x f).F ⟨s,p.env⟩) (fun s=>(den x g).F ⟨s,p.env⟩) (x.path p.st) false false:=by simp[den,dens,opD,opF,kD]
theorem pr(x:Mo)(p:Pl):(den x (nk 30 [])).F p = .ok true:=by simp[den,dens,opD,opF,kD]
theorem qe3(x:Mo)(p:Pl)(a:Nd):(den x (nk 5 [a])).E p=(den x a).E ⟨x.nx p.st,p.env⟩:=by simp[den,dens,opD,opE,kD]
structure Unf (x:Mo) (p:Pl) (f g:Nd):Prop where
 one:(den x (nk 48 [f])).F p=(den x (nk 41 [f,nk 50 [nk 48 [f]]])).F p
 two:(den x (nk 49 [f])).F p=(den x (nk 42 [f,nk 50 [nk 49 [f]]])).F p
 three:(den x (nk 51 [f,g])).F p=(den x (nk 42 [g,nk 41 [f,nk 50 [nk 51 [f,g]]]])).F p
 four:(den x (nk 49 [f])).F p=(den x (nk 51 [nk 30 [],f])).F p
 five:(den x (nk 43 [nk 51 [f,g],nk 49 [g]])).F p=(den x (nk 30 [])).F p
theorem qe4{x:Mo}{N:Nat}(h:OkX x N){s:Nat}(hs:s<N)(env:List (ByteArray×Int))(f g:Nd){b:Bool}(hb:(den x (nk 51 [f,g])).F ⟨s,env⟩ = .ok b):Unf x ⟨s,env⟩ f g:=by
 have hs1:=h.nx s hs;rw[Yo]at hb;obtain⟨i1,i2⟩:=pm hb;obtain⟨A,hA⟩:∃ A:Nat->Bool,A=fun t=>okB ((den x f).F ⟨t,env⟩):=⟨_,rfl⟩
 obtain⟨B,hB⟩:∃ B:Nat->Bool,B=fun t=>okB ((den x g).F ⟨t,env⟩):=⟨_,rfl⟩
 have fA:∀ t,t∈x.path s->(den x f).F ⟨t,env⟩ = .ok (A t):=fun t ht=>by rw[hA];exact pn (i1 t ht)
 have fB:∀ t,t∈x.path s->(den x g).F ⟨t,env⟩ = .ok (B t):=fun t ht=>by rw[hB];exact pn (i2 t ht)
 have sub:∀ t,t∈x.path (x.nx s)->t∈x.path s:=fun t ht=>by
  obtain⟨k,rfl⟩:=pq h hs1 ht;exact pp h hs (k+1)
 have h0:=pp h hs 0;have fA0:(den x f).F ⟨s,env⟩ = .ok (A s):=fA s h0;have fB0:(den x g).F ⟨s,env⟩ = .ok (B s):=fB s h0;have mA:mapX (fun t=>(den x f).F ⟨t,env⟩) (x.path s) = .ok ((x.path s).map A):=JV fA;have mA1:mapX (fun t=>(den x f).F ⟨t,env⟩) (x.path (x.nx s)) = .ok ((x.path (x.nx s)).map A):=JV fun t ht=>fA t (sub t ht)
 have mB:mapX (fun t=>(den x g).F ⟨t,env⟩) (x.path s) = .ok ((x.path s).map B):=JV fB;have uAB:untX (fun t=>(den x f).F ⟨t,env⟩) (fun t=>(den x g).F ⟨t,env⟩) (x.path s) false false = .ok (unt A B (x.path s) false false):=JW _ _ fA fB;have uAB1:untX (fun t=>(den x f).F ⟨t,env⟩) (fun t=>(den x g).F ⟨t,env⟩) (x.path (x.nx s)) false false = .ok (unt A B (x.path (x.nx s)) false false):=JW _ _ (fun t ht=>fA t (sub t ht)) fun t ht=>fB t (sub t ht)
 have uT:untX (fun t=>(den x (nk 30 [])).F ⟨t,env⟩) (fun t=>(den x f).F ⟨t,env⟩) (x.path s) false false = .ok (unt (fun _=>true) A (x.path s) false false):=JW _ _ (fun t _=>pr x _) fA;constructor
 .rw [ku,kq,UN,ku,mA,mA1,fA0]
  simp only[qO];congr 1;rw[ji,qA,ky h hs,ky h hs1];constructor
  .exact fun q=>⟨q 0,fun k=>q (k+1)⟩
  .rintro ⟨q0,q⟩ k
   cases k with
   |zero=>exact q0
   |succ k=>exact q k
 .rw [JU,F_or,UN,JU,mA,mA1,fA0]
  simp only[qO];congr 1;rw[ji,js,JZ h hs,JZ h hs1];constructor
  .rintro ⟨k,q⟩
   cases k with
   |zero=>exact .inl q
   |succ k=>exact .inr ⟨k,q⟩
  .rintro (q|⟨k,q⟩)
   .exact ⟨0,q⟩
   .exact ⟨k+1,q⟩
 .rw [Yo,F_or,kq,UN,Yo,uAB,uAB1,fA0,fB0]
  simp only[qO];congr 1;rw[ji,js,qA,JY h hs,JY h hs1];constructor
  .rintro ⟨k,q1,q2⟩
   cases k with
   |zero=>exact .inl q1
   |succ k=>exact .inr ⟨q2 0 (by omega),k,q1,fun j hj=>q2 (j+1) (by omega)⟩
  .rintro (q|⟨q0,k,q1,q2⟩)
   .exact ⟨0,q,fun j hj=>by omega⟩
   .refine ⟨k+1,q1,fun j hj=>?_⟩
    cases j with
    |zero=>exact q0
    |succ j=>exact q2 j (by omega)
 .rw [JU,Yo,mA,uT]
  simp only[qO];congr 1;rw[ji,JZ h hs,JY h hs];constructor
  .rintro ⟨k,q⟩;exact⟨k,q,fun _ _=>rfl⟩
  .rintro ⟨k,q,_⟩;exact⟨k,q⟩
 .rw [F_imp,Yo,JU,pr,uAB,mB]
  simp only[qO];congr 1;cases hu:unt A B (x.path s) false false with
  |false=>rfl
  |true =>
   obtain⟨k,q,_⟩:=(JY h hs A B).1 hu;rw[Bool.not_true,Bool.false_or,JZ h hs];exact⟨k,q⟩
end E8
namespace EB
end EB
namespace EK
open Y1 E3 E5
theorem pt{α β:Type}(g:α->XE β):∀ l:List α,mapX (fun a=>bX (g a) fun b => .ok (a,b)) l=bX (mapX g l) fun vs => .ok (l.zip vs)
 | []=>rfl
 |a :: l=>by
  rw[mapX,mapX,pt g l];cases g a with
  |error e=>rfl
  |ok b =>
   simp only[qO];cases mapX g l with
   |error e=>rfl
   |ok r=>rfl
theorem Vd{α β:Type}{g:α->XE β}:∀{l:List α} {r:List β},mapX g l = .ok r->r.length=l.length
 | [],r,h=>by cases h;rfl
 |a :: l,r,h=>by
  rw[mapX]at h;cases h1:g a with
  |error e=>rw[h1]at h;cases h
  |ok b =>
   rw[h1,qO]at h;cases h2:mapX g l with
   |error e=>rw[h2]at h;cases h
   |ok s =>
    rw[h2,qO]at h;cases h;rw[zO,zO,Vd h2]
def valX(x:Mo)(p:Pl)(nm:ByteArray)(f:Nd)(ts:List Int):XE (List Bool):=mapX (fun a=>(den x f).F ⟨p.st,p.env++[(nm,a)]⟩) ts
theorem Ve(x:Mo)(p:Pl)(nm:ByteArray)(d f:Nd):zY [den x d,den x f] nm p=bX ((den x d).E p) fun r=>if r.ar=1 then bX (valX x p nm f r.ts) fun vs => .ok (r.ts.zip vs) else .error 42:=by
 unfold zY valX;show bX ((den x d).E p) _=_;congr 1;funext r;split
 .exact pt _ _
 .rfl
theorem pu:∀(l:List Int) (vs:List Bool),vs.length=l.length->((l.zip vs).all fun e=>e.2)=vs.all id/\((l.zip vs).any fun e=>e.2)=vs.any id
 | [],[],_=>⟨rfl,rfl⟩
 |a :: l,b :: vs,h=>by
  obtain⟨i1,i2⟩:=pu l vs (by simpa using h);simp only[List.zip_cons_cons,List.all_cons,List.any_cons,i1,i2,id];exact⟨trivial,trivial⟩
 | [],_ :: _,h=>by simp at h
 |_ :: _,[],h=>by simp at h
def pick(l:List Int)(vs:List Bool):List Int:=((l.zip vs).filter fun e=>e.2).map fun e=>e.1
structure Inst (x:Mo) (p:Pl) (nm:ByteArray) (d f:Nd) (a b:XE Bool) (c:XE Ev.Rl):Prop where
 all:(den x (nb 45 nm d f)).F p=a
 some:(den x (nb 46 nm d f)).F p=b
 set:(den x (nb 15 nm d f)).E p=c
theorem Vf(x:Mo)(p:Pl)(nm:ByteArray)(d f:Nd):(den x (nb 15 nm d f)).E p=bX (zY [den x d,den x f] nm p) fun l => .ok ⟨1,(l.filter fun e=>e.2).map fun e=>e.1⟩:=by simp[den,dens,opD,opE]
theorem qe5{x:Mo}{p:Pl}{nm:ByteArray}{d f:Nd}{e:Int}(h:(den x d).E p = .error e):Inst x p nm d f (.error e) (.error e) (.error e):=by
 have hi:zY [den x d,den x f] nm p = .error e:=by rw[Ve,h];rfl
 exact⟨by rw[JT,hi];rfl,by rw[F_ex,hi];rfl,by rw[Vf,hi];rfl⟩
theorem qe6{x:Mo}{p:Pl}{nm:ByteArray}{d f:Nd}{r:Ev.Rl}(h:(den x d).E p = .ok r)(h1:r.ar≠1):Inst x p nm d f (.error 42) (.error 42) (.error 42):=by
 have hi:zY [den x d,den x f] nm p = .error 42:=by rw[Ve,h,qO,if_neg h1]
 exact⟨by rw[JT,hi];rfl,by rw[F_ex,hi];rfl,by rw[Vf,hi];rfl⟩
theorem qe7{x:Mo}{p:Pl}{nm:ByteArray}{d f:Nd}{r:Ev.Rl}{e:Int}(h:(den x d).E p = .ok r)(h1:r.ar=1)(hv:valX x p nm f r.ts = .error e):Inst x p nm d f (.error e) (.error e) (.error e):=by
 have hi:zY [den x d,den x f] nm p = .error e:=by rw[Ve,h,qO,if_pos h1,hv];rfl
 exact⟨by rw[JT,hi];rfl,by rw[F_ex,hi];rfl,by rw[Vf,hi];rfl⟩
theorem qe8{x:Mo}{p:Pl}{nm:ByteArray}{d f:Nd}{r:Ev.Rl}{vs:List Bool}(h:(den x d).E p = .ok r)(h1:r.ar=1)(hv:valX x p nm f r.ts = .ok vs):Inst x p nm d f (.ok (vs.all id)) (.ok (vs.any id)) (.ok ⟨1,pick r.ts vs⟩):=by
 have hi:zY [den x d,den x f] nm p = .ok (r.ts.zip vs):=by rw[Ve,h,qO,if_pos h1,hv];rfl
 obtain⟨z1,z2⟩:=pu r.ts vs (Vd hv);exact⟨by rw[JT,hi,qO,z1],by rw[F_ex,hi,qO,z2],by rw[Vf,hi];rfl⟩
end EK
namespace F9
open Y1 E3 E7 EA EL EO EP EW F1 F2 F3 F4 F5 F6
theorem f45(x:Mo)(N:Nat)(n a b:Nd)(hM:OkMa x N)(hk:n.kids=[a,b])(ih:IH x N n)(p:Pl)(hp:OkP x N p)(hq:bd p n)(o45:n.op=45):qL qc 63 [eMa x,ePl p,eNd n] (endB (bX (zY [den x a,den x b] n.name p) fun l => .ok (l.all fun e=>e.2))):=by
 refine qT.of_sound ?_;refine qSW call63 func63 rfl {} ?_;have hMf:=zq x;have hi:=Wi x N n a b hM hk ih p hp hq;have wx:=wk3 x p n;simp[go_sem,o45];cases hE:zY [den x a,den x b] n.name p with
 |error e =>
  rw[hE]at hi;refine qe.pans hi wx ?_;simp[go_sem,q9];exact .hf _ (qG _)
 |ok l =>
  rw[hE]at hi;have hl:l.length<=8000:=Wk hE 8000 fun d h=>((ih a (by rw[hk];simp) p hp (by omega)).G d h).len hM.n0 (OkMa.n20 hM)
  have hit:=Wg 1 (l.map Prod.fst) (l.map Prod.snd) (by simp) (by simp;omega);rw[Wj]at hit;rw[Vc]at hi;refine qe.pure hi.toP wx ?_;generalize insC 1 (l.map Prod.fst) (l.map Prod.snd)=C at *
  simp[go_sem,qO];refine j5.keep hit (fun j M=>∃ rest,M = .arr [aB ((l.take j).any fun e=>e.2)] :: .arr [aB ((l.take j).all fun e=>e.2)] :: rest) (fun _ _=>False) ?_ ?_ ?_ ?_ ?_ ?_
  .exact ⟨_,by simp only[qM,yY];rfl⟩
  .rintro j M ⟨rest,rfl⟩
   exact⟨rest++[.dead],rfl⟩
  .intro e M h;exact h
  .rintro j y M hj ⟨rest,rfl⟩
   rw[zj,ve]at hj;obtain⟨t,ht,rfl⟩:=hj;obtain⟨hjl,hte⟩:=qk.1 ht;have hs:=ya hjl;rw[hte]at hs;refine⟨rfl,?_⟩;have ha:((l.take (j+1)).any fun e=>e.2)=((l.take j).any (fun e=>e.2)||t.2):=by rw[hs,List.any_append];simp
   have hb:((l.take (j+1)).all fun e=>e.2)=((l.take j).all (fun e=>e.2)&&t.2):=by rw[hs,List.all_append];simp
   generalize (l.take j).any (fun e=>e.2)=A at *
   generalize (l.take j).all (fun e=>e.2)=B at *
   cases A<;>cases B<;>cases t2:t.2
   all_goals simp[go_sem,t2]
   all_goals refine jP.intro ?_
   all_goals rw[ha,hb,t2]
   all_goals exact⟨_,rfl⟩
  .rintro M ⟨rest,rfl⟩
   rw[yO,zw];generalize (l.any fun e=>e.2)=A at *
   generalize (l.all fun e=>e.2)=B at *
   cases A<;>cases B
   all_goals simp[go_sem,o45]
   all_goals exact .hf _ (HF.sc _)
  .intro e M h;exact h.elim
theorem f46(x:Mo)(N:Nat)(n a b:Nd)(hM:OkMa x N)(hk:n.kids=[a,b])(ih:IH x N n)(p:Pl)(hp:OkP x N p)(hq:bd p n)(o46:n.op=46):qL qc 63 [eMa x,ePl p,eNd n] (endB (bX (zY [den x a,den x b] n.name p) fun l => .ok (l.any fun e=>e.2))):=by
 refine qT.of_sound ?_;refine qSW call63 func63 rfl {} ?_;have hMf:=zq x;have hi:=Wi x N n a b hM hk ih p hp hq;have wx:=wk3 x p n;simp[go_sem,o46];cases hE:zY [den x a,den x b] n.name p with
 |error e =>
  rw[hE]at hi;refine qe.pans hi wx ?_;simp[go_sem,q9];exact .hf _ (qG _)
 |ok l =>
  rw[hE]at hi;have hl:l.length<=8000:=Wk hE 8000 fun d h=>((ih a (by rw[hk];simp) p hp (by omega)).G d h).len hM.n0 (OkMa.n20 hM)
  have hit:=Wg 1 (l.map Prod.fst) (l.map Prod.snd) (by simp) (by simp;omega);rw[Wj]at hit;rw[Vc]at hi;refine qe.pure hi.toP wx ?_;generalize insC 1 (l.map Prod.fst) (l.map Prod.snd)=C at *
  simp[go_sem,qO];refine j5.keep hit (fun j M=>∃ rest,M = .arr [aB ((l.take j).any fun e=>e.2)] :: .arr [aB ((l.take j).all fun e=>e.2)] :: rest) (fun _ _=>False) ?_ ?_ ?_ ?_ ?_ ?_
  .exact ⟨_,by simp only[qM,yY];rfl⟩
  .rintro j M ⟨rest,rfl⟩
   exact⟨rest++[.dead],rfl⟩
  .intro e M h;exact h
  .rintro j y M hj ⟨rest,rfl⟩
   rw[zj,ve]at hj;obtain⟨t,ht,rfl⟩:=hj;obtain⟨hjl,hte⟩:=qk.1 ht;have hs:=ya hjl;rw[hte]at hs;refine⟨rfl,?_⟩;have ha:((l.take (j+1)).any fun e=>e.2)=((l.take j).any (fun e=>e.2)||t.2):=by rw[hs,List.any_append];simp
   have hb:((l.take (j+1)).all fun e=>e.2)=((l.take j).all (fun e=>e.2)&&t.2):=by rw[hs,List.all_append];simp
   generalize (l.take j).any (fun e=>e.2)=A at *
   generalize (l.take j).all (fun e=>e.2)=B at *
   cases A<;>cases B<;>cases t2:t.2
   all_goals simp[go_sem,t2]
   all_goals refine jP.intro ?_
   all_goals rw[ha,hb,t2]
   all_goals exact⟨_,rfl⟩
  .rintro M ⟨rest,rfl⟩
   rw[yO,zw];generalize (l.any fun e=>e.2)=A at *
   generalize (l.all fun e=>e.2)=B at *
   cases A<;>cases B
   all_goals simp[go_sem,o46]
   all_goals exact .hf _ (HF.sc _)
  .intro e M h;exact h.elim
theorem pv(x:Mo):∀(f s:Nat) (acc:List Nat),(uX x f s acc).length<=acc.length+f
 | 0,s,acc=>by simp[uX]
 |f+1,s,acc=>by
  simp only[uX];split
  .omega
  .have:=pv x f (x.nx s) (acc++[s])
   rw[zr,List.length_singleton]at this;omega
theorem Wm(x:Mo)(s:Nat):(x.path s).length<=x.m.states.length+1:=by
 have:=pv x (x.m.states.length+1) s [];simpa[Mo.path] using this
theorem Vg{x:Mo}{N:Nat}(hM:OkMa x N){p:Pl}(hp:OkP x N p):∀ s,s∈x.path p.st->OkP x N ⟨s,p.env⟩:=fun s hs=>by
 obtain⟨k,rfl⟩:=E8.pq hM.toOkX hp.st hs;exact⟨UP hM.toOkX hp.st k,hp.env⟩
theorem qe9(l:List Bool):l.all id=!decide (false∈l):=by
 rw[ji];simp only[qC,id,Bool.not_eq_true',decide_eq_false_iff_not];exact⟨fun h hm=>by simpa using h _ hm,fun h b hb=>by cases b with|true=>rfl|false=>exact(h hb).elim⟩
theorem qfA(l:List Bool):l.any id=decide (true∈l):=by
 rw[ji];simp
theorem f48(x:Mo)(N:Nat)(n a:Nd)(hM:OkMa x N)(hk:n.kids=[a])(ih:IH x N n)(p:Pl)(hp:OkP x N p)(hq:bd p n)(o48:n.op=48):qL qc 63 [eMa x,ePl p,eNd n] (endB (bX (mapX (fun s=>(den x a).F ⟨s,p.env⟩) (x.path p.st)) fun l => .ok (l.all id))):=by
 refine qT.of_sound ?_;refine qSW call63 func63 rfl {} ?_;have hMf:=zq x;have hN:=hM.N1;have hl:=hM.len;have hpu:=Wf x N hM p.st hp.st;have hpl:=Wm x p.st;have wpu:WKs [eMa x,aI p.st] [eMa x,aI p.st] := .cons (.hf hMf) (.cons (.hf (HF.sc _)) .nil);have hal:=pf x (x.path p.st) (by omega) p a fun s hs=>ih a (by rw[hk];simp) _ (Vg hM hp s hs) (by show p.env.length+_<=_;omega)
 have wal:WKs [eMa x,lN (x.path p.st),ePl p,eNd a] [eMa x,lN (x.path p.st),ePl p,eNd a] := .cons (.hf hMf) (.cons (WK.intsF _) (.cons (.hf (J2 p)) (.cons (.hf (qH a)) .nil)));simp[go_sem,o48,hk];refine qg.seg [0,1,2,3,5,6,7,8,9,4,10,11,12,13] [(0,0,[]),(1,0,[]),(2,0,[]),(3,0,[]),(5,0,[]),(6,0,[]),(7,0,[]),(8,0,[]),(9,0,[]),(4,1,[5,7,9]),(10,1,[]),(11,1,[]),(12,0,[]),(13,0,[])] (by kernel_rfl) (by kernel_rfl) (by simp[go_sem]) ?_;simp[go_sem,hk];refine qe.pure hpu wpu ?_;simp[go_sem,hk];cases em:mapX (fun s=>(den x a).F ⟨s,p.env⟩) (x.path p.st) with
 |error e =>
  rw[em]at hal;refine qe.pans hal wal ?_;simp[go_sem,q9];exact .hf _ (qG _)
 |ok l =>
  rw[em]at hal;have hll:l.length=(x.path p.st).length:=EK.Vd em;refine qe.pure hal.toP wal ?_;simp[go_sem];refine qe.pure (pg l false (by omega)) (.cons (.hf (UV l)) (.cons (.hf (HF.sc _)) .nil)) ?_;have hb:(l.all id)=!decide (false∈l):=qe9 l;generalize decide (false∈l)=B at *
  simp[go_sem,qO,hb];exact .hf _ (HF.sc _)
theorem f49(x:Mo)(N:Nat)(n a:Nd)(hM:OkMa x N)(hk:n.kids=[a])(ih:IH x N n)(p:Pl)(hp:OkP x N p)(hq:bd p n)(o49:n.op=49):qL qc 63 [eMa x,ePl p,eNd n] (endB (bX (mapX (fun s=>(den x a).F ⟨s,p.env⟩) (x.path p.st)) fun l => .ok (l.any id))):=by
 refine qT.of_sound ?_;refine qSW call63 func63 rfl {} ?_;have hMf:=zq x;have hN:=hM.N1;have hl:=hM.len;have hpu:=Wf x N hM p.st hp.st;have hpl:=Wm x p.st;have wpu:WKs [eMa x,aI p.st] [eMa x,aI p.st] := .cons (.hf hMf) (.cons (.hf (HF.sc _)) .nil);have hal:=pf x (x.path p.st) (by omega) p a fun s hs=>ih a (by rw[hk];simp) _ (Vg hM hp s hs) (by show p.env.length+_<=_;omega)
 have wal:WKs [eMa x,lN (x.path p.st),ePl p,eNd a] [eMa x,lN (x.path p.st),ePl p,eNd a] := .cons (.hf hMf) (.cons (WK.intsF _) (.cons (.hf (J2 p)) (.cons (.hf (qH a)) .nil)));simp[go_sem,o49,hk];refine qg.seg [0,1,2,3,5,6,7,8,9,4,10,11,12] [(0,0,[]),(1,0,[]),(2,0,[]),(3,0,[]),(5,0,[]),(6,0,[]),(7,0,[]),(8,0,[]),(9,0,[]),(4,1,[5,7,9]),(10,1,[]),(11,1,[]),(12,0,[])] (by kernel_rfl) (by kernel_rfl) (by simp[go_sem]) ?_;simp[go_sem,hk];refine qe.pure hpu wpu ?_;simp[go_sem,hk];cases em:mapX (fun s=>(den x a).F ⟨s,p.env⟩) (x.path p.st) with
 |error e =>
  rw[em]at hal;refine qe.pans hal wal ?_;simp[go_sem,q9];exact .hf _ (qG _)
 |ok l =>
  rw[em]at hal;have hll:l.length=(x.path p.st).length:=EK.Vd em;refine qe.pure hal.toP wal ?_;simp[go_sem];refine qe.pure (pg l true (by omega)) (.cons (.hf (UV l)) (.cons (.hf (HF.sc _)) .nil)) ?_;have hb:(l.any id)=decide (true∈l):=qfA l;generalize decide (true∈l)=B at *
  simp[go_sem,qO,hb];exact .hf _ (HF.sc _)
theorem f50(x:Mo)(N:Nat)(n a:Nd)(hM:OkMa x N)(hk:n.kids=[a])(ih:IH x N n)(p:Pl)(hp:OkP x N p)(hq:bd p n)(o50:n.op=50):qL qc 63 [eMa x,ePl p,eNd n] (endB ((den x a).F ⟨x.nx p.st,p.env⟩)):=by
 refine qT.of_sound ?_;refine qSW call63 func63 rfl {} ?_;have hMf:=zq x;have ha:=(ih a (by rw[hk];simp) _ (OkP.nx hM.toOkM hp) (by show p.env.length+_<=_;omega)).F;have wa:=wk3 x ⟨x.nx p.st,p.env⟩ a;have hN:=hM.N1;have hl:=hM.len;have hnx:=J0 x hM.loop (by omega) p.st (by have:=hp.st;omega);have hnw:WKs [eMd x.m,aI p.st] [eMd x.m,aI p.st] := .cons (.hf (yB x.m)) (.cons (.hf (HF.sc _)) .nil);simp[go_sem,o50,hk];refine qg.seg [0,1,2,3,4,5,6,8,9,11,12,13,14,7,10,15,16] [(0,0,[]),(1,0,[]),(2,0,[]),(3,0,[]),(4,0,[]),(5,0,[]),(6,0,[]),(8,0,[]),(9,0,[]),(11,0,[]),(12,0,[]),(13,0,[]),(14,0,[]),(7,1,[9,12,14]),(10,0,[]),(15,1,[]),(16,0,[])] (by kernel_rfl) (by kernel_rfl) (by simp[go_sem]) ?_;simp[go_sem,hk];refine qe.pure hnx hnw ?_;simp[go_sem,hk];cases ea:(den x a).F ⟨x.nx p.st,p.env⟩ with
 |error e =>
  rw[ea]at ha;refine qe.pans ha wa ?_;simp[go_sem];exact .hf _ (qG _)
 |ok r =>
  rw[ea]at ha;refine qe.pure ha.toP wa ?_;simp[go_sem];exact .hf _ (HF.sc _)
theorem f51(x:Mo)(N:Nat)(n a b:Nd)(hM:OkMa x N)(hk:n.kids=[a,b])(ih:IH x N n)(p:Pl)(hp:OkP x N p)(hq:bd p n)(o51:n.op=51):qL qc 63 [eMa x,ePl p,eNd n] (endB (untX (fun s=>(den x a).F ⟨s,p.env⟩) (fun s=>(den x b).F ⟨s,p.env⟩) (x.path p.st) false false)):=by
 refine qT.of_sound ?_;refine qSW call63 func63 rfl {} ?_;have hMf:=zq x;have hN:=hM.N1;have hl:=hM.len;have hpl:=Wm x p.st;have hr:=qeR x N n a b hM hk p hp (fun s hs=>⟨ih a (by rw[hk];simp) _ (Vg hM hp s hs) (by show p.env.length+_<=_;omega),ih b (by rw[hk];simp) _ (Vg hM hp s hs) (by show p.env.length+_<=_;omega)⟩) (by omega);have wx:=wk3 x p n;generalize untX (fun s=>(den x a).F ⟨s,p.env⟩) (fun s=>(den x b).F ⟨s,p.env⟩) (x.path p.st) false false=E at *
 simp[go_sem,o51];cases E with
 |error e =>
  refine qe.pans hr wx ?_;simp[go_sem];exact .hf _ (qG _)
 |ok r =>
  refine qe.pure hr.toP wx ?_;simp[go_sem];exact .hf _ (HF.sc _)
theorem f47(x:Mo)(N:Nat)(n:Nd)(hM:OkMa x N)(hkl:n.kids.length<=1000000)(ih:IH x N n)(p:Pl)(hp:OkP x N p)(hq:bd p n)(o47:n.op=47):qL qc 63 [eMa x,ePl p,eNd n] (endB (bX (mapX (fun d:Den=>d.E p) (n.kids.map (den x))) fun _ => .error 45)):=by
 refine qT.of_sound ?_;refine qSW call63 func63 rfl {} ?_;have hMf:=zq x;generalize hE:mapX (fun d:Den=>d.E p) (n.kids.map (den x))=E;simp[go_sem,o47];refine qn.upK n.kids.length (fun k st=>∃ acc,mapX (fun d:Den=>d.E p) ((n.kids.take k).map (den x)) = .ok acc/\st.tm 0=eMa x/\st.tm 4 = .ip (cPl p)/\st.tm 282=lNd n.kids/\st.tm 283=aI n.kids.length/\st.tm 284=aI k) ?_ ?_
 .exact ⟨[],rfl,by simp[go_sem],by simp[go_sem],by simp[go_sem],by simp[go_sem],by simp[go_sem]⟩
 rintro k st hk ⟨acc,ha,e0,e4,e282,e283,e284⟩;by_cases hlt:k<n.kids.length
 .have w1:ql.wrap ((k:Int)+1)=(k:Int)+1:=qi (by omega) (by omega)
  have hF:=(ih n.kids[k] (qw hlt) p hp (by omega)).E;have hw:=wk3 x p n.kids[k];have hsp:=u4 (l2:=(n.kids.drop k).map (den x)) ha;rw[<-zt,vh,zi hlt,yz,mapX,hE]at hsp;simp[go_sem,e0,e4,e282,e283,e284,hlt];cases ef:(den x n.kids[k]).E p with
  |error e =>
   rw[ef]at hF hsp;rw[q9,q9]at hsp;subst hsp;refine qe.pans hF hw ?_;simp[go_sem,q9];exact .hf _ (qG _)
  |ok r =>
   rw[ef]at hF;refine qe.pure hF.toP hw ?_;simp[go_sem,e0,e4,e282,e283,e284,w1];refine⟨hlt,Keep.mk' ⟨acc++[r],?_,by simp[go_sem,e0],by simp[go_sem,e4],by simp[go_sem,e282],by simp[go_sem,e283],by simp[go_sem]⟩⟩;rw[ya hlt,zt,u4 ha,yz,List.map_nil,mapX,ef];rfl
 .have hge:k=n.kids.length:=by omega
  subst hge;rw[zw,hE]at ha;subst ha;rw[qO];simp[go_sem,e0,e4,e282,e283,e284];refine qe.pans (uo 45) (wkI 45) ?_;simp[go_sem];exact .hf _ (qG _)
theorem fNo(x:Mo)(n:Nd)(p:Pl)(h:∀ k:Int,(30<=k/\k<=51)->n.op≠k):qL qc 63 [eMa x,ePl p,eNd n] (endB (.error 43)):=by
 refine qT.of_sound ?_;refine qSW call63 func63 rfl {} ?_;have hMf:=zq x;have o30:=h 30 (by decide);have o31:=h 31 (by decide);have o32:=h 32 (by decide);have o33:=h 33 (by decide);have o34:=h 34 (by decide);have o35:=h 35 (by decide);have o36:=h 36 (by decide);have o37:=h 37 (by decide);have o38:=h 38 (by decide);have o39:=h 39 (by decide);have o40:=h 40 (by decide);have o41:=h 41 (by decide);have o42:=h 42 (by decide);have o43:=h 43 (by decide);have o44:=h 44 (by decide);have o45:=h 45 (by decide);have o46:=h 46 (by decide);have o47:=h 47 (by decide);have o48:=h 48 (by decide);have o49:=h 49 (by decide);have o50:=h 50 (by decide);have o51:=h 51 (by decide);simp[go_sem,o30,o31,o32,o33,o34,o35,o36,o37,o38,o39,o40,o41,o42,o43,o44,o45,o46,o47,o48,o49,o50,o51];refine qe.pans (uo 43) (wkI 43) ?_;simp[go_sem];exact .hf _ (qG _)
end F9
namespace FA
open Y1 Y9 P2 E3 EA F1 F2 F3 F4 F7 F8 F9
theorem yo{f:Nat}{l:List AV}{A E:XE Bool}(h:qL qc f l (endB A))(e:A=E):qL qc f l (endB E):=e ▸ h
theorem qfB(x:Mo)(N:Nat)(n:Nd)(hw:WfN n)(hM:OkMa x N)(ih:IH x N n)(p:Pl)(hp:OkP x N p)(hq:bd p n) :
  qL qc 63 [eMa x,ePl p,eNd n] (endB ((den x n).F p)):=by
 rw[Zl];show qL _ _ _ (endB (opF x n.op n.name (n.kids.map (den x)) p));by_cases o30:n.op=30
 .exact yo (f30 x N n hw hM ih p hp hq o30) (by rw[o30];rfl)
 by_cases o31:n.op=31
 .exact yo (f31 x N n hw hM ih p hp hq o31) (by rw[o31];rfl)
 by_cases o32:n.op=32
 .obtain ⟨a,b,hk⟩:=yL hw (by omega)
  exact yo (f32 x N n a b hM hk ih p hp hq o32) (by rw[o32,hk];rfl)
 by_cases o33:n.op=33
 .obtain ⟨a,b,hk⟩:=yL hw (by omega)
  exact yo (f33 x N n a b hM hk ih p hp hq o33) (by rw[o33,hk];rfl)
 by_cases o34:n.op=34
 .obtain ⟨a,hk⟩:=j9 hw (by omega)
  exact yo (f34 x N n a hM hk ih p hp hq o34) (by rw[o34,hk];rfl)
 by_cases o35:n.op=35
 .obtain ⟨a,hk⟩:=j9 hw (by omega)
  exact yo (f35 x N n a hM hk ih p hp hq o35) (by rw[o35,hk];rfl)
 by_cases o36:n.op=36
 .obtain ⟨a,hk⟩:=j9 hw (by omega)
  exact yo (f36 x N n a hM hk ih p hp hq o36) (by rw[o36,hk];rfl)
 by_cases o37:n.op=37
 .obtain ⟨a,hk⟩:=j9 hw (by omega)
  exact yo (f37 x N n a hM hk ih p hp hq o37) (by rw[o37,hk];rfl)
 by_cases o38:n.op=38
 .obtain ⟨a,b,hk⟩:=yL hw (by omega)
  exact yo (f38 x N n a b hM hk ih p hp hq o38) (by rw[o38,hk];rfl)
 by_cases o39:n.op=39
 .obtain ⟨a,b,hk⟩:=yL hw (by omega)
  exact yo (f39 x N n a b hM hk ih p hp hq o39) (by rw[o39,hk];rfl)
 by_cases o40:n.op=40
 .obtain ⟨a,hk⟩:=j9 hw (by omega)
  exact yo (f40 x N n a hM hk ih p hp hq o40) (by rw[o40,hk];rfl)
 by_cases o41:n.op=41
 .obtain ⟨a,b,hk⟩:=yL hw (by omega)
  exact yo (f41 x N n a b hM hk ih p hp hq o41) (by rw[o41,hk];rfl)
 by_cases o42:n.op=42
 .obtain ⟨a,b,hk⟩:=yL hw (by omega)
  exact yo (f42 x N n a b hM hk ih p hp hq o42) (by rw[o42,hk];rfl)
 by_cases o43:n.op=43
 .obtain ⟨a,b,hk⟩:=yL hw (by omega)
  exact yo (f43 x N n a b hM hk ih p hp hq o43) (by rw[o43,hk];rfl)
 by_cases o44:n.op=44
 .obtain ⟨a,b,hk⟩:=yL hw (by omega)
  exact yo (f44 x N n a b hM hk ih p hp hq o44) (by rw[o44,hk];rfl)
 by_cases o45:n.op=45
 .obtain ⟨a,b,hk⟩:=yL hw (by omega)
  exact yo (f45 x N n a b hM hk ih p hp hq o45) (by rw[o45,hk];rfl)
 by_cases o46:n.op=46
 .obtain ⟨a,b,hk⟩:=yL hw (by omega)
  exact yo (f46 x N n a b hM hk ih p hp hq o46) (by rw[o46,hk];rfl)
 by_cases o47:n.op=47
 .exact yo (f47 x N n hM (by have:=hw.small.len;omega) ih p hp hq o47) (by rw[o47];rfl)
 by_cases o48:n.op=48
 .obtain ⟨a,hk⟩:=j9 hw (by omega)
  exact yo (f48 x N n a hM hk ih p hp hq o48) (by rw[o48,hk];rfl)
 by_cases o49:n.op=49
 .obtain ⟨a,hk⟩:=j9 hw (by omega)
  exact yo (f49 x N n a hM hk ih p hp hq o49) (by rw[o49,hk];rfl)
 by_cases o50:n.op=50
 .obtain ⟨a,hk⟩:=j9 hw (by omega)
  exact yo (f50 x N n a hM hk ih p hp hq o50) (by rw[o50,hk];rfl)
 by_cases o51:n.op=51
 .obtain ⟨a,b,hk⟩:=yL hw (by omega)
  exact yo (f51 x N n a b hM hk ih p hp hq o51) (by rw[o51,hk];rfl)
 refine yo (fNo x n p fun k hk e=>?_) ?_
 .omega
 .unfold opF
  rw[if_neg o30,if_neg o31,if_neg o32,if_neg o33,if_neg o34,if_neg o35,if_neg o36,if_neg o37,if_neg o38,if_neg o39,if_neg o40,if_neg o41,if_neg o42,if_neg o43,if_neg o44,if_neg o45,if_neg o46,if_neg o47,if_neg o48,if_neg o49,if_neg o50,if_neg o51]
theorem evX(x:Mo)(N:Nat)(hM:OkMa x N):∀(m:Nat) (n:Nd),szN n<=m->WfN n->∀ p:Pl,OkP x N p->bd p n->Ev3 x p n
 | 0,n,hs,_,_,_,_=>by
  obtain⟨op,nm,i,ks,q⟩:=n;simp only[szN,Nd.mk.sizeOf_spec]at hs;omega
 |m+1,n,hs,hw,p,hp,hq=>by
  have ih:IH x N n:=fun k hk p hp hq=>evX x N hM m k (by have:=yj hk;omega) (hw.kid hk) p hp (by have:=qeI hk;show _+_<=_;omega)
  exact⟨exprX x N n hw hM ih p hp hq,qeS x N n hw hM ih p hp hq,qfB x N n hw hM ih p hp hq,fun r h=>Vb hM.toOkM _ n (qs _) hw p r hp h⟩
end FA
namespace FB
open Y1 Y9 P2 YF E3 EA ET F1 F2 F3 FA
def outE:XE Rl->AV
 | .ok r => .tup [eRel r,aI 0]
 | .error e => .tup [eRel ⟨0,[]⟩,aI e]
def outN:XE Int->AV
 | .ok r => .tup [aI r,aI 0]
 | .error e => .tup [aI 0,aI e]
def outB:XE Bool->AV
 | .ok r => .tup [aB r,aI 0]
 | .error e => .tup [aB false,aI e]
theorem wkM(x:Mo):WKs [eTS x.ts,eMd x.m] [eTS x.ts,eMd x.m] := .cons (.hf (zh x.ts)) (.cons (.hf (yB x.m)) .nil)
theorem Yp(x:Mo)(N:Nat)(n:Nd)(hw:WfN n)(hM:OkMa x N)(p:Pl)(hp:OkP x N p)(hq:bd p n) :
  qj qc 18 [eTS x.ts,eMd x.m,aI p.st,lPm p.env,eNd n] (outB ((den x n).F p)):=by
 have hf:=(evX x N hM (szN n) n (qs _) hw p hp hq).F;have wx:=wk3 x p n;generalize (den x n).F p=E at *
 refine qL.toP ?_;refine qT.of_sound ?_;refine qX.of_awpD call18 func18 rfl (jg (by kernel_rfl)) (by kernel_rfl) (pl:={}) ?_;simp[go_sem];refine uP.intro (g:=51) (first:=[]) (caps:=[]) (by simp[go_sem]) call51 ?_;simp[go_sem];refine qg.tail 7 (by kernel_rfl) ?_;simp[go_sem];refine qe.pure (UW x hM.gsc) (wkM x) ?_;simp[go_sem];cases E with
 |error e =>
  refine qe.pans hf wx ?_;simp[go_sem];refine z6.mono (UY [.arr [aI 0]] 0 0 e rfl) ?_;rintro _ rfl;simp[go_sem];exact .hf _ (HF.tup (by simp only[qz,zk,or_false,forall_eq_or_imp,forall_eq];exact⟨HF.sc _,HF.sc _⟩))
 |ok r =>
  refine qe.pure hf.toP wx ?_;simp[go_sem];refine z6.mono (UX [.arr [aI 0]] 0 0 rfl) ?_;rintro _ rfl;simp[go_sem];exact .hf _ (HF.tup (by simp only[qz,zk,or_false,forall_eq_or_imp,forall_eq];exact⟨HF.sc _,HF.sc _⟩))
theorem intP(x:Mo)(N:Nat)(n:Nd)(hw:WfN n)(hM:OkMa x N)(p:Pl)(hp:OkP x N p)(hq:bd p n) :
  qj qc 16 [eTS x.ts,eMd x.m,aI p.st,lPm p.env,eNd n] (outN ((den x n).N p)):=by
 have hf:=(evX x N hM (szN n) n (qs _) hw p hp hq).N;have wx:=wk3 x p n;generalize (den x n).N p=E at *
 refine qL.toP ?_;refine qT.of_sound ?_;refine qX.of_awpD call16 func16 rfl (jg (by kernel_rfl)) (by kernel_rfl) (pl:={}) ?_;simp[go_sem];refine uP.intro (g:=51) (first:=[]) (caps:=[]) (by simp[go_sem]) call51 ?_;simp[go_sem];refine qg.tail 7 (by kernel_rfl) ?_;simp[go_sem];refine qe.pure (UW x hM.gsc) (wkM x) ?_;simp[go_sem];cases E with
 |error e =>
  refine qe.pans hf wx ?_;simp[go_sem];refine z6.mono (UY [.arr [aI 0]] 0 0 e rfl) ?_;rintro _ rfl;simp[go_sem];exact .hf _ (HF.tup (by simp only[qz,zk,or_false,forall_eq_or_imp,forall_eq];exact⟨HF.sc _,HF.sc _⟩))
 |ok r =>
  refine qe.pure hf.toP wx ?_;simp[go_sem];refine z6.mono (UX [.arr [aI 0]] 0 0 rfl) ?_;rintro _ rfl;simp[go_sem];exact .hf _ (HF.tup (by simp only[qz,zk,or_false,forall_eq_or_imp,forall_eq];exact⟨HF.sc _,HF.sc _⟩))
theorem pw(x:Mo)(N:Nat)(n:Nd)(hw:WfN n)(hM:OkMa x N)(p:Pl)(hp:OkP x N p)(hq:bd p n) :
  qj qc 14 [eTS x.ts,eMd x.m,aI p.st,lPm p.env,eNd n] (outE ((den x n).E p)):=by
 have hf:=(evX x N hM (szN n) n (qs _) hw p hp hq).E;have wx:=wk3 x p n;generalize (den x n).E p=E at *
 refine qL.toP ?_;refine qT.of_sound ?_;refine qX.of_awpD call14 func14 rfl (jg (by kernel_rfl)) (by kernel_rfl) (pl:={}) ?_;simp[go_sem];refine uP.intro (g:=51) (first:=[]) (caps:=[]) (by simp[go_sem]) call51 ?_;simp[go_sem];refine qg.tail 7 (by kernel_rfl) ?_;simp[go_sem];refine qe.pure (UW x hM.gsc) (wkM x) ?_;simp[go_sem];cases E with
 |error e =>
  refine qe.pans hf wx ?_;simp[go_sem];refine z6.mono (UY [.arr [aI 0,.lst true []],.arr [aI 0]] 1 0 e rfl) ?_;rintro _ rfl;simp[go_sem];exact wF Qh
 |ok r =>
  refine qe.pure hf.toP wx ?_;simp[go_sem];refine z6.mono (UX [.arr [aI r.ar,lI r.ts],.arr [aI 0]] 1 0 rfl) ?_;rintro _ rfl;simp[go_sem];exact wF (.hf _ (qR r))
end FB
namespace FC
open Y1 P2 YF E3 EO EP F1 F2 F3 F4 F6 F8 FB
def fmV:XE Bool->Bool×Int
 | .ok v=>(v,0)
 | .error e=>(false,e)
theorem Vh(q:XE Bool):outB q = .tup [aB (fmV q).1,aI (fmV q).2]:=by cases q<;>rfl
def uu(I:Nd->Nd×Int)(x:Mo):List Nd->Bool->Bool×Int
 | [],a=>(a,0)
 |b :: l,a=>if (I b).2≠0 then (false,(I b).2) else if (fmV ((den x (I b).1).F ⟨0,[]⟩)).2≠0 then (false,(fmV ((den x (I b).1).F ⟨0,[]⟩)).2) else uu I x l (a&&(fmV ((den x (I b).1).F ⟨0,[]⟩)).1)
theorem Zh(xs:List Nd):zm 5 (xs.map cNd):=fun r hr=>by
 obtain⟨n,_,rfl⟩:=qq.1 hr;exact⟨by cases n;rfl,Zg n⟩
theorem put6(a:ByteArray)(n:Nd):putCells [aS ⟨#[]⟩,aI 0,aS ⟨#[]⟩,aI 0,.lst true [],aI 0] 0 (aS a :: cNd n)=aS a :: cNd n:=by cases n;rfl
theorem qfC(x:Mo)(N:Nat)(hM:OkMa x N)(hN:0<N)(I:Nd->Nd×Int)(n:Nd)(hl:x.ts.facts.length<=1000)(hI:∀ b,b∈x.ts.facts.map Prod.snd++[n]->qj qc 71 [eTS x.ts,eNd b] (.tup [eNd (I b).1,aI (I b).2])/\((I b).2=0->WfN (I b).1/\dN (I b).1<=999999)) :
  qj qc 23 [eTS x.ts,eMd x.m,eNd n] (.tup [aB (uu I x (x.ts.facts.map Prod.snd++[n]) true).1,aI (uu I x (x.ts.facts.map Prod.snd++[n]) true).2]):=by
 generalize hR:uu I x (x.ts.facts.map Prod.snd++[n]) true=R;refine qSQ call23 func23 rfl {} ?_;simp[go_sem];refine qn.upK x.ts.facts.length (fun k st=>st.tm 3 = .ip (cTS x.ts)/\st.tm 4 = .ip (cMd x.m)/\st.tm 5 = .ip (cNd n)/\st.tm 8=aB true/\st.tm 18=lFa x.ts.facts/\st.tm 19=aI x.ts.facts.length/\st.tm 20=aI k/\Own st.mu 5 (st.tm 9) (((x.ts.facts.take k).map Prod.snd).map cNd)) ?_ ?_
 .exact ⟨by simp[go_sem],by simp[go_sem],by simp[go_sem],by simp[go_sem],by simp[go_sem],by simp[go_sem],by simp[go_sem],.inl (by simp[go_sem])⟩
 rintro k st hk ⟨e3,e4,e5,e8,e18,e19,e20,ho⟩;by_cases hlt:k<x.ts.facts.length
 .have w1:ql.wrap ((k:Int)+1)=(k:Int)+1:=qi (by omega) (by omega)
  simp[go_sem,e3,e4,e5,e8,e18,e19,e20,hlt,qm,put6];refine qF.ownB (e:=37) (sz:=5) (bt:=64) (zv := .agg [aI 0,aS ⟨#[]⟩,aI 0,.lst true [],aI 0]) (xs:=((x.ts.facts.take k).map Prod.snd).map cNd) (ys:=[cNd x.ts.facts[k].2]) (by simp[go_sem]) (by simp[go_sem]) (by simp[go_sem]) rfl rfl (by omega) (by omega) (Own.push ho _) (by simp[qI]) (Zh _) (Zh [_]) (by simp;omega) ?_;intro av' mu' ho' _ _ _;simp[go_sem,e3,e4,e5,e8,e18,e19,e20,hlt,w1,Own.one ho'];refine Keep.mk' ⟨by simp[go_sem,e3],by simp[go_sem,e4],by simp[go_sem,e5],by simp[go_sem,e8],by simp[go_sem,e18],by simp[go_sem,e19],by simp[go_sem],?_⟩;rw[ya hlt,zt,zt];simpa[go_sem] using ho'
 .have hge:k=x.ts.facts.length:=by omega
  subst hge;rw[zw]at ho;simp[go_sem,e3,e4,e5,e8,e18,e19,e20];refine qF.ownB (e:=37) (sz:=5) (bt:=64) (zv := .agg [aI 0,aS ⟨#[]⟩,aI 0,.lst true [],aI 0]) (xs:=(x.ts.facts.map Prod.snd).map cNd) (ys:=[cNd n]) (by simp[go_sem]) (by simp[go_sem]) (by simp[go_sem]) rfl rfl (by omega) (by omega) ho (by simp[qI]) (Zh _) (Zh [_]) (by simp;omega) ?_;intro av' mu' ho' _ _ _;have ho2:Own mu' 5 av' ((x.ts.facts.map Prod.snd++[n]).map cNd):=by rw[zt];exact ho'
  have hlb:(x.ts.facts.map Prod.snd++[n]).length<=1001:=by simp;omega
  generalize x.ts.facts.map Prod.snd++[n]=L at *
  simp[go_sem,e3,e4,e5,e8,Own.one ho2];refine OptK.intro (aI L.length) (by rcases ho2 with h|⟨b,h,_⟩<;>rw[h]<;>simp) ?_;simp[go_sem,e3,e4,e5,e8];refine qn.fz ?_;refine FzQ.ownB (d:=33) (by simp[go_sem]) ho2 (Zh L) (fun r hr c hc=>?_) fun mu2 full _ _=>?_
  .obtain ⟨b,_,rfl⟩:=qq.1 hr
   exact vw b c hc
  refine qn.upK L.length (fun k st=>∃ a,st.tm 3 = .ip (cTS x.ts)/\st.tm 4 = .ip (cMd x.m)/\st.tm 8=aB a/\st.tm 33 = .lst full (L.map cNd)/\st.tm 34=aI L.length/\st.tm 35=aI k/\uu I x (L.drop k) a=R) ?_ ?_
  .exact ⟨true,by simp[go_sem,e3],by simp[go_sem,e4],by simp[go_sem,e8],by simp[go_sem],by simp[go_sem],by simp[go_sem],hR⟩
  rintro k st hk ⟨a,f3,f4,f8,f33,f34,f35,hV⟩;by_cases hlt:k<L.length
  .have w1:ql.wrap ((k:Int)+1)=(k:Int)+1:=qi (by omega) (by omega)
   obtain⟨hi,hwf⟩:=hI L[k] (qw hlt);rw[zi hlt,uu]at hV;have wi:WKs [eTS x.ts,eNd L[k]] [eTS x.ts,eNd L[k]] := .cons (.hf (zh _)) (.cons (.hf (qH _)) .nil);simp[go_sem,f3,f4,f8,f33,f34,f35,hlt,qm];refine qe.pure hi wi ?_;generalize hIb:I L[k]=ib at *
   obtain⟨b',e'⟩:=ib;by_cases he:e'=0
   .subst he
    obtain⟨hwb,hsb⟩:=hwf rfl;replace hsb:dN b'<=999999:=hsb;rw[if_neg (by simp)]at hV;have hf:=Yp x N b' hwb hM ⟨0,[]⟩ ⟨hN,by simp⟩ (by show 0+_<=_;omega);have wf:WKs [eTS x.ts,eMd x.m,aI (0:Nat),.lst true [],eNd b'] [eTS x.ts,eMd x.m,aI (0:Nat),lPm [],eNd b'] := .cons (.hf (zh _)) (.cons (.hf (yB _)) (.cons (.hf (HF.sc _)) (.cons (WK.lst fun r hr=>absurd hr zk) (.cons (.hf (qH _)) .nil))));rw[Vh]at hf;simp only at hV;generalize fmV ((den x b').F ⟨0,[]⟩)=q at *
    obtain⟨v,e2⟩:=q;simp[go_sem,f3,f4,f8,f33,f34,f35,hlt,qm];refine qe.pure hf wf ?_;by_cases he2:e2=0
    .subst he2
     rw[if_neg (by simp)]at hV;cases a<;>cases v
     all_goals simp[go_sem,f3,f4,f8,f33,f34,f35,hlt,qm,w1]
     all_goals exact Keep.mk' ⟨_,by simp[go_sem,f3],by simp[go_sem,f4],by simp[go_sem],by simp[go_sem,f33],by simp[go_sem,f34],by simp[go_sem],hV⟩
    .rw [if_pos he2]at hV
     subst hV;simp[go_sem,he2];exact .hf _ (HF.tup (by simp only[qz,zk,or_false,forall_eq_or_imp,forall_eq];exact⟨HF.sc _,HF.sc _⟩))
   .rw [if_pos he]at hV
    subst hV;simp[go_sem,he];exact .hf _ (HF.tup (by simp only[qz,zk,or_false,forall_eq_or_imp,forall_eq];exact⟨HF.sc _,HF.sc _⟩))
  .have hge:k=L.length:=by omega
   subst hge;rw[zN,uu]at hV;subst hV;simp[go_sem,f3,f4,f8,f33,f34,f35];exact .hf _ (HF.tup (by simp only[qz,zk,or_false,forall_eq_or_imp,forall_eq];exact⟨HF.sc _,HF.sc _⟩))
end FC
namespace E9
open P1 YF E1 E3 E4
theorem Yq(sc:Sc)(g:GSc sc):qj qc 22 [eSc sc] (aI (sumI sc.atoms)):=by
 refine qSQ call22 func22 rfl {} ?_;simp[go_sem];refine qn.up sc.atoms.length (fun k st=>st.tm 1 = .ip [lI sc.atoms,aI sc.steps]/\st.tm 3=aI (sumI (sc.atoms.take k))/\st.tm 4=aI k/\st.mu=[]) ?_ ?_
 .simp [go_sem,sumI]
 rintro k st hk ⟨h1,h3,h4,hm⟩;have hl:=g.1;simp[go_sem,h1,h3,h4,hm];refine BrS.intro (fun hlt=>?_) (fun hge=>?_)
 .have hlt:k<sc.atoms.length:=by simpa using hlt
  have hs:=w7 sc.atoms k hlt;have hb':=g.sum (k+1);rw[hs]at hb';simp[go_sem,h1,h3,h4,hm,hlt];exact⟨by rw[hs,qi (by omega) (by omega)],qi (by omega) (by omega)⟩
 .have hge:k=sc.atoms.length:=by simp at hge;omega
  subst hge;simp[go_sem,h1,h3,h4,hm];exact .hf _ (HF.sc _)
def Qk:List Int->Int->Int->Int
 | [],_,_ => -1
 |a :: l,x,i=>if x<a then i else Qk l (x-a) (i+1)
def Zr(sc:Sc)(x:Int):Int:=Qk sc.atoms x 0
theorem qfD(l:List Int)(k:Nat)(x i:Int)(h:k<l.length):Qk (l.drop k) x i=if x<l[k] then i else Qk (l.drop (k+1)) (x-l[k]) (i+1):=by
 rw[zi h,Qk]
theorem qfE(sc:Sc)(g:GSc sc)(x:Int)(hx : -1000000<=x/\x<=1000000):qj qc 156 [eSc sc,aI x] (aI (Zr sc x)):=by
 refine qSQ call156 func156 rfl {} ?_;simp[go_sem];refine qn.up sc.atoms.length (fun k st=>st.tm 2 = .ip [lI sc.atoms,aI sc.steps]/\st.tm 5=aI k/\st.mu=[]/\∃ y,st.tm 1=aI y/\Qk (sc.atoms.drop k) y k=Zr sc x/\y+5*k>=x/\y<=x) ?_ ?_
 .simp [go_sem,Zr]
 rintro k st hk ⟨h1,h3,hm,y,h4,hy,hy1,hy2⟩;have hl:=g.1;simp[go_sem,h1,h3,h4,hm];refine BrS.intro (fun hlt=>?_) (fun hge=>?_)
 .have hlt:k<sc.atoms.length:=by simpa using hlt
  have hg:=g.get hlt;rw[qfD _ _ _ _ hlt]at hy;simp[go_sem,h1,h3,h4,hm,hlt];refine BrS.intro (fun hb=>?_) (fun hb=>?_)
  .simp [go_sem,h1,h3,h4,hm,hlt]
   simp at hb;rw[if_pos hb]at hy;rw[<-hy];exact .hf _ (HF.sc _)
  .simp [go_sem,h1,h3,h4,hm,hlt]
   simp at hb;rw[if_neg (by omega)]at hy;rw[qi (by omega) (by omega),qi (by omega) (by omega)];exact⟨rfl,hy,by omega,by omega⟩
 .have hge:k=sc.atoms.length:=by simp at hge;omega
  subst hge;simp[go_sem,h1,h3,h4,hm];simp[Qk]at hy;rw[<-hy];exact .hf _ (HF.sc _)
def jQ(sp:Sp)(sc:Sc):Bool:=decide (sc.atoms.length=sp.sorts.length)&&decide (sp.sorts.length<=4)&&decide (1<=sc.steps)&&decide (sc.steps<=4)&&sc.atoms.all (fun a=>decide (1<=a)&&decide (a<=5))&&decide (sumI sc.atoms<=12)
theorem qfF(sp:Sp)(sc:Sc)(ha:sc.atoms.length<=9223372036854775807):qj qc 88 [eSp sp,eSc sc] (aB (jQ sp sc)):=by
 refine qSQ call88 func88 rfl {} ?_;by_cases h1:sc.atoms.length=sp.sorts.length
 case neg =>
  simp[go_sem,h1,jQ];exact .hf _ (HF.sc _)
 by_cases h2:(4:Int)<sp.sorts.length
 case pos =>
  simp[go_sem,h1,h2,jQ,show ¬sp.sorts.length<=4 by omega];exact .hf _ (HF.sc _)
 by_cases h3:sc.steps<1
 case pos =>
  simp[go_sem,h1,h2,h3,jQ,show ¬ 1<=sc.steps by omega];exact .hf _ (HF.sc _)
 by_cases h4:4<sc.steps
 case pos =>
  simp[go_sem,h1,h2,h3,h4,jQ,show ¬sc.steps<=4 by omega];exact .hf _ (HF.sc _)
 simp[go_sem,h1,h2,h3,h4];refine qn.up sc.atoms.length (fun k st=>st.tm 3 = .ip [lI sc.atoms,aI sc.steps]/\st.tm 5=aI k/\st.mu=[]/\∀(i:Nat) (h:i<sc.atoms.length),i<k->1<=sc.atoms[i]/\sc.atoms[i]<=5) ?_ ?_
 .simp [go_sem]
 rintro k st hk ⟨e3,e5,hm,he⟩;by_cases hlt:k<sc.atoms.length
 .by_cases hb:sc.atoms[k]<1\/5<sc.atoms[k]
  .have:sc.atoms.all (fun a=>decide (1<=a)&&decide (a<=5))=false:=by
    rw[<-Bool.not_eq_true,qC];intro hall;have:=hall _ (qw hlt);simp at this;omega
   have:jQ sp sc=false:=by simp only[jQ,this,Bool.and_false,Bool.false_and]
   rw[this];by_cases hb1:sc.atoms[k]<1
   .simp [go_sem,e3,e5,hm,hlt,hb1]
    exact .hf _ (HF.sc _)
   .simp [go_sem,e3,e5,hm,hlt,hb1,show 5<sc.atoms[k] by omega]
    exact .hf _ (HF.sc _)
  .simp [go_sem,e3,e5,hm,hlt,show ¬sc.atoms[k]<1 by omega,show ¬ 5<sc.atoms[k] by omega]
   refine⟨qi (by omega) (by omega),fun i h hi=>?_⟩;rcases vj.1 hi with h2|h2
   .exact he i h h2
   .subst h2;exact⟨by omega,by omega⟩
 .have hge:k=sc.atoms.length:=by omega
  subst hge;have hall:sc.atoms.all (fun a=>decide (1<=a)&&decide (a<=5))=true:=by
   rw[qC];intro a ha;obtain⟨i,hi,rfl⟩:=YQ ha;have:=he i hi hi;simp;omega
  have g:GSc sc:=⟨by omega,fun a ha=>by
   have:=qC.1 hall a ha;simp at this;omega⟩
  simp[go_sem,e3,e5,hm];refine qe.pure (Yq sc g) (.cons (.hf (jm sc)) .nil) ?_;simp[go_sem,e3,e5,hm];simp only[jQ,h1,hall,show sp.sorts.length<=4 by omega,show 1<=sc.steps by omega,show sc.steps<=4 by omega];simp;exact .hf _ (HF.sc _)
def u5(sc:Sc)(n:Int):List Int->Int->Bool
 | [],_=>true
 |s :: l,x=>decide (Zr sc (x % n)=s)&&u5 sc n l (x / n)
theorem qfG(sc:Sc)(n:Int)(l:List Int)(k:Nat)(x:Int)(h:k<l.length):u5 sc n (l.drop k) x=(decide (Zr sc (x % n)=l[k])&&u5 sc n (l.drop (k+1)) (x / n)):=by
 rw[zi h,u5]
def divN(n x:Int):Nat->Int
 | 0=>x
 |j+1=>divN n x j / n
theorem Wn{n x m:Int}(hn:1<=n)(h0:0<=x)(hm:x<=m):∀ j,0<=divN n x j/\divN n x j<=m
 | 0=>⟨h0,hm⟩
 |j+1=>by
  have ih:=Wn hn h0 hm j;have d0:0<=divN n x j / n:=Int.ediv_nonneg ih.1 (by omega);have d1:divN n x j / n<=divN n x j:=Int.ediv_le_self n ih.1;exact⟨d0,Int.le_trans d1 ih.2⟩
def Ql(sc:Sc)(sorts:List Int)(r:Rl):Bool:=r.ts.all (fun t=>u5 sc (max 1 (sumI sc.atoms)) sorts.reverse t)
theorem qfH(sc:Sc)(g:GSc sc)(sorts:List Int)(hs:sorts.length<=1000)(r:Rl)(hl:r.ts.length<=9223372036854775807)(hr:∀ t,t∈r.ts->0<=t/\t<=1000000) :
  qj qc 90 [eSc sc,lI sorts,eRel r] (aB (Ql sc sorts r)):=by
 refine qSQ call90 func90 rfl {} ?_;simp[go_sem];refine qe.pure (Yq sc g) (.cons (.hf (jm sc)) .nil) ?_;simp[go_sem];have hsum:=g.sum sc.atoms.length;rw[zw]at hsum;generalize hn:max 1 (sumI sc.atoms)=n;have hn1:1<=n/\n<=20:=by omega
 refine qn.up r.ts.length (fun k st=>st.tm 3 = .ip [lI sc.atoms,aI sc.steps]/\st.tm 5 = .ip [aI r.ar,lI r.ts]/\st.tm 1=lI sorts/\st.tm 7=aI n/\st.tm 8=aI k/\st.mu=[]/\∀(i:Nat) (h:i<r.ts.length),i<k->u5 sc n sorts.reverse r.ts[i]=true) ?_ ?_
 .simp [go_sem]
  omega
 rintro k st hk ⟨e3,e5,e1,e7,e8,hm,he⟩;by_cases hlt:k<r.ts.length
 .have hrk:=hr _ (qw hlt)
  simp[go_sem,e3,e5,e1,e7,e8,hm,hlt];refine qn.up sorts.length (fun j st=>st.tm 3 = .ip [lI sc.atoms,aI sc.steps]/\st.tm 5 = .ip [aI r.ar,lI r.ts]/\st.tm 1=lI sorts/\st.tm 7=aI n/\st.tm 8=aI k/\st.mu=[] /\
   st.tm 9=aI (divN n r.ts[k] j)/\st.tm 10=aI (sorts.length-1-j)/\u5 sc n (sorts.reverse.drop j) (divN n r.ts[k] j)=u5 sc n sorts.reverse r.ts[k]) ?_ ?_
  .simp [go_sem,e3,e5,e1,e7,e8,hm,divN]
   exact qi (by omega) (by omega)
  rintro j st hj ⟨f3,f5,f1,f7,f8,fm,f9,f10,hy⟩;have hyb:=Wn hn1.1 hrk.1 hrk.2 j;have hyb':=Wn hn1.1 hrk.1 hrk.2 (j+1);rw[divN]at hyb';generalize hye:divN n r.ts[k] j=y at *
  generalize hc:(sorts.length:Int)-1-j=c at *
  by_cases hjl:j<sorts.length
  .have hjl':j<sorts.reverse.length:=by simpa using hjl
   rw[qfG _ _ _ _ _ hjl']at hy;have hyd:y.tdiv n=y / n:=Int.tdiv_eq_ediv_of_nonneg hyb.1;have hym:y.tmod n=y % n:=Int.tmod_eq_emod_of_nonneg hyb.1;have m0:=Int.emod_nonneg y (show n≠0 by omega);have m1:=Int.emod_lt_of_pos y (show 0<n by omega);have hc0:0<=c:=by omega
   have hc1:c<sorts.length:=by omega
   have hcl:c.toNat=sorts.length-1-j:=by omega
   have hcl':sorts.length-1-j<sorts.length:=by omega
   have hrev:sorts.reverse[j]=sorts[sorts.length-1-j]:=by simp
   rw[hrev]at hy;simp[go_sem,f3,f5,f1,f7,f8,f9,f10,fm,hc0];refine qg.intro (by kernel_rfl) ?_;simp[go_sem,f3,f5,f1,f7,f8,f9,f10,fm,show n≠0 by omega,hym];refine qe.pure (qfE sc g (y % n) (by omega)) (.cons (.hf (jm sc)) (.cons (.hf (HF.sc _)) .nil)) ?_;by_cases hs:Zr sc (y % n)=sorts[sorts.length-1-j]
   .simp [go_sem,f3,f5,f1,f7,f8,f9,f10,fm,hc0,hc1,hcl,hcl',hs,show n≠0 by omega,hyd]
    refine⟨hjl,?_,?_,?_⟩
    .rw [divN,hye,qi (by omega) (by omega)]
    .rw [qi (by omega) (by omega)];omega
    .rw [divN,hye];simpa[hs] using hy
   .simp [go_sem,f3,f5,f1,f7,f8,f9,f10,fm,hc0,hc1,hcl,hcl',hs]
    have:Ql sc sorts r=false:=by
     rw[Ql,<-Bool.not_eq_true,qC,hn];intro hall;have:=hall _ (qw hlt);rw[<-hy]at this;simp[hs]at this
    rw[this];exact .hf _ (HF.sc _)
  .have hje:j=sorts.length:=by omega
   subst hje;simp[go_sem,f3,f5,f1,f7,f8,f9,f10,fm,show ¬ 0<=c by omega];refine⟨hlt,qi (by omega) (by omega),fun i h hi=>?_⟩;rcases vj.1 hi with h2|h2
   .exact he i h h2
   .subst h2
    rw[<-hy,List.drop_of_length_le (by simp),u5]
 .have hge:k=r.ts.length:=by omega
  subst hge;simp[go_sem,e3,e5,e1,e7,e8,hm];have:Ql sc sorts r=true:=by
   rw[Ql,qC,hn];intro t ht;obtain⟨i,hi,rfl⟩:=YQ ht;exact he i hi hi
  rw[this];exact .hf _ (HF.sc _)
theorem Wo{α:Type}{l:List α}{p:α->Bool}:l.all p=true↔∀(i:Nat) (h:i<l.length),p l[i]=true:=by
 rw[qC];refine⟨fun h i hi=>h _ (qw hi),fun h a ha=>?_⟩;obtain⟨i,hi,rfl⟩:=YQ ha;exact h i hi
theorem qfI{α:Type}{l:List α}{p:α->Bool}{i:Nat}(h:i<l.length)(hp:p l[i]=false):l.all p=false:=by
 rw[<-Bool.not_eq_true,Wo];intro h';have:=h' i h;simp[hp]at this
def u6(sp:Sp)(f:Fld):Bool:=f.sorts.all (fun s=>decide (0<=s)&&decide (s<sp.sorts.length))&&decide (1<=f.sorts.length)&&decide (f.sorts.length<=3)
theorem qfJ{n:Int}{r:Rl}(h:jn n r=true):∀ t,t∈r.ts->0<=t/\t<=1000000:=by
 intro t ht;simp only[jn,qA,decide_eq_true_eq,qC]at h;obtain⟨⟨⟨⟨⟨h1,h2⟩,h3⟩,h4⟩,h5⟩,_⟩:=h;have h6:=h5 t ht;have h7:=JQ h1 (by omega) (powN r.ar) (by unfold powN;omega);unfold powI at h6;omega
theorem Wp{sp:Sp}{sc:Sc}(h:jQ sp sc=true):GSc sc:=by
 simp only[jQ,qA,decide_eq_true_eq,qC]at h;obtain⟨⟨⟨⟨⟨h1,h2⟩,h3⟩,h4⟩,h5⟩,_⟩:=h;exact⟨by omega,fun a ha=>by have:=h5 a ha;omega⟩
abbrev ipSp(sp:Sp):AV := .ip [.lst false (sp.sorts.map Ze),.lst false (sp.fields.map uh),.lst false sp.preds,.lst false sp.facts]
abbrev ipMd(m:Md):AV := .ip (cMd m)
structure Wq (sp:Sp) (m:Md):Prop where
 ns:sp.sorts.length<=10
 nf:sp.fields.length<=10
 nt:m.states.length<=64
 na:m.sc.atoms.length<=10
 st:∀(i:Nat) (h:i<m.states.length),m.states[i].length<=10/\∀(j:Nat) (h':j<m.states[i].length),(m.states[i][j]).ts.length<=200
 fs:∀(i:Nat) (h:i<sp.fields.length),(sp.fields[i]).sorts.length<=10
def Zs(sp:Sp)(m:Md):Bool:=decide (sp.sorts.length<=10)&&decide (sp.fields.length<=10)&&decide (m.states.length<=64)&&decide (m.sc.atoms.length<=10) &&
 (m.states.all fun s=>decide (s.length<=10)&&s.all fun r=>decide (r.ts.length<=200))&&sp.fields.all fun f=>decide (f.sorts.length<=10)
theorem Wr{sp:Sp}{m:Md}:Zs sp m=true↔Wq sp m:=by
 simp only[Zs,qA,decide_eq_true_eq,Wo];constructor
 .rintro ⟨⟨⟨⟨⟨h1,h2⟩,h3⟩,h4⟩,h5⟩,h6⟩
  exact⟨h1,h2,h3,h4,h5,h6⟩
 .rintro ⟨h1,h2,h3,h4,h5,h6⟩
  exact⟨⟨⟨⟨⟨h1,h2⟩,h3⟩,h4⟩,h5⟩,h6⟩
theorem Qm{sp:Sp}{m:Md}(h:¬Wq sp m):Zs sp m=false:=by
 rw[<-Bool.not_eq_true,Wr];exact h
theorem qfK(sp:Sp)(m:Md):qj qc 44 [eSp sp,eMd m] (aB (Zs sp m)):=by
 refine qSQ call44 func44 rfl {} ?_;simp[go_sem];by_cases h1:(10:Int)<sp.sorts.length
 .simp [go_sem,h1]
  rw[Qm fun h=>by have:=h.ns;omega];exact .hf _ (HF.sc _)
 by_cases h2:(10:Int)<sp.fields.length
 .simp [go_sem,h1,h2]
  rw[Qm fun h=>by have:=h.nf;omega];exact .hf _ (HF.sc _)
 by_cases h3:(64:Int)<m.states.length
 .simp [go_sem,h1,h2,h3]
  rw[Qm fun h=>by have:=h.nt;omega];exact .hf _ (HF.sc _)
 by_cases h4:(10:Int)<m.sc.atoms.length
 .simp [go_sem,h1,h2,h3,h4]
  rw[Qm fun h=>by have:=h.na;omega];exact .hf _ (HF.sc _)
 simp[go_sem,h1,h2,h3,h4];refine qn.up m.states.length (fun k st=>st.tm 2=ipSp sp/\st.tm 3=ipMd m/\st.tm 5=aI k/\st.mu=[]/\∀(i:Nat) (h:i<m.states.length),i<k->m.states[i].length<=10/\∀(j:Nat) (h':j<m.states[i].length),(m.states[i][j]).ts.length<=200) ?_ ?_
 .simp [go_sem]
 rintro k st hk ⟨e2,e3,e5,hm,he⟩;by_cases hlt:k<m.states.length
 .simp [go_sem,e2,e3,e5,hm,hlt]
  by_cases h5:(10:Int)<m.states[k].length
  .simp [go_sem,e2,e3,e5,hm,hlt,h5]
   rw[Qm fun h=>by have:=(h.st k hlt).1;omega];exact .hf _ (HF.sc _)
  simp[go_sem,e2,e3,e5,hm,hlt,h5];refine qn.up m.states[k].length (fun j st=>st.tm 2=ipSp sp/\st.tm 3=ipMd m/\st.tm 5=aI k/\st.tm 6=aI j/\st.mu=[]/\∀(i:Nat) (h:i<m.states[k].length),i<j->(m.states[k][i]).ts.length<=200) ?_ ?_
  .simp [go_sem,e2,e3,e5,hm]
  clear e2 e3 e5 hm st;rintro j st hj ⟨e2,e3,e5,e6,hm,he2⟩;by_cases hjl:j<m.states[k].length
  .by_cases h6:(200:Int)<(m.states[k][j]).ts.length
   .simp [go_sem,e2,e3,e5,e6,hm,hlt,hjl,h6]
    rw[Qm fun h=>by have:=(h.st k hlt).2 j hjl;omega];exact .hf _ (HF.sc _)
   simp[go_sem,e2,e3,e5,e6,hm,hlt,hjl,h6];refine⟨qi (by omega) (by omega),fun i h hi=>?_⟩;rcases vj.1 hi with h7|h7
   .exact he2 i h h7
   .subst h7;omega
  .have hje:j=m.states[k].length:=by omega
   simp[go_sem,e2,e3,e5,e6,hm,hlt,hjl];refine⟨qi (by omega) (by omega),fun i h hi=>?_⟩;rcases vj.1 hi with h7|h7
   .exact he i h h7
   .subst h7;exact⟨by omega,fun q hq=>he2 q hq (by omega)⟩
 .have hst:∀(i:Nat) (h:i<m.states.length),m.states[i].length<=10/\∀(j:Nat) (h':j<m.states[i].length),(m.states[i][j]).ts.length<=200:=fun i h=>he i h (by omega)
  simp[go_sem,e2,e3,e5,hm,hlt];refine qn.up sp.fields.length (fun k st=>st.tm 2=ipSp sp/\st.tm 7=aI k/\st.mu=[]/\∀(i:Nat) (h:i<sp.fields.length),i<k->(sp.fields[i]).sorts.length<=10) ?_ ?_
  .simp [go_sem,e2,hm]
  clear e2 e3 e5 hm he st;rintro j st hj ⟨e2,e7,hm,he⟩;by_cases hjl:j<sp.fields.length
  .by_cases h6:(10:Int)<(sp.fields[j]).sorts.length
   .simp [go_sem,e2,e7,hm,hjl,h6]
    rw[Qm fun h=>by have:=h.fs j hjl;omega];exact .hf _ (HF.sc _)
   simp[go_sem,e2,e7,hm,hjl,h6];refine⟨qi (by omega) (by omega),fun i h hi=>?_⟩;rcases vj.1 hi with h7|h7
   .exact he i h h7
   .subst h7;omega
  .simp [go_sem,e2,e7,hm,hjl]
   rw[Wr.2 ⟨by omega,by omega,by omega,by omega,hst,fun i h=>he i h (by omega)⟩];exact .hf _ (HF.sc _)
theorem qfL(sp:Sp)(f:Fld)(hl:f.sorts.length<=9223372036854775807):qj qc 89 [eSp sp,KH f] (aB (u6 sp f)):=by
 refine qSQ call89 func89 rfl {} ?_;simp[go_sem];refine qn.up f.sorts.length (fun k st=>st.tm 2 = .ip [.lst false (sp.sorts.map Ze),.lst false (sp.fields.map uh),.lst false sp.preds,.lst false sp.facts]/\st.tm 3 = .ip (uh f)/\st.tm 5=aI k/\st.mu=[]/\∀(i:Nat) (h:i<f.sorts.length),i<k->0<=f.sorts[i]/\f.sorts[i]<sp.sorts.length) ?_ ?_
 .simp [go_sem]
 rintro k st hk ⟨e2,e3,e5,hm,he⟩;by_cases hlt:k<f.sorts.length
 .have bad:¬(0<=f.sorts[k]/\f.sorts[k]<sp.sorts.length)->u6 sp f=false:=by
   intro hb;have:=qfI (l:=f.sorts) (i:=k) (p:=fun s=>decide (0<=s)&&decide (s<sp.sorts.length)) hlt (by simp;omega);simp only[u6,this,Bool.false_and]
  simp[go_sem,e2,e3,e5,hm,hlt];refine qg.intro (by kernel_rfl) ?_;by_cases ha:f.sorts[k]<0
  .simp [go_sem,e2,e3,e5,hm,hlt,ha]
   rw[bad (by omega)];exact .hf _ (HF.sc _)
  by_cases hb:(sp.sorts.length:Int)<=f.sorts[k]
  .simp [go_sem,e2,e3,e5,hm,hlt,ha,hb]
   rw[bad (by omega)];exact .hf _ (HF.sc _)
  simp[go_sem,e2,e3,e5,hm,hlt,ha,hb];refine⟨qi (by omega) (by omega),fun i h hi=>?_⟩;rcases vj.1 hi with h2|h2
  .exact he i h h2
  .subst h2;exact⟨by omega,by omega⟩
 .have hge:k=f.sorts.length:=by omega
  subst hge;have hall:f.sorts.all (fun s=>decide (0<=s)&&decide (s<sp.sorts.length))=true:=Wo.2 fun i hi=>by simpa using he i hi hi
  by_cases h1:(1:Int)<=f.sorts.length
  .have h1':1<=f.sorts.length:=by omega
   by_cases h2:(f.sorts.length:Int)<=3
   .have h2':f.sorts.length<=3:=by omega
    simp[go_sem,e2,e3,e5,hm,h1,h2];simp only[u6,hall,h1',h2'];exact .hf _ (HF.sc _)
   .have h2':¬f.sorts.length<=3:=by omega
    simp[go_sem,e2,e3,e5,hm,h1,h2];simp only[u6,hall,h1',h2'];exact .hf _ (HF.sc _)
  .have h1':¬ 1<=f.sorts.length:=by omega
   simp[go_sem,e2,e3,e5,hm,h1];simp only[u6,hall,h1'];exact .hf _ (HF.sc _)
noncomputable def dec(p:Prop):Bool:=@decide p (Classical.propDecidable p)
theorem qfM{p:Prop}(h:p):dec p=true:=@decide_eq_true p (Classical.propDecidable p) h
theorem vS{p:Prop}(h:¬p):dec p=false:=@decide_eq_false p (Classical.propDecidable p) h
def Yr(sp:Sp)(m:Md)(s i:Nat)(hs:s<m.states.length)(hi:i<sp.fields.length)(h:m.states[s].length=sp.fields.length):Prop:=
 m.states[s][i].ar=sp.fields[i].sorts.length/\jn (sumI m.sc.atoms) m.states[s][i]=true/\Ql m.sc sp.fields[i].sorts m.states[s][i]=true/\(sp.fields[i].var=false->(m.states[0]?.bind (·[i]?))=some m.states[s][i])
structure MVal (sp:Sp) (m:Md):Prop where
 sc:jQ sp m.sc=true
 ns:(m.states.length:Int)=m.sc.steps
 l0:0<=m.loop
 l1:m.loop<m.sc.steps
 fld:∀(i:Nat) (h:i<sp.fields.length),u6 sp sp.fields[i]=true
 len:∀(s:Nat) (h:s<m.states.length),m.states[s].length=sp.fields.length
 cell:∀(s i:Nat) (hs:s<m.states.length) (hi:i<sp.fields.length),Yr sp m s i hs hi (len s hs)
theorem qfN(sp:Sp)(m:Md)(hsm:Wq sp m):qj qc 45 [eSp sp,eMd m] (aB (dec (MVal sp m))):=by
 refine qSQ call45 func45 rfl {} ?_;simp[go_sem];refine qe.pure (qfF sp m.sc (by have:=hsm.na;omega)) (.cons (.hf (KI sp)) (.cons (.hf (jm m.sc)) .nil)) ?_;by_cases h1:jQ sp m.sc=true
 case neg =>
  rw[vS fun h=>h1 h.sc];simp[go_sem,h1];exact .hf _ (HF.sc _)
 have g:=Wp h1;by_cases h2:(m.states.length:Int)=m.sc.steps
 case neg =>
  rw[vS fun h=>h2 h.ns];simp[go_sem,h1,h2];exact .hf _ (HF.sc _)
 by_cases h3:m.loop<0
 .rw [vS fun h=>by have:=h.l0;omega]
  simp[go_sem,h1,h2,h3];exact .hf _ (HF.sc _)
 by_cases h4:m.sc.steps<=m.loop
 .rw [vS fun h=>by have:=h.l1;omega]
  simp[go_sem,h1,h2,h3,h4];exact .hf _ (HF.sc _)
 have hsum:=GSc.sum g sp.sorts.length;simp[go_sem,h1,h2,h3,h4];refine qe.pure (Yq m.sc g) (.cons (.hf (jm m.sc)) .nil) ?_;simp[go_sem,h1,h2,h3,h4];refine qn.keep (fun q st=>∃ k,q=sp.fields.length-k/\k<=sp.fields.length/\st.tm 2=ipSp sp/\st.tm 3=ipMd m/\st.tm 5=aI (sumI m.sc.atoms)/\st.tm 6=aI (k:Nat)/\(∀(i:Nat) (h:i<sp.fields.length),i<k->u6 sp sp.fields[i]=true /\
  ∀(s:Nat) (hs:s<m.states.length),∃ hl:m.states[s].length=sp.fields.length,Yr sp m s i hs h hl)) sp.fields.length ?_ ?_
 .exact ⟨0,by omega,by omega,by simp[go_sem],by simp[go_sem],by simp[go_sem],by simp[go_sem],fun i _ h=>by omega⟩
 rintro q st ⟨k,rfl,hk,e2,e3,e5,e6,he⟩;have hf10:=hsm.nf;have hs64:=hsm.nt;by_cases hlt:k<sp.fields.length
 .have hfs:=hsm.fs k hlt
  simp[go_sem,e2,e3,e5,e6,hlt];generalize st.mu=mu0;refine qe.pure (qfL sp sp.fields[k] (by omega)) (.cons (.hf (KI sp)) (.cons (.hf (qbR _)) .nil)) ?_;by_cases h5:u6 sp sp.fields[k]=true
  case neg =>
   rw[vS fun h=>h5 (h.fld k hlt)];simp[go_sem,h5];exact .hf _ (HF.sc _)
  simp[go_sem,e2,e3,e5,e6,hlt,h5];refine qn.keep (fun q2 st=>∃ s,q2=m.states.length-s/\s<=m.states.length/\st.tm 2=ipSp sp/\st.tm 3=ipMd m/\st.tm 5=aI (sumI m.sc.atoms)/\st.tm 6=aI (k:Nat)/\st.tm 7 = .ptr mu0.length 0/\st.tm 8=aI (s:Nat)/\st.mu[mu0.length]?=some (.arr (uh sp.fields[k])) /\
   (∀(u:Nat) (hu:u<m.states.length),u<s->∃ hl:m.states[u].length=sp.fields.length,Yr sp m u k hu hlt hl)) m.states.length ?_ ?_
  .exact ⟨0,by omega,by omega,by simp[go_sem,e2],by simp[go_sem,e3],by simp[go_sem,e5],by simp[go_sem,e6],by simp[go_sem],by simp[go_sem],by simp[go_sem],fun u _ h=>by omega⟩
  clear e2 e3 e5 e6 st;rintro q2 st ⟨s,rfl,hs,e2,e3,e5,e6,e7,e8,hmL,he2⟩;generalize mu0.length=L at *
  by_cases hsl:s<m.states.length
  .simp [go_sem,e2,e3,e5,e6,e7,e8,hlt,hsl]
   refine qg.intro (by kernel_rfl) ?_;have hL:L<st.mu.length:=(qk.1 hmL).1;generalize st.mu=mu1 at *
   by_cases h6:m.states[s].length=sp.fields.length
   case neg =>
    rw[vS fun h=>h6 (h.len s hsl)];simp[go_sem,e2,e3,e5,e6,e7,e8,hlt,hsl,h6];exact .hf _ (HF.sc _)
   have hki:k<m.states[s].length:=by omega
   have hmL1:mu1[L]'hL = .arr (uh sp.fields[k]):=by
    rw[qv hL]at hmL;exact Option.some.inj hmL
   have h0l:0<m.states.length:=by omega
   have hr200:=(hsm.st s hsl).2 k hki;simp[go_sem,e2,e3,e5,e6,e7,e8,hlt,hsl,h6,hki];refine qg.intro (by kernel_rfl) ?_;generalize hr:m.states[s][k]=r at *
   by_cases c1:r.ar=sp.fields[k].sorts.length
   case neg =>
    rw[vS fun h=>c1 (hr ▸ (h.cell s k hsl hlt).1)];simp[go_sem,e2,e3,e5,e6,e7,e8,hlt,hsl,h6,hki,hmL1,hL,c1];exact .hf _ (HF.sc _)
   obtain⟨ar,ts⟩:=r;simp only at c1 hr200;subst c1;simp[go_sem,e2,e3,e5,e6,e7,e8,hlt,hsl,h6,hki,hmL1,hL];refine qe.pure (qc0 (sumI m.sc.atoms) ⟨sp.fields[k].sorts.length,ts⟩ (by simp only;omega)) (.cons (.hf (HF.sc _)) (.cons (.hf (qR ⟨sp.fields[k].sorts.length,ts⟩)) .nil)) ?_;by_cases c2:jn (sumI m.sc.atoms) ⟨sp.fields[k].sorts.length,ts⟩=true
   case neg =>
    rw[vS fun h=>c2 (hr ▸ (h.cell s k hsl hlt).2.1)];simp[go_sem,e2,e3,e5,e6,e7,e8,hlt,hsl,h6,hki,hmL1,hL,c2];exact .hf _ (HF.sc _)
   simp[go_sem,e2,e3,e5,e6,e7,e8,hlt,hsl,h6,hki,hmL1,hL,c2];refine qe.pure (qfH m.sc g sp.fields[k].sorts (by omega) ⟨sp.fields[k].sorts.length,ts⟩ (by simp only;omega) (qfJ c2)) (.cons (.hf (jm _)) (.cons (.hf (yh _)) (.cons (.hf (qR ⟨sp.fields[k].sorts.length,ts⟩)) .nil))) ?_;by_cases c3:Ql m.sc sp.fields[k].sorts ⟨sp.fields[k].sorts.length,ts⟩=true
   case neg =>
    rw[vS fun h=>c3 (hr ▸ (h.cell s k hsl hlt).2.2.1)];simp[go_sem,e2,e3,e5,e6,e7,e8,hlt,hsl,h6,hki,hmL1,hL,c3];exact .hf _ (HF.sc _)
   have next:(sp.fields[k].var=false->(m.states[0]?.bind (·[k]?))=some (⟨sp.fields[k].sorts.length,ts⟩:Rl))->∀(u:Nat) (hu:u<m.states.length),u<s+1->∃ hl:m.states[u].length=sp.fields.length,Yr sp m u k hu hlt hl:=by
    intro hv u hu hus;rcases vj.1 hus with h7|h7
    .exact he2 u hu h7
    .subst h7
     refine⟨h6,?_⟩;unfold Yr;rw[hr];exact⟨rfl,c2,c3,hv⟩
   have hws:ql.wrap ((s:Int)+1)=((s+1:Nat):Int):=by rw[qi (by omega) (by omega)];omega
   by_cases c4:sp.fields[k].var=true
   .simp [go_sem,e2,e3,e5,e6,e7,e8,hlt,hsl,h6,hki,hmL1,hL,c3,c4]
    exact Keep.loop (m.states.length-(s+1)) (by omega) ⟨s+1,rfl,by omega,by simp[go_sem,e2],by simp[go_sem,e3],by simp[go_sem,e5],by simp[go_sem,e6],by simp[go_sem,e7],by simp[go_sem,hws],by simp[go_sem,hL,hmL1],next fun h=>by rw[c4]at h;simp at h⟩
   have c4':sp.fields[k].var=false:=by simpa using c4
   have h00:k<m.states[0].length:=by
    by_cases hs0:s=0
    .subst hs0;exact hki
    .obtain ⟨hl,_⟩:=he2 0 h0l (by omega)
     omega
   generalize hr0:m.states[0][k]=r0 at *
   have hb0:(m.states[0]?.bind (·[k]?))=some r0:=by
    rw[qv h0l,Option.bind_some,qv h00,hr0]
   simp[go_sem,e2,e3,e5,e6,e7,e8,hlt,hsl,h6,hki,hmL1,hL,c3,c4',h0l,h00,hr0];refine qe.pure (US ⟨sp.fields[k].sorts.length,ts⟩ r0 (by simp only;omega)) (.cons (.hf (qR ⟨sp.fields[k].sorts.length,ts⟩)) (.cons (.hf (qR r0)) .nil)) ?_;by_cases c5:(⟨sp.fields[k].sorts.length,ts⟩:Rl)=r0
   case neg =>
    rw[vS fun h=>c5 (by
     have:=(h.cell s k hsl hlt).2.2.2 c4';rw[hb0,hr]at this;exact(Option.some.inj this).symm)]
    simp[go_sem,e2,e3,e5,e6,e7,e8,hlt,hsl,h6,hki,hmL1,hL,c3,c4',h0l,h00,hr0,c5];exact .hf _ (HF.sc _)
   simp[go_sem,e2,e3,e5,e6,e7,e8,hlt,hsl,h6,hki,hmL1,hL,c3,c4',h0l,h00,hr0,c5];exact Keep.loop (m.states.length-(s+1)) (by omega) ⟨s+1,rfl,by omega,by simp[go_sem,e2],by simp[go_sem,e3],by simp[go_sem,e5],by simp[go_sem,e6],by simp[go_sem,e7],by simp[go_sem,hws],by simp[go_sem,hL,hmL1],next fun h=>by rw[hb0,c5]⟩
  .have hse:s=m.states.length:=by omega
   have hwk:ql.wrap ((k:Int)+1)=((k+1:Nat):Int):=by rw[qi (by omega) (by omega)];omega
   simp[go_sem,e2,e3,e5,e6,e7,e8,hlt,hsl];refine Keep.loop (sp.fields.length-(k+1)) (by omega) ⟨k+1,rfl,by omega,by simp[go_sem,e2],by simp[go_sem,e3],by simp[go_sem,e5],by simp[go_sem,hwk],fun i h hi=>?_⟩;rcases vj.1 hi with h7|h7
   .exact he i h h7
   .subst h7;exact⟨h5,fun u hu=>he2 u hu (by omega)⟩
 .have hke:k=sp.fields.length:=by omega
  simp[go_sem,e2,e3,e5,e6,hlt];refine qn.up m.states.length (fun s st=>st.tm 2=ipSp sp/\st.tm 3=ipMd m/\st.tm 10=aI s/\∀(u:Nat) (hu:u<m.states.length),u<s->m.states[u].length=sp.fields.length) ?_ ?_
  .simp [go_sem,e2,e3]
  clear e2 e3 e5 e6 st;rintro s st hs ⟨e2,e3,e10,he2⟩;by_cases hsl:s<m.states.length
  .simp [go_sem,e2,e3,e10,hsl]
   refine qg.intro (by kernel_rfl) ?_;by_cases h6:m.states[s].length=sp.fields.length
   case neg =>
    rw[vS fun h=>h6 (h.len s hsl)];simp[go_sem,e2,e3,e10,hsl,h6];exact .hf _ (HF.sc _)
   simp[go_sem,e2,e3,e10,hsl,h6];refine⟨qi (by omega) (by omega),fun u hu hus=>?_⟩;rcases vj.1 hus with h7|h7
   .exact he2 u hu h7
   .subst h7;exact h6
  .rw [qfM ⟨h1,h2,by omega,by omega,fun i h=>(he i h (by omega)).1,fun u hu=>he2 u hu (by omega),fun u i hu hi=>((he i hi (by omega)).2 u hu).2⟩]
   simp[go_sem,e2,e3,e10,hsl];exact .hf _ (HF.sc _)
def spOf(ts:TS):Sp:=⟨ts.sorts,ts.fields,ts.preds.map cPd,ts.facts.map cFa,wC ts.preds,Ye ts.facts⟩
end E9
end Go.Proofs.YtkglmpmlfjogkaaGreatDoor
