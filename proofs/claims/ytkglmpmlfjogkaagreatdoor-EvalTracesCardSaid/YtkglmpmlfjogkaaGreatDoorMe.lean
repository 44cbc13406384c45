/-
  Own library, part 5: an abstract reading of values and a calculus over it; contracts of functions; plain lemmas.
-/
import Derived.Test.YtkglmpmlfjogkaaGreatDoorMd
set_option linter.unusedVariables false
set_option linter.unusedSimpArgs false
set_option maxRecDepth 100000
open Go.Proofs.Tryz renaming prog->qd
open Go.IntKind renaming i64->qj
open List renaming getElem?_eq_some_iff->qk,getElem?_append_left->qp,range->qq,mem_map->qs,getElem_mem->qu,getElem?_eq_getElem->qv,all_eq_true->qy,mem_cons->qB,getElem?_set_ne->qK,mem_of_getElem?->qS,mem_append->qT,getElem?_append_right->qV,mem_singleton->qW,getElem?_set_self->zb,drop_eq_getElem_cons->zj,getElem?_map->zk,map_append->zm,not_mem_nil->zr,length_append->zt,take_length->zw,append_nil->zx,getD_eq_getElem?_getD->zz,append_assoc->zB,mem_range->zI,mem_cons_of_mem->zK,drop_length->zL,getElem?_eq_none->zQ,take_of_length_le->zU,mem_cons_self->zZ,length_cons->z6,map_cons->yd,cons_append->yB,length_map->yM,nil_append->yP,getElem?_cons_succ->jF,length_take->jZ,getD_cons_zero->vL,take_append_drop->ud,getElem?_range->ue,getElem_of_mem->uF,foldl_append->Z1
open Option.some renaming injEq->qn
open Nat renaming le_refl->qr,le_trans->q7,zero_add->yC,le_of_ble_eq_true->jo,lt_succ_iff_lt_or_eq->jU
open Bool renaming and_eq_true->qx,eq_iff_iff->jG
open Option renaming map_some->q8,map_eq_some_iff->vo
open Int renaming mul_le_mul->jp
open Classical renaming byContradiction->jT
namespace Go.Proofs.YtkglmpmlfjogkaaGreatDoor
open Go Go.Ev Go.Proofs Tryz
namespace EA
open Y1 Y9 P2 E1 E2 E3 E7
structure OkM (x:Mo) (N:Nat):Prop extends OkX x N where
 n0:0<=x.n
 n12:x.n<=12
 st:∀ s,s<N->(x.m.states.getD s []).length=x.ts.fields.length/\∀ r,r∈x.m.states.getD s []->GR x.n r
 at0:∀ i,i<x.ts.sorts.length->0<=gI x.m.sc.atoms i/\0<=sumI (x.m.sc.atoms.take i)/\sumI (x.m.sc.atoms.take i)+gI x.m.sc.atoms i<=x.n
structure OkP (x:Mo) (N:Nat) (p:Pl):Prop where
 st:p.st<N
 env:∀ e,e∈p.env->0<=e.2/\e.2<x.n
theorem OkP.nx{x:Mo}{N:Nat}{p:Pl}(h:OkM x N)(k:OkP x N p):OkP x N ⟨x.nx p.st,p.env⟩:=⟨h.nx _ k.st,k.env⟩
theorem OkP.bind{x:Mo}{N:Nat}{p:Pl}(k:OkP x N p){nm:ByteArray}{a:Int}(ha:0<=a/\a<x.n):OkP x N ⟨p.st,p.env++[(nm,a)]⟩:=⟨k.st,fun e he=>by
 rcases qT.1 he with he|he
 .exact k.env e he
 .rw [qW]at he;subst he;exact ha⟩
theorem yy{α β:Type}{q:XE α}{g:α->XE β}{r:β}(h:bX q g = .ok r):∃ a,q = .ok a/\g a = .ok r:=by
 cases q with
 |error e=>cases h
 |ok a=>exact⟨a,rfl,h⟩
theorem k8{nm:ByteArray}{a:Int}:∀{env:List (ByteArray×Int)} {r:Option Int},env.foldl (fun r e=>if e.1=nm then some e.2 else r) r=some a->r=some a\/∃ e,e∈env/\e.2=a
 | [],r,h => .inl h
 |e :: env,r,h=>by
  rw[List.foldl_cons]at h;rcases k8 h with h|⟨e',h1,h2⟩
  .split at h
   .cases h;exact .inr ⟨e,zZ ..,rfl⟩
   .exact .inl h
  .exact .inr ⟨e',zK _ h1,h2⟩
theorem qe2{fs:List Fld}{rs:List Rl}{nm:ByteArray}{r:Rl}(h:r∈vg fs rs nm):r∈rs:=by
 unfold vg at h;obtain⟨e,he,hr⟩:=List.mem_filterMap.1 h;split at hr
 .cases hr;exact(List.of_mem_zip (a:=e.1) (b:=e.2) he).2
 .cases hr
theorem k9{x:Mo}{N:Nat}(h:OkM x N)(nm:ByteArray):∀(so:List (ByteArray×Bool)) (i:Nat),i+so.length<=x.ts.sorts.length->∀ r,r∈yb x nm i so->GR x.n r
 | [],i,_,r,hr=>by cases hr
 |s :: so,i,hl,r,hr=>by
  simp only[z6]at hl;obtain⟨a0,a1,a2⟩:=h.at0 i (by omega);rw[yb]at hr;simp only[qT]at hr;have hA:GR x.n ⟨1,zi x i⟩:=GR.run _ a1 (by omega);rcases hr with hr|hr|hr|hr
  .split at hr
   .rw [qW]at hr;subst hr;exact hA
   .cases hr
  .split at hr
   .rw [qW]at hr;subst hr
    exact⟨hA.ar1,hA.ar3,fun t ht=>hA.val t (List.mem_of_mem_take ht),List.Pairwise.sublist (List.take_sublist _ _) hA.srt⟩
   .cases hr
  .split at hr
   .rw [qW]at hr;subst hr
    by_cases hz:(gI x.m.sc.atoms i).toNat=0
    .have e:vf x i=[]:=by unfold vf;rw[hz];rfl
     rw[e];exact GR.nil (by omega) (by omega)
    .exact GR.steps h.n0 _ a1 (by omega)
   .cases hr
  .exact k9 h nm so (i+1) (by omega) r hr
theorem qe3{l:List Rl}{r:Rl}(h:Zy l = .ok r):r∈l:=by
 match l,h with
 | [q],h=>cases h;exact zZ ..
theorem qe4{x:Mo}{N:Nat}(h:OkM x N){p:Pl}(k:OkP x N p){nm:ByteArray}{r:Rl}(e:vU x p nm = .ok r):GR x.n r:=by
 unfold vU at e;cases hl:Ql nm p.env with
 |some a =>
  rw[hl]at e;cases e;rcases k8 hl with h1|⟨b,hb,rfl⟩
  .cases h1
  .exact GR.one (k.env b hb).1 (k.env b hb).2
 |none =>
  rw[hl]at e;rcases qT.1 (qe3 e) with h1|h1
  .exact (h.st _ k.st).2 r (qe2 h1)
  .exact k9 h nm _ 0 (by omega) r h1
theorem Wi{α:Type}{g:Int->XE α}:∀{ts:List Int} {l:List (Int×α)},mapX (fun a=>bX (g a) fun b => .ok (a,b)) ts = .ok l->l.map Prod.fst=ts
 | [],l,h=>by cases h;rfl
 |t :: ts,l,h=>by
  rw[mapX]at h;obtain⟨b,h1,h2⟩:=yy h;obtain⟨c,h3,h4⟩:=yy h1;cases h4;obtain⟨r,h5,h6⟩:=yy h2;cases h6;rw[yd,Wi h5]
theorem pa{ds:List Den}{nm:ByteArray}{p:Pl}{l:List (Int×Bool)}(h:y6 ds nm p = .ok l):∃ d,(kD ds 0).E p = .ok d/\d.ar=1/\l.map Prod.fst=d.ts:=by
 unfold y6 at h;obtain⟨d,h1,h2⟩:=yy h;split at h2
 .rename_i h3;exact⟨d,h1,h3,Wi h2⟩
 .cases h2
theorem uz{ds:List Den}{p:Pl}{q:Rl×Rl}(h:zy ds p = .ok q):(kD ds 0).E p = .ok q.1/\(kD ds 1).E p = .ok q.2/\q.1.ar=q.2.ar:=by
 unfold zy at h;obtain⟨a,h1,h2⟩:=yy h;obtain⟨b,h3,h4⟩:=yy h2;split at h4
 .rename_i h5;cases h4;exact⟨h1,h3,h5⟩
 .cases h4
theorem ZD{ds:List Den}{p:Pl}{a:Rl}(h:binE ds p = .ok a):(kD ds 0).E p = .ok a/\a.ar=2:=by
 unfold binE at h;obtain⟨b,h1,h2⟩:=yy h;split at h2
 .rename_i h3;cases h2;exact⟨h1,h3⟩
 .cases h2
theorem qe5{x:Mo}{N:Nat}(h:OkM x N){op:Int}{nm:ByteArray}{i:Int}{ds:List Den}(hi:op=2->1<=i/\i<=3)(hK:∀ j p r,OkP x N p->(kD ds j).E p = .ok r->GR x.n r){p:Pl}(k:OkP x N p){r:Rl}(e:opE x op nm i ds p = .ok r):GR x.n r:=by
 have n0:=h.n0;unfold opE at e;by_cases o1:op=1
 .rw [if_pos o1]at e
  exact qe4 h k e
 rw[if_neg o1]at e;by_cases o2:op=2
 .rw [if_pos o2]at e
  cases e;exact GR.nil (hi o2).1 (hi o2).2
 rw[if_neg o2]at e;by_cases o3:op=3
 .rw [if_pos o3]at e
  cases e;have:=GR.run (n:=x.n) (a:=0) x.n.toNat (by omega) (by omega);simpa using this
 rw[if_neg o3]at e;by_cases o4:op=4
 .rw [if_pos o4]at e
  cases e;exact GR.iden n0
 rw[if_neg o4]at e;by_cases o5:op=5
 .rw [if_pos o5]at e
  exact hK 0 _ r (k.nx h) e
 rw[if_neg o5]at e;by_cases o6:op=6
 .rw [if_pos o6]at e
  obtain⟨q,h1,h2⟩:=yy e;obtain⟨g1,g2,g3⟩:=uz h1;cases h2;exact GR.union (hK 0 p _ k g1) (hK 1 p _ k g2) g3
 rw[if_neg o6]at e;by_cases o7:op=7
 .rw [if_pos o7]at e
  obtain⟨q,h1,h2⟩:=yy e;obtain⟨g1,g2,g3⟩:=uz h1;cases h2;exact GR.filter (hK 0 p _ k g1) _
 rw[if_neg o7]at e;by_cases o8:op=8
 .rw [if_pos o8]at e
  obtain⟨q,h1,h2⟩:=yy e;obtain⟨g1,g2,g3⟩:=uz h1;cases h2;exact GR.filter (hK 0 p _ k g1) _
 rw[if_neg o8]at e;by_cases o9:op=9
 .rw [if_pos o9]at e
  obtain⟨a,h1,h2⟩:=yy e;obtain⟨b,h3,h4⟩:=yy h2;unfold jf at h4;split at h4
  .rename_i h5;cases h4;exact GR.join n0 (hK 0 p _ k h1) (hK 1 p _ k h3) h5.1 h5.2
  .cases h4
 rw[if_neg o9]at e;by_cases o10:op=10
 .rw [if_pos o10]at e
  obtain⟨a,h1,h2⟩:=yy e;obtain⟨b,h3,h4⟩:=yy h2;unfold jz at h4;split at h4
  .rename_i h5;cases h4;exact GR.prod n0 (hK 0 p _ k h1) (hK 1 p _ k h3) h5
  .cases h4
 rw[if_neg o10]at e;by_cases o11:op=11
 .rw [if_pos o11]at e
  obtain⟨a,h1,h2⟩:=yy e;obtain⟨g1,g2⟩:=ZD h1;cases h2;exact GR.trans n0 (hK 0 p _ k g1) g2
 rw[if_neg o11]at e;by_cases o12:op=12
 .rw [if_pos o12]at e
  obtain⟨a,h1,h2⟩:=yy e;obtain⟨g1,g2⟩:=ZD h1;cases h2;exact(GR.clos n0 _ (hK 0 p _ k g1) g2).1
 rw[if_neg o12]at e;by_cases o13:op=13
 .rw [if_pos o13]at e
  obtain⟨a,h1,h2⟩:=yy e;obtain⟨g1,g2⟩:=ZD h1;obtain⟨c1,c2⟩:=GR.clos n0 200 (hK 0 p _ k g1) g2;cases h2;exact GR.union c1 (GR.iden n0) c2
 rw[if_neg o13]at e;by_cases o14:op=14
 .rw [if_pos o14]at e
  obtain⟨q,h1,h2⟩:=yy e;obtain⟨g1,g2,g3⟩:=uz h1;cases h2;exact GR.over (hK 0 p _ k g1) (hK 1 p _ k g2) g3
 rw[if_neg o14]at e;by_cases o15:op=15
 .rw [if_pos o15]at e
  obtain⟨l,h1,h2⟩:=yy e;obtain⟨d,g1,g2,g3⟩:=pa h1;cases h2;have gd:=hK 0 p d k g1;have hs:List.Sublist ((l.filter fun e=>e.2).map fun e=>e.1) d.ts:=by rw[<-g3];exact List.Sublist.map _ List.filter_sublist
  refine⟨by show (1:Int)<=1;omega,by show (1:Int)<=3;omega,fun t ht=>?_,List.Pairwise.sublist hs gd.srt⟩;have:=gd.val t (hs.subset ht);rw[g2]at this;exact this
 rw[if_neg o15]at e;cases e
theorem Qs{x:Mo}{N:Nat}(h:OkM x N):∀(m:Nat) (n:Nd),szN n<=m->WfN n->∀(p:Pl) (r:Rl),OkP x N p->(den x n).E p = .ok r->GR x.n r
 | 0,n,hm,_,_,_,_,_=>by obtain⟨op,nm,i,ks,p⟩:=n;simp[szN]at hm
 |m+1,n,hm,hw,p,r,k,e=>by
  rw[Qm]at e;refine qe5 h hw.num (fun j p r k e=>?_) k e;unfold kD at e;by_cases hj:j<n.kids.length
  .have hd:(n.kids.map (den x)).getD j noD=den x n.kids[j]:=by simp[List.getD,hj]
   rw[hd]at e;exact Qs h m n.kids[j] (by have:=yi (qu hj);omega) (hw.kid (qu hj)) p r k e
  .have hd:(n.kids.map (den x)).getD j noD=noD:=by simp[List.getD,hj]
   rw[hd]at e;cases e
end EA
namespace F2
open Y1 Y9 E1 E2 E3 EA EQ ER EY EZ F1
structure Ev3 (x:Mo) (p:Pl) (n:Nd):Prop where
 E:qH qd 53 [eMa x,ePl p,eNd n] (endE ((den x n).E p))
 N:qH qd 62 [eMa x,ePl p,eNd n] (endN ((den x n).N p))
 F:qH qd 63 [eMa x,ePl p,eNd n] (endB ((den x n).F p))
 G:∀ r,(den x n).E p = .ok r->GR x.n r
structure OkMa (x:Mo) (N:Nat):Prop extends OkM x N where
 gsc:GSc x.m.sc
 pos:∀ a,a∈x.m.sc.atoms->0<=a
 al:x.m.sc.atoms.length=x.ts.sorts.length
 loop:0<=x.m.loop
 N1:N<=1000
 ts:okTS x.ts
mutual
def dN:Nd->Nat
 | .mk _ _ _ ks _=>dNs ks+1
def dNs:List Nd->Nat
 | []=>0
 |k :: ks=>max (dN k) (dNs ks)
end
theorem pb(n:Nd):dN n=dNs n.kids+1:=by
 obtain⟨op,nm,i,ks,p⟩:=n;rfl
theorem qe6{ks:List Nd}{k:Nd}(h:k∈ks):dN k<=dNs ks:=by
 induction ks with
 |nil=>simp at h
 |cons a l ih =>
  simp only[dNs];rcases qB.1 h with rfl|h
  .omega
  .have:=ih h;omega
theorem qe7{n k:Nd}(h:k∈n.kids):dN k<dN n:=by
 have:=qe6 h;rw[pb n];omega
abbrev IH(x:Mo)(N:Nat)(n:Nd):Prop:=∀ k,k∈n.kids->∀ p:Pl,OkP x N p->p.env.length+dN n<=1000001->Ev3 x p k
abbrev bd(p:Pl)(n:Nd):Prop:=p.env.length+dN n<=1000000
theorem qe8{mu:Mu}{r s:Rl}{x y:AV}(h:Rd mu x (eRel r))(h2:Rd mu y (eRel s)):Rd mu (.tup [x,y]) (.tup [eRel r,eRel s]):=by
 refine .tup _ _ rfl fun k u v hu hv=>?_
 match k with
 | 0=>simp at hu hv;subst hu;subst hv;exact h
 | 1=>simp at hu hv;subst hu;subst hv;exact h2
 |k+2=>simp at hu
theorem ZE(x:Mo)(N:Nat)(n a b:Nd)(hk:n.kids=[a,b])(ih:IH x N n)(p:Pl)(hp:OkP x N p)(hq:bd p n) :
  qH qd 122 [eMa x,ePl p,eNd n] (end2 (zy [den x a,den x b] p)):=by
 refine qQ.of_sound ?_;refine qSW call122 func122 rfl {} ?_;have ha:=(ih a (by rw[hk];simp) p hp (by omega)).E;have hb:=(ih b (by rw[hk];simp) p hp (by omega)).E;have wa:=wk3 x p a;have wb:=wk3 x p b;have hM:=zp x;generalize hE:zy [den x a,den x b] p=E;unfold zy at hE;simp only[kD,vL,List.getD_cons_succ]at hE;generalize eMa x=M at *
 simp[go_sem,hk];refine qe.seg [0,1,2,3,4,5,7,8,9,10,11,12,6,13,14,15,16,17] [(0,0,[]),(1,0,[]),(2,0,[]),(3,0,[]),(4,0,[]),(5,0,[]),(7,0,[]),(8,0,[]),(9,0,[]),(10,0,[]),(11,0,[]),(12,0,[]),(6,1,[8,10,12]),(13,1,[]),(14,2,[1,3,5,8,10,12]),(15,2,[1,3,5,8,10,12]),(16,1,[]),(17,1,[])] (by kernel_rfl) (by kernel_rfl) (by simp[go_sem]) ?_;simp[go_sem,hk];cases ea:(den x a).E p with
 |error e =>
  rw[ea]at ha hE;subst hE;refine qb.pans ha wa ?_;simp[go_sem];exact .hf _ (qE _)
 |ok r =>
  rw[ea]at ha hE;rw[qO]at hE;refine qb.pure ha.toP wa ?_;simp[go_sem,hk];cases eb:(den x b).E p with
  |error e =>
   rw[eb]at hb hE;subst hE;refine qb.pans hb wb ?_;simp[go_sem];exact .hf _ (qE _)
  |ok s =>
   rw[eb]at hb hE;rw[qO]at hE;refine qb.pure hb.toP wb ?_;by_cases he:r.ar=s.ar
   .rw [if_pos he]at hE
    subst hE;have hd:(r.ar=s.ar)=True:=eq_true he;simp[go_sem,hk,hd];refine qe.seg [0,1,2,3] [(0,0,[]),(1,0,[]),(2,1,[1]),(3,1,[])] (by kernel_rfl) (by kernel_rfl) (by simp[go_sem]) ?_;simp[go_sem,hk];exact qe8 (.hf _ (qM r)) (.hf _ (qM s))
   .rw [if_neg he]at hE
    subst hE;simp[go_sem,hk,he];refine qb.pans (ux 42) (wkI 42) ?_;simp[go_sem];exact .hf _ (qE _)
theorem qe9(x:Mo)(N:Nat)(n a b:Nd)(hM:OkMa x N)(hk:n.kids=[a,b])(ih:IH x N n)(p:Pl)(hp:OkP x N p)(hq:bd p n) :
  qH qd 98 [eMa x,ePl p,eNd n] (endE (bX (zy [den x a,den x b] p) fun q => .ok (unR q.1 q.2))):=by
 refine qQ.of_sound ?_;refine qSW call98 func98 rfl {} ?_;have hpx:=ZE x N n a b hk ih p hp hq;have wx:=wk3 x p n;have hMf:=zp x;cases hE:zy [den x a,den x b] p with
 |error e =>
  rw[hE]at hpx;rw[q9];simp[go_sem];refine qb.pans hpx wx ?_;simp[go_sem];exact .hf _ (qE _)
 |ok q =>
  obtain⟨r,s⟩:=q;obtain⟨h1,h2,h3⟩:=uz hE;simp only[kD,vL,List.getD_cons_succ]at h1 h2;have gr:=(ih a (by rw[hk];simp) p hp (by omega)).G _ h1;have gs:=(ih b (by rw[hk];simp) p hp (by omega)).G _ h2;have lr:=gr.len hM.n0 (by have:=hM.n12;omega);have ls:=gs.len hM.n0 (by have:=hM.n12;omega);rw[hE]at hpx;rw[qO];simp[go_sem];refine qb.pure hpx.toP wx ?_;simp[go_sem];refine qb.pure (y7 r s (by omega) (by omega)) (wkR2 r s) ?_;simp[go_sem];exact .hf _ (qM _)
theorem qfA(x:Mo)(N:Nat)(n a b:Nd)(hM:OkMa x N)(hk:n.kids=[a,b])(ih:IH x N n)(p:Pl)(hp:OkP x N p)(hq:bd p n) :
  qH qd 99 [eMa x,ePl p,eNd n] (endE (bX (zy [den x a,den x b] p) fun q => .ok (inR q.1 q.2))):=by
 refine qQ.of_sound ?_;refine qSW call99 func99 rfl {} ?_;have hpx:=ZE x N n a b hk ih p hp hq;have wx:=wk3 x p n;have hMf:=zp x;cases hE:zy [den x a,den x b] p with
 |error e =>
  rw[hE]at hpx;rw[q9];simp[go_sem];refine qb.pans hpx wx ?_;simp[go_sem];exact .hf _ (qE _)
 |ok q =>
  obtain⟨r,s⟩:=q;obtain⟨h1,h2,h3⟩:=uz hE;simp only[kD,vL,List.getD_cons_succ]at h1 h2;have gr:=(ih a (by rw[hk];simp) p hp (by omega)).G _ h1;have gs:=(ih b (by rw[hk];simp) p hp (by omega)).G _ h2;have lr:=gr.len hM.n0 (by have:=hM.n12;omega);have ls:=gs.len hM.n0 (by have:=hM.n12;omega);rw[hE]at hpx;rw[qO];simp[go_sem];refine qb.pure hpx.toP wx ?_;simp[go_sem];refine qb.pure (Zz r s (by omega) (by omega)) (wkR2 r s) ?_;simp[go_sem];exact .hf _ (qM _)
theorem diffX(x:Mo)(N:Nat)(n a b:Nd)(hM:OkMa x N)(hk:n.kids=[a,b])(ih:IH x N n)(p:Pl)(hp:OkP x N p)(hq:bd p n) :
  qH qd 100 [eMa x,ePl p,eNd n] (endE (bX (zy [den x a,den x b] p) fun q => .ok (diR q.1 q.2))):=by
 refine qQ.of_sound ?_;refine qSW call100 func100 rfl {} ?_;have hpx:=ZE x N n a b hk ih p hp hq;have wx:=wk3 x p n;have hMf:=zp x;cases hE:zy [den x a,den x b] p with
 |error e =>
  rw[hE]at hpx;rw[q9];simp[go_sem];refine qb.pans hpx wx ?_;simp[go_sem];exact .hf _ (qE _)
 |ok q =>
  obtain⟨r,s⟩:=q;obtain⟨h1,h2,h3⟩:=uz hE;simp only[kD,vL,List.getD_cons_succ]at h1 h2;have gr:=(ih a (by rw[hk];simp) p hp (by omega)).G _ h1;have gs:=(ih b (by rw[hk];simp) p hp (by omega)).G _ h2;have lr:=gr.len hM.n0 (by have:=hM.n12;omega);have ls:=gs.len hM.n0 (by have:=hM.n12;omega);rw[hE]at hpx;rw[qO];simp[go_sem];refine qb.pure hpx.toP wx ?_;simp[go_sem];refine qb.pure (Vd r s (by omega) (by omega)) (wkR2 r s) ?_;simp[go_sem];exact .hf _ (qM _)
theorem overX(x:Mo)(N:Nat)(n a b:Nd)(hM:OkMa x N)(hk:n.kids=[a,b])(ih:IH x N n)(p:Pl)(hp:OkP x N p)(hq:bd p n) :
  qH qd 101 [eMa x,ePl p,eNd n] (endE (bX (zy [den x a,den x b] p) fun q => .ok (ovR x.n q.1 q.2))):=by
 refine qQ.of_sound ?_;refine qSW call101 func101 rfl {} ?_;have hpx:=ZE x N n a b hk ih p hp hq;have wx:=wk3 x p n;have hMf:=zp x;cases hE:zy [den x a,den x b] p with
 |error e =>
  rw[hE]at hpx;rw[q9];simp[go_sem];refine qb.pans hpx wx ?_;simp[go_sem];exact .hf _ (qE _)
 |ok q =>
  obtain⟨r,s⟩:=q;obtain⟨h1,h2,h3⟩:=uz hE;simp only[kD,vL,List.getD_cons_succ]at h1 h2;have gr:=(ih a (by rw[hk];simp) p hp (by omega)).G _ h1;have gs:=(ih b (by rw[hk];simp) p hp (by omega)).G _ h2;have lr:=gr.len hM.n0 (by have:=hM.n12;omega);have ls:=gs.len hM.n0 (by have:=hM.n12;omega);rw[hE]at hpx;rw[qO];simp[go_sem];refine qb.pure hpx.toP wx ?_;simp[go_sem];refine qe.intro (by kernel_rfl) ?_;simp[go_sem];refine qb.pure (U9 x.n hM.n0 hM.n12 r s gr gs h3) (wkJ x.n r s) ?_;simp[go_sem];exact .hf _ (qM _)
end F2
namespace F3
open Y1 E1 E2 E3 EA EL EQ ET EY F1 F2
theorem OkMa.n20{x:Mo}{N:Nat}(h:OkMa x N):x.n<=20:=by have:=h.n12;omega
theorem GR.lens{n:Int}(h0:0<=n)(h12:n<=12){a b:Rl}(ga:GR n a)(gb:GR n b)(h:a.ar+b.ar<=5):a.ts.length*b.ts.length<=1000000:=by
 have key:∀{c:Rl},GR n c->(c.ar=1->c.ts.length<=12)/\(c.ar=2->c.ts.length<=144)/\c.ts.length<=1728:=fun {c} g=>by
  have e2:n*n<=12*12:=jp h12 h12 h0 (by omega);have e20:0<=n*n:=Int.mul_nonneg h0 h0;have e3:n*n*n<=12*12*12:=jp e2 h12 h0 (by omega);have p1:powI n 1=n:=vV n;have p2:powI n 2=n*n:=EC.kT n;have p3:powI n 3=n*n*n:=by
   have:=uy (n:=n) (i:=2) (j:=1) (by omega) (by omega) (by omega);rw[p1,p2]at this;exact this
  have c1:=g.ar1;have c3:=g.ar3;refine⟨fun e=>Yu g.srt fun t ht=>?_,fun e=>Yu g.srt fun t ht=>?_,Yu g.srt fun t ht=>?_⟩
  .have:=g.val t ht;rw[e,p1]at this;omega
  .have:=g.val t ht;rw[e,p2]at this;omega
  .have hv:=g.val t ht
   have:c.ar=1\/c.ar=2\/c.ar=3:=by omega
   rcases this with e|e|e
   .rw [e,p1]at hv;omega
   .rw [e,p2]at hv;omega
   .rw [e,p3]at hv;omega
 obtain⟨a1,a2,a3⟩:=key ga;obtain⟨b1,b2,b3⟩:=key gb;have:=ga.ar1;have:=gb.ar1;by_cases ea:a.ar=1
 .exact q7 (Nat.mul_le_mul (a1 ea) b3) (by omega)
 .by_cases eb:b.ar=1
  .exact q7 (Nat.mul_le_mul a3 (b1 eb)) (by omega)
  .by_cases ea2:a.ar=2
   .exact q7 (Nat.mul_le_mul (a2 ea2) b3) (by omega)
   .exact q7 (Nat.mul_le_mul a3 (b2 (by omega))) (by omega)
theorem pf(x:Mo)(N:Nat)(n a:Nd)(rest:List Nd)(hk:n.kids=a :: rest)(ih:IH x N n)(p:Pl)(hp:OkP x N p)(hq:bd p n) :
  qH qd 164 [eMa x,ePl p,eNd n] (endE (binE [den x a] p)):=by
 refine qQ.of_sound ?_;refine qSW call164 func164 rfl {} ?_;have ha:=(ih a (by rw[hk];simp) p hp (by omega)).E;have wa:=wk3 x p a;generalize hE:binE [den x a] p=E;unfold binE at hE;simp only[kD,vL]at hE;generalize eMa x=M at *
 simp[go_sem,hk];refine qe.seg [0,1,2,3,4,5,6,7,8] [(0,0,[]),(1,0,[]),(2,0,[]),(3,0,[]),(4,0,[]),(5,0,[]),(6,1,[]),(7,2,[1,3,5]),(8,1,[])] (by kernel_rfl) (by kernel_rfl) (by simp[go_sem]) ?_;simp[go_sem,hk];cases ea:(den x a).E p with
 |error e =>
  rw[ea]at ha hE;subst hE;refine qb.pans ha wa ?_;simp[go_sem,q9];exact .hf _ (qE _)
 |ok r =>
  rw[ea]at ha hE;rw[qO]at hE;refine qb.pure ha.toP wa ?_;by_cases he:r.ar=2
  .rw [if_pos he]at hE
   subst hE;have hd:(r.ar=2)=True:=eq_true he;simp[go_sem,hk,hd];exact .hf _ (qM r)
  .rw [if_neg he]at hE
   subst hE;simp[go_sem,hk,he];refine qb.pans (ux 42) (wkI 42) ?_;simp[go_sem];exact .hf _ (qE _)
theorem joinX(x:Mo)(N:Nat)(n a b:Nd)(hM:OkMa x N)(hk:n.kids=[a,b])(ih:IH x N n)(p:Pl)(hp:OkP x N p)(hq:bd p n) :
  qH qd 102 [eMa x,ePl p,eNd n] (endE (bX ((den x a).E p) fun r=>bX ((den x b).E p) fun s=>jf x.n r s)):=by
 refine qQ.of_sound ?_;refine qSW call102 func102 rfl {} ?_;have ia:=ih a (by rw[hk];simp) p hp (by omega);have ib:=ih b (by rw[hk];simp) p hp (by omega);have ha:=ia.E;have hb:=ib.E;have wa:=wk3 x p a;have wb:=wk3 x p b;have g0:=hM.n0;have g1:=hM.n12;generalize hE:(bX ((den x a).E p) fun r=>bX ((den x b).E p) fun s=>jf x.n r s)=E;simp[go_sem,hk];refine qe.seg [0,1,2,3,4,5,7,8,9,10,11,12,6,13,14,15,16,17] [(0,0,[]),(1,0,[]),(2,0,[]),(3,0,[]),(4,0,[]),(5,0,[]),(7,0,[]),(8,0,[]),(9,0,[]),(10,0,[]),(11,0,[]),(12,0,[]),(6,1,[8,10,12]),(13,1,[]),(14,2,[1,3,5,8,10,12]),(15,2,[1,3,5,8,10,12]),(16,1,[]),(17,1,[])] (by kernel_rfl) (by kernel_rfl) (by simp[go_sem]) ?_;simp[go_sem,hk];cases ea:(den x a).E p with
 |error e =>
  rw[ea]at ha hE;subst hE;refine qb.pans ha wa ?_;simp[go_sem,q9];exact .hf _ (qE _)
 |ok r =>
  rw[ea]at ha hE;rw[qO]at hE;refine qb.pure ha.toP wa ?_;simp[go_sem,hk];cases eb:(den x b).E p with
  |error e =>
   rw[eb]at hb hE;subst hE;refine qb.pans hb wb ?_;simp[go_sem,q9];exact .hf _ (qE _)
  |ok s =>
   rw[eb]at hb hE;rw[qO]at hE;refine qb.pure hb.toP wb ?_;have gr:=ia.G _ ea;have gs:=ib.G _ eb;have lr:=gr.len g0 (by omega);have ls:=gs.len g0 (by omega);simp[go_sem,hk];refine qe.seg [0,1,2,3,4,5,6,7,8,9,10] [(0,0,[]),(1,0,[]),(2,0,[]),(3,0,[]),(4,0,[]),(5,0,[]),(6,1,[]),(7,0,[]),(8,0,[]),(9,1,[]),(10,1,[])] (by kernel_rfl) (by kernel_rfl) (by simp[go_sem]) ?_;simp[go_sem,hk];have hj:=vT x.n g0 g1 r s gr gs (GR.lens g0 g1 gr gs);cases ej:jf x.n r s with
   |error e =>
    rw[ej]at hj hE;subst hE;have he:e≠0:=by
     unfold jf at ej;split at ej
     .cases ej
     .cases ej;omega
    have hc:=Va ⟨0,[]⟩ e;rw[if_neg he]at hc;refine qb.pure hj (wkJ x.n r s) ?_;simp[go_sem];refine qb.pans hc (.cons (.hf (qM _)) (.cons (.hf (HF.sc _)) .nil)) ?_;simp[go_sem];exact .hf _ (qE _)
   |ok u =>
    rw[ej]at hj hE;subst hE;have hc:=Va u 0;rw[if_pos rfl]at hc;refine qb.pure hj (wkJ x.n r s) ?_;simp[go_sem];refine qb.pure hc.toP (.cons (.hf (qM _)) (.cons (.hf (HF.sc _)) .nil)) ?_;simp[go_sem];exact .hf _ (qM u)
theorem qfB(x:Mo)(N:Nat)(n a b:Nd)(hM:OkMa x N)(hk:n.kids=[a,b])(ih:IH x N n)(p:Pl)(hp:OkP x N p)(hq:bd p n) :
  qH qd 103 [eMa x,ePl p,eNd n] (endE (bX ((den x a).E p) fun r=>bX ((den x b).E p) fun s=>jz x.n r s)):=by
 refine qQ.of_sound ?_;refine qSW call103 func103 rfl {} ?_;have ia:=ih a (by rw[hk];simp) p hp (by omega);have ib:=ih b (by rw[hk];simp) p hp (by omega);have ha:=ia.E;have hb:=ib.E;have wa:=wk3 x p a;have wb:=wk3 x p b;have g0:=hM.n0;have g1:=hM.n12;generalize hE:(bX ((den x a).E p) fun r=>bX ((den x b).E p) fun s=>jz x.n r s)=E;simp[go_sem,hk];refine qe.seg [0,1,2,3,4,5,7,8,9,10,11,12,6,13,14,15,16,17] [(0,0,[]),(1,0,[]),(2,0,[]),(3,0,[]),(4,0,[]),(5,0,[]),(7,0,[]),(8,0,[]),(9,0,[]),(10,0,[]),(11,0,[]),(12,0,[]),(6,1,[8,10,12]),(13,1,[]),(14,2,[1,3,5,8,10,12]),(15,2,[1,3,5,8,10,12]),(16,1,[]),(17,1,[])] (by kernel_rfl) (by kernel_rfl) (by simp[go_sem]) ?_;simp[go_sem,hk];cases ea:(den x a).E p with
 |error e =>
  rw[ea]at ha hE;subst hE;refine qb.pans ha wa ?_;simp[go_sem,q9];exact .hf _ (qE _)
 |ok r =>
  rw[ea]at ha hE;rw[qO]at hE;refine qb.pure ha.toP wa ?_;simp[go_sem,hk];cases eb:(den x b).E p with
  |error e =>
   rw[eb]at hb hE;subst hE;refine qb.pans hb wb ?_;simp[go_sem,q9];exact .hf _ (qE _)
  |ok s =>
   rw[eb]at hb hE;rw[qO]at hE;refine qb.pure hb.toP wb ?_;have gr:=ia.G _ ea;have gs:=ib.G _ eb;have lr:=gr.len g0 (by omega);have ls:=gs.len g0 (by omega);simp[go_sem,hk];refine qe.seg [0,1,2,3,4,5,6,7,8,9,10] [(0,0,[]),(1,0,[]),(2,0,[]),(3,0,[]),(4,0,[]),(5,0,[]),(6,1,[]),(7,0,[]),(8,0,[]),(9,1,[]),(10,1,[])] (by kernel_rfl) (by kernel_rfl) (by simp[go_sem]) ?_;simp[go_sem,hk];have hj:=JV x.n g0 g1 r s gr gs;cases ej:jz x.n r s with
   |error e =>
    rw[ej]at hj hE;subst hE;have he:e≠0:=by
     unfold jz at ej;split at ej
     .cases ej
     .cases ej;omega
    have hc:=Va ⟨0,[]⟩ e;rw[if_neg he]at hc;refine qb.pure hj (wkJ x.n r s) ?_;simp[go_sem];refine qb.pans hc (.cons (.hf (qM _)) (.cons (.hf (HF.sc _)) .nil)) ?_;simp[go_sem];exact .hf _ (qE _)
   |ok u =>
    rw[ej]at hj hE;subst hE;have hc:=Va u 0;rw[if_pos rfl]at hc;refine qb.pure hj (wkJ x.n r s) ?_;simp[go_sem];refine qb.pure hc.toP (.cons (.hf (qM _)) (.cons (.hf (HF.sc _)) .nil)) ?_;simp[go_sem];exact .hf _ (qM u)
theorem qfC(x:Mo)(N:Nat)(n a:Nd)(hM:OkMa x N)(hk:n.kids=[a])(ih:IH x N n)(p:Pl)(hp:OkP x N p)(hq:bd p n) :
  qH qd 107 [eMa x,ePl p,eNd n] (endE ((den x a).E ⟨x.nx p.st,p.env⟩)):=by
 refine qQ.of_sound ?_;refine qSW call107 func107 rfl {} ?_;have ha:=(ih a (by rw[hk];simp) _ (OkP.nx hM.toOkM hp) (by show p.env.length+_<=_;omega)).E;have wa:=wk3 x ⟨x.nx p.st,p.env⟩ a;have hN:=hM.N1;have hl:=hM.len;have hnx:=UN x hM.loop (by omega) p.st (by have:=hp.st;omega);have hnw:WKs [eMd x.m,aI p.st] [eMd x.m,aI p.st] := .cons (.hf (yx x.m)) (.cons (.hf (HF.sc _)) .nil);simp[go_sem,hk];refine qe.seg [0,1,2,3,4,5,6,8,9,11,12,13,14,7,10,15,16] [(0,0,[]),(1,0,[]),(2,0,[]),(3,0,[]),(4,0,[]),(5,0,[]),(6,0,[]),(8,0,[]),(9,0,[]),(11,0,[]),(12,0,[]),(13,0,[]),(14,0,[]),(7,1,[9,12,14]),(10,0,[]),(15,1,[]),(16,1,[])] (by kernel_rfl) (by kernel_rfl) (by simp[go_sem]) ?_;simp[go_sem,hk];refine qb.pure hnx hnw ?_;simp[go_sem,hk];cases ea:(den x a).E ⟨x.nx p.st,p.env⟩ with
 |error e =>
  rw[ea]at ha;refine qb.pans ha wa ?_;simp[go_sem];exact .hf _ (qE _)
 |ok r =>
  rw[ea]at ha;refine qb.pure ha.toP wa ?_;simp[go_sem];exact .hf _ (qM r)
theorem wkT(n:Int)(a:Rl):WKs [aI n,eRel a] [aI n,eRel a] := .cons (.hf (HF.sc _)) (.cons (.hf (qM a)) .nil)
theorem qfD(x:Mo)(N:Nat)(n a:Nd)(hM:OkMa x N)(hk:n.kids=[a])(ih:IH x N n)(p:Pl)(hp:OkP x N p)(hq:bd p n) :
  qH qd 104 [eMa x,ePl p,eNd n] (endE (bX (binE [den x a] p) fun a => .ok (trR x.n a))):=by
 refine qQ.of_sound ?_;refine qSW call104 func104 rfl {} ?_;have hb:=pf x N n a [] hk ih p hp hq;have wx:=wk3 x p n;have hMf:=zp x;have g0:=hM.n0;have g1:=hM.n12;simp[go_sem];refine qe.seg [0,1,2,3,4,5,6,7,8,9] [(0,0,[]),(1,0,[]),(2,0,[]),(3,0,[]),(4,0,[]),(5,0,[]),(6,0,[]),(7,1,[3]),(8,1,[]),(9,1,[])] (by kernel_rfl) (by kernel_rfl) (by simp[go_sem]) ?_;simp[go_sem];cases hE:binE [den x a] p with
 |error e =>
  rw[hE]at hb;refine qb.pans hb wx ?_;simp[go_sem,q9];exact .hf _ (qE _)
 |ok r =>
  rw[hE]at hb;obtain⟨h1,h2⟩:=ZD hE;simp only[kD,vL]at h1;have gr:=(ih a (by rw[hk];simp) p hp (by omega)).G _ h1;refine qb.pure hb.toP wx ?_;simp[go_sem,qO];refine qb.pure (U5 x.n g0 g1 r gr h2) (wkT x.n r) ?_;simp[go_sem];exact .hf _ (qM _)
theorem pg(x:Mo)(N:Nat)(n a:Nd)(hM:OkMa x N)(hk:n.kids=[a])(ih:IH x N n)(p:Pl)(hp:OkP x N p)(hq:bd p n) :
  qH qd 105 [eMa x,ePl p,eNd n] (endE (bX (binE [den x a] p) fun a => .ok (clR x.n 200 a))):=by
 refine qQ.of_sound ?_;refine qSW call105 func105 rfl {} ?_;have hb:=pf x N n a [] hk ih p hp hq;have wx:=wk3 x p n;have hMf:=zp x;have g0:=hM.n0;have g1:=hM.n12;simp[go_sem];refine qe.seg [0,1,2,3,4,5,6,7,8,9] [(0,0,[]),(1,0,[]),(2,0,[]),(3,0,[]),(4,0,[]),(5,0,[]),(6,0,[]),(7,1,[3]),(8,1,[]),(9,1,[])] (by kernel_rfl) (by kernel_rfl) (by simp[go_sem]) ?_;simp[go_sem];cases hE:binE [den x a] p with
 |error e =>
  rw[hE]at hb;refine qb.pans hb wx ?_;simp[go_sem,q9];exact .hf _ (qE _)
 |ok r =>
  rw[hE]at hb;obtain⟨h1,h2⟩:=ZD hE;simp only[kD,vL]at h1;have gr:=(ih a (by rw[hk];simp) p hp (by omega)).G _ h1;refine qb.pure hb.toP wx ?_;simp[go_sem,qO];refine qb.pure (Yx x.n g0 g1 r gr h2) (wkT x.n r) ?_;simp[go_sem];exact .hf _ (qM _)
theorem Vi(n:Int)(h0:0<=n)(h1:n<=12):qi qd 38 [aI n] (eRel (idR n)):=by
 have:=idenU n.toNat (by omega);rw[show ((n.toNat:Nat):Int)=n by omega]at this;exact this
theorem qfE(x:Mo)(N:Nat)(n a:Nd)(hM:OkMa x N)(hk:n.kids=[a])(ih:IH x N n)(p:Pl)(hp:OkP x N p)(hq:bd p n) :
  qH qd 106 [eMa x,ePl p,eNd n] (endE (bX (binE [den x a] p) fun a => .ok (unR (clR x.n 200 a) (idR x.n)))):=by
 refine qQ.of_sound ?_;refine qSW call106 func106 rfl {} ?_;have hb:=pg x N n a hM hk ih p hp hq;have wx:=wk3 x p n;have hMf:=zp x;have g0:=hM.n0;have g1:=hM.n12;simp[go_sem];refine qe.seg [0,1,2,4,5,6,7,3,8,9,10] [(0,0,[]),(1,0,[]),(2,0,[]),(4,0,[]),(5,0,[]),(6,0,[]),(7,0,[]),(3,1,[7]),(8,1,[]),(9,1,[]),(10,1,[])] (by kernel_rfl) (by kernel_rfl) (by simp[go_sem]) ?_;simp[go_sem];cases hE:binE [den x a] p with
 |error e =>
  rw[hE]at hb;refine qb.pans hb wx ?_;simp[go_sem,q9];exact .hf _ (qE _)
 |ok r =>
  rw[hE]at hb;obtain⟨h1,h2⟩:=ZD hE;simp only[kD,vL]at h1;have gr:=(ih a (by rw[hk];simp) p hp (by omega)).G _ h1;obtain⟨gc,c2⟩:=GR.clos g0 200 gr h2;have gi:=GR.iden g0;have l1:=gc.len g0 (by omega);have l2:=gi.len g0 (by omega);rw[qO]at hb;refine qb.pure hb.toP wx ?_;simp[go_sem,qO];refine qb.pure (Vi x.n g0 g1) (.cons (.hf (HF.sc _)) .nil) ?_;simp[go_sem];refine qb.pure (y7 _ _ (by omega) (by omega)) (wkR2 _ _) ?_;simp[go_sem];exact .hf _ (qM _)
end F3
namespace F4
open Y1 P2 E3 EA EL EO EP EQ ER F1 F2 F3
theorem Own.one{sz:Nat}{mu:Mu}{av:AV}{xs:List (List AV)}(h:Own mu sz av xs):av.one=true:=by
 rcases h with rfl|⟨b,rfl,_⟩<;>rfl
theorem Own.cells{sz:Nat}{mu:Mu}{av:AV}{xs:List (List AV)}(h:Own mu sz av xs):av.cells=[av]:=by
 rcases h with rfl|⟨b,rfl,_⟩<;>rfl
theorem Own.push{sz:Nat}{mu:Mu}{av:AV}{xs:List (List AV)}(h:Own mu sz av xs)(c:List Cell):Own (mu++c) sz av xs:=by
 rcases h with rfl|⟨b,rfl,hc⟩
 .exact .inl rfl
 .exact .inr ⟨b,rfl,by rw[qp (qk.1 hc).1];exact hc⟩
theorem Own.set{sz:Nat}{mu:Mu}{av:AV}{xs:List (List AV)}(h:Own mu sz av xs){i:Nat}(c:Cell)(hi:qt av≠some i):Own (mu.set i c) sz av xs:=by
 rcases h with rfl|⟨b,rfl,hc⟩
 .exact .inl rfl
 .exact .inr ⟨b,rfl,by rw[qK (fun e=>hi (by rw[e];rfl))];exact hc⟩
theorem Own.lt{sz:Nat}{mu:Mu}{av:AV}{xs:List (List AV)}(h:Own mu sz av xs){b:Nat}(hb:qt av=some b):b<mu.length:=by
 rcases h with rfl|⟨b',rfl,hc⟩
 .cases hb
 .cases hb;exact(qk.1 hc).1
theorem qF.ownB{P:Program}{mu:Mu}{t t' e sz bt:Nat}{s x:AV}{xs ys:List (List AV)}{zv:AV}{K:AV->Mu->Prop}(hs:qJ P t=some (e,sz,bt))(hs':(qJ P t').isSome=true)(hz:qz P e=some zv)
  (hz1:zv.cells.length=sz) (hz2:zv.cells.all AV.one=true) (hz0:sz≠0) (hb:bt<=16384) (ho:Own mu sz s xs) (hx:qG mu x=some ys) (wx:zh sz xs) (wy:zh sz ys) (hl:xs.length+ys.length<=4294967296)
  (k:∀ av mu',Own mu' sz av (xs++ys)->(∀ i,i<mu.length->qt s≠some i->mu'[i]?=mu[i]?)->(∀ b,qt av=some b->b=mu.length)->mu.length<=mu'.length->K av mu'):qF P mu #[t,t'] s x K:=by
 refine .inl ?_;refine⟨t,t',e,sz,bt,ys,rfl,hs,hs',⟨zv,hz,hz1,hz2⟩,hz0,hb,hx,wy,?_⟩;rcases ho with rfl|⟨b,rfl,hc⟩
 .refine .inl ⟨xs,rfl,wx,hl,fun h=>?_,fun h=>?_⟩
  .subst h
   exact k _ _ (.inl (by simp)) (fun _ _ _=>rfl) (fun b h=>by cases h) (qr _)
  .refine k _ _ (.inr ⟨mu.length,by simp,by simp⟩) (fun i hi _=>?_) (fun b h=>by cases h;rfl) (by simp)
   rw[qp hi]
 .have hfl:=jk wx.ok
  refine .inr ⟨b,xs.length,xs.flatten,rfl,hc,by omega,hl,?_⟩;have htk:xs.flatten.take (xs.length*sz)=xs.flatten:=zU (by omega);refine k _ _ (.inr ⟨mu.length,by simp,?_⟩) (fun i hi hne=>?_) (fun b h=>by cases h;rfl) (by simp)
  .rw [htk,qV (by simp)];simp
  .rw [qp (by simpa using hi)]
   rw[qK (fun e=>hne (by rw[e];rfl))]
theorem FzQ.ownB{Q:qZ->St->Prop}{i d sz:Nat}{av:AV}{xs:List (List AV)}{st:St}(hd:st.tm d=av)(ho:Own st.mu sz av xs)(wf:zh sz xs)(hf:∀ r,r∈xs->∀ c,c∈r->HF c)
  (k:∀ mu' full,mu'.length=st.mu.length->(∀ j,qt av≠some j->mu'[j]?=st.mu[j]?)->Q (.exit i) (st.put (some d) (.lst full xs) mu')):FzQ Q (.exit i) st:=by
 rcases ho with h|⟨b,h,hc⟩
 .refine FzQ.one (b:=st.mu.length) (d:=d) (x := .lst true xs) ?_ (k _ _ (Zg _ _ _) fun j hj=>?_)
  .rw [hd,h]
   exact .hf _ (HF.lst hf)
  .by_cases hjl:j=st.mu.length
   .rw [hjl,zQ (by rw[Zg];exact qr _),zQ (qr _)]
   .exact KR hjl _
 .refine FzQ.one (b:=b) (d:=d) (x := .lst false xs) ?_ (k _ _ (Zg _ _ _) fun j hj=>KR (fun e=>hj (by rw[h,e];rfl)) _)
  rw[hd];exact Own.rd (.inr ⟨b,h,by rw[qcK];exact hc⟩) wf.ok hf
abbrev lN(l:List Nat):AV:=lI (l.map fun k:Nat=>(k:Int))
theorem qfF(k:Nat)(l:List Nat):decide ((k:Int)∈l.map fun k:Nat=>(k:Int))=decide (k∈l):=by
 rw[jG,decide_eq_true_iff,decide_eq_true_iff,qs];exact⟨fun⟨a,h,e⟩=>by rwa[show a=k by omega]at h,fun h=>⟨k,h,rfl⟩⟩
theorem Wj(x:Mo)(N:Nat)(hM:OkMa x N)(s:Nat)(hs:s<N):qi qd 126 [eMa x,aI s] (lN (x.path s)):=by
 refine qSQ call126 func126 rfl {} ?_;have hN:=hM.N1;have hl:=hM.len;have hMf:=zp x;simp[go_sem];refine ql.keep (fun f st=>∃(cur:Nat) (acc:List Nat),u4 x f cur acc=x.path s/\acc.Nodup/\(∀ t,t∈acc->t<N)/\cur<N/\N+1<=f+acc.length/\st.tm 0=eMa x/\st.tm 6=aI (cur:Nat)/\OwnI st.mu (st.tm 5) (acc.map fun k:Nat=>(k:Int))) (N+1) ?_ ?_
 .refine ⟨s,[],by unfold Mo.path;rw[hl],by simp,by simp,hs,by simp,by simp[go_sem],by simp[go_sem],.inl ⟨by simp[go_sem],rfl⟩⟩
 rintro f st ⟨cur,acc,hp,hnd,hlt,hc,hf,e0,e6,ho⟩;have hal:acc.length<=N:=UC N acc hnd hlt;obtain⟨f,rfl⟩:∃ g,f=g+1:=⟨f-1,by omega⟩;have hcon:=qdV (acc.map fun k:Nat=>(k:Int)) cur (by simp;omega);rw[qfF]at hcon;simp only[u4]at hp;simp[go_sem,e0,e6];refine qb.lend hcon ⟨ho.v.rd,.hf _ (HF.sc _),trivial⟩ (FL.sc _) ?_;by_cases hm:cur∈acc
 .rw [if_pos hm]at hp
  simp[go_sem,e0,e6,hm];rw[<-hp];exact ho.v.rd
 .rw [if_neg hm]at hp
  simp[go_sem,e0,e6,hm];refine qF.ownV1 (e:=3) (bt:=8) (z:=0) (l:=acc.map fun k:Nat=>(k:Int)) (by simp[go_sem]) (by simp[go_sem]) (by simp[go_sem]) (by omega) ho.v (by simp;omega) ?_;intro av' mu' ho' _ _ _;have hnx:=UN x hM.loop (by omega) cur (by omega);have hnw:WKs [eMd x.m,aI cur] [eMd x.m,aI cur] := .cons (.hf (yx x.m)) (.cons (.hf (HF.sc _)) .nil);simp[go_sem,e0,e6,ho'.v.one];refine qb.pure hnx hnw ?_;simp[go_sem,e0,e6];refine Keep.loop f (by omega) ⟨x.nx cur,acc++[cur],hp,?_,fun t ht=>?_,hM.nx _ hc,by simp;omega,by simp[go_sem,e0],by simp[go_sem],?_⟩
  .rw [List.nodup_append]
   exact⟨hnd,by simp,fun a ha b hb e=>by rw[qW]at hb;subst hb;exact hm (e ▸ ha)⟩
  .rcases qT.1 ht with h|h
   .exact hlt t h
   .rw [qW]at h;omega
  .rw [zm]
   simpa[go_sem] using ho'
abbrev rB(b:Bool):List AV:=[aB b]
theorem u5(xs:List Bool):zh 1 (xs.map rB):=fun r hr=>by
 obtain⟨n,_,rfl⟩:=qs.1 hr;exact⟨rfl,rfl⟩
theorem Own.rdB{mu:Mu}{av:AV}{xs:List Bool}(h:Own mu 1 av (xs.map rB)):Rd mu av (lB xs):=
 h.rd (u5 xs).ok fun r hr c hc=>by
  obtain⟨n,_,rfl⟩:=qs.1 hr;simp at hc;subst hc;exact HF.sc _
def endL:XE (List Bool)->AEnd
 | .ok l => .ret (lB l)
 | .error e => .pan (errV e)
@[go_sem] theorem endL_ok(l:List Bool):endL (.ok l) = .ret (lB l):=rfl
@[go_sem] theorem endL_err(e:Int):endL (.error e) = .pan (errV e):=rfl
theorem Qt{α β:Type}{g:α->XE β}:∀{l1 l2:List α} {r:List β},mapX g l1 = .ok r->mapX g (l1++l2)=bX (mapX g l2) fun s => .ok (r++s)
 | [],l2,r,h=>by cases h;rw[yP];cases mapX g l2<;>rfl
 |a :: l1,l2,r,h=>by
  rw[mapX]at h;obtain⟨b,h1,h2⟩:=yy h;obtain⟨r',h3,h4⟩:=yy h2;cases h4;rw[yB,mapX,h1,qO,Qt h3];cases mapX g l2<;>rfl
theorem ph(x:Mo)(ss:List Nat)(hl:ss.length<=1000000)(p:Pl)(n:Nd)(ih:∀ s,s∈ss->Ev3 x ⟨s,p.env⟩ n) :
  qH qd 125 [eMa x,lN ss,ePl p,eNd n] (endL (mapX (fun s=>(den x n).F ⟨s,p.env⟩) ss)):=by
 refine qQ.of_sound ?_;refine qSW call125 func125 rfl {} ?_;have hMf:=zp x;generalize hE:mapX (fun s=>(den x n).F ⟨s,p.env⟩) ss=E;simp[go_sem];refine ql.upK ss.length (fun k st=>∃ acc:List Bool,mapX (fun s=>(den x n).F ⟨s,p.env⟩) (ss.take k) = .ok acc/\acc.length=k/\st.tm 0=eMa x/\st.tm 6 = .ip (cPl p)/\st.tm 7 = .ip (cNd n)/\st.tm 12=lN ss/\st.tm 13=aI ss.length/\st.tm 14=aI k/\Own st.mu 1 (st.tm 9) (acc.map rB)) ?_ ?_
 .exact ⟨[],rfl,rfl,by simp[go_sem],by simp[go_sem],by simp[go_sem],by simp[go_sem],by simp[go_sem],by simp[go_sem],.inl (by simp[go_sem])⟩
 rintro k st hk ⟨acc,ha,hal,e0,e6,e7,e12,e13,e14,ho⟩;by_cases hlt:k<ss.length
 .have w1:qj.wrap ((k:Int)+1)=(k:Int)+1:=qg (by omega) (by omega)
  have hF:=(ih ss[k] (qu hlt)).F;have hw:=wk3 x ⟨ss[k],p.env⟩ n;have hsp:=Qt (l2:=ss.drop k) ha;rw[ud,zj hlt,mapX]at hsp;rw[hE]at hsp;simp[go_sem,e0,e6,e7,e12,e13,e14,hlt];cases ef:(den x n).F ⟨ss[k],p.env⟩ with
  |error e =>
   rw[ef]at hF hsp;subst hsp;refine qb.pans hF hw ?_;simp[go_sem,q9];exact .hf _ (qE _)
  |ok b =>
   rw[ef]at hF;refine qb.pure hF.toP hw ?_;simp[go_sem,e0,e6,e7,e12,e13,e14];refine qF.ownB (e:=4) (sz:=1) (bt:=1) (zv:=aB false) (xs:=acc.map rB) (ys:=[rB b]) (by simp[go_sem]) (by simp[go_sem]) (by simp[go_sem]) rfl rfl (by omega) (by omega) ho (by simp[qG]) (u5 acc) (u5 [b]) (by simp;omega) ?_;intro av' mu' ho' _ _ _;simp[go_sem,e0,e6,e7,e12,e13,e14,w1,Own.one ho'];refine⟨hlt,Keep.mk' ⟨acc++[b],?_,by simp[hal],by simp[go_sem,e0],by simp[go_sem,e6],by simp[go_sem,e7],by simp[go_sem,e12],by simp[go_sem,e13],by simp[go_sem],?_⟩⟩
   .rw [yj hlt,Qt ha,mapX,ef];rfl
   .rw [zm]
    simpa[go_sem] using ho'
 .have hge:k=ss.length:=by omega
  subst hge;rw[zw,hE]at ha;subst ha;simp[go_sem,e0,e6,e7,e12,e13,e14];exact Own.rdB ho
theorem pi(x:List Bool)(y:Bool)(hl:x.length<=1000000000):qi qd 124 [lB x,aB y] (aB (decide (y∈x))):=qdX x y hl
theorem qfG(x:Mo)(N:Nat)(n a b:Nd)(hM:OkMa x N)(hk:n.kids=[a,b])(p:Pl)(hp:OkP x N p)(ih:∀ s,s∈x.path p.st->Ev3 x ⟨s,p.env⟩ a/\Ev3 x ⟨s,p.env⟩ b)(hl:(x.path p.st).length<=1000000) :
  qH qd 127 [eMa x,ePl p,eNd n] (endB (untX (fun s=>(den x a).F ⟨s,p.env⟩) (fun s=>(den x b).F ⟨s,p.env⟩) (x.path p.st) false false)):=by
 refine qQ.of_sound ?_;refine qSW call127 func127 rfl {} ?_;have hMf:=zp x;have hpu:=Wj x N hM p.st hp.st;generalize hE:untX (fun s=>(den x a).F ⟨s,p.env⟩) (fun s=>(den x b).F ⟨s,p.env⟩) (x.path p.st) false false=E;generalize x.path p.st=ss at *
 simp[go_sem];refine qb.pure hpu (.cons (.hf hMf) (.cons (.hf (HF.sc _)) .nil)) ?_;simp[go_sem];refine ql.upK ss.length (fun k st=>∃ d q:Bool,untX (fun s=>(den x a).F ⟨s,p.env⟩) (fun s=>(den x b).F ⟨s,p.env⟩) (ss.drop k) d q=E/\st.tm 0=eMa x/\st.tm 4 = .ip (cPl p)/\st.tm 5 = .ip (cNd n)/\st.tm 7=aB d/\st.tm 8=aB q/\st.tm 17=lN ss/\st.tm 18=aI ss.length/\st.tm 19=aI k) ?_ ?_
 .exact ⟨false,false,hE,by simp[go_sem],by simp[go_sem],by simp[go_sem],by simp[go_sem],by simp[go_sem],by simp[go_sem],by simp[go_sem],by simp[go_sem]⟩
 rintro k st hk' ⟨d,q,hu,e0,e4,e5,e7,e8,e17,e18,e19⟩;by_cases hlt:k<ss.length
 .have w1:qj.wrap ((k:Int)+1)=(k:Int)+1:=qg (by omega) (by omega)
  obtain⟨iha,ihb⟩:=ih ss[k] (qu hlt);have hFa:=iha.F;have hFb:=ihb.F;have hwa:=wk3 x ⟨ss[k],p.env⟩ a;have hwb:=wk3 x ⟨ss[k],p.env⟩ b;rw[zj hlt,untX]at hu;simp[go_sem,e0,e4,e5,e7,e8,e17,e18,e19,hlt,hk];refine qe.seg [0,1,2,3,4,5,7,8,9,10,11,12,6,14,13,15] [(0,0,[]),(1,0,[]),(2,0,[]),(3,0,[]),(4,0,[]),(5,0,[]),(7,0,[]),(8,0,[]),(9,0,[]),(10,0,[]),(11,0,[]),(12,0,[]),(6,1,[8,10,12]),(14,0,[]),(13,1,[]),(15,0,[])] (by kernel_rfl) (by kernel_rfl) (by simp[go_sem]) ?_;simp[go_sem,e0,e4,e5,e7,e8,e17,e18,e19,hk];cases ea:(den x a).F ⟨ss[k],p.env⟩ with
  |error e =>
   rw[ea]at hFa hu;subst hu;refine qb.pans hFa hwa ?_;simp[go_sem,q9];exact .hf _ (qE _)
  |ok u =>
   rw[ea]at hFa hu;rw[qO]at hu;refine qb.pure hFa.toP hwa ?_;simp[go_sem,e0,e4,e5,e7,e8,e17,e18,e19,hk];cases eb:(den x b).F ⟨ss[k],p.env⟩ with
   |error e =>
    rw[eb]at hFb hu;subst hu;refine qb.pans hFb hwb ?_;simp[go_sem,q9];exact .hf _ (qE _)
   |ok v =>
    rw[eb]at hFb hu;rw[qO]at hu;refine qb.pure hFb.toP hwb ?_;cases d<;>cases q<;>cases u<;>cases v<;>simp[go_sem,e0,e4,e5,e7,e8,e17,e18,e19,hk,w1]<;>refine⟨hlt,Keep.mk' ⟨_,_,hu,by simp[go_sem,e0],by simp[go_sem,e4],by simp[go_sem,e5],by simp[go_sem,e7],by simp[go_sem,e8],by simp[go_sem,e17],by simp[go_sem,e18],by simp[go_sem]⟩⟩
 .have hge:k=ss.length:=by omega
  subst hge;rw[zL,untX]at hu;subst hu;simp[go_sem,e0,e4,e5,e7,e8,e17,e18,e19];exact .hf _ (HF.sc _)
theorem vh{n:Nd}(hw:WfN n)(h:n.op=5\/n.op=11\/n.op=12\/n.op=13\/n.op=21\/n.op=34\/n.op=35\/n.op=36\/n.op=37\/n.op=40\/n.op=48\/n.op=49\/n.op=50):∃ a,n.kids=[a]:=by
 have hsh:=hw.shape;have hl:n.kids.length=1:=by
  unfold shp at hsh;rw[if_neg (by omega)]at hsh;split at hsh
  .simpa using congrArg List.length (Option.some.inj hsh).symm
  .rw [if_neg (by omega),if_neg (by omega),if_neg (by omega),if_pos (by omega)]at hsh
   simpa using congrArg List.length (Option.some.inj hsh).symm
 match n.kids,hl with
 | [a],_=>exact⟨a,rfl⟩
theorem yJ{n:Nd}(hw:WfN n)(h:(6<=n.op/\n.op<=10)\/n.op=14\/n.op=15\/n.op=22\/n.op=23\/n.op=32\/n.op=33\/n.op=38\/n.op=39\/(41<=n.op/\n.op<=46)\/n.op=51):∃ a b,n.kids=[a,b]:=by
 have hsh:=hw.shape;have hl:n.kids.length=2:=by
  unfold shp at hsh;rw[if_neg (by omega),if_neg (by omega)]at hsh;split at hsh
  .simpa using congrArg List.length (Option.some.inj hsh).symm
  .split at hsh
   .simpa using congrArg List.length (Option.some.inj hsh).symm
   .split at hsh
    .simpa using congrArg List.length (Option.some.inj hsh).symm
    .rw [if_neg (by omega),if_pos (by omega)]at hsh
     simpa using congrArg List.length (Option.some.inj hsh).symm
 match n.kids,hl with
 | [a,b],_=>exact⟨a,b,rfl⟩
theorem qfH(x:Mo)(N:Nat)(n:Nd)(hw:WfN n)(hM:OkMa x N)(ih:IH x N n)(p:Pl)(hp:OkP x N p)(hq:bd p n) :
  qH qd 62 [eMa x,ePl p,eNd n] (endN ((den x n).N p)):=by
 refine qQ.of_sound ?_;refine qSW call62 func62 rfl {} ?_;have hMf:=zp x;rw[Qm];simp only[opD];unfold opN;by_cases o20:n.op=20
 .rw [if_pos o20]
  simp[go_sem,o20];exact .hf _ (HF.sc _)
 rw[if_neg o20];by_cases o21:n.op=21
 .rw [if_pos o21]
  obtain⟨a,hk⟩:=vh hw (by omega);have ia:=(ih a (by rw[hk];simp) p hp (by omega)).E;have wa:=wk3 x p a;simp[go_sem,o21,hk,kD];refine qe.seg [0,1,2,3,4,5,6,7,8,9] [(0,0,[]),(1,0,[]),(2,0,[]),(3,0,[]),(4,0,[]),(5,0,[]),(6,1,[]),(7,0,[]),(8,0,[]),(9,0,[])] (by kernel_rfl) (by kernel_rfl) (by simp[go_sem]) ?_;simp[go_sem,hk];cases ea:(den x a).E p with
  |error e =>
   rw[ea]at ia;refine qb.pans ia wa ?_;simp[go_sem,q9];exact .hf _ (qE _)
  |ok r =>
   rw[ea]at ia;refine qb.pure ia.toP wa ?_;simp[go_sem,qO];exact .hf _ (HF.sc _)
 rw[if_neg o21];by_cases o22:n.op=22
 .rw [if_pos o22]
  obtain⟨a,b,hk⟩:=yJ hw (by omega);have ia:=(ih a (by rw[hk];simp) p hp (by omega)).N;have ib:=(ih b (by rw[hk];simp) p hp (by omega)).N;have wa:=wk3 x p a;have wb:=wk3 x p b;simp[go_sem,o22,hk,kD];refine qe.seg [0,1,2,3,4,5,7,8,9,10,11,12,6,13,14,15] [(0,0,[]),(1,0,[]),(2,0,[]),(3,0,[]),(4,0,[]),(5,0,[]),(7,0,[]),(8,0,[]),(9,0,[]),(10,0,[]),(11,0,[]),(12,0,[]),(6,1,[8,10,12]),(13,1,[]),(14,0,[]),(15,0,[])] (by kernel_rfl) (by kernel_rfl) (by simp[go_sem]) ?_;simp[go_sem,hk];cases ea:(den x a).N p with
  |error e =>
   rw[ea]at ia;refine qb.pans ia wa ?_;simp[go_sem,q9];exact .hf _ (qE _)
  |ok r =>
   rw[ea]at ia;refine qb.pure ia.toP wa ?_;simp[go_sem,qO,hk];cases eb:(den x b).N p with
   |error e =>
    rw[eb]at ib;refine qb.pans ib wb ?_;simp[go_sem,q9];exact .hf _ (qE _)
   |ok s =>
    rw[eb]at ib;refine qb.pure ib.toP wb ?_;simp[go_sem,qO];exact .hf _ (HF.sc _)
 rw[if_neg o22];by_cases o23:n.op=23
 .rw [if_pos o23]
  obtain⟨a,b,hk⟩:=yJ hw (by omega);have ia:=(ih a (by rw[hk];simp) p hp (by omega)).N;have ib:=(ih b (by rw[hk];simp) p hp (by omega)).N;have wa:=wk3 x p a;have wb:=wk3 x p b;simp[go_sem,o23,hk,kD];refine qe.seg [0,1,2,3,4,5,7,8,9,10,11,12,6,13,14,15] [(0,0,[]),(1,0,[]),(2,0,[]),(3,0,[]),(4,0,[]),(5,0,[]),(7,0,[]),(8,0,[]),(9,0,[]),(10,0,[]),(11,0,[]),(12,0,[]),(6,1,[8,10,12]),(13,1,[]),(14,0,[]),(15,0,[])] (by kernel_rfl) (by kernel_rfl) (by simp[go_sem]) ?_;simp[go_sem,hk];cases ea:(den x a).N p with
  |error e =>
   rw[ea]at ia;refine qb.pans ia wa ?_;simp[go_sem,q9];exact .hf _ (qE _)
  |ok r =>
   rw[ea]at ia;refine qb.pure ia.toP wa ?_;simp[go_sem,qO,hk];cases eb:(den x b).N p with
   |error e =>
    rw[eb]at ib;refine qb.pans ib wb ?_;simp[go_sem,q9];exact .hf _ (qE _)
   |ok s =>
    rw[eb]at ib;refine qb.pure ib.toP wb ?_;simp[go_sem,qO];exact .hf _ (HF.sc _)
 rw[if_neg o23];simp[go_sem,o20,o21,o22,o23];refine qb.pans (ux 43) (wkI 43) ?_;simp[go_sem];exact .hf _ (qE _)
end F4
namespace F5
open Y1 YF E2 E3 EA EO EP EQ ER ET EW F1 F2 F3 F4
theorem clipE(l:List (ByteArray×Int)):qi qd 173 [lPm l] (.lst true (l.map cPm)):=by
 refine qSQ call173 func173 rfl {} ?_;have htk:List.take l.length (l.map cPm)=l.map cPm:=zU (by simp);simp[go_sem,htk];exact⟨⟨_,_,⟨rfl,rfl⟩,fun r hr=>by obtain⟨q,_,rfl⟩:=qs.1 hr;rfl⟩,.hf _ (HF.lst fun r hr c hc=>by obtain⟨q,_,rfl⟩:=qs.1 hr;exact JZ q c hc)⟩
theorem clipI(l:List Int):qi qd 167 [lI l] (lI l):=by
 refine qSQ call167 func167 rfl {} ?_;have htk:List.take l.length (l.map rI)=l.map rI:=zU (by simp);simp[go_sem,htk];exact⟨⟨_,_,⟨rfl,rfl⟩,(uT l).ok⟩,.wk _ true _ (.hf _ (HF.lst fun r hr c hc=>by obtain⟨q,_,rfl⟩:=qs.1 hr;simp at hc;subst hc;exact HF.sc _))⟩
theorem Wk(xs:List (ByteArray×Int)):zh 2 (xs.map cPm):=fun r hr=>by
 obtain⟨n,_,rfl⟩:=qs.1 hr;exact⟨rfl,rfl⟩
abbrev insC(ar:Int)(ts:List Int)(vs:List Bool):List AV:=[.ip [aI ar,lI ts],.ip [lB vs]]
def Qu(ts:List Int)(vs:List Bool):List (List AV):=(ts.zip vs).map fun e=>[aI e.1,aB e.2]
theorem Wl(ar:Int)(ts:List Int)(vs:List Bool)(hl:ts.length=vs.length)(hb:ts.length<=1000000):yY qd 174 (insC ar ts vs) (Qu ts vs):=by
 refine yY.of call174 fun i I Ix hS hX hY mu h0=>?_
 refine qSW call174 func174 rfl {} ?_;have hrl:(Qu ts vs).length=ts.length:=by simp[Qu,hl]
 simp[go_sem];refine ql.upK ts.length (fun k st=>st.tm 0 = .yl i/\st.tm 2 = .ip [lB vs]/\st.tm 7=lI ts/\st.tm 8=aI ts.length/\st.tm 9=aI k/\I k st.mu) ?_ ?_
 .exact ⟨by simp[go_sem],by simp[go_sem],by simp[go_sem],by simp[go_sem],by simp[go_sem],by simpa[go_sem] using h0⟩
 rintro k st hk ⟨e0,e2,e7,e8,e9,hI⟩;by_cases hlt:k<ts.length
 .have w1:qj.wrap ((k:Int)+1)=(k:Int)+1:=qg (by omega) (by omega)
  have hv:k<vs.length:=by omega
  have hget:(Qu ts vs)[k]?=some [aI ts[k],aB vs[k]]:=by
   rw[Qu,zk,List.getElem?_zip_eq_some (z:=(ts[k],vs[k])) |>.2 ⟨qv hlt,qv hv⟩];rfl
  simp[go_sem,e0,e2,e7,e8,e9,hlt,hv];refine qb.yield (hY _ _ _ hget hI) ?_;rintro b mu' (⟨rfl,hI'⟩|⟨rfl,hx'⟩)
  .simp [go_sem,e0,e2,e7,e8,e9,w1]
   exact⟨hlt,Keep.mk' ⟨by simp[go_sem,e0],by simp[go_sem,e2],by simp[go_sem,e7],by simp[go_sem,e8],by simp[go_sem],by simpa[go_sem] using hI'⟩⟩
  .simp [go_sem]
   exact .inr hx'
 .have hge:k=ts.length:=by omega
  subst hge;simp[go_sem,e0,e2,e7,e8,e9];exact .inl (by rw[hrl];exact hI)
def endI(l:XE (List (Int×Bool))):AEnd:=match l with
 | .ok l => .ret (.fn (.func 174) [] (insC 1 (l.map Prod.fst) (l.map Prod.snd)))
 | .error e => .pan (errV e)
theorem Vj(l:List (Int×Bool)):endI (.ok l) = .ret (.fn (.func 174) [] (insC 1 (l.map Prod.fst) (l.map Prod.snd))):=rfl
theorem Wm(e:Int):endI (.error e) = .pan (errV e):=rfl
theorem Wn(x:Mo)(N:Nat)(n a b:Nd)(hM:OkMa x N)(hk:n.kids=[a,b])(ih:IH x N n)(p:Pl)(hp:OkP x N p)(hq:bd p n) :
  qH qd 123 [eMa x,ePl p,eNd n] (endI (y6 [den x a,den x b] n.name p)):=by
 refine qQ.of_sound ?_;refine qSW call123 func123 rfl {} ?_;have ia:=ih a (by rw[hk];simp) p hp (by omega);have ha:=ia.E;have wa:=wk3 x p a;have hMf:=zp x;have ihb:=fun p' h1 h2=>(ih b (by rw[hk];simp) p' h1 h2).F
 generalize hE:y6 [den x a,den x b] n.name p=E;unfold y6 at hE;simp only[kD,vL,List.getD_cons_succ]at hE;simp[go_sem,hk];refine qe.seg [0,1,2,3,4,5,6,7,8] [(0,0,[]),(1,0,[]),(2,0,[]),(3,0,[]),(4,0,[]),(5,0,[]),(6,1,[]),(7,2,[1,3,5]),(8,1,[])] (by kernel_rfl) (by kernel_rfl) (by simp[go_sem]) ?_;simp[go_sem,hk];cases ea:(den x a).E p with
 |error e =>
  rw[ea]at ha hE;subst hE;refine qb.pans ha wa ?_;simp[go_sem,q9,Wm];exact .hf _ (qE _)
 |ok d =>
  rw[ea]at ha hE;rw[qO]at hE;refine qb.pure ha.toP wa ?_;by_cases he:d.ar=1
  case neg =>
   rw[if_neg he]at hE;subst hE;simp[go_sem,hk,he];refine qb.pans (ux 42) (wkI 42) ?_;simp[go_sem,Wm];exact .hf _ (qE _)
  rw[if_pos he]at hE;have hd:(d.ar=1)=True:=eq_true he;have gd:=ia.G _ ea;have ld:=gd.len hM.n0 (OkMa.n20 hM);generalize hg:(fun a=>bX ((den x b).F ⟨p.st,p.env++[(n.name,a)]⟩) fun b=>(Except.ok (a,b):XE (Int×Bool)))=g at hE;simp[go_sem,hk,hd];refine ql.upK d.ts.length (fun k st=>∃(acc:List (Int×Bool)) (av:AV),mapX g (d.ts.take k) = .ok acc/\acc.length=k/\st.tm 0=eMa x/\st.tm 4 = .ip (cPl p)/\st.tm 5 = .ip (cNd n)/\st.tm 7 = .ptr 0 0/\st.tm 8 = .ptr 1 0/\st.tm 24=lI d.ts/\st.tm 25=aI d.ts.length/\st.tm 26=aI k /\
   st.mu[0]?=some (.arr (cRel d))/\st.mu[1]?=some (.arr [av])/\Own st.mu 1 av ((acc.map Prod.snd).map rB)/\qt av≠some 0/\qt av≠some 1) ?_ ?_
  .exact ⟨[],.lst true [],rfl,rfl,by simp[go_sem],by simp[go_sem],by simp[go_sem],by simp[go_sem],by simp[go_sem],by simp[go_sem],by simp[go_sem],by simp[go_sem],by simp[go_sem],by simp[go_sem],.inl rfl,by simp[qt],by simp[qt]⟩
  rintro k st hkk ⟨acc,av,ha',hal,e0,e4,e5,e7,e8,e24,e25,e26,g0,g1,ho,n0,n1⟩;by_cases hlt:k<d.ts.length
  .have w1:qj.wrap ((k:Int)+1)=(k:Int)+1:=qg (by omega) (by omega)
   have hv:=gd.val _ (qu hlt);rw[he,vV]at hv;have hF:=ihb ⟨p.st,p.env++[(n.name,d.ts[k])]⟩ (hp.bind hv) (by simp;omega);have hw:=wk3 x ⟨p.st,p.env++[(n.name,d.ts[k])]⟩ b;have hsp:=Qt (l2:=d.ts.drop k) ha';rw[ud,zj hlt,mapX]at hsp;rw[hE]at hsp;have hgk:g d.ts[k]=bX ((den x b).F ⟨p.st,p.env++[(n.name,d.ts[k])]⟩) fun b => .ok (d.ts[k],b):=by rw[<-hg]
   simp[go_sem,e0,e4,e5,e7,e8,e24,e25,e26,hlt];refine qe.seg [0,1,3,4,5,6,7,2,8,9] [(0,0,[]),(1,0,[]),(3,0,[]),(4,0,[]),(5,0,[]),(6,0,[]),(7,0,[]),(2,1,[4]),(8,1,[]),(9,0,[])] (by kernel_rfl) (by kernel_rfl) (by simp[go_sem]) ?_;simp[go_sem,e0,e4,e5,e7,e8,e24,e25,e26];refine qb.pure (clipE p.env) (.cons (.hf (yH _)) .nil) ?_;simp[go_sem,e0,e4,e5,e7,e8,e24,e25,e26];refine qF.ownB (e:=68) (sz:=2) (bt:=24) (zv := .agg [aS ⟨#[]⟩,aI 0]) (xs:=p.env.map cPm) (ys:=[cPm (n.name,d.ts[k])]) (by simp[go_sem]) (by simp[go_sem]) (by simp[go_sem]) rfl rfl (by omega) (by omega) (.inl rfl) (by simp[qG]) (Wk p.env) (Wk [(n.name,d.ts[k])]) (by simp;omega) ?_;intro ev mu1 hoe hs1 hb1 hl1;have l1:1<st.mu.length:=(qk.1 g1).1;have hrow:p.env.map cPm++[cPm (n.name,d.ts[k])]=(p.env++[(n.name,d.ts[k])]).map cPm:=by rw[zm];rfl
   rw[hrow]at hoe;have hs1':∀ i,i<st.mu.length->mu1[i]?=st.mu[i]?:=fun i hi=>hs1 i hi (by simp[qt])
   simp[go_sem,Own.one hoe];refine qe.fz (FzQ.ownB (d:=11) (sz:=2) (av:=ev) (xs:=(p.env++[(n.name,d.ts[k])]).map cPm) (by simp[go_sem]) hoe (Wk _) (fun r hr c hc=>by obtain⟨q,_,rfl⟩:=qs.1 hr;exact JZ q c hc) fun mu2 full hl2 hs2=>?_);have hs3:∀ i,i<st.mu.length->mu2[i]?=st.mu[i]?:=fun i hi=>(hs2 i (fun e=>by have:=hb1 i e;omega)).trans (hs1' i hi)
   simp[go_sem,e0,e4,e5,e7,e8,e24,e25,e26];refine qe.seg [0,1,2,3,4,5,6,7,8,9,10,11,12,13] [(0,0,[]),(1,0,[]),(2,0,[]),(3,0,[]),(4,0,[]),(5,0,[]),(6,0,[]),(7,0,[]),(8,0,[]),(9,0,[]),(10,1,[0]),(11,0,[]),(12,1,[]),(13,1,[])] (by kernel_rfl) (by kernel_rfl) (by simp[go_sem]) ?_;have h0':=(hs3 0 (by omega)).trans g0;have h1':=(hs3 1 l1).trans g1;have hwa:∀ f,WKs [eMa x,.agg [aI p.st,.lst f ((p.env++[(n.name,d.ts[k])]).map cPm)],eNd b] [eMa x,ePl ⟨p.st,p.env++[(n.name,d.ts[k])]⟩,eNd b]:=fun f =>
    .cons (.hf hMf) (.cons (WK.aggs (.cons (.hf (HF.sc _)) (.cons (WK.lst fun r hr c hc=>by obtain⟨q,_,rfl⟩:=qs.1 hr;exact JZ q c hc) .nil))) (.cons (.hf (qI b)) .nil))
   have ho2:Own mu2 1 av ((acc.map Prod.snd).map rB):=by
    rcases ho with h|⟨bb,h,hc⟩
    .exact .inl h
    .exact .inr ⟨bb,h,by rw[hs3 bb (qk.1 hc).1];exact hc⟩
   have hwa:WKs [eMa x,.agg [aI p.st,.lst full (p.env.map cPm++[cPm (n.name,d.ts[k])])],.agg (cNd b)] [eMa x,ePl ⟨p.st,p.env++[(n.name,d.ts[k])]⟩,eNd b]:=by rw[hrow];exact hwa full
   simp[go_sem,e0,e4,e5,e7,e8,e24,e25,e26,hk,h1'];cases ef:(den x b).F ⟨p.st,p.env++[(n.name,d.ts[k])]⟩ with
   |error e =>
    rw[ef]at hF hgk;rw[hgk]at hsp;subst hsp;refine qb.pans hF hwa ?_;simp[go_sem,q9,Wm];exact .hf _ (qE _)
   |ok v =>
    rw[ef]at hF hgk;refine qb.pure hF.toP hwa ?_;simp[go_sem,e0,e4,e5,e7,e8,e24,e25,e26,h1'];refine qF.ownB (e:=4) (sz:=1) (bt:=1) (zv:=aB false) (xs:=(acc.map Prod.snd).map rB) (ys:=[rB v]) (by simp[go_sem]) (by simp[go_sem]) (by simp[go_sem]) rfl rfl (by omega) (by omega) ho2 (by simp[qG]) (u5 _) (u5 [v]) (by simp;omega) ?_;intro av' mu' ho' hs' hb' hl';have hml:st.mu.length<=mu2.length:=by
     have:mu2.length=mu1.length:=hl2;omega
    have k0:mu'[0]?=some (.arr (cRel d)):=(hs' 0 (by omega) n0).trans h0';have k1:mu'[1]?=some (.arr [av]):=(hs' 1 (by omega) n1).trans h1';have m0:qt av'≠some 0:=fun e=>by have:=hb' 0 e;omega
    have m1:qt av'≠some 1:=fun e=>by have:=hb' 1 e;omega
    simp[go_sem,e0,e4,e5,e7,e8,e24,e25,e26,k1,Own.one ho',Own.cells ho',w1];refine⟨hlt,Keep.mk' ⟨acc++[(d.ts[k],v)],av',?_,by simp[hal],by simp[go_sem,e0],by simp[go_sem,e4],by simp[go_sem,e5],by simp[go_sem,e7],by simp[go_sem,e8],by simp[go_sem,e24],by simp[go_sem,e25],by simp[go_sem],?_,?_,?_,m0,m1⟩⟩
    .rw [yj hlt,Qt ha',mapX,hgk];rfl
    .simp only[qL];rw[qK (by omega)];exact k0
    .simp only[qL];rw[zb (by omega)]
    .simp only[qL]
     rw[zm,zm];exact Own.set ho' _ m1
  .have hge:k=d.ts.length:=by omega
   subst hge;rw[zw,hE]at ha';subst ha';have hfst:=Wi (g:=fun a=>(den x b).F ⟨p.st,p.env++[(n.name,a)]⟩) (ts:=d.ts) (l:=acc) (by rw[hg];exact hE);have hend:=Vj acc;rw[hfst]at hend;generalize acc.map Prod.snd=vs at *
   simp[go_sem,e0,e4,e5,e7,e8,e24,e25,e26,hend];refine .fn _ _ _ _ _ rfl rfl (fun k x y hx=>by simp at hx) (fun k x y hx hy=>?_)
   match k with
   | 0 =>
    simp at hx hy;subst hx;subst hy;rw[<-he];refine .ptr 0 0 _ _ g0 (by simp) fun k u v hu hv=>?_
    rw[yC]at hu;rw[hu]at hv;cases hv;exact .hf _ (Zs d _ (qS hu))
   | 1=>simp at hx hy;subst hx;subst hy;exact Rd.ip1 g1 (Own.rdB ho)
   |k+2=>simp at hx
theorem RelM.push{mu:Mu}{ar:Int}{l:List Int}(h:RelM mu ar l):RelM (mu++[.dead]) ar l:=by
 obtain⟨av,g0,g1,ho,n0,n1⟩:=h;exact⟨av,by rw[qp (qk.1 g0).1];exact g0,by rw[qp (qk.1 g1).1];exact g1,ho.same fun b hb=>by rw[qp (ho.v.lt hb)],n0,n1⟩
abbrev onL(l:List (Int×Bool)):List Int:=(l.filter fun e=>e.2).map fun e=>e.1
theorem Wo(l:List (Int×Bool)):Qu (l.map Prod.fst) (l.map Prod.snd)=l.map fun e=>[aI e.1,aB e.2]:=by
 rw[Qu,List.zip_map'];simp
theorem qfI(l:List (Int×Bool))(k:Nat)(h:k<l.length):onL (l.take (k+1))=onL (l.take k)++(if l[k].2=true then [l[k].1] else []):=by
 rw[yj h,onL,List.filter_append,zm];cases hb:l[k].2<;>simp[hb]
theorem Wp{ds:List Den}{nm:ByteArray}{p:Pl}{l:List (Int×Bool)}(h:y6 ds nm p = .ok l)(B:Nat)(hB:∀ d,(kD ds 0).E p = .ok d->d.ts.length<=B):l.length<=B:=by
 obtain⟨d,h1,_,h3⟩:=pa h;have:=congrArg List.length h3;rw[yM]at this;rw[this];exact hB d h1
theorem qfJ(x:Mo)(N:Nat)(n a b:Nd)(hM:OkMa x N)(hk:n.kids=[a,b])(ih:IH x N n)(p:Pl)(hp:OkP x N p)(hq:bd p n) :
  qH qd 108 [eMa x,ePl p,eNd n] (endE (bX (y6 [den x a,den x b] n.name p) fun l => .ok ⟨1,(l.filter fun e=>e.2).map fun e=>e.1⟩)):=by
 refine qQ.of_sound ?_;refine qSW call108 func108 rfl {} ?_;have hi:=Wn x N n a b hM hk ih p hp hq;have wx:=wk3 x p n;simp[go_sem];cases hE:y6 [den x a,den x b] n.name p with
 |error e =>
  rw[hE]at hi;refine qb.pans hi wx ?_;simp[go_sem,q9];exact .hf _ (qE _)
 |ok l =>
  rw[hE]at hi;have hl:l.length<=8000:=Wp hE 8000 fun d h=>((ih a (by rw[hk];simp) p hp (by omega)).G d h).len hM.n0 (OkMa.n20 hM)
  have hit:=Wl 1 (l.map Prod.fst) (l.map Prod.snd) (by simp) (by simp;omega);rw[Wo]at hit;rw[Vj]at hi;refine qb.pure hi.toP wx ?_;generalize insC 1 (l.map Prod.fst) (l.map Prod.snd)=C at *
  simp[go_sem,qO];refine j8.keep hit (fun j M=>RelM M 1 (onL (l.take j))) (fun _ _=>False) ?_ ?_ ?_ ?_ ?_ ?_
  .exact ⟨.lst true [],by simp[go_sem],by simp[go_sem],.inl ⟨rfl,rfl⟩,by simp[qt],by simp[qt]⟩
  .exact fun j M h=>RelM.push h
  .intro e M h;exact h
  .rintro j y M hj ⟨av,g0,g1,ho,n0,n1⟩
   rw[zk,vo]at hj;obtain⟨t,ht,rfl⟩:=hj;obtain⟨hjl,hte⟩:=qk.1 ht;have hon:=qfI l j hjl;rw[hte]at hon;refine⟨rfl,?_⟩;cases hb:t.2 with
   |true =>
    rw[if_pos hb]at hon;have hln:(onL (l.take j)).length<=8000:=by
     rw[onL,yM];exact q7 (List.length_filter_le _ _) (by simp;omega)
    simp[go_sem,g1];refine qF.ownV1 (e:=3) (bt:=8) (z:=0) (by simp[go_sem]) (by simp[go_sem]) (by simp[go_sem]) (by omega) ho.v (by omega) ?_;intro av' mu' ho' hs' hl' hb';obtain⟨k1,k2⟩:=RelM.step g0 g1 n0 n1 ho' hs' hl' hb';simp[go_sem,k1,ho'.v.one,ho'.v.cells];refine jP.intro ?_;rw[hon];exact k2
   |false =>
    rw[if_neg (by rw[hb];simp),zx]at hon;simp[go_sem];refine jP.intro ?_;rw[hon];exact⟨av,g0,g1,ho,n0,n1⟩
  .rintro M ⟨av,g0,g1,ho,n0,n1⟩
   rw[yM,zw]at ho;have hset:∀ c,(M.set 0 c)[0]?=some c:=fun c=>zb (qk.1 g0).1
   simp[go_sem,g0,g1,hset,ho.v.one,ho.v.cells];refine OwnV.rdRel (ho.v.same fun b hb=>?_);rw[qK (fun e=>n0 (by rw[e];exact hb))]
  .intro e M h;exact h.elim
end F5
namespace F6
open Y1 Y10 P1 YF E3 EA EO EP EQ ER EW F1 F2 F3 F4 F5
theorem backU(l:List (ByteArray×Int)):qi qd 165 [lPm l] (.fn (.func 201) [] [.ip [lPm l]]):=by
 refine qSQ call165 func165 rfl {} ?_;simp[go_sem];exact .hf _ (HF.fn (by simp) (by simp;exact yI (yH _)))
def wL(l:List (ByteArray×Int)):List (List AV):=(qq l.length).map fun k:Nat=>[aI ((l.length-1-k:Nat):Int),.agg (cPm (l.getD (l.length-1-k) (⟨#[]⟩,0)))]
theorem qfK(l:List (ByteArray×Int))(hl:l.length<=1000000000):yY qd 201 [.ip [lPm l]] (wL l):=by
 refine yY.of call201 fun i I Ix hS hX hY mu h0=>?_
 refine qSW call201 func201 rfl {} ?_;have hrl:(wL l).length=l.length:=by simp[wL]
 have w0:qj.wrap ((l.length:Int)-1)=(l.length:Int)-1:=qg (by omega) (by omega);simp[go_sem,w0];refine ql.upK l.length (fun k st=>st.tm 0 = .yl i/\st.tm 1 = .ip [lPm l]/\st.tm 3=aI ((l.length:Int)-1-k)/\I k st.mu) ?_ ?_
 .exact ⟨by simp[go_sem],by simp[go_sem],by simp[go_sem],by simpa[go_sem] using h0⟩
 rintro k st hk ⟨e0,e1,e3,hI⟩;by_cases hlt:k<l.length
 .have hj:((l.length:Int)-1-k)=((l.length-1-k:Nat):Int):=by omega
  have hjl:l.length-1-k<l.length:=by omega
  have hw:qj.wrap (((l.length-1-k:Nat):Int)-1)=(l.length:Int)-1-((k+1:Nat):Int):=by rw[qg (by omega) (by omega)];omega
  have hge0:(0:Int)<=((l.length-1-k:Nat):Int):=by omega
  have hget:(wL l)[k]?=some [aI ((l.length-1-k:Nat):Int),.agg (cPm l[l.length-1-k])]:=by
   rw[wL,zk,ue hlt];simp[zz,qv hjl]
  rw[hj]at e3;generalize l.length-1-k=j at *
  simp[go_sem,e0,e1,e3,hge0,hjl];refine qb.yield (hY _ _ _ hget hI) ?_;rintro b mu' (⟨rfl,hI'⟩|⟨rfl,hx'⟩)
  .simp [go_sem,e0,e1,e3,hw]
   exact⟨hlt,Keep.mk' ⟨by simp[go_sem,e0],by simp[go_sem,e1],by simp[go_sem],by simpa[go_sem] using hI'⟩⟩
  .simp [go_sem]
   exact .inr hx'
 .have hge:k=l.length:=by omega
  subst hge;rw[show (l.length:Int)-1-l.length = -1 by omega]at e3;simp[go_sem,e0,e1,e3];exact .inl (by rw[hrl];exact hI)
theorem Wq(nm:ByteArray):∀(l:List (ByteArray×Int)) (r:Option Int),(∀ e,e∈l->e.1≠nm)->l.foldl (fun r e=>if e.1=nm then some e.2 else r) r=r
 | [],r,_=>rfl
 |e :: l,r,h=>by rw[List.foldl_cons,if_neg (h e (by simp))];exact Wq nm l r fun x hx=>h x (by simp[hx])
theorem qfL{nm:ByteArray}{env:List (ByteArray×Int)}(h:∀ e,e∈env->e.1≠nm):Ql nm env=none:=Wq nm env none h
theorem qfM{nm:ByteArray}{env:List (ByteArray×Int)}{j:Nat}(hj:j<env.length)(he:env[j].1=nm)(h:∀ e,e∈env.drop (j+1)->e.1≠nm):Ql nm env=some env[j].2:=by
 have e:env=env.take j++env[j] :: env.drop (j+1):=by rw[<-zj hj,ud]
 unfold Ql
 conv=>lhs;rw[e]
 rw[Z1,List.foldl_cons,if_pos he];exact Wq nm _ _ h
theorem qfN(fs:List Fld)(rs:List Rl)(nm:ByteArray)(k:Nat)(h:k<fs.length)(h':k<rs.length):vg (fs.take (k+1)) (rs.take (k+1)) nm=vg (fs.take k) (rs.take k) nm++(if fs[k].name=nm then [rs[k]] else []):=by
 unfold vg;rw[yj h,yj h',List.zip_append (by simp;omega),List.filterMap_append];congr 1;by_cases e:fs[k].name=nm<;>simp[e]
theorem pj(fs:List Fld)(rs:List Rl)(nm:ByteArray):(vg fs rs nm).length<=fs.length:=by
 unfold vg;refine q7 (List.length_filterMap_le _ _) ?_;rw[List.length_zip];omega
def wO(x:Mo)(nm:ByteArray)(i:Nat)(s:ByteArray×Bool):List Rl:=(if s.1=nm then [⟨1,zi x i⟩] else [])++((if s.2=true/\s.1++je=nm then [⟨1,(zi x i).take 1⟩] else [])++(if s.2=true/\s.1++vB=nm then [⟨2,vf x i⟩] else []))
theorem pk(x:Mo)(nm:ByteArray):∀(a b:List (ByteArray×Bool)) (i:Nat),yb x nm i (a++b)=yb x nm i a++yb x nm (i+a.length) b
 | [],b,i=>rfl
 |s :: a,b,i=>by
  rw[yB,yb,yb,pk x nm a b (i+1),z6,show i+1+a.length=i+(a.length+1) by omega];simp only[zB]
theorem pm(x:Mo)(nm:ByteArray)(so:List (ByteArray×Bool))(k:Nat)(h:k<so.length):yb x nm 0 (so.take (k+1))=yb x nm 0 (so.take k)++wO x nm k so[k]:=by
 rw[yj h,pk,jZ,Nat.min_eq_left (by omega),yC,yb];simp[wO,yb]
theorem qfO(x:Mo)(nm:ByteArray)(i:Nat)(s:ByteArray×Bool):(wO x nm i s).length<=3:=by
 unfold wO;simp only[zt];split<;>split<;>split<;>simp
theorem pn(x:Mo)(nm:ByteArray)(so:List (ByteArray×Bool)):∀ k,k<=so.length->(yb x nm 0 (so.take k)).length<=3*k
 | 0,_=>by simp[yb]
 |k+1,h=>by
  rw[pm x nm so k (by omega),zt];have:=pn x nm so k (by omega);have:=qfO x nm k so[k];omega
theorem qfP(sc:Sc)(i:Nat):tupR sc [(i:Int)] 0=(qq (gI sc.atoms i).toNat).map fun k:Nat=>sumI (sc.atoms.take i)+k:=by
 rw[tupR];simp only[tupR,Int.zero_mul,Int.zero_add,show (i:Int).toNat=i by omega];exact List.map_eq_flatMap.symm
theorem FzQ.above{Q:qZ->St->Prop}{i d L:Nat}{x:AV}{st:St}(hr:Rd (cutM (fun j=>decide (L<=j)) st.mu 0) (st.tm d) x)(k:Q (.exit i) (st.put (some d) x (cutM (fun j=>!decide (L<=j)) st.mu 0))):FzQ Q (.exit i) st:=by
 refine⟨_,⟨fun j=>decide (L<=j),rfl,fun j=>?_⟩,trivial,k⟩;simp only[St.put];split
 .rename_i h;subst h;exact .rd _ _ hr
 .exact .same _
def bR:Nat->Int
 | 0=>0
 |k+1=>bR k*20+20
theorem bR_ok:∀ k,k<=3->bR k<=100000
 | 0,_=>by decide
 | 1,_=>by decide
 | 2,_=>by decide
 | 3,_=>by decide
def vE(n:Int)(tuple:List Int):Int:=tuple.foldl (fun o t=>o*n+t) 0
theorem qfQ(n:Int)(tuple:List Int)(k:Nat)(h:k<tuple.length):vE n (tuple.take (k+1))=vE n (tuple.take k)*n+tuple[k]:=by
 rw[List.take_add_one,qv h,vE,vE,Z1];rfl
theorem rankU(sc:Sc)(g:GSc sc)(tuple:List Int)(ht:tuple.length<=3)(hd:∀ d,d∈tuple->0<=d/\d<sumI sc.atoms):qi qd 168 [eSc sc,lI tuple] (aI (vE (sumI sc.atoms) tuple)):=by
 refine qSQ call168 func168 rfl {} ?_;simp[go_sem,show ¬(3:Int)<tuple.length by omega];refine qb.pure (UT sc g) (.cons (.hf (yZ sc)) .nil) ?_;have hsum:=g.sum sc.atoms.length;rw[zw]at hsum;generalize sumI sc.atoms=n at *
 simp[go_sem];refine ql.up tuple.length (fun k st=>st.tm 5=aI n/\st.tm 14=lI tuple/\st.tm 15=aI tuple.length/\st.tm 6=aI (vE n (tuple.take k))/\st.tm 16=aI k/\st.mu=[]/\0<=vE n (tuple.take k)/\vE n (tuple.take k)<=bR k) ?_ ?_
 .simp [go_sem,vE,bR]
 rintro k st hk ⟨e5,e14,e15,e6,e16,hm,hr0,hr1⟩;by_cases hlt:k<tuple.length
 .have hdk:=hd _ (qu hlt)
  have hs:=qfQ n tuple k hlt;have hb:=bR_ok k (by omega);have hbs:bR (k+1)=bR k*20+20:=rfl;generalize hre:vE n (tuple.take k)=r at *
  have m0:0<=r*n:=Int.mul_nonneg hr0 (by omega);have m1:r*n<=bR k*20:=jp hr1 (by omega) (by omega) (by omega);have hw:qj.wrap (n-1)=n-1:=qg (by omega) (by omega);simp[go_sem,e5,e14,e15,e6,e16,hm,hlt,hw];refine qb.pure (U7 tuple[k] 0 (n-1)) (.cons (.hf (HF.sc _)) (.cons (.hf (HF.sc _)) (.cons (.hf (HF.sc _)) .nil))) ?_;simp[go_sem,e5,e14,e15,e6,e16,hm,hlt,hdk.1,show tuple[k]<=n-1 by omega];rw[hs,qg (n:=r*n) (by omega) (by omega),qg (n:=r*n+tuple[k]) (by omega) (by omega),qg (n:=(k:Int)+1) (by omega) (by omega)];exact⟨rfl,rfl,by omega,by omega⟩
 .have hge:k=tuple.length:=by omega
  subst hge;simp[go_sem,e5,e14,e15,e6,e16,hm];exact .hf _ (HF.sc _)
theorem BrS.join{P:Program}{pl:Pol}{b:Bool}{st:St}{A B:Code}{K:St->Prop}{Q:qZ->St->Prop}(J:St->Prop)(h1:b=true->awp P pl A (seqQ (fun st=>Keep J .mk st) Q) st)(h2:b=false->awp P pl B (seqQ (fun st=>Keep J .mk st) Q) st)(hK:∀ st,J st->K st) :
  BrS b (awp P pl A (seqQ K Q)) (awp P pl B (seqQ K Q)) st:=by
 refine BrS.intro (fun h=>awp.mono A (h1 h) fun e st he=>?_) (fun h=>awp.mono B (h2 h) fun e st he=>?_)
 all_goals cases e with
  |normal=>exact hK st he
  |exit i=>exact he
  |ret=>exact he
  |pan v=>exact he
theorem BrS.at{b:Bool}{p q:St->Prop}{st:St}(J:St->Prop)(h:J st)(k:∀ st,J st->BrS b p q st):BrS b p q st:=k st h
def FndM(mu:Mu)(s:AV)(F:List Rl):Prop:=mu[0]?=some (.arr [aI 0,.lst true []])/\Own mu 2 s (F.map cRel)/\qt s≠some 0
theorem WK.intsF{full:Bool}(l:List Int):WK (.lst full (l.map rI)) (lI l):=WK.lst fun r hr c hc=>by
 obtain⟨n,_,rfl⟩:=qs.1 hr;simp at hc;subst hc;exact HF.sc _
structure SInv (x:Mo) (nm sn:ByteArray) (sb:Bool) (k c d:Nat) (F:List Rl) (st:St):Prop where
 e0:st.tm 0=eMa x
 e5:st.tm 5 = .ip [aS nm]
 e6:st.tm 6 = .ptr 0 0
 e13:st.tm 13 = .ptr c 0
 e14:st.tm 14 = .ptr d 0
 e65:st.tm 65=lSo x.ts.sorts
 e66:st.tm 66=aI x.ts.sorts.length
 e67:st.tm 67=aI k
 g0:st.mu[0]?=some (.arr [aI 0,.lst true []])
 gc:st.mu[c]?=some (.arr [aS sn,aB sb])
 gd:st.mu[d]?=some (.arr [aI 1,lI (zi x k)])
 ho:Own st.mu 2 (st.tm 9) (F.map cRel)
 n0:qt (st.tm 9)≠some 0
 nc:qt (st.tm 9)≠some c
 nd:qt (st.tm 9)≠some d
structure SNew (c d:Nat) (F:List Rl) (av:AV) (mu:Mu):Prop where
 g0:mu[0]?=some (.arr [aI 0,.lst true []])
 ho:Own mu 2 av (F.map cRel)
 n0:qt av≠some 0
 nc:qt av≠some c
 nd:qt av≠some d
theorem SInv.app{t t':TypeId}(hs:qJ qd t=some (42,2,32))(hs':(qJ qd t').isSome=true){x:Mo}{nm sn:ByteArray}{sb:Bool}{k c d:Nat}{F:List Rl}{st:St}(h:SInv x nm sn sb k c d F st)(hl:F.length<=100)(r:Rl){xv:AV}(hx:qG st.mu xv=some [cRel r]){K:AV->Mu->Prop}
  (kk:∀ av mu',SNew c d (F++[r]) av mu'->mu'[c]?=some (.arr [aS sn,aB sb])->mu'[d]?=some (.arr [aI 1,lI (zi x k)])->K av mu'):qF qd st.mu #[t,t'] (st.tm 9) xv K:=by
 have lc:=(qk.1 h.gc).1;have ld:=(qk.1 h.gd).1;have l0:=(qk.1 h.g0).1;refine qF.ownB (e:=42) (sz:=2) (bt:=32) (zv := .agg [aI 0,.lst true []]) (xs:=F.map cRel) (ys:=[cRel r]) hs hs' (by simp[go_sem]) rfl rfl (by omega) (by omega) h.ho hx (uq _) (uq [r]) (by simp;omega) ?_;intro av' mu' ho' hs' hb' hl';refine kk av' mu' ⟨by rw[hs' 0 l0 h.n0];exact h.g0,by rw[zm];exact ho',fun e=>by have:=hb' 0 e;omega,fun e=>by have:=hb' c e;omega,fun e=>by have:=hb' d e;omega⟩ (by rw[hs' c lc h.nc];exact h.gc) (by rw[hs' d ld h.nd];exact h.gd)
theorem appR{t t':TypeId}(hs:qJ qd t=some (42,2,32))(hs':(qJ qd t').isSome=true){mu:Mu}{s:AV}{F:List Rl}(h:FndM mu s F)(hl:F.length<=100)(r:Rl){xv:AV}(hx:qG mu xv=some [cRel r]){K:AV->Mu->Prop}
  (kk:∀ av mu',FndM mu' av (F++[r])->K av mu'):qF qd mu #[t,t'] s xv K:=by
 have l0:=(qk.1 h.1).1;refine qF.ownB (e:=42) (sz:=2) (bt:=32) (zv := .agg [aI 0,.lst true []]) (xs:=F.map cRel) (ys:=[cRel r]) hs hs' (by simp[go_sem]) rfl rfl (by omega) (by omega) h.2.1 hx (uq _) (uq [r]) (by simp;omega) ?_;intro av' mu' ho' hs' hb' hl';exact kk av' mu' ⟨by rw[hs' 0 l0 h.2.2];exact h.1,by rw[zm];exact ho',fun e=>by have:=hb' 0 e;omega⟩
theorem qfR(x:Mo)(N:Nat)(hM:OkMa x N)(nm:ByteArray)(p:Pl)(hp:OkP x N p)(hq:p.env.length<=1000000) :
  qH qd 109 [eMa x,ePl p,aS nm] (endE (vU x p nm)):=by
 refine qQ.of_sound ?_;refine qSW call109 func109 rfl {} ?_;have hMf:=zp x;generalize hE:vU x p nm=E;unfold vU at hE;simp[go_sem];refine qb.pure (backU p.env) (.cons (.hf (yH _)) .nil) ?_;simp[go_sem];refine j8.keep (qfK p.env (by omega)) (fun k M=>(∃ rest,M = .arr [aI 0,.lst true []] :: rest)/\∀ e,e∈p.env.drop (p.env.length-k)->e.1≠nm) (fun e M=>e = .ret/\∃ a rest,Ql nm p.env=some a/\M = .arr [aI 1,.lst true [[aI a]]] :: rest) ?_ ?_ ?_ ?_ ?_ ?_
 .exact ⟨⟨_,by simp only[qL,yB];rfl⟩,by simp⟩
 .rintro k M ⟨⟨rest,rfl⟩,h⟩
  exact⟨⟨rest++[.dead],rfl⟩,h⟩
 .rintro e M ⟨h1,a,rest,h2,rfl⟩
  exact⟨h1,a,rest++[.dead],h2,rfl⟩
 .rintro k y M hk ⟨⟨rest,rfl⟩,h⟩
  have hkl:k<p.env.length:=by
   have:=(qk.1 hk).1;simpa[wL] using this
  have hjl:p.env.length-1-k<p.env.length:=by omega
  rw[wL,zk,ue hkl]at hk;simp only[q8,qn,zz,qv hjl,Option.getD_some]at hk;subst hk;have hj1:p.env.length-k=p.env.length-1-k+1:=by omega
  rw[hj1]at h;have hhit:=fun he=>qfM hjl he h
  have hd:p.env.drop (p.env.length-(k+1))=p.env[p.env.length-1-k] :: p.env.drop (p.env.length-1-k+1):=by
   rw[show p.env.length-(k+1)=p.env.length-1-k by omega,zj hjl]
  generalize hb:p.env[p.env.length-1-k]=b at *
  refine⟨rfl,?_⟩;by_cases he:b.1=nm
  .simp [go_sem,yk,he]
   exact jP.intro ⟨rfl,b.2,_,hhit he,rfl⟩
  .simp [go_sem,yk,he]
   refine jP.intro ⟨⟨_,rfl⟩,fun e hm=>?_⟩;rw[hd]at hm;rcases qB.1 hm with rfl|hm
   .exact he
   .exact h e hm
 .rintro M ⟨⟨rest,rfl⟩,h⟩
  have hno:Ql nm p.env=none:=qfL fun e hm=>h e (by simpa[wL] using hm)
  rw[hno]at hE;simp only at hE;obtain⟨hrl,hrg⟩:=hM.st p.st hp.st;have hstl:p.st<x.m.states.length:=by have:=hM.len;have:=hp.st;omega
  have hrs:x.m.states.getD p.st []=x.m.states[p.st]:=by rw[zz,qv hstl];rfl
  have hnf:=hM.ts.nf;have hns:=hM.ts.ns;have hffl:=pj x.ts.fields (x.m.states.getD p.st []) nm;rw[hrs]at hE hrl hrg hffl;generalize hRS:x.m.states[p.st]=rs at *
  simp[go_sem];refine ql.upK x.ts.fields.length (fun k st=>st.tm 0=eMa x/\st.tm 4 = .ip (cPl p)/\st.tm 5 = .ip [aS nm]/\st.tm 6 = .ptr 0 0/\st.tm 34=lFl x.ts.fields/\st.tm 35=aI x.ts.fields.length/\st.tm 36=aI k/\FndM st.mu (st.tm 9) (vg (x.ts.fields.take k) (rs.take k) nm)) ?_ ?_
  .exact ⟨by simp[go_sem],by simp[go_sem],by simp[go_sem],by simp[go_sem],by simp[go_sem],by simp[go_sem],by simp[go_sem],by simp[go_sem],.inl (by simp[go_sem,vg]),by simp[go_sem,qt]⟩
  rintro k st hk ⟨e0,e4,e5,e6,e34,e35,e36,g0,ho,hn⟩;by_cases hlt:k<x.ts.fields.length
  .have hrk:k<rs.length:=by omega
   have w1:qj.wrap ((k:Int)+1)=(k:Int)+1:=qg (by omega) (by omega);have hs:=qfN x.ts.fields rs nm k hlt hrk;have hfl:(vg (x.ts.fields.take k) (rs.take k) nm).length<=6:=q7 (pj _ _ _) (by simp;omega);have l0:0<st.mu.length:=(qk.1 g0).1;by_cases he:x.ts.fields[k].name=nm
   .rw [if_pos he]at hs
    simp[go_sem,yk,e0,e4,e5,e6,e34,e35,e36,hlt,he];refine qe.intro (by kernel_rfl) ?_;simp[go_sem,yk,e0,e4,e5,e6,e34,e35,e36,hlt,he,hstl,hRS,hrk];refine qF.ownB (e:=42) (sz:=2) (bt:=32) (zv := .agg [aI 0,.lst true []]) (xs:=(vg (x.ts.fields.take k) (rs.take k) nm).map cRel) (ys:=[cRel rs[k]]) (by simp[go_sem]) (by simp[go_sem]) (by simp[go_sem]) rfl rfl (by omega) (by omega) (Own.push ho _) (by simp[qG]) (uq _) (uq [rs[k]]) (by simp;omega) ?_;intro av' mu' ho' hs' hb' hl';have k0:mu'[0]?=some (.arr [aI 0,.lst true []]):=by
     rw[hs' 0 (by simp) hn,qp l0];exact g0
    have m0:qt av'≠some 0:=fun e=>by have:=hb' 0 e;simp at this
    simp[go_sem,yk,e0,e4,e5,e6,e34,e35,e36,hlt,he,w1,Own.one ho'];refine Keep.mk' ⟨by simp[go_sem,e0],by simp[go_sem,e4],by simp[go_sem,e5],by simp[go_sem,e6],by simp[go_sem,e34],by simp[go_sem,e35],by simp[go_sem],by simpa[go_sem] using k0,?_,by simpa[go_sem] using m0⟩;rw[hs,zm];simpa[go_sem] using ho'
   .rw [if_neg he,zx]at hs
    simp[go_sem,yk,e0,e4,e5,e6,e34,e35,e36,hlt,he,w1];refine Keep.mk' ⟨by simp[go_sem,e0],by simp[go_sem,e4],by simp[go_sem,e5],by simp[go_sem,e6],by simp[go_sem,e34],by simp[go_sem,e35],by simp[go_sem],?_,?_,by simpa[go_sem] using hn⟩
    .simp only[qL];rw[qp l0];exact g0
    .rw [hs];simpa[go_sem] using Own.push ho _
  .have hge:k=x.ts.fields.length:=by omega
   rw[zU (by omega),zU (by omega)]at ho;generalize vg x.ts.fields rs nm=F at *
   simp[go_sem,yk,e0,e4,e5,e6,e34,e35,e36,hge];refine ql.upF x.ts.sorts.length (fun k=>Keep (fun st=>st.tm 0=eMa x/\st.tm 5 = .ip [aS nm]/\st.tm 6 = .ptr 0 0/\st.tm 65=lSo x.ts.sorts/\st.tm 66=aI x.ts.sorts.length/\st.tm 67=aI k/\FndM st.mu (st.tm 9) (F++yb x nm 0 (x.ts.sorts.take k))) .mk) ?_ ?_
   .exact Keep.mk' ⟨by simp[go_sem,e0],by simp[go_sem,e5],by simp[go_sem,e6],by simp[go_sem],by simp[go_sem],by simp[go_sem],by simpa[go_sem] using g0,by simpa[go_sem,yb] using ho,by simpa[go_sem] using hn⟩
   rintro k st hk ⟨e0,e5,e6,e65,e66,e67,g0,ho,hn⟩;have hfs:=pn x nm x.ts.sorts k hk;by_cases hlt:k<x.ts.sorts.length
   .have w1:qj.wrap ((k:Int)+1)=(k:Int)+1:=qg (by omega) (by omega)
    have hs:=pm x nm x.ts.sorts k hlt;have hsz:=hM.ts.sl _ (qu hlt);have hka:k<x.m.sc.atoms.length:=by have:=hM.al;omega
    have hfull:=fullU x.m.sc hM.gsc hM.pos [(k:Int)] (fun s hs=>by rw[qW]at hs;omega) (by simp) (by simp);rw[qfP]at hfull;have hat:zi x k=(qq (gI x.m.sc.atoms k).toNat).map fun j:Nat=>sumI (x.m.sc.atoms.take k)+j:=rfl
    rw[<-hat]at hfull;have hfw:WKs [eSc x.m.sc,.lst true [rI k]] [eSc x.m.sc,lI [(k:Int)]] := .cons (.hf (yZ _)) (.cons (WK.intsF [(k:Int)]) .nil);generalize hso:x.ts.sorts[k]=so at *
    obtain⟨sn,sb⟩:=so;have hs1:sn.size<=9223372036854775801:=by simp at hsz;omega
    have hs2:sn.size<=9223372036854775802:=by simp at hsz;omega
    generalize hF:F++yb x nm 0 (x.ts.sorts.take k)=F0 at *
    have hfin:F++yb x nm 0 (x.ts.sorts.take (k+1))=F0++wO x nm k (sn,sb):=by rw[hs,<-hF,zB]
    have hF0:F0.length<=18:=by rw[<-hF,zt];omega
    have l0:0<st.mu.length:=(qk.1 g0).1;simp[go_sem,yk,e0,e5,e6,e65,e66,e67,hlt,hso];refine qb.pure hfull hfw ?_;simp[go_sem,yk,e0,e5,e6,e65,e66,e67,hlt,hso];generalize hL:st.mu.length=L at *
    have hlt9:∀ b,qt (st.tm 9)=some b->b<L:=fun b hb=>by have:=Own.lt ho hb;omega
    have hpush:∀ c,Own (st.mu++c) 2 (st.tm 9) (F0.map cRel):=fun c=>Own.push ho c
    have g0':st.mu[0]'(qk.1 g0).1 = .arr [aI 0,.lst true []]:=(qk.1 g0).2;have hk0:∀ c:List Cell,(st.mu++c)[0]?=some (.arr [aI 0,.lst true []]):=fun c=>by rw[qp (by omega)];exact g0
    have hL0:∀ A B:Cell,(st.mu++[A,B])[L]?=some A:=fun A B=>by rw[qV (by omega),hL];simp
    have hL1:∀ A B:Cell,(st.mu++[A,B])[L+1]?=some B:=fun A B=>by rw[qV (by omega),hL];simp
    refine BrS.at (SInv x nm sn sb k L (L+1) F0) ⟨by simp[go_sem,e0],by simp[go_sem,e5],by simp[go_sem,e6],by simp[go_sem],by simp[go_sem],by simp[go_sem,e65],by simp[go_sem,e66],by simp[go_sem,e67],by simp[go_sem,List.getElem_append_left,hL,l0,g0'],by simp[go_sem,hL0],by simp[go_sem,hL1],by simp[go_sem,hpush],by simp[go_sem,hn],fun e=>?_,fun e=>?_⟩ fun st0 h0=>?_
    .have:=hlt9 L (by simpa[go_sem] using e);omega
    .have:=hlt9 (L+1) (by simpa[go_sem] using e);omega
    refine BrS.join (SInv x nm sn sb k L (L+1) (F0++if sn=nm then [⟨1,zi x k⟩] else [])) ?_ ?_ ?_
    .intro hd
     have hd:=of_decide_eq_true hd;rw[if_pos hd];simp[go_sem,h0.e14,h0.gd];refine h0.app (by simp[go_sem]) (by simp[go_sem]) (by omega) ⟨1,zi x k⟩ (by simp[qG]) fun av mu' hnw hc' hd'=>?_
     simp[go_sem,Own.one hnw.ho];refine Keep.mk' ?_;exact⟨by simp[go_sem,h0.e0],by simp[go_sem,h0.e5],by simp[go_sem,h0.e6],by simp[go_sem,h0.e13],by simp[go_sem,h0.e14],by simp[go_sem,h0.e65],by simp[go_sem,h0.e66],by simp[go_sem,h0.e67],hnw.g0,hc',hd',hnw.ho,hnw.n0,hnw.nc,hnw.nd⟩
    .intro hd
     have hd:=of_decide_eq_false hd;rw[if_neg hd,zx];simp[go_sem];exact Keep.mk' h0
    intro st1 h1;have hF1:(F0++if sn=nm then [(⟨1,zi x k⟩:Rl)] else []).length<=19:=by rw[zt];split<;>simp only[z6,List.length_nil]<;>omega
    cases sb with
    |false =>
     have hfk:F0++wO x nm k (sn,false)=F0++if sn=nm then [⟨1,zi x k⟩] else []:=by simp[wO]
     rw[<-hfk,<-hfin]at h1;simp[go_sem,yk,h1.e0,h1.e5,h1.e6,h1.e13,h1.e14,h1.e65,h1.e66,h1.e67,h1.gc,h1.gd,w1,hlt];exact Keep.mk' ⟨by simp[go_sem,h1.e0],by simp[go_sem,h1.e5],by simp[go_sem,h1.e6],by simp[go_sem,h1.e65],by simp[go_sem,h1.e66],by simp[go_sem],by simpa[go_sem] using h1.g0,by simpa[go_sem] using h1.ho,by simpa[go_sem] using h1.n0⟩
    |true =>
    generalize hF1':(F0++if sn=nm then [⟨1,zi x k⟩] else [])=F1 at *
    have hall:(zi x k).length<=100:=by
     obtain⟨u0,u1⟩:=hM.gsc.sum (k+1);obtain⟨v0,v1⟩:=hM.gsc.sum k;rw[Qe _ _ hka]at u1;unfold zi;rw[yM,List.length_range,Qd hka];omega
    simp[go_sem,yk,h1.e0,h1.e5,h1.e6,h1.e13,h1.e14,h1.e65,h1.e66,h1.e67,h1.gc,h1.gd,hs1];refine BrS.at (SInv x nm sn true k L (L+1) F1) ⟨by simp[go_sem,h1.e0],by simp[go_sem,h1.e5],by simp[go_sem,h1.e6],by simp[go_sem,h1.e13],by simp[go_sem,h1.e14],by simp[go_sem,h1.e65],by simp[go_sem,h1.e66],by simp[go_sem,h1.e67],h1.g0,h1.gc,h1.gd,h1.ho,h1.n0,h1.nc,h1.nd⟩ fun st2 h2=>?_
    refine BrS.join (SInv x nm sn true k L (L+1) (F1++if sn++je=nm then [⟨1,(zi x k).take 1⟩] else [])) ?_ ?_ ?_
    .intro hd
     have hd:=of_decide_eq_true hd;have hd:sn++je=nm:=by rw[hd];rfl
     rw[if_pos hd];obtain⟨m,hmi,hm1,hm2⟩:∃ m:Nat,(if ((zi x k).length:Int)<1 then ((zi x k).length:Int) else 1)=m/\m<=(zi x k).length/\(zi x k).take m=(zi x k).take 1:=by
      by_cases hz:(zi x k).length=0
      .exact ⟨0,by rw[if_pos (by omega),hz],by omega,by rw[List.length_eq_zero_iff.1 hz];rfl⟩
      .exact ⟨1,if_neg (by omega),by omega,rfl⟩
     have hcw:WKs [.lst false (((zi x k).map rI).take m)] [lI ((zi x k).take 1)] := .cons (by rw[<-List.map_take,hm2];exact .hf (zM _)) .nil;simp[go_sem,h2.e14,h2.gd,hmi,hm1];refine⟨⟨_,_,⟨rfl,rfl⟩,(uT _).ok⟩,?_⟩;refine qb.pure (clipI ((zi x k).take 1)) hcw ?_;generalize (zi x k).take 1=T1 at *
     simp[go_sem,h2.e14,h2.gd];refine h2.app (by simp[go_sem]) (by simp[go_sem]) (by omega) ⟨1,T1⟩ (by simp[qG]) fun av mu' hnw hc' hd'=>?_
     simp[go_sem,Own.one hnw.ho];refine Keep.mk' ?_;exact⟨by simp[go_sem,h2.e0],by simp[go_sem,h2.e5],by simp[go_sem,h2.e6],by simp[go_sem,h2.e13],by simp[go_sem,h2.e14],by simp[go_sem,h2.e65],by simp[go_sem,h2.e66],by simp[go_sem,h2.e67],hnw.g0,hc',hd',hnw.ho,hnw.n0,hnw.nc,hnw.nd⟩
    .intro hd
     have hd:=of_decide_eq_false hd;have hd:¬sn++je=nm:=fun e=>hd (by rw[<-e];rfl)
     rw[if_neg hd,zx];simp[go_sem];exact Keep.mk' h2
    intro st3 h3;have hF2:(F1++if sn++je=nm then [(⟨1,(zi x k).take 1⟩:Rl)] else []).length<=20:=by rw[zt];split<;>simp only[z6,List.length_nil]<;>omega
    have hfin2:F++yb x nm 0 (x.ts.sorts.take (k+1))=(F1++if sn++je=nm then [⟨1,(zi x k).take 1⟩] else [])++(if sn++vB=nm then [⟨2,vf x k⟩] else []):=by
     rw[hfin,<-hF1'];simp[wO]
    generalize (F1++if sn++je=nm then [⟨1,(zi x k).take 1⟩] else [])=F2 at *
    simp[go_sem,yk,h3.e0,h3.e5,h3.e6,h3.e13,h3.e14,h3.e65,h3.e66,h3.e67,h3.gc,h3.gd,hs2];refine BrS.at (SInv x nm sn true k L (L+1) F2) ⟨by simp[go_sem,h3.e0],by simp[go_sem,h3.e5],by simp[go_sem,h3.e6],by simp[go_sem,h3.e13],by simp[go_sem,h3.e14],by simp[go_sem,h3.e65],by simp[go_sem,h3.e66],by simp[go_sem,h3.e67],h3.g0,h3.gc,h3.gd,h3.ho,h3.n0,h3.nc,h3.nd⟩ fun st4 h4=>?_
    refine BrS.intro ?_ ?_
    .intro hd
     have hd:=of_decide_eq_true hd;have hd:sn++vB=nm:=by rw[hd];rfl
     rw[if_pos hd]at hfin2;have gl:=(qk.1 h4.gd).1;have hA:∀(z:List Cell) (i:Nat),i<st4.mu.length->(st4.mu++z)[i]?=st4.mu[i]?:=fun z i hi=>qp hi
     obtain⟨A,hAe⟩:∃ A,A=st4.mu:=⟨_,rfl⟩;rw[<-hAe]at hA gl;have hAd:∀ z:List Cell,(A++z)[L+1]?=some (.arr [aI 1,lI (zi x k)]):=fun z=>by rw[hA z _ gl,hAe];exact h4.gd
     have hAL:∀(c:Cell) (z:List Cell),(A++c :: z)[A.length]?=some c:=fun c z=>by rw[qV (qr _)];simp
     have hAs:∀(c d:Cell) (z:List Cell),(A++c :: z).set A.length d=A++d :: z:=fun c d z=>by rw[List.set_append_right _ _ (qr _)];simp
     have hT9:∀ b,qt (st4.tm 9)=some b->b<A.length:=fun b hb=>by rw[hAe];exact Own.lt h4.ho hb
     have hget:∀ j,j<(zi x k).length-1->∃ u v:Int,(zi x k)[j]?=some u/\(zi x k)[j+1]?=some v/\(0<=u/\u<x.n)/\(0<=v/\v<x.n)/\(vf x k)[j]?=some (u*x.n+v):=by
      intro j hj;obtain⟨a0,a1,a2⟩:=hM.at0 k hlt;have hml:(zi x k).length=(gI x.m.sc.atoms k).toNat:=by simp[zi]
      refine⟨sumI (x.m.sc.atoms.take k)+j,sumI (x.m.sc.atoms.take k)+((j+1:Nat):Int),?_,?_,⟨by omega,by omega⟩,⟨by omega,by omega⟩,?_⟩
      .rw [zi,zk,ue (by omega)];rfl
      .rw [zi,zk,ue (by omega)];rfl
      .rw [vf,zk,ue (by omega)]
       simp only[q8,qn];congr 1;omega
     have hNl:(vf x k).length=(zi x k).length-1:=by simp[vf,zi]
     generalize hAl:zi x k=al at *
     generalize hNx:vf x k=nx at *
     simp[go_sem,<-hAe];refine ql.upF (al.length-1) (fun j=>Keep (fun st=>∃ av rest,st.mu=A++(.arr [aI 2,av] :: rest)/\OwnI st.mu av (nx.take j)/\(∀ b,qt av=some b->A.length<b)/\st.tm 0=eMa x/\st.tm 5 = .ip [aS nm]/\st.tm 6 = .ptr 0 0/\st.tm 9=st4.tm 9/\st.tm 14 = .ptr (L+1) 0/\st.tm 15 = .ptr A.length 0/\st.tm 16=aI ((j:Int)+1)/\st.tm 65=lSo x.ts.sorts/\st.tm 66=aI x.ts.sorts.length/\st.tm 67=aI k) .mk) ?_ ?_
     .exact Keep.mk' ⟨.lst true [],[],by simp[go_sem],.inl ⟨rfl,by simp⟩,by simp[qt],by simp[go_sem,h4.e0],by simp[go_sem,h4.e5],by simp[go_sem,h4.e6],by simp[go_sem],by simp[go_sem,h4.e14],by simp[go_sem],by simp[go_sem],by simp[go_sem,h4.e65],by simp[go_sem,h4.e66],by simp[go_sem,h4.e67]⟩
     rintro j st5 hj ⟨av,rest,hm5,ho5,hb5,i0,i5,i6,i9,i14,i15,i16,i65,i66,i67⟩;by_cases hjl:j<al.length-1
     .have hc:(j:Int)+1<al.length:=by omega
      obtain⟨u,v,hu,hv,hur,hvr,hnx⟩:=hget j hjl;obtain⟨hu1,hu2⟩:=qk.1 hu;obtain⟨hv1,hv2⟩:=qk.1 hv;obtain⟨hn1,hn2⟩:=qk.1 hnx;have wj:qj.wrap (j:Int)=j:=qg (by omega) (by omega);have wj':qj.wrap ((j:Int)+1+1)=(j:Int)+1+1:=qg (by omega) (by omega);have hrk:=rankU x.m.sc hM.gsc [u,v] (by simp) (fun d hd=>by
       rcases qB.1 hd with rfl|hd
       .exact hur
       .rw [qW]at hd;subst hd;exact hvr)
      have hrv:vE (sumI x.m.sc.atoms) [u,v]=u*x.n+v:=by simp[vE,Mo.n]
      rw[hrv]at hrk;have hrw:WKs [eSc x.m.sc,.lst true [[aI u],[aI v]]] [eSc x.m.sc,lI [u,v]] := .cons (.hf (yZ _)) (.cons (WK.intsF [u,v]) .nil);simp[go_sem,i0,i5,i6,i9,i14,i15,i16,i65,i66,i67,hm5,hAd,hc];refine qe.seg [0,1,2,3,4,5,6,7,8,9,10,11,12,13,14,15,16,17,18,22,19,20,21,23] [(0,0,[]),(1,0,[]),(2,0,[]),(3,0,[]),(4,0,[]),(5,0,[]),(6,0,[]),(7,0,[]),(8,0,[]),(9,0,[]),(10,0,[]),(11,0,[]),(12,0,[]),(13,0,[]),(14,0,[]),(15,0,[]),(16,0,[]),(17,0,[]),(18,0,[]),(22,0,[]),(19,1,[1]),(20,0,[]),(21,1,[]),(23,1,[])] (by kernel_rfl) (by kernel_rfl) (by simp[go_sem]) ?_;simp[go_sem,i0,i5,i6,i9,i14,i15,i16,i65,i66,i67,hm5,hAd,hAL,hc,wj,hu1,hu2,hv1,hv2,show (0:Int)<=(j:Int)+1 by omega];refine qb.pure hrk hrw ?_;simp[go_sem,i0,i5,i6,i9,i14,i15,i16,i65,i66,i67,hm5,hAd,hAL];rw[hm5]at ho5;refine qF.ownV1 (e:=3) (bt:=8) (z:=0) (l:=nx.take j) (by simp[go_sem]) (by simp[go_sem]) (by simp[go_sem]) (by omega) ho5.v (by simp;omega) ?_;intro av' mu' ho' hs' hl' hb';have hAle:A.length<(A++(.arr [aI 2,av] :: rest)).length:=by simp
      have hme:mu'=A++(.arr [aI 2,av] :: mu'.drop (A.length+1)):=by
       apply List.ext_getElem?;intro i;by_cases hi:i<A.length
       .rw [qp hi,hs' i (by omega) (fun e=>by have:=hb5 i e;omega),qp hi]
       .rw [qV (by omega)]
        by_cases hi2:i=A.length
        .subst hi2
         rw[hs' _ hAle (fun e=>by have:=hb5 _ e;omega),qV (qr _)];simp
        .obtain ⟨q,hq⟩:∃ q,i-A.length=q+1:=⟨i-A.length-1,by omega⟩
         rw[hq,jF,List.getElem?_drop];congr 1;omega
      have hb'':∀ b,qt av'=some b->A.length<b:=fun b hb=>by have:=hb' b hb;omega
      rw[hme]at ho' ⊢;generalize mu'.drop (A.length+1)=rest' at *
      simp[go_sem,i0,i5,i6,i9,i14,i15,i16,i65,i66,i67,hAL,hAs,ho'.v.one,ho'.v.cells,wj'];refine⟨hjl,Keep.mk' ⟨av',rest',by simp[go_sem],?_,hb'',by simp[go_sem,i0],by simp[go_sem,i5],by simp[go_sem,i6],by simp[go_sem,i9],by simp[go_sem,i14],by simp[go_sem,i15],by simp[go_sem],by simp[go_sem,i65],by simp[go_sem,i66],by simp[go_sem,i67]⟩⟩;simp only[qL];rw[yj hn1,hn2];refine ho'.same fun b hb=>?_
      have:=hb'' b hb;rw[qV (by omega),qV (by omega)];obtain⟨q,hq⟩:∃ q,b-A.length=q+1:=⟨b-A.length-1,by omega⟩;rw[hq,jF,jF]
     .have hge:j=al.length-1:=by omega
      have hc:¬(j:Int)+1<al.length:=by omega
      rw[zU (by omega)]at ho5;simp[go_sem,i0,i5,i6,i9,i14,i15,i16,i65,i66,i67,hm5,hAd,hc];have hmL:(A++(.arr [aI 2,av] :: rest))[A.length]?=some (.arr [aI 2,av]):=hAL _ _;rw[hm5]at ho5;generalize hMM:A++(.arr [aI 2,av] :: rest)=MM at *
      have hkeep:∀ i,A.length<=i->(cutM (fun j=>decide (A.length<=j)) MM 0)[i]?=MM[i]?:=fun i hi=>by
       rw[uI,yC];cases MM[i]?<;>simp[hi]
      have hlow:∀ i,i<A.length->(cutM (fun j=>!decide (A.length<=j)) MM 0)[i]?=A[i]?:=fun i hi=>by
       rw[uI,yC,<-hMM,qp hi];cases A[i]?<;>simp<;>omega
      have hl0:0<A.length:=by omega
      have hfnd:FndM (cutM (fun j=>!decide (A.length<=j)) MM 0) (st4.tm 9) F2:=by
       refine⟨by rw[hlow 0 hl0,hAe];exact h4.g0,?_,h4.n0⟩;rcases h4.ho with h|⟨b,h,hcc⟩
       .exact .inl h
       .refine .inr ⟨b,h,?_⟩
        rw[hlow b (hT9 b (by rw[h];rfl)),hAe];exact hcc
      refine FzQ.above (d:=15) (L:=A.length) (x := .ip (cRel ⟨2,nx⟩)) ?_ ?_
      .simp only[qL,KM,i15]
       refine .ptr A.length 0 [aI 2,av] _ (by rw[hkeep _ (qr _)];exact hmL) (by simp) fun k u v hu hv=>?_
       match k with
       | 0=>simp at hu hv;subst hu;subst hv;exact .hf _ (HF.sc _)
       | 1 =>
        simp at hu hv;subst hu;subst hv;exact(ho5.v.same fun b hb=>hkeep b (by have:=hb5 b hb;omega)).rd
       |k+2=>simp at hv
      .simp [go_sem,i0,i5,i6,i9,i65,i66,i67]
       refine appR (F:=F2) (by simp[go_sem]) (by simp[go_sem]) hfnd (by omega) ⟨2,nx⟩ (by simp[qG]) fun av2 mu2 hf2=>?_
       rw[<-hfin2]at hf2;obtain⟨z0,z1,z2⟩:=hf2;simp[go_sem,i0,i5,i6,i9,i65,i66,i67,Own.one z1,w1,hlt];exact Keep.mk' ⟨by simp[go_sem,i0],by simp[go_sem,i5],by simp[go_sem,i6],by simp[go_sem,i65],by simp[go_sem,i66],by simp[go_sem],z0,z1,z2⟩
    .intro hd
     have hd:=of_decide_eq_false hd;have hd:¬sn++vB=nm:=fun e=>hd (by rw[<-e];rfl)
     rw[if_neg hd,zx]at hfin2;rw[<-hfin2]at h4;simp[go_sem,h4.e0,h4.e5,h4.e6,h4.e65,h4.e66,h4.e67,w1,hlt];exact Keep.mk' ⟨by simp[go_sem,h4.e0],by simp[go_sem,h4.e5],by simp[go_sem,h4.e6],by simp[go_sem,h4.e65],by simp[go_sem,h4.e66],by simp[go_sem],by simpa[go_sem] using h4.g0,by simpa[go_sem] using h4.ho,by simpa[go_sem] using h4.n0⟩
   .have hge:k=x.ts.sorts.length:=by omega
    subst hge;rw[zw]at ho;generalize F++yb x nm 0 x.ts.sorts=F0 at *
    simp[go_sem,yk,e0,e5,e6,e65,e66,e67];refine FzQ.ownB (d:=9) (sz:=2) (av:=st.tm 9) (xs:=F0.map cRel) (by simp[go_sem]) ho (uq _) (fun r hr c hc=>by obtain⟨q,_,rfl⟩:=qs.1 hr;exact Zs q c hc) fun mu' full hl hs=>?_
    have g0':mu'[0]?=some (.arr [aI 0,.lst true []]):=(hs 0 hn).trans g0;have hset:∀ c,(mu'.set 0 c)[0]?=some c:=fun c=>zb (qk.1 g0').1
    match F0,hE with
    | [],hE =>
     simp only[Zy]at hE;subst hE;simp[go_sem,yk,e0,e5,e6,e65,e66,e67];refine qb.pans (ux 40) (wkI 40) ?_;simp[go_sem];exact .hf _ (qE _)
    | [r],hE =>
     simp only[Zy]at hE;subst hE;simp[go_sem,yk,e0,e5,e6,e65,e66,e67,g0',hset];exact .hf _ (qM r)
    |r :: s :: F1,hE =>
     have hne:¬(F1.length:Int)+1+1=0:=by omega
     have hne1:¬(F1.length:Int)+1+1=1:=by omega
     simp only[Zy]at hE;subst hE;simp[go_sem,yk,e0,e5,e6,e65,e66,e67,hne,hne1];refine qb.pans (ux 44) (wkI 44) ?_;simp[go_sem];exact .hf _ (qE _)
 .rintro e M ⟨rfl,a,rest,h2,rfl⟩
  rw[h2]at hE;simp only at hE;subst hE;simp[go_sem];refine .agg _ _ rfl fun k u v hu hv=>?_
  match k with
  | 0=>simp at hu hv;subst hu;subst hv;exact .hf _ (HF.sc _)
  | 1=>simp at hu hv;subst hu;subst hv;exact .wk _ true _ (.hf _ (HF.lst fun r hr c hc=>by simp at hr;subst hr;simp at hc;subst hc;exact HF.sc _))
  |k+2=>simp at hu
end F6
namespace F7
open Y1 P2 E1 E3 EA EO EP EQ ET F1 F2 F3 F4 F5 F6
theorem zS(a b:Int)(v:AV)(es:List (AV×AV))(i:Nat):zd qd 3 (.sc (.int .i64 a)) ((.sc (.int .i64 b),v) :: es) i=if a=b then some (some i) else zd qd 3 (.sc (.int .i64 a)) es (i+1):=by
 have h:jc qd 3 (.sc (.int .i64 a)) (.sc (.int .i64 b))=some (decide (a=b)):=keyI.eq a b trivial trivial;rw[zd,h];by_cases e:a=b<;>simp[e]
def RelN(mu:Mu)(ar:Int)(l:List Int):Prop:=∃ av,mu[0]?=some (.arr [aI 0,.lst true []])/\mu[2]?=some (.arr [aI ar,av])/\OwnI mu av l/\qt av≠some 0/\qt av≠some 2
theorem RelN.step{mu mu':Mu}{ar:Int}{av av':AV}{l:List Int}(h0:mu[0]?=some (.arr [aI 0,.lst true []]))(h1:mu[2]?=some (.arr [aI ar,av]))(n0:qt av≠some 0)(n1:qt av≠some 2)(ho:OwnI mu' av' l)
  (hs:∀ i,i<mu.length->qt av≠some i->mu'[i]?=mu[i]?) (hl:mu.length<=mu'.length) (hb:∀ b,qt av'=some b->b=mu.length):mu'[2]?=some (.arr [aI ar,av])/\RelN (mu'.set 2 (.arr [aI ar,av'])) ar l:=by
 have l1:2<mu.length:=(qk.1 h1).1;have m0:qt av'≠some 0:=fun e=>by have:=hb 0 e;omega
 have m1:qt av'≠some 2:=fun e=>by have:=hb 2 e;omega
 refine⟨by rw[hs 2 l1 n1];exact h1,av',by rw[qK (by omega),hs 0 (by omega) n0];exact h0,by rw[zb (by omega)],ho.same fun b hb'=>?_,m0,m1⟩;rw[qK (fun e=>m1 (by rw[e];exact hb'))]
theorem vF{f:Nat}{l:List AV}{A E:XE Rl}(h:qH qd f l (endE A))(e:A=E):qH qd f l (endE E):=e ▸ h
theorem exprX(x:Mo)(N:Nat)(n:Nd)(hw:WfN n)(hM:OkMa x N)(ih:IH x N n)(p:Pl)(hp:OkP x N p)(hq:bd p n) :
  qH qd 53 [eMa x,ePl p,eNd n] (endE ((den x n).E p)):=by
 refine qQ.of_sound ?_;refine qSW call53 func53 rfl {} ?_;have hMf:=zp x;have wx:=wk3 x p n;rw[Qm];simp only[opD];generalize hE:opE x n.op n.name n.n (n.kids.map (den x)) p=E;unfold opE at hE;by_cases o6:n.op=6
 .obtain ⟨a,b,hk⟩:=yJ hw (by omega)
  have hr:=qe9 x N n a b hM hk ih p hp hq;rw[o6,hk]at hE;replace hr:=vF hr hE;cases E with
  |error e =>
   simp[go_sem,o6,zS];refine qb.pans hr wx ?_;simp[go_sem];exact .hf _ (qE _)
  |ok r =>
   simp[go_sem,o6,zS];refine qb.pure hr.toP wx ?_;simp[go_sem];exact .hf _ (qM _)
 by_cases o7:n.op=7
 .obtain ⟨a,b,hk⟩:=yJ hw (by omega)
  have hr:=qfA x N n a b hM hk ih p hp hq;rw[o7,hk]at hE;replace hr:=vF hr hE;cases E with
  |error e =>
   simp[go_sem,o7,zS];refine qb.pans hr wx ?_;simp[go_sem];exact .hf _ (qE _)
  |ok r =>
   simp[go_sem,o7,zS];refine qb.pure hr.toP wx ?_;simp[go_sem];exact .hf _ (qM _)
 by_cases o8:n.op=8
 .obtain ⟨a,b,hk⟩:=yJ hw (by omega)
  have hr:=diffX x N n a b hM hk ih p hp hq;rw[o8,hk]at hE;replace hr:=vF hr hE;cases E with
  |error e =>
   simp[go_sem,o8,zS];refine qb.pans hr wx ?_;simp[go_sem];exact .hf _ (qE _)
  |ok r =>
   simp[go_sem,o8,zS];refine qb.pure hr.toP wx ?_;simp[go_sem];exact .hf _ (qM _)
 by_cases o14:n.op=14
 .obtain ⟨a,b,hk⟩:=yJ hw (by omega)
  have hr:=overX x N n a b hM hk ih p hp hq;rw[o14,hk]at hE;replace hr:=vF hr hE;cases E with
  |error e =>
   simp[go_sem,o14,zS];refine qb.pans hr wx ?_;simp[go_sem];exact .hf _ (qE _)
  |ok r =>
   simp[go_sem,o14,zS];refine qb.pure hr.toP wx ?_;simp[go_sem];exact .hf _ (qM _)
 by_cases o9:n.op=9
 .obtain ⟨a,b,hk⟩:=yJ hw (by omega)
  have hr:=joinX x N n a b hM hk ih p hp hq;rw[o9,hk]at hE;replace hr:=vF hr hE;cases E with
  |error e =>
   simp[go_sem,o9,zS];refine qb.pans hr wx ?_;simp[go_sem];exact .hf _ (qE _)
  |ok r =>
   simp[go_sem,o9,zS];refine qb.pure hr.toP wx ?_;simp[go_sem];exact .hf _ (qM _)
 by_cases o10:n.op=10
 .obtain ⟨a,b,hk⟩:=yJ hw (by omega)
  have hr:=qfB x N n a b hM hk ih p hp hq;rw[o10,hk]at hE;replace hr:=vF hr hE;cases E with
  |error e =>
   simp[go_sem,o10,zS];refine qb.pans hr wx ?_;simp[go_sem];exact .hf _ (qE _)
  |ok r =>
   simp[go_sem,o10,zS];refine qb.pure hr.toP wx ?_;simp[go_sem];exact .hf _ (qM _)
 by_cases o11:n.op=11
 .obtain ⟨a,hk⟩:=vh hw (by omega)
  have hr:=qfD x N n a hM hk ih p hp hq;rw[o11,hk]at hE;replace hr:=vF hr hE;cases E with
  |error e =>
   simp[go_sem,o11,zS];refine qb.pans hr wx ?_;simp[go_sem];exact .hf _ (qE _)
  |ok r =>
   simp[go_sem,o11,zS];refine qb.pure hr.toP wx ?_;simp[go_sem];exact .hf _ (qM _)
 by_cases o12:n.op=12
 .obtain ⟨a,hk⟩:=vh hw (by omega)
  have hr:=pg x N n a hM hk ih p hp hq;rw[o12,hk]at hE;replace hr:=vF hr hE;cases E with
  |error e =>
   simp[go_sem,o12,zS];refine qb.pans hr wx ?_;simp[go_sem];exact .hf _ (qE _)
  |ok r =>
   simp[go_sem,o12,zS];refine qb.pure hr.toP wx ?_;simp[go_sem];exact .hf _ (qM _)
 by_cases o13:n.op=13
 .obtain ⟨a,hk⟩:=vh hw (by omega)
  have hr:=qfE x N n a hM hk ih p hp hq;rw[o13,hk]at hE;replace hr:=vF hr hE;cases E with
  |error e =>
   simp[go_sem,o13,zS];refine qb.pans hr wx ?_;simp[go_sem];exact .hf _ (qE _)
  |ok r =>
   simp[go_sem,o13,zS];refine qb.pure hr.toP wx ?_;simp[go_sem];exact .hf _ (qM _)
 by_cases o5:n.op=5
 .obtain ⟨a,hk⟩:=vh hw (by omega)
  have hr:=qfC x N n a hM hk ih p hp hq;rw[o5,hk]at hE;replace hr:=vF hr hE;cases E with
  |error e =>
   simp[go_sem,o5,zS];refine qb.pans hr wx ?_;simp[go_sem];exact .hf _ (qE _)
  |ok r =>
   simp[go_sem,o5,zS];refine qb.pure hr.toP wx ?_;simp[go_sem];exact .hf _ (qM _)
 by_cases o15:n.op=15
 .obtain ⟨a,b,hk⟩:=yJ hw (by omega)
  have hr:=qfJ x N n a b hM hk ih p hp hq;rw[o15,hk]at hE;replace hr:=vF hr hE;cases E with
  |error e =>
   simp[go_sem,o15,zS];refine qb.pans hr wx ?_;simp[go_sem];exact .hf _ (qE _)
  |ok r =>
   simp[go_sem,o15,zS];refine qb.pure hr.toP wx ?_;simp[go_sem];exact .hf _ (qM _)
 by_cases o1:n.op=1
 .have hr:=qfR x N hM n.name p hp (by omega)
  have wn:WKs [eMa x,ePl p,aS n.name] [eMa x,ePl p,aS n.name] := .cons (.hf hMf) (.cons (.hf (J9 p)) (.cons (.hf (HF.sc _)) .nil));rw[o1]at hE;replace hr:=vF hr hE;cases E with
  |error e =>
   simp[go_sem,o1,zS];refine qb.pans hr wn ?_;simp[go_sem];exact .hf _ (qE _)
  |ok r =>
   simp[go_sem,o1,zS];refine qb.pure hr.toP wn ?_;simp[go_sem];exact .hf _ (qM _)
 by_cases o2:n.op=2
 .rw [o2]at hE
  replace hE:Except.ok ⟨n.n,[]⟩=E:=hE;subst hE;simp[go_sem,o2,zS];exact Qq
 by_cases o3:n.op=3
 .rw [o3]at hE
  replace hE:Except.ok ⟨1,(qq x.n.toNat).map fun k:Nat=>(k:Int)⟩=E:=hE;subst hE;have h0:=hM.n0;have h12:=hM.n12;obtain⟨m,hm⟩:=Int.eq_ofNat_of_zero_le h0;simp[go_sem,o3,zS];rw[hm]at h12;refine ql.upK m (fun k st=>st.tm 6 = .ptr 0 0/\st.tm 10 = .ptr 2 0/\st.tm 47=aI m/\st.tm 48=aI k/\RelN st.mu 1 ((qq k).map fun k:Nat=>(k:Int))) ?_ ?_
  .exact ⟨by simp[go_sem],by simp[go_sem],by simp[go_sem,hm],by simp[go_sem],.lst true [],by simp[go_sem],by simp[go_sem],.inl ⟨rfl,rfl⟩,by simp[qt],by simp[qt]⟩
  rintro k st hk ⟨e6,e10,e47,e48,av,g0,g2,ho,n0,n2⟩;by_cases hlt:k<m
  .have w1:qj.wrap ((k:Int)+1)=(k:Int)+1:=qg (by omega) (by omega)
   simp[go_sem,e6,e10,e47,e48,hlt,g2];refine qF.ownV1 (e:=3) (bt:=8) (z:=0) (by simp[go_sem]) (by simp[go_sem]) (by simp[go_sem]) (by omega) ho.v (by simp;omega) ?_;intro av' mu' ho' hs' hl' hb';obtain⟨k1,k2⟩:=RelN.step g0 g2 n0 n2 ho' hs' hl' hb';simp[go_sem,e6,e10,e47,e48,hlt,k1,ho'.v.one,ho'.v.cells,w1];refine Keep.mk' ⟨by simp[go_sem,e6],by simp[go_sem,e10],by simp[go_sem,e47],by simp[go_sem],?_⟩;rw[List.range_succ,zm];exact k2
  .have hge:k=m:=by omega
   subst hge;have hset:∀ c,(st.mu.set 0 c)[0]?=some c:=fun c=>zb (qk.1 g0).1
   rw[hm];simp[go_sem,e6,e10,e47,e48,g0,g2,hset,ho.v.one,ho.v.cells];refine OwnV.rdRel (ho.v.same fun b hb=>?_);rw[qK (fun e=>n0 (by rw[e];exact hb))]
 by_cases o4:n.op=4
 .rw [o4]at hE
  replace hE:Except.ok (idR x.n)=E:=hE;subst hE;simp[go_sem,o4,zS];refine qb.pure (Vi x.n hM.n0 hM.n12) (.cons (.hf (HF.sc _)) .nil) ?_;simp[go_sem];exact .hf _ (qM _)
 have hE:Except.error 43=E:=by
  rw[<-hE];rw[if_neg o1,if_neg o2,if_neg o3,if_neg o4,if_neg o5,if_neg o6,if_neg o7,if_neg o8,if_neg o9,if_neg o10,if_neg o11,if_neg o12,if_neg o13,if_neg o14,if_neg o15]
 subst hE;simp[go_sem,o1,o2,o3,o4,o5,o6,o7,o8,o9,o10,o11,o12,o13,o14,o15,zS];refine qb.pans (ux 43) (wkI 43) ?_;simp[go_sem];exact .hf _ (qE _)
end F7
namespace F8
open Y1 P2 E1 E3 EA ER EY F1 F2 F3
theorem f30(x:Mo)(N:Nat)(n:Nd)(hw:WfN n)(hM:OkMa x N)(ih:IH x N n)(p:Pl)(hp:OkP x N p)(hq:bd p n)(o30:n.op=30):qH qd 63 [eMa x,ePl p,eNd n] (endB (Except.ok true)):=by
 refine qQ.of_sound ?_;refine qSW call63 func63 rfl {} ?_;have hMf:=zp x;simp[go_sem,o30];exact .hf _ (HF.sc _)
theorem f31(x:Mo)(N:Nat)(n:Nd)(hw:WfN n)(hM:OkMa x N)(ih:IH x N n)(p:Pl)(hp:OkP x N p)(hq:bd p n)(o31:n.op=31):qH qd 63 [eMa x,ePl p,eNd n] (endB (Except.ok false)):=by
 refine qQ.of_sound ?_;refine qSW call63 func63 rfl {} ?_;have hMf:=zp x;simp[go_sem,o31];exact .hf _ (HF.sc _)
theorem f32(x:Mo)(N:Nat)(n a b:Nd)(hM:OkMa x N)(hk:n.kids=[a,b])(ih:IH x N n)(p:Pl)(hp:OkP x N p)(hq:bd p n)(o32:n.op=32):qH qd 63 [eMa x,ePl p,eNd n] (endB ((bX (zy [den x a,den x b] p) fun q => .ok (decide ((diR q.1 q.2).ts=[]))))):=by
 refine qQ.of_sound ?_;refine qSW call63 func63 rfl {} ?_;have hMf:=zp x;have wx:=wk3 x p n;generalize hE:(bX (zy [den x a,den x b] p) fun q => .ok (decide ((diR q.1 q.2).ts=[])))=E;have hr:=ZE x N n a b hk ih p hp hq;simp[go_sem,o32];cases ea:zy [den x a,den x b] p with
 |error e =>
  rw[ea]at hr hE;subst hE;refine qb.pans hr wx ?_;simp[go_sem,q9];exact .hf _ (qE _)
 |ok q =>
  obtain⟨r,s⟩:=q;obtain⟨h1,h2,h3⟩:=uz ea;simp only[kD,vL,List.getD_cons_succ]at h1 h2;have gr:=(ih a (by rw[hk];simp) p hp (by omega)).G _ h1;have gs:=(ih b (by rw[hk];simp) p hp (by omega)).G _ h2;have lr:=gr.len hM.n0 (OkMa.n20 hM);have ls:=gs.len hM.n0 (OkMa.n20 hM);rw[ea]at hr hE;rw[qO]at hE;subst hE;refine qb.pure hr.toP wx ?_;simp[go_sem];refine qb.pure (inU r s (by omega) (by omega)) (wkR2 r s) ?_;simp[go_sem];exact .hf _ (HF.sc _)
theorem f33(x:Mo)(N:Nat)(n a b:Nd)(hM:OkMa x N)(hk:n.kids=[a,b])(ih:IH x N n)(p:Pl)(hp:OkP x N p)(hq:bd p n)(o33:n.op=33):qH qd 63 [eMa x,ePl p,eNd n] (endB ((bX (zy [den x a,den x b] p) fun q => .ok (decide (q.1=q.2))))):=by
 refine qQ.of_sound ?_;refine qSW call63 func63 rfl {} ?_;have hMf:=zp x;have wx:=wk3 x p n;generalize hE:(bX (zy [den x a,den x b] p) fun q => .ok (decide (q.1=q.2)))=E;have hr:=ZE x N n a b hk ih p hp hq;simp[go_sem,o33];cases ea:zy [den x a,den x b] p with
 |error e =>
  rw[ea]at hr hE;subst hE;refine qb.pans hr wx ?_;simp[go_sem,q9];exact .hf _ (qE _)
 |ok q =>
  obtain⟨r,s⟩:=q;obtain⟨h1,h2,h3⟩:=uz ea;simp only[kD,vL,List.getD_cons_succ]at h1 h2;have gr:=(ih a (by rw[hk];simp) p hp (by omega)).G _ h1;have gs:=(ih b (by rw[hk];simp) p hp (by omega)).G _ h2;have lr:=gr.len hM.n0 (OkMa.n20 hM);have ls:=gs.len hM.n0 (OkMa.n20 hM);rw[ea]at hr hE;rw[qO]at hE;subst hE;refine qb.pure hr.toP wx ?_;simp[go_sem];refine qb.pure (E4.J7 r s (by omega)) (wkR2 r s) ?_;simp[go_sem];exact .hf _ (HF.sc _)
theorem f34(x:Mo)(N:Nat)(n a:Nd)(hM:OkMa x N)(hk:n.kids=[a])(ih:IH x N n)(p:Pl)(hp:OkP x N p)(hq:bd p n)(o34:n.op=34):qH qd 63 [eMa x,ePl p,eNd n] (endB ((bX ((den x a).E p) fun a => .ok (decide (0<a.ts.length))))):=by
 refine qQ.of_sound ?_;refine qSW call63 func63 rfl {} ?_;have hMf:=zp x;have wx:=wk3 x p n;generalize hE:(bX ((den x a).E p) fun a => .ok (decide (0<a.ts.length)))=E;have ia:=(ih a (by rw[hk];simp) p hp (by omega)).E;have wa:=wk3 x p a;simp[go_sem,o34,hk];refine qe.seg [0,1,2,3,4,5,6,7,8,9] [(0,0,[]),(1,0,[]),(2,0,[]),(3,0,[]),(4,0,[]),(5,0,[]),(6,1,[]),(7,0,[]),(8,0,[]),(9,0,[])] (by kernel_rfl) (by kernel_rfl) (by simp[go_sem]) ?_;simp[go_sem,hk];cases ea:(den x a).E p with
 |error e =>
  rw[ea]at ia hE;subst hE;refine qb.pans ia wa ?_;simp[go_sem,q9];exact .hf _ (qE _)
 |ok r =>
  rw[ea]at ia hE;rw[qO]at hE;subst hE;refine qb.pure ia.toP wa ?_;by_cases hc:0<r.ts.length
  .have hi:(0:Int)<r.ts.length:=by omega
   rw[decide_eq_true hc];simp[go_sem,o34,hc,hi];exact .hf _ (HF.sc _)
  .have hi:¬(0:Int)<r.ts.length:=by omega
   rw[decide_eq_false hc];simp[go_sem,o34,hc,hi];exact .hf _ (HF.sc _)
theorem f35(x:Mo)(N:Nat)(n a:Nd)(hM:OkMa x N)(hk:n.kids=[a])(ih:IH x N n)(p:Pl)(hp:OkP x N p)(hq:bd p n)(o35:n.op=35):qH qd 63 [eMa x,ePl p,eNd n] (endB ((bX ((den x a).E p) fun a => .ok (decide (a.ts.length=0))))):=by
 refine qQ.of_sound ?_;refine qSW call63 func63 rfl {} ?_;have hMf:=zp x;have wx:=wk3 x p n;generalize hE:(bX ((den x a).E p) fun a => .ok (decide (a.ts.length=0)))=E;have ia:=(ih a (by rw[hk];simp) p hp (by omega)).E;have wa:=wk3 x p a;simp[go_sem,o35,hk];refine qe.seg [0,1,2,3,4,5,6,7,8,9] [(0,0,[]),(1,0,[]),(2,0,[]),(3,0,[]),(4,0,[]),(5,0,[]),(6,1,[]),(7,0,[]),(8,0,[]),(9,0,[])] (by kernel_rfl) (by kernel_rfl) (by simp[go_sem]) ?_;simp[go_sem,hk];cases ea:(den x a).E p with
 |error e =>
  rw[ea]at ia hE;subst hE;refine qb.pans ia wa ?_;simp[go_sem,q9];exact .hf _ (qE _)
 |ok r =>
  rw[ea]at ia hE;rw[qO]at hE;subst hE;refine qb.pure ia.toP wa ?_;by_cases hc:r.ts.length=0
  .have hi:r.ts=[]:=by exact List.length_eq_zero_iff.1 hc
   rw[decide_eq_true hc];simp[go_sem,o35,hc,hi];exact .hf _ (HF.sc _)
  .have hi:¬(r.ts=[]):=by exact fun e=>hc (List.length_eq_zero_iff.2 e)
   rw[decide_eq_false hc];simp[go_sem,o35,hc,hi];exact .hf _ (HF.sc _)
theorem f36(x:Mo)(N:Nat)(n a:Nd)(hM:OkMa x N)(hk:n.kids=[a])(ih:IH x N n)(p:Pl)(hp:OkP x N p)(hq:bd p n)(o36:n.op=36):qH qd 63 [eMa x,ePl p,eNd n] (endB ((bX ((den x a).E p) fun a => .ok (decide (a.ts.length=1))))):=by
 refine qQ.of_sound ?_;refine qSW call63 func63 rfl {} ?_;have hMf:=zp x;have wx:=wk3 x p n;generalize hE:(bX ((den x a).E p) fun a => .ok (decide (a.ts.length=1)))=E;have ia:=(ih a (by rw[hk];simp) p hp (by omega)).E;have wa:=wk3 x p a;simp[go_sem,o36,hk];refine qe.seg [0,1,2,3,4,5,6,7,8,9] [(0,0,[]),(1,0,[]),(2,0,[]),(3,0,[]),(4,0,[]),(5,0,[]),(6,1,[]),(7,0,[]),(8,0,[]),(9,0,[])] (by kernel_rfl) (by kernel_rfl) (by simp[go_sem]) ?_;simp[go_sem,hk];cases ea:(den x a).E p with
 |error e =>
  rw[ea]at ia hE;subst hE;refine qb.pans ia wa ?_;simp[go_sem,q9];exact .hf _ (qE _)
 |ok r =>
  rw[ea]at ia hE;rw[qO]at hE;subst hE;refine qb.pure ia.toP wa ?_;by_cases hc:r.ts.length=1
  .have hi:(r.ts.length:Int)=1:=by omega
   rw[decide_eq_true hc];simp[go_sem,o36,hc,hi];exact .hf _ (HF.sc _)
  .have hi:¬(r.ts.length:Int)=1:=by omega
   rw[decide_eq_false hc];simp[go_sem,o36,hc,hi];exact .hf _ (HF.sc _)
theorem f37(x:Mo)(N:Nat)(n a:Nd)(hM:OkMa x N)(hk:n.kids=[a])(ih:IH x N n)(p:Pl)(hp:OkP x N p)(hq:bd p n)(o37:n.op=37):qH qd 63 [eMa x,ePl p,eNd n] (endB ((bX ((den x a).E p) fun a => .ok (decide (a.ts.length<=1))))):=by
 refine qQ.of_sound ?_;refine qSW call63 func63 rfl {} ?_;have hMf:=zp x;have wx:=wk3 x p n;generalize hE:(bX ((den x a).E p) fun a => .ok (decide (a.ts.length<=1)))=E;have ia:=(ih a (by rw[hk];simp) p hp (by omega)).E;have wa:=wk3 x p a;simp[go_sem,o37,hk];refine qe.seg [0,1,2,3,4,5,6,7,8,9] [(0,0,[]),(1,0,[]),(2,0,[]),(3,0,[]),(4,0,[]),(5,0,[]),(6,1,[]),(7,0,[]),(8,0,[]),(9,0,[])] (by kernel_rfl) (by kernel_rfl) (by simp[go_sem]) ?_;simp[go_sem,hk];cases ea:(den x a).E p with
 |error e =>
  rw[ea]at ia hE;subst hE;refine qb.pans ia wa ?_;simp[go_sem,q9];exact .hf _ (qE _)
 |ok r =>
  rw[ea]at ia hE;rw[qO]at hE;subst hE;refine qb.pure ia.toP wa ?_;by_cases hc:r.ts.length<=1
  .have hi:(r.ts.length:Int)<=1:=by omega
   rw[decide_eq_true hc];simp[go_sem,o37,hc,hi];exact .hf _ (HF.sc _)
  .have hi:¬(r.ts.length:Int)<=1:=by omega
   rw[decide_eq_false hc];simp[go_sem,o37,hc,hi];exact .hf _ (HF.sc _)
theorem f38(x:Mo)(N:Nat)(n a b:Nd)(hM:OkMa x N)(hk:n.kids=[a,b])(ih:IH x N n)(p:Pl)(hp:OkP x N p)(hq:bd p n)(o38:n.op=38):qH qd 63 [eMa x,ePl p,eNd n] (endB ((bX ((den x a).N p) fun a=>bX ((den x b).N p) fun b => .ok (decide (a=b))))):=by
 refine qQ.of_sound ?_;refine qSW call63 func63 rfl {} ?_;have hMf:=zp x;have wx:=wk3 x p n;generalize hE:(bX ((den x a).N p) fun a=>bX ((den x b).N p) fun b => .ok (decide (a=b)))=E;have ia:=(ih a (by rw[hk];simp) p hp (by omega)).N;have ib:=(ih b (by rw[hk];simp) p hp (by omega)).N;have wa:=wk3 x p a;have wb:=wk3 x p b;simp[go_sem,o38,hk];refine qe.seg [0,1,2,3,4,5,7,8,9,10,11,12,6,13,14,15] [(0,0,[]),(1,0,[]),(2,0,[]),(3,0,[]),(4,0,[]),(5,0,[]),(7,0,[]),(8,0,[]),(9,0,[]),(10,0,[]),(11,0,[]),(12,0,[]),(6,1,[8,10,12]),(13,1,[]),(14,0,[]),(15,0,[])] (by kernel_rfl) (by kernel_rfl) (by simp[go_sem]) ?_;simp[go_sem,hk];cases ea:(den x a).N p with
 |error e =>
  rw[ea]at ia hE;subst hE;refine qb.pans ia wa ?_;simp[go_sem,q9];exact .hf _ (qE _)
 |ok r =>
  rw[ea]at ia hE;rw[qO]at hE;refine qb.pure ia.toP wa ?_;simp[go_sem,hk];cases eb:(den x b).N p with
  |error e =>
   rw[eb]at ib hE;subst hE;refine qb.pans ib wb ?_;simp[go_sem,q9];exact .hf _ (qE _)
  |ok s =>
   rw[eb]at ib hE;rw[qO]at hE;subst hE;refine qb.pure ib.toP wb ?_;simp[go_sem];exact .hf _ (HF.sc _)
theorem f39(x:Mo)(N:Nat)(n a b:Nd)(hM:OkMa x N)(hk:n.kids=[a,b])(ih:IH x N n)(p:Pl)(hp:OkP x N p)(hq:bd p n)(o39:n.op=39):qH qd 63 [eMa x,ePl p,eNd n] (endB ((bX ((den x a).N p) fun a=>bX ((den x b).N p) fun b => .ok (decide (a<b))))):=by
 refine qQ.of_sound ?_;refine qSW call63 func63 rfl {} ?_;have hMf:=zp x;have wx:=wk3 x p n;generalize hE:(bX ((den x a).N p) fun a=>bX ((den x b).N p) fun b => .ok (decide (a<b)))=E;have ia:=(ih a (by rw[hk];simp) p hp (by omega)).N;have ib:=(ih b (by rw[hk];simp) p hp (by omega)).N;have wa:=wk3 x p a;have wb:=wk3 x p b;simp[go_sem,o39,hk];refine qe.seg [0,1,2,3,4,5,7,8,9,10,11,12,6,13,14,15] [(0,0,[]),(1,0,[]),(2,0,[]),(3,0,[]),(4,0,[]),(5,0,[]),(7,0,[]),(8,0,[]),(9,0,[]),(10,0,[]),(11,0,[]),(12,0,[]),(6,1,[8,10,12]),(13,1,[]),(14,0,[]),(15,0,[])] (by kernel_rfl) (by kernel_rfl) (by simp[go_sem]) ?_;simp[go_sem,hk];cases ea:(den x a).N p with
 |error e =>
  rw[ea]at ia hE;subst hE;refine qb.pans ia wa ?_;simp[go_sem,q9];exact .hf _ (qE _)
 |ok r =>
  rw[ea]at ia hE;rw[qO]at hE;refine qb.pure ia.toP wa ?_;simp[go_sem,hk];cases eb:(den x b).N p with
  |error e =>
   rw[eb]at ib hE;subst hE;refine qb.pans ib wb ?_;simp[go_sem,q9];exact .hf _ (qE _)
  |ok s =>
   rw[eb]at ib hE;rw[qO]at hE;subst hE;refine qb.pure ib.toP wb ?_;simp[go_sem];exact .hf _ (HF.sc _)
theorem f40(x:Mo)(N:Nat)(n a:Nd)(hM:OkMa x N)(hk:n.kids=[a])(ih:IH x N n)(p:Pl)(hp:OkP x N p)(hq:bd p n)(o40:n.op=40):qH qd 63 [eMa x,ePl p,eNd n] (endB ((bX ((den x a).F p) fun a => .ok (!a)))):=by
 refine qQ.of_sound ?_;refine qSW call63 func63 rfl {} ?_;have hMf:=zp x;have wx:=wk3 x p n;generalize hE:(bX ((den x a).F p) fun a => .ok (!a))=E;have ia:=(ih a (by rw[hk];simp) p hp (by omega)).F;have wa:=wk3 x p a;simp[go_sem,o40,hk];refine qe.seg [0,1,2,3,4,5,6,7,8] [(0,0,[]),(1,0,[]),(2,0,[]),(3,0,[]),(4,0,[]),(5,0,[]),(6,1,[]),(7,0,[]),(8,0,[])] (by kernel_rfl) (by kernel_rfl) (by simp[go_sem]) ?_;simp[go_sem,hk];cases ea:(den x a).F p with
 |error e =>
  rw[ea]at ia hE;subst hE;refine qb.pans ia wa ?_;simp[go_sem,q9];exact .hf _ (qE _)
 |ok r =>
  rw[ea]at ia hE;rw[qO]at hE;subst hE;refine qb.pure ia.toP wa ?_;simp[go_sem];exact .hf _ (HF.sc _)
theorem f41(x:Mo)(N:Nat)(n a b:Nd)(hM:OkMa x N)(hk:n.kids=[a,b])(ih:IH x N n)(p:Pl)(hp:OkP x N p)(hq:bd p n)(o41:n.op=41):qH qd 63 [eMa x,ePl p,eNd n] (endB ((bX ((den x a).F p) fun a=>bX ((den x b).F p) fun b => .ok (a&&b)))):=by
 refine qQ.of_sound ?_;refine qSW call63 func63 rfl {} ?_;have hMf:=zp x;have wx:=wk3 x p n;generalize hE:(bX ((den x a).F p) fun a=>bX ((den x b).F p) fun b => .ok (a&&b))=E;have ia:=(ih a (by rw[hk];simp) p hp (by omega)).F;have ib:=(ih b (by rw[hk];simp) p hp (by omega)).F;have wa:=wk3 x p a;have wb:=wk3 x p b;simp[go_sem,o41,hk];refine qe.seg [0,1,2,3,4,5,7,8,9,10,11,12,6,14,13,15] [(0,0,[]),(1,0,[]),(2,0,[]),(3,0,[]),(4,0,[]),(5,0,[]),(7,0,[]),(8,0,[]),(9,0,[]),(10,0,[]),(11,0,[]),(12,0,[]),(6,1,[8,10,12]),(14,0,[]),(13,1,[]),(15,0,[])] (by kernel_rfl) (by kernel_rfl) (by simp[go_sem]) ?_;simp[go_sem,hk];cases ea:(den x a).F p with
 |error e =>
  rw[ea]at ia hE;subst hE;refine qb.pans ia wa ?_;simp[go_sem,q9];exact .hf _ (qE _)
 |ok r =>
  rw[ea]at ia hE;rw[qO]at hE;refine qb.pure ia.toP wa ?_;simp[go_sem,hk];cases eb:(den x b).F p with
  |error e =>
   rw[eb]at ib hE;subst hE;refine qb.pans ib wb ?_;simp[go_sem,q9];exact .hf _ (qE _)
  |ok s =>
   rw[eb]at ib hE;rw[qO]at hE;subst hE;refine qb.pure ib.toP wb ?_;cases r<;>cases s<;>simp[go_sem,o41]<;>exact .hf _ (HF.sc _)
theorem f42(x:Mo)(N:Nat)(n a b:Nd)(hM:OkMa x N)(hk:n.kids=[a,b])(ih:IH x N n)(p:Pl)(hp:OkP x N p)(hq:bd p n)(o42:n.op=42):qH qd 63 [eMa x,ePl p,eNd n] (endB ((bX ((den x a).F p) fun a=>bX ((den x b).F p) fun b => .ok (a||b)))):=by
 refine qQ.of_sound ?_;refine qSW call63 func63 rfl {} ?_;have hMf:=zp x;have wx:=wk3 x p n;generalize hE:(bX ((den x a).F p) fun a=>bX ((den x b).F p) fun b => .ok (a||b))=E;have ia:=(ih a (by rw[hk];simp) p hp (by omega)).F;have ib:=(ih b (by rw[hk];simp) p hp (by omega)).F;have wa:=wk3 x p a;have wb:=wk3 x p b;simp[go_sem,o42,hk];refine qe.seg [0,1,2,3,4,5,7,8,9,10,11,12,6,14,13,15] [(0,0,[]),(1,0,[]),(2,0,[]),(3,0,[]),(4,0,[]),(5,0,[]),(7,0,[]),(8,0,[]),(9,0,[]),(10,0,[]),(11,0,[]),(12,0,[]),(6,1,[8,10,12]),(14,0,[]),(13,1,[]),(15,0,[])] (by kernel_rfl) (by kernel_rfl) (by simp[go_sem]) ?_;simp[go_sem,hk];cases ea:(den x a).F p with
 |error e =>
  rw[ea]at ia hE;subst hE;refine qb.pans ia wa ?_;simp[go_sem,q9];exact .hf _ (qE _)
 |ok r =>
  rw[ea]at ia hE;rw[qO]at hE;refine qb.pure ia.toP wa ?_;simp[go_sem,hk];cases eb:(den x b).F p with
  |error e =>
   rw[eb]at ib hE;subst hE;refine qb.pans ib wb ?_;simp[go_sem,q9];exact .hf _ (qE _)
  |ok s =>
   rw[eb]at ib hE;rw[qO]at hE;subst hE;refine qb.pure ib.toP wb ?_;cases r<;>cases s<;>simp[go_sem,o42]<;>exact .hf _ (HF.sc _)
theorem f43(x:Mo)(N:Nat)(n a b:Nd)(hM:OkMa x N)(hk:n.kids=[a,b])(ih:IH x N n)(p:Pl)(hp:OkP x N p)(hq:bd p n)(o43:n.op=43):qH qd 63 [eMa x,ePl p,eNd n] (endB ((bX ((den x a).F p) fun a=>bX ((den x b).F p) fun b => .ok (!a||b)))):=by
 refine qQ.of_sound ?_;refine qSW call63 func63 rfl {} ?_;have hMf:=zp x;have wx:=wk3 x p n;generalize hE:(bX ((den x a).F p) fun a=>bX ((den x b).F p) fun b => .ok (!a||b))=E;have ia:=(ih a (by rw[hk];simp) p hp (by omega)).F;have ib:=(ih b (by rw[hk];simp) p hp (by omega)).F;have wa:=wk3 x p a;have wb:=wk3 x p b;simp[go_sem,o43,hk];refine qe.seg [0,1,2,3,4,5,7,8,9,10,11,12,6,14,13,15] [(0,0,[]),(1,0,[]),(2,0,[]),(3,0,[]),(4,0,[]),(5,0,[]),(7,0,[]),(8,0,[]),(9,0,[]),(10,0,[]),(11,0,[]),(12,0,[]),(6,1,[8,10,12]),(14,0,[]),(13,1,[]),(15,0,[])] (by kernel_rfl) (by kernel_rfl) (by simp[go_sem]) ?_;simp[go_sem,hk];cases ea:(den x a).F p with
 |error e =>
  rw[ea]at ia hE;subst hE;refine qb.pans ia wa ?_;simp[go_sem,q9];exact .hf _ (qE _)
 |ok r =>
  rw[ea]at ia hE;rw[qO]at hE;refine qb.pure ia.toP wa ?_;simp[go_sem,hk];cases eb:(den x b).F p with
  |error e =>
   rw[eb]at ib hE;subst hE;refine qb.pans ib wb ?_;simp[go_sem,q9];exact .hf _ (qE _)
  |ok s =>
   rw[eb]at ib hE;rw[qO]at hE;subst hE;refine qb.pure ib.toP wb ?_;cases r<;>cases s<;>simp[go_sem,o43]<;>exact .hf _ (HF.sc _)
theorem f44(x:Mo)(N:Nat)(n a b:Nd)(hM:OkMa x N)(hk:n.kids=[a,b])(ih:IH x N n)(p:Pl)(hp:OkP x N p)(hq:bd p n)(o44:n.op=44):qH qd 63 [eMa x,ePl p,eNd n] (endB ((bX ((den x a).F p) fun a=>bX ((den x b).F p) fun b => .ok (decide (a=b))))):=by
 refine qQ.of_sound ?_;refine qSW call63 func63 rfl {} ?_;have hMf:=zp x;have wx:=wk3 x p n;generalize hE:(bX ((den x a).F p) fun a=>bX ((den x b).F p) fun b => .ok (decide (a=b)))=E;have ia:=(ih a (by rw[hk];simp) p hp (by omega)).F;have ib:=(ih b (by rw[hk];simp) p hp (by omega)).F;have wa:=wk3 x p a;have wb:=wk3 x p b;simp[go_sem,o44,hk];refine qe.seg [0,1,2,3,4,5,7,8,9,10,11,12,6,14,13,15] [(0,0,[]),(1,0,[]),(2,0,[]),(3,0,[]),(4,0,[]),(5,0,[]),(7,0,[]),(8,0,[]),(9,0,[]),(10,0,[]),(11,0,[]),(12,0,[]),(6,1,[8,10,12]),(14,0,[]),(13,1,[]),(15,0,[])] (by kernel_rfl) (by kernel_rfl) (by simp[go_sem]) ?_;simp[go_sem,hk];cases ea:(den x a).F p with
 |error e =>
  rw[ea]at ia hE;subst hE;refine qb.pans ia wa ?_;simp[go_sem,q9];exact .hf _ (qE _)
 |ok r =>
  rw[ea]at ia hE;rw[qO]at hE;refine qb.pure ia.toP wa ?_;simp[go_sem,hk];cases eb:(den x b).F p with
  |error e =>
   rw[eb]at ib hE;subst hE;refine qb.pans ib wb ?_;simp[go_sem,q9];exact .hf _ (qE _)
  |ok s =>
   rw[eb]at ib hE;rw[qO]at hE;subst hE;refine qb.pure ib.toP wb ?_;cases r<;>cases s<;>simp[go_sem,o44]<;>exact .hf _ (HF.sc _)
end F8
namespace E8
open E3 E7
theorem qfS{x:Mo}{N:Nat}(h:OkX x N){s:Nat}(hs:s<N){t:Nat}(ht:t∈x.path s):∃ k,it x k s=t:=by
 obtain⟨r,e,hr⟩:=UL h hs;rw[e]at ht;obtain⟨j,_,e⟩:=qs.1 ht;exact⟨j,e⟩
end E8
namespace EB
open Y1 Y9 E3 E5 E7
def Rec{β:Type}(v:Nat->β)(r:Nat):Prop:=∀ k,∃ j,j<r/\j<=k/\v k=v j
theorem pp{α β:Type}{g:α->XE β}{e:Int}{a:α}:∀{l l':List α},(∀ y,y∈l->∃ b,g y = .ok b)->g a = .error e->mapX g (l++a :: l') = .error e
 | [],l',_,h=>by rw[yP,mapX,h];rfl
 |y :: l,l',hl,h=>by
  obtain⟨b,hb⟩:=hl y (zZ ..);rw[yB,mapX,hb,qO,pp (fun z hz=>hl z (zK _ hz)) h];rfl
theorem qfT{i r:Nat}(h:i<r):∃ l,qq r=qq i++i :: l:=by
 obtain⟨m,rfl⟩:∃ m,r=i+(m+1):=⟨r-i-1,by omega⟩;rw[List.range_add];refine⟨(qq m).map fun k=>i+(k+1),?_⟩;congr 1;rw[List.range_succ_eq_map,yd,List.map_map];rfl
theorem pq{β:Type}{v:Nat->XE β}{i r:Nat}{e:Int}(hi:i<r)(he:v i = .error e)(ho:∀ j,j<i->∃ b,v j = .ok b):mapX v (qq r) = .error e:=by
 obtain⟨l,hl⟩:=qfT hi;rw[hl];exact pp (fun y hy=>ho y (zI.1 hy)) he
theorem qfU{β:Type}{v:Nat->XE β}{r r':Nat}(h:Rec v r)(h':Rec v r')(P:List β->Bool)(hP:∀ w:Nat->β,Rec w r->Rec w r'->P ((qq r).map w)=P ((qq r').map w)) :
  (bX (mapX v (qq r)) fun l=>(.ok (P l):XE Bool))=bX (mapX v (qq r')) fun l => .ok (P l):=by
 by_cases hall:∀ k,∃ b,v k = .ok b
 .obtain ⟨w,hw⟩:=Classical.axiomOfChoice hall
  rw[UM (b:=w) fun k _=>hw k,UM (b:=w) fun k _=>hw k,qO,qO];have hr:∀{r},Rec v r->Rec w r:=fun h k=>by
   obtain⟨j,h1,h2,h3⟩:=h k;rw[hw,hw]at h3;exact⟨j,h1,h2,by injection h3⟩
  rw[hP w (hr h) (hr h')]
 .obtain ⟨i,hi,hmin⟩:∃ i,(∀ b,v i ≠ .ok b)/\∀ j,j<i->∃ b,v j = .ok b:=by
   have hex:∃ k,∀ b,v k ≠ .ok b:=by
    apply jT;intro hn;exact hall fun k=>jT fun hb=>hn ⟨k,fun b e=>hb ⟨b,e⟩⟩
   obtain⟨k,hk⟩:=hex;induction k using Nat.strongRecOn with
   |_ k ih =>
    by_cases hl:∃ j,j<k/\∀ b,v j ≠ .ok b
    .obtain ⟨j,h1,h2⟩:=hl
     exact ih j h1 h2
    .exact ⟨k,hk,fun j hj=>jT fun hb=>hl ⟨j,hj,fun b e=>hb ⟨b,e⟩⟩⟩
  obtain⟨e,he⟩:∃ e,v i = .error e:=by
   cases hv:v i with
   |error e=>exact⟨e,rfl⟩
   |ok b=>exact absurd hv (hi b)
  have lt:∀{r},Rec v r->i<r:=fun h=>by
   obtain⟨j,h1,h2,h3⟩:=h i;by_cases hj:j<i
   .obtain ⟨b,hb⟩:=hmin j hj
    rw[h3,hb]at he;cases he
   .omega
  rw[pq (lt h) he hmin,pq (lt h') he hmin]
theorem Wr{α β γ:Type}(g:α->XE β)(φ:γ->α):∀ l:List γ,mapX g (l.map φ)=mapX (fun a=>g (φ a)) l
 | []=>rfl
 |a :: l=>by rw[yd,mapX,mapX,Wr g φ l]
theorem pr{w:Nat->Bool}{r:Nat}(h:Rec w r):((qq r).map w).all id=true↔∀ k,w k=true:=by
 rw[qy];constructor
 .intro h1 k
  obtain⟨j,hj,_,e⟩:=h k;rw[e];exact h1 _ (qs.2 ⟨j,zI.2 hj,rfl⟩)
 .intro h1 b hb
  obtain⟨j,_,rfl⟩:=qs.1 hb;exact h1 j
theorem pt{w:Nat->Bool}{r:Nat}(h:Rec w r):((qq r).map w).any id=true↔∃ k,w k=true:=by
 rw[List.any_eq_true];constructor
 .rintro ⟨b,hb,h1⟩
  obtain⟨j,_,rfl⟩:=qs.1 hb;exact⟨j,h1⟩
 .rintro ⟨k,h1⟩
  obtain⟨j,hj,_,e⟩:=h k;exact⟨_,qs.2 ⟨j,zI.2 hj,rfl⟩,by rw[<-e];exact h1⟩
def untP:List (Bool×Bool)->Bool->Bool->Bool
 | [],d,_=>d
 |s :: l,d,q=>untP l (d||(s.2&&!q)) (q||!s.1)
theorem pu{F G:Nat->XE Bool}:∀(l:List Nat) (d q:Bool),untX F G l d q=bX (mapX (fun s=>bX (F s) fun a=>bX (G s) fun b => .ok (a,b)) l) fun r => .ok (untP r d q)
 | [],d,q=>rfl
 |s :: l,d,q=>by
  rw[untX,mapX];cases F s with
  |error e=>rfl
  |ok a=>cases G s with
   |error e=>rfl
   |ok b =>
    simp only[qO];rw[pu l,qdK];rfl
theorem pv:∀{l:List (Bool×Bool)} (d q:Bool),untP l d q=true↔d=true\/(q=false/\∃ i,∃ h:i<l.length,l[i].2=true/\∀ j,∀ h':j<i,(l[j]'(by omega)).1=true)
 | [],d,q=>by simp[untP]
 |s :: l,d,q=>by
  rw[untP,pv];constructor
  .rintro (h|⟨h,i,hi,h1,h2⟩)
   .rw [Bool.or_eq_true]at h
    rcases h with h|h
    .exact .inl h
    .rw [qx]at h
     exact .inr ⟨by simpa using h.2,0,by simp,by simpa using h.1,fun j hj=>by omega⟩
   .rw [Bool.or_eq_false_iff]at h
    refine .inr ⟨h.1,i+1,by simpa using hi,by simpa using h1,fun j hj=>?_⟩;cases j with
    |zero=>simpa using h.2
    |succ j=>simpa using h2 j (by omega)
  .rintro (h|⟨h,i,hi,h1,h2⟩)
   .exact .inl (by rw[h];rfl)
   .cases i with
    |zero=>exact .inl (by rw[h];simp at h1;rw[h1];simp)
    |succ i =>
     refine .inr ⟨?_,i,by simpa using hi,by simpa using h1,fun j hj=>by simpa using h2 (j+1) (by omega)⟩;have:=h2 0 (by omega);simp at this;rw[h,this];rfl
theorem pw{w:Nat->Bool×Bool}{r:Nat}(h:Rec w r):untP ((qq r).map w) false false=true↔∃ k,(w k).2=true/\∀ j,j<k->(w j).1=true:=by
 rw[pv];constructor
 .rintro (h|⟨_,i,hi,h1,h2⟩)
  .cases h
  .exact ⟨i,by simpa using h1,fun j hj=>by simpa using h2 j hj⟩
 .rintro ⟨k,h1,h2⟩
  obtain⟨j,hj,hle,e⟩:=h k;refine .inr ⟨rfl,j,by simpa using hj,by simpa[e] using h1,fun i hi=>by simpa using h2 i (by omega)⟩
structure Bis (x y:Mo) (s t:Nat):Prop where
 ts:x.ts=y.ts
 at_:x.m.sc.atoms=y.m.sc.atoms
 st:∀ k,x.m.states.getD (it x k s) []=y.m.states.getD (it y k t) []
theorem Bis.nx{x y:Mo}{s t:Nat}(h:Bis x y s t):Bis x y (x.nx s) (y.nx t):=⟨h.ts,h.at_,fun k=>h.st (k+1)⟩
theorem Bis.it{x y:Mo}{s t:Nat}(h:Bis x y s t):∀ k,Bis x y (it x k s) (it y k t)
 | 0=>h
 |k+1=>by rw[uw,uw];exact(Bis.it h k).nx
theorem Bis.n{x y:Mo}{s t:Nat}(h:Bis x y s t):x.n=y.n:=by unfold Mo.n;rw[h.at_]
theorem px{x y:Mo}{s t:Nat}(h:Bis x y s t)(nm:ByteArray):∀(so:List (ByteArray×Bool)) (i:Nat),yb x nm i so=yb y nm i so
 | [],i=>rfl
 |s :: so,i=>by
  rw[yb,yb,px h nm so];have e1:zi x i=zi y i:=by unfold zi;rw[h.at_]
  have e2:vf x i=vf y i:=by unfold vf;rw[h.at_,h.n]
  rw[e1,e2]
structure Ws (d d':Den) (p q:Pl):Prop where
 E:d.E p=d'.E q
 N:d.N p=d'.N q
 F:d.F p=d'.F q
theorem Wt{x y:Mo}{N M:Nat}(hx:OkX x N)(hy:OkX y M){s t:Nat}(hs:s<N)(ht:t<M){β:Type}{g h:Nat->XE β}(e:∀ k,g (it x k s)=h (it y k t))(P:List β->Bool)(hP:∀(w:Nat->β) (r r':Nat),Rec w r->Rec w r'->P ((qq r).map w)=P ((qq r').map w)) :
  (bX (mapX g (x.path s)) fun l=>(.ok (P l):XE Bool))=bX (mapX h (y.path t)) fun l => .ok (P l):=by
 obtain⟨r,e1,h1⟩:=UL hx hs;obtain⟨r',e2,h2⟩:=UL hy ht;rw[e1,e2,Wr,Wr];have ev:(fun k=>h (it y k t))=fun k=>g (it x k s):=funext fun k=>(e k).symm
 rw[ev];refine qfU (fun k=>?_) (fun k=>?_) P fun w a b=>hP w r r' a b
 .obtain ⟨j,a,b,c⟩:=h1 k
  exact⟨j,a,c,by show g _=g _;rw[b]⟩
 .obtain ⟨j,a,b,c⟩:=h2 k
  exact⟨j,a,c,by show g _=g _;rw[e,e,b]⟩
theorem Wu{a b:Bool}{p:Prop}(h1:a=true↔p)(h2:b=true↔p):a=b:=by rw[jG,h1,h2]
theorem py{x y:Mo}{N M:Nat}(hx:OkX x N)(hy:OkX y M):∀(m:Nat) (n:Nd),szN n<=m->∀(s t:Nat) (env:List (ByteArray×Int)),Bis x y s t->s<N->t<M->Ws (den x n) (den y n) ⟨s,env⟩ ⟨t,env⟩
 | 0,n,hm,_,_,_,_,_,_=>by obtain⟨op,nm,i,ks,p⟩:=n;simp[szN]at hm
 |m+1,n,hm,s,t,env,hB,hs,ht=>by
  rw[Qm,Qm];have ih:∀ k,k∈n.kids->∀(s t:Nat) (env:List (ByteArray×Int)),Bis x y s t->s<N->t<M->Ws (den x k) (den y k) ⟨s,env⟩ ⟨t,env⟩:=fun k hk=>py hx hy m k (by have:=yi hk;omega)
  have hk:∀ j (s t:Nat) (env:List (ByteArray×Int)),Bis x y s t->s<N->t<M->Ws (kD (n.kids.map (den x)) j) (kD (n.kids.map (den y)) j) ⟨s,env⟩ ⟨t,env⟩:=fun j s t env hB hs ht=>by
   unfold kD;by_cases hj:j<n.kids.length
   .have e1:(n.kids.map (den x)).getD j noD=den x n.kids[j]:=by simp[List.getD,hj]
    have e2:(n.kids.map (den y)).getD j noD=den y n.kids[j]:=by simp[List.getD,hj]
    rw[e1,e2];exact ih _ (qu hj) s t env hB hs ht
   .have e1:(n.kids.map (den x)).getD j noD=noD:=by simp[List.getD,hj]
    have e2:(n.kids.map (den y)).getD j noD=noD:=by simp[List.getD,hj]
    rw[e1,e2];exact⟨rfl,rfl,rfl⟩
  have hm2:∀ l:List Nd,(∀ k,k∈l->k∈n.kids)->mapX (fun d:Den=>d.E ⟨s,env⟩) (l.map (den x))=mapX (fun d:Den=>d.E ⟨t,env⟩) (l.map (den y)):=by
   intro l;induction l with
   |nil=>intro _;rfl
   |cons k l ihl =>
    intro hl;simp only[yd,mapX];rw[(ih k (hl k (zZ ..)) s t env hB hs ht).E,ihl fun y hy=>hl y (zK _ hy)]
  have hm3:=hm2 n.kids fun k hk=>hk
  have E:=fun j=>(hk j s t env hB hs ht).E
  have Nn:=fun j=>(hk j s t env hB hs ht).N
  have F:=fun j=>(hk j s t env hB hs ht).F
  have E5:=(hk 0 _ _ env hB.nx (hx.nx s hs) (hy.nx t ht)).E;have F5:=(hk 0 _ _ env hB.nx (hx.nx s hs) (hy.nx t ht)).F;have Fb:=fun (nm:ByteArray) (a:Int)=>(hk 1 s t (env++[(nm,a)]) hB hs ht).F
  have Fp:=fun (j k:Nat)=>(hk j _ _ env (hB.it k) (Qn hx hs k) (Qn hy ht k)).F
  have hst:=hB.st 0;have hst:x.m.states.getD s []=y.m.states.getD t []:=hst;have hnm:∀ nm,vU x ⟨s,env⟩ nm=vU y ⟨t,env⟩ nm:=fun nm=>by
   unfold vU;simp only;rw[hst,hB.ts,px hB]
  have pA:=Wt hx hy hs ht (g:=fun s=>(kD (n.kids.map (den x)) 0).F ⟨s,env⟩) (h:=fun s=>(kD (n.kids.map (den y)) 0).F ⟨s,env⟩) (fun k=>Fp 0 k) (fun l=>l.all id) fun w r r' a b=>Wu (pr a) (pr b)
  have pE:=Wt hx hy hs ht (g:=fun s=>(kD (n.kids.map (den x)) 0).F ⟨s,env⟩) (h:=fun s=>(kD (n.kids.map (den y)) 0).F ⟨s,env⟩) (fun k=>Fp 0 k) (fun l=>l.any id) fun w r r' a b=>Wu (pt a) (pt b)
  have pU:=Wt hx hy hs ht (g:=fun s=>bX ((kD (n.kids.map (den x)) 0).F ⟨s,env⟩) fun a=>bX ((kD (n.kids.map (den x)) 1).F ⟨s,env⟩) fun b => .ok (a,b)) (h:=fun s=>bX ((kD (n.kids.map (den y)) 0).F ⟨s,env⟩) fun a=>bX ((kD (n.kids.map (den y)) 1).F ⟨s,env⟩) fun b => .ok (a,b)) (fun k=>by
   show bX _ _=bX _ _;rw[Fp 0 k];congr 1;funext a;rw[Fp 1 k]) (fun l=>untP l false false) fun w r r' a b=>Wu (pw a) (pw b)
  refine⟨?_,?_,?_⟩
  .show opE x n.op n.name n.n _ ⟨s,env⟩=opE y n.op n.name n.n _ ⟨t,env⟩
   simp only[opE,zy,binE,y6,E,Fb,hnm,E5,hB.n]
  .show opN n.op n.n _ ⟨s,env⟩=opN n.op n.n _ ⟨t,env⟩
   simp only[opN,E,Nn]
  .show opF x n.op n.name _ ⟨s,env⟩=opF y n.op n.name _ ⟨t,env⟩
   simp only[opF,zy,y6,E,Nn,F,Fb,F5,hm3,pu,pA,pE,pU]
end EB
namespace EK
open E3
theorem Wv{α β:Type}{g:α->XE β}:∀{l:List α} {r:List β},mapX g l = .ok r->r.length=l.length
 | [],r,h=>by cases h;rfl
 |a :: l,r,h=>by
  rw[mapX]at h;cases h1:g a with
  |error e=>rw[h1]at h;cases h
  |ok b =>
   rw[h1,qO]at h;cases h2:mapX g l with
   |error e=>rw[h2]at h;cases h
   |ok s =>
    rw[h2,qO]at h;cases h;rw[z6,z6,Wv h2]
def pick(l:List Int)(vs:List Bool):List Int:=((l.zip vs).filter fun e=>e.2).map fun e=>e.1
end EK
namespace F9
open Y1 E3 E7 EA EL EO EP EW F1 F2 F3 F4 F5 F6
theorem f45(x:Mo)(N:Nat)(n a b:Nd)(hM:OkMa x N)(hk:n.kids=[a,b])(ih:IH x N n)(p:Pl)(hp:OkP x N p)(hq:bd p n)(o45:n.op=45):qH qd 63 [eMa x,ePl p,eNd n] (endB (bX (y6 [den x a,den x b] n.name p) fun l => .ok (l.all fun e=>e.2))):=by
 refine qQ.of_sound ?_;refine qSW call63 func63 rfl {} ?_;have hMf:=zp x;have hi:=Wn x N n a b hM hk ih p hp hq;have wx:=wk3 x p n;simp[go_sem,o45];cases hE:y6 [den x a,den x b] n.name p with
 |error e =>
  rw[hE]at hi;refine qb.pans hi wx ?_;simp[go_sem,q9];exact .hf _ (qE _)
 |ok l =>
  rw[hE]at hi;have hl:l.length<=8000:=Wp hE 8000 fun d h=>((ih a (by rw[hk];simp) p hp (by omega)).G d h).len hM.n0 (OkMa.n20 hM)
  have hit:=Wl 1 (l.map Prod.fst) (l.map Prod.snd) (by simp) (by simp;omega);rw[Wo]at hit;rw[Vj]at hi;refine qb.pure hi.toP wx ?_;generalize insC 1 (l.map Prod.fst) (l.map Prod.snd)=C at *
  simp[go_sem,qO];refine j8.keep hit (fun j M=>∃ rest,M = .arr [aB ((l.take j).any fun e=>e.2)] :: .arr [aB ((l.take j).all fun e=>e.2)] :: rest) (fun _ _=>False) ?_ ?_ ?_ ?_ ?_ ?_
  .exact ⟨_,by simp only[qL,yB];rfl⟩
  .rintro j M ⟨rest,rfl⟩
   exact⟨rest++[.dead],rfl⟩
  .intro e M h;exact h
  .rintro j y M hj ⟨rest,rfl⟩
   rw[zk,vo]at hj;obtain⟨t,ht,rfl⟩:=hj;obtain⟨hjl,hte⟩:=qk.1 ht;have hs:=yj hjl;rw[hte]at hs;refine⟨rfl,?_⟩;have ha:((l.take (j+1)).any fun e=>e.2)=((l.take j).any (fun e=>e.2)||t.2):=by rw[hs,List.any_append];simp
   have hb:((l.take (j+1)).all fun e=>e.2)=((l.take j).all (fun e=>e.2)&&t.2):=by rw[hs,List.all_append];simp
   generalize (l.take j).any (fun e=>e.2)=A at *
   generalize (l.take j).all (fun e=>e.2)=B at *
   cases A<;>cases B<;>cases t2:t.2
   all_goals simp[go_sem,t2]
   all_goals refine jP.intro ?_
   all_goals rw[ha,hb,t2]
   all_goals exact⟨_,rfl⟩
  .rintro M ⟨rest,rfl⟩
   rw[yM,zw];generalize (l.any fun e=>e.2)=A at *
   generalize (l.all fun e=>e.2)=B at *
   cases A<;>cases B
   all_goals simp[go_sem,o45]
   all_goals exact .hf _ (HF.sc _)
  .intro e M h;exact h.elim
theorem f46(x:Mo)(N:Nat)(n a b:Nd)(hM:OkMa x N)(hk:n.kids=[a,b])(ih:IH x N n)(p:Pl)(hp:OkP x N p)(hq:bd p n)(o46:n.op=46):qH qd 63 [eMa x,ePl p,eNd n] (endB (bX (y6 [den x a,den x b] n.name p) fun l => .ok (l.any fun e=>e.2))):=by
 refine qQ.of_sound ?_;refine qSW call63 func63 rfl {} ?_;have hMf:=zp x;have hi:=Wn x N n a b hM hk ih p hp hq;have wx:=wk3 x p n;simp[go_sem,o46];cases hE:y6 [den x a,den x b] n.name p with
 |error e =>
  rw[hE]at hi;refine qb.pans hi wx ?_;simp[go_sem,q9];exact .hf _ (qE _)
 |ok l =>
  rw[hE]at hi;have hl:l.length<=8000:=Wp hE 8000 fun d h=>((ih a (by rw[hk];simp) p hp (by omega)).G d h).len hM.n0 (OkMa.n20 hM)
  have hit:=Wl 1 (l.map Prod.fst) (l.map Prod.snd) (by simp) (by simp;omega);rw[Wo]at hit;rw[Vj]at hi;refine qb.pure hi.toP wx ?_;generalize insC 1 (l.map Prod.fst) (l.map Prod.snd)=C at *
  simp[go_sem,qO];refine j8.keep hit (fun j M=>∃ rest,M = .arr [aB ((l.take j).any fun e=>e.2)] :: .arr [aB ((l.take j).all fun e=>e.2)] :: rest) (fun _ _=>False) ?_ ?_ ?_ ?_ ?_ ?_
  .exact ⟨_,by simp only[qL,yB];rfl⟩
  .rintro j M ⟨rest,rfl⟩
   exact⟨rest++[.dead],rfl⟩
  .intro e M h;exact h
  .rintro j y M hj ⟨rest,rfl⟩
   rw[zk,vo]at hj;obtain⟨t,ht,rfl⟩:=hj;obtain⟨hjl,hte⟩:=qk.1 ht;have hs:=yj hjl;rw[hte]at hs;refine⟨rfl,?_⟩;have ha:((l.take (j+1)).any fun e=>e.2)=((l.take j).any (fun e=>e.2)||t.2):=by rw[hs,List.any_append];simp
   have hb:((l.take (j+1)).all fun e=>e.2)=((l.take j).all (fun e=>e.2)&&t.2):=by rw[hs,List.all_append];simp
   generalize (l.take j).any (fun e=>e.2)=A at *
   generalize (l.take j).all (fun e=>e.2)=B at *
   cases A<;>cases B<;>cases t2:t.2
   all_goals simp[go_sem,t2]
   all_goals refine jP.intro ?_
   all_goals rw[ha,hb,t2]
   all_goals exact⟨_,rfl⟩
  .rintro M ⟨rest,rfl⟩
   rw[yM,zw];generalize (l.any fun e=>e.2)=A at *
   generalize (l.all fun e=>e.2)=B at *
   cases A<;>cases B
   all_goals simp[go_sem,o46]
   all_goals exact .hf _ (HF.sc _)
  .intro e M h;exact h.elim
theorem pz(x:Mo):∀(f s:Nat) (acc:List Nat),(u4 x f s acc).length<=acc.length+f
 | 0,s,acc=>by simp[u4]
 |f+1,s,acc=>by
  simp only[u4];split
  .omega
  .have:=pz x f (x.nx s) (acc++[s])
   rw[zt,List.length_singleton]at this;omega
theorem Ww(x:Mo)(s:Nat):(x.path s).length<=x.m.states.length+1:=by
 have:=pz x (x.m.states.length+1) s [];simpa[Mo.path] using this
theorem Vk{x:Mo}{N:Nat}(hM:OkMa x N){p:Pl}(hp:OkP x N p):∀ s,s∈x.path p.st->OkP x N ⟨s,p.env⟩:=fun s hs=>by
 obtain⟨k,rfl⟩:=E8.qfS hM.toOkX hp.st hs;exact⟨Qn hM.toOkX hp.st k,hp.env⟩
theorem qfV(l:List Bool):l.all id=!decide (false∈l):=by
 rw[jG];simp only[qy,id,Bool.not_eq_true',decide_eq_false_iff_not];exact⟨fun h hm=>by simpa using h _ hm,fun h b hb=>by cases b with|true=>rfl|false=>exact(h hb).elim⟩
theorem qfW(l:List Bool):l.any id=decide (true∈l):=by
 rw[jG];simp
theorem f48(x:Mo)(N:Nat)(n a:Nd)(hM:OkMa x N)(hk:n.kids=[a])(ih:IH x N n)(p:Pl)(hp:OkP x N p)(hq:bd p n)(o48:n.op=48):qH qd 63 [eMa x,ePl p,eNd n] (endB (bX (mapX (fun s=>(den x a).F ⟨s,p.env⟩) (x.path p.st)) fun l => .ok (l.all id))):=by
 refine qQ.of_sound ?_;refine qSW call63 func63 rfl {} ?_;have hMf:=zp x;have hN:=hM.N1;have hl:=hM.len;have hpu:=Wj x N hM p.st hp.st;have hpl:=Ww x p.st;have wpu:WKs [eMa x,aI p.st] [eMa x,aI p.st] := .cons (.hf hMf) (.cons (.hf (HF.sc _)) .nil);have hal:=ph x (x.path p.st) (by omega) p a fun s hs=>ih a (by rw[hk];simp) _ (Vk hM hp s hs) (by show p.env.length+_<=_;omega)
 have wal:WKs [eMa x,lN (x.path p.st),ePl p,eNd a] [eMa x,lN (x.path p.st),ePl p,eNd a] := .cons (.hf hMf) (.cons (WK.intsF _) (.cons (.hf (J9 p)) (.cons (.hf (qI a)) .nil)));simp[go_sem,o48,hk];refine qe.seg [0,1,2,3,5,6,7,8,9,4,10,11,12,13] [(0,0,[]),(1,0,[]),(2,0,[]),(3,0,[]),(5,0,[]),(6,0,[]),(7,0,[]),(8,0,[]),(9,0,[]),(4,1,[5,7,9]),(10,1,[]),(11,1,[]),(12,0,[]),(13,0,[])] (by kernel_rfl) (by kernel_rfl) (by simp[go_sem]) ?_;simp[go_sem,hk];refine qb.pure hpu wpu ?_;simp[go_sem,hk];cases em:mapX (fun s=>(den x a).F ⟨s,p.env⟩) (x.path p.st) with
 |error e =>
  rw[em]at hal;refine qb.pans hal wal ?_;simp[go_sem,q9];exact .hf _ (qE _)
 |ok l =>
  rw[em]at hal;have hll:l.length=(x.path p.st).length:=EK.Wv em;refine qb.pure hal.toP wal ?_;simp[go_sem];refine qb.pure (pi l false (by omega)) (.cons (.hf (UV l)) (.cons (.hf (HF.sc _)) .nil)) ?_;have hb:(l.all id)=!decide (false∈l):=qfV l;generalize decide (false∈l)=B at *
  simp[go_sem,qO,hb];exact .hf _ (HF.sc _)
theorem f49(x:Mo)(N:Nat)(n a:Nd)(hM:OkMa x N)(hk:n.kids=[a])(ih:IH x N n)(p:Pl)(hp:OkP x N p)(hq:bd p n)(o49:n.op=49):qH qd 63 [eMa x,ePl p,eNd n] (endB (bX (mapX (fun s=>(den x a).F ⟨s,p.env⟩) (x.path p.st)) fun l => .ok (l.any id))):=by
 refine qQ.of_sound ?_;refine qSW call63 func63 rfl {} ?_;have hMf:=zp x;have hN:=hM.N1;have hl:=hM.len;have hpu:=Wj x N hM p.st hp.st;have hpl:=Ww x p.st;have wpu:WKs [eMa x,aI p.st] [eMa x,aI p.st] := .cons (.hf hMf) (.cons (.hf (HF.sc _)) .nil);have hal:=ph x (x.path p.st) (by omega) p a fun s hs=>ih a (by rw[hk];simp) _ (Vk hM hp s hs) (by show p.env.length+_<=_;omega)
 have wal:WKs [eMa x,lN (x.path p.st),ePl p,eNd a] [eMa x,lN (x.path p.st),ePl p,eNd a] := .cons (.hf hMf) (.cons (WK.intsF _) (.cons (.hf (J9 p)) (.cons (.hf (qI a)) .nil)));simp[go_sem,o49,hk];refine qe.seg [0,1,2,3,5,6,7,8,9,4,10,11,12] [(0,0,[]),(1,0,[]),(2,0,[]),(3,0,[]),(5,0,[]),(6,0,[]),(7,0,[]),(8,0,[]),(9,0,[]),(4,1,[5,7,9]),(10,1,[]),(11,1,[]),(12,0,[])] (by kernel_rfl) (by kernel_rfl) (by simp[go_sem]) ?_;simp[go_sem,hk];refine qb.pure hpu wpu ?_;simp[go_sem,hk];cases em:mapX (fun s=>(den x a).F ⟨s,p.env⟩) (x.path p.st) with
 |error e =>
  rw[em]at hal;refine qb.pans hal wal ?_;simp[go_sem,q9];exact .hf _ (qE _)
 |ok l =>
  rw[em]at hal;have hll:l.length=(x.path p.st).length:=EK.Wv em;refine qb.pure hal.toP wal ?_;simp[go_sem];refine qb.pure (pi l true (by omega)) (.cons (.hf (UV l)) (.cons (.hf (HF.sc _)) .nil)) ?_;have hb:(l.any id)=decide (true∈l):=qfW l;generalize decide (true∈l)=B at *
  simp[go_sem,qO,hb];exact .hf _ (HF.sc _)
theorem f50(x:Mo)(N:Nat)(n a:Nd)(hM:OkMa x N)(hk:n.kids=[a])(ih:IH x N n)(p:Pl)(hp:OkP x N p)(hq:bd p n)(o50:n.op=50):qH qd 63 [eMa x,ePl p,eNd n] (endB ((den x a).F ⟨x.nx p.st,p.env⟩)):=by
 refine qQ.of_sound ?_;refine qSW call63 func63 rfl {} ?_;have hMf:=zp x;have ha:=(ih a (by rw[hk];simp) _ (OkP.nx hM.toOkM hp) (by show p.env.length+_<=_;omega)).F;have wa:=wk3 x ⟨x.nx p.st,p.env⟩ a;have hN:=hM.N1;have hl:=hM.len;have hnx:=UN x hM.loop (by omega) p.st (by have:=hp.st;omega);have hnw:WKs [eMd x.m,aI p.st] [eMd x.m,aI p.st] := .cons (.hf (yx x.m)) (.cons (.hf (HF.sc _)) .nil);simp[go_sem,o50,hk];refine qe.seg [0,1,2,3,4,5,6,8,9,11,12,13,14,7,10,15,16] [(0,0,[]),(1,0,[]),(2,0,[]),(3,0,[]),(4,0,[]),(5,0,[]),(6,0,[]),(8,0,[]),(9,0,[]),(11,0,[]),(12,0,[]),(13,0,[]),(14,0,[]),(7,1,[9,12,14]),(10,0,[]),(15,1,[]),(16,0,[])] (by kernel_rfl) (by kernel_rfl) (by simp[go_sem]) ?_;simp[go_sem,hk];refine qb.pure hnx hnw ?_;simp[go_sem,hk];cases ea:(den x a).F ⟨x.nx p.st,p.env⟩ with
 |error e =>
  rw[ea]at ha;refine qb.pans ha wa ?_;simp[go_sem];exact .hf _ (qE _)
 |ok r =>
  rw[ea]at ha;refine qb.pure ha.toP wa ?_;simp[go_sem];exact .hf _ (HF.sc _)
theorem f51(x:Mo)(N:Nat)(n a b:Nd)(hM:OkMa x N)(hk:n.kids=[a,b])(ih:IH x N n)(p:Pl)(hp:OkP x N p)(hq:bd p n)(o51:n.op=51):qH qd 63 [eMa x,ePl p,eNd n] (endB (untX (fun s=>(den x a).F ⟨s,p.env⟩) (fun s=>(den x b).F ⟨s,p.env⟩) (x.path p.st) false false)):=by
 refine qQ.of_sound ?_;refine qSW call63 func63 rfl {} ?_;have hMf:=zp x;have hN:=hM.N1;have hl:=hM.len;have hpl:=Ww x p.st;have hr:=qfG x N n a b hM hk p hp (fun s hs=>⟨ih a (by rw[hk];simp) _ (Vk hM hp s hs) (by show p.env.length+_<=_;omega),ih b (by rw[hk];simp) _ (Vk hM hp s hs) (by show p.env.length+_<=_;omega)⟩) (by omega);have wx:=wk3 x p n;generalize untX (fun s=>(den x a).F ⟨s,p.env⟩) (fun s=>(den x b).F ⟨s,p.env⟩) (x.path p.st) false false=E at *
 simp[go_sem,o51];cases E with
 |error e =>
  refine qb.pans hr wx ?_;simp[go_sem];exact .hf _ (qE _)
 |ok r =>
  refine qb.pure hr.toP wx ?_;simp[go_sem];exact .hf _ (HF.sc _)
theorem f47(x:Mo)(N:Nat)(n:Nd)(hM:OkMa x N)(hkl:n.kids.length<=1000000)(ih:IH x N n)(p:Pl)(hp:OkP x N p)(hq:bd p n)(o47:n.op=47):qH qd 63 [eMa x,ePl p,eNd n] (endB (bX (mapX (fun d:Den=>d.E p) (n.kids.map (den x))) fun _ => .error 45)):=by
 refine qQ.of_sound ?_;refine qSW call63 func63 rfl {} ?_;have hMf:=zp x;generalize hE:mapX (fun d:Den=>d.E p) (n.kids.map (den x))=E;simp[go_sem,o47];refine ql.upK n.kids.length (fun k st=>∃ acc,mapX (fun d:Den=>d.E p) ((n.kids.take k).map (den x)) = .ok acc/\st.tm 0=eMa x/\st.tm 4 = .ip (cPl p)/\st.tm 282=lNd n.kids/\st.tm 283=aI n.kids.length/\st.tm 284=aI k) ?_ ?_
 .exact ⟨[],rfl,by simp[go_sem],by simp[go_sem],by simp[go_sem],by simp[go_sem],by simp[go_sem]⟩
 rintro k st hk ⟨acc,ha,e0,e4,e282,e283,e284⟩;by_cases hlt:k<n.kids.length
 .have w1:qj.wrap ((k:Int)+1)=(k:Int)+1:=qg (by omega) (by omega)
  have hF:=(ih n.kids[k] (qu hlt) p hp (by omega)).E;have hw:=wk3 x p n.kids[k];have hsp:=Qt (l2:=(n.kids.drop k).map (den x)) ha;rw[<-zm,ud,zj hlt,yd,mapX,hE]at hsp;simp[go_sem,e0,e4,e282,e283,e284,hlt];cases ef:(den x n.kids[k]).E p with
  |error e =>
   rw[ef]at hF hsp;rw[q9,q9]at hsp;subst hsp;refine qb.pans hF hw ?_;simp[go_sem,q9];exact .hf _ (qE _)
  |ok r =>
   rw[ef]at hF;refine qb.pure hF.toP hw ?_;simp[go_sem,e0,e4,e282,e283,e284,w1];refine⟨hlt,Keep.mk' ⟨acc++[r],?_,by simp[go_sem,e0],by simp[go_sem,e4],by simp[go_sem,e282],by simp[go_sem,e283],by simp[go_sem]⟩⟩;rw[yj hlt,zm,Qt ha,yd,List.map_nil,mapX,ef];rfl
 .have hge:k=n.kids.length:=by omega
  subst hge;rw[zw,hE]at ha;subst ha;rw[qO];simp[go_sem,e0,e4,e282,e283,e284];refine qb.pans (ux 45) (wkI 45) ?_;simp[go_sem];exact .hf _ (qE _)
theorem fNo(x:Mo)(n:Nd)(p:Pl)(h:∀ k:Int,(30<=k/\k<=51)->n.op≠k):qH qd 63 [eMa x,ePl p,eNd n] (endB (.error 43)):=by
 refine qQ.of_sound ?_;refine qSW call63 func63 rfl {} ?_;have hMf:=zp x;have o30:=h 30 (by decide);have o31:=h 31 (by decide);have o32:=h 32 (by decide);have o33:=h 33 (by decide);have o34:=h 34 (by decide);have o35:=h 35 (by decide);have o36:=h 36 (by decide);have o37:=h 37 (by decide);have o38:=h 38 (by decide);have o39:=h 39 (by decide);have o40:=h 40 (by decide);have o41:=h 41 (by decide);have o42:=h 42 (by decide);have o43:=h 43 (by decide);have o44:=h 44 (by decide);have o45:=h 45 (by decide);have o46:=h 46 (by decide);have o47:=h 47 (by decide);have o48:=h 48 (by decide);have o49:=h 49 (by decide);have o50:=h 50 (by decide);have o51:=h 51 (by decide);simp[go_sem,o30,o31,o32,o33,o34,o35,o36,o37,o38,o39,o40,o41,o42,o43,o44,o45,o46,o47,o48,o49,o50,o51];refine qb.pans (ux 43) (wkI 43) ?_;simp[go_sem];exact .hf _ (qE _)
end F9
namespace FA
open Y1 Y9 P2 E3 EA F1 F2 F3 F4 F7 F8 F9
theorem ym{f:Nat}{l:List AV}{A E:XE Bool}(h:qH qd f l (endB A))(e:A=E):qH qd f l (endB E):=e ▸ h
theorem qfX(x:Mo)(N:Nat)(n:Nd)(hw:WfN n)(hM:OkMa x N)(ih:IH x N n)(p:Pl)(hp:OkP x N p)(hq:bd p n) :
  qH qd 63 [eMa x,ePl p,eNd n] (endB ((den x n).F p)):=by
 rw[Qm];show qH _ _ _ (endB (opF x n.op n.name (n.kids.map (den x)) p));by_cases o30:n.op=30
 .exact ym (f30 x N n hw hM ih p hp hq o30) (by rw[o30];rfl)
 by_cases o31:n.op=31
 .exact ym (f31 x N n hw hM ih p hp hq o31) (by rw[o31];rfl)
 by_cases o32:n.op=32
 .obtain ⟨a,b,hk⟩:=yJ hw (by omega)
  exact ym (f32 x N n a b hM hk ih p hp hq o32) (by rw[o32,hk];rfl)
 by_cases o33:n.op=33
 .obtain ⟨a,b,hk⟩:=yJ hw (by omega)
  exact ym (f33 x N n a b hM hk ih p hp hq o33) (by rw[o33,hk];rfl)
 by_cases o34:n.op=34
 .obtain ⟨a,hk⟩:=vh hw (by omega)
  exact ym (f34 x N n a hM hk ih p hp hq o34) (by rw[o34,hk];rfl)
 by_cases o35:n.op=35
 .obtain ⟨a,hk⟩:=vh hw (by omega)
  exact ym (f35 x N n a hM hk ih p hp hq o35) (by rw[o35,hk];rfl)
 by_cases o36:n.op=36
 .obtain ⟨a,hk⟩:=vh hw (by omega)
  exact ym (f36 x N n a hM hk ih p hp hq o36) (by rw[o36,hk];rfl)
 by_cases o37:n.op=37
 .obtain ⟨a,hk⟩:=vh hw (by omega)
  exact ym (f37 x N n a hM hk ih p hp hq o37) (by rw[o37,hk];rfl)
 by_cases o38:n.op=38
 .obtain ⟨a,b,hk⟩:=yJ hw (by omega)
  exact ym (f38 x N n a b hM hk ih p hp hq o38) (by rw[o38,hk];rfl)
 by_cases o39:n.op=39
 .obtain ⟨a,b,hk⟩:=yJ hw (by omega)
  exact ym (f39 x N n a b hM hk ih p hp hq o39) (by rw[o39,hk];rfl)
 by_cases o40:n.op=40
 .obtain ⟨a,hk⟩:=vh hw (by omega)
  exact ym (f40 x N n a hM hk ih p hp hq o40) (by rw[o40,hk];rfl)
 by_cases o41:n.op=41
 .obtain ⟨a,b,hk⟩:=yJ hw (by omega)
  exact ym (f41 x N n a b hM hk ih p hp hq o41) (by rw[o41,hk];rfl)
 by_cases o42:n.op=42
 .obtain ⟨a,b,hk⟩:=yJ hw (by omega)
  exact ym (f42 x N n a b hM hk ih p hp hq o42) (by rw[o42,hk];rfl)
 by_cases o43:n.op=43
 .obtain ⟨a,b,hk⟩:=yJ hw (by omega)
  exact ym (f43 x N n a b hM hk ih p hp hq o43) (by rw[o43,hk];rfl)
 by_cases o44:n.op=44
 .obtain ⟨a,b,hk⟩:=yJ hw (by omega)
  exact ym (f44 x N n a b hM hk ih p hp hq o44) (by rw[o44,hk];rfl)
 by_cases o45:n.op=45
 .obtain ⟨a,b,hk⟩:=yJ hw (by omega)
  exact ym (f45 x N n a b hM hk ih p hp hq o45) (by rw[o45,hk];rfl)
 by_cases o46:n.op=46
 .obtain ⟨a,b,hk⟩:=yJ hw (by omega)
  exact ym (f46 x N n a b hM hk ih p hp hq o46) (by rw[o46,hk];rfl)
 by_cases o47:n.op=47
 .exact ym (f47 x N n hM (by have:=hw.small.len;omega) ih p hp hq o47) (by rw[o47];rfl)
 by_cases o48:n.op=48
 .obtain ⟨a,hk⟩:=vh hw (by omega)
  exact ym (f48 x N n a hM hk ih p hp hq o48) (by rw[o48,hk];rfl)
 by_cases o49:n.op=49
 .obtain ⟨a,hk⟩:=vh hw (by omega)
  exact ym (f49 x N n a hM hk ih p hp hq o49) (by rw[o49,hk];rfl)
 by_cases o50:n.op=50
 .obtain ⟨a,hk⟩:=vh hw (by omega)
  exact ym (f50 x N n a hM hk ih p hp hq o50) (by rw[o50,hk];rfl)
 by_cases o51:n.op=51
 .obtain ⟨a,b,hk⟩:=yJ hw (by omega)
  exact ym (f51 x N n a b hM hk ih p hp hq o51) (by rw[o51,hk];rfl)
 refine ym (fNo x n p fun k hk e=>?_) ?_
 .omega
 .unfold opF
  rw[if_neg o30,if_neg o31,if_neg o32,if_neg o33,if_neg o34,if_neg o35,if_neg o36,if_neg o37,if_neg o38,if_neg o39,if_neg o40,if_neg o41,if_neg o42,if_neg o43,if_neg o44,if_neg o45,if_neg o46,if_neg o47,if_neg o48,if_neg o49,if_neg o50,if_neg o51]
theorem evX(x:Mo)(N:Nat)(hM:OkMa x N):∀(m:Nat) (n:Nd),szN n<=m->WfN n->∀ p:Pl,OkP x N p->bd p n->Ev3 x p n
 | 0,n,hs,_,_,_,_=>by
  obtain⟨op,nm,i,ks,q⟩:=n;simp only[szN,Nd.mk.sizeOf_spec]at hs;omega
 |m+1,n,hs,hw,p,hp,hq=>by
  have ih:IH x N n:=fun k hk p hp hq=>evX x N hM m k (by have:=yi hk;omega) (hw.kid hk) p hp (by have:=qe7 hk;show _+_<=_;omega)
  exact⟨exprX x N n hw hM ih p hp hq,qfH x N n hw hM ih p hp hq,qfX x N n hw hM ih p hp hq,fun r h=>Qs hM.toOkM _ n (qr _) hw p r hp h⟩
end FA
namespace FB
open Y1 Y9 P2 YF E3 EA ET F1 F2 F3 FA
def outE:XE Rl->AV
 | .ok r => .tup [eRel r,aI 0]
 | .error e => .tup [eRel ⟨0,[]⟩,aI e]
def outN:XE Int->AV
 | .ok r => .tup [aI r,aI 0]
 | .error e => .tup [aI 0,aI e]
def outB:XE Bool->AV
 | .ok r => .tup [aB r,aI 0]
 | .error e => .tup [aB false,aI e]
theorem wkM(x:Mo):WKs [eTS x.ts,eMd x.m] [eTS x.ts,eMd x.m] := .cons (.hf (zl x.ts)) (.cons (.hf (yx x.m)) .nil)
theorem Wx(x:Mo)(N:Nat)(n:Nd)(hw:WfN n)(hM:OkMa x N)(p:Pl)(hp:OkP x N p)(hq:bd p n) :
  qi qd 18 [eTS x.ts,eMd x.m,aI p.st,lPm p.env,eNd n] (outB ((den x n).F p)):=by
 have hf:=(evX x N hM (szN n) n (qr _) hw p hp hq).F;have wx:=wk3 x p n;generalize (den x n).F p=E at *
 refine qH.toP ?_;refine qQ.of_sound ?_;refine qY.of_awpD call18 func18 rfl (jo (by kernel_rfl)) (by kernel_rfl) (pl:={}) ?_;simp[go_sem];refine uU.intro (g:=51) (first:=[]) (caps:=[]) (by simp[go_sem]) call51 ?_;simp[go_sem];refine qe.tail 7 (by kernel_rfl) ?_;simp[go_sem];refine qb.pure (UW x hM.gsc) (wkM x) ?_;simp[go_sem];cases E with
 |error e =>
  refine qb.pans hf wx ?_;simp[go_sem];refine zW.mono (UY [.arr [aI 0]] 0 0 e rfl) ?_;rintro _ rfl;simp[go_sem];exact .hf _ (HF.tup (by simp only[qB,zr,or_false,forall_eq_or_imp,forall_eq];exact⟨HF.sc _,HF.sc _⟩))
 |ok r =>
  refine qb.pure hf.toP wx ?_;simp[go_sem];refine zW.mono (UX [.arr [aI 0]] 0 0 rfl) ?_;rintro _ rfl;simp[go_sem];exact .hf _ (HF.tup (by simp only[qB,zr,or_false,forall_eq_or_imp,forall_eq];exact⟨HF.sc _,HF.sc _⟩))
theorem intP(x:Mo)(N:Nat)(n:Nd)(hw:WfN n)(hM:OkMa x N)(p:Pl)(hp:OkP x N p)(hq:bd p n) :
  qi qd 16 [eTS x.ts,eMd x.m,aI p.st,lPm p.env,eNd n] (outN ((den x n).N p)):=by
 have hf:=(evX x N hM (szN n) n (qr _) hw p hp hq).N;have wx:=wk3 x p n;generalize (den x n).N p=E at *
 refine qH.toP ?_;refine qQ.of_sound ?_;refine qY.of_awpD call16 func16 rfl (jo (by kernel_rfl)) (by kernel_rfl) (pl:={}) ?_;simp[go_sem];refine uU.intro (g:=51) (first:=[]) (caps:=[]) (by simp[go_sem]) call51 ?_;simp[go_sem];refine qe.tail 7 (by kernel_rfl) ?_;simp[go_sem];refine qb.pure (UW x hM.gsc) (wkM x) ?_;simp[go_sem];cases E with
 |error e =>
  refine qb.pans hf wx ?_;simp[go_sem];refine zW.mono (UY [.arr [aI 0]] 0 0 e rfl) ?_;rintro _ rfl;simp[go_sem];exact .hf _ (HF.tup (by simp only[qB,zr,or_false,forall_eq_or_imp,forall_eq];exact⟨HF.sc _,HF.sc _⟩))
 |ok r =>
  refine qb.pure hf.toP wx ?_;simp[go_sem];refine zW.mono (UX [.arr [aI 0]] 0 0 rfl) ?_;rintro _ rfl;simp[go_sem];exact .hf _ (HF.tup (by simp only[qB,zr,or_false,forall_eq_or_imp,forall_eq];exact⟨HF.sc _,HF.sc _⟩))
theorem pB(x:Mo)(N:Nat)(n:Nd)(hw:WfN n)(hM:OkMa x N)(p:Pl)(hp:OkP x N p)(hq:bd p n) :
  qi qd 14 [eTS x.ts,eMd x.m,aI p.st,lPm p.env,eNd n] (outE ((den x n).E p)):=by
 have hf:=(evX x N hM (szN n) n (qr _) hw p hp hq).E;have wx:=wk3 x p n;generalize (den x n).E p=E at *
 refine qH.toP ?_;refine qQ.of_sound ?_;refine qY.of_awpD call14 func14 rfl (jo (by kernel_rfl)) (by kernel_rfl) (pl:={}) ?_;simp[go_sem];refine uU.intro (g:=51) (first:=[]) (caps:=[]) (by simp[go_sem]) call51 ?_;simp[go_sem];refine qe.tail 7 (by kernel_rfl) ?_;simp[go_sem];refine qb.pure (UW x hM.gsc) (wkM x) ?_;simp[go_sem];cases E with
 |error e =>
  refine qb.pans hf wx ?_;simp[go_sem];refine zW.mono (UY [.arr [aI 0,.lst true []],.arr [aI 0]] 1 0 e rfl) ?_;rintro _ rfl;simp[go_sem];exact wJ Qq
 |ok r =>
  refine qb.pure hf.toP wx ?_;simp[go_sem];refine zW.mono (UX [.arr [aI r.ar,lI r.ts],.arr [aI 0]] 1 0 rfl) ?_;rintro _ rfl;simp[go_sem];exact wJ (.hf _ (qM r))
end FB
namespace FC
open Y1 P2 YF E3 EO EP F1 F2 F3 F4 F6 F8 FB
def fmV:XE Bool->Bool×Int
 | .ok v=>(v,0)
 | .error e=>(false,e)
theorem Wy(q:XE Bool):outB q = .tup [aB (fmV q).1,aI (fmV q).2]:=by cases q<;>rfl
def uA(I:Nd->Nd×Int)(x:Mo):List Nd->Bool->Bool×Int
 | [],a=>(a,0)
 |b :: l,a=>if (I b).2≠0 then (false,(I b).2) else if (fmV ((den x (I b).1).F ⟨0,[]⟩)).2≠0 then (false,(fmV ((den x (I b).1).F ⟨0,[]⟩)).2) else uA I x l (a&&(fmV ((den x (I b).1).F ⟨0,[]⟩)).1)
theorem Zv(xs:List Nd):zh 5 (xs.map cNd):=fun r hr=>by
 obtain⟨n,_,rfl⟩:=qs.1 hr;exact⟨by cases n;rfl,Zu n⟩
theorem put6(a:ByteArray)(n:Nd):putCells [aS ⟨#[]⟩,aI 0,aS ⟨#[]⟩,aI 0,.lst true [],aI 0] 0 (aS a :: cNd n)=aS a :: cNd n:=by cases n;rfl
theorem qfY(x:Mo)(N:Nat)(hM:OkMa x N)(hN:0<N)(I:Nd->Nd×Int)(n:Nd)(hl:x.ts.facts.length<=1000)(hI:∀ b,b∈x.ts.facts.map Prod.snd++[n]->qi qd 71 [eTS x.ts,eNd b] (.tup [eNd (I b).1,aI (I b).2])/\((I b).2=0->WfN (I b).1/\dN (I b).1<=999999)) :
  qi qd 23 [eTS x.ts,eMd x.m,eNd n] (.tup [aB (uA I x (x.ts.facts.map Prod.snd++[n]) true).1,aI (uA I x (x.ts.facts.map Prod.snd++[n]) true).2]):=by
 generalize hR:uA I x (x.ts.facts.map Prod.snd++[n]) true=R;refine qSQ call23 func23 rfl {} ?_;simp[go_sem];refine ql.upK x.ts.facts.length (fun k st=>st.tm 3 = .ip (cTS x.ts)/\st.tm 4 = .ip (cMd x.m)/\st.tm 5 = .ip (cNd n)/\st.tm 8=aB true/\st.tm 18=lFa x.ts.facts/\st.tm 19=aI x.ts.facts.length/\st.tm 20=aI k/\Own st.mu 5 (st.tm 9) (((x.ts.facts.take k).map Prod.snd).map cNd)) ?_ ?_
 .exact ⟨by simp[go_sem],by simp[go_sem],by simp[go_sem],by simp[go_sem],by simp[go_sem],by simp[go_sem],by simp[go_sem],.inl (by simp[go_sem])⟩
 rintro k st hk ⟨e3,e4,e5,e8,e18,e19,e20,ho⟩;by_cases hlt:k<x.ts.facts.length
 .have w1:qj.wrap ((k:Int)+1)=(k:Int)+1:=qg (by omega) (by omega)
  simp[go_sem,e3,e4,e5,e8,e18,e19,e20,hlt,qo,put6];refine qF.ownB (e:=37) (sz:=5) (bt:=64) (zv := .agg [aI 0,aS ⟨#[]⟩,aI 0,.lst true [],aI 0]) (xs:=((x.ts.facts.take k).map Prod.snd).map cNd) (ys:=[cNd x.ts.facts[k].2]) (by simp[go_sem]) (by simp[go_sem]) (by simp[go_sem]) rfl rfl (by omega) (by omega) (Own.push ho _) (by simp[qG]) (Zv _) (Zv [_]) (by simp;omega) ?_;intro av' mu' ho' _ _ _;simp[go_sem,e3,e4,e5,e8,e18,e19,e20,hlt,w1,Own.one ho'];refine Keep.mk' ⟨by simp[go_sem,e3],by simp[go_sem,e4],by simp[go_sem,e5],by simp[go_sem,e8],by simp[go_sem,e18],by simp[go_sem,e19],by simp[go_sem],?_⟩;rw[yj hlt,zm,zm];simpa[go_sem] using ho'
 .have hge:k=x.ts.facts.length:=by omega
  subst hge;rw[zw]at ho;simp[go_sem,e3,e4,e5,e8,e18,e19,e20];refine qF.ownB (e:=37) (sz:=5) (bt:=64) (zv := .agg [aI 0,aS ⟨#[]⟩,aI 0,.lst true [],aI 0]) (xs:=(x.ts.facts.map Prod.snd).map cNd) (ys:=[cNd n]) (by simp[go_sem]) (by simp[go_sem]) (by simp[go_sem]) rfl rfl (by omega) (by omega) ho (by simp[qG]) (Zv _) (Zv [_]) (by simp;omega) ?_;intro av' mu' ho' _ _ _;have ho2:Own mu' 5 av' ((x.ts.facts.map Prod.snd++[n]).map cNd):=by rw[zm];exact ho'
  have hlb:(x.ts.facts.map Prod.snd++[n]).length<=1001:=by simp;omega
  generalize x.ts.facts.map Prod.snd++[n]=L at *
  simp[go_sem,e3,e4,e5,e8,Own.one ho2];refine OptK.intro (aI L.length) (by rcases ho2 with h|⟨b,h,_⟩<;>rw[h]<;>simp) ?_;simp[go_sem,e3,e4,e5,e8];refine ql.fz ?_;refine FzQ.ownB (d:=33) (by simp[go_sem]) ho2 (Zv L) (fun r hr c hc=>?_) fun mu2 full _ _=>?_
  .obtain ⟨b,_,rfl⟩:=qs.1 hr
   exact vz b c hc
  refine ql.upK L.length (fun k st=>∃ a,st.tm 3 = .ip (cTS x.ts)/\st.tm 4 = .ip (cMd x.m)/\st.tm 8=aB a/\st.tm 33 = .lst full (L.map cNd)/\st.tm 34=aI L.length/\st.tm 35=aI k/\uA I x (L.drop k) a=R) ?_ ?_
  .exact ⟨true,by simp[go_sem,e3],by simp[go_sem,e4],by simp[go_sem,e8],by simp[go_sem],by simp[go_sem],by simp[go_sem],hR⟩
  rintro k st hk ⟨a,f3,f4,f8,f33,f34,f35,hV⟩;by_cases hlt:k<L.length
  .have w1:qj.wrap ((k:Int)+1)=(k:Int)+1:=qg (by omega) (by omega)
   obtain⟨hi,hwf⟩:=hI L[k] (qu hlt);rw[zj hlt,uA]at hV;have wi:WKs [eTS x.ts,eNd L[k]] [eTS x.ts,eNd L[k]] := .cons (.hf (zl _)) (.cons (.hf (qI _)) .nil);simp[go_sem,f3,f4,f8,f33,f34,f35,hlt,qo];refine qb.pure hi wi ?_;generalize hIb:I L[k]=ib at *
   obtain⟨b',e'⟩:=ib;by_cases he:e'=0
   .subst he
    obtain⟨hwb,hsb⟩:=hwf rfl;replace hsb:dN b'<=999999:=hsb;rw[if_neg (by simp)]at hV;have hf:=Wx x N b' hwb hM ⟨0,[]⟩ ⟨hN,by simp⟩ (by show 0+_<=_;omega);have wf:WKs [eTS x.ts,eMd x.m,aI (0:Nat),.lst true [],eNd b'] [eTS x.ts,eMd x.m,aI (0:Nat),lPm [],eNd b'] := .cons (.hf (zl _)) (.cons (.hf (yx _)) (.cons (.hf (HF.sc _)) (.cons (WK.lst fun r hr=>absurd hr zr) (.cons (.hf (qI _)) .nil))));rw[Wy]at hf;simp only at hV;generalize fmV ((den x b').F ⟨0,[]⟩)=q at *
    obtain⟨v,e2⟩:=q;simp[go_sem,f3,f4,f8,f33,f34,f35,hlt,qo];refine qb.pure hf wf ?_;by_cases he2:e2=0
    .subst he2
     rw[if_neg (by simp)]at hV;cases a<;>cases v
     all_goals simp[go_sem,f3,f4,f8,f33,f34,f35,hlt,qo,w1]
     all_goals exact Keep.mk' ⟨_,by simp[go_sem,f3],by simp[go_sem,f4],by simp[go_sem],by simp[go_sem,f33],by simp[go_sem,f34],by simp[go_sem],hV⟩
    .rw [if_pos he2]at hV
     subst hV;simp[go_sem,he2];exact .hf _ (HF.tup (by simp only[qB,zr,or_false,forall_eq_or_imp,forall_eq];exact⟨HF.sc _,HF.sc _⟩))
   .rw [if_pos he]at hV
    subst hV;simp[go_sem,he];exact .hf _ (HF.tup (by simp only[qB,zr,or_false,forall_eq_or_imp,forall_eq];exact⟨HF.sc _,HF.sc _⟩))
  .have hge:k=L.length:=by omega
   subst hge;rw[zL,uA]at hV;subst hV;simp[go_sem,f3,f4,f8,f33,f34,f35];exact .hf _ (HF.tup (by simp only[qB,zr,or_false,forall_eq_or_imp,forall_eq];exact⟨HF.sc _,HF.sc _⟩))
end FC
namespace E9
open P1 YF E1 E3 E4
theorem Qv(sc:Sc)(g:GSc sc):qi qd 22 [eSc sc] (aI (sumI sc.atoms)):=by
 refine qSQ call22 func22 rfl {} ?_;simp[go_sem];refine ql.up sc.atoms.length (fun k st=>st.tm 1 = .ip [lI sc.atoms,aI sc.steps]/\st.tm 3=aI (sumI (sc.atoms.take k))/\st.tm 4=aI k/\st.mu=[]) ?_ ?_
 .simp [go_sem,sumI]
 rintro k st hk ⟨h1,h3,h4,hm⟩;have hl:=g.1;simp[go_sem,h1,h3,h4,hm];refine BrS.intro (fun hlt=>?_) (fun hge=>?_)
 .have hlt:k<sc.atoms.length:=by simpa using hlt
  have hs:=Qe sc.atoms k hlt;have hb':=g.sum (k+1);rw[hs]at hb';simp[go_sem,h1,h3,h4,hm,hlt];exact⟨by rw[hs,qg (by omega) (by omega)],qg (by omega) (by omega)⟩
 .have hge:k=sc.atoms.length:=by simp at hge;omega
  subst hge;simp[go_sem,h1,h3,h4,hm];exact .hf _ (HF.sc _)
def Qw:List Int->Int->Int->Int
 | [],_,_ => -1
 |a :: l,x,i=>if x<a then i else Qw l (x-a) (i+1)
def ZF(sc:Sc)(x:Int):Int:=Qw sc.atoms x 0
theorem qfZ(l:List Int)(k:Nat)(x i:Int)(h:k<l.length):Qw (l.drop k) x i=if x<l[k] then i else Qw (l.drop (k+1)) (x-l[k]) (i+1):=by
 rw[zj h,Qw]
theorem qf0(sc:Sc)(g:GSc sc)(x:Int)(hx : -1000000<=x/\x<=1000000):qi qd 156 [eSc sc,aI x] (aI (ZF sc x)):=by
 refine qSQ call156 func156 rfl {} ?_;simp[go_sem];refine ql.up sc.atoms.length (fun k st=>st.tm 2 = .ip [lI sc.atoms,aI sc.steps]/\st.tm 5=aI k/\st.mu=[]/\∃ y,st.tm 1=aI y/\Qw (sc.atoms.drop k) y k=ZF sc x/\y+5*k>=x/\y<=x) ?_ ?_
 .simp [go_sem,ZF]
 rintro k st hk ⟨h1,h3,hm,y,h4,hy,hy1,hy2⟩;have hl:=g.1;simp[go_sem,h1,h3,h4,hm];refine BrS.intro (fun hlt=>?_) (fun hge=>?_)
 .have hlt:k<sc.atoms.length:=by simpa using hlt
  have hg:=g.get hlt;rw[qfZ _ _ _ _ hlt]at hy;simp[go_sem,h1,h3,h4,hm,hlt];refine BrS.intro (fun hb=>?_) (fun hb=>?_)
  .simp [go_sem,h1,h3,h4,hm,hlt]
   simp at hb;rw[if_pos hb]at hy;rw[<-hy];exact .hf _ (HF.sc _)
  .simp [go_sem,h1,h3,h4,hm,hlt]
   simp at hb;rw[if_neg (by omega)]at hy;rw[qg (by omega) (by omega),qg (by omega) (by omega)];exact⟨rfl,hy,by omega,by omega⟩
 .have hge:k=sc.atoms.length:=by simp at hge;omega
  subst hge;simp[go_sem,h1,h3,h4,hm];simp[Qw]at hy;rw[<-hy];exact .hf _ (HF.sc _)
def jC(sp:Sp)(sc:Sc):Bool:=decide (sc.atoms.length=sp.sorts.length)&&decide (sp.sorts.length<=4)&&decide (1<=sc.steps)&&decide (sc.steps<=4)&&sc.atoms.all (fun a=>decide (1<=a)&&decide (a<=5))&&decide (sumI sc.atoms<=12)
theorem qf1(sp:Sp)(sc:Sc)(ha:sc.atoms.length<=9223372036854775807):qi qd 88 [eSp sp,eSc sc] (aB (jC sp sc)):=by
 refine qSQ call88 func88 rfl {} ?_;by_cases h1:sc.atoms.length=sp.sorts.length
 case neg =>
  simp[go_sem,h1,jC];exact .hf _ (HF.sc _)
 by_cases h2:(4:Int)<sp.sorts.length
 case pos =>
  simp[go_sem,h1,h2,jC,show ¬sp.sorts.length<=4 by omega];exact .hf _ (HF.sc _)
 by_cases h3:sc.steps<1
 case pos =>
  simp[go_sem,h1,h2,h3,jC,show ¬ 1<=sc.steps by omega];exact .hf _ (HF.sc _)
 by_cases h4:4<sc.steps
 case pos =>
  simp[go_sem,h1,h2,h3,h4,jC,show ¬sc.steps<=4 by omega];exact .hf _ (HF.sc _)
 simp[go_sem,h1,h2,h3,h4];refine ql.up sc.atoms.length (fun k st=>st.tm 3 = .ip [lI sc.atoms,aI sc.steps]/\st.tm 5=aI k/\st.mu=[]/\∀(i:Nat) (h:i<sc.atoms.length),i<k->1<=sc.atoms[i]/\sc.atoms[i]<=5) ?_ ?_
 .simp [go_sem]
 rintro k st hk ⟨e3,e5,hm,he⟩;by_cases hlt:k<sc.atoms.length
 .by_cases hb:sc.atoms[k]<1\/5<sc.atoms[k]
  .have:sc.atoms.all (fun a=>decide (1<=a)&&decide (a<=5))=false:=by
    rw[<-Bool.not_eq_true,qy];intro hall;have:=hall _ (qu hlt);simp at this;omega
   have:jC sp sc=false:=by simp only[jC,this,Bool.and_false,Bool.false_and]
   rw[this];by_cases hb1:sc.atoms[k]<1
   .simp [go_sem,e3,e5,hm,hlt,hb1]
    exact .hf _ (HF.sc _)
   .simp [go_sem,e3,e5,hm,hlt,hb1,show 5<sc.atoms[k] by omega]
    exact .hf _ (HF.sc _)
  .simp [go_sem,e3,e5,hm,hlt,show ¬sc.atoms[k]<1 by omega,show ¬ 5<sc.atoms[k] by omega]
   refine⟨qg (by omega) (by omega),fun i h hi=>?_⟩;rcases jU.1 hi with h2|h2
   .exact he i h h2
   .subst h2;exact⟨by omega,by omega⟩
 .have hge:k=sc.atoms.length:=by omega
  subst hge;have hall:sc.atoms.all (fun a=>decide (1<=a)&&decide (a<=5))=true:=by
   rw[qy];intro a ha;obtain⟨i,hi,rfl⟩:=uF ha;have:=he i hi hi;simp;omega
  have g:GSc sc:=⟨by omega,fun a ha=>by
   have:=qy.1 hall a ha;simp at this;omega⟩
  simp[go_sem,e3,e5,hm];refine qb.pure (Qv sc g) (.cons (.hf (yZ sc)) .nil) ?_;simp[go_sem,e3,e5,hm];simp only[jC,h1,hall,show sp.sorts.length<=4 by omega,show 1<=sc.steps by omega,show sc.steps<=4 by omega];simp;exact .hf _ (HF.sc _)
def vG(sc:Sc)(n:Int):List Int->Int->Bool
 | [],_=>true
 |s :: l,x=>decide (ZF sc (x % n)=s)&&vG sc n l (x / n)
theorem qf2(sc:Sc)(n:Int)(l:List Int)(k:Nat)(x:Int)(h:k<l.length):vG sc n (l.drop k) x=(decide (ZF sc (x % n)=l[k])&&vG sc n (l.drop (k+1)) (x / n)):=by
 rw[zj h,vG]
def divN(n x:Int):Nat->Int
 | 0=>x
 |j+1=>divN n x j / n
theorem Wz{n x m:Int}(hn:1<=n)(h0:0<=x)(hm:x<=m):∀ j,0<=divN n x j/\divN n x j<=m
 | 0=>⟨h0,hm⟩
 |j+1=>by
  have ih:=Wz hn h0 hm j;have d0:0<=divN n x j / n:=Int.ediv_nonneg ih.1 (by omega);have d1:divN n x j / n<=divN n x j:=Int.ediv_le_self n ih.1;exact⟨d0,Int.le_trans d1 ih.2⟩
def vW(sc:Sc)(sorts:List Int)(r:Rl):Bool:=r.ts.all (fun t=>vG sc (max 1 (sumI sc.atoms)) sorts.reverse t)
theorem qf3(sc:Sc)(g:GSc sc)(sorts:List Int)(hs:sorts.length<=1000)(r:Rl)(hl:r.ts.length<=9223372036854775807)(hr:∀ t,t∈r.ts->0<=t/\t<=1000000) :
  qi qd 90 [eSc sc,lI sorts,eRel r] (aB (vW sc sorts r)):=by
 refine qSQ call90 func90 rfl {} ?_;simp[go_sem];refine qb.pure (Qv sc g) (.cons (.hf (yZ sc)) .nil) ?_;simp[go_sem];have hsum:=g.sum sc.atoms.length;rw[zw]at hsum;generalize hn:max 1 (sumI sc.atoms)=n;have hn1:1<=n/\n<=20:=by omega
 refine ql.up r.ts.length (fun k st=>st.tm 3 = .ip [lI sc.atoms,aI sc.steps]/\st.tm 5 = .ip [aI r.ar,lI r.ts]/\st.tm 1=lI sorts/\st.tm 7=aI n/\st.tm 8=aI k/\st.mu=[]/\∀(i:Nat) (h:i<r.ts.length),i<k->vG sc n sorts.reverse r.ts[i]=true) ?_ ?_
 .simp [go_sem]
  omega
 rintro k st hk ⟨e3,e5,e1,e7,e8,hm,he⟩;by_cases hlt:k<r.ts.length
 .have hrk:=hr _ (qu hlt)
  simp[go_sem,e3,e5,e1,e7,e8,hm,hlt];refine ql.up sorts.length (fun j st=>st.tm 3 = .ip [lI sc.atoms,aI sc.steps]/\st.tm 5 = .ip [aI r.ar,lI r.ts]/\st.tm 1=lI sorts/\st.tm 7=aI n/\st.tm 8=aI k/\st.mu=[] /\
   st.tm 9=aI (divN n r.ts[k] j)/\st.tm 10=aI (sorts.length-1-j)/\vG sc n (sorts.reverse.drop j) (divN n r.ts[k] j)=vG sc n sorts.reverse r.ts[k]) ?_ ?_
  .simp [go_sem,e3,e5,e1,e7,e8,hm,divN]
   exact qg (by omega) (by omega)
  rintro j st hj ⟨f3,f5,f1,f7,f8,fm,f9,f10,hy⟩;have hyb:=Wz hn1.1 hrk.1 hrk.2 j;have hyb':=Wz hn1.1 hrk.1 hrk.2 (j+1);rw[divN]at hyb';generalize hye:divN n r.ts[k] j=y at *
  generalize hc:(sorts.length:Int)-1-j=c at *
  by_cases hjl:j<sorts.length
  .have hjl':j<sorts.reverse.length:=by simpa using hjl
   rw[qf2 _ _ _ _ _ hjl']at hy;have hyd:y.tdiv n=y / n:=Int.tdiv_eq_ediv_of_nonneg hyb.1;have hym:y.tmod n=y % n:=Int.tmod_eq_emod_of_nonneg hyb.1;have m0:=Int.emod_nonneg y (show n≠0 by omega);have m1:=Int.emod_lt_of_pos y (show 0<n by omega);have hc0:0<=c:=by omega
   have hc1:c<sorts.length:=by omega
   have hcl:c.toNat=sorts.length-1-j:=by omega
   have hcl':sorts.length-1-j<sorts.length:=by omega
   have hrev:sorts.reverse[j]=sorts[sorts.length-1-j]:=by simp
   rw[hrev]at hy;simp[go_sem,f3,f5,f1,f7,f8,f9,f10,fm,hc0];refine qe.intro (by kernel_rfl) ?_;simp[go_sem,f3,f5,f1,f7,f8,f9,f10,fm,show n≠0 by omega,hym];refine qb.pure (qf0 sc g (y % n) (by omega)) (.cons (.hf (yZ sc)) (.cons (.hf (HF.sc _)) .nil)) ?_;by_cases hs:ZF sc (y % n)=sorts[sorts.length-1-j]
   .simp [go_sem,f3,f5,f1,f7,f8,f9,f10,fm,hc0,hc1,hcl,hcl',hs,show n≠0 by omega,hyd]
    refine⟨hjl,?_,?_,?_⟩
    .rw [divN,hye,qg (by omega) (by omega)]
    .rw [qg (by omega) (by omega)];omega
    .rw [divN,hye];simpa[hs] using hy
   .simp [go_sem,f3,f5,f1,f7,f8,f9,f10,fm,hc0,hc1,hcl,hcl',hs]
    have:vW sc sorts r=false:=by
     rw[vW,<-Bool.not_eq_true,qy,hn];intro hall;have:=hall _ (qu hlt);rw[<-hy]at this;simp[hs]at this
    rw[this];exact .hf _ (HF.sc _)
  .have hje:j=sorts.length:=by omega
   subst hje;simp[go_sem,f3,f5,f1,f7,f8,f9,f10,fm,show ¬ 0<=c by omega];refine⟨hlt,qg (by omega) (by omega),fun i h hi=>?_⟩;rcases jU.1 hi with h2|h2
   .exact he i h h2
   .subst h2
    rw[<-hy,List.drop_of_length_le (by simp),vG]
 .have hge:k=r.ts.length:=by omega
  subst hge;simp[go_sem,e3,e5,e1,e7,e8,hm];have:vW sc sorts r=true:=by
   rw[vW,qy,hn];intro t ht;obtain⟨i,hi,rfl⟩:=uF ht;exact he i hi hi
  rw[this];exact .hf _ (HF.sc _)
theorem WA{α:Type}{l:List α}{p:α->Bool}:l.all p=true↔∀(i:Nat) (h:i<l.length),p l[i]=true:=by
 rw[qy];refine⟨fun h i hi=>h _ (qu hi),fun h a ha=>?_⟩;obtain⟨i,hi,rfl⟩:=uF ha;exact h i hi
theorem qf4{α:Type}{l:List α}{p:α->Bool}{i:Nat}(h:i<l.length)(hp:p l[i]=false):l.all p=false:=by
 rw[<-Bool.not_eq_true,WA];intro h';have:=h' i h;simp[hp]at this
def u7(sp:Sp)(f:Fld):Bool:=f.sorts.all (fun s=>decide (0<=s)&&decide (s<sp.sorts.length))&&decide (1<=f.sorts.length)&&decide (f.sorts.length<=3)
theorem qf5{n:Int}{r:Rl}(h:yW n r=true):∀ t,t∈r.ts->0<=t/\t<=1000000:=by
 intro t ht;simp only[yW,qx,decide_eq_true_eq,qy]at h;obtain⟨⟨⟨⟨⟨h1,h2⟩,h3⟩,h4⟩,h5⟩,_⟩:=h;have h6:=h5 t ht;have h7:=J3 h1 (by omega) (powN r.ar) (by unfold powN;omega);unfold powI at h6;omega
theorem WB{sp:Sp}{sc:Sc}(h:jC sp sc=true):GSc sc:=by
 simp only[jC,qx,decide_eq_true_eq,qy]at h;obtain⟨⟨⟨⟨⟨h1,h2⟩,h3⟩,h4⟩,h5⟩,_⟩:=h;exact⟨by omega,fun a ha=>by have:=h5 a ha;omega⟩
abbrev ipSp(sp:Sp):AV := .ip [.lst false (sp.sorts.map Zr),.lst false (sp.fields.map uo),.lst false sp.preds,.lst false sp.facts]
abbrev ipMd(m:Md):AV := .ip (cMd m)
structure Qx (sp:Sp) (m:Md):Prop where
 ns:sp.sorts.length<=10
 nf:sp.fields.length<=10
 nt:m.states.length<=64
 na:m.sc.atoms.length<=10
 st:∀(i:Nat) (h:i<m.states.length),m.states[i].length<=10/\∀(j:Nat) (h':j<m.states[i].length),(m.states[i][j]).ts.length<=200
 fs:∀(i:Nat) (h:i<sp.fields.length),(sp.fields[i]).sorts.length<=10
def ZG(sp:Sp)(m:Md):Bool:=decide (sp.sorts.length<=10)&&decide (sp.fields.length<=10)&&decide (m.states.length<=64)&&decide (m.sc.atoms.length<=10) &&
 (m.states.all fun s=>decide (s.length<=10)&&s.all fun r=>decide (r.ts.length<=200))&&sp.fields.all fun f=>decide (f.sorts.length<=10)
theorem YJ{sp:Sp}{m:Md}:ZG sp m=true↔Qx sp m:=by
 simp only[ZG,qx,decide_eq_true_eq,WA];constructor
 .rintro ⟨⟨⟨⟨⟨h1,h2⟩,h3⟩,h4⟩,h5⟩,h6⟩
  exact⟨h1,h2,h3,h4,h5,h6⟩
 .rintro ⟨h1,h2,h3,h4,h5,h6⟩
  exact⟨⟨⟨⟨⟨h1,h2⟩,h3⟩,h4⟩,h5⟩,h6⟩
theorem Qy{sp:Sp}{m:Md}(h:¬Qx sp m):ZG sp m=false:=by
 rw[<-Bool.not_eq_true,YJ];exact h
theorem pC(sp:Sp)(m:Md):qi qd 44 [eSp sp,eMd m] (aB (ZG sp m)):=by
 refine qSQ call44 func44 rfl {} ?_;simp[go_sem];by_cases h1:(10:Int)<sp.sorts.length
 .simp [go_sem,h1]
  rw[Qy fun h=>by have:=h.ns;omega];exact .hf _ (HF.sc _)
 by_cases h2:(10:Int)<sp.fields.length
 .simp [go_sem,h1,h2]
  rw[Qy fun h=>by have:=h.nf;omega];exact .hf _ (HF.sc _)
 by_cases h3:(64:Int)<m.states.length
 .simp [go_sem,h1,h2,h3]
  rw[Qy fun h=>by have:=h.nt;omega];exact .hf _ (HF.sc _)
 by_cases h4:(10:Int)<m.sc.atoms.length
 .simp [go_sem,h1,h2,h3,h4]
  rw[Qy fun h=>by have:=h.na;omega];exact .hf _ (HF.sc _)
 simp[go_sem,h1,h2,h3,h4];refine ql.up m.states.length (fun k st=>st.tm 2=ipSp sp/\st.tm 3=ipMd m/\st.tm 5=aI k/\st.mu=[]/\∀(i:Nat) (h:i<m.states.length),i<k->m.states[i].length<=10/\∀(j:Nat) (h':j<m.states[i].length),(m.states[i][j]).ts.length<=200) ?_ ?_
 .simp [go_sem]
 rintro k st hk ⟨e2,e3,e5,hm,he⟩;by_cases hlt:k<m.states.length
 .simp [go_sem,e2,e3,e5,hm,hlt]
  by_cases h5:(10:Int)<m.states[k].length
  .simp [go_sem,e2,e3,e5,hm,hlt,h5]
   rw[Qy fun h=>by have:=(h.st k hlt).1;omega];exact .hf _ (HF.sc _)
  simp[go_sem,e2,e3,e5,hm,hlt,h5];refine ql.up m.states[k].length (fun j st=>st.tm 2=ipSp sp/\st.tm 3=ipMd m/\st.tm 5=aI k/\st.tm 6=aI j/\st.mu=[]/\∀(i:Nat) (h:i<m.states[k].length),i<j->(m.states[k][i]).ts.length<=200) ?_ ?_
  .simp [go_sem,e2,e3,e5,hm]
  clear e2 e3 e5 hm st;rintro j st hj ⟨e2,e3,e5,e6,hm,he2⟩;by_cases hjl:j<m.states[k].length
  .by_cases h6:(200:Int)<(m.states[k][j]).ts.length
   .simp [go_sem,e2,e3,e5,e6,hm,hlt,hjl,h6]
    rw[Qy fun h=>by have:=(h.st k hlt).2 j hjl;omega];exact .hf _ (HF.sc _)
   simp[go_sem,e2,e3,e5,e6,hm,hlt,hjl,h6];refine⟨qg (by omega) (by omega),fun i h hi=>?_⟩;rcases jU.1 hi with h7|h7
   .exact he2 i h h7
   .subst h7;omega
  .have hje:j=m.states[k].length:=by omega
   simp[go_sem,e2,e3,e5,e6,hm,hlt,hjl];refine⟨qg (by omega) (by omega),fun i h hi=>?_⟩;rcases jU.1 hi with h7|h7
   .exact he i h h7
   .subst h7;exact⟨by omega,fun q hq=>he2 q hq (by omega)⟩
 .have hst:∀(i:Nat) (h:i<m.states.length),m.states[i].length<=10/\∀(j:Nat) (h':j<m.states[i].length),(m.states[i][j]).ts.length<=200:=fun i h=>he i h (by omega)
  simp[go_sem,e2,e3,e5,hm,hlt];refine ql.up sp.fields.length (fun k st=>st.tm 2=ipSp sp/\st.tm 7=aI k/\st.mu=[]/\∀(i:Nat) (h:i<sp.fields.length),i<k->(sp.fields[i]).sorts.length<=10) ?_ ?_
  .simp [go_sem,e2,hm]
  clear e2 e3 e5 hm he st;rintro j st hj ⟨e2,e7,hm,he⟩;by_cases hjl:j<sp.fields.length
  .by_cases h6:(10:Int)<(sp.fields[j]).sorts.length
   .simp [go_sem,e2,e7,hm,hjl,h6]
    rw[Qy fun h=>by have:=h.fs j hjl;omega];exact .hf _ (HF.sc _)
   simp[go_sem,e2,e7,hm,hjl,h6];refine⟨qg (by omega) (by omega),fun i h hi=>?_⟩;rcases jU.1 hi with h7|h7
   .exact he i h h7
   .subst h7;omega
  .simp [go_sem,e2,e7,hm,hjl]
   rw[YJ.2 ⟨by omega,by omega,by omega,by omega,hst,fun i h=>he i h (by omega)⟩];exact .hf _ (HF.sc _)
theorem qf6(sp:Sp)(f:Fld)(hl:f.sorts.length<=9223372036854775807):qi qd 89 [eSp sp,KP f] (aB (u7 sp f)):=by
 refine qSQ call89 func89 rfl {} ?_;simp[go_sem];refine ql.up f.sorts.length (fun k st=>st.tm 2 = .ip [.lst false (sp.sorts.map Zr),.lst false (sp.fields.map uo),.lst false sp.preds,.lst false sp.facts]/\st.tm 3 = .ip (uo f)/\st.tm 5=aI k/\st.mu=[]/\∀(i:Nat) (h:i<f.sorts.length),i<k->0<=f.sorts[i]/\f.sorts[i]<sp.sorts.length) ?_ ?_
 .simp [go_sem]
 rintro k st hk ⟨e2,e3,e5,hm,he⟩;by_cases hlt:k<f.sorts.length
 .have bad:¬(0<=f.sorts[k]/\f.sorts[k]<sp.sorts.length)->u7 sp f=false:=by
   intro hb;have:=qf4 (l:=f.sorts) (i:=k) (p:=fun s=>decide (0<=s)&&decide (s<sp.sorts.length)) hlt (by simp;omega);simp only[u7,this,Bool.false_and]
  simp[go_sem,e2,e3,e5,hm,hlt];refine qe.intro (by kernel_rfl) ?_;by_cases ha:f.sorts[k]<0
  .simp [go_sem,e2,e3,e5,hm,hlt,ha]
   rw[bad (by omega)];exact .hf _ (HF.sc _)
  by_cases hb:(sp.sorts.length:Int)<=f.sorts[k]
  .simp [go_sem,e2,e3,e5,hm,hlt,ha,hb]
   rw[bad (by omega)];exact .hf _ (HF.sc _)
  simp[go_sem,e2,e3,e5,hm,hlt,ha,hb];refine⟨qg (by omega) (by omega),fun i h hi=>?_⟩;rcases jU.1 hi with h2|h2
  .exact he i h h2
  .subst h2;exact⟨by omega,by omega⟩
 .have hge:k=f.sorts.length:=by omega
  subst hge;have hall:f.sorts.all (fun s=>decide (0<=s)&&decide (s<sp.sorts.length))=true:=WA.2 fun i hi=>by simpa using he i hi hi
  by_cases h1:(1:Int)<=f.sorts.length
  .have h1':1<=f.sorts.length:=by omega
   by_cases h2:(f.sorts.length:Int)<=3
   .have h2':f.sorts.length<=3:=by omega
    simp[go_sem,e2,e3,e5,hm,h1,h2];simp only[u7,hall,h1',h2'];exact .hf _ (HF.sc _)
   .have h2':¬f.sorts.length<=3:=by omega
    simp[go_sem,e2,e3,e5,hm,h1,h2];simp only[u7,hall,h1',h2'];exact .hf _ (HF.sc _)
  .have h1':¬ 1<=f.sorts.length:=by omega
   simp[go_sem,e2,e3,e5,hm,h1];simp only[u7,hall,h1'];exact .hf _ (HF.sc _)
noncomputable def dec(p:Prop):Bool:=@decide p (Classical.propDecidable p)
theorem pD{p:Prop}(h:p):dec p=true:=@decide_eq_true p (Classical.propDecidable p) h
theorem vX{p:Prop}(h:¬p):dec p=false:=@decide_eq_false p (Classical.propDecidable p) h
def ZH(sp:Sp)(m:Md)(s i:Nat)(hs:s<m.states.length)(hi:i<sp.fields.length)(h:m.states[s].length=sp.fields.length):Prop:=
 m.states[s][i].ar=sp.fields[i].sorts.length/\yW (sumI m.sc.atoms) m.states[s][i]=true/\vW m.sc sp.fields[i].sorts m.states[s][i]=true/\(sp.fields[i].var=false->(m.states[0]?.bind (·[i]?))=some m.states[s][i])
structure MVal (sp:Sp) (m:Md):Prop where
 sc:jC sp m.sc=true
 ns:(m.states.length:Int)=m.sc.steps
 l0:0<=m.loop
 l1:m.loop<m.sc.steps
 fld:∀(i:Nat) (h:i<sp.fields.length),u7 sp sp.fields[i]=true
 len:∀(s:Nat) (h:s<m.states.length),m.states[s].length=sp.fields.length
 cell:∀(s i:Nat) (hs:s<m.states.length) (hi:i<sp.fields.length),ZH sp m s i hs hi (len s hs)
theorem pF(sp:Sp)(m:Md)(hsm:Qx sp m):qi qd 45 [eSp sp,eMd m] (aB (dec (MVal sp m))):=by
 refine qSQ call45 func45 rfl {} ?_;simp[go_sem];refine qb.pure (qf1 sp m.sc (by have:=hsm.na;omega)) (.cons (.hf (KQ sp)) (.cons (.hf (yZ m.sc)) .nil)) ?_;by_cases h1:jC sp m.sc=true
 case neg =>
  rw[vX fun h=>h1 h.sc];simp[go_sem,h1];exact .hf _ (HF.sc _)
 have g:=WB h1;by_cases h2:(m.states.length:Int)=m.sc.steps
 case neg =>
  rw[vX fun h=>h2 h.ns];simp[go_sem,h1,h2];exact .hf _ (HF.sc _)
 by_cases h3:m.loop<0
 .rw [vX fun h=>by have:=h.l0;omega]
  simp[go_sem,h1,h2,h3];exact .hf _ (HF.sc _)
 by_cases h4:m.sc.steps<=m.loop
 .rw [vX fun h=>by have:=h.l1;omega]
  simp[go_sem,h1,h2,h3,h4];exact .hf _ (HF.sc _)
 have hsum:=GSc.sum g sp.sorts.length;simp[go_sem,h1,h2,h3,h4];refine qb.pure (Qv m.sc g) (.cons (.hf (yZ m.sc)) .nil) ?_;simp[go_sem,h1,h2,h3,h4];refine ql.keep (fun q st=>∃ k,q=sp.fields.length-k/\k<=sp.fields.length/\st.tm 2=ipSp sp/\st.tm 3=ipMd m/\st.tm 5=aI (sumI m.sc.atoms)/\st.tm 6=aI (k:Nat)/\(∀(i:Nat) (h:i<sp.fields.length),i<k->u7 sp sp.fields[i]=true /\
  ∀(s:Nat) (hs:s<m.states.length),∃ hl:m.states[s].length=sp.fields.length,ZH sp m s i hs h hl)) sp.fields.length ?_ ?_
 .exact ⟨0,by omega,by omega,by simp[go_sem],by simp[go_sem],by simp[go_sem],by simp[go_sem],fun i _ h=>by omega⟩
 rintro q st ⟨k,rfl,hk,e2,e3,e5,e6,he⟩;have hf10:=hsm.nf;have hs64:=hsm.nt;by_cases hlt:k<sp.fields.length
 .have hfs:=hsm.fs k hlt
  simp[go_sem,e2,e3,e5,e6,hlt];generalize st.mu=mu0;refine qb.pure (qf6 sp sp.fields[k] (by omega)) (.cons (.hf (KQ sp)) (.cons (.hf (qcI _)) .nil)) ?_;by_cases h5:u7 sp sp.fields[k]=true
  case neg =>
   rw[vX fun h=>h5 (h.fld k hlt)];simp[go_sem,h5];exact .hf _ (HF.sc _)
  simp[go_sem,e2,e3,e5,e6,hlt,h5];refine ql.keep (fun q2 st=>∃ s,q2=m.states.length-s/\s<=m.states.length/\st.tm 2=ipSp sp/\st.tm 3=ipMd m/\st.tm 5=aI (sumI m.sc.atoms)/\st.tm 6=aI (k:Nat)/\st.tm 7 = .ptr mu0.length 0/\st.tm 8=aI (s:Nat)/\st.mu[mu0.length]?=some (.arr (uo sp.fields[k])) /\
   (∀(u:Nat) (hu:u<m.states.length),u<s->∃ hl:m.states[u].length=sp.fields.length,ZH sp m u k hu hlt hl)) m.states.length ?_ ?_
  .exact ⟨0,by omega,by omega,by simp[go_sem,e2],by simp[go_sem,e3],by simp[go_sem,e5],by simp[go_sem,e6],by simp[go_sem],by simp[go_sem],by simp[go_sem],fun u _ h=>by omega⟩
  clear e2 e3 e5 e6 st;rintro q2 st ⟨s,rfl,hs,e2,e3,e5,e6,e7,e8,hmL,he2⟩;generalize mu0.length=L at *
  by_cases hsl:s<m.states.length
  .simp [go_sem,e2,e3,e5,e6,e7,e8,hlt,hsl]
   refine qe.intro (by kernel_rfl) ?_;have hL:L<st.mu.length:=(qk.1 hmL).1;generalize st.mu=mu1 at *
   by_cases h6:m.states[s].length=sp.fields.length
   case neg =>
    rw[vX fun h=>h6 (h.len s hsl)];simp[go_sem,e2,e3,e5,e6,e7,e8,hlt,hsl,h6];exact .hf _ (HF.sc _)
   have hki:k<m.states[s].length:=by omega
   have hmL1:mu1[L]'hL = .arr (uo sp.fields[k]):=by
    rw[qv hL]at hmL;exact Option.some.inj hmL
   have h0l:0<m.states.length:=by omega
   have hr200:=(hsm.st s hsl).2 k hki;simp[go_sem,e2,e3,e5,e6,e7,e8,hlt,hsl,h6,hki];refine qe.intro (by kernel_rfl) ?_;generalize hr:m.states[s][k]=r at *
   by_cases c1:r.ar=sp.fields[k].sorts.length
   case neg =>
    rw[vX fun h=>c1 (hr ▸ (h.cell s k hsl hlt).1)];simp[go_sem,e2,e3,e5,e6,e7,e8,hlt,hsl,h6,hki,hmL1,hL,c1];exact .hf _ (HF.sc _)
   obtain⟨ar,ts⟩:=r;simp only at c1 hr200;subst c1;simp[go_sem,e2,e3,e5,e6,e7,e8,hlt,hsl,h6,hki,hmL1,hL];refine qb.pure (UQ (sumI m.sc.atoms) ⟨sp.fields[k].sorts.length,ts⟩ (by simp only;omega)) (.cons (.hf (HF.sc _)) (.cons (.hf (qM ⟨sp.fields[k].sorts.length,ts⟩)) .nil)) ?_;by_cases c2:yW (sumI m.sc.atoms) ⟨sp.fields[k].sorts.length,ts⟩=true
   case neg =>
    rw[vX fun h=>c2 (hr ▸ (h.cell s k hsl hlt).2.1)];simp[go_sem,e2,e3,e5,e6,e7,e8,hlt,hsl,h6,hki,hmL1,hL,c2];exact .hf _ (HF.sc _)
   simp[go_sem,e2,e3,e5,e6,e7,e8,hlt,hsl,h6,hki,hmL1,hL,c2];refine qb.pure (qf3 m.sc g sp.fields[k].sorts (by omega) ⟨sp.fields[k].sorts.length,ts⟩ (by simp only;omega) (qf5 c2)) (.cons (.hf (yZ _)) (.cons (.hf (zM _)) (.cons (.hf (qM ⟨sp.fields[k].sorts.length,ts⟩)) .nil))) ?_;by_cases c3:vW m.sc sp.fields[k].sorts ⟨sp.fields[k].sorts.length,ts⟩=true
   case neg =>
    rw[vX fun h=>c3 (hr ▸ (h.cell s k hsl hlt).2.2.1)];simp[go_sem,e2,e3,e5,e6,e7,e8,hlt,hsl,h6,hki,hmL1,hL,c3];exact .hf _ (HF.sc _)
   have next:(sp.fields[k].var=false->(m.states[0]?.bind (·[k]?))=some (⟨sp.fields[k].sorts.length,ts⟩:Rl))->∀(u:Nat) (hu:u<m.states.length),u<s+1->∃ hl:m.states[u].length=sp.fields.length,ZH sp m u k hu hlt hl:=by
    intro hv u hu hus;rcases jU.1 hus with h7|h7
    .exact he2 u hu h7
    .subst h7
     refine⟨h6,?_⟩;unfold ZH;rw[hr];exact⟨rfl,c2,c3,hv⟩
   have hws:qj.wrap ((s:Int)+1)=((s+1:Nat):Int):=by rw[qg (by omega) (by omega)];omega
   by_cases c4:sp.fields[k].var=true
   .simp [go_sem,e2,e3,e5,e6,e7,e8,hlt,hsl,h6,hki,hmL1,hL,c3,c4]
    exact Keep.loop (m.states.length-(s+1)) (by omega) ⟨s+1,rfl,by omega,by simp[go_sem,e2],by simp[go_sem,e3],by simp[go_sem,e5],by simp[go_sem,e6],by simp[go_sem,e7],by simp[go_sem,hws],by simp[go_sem,hL,hmL1],next fun h=>by rw[c4]at h;simp at h⟩
   have c4':sp.fields[k].var=false:=by simpa using c4
   have h00:k<m.states[0].length:=by
    by_cases hs0:s=0
    .subst hs0;exact hki
    .obtain ⟨hl,_⟩:=he2 0 h0l (by omega)
     omega
   generalize hr0:m.states[0][k]=r0 at *
   have hb0:(m.states[0]?.bind (·[k]?))=some r0:=by
    rw[qv h0l,Option.bind_some,qv h00,hr0]
   simp[go_sem,e2,e3,e5,e6,e7,e8,hlt,hsl,h6,hki,hmL1,hL,c3,c4',h0l,h00,hr0];refine qb.pure (US ⟨sp.fields[k].sorts.length,ts⟩ r0 (by simp only;omega)) (.cons (.hf (qM ⟨sp.fields[k].sorts.length,ts⟩)) (.cons (.hf (qM r0)) .nil)) ?_;by_cases c5:(⟨sp.fields[k].sorts.length,ts⟩:Rl)=r0
   case neg =>
    rw[vX fun h=>c5 (by
     have:=(h.cell s k hsl hlt).2.2.2 c4';rw[hb0,hr]at this;exact(Option.some.inj this).symm)]
    simp[go_sem,e2,e3,e5,e6,e7,e8,hlt,hsl,h6,hki,hmL1,hL,c3,c4',h0l,h00,hr0,c5];exact .hf _ (HF.sc _)
   simp[go_sem,e2,e3,e5,e6,e7,e8,hlt,hsl,h6,hki,hmL1,hL,c3,c4',h0l,h00,hr0,c5];exact Keep.loop (m.states.length-(s+1)) (by omega) ⟨s+1,rfl,by omega,by simp[go_sem,e2],by simp[go_sem,e3],by simp[go_sem,e5],by simp[go_sem,e6],by simp[go_sem,e7],by simp[go_sem,hws],by simp[go_sem,hL,hmL1],next fun h=>by rw[hb0,c5]⟩
  .have hse:s=m.states.length:=by omega
   have hwk:qj.wrap ((k:Int)+1)=((k+1:Nat):Int):=by rw[qg (by omega) (by omega)];omega
   simp[go_sem,e2,e3,e5,e6,e7,e8,hlt,hsl];refine Keep.loop (sp.fields.length-(k+1)) (by omega) ⟨k+1,rfl,by omega,by simp[go_sem,e2],by simp[go_sem,e3],by simp[go_sem,e5],by simp[go_sem,hwk],fun i h hi=>?_⟩;rcases jU.1 hi with h7|h7
   .exact he i h h7
   .subst h7;exact⟨h5,fun u hu=>he2 u hu (by omega)⟩
 .have hke:k=sp.fields.length:=by omega
  simp[go_sem,e2,e3,e5,e6,hlt];refine ql.up m.states.length (fun s st=>st.tm 2=ipSp sp/\st.tm 3=ipMd m/\st.tm 10=aI s/\∀(u:Nat) (hu:u<m.states.length),u<s->m.states[u].length=sp.fields.length) ?_ ?_
  .simp [go_sem,e2,e3]
  clear e2 e3 e5 e6 st;rintro s st hs ⟨e2,e3,e10,he2⟩;by_cases hsl:s<m.states.length
  .simp [go_sem,e2,e3,e10,hsl]
   refine qe.intro (by kernel_rfl) ?_;by_cases h6:m.states[s].length=sp.fields.length
   case neg =>
    rw[vX fun h=>h6 (h.len s hsl)];simp[go_sem,e2,e3,e10,hsl,h6];exact .hf _ (HF.sc _)
   simp[go_sem,e2,e3,e10,hsl,h6];refine⟨qg (by omega) (by omega),fun u hu hus=>?_⟩;rcases jU.1 hus with h7|h7
   .exact he2 u hu h7
   .subst h7;exact h6
  .rw [pD ⟨h1,h2,by omega,by omega,fun i h=>(he i h (by omega)).1,fun u hu=>he2 u hu (by omega),fun u i hu hi=>((he i hi (by omega)).2 u hu).2⟩]
   simp[go_sem,e2,e3,e10,hsl];exact .hf _ (HF.sc _)
def spOf(ts:TS):Sp:=⟨ts.sorts,ts.fields,ts.preds.map cPd,ts.facts.map cFa,wI ts.preds,Ys ts.facts⟩
end E9
namespace Y13
open Y1 Y2 Y3 P1 YM Y5 Y6 Y7 YF Y9 Y10 Y11 Y12 P2
theorem qf7(p:Pd)(n:Nd):qi qd 258 [.agg (cPd p),.ip (cNd n)] (aB (decide (p.name=n.name))):=by
 refine qSQ call258 func258 rfl {} ?_;simp[go_sem,yk];exact .hf _ (HF.sc _)
def vY(c:Ck)(s:Scp)(n:Nd):Res:=
 if (c.ts.preds.any fun p=>decide (p.name=n.name))=true then
  match zD c n.name with
  |none => .error (45,n.pos)
  |some p=>match c.ts.preds[p]? with
   |none => .error (45,n.pos)
   |some pd=>if pd.params.length=n.kids.length then zP c s n.pos pd.params n.kids else .error (45,n.pos)
 else .error (40,n.pos)
def endC:Res->AEnd
 | .ok _ => .ret (.tup [])
 | .error e => .pan (jw e.1 e.2)
@[go_sem] theorem endC_ok(k:Option Kd):endC (.ok k) = .ret (.tup []):=rfl
@[go_sem] theorem qm4(e:Dg):endC (.error e) = .pan (jw e.1 e.2):=rfl
theorem WC(n:Nd):HF (.ip (cNd n)):=HF.ip (vz n)
theorem hf_t0:HF (.tup []):=HF.tup (by simp)
theorem callU(c:Ck)(hc:okCk c)(s:Scp)(hs:ScOk c.ts.sorts.length s)(n:Nd)(hw:WfN n)(hop:n.op=47)
  (ih:∀ k,k∈n.kids->qH qd 210 [eCk c,aSc s,eNd k,aB true] (endK (exam c s true k))) :
  qH qd 238 [eCk c,aSc s,eNd n] (endC (vY c s n)):=by
 refine qQ.of_sound ?_;refine qSW call238 func238 rfl {} ?_;have hnp:=hc.ts.np;have hkl:=hw.len;have hany:=hasPd false c.ts.preds (.fn (.func 258) [] [.ip (cNd n)]) (fun p=>decide (p.name=n.name)) ⟨_,_,_,rfl,fun p hp=>⟨_,qf7 p n,.cons (.hf (HF.agg (UJ p))) (.cons (.hf (WC n)) .nil)⟩⟩ (HF.fn (by simp) (fun x hx=>by simp at hx;subst hx;exact WC n)) (wI _) (by omega);have hwk:WKs [lPd c.ts.preds,.fn (.func 258) [] [.ip (cNd n)]] [lPd c.ts.preds,.fn (.func 258) [] [.ip (cNd n)]] := .cons (.hf (wI _)) (.cons (.hf (HF.fn (by simp) (fun x hx=>by simp at hx;subst hx;exact WC n))) .nil);generalize hR:vY c s n=R;unfold vY at hR;simp[go_sem];cases hA:c.ts.preds.any (fun p=>decide (p.name=n.name)) with
 |false =>
  rw[hA]at hany hR;subst hR;refine qe.tail 8 (by kernel_rfl) ?_;simp[go_sem];refine qb.pure hany hwk ?_;simp[go_sem];refine qb.pans (zN false 40 n) (wkR n false 40) ?_;simp[go_sem];exact .hf _ (ya _ _)
 |true =>
  rw[hA]at hany hR;rw[if_pos rfl]at hR;refine qe.intro (by kernel_rfl) ?_;simp[go_sem];refine qb.pure hany hwk ?_;simp[go_sem];refine qb.pure (zN true 40 n).toP (wkR n true 40) ?_;simp[go_sem];refine qb.pure (kq c hc n.name) (.cons (.hf (yV c)) (.cons (.hf (HF.sc _)) .nil)) ?_;cases hcal:zD c n.name with
  |none =>
   rw[hcal]at hR;subst hR;simp[go_sem];refine qe.tail 19 (by kernel_rfl) ?_;simp[go_sem];refine qb.pans (zN false 45 n) (wkR n false 45) ?_;simp[go_sem];exact .hf _ (ya _ _)
  |some p =>
   obtain⟨hp1,hp2⟩:=Yt hc hcal;have hpd:=hc.ts.pl _ (qu hp2);rw[hcal]at hR;simp only[qv hp2]at hR;simp[go_sem];generalize hpp:c.ts.preds[p]=pd at *
   by_cases hpl:pd.params.length=n.kids.length
   .rw [if_pos hpl]at hR
    refine qe.intro (by kernel_rfl) ?_;simp[go_sem,hp2,hpp,hpl];refine qb.pure (zN true 45 n).toP (wkR n true 45) ?_;simp[go_sem,hp2,hpp,hpl];have hsh:=hw.shape;have hkd:∀(k:Nat) (h:k<n.kids.length),kd n.kids[k].op=101:=by
     have e:shp n.op n.kids.length=some (List.replicate (min n.kids.length 401) 101):=by
      unfold shp;rw[if_neg (by omega),if_neg (by omega),if_neg (by omega),if_neg (by omega),if_neg (by omega),if_neg (by omega),if_neg (by omega),if_pos hop]
     rw[e]at hsh;simp only[qn]at hsh;intro k h;have h2:(n.kids.map fun k=>kd k.op)[k]?=some (kd n.kids[k].op):=by rw[zk,qv h];rfl
     rw[<-hsh,List.getElem?_replicate]at h2;split at h2
     .simpa using h2.symm
     .exact absurd h2 (by simp)
    refine ql.upK pd.params.length (fun k st=>st.tm 0=eCk c/\st.tm 1=aSc s/\st.tm 5 = .ip (cNd n)/\st.tm 54=lPm pd.params/\st.tm 55=aI n.kids.length/\st.tm 56=aI k/\zP c s n.pos (pd.params.drop k) (n.kids.drop k)=R) ?_ ?_
    .exact ⟨by simp[go_sem],by simp[go_sem],by simp[go_sem],by simp[go_sem],by simp[go_sem],by simp[go_sem],by simpa using hR⟩
    .rintro k st hk ⟨e0,e1,e5,e54,e55,e56,hE⟩
     by_cases hkl':k=pd.params.length
     .subst hkl'
      rw[zL,hpl,zL]at hE;simp only[zP]at hE;subst hE;simp[go_sem,e0,e1,e5,e54,e55,e56,hpl];exact .hf _ hf_t0
     .have hlt:k<pd.params.length:=by omega
      have hlt2:k<n.kids.length:=by omega
      have w1:qj.wrap ((k:Int)+1)=(k:Int)+1:=qg (by omega) (by omega);have hi:=ih n.kids[k] (qu hlt2);rw[zj hlt,zj hlt2]at hE;simp only[zP]at hE;have hok:=u6 hc (szN n.kids[k]) n.kids[k] s true;have hkk:=hkd k hlt2;have hwk':=hw.kid (qu hlt2);simp[go_sem,e0,e1,e5,e54,e55,e56,hlt,hlt2,qo];cases hx:exam c s true n.kids[k] with
      |error e =>
       rw[hx]at hi hE;subst hE;refine qb.pans hi (.cons (.hf (yV c)) (.cons (.hf (uW s)) (.cons (.hf (qI _)) (.cons (.hf (HF.sc _)) .nil)))) ?_;simp[go_sem];exact .hf _ (ya _ _)
      |ok ko =>
       obtain⟨kk,rfl,hkk2⟩:=hok ko (qr _) hwk' hs hx hkk;rw[hx]at hi hE;simp only at hE;refine qb.pure hi.toP (.cons (.hf (yV c)) (.cons (.hf (uW s)) (.cons (.hf (qI _)) (.cons (.hf (HF.sc _)) .nil)))) ?_;by_cases har:kk.ar=1
       .rw [if_pos har]at hE
        simp[go_sem,e5,har];refine qb.pure (zN true 42 n).toP (wkR n true 42) ?_;simp[go_sem,e0,e1,e5,e54,e55,e56];refine ql.seen kk.ts.length (fun seen st'=>st'.tm 0=eCk c/\st'.tm 1=aSc s/\st'.tm 5 = .ip (cNd n)/\st'.tm 54=lPm pd.params/\st'.tm 55=aI n.kids.length/\st'.tm 56=aI k/\st'.tm 9 = .ptr st.mu.length 0/\st'.tm 76 = .ptr (st.mu.length+2) 0 /\
         st'.mu[st.mu.length]?=some (.arr [aS pd.params[k].1,aI pd.params[k].2])/\st'.mu[st.mu.length+2]?=some (.it (eT kk.ts) seen)/\∀ i t,i∈seen->kk.ts[i]?=some t->t.getD 0 0=pd.params[k].2) ?_ ?_
        .refine ⟨by simp[go_sem,e0],by simp[go_sem,e1],by simp[go_sem,e5],by simp[go_sem,e54],by simp[go_sem,e55],by simp[go_sem,e56],by simp[go_sem],by simp[go_sem],?_,?_,by simp⟩
         .simp [go_sem]
         .simp [go_sem]
        .rintro seen st' hnd hlt' ⟨f0,f1,f5,f54,f55,f56,f9,f76,g0,g2,hall⟩
         simp[go_sem,f0,f1,f5,f54,f55,f56,f9,f76];refine⟨st.mu.length+2,eT kk.ts,seen,rfl,g2,fun i e hi hns=>?_,fun hdone=>?_⟩
         .obtain ⟨x,hx2,rfl⟩:=Qj hi
          have hxo:okT x:=hkk2.okK.len x (qS hx2);have hil:i<kk.ts.length:=(qk.1 hx2).1;have hx3:x.length=3:=hxo;have hxl:x∈kk.ts:=qS hx2;have hlen:st.mu.length+2<st'.mu.length:=(qk.1 g2).1;have hget:∀(c:Cell) (l:List Cell),((st'.mu.set (st.mu.length+2) c)++l)[st.mu.length]?=some (.arr [aS pd.params[k].1,aI pd.params[k].2]):=fun c l=>by
           rw[qp (by simp;omega),qK (by omega)];exact g0
          obtain⟨x0,x1,x2,rfl⟩:∃ x0 x1 x2,x=[x0,x1,x2]:=by
           match x,hx3 with
           | [x0,x1,x2],_=>exact⟨_,_,_,rfl⟩
          have hrange:0<=x0/\x0<128:=by
           obtain⟨l,el,hl,hr⟩:=hkk2.ts _ hxl;rw[har]at hl
           match l,hl with
           | [y],_ =>
            have:=hr y (by simp);simp[pad]at el;have:=hc.ts.ns;omega
          have w8:qj.wrap x0=x0:=qg (by omega) (by omega);by_cases hq:x0=pd.params[k].2
          .have w9:qj.wrap pd.params[k].2=pd.params[k].2:=by rw[<-hq];exact w8
           simp[go_sem,f0,f1,f5,f54,f55,f56,f9,f76,hi,hlen,hns,g2,hget,w8,w9,hq];refine qb.pure (zN true 43 n).toP (wkR n true 43) ?_;simp[go_sem];refine⟨i,hil,hns,by simp[go_sem,f0],by simp[go_sem,f1],by simp[go_sem,f5],by simp[go_sem,f54],by simp[go_sem,f55],by simp[go_sem,f56],by simp[go_sem,f9],by simp[go_sem,f76],?_,?_,?_⟩
           .simp only[qL]
            exact hget _ _
           .simp only[qL]
            rw[qp (by simpa using hlen),zb hlen]
           .intro j t hj ht
            rcases qT.1 hj with hj|hj
            .exact hall j t hj ht
            .rw [qW]at hj;subst hj
             rw[hx2]at ht;cases ht;exact hq
          .have hbad:vS pd.params[k].2 kk=false:=by
            unfold vS;rw[<-Bool.not_eq_true,qy];intro h;have:=h _ hxl;simp at this;exact hq this
           rw[hbad]at hE;simp only[Bool.false_eq_true,if_false]at hE;subst hE;simp[go_sem,f0,f1,f5,f54,f55,f56,f9,f76,hi,hlen,hns,g2,hget,w8,hq];refine qb.pans (zN false 43 n) (wkR n false 43) ?_;simp[go_sem];exact .hf _ (ya _ _)
         .have hgood:vS pd.params[k].2 kk=true:=by
           unfold vS;rw[qy];intro t ht;obtain⟨j,hj⟩:=List.mem_iff_getElem?.1 ht;simpa using hall j t (hdone j (by simpa using (qk.1 hj).1)) hj
          rw[if_pos hgood]at hE;simp[go_sem,f0,f1,f5,f54,f55,f56,f9,f76,hlt,w1,hlt2];refine Keep.mk' ?_;refine⟨by simp[go_sem,f0],by simp[go_sem,f1],by simp[go_sem,f5],by simp[go_sem,f54],by simp[go_sem,f55],by simp[go_sem],hE⟩
       .rw [if_neg har]at hE
        subst hE;simp[go_sem,e5,har];refine qb.pans (zN false 42 n) (wkR n false 42) ?_;simp[go_sem];exact .hf _ (ya _ _)
   .rw [if_neg hpl]at hR
    subst hR;refine qe.tail 19 (by kernel_rfl) ?_;simp[go_sem,hp2,hpp,hpl];refine qb.pans (zN false 45 n) (wkR n false 45) ?_;simp[go_sem];exact .hf _ (ya _ _)
theorem qf8{lo sz:Nat}{mu:Mu}{av:AV}{xs:List (List AV)}(h:OwnF lo mu sz av xs)(w:jl sz xs)(hf:∀ r,r∈xs->∀ c,c∈r->HF c):Rd (cutM (fun i=>decide (lo<=i)) mu 0) av (.lst false xs):=by
 obtain⟨ho,hb,hl⟩:=h;refine Own.rd (sz:=sz) ?_ w hf;rcases ho with rfl|⟨b,rfl,hc⟩
 .exact .inl rfl
 .refine .inr ⟨b,rfl,?_⟩
  rw[uI,hc];simp[hb b _ _ _ rfl]
theorem qf9{c:Ck}{s:Scp}{n:Nd}{ko:Option Kd}(h:vY c s n = .ok ko):ko=none:=by
 have hA:∀(ks:List Nd) (ps:List (ByteArray×Int)) (ko:Option Kd),zP c s n.pos ps ks = .ok ko->ko=none:=by
  intro ks;induction ks with
  |nil=>intro ps ko h;cases ps<;>simp[zP]at h<;>exact h.symm
  |cons k ks ih =>
   intro ps ko h;cases ps with
   |nil=>simp[zP]at h;exact h.symm
   |cons p ps =>
    simp only[zP]at h;split at h
    .exact absurd h (by simp)
    .exact absurd h (by simp)
    .split at h
     .split at h
      .exact ih _ _ h
      .exact absurd h (by simp)
     .exact absurd h (by simp)
 unfold vY at h;split at h
 .split at h
  .exact absurd h (by simp)
  .split at h
   .exact absurd h (by simp)
   .split at h
    .exact hA _ _ _ h
    .exact absurd h (by simp)
 .exact absurd h (by simp)
theorem appKo{mu:Mu}{lo:Nat}{s:AV}{xs:List (Option Kd)}{k:Option Kd}{K:AV->Mu->Prop}(ho:OwnF lo mu 2 s (xs.map cKo))(hl:xs.length<=100000)(kk:∀ av mu',OwnF lo mu' 2 av ((xs++[k]).map cKo)->(∀ i,i<lo->mu'[i]?=mu[i]?)->K av mu') :
  qF qd mu #[256,256] s (.lst true [cKo k]) K:=by
 have hrows:∀ l:List (Option Kd),zh 2 (l.map cKo):=fun l r hr=>by
  obtain⟨n,_,rfl⟩:=qs.1 hr;exact Wb n
 refine qF.ownF (lo:=lo) (e:=251) (sz:=2) (bt:=16) (zv := .agg [aI 0,.sc (.map none)]) (xs:=xs.map cKo) (ys:=[cKo k]) (by simp[go_sem]) (by simp[go_sem]) (by simp[go_sem]) rfl rfl (by omega) (by omega) ho (by simp[qG]) (hrows xs) (hrows [k]) (by simp;omega) ?_;intro av mu' h h2;exact kk av mu' (by rw[zm];exact h) h2
theorem pG(c:Ck)(hc:okCk c):∀(m:Nat) (n:Nd),szN n<=m->WfN n->∀(s:Scp),ScOk c.ts.sorts.length s->∀ inn:Bool,qH qd 210 [eCk c,aSc s,eNd n,aB inn] (endK (exam c s inn n))
 | 0,n,hm,_,_,_,_=>by obtain⟨op,nm,i,ks,p⟩:=n;simp[szN]at hm
 |m+1,n,hm,hw,s,hs,inn=>by
  have ih:∀ k,k∈n.kids->∀ s',ScOk c.ts.sorts.length s'->∀ inn',qH qd 210 [eCk c,aSc s',eNd k,aB inn'] (endK (exam c s' inn' k)):=fun k hk s' hs' inn' =>
   pG c hc m k (by have:=yi hk;omega) (hw.kid hk) s' hs' inn'
  refine qQ.of_sound ?_;refine qSW call210 func210 rfl {} ?_;generalize hE:exam c s inn n=E;rw[vD]at hE;have htm:=ku c hc n;simp[go_sem];by_cases hT:(inn&&yw c n.op n.name)=true
  .rw [if_pos hT]at hE
   subst hE;rw[qx]at hT;obtain⟨rfl,hT⟩:=hT;rw[hT]at htm;refine qe.tail 9 (by kernel_rfl) ?_;simp[go_sem];refine qb.pure htm (.cons (.hf (yV c)) (.cons (.hf (qI n)) .nil)) ?_;simp[go_sem];refine qb.pans (zN false 46 n) (wkR n false 46) ?_;simp[go_sem];exact .hf _ (ya _ _)
  rw[if_neg hT]at hE;have hnm:=Wc c hc s n;have hcl:=fun h=>callU c hc s hs n hw h (fun k hk=>ih k hk s hs true)
  have hwc:WKs [eCk c,aSc s,eNd n] [eCk c,aSc s,eNd n] := .cons (.hf (yV c)) (.cons (.hf (uW s)) (.cons (.hf (qI n)) .nil));have hwe:∀(s':Scp) (k:Nd) (b:Bool),WKs [eCk c,aSc s',eNd k,aB b] [eCk c,aSc s',eNd k,aB b]:=fun s' k b => .cons (.hf (yV c)) (.cons (.hf (uW s')) (.cons (.hf (qI k)) (.cons (.hf (HF.sc _)) .nil)))
  have hbinder:n.op=15\/n.op=45\/n.op=46->∃ a f,n.kids=[a,f]/\kd a.op=101:=fun ho=>by
   have hsh:=hw.shape;have e:shp n.op n.kids.length=some [101,102]:=by
    unfold shp;rw[if_neg (by omega),if_neg (by omega),if_neg (by omega),if_pos (by omega)]
   rw[e]at hsh;simp only[qn]at hsh
   match hk:n.kids,hsh with
   | [a,f],hsh=>simp at hsh;exact⟨a,f,rfl,hsh.1.symm⟩
   | [],hsh=>simp at hsh
   | [_],hsh=>simp at hsh
   |_ :: _ :: _ :: _,hsh=>simp at hsh
  cases inn
  case' false =>
   refine qe.intro (by kernel_rfl) ?_;simp[go_sem];refine qb.pure (zN true 46 n).toP (wkR n true 46) ?_;simp[go_sem]
  case' true =>
   have hT':yw c n.op n.name=false:=by simpa using hT
   rw[hT']at htm;refine qe.intro (by kernel_rfl) ?_;simp[go_sem];refine qb.pure htm (.cons (.hf (yV c)) (.cons (.hf (qI n)) .nil)) ?_;simp[go_sem];refine qb.pure (zN true 46 n).toP (wkR n true 46) ?_;simp[go_sem]
  all_goals
   by_cases h1:n.op=1
   .rw [if_pos h1]at hE
    rw[hE]at hnm;simp[go_sem,h1];cases E with
    |error e =>
     refine qb.pans hnm hwc ?_;simp[go_sem];exact .hf _ (ya _ _)
    |ok ko =>
     refine qb.pure hnm.toP hwc ?_;cases ko with
     |none=>simp[go_sem];exact .hf _ hfKn
     |some k=>simp[go_sem];exact .hf _ (hfK2 _ _)
   rw[if_neg h1]at hE;by_cases h47:n.op=47
   .rw [if_pos h47]at hE
    have hE:vY c s n=E:=hE;have hcl:=hcl h47;rw[hE]at hcl;simp[go_sem,h47];cases E with
    |error e =>
     refine qb.pans hcl hwc ?_;simp[go_sem];exact .hf _ (ya _ _)
    |ok ko =>
     obtain rfl:=qf9 hE;refine qb.pure hcl.toP hwc ?_;simp[go_sem];exact .hf _ hfKn
   rw[if_neg h47]at hE;by_cases hb:n.op=15\/n.op=45\/n.op=46
   .rw [if_pos hb]at hE
    obtain⟨a,f,hkk,ha⟩:=hbinder hb;rw[hkk]at hE;have iha:∀ b r,exam c s b a=r->qH qd 210 [eCk c,aSc s,eNd a,aB b] (endK r):=fun b r h=>h ▸ ih a (by rw[hkk];simp) s hs b
    have ihf:∀ s',ScOk c.ts.sorts.length s'->∀ b r,exam c s' b f=r->qH qd 210 [eCk c,aSc s',eNd f,aB b] (endK r):=fun s' hs' b r h=>h ▸ ih f (by rw[hkk];simp) s' hs' b
    have hoka:=u6 hc (szN a) a s;have hwa:=hw.kid (k:=a) (by rw[hkk];simp);rcases hb with h|h|h
    all_goals
     simp[go_sem,h,hkk,qo];simp only[h,yG,zo]at hE;simp at hE;split at hE
     .rename_i e hx
      have hi:=iha _ _ hx;subst hE;refine qb.pans hi (hwe _ _ _) ?_;simp[go_sem];exact .hf _ (ya _ _)
     .rename_i hx
      obtain⟨q,hq,_⟩:=hoka _ _ (qr _) hwa hs hx ha;exact absurd hq (by simp)
     .rename_i k hx
      have hi:=iha _ _ hx;obtain⟨q,hq,hqk⟩:=hoka _ _ (qr _) hwa hs hx ha;simp only[qn]at hq;subst hq;refine qb.pure hi.toP (hwe _ _ _) ?_;by_cases har:k.ar=1
      .rw [if_pos har]at hE
       obtain⟨ka,kt⟩:=k;obtain rfl:ka=1:=har;simp[go_sem];refine qb.pure (zN true 42 n).toP (wkR n true 42) ?_;simp[go_sem];have hs2:ScOk c.ts.sorts.length ((n.name,⟨1,kt⟩) :: s):=fun v hv=>by
        rcases qB.1 hv with rfl|hv
        .exact ⟨hqk,rfl⟩
        .exact hs v hv
       have hi2:=ihf _ hs2;refine qe.tail 12 (by kernel_rfl) ?_;simp[go_sem,h,hkk,qo];split at hE
       .rename_i e hx2
        split at hx2
        .rename_i e' hx3
         simp only[Except.error.injEq]at hx2;subst hx2;subst hE;have hi3:=hi2 _ _ hx3;refine qb.pans hi3 (hwe ((n.name,⟨1,kt⟩) :: s) _ _) ?_;simp[go_sem];exact .hf _ (ya _ _)
        .exact absurd hx2 (by simp)
       .rename_i l hx2
        split at hx2
        .exact absurd hx2 (by simp)
        .rename_i a' hx3
         have hi3:=hi2 _ _ hx3;subst hE;refine qb.pure hi3.toP (hwe ((n.name,⟨1,kt⟩) :: s) _ _) ?_;simp[go_sem];exact .hf _ (hfK2 _ _)
      .rw [if_neg har]at hE
       subst hE;simp[go_sem,har];refine qb.pans (zN false 42 n) (wkR n false 42) ?_;simp[go_sem];exact .hf _ (ya _ _)
   .rw [if_neg hb]at hE
    simp only[not_or]at hb;obtain⟨b1,b2,b3⟩:=hb;simp[go_sem,h1,h47,b1,b2,b3];have hkids:=hw.len;generalize hB:(_||decide (n.op=12)||decide (n.op=13))=B at hE;by_cases h12:n.op=12
    case' pos=>simp[go_sem,h12]
    case' neg =>
     by_cases h13:n.op=13
     case' pos=>simp[go_sem,h12,h13]
     case' neg=>simp[go_sem,h12,h13]
    all_goals
     refine ql.upK n.kids.length (fun k st=>∃ acc:List (Option Kd),acc.length=k/\st.tm 0=eCk c/\st.tm 1=aSc s/\st.tm 3=aB B/\st.tm 6 = .ip (cNd n)/\st.tm 8 = .ptr 0 0/\st.tm 79=lNd n.kids/\st.tm 80=aI n.kids.length/\st.tm 81=aI k/\st.mu[0]?=some (.arr [aI 0,.sc (.map none)])/\OwnF 1 st.mu 2 (st.tm 10) (acc.map cKo) /\
      zo c s B n.kids=(match zo c s B (n.kids.drop k) with | .error e => .error e | .ok l => .ok (acc++l))) ?_ ?_
     .refine ⟨[],rfl,by simp[go_sem],by simp[go_sem],?_,by simp[go_sem],by simp[go_sem],by simp[go_sem],by simp[go_sem],by simp[go_sem],by simp[go_sem],?_,?_⟩
      .rw [<-hB];simp[go_sem,h12];try simp[h13]
      .simp [go_sem];exact OwnF.nil (by simp)
      .simp only[List.drop_zero,yP]
       cases zo c s B n.kids<;>rfl
     .rintro k st hk ⟨acc,hl,e0,e1,e3,e6,e8,e79,e80,e81,m0,ho,hE2⟩
      by_cases hkl':k=n.kids.length
      .rw [hkl',zL]at hE2
       simp only[zo,zx]at hE2;rw[hE2]at hE;simp only at hE;simp[go_sem,e0,e1,e3,e6,e8,e79,e80,e81,hkl'];have hap:ApOk n.op acc:=(Wh hc.ts.ns hw (by rw[hl,hkl']) (fun i k' a hi ha hkd=>u6 hc (szN k') k' s B a (qr _) (hw.kid (qS hi)) hs ((Vh hE2).2 i k' a hi ha) hkd)).1;have hap2:=qeU c hc false n acc hap;rw[hE]at hap2;have hrf:∀ r,r∈acc.map cKo->∀ c,c∈r->HF c:=fun r hr c hcc=>by
        obtain⟨q,_,rfl⟩:=qs.1 hr;exact kZ q c hcc
       have hrw:jl 2 (acc.map cKo):=fun r hr=>by
        obtain⟨q,_,rfl⟩:=qs.1 hr;exact(Wb q).1
       have g0:(cutM (fun i=>!decide (1<=i)) st.mu 0)[0]?=some (.arr [aI 0,.sc (.map none)]):=by rw[uI,m0];simp
       refine qb.eff0 (qY.freeze (args1:=[eCk c,eNd n,.lst false (acc.map cKo)]) (fun j=>decide (1<=j)) ⟨.inl rfl,.inl rfl,.inr (qf8 ho hrw hrf),trivial⟩ (hap2.toSound _ (.cons (.hf (yV c)) (.cons (.hf (qI n)) (.cons (.hf (HF.lst hrf)) .nil))))) ?_ ?_
       .rintro r m ⟨hv,rfl⟩
        have hv:AEnd.ret r=endK E:=hv;cases E with
        |error e=>exact absurd hv (by simp[go_sem])
        |ok q =>
         simp[go_sem]at hv;subst hv;generalize cutM (fun i=>!decide (1<=i)) st.mu 0=M at g0;have hmz:0<M.length:=(qk.1 g0).1;have hset:∀ c,(M.set 0 c)[0]?=some c:=fun c=>zb hmz
         cases q with
         |none=>simp[go_sem,e8,g0,hset];exact .hf _ hfKn
         |some k=>simp[go_sem,e8,g0,hset];exact .hf _ (hfK2 _ _)
       .rintro r m ⟨hv,rfl⟩
        have hv:AEnd.pan r=endK E:=hv;cases E with
        |ok q=>exact absurd hv (by simp[go_sem])
        |error e =>
         simp[go_sem]at hv;subst hv;simp[go_sem];exact .hf _ (ya _ _)
      .have hlt:k<n.kids.length:=by omega
       have w1:qj.wrap ((k:Int)+1)=(k:Int)+1:=qg (by omega) (by omega);rw[zj hlt]at hE2;simp only[zo]at hE2;have hi:=ih n.kids[k] (qu hlt) s hs B;simp[go_sem,e0,e1,e3,e6,e8,e79,e80,e81,hlt,qo];cases hx:exam c s B n.kids[k] with
       |error e =>
        rw[hx]at hi hE2;simp only at hE2;rw[hE2]at hE;simp only at hE;subst hE;refine qb.pans hi (hwe s n.kids[k] B) ?_;simp[go_sem];exact .hf _ (ya _ _)
       |ok ko =>
        rw[hx]at hi hE2;simp only at hE2;refine qb.pure hi.toP (hwe s n.kids[k] B) ?_;have hko:=Wb ko;rw[qy]at hko;simp[go_sem];rw[if_pos hko];simp[go_sem];refine appKo (xs:=acc) (k:=ko) (lo:=1) ⟨jB ho.1 _,ho.2.1,by have:=ho.2.2;simp⟩ (by omega) fun av mu' ho' hm'=>?_
        simp[go_sem,e0,e1,e3,e6,e8,e79,e80,e81,w1];refine⟨hlt,Keep.mk' ?_⟩;refine⟨acc++[ko],by simp[hl],by simp[go_sem,e0],by simp[go_sem,e1],by simp[go_sem,e3],by simp[go_sem,e6],by simp[go_sem,e8],by simp[go_sem,e79],by simp[go_sem,e80],by simp[go_sem],?_,by simpa[go_sem] using ho',?_⟩
        .simp only[qL]
         rw[hm' 0 (by omega),qp (by have:=ho.2.2;omega)];exact m0
        .rw [hE2]
         cases zo c s B (n.kids.drop (k+1)) with
         |error e=>rfl
         |ok l=>simp
end Y13
namespace Y14
open YF P1 P2 Y1 Y2 Y4 Y9 Y10 Y12 Y13
structure ZI (ns:Nat) (env:List (ByteArray×Int)):Prop where
 len:env.length<=1000000
 r:∀ p,p∈env->0<=p.2/\p.2<ns
theorem pH{ns:Nat}{env:List (ByteArray×Int)}(h:ZI ns env):ScOk ns (y5 env):=by
 have:∀(l:List (ByteArray×Int)) (s:Scp),(∀ p,p∈l->0<=p.2/\p.2<(ns:Int))->ScOk ns s->ScOk ns (l.foldl (fun s p=>(p.1,kOf [p.2]) :: s) s):=by
  intro l;induction l with
  |nil=>intro s _ hs;exact hs
  |cons a l ih =>
   intro s hl hs;refine ih _ (fun p hp=>hl p (zK _ hp)) fun v hv=>?_
   rcases qB.1 hv with rfl|hv
   .exact ⟨Vf (by simp) (by simp) (fun x hx=>by rw[qW]at hx;subst hx;exact hl a (zZ ..)),rfl⟩
   .exact hs v hv
 exact this env [] h.r fun v hv=>absurd hv zr
theorem qgA(c:Ck)(hc:okCk c)(n:Nd)(hw:WfN n)(env:List (ByteArray×Int))(he:ZI c.ts.sorts.length env) :
  qH qd 209 [.ip (cNd n),.ip [eCk c],.ip [lPm env]] (if 30<=n.op then (match exam c (y5 env) false n with | .ok _ => .ret (.tup []) | .error e => .pan (jw e.1 e.2)) else .pan (jw 43 n.pos)):=by
 refine qQ.of_sound ?_;refine qSW call209 func209 rfl {} ?_;have hx:=pG c hc (szN n) n (qr _) hw (y5 env) (pH he) false;have hwe:WKs [eCk c,aSc (y5 env),eNd n,aB false] [eCk c,aSc (y5 env),eNd n,aB false] := .cons (.hf (yV c)) (.cons (.hf (uW _)) (.cons (.hf (qI n)) (.cons (.hf (HF.sc _)) .nil)));by_cases h:30<=n.op
 .rw [if_pos h]
  simp[go_sem,h];refine qb.pure (zN true 43 n).toP (wkR n true 43) ?_;simp[go_sem];refine qe.tail 4 (by kernel_rfl) ?_;simp[go_sem];refine qb.pure (bindU _ hc.ts.ns env he.len he.r) (.cons (.hf (yH env)) .nil) ?_;simp[go_sem];cases hE:exam c (y5 env) false n with
  |error e =>
   rw[hE]at hx;refine qb.pans hx hwe ?_;simp[go_sem];exact .hf _ (ya _ _)
  |ok k =>
   rw[hE]at hx;refine qb.pure hx.toP hwe ?_;simp[go_sem];exact .hf _ (HF.tup (by simp))
 .rw [if_neg h]
  simp[go_sem,h];refine qb.pans (zN false 43 n) (wkR n false 43) ?_;simp[go_sem];exact .hf _ (ya _ _)
theorem KY(c:Ck)(hc:okCk c)(n:Nd)(hw:WfN n)(env:List (ByteArray×Int))(he:ZI c.ts.sorts.length env):qi qd 183 [eCk c,lPm env,eNd n] (.agg [aI (jx c env n).1,aI (jx c env n).2]):=by
 refine qH.toP ?_;refine qQ.of_sound ?_;refine qSW call183 func183 rfl {} ?_;simp[go_sem];have hcap:WKs [.ip (cNd n),.ip [eCk c],.ip [lPm env]] [.ip (cNd n),.ip [eCk c],.ip [lPm env]] := .cons (.hf (HF.ip (vz n))) (.cons (.hf (HF.ip (by simp;exact yV c))) (.cons (.hf (HF.ip (by simp;exact yH env))) .nil));have h1:=(qgA c hc n hw env he).toSound ([.arr [aI 0,aI 0]]++[.dead]) hcap;refine qb.eff0 (qcT (mu:=[.arr [aI 0,aI 0]]) h1 ?_) ?_ ?_
 .rintro v m ⟨hv,_⟩
  have hv:AEnd.pan v=_:=hv;split at hv
  .split at hv
   .exact absurd hv (by simp)
   .cases hv;exact⟨_,_,rfl⟩
  .cases hv;exact⟨_,_,rfl⟩
 .rintro r m ⟨m',x,⟨l,rfl⟩,⟨r',⟨hv,rfl⟩,hr⟩|⟨er,p,⟨hv,rfl⟩,hr⟩⟩
  .have hv:AEnd.ret r'=_:=hv
   cases hr;have hf:jx c env n=(0,0):=by
    unfold jx dgOf;split at hv
    .rename_i h
     rw[if_pos h];split at hv
     .rename_i h2;first | (rw[h2];done)|rfl
     .cases hv
    .cases hv
   rw[hf];simp[go_sem];exact .hf _ (HF.agg fun c hc=>by simp at hc;rcases hc with rfl|rfl<;>exact HF.sc _)
  .have hv:AEnd.pan (jw er p)=_:=hv
   cases hr;have hf:jx c env n=(er,p):=by
    unfold jx dgOf;split at hv
    .rename_i h
     rw[if_pos h];split at hv
     .cases hv
     .rename_i e h2;(try rw[h2]);cases hv;rfl
    .rename_i h
     rw[if_neg h];cases hv;rfl
   rw[hf];simp[go_sem];exact .hf _ (HF.agg fun c hc=>by simp at hc;rcases hc with rfl|rfl<;>exact HF.sc _)
 .rintro r m ⟨m',x,⟨l,rfl⟩,⟨r',⟨hv,rfl⟩,hr⟩|⟨er,p,⟨hv,rfl⟩,hr⟩⟩<;>cases hr
theorem WD{p:Pd}(h:WfN p.body):Small p.body:=h.small
theorem qgB(ts:TS)(h:okTS ts)(hp:∀ p,p∈ts.preds->WfN p.body)(n:Nd)(hw:WfN n)(env:List (ByteArray×Int))(he:ZI ts.sorts.length env):qi qd 132 [eTS ts,lPm env,eNd n] (.agg [aI (jO ts env n).1,aI (jO ts env n).2]):=by
 refine qSQ call132 func132 rfl {} ?_;simp[go_sem];refine qe.intro (by kernel_rfl) ?_;simp[go_sem];refine qb.pure (qeK ts h (fun p hq=>(hp p hq).small) _ (qr _)) (.cons (.hf (zl ts)) (.cons (.hf (HF.sc _)) .nil)) ?_;simp[go_sem];refine qb.pure (KY _ (ZC h (qr _)) n hw env he) (.cons (.hf (yV _)) (.cons (.hf (yH env)) (.cons (.hf (qI n)) .nil))) ?_;simp[go_sem];exact .hf _ (HF.agg fun c hc=>by simp at hc;rcases hc with rfl|rfl<;>exact HF.sc _)
end Y14
namespace Y15
def repL{α:Type}(eqv:α->α->Bool)(l:List α):List Bool:=(qq l.length).map fun i=>match l[i]? with|some x=>(l.take i).any fun y=>eqv x y|none=>false
theorem u9{α:Type}(eqv:α->α->Bool)(l:List α):(repL eqv l).length=l.length:=by simp[repL]
theorem pI{α:Type}(eqv:α->α->Bool)(l:List α){i:Nat}(h:i<l.length):(repL eqv l)[i]?=some ((l.take i).any fun y=>eqv l[i] y):=by
 simp[repL,h]
abbrev lB(l:List Bool):AV := .lst false (l.map fun b=>[aB b])
end Y15
namespace Y16
open P1 Y1 Y9 Y15
theorem UR(a b:List Int)(ha:a.length<=9223372036854775807):qi qd 152 [lI a,lI b] (aB (decide (a=b))):=by
 refine qSQ call152 func152 rfl {} ?_;by_cases hn:a.length=b.length
 case neg =>
  simp[go_sem,hn];rw[decide_eq_false (by rintro rfl;exact hn rfl)];exact .hf _ (HF.sc _)
 simp[go_sem,hn];refine ql.up a.length (fun k st=>st.tm 0=lI a/\st.tm 1=lI b/\st.tm 12=aI a.length/\st.tm 13=aI k/\st.mu=[]/\∀(i:Nat) (h:i<a.length) (h':i<b.length),i<k->a[i]=b[i]) ?_ ?_
 .simp [go_sem,hn]
 rintro k st hk ⟨h0,h1,h12,h13,hm,he⟩;by_cases hlt:k<a.length
 .have hlt':k<b.length:=by omega
  simp[go_sem,h0,h1,h12,h13,hm,hlt]
  try refine qe.intro (by kernel_rfl) ?_
  by_cases hb:a[k]=b[k]
  .simp [go_sem,h0,h1,h12,h13,hm,hlt,hlt',hb]
   refine⟨qg (by omega) (by omega),fun i h h' hi=>?_⟩;rcases jU.1 hi with h2|h2
   .exact he i h h' h2
   .subst h2;exact hb
  .simp [go_sem,h0,h1,h12,h13,hm,hlt,hlt',hb]
   rw[decide_eq_false (by rintro rfl;simp at hb)];exact .hf _ (HF.sc _)
 .have hge:k=a.length:=by omega
  subst hge;simp[go_sem,h0,h1,h12,h13,hm];rw[decide_eq_true (List.ext_getElem hn fun i h h'=>he i h h' h)];exact .hf _ (HF.sc _)
abbrev cDg(d:Dg):List AV:=[aI d.1,aI d.2]
def dups(l:List Bool):List Dg:=(l.filter id).map fun _=>(41,0)
def repB{α:Type}(eqv:α->α->Bool)(l:List α)(i:Nat):List Bool:=((repL eqv l).take (i+1)).drop i
def rp(d:Dg):List Dg:=if d.1=0 then [] else [d]
def vH(ts:TS)(i:Nat):List Dg:=match ts.preds[i]? with
 |some p=>dups (repB (fun x y:Pd=>decide (x.name=y.name)) ts.preds i)++(dups (repL (fun x y:ByteArray×Int=>decide (x.1=y.1)) p.params)++rp (jx (mkCk ts i) p.params p.body))
 |none=>[]
def wc(ts:TS)(fa:List (ByteArray×Nd))(i:Nat):List Dg:=match fa[i]? with
 |some f=>dups (repB (fun x y:ByteArray×Nd=>decide (x.1=y.1)) fa i)++rp (jO ts [] f.2)
 |none=>[]
def wQ(ts:TS):List Dg:=
 dups (repL (fun x y:ByteArray×Bool=>decide (x.1=y.1)) ts.sorts)++(dups (repL (fun x y:Fld=>decide (x.name=y.name)&&decide (x.sorts=y.sorts)) ts.fields) ++
  ((qq ts.preds.length).flatMap (vH ts)++(qq ts.facts.length).flatMap (wc ts ts.facts)))
abbrev lDg(l:List Dg):AV := .lst false (l.map cDg)
theorem uB(l:List Bool):(dups l).length<=l.length:=by
 unfold dups;rw[yM];exact List.length_filter_le _ _
theorem WE(d:Dg):(rp d).length<=1:=by unfold rp;split<;>simp
theorem WG(f:Nat->List Dg)(hf:∀ i,(f i).length<=10):∀ k,((qq k).flatMap f).length<=10*k
 | 0=>by simp
 |k+1=>by
  rw[List.range_succ,List.flatMap_append,zt];have:=WG f hf k;have:=hf k;simp only[List.flatMap_cons,List.flatMap_nil,zx];omega
theorem pJ{α:Type}(eqv:α->α->Bool)(l:List α)(i:Nat):(repB eqv l i).length<=1:=by
 unfold repB;rw[List.length_drop,jZ];omega
theorem pK{ts:TS}(h:okTS ts)(i:Nat):(vH ts i).length<=10:=by
 unfold vH;split
 .rename_i p hp
  have h1:=(h.pl p (qS hp)).1;have h2:=uB (repB (fun x y:Pd=>decide (x.name=y.name)) ts.preds i);have h3:=pJ (fun x y:Pd=>decide (x.name=y.name)) ts.preds i;have h4:=uB (repL (fun x y:ByteArray×Int=>decide (x.1=y.1)) p.params);rw[u9]at h4;have h5:=WE (jx (mkCk ts i) p.params p.body);simp only[zt];omega
 .simp
theorem qgC(ts:TS)(fa:List (ByteArray×Nd))(i:Nat):(wc ts fa i).length<=10:=by
 unfold wc;split
 .rename_i f hf
  have h2:=uB (repB (fun x y:ByteArray×Nd=>decide (x.1=y.1)) fa i);have h3:=pJ (fun x y:ByteArray×Nd=>decide (x.1=y.1)) fa i;have h5:=WE (jO ts [] f.2);simp only[zt];omega
 .simp
end Y16
end Go.Proofs.YtkglmpmlfjogkaaGreatDoor
