/-
  Own library, part 5: an abstract reading of values and a calculus over it; contracts of functions; plain lemmas.
-/
import Derived.Test.YtpagnklaanbmbaaGreatDoorMd
set_option linter.unusedVariables false
set_option linter.unusedSimpArgs false
set_option maxRecDepth 100000
open Go renaming Program->j1,TypeId->j2
open Go.Proofs.Tryz renaming prog->qb
open Nat renaming le_of_ble_eq_true->qh,le_refl->qm,le_trans->zP,zero_add->yy,lt_succ_iff_lt_or_eq->uh
open Go.IntKind renaming i64->qj
open List renaming getElem?_eq_some_iff->qk,getElem?_append_left->qo,mem_map->qr,mem_cons->qt,range->qu,getElem?_set_ne->qv,getElem_mem->qy,getElem?_eq_getElem->qA,not_mem_nil->qE,all_eq_true->qI,getElem?_set_self->qJ,mem_singleton->qL,mem_append->qM,mem_of_getElem?->qV,replicate->qZ,length_append->zc,getElem?_append_right->zf,drop_eq_getElem_cons->zt,getElem?_map->zu,take_length->zw,map_append->zx,append_assoc->zE,length_cons->zG,getD_eq_getElem?_getD->zT,append_nil->zV,take_of_length_le->ye,drop_length->yk,mem_range->yx,length_map->yI,cons_append->jd,getElem?_eq_none->jj,nil_append->jq,getElem?_cons_succ->j7,length_take->vM,foldl_append->ue,take_append_drop->uf,ext_getElem?->ui,getD_cons_zero->uj,getElem?_range->uH,mem_flatMap->ZN,getElem_of_mem->J0
open Option.some renaming injEq->qp
open Bool renaming and_eq_true->qB,eq_iff_iff->vO
open Option renaming map_some->zd,map_eq_some_iff->j8
open Int renaming mul_le_mul->jS
namespace Go.Proofs.YtpagnklaanbmbaaGreatDoor
open Go Go.Ev Go.Proofs Tryz
namespace F3
open Y1 E1 E2 E3 EA EL EQ ET EY F1 F2
theorem OkMa.n20{x:Mo}{N:Nat}(h:OkMa x N):x.n<=20:=by have:=h.n12;omega
theorem GR.lens{n:Int}(p:0<=n)(l:n<=12){a b:Rl}(P:GR n a)(R:GR n b)(h:a.ar+b.ar<=5):a.ts.length*b.ts.length<=1000000:=by
 have key:∀{c:Rl},GR n c->(c.ar=1->c.ts.length<=12)/\(c.ar=2->c.ts.length<=144)/\c.ts.length<=1728:=fun {c} g=>by
  have e2:n*n<=12*12:=jS l l p zOm;have a0:0<=n*n:=Int.mul_nonneg p p;have e3:n*n*n<=12*12*12:=jS e2 l p zOm;have r:powI n 1=n:=uz n;have C:powI n 2=n*n:=EC.gV n;have p3:powI n 3=n*n*n:=by
   have:=u4 (n:=n) (i:=2) (j:=1) zOm zOm zOm;rw[r,C]at this;exact this
  have c1:=g.ar1;have c3:=g.ar3;refine⟨fun e=>Jl g.srt fun t o=>?_,fun e=>Jl g.srt fun t o=>?_,Jl g.srt fun t o=>?_⟩
  .have:=g.val t o;rw[e,r]at this;omega
  .have:=g.val t o;rw[e,C]at this;omega
  .have I:=g.val t o
   have:c.ar=1\/c.ar=2\/c.ar=3:=zOm;rcases this with e|e|e
   .rw [e,r]at I;omega
   .rw [e,C]at I;omega
   .rw [e,p3]at I;omega
 obtain⟨a1,a2,T⟩:=key P;obtain⟨b1,b2,U⟩:=key R;have:=P.ar1;have:=R.ar1;by_cases ea:a.ar=1
 .exact zP (Nat.mul_le_mul (a1 ea) U) zOm
 .by_cases eb:b.ar=1
  .exact zP (Nat.mul_le_mul T (b1 eb)) zOm
  .by_cases J:a.ar=2
   .exact zP (Nat.mul_le_mul (a2 J) U) zOm
   .exact zP (Nat.mul_le_mul T (b2 zOm)) zOm
theorem nz(x:Mo)(N:Nat)(n a:Nd)(i:List Nd)(j:n.kids=a :: i)(I:IH x N n)(p:Pl)(hp:OkP x N p)(P:bd p n) :
  qU qb 256 [eMa x,ePl p,eNd n] (endE (binE [den x a] p)):=by
 refine za.of_sound ?_;refine qe.of_awp call256 func256 rfl (qh zKr) zKr (pl:={}) ?_;have l:=(I a (by rw[j];simp) p hp zOm).E;have t:=wk3 x p a;generalize g:binE [den x a] p=E;unfold binE at g;simp only[kD,uj]at g;generalize eMa x=M at *
 simp[go_sem];refine qg.seg [0,1,2,3,4,5,6,7,8] [(0,0,[]),(1,0,[]),(2,0,[]),(3,0,[]),(4,0,[]),(5,0,[]),(6,1,[]),(7,2,[1,3,5]),(8,1,[])] zKr zKr zSi ?_;simp[go_sem,j];cases C:(den x a).E p with
 |error e =>
  rw[C]at l g;subst g;refine qc.pans l t ?_;simp[go_sem,zC];exact .hf _ (qR _)
 |ok r =>
  rw[C]at l g;rw[zi]at g;refine qc.pure l.toP t ?_;by_cases o:r.ar=2
  .rw [if_pos o]at g
   subst g;have J:(r.ar=2)=True:=eq_true o;simp[go_sem,j,J];exact .hf _ (q9 r)
  .rw [if_neg o]at g
   subst g;simp[go_sem,j,o];refine qc.pans (u3 42) (wkI 42) ?_;simp[go_sem];exact .hf _ (qR _)
theorem joinX(x:Mo)(N:Nat)(n a b:Nd)(hM:OkMa x N)(j:n.kids=[a,b])(ih:IH x N n)(p:Pl)(hp:OkP x N p)(hq:bd p n) :
  qU qb 197 [eMa x,ePl p,eNd n] (endE (bX ((den x a).E p) fun r=>bX ((den x b).E p) fun s=>uZ x.n r s)):=by
 refine za.of_sound ?_;refine qe.of_awp call197 func197 rfl (qh zKr) zKr (pl:={}) ?_;have ia:=ih a (by rw[j];simp) p hp zOm;have ib:=ih b (by rw[j];simp) p hp zOm;have o:=ia.E;have t:=ib.E;have wa:=wk3 x p a;have wb:=wk3 x p b;have C:=hM.n0;have g1:=hM.n12;generalize g:(bX ((den x a).E p) fun r=>bX ((den x b).E p) fun s=>uZ x.n r s)=E;simp[go_sem];refine qg.seg [0,1,2,3,4,5,7,8,9,10,11,12,6,13,14,15,16,17] [(0,0,[]),(1,0,[]),(2,0,[]),(3,0,[]),(4,0,[]),(5,0,[]),(7,0,[]),(8,0,[]),(9,0,[]),(10,0,[]),(11,0,[]),(12,0,[]),(6,1,[8,10,12]),(13,1,[]),(14,2,[1,3,5,8,10,12]),(15,2,[1,3,5,8,10,12]),(16,1,[]),(17,1,[])] zKr zKr zSi ?_;simp[go_sem,j];cases J:(den x a).E p with
 |error e =>
  rw[J]at o g;subst g;refine qc.pans o wa ?_;simp[go_sem,zC];exact .hf _ (qR _)
 |ok r =>
  rw[J]at o g;rw[zi]at g;refine qc.pure o.toP wa ?_;simp[go_sem,j];cases P:(den x b).E p with
  |error e =>
   rw[P]at t g;subst g;refine qc.pans t wb ?_;simp[go_sem,zC];exact .hf _ (qR _)
  |ok s =>
   rw[P]at t g;rw[zi]at g;refine qc.pure t.toP wb ?_;have R:=ia.G _ J;have U:=ib.G _ P;have lr:=R.len C zOm;have ls:=U.len C zOm;simp[go_sem,j];refine qg.seg [0,1,2,3,4,5,6,7,8,9,10] [(0,0,[]),(1,0,[]),(2,0,[]),(3,0,[]),(4,0,[]),(5,0,[]),(6,1,[]),(7,0,[]),(8,0,[]),(9,1,[]),(10,1,[])] zKr zKr zSi ?_;simp[go_sem];have I:=uX x.n C g1 r s R U (GR.lens C g1 R U);cases i:uZ x.n r s with
   |error e =>
    rw[i]at I g;subst g;have he:e≠0:=by
     unfold uZ at i;split at i
     .cases i
     .cases i;omega
    have l:=V0 ⟨0,[]⟩ e;rw[if_neg he]at l;refine qc.pure I (wkJ x.n r s) ?_;simp[go_sem];refine qc.pans l (.zk (q9 _) (.zs .nil)) ?_;simp[go_sem];exact .hf _ (qR _)
   |ok u =>
    rw[i]at I g;subst g;have l:=V0 u 0;rw[if_pos rfl]at l;refine qc.pure I (wkJ x.n r s) ?_;simp[go_sem];refine qc.pure l.toP (.zk (q9 _) (.zs .nil)) ?_;simp[go_sem];exact .hf _ (q9 u)
theorem qiH(x:Mo)(N:Nat)(n a b:Nd)(R:OkMa x N)(j:n.kids=[a,b])(U:IH x N n)(p:Pl)(hp:OkP x N p)(hq:bd p n) :
  qU qb 198 [eMa x,ePl p,eNd n] (endE (bX ((den x a).E p) fun r=>bX ((den x b).E p) fun s=>Qr x.n r s)):=by
 refine za.of_sound ?_;refine qe.of_awp call198 func198 rfl (qh zKr) zKr (pl:={}) ?_;have ia:=U a (by rw[j];simp) p hp zOm;have ib:=U b (by rw[j];simp) p hp zOm;have o:=ia.E;have t:=ib.E;have wa:=wk3 x p a;have wb:=wk3 x p b;have I:=R.n0;have g1:=R.n12;generalize g:(bX ((den x a).E p) fun r=>bX ((den x b).E p) fun s=>Qr x.n r s)=E;simp[go_sem];refine qg.seg [0,1,2,3,4,5,7,8,9,10,11,12,6,13,14,15,16,17] [(0,0,[]),(1,0,[]),(2,0,[]),(3,0,[]),(4,0,[]),(5,0,[]),(7,0,[]),(8,0,[]),(9,0,[]),(10,0,[]),(11,0,[]),(12,0,[]),(6,1,[8,10,12]),(13,1,[]),(14,2,[1,3,5,8,10,12]),(15,2,[1,3,5,8,10,12]),(16,1,[]),(17,1,[])] zKr zKr zSi ?_;simp[go_sem,j];cases J:(den x a).E p with
 |error e =>
  rw[J]at o g;subst g;refine qc.pans o wa ?_;simp[go_sem,zC];exact .hf _ (qR _)
 |ok r =>
  rw[J]at o g;rw[zi]at g;refine qc.pure o.toP wa ?_;simp[go_sem,j];cases P:(den x b).E p with
  |error e =>
   rw[P]at t g;subst g;refine qc.pans t wb ?_;simp[go_sem,zC];exact .hf _ (qR _)
  |ok s =>
   rw[P]at t g;rw[zi]at g;refine qc.pure t.toP wb ?_;have gr:=ia.G _ J;have gs:=ib.G _ P;have lr:=gr.len I zOm;have ls:=gs.len I zOm;simp[go_sem,j];refine qg.seg [0,1,2,3,4,5,6,7,8,9,10] [(0,0,[]),(1,0,[]),(2,0,[]),(3,0,[]),(4,0,[]),(5,0,[]),(6,1,[]),(7,0,[]),(8,0,[]),(9,1,[]),(10,1,[])] zKr zKr zSi ?_;simp[go_sem];have C:=WU x.n I g1 r s gr gs;cases i:Qr x.n r s with
   |error e =>
    rw[i]at C g;subst g;have he:e≠0:=by
     unfold Qr at i;split at i
     .cases i
     .cases i;omega
    have l:=V0 ⟨0,[]⟩ e;rw[if_neg he]at l;refine qc.pure C (wkJ x.n r s) ?_;simp[go_sem];refine qc.pans l (.zk (q9 _) (.zs .nil)) ?_;simp[go_sem];exact .hf _ (qR _)
   |ok u =>
    rw[i]at C g;subst g;have l:=V0 u 0;rw[if_pos rfl]at l;refine qc.pure C (wkJ x.n r s) ?_;simp[go_sem];refine qc.pure l.toP (.zk (q9 _) (.zs .nil)) ?_;simp[go_sem];exact .hf _ (q9 u)
theorem qiI(x:Mo)(N:Nat)(n a:Nd)(g:OkMa x N)(j:n.kids=[a])(I:IH x N n)(p:Pl)(hp:OkP x N p)(J:bd p n) :
  qU qb 202 [eMa x,ePl p,eNd n] (endE ((den x a).E ⟨x.nx p.st,p.env⟩)):=by
 refine za.of_sound ?_;refine qe.of_awp call202 func202 rfl (qh zKr) zKr (pl:={}) ?_;have i:=(I a (by rw[j];simp) _ (OkP.nx g.toOkM hp) (by show p.env.length+_<=_;omega)).E;have t:=wk3 x ⟨x.nx p.st,p.env⟩ a;have P:=g.N1;have R:=g.len;have l:=W5 x g.loop zOm p.st (zW1 hp.st);have o:WKs [eMd x.m,aI p.st] [eMd x.m,aI p.st] := .zk (yK x.m) (.zs .nil);simp[go_sem];refine qg.seg [0,1,2,3,4,5,6,8,9,11,12,13,14,7,10,15,16] [(0,0,[]),(1,0,[]),(2,0,[]),(3,0,[]),(4,0,[]),(5,0,[]),(6,0,[]),(8,0,[]),(9,0,[]),(11,0,[]),(12,0,[]),(13,0,[]),(14,0,[]),(7,1,[9,12,14]),(10,0,[]),(15,1,[]),(16,1,[])] zKr zKr zSi ?_;simp[go_sem,j];refine qc.pure l o ?_;simp[go_sem,j];cases C:(den x a).E ⟨x.nx p.st,p.env⟩ with
 |error e =>
  rw[C]at i;refine qc.pans i t ?_;simp[go_sem];exact .hf _ (qR _)
 |ok r =>
  rw[C]at i;refine qc.pure i.toP t ?_;simp[go_sem];exact .hf _ (q9 r)
theorem wkT(n:Int)(a:Rl):WKs [aI n,eRel a] [aI n,eRel a] := .zs (.zk (q9 a) .nil)
theorem qiJ(x:Mo)(N:Nat)(n a:Nd)(j:OkMa x N)(l:n.kids=[a])(o:IH x N n)(p:Pl)(hp:OkP x N p)(I:bd p n) :
  qU qb 199 [eMa x,ePl p,eNd n] (endE (bX (binE [den x a] p) fun a => .ok (trR x.n a))):=by
 refine za.of_sound ?_;refine qe.of_awp call199 func199 rfl (qh zKr) zKr (pl:={}) ?_;have g:=nz x N n a [] l o p hp I;have t:=wk3 x p n;have J:=zO x;have P:=j.n0;have g1:=j.n12;simp[go_sem];refine qg.seg [0,1,2,3,4,5,6,7,8,9] [(0,0,[]),(1,0,[]),(2,0,[]),(3,0,[]),(4,0,[]),(5,0,[]),(6,0,[]),(7,1,[3]),(8,1,[]),(9,1,[])] zKr zKr zSi ?_;simp[go_sem];cases i:binE [den x a] p with
 |error e =>
  rw[i]at g;refine qc.pans g t ?_;simp[go_sem,zC];exact .hf _ (qR _)
 |ok r =>
  rw[i]at g;obtain⟨C,R⟩:=Yb i;simp only[kD,uj]at C;have U:=(o a (by rw[l];simp) p hp zOm).G _ C;refine qc.pure g.toP t ?_;simp[go_sem,zi];refine qc.pure (qhE x.n P g1 r U R) (wkT x.n r) ?_;simp[go_sem];exact .hf _ (q9 _)
theorem nA(x:Mo)(N:Nat)(n a:Nd)(j:OkMa x N)(l:n.kids=[a])(o:IH x N n)(p:Pl)(hp:OkP x N p)(I:bd p n) :
  qU qb 200 [eMa x,ePl p,eNd n] (endE (bX (binE [den x a] p) fun a => .ok (clR x.n 200 a))):=by
 refine za.of_sound ?_;refine qe.of_awp call200 func200 rfl (qh zKr) zKr (pl:={}) ?_;have g:=nz x N n a [] l o p hp I;have t:=wk3 x p n;have J:=zO x;have P:=j.n0;have g1:=j.n12;simp[go_sem];refine qg.seg [0,1,2,3,4,5,6,7,8,9] [(0,0,[]),(1,0,[]),(2,0,[]),(3,0,[]),(4,0,[]),(5,0,[]),(6,0,[]),(7,1,[3]),(8,1,[]),(9,1,[])] zKr zKr zSi ?_;simp[go_sem];cases i:binE [den x a] p with
 |error e =>
  rw[i]at g;refine qc.pans g t ?_;simp[go_sem,zC];exact .hf _ (qR _)
 |ok r =>
  rw[i]at g;obtain⟨C,R⟩:=Yb i;simp only[kD,uj]at C;have U:=(o a (by rw[l];simp) p hp zOm).G _ C;refine qc.pure g.toP t ?_;simp[go_sem,zi];refine qc.pure (closU x.n P g1 r U R) (wkT x.n r) ?_;simp[go_sem];exact .hf _ (q9 _)
theorem nB(n:Int)(g:0<=n)(i:n<=12):qd qb 205 [aI n] (eRel (idR n)):=by
 have:=idenU n.toNat zOm;rw[show ((n.toNat:Nat):Int)=n by omega]at this;exact this
theorem qiK(x:Mo)(N:Nat)(n a:Nd)(j:OkMa x N)(o:n.kids=[a])(t:IH x N n)(p:Pl)(hp:OkP x N p)(J:bd p n) :
  qU qb 201 [eMa x,ePl p,eNd n] (endE (bX (binE [den x a] p) fun a => .ok (unR (clR x.n 200 a) (idR x.n)))):=by
 refine za.of_sound ?_;refine qe.of_awp call201 func201 rfl (qh zKr) zKr (pl:={}) ?_;have g:=nA x N n a j o t p hp J;have C:=wk3 x p n;have P:=zO x;have i:=j.n0;have g1:=j.n12;simp[go_sem];refine qg.seg [0,1,2,4,5,6,7,3,8,9,10] [(0,0,[]),(1,0,[]),(2,0,[]),(4,0,[]),(5,0,[]),(6,0,[]),(7,0,[]),(3,1,[7]),(8,1,[]),(9,1,[]),(10,1,[])] zKr zKr zSi ?_;simp[go_sem];cases l:binE [den x a] p with
 |error e =>
  rw[l]at g;refine qc.pans g C ?_;simp[go_sem,zC];exact .hf _ (qR _)
 |ok r =>
  rw[l]at g;obtain⟨I,R⟩:=Yb l;simp only[kD,uj]at I;have U:=(t a (by rw[o];simp) p hp zOm).G _ I;obtain⟨gc,c2⟩:=GR.clos i 200 U R;have gi:=GR.iden i;have l1:=gc.len i zOm;have l2:=gi.len i zOm;rw[zi]at g;refine qc.pure g.toP C ?_;simp[go_sem,zi];refine qc.pure (nB x.n i g1) (.zs .nil) ?_;simp[go_sem];refine qc.pure (ve _ _ zOm zOm) (wkR2 _ _) ?_;simp[go_sem];exact .hf _ (q9 _)
end F3
namespace F4
open Y1 P2 E3 EA EL EO EP EQ ER F1 F2 F3
section
variable {av:AV}{xs:List (List AV)}{mu:Mu}{sz:Nat}
theorem Own.one(h:Own mu sz av xs):av.one=true:=by
 rcases h with rfl|⟨b,rfl,_⟩<;>rfl
theorem Own.cells(h:Own mu sz av xs):av.cells=[av]:=by
 rcases h with rfl|⟨b,rfl,_⟩<;>rfl
theorem Own.push(h:Own mu sz av xs)(c:List Cell):Own (mu++c) sz av xs:=by
 rcases h with rfl|⟨b,rfl,g⟩
 .exact .inl rfl
 .exact .inr ⟨b,rfl,by rw[qo (qk.1 g).1];exact g⟩
theorem Own.set(h:Own mu sz av xs){i:Nat}(c:Cell)(g:qx av≠some i):Own (mu.set i c) sz av xs:=by
 rcases h with rfl|⟨b,rfl,j⟩
 .exact .inl rfl
 .exact .inr ⟨b,rfl,by rw[qv (fun e=>g (by rw[e];rfl))];exact j⟩
theorem Own.lt(h:Own mu sz av xs){b:Nat}(g:qx av=some b):b<mu.length:=by
 rcases h with rfl|⟨j,rfl,i⟩
 .cases g
 .cases g;exact(qk.1 i).1
theorem qF.ownB{P:j1}{t g e bt:Nat}{s x:AV}{ys:List (List AV)}{zv:AV}{K:AV->Mu->Prop}(T:qN P t=some (e,sz,bt))(j:(qN P g).isSome=true)(U:qC P e=some zv)
  (l:zv.cells.length=sz) (o:zv.cells.all AV.one=true) (p:sz≠0) (hb:bt<=16384) (ho:Own mu sz s xs) (hx:qO mu x=some ys) (J:zy sz xs) (wy:zy sz ys) (R:xs.length+ys.length<=4294967296)
  (k:∀ av mu',Own mu' sz av (xs++ys)->(∀ i,i<mu.length->qx s≠some i->mu'[i]?=mu[i]?)->(∀ b,qx av=some b->b=mu.length)->mu.length<=mu'.length->K av mu'):qF P mu #[t,g] s x K:=by
 refine .inl ?_;refine⟨t,g,e,sz,bt,ys,rfl,T,j,⟨zv,U,l,o⟩,p,hb,hx,wy,?_⟩;rcases ho with rfl|⟨b,rfl,hc⟩
 .refine .inl ⟨xs,rfl,J,R,fun h=>?_,fun h=>?_⟩
  .subst h
   exact k _ _ (.inl zSp) (fun _ _ _=>rfl) (fun b h=>by cases h) (qm _)
  .refine k _ _ (.inr ⟨mu.length,zSp,zSp⟩) (fun i r _=>?_) (fun b h=>by cases h;rfl) zSp
   rw[qo r]
 .have a0:=jG J.ok
  refine .inr ⟨b,xs.length,xs.flatten,rfl,hc,zOm,R,?_⟩;have C:xs.flatten.take (xs.length*sz)=xs.flatten:=ye zOm;refine k _ _ (.inr ⟨mu.length,zSp,?_⟩) (fun i r I=>?_) (fun b h=>by cases h;rfl) zSp
  .rw [C,zf zSp];simp
  .rw [qo (zUs r)]
   rw[qv (fun e=>I (by rw[e];rfl))]
theorem FzQ.ownB{Q:qX->St->Prop}{i d:Nat}{st:St}(l:st.tm d=av)(p:Own st.mu sz av xs)(wf:zy sz xs)(hf:∀ r,r∈xs->∀ c,c∈r->HF c)
  (k:∀ mu' full,mu'.length=st.mu.length->(∀ j,qx av≠some j->mu'[j]?=st.mu[j]?)->Q (.exit i) (st.put (some d) (.lst full xs) mu')):FzQ Q (.exit i) st:=by
 rcases p with h|⟨b,h,t⟩
 .refine FzQ.one (b:=st.mu.length) (d:=d) (x := .lst true xs) ?_ (k _ _ (jr _ _ _) fun j o=>?_)
  .rw [l,h]
   exact .hf _ (HF.lst hf)
  .by_cases g:j=st.mu.length
   .rw [g,jj (by rw[jr];exact qm _),jj (qm _)]
   .exact VD g _
 .refine FzQ.one (b:=b) (d:=d) (x := .lst false xs) ?_ (k _ _ (jr _ _ _) fun j o=>VD (fun e=>o (by rw[h,e];rfl)) _)
  rw[l];exact Own.rd (.inr ⟨b,h,by rw[pL];exact t⟩) wf.ok hf
abbrev lN(l:List Nat):AV:=lI (l.map fun k:Nat=>(k:Int))
theorem qiL(k:Nat)(l:List Nat):decide ((k:Int)∈l.map fun k:Nat=>(k:Int))=decide (k∈l):=by
 rw[vO,decide_eq_true_iff,decide_eq_true_iff,qr];exact⟨fun⟨a,h,e⟩=>by rwa[show a=k by omega]at h,fun h=>⟨k,h,rfl⟩⟩
theorem Xs(x:Mo)(N:Nat)(I:OkMa x N)(s:Nat)(hs:s<N):qd qb 151 [eMa x,aI s] (lN (x.path s)):=by
 refine qd.of_sound (qe.of_awp call151 func151 rfl (qh zKr) zKr (pl:={}) ?_);have hN:=I.N1;have hl:=I.len;have a2:=zO x;simp[go_sem];refine qn.keep (fun f U=>∃(cur:Nat) (i:List Nat),vF x f cur i=x.path s/\i.Nodup/\(∀ t,t∈i->t<N)/\cur<N/\N+1<=f+i.length/\U.tm 0=eMa x/\U.tm 6=aI (cur:Nat)/\OwnI U.mu (U.tm 5) (i.map fun k:Nat=>(k:Int))) (N+1) ?_ ?_
 .refine ⟨s,[],by unfold Mo.path;rw[hl],zSp,zSp,hs,zSp,zSi,zSi,.inl ⟨zSi,rfl⟩⟩
 rintro f U ⟨cur,i,hp,o,p,hc,hf,e0,J,P⟩;have a3:i.length<=N:=WR N i o p;obtain⟨f,rfl⟩:∃ g,f=g+1:=⟨f-1,zOm⟩;have j:=qg0 (i.map fun k:Nat=>(k:Int)) cur zSo;rw[qiL]at j;simp only[vF]at hp;simp[go_sem,J];refine qc.lend j ⟨P.v.rd,.hf _ (HF.sc _),trivial⟩ (FL.sc _) ?_;by_cases C:cur∈i
 .rw [if_pos C]at hp
  simp[go_sem,C];rw[<-hp];exact P.v.rd
 .rw [if_neg C]at hp
  simp[go_sem,J,C];refine qF.ownV1 (e:=3) (bt:=8) (z:=0) (l:=i.map fun k:Nat=>(k:Int)) zSi zSi zSi zOm P.v zSo ?_;intro a4 r R _ _ _;have a0:=W5 x I.loop zOm cur zOm;have a1:WKs [eMd x.m,aI cur] [eMd x.m,aI cur] := .zk (yK x.m) (.zs .nil);simp[go_sem,e0,J];refine qc.pure a0 a1 ?_;simp[go_sem];refine Keep.loop f zOm ⟨x.nx cur,i++[cur],hp,?_,fun t ht=>?_,I.nx _ hc,zSo,zS1 e0,zSi,?_⟩
  .rw [List.nodup_append]
   exact⟨o,zSp,fun a ha b hb e=>by rw[qL]at hb;subst hb;exact C (e ▸ ha)⟩
  .rcases qM.1 ht with h|h
   .exact p t h
   .rw [qL]at h;omega
  .rw [zx]
   simpa[go_sem] using R
abbrev rB(b:Bool):List AV:=[aB b]
theorem wV(xs:List Bool):zy 1 (xs.map rB):=fun r g=>by
 obtain⟨n,_,rfl⟩:=qr.1 g;exact⟨rfl,rfl⟩
theorem Own.rdB{xs:List Bool}(h:Own mu 1 av (xs.map rB)):Rd mu av (lB xs):=
 h.rd (wV xs).ok fun r i c g=>by
  obtain⟨n,_,rfl⟩:=qr.1 i;simp at g;subst g;exact HF.sc _
def endL:XE (List Bool)->AEnd
 | .ok l => .ret (lB l)
 | .error e => .pan (errV e)
@[go_sem] theorem endL_ok(l:List Bool):endL (.ok l) = .ret (lB l):=rfl
@[go_sem] theorem endL_err(e:Int):endL (.error e) = .pan (errV e):=rfl
theorem ZB{J j:Type}{g:J->XE j}:∀{i l2:List J} {r:List j},mapX g i = .ok r->mapX g (i++l2)=bX (mapX g l2) fun s => .ok (r++s)
 | [],l2,r,h=>by cases h;rw[jq];cases mapX g l2<;>rfl
 |a :: i,l2,r,h=>by
  rw[mapX]at h;obtain⟨b,l,o⟩:=yX h;obtain⟨C,p,t⟩:=yX o;cases t;rw[jd,mapX,l,zi,ZB p];cases mapX g l2<;>rfl
theorem nD(x:Mo)(g:List Nat)(hl:g.length<=1000000)(p:Pl)(n:Nd)(ih:∀ s,s∈g->Ev3 x ⟨s,p.env⟩ n) :
  qU qb 150 [eMa x,lN g,ePl p,eNd n] (endL (mapX (fun s=>(den x n).F ⟨s,p.env⟩) g)):=by
 refine za.of_sound ?_;refine qe.of_awp call150 func150 rfl (qh zKr) zKr (pl:={}) ?_;have a3:=zO x;generalize hE:mapX (fun s=>(den x n).F ⟨s,p.env⟩) g=E;simp[go_sem];refine qn.upK g.length (fun k U=>∃ i:List Bool,mapX (fun s=>(den x n).F ⟨s,p.env⟩) (g.take k) = .ok i/\i.length=k/\U.tm 0=eMa x/\U.tm 6 = .ip (cPl p)/\U.tm 7 = .ip (cNd n)/\U.tm 12=lN g/\U.tm 13=aI g.length/\U.tm 14=aI k/\Own U.mu 1 (U.tm 9) (i.map rB)) ?_ ?_
 .exact ⟨[],rfl,rfl,zSi,zSi,zSi,zSi,zSi,zSi,.inl zSi⟩
 rintro k U hk ⟨i,P,a0,e0,e6,e7,J,C,I,ho⟩;by_cases o:k<g.length
 .have w1:qj.wrap ((k:Int)+1)=(k:Int)+1:=qi zOm zOm
  have R:=(ih g[k] (qy o)).F;have hw:=wk3 x ⟨g[k],p.env⟩ n;have t:=ZB (l2:=g.drop k) P;rw[uf,zt o,mapX]at t;rw[hE]at t;simp[go_sem,e0,e6,e7,J,C,I,o];cases ef:(den x n).F ⟨g[k],p.env⟩ with
  |error e =>
   rw[ef]at R t;subst t;refine qc.pans R hw ?_;simp[go_sem,zC];exact .hf _ (qR _)
  |ok b =>
   rw[ef]at R;refine qc.pure R.toP hw ?_;simp[go_sem];refine qF.ownB (e:=4) (sz:=1) (bt:=1) (zv:=aB false) (xs:=i.map rB) (ys:=[rB b]) zSi zSi zSi rfl rfl zOm zOm ho (by simp[qO]) (wV i) (wV [b]) zSo ?_;intro a4 r a1 _ _ _;simp[go_sem,I,w1];refine⟨o,Keep.mk' ⟨i++[b],?_,zP1 a0,zS1 e0,zS1 e6,zS1 e7,zS1 J,zS1 C,zSi,?_⟩⟩
   .rw [yL o,ZB P,mapX,ef];rfl
   .rw [zx]
    simpa[go_sem] using a1
 .have a2:k=g.length:=by omega
  subst a2;rw[zw,hE]at P;subst P;simp[go_sem,C,I];exact Own.rdB ho
theorem nE(x:List Bool)(y:Bool)(g:x.length<=1000000000):qd qb 149 [lB x,aB y] (aB (decide (y∈x))):=qg2 x y g
theorem qiM(x:Mo)(N:Nat)(n a b:Nd)(hM:OkMa x N)(hk:n.kids=[a,b])(p:Pl)(hp:OkP x N p)(ih:∀ s,s∈x.path p.st->Ev3 x ⟨s,p.env⟩ a/\Ev3 x ⟨s,p.env⟩ b)(hl:(x.path p.st).length<=1000000) :
  qU qb 153 [eMa x,ePl p,eNd n] (endB (untX (fun s=>(den x a).F ⟨s,p.env⟩) (fun s=>(den x b).F ⟨s,p.env⟩) (x.path p.st) false false)):=by
 refine za.of_sound ?_;refine qe.of_awp call153 func153 rfl (qh zKr) zKr (pl:={}) ?_;have P:=zO x;have R:=Xs x N hM p.st hp.st;generalize hE:untX (fun s=>(den x a).F ⟨s,p.env⟩) (fun s=>(den x b).F ⟨s,p.env⟩) (x.path p.st) false false=E;generalize x.path p.st=i at *
 simp[go_sem];refine qc.pure R (.zk P (.zs .nil)) ?_;simp[go_sem];refine qn.upK i.length (fun k U=>∃ d q:Bool,untX (fun s=>(den x a).F ⟨s,p.env⟩) (fun s=>(den x b).F ⟨s,p.env⟩) (i.drop k) d q=E/\U.tm 0=eMa x/\U.tm 4 = .ip (cPl p)/\U.tm 5 = .ip (cNd n)/\U.tm 7=aB d/\U.tm 8=aB q/\U.tm 17=lN i/\U.tm 18=aI i.length/\U.tm 19=aI k) ?_ ?_
 .exact ⟨false,false,hE,zSi,zSi,zSi,zSi,zSi,zSi,zSi,zSi⟩
 rintro k U a3 ⟨d,q,g,e0,e4,e5,e7,e8,C,r,t⟩;by_cases j:k<i.length
 .have w1:qj.wrap ((k:Int)+1)=(k:Int)+1:=qi zOm zOm
  obtain⟨a0,a1⟩:=ih i[k] (qy j);have l:=a0.F;have o:=a1.F;have I:=wk3 x ⟨i[k],p.env⟩ a;have J:=wk3 x ⟨i[k],p.env⟩ b;rw[zt j,untX]at g;simp[go_sem,e4,C,r,t,j];refine qg.seg [0,1,2,3,4,5,7,8,9,10,11,12,6,14,13,15] [(0,0,[]),(1,0,[]),(2,0,[]),(3,0,[]),(4,0,[]),(5,0,[]),(7,0,[]),(8,0,[]),(9,0,[]),(10,0,[]),(11,0,[]),(12,0,[]),(6,1,[8,10,12]),(14,0,[]),(13,1,[]),(15,0,[])] zKr zKr zSi ?_;simp[go_sem,e0,e5,hk];cases ea:(den x a).F ⟨i[k],p.env⟩ with
  |error e =>
   rw[ea]at l g;subst g;refine qc.pans l I ?_;simp[go_sem,zC];exact .hf _ (qR _)
  |ok u =>
   rw[ea]at l g;rw[zi]at g;refine qc.pure l.toP I ?_;simp[go_sem,hk];cases eb:(den x b).F ⟨i[k],p.env⟩ with
   |error e =>
    rw[eb]at o g;subst g;refine qc.pans o J ?_;simp[go_sem,zC];exact .hf _ (qR _)
   |ok v =>
    rw[eb]at o g;rw[zi]at g;refine qc.pure o.toP J ?_;cases d<;>cases q<;>cases u<;>cases v<;>simp[go_sem,e7,e8,t,w1]<;>refine⟨j,Keep.mk' ⟨_,_,g,zS1 e0,zS1 e4,zS1 e5,zSi,zSi,zS1 C,zS1 r,zSi⟩⟩
 .have a2:k=i.length:=by omega
  subst a2;rw[yk,untX]at g;subst g;simp[go_sem,e7,r,t];exact .zsc _
theorem vH{n:Nd}(i:WfN n)(h:n.op=5\/n.op=11\/n.op=12\/n.op=13\/n.op=21\/n.op=34\/n.op=35\/n.op=36\/n.op=37\/n.op=40\/n.op=48\/n.op=49\/n.op=50):∃ a,n.kids=[a]:=by
 have g:=i.shape;have j:n.kids.length=1:=by
  unfold shp at g;rw[if_neg zOm]at g;split at g
  .simpa using congrArg List.length (Option.some.inj g).symm
  .rw [if_neg zOm,if_neg zOm,if_neg zOm,if_pos zOm]at g
   simpa using congrArg List.length (Option.some.inj g).symm
 match n.kids,j with
 | [a],_=>exact⟨a,rfl⟩
theorem ja{n:Nd}(i:WfN n)(h:(6<=n.op/\n.op<=10)\/n.op=14\/n.op=15\/n.op=22\/n.op=23\/n.op=32\/n.op=33\/n.op=38\/n.op=39\/(41<=n.op/\n.op<=46)\/n.op=51):∃ a b,n.kids=[a,b]:=by
 have g:=i.shape;have j:n.kids.length=2:=by
  unfold shp at g;rw[if_neg zOm,if_neg zOm]at g;split at g
  .simpa using congrArg List.length (Option.some.inj g).symm
  .split at g
   .simpa using congrArg List.length (Option.some.inj g).symm
   .split at g
    .simpa using congrArg List.length (Option.some.inj g).symm
    .rw [if_neg zOm,if_pos zOm]at g
     simpa using congrArg List.length (Option.some.inj g).symm
 match n.kids,j with
 | [a,b],_=>exact⟨a,b,rfl⟩
theorem qiN(x:Mo)(N:Nat)(n:Nd)(hw:WfN n)(hM:OkMa x N)(P:IH x N n)(p:Pl)(hp:OkP x N p)(hq:bd p n) :
  qU qb 128 [eMa x,ePl p,eNd n] (endN ((den x n).N p)):=by
 refine za.of_sound ?_;refine qe.of_awp call128 func128 rfl (qh zKr) zKr (pl:={}) ?_;have a0:=zO x;rw[jO];simp only[opD];unfold opN;by_cases j:n.op=20
 .rw [if_pos j]
  simp[go_sem,j];exact .zsc _
 rw[if_neg j];by_cases l:n.op=21
 .rw [if_pos l]
  obtain⟨a,g⟩:=vH hw zOm;have i:=(P a (by rw[g];simp) p hp zOm).E;have I:=wk3 x p a;simp[go_sem,l,g,kD];refine qg.seg [0,1,2,3,4,5,6,7,8,9] [(0,0,[]),(1,0,[]),(2,0,[]),(3,0,[]),(4,0,[]),(5,0,[]),(6,1,[]),(7,0,[]),(8,0,[]),(9,0,[])] zKr zKr zSi ?_;simp[go_sem,g];cases J:(den x a).E p with
  |error e =>
   rw[J]at i;refine qc.pans i I ?_;simp[go_sem,zC];exact .hf _ (qR _)
  |ok r =>
   rw[J]at i;refine qc.pure i.toP I ?_;simp[go_sem,zi];exact .zsc _
 rw[if_neg l];by_cases o:n.op=22
 .rw [if_pos o]
  obtain⟨a,b,g⟩:=ja hw zOm;have i:=(P a (by rw[g];simp) p hp zOm).N;have t:=(P b (by rw[g];simp) p hp zOm).N;have I:=wk3 x p a;have R:=wk3 x p b;simp[go_sem,o,g,kD];refine qg.seg [0,1,2,3,4,5,7,8,9,10,11,12,6,13,14,15] [(0,0,[]),(1,0,[]),(2,0,[]),(3,0,[]),(4,0,[]),(5,0,[]),(7,0,[]),(8,0,[]),(9,0,[]),(10,0,[]),(11,0,[]),(12,0,[]),(6,1,[8,10,12]),(13,1,[]),(14,0,[]),(15,0,[])] zKr zKr zSi ?_;simp[go_sem,g];cases J:(den x a).N p with
  |error e =>
   rw[J]at i;refine qc.pans i I ?_;simp[go_sem,zC];exact .hf _ (qR _)
  |ok r =>
   rw[J]at i;refine qc.pure i.toP I ?_;simp[go_sem,zi,g];cases U:(den x b).N p with
   |error e =>
    rw[U]at t;refine qc.pans t R ?_;simp[go_sem,zC];exact .hf _ (qR _)
   |ok s =>
    rw[U]at t;refine qc.pure t.toP R ?_;simp[go_sem,zi];exact .zsc _
 rw[if_neg o];by_cases C:n.op=23
 .rw [if_pos C]
  obtain⟨a,b,g⟩:=ja hw zOm;have i:=(P a (by rw[g];simp) p hp zOm).N;have t:=(P b (by rw[g];simp) p hp zOm).N;have I:=wk3 x p a;have R:=wk3 x p b;simp[go_sem,C,g,kD];refine qg.seg [0,1,2,3,4,5,7,8,9,10,11,12,6,13,14,15] [(0,0,[]),(1,0,[]),(2,0,[]),(3,0,[]),(4,0,[]),(5,0,[]),(7,0,[]),(8,0,[]),(9,0,[]),(10,0,[]),(11,0,[]),(12,0,[]),(6,1,[8,10,12]),(13,1,[]),(14,0,[]),(15,0,[])] zKr zKr zSi ?_;simp[go_sem,g];cases J:(den x a).N p with
  |error e =>
   rw[J]at i;refine qc.pans i I ?_;simp[go_sem,zC];exact .hf _ (qR _)
  |ok r =>
   rw[J]at i;refine qc.pure i.toP I ?_;simp[go_sem,zi,g];cases U:(den x b).N p with
   |error e =>
    rw[U]at t;refine qc.pans t R ?_;simp[go_sem,zC];exact .hf _ (qR _)
   |ok s =>
    rw[U]at t;refine qc.pure t.toP R ?_;simp[go_sem,zi];exact .zsc _
 rw[if_neg C];simp[go_sem,j,l,o,C];refine qc.pans (u3 43) (wkI 43) ?_;simp[go_sem];exact .hf _ (qR _)
end
end F4
namespace F5
open Y1 YF E2 E3 EA EO EP EQ ER ET EW F1 F2 F3 F4
theorem clipE(l:List (ByteArray×Int)):qd qb 224 [lPm l] (.lst true (l.map cPm)):=by
 refine qd.of_sound (qe.of_awp call224 func224 rfl (qh zKr) zKr (pl:={}) ?_);have g:List.take l.length (l.map cPm)=l.map cPm:=ye zSp;simp[go_sem,g];exact⟨⟨_,_,⟨rfl,rfl⟩,fun r i=>by obtain⟨q,_,rfl⟩:=qr.1 i;rfl⟩,.hf _ (HF.lst fun r i c j=>by obtain⟨q,_,rfl⟩:=qr.1 i;exact VP q c j)⟩
theorem clipI(l:List Int):qd qb 259 [lI l] (lI l):=by
 refine qd.of_sound (qe.of_awp call259 func259 rfl (qh zKr) zKr (pl:={}) ?_);have g:List.take l.length (l.map rI)=l.map rI:=ye zSp;simp[go_sem,g];exact⟨⟨_,_,⟨rfl,rfl⟩,(wJ l).ok⟩,.wk _ true _ (.hf _ (HF.lst fun r j c i=>by obtain⟨q,_,rfl⟩:=qr.1 j;simp at i;subst i;exact HF.sc _))⟩
theorem Xt(xs:List (ByteArray×Int)):zy 2 (xs.map cPm):=fun r g=>by
 obtain⟨n,_,rfl⟩:=qr.1 g;exact⟨rfl,rfl⟩
abbrev insC(g:Int)(ts:List Int)(i:List Bool):List AV:=[.ip [aI g,lI ts],.ip [lB i]]
def ZC(ts:List Int)(g:List Bool):List (List AV):=(ts.zip g).map fun e=>[aI e.1,aB e.2]
theorem Xu(ar:Int)(ts:List Int)(g:List Bool)(hl:ts.length=g.length)(hb:ts.length<=1000000):jw qb 225 (insC ar ts g) (ZC ts g):=by
 refine jw.of call225 fun i I Ix hS hX hY C h0=>?_
 refine qe.of_awp call225 func225 rfl (qh zKr) zKr (pl:={}) ?_;have o:(ZC ts g).length=ts.length:=by simp[ZC,hl]
 simp[go_sem];refine qn.upK ts.length (fun k U=>U.tm 0 = .yl i/\U.tm 2 = .ip [lB g]/\U.tm 7=lI ts/\U.tm 8=aI ts.length/\U.tm 9=aI k/\I k U.mu) ?_ ?_
 .exact ⟨zSi,zSi,zSi,zSi,zSi,zVs h0⟩
 rintro k U hk ⟨e0,e2,e7,p,t,hI⟩;by_cases j:k<ts.length
 .have w1:qj.wrap ((k:Int)+1)=(k:Int)+1:=qi zOm zOm
  have hv:k<g.length:=zOm;have l:(ZC ts g)[k]?=some [aI ts[k],aB g[k]]:=by
   rw[ZC,zu,List.getElem?_zip_eq_some (z:=(ts[k],g[k])) |>.2 ⟨qA j,qA hv⟩];rfl
  simp[go_sem,e0,e2,e7,p,t,j,hv];refine qc.yield (hY _ _ _ l hI) ?_;rintro b r (⟨rfl,J⟩|⟨rfl,P⟩)
  .simp [go_sem,t,w1]
   exact⟨j,Keep.mk' ⟨zS1 e0,zS1 e2,zS1 e7,zS1 p,zSi,zVs J⟩⟩
  .simp [go_sem]
   exact .inr P
 .have R:k=ts.length:=by omega
  subst R;simp[go_sem,p,t];exact .inl (by rw[o];exact hI)
def endI(l:XE (List (Int×Bool))):AEnd:=match l with
 | .ok l => .ret (.fn (.func 225) [] (insC 1 (l.map Prod.fst) (l.map Prod.snd)))
 | .error e => .pan (errV e)
theorem Ua(l:List (Int×Bool)):endI (.ok l) = .ret (.fn (.func 225) [] (insC 1 (l.map Prod.fst) (l.map Prod.snd))):=rfl
theorem Xv(e:Int):endI (.error e) = .pan (errV e):=rfl
theorem Xw(x:Mo)(N:Nat)(n a b:Nd)(hM:OkMa x N)(hk:n.kids=[a,b])(ih:IH x N n)(p:Pl)(hp:OkP x N p)(hq:bd p n) :
  qU qb 148 [eMa x,ePl p,eNd n] (endI (yW [den x a,den x b] n.name p)):=by
 refine za.of_sound ?_;refine qe.of_awp call148 func148 rfl (qh zKr) zKr (pl:={}) ?_;have ia:=ih a (by rw[hk];simp) p hp zOm;have ha:=ia.E;have wa:=wk3 x p a;have ak:=zO x;have al:=fun p' h1 h2=>(ih b (by rw[hk];simp) p' h1 h2).F
 generalize C:yW [den x a,den x b] n.name p=E;unfold yW at C;simp only[kD,uj,List.getD_cons_succ]at C;simp[go_sem];refine qg.seg [0,1,2,3,4,5,6,7,8] [(0,0,[]),(1,0,[]),(2,0,[]),(3,0,[]),(4,0,[]),(5,0,[]),(6,1,[]),(7,2,[1,3,5]),(8,1,[])] zKr zKr zSi ?_;simp[go_sem,hk];cases ea:(den x a).E p with
 |error e =>
  rw[ea]at ha C;subst C;refine qc.pans ha wa ?_;simp[go_sem,zC,Xv];exact .hf _ (qR _)
 |ok d =>
  rw[ea]at ha C;rw[zi]at C;refine qc.pure ha.toP wa ?_;by_cases he:d.ar=1
  case neg =>
   rw[if_neg he]at C;subst C;simp[go_sem,hk,he];refine qc.pans (u3 42) (wkI 42) ?_;simp[go_sem,Xv];exact .hf _ (qR _)
  rw[if_pos he]at C;have hd:(d.ar=1)=True:=eq_true he;have gd:=ia.G _ ea;have ld:=gd.len hM.n0 (OkMa.n20 hM);generalize hg:(fun a=>bX ((den x b).F ⟨p.st,p.env++[(n.name,a)]⟩) fun b=>(Except.ok (a,b):XE (Int×Bool)))=g at C;simp[go_sem,hk,hd];refine qn.upK d.ts.length (fun k U=>∃(o:List (Int×Bool)) (t:AV),mapX g (d.ts.take k) = .ok o/\o.length=k/\U.tm 0=eMa x/\U.tm 4 = .ip (cPl p)/\U.tm 5 = .ip (cNd n)/\U.tm 7 = .ptr 0 0/\U.tm 8 = .ptr 1 0/\U.tm 24=lI d.ts/\U.tm 25=aI d.ts.length/\U.tm 26=aI k /\
   U.mu[0]?=some (.arr (cRel d))/\U.mu[1]?=some (.arr [t])/\Own U.mu 1 t ((o.map Prod.snd).map rB)/\qx t≠some 0/\qx t≠some 1) ?_ ?_
  .exact ⟨[],.lst true [],rfl,rfl,zSi,zSi,zSi,zSi,zSi,zSi,zSi,zSi,zSi,zSi,.inl rfl,by simp[qx],by simp[qx]⟩
  rintro k U b0 ⟨o,t,J,an,e0,e4,e5,e7,e8,ab,a5,a6,g0,g1,ho,n0,n1⟩;by_cases I:k<d.ts.length
  .have w1:qj.wrap ((k:Int)+1)=(k:Int)+1:=qi zOm zOm
   have hv:=gd.val _ (qy I);rw[he,uz]at hv;have hF:=al ⟨p.st,p.env++[(n.name,d.ts[k])]⟩ (hp.bind hv) zSo;have hw:=wk3 x ⟨p.st,p.env++[(n.name,d.ts[k])]⟩ b;have P:=ZB (l2:=d.ts.drop k) J;rw[uf,zt I,mapX]at P;rw[C]at P;have a0:g d.ts[k]=bX ((den x b).F ⟨p.st,p.env++[(n.name,d.ts[k])]⟩) fun b => .ok (d.ts[k],b):=by rw[<-hg]
   simp[go_sem,ab,a5,a6,I];refine qg.seg [0,1,3,4,5,6,7,2,8,9] [(0,0,[]),(1,0,[]),(3,0,[]),(4,0,[]),(5,0,[]),(6,0,[]),(7,0,[]),(2,1,[4]),(8,1,[]),(9,0,[])] zKr zKr zSi ?_;simp[go_sem,e4,e5];refine qc.pure (clipE p.env) (.zk (vV _) .nil) ?_;simp[go_sem];refine qF.ownB (e:=113) (sz:=2) (bt:=24) (zv := .agg [aS ⟨#[]⟩,aI 0]) (xs:=p.env.map cPm) (ys:=[cPm (n.name,d.ts[k])]) zSi zSi zSi rfl rfl zOm zOm (.inl rfl) (by simp[qO]) (Xt p.env) (Xt [(n.name,d.ts[k])]) zSo ?_;intro ev ad ae ao aq b1;have l1:1<U.mu.length:=(qk.1 g1).1;have a3:p.env.map cPm++[cPm (n.name,d.ts[k])]=(p.env++[(n.name,d.ts[k])]).map cPm:=by rw[zx];rfl
   rw[a3]at ae;have af:∀ i,i<U.mu.length->ad[i]?=U.mu[i]?:=fun i hi=>ao i hi (by simp[qx])
   simp[go_sem];refine qg.fz (FzQ.ownB (d:=11) (sz:=2) (av:=ev) (xs:=(p.env++[(n.name,d.ts[k])]).map cPm) zSi ae (Xt _) (fun r hr c hc=>by obtain⟨q,_,rfl⟩:=qr.1 hr;exact VP q c hc) fun a1 full au aw=>?_);have a7:∀ i,i<U.mu.length->a1[i]?=U.mu[i]?:=fun i hi=>(aw i (fun e=>zW1 (aq i e))).trans (af i hi)
   simp[go_sem];refine qg.seg [0,1,2,3,4,5,6,7,8,9,10,11,12,13] [(0,0,[]),(1,0,[]),(2,0,[]),(3,0,[]),(4,0,[]),(5,0,[]),(6,0,[]),(7,0,[]),(8,0,[]),(9,0,[]),(10,1,[0]),(11,0,[]),(12,1,[]),(13,1,[])] zKr zKr zSi ?_;have ax:=(a7 0 zOm).trans g0;have a8:=(a7 1 l1).trans g1;have a2:∀ f,WKs [eMa x,.agg [aI p.st,.lst f ((p.env++[(n.name,d.ts[k])]).map cPm)],eNd b] [eMa x,ePl ⟨p.st,p.env++[(n.name,d.ts[k])]⟩,eNd b]:=fun f =>
    .zk ak (.cons (WK.aggs (.zs (.cons (WK.lst fun r hr c hc=>by obtain⟨q,_,rfl⟩:=qr.1 hr;exact VP q c hc) .nil))) (.zk (qz b) .nil))
   have ay:Own a1 1 t ((o.map Prod.snd).map rB):=by
    rcases ho with h|⟨bb,h,hc⟩
    .exact .inl h
    .exact .inr ⟨bb,h,by rw[a7 bb (qk.1 hc).1];exact hc⟩
   have a2:WKs [eMa x,.agg [aI p.st,.lst full (p.env.map cPm++[cPm (n.name,d.ts[k])])],.agg (cNd b)] [eMa x,ePl ⟨p.st,p.env++[(n.name,d.ts[k])]⟩,eNd b]:=by rw[a3];exact a2 full
   simp[go_sem,e0,e4,e5,e8,hk,a8];cases ef:(den x b).F ⟨p.st,p.env++[(n.name,d.ts[k])]⟩ with
   |error e =>
    rw[ef]at hF a0;rw[a0]at P;subst P;refine qc.pans hF a2 ?_;simp[go_sem,zC,Xv];exact .hf _ (qR _)
   |ok v =>
    rw[ef]at hF a0;refine qc.pure hF.toP a2 ?_;simp[go_sem,e8,a8];refine qF.ownB (e:=4) (sz:=1) (bt:=1) (zv:=aB false) (xs:=(o.map Prod.snd).map rB) (ys:=[rB v]) zSi zSi zSi rfl rfl zOm zOm ay (by simp[qO]) (wV _) (wV [v]) zSo ?_;intro a9 ag aa ah ai b2;have b3:U.mu.length<=a1.length:=by
     have:a1.length=ad.length:=au;omega
    have k0:ag[0]?=some (.arr (cRel d)):=(ah 0 zOm n0).trans ax;have k1:ag[1]?=some (.arr [t]):=(ah 1 zOm n1).trans a8;have m0:qx a9≠some 0:=fun e=>zW1 (ai 0 e)
    have m1:qx a9≠some 1:=fun e=>zW1 (ai 1 e)
    simp[go_sem,e8,a6,k1,Own.one aa,Own.cells aa,w1];refine⟨I,Keep.mk' ⟨o++[(d.ts[k],v)],a9,?_,zP1 an,zS1 e0,zS1 e4,zS1 e5,zS1 e7,zS1 e8,zS1 ab,zS1 a5,zSi,?_,?_,?_,m0,m1⟩⟩
    .rw [yL I,ZB J,mapX,a0];rfl
    .simp only[qP];rw[qv zOm];exact k0
    .simp only[qP];rw[qJ zOm]
    .simp only[qP]
     rw[zx,zx];exact Own.set aa _ m1
  .have az:k=d.ts.length:=by omega
   subst az;rw[zw,C]at J;subst J;have aj:=Xr (g:=fun a=>(den x b).F ⟨p.st,p.env++[(n.name,a)]⟩) (ts:=d.ts) (l:=o) (by rw[hg];exact C);have a4:=Ua o;rw[aj]at a4;generalize o.map Prod.snd=vs at *
   simp[go_sem,e7,e8,a5,a6,a4];refine .fn _ _ _ _ _ rfl rfl (fun k x y hx=>by simp at hx) (fun k x y hx hy=>?_)
   match k with
   | 0 =>
    simp at hx hy;subst hx;subst hy;rw[<-he];refine .ptr 0 0 _ _ g0 zSp fun k u v hu hv=>?_
    rw[yy]at hu;rw[hu]at hv;cases hv;exact .hf _ (Je d _ (qV hu))
   | 1=>simp at hx hy;subst hx;subst hy;exact Rd.ip1 g1 (Own.rdB ho)
   |k+2=>simp at hx
theorem RelM.push{mu:Mu}{g:Int}{l:List Int}(h:RelM mu g l):RelM (mu++[.dead]) g l:=by
 obtain⟨t,i,g1,j,o,p⟩:=h;exact⟨t,by rw[qo (qk.1 i).1];exact i,by rw[qo (qk.1 g1).1];exact g1,j.same fun b r=>by rw[qo (j.v.lt r)],o,p⟩
abbrev onL(l:List (Int×Bool)):List Int:=(l.filter fun e=>e.2).map fun e=>e.1
theorem Xx(l:List (Int×Bool)):ZC (l.map Prod.fst) (l.map Prod.snd)=l.map fun e=>[aI e.1,aB e.2]:=by
 rw[ZC,List.zip_map'];simp
theorem qiO(l:List (Int×Bool))(k:Nat)(h:k<l.length):onL (l.take (k+1))=onL (l.take k)++(if l[k].2=true then [l[k].1] else []):=by
 rw[yL h,onL,List.filter_append,zx];cases g:l[k].2<;>simp[g]
theorem Xy{ds:List Den}{nm:ByteArray}{p:Pl}{l:List (Int×Bool)}(h:yW ds nm p = .ok l)(B:Nat)(hB:∀ d,(kD ds 0).E p = .ok d->d.ts.length<=B):l.length<=B:=by
 obtain⟨d,g,_,i⟩:=nr h;have:=congrArg List.length i;rw[yI]at this;rw[this];exact hB d g
theorem qiP(x:Mo)(N:Nat)(n a b:Nd)(hM:OkMa x N)(hk:n.kids=[a,b])(ih:IH x N n)(p:Pl)(hp:OkP x N p)(hq:bd p n) :
  qU qb 203 [eMa x,ePl p,eNd n] (endE (bX (yW [den x a,den x b] n.name p) fun l => .ok ⟨1,(l.filter fun e=>e.2).map fun e=>e.1⟩)):=by
 refine za.of_sound ?_;refine qe.of_awp call203 func203 rfl (qh zKr) zKr (pl:={}) ?_;have I:=Xw x N n a b hM hk ih p hp hq;have wx:=wk3 x p n;simp[go_sem];cases hE:yW [den x a,den x b] n.name p with
 |error e =>
  rw[hE]at I;refine qc.pans I wx ?_;simp[go_sem,zC];exact .hf _ (qR _)
 |ok l =>
  rw[hE]at I;have hl:l.length<=8000:=Xy hE 8000 fun d h=>((ih a (by rw[hk];simp) p hp zOm).G d h).len hM.n0 (OkMa.n20 hM)
  have J:=Xu 1 (l.map Prod.fst) (l.map Prod.snd) zSp zSo;rw[Xx]at J;rw[Ua]at I;refine qc.pure I.toP wx ?_;generalize insC 1 (l.map Prod.fst) (l.map Prod.snd)=C at *
  simp[go_sem,zi];refine vC.keep J (fun j M=>RelM M 1 (onL (l.take j))) (fun _ _=>False) ?_ ?_ ?_ ?_ ?_ ?_
  .exact ⟨.lst true [],zSi,zSi,.inl ⟨rfl,rfl⟩,by simp[qx],by simp[qx]⟩
  .exact fun j M h=>RelM.push h
  .intro e M h;exact h
  .rintro j y M hj ⟨av,P,g1,o,U,n1⟩
   rw[zu,j8]at hj;obtain⟨t,ht,rfl⟩:=hj;obtain⟨a0,a1⟩:=qk.1 ht;have g:=qiO l j a0;rw[a1]at g;refine⟨rfl,?_⟩;cases hb:t.2 with
   |true =>
    rw[if_pos hb]at g;have a5:(onL (l.take j)).length<=8000:=by
     rw[onL,yI];exact zP (List.length_filter_le _ _) zSo
    simp[go_sem,g1];refine qF.ownV1 (e:=3) (bt:=8) (z:=0) zSi zSi zSi zOm o.v zOm ?_;intro a6 r i a2 a3 a4;obtain⟨k1,k2⟩:=RelM.step P g1 U n1 i a2 a3 a4;simp[go_sem,k1,i.v.one,i.v.cells];refine vh.intro ?_;rw[g];exact k2
   |false =>
    rw[if_neg (by rw[hb];simp),zV]at g;simp[go_sem];refine vh.intro ?_;rw[g];exact⟨av,P,g1,o,U,n1⟩
  .rintro M ⟨av,P,g1,o,U,n1⟩
   rw[yI,zw]at o;have R:∀ c,(M.set 0 c)[0]?=some c:=fun c=>qJ (qk.1 P).1
   simp[go_sem,P,g1,R,o.v.one];refine OwnV.rdRel (o.v.same fun b hb=>?_);rw[qv (fun e=>U (by rw[e];exact hb))]
  .intro e M h;exact h.elim
end F5
namespace F6
open Y1 Y10 P1 YF E3 EA EO EP EQ ER EW F1 F2 F3 F4 F5
section
variable {env:List (ByteArray×Int)}{st:St}{Q:qX->St->Prop}
theorem backU(l:List (ByteArray×Int)):qd qb 258 [lPm l] (.fn (.func 297) [] [.ip [lPm l]]):=by
 refine qd.of_sound (qe.of_awp call258 func258 rfl (qh zKr) zKr (pl:={}) ?_);simp[go_sem];exact .hf _ (HF.fn zSp (by simp;exact y9 (vV _)))
def Qu(l:List (ByteArray×Int)):List (List AV):=(qu l.length).map fun k:Nat=>[aI ((l.length-1-k:Nat):Int),.agg (cPm (l.getD (l.length-1-k) (⟨#[]⟩,0)))]
theorem qiQ(l:List (ByteArray×Int))(hl:l.length<=1000000000):jw qb 297 [.ip [lPm l]] (Qu l):=by
 refine jw.of call297 fun i I Ix hS hX hY C h0=>?_
 refine qe.of_awp call297 func297 rfl (qh zKr) zKr (pl:={}) ?_;have P:(Qu l).length=l.length:=by simp[Qu]
 have w0:qj.wrap ((l.length:Int)-1)=(l.length:Int)-1:=qi zOm zOm;simp[go_sem,w0];refine qn.upK l.length (fun k U=>U.tm 0 = .yl i/\U.tm 1 = .ip [lPm l]/\U.tm 3=aI ((l.length:Int)-1-k)/\I k U.mu) ?_ ?_
 .exact ⟨zSi,zSi,zSi,zVs h0⟩
 rintro k U hk ⟨e0,e1,g,hI⟩;by_cases o:k<l.length
 .have hj:((l.length:Int)-1-k)=((l.length-1-k:Nat):Int):=by omega
  have p:l.length-1-k<l.length:=zOm;have hw:qj.wrap (((l.length-1-k:Nat):Int)-1)=(l.length:Int)-1-((k+1:Nat):Int):=by rw[qi zOm zOm];omega
  have t:(0:Int)<=((l.length-1-k:Nat):Int):=zOm;have J:(Qu l)[k]?=some [aI ((l.length-1-k:Nat):Int),.agg (cPm l[l.length-1-k])]:=by
   rw[Qu,zu,uH o];simp[zT,qA p]
  rw[hj]at g;generalize l.length-1-k=j at *
  simp[go_sem,e0,e1,g,t,p];refine qc.yield (hY _ _ _ J hI) ?_;rintro b r (⟨rfl,R⟩|⟨rfl,a0⟩)
  .simp [go_sem,g,hw]
   exact⟨o,Keep.mk' ⟨zS1 e0,zS1 e1,zSi,zVs R⟩⟩
  .simp [go_sem]
   exact .inr a0
 .have a1:k=l.length:=by omega
  subst a1;rw[show (l.length:Int)-1-l.length = -1 by omega]at g;simp[go_sem,g];exact .inl (by rw[P];exact hI)
theorem Xz(nm:ByteArray):∀(l:List (ByteArray×Int)) (r:Option Int),(∀ e,e∈l->e.1≠nm)->l.foldl (fun r e=>if e.1=nm then some e.2 else r) r=r
 | [],r,_=>rfl
 |e :: l,r,h=>by rw[List.foldl_cons,if_neg (h e zSp)];exact Xz nm l r fun x hx=>h x (by simp[hx])
theorem qiR{nm:ByteArray}(h:∀ e,e∈env->e.1≠nm):zF nm env=none:=Xz nm env none h
theorem qiS{nm:ByteArray}{j:Nat}(g:j<env.length)(i:env[j].1=nm)(h:∀ e,e∈env.drop (j+1)->e.1≠nm):zF nm env=some env[j].2:=by
 have e:env=env.take j++env[j] :: env.drop (j+1):=by rw[<-zt g,uf]
 unfold zF
 conv=>lhs;rw[e]
 rw[ue,List.foldl_cons,if_pos i];exact Xz nm _ _ h
theorem qiT(fs:List Fld)(g:List Rl)(nm:ByteArray)(k:Nat)(h:k<fs.length)(i:k<g.length):jY (fs.take (k+1)) (g.take (k+1)) nm=jY (fs.take k) (g.take k) nm++(if fs[k].name=nm then [g[k]] else []):=by
 unfold jY;rw[yL h,yL i,List.zip_append zSo,List.filterMap_append];congr 1;by_cases e:fs[k].name=nm<;>simp[e]
theorem nF(fs:List Fld)(g:List Rl)(nm:ByteArray):(jY fs g nm).length<=fs.length:=by
 unfold jY;refine zP (List.length_filterMap_le _ _) ?_;rw[List.length_zip];omega
def Qv(x:Mo)(nm:ByteArray)(i:Nat)(s:ByteArray×Bool):List Rl:=(if s.1=nm then [⟨1,zB x i⟩] else [])++((if s.2=true/\s.1++yV=nm then [⟨1,(zB x i).take 1⟩] else [])++(if s.2=true/\s.1++jM=nm then [⟨2,uY x i⟩] else []))
theorem nG(x:Mo)(nm:ByteArray):∀(a b:List (ByteArray×Bool)) (i:Nat),yj x nm i (a++b)=yj x nm i a++yj x nm (i+a.length) b
 | [],b,i=>rfl
 |s :: a,b,i=>by
  rw[jd,yj,yj,nG x nm a b (i+1),zG,show i+1+a.length=i+(a.length+1) by omega];simp only[zE]
theorem nH(x:Mo)(nm:ByteArray)(so:List (ByteArray×Bool))(k:Nat)(h:k<so.length):yj x nm 0 (so.take (k+1))=yj x nm 0 (so.take k)++Qv x nm k so[k]:=by
 rw[yL h,nG,vM,Nat.min_eq_left zOm,yy,yj];simp[Qv,yj]
theorem qiU(x:Mo)(nm:ByteArray)(i:Nat)(s:ByteArray×Bool):(Qv x nm i s).length<=3:=by
 unfold Qv;simp only[zc];split<;>split<;>split<;>simp
theorem nI(x:Mo)(nm:ByteArray)(so:List (ByteArray×Bool)):∀ k,k<=so.length->(yj x nm 0 (so.take k)).length<=3*k
 | 0,_=>by simp[yj]
 |k+1,h=>by
  rw[nH x nm so k zOm,zc];have:=nI x nm so k zOm;have:=qiU x nm k so[k];omega
theorem qiV(sc:Sc)(i:Nat):tupR sc [(i:Int)] 0=(qu (gI sc.atoms i).toNat).map fun k:Nat=>sumI (sc.atoms.take i)+k:=by
 rw[tupR];simp only[tupR,Int.zero_mul,Int.zero_add,show (i:Int).toNat=i by omega];exact List.map_eq_flatMap.symm
theorem FzQ.above{i d L:Nat}{x:AV}(g:Rd (cutM (fun j=>decide (L<=j)) st.mu 0) (st.tm d) x)(k:Q (.exit i) (st.put (some d) x (cutM (fun j=>!decide (L<=j)) st.mu 0))):FzQ Q (.exit i) st:=by
 refine⟨_,⟨fun j=>decide (L<=j),rfl,fun j=>?_⟩,trivial,k⟩;simp only[St.put];split
 .rename_i h;subst h;exact .rd _ _ g
 .exact .same _
def bR:Nat->Int
 | 0=>0
 |k+1=>bR k*20+20
theorem bR_ok:∀ k,k<=3->bR k<=100000
 | 0,_=>zDe
 | 1,_=>zDe
 | 2,_=>zDe
 | 3,_=>zDe
def vW(n:Int)(tuple:List Int):Int:=tuple.foldl (fun o t=>o*n+t) 0
theorem qiW(n:Int)(tuple:List Int)(k:Nat)(h:k<tuple.length):vW n (tuple.take (k+1))=vW n (tuple.take k)*n+tuple[k]:=by
 rw[List.take_add_one,qA h,vW,vW,ue];rfl
theorem rankU(sc:Sc)(g:GSc sc)(tuple:List Int)(ht:tuple.length<=3)(hd:∀ d,d∈tuple->0<=d/\d<sumI sc.atoms):qd qb 260 [eSc sc,lI tuple] (aI (vW (sumI sc.atoms) tuple)):=by
 refine qd.of_sound (qe.of_awp call260 func260 rfl (qh zKr) zKr (pl:={}) ?_);simp[go_sem,show ¬(3:Int)<tuple.length by omega];refine qc.pure (W8 sc g) (.zk (jx sc) .nil) ?_;have o:=g.sum sc.atoms.length;rw[zw]at o;generalize sumI sc.atoms=n at *
 simp[go_sem];refine qn.up tuple.length (fun k U=>U.tm 5=aI n/\U.tm 14=lI tuple/\U.tm 15=aI tuple.length/\U.tm 6=aI (vW n (tuple.take k))/\U.tm 16=aI k/\U.mu=[]/\0<=vW n (tuple.take k)/\vW n (tuple.take k)<=bR k) ?_ ?_
 .simp [go_sem,vW,bR]
 rintro k U hk ⟨P,p,j,R,l,hm,t,C⟩;by_cases i:k<tuple.length
 .have I:=hd _ (qy i)
  have hs:=qiW n tuple k i;have hb:=bR_ok k zOm;have a0:bR (k+1)=bR k*20+20:=rfl;generalize a1:vW n (tuple.take k)=r at *
  have m0:0<=r*n:=Int.mul_nonneg t zOm;have m1:r*n<=bR k*20:=jS C zOm zOm zOm;have hw:qj.wrap (n-1)=n-1:=qi zOm zOm;simp[go_sem,P,p,j,l,hm,i,hw];refine qc.pure (Xj tuple[k] 0 (n-1)) (.zs (.zs (.zs .nil))) ?_;simp[go_sem,P,p,j,R,l,i,I.1,show tuple[k]<=n-1 by omega];rw[hs,qi (n:=r*n) zOm zOm,qi (n:=r*n+tuple[k]) zOm zOm,qi (n:=(k:Int)+1) zOm zOm];exact⟨rfl,rfl,zOm,zOm⟩
 .have J:k=tuple.length:=by omega
  subst J;simp[go_sem,j,R,l,hm];exact .zsc _
theorem BrS.join{P:j1}{pl:Pol}{b:Bool}{A B:Code}{K:St->Prop}(J:St->Prop)(j:b=true->awp P pl A (seqQ (fun st=>Keep J .mk st) Q) st)(l:b=false->awp P pl B (seqQ (fun st=>Keep J .mk st) Q) st)(o:∀ st,J st->K st) :
  BrS b (awp P pl A (seqQ K Q)) (awp P pl B (seqQ K Q)) st:=by
 refine BrS.intro (fun h=>awp.mono A (j h) fun e st g=>?_) (fun h=>awp.mono B (l h) fun e st g=>?_)
 all_goals cases e with
  |normal=>exact o st g
  |exit i=>exact g
  |ret=>exact g
  |pan v=>exact g
theorem BrS.at{b:Bool}{p q:St->Prop}(J:St->Prop)(h:J st)(k:∀ st,J st->BrS b p q st):BrS b p q st:=k st h
def FndM(mu:Mu)(s:AV)(F:List Rl):Prop:=mu[0]?=some (.arr [aI 0,.lst true []])/\Own mu 2 s (F.map cRel)/\qx s≠some 0
theorem WK.intsF{full:Bool}(l:List Int):WK (.lst full (l.map rI)) (lI l):=WK.lst fun r i c g=>by
 obtain⟨n,_,rfl⟩:=qr.1 i;simp at g;subst g;exact HF.sc _
structure SInv (x:Mo) (nm sn:ByteArray) (sb:Bool) (k c d:Nat) (F:List Rl) (st:St):Prop where
 e0:st.tm 0=eMa x
 e5:st.tm 5 = .ip [aS nm]
 e6:st.tm 6 = .ptr 0 0
 e13:st.tm 13 = .ptr c 0
 e14:st.tm 14 = .ptr d 0
 e65:st.tm 65=lSo x.ts.sorts
 e66:st.tm 66=aI x.ts.sorts.length
 e67:st.tm 67=aI k
 g0:st.mu[0]?=some (.arr [aI 0,.lst true []])
 gc:st.mu[c]?=some (.arr [aS sn,aB sb])
 gd:st.mu[d]?=some (.arr [aI 1,lI (zB x k)])
 ho:Own st.mu 2 (st.tm 9) (F.map cRel)
 n0:qx (st.tm 9)≠some 0
 nc:qx (st.tm 9)≠some c
 nd:qx (st.tm 9)≠some d
structure SNew (c d:Nat) (F:List Rl) (av:AV) (mu:Mu):Prop where
 g0:mu[0]?=some (.arr [aI 0,.lst true []])
 ho:Own mu 2 av (F.map cRel)
 n0:qx av≠some 0
 nc:qx av≠some c
 nd:qx av≠some d
theorem SInv.app{t I:j2}(T:qN qb t=some (104,2,32))(g:(qN qb I).isSome=true){x:Mo}{nm J:ByteArray}{P:Bool}{k c d:Nat}{F:List Rl}{st:St}(h:SInv x nm J P k c d F st)(hl:F.length<=100)(r:Rl){R:AV}(hx:qO st.mu R=some [cRel r]){K:AV->Mu->Prop}
  (U:∀ av mu',SNew c d (F++[r]) av mu'->mu'[c]?=some (.arr [aS J,aB P])->mu'[d]?=some (.arr [aI 1,lI (zB x k)])->K av mu'):qF qb st.mu #[t,I] (st.tm 9) R K:=by
 have lc:=(qk.1 h.gc).1;have ld:=(qk.1 h.gd).1;have l0:=(qk.1 h.g0).1;refine qF.ownB (e:=104) (sz:=2) (bt:=32) (zv := .agg [aI 0,.lst true []]) (xs:=F.map cRel) (ys:=[cRel r]) T g zSi rfl rfl zOm zOm h.ho hx (Zq _) (Zq [r]) zSo ?_;intro o mu' C g i a0;refine U o mu' ⟨by rw[g 0 l0 h.n0];exact h.g0,by rw[zx];exact C,fun e=>zW1 (i 0 e),fun e=>zW1 (i c e),fun e=>zW1 (i d e)⟩ (by rw[g c lc h.nc];exact h.gc) (by rw[g d ld h.nd];exact h.gd)
theorem appR{t I:j2}(P:qN qb t=some (104,2,32))(g:(qN qb I).isSome=true){mu:Mu}{s:AV}{F:List Rl}(h:FndM mu s F)(hl:F.length<=100)(r:Rl){J:AV}(hx:qO mu J=some [cRel r]){K:AV->Mu->Prop}
  (R:∀ av mu',FndM mu' av (F++[r])->K av mu'):qF qb mu #[t,I] s J K:=by
 have T:=(qk.1 h.1).1;refine qF.ownB (e:=104) (sz:=2) (bt:=32) (zv := .agg [aI 0,.lst true []]) (xs:=F.map cRel) (ys:=[cRel r]) P g zSi rfl rfl zOm zOm h.2.1 hx (Zq _) (Zq [r]) zSo ?_;intro i mu' o g C U;exact R i mu' ⟨by rw[g 0 T h.2.2];exact h.1,by rw[zx];exact o,fun e=>zW1 (C 0 e)⟩
theorem qiX(x:Mo)(N:Nat)(hM:OkMa x N)(nm:ByteArray)(p:Pl)(hp:OkP x N p)(hq:p.env.length<=1000000) :
  qU qb 204 [eMa x,ePl p,aS nm] (endE (jC x p nm)):=by
 refine za.of_sound ?_;refine qe.of_awp call204 func204 rfl (qh zKr) zKr (pl:={}) ?_;have ds:=zO x;generalize hE:jC x p nm=E;unfold jC at hE;simp[go_sem];refine qc.pure (backU p.env) (.zk (vV _) .nil) ?_;simp[go_sem];refine vC.keep (qiQ p.env zOm) (fun k M=>(∃ g,M = .arr [aI 0,.lst true []] :: g)/\∀ e,e∈p.env.drop (p.env.length-k)->e.1≠nm) (fun e M=>e = .ret/\∃ a g,zF nm p.env=some a/\M = .arr [aI 1,.lst true [[aI a]]] :: g) ?_ ?_ ?_ ?_ ?_ ?_
 .exact ⟨⟨_,by simp only[qP,jd];rfl⟩,zSp⟩
 .rintro k M ⟨⟨g,rfl⟩,h⟩
  exact⟨⟨g++[.dead],rfl⟩,h⟩
 .rintro e M ⟨C,a,g,h2,rfl⟩
  exact⟨C,a,g++[.dead],h2,rfl⟩
 .rintro k y M hk ⟨⟨g,rfl⟩,h⟩
  have br:k<p.env.length:=by
   have:=(qk.1 hk).1;simpa[Qu] using this
  have a7:p.env.length-1-k<p.env.length:=zOm;rw[Qu,zu,uH br]at hk;simp only[zd,qp,zT,qA a7,Option.getD_some]at hk;subst hk;have bs:p.env.length-k=p.env.length-1-k+1:=zOm;rw[bs]at h;have b8:=fun he=>qiS a7 he h
  have o:p.env.drop (p.env.length-(k+1))=p.env[p.env.length-1-k] :: p.env.drop (p.env.length-1-k+1):=by
   rw[show p.env.length-(k+1)=p.env.length-1-k by omega,zt a7]
  generalize hb:p.env[p.env.length-1-k]=b at *
  refine⟨rfl,?_⟩;by_cases he:b.1=nm
  .simp [go_sem,he]
   exact vh.intro ⟨rfl,b.2,_,b8 he,rfl⟩
  .simp [go_sem,u5,he]
   refine vh.intro ⟨⟨_,rfl⟩,fun e hm=>?_⟩;rw[o]at hm;rcases qt.1 hm with rfl|hm
   .exact he
   .exact h e hm
 .rintro M ⟨⟨g,rfl⟩,h⟩
  have bu:zF nm p.env=none:=qiR fun e hm=>h e (by simpa[Qu] using hm)
  rw[bu]at hE;simp only at hE;obtain⟨bv,bw⟩:=hM.st p.st hp.st;have aq:p.st<x.m.states.length:=zW2 hM.len hp.st;have ca:x.m.states.getD p.st []=x.m.states[p.st]:=by rw[zT,qA aq];rfl
  have dt:=hM.ts.nf;have du:=hM.ts.ns;have b9:=nF x.ts.fields (x.m.states.getD p.st []) nm;rw[ca]at hE bv bw b9;generalize cb:x.m.states[p.st]=rs at *
  simp[go_sem];refine qn.upK x.ts.fields.length (fun k U=>U.tm 0=eMa x/\U.tm 4 = .ip (cPl p)/\U.tm 5 = .ip [aS nm]/\U.tm 6 = .ptr 0 0/\U.tm 34=lFl x.ts.fields/\U.tm 35=aI x.ts.fields.length/\U.tm 36=aI k/\FndM U.mu (U.tm 9) (jY (x.ts.fields.take k) (rs.take k) nm)) ?_ ?_
  .exact ⟨zSi,zSi,zSi,zSi,zSi,zSi,zSi,zSi,.inl (by simp[go_sem,jY]),by simp[go_sem,qx]⟩
  rintro k U hk ⟨e0,e4,e5,e6,af,aa,ag,g0,ho,hn⟩;by_cases I:k<x.ts.fields.length
  .have ab:k<rs.length:=by omega
   have w1:qj.wrap ((k:Int)+1)=(k:Int)+1:=qi zOm zOm;have hs:=qiT x.ts.fields rs nm k I ab;have dv:(jY (x.ts.fields.take k) (rs.take k) nm).length<=6:=zP (nF _ _ _) zSo;have l0:0<U.mu.length:=(qk.1 g0).1;by_cases he:x.ts.fields[k].name=nm
   .rw [if_pos he]at hs
    simp[go_sem,e5,af,aa,ag,I,he];refine qg.intro zKr ?_;simp[go_sem,e0,e4,aq,cb,ab];refine qF.ownB (e:=104) (sz:=2) (bt:=32) (zv := .agg [aI 0,.lst true []]) (xs:=(jY (x.ts.fields.take k) (rs.take k) nm).map cRel) (ys:=[cRel rs[k]]) zSi zSi zSi rfl rfl zOm zOm (Own.push ho _) (by simp[qO]) (Zq _) (Zq [rs[k]]) zSo ?_;intro ah a3 a8 ai ay cc;have k0:a3[0]?=some (.arr [aI 0,.lst true []]):=by
     rw[ai 0 zSp hn,qo l0];exact g0
    have m0:qx ah≠some 0:=fun e=>by have:=ay 0 e;simp at this
    simp[go_sem,ag,I,w1];refine Keep.mk' ⟨zS1 e0,zS1 e4,zS1 e5,zS1 e6,zS1 af,zS1 aa,zSi,zVs k0,?_,zVs m0⟩;rw[hs,zx];simpa[go_sem] using a8
   .rw [if_neg he,zV]at hs
    simp[go_sem,u5,e5,af,aa,ag,I,he,w1];refine Keep.mk' ⟨zS1 e0,zS1 e4,zS1 e5,zS1 e6,zS1 af,zS1 aa,zSi,?_,?_,zVs hn⟩
    .simp only[qP];rw[qo l0];exact g0
    .rw [hs];simpa[go_sem] using Own.push ho _
  .have aj:k=x.ts.fields.length:=by omega
   rw[ye zOm,ye zOm]at ho;generalize jY x.ts.fields rs nm=F at *
   simp[go_sem,e0,aa,ag,aj];refine qn.upF x.ts.sorts.length (fun k=>Keep (fun U=>U.tm 0=eMa x/\U.tm 5 = .ip [aS nm]/\U.tm 6 = .ptr 0 0/\U.tm 65=lSo x.ts.sorts/\U.tm 66=aI x.ts.sorts.length/\U.tm 67=aI k/\FndM U.mu (U.tm 9) (F++yj x nm 0 (x.ts.sorts.take k))) .mk) ?_ ?_
   .exact Keep.mk' ⟨zS1 e0,zS1 e5,zS1 e6,zSi,zSi,zSi,zVs g0,by simpa[go_sem,yj] using ho,zVs hn⟩
   rintro k U hk ⟨e0,e5,e6,bb,az,b0,g0,ho,hn⟩;have dw:=nI x nm x.ts.sorts k hk;by_cases I:k<x.ts.sorts.length
   .have w1:qj.wrap ((k:Int)+1)=(k:Int)+1:=qi zOm zOm
    have hs:=nH x nm x.ts.sorts k I;have bc:=hM.ts.sl _ (qy I);have be:k<x.m.sc.atoms.length:=zW1 hM.al;have a5:=fullU x.m.sc hM.gsc hM.pos [(k:Int)] (fun s hs=>by rw[qL]at hs;omega) zSp zSp;rw[qiV]at a5;have cd:zB x k=(qu (gI x.m.sc.atoms k).toNat).map fun j:Nat=>sumI (x.m.sc.atoms.take k)+j:=rfl
    rw[<-cd]at a5;have cf:WKs [eSc x.m.sc,.lst true [rI k]] [eSc x.m.sc,lI [(k:Int)]] := .zk (jx _) (.cons (WK.intsF [(k:Int)]) .nil);generalize cg:x.ts.sorts[k]=so at *
    obtain⟨R,sb⟩:=so;have ch:R.size<=9223372036854775801:=by simp at bc;omega
    have cj:R.size<=9223372036854775802:=by simp at bc;omega
    generalize hF:F++yj x nm 0 (x.ts.sorts.take k)=F0 at *
    have ar:F++yj x nm 0 (x.ts.sorts.take (k+1))=F0++Qv x nm k (R,sb):=by rw[hs,<-hF,zE]
    have dx:F0.length<=18:=by rw[<-hF,zc];omega
    have l0:0<U.mu.length:=(qk.1 g0).1;simp[go_sem,e0,bb,az,b0,I,cg];refine qc.pure a5 cf ?_;simp[go_sem,u5,e5];generalize hL:U.mu.length=L at *
    have au:∀ b,qx (U.tm 9)=some b->b<L:=fun b hb=>zW1 (Own.lt ho hb)
    have b1:∀ c,Own (U.mu++c) 2 (U.tm 9) (F0.map cRel):=fun c=>Own.push ho c
    have ak:U.mu[0]'(qk.1 g0).1 = .arr [aI 0,.lst true []]:=(qk.1 g0).2;have dy:∀ c:List Cell,(U.mu++c)[0]?=some (.arr [aI 0,.lst true []]):=fun c=>by rw[qo zOm];exact g0
    have ck:∀ A B:Cell,(U.mu++[A,B])[L]?=some A:=fun A B=>by rw[zf zOm,hL];simp
    have cl:∀ A B:Cell,(U.mu++[A,B])[L+1]?=some B:=fun A B=>by rw[zf zOm,hL];simp
    refine BrS.at (SInv x nm R sb k L (L+1) F0) ⟨zS1 e0,zS1 e5,zS1 e6,zSi,zSi,zS1 bb,zS1 az,zS1 b0,by simp[go_sem,List.getElem_append_left,hL,l0,ak],zS1 ck,zS1 cl,by simp[go_sem,b1],zS1 hn,fun e=>?_,fun e=>?_⟩ fun st0 h0=>?_
    .have:=au L (zVs e);omega
    .have:=au (L+1) (zVs e);omega
    refine BrS.join (SInv x nm R sb k L (L+1) (F0++if R=nm then [⟨1,zB x k⟩] else [])) ?_ ?_ ?_
    .intro o
     have o:=of_decide_eq_true o;rw[if_pos o];simp[go_sem,h0.e14,h0.gd];refine h0.app zSi zSi zOm ⟨1,zB x k⟩ (by simp[qO]) fun t a3 J b2 b3=>?_
     simp[go_sem];refine Keep.mk' ?_;exact⟨by simp[go_sem,h0.e0],by simp[go_sem,h0.e5],by simp[go_sem,h0.e6],by simp[go_sem,h0.e13],by simp[go_sem,h0.e14],by simp[go_sem,h0.e65],by simp[go_sem,h0.e66],by simp[go_sem,h0.e67],J.g0,b2,b3,J.ho,J.n0,J.nc,J.nd⟩
    .intro o
     have o:=of_decide_eq_false o;rw[if_neg o,zV];simp[go_sem];exact Keep.mk' h0
    intro st1 C;have dz:(F0++if R=nm then [(⟨1,zB x k⟩:Rl)] else []).length<=19:=by rw[zc];split<;>simp only[zG,List.length_nil]<;>omega
    cases sb with
    |false =>
     have cm:F0++Qv x nm k (R,false)=F0++if R=nm then [⟨1,zB x k⟩] else []:=by simp[Qv]
     rw[<-cm,<-ar]at C;simp[go_sem,C.e13,C.e67,C.gc,w1,I];exact Keep.mk' ⟨by simp[go_sem,C.e0],by simp[go_sem,C.e5],by simp[go_sem,C.e6],by simp[go_sem,C.e65],by simp[go_sem,C.e66],zSi,by simpa[go_sem] using C.g0,by simpa[go_sem] using C.ho,by simpa[go_sem] using C.n0⟩
    |true =>
    generalize bg:(F0++if R=nm then [⟨1,zB x k⟩] else [])=F1 at *
    have dr:(zB x k).length<=100:=by
     obtain⟨u0,u1⟩:=hM.gsc.sum (k+1);obtain⟨v0,v1⟩:=hM.gsc.sum k;rw[Zs _ _ be]at u1;unfold zB;rw[yI,List.length_range,Zr be];omega
    simp[go_sem,u5,C.e5,C.e13,C.gc,ch];refine BrS.at (SInv x nm R true k L (L+1) F1) ⟨by simp[go_sem,C.e0],by simp[go_sem,C.e5],by simp[go_sem,C.e6],by simp[go_sem,C.e13],by simp[go_sem,C.e14],by simp[go_sem,C.e65],by simp[go_sem,C.e66],by simp[go_sem,C.e67],C.g0,C.gc,C.gd,C.ho,C.n0,C.nc,C.nd⟩ fun st2 h2=>?_
    refine BrS.join (SInv x nm R true k L (L+1) (F1++if R++yV=nm then [⟨1,(zB x k).take 1⟩] else [])) ?_ ?_ ?_
    .intro o
     have o:=of_decide_eq_true o;have o:R++yV=nm:=by rw[o];rfl
     rw[if_pos o];obtain⟨m,cn,cp,cq⟩:∃ m:Nat,(if ((zB x k).length:Int)<1 then ((zB x k).length:Int) else 1)=m/\m<=(zB x k).length/\(zB x k).take m=(zB x k).take 1:=by
      by_cases hz:(zB x k).length=0
      .exact ⟨0,by rw[if_pos zOm,hz],zOm,by rw[List.length_eq_zero_iff.1 hz];rfl⟩
      .exact ⟨1,if_neg zOm,zOm,rfl⟩
     have cr:WKs [.lst false (((zB x k).map rI).take m)] [lI ((zB x k).take 1)] := .cons (by rw[<-List.map_take,cq];exact .hf (yA _)) .nil;simp[go_sem,h2.e14,h2.gd,cn,cp];refine⟨⟨_,_,⟨rfl,rfl⟩,(wJ _).ok⟩,?_⟩;refine qc.pure (clipI ((zB x k).take 1)) cr ?_;generalize (zB x k).take 1=T1 at *
     simp[go_sem];refine h2.app zSi zSi zOm ⟨1,T1⟩ (by simp[qO]) fun t a3 J b2 b3=>?_
     simp[go_sem];refine Keep.mk' ?_;exact⟨by simp[go_sem,h2.e0],by simp[go_sem,h2.e5],by simp[go_sem,h2.e6],by simp[go_sem,h2.e13],by simp[go_sem,h2.e14],by simp[go_sem,h2.e65],by simp[go_sem,h2.e66],by simp[go_sem,h2.e67],J.g0,b2,b3,J.ho,J.n0,J.nc,J.nd⟩
    .intro o
     have o:=of_decide_eq_false o;have o:¬R++yV=nm:=fun e=>o (by rw[<-e];rfl)
     rw[if_neg o,zV];simp[go_sem];exact Keep.mk' h2
    intro st3 h3;have e1:(F1++if R++yV=nm then [(⟨1,(zB x k).take 1⟩:Rl)] else []).length<=20:=by rw[zc];split<;>simp only[zG,List.length_nil]<;>omega
    have a4:F++yj x nm 0 (x.ts.sorts.take (k+1))=(F1++if R++yV=nm then [⟨1,(zB x k).take 1⟩] else [])++(if R++jM=nm then [⟨2,uY x k⟩] else []):=by
     rw[ar,<-bg];simp[Qv]
    generalize (F1++if R++yV=nm then [⟨1,(zB x k).take 1⟩] else [])=F2 at *
    simp[go_sem,u5,h3.e5,h3.e13,h3.gc,cj];refine BrS.at (SInv x nm R true k L (L+1) F2) ⟨by simp[go_sem,h3.e0],by simp[go_sem,h3.e5],by simp[go_sem,h3.e6],by simp[go_sem,h3.e13],by simp[go_sem,h3.e14],by simp[go_sem,h3.e65],by simp[go_sem,h3.e66],by simp[go_sem,h3.e67],h3.g0,h3.gc,h3.gd,h3.ho,h3.n0,h3.nc,h3.nd⟩ fun a6 P=>?_
    refine BrS.intro ?_ ?_
    .intro o
     have o:=of_decide_eq_true o;have o:R++jM=nm:=by rw[o];rfl
     rw[if_pos o]at a4;have gl:=(qk.1 P.gd).1;have hA:∀(z:List Cell) (i:Nat),i<a6.mu.length->(a6.mu++z)[i]?=a6.mu[i]?:=fun z i hi=>qo hi
     obtain⟨A,a9⟩:∃ A,A=a6.mu:=⟨_,rfl⟩;rw[<-a9]at hA gl;have b4:∀ z:List Cell,(A++z)[L+1]?=some (.arr [aI 1,lI (zB x k)]):=fun z=>by rw[hA z _ gl,a9];exact P.gd
     have cs:∀(c:Cell) (z:List Cell),(A++c :: z)[A.length]?=some c:=fun c z=>by rw[zf (qm _)];simp
     have ct:∀(c d:Cell) (z:List Cell),(A++c :: z).set A.length d=A++d :: z:=fun c d z=>by rw[List.set_append_right _ _ (qm _)];simp
     have cu:∀ b,qx (a6.tm 9)=some b->b<A.length:=fun b hb=>by rw[a9];exact Own.lt P.ho hb
     have bh:∀ j,j<(zB x k).length-1->∃ u v:Int,(zB x k)[j]?=some u/\(zB x k)[j+1]?=some v/\(0<=u/\u<x.n)/\(0<=v/\v<x.n)/\(uY x k)[j]?=some (u*x.n+v):=by
      intro j hj;obtain⟨a0,a1,a2⟩:=hM.at0 k I;have e2:(zB x k).length=(gI x.m.sc.atoms k).toNat:=by simp[zB]
      refine⟨sumI (x.m.sc.atoms.take k)+j,sumI (x.m.sc.atoms.take k)+((j+1:Nat):Int),?_,?_,⟨zOm,zOm⟩,⟨zOm,zOm⟩,?_⟩
      .rw [zB,zu,uH zOm];rfl
      .rw [zB,zu,uH zOm];rfl
      .rw [uY,zu,uH zOm]
       simp only[zd,qp];congr 1;omega
     have e3:(uY x k).length=(zB x k).length-1:=by simp[uY,zB]
     generalize e7:zB x k=al at *
     generalize e8:uY x k=nx at *
     simp[go_sem,<-a9];refine qn.upF (al.length-1) (fun j=>Keep (fun U=>∃ t g,U.mu=A++(.arr [aI 2,t] :: g)/\OwnI U.mu t (nx.take j)/\(∀ b,qx t=some b->A.length<b)/\U.tm 0=eMa x/\U.tm 5 = .ip [aS nm]/\U.tm 6 = .ptr 0 0/\U.tm 9=a6.tm 9/\U.tm 14 = .ptr (L+1) 0/\U.tm 15 = .ptr A.length 0/\U.tm 16=aI ((j:Int)+1)/\U.tm 65=lSo x.ts.sorts/\U.tm 66=aI x.ts.sorts.length/\U.tm 67=aI k) .mk) ?_ ?_
     .exact Keep.mk' ⟨.lst true [],[],zSi,.inl ⟨rfl,zSp⟩,by simp[qx],by simp[go_sem,P.e0],by simp[go_sem,P.e5],by simp[go_sem,P.e6],zSi,by simp[go_sem,P.e14],zSi,zSi,by simp[go_sem,P.e65],by simp[go_sem,P.e66],by simp[go_sem,P.e67]⟩
     rintro j e9 hj ⟨t,g,an,ad,b5,i0,i5,i6,i9,ao,b6,i16,bi,bj,bk⟩;by_cases a7:j<al.length-1
     .have hc:(j:Int)+1<al.length:=by omega
      obtain⟨u,v,hu,hv,cv,cw,cx⟩:=bh j a7;obtain⟨cy,cz⟩:=qk.1 hu;obtain⟨da,db⟩:=qk.1 hv;obtain⟨dc,dd⟩:=qk.1 cx;have wj:qj.wrap (j:Int)=j:=qi zOm zOm;have de:qj.wrap ((j:Int)+1+1)=(j:Int)+1+1:=qi zOm zOm;have ab:=rankU x.m.sc hM.gsc [u,v] zSp (fun d o=>by
       rcases qt.1 o with rfl|o
       .exact cv
       .rw [qL]at o;subst o;exact cw)
      have df:vW (sumI x.m.sc.atoms) [u,v]=u*x.n+v:=by simp[vW,Mo.n]
      rw[df]at ab;have dh:WKs [eSc x.m.sc,.lst true [[aI u],[aI v]]] [eSc x.m.sc,lI [u,v]] := .zk (jx _) (.cons (WK.intsF [u,v]) .nil);simp[go_sem,ao,i16,an,b4,hc];refine qg.seg [0,1,2,3,4,5,6,7,8,9,10,11,12,13,14,15,16,17,18,22,19,20,21,23] [(0,0,[]),(1,0,[]),(2,0,[]),(3,0,[]),(4,0,[]),(5,0,[]),(6,0,[]),(7,0,[]),(8,0,[]),(9,0,[]),(10,0,[]),(11,0,[]),(12,0,[]),(13,0,[]),(14,0,[]),(15,0,[]),(16,0,[]),(17,0,[]),(18,0,[]),(22,0,[]),(19,1,[1]),(20,0,[]),(21,1,[]),(23,1,[])] zKr zKr zSi ?_;simp[go_sem,i0,ao,b6,i16,b4,hc,wj,cy,cz,da,db,show (0:Int)<=(j:Int)+1 by omega];refine qc.pure ab dh ?_;simp[go_sem];rw[an]at ad;refine qF.ownV1 (e:=3) (bt:=8) (z:=0) (l:=nx.take j) zSi zSi zSi zOm ad.v zSo ?_;intro ah a3 a8 ai cc ay;have bl:A.length<(A++(.arr [aI 2,t] :: g)).length:=zSp;have di:a3=A++(.arr [aI 2,t] :: a3.drop (A.length+1)):=by
       apply ui;intro i;by_cases hi:i<A.length
       .rw [qo hi,ai i zOm (fun e=>zW1 (b5 i e)),qo hi]
       .rw [zf zOm]
        by_cases dj:i=A.length
        .subst dj
         rw[ai _ bl (fun e=>zW1 (b5 _ e)),zf (qm _)];simp
        .obtain ⟨q,hq⟩:∃ q,i-A.length=q+1:=⟨i-A.length-1,zOm⟩
         rw[hq,j7,List.getElem?_drop];congr 1;omega
      have aw:∀ b,qx ah=some b->A.length<b:=fun b hb=>zW1 (ay b hb)
      rw[di]at a8 ⊢;generalize a3.drop (A.length+1)=b7 at *
      simp[go_sem,i16,ct,a8.v.one,a8.v.cells,de];refine⟨a7,Keep.mk' ⟨ah,b7,zSi,?_,aw,zS1 i0,zS1 i5,zS1 i6,zS1 i9,zS1 ao,zS1 b6,zSi,zS1 bi,zS1 bj,zS1 bk⟩⟩;simp only[qP];rw[yL dc,dd];refine a8.same fun b hb=>?_
      have:=aw b hb;rw[zf zOm,zf zOm];obtain⟨q,hq⟩:∃ q,b-A.length=q+1:=⟨b-A.length-1,zOm⟩;rw[hq,j7,j7]
     .have aj:j=al.length-1:=by omega
      have hc:¬(j:Int)+1<al.length:=zOm;rw[ye zOm]at ad;simp[go_sem,ao,i16,an,b4,hc];have dk:(A++(.arr [aI 2,t] :: g))[A.length]?=some (.arr [aI 2,t]):=cs _ _;rw[an]at ad;generalize dm:A++(.arr [aI 2,t] :: g)=MM at *
      have ae:∀ i,A.length<=i->(cutM (fun j=>decide (A.length<=j)) MM 0)[i]?=MM[i]?:=fun i hi=>by
       rw[uP,yy];cases MM[i]?<;>simp[hi]
      have ax:∀ i,i<A.length->(cutM (fun j=>!decide (A.length<=j)) MM 0)[i]?=A[i]?:=fun i hi=>by
       rw[uP,yy,<-dm,qo hi];cases A[i]?<;>simp<;>omega
      have dn:0<A.length:=zOm;have bm:FndM (cutM (fun j=>!decide (A.length<=j)) MM 0) (a6.tm 9) F2:=by
       refine⟨by rw[ax 0 dn,a9];exact P.g0,?_,P.n0⟩;rcases P.ho with h|⟨b,h,dp⟩
       .exact .inl h
       .refine .inr ⟨b,h,?_⟩
        rw[ax b (cu b (by rw[h];rfl)),a9];exact dp
      refine FzQ.above (d:=15) (L:=A.length) (x := .ip (cRel ⟨2,nx⟩)) ?_ ?_
      .simp only[qP,pG,b6]
       refine .ptr A.length 0 [aI 2,t] _ (by rw[ae _ (qm _)];exact dk) zSp fun k u v hu hv=>?_
       match k with
       | 0=>simp at hu hv;subst hu;subst hv;exact .zsc _
       | 1 =>
        simp at hu hv;subst hu;subst hv;exact(ad.v.same fun b hb=>ae b (zW1 (b5 b hb))).rd
       |k+2=>simp at hv
      .simp [go_sem,i9]
       refine appR (F:=F2) zSi zSi bm zOm ⟨2,nx⟩ (by simp[qO]) fun ea eb bn=>?_
       rw[<-a4]at bn;obtain⟨z0,z1,z2⟩:=bn;simp[go_sem,bk,w1,I];exact Keep.mk' ⟨zS1 i0,zS1 i5,zS1 i6,zS1 bi,zS1 bj,zSi,z0,z1,z2⟩
    .intro o
     have o:=of_decide_eq_false o;have o:¬R++jM=nm:=fun e=>o (by rw[<-e];rfl)
     rw[if_neg o,zV]at a4;rw[<-a4]at P;simp[go_sem,P.e67,w1,I];exact Keep.mk' ⟨by simp[go_sem,P.e0],by simp[go_sem,P.e5],by simp[go_sem,P.e6],by simp[go_sem,P.e65],by simp[go_sem,P.e66],zSi,by simpa[go_sem] using P.g0,by simpa[go_sem] using P.ho,by simpa[go_sem] using P.n0⟩
   .have aj:k=x.ts.sorts.length:=by omega
    subst aj;rw[zw]at ho;generalize F++yj x nm 0 x.ts.sorts=F0 at *
    simp[go_sem,az,b0];refine FzQ.ownB (d:=9) (sz:=2) (av:=U.tm 9) (xs:=F0.map cRel) zSi ho (Zq _) (fun r hr c hc=>by obtain⟨q,_,rfl⟩:=qr.1 hr;exact Je q c hc) fun a3 full hl hs=>?_
    have ak:a3[0]?=some (.arr [aI 0,.lst true []]):=(hs 0 hn).trans g0;have bo:∀ c,(a3.set 0 c)[0]?=some c:=fun c=>qJ (qk.1 ak).1
    match F0,hE with
    | [],hE =>
     simp only[Qq]at hE;subst hE;simp[go_sem];refine qc.pans (u3 40) (wkI 40) ?_;simp[go_sem];exact .hf _ (qR _)
    | [r],hE =>
     simp only[Qq]at hE;subst hE;simp[go_sem,e6,ak,bo];exact .hf _ (q9 r)
    |r :: s :: F1,hE =>
     have dq:¬(F1.length:Int)+1+1=0:=zOm;have bq:¬(F1.length:Int)+1+1=1:=zOm;simp only[Qq]at hE;subst hE;simp[go_sem,dq,bq];refine qc.pans (u3 44) (wkI 44) ?_;simp[go_sem];exact .hf _ (qR _)
 .rintro e M ⟨rfl,a,g,h2,rfl⟩
  rw[h2]at hE;simp only at hE;subst hE;simp[go_sem];refine .agg _ _ rfl fun k u v hu hv=>?_
  match k with
  | 0=>simp at hu hv;subst hu;subst hv;exact .zsc _
  | 1=>simp at hu hv;subst hu;subst hv;exact .wk _ true _ (.hf _ (HF.lst fun r hr c hc=>by simp at hr;subst hr;simp at hc;subst hc;exact HF.sc _))
  |k+2=>simp at hu
end
end F6
namespace F7
open Y1 P2 E1 E3 EA EO EP EQ ET F1 F2 F3 F4 F5 F6
theorem yd(a b:Int)(v:AV)(es:List (AV×AV))(i:Nat):zm qb 3 (.sc (.int .i64 a)) ((.sc (.int .i64 b),v) :: es) i=if a=b then some (some i) else zm qb 3 (.sc (.int .i64 a)) es (i+1):=by
 have h:js qb 3 (.sc (.int .i64 a)) (.sc (.int .i64 b))=some (decide (a=b)):=keyI.eq a b trivial trivial;rw[zm,h];by_cases e:a=b<;>simp[e]
def RelN(mu:Mu)(g:Int)(l:List Int):Prop:=∃ t,mu[0]?=some (.arr [aI 0,.lst true []])/\mu[2]?=some (.arr [aI g,t])/\OwnI mu t l/\qx t≠some 0/\qx t≠some 2
theorem RelN.step{mu mu':Mu}{j:Int}{av g:AV}{l:List Int}(I:mu[0]?=some (.arr [aI 0,.lst true []]))(p:mu[2]?=some (.arr [aI j,av]))(J:qx av≠some 0)(P:qx av≠some 2)(R:OwnI mu' g l)
  (r:∀ i,i<mu.length->qx av≠some i->mu'[i]?=mu[i]?) (hl:mu.length<=mu'.length) (t:∀ b,qx g=some b->b=mu.length):mu'[2]?=some (.arr [aI j,av])/\RelN (mu'.set 2 (.arr [aI j,g])) j l:=by
 have T:2<mu.length:=(qk.1 p).1;have U:qx g≠some 0:=fun e=>zW1 (t 0 e)
 have C:qx g≠some 2:=fun e=>zW1 (t 2 e)
 refine⟨by rw[r 2 T P];exact p,g,by rw[qv zOm,r 0 zOm J];exact I,by rw[qJ zOm],R.same fun b o=>?_,U,C⟩;rw[qv (fun e=>C (by rw[e];exact o))]
theorem vX{f:Nat}{l:List AV}{A E:XE Rl}(h:qU qb f l (endE A))(e:A=E):qU qb f l (endE E):=e ▸ h
theorem exprX(x:Mo)(N:Nat)(n:Nd)(C:WfN n)(o:OkMa x N)(I:IH x N n)(p:Pl)(hp:OkP x N p)(J:bd p n) :
  qU qb 127 [eMa x,ePl p,eNd n] (endE ((den x n).E p)):=by
 refine za.of_sound ?_;refine qe.of_awp call127 func127 rfl (qh zKr) zKr (pl:={}) ?_;have aa:=zO x;have l:=wk3 x p n;rw[jO];simp only[opD];generalize i:opE x n.op n.name n.n (n.kids.map (den x)) p=E;unfold opE at i;by_cases o6:n.op=6
 .obtain ⟨a,b,j⟩:=ja C zOm
  have g:=qiF x N n a b o j I p hp J;rw[o6,j]at i;replace g:=vX g i;cases E with
  |error e =>
   simp[go_sem,o6,yd];refine qc.pans g l ?_;simp[go_sem];exact .hf _ (qR _)
  |ok r =>
   simp[go_sem,o6,yd];refine qc.pure g.toP l ?_;simp[go_sem];exact .hf _ (q9 _)
 by_cases o7:n.op=7
 .obtain ⟨a,b,j⟩:=ja C zOm
  have g:=qiG x N n a b o j I p hp J;rw[o7,j]at i;replace g:=vX g i;cases E with
  |error e =>
   simp[go_sem,o7,yd];refine qc.pans g l ?_;simp[go_sem];exact .hf _ (qR _)
  |ok r =>
   simp[go_sem,o7,yd];refine qc.pure g.toP l ?_;simp[go_sem];exact .hf _ (q9 _)
 by_cases o8:n.op=8
 .obtain ⟨a,b,j⟩:=ja C zOm
  have g:=diffX x N n a b o j I p hp J;rw[o8,j]at i;replace g:=vX g i;cases E with
  |error e =>
   simp[go_sem,o8,yd];refine qc.pans g l ?_;simp[go_sem];exact .hf _ (qR _)
  |ok r =>
   simp[go_sem,o8,yd];refine qc.pure g.toP l ?_;simp[go_sem];exact .hf _ (q9 _)
 by_cases P:n.op=14
 .obtain ⟨a,b,j⟩:=ja C zOm
  have g:=overX x N n a b o j I p hp J;rw[P,j]at i;replace g:=vX g i;cases E with
  |error e =>
   simp[go_sem,P,yd];refine qc.pans g l ?_;simp[go_sem];exact .hf _ (qR _)
  |ok r =>
   simp[go_sem,P,yd];refine qc.pure g.toP l ?_;simp[go_sem];exact .hf _ (q9 _)
 by_cases o9:n.op=9
 .obtain ⟨a,b,j⟩:=ja C zOm
  have g:=joinX x N n a b o j I p hp J;rw[o9,j]at i;replace g:=vX g i;cases E with
  |error e =>
   simp[go_sem,o9,yd];refine qc.pans g l ?_;simp[go_sem];exact .hf _ (qR _)
  |ok r =>
   simp[go_sem,o9,yd];refine qc.pure g.toP l ?_;simp[go_sem];exact .hf _ (q9 _)
 by_cases R:n.op=10
 .obtain ⟨a,b,j⟩:=ja C zOm
  have g:=qiH x N n a b o j I p hp J;rw[R,j]at i;replace g:=vX g i;cases E with
  |error e =>
   simp[go_sem,R,yd];refine qc.pans g l ?_;simp[go_sem];exact .hf _ (qR _)
  |ok r =>
   simp[go_sem,R,yd];refine qc.pure g.toP l ?_;simp[go_sem];exact .hf _ (q9 _)
 by_cases a0:n.op=11
 .obtain ⟨a,j⟩:=vH C zOm
  have g:=qiJ x N n a o j I p hp J;rw[a0,j]at i;replace g:=vX g i;cases E with
  |error e =>
   simp[go_sem,a0,yd];refine qc.pans g l ?_;simp[go_sem];exact .hf _ (qR _)
  |ok r =>
   simp[go_sem,a0,yd];refine qc.pure g.toP l ?_;simp[go_sem];exact .hf _ (q9 _)
 by_cases a1:n.op=12
 .obtain ⟨a,j⟩:=vH C zOm
  have g:=nA x N n a o j I p hp J;rw[a1,j]at i;replace g:=vX g i;cases E with
  |error e =>
   simp[go_sem,a1,yd];refine qc.pans g l ?_;simp[go_sem];exact .hf _ (qR _)
  |ok r =>
   simp[go_sem,a1,yd];refine qc.pure g.toP l ?_;simp[go_sem];exact .hf _ (q9 _)
 by_cases a2:n.op=13
 .obtain ⟨a,j⟩:=vH C zOm
  have g:=qiK x N n a o j I p hp J;rw[a2,j]at i;replace g:=vX g i;cases E with
  |error e =>
   simp[go_sem,a2,yd];refine qc.pans g l ?_;simp[go_sem];exact .hf _ (qR _)
  |ok r =>
   simp[go_sem,a2,yd];refine qc.pure g.toP l ?_;simp[go_sem];exact .hf _ (q9 _)
 by_cases o5:n.op=5
 .obtain ⟨a,j⟩:=vH C zOm
  have g:=qiI x N n a o j I p hp J;rw[o5,j]at i;replace g:=vX g i;cases E with
  |error e =>
   simp[go_sem,o5,yd];refine qc.pans g l ?_;simp[go_sem];exact .hf _ (qR _)
  |ok r =>
   simp[go_sem,o5,yd];refine qc.pure g.toP l ?_;simp[go_sem];exact .hf _ (q9 _)
 by_cases a3:n.op=15
 .obtain ⟨a,b,j⟩:=ja C zOm
  have g:=qiP x N n a b o j I p hp J;rw[a3,j]at i;replace g:=vX g i;cases E with
  |error e =>
   simp[go_sem,a3,yd];refine qc.pans g l ?_;simp[go_sem];exact .hf _ (qR _)
  |ok r =>
   simp[go_sem,a3,yd];refine qc.pure g.toP l ?_;simp[go_sem];exact .hf _ (q9 _)
 by_cases o1:n.op=1
 .have g:=qiX x N o n.name p hp zOm
  have wn:WKs [eMa x,ePl p,aS n.name] [eMa x,ePl p,aS n.name] := .zk aa (.zk (VZ p) (.zs .nil));rw[o1]at i;replace g:=vX g i;cases E with
  |error e =>
   simp[go_sem,o1,yd];refine qc.pans g wn ?_;simp[go_sem];exact .hf _ (qR _)
  |ok r =>
   simp[go_sem,o1,yd];refine qc.pure g.toP wn ?_;simp[go_sem];exact .hf _ (q9 _)
 by_cases o2:n.op=2
 .rw [o2]at i
  replace i:Except.ok ⟨n.n,[]⟩=E:=i;subst i;simp[go_sem,o2,yd];exact Zz
 by_cases o3:n.op=3
 .rw [o3]at i
  replace i:Except.ok ⟨1,(qu x.n.toNat).map fun k:Nat=>(k:Int)⟩=E:=i;subst i;have h0:=o.n0;have ab:=o.n12;obtain⟨m,hm⟩:=Int.eq_ofNat_of_zero_le h0;simp[go_sem,o3,yd];rw[hm]at ab;refine qn.upK m (fun k U=>U.tm 6 = .ptr 0 0/\U.tm 10 = .ptr 2 0/\U.tm 47=aI m/\U.tm 48=aI k/\RelN U.mu 1 ((qu k).map fun k:Nat=>(k:Int))) ?_ ?_
  .exact ⟨zSi,zSi,zS1 hm,zSi,.lst true [],zSi,zSi,.inl ⟨rfl,rfl⟩,by simp[qx],by simp[qx]⟩
  rintro k U j ⟨e6,a4,a5,a6,t,g0,g2,ho,n0,n2⟩;by_cases a8:k<m
  .have w1:qj.wrap ((k:Int)+1)=(k:Int)+1:=qi zOm zOm
   simp[go_sem,a4,a5,a6,a8,g2];refine qF.ownV1 (e:=3) (bt:=8) (z:=0) zSi zSi zSi zOm ho.v zSo ?_;intro ah ai a7 ad ae af;obtain⟨k1,k2⟩:=RelN.step g0 g2 n0 n2 a7 ad ae af;simp[go_sem,a4,a6,a8,k1,a7.v.one,a7.v.cells,w1];refine Keep.mk' ⟨zS1 e6,zS1 a4,zS1 a5,zSi,?_⟩;rw[List.range_succ,zx];exact k2
  .have ag:k=m:=by omega
   subst ag;have a9:∀ c,(U.mu.set 0 c)[0]?=some c:=fun c=>qJ (qk.1 g0).1
   rw[hm];simp[go_sem,e6,a4,a5,a6,g0,g2,a9,ho.v.one];refine OwnV.rdRel (ho.v.same fun b hb=>?_);rw[qv (fun e=>n0 (by rw[e];exact hb))]
 by_cases o4:n.op=4
 .rw [o4]at i
  replace i:Except.ok (idR x.n)=E:=i;subst i;simp[go_sem,o4,yd];refine qc.pure (nB x.n o.n0 o.n12) (.zs .nil) ?_;simp[go_sem];exact .hf _ (q9 _)
 have i:Except.error 43=E:=by
  rw[<-i];rw[if_neg o1,if_neg o2,if_neg o3,if_neg o4,if_neg o5,if_neg o6,if_neg o7,if_neg o8,if_neg o9,if_neg R,if_neg a0,if_neg a1,if_neg a2,if_neg P,if_neg a3]
 subst i;simp[go_sem,o1,o2,o3,o4,o5,o6,o7,o8,o9,R,a0,a1,a2,P,a3,yd];refine qc.pans (u3 43) (wkI 43) ?_;simp[go_sem];exact .hf _ (qR _)
end F7
namespace F8
open Y1 P2 E1 E3 EA ER EY F1 F2 F3
theorem f30(x:Mo)(N:Nat)(n:Nd)(j:WfN n)(l:OkMa x N)(o:IH x N n)(p:Pl)(hp:OkP x N p)(r:bd p n)(g:n.op=30):qU qb 71 [eMa x,ePl p,eNd n] (endB (Except.ok true)):=by
 refine za.of_sound ?_;refine qe.of_awp call71 func71 rfl (qh zKr) zKr (pl:={}) ?_;have i:=zO x;simp[go_sem,g];exact .zsc _
theorem f31(x:Mo)(N:Nat)(n:Nd)(j:WfN n)(l:OkMa x N)(o:IH x N n)(p:Pl)(hp:OkP x N p)(r:bd p n)(g:n.op=31):qU qb 71 [eMa x,ePl p,eNd n] (endB (Except.ok false)):=by
 refine za.of_sound ?_;refine qe.of_awp call71 func71 rfl (qh zKr) zKr (pl:={}) ?_;have i:=zO x;simp[go_sem,g];exact .zsc _
theorem f32(x:Mo)(N:Nat)(n a b:Nd)(i:OkMa x N)(l:n.kids=[a,b])(o:IH x N n)(p:Pl)(hp:OkP x N p)(R:bd p n)(t:n.op=32):qU qb 71 [eMa x,ePl p,eNd n] (endB ((bX (zY [den x a,den x b] p) fun q => .ok (decide ((diR q.1 q.2).ts=[]))))):=by
 refine za.of_sound ?_;refine qe.of_awp call71 func71 rfl (qh zKr) zKr (pl:={}) ?_;have U:=zO x;have I:=wk3 x p n;generalize g:(bX (zY [den x a,den x b] p) fun q => .ok (decide ((diR q.1 q.2).ts=[])))=E;have j:=Yc x N n a b l o p hp R;simp[go_sem,t];cases C:zY [den x a,den x b] p with
 |error e =>
  rw[C]at j g;subst g;refine qc.pans j I ?_;simp[go_sem,zC];exact .hf _ (qR _)
 |ok q =>
  obtain⟨r,s⟩:=q;obtain⟨J,P,h3⟩:=u6 C;simp only[kD,uj,List.getD_cons_succ]at J P;have gr:=(o a (by rw[l];simp) p hp zOm).G _ J;have gs:=(o b (by rw[l];simp) p hp zOm).G _ P;have lr:=gr.len i.n0 (OkMa.n20 i);have ls:=gs.len i.n0 (OkMa.n20 i);rw[C]at j g;rw[zi]at g;subst g;refine qc.pure j.toP I ?_;simp[go_sem];refine qc.pure (inU r s zOm zOm) (wkR2 r s) ?_;simp[go_sem];exact .zsc _
theorem f33(x:Mo)(N:Nat)(n a b:Nd)(i:OkMa x N)(l:n.kids=[a,b])(o:IH x N n)(p:Pl)(hp:OkP x N p)(R:bd p n)(t:n.op=33):qU qb 71 [eMa x,ePl p,eNd n] (endB ((bX (zY [den x a,den x b] p) fun q => .ok (decide (q.1=q.2))))):=by
 refine za.of_sound ?_;refine qe.of_awp call71 func71 rfl (qh zKr) zKr (pl:={}) ?_;have U:=zO x;have I:=wk3 x p n;generalize g:(bX (zY [den x a,den x b] p) fun q => .ok (decide (q.1=q.2)))=E;have j:=Yc x N n a b l o p hp R;simp[go_sem,t];cases C:zY [den x a,den x b] p with
 |error e =>
  rw[C]at j g;subst g;refine qc.pans j I ?_;simp[go_sem,zC];exact .hf _ (qR _)
 |ok q =>
  obtain⟨r,s⟩:=q;obtain⟨J,P,h3⟩:=u6 C;simp only[kD,uj,List.getD_cons_succ]at J P;have gr:=(o a (by rw[l];simp) p hp zOm).G _ J;have gs:=(o b (by rw[l];simp) p hp zOm).G _ P;have lr:=gr.len i.n0 (OkMa.n20 i);have ls:=gs.len i.n0 (OkMa.n20 i);rw[C]at j g;rw[zi]at g;subst g;refine qc.pure j.toP I ?_;simp[go_sem];refine qc.pure (E4.qgX r s zOm) (wkR2 r s) ?_;simp[go_sem];exact .zsc _
theorem f34(x:Mo)(N:Nat)(n a:Nd)(hM:OkMa x N)(t:n.kids=[a])(J:IH x N n)(p:Pl)(hp:OkP x N p)(hq:bd p n)(g:Nat->Bool)(P:n.op=34/\g=(fun k=>decide (0<k))\/n.op=35/\g=(fun k=>decide (k=0))\/n.op=36/\g=(fun k=>decide (k=1))\/n.op=37/\g=fun k=>decide (k<=1)):qU qb 71 [eMa x,ePl p,eNd n] (endB ((bX ((den x a).E p) fun a => .ok (g a.ts.length)))):=by
 rcases P with ⟨o,rfl⟩|⟨o,rfl⟩|⟨o,rfl⟩|⟨o,rfl⟩
 all_goals
  refine za.of_sound ?_;refine qe.of_awp call71 func71 rfl (qh zKr) zKr (pl:={}) ?_;have U:=zO x;have wx:=wk3 x p n;generalize i:bX ((den x a).E p) _=E;have j:=(J a (by rw[t];simp) p hp zOm).E;have C:=wk3 x p a;simp[go_sem,o];refine qg.seg [0,1,2,3,4,5,6,7,8,9] [(0,0,[]),(1,0,[]),(2,0,[]),(3,0,[]),(4,0,[]),(5,0,[]),(6,1,[]),(7,0,[]),(8,0,[]),(9,0,[])] zKr zKr zSi ?_;simp[go_sem,t];cases I:(den x a).E p with
  |error e =>
   rw[I]at j i;subst i;refine qc.pans j C ?_;simp[go_sem,zC];exact .hf _ (qR _)
  |ok r =>
   rw[I]at j i;rw[zi]at i;subst i;refine qc.pure j.toP C ?_;obtain⟨ar,R⟩:=r;rcases R with _|⟨y,_|⟨z,l⟩⟩
   .simp [go_sem,o]
    exact .zsc _
   .simp [go_sem,o]
    exact .zsc _
   .have h1:(0:Int)<l.length+1+1:=by omega
    have h2:¬(l.length:Int)+1+1=1:=zOm;have h3:¬(l.length:Int)+1+1<=1:=zOm;have h4:¬(l.length:Int)+1+1=0:=zOm;simp[go_sem,o,h1,h2,h3,h4];exact .zsc _
theorem f38(x:Mo)(N:Nat)(n a b:Nd)(hM:OkMa x N)(j:n.kids=[a,b])(C:IH x N n)(p:Pl)(hp:OkP x N p)(hq:bd p n)(g:Int->Int->Bool)(U:n.op=38/\g=(fun a b=>decide (a=b))\/n.op=39/\g=fun a b=>decide (a<b)):qU qb 71 [eMa x,ePl p,eNd n] (endB ((bX ((den x a).N p) fun a=>bX ((den x b).N p) fun b => .ok (g a b)))):=by
 rcases U with ⟨o,rfl⟩|⟨o,rfl⟩
 all_goals
  refine za.of_sound ?_;refine qe.of_awp call71 func71 rfl (qh zKr) zKr (pl:={}) ?_;have a0:=zO x;have wx:=wk3 x p n;generalize i:bX ((den x a).N p) _=E;have l:=(C a (by rw[j];simp) p hp zOm).N;have t:=(C b (by rw[j];simp) p hp zOm).N;have I:=wk3 x p a;have J:=wk3 x p b;simp[go_sem,o];refine qg.seg [0,1,2,3,4,5,7,8,9,10,11,12,6,13,14,15] [(0,0,[]),(1,0,[]),(2,0,[]),(3,0,[]),(4,0,[]),(5,0,[]),(7,0,[]),(8,0,[]),(9,0,[]),(10,0,[]),(11,0,[]),(12,0,[]),(6,1,[8,10,12]),(13,1,[]),(14,0,[]),(15,0,[])] zKr zKr zSi ?_;simp[go_sem,j];cases P:(den x a).N p with
  |error e =>
   rw[P]at l i;subst i;refine qc.pans l I ?_;simp[go_sem,zC];exact .hf _ (qR _)
  |ok r =>
   rw[P]at l i;rw[zi]at i;refine qc.pure l.toP I ?_;simp[go_sem,j];cases R:(den x b).N p with
   |error e =>
    rw[R]at t i;subst i;refine qc.pans t J ?_;simp[go_sem,zC];exact .hf _ (qR _)
   |ok s =>
    rw[R]at t i;rw[zi]at i;subst i;refine qc.pure t.toP J ?_;simp[go_sem];exact .zsc _
theorem f40(x:Mo)(N:Nat)(n a:Nd)(J:OkMa x N)(l:n.kids=[a])(C:IH x N n)(p:Pl)(hp:OkP x N p)(P:bd p n)(j:n.op=40):qU qb 71 [eMa x,ePl p,eNd n] (endB ((bX ((den x a).F p) fun a => .ok (!a)))):=by
 refine za.of_sound ?_;refine qe.of_awp call71 func71 rfl (qh zKr) zKr (pl:={}) ?_;have I:=zO x;have R:=wk3 x p n;generalize g:(bX ((den x a).F p) fun a => .ok (!a))=E;have i:=(C a (by rw[l];simp) p hp zOm).F;have o:=wk3 x p a;simp[go_sem,j];refine qg.seg [0,1,2,3,4,5,6,7,8] [(0,0,[]),(1,0,[]),(2,0,[]),(3,0,[]),(4,0,[]),(5,0,[]),(6,1,[]),(7,0,[]),(8,0,[])] zKr zKr zSi ?_;simp[go_sem,l];cases t:(den x a).F p with
 |error e =>
  rw[t]at i g;subst g;refine qc.pans i o ?_;simp[go_sem,zC];exact .hf _ (qR _)
 |ok r =>
  rw[t]at i g;rw[zi]at g;subst g;refine qc.pure i.toP o ?_;simp[go_sem];exact .zsc _
theorem f41(x:Mo)(N:Nat)(n a b:Nd)(hM:OkMa x N)(j:n.kids=[a,b])(C:IH x N n)(p:Pl)(hp:OkP x N p)(hq:bd p n)(g:Bool->Bool->Bool)(U:n.op=41/\g=(fun a b=>a&&b)\/n.op=42/\g=(fun a b=>a||b)\/n.op=43/\g=(fun a b=>!a||b)\/n.op=44/\g=fun a b=>decide (a=b)):qU qb 71 [eMa x,ePl p,eNd n] (endB ((bX ((den x a).F p) fun a=>bX ((den x b).F p) fun b => .ok (g a b)))):=by
 rcases U with ⟨o,rfl⟩|⟨o,rfl⟩|⟨o,rfl⟩|⟨o,rfl⟩
 all_goals
  refine za.of_sound ?_;refine qe.of_awp call71 func71 rfl (qh zKr) zKr (pl:={}) ?_;have a0:=zO x;have wx:=wk3 x p n;generalize i:bX ((den x a).F p) _=E;have l:=(C a (by rw[j];simp) p hp zOm).F;have t:=(C b (by rw[j];simp) p hp zOm).F;have I:=wk3 x p a;have J:=wk3 x p b;simp[go_sem,o];refine qg.seg [0,1,2,3,4,5,7,8,9,10,11,12,6,14,13,15] [(0,0,[]),(1,0,[]),(2,0,[]),(3,0,[]),(4,0,[]),(5,0,[]),(7,0,[]),(8,0,[]),(9,0,[]),(10,0,[]),(11,0,[]),(12,0,[]),(6,1,[8,10,12]),(14,0,[]),(13,1,[]),(15,0,[])] zKr zKr zSi ?_;simp[go_sem,j];cases P:(den x a).F p with
  |error e =>
   rw[P]at l i;subst i;refine qc.pans l I ?_;simp[go_sem,zC];exact .hf _ (qR _)
  |ok r =>
   rw[P]at l i;rw[zi]at i;refine qc.pure l.toP I ?_;simp[go_sem,j];cases R:(den x b).F p with
   |error e =>
    rw[R]at t i;subst i;refine qc.pans t J ?_;simp[go_sem,zC];exact .hf _ (qR _)
   |ok s =>
    rw[R]at t i;rw[zi]at i;subst i;refine qc.pure t.toP J ?_;cases r<;>cases s<;>simp[go_sem,o]<;>exact .zsc _
end F8
namespace E8
open E3 E7
theorem qiY{x:Mo}{N:Nat}(h:OkX x N){s:Nat}(i:s<N){t:Nat}(g:t∈x.path s):∃ k,it x k s=t:=by
 obtain⟨r,e,l⟩:=qgM h i;rw[e]at g;obtain⟨j,_,e⟩:=qr.1 g;exact⟨j,e⟩
end E8
namespace EB
open E3
structure vY (d d':Den) (p q:Pl):Prop where
 E:d.E p=d'.E q
 N:d.N p=d'.N q
 F:d.F p=d'.F q
end EB
namespace EK
open E3
theorem XA{J j:Type}{g:J->XE j}:∀{l:List J} {r:List j},mapX g l = .ok r->r.length=l.length
 | [],r,h=>by cases h;rfl
 |a :: l,r,h=>by
  rw[mapX]at h;cases o:g a with
  |error e=>rw[o]at h;cases h
  |ok b =>
   rw[o,zi]at h;cases i:mapX g l with
   |error e=>rw[i]at h;cases h
   |ok s =>
    rw[i,zi]at h;cases h;rw[zG,zG,XA i]
end EK
namespace F9
open Y1 E3 E7 EA EL EO EP EW F1 F2 F3 F4 F5 F6
theorem f45(x:Mo)(N:Nat)(n a b:Nd)(I:OkMa x N)(hk:n.kids=[a,b])(ih:IH x N n)(p:Pl)(hp:OkP x N p)(hq:bd p n)(i:n.op=45):qU qb 71 [eMa x,ePl p,eNd n] (endB (bX (yW [den x a,den x b] n.name p) fun l => .ok (l.all fun e=>e.2))):=by
 refine za.of_sound ?_;refine qe.of_awp call71 func71 rfl (qh zKr) zKr (pl:={}) ?_;have a0:=zO x;have o:=Xw x N n a b I hk ih p hp hq;have wx:=wk3 x p n;simp[go_sem,i];cases J:yW [den x a,den x b] n.name p with
 |error e =>
  rw[J]at o;refine qc.pans o wx ?_;simp[go_sem,zC];exact .hf _ (qR _)
 |ok l =>
  rw[J]at o;have hl:l.length<=8000:=Xy J 8000 fun d h=>((ih a (by rw[hk];simp) p hp zOm).G d h).len I.n0 (OkMa.n20 I)
  have r:=Xu 1 (l.map Prod.fst) (l.map Prod.snd) zSp zSo;rw[Xx]at r;rw[Ua]at o;refine qc.pure o.toP wx ?_;generalize insC 1 (l.map Prod.fst) (l.map Prod.snd)=C at *
  simp[go_sem,zi];refine vC.keep r (fun j M=>∃ g,M = .arr [aB ((l.take j).any fun e=>e.2)] :: .arr [aB ((l.take j).all fun e=>e.2)] :: g) (fun _ _=>False) ?_ ?_ ?_ ?_ ?_ ?_
  .exact ⟨_,by simp only[qP,jd];rfl⟩
  .rintro j M ⟨g,rfl⟩
   exact⟨g++[.dead],rfl⟩
  .intro e M h;exact h
  .rintro j y M hj ⟨g,rfl⟩
   rw[zu,j8]at hj;obtain⟨t,ht,rfl⟩:=hj;obtain⟨P,R⟩:=qk.1 ht;have U:=yL P;rw[R]at U;refine⟨rfl,?_⟩;have ha:((l.take (j+1)).any fun e=>e.2)=((l.take j).any (fun e=>e.2)||t.2):=by rw[U,List.any_append];simp
   have hb:((l.take (j+1)).all fun e=>e.2)=((l.take j).all (fun e=>e.2)&&t.2):=by rw[U,List.all_append];simp
   generalize (l.take j).any (fun e=>e.2)=A at *
   generalize (l.take j).all (fun e=>e.2)=B at *
   cases A<;>cases B<;>cases t2:t.2
   all_goals simp[go_sem]
   all_goals refine vh.intro ?_
   all_goals rw[ha,hb,t2]
   all_goals exact⟨_,rfl⟩
  .rintro M ⟨g,rfl⟩
   rw[yI,zw];generalize (l.any fun e=>e.2)=A at *
   generalize (l.all fun e=>e.2)=B at *
   cases A<;>cases B
   all_goals simp[go_sem,i]
   all_goals exact .zsc _
  .intro e M h;exact h.elim
theorem f46(x:Mo)(N:Nat)(n a b:Nd)(I:OkMa x N)(hk:n.kids=[a,b])(ih:IH x N n)(p:Pl)(hp:OkP x N p)(hq:bd p n)(i:n.op=46):qU qb 71 [eMa x,ePl p,eNd n] (endB (bX (yW [den x a,den x b] n.name p) fun l => .ok (l.any fun e=>e.2))):=by
 refine za.of_sound ?_;refine qe.of_awp call71 func71 rfl (qh zKr) zKr (pl:={}) ?_;have a0:=zO x;have o:=Xw x N n a b I hk ih p hp hq;have wx:=wk3 x p n;simp[go_sem,i];cases J:yW [den x a,den x b] n.name p with
 |error e =>
  rw[J]at o;refine qc.pans o wx ?_;simp[go_sem,zC];exact .hf _ (qR _)
 |ok l =>
  rw[J]at o;have hl:l.length<=8000:=Xy J 8000 fun d h=>((ih a (by rw[hk];simp) p hp zOm).G d h).len I.n0 (OkMa.n20 I)
  have r:=Xu 1 (l.map Prod.fst) (l.map Prod.snd) zSp zSo;rw[Xx]at r;rw[Ua]at o;refine qc.pure o.toP wx ?_;generalize insC 1 (l.map Prod.fst) (l.map Prod.snd)=C at *
  simp[go_sem,zi];refine vC.keep r (fun j M=>∃ g,M = .arr [aB ((l.take j).any fun e=>e.2)] :: .arr [aB ((l.take j).all fun e=>e.2)] :: g) (fun _ _=>False) ?_ ?_ ?_ ?_ ?_ ?_
  .exact ⟨_,by simp only[qP,jd];rfl⟩
  .rintro j M ⟨g,rfl⟩
   exact⟨g++[.dead],rfl⟩
  .intro e M h;exact h
  .rintro j y M hj ⟨g,rfl⟩
   rw[zu,j8]at hj;obtain⟨t,ht,rfl⟩:=hj;obtain⟨P,R⟩:=qk.1 ht;have U:=yL P;rw[R]at U;refine⟨rfl,?_⟩;have ha:((l.take (j+1)).any fun e=>e.2)=((l.take j).any (fun e=>e.2)||t.2):=by rw[U,List.any_append];simp
   have hb:((l.take (j+1)).all fun e=>e.2)=((l.take j).all (fun e=>e.2)&&t.2):=by rw[U,List.all_append];simp
   generalize (l.take j).any (fun e=>e.2)=A at *
   generalize (l.take j).all (fun e=>e.2)=B at *
   cases A<;>cases B<;>cases t2:t.2
   all_goals simp[go_sem]
   all_goals refine vh.intro ?_
   all_goals rw[ha,hb,t2]
   all_goals exact⟨_,rfl⟩
  .rintro M ⟨g,rfl⟩
   rw[yI,zw];generalize (l.any fun e=>e.2)=A at *
   generalize (l.all fun e=>e.2)=B at *
   cases A<;>cases B
   all_goals simp[go_sem,i]
   all_goals exact .zsc _
  .intro e M h;exact h.elim
theorem nJ(x:Mo):∀(f s:Nat) (acc:List Nat),(vF x f s acc).length<=acc.length+f
 | 0,s,acc=>by simp[vF]
 |f+1,s,acc=>by
  simp only[vF];split
  .omega
  .have:=nJ x f (x.nx s) (acc++[s])
   rw[zc,List.length_singleton]at this;omega
theorem XB(x:Mo)(s:Nat):(x.path s).length<=x.m.states.length+1:=by
 have:=nJ x (x.m.states.length+1) s [];simpa[Mo.path] using this
theorem Ub{x:Mo}{N:Nat}(g:OkMa x N){p:Pl}(hp:OkP x N p):∀ s,s∈x.path p.st->OkP x N ⟨s,p.env⟩:=fun s i=>by
 obtain⟨k,rfl⟩:=E8.qiY g.toOkX hp.st i;exact⟨W4 g.toOkX hp.st k,hp.env⟩
theorem qiZ(l:List Bool):l.all id=!decide (false∈l):=by
 rw[vO];simp only[qI,id,Bool.not_eq_true',decide_eq_false_iff_not];exact⟨fun h g=>by simpa using h _ g,fun h b i=>by cases b with|true=>rfl|false=>exact(h i).elim⟩
theorem qi0(l:List Bool):l.any id=decide (true∈l):=by
 rw[vO];simp
theorem f48(x:Mo)(N:Nat)(n a:Nd)(o:OkMa x N)(r:n.kids=[a])(J:IH x N n)(p:Pl)(hp:OkP x N p)(hq:bd p n)(t:n.op=48):qU qb 71 [eMa x,ePl p,eNd n] (endB (bX (mapX (fun s=>(den x a).F ⟨s,p.env⟩) (x.path p.st)) fun l => .ok (l.all id))):=by
 refine za.of_sound ?_;refine qe.of_awp call71 func71 rfl (qh zKr) zKr (pl:={}) ?_;have i:=zO x;have hN:=o.N1;have hl:=o.len;have C:=Xs x N o p.st hp.st;have P:=XB x p.st;have I:WKs [eMa x,aI p.st] [eMa x,aI p.st] := .zk i (.zs .nil);have g:=nD x (x.path p.st) zOm p a fun s R=>J a (by rw[r];simp) _ (Ub o hp s R) (by show p.env.length+_<=_;omega)
 have j:WKs [eMa x,lN (x.path p.st),ePl p,eNd a] [eMa x,lN (x.path p.st),ePl p,eNd a] := .zk i (.cons (WK.intsF _) (.zk (VZ p) (.zk (qz a) .nil)));simp[go_sem,t];refine qg.seg [0,1,2,3,5,6,7,8,9,4,10,11,12,13] [(0,0,[]),(1,0,[]),(2,0,[]),(3,0,[]),(5,0,[]),(6,0,[]),(7,0,[]),(8,0,[]),(9,0,[]),(4,1,[5,7,9]),(10,1,[]),(11,1,[]),(12,0,[]),(13,0,[])] zKr zKr zSi ?_;simp[go_sem,r];refine qc.pure C I ?_;simp[go_sem,r];cases em:mapX (fun s=>(den x a).F ⟨s,p.env⟩) (x.path p.st) with
 |error e =>
  rw[em]at g;refine qc.pans g j ?_;simp[go_sem,zC];exact .hf _ (qR _)
 |ok l =>
  rw[em]at g;have U:l.length=(x.path p.st).length:=EK.XA em;refine qc.pure g.toP j ?_;simp[go_sem];refine qc.pure (nE l false zOm) (.zk (Xa l) (.zs .nil)) ?_;have hb:(l.all id)=!decide (false∈l):=qiZ l;generalize decide (false∈l)=B at *
  simp[go_sem,zi,hb];exact .zsc _
theorem f49(x:Mo)(N:Nat)(n a:Nd)(o:OkMa x N)(r:n.kids=[a])(J:IH x N n)(p:Pl)(hp:OkP x N p)(hq:bd p n)(t:n.op=49):qU qb 71 [eMa x,ePl p,eNd n] (endB (bX (mapX (fun s=>(den x a).F ⟨s,p.env⟩) (x.path p.st)) fun l => .ok (l.any id))):=by
 refine za.of_sound ?_;refine qe.of_awp call71 func71 rfl (qh zKr) zKr (pl:={}) ?_;have i:=zO x;have hN:=o.N1;have hl:=o.len;have C:=Xs x N o p.st hp.st;have P:=XB x p.st;have I:WKs [eMa x,aI p.st] [eMa x,aI p.st] := .zk i (.zs .nil);have g:=nD x (x.path p.st) zOm p a fun s R=>J a (by rw[r];simp) _ (Ub o hp s R) (by show p.env.length+_<=_;omega)
 have j:WKs [eMa x,lN (x.path p.st),ePl p,eNd a] [eMa x,lN (x.path p.st),ePl p,eNd a] := .zk i (.cons (WK.intsF _) (.zk (VZ p) (.zk (qz a) .nil)));simp[go_sem,t];refine qg.seg [0,1,2,3,5,6,7,8,9,4,10,11,12] [(0,0,[]),(1,0,[]),(2,0,[]),(3,0,[]),(5,0,[]),(6,0,[]),(7,0,[]),(8,0,[]),(9,0,[]),(4,1,[5,7,9]),(10,1,[]),(11,1,[]),(12,0,[])] zKr zKr zSi ?_;simp[go_sem,r];refine qc.pure C I ?_;simp[go_sem,r];cases em:mapX (fun s=>(den x a).F ⟨s,p.env⟩) (x.path p.st) with
 |error e =>
  rw[em]at g;refine qc.pans g j ?_;simp[go_sem,zC];exact .hf _ (qR _)
 |ok l =>
  rw[em]at g;have U:l.length=(x.path p.st).length:=EK.XA em;refine qc.pure g.toP j ?_;simp[go_sem];refine qc.pure (nE l true zOm) (.zk (Xa l) (.zs .nil)) ?_;have hb:(l.any id)=decide (true∈l):=qi0 l;generalize decide (true∈l)=B at *
  simp[go_sem,zi,hb];exact .zsc _
theorem f50(x:Mo)(N:Nat)(n a:Nd)(g:OkMa x N)(j:n.kids=[a])(J:IH x N n)(p:Pl)(hp:OkP x N p)(R:bd p n)(l:n.op=50):qU qb 71 [eMa x,ePl p,eNd n] (endB ((den x a).F ⟨x.nx p.st,p.env⟩)):=by
 refine za.of_sound ?_;refine qe.of_awp call71 func71 rfl (qh zKr) zKr (pl:={}) ?_;have P:=zO x;have i:=(J a (by rw[j];simp) _ (OkP.nx g.toOkM hp) (by show p.env.length+_<=_;omega)).F;have C:=wk3 x ⟨x.nx p.st,p.env⟩ a;have U:=g.N1;have hl:=g.len;have o:=W5 x g.loop zOm p.st (zW1 hp.st);have t:WKs [eMd x.m,aI p.st] [eMd x.m,aI p.st] := .zk (yK x.m) (.zs .nil);simp[go_sem,l];refine qg.seg [0,1,2,3,4,5,6,8,9,11,12,13,14,7,10,15,16] [(0,0,[]),(1,0,[]),(2,0,[]),(3,0,[]),(4,0,[]),(5,0,[]),(6,0,[]),(8,0,[]),(9,0,[]),(11,0,[]),(12,0,[]),(13,0,[]),(14,0,[]),(7,1,[9,12,14]),(10,0,[]),(15,1,[]),(16,0,[])] zKr zKr zSi ?_;simp[go_sem,j];refine qc.pure o t ?_;simp[go_sem,j];cases I:(den x a).F ⟨x.nx p.st,p.env⟩ with
 |error e =>
  rw[I]at i;refine qc.pans i C ?_;simp[go_sem];exact .hf _ (qR _)
 |ok r =>
  rw[I]at i;refine qc.pure i.toP C ?_;simp[go_sem];exact .zsc _
theorem f51(x:Mo)(N:Nat)(n a b:Nd)(g:OkMa x N)(i:n.kids=[a,b])(l:IH x N n)(p:Pl)(hp:OkP x N p)(P:bd p n)(j:n.op=51):qU qb 71 [eMa x,ePl p,eNd n] (endB (untX (fun s=>(den x a).F ⟨s,p.env⟩) (fun s=>(den x b).F ⟨s,p.env⟩) (x.path p.st) false false)):=by
 refine za.of_sound ?_;refine qe.of_awp call71 func71 rfl (qh zKr) zKr (pl:={}) ?_;have I:=zO x;have R:=g.N1;have U:=g.len;have J:=XB x p.st;have o:=qiM x N n a b g i p hp (fun s t=>⟨l a (by rw[i];simp) _ (Ub g hp s t) (by show p.env.length+_<=_;omega),l b (by rw[i];simp) _ (Ub g hp s t) (by show p.env.length+_<=_;omega)⟩) zOm;have C:=wk3 x p n;generalize untX (fun s=>(den x a).F ⟨s,p.env⟩) (fun s=>(den x b).F ⟨s,p.env⟩) (x.path p.st) false false=E at *
 simp[go_sem,j];cases E with
 |error e =>
  refine qc.pans o C ?_;simp[go_sem];exact .hf _ (qR _)
 |ok r =>
  refine qc.pure o.toP C ?_;simp[go_sem];exact .zsc _
theorem f47(x:Mo)(N:Nat)(n:Nd)(hM:OkMa x N)(a0:n.kids.length<=1000000)(ih:IH x N n)(p:Pl)(hp:OkP x N p)(hq:bd p n)(J:n.op=47):qU qb 71 [eMa x,ePl p,eNd n] (endB (bX (mapX (fun d:Den=>d.E p) (n.kids.map (den x))) fun _ => .error 45)):=by
 refine za.of_sound ?_;refine qe.of_awp call71 func71 rfl (qh zKr) zKr (pl:={}) ?_;have a1:=zO x;generalize hE:mapX (fun d:Den=>d.E p) (n.kids.map (den x))=E;simp[go_sem,J];refine qn.upK n.kids.length (fun k U=>∃ t,mapX (fun d:Den=>d.E p) ((n.kids.take k).map (den x)) = .ok t/\U.tm 0=eMa x/\U.tm 4 = .ip (cPl p)/\U.tm 282=lNd n.kids/\U.tm 283=aI n.kids.length/\U.tm 284=aI k) ?_ ?_
 .exact ⟨[],rfl,zSi,zSi,zSi,zSi,zSi⟩
 rintro k U hk ⟨t,C,e0,e4,o,g,i⟩;by_cases j:k<n.kids.length
 .have w1:qj.wrap ((k:Int)+1)=(k:Int)+1:=qi zOm zOm
  have I:=(ih n.kids[k] (qy j) p hp zOm).E;have hw:=wk3 x p n.kids[k];have l:=ZB (l2:=(n.kids.drop k).map (den x)) C;rw[<-zx,uf,zt j,List.map_cons,mapX,hE]at l;simp[go_sem,e0,e4,o,g,i,j];cases P:(den x n.kids[k]).E p with
  |error e =>
   rw[P]at I l;rw[zC,zC]at l;subst l;refine qc.pans I hw ?_;simp[go_sem,zC];exact .hf _ (qR _)
  |ok r =>
   rw[P]at I;refine qc.pure I.toP hw ?_;simp[go_sem,i,w1];refine⟨j,Keep.mk' ⟨t++[r],?_,zS1 e0,zS1 e4,by simp[go_sem,o],by simp[go_sem,g],zSi⟩⟩;rw[yL j,zx,ZB C,List.map_cons,List.map_nil,mapX,P];rfl
 .have R:k=n.kids.length:=by omega
  subst R;rw[zw,hE]at C;subst C;rw[zi];simp[go_sem,g,i];refine qc.pans (u3 45) (wkI 45) ?_;simp[go_sem];exact .hf _ (qR _)
theorem fNo(x:Mo)(n:Nd)(p:Pl)(h:∀ k:Int,(30<=k/\k<=51)->n.op≠k):qU qb 71 [eMa x,ePl p,eNd n] (endB (.error 43)):=by
 refine za.of_sound ?_;refine qe.of_awp call71 func71 rfl (qh zKr) zKr (pl:={}) ?_;have a9:=zO x;have g:=h 30 zDe;have i:=h 31 zDe;have j:=h 32 zDe;have l:=h 33 zDe;have o:=h 34 zDe;have r:=h 35 zDe;have t:=h 36 zDe;have C:=h 37 zDe;have I:=h 38 zDe;have J:=h 39 zDe;have P:=h 40 zDe;have R:=h 41 zDe;have U:=h 42 zDe;have a0:=h 43 zDe;have a1:=h 44 zDe;have a2:=h 45 zDe;have a3:=h 46 zDe;have a4:=h 47 zDe;have a5:=h 48 zDe;have a6:=h 49 zDe;have a7:=h 50 zDe;have a8:=h 51 zDe;simp[go_sem,g,i,j,l,o,r,t,C,I,J,P,R,U,a0,a1,a2,a3,a4,a5,a6,a7,a8];refine qc.pans (u3 43) (wkI 43) ?_;simp[go_sem];exact .hf _ (qR _)
end F9
namespace FA
open Y1 Y9 P2 E3 EA F1 F2 F3 F4 F7 F8 F9
theorem yM{f:Nat}{l:List AV}{A E:XE Bool}(h:qU qb f l (endB A))(e:A=E):qU qb f l (endB E):=e ▸ h
theorem qi1(x:Mo)(N:Nat)(n:Nd)(i:WfN n)(j:OkMa x N)(l:IH x N n)(p:Pl)(hp:OkP x N p)(o:bd p n) :
  qU qb 71 [eMa x,ePl p,eNd n] (endB ((den x n).F p)):=by
 rw[jO];show qU _ _ _ (endB (opF x n.op n.name (n.kids.map (den x)) p));by_cases r:n.op=30
 .exact yM (f30 x N n i j l p hp o r) (by rw[r];rfl)
 by_cases t:n.op=31
 .exact yM (f31 x N n i j l p hp o t) (by rw[t];rfl)
 by_cases C:n.op=32
 .obtain ⟨a,b,g⟩:=ja i zOm
  exact yM (f32 x N n a b j g l p hp o C) (by rw[C,g];rfl)
 by_cases I:n.op=33
 .obtain ⟨a,b,g⟩:=ja i zOm
  exact yM (f33 x N n a b j g l p hp o I) (by rw[I,g];rfl)
 by_cases J:n.op=34
 .obtain ⟨a,g⟩:=vH i zOm
  exact yM (f34 x N n a j g l p hp o _ (.inl ⟨J,rfl⟩)) (by rw[J,g];rfl)
 by_cases P:n.op=35
 .obtain ⟨a,g⟩:=vH i zOm
  exact yM (f34 x N n a j g l p hp o _ (.inr (.inl ⟨P,rfl⟩))) (by rw[P,g];rfl)
 by_cases R:n.op=36
 .obtain ⟨a,g⟩:=vH i zOm
  exact yM (f34 x N n a j g l p hp o _ (.inr (.inr (.inl ⟨R,rfl⟩)))) (by rw[R,g];rfl)
 by_cases T:n.op=37
 .obtain ⟨a,g⟩:=vH i zOm
  exact yM (f34 x N n a j g l p hp o _ (.inr (.inr (.inr ⟨T,rfl⟩)))) (by rw[T,g];rfl)
 by_cases U:n.op=38
 .obtain ⟨a,b,g⟩:=ja i zOm
  exact yM (f38 x N n a b j g l p hp o _ (.inl ⟨U,rfl⟩)) (by rw[U,g];rfl)
 by_cases a0:n.op=39
 .obtain ⟨a,b,g⟩:=ja i zOm
  exact yM (f38 x N n a b j g l p hp o _ (.inr ⟨a0,rfl⟩)) (by rw[a0,g];rfl)
 by_cases a1:n.op=40
 .obtain ⟨a,g⟩:=vH i zOm
  exact yM (f40 x N n a j g l p hp o a1) (by rw[a1,g];rfl)
 by_cases a2:n.op=41
 .obtain ⟨a,b,g⟩:=ja i zOm
  exact yM (f41 x N n a b j g l p hp o _ (.inl ⟨a2,rfl⟩)) (by rw[a2,g];rfl)
 by_cases a3:n.op=42
 .obtain ⟨a,b,g⟩:=ja i zOm
  exact yM (f41 x N n a b j g l p hp o _ (.inr (.inl ⟨a3,rfl⟩))) (by rw[a3,g];rfl)
 by_cases a4:n.op=43
 .obtain ⟨a,b,g⟩:=ja i zOm
  exact yM (f41 x N n a b j g l p hp o _ (.inr (.inr (.inl ⟨a4,rfl⟩)))) (by rw[a4,g];rfl)
 by_cases a5:n.op=44
 .obtain ⟨a,b,g⟩:=ja i zOm
  exact yM (f41 x N n a b j g l p hp o _ (.inr (.inr (.inr ⟨a5,rfl⟩)))) (by rw[a5,g];rfl)
 by_cases a6:n.op=45
 .obtain ⟨a,b,g⟩:=ja i zOm
  exact yM (f45 x N n a b j g l p hp o a6) (by rw[a6,g];rfl)
 by_cases a7:n.op=46
 .obtain ⟨a,b,g⟩:=ja i zOm
  exact yM (f46 x N n a b j g l p hp o a7) (by rw[a7,g];rfl)
 by_cases a8:n.op=47
 .exact yM (f47 x N n j (zW1 i.small.len) l p hp o a8) (by rw[a8];rfl)
 by_cases a9:n.op=48
 .obtain ⟨a,g⟩:=vH i zOm
  exact yM (f48 x N n a j g l p hp o a9) (by rw[a9,g];rfl)
 by_cases aa:n.op=49
 .obtain ⟨a,g⟩:=vH i zOm
  exact yM (f49 x N n a j g l p hp o aa) (by rw[aa,g];rfl)
 by_cases ab:n.op=50
 .obtain ⟨a,g⟩:=vH i zOm
  exact yM (f50 x N n a j g l p hp o ab) (by rw[ab,g];rfl)
 by_cases ad:n.op=51
 .obtain ⟨a,b,g⟩:=ja i zOm
  exact yM (f51 x N n a b j g l p hp o ad) (by rw[ad,g];rfl)
 refine yM (fNo x n p fun k g e=>?_) ?_
 .omega
 .unfold opF
  rw[if_neg r,if_neg t,if_neg C,if_neg I,if_neg J,if_neg P,if_neg R,if_neg T,if_neg U,if_neg a0,if_neg a1,if_neg a2,if_neg a3,if_neg a4,if_neg a5,if_neg a6,if_neg a7,if_neg a8,if_neg a9,if_neg aa,if_neg ab,if_neg ad]
theorem evX(x:Mo)(N:Nat)(g:OkMa x N):∀(m:Nat) (n:Nd),szN n<=m->WfN n->∀ p:Pl,OkP x N p->bd p n->Ev3 x p n
 | 0,n,C,_,_,_,_=>by
  obtain⟨op,nm,i,ks,q⟩:=n;simp only[szN,Nd.mk.sizeOf_spec]at C;omega
 |m+1,n,C,j,p,hp,l=>by
  have o:IH x N n:=fun k t p hp l=>evX x N g m k (zW1 (zS t)) (j.kid t) p hp (by have:=qiD t;show _+_<=_;omega)
  exact⟨exprX x N n j g o p hp l,qiN x N n j g o p hp l,qi1 x N n j g o p hp l,fun r h=>nu g.toOkM _ n (qm _) j p r hp h⟩
end FA
namespace FB
open Y1 Y9 P2 YF E3 EA ET F1 F2 F3 FA
def outE:XE Rl->AV
 | .ok r => .tup [eRel r,aI 0]
 | .error e => .tup [eRel ⟨0,[]⟩,aI e]
def outN:XE Int->AV
 | .ok r => .tup [aI r,aI 0]
 | .error e => .tup [aI 0,aI e]
def outB:XE Bool->AV
 | .ok r => .tup [aB r,aI 0]
 | .error e => .tup [aB false,aI e]
theorem wkM(x:Mo):WKs [eTS x.ts,eMd x.m] [eTS x.ts,eMd x.m] := .zk (zA x.ts) (.zk (yK x.m) .nil)
theorem XC(x:Mo)(N:Nat)(n:Nd)(o:WfN n)(i:OkMa x N)(p:Pl)(hp:OkP x N p)(t:bd p n) :
  qd qb 23 [eTS x.ts,eMd x.m,aI p.st,lPm p.env,eNd n] (outB ((den x n).F p)):=by
 have hf:=(evX x N i (szN n) n (qm _) o p hp t).F;have j:=wk3 x p n;generalize (den x n).F p=E at *
 refine qU.toP ?_;refine za.of_sound ?_;refine qe.of_awpD call23 func23 rfl (qh zKr) zKr (pl:={}) ?_;simp[go_sem];refine wK.intro (g:=69) (first:=[]) (caps:=[]) zSi call69 ?_;simp[go_sem];refine qg.tail 7 zKr ?_;simp[go_sem];refine qc.pure (Xb x i.gsc) (wkM x) ?_;simp[go_sem];cases E with
 |error e =>
  refine qc.pans hf j ?_;simp[go_sem];refine yn.mono (Xd [.arr [aI 0]] 0 0 e rfl) ?_;rintro _ rfl;simp[go_sem];exact .hf _ (HF.tup (by simp only[qt,qE,or_false,forall_eq_or_imp,forall_eq];exact⟨HF.sc _,HF.sc _⟩))
 |ok r =>
  refine qc.pure hf.toP j ?_;simp[go_sem];refine yn.mono (Xc [.arr [aI 0]] 0 0 rfl) ?_;rintro _ rfl;simp[go_sem];exact .hf _ (HF.tup (by simp only[qt,qE,or_false,forall_eq_or_imp,forall_eq];exact⟨HF.sc _,HF.sc _⟩))
theorem intP(x:Mo)(N:Nat)(n:Nd)(o:WfN n)(i:OkMa x N)(p:Pl)(hp:OkP x N p)(t:bd p n) :
  qd qb 56 [eTS x.ts,eMd x.m,aI p.st,lPm p.env,eNd n] (outN ((den x n).N p)):=by
 have hf:=(evX x N i (szN n) n (qm _) o p hp t).N;have j:=wk3 x p n;generalize (den x n).N p=E at *
 refine qU.toP ?_;refine za.of_sound ?_;refine qe.of_awpD call56 func56 rfl (qh zKr) zKr (pl:={}) ?_;simp[go_sem];refine wK.intro (g:=69) (first:=[]) (caps:=[]) zSi call69 ?_;simp[go_sem];refine qg.tail 7 zKr ?_;simp[go_sem];refine qc.pure (Xb x i.gsc) (wkM x) ?_;simp[go_sem];cases E with
 |error e =>
  refine qc.pans hf j ?_;simp[go_sem];refine yn.mono (Xd [.arr [aI 0]] 0 0 e rfl) ?_;rintro _ rfl;simp[go_sem];exact .hf _ (HF.tup (by simp only[qt,qE,or_false,forall_eq_or_imp,forall_eq];exact⟨HF.sc _,HF.sc _⟩))
 |ok r =>
  refine qc.pure hf.toP j ?_;simp[go_sem];refine yn.mono (Xc [.arr [aI 0]] 0 0 rfl) ?_;rintro _ rfl;simp[go_sem];exact .hf _ (HF.tup (by simp only[qt,qE,or_false,forall_eq_or_imp,forall_eq];exact⟨HF.sc _,HF.sc _⟩))
theorem nK(x:Mo)(N:Nat)(n:Nd)(o:WfN n)(i:OkMa x N)(p:Pl)(hp:OkP x N p)(t:bd p n) :
  qd qb 55 [eTS x.ts,eMd x.m,aI p.st,lPm p.env,eNd n] (outE ((den x n).E p)):=by
 have hf:=(evX x N i (szN n) n (qm _) o p hp t).E;have j:=wk3 x p n;generalize (den x n).E p=E at *
 refine qU.toP ?_;refine za.of_sound ?_;refine qe.of_awpD call55 func55 rfl (qh zKr) zKr (pl:={}) ?_;simp[go_sem];refine wK.intro (g:=69) (first:=[]) (caps:=[]) zSi call69 ?_;simp[go_sem];refine qg.tail 7 zKr ?_;simp[go_sem];refine qc.pure (Xb x i.gsc) (wkM x) ?_;simp[go_sem];cases E with
 |error e =>
  refine qc.pans hf j ?_;simp[go_sem];refine yn.mono (Xd [.arr [aI 0,.lst true []],.arr [aI 0]] 1 0 e rfl) ?_;rintro _ rfl;simp[go_sem];exact Qs Zz
 |ok r =>
  refine qc.pure hf.toP j ?_;simp[go_sem];refine yn.mono (Xc [.arr [aI r.ar,lI r.ts],.arr [aI 0]] 1 0 rfl) ?_;rintro _ rfl;simp[go_sem];exact Qs (.hf _ (q9 r))
end FB
namespace FC
open Y1 P2 YF E3 EO EP F1 F2 F3 F4 F6 F8 FB
def fmV:XE Bool->Bool×Int
 | .ok v=>(v,0)
 | .error e=>(false,e)
theorem XD(q:XE Bool):outB q = .tup [aB (fmV q).1,aI (fmV q).2]:=by cases q<;>rfl
def vo(I:Nd->Nd×Int)(x:Mo):List Nd->Bool->Bool×Int
 | [],a=>(a,0)
 |b :: l,a=>if (I b).2≠0 then (false,(I b).2) else if (fmV ((den x (I b).1).F ⟨0,[]⟩)).2≠0 then (false,(fmV ((den x (I b).1).F ⟨0,[]⟩)).2) else vo I x l (a&&(fmV ((den x (I b).1).F ⟨0,[]⟩)).1)
theorem Ju(xs:List Nd):zy 5 (xs.map cNd):=fun r g=>by
 obtain⟨n,_,rfl⟩:=qr.1 g;exact⟨by cases n;rfl,Z3 n⟩
theorem put6(a:ByteArray)(n:Nd):putCells [aS ⟨#[]⟩,aI 0,aS ⟨#[]⟩,aI 0,.lst true [],aI 0] 0 (aS a :: cNd n)=aS a :: cNd n:=by cases n;rfl
theorem XF(x:Mo)(N:Nat)(hM:OkMa x N)(hN:0<N)(I:Nd->Nd×Int)(n:Nd)(hl:x.ts.facts.length<=1000)(hI:∀ b,b∈x.ts.facts.map Prod.snd++[n]->qd qb 68 [eTS x.ts,eNd b] (.tup [eNd (I b).1,aI (I b).2])/\((I b).2=0->WfN (I b).1/\dN (I b).1<=999999)) :
  qd qb 20 [eTS x.ts,eMd x.m,eNd n] (.tup [aB (vo I x (x.ts.facts.map Prod.snd++[n]) true).1,aI (vo I x (x.ts.facts.map Prod.snd++[n]) true).2]):=by
 generalize hR:vo I x (x.ts.facts.map Prod.snd++[n]) true=R;refine qd.of_sound (qe.of_awp call20 func20 rfl (qh zKr) zKr (pl:={}) ?_);simp[go_sem];refine qn.upK x.ts.facts.length (fun k U=>U.tm 3 = .ip (cTS x.ts)/\U.tm 4 = .ip (cMd x.m)/\U.tm 5 = .ip (cNd n)/\U.tm 8=aB true/\U.tm 18=lFa x.ts.facts/\U.tm 19=aI x.ts.facts.length/\U.tm 20=aI k/\Own U.mu 5 (U.tm 9) (((x.ts.facts.take k).map Prod.snd).map cNd)) ?_ ?_
 .exact ⟨zSi,zSi,zSi,zSi,zSi,zSi,zSi,.inl zSi⟩
 rintro k U hk ⟨e3,e4,e5,e8,P,i,o,ho⟩;by_cases g:k<x.ts.facts.length
 .have w1:qj.wrap ((k:Int)+1)=(k:Int)+1:=qi zOm zOm
  simp[go_sem,P,i,o,g,put6];refine qF.ownB (e:=36) (sz:=5) (bt:=64) (zv := .agg [aI 0,aS ⟨#[]⟩,aI 0,.lst true [],aI 0]) (xs:=((x.ts.facts.take k).map Prod.snd).map cNd) (ys:=[cNd x.ts.facts[k].2]) zSi zSi zSi rfl rfl zOm zOm (Own.push ho _) (by simp[qO]) (Ju _) (Ju [_]) zSo ?_;intro a0 a1 t _ _ _;simp[go_sem,o,g,w1];refine Keep.mk' ⟨zS1 e3,zS1 e4,zS1 e5,zS1 e8,zS1 P,zS1 i,zSi,?_⟩;rw[yL g,zx,zx];simpa[go_sem] using t
 .have C:k=x.ts.facts.length:=by omega
  subst C;rw[zw]at ho;simp[go_sem,e5,i,o];refine qF.ownB (e:=36) (sz:=5) (bt:=64) (zv := .agg [aI 0,aS ⟨#[]⟩,aI 0,.lst true [],aI 0]) (xs:=(x.ts.facts.map Prod.snd).map cNd) (ys:=[cNd n]) zSi zSi zSi rfl rfl zOm zOm ho (by simp[qO]) (Ju _) (Ju [_]) zSo ?_;intro a0 a1 t _ _ _;have a2:Own a1 5 a0 ((x.ts.facts.map Prod.snd++[n]).map cNd):=by rw[zx];exact t
  have a6:(x.ts.facts.map Prod.snd++[n]).length<=1001:=zSo;generalize x.ts.facts.map Prod.snd++[n]=L at *
  simp[go_sem];refine OptK.intro (aI L.length) (by rcases a2 with h|⟨b,h,_⟩<;>rw[h]<;>simp) ?_;simp[go_sem];refine qn.fz ?_;refine FzQ.ownB (d:=33) zSi a2 (Ju L) (fun r hr c hc=>?_) fun a7 full _ _=>?_
  .obtain ⟨b,_,rfl⟩:=qr.1 hr
   exact jy b c hc
  refine qn.upK L.length (fun k U=>∃ a,U.tm 3 = .ip (cTS x.ts)/\U.tm 4 = .ip (cMd x.m)/\U.tm 8=aB a/\U.tm 33 = .lst full (L.map cNd)/\U.tm 34=aI L.length/\U.tm 35=aI k/\vo I x (L.drop k) a=R) ?_ ?_
  .exact ⟨true,zS1 e3,zS1 e4,zS1 e8,zSi,zSi,zSi,hR⟩
  rintro k U hk ⟨a,f3,f4,f8,f33,f34,f35,hV⟩;by_cases g:k<L.length
  .have w1:qj.wrap ((k:Int)+1)=(k:Int)+1:=qi zOm zOm
   obtain⟨hi,a4⟩:=hI L[k] (qy g);rw[zt g,vo]at hV;have wi:WKs [eTS x.ts,eNd L[k]] [eTS x.ts,eNd L[k]] := .zk (zA _) (.zk (qz _) .nil);simp[go_sem,f3,f33,f34,f35,g];refine qc.pure hi wi ?_;generalize a8:I L[k]=ib at *
   obtain⟨b',e'⟩:=ib;by_cases he:e'=0
   .subst he
    obtain⟨a5,a3⟩:=a4 rfl;replace a3:dN b'<=999999:=a3;rw[if_neg zSp]at hV;have hf:=XC x N b' a5 hM ⟨0,[]⟩ ⟨hN,zSp⟩ (by show 0+_<=_;omega);have wf:WKs [eTS x.ts,eMd x.m,aI (0:Nat),.lst true [],eNd b'] [eTS x.ts,eMd x.m,aI (0:Nat),lPm [],eNd b'] := .zk (zA _) (.zk (yK _) (.zs (.cons (WK.lst fun r hr=>absurd hr qE) (.zk (qz _) .nil))));rw[XD]at hf;simp only at hV;generalize fmV ((den x b').F ⟨0,[]⟩)=q at *
    obtain⟨v,e2⟩:=q;simp[go_sem,f3,f4];refine qc.pure hf wf ?_;by_cases J:e2=0
    .subst J
     rw[if_neg zSp]at hV;cases a<;>cases v
     all_goals simp[go_sem,f8,f35,g,w1]
     all_goals exact Keep.mk' ⟨_,zS1 f3,zS1 f4,zSi,by simp[go_sem,f33],by simp[go_sem,f34],zSi,hV⟩
    .rw [if_pos J]at hV
     subst hV;simp[go_sem,J];exact .hf _ (HF.tup (by simp only[qt,qE,or_false,forall_eq_or_imp,forall_eq];exact⟨HF.sc _,HF.sc _⟩))
   .rw [if_pos he]at hV
    subst hV;simp[go_sem,he];exact .hf _ (HF.tup (by simp only[qt,qE,or_false,forall_eq_or_imp,forall_eq];exact⟨HF.sc _,HF.sc _⟩))
  .have C:k=L.length:=by omega
   subst C;rw[yk,vo]at hV;subst hV;simp[go_sem,f8,f34,f35];exact .hf _ (HF.tup (by simp only[qt,qE,or_false,forall_eq_or_imp,forall_eq];exact⟨HF.sc _,HF.sc _⟩))
end FC
namespace E9
open P1 YF E1 E3 E4
theorem Yd(sc:Sc)(g:GSc sc):qd qb 18 [eSc sc] (aI (sumI sc.atoms)):=by
 refine qd.of_sound (qe.of_awp call18 func18 rfl (qh zKr) zKr (pl:={}) ?_);simp[go_sem];refine qn.up sc.atoms.length (fun k U=>U.tm 1 = .ip [lI sc.atoms,aI sc.steps]/\U.tm 3=aI (sumI (sc.atoms.take k))/\U.tm 4=aI k/\U.mu=[]) ?_ ?_
 .simp [go_sem,sumI]
 rintro k U I ⟨o,p,r,C⟩;have J:=g.1;simp[go_sem,o,r,C];refine BrS.intro (fun i=>?_) (fun j=>?_)
 .have i:k<sc.atoms.length:=by simpa using i
  have t:=Zs sc.atoms k i;have l:=g.sum (k+1);rw[t]at l;simp[go_sem,o,p,r,i];exact⟨by rw[t,qi zOm zOm],qi zOm zOm⟩
 .have j:k=sc.atoms.length:=by simp at j;omega
  subst j;simp[go_sem,p];exact .zsc _
def ZD:List Int->Int->Int->Int
 | [],_,_ => -1
 |a :: l,x,i=>if x<a then i else ZD l (x-a) (i+1)
def Ye(sc:Sc)(x:Int):Int:=ZD sc.atoms x 0
theorem qi2(l:List Int)(k:Nat)(x i:Int)(h:k<l.length):ZD (l.drop k) x i=if x<l[k] then i else ZD (l.drop (k+1)) (x-l[k]) (i+1):=by
 rw[zt h,ZD]
theorem qi3(sc:Sc)(g:GSc sc)(x:Int)(hx : -1000000<=x/\x<=1000000):qd qb 179 [eSc sc,aI x] (aI (Ye sc x)):=by
 refine qd.of_sound (qe.of_awp call179 func179 rfl (qh zKr) zKr (pl:={}) ?_);simp[go_sem];refine qn.up sc.atoms.length (fun k U=>U.tm 2 = .ip [lI sc.atoms,aI sc.steps]/\U.tm 5=aI k/\U.mu=[]/\∃ y,U.tm 1=aI y/\ZD (sc.atoms.drop k) y k=Ye sc x/\y+5*k>=x/\y<=x) ?_ ?_
 .simp [go_sem,Ye]
 rintro k U P ⟨r,o,C,y,t,j,I,J⟩;have R:=g.1;simp[go_sem,r,o,C];refine BrS.intro (fun i=>?_) (fun l=>?_)
 .have i:k<sc.atoms.length:=by simpa using i
  have hg:=g.get i;rw[qi2 _ _ _ _ i]at j;simp[go_sem,r,o,t,i];refine BrS.intro (fun p=>?_) (fun p=>?_)
  .simp [go_sem,o]
   simp at p;rw[if_pos p]at j;rw[<-j];exact .zsc _
  .simp [go_sem,r,o,t,i]
   simp at p;rw[if_neg zOm]at j;rw[qi zOm zOm,qi zOm zOm];exact⟨rfl,j,zOm,zOm⟩
 .have l:k=sc.atoms.length:=by simp at l;omega
  subst l;simp[go_sem];simp[ZD]at j;rw[<-j];exact .zsc _
def vp(sp:Sp)(sc:Sc):Bool:=decide (sc.atoms.length=sp.sorts.length)&&decide (sp.sorts.length<=4)&&decide (1<=sc.steps)&&decide (sc.steps<=4)&&sc.atoms.all (fun a=>decide (1<=a)&&decide (a<=5))&&decide (sumI sc.atoms<=12)
theorem qi4(sp:Sp)(sc:Sc)(t:sc.atoms.length<=9223372036854775807):qd qb 130 [eSp sp,eSc sc] (aB (vp sp sc)):=by
 refine qd.of_sound (qe.of_awp call130 func130 rfl (qh zKr) zKr (pl:={}) ?_);by_cases p:sc.atoms.length=sp.sorts.length
 case neg =>
  simp[go_sem,p,vp];exact .zsc _
 by_cases o:(4:Int)<sp.sorts.length
 case pos =>
  simp[go_sem,p,o,vp,show ¬sp.sorts.length<=4 by omega];exact .zsc _
 by_cases R:sc.steps<1
 case pos =>
  simp[go_sem,p,o,R,vp,show ¬ 1<=sc.steps by omega];exact .zsc _
 by_cases h4:4<sc.steps
 case pos =>
  simp[go_sem,p,o,R,h4,vp,show ¬sc.steps<=4 by omega];exact .zsc _
 simp[go_sem,p,o,R,h4];refine qn.up sc.atoms.length (fun k U=>U.tm 3 = .ip [lI sc.atoms,aI sc.steps]/\U.tm 5=aI k/\U.mu=[]/\∀(i:Nat) (h:i<sc.atoms.length),i<k->1<=sc.atoms[i]/\sc.atoms[i]<=5) ?_ ?_
 .simp [go_sem]
 rintro k U hk ⟨C,I,J,he⟩;by_cases l:k<sc.atoms.length
 .by_cases hb:sc.atoms[k]<1\/5<sc.atoms[k]
  .have:sc.atoms.all (fun a=>decide (1<=a)&&decide (a<=5))=false:=by
    rw[<-Bool.not_eq_true,qI];intro j;have:=j _ (qy l);simp at this;omega
   have:vp sp sc=false:=by simp only[vp,this,Bool.and_false,Bool.false_and]
   rw[this];by_cases r:sc.atoms[k]<1
   .simp [go_sem,C,I,J,l,r]
    exact .zsc _
   .simp [go_sem,C,I,J,l,r,show 5<sc.atoms[k] by omega]
    exact .zsc _
  .simp [go_sem,C,I,J,l,show ¬sc.atoms[k]<1 by omega,show ¬ 5<sc.atoms[k] by omega]
   refine⟨qi zOm zOm,fun i h P=>?_⟩;rcases uh.1 P with o|o
   .exact he i h o
   .subst o;exact⟨zOm,zOm⟩
 .have a0:k=sc.atoms.length:=by omega
  subst a0;have j:sc.atoms.all (fun a=>decide (1<=a)&&decide (a<=5))=true:=by
   rw[qI];intro a t;obtain⟨i,P,rfl⟩:=J0 t;have:=he i P P;simp;omega
  have g:GSc sc:=⟨zOm,fun a t=>by
   have:=qI.1 j a t;simp at this;omega⟩
  simp[go_sem,C,I,J];refine qc.pure (Yd sc g) (.zk (jx sc) .nil) ?_;simp[go_sem];simp only[vp,p,j,show sp.sorts.length<=4 by omega,show 1<=sc.steps by omega,show sc.steps<=4 by omega];simp;exact .zsc _
def wW(sc:Sc)(n:Int):List Int->Int->Bool
 | [],_=>true
 |s :: l,x=>decide (Ye sc (x % n)=s)&&wW sc n l (x / n)
theorem qi5(sc:Sc)(n:Int)(l:List Int)(k:Nat)(x:Int)(h:k<l.length):wW sc n (l.drop k) x=(decide (Ye sc (x % n)=l[k])&&wW sc n (l.drop (k+1)) (x / n)):=by
 rw[zt h,wW]
def divN(n x:Int):Nat->Int
 | 0=>x
 |j+1=>divN n x j / n
theorem XG{n x m:Int}(o:1<=n)(i:0<=x)(l:x<=m):∀ j,0<=divN n x j/\divN n x j<=m
 | 0=>⟨i,l⟩
 |j+1=>by
  have g:=XG o i l j;have d0:0<=divN n x j / n:=Int.ediv_nonneg g.1 zOm;have d1:divN n x j / n<=divN n x j:=Int.ediv_le_self n g.1;exact⟨d0,Int.le_trans d1 g.2⟩
def ZE(sc:Sc)(g:List Int)(r:Rl):Bool:=r.ts.all (fun t=>wW sc (max 1 (sumI sc.atoms)) g.reverse t)
theorem qi6(sc:Sc)(g:GSc sc)(l:List Int)(J:l.length<=1000)(r:Rl)(hl:r.ts.length<=9223372036854775807)(hr:∀ t,t∈r.ts->0<=t/\t<=1000000) :
  qd qb 133 [eSc sc,lI l,eRel r] (aB (ZE sc l r)):=by
 refine qd.of_sound (qe.of_awp call133 func133 rfl (qh zKr) zKr (pl:={}) ?_);simp[go_sem];refine qc.pure (Yd sc g) (.zk (jx sc) .nil) ?_;simp[go_sem];have P:=g.sum sc.atoms.length;rw[zw]at P;generalize hn:max 1 (sumI sc.atoms)=n;have R:1<=n/\n<=20:=zOm;refine qn.up r.ts.length (fun k U=>U.tm 3 = .ip [lI sc.atoms,aI sc.steps]/\U.tm 5 = .ip [aI r.ar,lI r.ts]/\U.tm 1=lI l/\U.tm 7=aI n/\U.tm 8=aI k/\U.mu=[]/\∀(i:Nat) (h:i<r.ts.length),i<k->wW sc n l.reverse r.ts[i]=true) ?_ ?_
 .simp [go_sem]
  omega
 rintro k U hk ⟨e3,e5,e1,e7,e8,hm,he⟩;by_cases o:k<r.ts.length
 .have p:=hr _ (qy o)
  simp[go_sem,e5,e1,e8,hm,o];refine qn.up l.length (fun j U=>U.tm 3 = .ip [lI sc.atoms,aI sc.steps]/\U.tm 5 = .ip [aI r.ar,lI r.ts]/\U.tm 1=lI l/\U.tm 7=aI n/\U.tm 8=aI k/\U.mu=[] /\
   U.tm 9=aI (divN n r.ts[k] j)/\U.tm 10=aI (l.length-1-j)/\wW sc n (l.reverse.drop j) (divN n r.ts[k] j)=wW sc n l.reverse r.ts[k]) ?_ ?_
  .simp [go_sem,e3,e5,e1,e7,e8,divN]
   exact qi zOm zOm
  rintro j U hj ⟨f3,f5,f1,f7,f8,fm,f9,f10,hy⟩;have a0:=XG R.1 p.1 p.2 j;have a1:=XG R.1 p.1 p.2 (j+1);rw[divN]at a1;generalize a2:divN n r.ts[k] j=y at *
  generalize hc:(l.length:Int)-1-j=c at *
  by_cases a3:j<l.length
  .have a4:j<l.reverse.length:=by simpa using a3
   rw[qi5 _ _ _ _ _ a4]at hy;have a9:y.tdiv n=y / n:=Int.tdiv_eq_ediv_of_nonneg a0.1;have aa:y.tmod n=y % n:=Int.tmod_eq_emod_of_nonneg a0.1;have m0:=Int.emod_nonneg y (show n≠0 by omega);have m1:=Int.emod_lt_of_pos y (show 0<n by omega);have I:0<=c:=zOm;have a5:c<l.length:=zOm;have a6:c.toNat=l.length-1-j:=zOm;have C:l.length-1-j<l.length:=zOm;have a7:l.reverse[j]=l[l.length-1-j]:=zSp;rw[a7]at hy;simp[go_sem,f10,fm,I];refine qg.intro zKr ?_;simp[go_sem,f3,f7,f9,show n≠0 by omega,aa];refine qc.pure (qi3 sc g (y % n) zOm) (.zk (jx sc) (.zs .nil)) ?_;by_cases J:Ye sc (y % n)=l[l.length-1-j]
   .simp [go_sem,f3,f5,f1,f7,f8,f9,f10,I,a5,a6,C,J,show n≠0 by omega,a9]
    refine⟨a3,?_,?_,?_⟩
    .rw [divN,a2,qi zOm zOm]
    .rw [qi zOm zOm];omega
    .rw [divN,a2];simpa[J] using hy
   .simp [go_sem,f1,f10,I,a5,a6,C,J]
    have:ZE sc l r=false:=by
     rw[ZE,<-Bool.not_eq_true,qI,hn];intro a8;have:=a8 _ (qy o);rw[<-hy]at this;simp[J]at this
    rw[this];exact .zsc _
  .have ab:j=l.length:=by omega
   subst ab;simp[go_sem,f3,f5,f1,f7,f8,f10,fm,show ¬ 0<=c by omega];refine⟨o,qi zOm zOm,fun i h hi=>?_⟩;rcases uh.1 hi with h2|h2
   .exact he i h h2
   .subst h2
    rw[<-hy,List.drop_of_length_le zSp,wW]
 .have ad:k=r.ts.length:=by omega
  subst ad;simp[go_sem,e5,e8,hm];have:ZE sc l r=true:=by
   rw[ZE,qI,hn];intro t ht;obtain⟨i,hi,rfl⟩:=J0 ht;exact he i hi hi
  rw[this];exact .zsc _
theorem XH{J:Type}{l:List J}{p:J->Bool}:l.all p=true↔∀(i:Nat) (h:i<l.length),p l[i]=true:=by
 rw[qI];refine⟨fun h i g=>h _ (qy g),fun h a j=>?_⟩;obtain⟨i,g,rfl⟩:=J0 j;exact h i g
theorem qi7{J:Type}{l:List J}{p:J->Bool}{i:Nat}(h:i<l.length)(hp:p l[i]=false):l.all p=false:=by
 rw[<-Bool.not_eq_true,XH];intro g;have:=g i h;simp[hp]at this
def wX(sp:Sp)(f:Fld):Bool:=f.sorts.all (fun s=>decide (0<=s)&&decide (s<sp.sorts.length))&&decide (1<=f.sorts.length)&&decide (f.sorts.length<=3)
theorem qi8{n:Int}{r:Rl}(h:jN n r=true):∀ t,t∈r.ts->0<=t/\t<=1000000:=by
 intro t g;simp only[jN,qB,decide_eq_true_eq,qI]at h;obtain⟨⟨⟨⟨⟨i,o⟩,p⟩,C⟩,j⟩,_⟩:=h;have l:=j t g;have I:=VU i zOm (powN r.ar) (by unfold powN;omega);unfold powI at l;omega
theorem XI{sp:Sp}{sc:Sc}(h:vp sp sc=true):GSc sc:=by
 simp only[vp,qB,decide_eq_true_eq,qI]at h;obtain⟨⟨⟨⟨⟨j,l⟩,o⟩,p⟩,g⟩,_⟩:=h;exact⟨zOm,fun a i=>zW1 (g a i)⟩
abbrev ipSp(sp:Sp):AV := .ip [.lst false (sp.sorts.map Zp),.lst false (sp.fields.map uu),.lst false sp.preds,.lst false sp.facts]
abbrev ipMd(m:Md):AV := .ip (cMd m)
structure XJ (sp:Sp) (m:Md):Prop where
 ns:sp.sorts.length<=10
 nf:sp.fields.length<=10
 nt:m.states.length<=64
 na:m.sc.atoms.length<=10
 st:∀(i:Nat) (h:i<m.states.length),m.states[i].length<=10/\∀(j:Nat) (h':j<m.states[i].length),(m.states[i][j]).ts.length<=200
 fs:∀(i:Nat) (h:i<sp.fields.length),(sp.fields[i]).sorts.length<=10
def Yf(sp:Sp)(m:Md):Bool:=decide (sp.sorts.length<=10)&&decide (sp.fields.length<=10)&&decide (m.states.length<=64)&&decide (m.sc.atoms.length<=10) &&
 (m.states.all fun s=>decide (s.length<=10)&&s.all fun r=>decide (r.ts.length<=200))&&sp.fields.all fun f=>decide (f.sorts.length<=10)
theorem XK{sp:Sp}{m:Md}:Yf sp m=true↔XJ sp m:=by
 simp only[Yf,qB,decide_eq_true_eq,XH];constructor
 .rintro ⟨⟨⟨⟨⟨g,i⟩,j⟩,l⟩,o⟩,p⟩
  exact⟨g,i,j,l,o,p⟩
 .rintro ⟨g,i,j,l,o,p⟩
  exact⟨⟨⟨⟨⟨g,i⟩,j⟩,l⟩,o⟩,p⟩
theorem ZF{sp:Sp}{m:Md}(h:¬XJ sp m):Yf sp m=false:=by
 rw[<-Bool.not_eq_true,XK];exact h
theorem qi9(sp:Sp)(m:Md):qd qb 59 [eSp sp,eMd m] (aB (Yf sp m)):=by
 refine qd.of_sound (qe.of_awp call59 func59 rfl (qh zKr) zKr (pl:={}) ?_);simp[go_sem];by_cases J:(10:Int)<sp.sorts.length
 .simp [go_sem,J]
  rw[ZF fun h=>zW1 h.ns];exact .zsc _
 by_cases h2:(10:Int)<sp.fields.length
 .simp [go_sem,J,h2]
  rw[ZF fun h=>zW1 h.nf];exact .zsc _
 by_cases h3:(64:Int)<m.states.length
 .simp [go_sem,J,h2,h3]
  rw[ZF fun h=>zW1 h.nt];exact .zsc _
 by_cases h4:(10:Int)<m.sc.atoms.length
 .simp [go_sem,J,h2,h3,h4]
  rw[ZF fun h=>zW1 h.na];exact .zsc _
 simp[go_sem,J,h2,h3,h4];refine qn.up m.states.length (fun k U=>U.tm 2=ipSp sp/\U.tm 3=ipMd m/\U.tm 5=aI k/\U.mu=[]/\∀(i:Nat) (h:i<m.states.length),i<k->m.states[i].length<=10/\∀(j:Nat) (h':j<m.states[i].length),(m.states[i][j]).ts.length<=200) ?_ ?_
 .simp [go_sem]
 rintro k U hk ⟨p,t,C,o,I⟩;by_cases l:k<m.states.length
 .simp [go_sem,t,C,o,l]
  by_cases h5:(10:Int)<m.states[k].length
  .simp [go_sem,h5]
   rw[ZF fun h=>zW1 ((h.st k l).1)];exact .zsc _
  simp[go_sem,h5];refine qn.up m.states[k].length (fun j U=>U.tm 2=ipSp sp/\U.tm 3=ipMd m/\U.tm 5=aI k/\U.tm 6=aI j/\U.mu=[]/\∀(i:Nat) (h:i<m.states[k].length),i<j->(m.states[k][i]).ts.length<=200) ?_ ?_
  .simp [go_sem,p,t,C]
  clear p t C o U;rintro j U hj ⟨p,t,C,e6,o,P⟩;by_cases g:j<m.states[k].length
  .by_cases R:(200:Int)<(m.states[k][j]).ts.length
   .simp [go_sem,t,C,e6,o,l,g,R]
    rw[ZF fun h=>zW1 ((h.st k l).2 j g)];exact .zsc _
   simp[go_sem,p,t,C,e6,o,l,g,R];refine⟨qi zOm zOm,fun i h hi=>?_⟩;rcases uh.1 hi with r|r
   .exact P i h r
   .subst r;omega
  .have a1:j=m.states[k].length:=by omega
   simp[go_sem,p,t,C,e6,o,l,g];refine⟨qi zOm zOm,fun i h hi=>?_⟩;rcases uh.1 hi with r|r
   .exact I i h r
   .subst r;exact⟨zOm,fun q hq=>P q hq zOm⟩
 .have a0:∀(i:Nat) (h:i<m.states.length),m.states[i].length<=10/\∀(j:Nat) (h':j<m.states[i].length),(m.states[i][j]).ts.length<=200:=fun i h=>I i h zOm
  simp[go_sem,t,C,o,l];refine qn.up sp.fields.length (fun k U=>U.tm 2=ipSp sp/\U.tm 7=aI k/\U.mu=[]/\∀(i:Nat) (h:i<sp.fields.length),i<k->(sp.fields[i]).sorts.length<=10) ?_ ?_
  .simp [go_sem,p]
  clear p t C o I U;rintro j U hj ⟨p,e7,o,I⟩;by_cases g:j<sp.fields.length
  .by_cases R:(10:Int)<(sp.fields[j]).sorts.length
   .simp [go_sem,p,e7,o,g,R]
    rw[ZF fun h=>zW1 (h.fs j g)];exact .zsc _
   simp[go_sem,p,e7,o,g,R];refine⟨qi zOm zOm,fun i h hi=>?_⟩;rcases uh.1 hi with r|r
   .exact I i h r
   .subst r;omega
  .simp [go_sem,p,e7,o,g]
   rw[XK.2 ⟨zOm,zOm,zOm,zOm,a0,fun i h=>I i h zOm⟩];exact .zsc _
theorem qjA(sp:Sp)(f:Fld)(hl:f.sorts.length<=9223372036854775807):qd qb 131 [eSp sp,pJ f] (aB (wX sp f)):=by
 refine qd.of_sound (qe.of_awp call131 func131 rfl (qh zKr) zKr (pl:={}) ?_);simp[go_sem];refine qn.up f.sorts.length (fun k U=>U.tm 2 = .ip [.lst false (sp.sorts.map Zp),.lst false (sp.fields.map uu),.lst false sp.preds,.lst false sp.facts]/\U.tm 3 = .ip (uu f)/\U.tm 5=aI k/\U.mu=[]/\∀(i:Nat) (h:i<f.sorts.length),i<k->0<=f.sorts[i]/\f.sorts[i]<sp.sorts.length) ?_ ?_
 .simp [go_sem]
 rintro k U hk ⟨e2,r,t,P,he⟩;by_cases g:k<f.sorts.length
 .have J:¬(0<=f.sorts[k]/\f.sorts[k]<sp.sorts.length)->wX sp f=false:=by
   intro hb;have:=qi7 (l:=f.sorts) (i:=k) (p:=fun s=>decide (0<=s)&&decide (s<sp.sorts.length)) g zSo;simp only[wX,this,Bool.false_and]
  simp[go_sem,r,t,P,g];refine qg.intro zKr ?_;by_cases ha:f.sorts[k]<0
  .simp [go_sem,r,t,g,ha]
   rw[J zOm];exact .zsc _
  by_cases hb:(sp.sorts.length:Int)<=f.sorts[k]
  .simp [go_sem,e2,r,t,g,ha,hb]
   rw[J zOm];exact .zsc _
  simp[go_sem,e2,r,t,g,ha,hb];refine⟨qi zOm zOm,fun i h R=>?_⟩;rcases uh.1 R with I|I
  .exact he i h I
  .subst I;exact⟨zOm,zOm⟩
 .have a0:k=f.sorts.length:=by omega
  subst a0;have j:f.sorts.all (fun s=>decide (0<=s)&&decide (s<sp.sorts.length))=true:=XH.2 fun i R=>by simpa using he i R R
  by_cases h1:(1:Int)<=f.sorts.length
  .have o:1<=f.sorts.length:=by omega
   by_cases I:(f.sorts.length:Int)<=3
   .have C:f.sorts.length<=3:=by omega
    simp[go_sem,r,t,P,h1,I];simp only[wX,j,o,C];exact .zsc _
   .have C:¬f.sorts.length<=3:=by omega
    simp[go_sem,r,t,P,h1,I];simp only[wX,j,o,C];exact .zsc _
  .have o:¬ 1<=f.sorts.length:=by omega
   simp[go_sem,r,t,P,h1];simp only[wX,j,o];exact .zsc _
noncomputable def dec(p:Prop):Bool:=@decide p (Classical.propDecidable p)
theorem qjB{p:Prop}(h:p):dec p=true:=@decide_eq_true p (Classical.propDecidable p) h
theorem uA{p:Prop}(h:¬p):dec p=false:=@decide_eq_false p (Classical.propDecidable p) h
def Jv(sp:Sp)(m:Md)(s i:Nat)(g:s<m.states.length)(j:i<sp.fields.length)(h:m.states[s].length=sp.fields.length):Prop:=
 m.states[s][i].ar=sp.fields[i].sorts.length/\jN (sumI m.sc.atoms) m.states[s][i]=true/\ZE m.sc sp.fields[i].sorts m.states[s][i]=true/\(sp.fields[i].var=false->(m.states[0]?.bind (·[i]?))=some m.states[s][i])
structure MVal (sp:Sp) (m:Md):Prop where
 sc:vp sp m.sc=true
 ns:(m.states.length:Int)=m.sc.steps
 l0:0<=m.loop
 l1:m.loop<m.sc.steps
 fld:∀(i:Nat) (h:i<sp.fields.length),wX sp sp.fields[i]=true
 len:∀(s:Nat) (h:s<m.states.length),m.states[s].length=sp.fields.length
 cell:∀(s i:Nat) (hs:s<m.states.length) (hi:i<sp.fields.length),Jv sp m s i hs hi (len s hs)
theorem qjC(sp:Sp)(m:Md)(J:XJ sp m):qd qb 60 [eSp sp,eMd m] (aB (dec (MVal sp m))):=by
 refine qd.of_sound (qe.of_awp call60 func60 rfl (qh zKr) zKr (pl:={}) ?_);simp[go_sem];refine qc.pure (qi4 sp m.sc (zW1 J.na)) (.zk (pK sp) (.zk (jx m.sc) .nil)) ?_;by_cases h1:vp sp m.sc=true
 case neg =>
  rw[uA fun h=>h1 h.sc];simp[go_sem,h1];exact .zsc _
 have g:=XI h1;by_cases h2:(m.states.length:Int)=m.sc.steps
 case neg =>
  rw[uA fun h=>h2 h.ns];simp[go_sem,h1,h2];exact .zsc _
 by_cases h3:m.loop<0
 .rw [uA fun h=>zW1 h.l0]
  simp[go_sem,h1,h2,h3];exact .zsc _
 by_cases h4:m.sc.steps<=m.loop
 .rw [uA fun h=>zW1 h.l1]
  simp[go_sem,h1,h2,h3,h4];exact .zsc _
 have ag:=GSc.sum g sp.sorts.length;simp[go_sem,h1,h2,h3,h4];refine qc.pure (Yd m.sc g) (.zk (jx m.sc) .nil) ?_;simp[go_sem];refine qn.keep (fun q U=>∃ k,q=sp.fields.length-k/\k<=sp.fields.length/\U.tm 2=ipSp sp/\U.tm 3=ipMd m/\U.tm 5=aI (sumI m.sc.atoms)/\U.tm 6=aI (k:Nat)/\(∀(i:Nat) (h:i<sp.fields.length),i<k->wX sp sp.fields[i]=true /\
  ∀(s:Nat) (hs:s<m.states.length),∃ hl:m.states[s].length=sp.fields.length,Jv sp m s i hs h hl)) sp.fields.length ?_ ?_
 .exact ⟨0,zOm,zOm,zSi,zSi,zSi,zSi,fun i _ h=>zOm⟩
 rintro q U ⟨k,rfl,hk,t,p,e5,P,he⟩;have ah:=J.nf;have ai:=J.nt;by_cases l:k<sp.fields.length
 .have aj:=J.fs k l
  simp[go_sem,t,P,l];generalize U.mu=a1;refine qc.pure (qjA sp sp.fields[k] zOm) (.zk (pK sp) (.zk (qfL _) .nil)) ?_;by_cases h5:wX sp sp.fields[k]=true
  case neg =>
   rw[uA fun h=>h5 (h.fld k l)];simp[go_sem,h5];exact .zsc _
  simp[go_sem,h5];refine qn.keep (fun q2 U=>∃ s,q2=m.states.length-s/\s<=m.states.length/\U.tm 2=ipSp sp/\U.tm 3=ipMd m/\U.tm 5=aI (sumI m.sc.atoms)/\U.tm 6=aI (k:Nat)/\U.tm 7 = .ptr a1.length 0/\U.tm 8=aI (s:Nat)/\U.mu[a1.length]?=some (.arr (uu sp.fields[k])) /\
   (∀(u:Nat) (C:u<m.states.length),u<s->∃ hl:m.states[u].length=sp.fields.length,Jv sp m u k C l hl)) m.states.length ?_ ?_
  .exact ⟨0,zOm,zOm,zS1 t,zS1 p,zS1 e5,zS1 P,zSi,zSi,zSi,fun u _ h=>zOm⟩
  clear t p e5 P U;rintro q2 U ⟨s,rfl,hs,t,p,e5,P,e7,e8,a2,I⟩;generalize a1.length=L at *
  by_cases j:s<m.states.length
  .simp [go_sem,p,e8,j]
   refine qg.intro zKr ?_;have hL:L<U.mu.length:=(qk.1 a2).1;generalize U.mu=ad at *
   by_cases h6:m.states[s].length=sp.fields.length
   case neg =>
    rw[uA fun h=>h6 (h.len s j)];simp[go_sem,t,p,e8,j,h6];exact .zsc _
   have a6:k<m.states[s].length:=zOm;have o:ad[L]'hL = .arr (uu sp.fields[k]):=by
    rw[qA hL]at a2;exact Option.some.inj a2
   have a3:0<m.states.length:=zOm;have a4:=(J.st s j).2 k a6;simp[go_sem,t,p,P,e8,l,j,h6];refine qg.intro zKr ?_;generalize hr:m.states[s][k]=r at *
   by_cases c1:r.ar=sp.fields[k].sorts.length
   case neg =>
    rw[uA fun h=>c1 (hr ▸ (h.cell s k j l).1)];simp[go_sem,e7,o,hL,c1];exact .zsc _
   obtain⟨ar,R⟩:=r;simp only at c1 a4;subst c1;simp[go_sem,e5,e7,o,hL];refine qc.pure (qgV (sumI m.sc.atoms) ⟨sp.fields[k].sorts.length,R⟩ (by simp only;omega)) (.zs (.zk (q9 ⟨sp.fields[k].sorts.length,R⟩) .nil)) ?_;by_cases c2:jN (sumI m.sc.atoms) ⟨sp.fields[k].sorts.length,R⟩=true
   case neg =>
    rw[uA fun h=>c2 (hr ▸ (h.cell s k j l).2.1)];simp[go_sem,c2];exact .zsc _
   simp[go_sem,p,e7,o,hL,c2];refine qc.pure (qi6 m.sc g sp.fields[k].sorts zOm ⟨sp.fields[k].sorts.length,R⟩ (by simp only;omega) (qi8 c2)) (.zk (jx _) (.zk (yA _) (.zk (q9 ⟨sp.fields[k].sorts.length,R⟩) .nil))) ?_;by_cases c3:ZE m.sc sp.fields[k].sorts ⟨sp.fields[k].sorts.length,R⟩=true
   case neg =>
    rw[uA fun h=>c3 (hr ▸ (h.cell s k j l).2.2.1)];simp[go_sem,c3];exact .zsc _
   have next:(sp.fields[k].var=false->(m.states[0]?.bind (·[k]?))=some (⟨sp.fields[k].sorts.length,R⟩:Rl))->∀(u:Nat) (C:u<m.states.length),u<s+1->∃ hl:m.states[u].length=sp.fields.length,Jv sp m u k C l hl:=by
    intro hv u C a5;rcases uh.1 a5 with h7|h7
    .exact I u C h7
    .subst h7
     refine⟨h6,?_⟩;unfold Jv;rw[hr];exact⟨rfl,c2,c3,hv⟩
   have a7:qj.wrap ((s:Int)+1)=((s+1:Nat):Int):=by rw[qi zOm zOm];omega
   by_cases c4:sp.fields[k].var=true
   .simp [go_sem,e7,e8,o,hL,c3,c4]
    exact Keep.loop (m.states.length-(s+1)) zOm ⟨s+1,rfl,zOm,zS1 t,zS1 p,zS1 e5,zS1 P,zS1 e7,zS1 a7,zS2 hL o,next fun h=>by rw[c4]at h;simp at h⟩
   have a8:sp.fields[k].var=false:=by simpa using c4
   have a9:k<m.states[0].length:=by
    by_cases ae:s=0
    .subst ae;exact a6
    .obtain ⟨hl,_⟩:=I 0 a3 zOm
     omega
   generalize aa:m.states[0][k]=r0 at *
   have ab:(m.states[0]?.bind (·[k]?))=some r0:=by
    rw[qA a3,Option.bind_some,qA a9,aa]
   simp[go_sem,p,P,e7,o,hL,c3,a8,a3,a9,aa];refine qc.pure (gF ⟨sp.fields[k].sorts.length,R⟩ r0 (by simp only;omega)) (.zk (q9 ⟨sp.fields[k].sorts.length,R⟩) (.zk (q9 r0) .nil)) ?_;by_cases c5:(⟨sp.fields[k].sorts.length,R⟩:Rl)=r0
   case neg =>
    rw[uA fun h=>c5 (by
     have:=(h.cell s k j l).2.2.2 a8;rw[ab,hr]at this;exact(Option.some.inj this).symm)]
    simp[go_sem,c5];exact .zsc _
   simp[go_sem,e8,c5];exact Keep.loop (m.states.length-(s+1)) zOm ⟨s+1,rfl,zOm,zS1 t,zS1 p,zS1 e5,zS1 P,zS1 e7,zS1 a7,zS2 hL o,next fun h=>by rw[ab,c5]⟩
  .have ak:s=m.states.length:=by omega
   have af:qj.wrap ((k:Int)+1)=((k+1:Nat):Int):=by rw[qi zOm zOm];omega
   simp[go_sem,p,P,e8,j];refine Keep.loop (sp.fields.length-(k+1)) zOm ⟨k+1,rfl,zOm,zS1 t,zS1 p,zS1 e5,zS1 af,fun i h hi=>?_⟩;rcases uh.1 hi with h7|h7
   .exact he i h h7
   .subst h7;exact⟨h5,fun u C=>I u C zOm⟩
 .have al:k=sp.fields.length:=by omega
  simp[go_sem,t,P,l];refine qn.up m.states.length (fun s U=>U.tm 2=ipSp sp/\U.tm 3=ipMd m/\U.tm 10=aI s/\∀(u:Nat) (C:u<m.states.length),u<s->m.states[u].length=sp.fields.length) ?_ ?_
  .simp [go_sem,t,p]
  clear t p e5 P U;rintro s U hs ⟨t,p,a0,I⟩;by_cases j:s<m.states.length
  .simp [go_sem,p,a0,j]
   refine qg.intro zKr ?_;by_cases h6:m.states[s].length=sp.fields.length
   case neg =>
    rw[uA fun h=>h6 (h.len s j)];simp[go_sem,t,p,a0,j,h6];exact .zsc _
   simp[go_sem,t,p,a0,j,h6];refine⟨qi zOm zOm,fun u C a5=>?_⟩;rcases uh.1 a5 with h7|h7
   .exact I u C h7
   .subst h7;exact h6
  .rw [qjB ⟨h1,h2,zOm,zOm,fun i h=>(he i h zOm).1,fun u C=>I u C zOm,fun u i C hi=>((he i hi zOm).2 u C).2⟩]
   simp[go_sem,p,a0,j];exact .zsc _
def spOf(ts:TS):Sp:=⟨ts.sorts,ts.fields,ts.preds.map cPd,ts.facts.map cFa,wR ts.preds,Jj ts.facts⟩
end E9
namespace Y13
open Y1 Y2 Y3 P1 YM Y5 Y6 Y7 YF Y9 Y10 Y11 Y12 P2
theorem qjD(p:Pd)(n:Nd):qd qb 322 [.agg (cPd p),.ip (cNd n)] (aB (decide (p.name=n.name))):=by
 refine qd.of_sound (qe.of_awp call322 func322 rfl (qh zKr) zKr (pl:={}) ?_);simp[go_sem,u5];exact .zsc _
def uB(c:Ck)(s:Scp)(n:Nd):Res:=
 if (c.ts.preds.any fun p=>decide (p.name=n.name))=true then
  match zn c n.name with
  |none => .error (45,n.pos)
  |some p=>match c.ts.preds[p]? with
   |none => .error (45,n.pos)
   |some g=>if g.params.length=n.kids.length then zN c s n.pos g.params n.kids else .error (45,n.pos)
 else .error (40,n.pos)
def endC:Res->AEnd
 | .ok _ => .ret (.tup [])
 | .error e => .pan (jz e.1 e.2)
@[go_sem] theorem endC_ok(k:Option Kd):endC (.ok k) = .ret (.tup []):=rfl
@[go_sem] theorem qrR(e:Dg):endC (.error e) = .pan (jz e.1 e.2):=rfl
theorem Jw(n:Nd):HF (.ip (cNd n)):=HF.ip (jy n)
theorem hf_t0:HF (.tup []):=HF.tup zSp
theorem callU(c:Ck)(hc:okCk c)(s:Scp)(hs:ScOk c.ts.sorts.length s)(n:Nd)(hw:WfN n)(an:n.op=47)
  (ih:∀ k,k∈n.kids->qU qb 266 [eCk c,aSc s,eNd k,aB true] (endK (exam c s true k))) :
  qU qb 301 [eCk c,aSc s,eNd n] (endC (uB c s n)):=by
 refine za.of_sound ?_;refine qe.of_awp call301 func301 rfl (qh zKr) zKr (pl:={}) ?_;have b0:=hc.ts.np;have b1:=hw.len;have J:=hasPd false c.ts.preds (.fn (.func 322) [] [.ip (cNd n)]) (fun p=>decide (p.name=n.name)) ⟨_,_,_,rfl,fun p hp=>⟨_,qjD p n,.zk (HF.agg (VQ p)) (.zk (Jw n) .nil)⟩⟩ (HF.fn zSp (fun x hx=>by simp at hx;subst hx;exact Jw n)) (wR _) zOm;have af:WKs [lPd c.ts.preds,.fn (.func 322) [] [.ip (cNd n)]] [lPd c.ts.preds,.fn (.func 322) [] [.ip (cNd n)]] := .zk (wR _) (.zk (HF.fn zSp (fun x hx=>by simp at hx;subst hx;exact Jw n)) .nil);generalize hR:uB c s n=R;unfold uB at hR;simp[go_sem];cases hA:c.ts.preds.any (fun p=>decide (p.name=n.name)) with
 |false =>
  rw[hA]at J hR;subst hR;refine qg.tail 8 zKr ?_;simp[go_sem];refine qc.pure J af ?_;simp[go_sem];refine qc.pans (zH false 40 n) (wkR n false 40) ?_;simp[go_sem];exact .hf _ (yv _ _)
 |true =>
  rw[hA]at J hR;rw[if_pos rfl]at hR;refine qg.intro zKr ?_;simp[go_sem];refine qc.pure J af ?_;simp[go_sem];refine qc.pure (zH true 40 n).toP (wkR n true 40) ?_;simp[go_sem];refine qc.pure (ge c hc n.name) (.zk (ji c) (.zs .nil)) ?_;cases a0:zn c n.name with
  |none =>
   rw[a0]at hR;subst hR;simp[go_sem];refine qg.tail 19 zKr ?_;simp[go_sem];refine qc.pans (zH false 45 n) (wkR n false 45) ?_;simp[go_sem];exact .hf _ (yv _ _)
  |some p =>
   obtain⟨b2,a1⟩:=wT hc a0;have b3:=hc.ts.pl _ (qy a1);rw[a0]at hR;simp only[qA a1]at hR;simp[go_sem];generalize a7:c.ts.preds[p]=o at *
   by_cases I:o.params.length=n.kids.length
   .rw [if_pos I]at hR
    refine qg.intro zKr ?_;simp[go_sem,a1,a7,I];refine qc.pure (zH true 45 n).toP (wkR n true 45) ?_;simp[go_sem,a1,a7,I];have a8:=hw.shape;have ao:∀(k:Nat) (h:k<n.kids.length),kd n.kids[k].op=101:=by
     have e:shp n.op n.kids.length=some (qZ (min n.kids.length 401) 101):=by
      unfold shp;rw[if_neg zOm,if_neg zOm,if_neg zOm,if_neg zOm,if_neg zOm,if_neg zOm,if_neg zOm,if_pos an]
     rw[e]at a8;simp only[qp]at a8;intro k h;have h2:(n.kids.map fun k=>kd k.op)[k]?=some (kd n.kids[k].op):=by rw[zu,qA h];rfl
     rw[<-a8,List.getElem?_replicate]at h2;split at h2
     .simpa using h2.symm
     .exact absurd h2 zSp
    refine qn.upK o.params.length (fun k U=>U.tm 0=eCk c/\U.tm 1=aSc s/\U.tm 5 = .ip (cNd n)/\U.tm 54=lPm o.params/\U.tm 55=aI n.kids.length/\U.tm 56=aI k/\zN c s n.pos (o.params.drop k) (n.kids.drop k)=R) ?_ ?_
    .exact ⟨zSi,zSi,zSi,zSi,zSi,zSi,zUs hR⟩
    .rintro k U hk ⟨e0,e1,e5,ag,a9,aa,r⟩
     by_cases ah:k=o.params.length
     .subst ah
      rw[yk,I,yk]at r;simp only[zN]at r;subst r;simp[go_sem,a9,aa,I];exact .hf _ hf_t0
     .have ab:k<o.params.length:=by omega
      have C:k<n.kids.length:=zOm;have w1:qj.wrap ((k:Int)+1)=(k:Int)+1:=qi zOm zOm;have hi:=ih n.kids[k] (qy C);rw[zt ab,zt C]at r;simp only[zN]at r;have aq:=vj hc (szN n.kids[k]) n.kids[k] s true;have au:=ao k C;have ai:=hw.kid (qy C);simp[go_sem,e0,e1,e5,ag,a9,aa,ab,C];cases hx:exam c s true n.kids[k] with
      |error e =>
       rw[hx]at hi r;subst r;refine qc.pans hi (.zk (ji c) (.zk (wL s) (.zk (qz _) (.zs .nil)))) ?_;simp[go_sem];exact .hf _ (yv _ _)
      |ok ko =>
       obtain⟨kk,rfl,a5⟩:=aq ko (qm _) ai hs hx au;rw[hx]at hi r;simp only at r;refine qc.pure hi.toP (.zk (ji c) (.zk (wL s) (.zk (qz _) (.zs .nil)))) ?_;by_cases a2:kk.ar=1
       .rw [if_pos a2]at r
        simp[go_sem,e5,a2];refine qc.pure (zH true 42 n).toP (wkR n true 42) ?_;simp[go_sem];refine qn.seen kk.ts.length (fun seen g=>g.tm 0=eCk c/\g.tm 1=aSc s/\g.tm 5 = .ip (cNd n)/\g.tm 54=lPm o.params/\g.tm 55=aI n.kids.length/\g.tm 56=aI k/\g.tm 9 = .ptr U.mu.length 0/\g.tm 76 = .ptr (U.mu.length+2) 0 /\
         g.mu[U.mu.length]?=some (.arr [aS o.params[k].1,aI o.params[k].2])/\g.mu[U.mu.length+2]?=some (.it (eT kk.ts) seen)/\∀ i t,i∈seen->kk.ts[i]?=some t->t.getD 0 0=o.params[k].2) ?_ ?_
        .refine ⟨zS1 e0,zS1 e1,zS1 e5,zS1 ag,zS1 a9,zS1 aa,zSi,zSi,?_,?_,zSp⟩
         .simp [go_sem]
         .simp [go_sem]
        .rintro seen g b4 az ⟨f0,f1,f5,f54,f55,f56,f9,f76,g0,g2,a6⟩
         simp[go_sem,f76];refine⟨U.mu.length+2,eT kk.ts,seen,rfl,g2,fun i e hi av=>?_,fun ad=>?_⟩
         .obtain ⟨x,a4,rfl⟩:=Zw hi
          have aw:okT x:=a5.okK.len x (qV a4);have ax:i<kk.ts.length:=(qk.1 a4).1;have ay:x.length=3:=aw;have aj:x∈kk.ts:=qV a4;have P:U.mu.length+2<g.mu.length:=(qk.1 g2).1;have a3:∀(c:Cell) (l:List Cell),((g.mu.set (U.mu.length+2) c)++l)[U.mu.length]?=some (.arr [aS o.params[k].1,aI o.params[k].2]):=fun c l=>by
           rw[qo zSo,qv zOm];exact g0
          obtain⟨x0,x1,x2,rfl⟩:∃ x0 x1 x2,x=[x0,x1,x2]:=by
           match x,ay with
           | [x0,x1,x2],_=>exact⟨_,_,_,rfl⟩
          have al:0<=x0/\x0<128:=by
           obtain⟨l,el,hl,hr⟩:=a5.ts _ aj;rw[a2]at hl
           match l,hl with
           | [y],_ =>
            have:=hr y zSp;simp[pad]at el;have:=hc.ts.ns;omega
          have w8:qj.wrap x0=x0:=qi zOm zOm;by_cases hq:x0=o.params[k].2
          .have w9:qj.wrap o.params[k].2=o.params[k].2:=by rw[<-hq];exact w8
           simp[go_sem,f5,f9,f76,hi,P,a3,w9,hq];refine qc.pure (zH true 43 n).toP (wkR n true 43) ?_;simp[go_sem];refine⟨i,ax,av,zS1 f0,zS1 f1,zS1 f5,zS1 f54,zS1 f55,zS1 f56,zS1 f9,zS1 f76,?_,?_,?_⟩
           .simp only[qP]
            exact a3 _ _
           .simp only[qP]
            rw[qo (zUs P),qJ P]
           .intro j t hj ht
            rcases qM.1 hj with hj|hj
            .exact a6 j t hj ht
            .rw [qL]at hj;subst hj
             rw[a4]at ht;cases ht;exact hq
          .have ak:vU o.params[k].2 kk=false:=by
            unfold vU;rw[<-Bool.not_eq_true,qI];intro h;have:=h _ aj;simp at this;exact hq this
           rw[ak]at r;simp only[Bool.false_eq_true,if_false]at r;subst r;simp[go_sem,f5,f9,f76,hi,P,a3,w8,hq];refine qc.pans (zH false 43 n) (wkR n false 43) ?_;simp[go_sem];exact .hf _ (yv _ _)
         .have ae:vU o.params[k].2 kk=true:=by
           unfold vU;rw[qI];intro t ht;obtain⟨j,hj⟩:=List.mem_iff_getElem?.1 ht;simpa using a6 j t (ad j (by simpa using (qk.1 hj).1)) hj
          rw[if_pos ae]at r;simp[go_sem,f56,ab,w1];refine Keep.mk' ?_;refine⟨zS1 f0,zS1 f1,zS1 f5,zS1 f54,zS1 f55,zSi,r⟩
       .rw [if_neg a2]at r
        subst r;simp[go_sem,e5,a2];refine qc.pans (zH false 42 n) (wkR n false 42) ?_;simp[go_sem];exact .hf _ (yv _ _)
   .rw [if_neg I]at hR
    subst hR;refine qg.tail 19 zKr ?_;simp[go_sem,a1,a7,I];refine qc.pans (zH false 45 n) (wkR n false 45) ?_;simp[go_sem];exact .hf _ (yv _ _)
theorem XL{lo sz:Nat}{mu:Mu}{av:AV}{xs:List (List AV)}(h:OwnF lo mu sz av xs)(w:jH sz xs)(hf:∀ r,r∈xs->∀ c,c∈r->HF c):Rd (cutM (fun i=>decide (lo<=i)) mu 0) av (.lst false xs):=by
 obtain⟨g,j,o⟩:=h;refine Own.rd (sz:=sz) ?_ w hf;rcases g with rfl|⟨b,rfl,l⟩
 .exact .inl rfl
 .refine .inr ⟨b,rfl,?_⟩
  rw[uP,l];simp[j b _ _ _ rfl]
theorem qjE{c:Ck}{s:Scp}{n:Nd}{g:Option Kd}(h:uB c s n = .ok g):g=none:=by
 have hA:∀(ks:List Nd) (i:List (ByteArray×Int)) (g:Option Kd),zN c s n.pos i ks = .ok g->g=none:=by
  intro ks;induction ks with
  |nil=>intro i g h;cases i<;>simp[zN]at h<;>exact h.symm
  |cons k ks j =>
   intro i g h;cases i with
   |nil=>simp[zN]at h;exact h.symm
   |cons p i =>
    simp only[zN]at h;split at h
    .exact absurd h zSp
    .exact absurd h zSp
    .split at h
     .split at h
      .exact j _ _ h
      .exact absurd h zSp
     .exact absurd h zSp
 unfold uB at h;split at h
 .split at h
  .exact absurd h zSp
  .split at h
   .exact absurd h zSp
   .split at h
    .exact hA _ _ _ h
    .exact absurd h zSp
 .exact absurd h zSp
theorem appKo{mu:Mu}{lo:Nat}{s:AV}{xs:List (Option Kd)}{k:Option Kd}{K:AV->Mu->Prop}(o:OwnF lo mu 2 s (xs.map cKo))(I:xs.length<=100000)(p:∀ av mu',OwnF lo mu' 2 av ((xs++[k]).map cKo)->(∀ i,i<lo->mu'[i]?=mu[i]?)->K av mu') :
  qF qb mu #[337,337] s (.lst true [cKo k]) K:=by
 have g:∀ l:List (Option Kd),zy 2 (l.map cKo):=fun l r t=>by
  obtain⟨n,_,rfl⟩:=qr.1 t;exact Xm n
 refine qF.ownF (lo:=lo) (e:=332) (sz:=2) (bt:=16) (zv := .agg [aI 0,.sc (.map none)]) (xs:=xs.map cKo) (ys:=[cKo k]) zSi zSi zSi rfl rfl zOm zOm o (by simp[qO]) (g xs) (g [k]) zSo ?_;intro av mu' h C;exact p av mu' (by rw[zx];exact h) C
theorem nL(c:Ck)(hc:okCk c):∀(m:Nat) (n:Nd),szN n<=m->WfN n->∀(s:Scp),ScOk c.ts.sorts.length s->∀ inn:Bool,qU qb 266 [eCk c,aSc s,eNd n,aB inn] (endK (exam c s inn n))
 | 0,n,hm,_,_,_,_=>by obtain⟨op,nm,i,ks,p⟩:=n;simp[szN]at hm
 |m+1,n,hm,hw,s,hs,inn=>by
  have ih:∀ k,k∈n.kids->∀ J,ScOk c.ts.sorts.length J->∀ a1,qU qb 266 [eCk c,aSc J,eNd k,aB a1] (endK (exam c J a1 k)):=fun k hk J af a1 =>
   nL c hc m k (zW1 (zS hk)) (hw.kid hk) J af a1
  refine za.of_sound ?_;refine qe.of_awp call266 func266 rfl (qh zKr) zKr (pl:={}) ?_;generalize g:exam c s inn n=E;rw[yD]at g;have a7:=gg c hc n;simp[go_sem];by_cases hT:(inn&&zL c n.op n.name)=true
  .rw [if_pos hT]at g
   subst g;rw[qB]at hT;obtain⟨rfl,hT⟩:=hT;rw[hT]at a7;refine qg.tail 9 zKr ?_;simp[go_sem];refine qc.pure a7 (.zk (ji c) (.zk (qz n) .nil)) ?_;simp[go_sem];refine qc.pans (zH false 46 n) (wkR n false 46) ?_;simp[go_sem];exact .hf _ (yv _ _)
  rw[if_neg hT]at g;have ag:=Xn c hc s n;have a4:=fun h=>callU c hc s hs n hw h (fun k hk=>ih k hk s hs true)
  have a8:WKs [eCk c,aSc s,eNd n] [eCk c,aSc s,eNd n] := .zk (ji c) (.zk (wL s) (.zk (qz n) .nil));have a2:∀(J:Scp) (k:Nd) (b:Bool),WKs [eCk c,aSc J,eNd k,aB b] [eCk c,aSc J,eNd k,aB b]:=fun J k b => .zk (ji c) (.zk (wL J) (.zk (qz k) (.zs .nil)))
  have a5:n.op=15\/n.op=45\/n.op=46->∃ a f,n.kids=[a,f]/\kd a.op=101:=fun ho=>by
   have o:=hw.shape;have e:shp n.op n.kids.length=some [101,102]:=by
    unfold shp;rw[if_neg zOm,if_neg zOm,if_neg zOm,if_pos zOm]
   rw[e]at o;simp only[qp]at o
   match hk:n.kids,o with
   | [a,f],o=>simp at o;exact⟨a,f,rfl,o.1.symm⟩
   | [],o=>simp at o
   | [_],o=>simp at o
   |_ :: _ :: _ :: _,o=>simp at o
  cases inn
  case' false =>
   refine qg.intro zKr ?_;simp[go_sem];refine qc.pure (zH true 46 n).toP (wkR n true 46) ?_;simp[go_sem]
  case' true =>
   have az:zL c n.op n.name=false:=zUs hT;rw[az]at a7;refine qg.intro zKr ?_;simp[go_sem];refine qc.pure a7 (.zk (ji c) (.zk (qz n) .nil)) ?_;simp[go_sem];refine qc.pure (zH true 46 n).toP (wkR n true 46) ?_;simp[go_sem]
  all_goals
   by_cases h1:n.op=1
   .rw [if_pos h1]at g
    rw[g]at ag;simp[go_sem,h1];cases E with
    |error e =>
     refine qc.pans ag a8 ?_;simp[go_sem];exact .hf _ (yv _ _)
    |ok ko =>
     refine qc.pure ag.toP a8 ?_;cases ko with
     |none=>simp[go_sem];exact .hf _ hfKn
     |some k=>simp[go_sem];exact .hf _ (hfK2 _ _)
   rw[if_neg h1]at g;by_cases h47:n.op=47
   .rw [if_pos h47]at g
    have g:uB c s n=E:=g;have a4:=a4 h47;rw[g]at a4;simp[go_sem,h47];cases E with
    |error e =>
     refine qc.pans a4 a8 ?_;simp[go_sem];exact .hf _ (yv _ _)
    |ok ko =>
     obtain rfl:=qjE g;refine qc.pure a4.toP a8 ?_;simp[go_sem];exact .hf _ hfKn
   rw[if_neg h47]at g;by_cases hb:n.op=15\/n.op=45\/n.op=46
   .rw [if_pos hb]at g
    obtain⟨a,f,a3,ha⟩:=a5 hb;rw[a3]at g;have ao:∀ b r,exam c s b a=r->qU qb 266 [eCk c,aSc s,eNd a,aB b] (endK r):=fun b r h=>h ▸ ih a (by rw[a3];simp) s hs b
    have b0:∀ J,ScOk c.ts.sorts.length J->∀ b r,exam c J b f=r->qU qb 266 [eCk c,aSc J,eNd f,aB b] (endK r):=fun J af b r h=>h ▸ ih f (by rw[a3];simp) J af b
    have ab:=vj hc (szN a) a s;have aq:=hw.kid (k:=a) (by rw[a3];simp);rcases hb with h|h|h
    all_goals
     simp[go_sem,h,a3];simp only[h,z8,qQ]at g;simp at g;split at g
     .rename_i e hx
      have hi:=ao _ _ hx;subst g;refine qc.pans hi (a2 _ _ _) ?_;simp[go_sem];exact .hf _ (yv _ _)
     .rename_i hx
      obtain⟨q,hq,_⟩:=ab _ _ (qm _) aq hs hx ha;exact absurd hq zSp
     .rename_i k hx
      have hi:=ao _ _ hx;obtain⟨q,hq,b4⟩:=ab _ _ (qm _) aq hs hx ha;simp only[qp]at hq;subst hq;refine qc.pure hi.toP (a2 _ _ _) ?_;by_cases a9:k.ar=1
      .rw [if_pos a9]at g
       obtain⟨ka,kt⟩:=k;obtain rfl:ka=1:=a9;simp[go_sem];refine qc.pure (zH true 42 n).toP (wkR n true 42) ?_;simp[go_sem];have b5:ScOk c.ts.sorts.length ((n.name,⟨1,kt⟩) :: s):=fun v R=>by
        rcases qt.1 R with rfl|R
        .exact ⟨b4,rfl⟩
        .exact hs v R
       have au:=b0 _ b5;refine qg.tail 12 zKr ?_;simp[go_sem,a3];split at g
       .rename_i e a0
        split at a0
        .rename_i e' ah
         simp only[Except.error.injEq]at a0;subst a0;subst g;have ai:=au _ _ ah;refine qc.pans ai (a2 ((n.name,⟨1,kt⟩) :: s) _ _) ?_;simp[go_sem];exact .hf _ (yv _ _)
        .exact absurd a0 zSp
       .rename_i l a0
        split at a0
        .exact absurd a0 zSp
        .rename_i a' ah
         have ai:=au _ _ ah;subst g;refine qc.pure ai.toP (a2 ((n.name,⟨1,kt⟩) :: s) _ _) ?_;simp[go_sem];exact .hf _ (hfK2 _ _)
      .rw [if_neg a9]at g
       subst g;simp[go_sem,a9];refine qc.pans (zH false 42 n) (wkR n false 42) ?_;simp[go_sem];exact .hf _ (yv _ _)
   .rw [if_neg hb]at g
    simp only[not_or]at hb;obtain⟨b1,b2,b3⟩:=hb;simp[go_sem,h1,h47,b1,b2,b3];have b6:=hw.len;generalize hB:(_||decide (n.op=12)||decide (n.op=13))=B at g;by_cases aj:n.op=12
    case' pos=>simp[go_sem,aj]
    case' neg =>
     by_cases ak:n.op=13
     case' pos=>simp[go_sem,ak]
     case' neg=>simp[go_sem,aj,ak]
    all_goals
     refine qn.upK n.kids.length (fun k U=>∃ I:List (Option Kd),I.length=k/\U.tm 0=eCk c/\U.tm 1=aSc s/\U.tm 3=aB B/\U.tm 6 = .ip (cNd n)/\U.tm 8 = .ptr 0 0/\U.tm 79=lNd n.kids/\U.tm 80=aI n.kids.length/\U.tm 81=aI k/\U.mu[0]?=some (.arr [aI 0,.sc (.map none)])/\OwnF 1 U.mu 2 (U.tm 10) (I.map cKo) /\
      qQ c s B n.kids=(match qQ c s B (n.kids.drop k) with | .error e => .error e | .ok l => .ok (I++l))) ?_ ?_
     .refine ⟨[],rfl,zSi,zSi,?_,zSi,zSi,zSi,zSi,zSi,zSi,?_,?_⟩
      .rw [<-hB];simp[go_sem,aj];try simp[ak]
      .simp [go_sem];exact OwnF.nil zSp
      .simp only[List.drop_zero,jq]
       cases qQ c s B n.kids<;>rfl
     .rintro k U hk ⟨I,hl,e0,e1,e3,e6,e8,aw,al,an,m0,ho,C⟩
      by_cases a6:k=n.kids.length
      .rw [a6,yk]at C
       simp only[qQ,zV]at C;rw[C]at g;simp only at g;simp[go_sem,e0,e6,al,an,a6];have b7:ApOk n.op I:=(Xq hc.ts.ns hw (by rw[hl,a6]) (fun i k' a hi ha b8=>vj hc (szN k') k' s B a (qm _) (hw.kid (qV hi)) hs ((Jt C).2 i k' a hi ha) b8)).1;have ad:=qh0 c hc false n I b7;rw[g]at ad;have ax:∀ r,r∈I.map cKo->∀ c,c∈r->HF c:=fun r hr c b9=>by
        obtain⟨q,_,rfl⟩:=qr.1 hr;exact g9 q c b9
       have bb:jH 2 (I.map cKo):=fun r hr=>by
        obtain⟨q,_,rfl⟩:=qr.1 hr;exact(Xm q).1
       have g0:(cutM (fun i=>!decide (1<=i)) U.mu 0)[0]?=some (.arr [aI 0,.sc (.map none)]):=by rw[uP,m0];simp
       refine qc.eff0 (qe.freeze (args1:=[eCk c,eNd n,.lst false (I.map cKo)]) (fun j=>decide (1<=j)) ⟨.inl rfl,.inl rfl,.inr (XL ho bb ax),trivial⟩ (ad.toSound _ (.zk (ji c) (.zk (qz n) (.zk (HF.lst ax) .nil))))) ?_ ?_
       .rintro r m ⟨R,rfl⟩
        have R:AEnd.ret r=endK E:=R;cases E with
        |error e=>exact absurd R zSi
        |ok q =>
         simp[go_sem]at R;subst R;generalize cutM (fun i=>!decide (1<=i)) U.mu 0=M at g0;have be:0<M.length:=(qk.1 g0).1;have ae:∀ c,(M.set 0 c)[0]?=some c:=fun c=>qJ be
         cases q with
         |none=>simp[go_sem,e8,g0,ae];exact .hf _ hfKn
         |some k=>simp[go_sem,e8,g0,ae];exact .hf _ (hfK2 _ _)
       .rintro r m ⟨R,rfl⟩
        have R:AEnd.pan r=endK E:=R;cases E with
        |ok q=>exact absurd R zSi
        |error e =>
         simp[go_sem]at R;subst R;simp[go_sem];exact .hf _ (yv _ _)
      .have aa:k<n.kids.length:=by omega
       have w1:qj.wrap ((k:Int)+1)=(k:Int)+1:=qi zOm zOm;rw[zt aa]at C;simp only[qQ]at C;have hi:=ih n.kids[k] (qy aa) s hs B;simp[go_sem,e0,e1,e3,aw,al,an,aa];cases hx:exam c s B n.kids[k] with
       |error e =>
        rw[hx]at hi C;simp only at C;rw[C]at g;simp only at g;subst g;refine qc.pans hi (a2 s n.kids[k] B) ?_;simp[go_sem];exact .hf _ (yv _ _)
       |ok ko =>
        rw[hx]at hi C;simp only at C;refine qc.pure hi.toP (a2 s n.kids[k] B) ?_;have ay:=Xm ko;rw[qI]at ay;simp[go_sem];rw[if_pos ay];simp[go_sem];refine appKo (xs:=I) (k:=ko) (lo:=1) ⟨Jp ho.1 _,ho.2.1,by have:=ho.2.2;simp⟩ zOm fun t bi bg bh=>?_
        simp[go_sem,an,w1];refine⟨aa,Keep.mk' ?_⟩;refine⟨I++[ko],zP1 hl,zS1 e0,zS1 e1,zS1 e3,zS1 e6,zS1 e8,zS1 aw,zS1 al,zSi,?_,zVs bg,?_⟩
        .simp only[qP]
         rw[bh 0 zOm,qo (zW1 ho.2.2)];exact m0
        .rw [C]
         cases qQ c s B (n.kids.drop (k+1)) with
         |error e=>rfl
         |ok l=>simp
end Y13
namespace Y14
open YF P1 P2 Y1 Y2 Y9 Y10 Y12 Y13
structure Yg (ns:Nat) (env:List (ByteArray×Int)):Prop where
 len:env.length<=1000000
 r:∀ p,p∈env->0<=p.2/\p.2<ns
theorem Uc{ns:Nat}{env:List (ByteArray×Int)}(h:Yg ns env):ScOk ns (zJ env):=by
 have:∀(l:List (ByteArray×Int)) (s:Scp),(∀ p,p∈l->0<=p.2/\p.2<(ns:Int))->ScOk ns s->ScOk ns (l.foldl (fun s p=>(p.1,kOf [p.2]) :: s) s):=by
  intro l;induction l with
  |nil=>intro s _ i;exact i
  |cons a l o =>
   intro s j i;refine o _ (fun p hp=>j p (List.mem_cons_of_mem _ hp)) fun v g=>?_
   rcases qt.1 g with rfl|g
   .exact ⟨V7 zSp zSp (fun x hx=>by rw[qL]at hx;subst hx;exact j a (List.mem_cons_self ..)),rfl⟩
   .exact i v g
 exact this env [] h.r fun v g=>absurd g qE
theorem qjF(c:Ck)(j:okCk c)(n:Nd)(o:WfN n)(env:List (ByteArray×Int))(i:Yg c.ts.sorts.length env) :
  qU qb 265 [.ip (cNd n),.ip [eCk c],.ip [lPm env]] (if 30<=n.op then (match exam c (zJ env) false n with | .ok _ => .ret (.tup []) | .error e => .pan (jz e.1 e.2)) else .pan (jz 43 n.pos)):=by
 refine za.of_sound ?_;refine qe.of_awp call265 func265 rfl (qh zKr) zKr (pl:={}) ?_;have hx:=nL c j (szN n) n (qm _) o (zJ env) (Uc i) false;have g:WKs [eCk c,aSc (zJ env),eNd n,aB false] [eCk c,aSc (zJ env),eNd n,aB false] := .zk (ji c) (.zk (wL _) (.zk (qz n) (.zs .nil)));by_cases h:30<=n.op
 .rw [if_pos h]
  simp[go_sem,h];refine qc.pure (zH true 43 n).toP (wkR n true 43) ?_;simp[go_sem];refine qg.tail 4 zKr ?_;simp[go_sem];refine qc.pure (bindU _ j.ts.ns env i.len i.r) (.zk (vV env) .nil) ?_;simp[go_sem];cases l:exam c (zJ env) false n with
  |error e =>
   rw[l]at hx;refine qc.pans hx g ?_;simp[go_sem];exact .hf _ (yv _ _)
  |ok k =>
   rw[l]at hx;refine qc.pure hx.toP g ?_;simp[go_sem];exact .hf _ (HF.tup zSp)
 .rw [if_neg h]
  simp[go_sem,h];refine qc.pans (zH false 43 n) (wkR n false 43) ?_;simp[go_sem];exact .hf _ (yv _ _)
theorem qjG(c:Ck)(i:okCk c)(n:Nd)(P:WfN n)(env:List (ByteArray×Int))(R:Yg c.ts.sorts.length env):qd qb 215 [eCk c,lPm env,eNd n] (.agg [aI (yR c env n).1,aI (yR c env n).2]):=by
 refine qU.toP ?_;refine za.of_sound ?_;refine qe.of_awp call215 func215 rfl (qh zKr) zKr (pl:={}) ?_;simp[go_sem];have o:WKs [.ip (cNd n),.ip [eCk c],.ip [lPm env]] [.ip (cNd n),.ip [eCk c],.ip [lPm env]] := .zk (HF.ip (jy n)) (.zk (HF.ip (by simp;exact ji c)) (.zk (HF.ip (by simp;exact vV env)) .nil));have U:=(qjF c i n P env R).toSound ([.arr [aI 0,aI 0]]++[.dead]) o;refine qc.eff0 (pO (mu:=[.arr [aI 0,aI 0]]) U ?_) ?_ ?_
 .rintro v m ⟨g,_⟩
  have g:AEnd.pan v=_:=g;split at g
  .split at g
   .exact absurd g zSp
   .cases g;exact⟨_,_,rfl⟩
  .cases g;exact⟨_,_,rfl⟩
 .rintro r m ⟨m',x,⟨l,rfl⟩,⟨J,⟨g,rfl⟩,j⟩|⟨t,p,⟨g,rfl⟩,j⟩⟩
  .have g:AEnd.ret J=_:=g
   cases j;have hf:yR c env n=(0,0):=by
    unfold yR dgOf;split at g
    .rename_i h
     rw[if_pos h];split at g
     .rename_i I;first | (rw[I];done)|rfl
     .cases g
    .cases g
   rw[hf];simp[go_sem];exact .hf _ (HF.agg fun c i=>by simp at i;rcases i with rfl|rfl<;>exact HF.sc _)
  .have g:AEnd.pan (jz t p)=_:=g
   cases j;have hf:yR c env n=(t,p):=by
    unfold yR dgOf;split at g
    .rename_i h
     rw[if_pos h];split at g
     .cases g
     .rename_i e I;(try rw[I]);cases g;rfl
    .rename_i h
     rw[if_neg h];cases g;rfl
   rw[hf];simp[go_sem];exact .hf _ (HF.agg fun c i=>by simp at i;rcases i with rfl|rfl<;>exact HF.sc _)
 .rintro r m ⟨m',x,⟨l,rfl⟩,⟨J,⟨g,rfl⟩,j⟩|⟨t,p,⟨g,rfl⟩,j⟩⟩<;>cases j
theorem nM(ts:TS)(h:okTS ts)(hp:∀ p,p∈ts.preds->WfN p.body)(n:Nd)(i:WfN n)(env:List (ByteArray×Int))(j:Yg ts.sorts.length env):qd qb 138 [eTS ts,lPm env,eNd n] (.agg [aI (yi ts env n).1,aI (yi ts env n).2]):=by
 refine qd.of_sound (qe.of_awp call138 func138 rfl (qh zKr) zKr (pl:={}) ?_);simp[go_sem];refine qg.intro zKr ?_;simp[go_sem];refine qc.pure (qhR ts h (fun p l=>(hp p l).small) _ (qm _)) (.zk (zA ts) (.zs .nil)) ?_;simp[go_sem];refine qc.pure (qjG _ (vG h (qm _)) n i env j) (.zk (ji _) (.zk (vV env) (.zk (qz n) .nil))) ?_;simp[go_sem];exact .hf _ (HF.agg fun c g=>by simp at g;rcases g with rfl|rfl<;>exact HF.sc _)
end Y14
namespace Y15
section
variable {J:Type}
def repL(g:J->J->Bool)(l:List J):List Bool:=(qu l.length).map fun i=>match l[i]? with|some x=>(l.take i).any fun y=>g x y|none=>false
theorem wY(g:J->J->Bool)(l:List J):(repL g l).length=l.length:=by simp[repL]
theorem nN(g:J->J->Bool)(l:List J){i:Nat}(h:i<l.length):(repL g l)[i]?=some ((l.take i).any fun y=>g l[i] y):=by
 simp[repL,h]
end
end Y15
namespace Y16
open P1 Y1 Y9 Y15
abbrev cDg(d:Dg):List AV:=[aI d.1,aI d.2]
def dups(l:List Bool):List Dg:=(l.filter id).map fun _=>(41,0)
def repB{J:Type}(g:J->J->Bool)(l:List J)(i:Nat):List Bool:=((repL g l).take (i+1)).drop i
def rp(d:Dg):List Dg:=if d.1=0 then [] else [d]
def vI(ts:TS)(i:Nat):List Dg:=match ts.preds[i]? with
 |some p=>dups (repB (fun x y:Pd=>decide (x.name=y.name)) ts.preds i)++(dups (repL (fun x y:ByteArray×Int=>decide (x.1=y.1)) p.params)++rp (yR (mkCk ts i) p.params p.body))
 |none=>[]
def wZ(ts:TS)(g:List (ByteArray×Nd))(i:Nat):List Dg:=match g[i]? with
 |some f=>dups (repB (fun x y:ByteArray×Nd=>decide (x.1=y.1)) g i)++rp (yi ts [] f.2)
 |none=>[]
def yT(ts:TS):List Dg:=
 dups (repL (fun x y:ByteArray×Bool=>decide (x.1=y.1)) ts.sorts)++(dups (repL (fun x y:Fld=>decide (x.name=y.name)&&decide (x.sorts=y.sorts)) ts.fields) ++
  ((qu ts.preds.length).flatMap (vI ts)++(qu ts.facts.length).flatMap (wZ ts ts.facts)))
abbrev lDg(l:List Dg):AV := .lst false (l.map cDg)
theorem u7(l:List Bool):(dups l).length<=l.length:=by
 unfold dups;rw[yI];exact List.length_filter_le _ _
theorem nO(d:Dg):(rp d).length<=1:=by unfold rp;split<;>simp
theorem XM(f:Nat->List Dg)(hf:∀ i,(f i).length<=10):∀ k,((qu k).flatMap f).length<=10*k
 | 0=>zSp
 |k+1=>by
  rw[List.range_succ,List.flatMap_append,zc];have:=XM f hf k;have:=hf k;simp only[List.flatMap_cons,List.flatMap_nil,zV];omega
theorem nP{J:Type}(g:J->J->Bool)(l:List J)(i:Nat):(repB g l i).length<=1:=by
 unfold repB;rw[List.length_drop,vM];omega
theorem nQ{ts:TS}(h:okTS ts)(i:Nat):(vI ts i).length<=10:=by
 unfold vI;split
 .rename_i p hp
  have j:=(h.pl p (qV hp)).1;have l:=u7 (repB (fun x y:Pd=>decide (x.name=y.name)) ts.preds i);have o:=nP (fun x y:Pd=>decide (x.name=y.name)) ts.preds i;have g:=u7 (repL (fun x y:ByteArray×Int=>decide (x.1=y.1)) p.params);rw[wY]at g;have r:=nO (yR (mkCk ts i) p.params p.body);simp only[zc];omega
 .simp
theorem qjH(ts:TS)(g:List (ByteArray×Nd))(i:Nat):(wZ ts g i).length<=10:=by
 unfold wZ;split
 .rename_i f hf
  have j:=u7 (repB (fun x y:ByteArray×Nd=>decide (x.1=y.1)) g i);have l:=nP (fun x y:ByteArray×Nd=>decide (x.1=y.1)) g i;have o:=nO (yi ts [] f.2);simp only[zc];omega
 .simp
end Y16
namespace YU
open Go.RowKit
end YU
namespace YV
end YV
namespace YW
open P2 Y2 Y3
theorem okKd.le64{ns:Nat}{k:Kd}(h:okKd ns k)(C:ns<=4):k.ts.length<=64:=by
 have o:∀ t,t∈k.ts->t∈([0,1,2,3]:List Int).flatMap fun a=>([0,1,2,3]:List Int).flatMap fun b=>([0,1,2,3]:List Int).map fun c=>[a,b,c]:=fun t I=>by
  obtain⟨l,rfl,j,i⟩:=h.ts t I;have J:=h.ar.2;have g:∀ x:Int,0<=x->x<ns->x∈([0,1,2,3]:List Int):=fun x p r=>zSo
  match l,j,i with
  | [],j,i=>simp[pad]
  | [a],j,i =>
   have:=g a (i a zSp).1 (i a zSp).2;simp only[ZN,qr];exact⟨a,this,0,zSp,0,zSp,by simp[pad]⟩
  | [a,b],j,i =>
   have p:=g a (i a zSp).1 (i a zSp).2;have r:=g b (i b zSp).1 (i b zSp).2;simp only[ZN,qr];exact⟨a,p,b,r,0,zSp,by simp[pad]⟩
  | [a,b,c],j,i =>
   have p:=g a (i a zSp).1 (i a zSp).2;have r:=g b (i b zSp).1 (i b zSp).2;have P:=g c (i c zSp).1 (i c zSp).2;simp only[ZN,qr];exact⟨a,p,b,r,c,P,by simp[pad]⟩
  |_ :: _ :: _ :: _ :: _,j,i=>simp at j;omega
 have:=List.Nodup.length_le_of_subset h.nd o;simpa using this
end YW
namespace YX
open YM YF P1 Y1
structure IV where
 arg:Option Nd
 size:Int
 name:ByteArray
abbrev IEnv:=List (ByteArray×IV)
def aArg:Option Nd->AV
 |some n => .ip (cNd n)
 |none => .sc (.pointer none)
abbrev cIV(v:IV):List AV:=[aArg v.arg,aI v.size,aS v.name]
abbrev eIV(v:IV):AV := .agg (cIV v)
abbrev eEnv(env:IEnv):AV := .ims (encK aS eIV env)
structure ISt where
 last:Int
 cost:Int
abbrev cIn(ts:TS)(tb:Nat)(s:ISt):List AV:=cTS ts++[.mp tb,aI s.last,aI s.cost]
theorem qjI(a:Option Nd):HF (aArg a):=by
 cases a with
 |none=>exact HF.sc _
 |some n=>exact HF.ip (jy n)
theorem qjJ(v:IV):HF (eIV v):=HF.agg fun c g=>by
 simp only[cIV,qt,qE,or_false]at g;rcases g with rfl|rfl|rfl
 .exact qjI _
 .exact HF.sc _
 .exact HF.sc _
theorem nR(op:Int):qd qb 221 [aI op] (aB (decide (op=15\/op=45\/op=46))):=by
 refine qd.of_sound (qe.of_awp call221 func221 rfl (qh zKr) zKr (pl:={}) ?_);by_cases g:op=15
 .simp [go_sem,g];exact .zsc _
 by_cases i:op=45
 .simp [go_sem,i];exact .zsc _
 by_cases j:op=46
 .simp [go_sem,j];exact .zsc _
 simp[go_sem,g,i,j];exact .zsc _
def nd0:Nd := .mk 0 ⟨#[]⟩ 0 [] 0
abbrev eN0:AV := .agg [aI 0,aS ⟨#[]⟩,aI 0,.lst true [],aI 0]
theorem nS:WK eN0 (eNd nd0):=WK.aggs (.zs (.zs (.zs (.cons (WK.lst fun r g=>absurd g qE) (.zs .nil)))))
def payS(n:Int)(s:ISt):ISt:=⟨s.last,s.cost+n⟩
theorem payU(ts:TS)(tb:Nat)(s:ISt)(n:Int)(o : -1000000<=s.cost/\s.cost<=1000000)(p:0<=n/\n<=1000000){mu:Mu}{xb:Nat}(hx:mu[xb]?=some (.arr (cIn ts tb s))) :
  qe qb 217 [.ptr xb 0,aI n] mu fun e m=>m=mu.set xb (.arr (cIn ts tb (payS n s)))/\e=if s.cost+n<=4000 then .ret (.tup []) else .pan (jz 2 0):=by
 refine qe.of_awp call217 func217 rfl (qh zKr) zKr (pl:={}) ?_;have l:qj.wrap (s.cost+n)=s.cost+n:=qi zOm zOm;have g:xb<mu.length:=(qk.1 hx).1;have i:∀ c,(mu.set xb c)[xb]?=some c:=fun c=>qJ g
 simp[go_sem,hx,i,l];by_cases j:s.cost+n<=4000
 .simp [go_sem,j]
  refine qc.pure (zH true 2 nd0).toP (.zs (.zs (.cons nS .nil))) ?_;simp[go_sem];rfl
 .simp [go_sem,j]
  refine qc.pans (zH false 2 nd0) (.zs (.zs (.cons nS .nil))) ?_;simp[go_sem];exact⟨rfl,rfl⟩
theorem lookE{mu:Mu}(env:IEnv)(nm:ByteArray):yg qb mu 212 (eEnv env) (aS nm) true=some (match getK nm env with|some v => .tup [eIV v,aB true] | none => .tup [eIV ⟨none,0,⟨#[]⟩⟩,aB false]):=by
 have:=keyS.lookS (et:=292) (t:=212) zSi (mu:=mu) (venc:=eIV) (es:=env) (k:=nm) trivial (fun _ _=>trivial) (z:=eIV ⟨none,0,⟨#[]⟩⟩) (by simp[go_sem,aArg]) true;rw[this];cases getK nm env<;>rfl
def j0(env:IEnv)(n:Nd)(s:ISt):Except Dg ((Nd×Int)×ISt):=
 match getK n.name env with
 |none => .ok ((n,1),s)
 |some v=>match v.arg with
  |none => .ok ((.mk n.op v.name n.n n.kids n.pos,1),s)
  |some a=>if s.cost+v.size<=4000 then .ok ((a,v.size),payS v.size s) else .error (2,0)
def endI(ts:TS)(tb:Nat)(mu:Mu)(xb:Nat)(r:Except Dg ((Nd×Int)×ISt))(e:AEnd)(m:Mu):Prop:=
 match r with
 | .ok ((n,k),s)=>e = .ret (.tup [eNd n,aI k])/\m[xb]?=some (.arr (cIn ts tb s))/\(∀ i,i<mu.length->i≠xb->m[i]?=mu[i]?)/\mu.length<=m.length
 | .error d=>e = .pan (jz d.1 d.2)/\(∀ i,i<mu.length->i≠xb->m[i]?=mu[i]?)/\mu.length<=m.length
theorem qjK(ts:TS)(tb:Nat)(s:ISt)(hs : -1000000<=s.cost/\s.cost<=500000)(env:IEnv)(U:(env.map Prod.fst).Nodup)(hz:∀ e,e∈env->0<=e.2.size/\e.2.size<=500000)(n:Nd){mu:Mu}{xb:Nat}(hx:mu[xb]?=some (.arr (cIn ts tb s))) :
  qe qb 218 [.ptr xb 0,eEnv env,eNd n] mu (endI ts tb mu xb (j0 env n s)):=by
 refine qe.of_awp call218 func218 rfl (qh zKr) zKr (pl:={ mt:=[5] }) ?_;have p:=fun mu=>lookE (mu:=mu) env n.name
 have g:xb<mu.length:=(qk.1 hx).1;obtain⟨B,hB⟩:∃ B,B=eEnv env:=⟨_,rfl⟩;rw[<-hB];simp only[<-hB]at p;unfold j0;cases I:getK n.name env with
 |none =>
  simp only[I]at p;simp[go_sem];refine OptK.intro _ (p _) ?_;simp[go_sem,aArg];exact⟨rfl,by rw[qo g];exact hx,fun i j _=>qo j,zSp⟩
 |some v =>
  simp only[I]at p;have J:=hz (n.name,v) ((Ql U).1 I);obtain⟨va,t,P⟩:=v;cases va with
  |none =>
   simp[go_sem];refine OptK.intro _ (p _) ?_;have C:(cNd n).set 1 (AV.sc (Value.string P))=cNd (.mk n.op P n.n n.kids n.pos):=by
    obtain⟨op,nm,nn,ks,pos⟩:=n;simp[yQ,Nd.op,Nd.name,Nd.n,Nd.kids,Nd.pos]
   simp[go_sem,aArg,C];exact⟨rfl,by rw[qo g];exact hx,fun i j _=>qo j,zSp⟩
  |some a =>
   simp[go_sem];refine OptK.intro _ (p _) ?_;simp[go_sem,aArg];have R:0<=t/\t<=500000:=J;refine qc.eff0 (payU ts tb s t ⟨zOm,zOm⟩ ⟨zOm,zOm⟩ (by rw[qo g];exact hx)) ?_ ?_
   .rintro r m ⟨rfl,e⟩
    by_cases l:s.cost+t<=4000
    .rw [if_pos l]at e
     cases e;rw[List.set_append_left _ _ g];simp[go_sem,l];refine qg.seg [0,1,2,3,4,5,7,6] [(0,0,[]),(1,0,[]),(2,0,[]),(3,0,[]),(4,0,[]),(5,0,[]),(7,0,[]),(6,1,[5])] zKr zKr zSi ?_
     all_goals
      simp[go_sem];refine⟨rfl,?_,fun i j o=>?_,zSp⟩
      .rw [qo (zUs g),qJ g];rfl
      .rw [qo (zUs j),qv (fun e=>o e.symm)]
    .rw [if_neg l]at e;cases e
   .rintro r m ⟨rfl,e⟩
    by_cases l:s.cost+t<=4000
    .rw [if_pos l]at e;cases e
    .rw [if_neg l]at e
     cases e;simp[go_sem,l];refine⟨rfl,fun i j o=>?_,zSp⟩;rw[qv (fun e=>o e.symm),qo j]
end YX
namespace Q1
open P2 Y1 Y2 Y6
abbrev aU(x:Int):AV := .sc (.int .u8 x)
theorem nT(op:Int):qd qb 65 [aI op] (aU (kd op)):=by
 refine qd.of_sound (qe.of_awp call65 func65 rfl (qh zKr) zKr (pl:={}) ?_);simp[go_sem];unfold kd;by_cases g:1<=op<;>by_cases i:op<=15<;>by_cases j:20<=op<;>by_cases l:op<=23<;>by_cases o:30<=op<;>by_cases p:op<=51<;>first|omega | (simp[go_sem,g,i,j,l,o,p];exact .zsc _)
def kwL:List ByteArray:=[⟨#[115,111,114,116]⟩,⟨#[111,114,100,101,114,101,100]⟩,⟨#[118,97,114]⟩,⟨#[102,105,101,108,100]⟩,⟨#[112,114,101,100]⟩,⟨#[102,97,99,116]⟩,⟨#[97,108,108]⟩,⟨#[115,111,109,101]⟩,⟨#[110,111]⟩,⟨#[111,110,101]⟩,⟨#[108,111,110,101]⟩,⟨#[97,108,119,97,121,115]⟩,⟨#[101,118,101,110,116,117,97,108,108,121]⟩,⟨#[97,102,116,101,114]⟩,⟨#[117,110,116,105,108]⟩,⟨#[110,111,110,101]⟩,⟨#[117,110,105,118]⟩,⟨#[105,100,101,110]⟩,⟨#[105,110]⟩,⟨#[110,111,116]⟩,⟨#[116,114,117,101]⟩,⟨#[102,97,108,115,101]⟩]
def kwB(s:ByteArray):Bool:=kwL.any fun x=>decide (x=s)
theorem qjL(s:ByteArray):qd qb 281 [aS s] (aB (kwB s)):=by
 refine qd.of_sound (qe.of_awp call281 func281 rfl (qh zKr) zKr (pl:={}) ?_);simp[go_sem];have g:kwL.length=22:=rfl;refine qn.upK 22 (fun k U=>U.tm 0=aS s/\U.tm 3 = .lst true (kwL.map fun s=>[aS s])/\U.tm 4=aI k/\U.mu=[]/\∀ j x,j<k->kwL[j]?=some x->x≠s) ?_ ?_
 .refine ⟨zSi,?_,zSi,zSi,fun j x p=>absurd p zOm⟩
  simp[go_sem,kwL]
 .rintro k U hk ⟨C,t,I,J,hI⟩
  unfold kwB;generalize hK:kwL=K at *
  by_cases P:k=22
  .subst P
   have R:(K.any fun x=>decide (x=s))=false:=by
    rw[List.any_eq_false];intro x hx;obtain⟨j,p⟩:=List.mem_iff_getElem?.1 hx;simpa using hI j x (by have:=(qk.1 p).1;omega) p
   rw[R];simp[go_sem,t,I,J,g];exact .zsc _
  .have r:k<K.length:=by omega
   have i:k<22:=zOm;have l:(k:Int)<22:=zOm;have w1:qj.wrap ((k:Int)+1)=(k:Int)+1:=qi zOm zOm;by_cases hx:K[k]=s
   .have a0:(K.any fun x=>decide (x=s))=true:=List.any_eq_true.2 ⟨K[k],qy r,by simpa using hx⟩
    rw[a0];simp[go_sem,C,t,I,J,g,i,l,hx];exact .zsc _
   .simp [go_sem,C,t,I,J,g,i,l,jA hx,w1]
    try refine⟨i,Keep.mk' ?_⟩
    try refine Keep.mk' ?_
    refine⟨zS1 C,zS1 t,zSi,zSi,fun j x p o=>?_⟩;by_cases a1:j=k
    .subst a1
     rw[qA r]at o;cases o;exact hx
    .exact hI j x zOm o
def bys(l:List Int):ByteArray:=⟨(l.map fun x=>UInt8.ofNat x.toNat).toArray⟩
theorem qjM(l:List Int)(x:Int):bys (l++[x])=bys l++⟨#[UInt8.ofNat x.toNat]⟩:=by
 apply ByteArray.ext;simp[bys]
theorem nU(l:List Int):(bys l).size=l.length:=by simp[bys,ByteArray.size]
def shpV(op:Int)(nk:Nat):AV:=match shp op nk with
 |some l => .tup [aS (bys l),aB true]
 |none => .tup [aS ⟨#[]⟩,aB false]
theorem Ud(mu:Mu)(a:ByteArray)(b:Bool):Rd mu (.tup [aS a,aB b]) (.tup [aS a,aB b]) := .hf _ (HF.tup fun c g=>by simp at g;rcases g with rfl|rfl<;>exact HF.sc _)
theorem qjN(nk:Nat)(J:nk<=100000):qd qb 240 [aI 47,aI nk] (shpV 47 nk):=by
 refine qd.of_sound (qe.of_awp call240 func240 rfl (qh zKr) zKr (pl:={}) ?_);simp[go_sem];refine qn.upK (min nk 401) (fun k U=>U.tm 1=aI nk/\U.tm 6=aS (bys (qZ k 101))/\U.tm 7=aI k) ?_ ?_
 .exact ⟨zSi,by simp[go_sem,bys],zSi⟩
 .rintro k U hk ⟨i,j,l⟩
  by_cases o:k=min nk 401
  .have P:shpV 47 nk = .tup [aS (bys (qZ k 101)),aB true]:=by
    rw[o];rfl
   rw[P];by_cases h1:nk<=k
   .have p:¬k<nk:=by omega
    simp[go_sem,i,j,l,p];exact Ud _ _ _
   .have R:k=401:=by omega
    subst R;have h3:401<nk:=zOm;have h4:(401:Int)<nk:=zOm;simp[go_sem,i,j,l,h4];exact Ud _ _ _
  .have r:k<nk:=by omega
   have I:k<401:=zOm;have g:(k:Int)<401:=zOm;have w1:qj.wrap ((k:Int)+1)=(k:Int)+1:=qi zOm zOm;have t:(bys (qZ k 101)).size+1<=9223372036854775807:=by rw[nU,List.length_replicate];omega
   have C:bys (qZ k 101)++⟨#[101]⟩=bys (qZ (k+1) 101):=by
    rw[List.replicate_succ',qjM];rfl
   generalize bys (qZ k 101)=B at *
   simp[go_sem,i,j,l,r,g,t,w1];refine⟨zOm,Keep.mk' ?_⟩;exact⟨zS1 i,zS1 C,zSi⟩
theorem qjO(op:Int)(nk:Nat)(g:nk<=100000):qd qb 240 [aI op,aI nk] (shpV op nk):=by
 by_cases h47:op=47
 .subst h47;exact qjN nk g
 by_cases o:1<=op/\op<=51
 .have j:op=1\/op=2\/op=3\/op=4\/op=5\/op=6\/op=7\/op=8\/op=9\/op=10\/op=11\/op=12\/op=13\/op=14\/op=15\/op=16\/op=17\/op=18\/op=19\/op=20\/op=21\/op=22\/op=23\/op=24\/op=25\/op=26\/op=27\/op=28\/op=29\/op=30\/op=31\/op=32\/op=33\/op=34\/op=35\/op=36\/op=37\/op=38\/op=39\/op=40\/op=41\/op=42\/op=43\/op=44\/op=45\/op=46\/op=48\/op=49\/op=50\/op=51:=by omega
  rcases j with rfl|rfl|rfl|rfl|rfl|rfl|rfl|rfl|rfl|rfl|rfl|rfl|rfl|rfl|rfl|rfl|rfl|rfl|rfl|rfl|rfl|rfl|rfl|rfl|rfl|rfl|rfl|rfl|rfl|rfl|rfl|rfl|rfl|rfl|rfl|rfl|rfl|rfl|rfl|rfl|rfl|rfl|rfl|rfl|rfl|rfl|rfl|rfl|rfl|rfl
  all_goals
   refine qd.of_sound (qe.of_awp call240 func240 rfl (qh zKr) zKr (pl:={}) ?_);simp[go_sem,shpV,shp];exact Ud _ _ _
 .have i:∀ c:Int,1<=c->c<=51->(op=c)=False:=fun c p r=>eq_false zOm
  have l:shp op nk=none:=by
   unfold shp
   repeat rw[if_neg zOm]
  rw[shpV,l];refine qd.of_sound (qe.of_awp call240 func240 rfl (qh zKr) zKr (pl:={}) ?_);simp[go_sem,i];exact Ud _ _ _
end Q1
namespace Q2
open P2 Y1 Q1
def fitB(op:Int)(ks:List Nd):Bool:=decide (shp op ks.length=some (ks.map fun k=>kd k.op))
theorem qjP(l:List Int)(g:∀ x,x∈l->0<=x/\x<256)(i:Nat)(h:i<l.length)(j:i<(bys l).data.size):(((bys l).data[i]).toNat:Int)=l[i]:=by
 have o:=g l[i] (qy h);simp only[bys,List.getElem_toArray,List.getElem_map,UInt8.toNat_ofNat'];omega
theorem qjQ{op:Int}{nk:Nat}{l:List Int}(h:shp op nk=some l):∀ x,x∈l->0<=x/\x<256:=by
 unfold shp at h
 repeat' split at h
 all_goals first
  | (cases h;done)
  | (cases h;intro x hx;cases hx;done)
  | (cases h;intro x hx;rw[List.mem_replicate]at hx;omega)
  | (cases h;intro x hx;simp at hx;omega)
theorem fitsU(op:Int)(ks:List Nd)(hk:ks.length<=1000):qd qb 169 [aI op,lNd ks] (aB (fitB op ks)):=by
 have C:=qjO op ks.length zOm;unfold shpV at C;cases o:shp op ks.length with
 |none =>
  simp only[o]at C;have hf:fitB op ks=false:=by simp[fitB,o]
  rw[hf];refine qd.of_sound (qe.of_awp call169 func169 rfl (qh zKr) zKr (pl:={}) ?_);simp[go_sem];refine qc.pure C (.zs (.zs .nil)) ?_;simp[go_sem];exact .zsc _
 |some l =>
  simp only[o]at C;have i:=nU l;have I:=qjP l (qjQ o);generalize bys l=B at *
  refine qd.of_sound (qe.of_awp call169 func169 rfl (qh zKr) zKr (pl:={}) ?_);simp[go_sem];refine qc.pure C (.zs (.zs .nil)) ?_;by_cases t:l.length=ks.length
  .simp [go_sem,i,t]
   refine qn.upK ks.length (fun k U=>U.tm 1=lNd ks/\U.tm 5=aS B/\U.tm 7=aI k/\∀ j,j<k->(ks[j]?).map (fun k=>kd k.op)=l[j]?) ?_ ?_
   .exact ⟨zSi,zSi,zSi,fun j P=>absurd P zOm⟩
   .rintro k U hk ⟨R,e5,J,hI⟩
    by_cases a0:k=ks.length
    .subst a0
     have hf:fitB op ks=true:=by
      rw[fitB,o,decide_eq_true];congr 1;apply ui;intro j;by_cases P:j<ks.length
      .rw [zu,hI j P]
      .rw [jj zOm,jj zSo]
     rw[hf];simp[go_sem,R,J];exact .zsc _
    .have g:k<ks.length:=by omega
     have w1:qj.wrap ((k:Int)+1)=(k:Int)+1:=qi zOm zOm;simp[go_sem,R,J,g];refine qg.intro zKr ?_;simp[go_sem,R,J,g];refine qc.pure (nT ks[k].op) (.zs .nil) ?_;have p:k<l.length:=zOm;have a1:k<B.data.size:=by have:B.data.size=l.length:=i;omega
     have hg:=I k p a1;by_cases hq:kd ks[k].op=l[k]
     .have r:kd ks[k].op=((B.data[k]).toNat:Int):=by rw[hg];exact hq
      simp[go_sem,e5,J,g,i,t,r,w1];refine Keep.mk' ?_;refine⟨zS1 R,zS1 e5,zSi,fun j P=>?_⟩;by_cases a2:j=k
      .subst a2
       rw[qA g,qA p,zd,hq]
      .exact hI j zOm
     .have r:¬kd ks[k].op=((B.data[k]).toNat:Int):=by rw[hg];exact hq
      have hf:fitB op ks=false:=by
       rw[fitB,o,decide_eq_false];intro e;injection e with e;apply hq;have:l[k]?=some (kd ks[k].op):=by rw[e,zu,qA g,zd]
       rw[qA p]at this;simpa using this.symm
      rw[hf];simp[go_sem,e5,J,g,i,t,r];exact .zsc _
  .have hf:fitB op ks=false:=by
    rw[fitB,o,decide_eq_false];intro e;injection e with e;rw[e]at t;simp at t
   rw[hf];simp[go_sem,i,t];exact .zsc _
end Q2
namespace Q3
open Y1 Q1
def letC(c:Int):Bool:=(decide (97<=c)&&decide (c<=122))||(decide (65<=c)&&decide (c<=90))
def chB(i:Nat)(c:Int):Bool:=letC c||(!decide (i=0)&&(decide (c=95)||(decide (48<=c)&&decide (c<=57))))
def yY(s:ByteArray):Bool:=decide (1<=s.size)&&decide (s.size<=16)&&!kwB s&&(qu s.size).all fun i=>match s.data[i]? with|some c=>chB i c.toNat|none=>true
theorem qjR(s:ByteArray):qd qb 239 [aS s] (aB (yY s)):=by
 refine qd.of_sound (qe.of_awp call239 func239 rfl (qh zKr) zKr (pl:={}) ?_);by_cases h0:s.size=0
 .have r:yY s=false:=by simp[yY,h0]
  rw[r];simp[go_sem,h0];exact .zsc _
 by_cases ad:16<s.size
 .have r:yY s=false:=by
   have:¬s.size<=16:=zOm;simp[yY,this]
  rw[r];have l:(16:Int)<s.size:=zOm;simp[go_sem,h0,l];exact .zsc _
 have l:¬(16:Int)<s.size:=zOm;simp[go_sem,h0,l];refine qc.pure (qjL s) (.zs .nil) ?_;cases hk:kwB s with
 |true =>
  have r:yY s=false:=by simp[yY,hk]
  rw[r];simp[go_sem];exact .zsc _
 |false =>
  simp[go_sem];refine qn.upK s.size (fun k U=>U.tm 0=aS s/\U.tm 3=aI k/\∀ j c,j<k->s.data[j]?=some c->chB j c.toNat=true) ?_ ?_
  .exact ⟨zSi,zSi,fun j c hj=>absurd hj zOm⟩
  .rintro k U ae ⟨e0,e2,hI⟩
   by_cases aa:k=s.size
   .have r:yY s=true:=by
     simp only[yY,hk,Bool.not_false,Bool.and_true,qB,decide_eq_true_eq,qI,yx];refine⟨⟨zOm,zOm⟩,fun i hi=>?_⟩;cases hc:s.data[i]? with
     |none=>rfl
     |some c=>exact hI i c zOm hc
    rw[r];simp[go_sem,e0,e2,aa];exact .zsc _
   .have o:k<s.size:=by omega
    have a0:k<s.data.size:=o;have w1:qj.wrap ((k:Int)+1)=(k:Int)+1:=qi zOm zOm;have z1:qj.wrap 1=1:=rfl;have a9:s.data[k]?=some s.data[k]:=Array.getElem?_eq_getElem a0;simp[go_sem,e0,e2,o];generalize hc:((s.data[k]).toNat:Int)=c at *
    cases g:chB k c with
    |false =>
     have r:yY s=false:=by
      rw[yY,Bool.and_eq_false_iff];refine .inr (List.all_eq_false.2 ⟨k,yx.2 o,?_⟩);simp only[a9,hc,g];simp
     rw[r];by_cases C:97<=c<;>by_cases I:c<=122<;>by_cases J:65<=c<;>by_cases P:c<=90<;>by_cases R:c=95<;>by_cases a6:c<48<;>by_cases a7:57<c<;>by_cases t:k=0<;>first|omega | (exfalso;simp[chB,letC,C,I,J,P,R,a6,a7,t]at g;done) | (exfalso;simp[chB,letC,C,I,J,P,R,a6,a7,t]at g;omega)|skip
     all_goals
      simp[go_sem,e2,C,I,J,P,R,a6,a7,t];exact .zsc _
    |true =>
     have p:∀ j d,j<k+1->s.data[j]?=some d->chB j d.toNat=true:=fun j d hj hd=>by
      by_cases ab:j=k
      .subst ab
       rw[a9]at hd;cases hd;rw[hc];exact g
      .exact hI j d zOm hd
     by_cases C:97<=c<;>by_cases I:c<=122<;>by_cases J:65<=c<;>by_cases P:c<=90<;>by_cases R:c=95<;>by_cases a6:c<48<;>by_cases a7:57<c<;>by_cases t:k=0<;>first|omega | (exfalso;simp[chB,letC,C,I,J,P,R,t]at g;done) | (exfalso;simp[chB,letC,C,I,J,P,R,t]at g;omega)|skip
     all_goals
      simp[go_sem,e2,C,I,J,P,R,a6,a7,t,w1,z1]
      first
       |exact⟨o,Keep.mk' ⟨zS1 e0,zSi,p⟩⟩
       | (subst t;exact⟨o,Keep.mk' ⟨zS1 e0,zSi,fun j d hj hd=>p j d zOm hd⟩⟩)
end Q3
namespace Q4
open P2 Y1 Y2 Y9 Q2 Q3
def u9(op:Int):Bool:=decide (op=1)||decide (op=15)||decide (op=45)||decide (op=46)||decide (op=47)
def numB(op n:Int):Bool:=if op=2 then decide (1<=n)&&decide (n<=3) else if op=20 then decide (-64<=n)&&decide (n<=64) else decide (n=0)
def ownB(n:Nd):Bool:=if u9 n.op=yY n.name/\(u9 n.op=true\/n.name=⟨#[]⟩) then numB n.op n.n else false
theorem ownU(n:Nd):qd qb 168 [eNd n] (aB (ownB n)):=by
 refine qd.of_sound (qe.of_awp call168 func168 rfl (qh zKr) zKr (pl:={}) ?_);have o:=qjR n.name;generalize p:yY n.name=N at *
 by_cases r:n.op=1\/n.op=15\/n.op=45\/n.op=46\/n.op=47
 .have g:u9 n.op=true:=by rcases r with h|h|h|h|h<;>simp[u9,h]
  have t:¬n.op=2:=zOm;have i:¬n.op=20:=zOm;rcases r with h|h|h|h|h
  all_goals
   simp[go_sem,h];refine qc.pure o (.zs .nil) ?_;cases N with
   |true =>
    have j:ownB n=decide (n.n=0):=by simp[ownB,g,p,numB,t,i]
    rw[j];simp[go_sem,h];exact .zsc _
   |false =>
    have j:ownB n=false:=by simp[ownB,g,p]
    rw[j];simp[go_sem];exact .zsc _
 .simp only[not_or]at r
  obtain⟨d1,d2,d3,d4,d5⟩:=r;have g:u9 n.op=false:=by simp[u9,d1,d2,d3,d4,d5]
  simp[go_sem,d1,d2,d3,d4,d5];refine qc.pure o (.zs .nil) ?_;cases N with
  |true =>
   have j:ownB n=false:=by simp[ownB,g,p]
   rw[j];simp[go_sem];exact .zsc _
  |false =>
   by_cases l:n.name=⟨#[]⟩
   .have j:ownB n=numB n.op n.n:=by
     unfold ownB;rw[if_pos ⟨by rw[g,p],.inr l⟩]
    rw[j];unfold numB;by_cases t:n.op=2
    .by_cases C:1<=n.n<;>by_cases I:n.n<=3<;>(simp[go_sem,t,l,C,I];exact .zsc _)
    .by_cases i:n.op=20
     .by_cases C : -64<=n.n<;>by_cases I:n.n<=64<;>(simp[go_sem,i,l,C,I];exact .zsc _)
     .simp [go_sem,t,i,l]
      exact .zsc _
   .have j:ownB n=false:=by simp[ownB,g,l]
    rw[j];have J:n.name.toList.isEmpty=false:=by simpa using jA l
    simp[go_sem,J];exact .zsc _
mutual
def cntN:Nd->Int->Int
 | .mk _ _ _ ks _,left=>yp ks left 1
def yp:List Nd->Int->Int->Int
 | [],_,sum=>sum
 |k :: ks,left,sum=>if sum<=left then yp ks left (sum+cntN k (left-sum)) else sum
end
theorem XN(n:Nd)(left:Int):cntN n left=yp n.kids left 1:=by
 obtain⟨op,nm,i,ks,p⟩:=n;simp[cntN,Nd.kids]
mutual
theorem Ue:∀(n:Nd) (left:Int),1<=cntN n left/\(cntN n left<=left+1\/cntN n left=1)
 | .mk _ _ _ ks _,left=>by
  simp only[cntN];have:=XP ks left 1;omega
theorem XP:∀(ks:List Nd) (left sum:Int),sum<=yp ks left sum/\(yp ks left sum<=left+1\/yp ks left sum=sum)
 | [],left,sum=>by simp[yp]
 |k :: ks,left,sum=>by
  simp only[yp];split
  .have g:=Ue k (left-sum)
   have i:=XP ks left (sum+cntN k (left-sum));omega
  .omega
end
theorem nV:∀(m:Nat) (n:Nd),szN n<=m->∀ left:Int,-1000000<=left/\left<=1000000->qd qb 87 [eNd n,aI left] (aI (cntN n left))
 | 0,n,J,_,_=>by obtain⟨op,nm,i,ks,p⟩:=n;simp[szN]at J
 |m+1,n,J,left,hl=>by
  have ih:∀ k,k∈n.kids->∀ left:Int,-1000000<=left/\left<=1000000->qd qb 87 [eNd k,aI left] (aI (cntN k left)):=fun k P =>
   nV m k (zW1 (zS P))
  rw[XN];generalize hR:yp n.kids left 1=R;refine qd.of_sound (qe.of_awp call87 func87 rfl (qh zKr) zKr (pl:={}) ?_);simp[go_sem];refine qn.upK n.kids.length (fun k U=>∃ sum:Int,U.tm 1=aI left/\U.tm 2 = .ip (cNd n)/\U.tm 5=aI sum/\U.tm 6=aI k/\(k:Int)+1<=sum/\(sum<=left+1\/sum=1)/\yp (n.kids.drop k) left sum=R) ?_ ?_
  .exact ⟨1,zSi,zSi,zSi,zSi,zOm,zOm,zUs hR⟩
  .rintro k U P ⟨sum,t,l,C,o,a0,a1,j⟩
   by_cases I:k=n.kids.length
   .subst I
    rw[yk]at j;simp only[yp]at j;subst j;simp[go_sem,l,C,o];exact .zsc _
   .have g:k<n.kids.length:=by omega
    rw[zt g]at j;simp only[yp]at j;by_cases r:sum<=left
    .rw [if_pos r]at j
     have w1:qj.wrap ((k:Int)+1)=(k:Int)+1:=qi zOm zOm;have w2:qj.wrap (left-sum)=left-sum:=qi zOm zOm;have a2:=Ue n.kids[k] (left-sum);have w3:qj.wrap (sum+cntN n.kids[k] (left-sum))=sum+cntN n.kids[k] (left-sum):=qi zOm zOm;simp[go_sem,t,l,C,o,g,r,w2];refine qc.pure (ih n.kids[k] (qy g) (left-sum) ⟨zOm,zOm⟩) (.zk (qz _) (.zs .nil)) ?_;simp[go_sem,o,w1,w3];refine⟨g,Keep.mk' ?_⟩;exact⟨sum+cntN n.kids[k] (left-sum),zS1 t,zS1 l,zSi,zSi,zOm,zOm,j⟩
    .rw [if_neg r]at j
     subst j;simp[go_sem,t,l,C,o,g,r];exact .zsc _
mutual
def forN:Nd->Int->Bool
 | .mk op nm i ks p,g=>if g<1 then false else ownB (.mk op nm i ks p)&&(fitB op ks&&uC ks (g-1))
def uC:List Nd->Int->Bool
 | [],_=>true
 |k :: ks,g=>forN k g&&uC ks g
end
theorem Jx(n:Nd)(g:Int):forN n g=if g<1 then false else ownB n&&(fitB n.op n.kids&&uC n.kids (g-1)):=by
 obtain⟨op,nm,i,ks,p⟩:=n;simp[forN,Nd.kids,Nd.op]
theorem nW:∀(m:Nat) (n:Nd),szN n<=m->Small n->∀ g:Int,-1000000<=g/\g<=1000000->qd qb 88 [eNd n,aI g] (aB (forN n g))
 | 0,n,hm,_,_,_=>by obtain⟨op,nm,i,ks,p⟩:=n;simp[szN]at hm
 |m+1,n,hm,hs,g,hl=>by
  have ih:∀ k,k∈n.kids->∀ g:Int,-1000000<=g/\g<=1000000->qd qb 88 [eNd k,aI g] (aB (forN k g)):=fun k I =>
   nW m k (zW1 (zS I)) (hs.kid I)
  have C:=hs.len;rw[Jx];have l:=ownU n;have o:=fitsU n.op n.kids C;by_cases j:g<1
  .rw [if_pos j]
   refine qd.of_sound (qe.of_awp call88 func88 rfl (qh zKr) zKr (pl:={}) ?_);simp[go_sem,j];exact .zsc _
  rw[if_neg j];cases ho:ownB n with
  |false =>
   rw[ho]at l;refine qd.of_sound (qe.of_awp call88 func88 rfl (qh zKr) zKr (pl:={}) ?_);simp[go_sem,j];refine qc.pure l (.zk (qz _) .nil) ?_;simp[go_sem];exact .zsc _
  |true =>
   rw[ho]at l;cases hf:fitB n.op n.kids with
   |false =>
    rw[hf]at o;refine qd.of_sound (qe.of_awp call88 func88 rfl (qh zKr) zKr (pl:={}) ?_);simp[go_sem,j];refine qc.pure l (.zk (qz _) .nil) ?_;simp[go_sem];refine qc.pure o (.zs (.zk (VH _) .nil)) ?_;simp[go_sem];exact .zsc _
   |true =>
    rw[hf]at o;have wl:qj.wrap (g-1)=g-1:=qi zOm zOm;generalize hR:uC n.kids (g-1)=R;simp only[Bool.true_and];refine qd.of_sound (qe.of_awp call88 func88 rfl (qh zKr) zKr (pl:={}) ?_);simp[go_sem,j];refine qc.pure l (.zk (qz _) .nil) ?_;simp[go_sem];refine qc.pure o (.zs (.zk (VH _) .nil)) ?_;simp[go_sem];refine qn.upK n.kids.length (fun k U=>U.tm 1=aI g/\U.tm 2 = .ip (cNd n)/\U.tm 5=aI k/\uC (n.kids.drop k) (g-1)=R) ?_ ?_
    .exact ⟨zSi,zSi,zSi,zUs hR⟩
    .rintro k U I ⟨e1,J,P,r⟩
     by_cases a0:k=n.kids.length
     .subst a0
      rw[yk]at r;simp only[uC]at r;subst r;simp[go_sem,J,P];exact .zsc _
     .have t:k<n.kids.length:=by omega
      have w1:qj.wrap ((k:Int)+1)=(k:Int)+1:=qi zOm zOm;rw[zt t]at r;simp only[uC]at r;have hi:=ih n.kids[k] (qy t) (g-1) ⟨zOm,zOm⟩;simp[go_sem,e1,J,P,t,wl];refine qc.pure hi (.zk (qz _) (.zs .nil)) ?_;cases hq:forN n.kids[k] (g-1) with
      |true =>
       rw[hq,Bool.true_and]at r;simp[go_sem,P,w1];refine⟨t,Keep.mk' ?_⟩;exact⟨zS1 e1,zS1 J,zSi,r⟩
      |false =>
       rw[hq,Bool.false_and]at r;subst r;simp[go_sem];exact .zsc _
theorem nX:∀(ks:List Nd) (left sum:Int),0<=sum->yp ks left sum<=left->sum+ks.length<=yp ks left sum/\∀ k,k∈ks->∃ l',l'<=left/\cntN k l'<=l'
 | [],left,sum,_,h=>by simp[yp]
 |k :: ks,left,sum,l,h=>by
  simp only[yp]at h⊢;split at h
  .rename_i j
   rw[if_pos j];have o:=Ue k (left-sum);have i:=nX ks left (sum+cntN k (left-sum)) zOm h;have p:=i.1;refine⟨by simp only[zG];omega,fun q g=>?_⟩;rcases qt.1 g with rfl|g
   .exact ⟨left-sum,zOm,zOm⟩
   .exact i.2 q g
  .omega
theorem nY:∀(m:Nat) (n:Nd) (left:Int),szN n<=m->left<=1000->cntN n left<=left->Small n
 | 0,n,_,g,_,_=>by obtain⟨op,nm,i,ks,p⟩:=n;simp[szN]at g
 |m+1,n,left,g,C,h=>by
  rw[XN]at h;obtain⟨I,l⟩:=nX n.kids left 1 zOm h;refine .mk n zOm fun k j=>?_
  obtain⟨o,r,t⟩:=l k j;exact nY m k o (zW1 (zS j)) zOm t
def qS(n:Nd):Bool:=decide (cntN n 400<=400)&&forN n 24
theorem XQ(n:Nd):qd qb 31 [eNd n] (aB (qS n)):=by
 have i:=nV (szN n) n (qm _) 400 zOm;by_cases h:cntN n 400<=400
 .have j:=nY (szN n) n 400 (qm _) zOm h
  have hf:=nW (szN n) n (qm _) j 24 zOm;have g:qS n=forN n 24:=by simp[qS,h]
  rw[g];refine qd.of_sound (qe.of_awp call31 func31 rfl (qh zKr) zKr (pl:={}) ?_);simp[go_sem];refine qc.pure i (.zk (qz _) (.zs .nil)) ?_;simp[go_sem,h];refine qc.pure hf (.zk (qz _) (.zs .nil)) ?_;simp[go_sem];exact .zsc _
 .have g:qS n=false:=by simp[qS,h]
  rw[g];refine qd.of_sound (qe.of_awp call31 func31 rfl (qh zKr) zKr (pl:={}) ?_);simp[go_sem];refine qc.pure i (.zk (qz _) (.zs .nil)) ?_;simp[go_sem,h];exact .zsc _
theorem XS{ks:List Nd}{i:Int}(h:uC ks i=true):∀ k,k∈ks->forN k i=true:=by
 induction ks with
 |nil=>intro k g;simp at g
 |cons a l j =>
  simp only[uC,qB]at h;intro k g;rcases qt.1 g with rfl|g
  .exact h.1
  .exact j h.2 k g
theorem nZ:∀(m:Nat) (n:Nd) (j:Int),szN n<=m->forN n j=true->WfN n
 | 0,n,_,l,_=>by obtain⟨op,nm,i,ks,p⟩:=n;simp[szN]at l
 |m+1,n,j,l,h=>by
  rw[Jx]at h;split at h
  .exact absurd h zSp
  .simp only[qB]at h
   obtain⟨g,r,t⟩:=h;refine .mk n ?_ (fun C=>?_) fun k o=>nZ m k (j-1) (zW1 (zS o)) (XS t k o)
   .simpa [fitB] using r
   .unfold ownB at g
    split at g
    .rw [numB,if_pos C]at g
     simpa using g
    .exact absurd g zSp
theorem yE{n:Nd}(h:qS n=true):WfN n:=by
 simp only[qS,qB]at h;exact nZ (szN n) n 24 (qm _) h.2
end Q4
namespace Q5
theorem qjS(a b:List Int)(ha:a.length<=1000000):qd qb 207 [lI a,lI b] (aB (decide (a=b))):=by
 refine qd.of_sound (qe.of_awp call207 func207 rfl (qh zKr) zKr (pl:={}) ?_);by_cases j:a.length=b.length
 case neg =>
  rw[decide_eq_false (by rintro rfl;exact j rfl)];simp[go_sem,j];exact .zsc _
 simp[go_sem,j];refine qn.upK a.length (fun k U=>U.tm 0=lI a/\U.tm 1=lI b/\U.tm 5=aI k/\∀(i:Nat) (h:i<a.length) (o:i<b.length),i<k->a[i]=b[i]) ?_ ?_
 .exact ⟨zSi,zSi,zSi,fun i h o P=>absurd P zOm⟩
 .rintro k U hk ⟨l,C,p,R⟩
  by_cases a0:k=a.length
  .rw [decide_eq_true (List.ext_getElem j fun i h o=>R i h o zOm)]
   have I:k=b.length:=zOm;simp[go_sem,l,p,I,j];exact .zsc _
  .have a1:k<a.length:=by omega
   have r:k<b.length:=zOm;have w1:qj.wrap ((k:Int)+1)=(k:Int)+1:=qi zOm zOm;have g:(k:Int)<(b.length:Int):=zOm;by_cases t:a[k]=b[k]
   .simp [go_sem,l,p,j,g]
    try refine qg.intro zKr ?_
    simp[go_sem,l,C,p,r,j,g,t,w1]
    try refine⟨zOm,Keep.mk' ?_⟩
    try refine Keep.mk' ?_
    refine⟨zS1 l,zS1 C,zSi,fun i h o P=>?_⟩;by_cases J:i=k
    .subst J;exact t
    .exact R i h o zOm
   .rw [decide_eq_false (fun e=>t (zP1 e))]
    simp[go_sem,l,p,j,g]
    try refine qg.intro zKr ?_
    simp[go_sem,l,C,p,r,j,g,t];exact .zsc _
end Q5
end Go.Proofs.YtpagnklaanbmbaaGreatDoor
